/- Checked lists are well formed; subformulas. -/
import Derived.Test.YtkmclcmnoicagaaGreatDoorT05
import Derived.Laws.StructEq
import Derived.Laws.Tables
import Derived.Laws.BitsAllLaws
import Derived.Laws.BitsLemmas
namespace Go.Proofs.YtkmclcmnoicagaaGreatDoor
set_option maxRecDepth 100000
set_option maxHeartbeats 128000000
theorem Sd:∀(l:List Nd) (a:Int),Jj l a=0->∀(k:Nat) (n:Nd),l[k]?=some n->Qo n (a+k)=0
 |[],_,_,k,n,h=>by simp at h
 |m :: r,a,hc,k,n,h=>by
  unfold Jj at hc;by_cases h0:Qo m a=0
  ·rw [h0]at hc;cases k with
   |zero =>
    simp only [List.getElem?_cons_zero,Option.some.injEq]at h;subst h
    simpa using h0
   |succ k =>
    have:=Sd r (a+1) (by simpa using hc) k n (by simpa using h);rw [<-this]
    congr 1
    omega
  have hb:(Qo m a !=0)=true:=by simpa using h0
  rw [hb]at hc;exact absurd hc h0
theorem Eh:∀(l:List Nd) (a:Int),(∀(k:Nat) (n:Nd),l[k]?=some n->Qo n (a+k)=0)->Jj l a=0
 |[],_,_=>rfl
 |m :: r,a,h=>by
  unfold Jj;have h0:Qo m a=0:=by simpa using h 0 m (by simp)
  rw [h0];have:=Eh r (a+1) fun k n hk=>by
   have:=h (k+1) n (by simpa using hk);rw [<-this]
   congr 1
   omega
  simpa using this
theorem Eq {n:Nd} {a:Int}(h:Qo n a=0):Jk n.op=true:=by
 cases ho:Jk n.op
 ·simp [Qo,ho]at h
 rfl
theorem Lf {n:Nd} {a:Int}(h:Qo n a=0):Qs (Qh n.op) n.x a=true/\Qs (Qc n.op) n.y a=true:=by
 have ho:=Eq h;cases hx:Qs (Qh n.op) n.x a
 ·simp [Qo,ho,hx]at h
 cases hy:Qs (Qc n.op) n.y a
 ·simp [Qo,ho,hx,hy]at h
 exact⟨rfl,rfl⟩
theorem Qfj {n:Nd} {a:Int}(h:Qo n a=0):Zv n=false/\Jg n=false:=by
 have ho:=Eq h;obtain⟨hx,hy⟩:=Lf h;cases hf:Zv n
 ·cases hr:Jg n
  ·exact⟨rfl,rfl⟩
  simp [Qo,ho,hx,hy,hf,hr]at h
 simp [Qo,ho,hx,hy,hf]at h
theorem Qyt {n:Nd} {a:Int}(ho:Jk n.op=true)(hx:Qs (Qh n.op) n.x a=true)(hy:Qs (Qc n.op) n.y a=true)(hf:Zv n=false)(hr:Jg n=false):Qo n a=0:=by
 simp [Qo,ho,hx,hy,hf,hr]
theorem Zm {f:List Nd}(h:check f=0):0 < f.length/\f.length<=200/\Jj f 0=0:=by
 unfold check at h;by_cases h0:f.length=0
 ·simp [h0]at h
 by_cases h1:200 < f.length
 ·simp [h0,h1]at h
 simp [h0,h1]at h;exact⟨by omega,by omega,h⟩
theorem Qb5 {f:List Nd}(h:Jj f 0=0):Wf f:=by
 intro i n hn;have h1:=Sd f 0 h i n hn;obtain⟨hx,hy⟩:=Lf h1;refine⟨fun e=> ?_,fun e=> ?_⟩
 ·rw [e]at hx;simp [Qs]at hx;omega
 rw [e]at hy;simp [Qs]at hy;omega
theorem Ja {f:List Nd}(h:check f=0):Wf f:=Qb5 (Zm h).2.2
def Jb(f:List Nd)(z:Int):List Nd:=bif check f !=0||(decide (z < 0)||decide ((f.length:Int)<=z))then []else(Zt f z.toNat []).1
def Qg(f:List Nd):List Nd:=Jb f (f.length - 1:Int)
def Zza(a b:List Nd):Bool:=check a==0&&(check b==0&&decide (Qg a=Qg b))
def Kq(l:List Nd):Nat:=l.foldl (fun m n=>m|||(Yd n.op).toNat) 0
def Jh(f:List Nd):Nat:=Kq (Qg f)
theorem Qq3 {f:List Nd}(h:check f=0):Qg f=(Zt f (f.length - 1) []).1:=by
 have hl:=(Zm h).1;unfold Qg Jb;have h1:decide ((f.length:Int) - 1 < 0)=false:=by simp;omega
 have h2:decide ((f.length:Int)<=(f.length:Int) - 1)=false:=by simp;omega
 rw [h,h1,h2];have:((f.length:Int) - 1).toNat=f.length - 1:=by omega
 rw [this];rfl
theorem Qgx {f:List Nd}(h:check f≠0):Qg f= []:=by
 unfold Qg Jb;have:(check f !=0)=true:=by simpa using h
 rw [this];rfl
open Go.RowKit
def Fml(w:World)(v:Value)(l:List Nd):Prop:=Nds w v l/\∀n∈l,n.ok
def Jl(w w':World)(v:Value)(l:List Nd):Prop:=w'.ownsRow w.heap.size 71 6 v l.length (l.flatMap Nd.cells)/\(∀n∈l,n.ok)/\Ext w w'
theorem Fml.ext {w w':World} {v:Value} {l:List Nd}(h:Fml w v l)(he:Ext w w'):Fml w' v l:=⟨h.1.ext he,h.2⟩
theorem Qgp:∀(l:List Nd) (k:Nat) (n:Nd) (j:Nat),l[k]?=some n->j < 6->(l.flatMap Nd.cells)[k*6+j]?=n.cells[j]?
 |[],k,n,j,h,_=>by simp at h
 |m :: r,0,n,j,h,hj=>by
  simp only [List.getElem?_cons_zero,Option.some.injEq]at h;subst h;rw [List.flatMap_cons,List.getElem?_append_left (by simp [Nd.cells];omega)];simp
 |m :: r,k+1,n,j,h,hj=>by
  rw [List.flatMap_cons,List.getElem?_append_right (by simp [Nd.cells];omega)];have e:(k+1)*6+j - m.cells.length=k*6+j:=by simp [Nd.cells];omega
  rw [e];exact Qgp r k n j (by simpa using h) hj
theorem Sv {w:World} {base:Nat} {v:Value} {l:List Nd}(h:w.ownsRow base 71 6 v l.length (l.flatMap Nd.cells)):Nds w v l:=by
 have hc0:=h;obtain⟨_,h2⟩:=h;rcases h2 with⟨rfl,h0⟩|⟨g,cap,cur,rfl,hb,hg,hn,hcap,hsz,htk⟩
 ·have:l= []:=List.length_eq_zero_iff.1 h0;subst this;exact⟨none,0,rfl,Nat.le_refl _,by unfold maxLen;omega,fun h=>absurd rfl h⟩
 refine⟨some ⟨g,0,none⟩,cap,rfl,hn,hcap,fun hne=>⟨_,rfl,Qm hg,fun k n hk=> ?_⟩⟩;have hkl:k < l.length:=(List.getElem?_eq_some_iff.1 hk).1;have cell:∀j,j < 6->∀u,n.cells[j]?=some u->w.cell? ⟨g,k*6+j,none⟩=some u:=by
  intro j hj u hu;have h1:=Qgp l k n j hk hj;rw [<-htk,hu]at h1;have h2:cur[k*6+j]?=some u:=by
   rw [List.getElem?_take]at h1
   split at h1
   ·simpa using h1
   cases h1
  simp [World.cell?,hg,h2]
 have e0:((⟨g,0,none⟩:Addr).add (k*6))=⟨g,k*6,none⟩:=by
  unfold Addr.add
  split
  ·rename_i h;rw [h]
  simp
 rw [e0];exact⟨cell 0 (by omega) _ rfl,cell 1 (by omega) _ rfl,cell 2 (by omega) _ rfl,cell 3 (by omega) _ rfl,cell 4 (by omega) _ rfl,cell 5 (by omega) _ rfl⟩
theorem Jl.fml {w w':World} {v:Value} {l:List Nd}(h:Jl w w' v l):Fml w' v l:=⟨Sv h.1,h.2.1⟩
theorem Jl.ext {w w':World} {v:Value} {l:List Nd}(h:Jl w w' v l):Ext w w':=h.2.2
theorem Jl.none_(w:World):Jl w w (.slice none 0 0) []:=⟨World.ownsRow_nil _ _ _ _,by simp,Qz⟩
theorem Xk {w:World} {b b':Nat} {e:TypeId} {size n:Nat} {v:Value} {xs:List Value}(h:w.ownsRow b e size v n xs)(hb:b'<=b):w.ownsRow b' e size v n xs:=by
 obtain⟨h1,h2⟩:=h;refine⟨h1,?_⟩;rcases h2 with h2|⟨g,cap,cur,e,h3,h4⟩
 ·exact .inl h2
 exact .inr ⟨g,cap,cur,e,Qx hb h3,h4⟩
theorem Jl.before {w0 w w':World} {v:Value} {l:List Nd}(h:Jl w w' v l)(he:Ext w0 w):Jl w0 w' v l:=⟨Xk h.1 he.size,h.2.1,he.trans h.2.2⟩
theorem Jl.after {w w' w2:World} {v:Value} {l:List Nd}(h:Jl w w' v l)(he:Ext w' w2):Jl w w2 v l :=
 ⟨Zi h.1 fun g hg=>he.block (h.1.lt g hg).2,h.2.1,h.2.2.trans he⟩
theorem Ch(v:Value)(l:List Nd)(z:Int)(w:World)(h:Fml w v l):
 Calls Tryz.prog 147 #[v,.int .i64 z] w fun e w'=>∃u,e=.returned u/\Jl w w' u (Jb l z):=by
 have H:=Qq h;obtain⟨⟨A,c,rfl,hat⟩,hok⟩:=h;have HAT:=Qq hat;clear hat hok;by_cases hbad:check l≠0\/z < 0\/(l.length:Int)<=z
 ·have HR:=Qq (show Jb l z= [] by
   unfold Jb;rcases hbad with h|h|h
   ·have:(check l !=0)=true:=by simpa using h
    rw [this];rfl
   ·simp [h]
   simp [h])
  by_cases hc:check l=0
  ·have hbad':z < 0\/(l.length:Int)<=z:=by
    rcases hbad with h|h
    ·exact absurd hc h
    exact h
   have HC:=Qq hc;clear hc hbad;by_cases hz:z < 0
   ·clear hbad';go_enter Tryz.func147,Tryz.ntmps147;go_wp2_with(go_at_call 41;refine(Vn _ l _ H.out.1).mono ?_;rintro e w1 ⟨rfl,hb⟩;rw [HC.out]);go_ret;exact⟨_,rfl,by rw [HR.out];exact(Jl.none_ _).after hb⟩
   have hl:(l.length:Int)<=z:=by omega
   clear hbad';go_enter Tryz.func147,Tryz.ntmps147;go_wp2_with(go_at_call 41;refine(Vn _ l _ H.out.1).mono ?_;rintro e w1 ⟨rfl,hb⟩;rw [HC.out]);go_ret;exact⟨_,rfl,by rw [HR.out];exact(Jl.none_ _).after hb⟩
  have hb1:(check l !=0)=true:=by simpa using hc
  clear hbad hc;go_enter Tryz.func147,Tryz.ntmps147;go_wp2_with(go_at_call 41;refine(Vn _ l _ H.out.1).mono ?_;rintro e w1 ⟨rfl,hb⟩);go_ret;exact⟨_,rfl,by rw [HR.out];exact(Jl.none_ _).after hb⟩
 have hc:check l=0:=by
  by_cases e:check l=0
  ·exact e
  exact absurd (.inl e) hbad
 have hz0:0<=z:=by
  by_cases e:z < 0
  ·exact absurd (.inr (.inl e)) hbad
  omega
 have hz1:z < l.length:=by
  by_cases e:(l.length:Int)<=z
  ·exact absurd (.inr (.inr e)) hbad
  omega
 clear hbad;obtain⟨r,rfl⟩:=Int.eq_ofNat_of_zero_le hz0;have hr:r < l.length:=by omega
 have HR:=Qq (show Jb l r=(Zt l r []).1 by
  unfold Jb;rw [hc];have h1:decide ((r:Int) < 0)=false:=by simp
  have h2:decide ((l.length:Int)<=(r:Int))=false:=by simp;omega
  rw [h1,h2]
  rfl)
 have HC:=Qq hc;have HL:=(Zm hc).2.1;clear hc;go_enter Tryz.func147,Tryz.ntmps147;go_wp2_with(go_at_call 41;refine(Vn _ l _ H.out.1).mono ?_;rintro e w1 ⟨rfl,hb⟩;rw [HC.out]);have HB:=Qq hb;clear hb;refine(Pi l A c r _ (Ja HC.out) H.out.2 (by omega) hr (HAT.out.ext HB.out)).mono ?_;rintro e w2 ⟨u,rfl,hrow,hoks,hext⟩;have HM:=Qq (show Jl w w2 u (Jb l r) by rw [HR.out];exact Jl.before ⟨hrow,hoks,hext⟩ HB.out);clear hrow hoks hext;go_wp2_with fail;go_ret;exact⟨_,rfl,HM.out⟩
theorem Uv(v:Value)(l:List Nd)(w:World)(h:Fml w v l):
 Calls Tryz.prog 118 #[v] w fun e w'=>∃u,e=.returned u/\Jl w w' u (Qg l):=by
 have H:=Qq h;obtain⟨⟨A,c,rfl,hat⟩,hok⟩:=h;have hl:=hat.1;have hm:=hat.2.1;unfold maxLen at hm;clear hat hok;go_enter Tryz.func118,Tryz.ntmps118;go_wp2_with fail;refine(Ch _ l _ _ H.out).mono ?_;rintro e w2 ⟨u,rfl,hm⟩;have HM:=Qq hm;clear hm;go_wp2_with fail;go_ret;exact⟨_,rfl,HM.out⟩
theorem Qth(a b:Nd)(w:World):
 (Op.equalIn 10000 71 (.agg #[.int .i64 a.op,.int .i64 a.i,.int .i64 a.e,.int .i64 a.g,.int .i64 a.x,.int .i64 a.y]) (.agg #[.int .i64 b.op,.int .i64 b.i,.int .i64 b.e,.int .i64 b.g,.int .i64 b.x,.int .i64 b.y])).run Tryz.prog w=.ok (decide (a=b)) w:=by
 have u3:=Tryz.underlying3;have a3:=Tryz.isAgg3;have z3:=Tryz.sizeOf3;have hS:Tryz.prog.underlying 71=some (.struct (Tryz.prog.fieldsOf 71)):=by kernel_rfl
 have hp:Tryz.prog.stoodInHeld 71=false:=by kernel_rfl
 rw [show(10000:Nat)=9999+1 from rfl,run_equalIn_agg w 9999 71 _ _ hS hp];simp only [Program.fieldsOf,Tryz.underlying71];go_simp;cases a with
 |mk a0 a1 a2 a3 a4 a5 =>
  cases b with
  |mk b0 b1 b2 b3 b4 b5 =>
   simp only [Nd.mk.injEq];by_cases h0:a0=b0 <;> by_cases h1:a1=b1 <;> by_cases h2:a2=b2 <;> by_cases h3:a3=b3 <;> by_cases h4:a4=b4 <;> by_cases h5:a5=b5 <;> simp [h0,h1,h2,h3,h4,h5]
theorem Yh {α:Type} {l:List α} {k:Nat} {a:α}(h:l[k]?=some a):l.take (k+1)=l.take k++ [a]:=by
 rw [List.take_add_one,h];rfl
theorem Qg6 {α:Type} {a b:List α} {k:Nat} {x y:α}(ha:a[k]?=some x)(hb:b[k]?=some y)(hne:x≠y):a≠b:=by
 intro e;rw [e,hb]at ha;exact hne (Option.some.inj ha).symm
theorem Qrz(v1 v2:Value)(l1 l2:List Nd)(w:World)(h1:Nds w v1 l1)(h2:Nds w v2 l2):
 Calls Tryz.prog 180 #[v1,v2] w fun e w'=>e=.returned (.bool (decide (l1=l2)))/\Ext w w':=by
 obtain⟨A1,c1,rfl,hcap1,hmax1,hr1⟩:=h1;obtain⟨A2,c2,rfl,hcap2,hmax2,hr2⟩:=h2;unfold maxLen at hmax1 hmax2;by_cases hl:l1.length=l2.length
 ·have HR1:=Qq hr1;have HR2:=Qq hr2;have HL:=Qq hl;have eb:((l1.length:Int) !=(l2.length:Int))=false:=by simp [hl]
  clear hr1 hr2 hl;go_enter Tryz.func180,Tryz.ntmps180;go_wp2_with fail;go_loopw [13] (fun i wr=>∃k:Nat,k<=l1.length/\i=.int .i64 k/\Hid (l1.take k=l2.take k)/\Ext w wr) (fun i _=>l1.length - (intOf i).toNat)
  case atStart=>exact⟨0,Nat.zero_le _,rfl,Qq rfl,Qz⟩
  case round =>
   obtain⟨k,hk,rfl,htk,hext⟩:=hrel;by_cases hlt2:k < l1.length
   ·have hlt3:k < l2.length:=by have:=HL.out;omega
    obtain⟨a,ha⟩:∃a,l1[k]?=some a:=⟨_,Qv hlt2⟩;obtain⟨b,hb⟩:∃b,l2[k]?=some b:=⟨_,Qv hlt3⟩;obtain⟨ad1,rfl,hb1,hc1⟩:=HR1.out (by intro e;rw [e]at hlt2;simp at hlt2);obtain⟨ad2,rfl,hb2,hc2⟩:=HR2.out (by intro e;rw [e]at hlt3;simp at hlt3);obtain⟨a0,a1,a2,a3,a4,a5⟩:=(hc1 k a ha).keep fun p hp=>hext.cell (p:=p) (by rw [hp,Qp];exact hb1)
    obtain⟨b0,b1,b2,b3,b4,b5⟩:=(hc2 k b hb).keep fun p hp=>hext.cell (p:=p) (by rw [hp,Qp];exact hb2)
    have hi0:(0:Int)<=(k:Int):=by omega
    have hi1:(k:Int) < (l1.length:Int):=by omega
    have hi2:(k:Int) < (l2.length:Int):=by omega
    have heq:=fun W=>Qth a b W
    have HA:=Qq ha;have HB:=Qq hb;clear ha hb hc1 hc2;by_cases hab:a=b
    ·have hd:decide (a=b)=true:=by simpa using hab
     have HT:Hid (l1.take (k+1)=l2.take (k+1)):=Qq (by rw [Yh HA.out,Yh HB.out,htk.out,hab]);clear hab;go_wp2_with fail;go_quiet (fail);go_wp2_with fail;go_roundw
     case rel=>exact⟨k+1,by omega,by go_num,HT,hext.drewN _⟩
     case measure=>simp [intOf];omega
    have hd:decide (a=b)=false:=by simpa using hab
    have HR:Hid (decide (l1=l2)=false):=Qq (decide_eq_false (Qg6 HA.out HB.out hab));clear hab;go_wp2_with fail;go_quiet (fail);go_wp2_with fail;go_ret;exact⟨by rw [HR.out];rfl,hext.drewN _⟩
   obtain rfl:l1.length=k:=by omega
   have HR:Hid (decide (l1=l2)=true):=Qq (decide_eq_true (by
    have h:=htk.out;rw [List.take_of_length_le (Nat.le_refl _),HL.out,List.take_of_length_le (Nat.le_refl _)]at h;exact h))
   go_wp2_with fail;go_ret;exact⟨by rw [HR.out];rfl,hext⟩
 have eb:((l1.length:Int) !=(l2.length:Int))=true:=by simp;omega
 have HR:Hid (decide (l1=l2)=false):=Qq (decide_eq_false fun e=>hl (by rw [e]));clear hl hr1 hr2;go_enter Tryz.func180,Tryz.ntmps180;go_wp2_with fail;go_ret;exact⟨by rw [HR.out];rfl,Qz⟩
theorem Pd(a:Nat)(ha:a < 9223372036854775808):(BitVec.ofInt 64 (a:Int)).toNat=a:=by
 rw [BitVec.ofInt_natCast,BitVec.toNat_ofNat];exact Nat.mod_eq_of_lt (by omega)
theorem Do(a b:Nat)(ha:a < 9223372036854775808)(hb:b < 9223372036854775808):bits .or .i64 (a:Int) (b:Int)=((a|||b:Nat):Int):=by
 have hx:a|||b < 2^63:=Nat.or_lt_two_pow (by omega) (by omega);show IntKind.i64.wrap ((BitVec.ofInt 64 (a:Int)|||BitVec.ofInt 64 (b:Int)).toNat:Int)=_;rw [BitVec.toNat_or,Pd a ha,Pd b hb,IntKind.wrap_i64];omega
theorem Qv7(op:Int):0<=Yd op/\Yd op<=256:=by
 unfold Yd
 repeat' split
 all_goals omega
theorem Qxy(l:List Nd)(n:Nd):Kq (l++ [n])=Kq l|||(Yd n.op).toNat:=by simp [Kq,List.foldl_append]
theorem Cq(l:List Nd):Kq l < 512:=by
 have:∀(l:List Nd) (m:Nat),m < 512->l.foldl (fun m n=>m|||(Yd n.op).toNat) m < 512:=by
  intro l
  induction l with
  |nil=>intro m h;exact h
  |cons a r ih =>
   intro m h;refine ih _ (Nat.or_lt_two_pow (n:=9) h ?_);have:=Qv7 a.op;omega
 exact this l 0 (by omega)
theorem Qxv(n:Nd)(u0 u1 u2 u3 u4 u5:Bool)(g:Int)(w:World):
 Calls Tryz.prog 117 #[.agg #[.int .i64 n.op,.int .i64 n.i,.int .i64 n.e,.int .i64 n.g,.int .i64 n.x,.int .i64 n.y],.agg #[.bool u0,.bool u1,.bool u2,.bool u3,.bool u4,.bool u5,.int .i64 g]] w
  fun e w'=>e=.returned (.int .i64 g)/\Ext w w':=by
 go_enter Tryz.func117,Tryz.ntmps117;go_wp2_with fail;go_ret;exact⟨rfl,(Qz.alloc _).alloc _⟩
theorem Qm5(v:Value)(l:List Nd)(w:World)(h:Fml w v l):
 Calls Tryz.prog 116 #[v,.func (Fn.func 117) #[] #[]] w fun e w'=>e=.returned (.int .i64 (Jh l:Nat))/\Ext w w':=by
 have H:=Qq h;clear h;go_enter Tryz.func116,Tryz.ntmps116;go_wp2_with fail;refine(Uv _ l _ H.out).mono ?_;rintro e w1 ⟨u,rfl,hm⟩;have HX:=Qq hm.2.2;obtain⟨A,c,rfl,hcap,hmax,hread⟩:=hm.fml.1;unfold maxLen at hmax;have HR:=Qq hread;obtain⟨cl,hcl⟩:∃cl,cl=Qg l:=⟨_,rfl⟩;have HCL:=Qq (show Jh l=Kq cl by rw [hcl];rfl);rw [<-hcl]at HR hcap;rw [<-hcl];clear hm hread hcl;go_wp2_with fail;go_loopw [5,13] (fun out i wr=>∃k:Nat,k<=cl.length/\i=.int .i64 k/\out=.int .i64 (Kq (cl.take k):Nat)/\Ext w1 wr) (fun _ i _=>cl.length - (intOf i).toNat)
 case atStart=>exact⟨0,Nat.zero_le _,rfl,rfl,Qz⟩
 case round =>
  obtain⟨k,hk,rfl,rfl,hext⟩:=hrel;by_cases hlt2:k < cl.length
  ·obtain⟨a,ha⟩:∃a,cl[k]?=some a:=⟨_,Qv hlt2⟩;obtain⟨ad,rfl,hb1,hc1⟩:=HR.out (by intro e;rw [e]at hlt2;simp at hlt2);obtain⟨a0,a1,a2,a3,a4,a5⟩:=(hc1 k a ha).keep fun p hp=>hext.cell (p:=p) (by rw [hp,Qp];exact hb1)
   have hfr:=Qv7 a.op;obtain⟨fa,hfa⟩:=Int.eq_ofNat_of_zero_le hfr.1;have hor:=Do (Kq (cl.take k)) fa (by have:=Cq (cl.take k);omega) (by omega);have HS:Hid (Kq (cl.take (k+1))=(Kq (cl.take k)|||fa)):=Qq (by rw [Yh ha,Qxy,hfa];rfl);have HFA:=Qq hfa;generalize Kq (cl.take k)=m at hor HS;clear ha hc1 hfr hfa;go_wp2_with(first|(go_at_call 161;refine(Yn _ _ _ _ _ _ _ _ rfl rfl rfl rfl rfl rfl rfl _).mono ?_;rintro e w2 ⟨rfl,hb⟩;rw [HFA.out];have HB:=Qq hb;obtain⟨hc,_,hz0⟩:=hb.facts;clear hb;have hz:wr.heap.size < w2.heap.size:=by { simp at hz0;omega };clear hz0)|(go_at_call 117;refine(Qxv a _ _ _ _ _ _ _ _).mono ?_;rintro e w3 ⟨rfl,hb3⟩))
   go_roundw
   case rel=>exact⟨k+1,by omega,by go_num,by rw [HS.out],(((hext.alloc _).trans HB.out).alloc _).trans hb3⟩
   case measure=>simp [intOf];omega
  obtain rfl:cl.length=k:=by omega
  go_wp2_with fail;go_ret;exact⟨Kx (by rw [HCL.out,List.take_of_length_le (Nat.le_refl _)]),HX.out.trans hext⟩
theorem Ry(v:Value)(l:List Nd)(w:World)(h:Fml w v l):
 Calls Tryz.prog 55 #[v] w fun e w'=>e=.returned (.int .i64 (Jh l:Nat))/\Ext w w':=by
 have H:=Qq h;clear h;go_enter Tryz.func55,Tryz.ntmps55;go_wp2_with(go_at_call 116;refine(Qm5 _ l _ H.out).mono ?_;rintro e w3 ⟨rfl,hb3⟩);go_ret;exact⟨rfl,hb3⟩
theorem Qdn {f:List Nd}(hf:Wf f):∀(i:Nat) (o:List Nd),i < f.length->∀m∈(Zt f i o).1,m∈o\/∃n∈f,∃k1 k2,m=n.with_ k1 k2:=by
 intro i
 induction i using Nat.strongRecOn with
 |_ i ih =>
  intro o hi m hm;obtain⟨n,hn⟩:∃n,f[i]?=some n:=⟨_,Qv hi⟩;obtain⟨hx,hy⟩:=hf i n hn;have p1:∀o,∀m∈(opX f n o).1,m∈o\/∃n∈f,∃k1 k2,m=n.with_ k1 k2:=by
   intro o m hm;unfold opX at hm
   split at hm
   ·rename_i h1;have:=hx h1;exact ih _ (by omega) _ (by omega) m hm
   exact .inl hm
  have p2:∀o,∀m∈(opY f n o).1,m∈o\/∃n∈f,∃k1 k2,m=n.with_ k1 k2:=by
   intro o m hm;unfold opY at hm
   split at hm
   ·rename_i h1;have:=hy h1;exact ih _ (by omega) _ (by omega) m hm
   exact .inl hm
  rw [Ub hf hn]at hm;have hm':m∈(opY f n (opX f n o).1).1\/m=n.with_ (opX f n o).2 (opY f n (opX f n o).1).2:=by
   simp only [Zh]at hm
   split at hm
   ·exact .inl hm
   simpa using hm
  rcases hm' with hm'|rfl
  ·rcases p2 _ m hm' with h|h
   ·exact p1 _ m h
   exact .inr h
  exact .inr ⟨n,List.mem_of_getElem? hn,_,_,rfl⟩
theorem Rs {o:List Nd} {m:Nd}(ho:Wf o)(hx:Qh m.op=true->0<=m.x/\m.x < o.length)(hy:Qc m.op=true->0<=m.y/\m.y < o.length):Wf (o++ [m]):=by
 intro i n hn;by_cases h:i < o.length
 ·rw [List.getElem?_append_left h]at hn;exact ho i n hn
 rw [List.getElem?_append_right (by omega)]at hn;have hi:i=o.length:=by
  by_cases e:i - o.length=0
  ·omega
  rw [List.getElem?_eq_none (by simp;omega)]at hn;cases hn
 subst hi;simp at hn;subst hn;exact⟨hx,hy⟩
theorem Qm8 {a b:List Nd}(ha:Wf a)(hb:∀(i:Nat) (n:Nd),b[i]?=some n->(Qh n.op=true->0<=n.x/\n.x < (a.length+i:Nat))/\(Qc n.op=true->0<=n.y/\n.y < (a.length+i:Nat))):Wf (a++b):=by
 intro i n hn;by_cases h:i < a.length
 ·rw [List.getElem?_append_left h]at hn;exact ha i n hn
 rw [List.getElem?_append_right (by omega)]at hn;have:=hb _ n hn;have e:a.length+(i - a.length)=i:=by omega
 rw [e]at this;exact this
theorem Bb:Wf []:=fun i n h=>by simp at h
theorem Vz {op:Int}(h:Qc op=true):Qh op=true:=by
 unfold Qh;simp [Qc]at h;simp;omega
theorem Qt3 {f:List Nd}(hf:Wf f):∀(i:Nat) (o:List Nd),i < f.length->Wf o->Wf (Zt f i o).1:=by
 intro i
 induction i using Nat.strongRecOn with
 |_ i ih =>
  intro o hi ho;obtain⟨n,hn⟩:∃n,f[i]?=some n:=⟨_,Qv hi⟩;obtain⟨hx,hy⟩:=hf i n hn;have w1:Wf (opX f n o).1:=by
   unfold opX
   split
   ·rename_i h1;have:=hx h1;exact ih _ (by omega) _ (by omega) ho
   exact ho
  have w2:Wf (opY f n (opX f n o).1).1:=by
   unfold opY
   split
   ·rename_i h1;have:=hy h1;exact ih _ (by omega) _ (by omega) w1
   exact w1
  rw [Ub hf hn];simp only [Zh]
  split
  ·exact w2
  refine Rs w2 (fun h=> ?_) (fun h=> ?_)
  ·have h':Qh n.op=true:=h;have hp:=Ej hf hn (opX f n o).1;have hl:(opX f n o).2 < (opX f n o).1.length:=by
    have:=hx h';unfold opX;rw [if_pos h'];exact Lw hf _ _ (by omega)
   have:=hp.length_le;simp only [Nd.with_,h',cond_true];omega
  have h':Qc n.op=true:=h;have hl:(opY f n (opX f n o).1).2 < (opY f n (opX f n o).1).1.length:=by
   have:=hy h';unfold opY;rw [if_pos h'];exact Lw hf _ _ (by omega)
  simp only [Nd.with_,h',cond_true];omega
def Zn(n:Nd):Prop:=Jk n.op=true/\Zv n=false/\Jg n=false/\(Qh n.op=false->n.x=0)/\(Qc n.op=false->n.y=0)
theorem Qlf {n:Nd} {a:Int}(h:Qo n a=0):Zn n:=by
 obtain⟨hx,hy⟩:=Lf h;obtain⟨hf,hr⟩:=Qfj h;refine⟨Eq h,hf,hr,fun e=> ?_,fun e=> ?_⟩
 ·rw [e]at hx;simpa [Qs]using hx
 rw [e]at hy;simpa [Qs]using hy
theorem Zn.err {n:Nd} {a:Nat}(h:Zn n)(hx:Qh n.op=true->0<=n.x/\n.x < a)(hy:Qc n.op=true->0<=n.y/\n.y < a):Qo n a=0:=by
 obtain⟨ho,hf,hr,h1,h2⟩:=h;refine Qyt ho ?_ ?_ hf hr
 ·cases e:Qh n.op
  ·simp [Qs,h1 e]
  have:=hx e;simp [Qs];omega
 cases e:Qc n.op
 ·simp [Qs,h2 e]
 have:=hy e;simp [Qs];omega
theorem Zn.with_ {n:Nd}(h:Zn n)(k1 k2:Nat):Zn (n.with_ k1 k2):=by
 obtain⟨ho,hf,hr,h1,h2⟩:=h;refine⟨ho,hf,hr,fun e=> ?_,fun e=> ?_⟩
 ·have e':Qh n.op=false:=e;simp only [Nd.with_,e',cond_false];exact h1 e'
 have e':Qc n.op=false:=e;simp only [Nd.with_,e',cond_false];exact h2 e'
theorem Qcw {f:List Nd}(hw:Wf f)(hh:∀n∈f,Zn n):Jj f 0=0:=by
 refine Eh f 0 fun k n hk=> ?_
 obtain⟨hx,hy⟩:=hw k n hk;have:=(hh n (List.mem_of_getElem? hk)).err hx hy
 simpa using this
theorem Qzm {f:List Nd}(h0:f≠ [])(hl:f.length<=200)(hw:Wf f)(hh:∀n∈f,Zn n):check f=0:=by
 unfold check;have h1:f.length≠0:=by simpa using h0
 have h2:¬200 < f.length:=by omega
 simp [h1,h2,Qcw hw hh]
theorem Dx {f:List Nd}(h:check f=0):∀n∈f,Zn n:=by
 intro n hn;obtain⟨i,hi⟩:=List.getElem?_of_mem hn;exact Qlf (Sd f 0 (Zm h).2.2 i n hi)
theorem Jf {f:List Nd}(h:check f=0):Wf (Qg f)/\(Qg f).length<=f.length/\0 < (Qg f).length/\(∀n∈Qg f,Zn n):=by
 have hw:=Ja h;have hl:=(Zm h).1;rw [Qq3 h];refine⟨Qt3 hw _ _ (by omega) Bb,?_,?_,?_⟩
 ·have h1:=Oc hw (f.length - 1) [] (by omega);have h2:=Mz f;have h3:=Xh f (Zt f (f.length - 1) []).1;omega
 ·have:=Lw hw (f.length - 1) [] (by omega);omega
 intro m hm;rcases Qdn hw _ _ (by omega) m hm with h'|⟨n,hn,k1,k2,rfl⟩
 ·cases h'
 exact(Dx h n hn).with_ k1 k2
theorem Ky {f:List Nd}(h:check f=0):check (Qg f)=0:=by
 obtain⟨a,b,c,d⟩:=Jf h;have:=(Zm h).2.1;exact Qzm (by intro e;rw [e]at c;simp at c) (by omega) a d
def Zr(d:Nat)(n:Nd):Nd:= { n with x:=bif Qh n.op then n.x+d else n.x,y:=bif Qc n.op then n.y+d else n.y }
def Lt(k:Nat)(x:Nd)(len:Nat):Nd:=bif k==0 then { x with x:=(len:Int) - 1 } else { x with y:=(len:Int) - 1 }
def Fx:List (List Nd)->Nat->List Nd->Nd->List Nd×Nd
 |[],_,f,x=>(f,x)
 |o :: r,k,f,x=>Fx r (k+1) (f++(Qg o).map (Zr f.length)) (Lt k x (f++(Qg o).map (Zr f.length)).length)
def Nb(f:List Nd)(y:Nd):List Nd :=
 bif Qo y f.length !=0 then []else bif decide (200 < (Zt (f++ [y]) f.length []).1.length)then []else(Zt (f++ [y]) f.length []).1
def Jc(x:Nd)(ops:List (List Nd)):List Nd:=bif ops.any (fun o=>check o !=0)then []else Nb (Fx ops 0 [] x).1 (Fx ops 0 [] x).2
theorem El {a b:List Nd}(ha:Wf a)(hb:Wf b):Wf (a++b.map (Zr a.length)):=by
 refine Qm8 ha fun i n hn=> ?_
 rw [List.getElem?_map]at hn;obtain⟨m,hm,rfl⟩:=Option.map_eq_some_iff.1 hn;obtain⟨hx,hy⟩:=hb i m hm;refine⟨fun e=> ?_,fun e=> ?_⟩
 ·have e':Qh m.op=true:=e;have:=hx e';simp only [Zr,e',cond_true];omega
 have e':Qc m.op=true:=e;have:=hy e';simp only [Zr,e',cond_true];omega
theorem Qbt(ops:List (List Nd))(k:Nat)(o:List Nd)(f:List Nd)(x:Nd)(h:ops[k]?=some o):
 Fx (ops.drop k) k f x=Fx (ops.drop (k+1)) (k+1) (f++(Qg o).map (Zr f.length)) (Lt k x (f++(Qg o).map (Zr f.length)).length):=by
 obtain⟨hk,rfl⟩:=List.getElem?_eq_some_iff.1 h;rw [List.drop_eq_getElem_cons hk];rfl
theorem Qpb(ops:List (List Nd))(k:Nat)(o:List Nd)(h:ops[k]?=some o):(ops.drop k).any (fun o=>check o !=0)=(check o !=0||(ops.drop (k+1)).any (fun o=>check o !=0)):=by
 obtain⟨hk,rfl⟩:=List.getElem?_eq_some_iff.1 h;rw [List.drop_eq_getElem_cons hk];rfl
structure Gj (w w':World) (v v':Value):Prop where
 os:w'.os=w.os
 tape:w'.tape=w.tape
 output:w'.output=w.output
 size:w.heap.size<=w'.heap.size
 block:∀k,k < w.heap.size->v.ownBlock≠some k->w'.heap[k]?=w.heap[k]?
 row:∀g,v'.ownBlock=some g->v.ownBlock=some g\/w.heap.size<=g
section
variable {a b c w w':World} {va vb vc v v':Value}
theorem Gj.refl(w:World)(v:Value):Gj w w v v:=⟨rfl,rfl,rfl,Nat.le_refl _,fun _ _ _=>rfl,fun _ h=> .inl h⟩
theorem Gj.trans(h:Gj a b va vb)(k:Gj b c vb vc):Gj a c va vc :=
 ⟨k.os.trans h.os,k.tape.trans h.tape,k.output.trans h.output,Qx h.size k.size,
  fun i hi h4=>(k.block i (Qy hi h.size) (fun e=>by
   rcases h.row i e with e'|e'
   ·exact h4 e'
   omega)).trans (h.block i hi h4),
  fun g hg=>by
   rcases k.row g hg with e|e
   ·exact h.row g e
   exact .inr (Qx h.size e)⟩
theorem Gj.ext(h:Gj a b va vb)(e:Ext b c):Gj a c va vb:=h.trans ⟨e.os,e.tape,e.output,e.size,fun _ hk _=>e.block hk,fun _ h=> .inl h⟩
theorem Gj.appended(h:Gj a b va v)(hg:b.grownBy w' v.ownBlock)(hat:v'.ownBlock=v.ownBlock\/v'.ownBlock=some b.heap.size):Gj a w' va v' :=
 h.trans ⟨hg.os,hg.tape,hg.output,hg.size,fun k hk hne=>hg.block k hk (fun e=>hne e.symm),fun g hg'=>by
  rcases hat with e|e
  ·exact .inl (by rw [<-e];exact hg')
  rw [e]at hg';injection hg' with hg';exact .inr (by omega)⟩
theorem Gj.cell(h:Gj a b va vb) {p:Addr}(hp:p.block < a.heap.size)(hne:va.ownBlock≠some p.block):b.cell? p=a.cell? p:=World.cell?_of_block (h.block _ hp hne)
theorem Gj.below {B:Nat}(h:Gj a b va vb)(hB:B<=a.heap.size)(hr:∀g,va.ownBlock=some g->B<=g):Below B a b :=
 ⟨h.os,h.tape,h.output,h.size,fun k hk=>h.block k (by omega) (fun e=>by have:=hr k e;omega)⟩
theorem Zf {base:Nat} {e:TypeId} {size n:Nat} {xs:List Value}(h:w.ownsRow base e size v n xs)(he:Ext w w'):w'.ownsRow base e size v n xs:=Zi h fun g hg=>he.block (h.lt g hg).2
theorem Cl(w:World)(cs:Array Value)(t:TypeId):∀j u,cs.toList[j]?=some u->(w.alloc (.cells cs t)).cell? ((⟨w.heap.size,0,none⟩:Addr).add j)=some u:=by
 intro j u hj;have h:=heap_alloc_new w (.cells cs t);have e:((⟨w.heap.size,0,none⟩:Addr).add j)=⟨w.heap.size,j,none⟩:=by
  unfold Addr.add
  split
  ·rename_i h0;rw [h0]
  simp
 rw [e];simp only [World.cell?,h];rw [<-hj];simp
theorem Jq(w:World)(cs:Array Value)(t:TypeId) {g:Nat}(hg:g=w.heap.size):∀j u,cs.toList[j]?=some u->(w.alloc (.cells cs t)).cell? ((⟨g,0,none⟩:Addr).add j)=some u:=by
 subst hg;exact Cl w cs t
end
def Qjw(w:World)(A:Option Addr)(c:Nat)(ops:List (List Nd)):Prop :=
 ops.length<=c/\c<=maxLen/\(ops≠ []->∃ad,A=some ad/\ad.block < w.heap.size/\∀k l,ops[k]?=some l->∃u,w.cell? (ad.add k)=some u/\Fml w u l)
def Fl(w:World)(v:Value)(ops:List (List Nd)):Prop:=∃A c,v=.slice A ops.length c/\Qjw w A c ops
theorem Qjw.ext {w w':World} {A:Option Addr} {c:Nat} {ops:List (List Nd)}(h:Qjw w A c ops)(he:Ext w w'):Qjw w' A c ops :=
 ⟨h.1,h.2.1,fun hn=>by
  obtain⟨ad,e,hlt,hc⟩:=h.2.2 hn;refine⟨ad,e,Qy hlt he.size,fun k l hk=> ?_⟩;obtain⟨u,hu,hf⟩:=hc k l hk;exact⟨u,(he.cell (Qj hlt)).trans hu,hf.ext he⟩⟩
theorem Fl.ext {w w':World} {v:Value} {ops:List (List Nd)}(h:Fl w v ops)(he:Ext w w'):Fl w' v ops:=by
 obtain⟨A,c,e,h⟩:=h;exact⟨A,c,e,h.ext he⟩
structure Wq (w wr:World) (ops:List (List Nd)) (x:Nd) (k:Nat) (f:List Nd) (y:Nd) (v:Value):Prop where
 row:wr.ownsRow (w.heap.size+1) 71 6 v f.length (f.flatMap Nd.cells)
 ext:Ext w wr
 box:wr.heap[w.heap.size]?=some (.cells #[.int .i64 y.op,.int .i64 y.i,.int .i64 y.e,.int .i64 y.g,.int .i64 y.x,.int .i64 y.y] 71 (0,0))
 lay:Fx (ops.drop k) k f y=Fx ops 0 [] x
 any:ops.any (fun o=>check o !=0)=(ops.drop k).any (fun o=>check o !=0)
 wf:Wf f
 oks:∀n∈f,n.ok
 yok:y.ok
 len:f.length<=200*k
theorem Qa {w:World} {v:Value} {l:List Nd}(h:Fml w v l):∃A c,v=.slice A l.length c/\Tj w A c l:=by
 obtain⟨⟨A,c,e,hat⟩,_⟩:=h;exact⟨A,c,e,hat⟩
theorem Qhf {k len:Nat} {y:Nd}(h:y.ok)(hl:len<=1000):(Lt k y len).ok:=by
 obtain⟨a,b,c,d,e,g⟩:=h;have hb:Yj ((len:Int) - 1):=⟨by omega,by omega⟩;unfold Lt;cases k==0
 ·exact⟨a,b,c,d,e,hb⟩
 exact⟨a,b,c,d,hb,g⟩
theorem Qhb {d:Nat} {n:Nd}(h:n.ok)(hx:Qh n.op=true->0<=n.x/\n.x<=1000)(hy:Qc n.op=true->0<=n.y/\n.y<=1000)(hd:d<=1000):(Zr d n).ok:=by
 obtain⟨a,b,c,d',e,g⟩:=h;refine⟨a,b,c,d',?_,?_⟩
 ·show Yj (bif Qh n.op then n.x+d else n.x);cases hh:Qh n.op
  ·exact e
  have:=hx hh;exact⟨by simp only [cond_true];omega,by simp only [cond_true];omega⟩
 show Yj (bif Qc n.op then n.y+d else n.y);cases hh:Qc n.op
 ·exact g
 have:=hy hh;exact⟨by simp only [cond_true];omega,by simp only [cond_true];omega⟩
theorem Qf8(op:Int):(Qh op=false/\Qc op=false)\/(Qh op=true/\Qc op=false)\/(Qh op=true/\Qc op=true):=by
 cases hx:Qh op
 ·cases hy:Qc op
  ·exact .inl ⟨rfl,rfl⟩
  rw [Vz hy]at hx;cases hx
 cases hy:Qc op
 ·exact .inr (.inl ⟨rfl,rfl⟩)
 exact .inr (.inr ⟨rfl,rfl⟩)
theorem Ql4 {wr w1 w':World} {base:Nat} {A5 Ac:Option Addr} {n c5 cc:Nat} {xs:List Value} {l:List Nd}(hm:Jl w1 w' (.slice Ac l.length cc) l)(hrow:wr.ownsRow base 71 6 (.slice A5 n c5) n xs)(he:Ext wr w1):
 ∀ad:Addr,Ac=some ad->(Value.slice A5 n c5).ownBlock≠some ad.block/\ad.block < w'.heap.size:=by
 rintro ad rfl;obtain⟨h1,h2⟩:=hm.1.lt ad.block rfl;refine⟨fun e=> ?_,h2⟩;have:=(hrow.lt _ e).2;have:=he.size;omega
theorem Nk {w:World} {base:Nat} {e:TypeId} {size n:Nat} {v:Value} {xs:List Value}(h:w.ownsRow (base+1) e size v n xs):v.ownBlock≠some base:=fun e=>by
 have:=(h.lt _ e).1;omega
theorem Wq.next {w wo wi wr:World} {ops:List (List Nd)} {x y:Nd} {k:Nat} {f cl o:List Nd} {v5 v6:Value}(h:Wq w wo ops x k f y v5)(hk:k < 2)(hx:Ext w wi)(hrow5:wi.ownsRow (w.heap.size+1) 71 6 v5 f.length (f.flatMap Nd.cells))
 (hst:Gj wi wr v5 v6)(hrow:wr.ownsRow (w.heap.size+1) 71 6 v6 (f.length+cl.length) ((f++(cl.take cl.length).map (Zr f.length)).flatMap Nd.cells))
 (hbox:wi.heap[w.heap.size]?=some (.cells #[.int .i64 y.op,.int .i64 y.i,.int .i64 y.e,.int .i64 y.g,.int .i64 y.x,.int .i64 y.y] 71 (0,0)))
 (hlay:Fx (ops.drop k) k f y=Fx (ops.drop (k+1)) (k+1) (f++(Qg o).map (Zr f.length)) (Lt k y (f++(Qg o).map (Zr f.length)).length))
 (hany:(ops.drop k).any (fun o=>check o !=0)=(check o !=0||(ops.drop (k+1)).any (fun o=>check o !=0)))(hc:check o=0)(hcl:cl=Qg o)(hwf:Wf cl)(hlen:cl.length<=200)(hok:∀n∈cl,n.ok)
 (slot:Nat)(hslot:slot=bif k==0 then 4 else 5)(z:Int)(hz:z=((f.length+cl.length:Nat):Int) - 1):
 Wq w (wr.setCell ⟨w.heap.size,slot,none⟩ (.int .i64 z)) ops x (k+1) (f++cl.map (Zr f.length)) (Lt k y (f++cl.map (Zr f.length)).length) v6:=by
 have hll:(f++cl.map (Zr f.length)).length=f.length+cl.length:=by simp
 have hlt:=Qm hbox;have hxb:wr.heap[w.heap.size]?=some (.cells #[.int .i64 y.op,.int .i64 y.i,.int .i64 y.e,.int .i64 y.g,.int .i64 y.x,.int .i64 y.y] 71 (0,0)):=(hst.block _ hlt (Nk hrow5)).trans hbox;rw [List.take_of_length_le (Nat.le_refl _)]at hrow;refine⟨?_,?_,?_,?_,?_,El h.wf hwf,?_,Qhf h.yok (by have:=h.len;omega),by have:=h.len;omega⟩
 ·rw [hll];exact ownsRow_setCell_other hrow (Nk hrow) _
 ·have hb:Below (w.heap.size+1) wi wr:=hst.below hlt (fun g hg=>(hrow5.lt g hg).1);exact Ext.setCell (Below.trans hx (Below.mono hb (Nat.le_succ _))) (Nat.le_refl _) _
 ·simp only [World.setCell,Array.getElem?_modify,hxb,if_true,Option.map_some];rw [hll];subst hslot hz;unfold Lt;cases e:k==0
  ·simp
  simp
 ·rw [<-h.lay,hlay,hcl]
 ·rw [h.any,hany,hc];rfl
 intro n hn;rcases List.mem_append.1 hn with hn|hn
 ·exact h.oks n hn
 obtain⟨m,hm,rfl⟩:=List.mem_map.1 hn;obtain⟨i,hi⟩:=List.getElem?_of_mem hm;have hil:i < cl.length:=(List.getElem?_eq_some_iff.1 hi).1;obtain⟨h1,h2⟩:=hwf i m hi;exact Qhb (hok m hm) (fun e=>by have:=h1 e;omega) (fun e=>by have:=h2 e;omega) (by have:=h.len;omega)
theorem Wq.end_ {w wr:World} {ops:List (List Nd)} {x y:Nd} {f:List Nd} {v:Value}(h:Wq w wr ops x ops.length f y v):Jc x ops=Nb f y:=by
 have h1:=h.lay;have h2:=h.any;rw [List.drop_length]at h1 h2;unfold Jc;rw [h2,<-h1];rfl
theorem Wq.bad {w wr:World} {ops:List (List Nd)} {x y:Nd} {k:Nat} {f o:List Nd} {v:Value}(h:Wq w wr ops x k f y v)(hc:check o≠0)
 (hany:(ops.drop k).any (fun o=>check o !=0)=(check o !=0||(ops.drop (k+1)).any (fun o=>check o !=0))):Jc x ops= []:=by
 have hb:(check o !=0)=true:=by simpa using hc
 unfold Jc;rw [h.any,hany,hb];rfl
theorem Qcd {f:List Nd} {y:Nd}(h:Qo y f.length≠0):Nb f y= []:=by
 have hb:(Qo y f.length !=0)=true:=by simpa using h
 unfold Nb;rw [hb];rfl
theorem Qls {f:List Nd} {y:Nd}(h:Qo y f.length=0)(hl:200 < (Zt (f++ [y]) f.length []).1.length):Nb f y= []:=by
 unfold Nb;simp [h,hl]
theorem Qeb {f:List Nd} {y:Nd}(h:Qo y f.length=0)(hl:¬200 < (Zt (f++ [y]) f.length []).1.length):Nb f y=(Zt (f++ [y]) f.length []).1:=by
 unfold Nb;simp [h,hl]
theorem Qed {f:List Nd} {y:Nd}(hf:Wf f)(h:Qo y f.length=0):Wf (f++ [y]):=by
 obtain⟨hx,hy⟩:=Lf h;refine Rs hf (fun e=> ?_) (fun e=> ?_)
 ·rw [e]at hx;simp [Qs]at hx;omega
 rw [e]at hy;simp [Qs]at hy;omega
end Go.Proofs.YtkmclcmnoicagaaGreatDoor
