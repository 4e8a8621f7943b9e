/- Checked lists are well formed; subformulas. -/
import Derived.Test.YtkmclcmnoicagaaGreatDoorM01
import Derived.Test.YtkmclcmnoicagaaGreatDoorM05
import Derived.Laws.StructEq
import Derived.Laws.Tables
import Derived.Deep.QuietTactic
import Derived.BigQuiet
import Derived.Laws.BitsAllLaws
import Derived.Laws.BitsLemmas
import Derived.OneCell
namespace Go.Proofs.YtkmclcmnoicagaaGreatDoor
set_option maxRecDepth 100000
set_option maxHeartbeats 128000000
theorem Sw:∀(l:List Nd) (a:Int),Yj l a=0->∀(k:Nat) (n:Nd),l[k]?=some n->Zq n (a+k)=0
 |[],_,_,k,n,h=>by simp at h
 |m :: r,a,hc,k,n,h=>by
  unfold Yj at hc;by_cases h0:Zq m a=0
  ·rw [h0]at hc;cases k with
   |zero =>
    simp only [List.getElem?_cons_zero,Option.some.injEq]at h;subst h
    simpa using h0
   |succ k =>
    have:=Sw r (a+1) (by simpa using hc) k n (by simpa using h);rw [<-this]
    congr 1
    omega
  have hb:(Zq m a !=0)=true:=by simpa using h0
  rw [hb]at hc;exact absurd hc h0
theorem Ok:∀(l:List Nd) (a:Int),(∀(k:Nat) (n:Nd),l[k]?=some n->Zq n (a+k)=0)->Yj l a=0
 |[],_,_=>rfl
 |m :: r,a,h=>by
  unfold Yj;have h0:Zq m a=0:=by simpa using h 0 m (by simp)
  rw [h0];have:=Ok r (a+1) fun k n hk=>by
   have:=h (k+1) n (by simpa using hk);rw [<-this]
   congr 1
   omega
  simpa using this
theorem Wn {n:Nd} {a:Int}(h:Zq n a=0):Yq n.op=true:=by
 cases ho:Yq n.op
 ·simp [Zq,ho]at h
 rfl
theorem Mn {n:Nd} {a:Int}(h:Zq n a=0):Qa (Qe n.op) n.x a=true/\Qa (Qh n.op) n.y a=true:=by
 have ho:=Wn h;cases hx:Qa (Qe n.op) n.x a
 ·simp [Zq,ho,hx]at h
 cases hy:Qa (Qh n.op) n.y a
 ·simp [Zq,ho,hx,hy]at h
 exact⟨rfl,rfl⟩
theorem Qf5 {n:Nd} {a:Int}(h:Zq n a=0):Ji n=false/\Yb n=false:=by
 have ho:=Wn h;obtain⟨hx,hy⟩:=Mn h;cases hf:Ji n
 ·cases hr:Yb n
  ·exact⟨rfl,rfl⟩
  simp [Zq,ho,hx,hy,hf,hr]at h
 simp [Zq,ho,hx,hy,hf]at h
theorem Qso {n:Nd} {a:Int}(ho:Yq n.op=true)(hx:Qa (Qe n.op) n.x a=true)(hy:Qa (Qh n.op) n.y a=true)(hf:Ji n=false)(hr:Yb n=false):Zq n a=0:=by
 simp [Zq,ho,hx,hy,hf,hr]
theorem Jr {f:List Nd}(h:check f=0):0 < f.length/\f.length<=200/\Yj f 0=0:=by
 unfold check at h;by_cases h0:f.length=0
 ·simp [h0]at h
 by_cases h1:200 < f.length
 ·simp [h0,h1]at h
 simp [h0,h1]at h;exact⟨by omega,by omega,h⟩
theorem Qd2 {f:List Nd}(h:Yj f 0=0):Wf f:=by
 intro i n hn;have h1:=Sw f 0 h i n hn;obtain⟨hx,hy⟩:=Mn h1;refine⟨fun e=> ?_,fun e=> ?_⟩
 ·rw [e]at hx;simp [Qa]at hx;omega
 rw [e]at hy;simp [Qa]at hy;omega
theorem Vy {f:List Nd}(h:check f=0):Wf f:=Qd2 (Jr h).2.2
def Yz(f:List Nd)(z:Int):List Nd:=bif check f !=0||(decide (z < 0)||decide ((f.length:Int)<=z))then []else(Za f z.toNat []).1
def Qg(f:List Nd):List Nd:=Yz f (f.length - 1:Int)
def Zj2(a b:List Nd):Bool:=check a==0&&(check b==0&&decide (Qg a=Qg b))
def Xg(l:List Nd):Nat:=l.foldl (fun m n=>m|||(Vr n.op).toNat) 0
def Yn(f:List Nd):Nat:=Xg (Qg f)
theorem Qze {f:List Nd}(h:check f=0):Qg f=(Za f (f.length - 1) []).1:=by
 have hl:=(Jr h).1;unfold Qg Yz;have h1:decide ((f.length:Int) - 1 < 0)=false:=by simp;omega
 have h2:decide ((f.length:Int)<=(f.length:Int) - 1)=false:=by simp;omega
 rw [h,h1,h2];have:((f.length:Int) - 1).toNat=f.length - 1:=by omega
 rw [this];rfl
theorem Qfj {f:List Nd}(h:check f≠0):Qg f= []:=by
 unfold Qg Yz;have:(check f !=0)=true:=by simpa using h
 rw [this];rfl
open Go.RowKit
def Fml(w:World)(v:Value)(l:List Nd):Prop:=Nds w v l/\∀n∈l,n.ok
def Vg(w w':World)(v:Value)(l:List Nd):Prop:=w'.ownsRow w.heap.size 71 6 v l.length (l.flatMap Nd.cells)/\(∀n∈l,n.ok)/\Ext w w'
theorem Fml.ext {w w':World} {v:Value} {l:List Nd}(h:Fml w v l)(he:Ext w w'):Fml w' v l:=⟨h.1.ext he,h.2⟩
theorem Qfn:∀(l:List Nd) (k:Nat) (n:Nd) (j:Nat),l[k]?=some n->j < 6->(l.flatMap Nd.cells)[k*6+j]?=n.cells[j]?
 |[],k,n,j,h,_=>by simp at h
 |m :: r,0,n,j,h,hj=>by
  simp only [List.getElem?_cons_zero,Option.some.injEq]at h;subst h;rw [List.flatMap_cons,List.getElem?_append_left (by simp [Nd.cells];omega)];simp
 |m :: r,k+1,n,j,h,hj=>by
  rw [List.flatMap_cons,List.getElem?_append_right (by simp [Nd.cells];omega)];have e:(k+1)*6+j - m.cells.length=k*6+j:=by simp [Nd.cells];omega
  rw [e];exact Qfn r k n j (by simpa using h) hj
theorem Wd {w:World} {base:Nat} {v:Value} {l:List Nd}(h:w.ownsRow base 71 6 v l.length (l.flatMap Nd.cells)):Nds w v l:=by
 have hc0:=h;obtain⟨_,h2⟩:=h;rcases h2 with⟨rfl,h0⟩|⟨g,cap,cur,rfl,hb,hg,hn,hcap,hsz,htk⟩
 ·have:l= []:=List.length_eq_zero_iff.1 h0;subst this;exact⟨none,0,rfl,Nat.le_refl _,by unfold maxLen;omega,fun h=>absurd rfl h⟩
 refine⟨some ⟨g,0,none⟩,cap,rfl,hn,hcap,fun hne=>⟨_,rfl,Qf hg,fun k n hk=> ?_⟩⟩;have hkl:k < l.length:=(List.getElem?_eq_some_iff.1 hk).1;have cell:∀j,j < 6->∀u,n.cells[j]?=some u->w.cell? ⟨g,k*6+j,none⟩=some u:=by
  intro j hj u hu;have h1:=Qfn l k n j hk hj;rw [<-htk,hu]at h1;have h2:cur[k*6+j]?=some u:=by
   rw [List.getElem?_take]at h1
   split at h1
   ·simpa using h1
   cases h1
  simp [World.cell?,hg,h2]
 have e0:((⟨g,0,none⟩:Addr).add (k*6))=⟨g,k*6,none⟩:=by
  unfold Addr.add
  split
  ·rename_i h;rw [h]
  simp
 rw [e0];exact⟨cell 0 (by omega) _ rfl,cell 1 (by omega) _ rfl,cell 2 (by omega) _ rfl,cell 3 (by omega) _ rfl,cell 4 (by omega) _ rfl,cell 5 (by omega) _ rfl⟩
theorem Vg.fml {w w':World} {v:Value} {l:List Nd}(h:Vg w w' v l):Fml w' v l:=⟨Wd h.1,h.2.1⟩
theorem Vg.ext {w w':World} {v:Value} {l:List Nd}(h:Vg w w' v l):Ext w w':=h.2.2
theorem Vg.none_(w:World):Vg w w (.slice none 0 0) []:=⟨World.ownsRow_nil _ _ _ _,by simp,Qz⟩
theorem Tl {w:World} {b b':Nat} {e:TypeId} {size n:Nat} {v:Value} {xs:List Value}(h:w.ownsRow b e size v n xs)(hb:b'<=b):w.ownsRow b' e size v n xs:=by
 obtain⟨h1,h2⟩:=h;refine⟨h1,?_⟩;rcases h2 with h2|⟨g,cap,cur,e,h3,h4⟩
 ·exact .inl h2
 exact .inr ⟨g,cap,cur,e,Qx hb h3,h4⟩
theorem Vg.before {w0 w w':World} {v:Value} {l:List Nd}(h:Vg w w' v l)(he:Ext w0 w):Vg w0 w' v l:=⟨Tl h.1 he.size,h.2.1,he.trans h.2.2⟩
theorem Vg.after {w w' w2:World} {v:Value} {l:List Nd}(h:Vg w w' v l)(he:Ext w' w2):Vg w w2 v l :=
 ⟨Zs h.1 fun g hg=>he.block (h.1.lt g hg).2,h.2.1,h.2.2.trans he⟩
theorem Ez(v:Value)(l:List Nd)(z:Int)(w:World)(h:Fml w v l):
 Calls Tryz.prog 147 #[v,.int .i64 z] w fun e w'=>∃u,e=.returned u/\Vg w w' u (Yz l z):=by
 have H:=Qq h;obtain⟨⟨A,c,rfl,hat⟩,hok⟩:=h;have HAT:=Qq hat;clear hat hok;by_cases hbad:check l≠0\/z < 0\/(l.length:Int)<=z
 ·have HR:=Qq (show Yz l z= [] by
   unfold Yz;rcases hbad with h|h|h
   ·have:(check l !=0)=true:=by simpa using h
    rw [this];rfl
   ·simp [h]
   simp [h])
  by_cases hc:check l=0
  ·have hbad':z < 0\/(l.length:Int)<=z:=by
    rcases hbad with h|h
    ·exact absurd hc h
    exact h
   have HC:=Qq hc;clear hc hbad;by_cases hz:z < 0
   ·clear hbad';go_enter Tryz.func147,Tryz.ntmps147;go_wp2_with(go_at_call 41;refine(Vk _ l _ H.out.1).mono ?_;rintro e w1 ⟨rfl,hb⟩;rw [HC.out]);go_ret;exact⟨_,rfl,by rw [HR.out];exact(Vg.none_ _).after hb⟩
   have hl:(l.length:Int)<=z:=by omega
   clear hbad';go_enter Tryz.func147,Tryz.ntmps147;go_wp2_with(go_at_call 41;refine(Vk _ l _ H.out.1).mono ?_;rintro e w1 ⟨rfl,hb⟩;rw [HC.out]);go_ret;exact⟨_,rfl,by rw [HR.out];exact(Vg.none_ _).after hb⟩
  have hb1:(check l !=0)=true:=by simpa using hc
  clear hbad hc;go_enter Tryz.func147,Tryz.ntmps147;go_wp2_with(go_at_call 41;refine(Vk _ l _ H.out.1).mono ?_;rintro e w1 ⟨rfl,hb⟩);go_ret;exact⟨_,rfl,by rw [HR.out];exact(Vg.none_ _).after hb⟩
 have hc:check l=0:=by
  by_cases e:check l=0
  ·exact e
  exact absurd (.inl e) hbad
 have hz0:0<=z:=by
  by_cases e:z < 0
  ·exact absurd (.inr (.inl e)) hbad
  omega
 have hz1:z < l.length:=by
  by_cases e:(l.length:Int)<=z
  ·exact absurd (.inr (.inr e)) hbad
  omega
 clear hbad;obtain⟨r,rfl⟩:=Int.eq_ofNat_of_zero_le hz0;have hr:r < l.length:=by omega
 have HR:=Qq (show Yz l r=(Za l r []).1 by
  unfold Yz;rw [hc];have h1:decide ((r:Int) < 0)=false:=by simp
  have h2:decide ((l.length:Int)<=(r:Int))=false:=by simp;omega
  rw [h1,h2]
  rfl)
 have HC:=Qq hc;have HL:=(Jr hc).2.1;clear hc;go_enter Tryz.func147,Tryz.ntmps147;go_wp2_with(go_at_call 41;refine(Vk _ l _ H.out.1).mono ?_;rintro e w1 ⟨rfl,hb⟩;rw [HC.out]);have HB:=Qq hb;clear hb;refine(Hb l A c r _ (Vy HC.out) H.out.2 (by omega) hr (HAT.out.ext HB.out)).mono ?_;rintro e w2 ⟨u,rfl,hrow,hoks,hext⟩;have HM:=Qq (show Vg w w2 u (Yz l r) by rw [HR.out];exact Vg.before ⟨hrow,hoks,hext⟩ HB.out);clear hrow hoks hext;go_wp2_with fail;go_ret;exact⟨_,rfl,HM.out⟩
theorem Un(v:Value)(l:List Nd)(w:World)(h:Fml w v l):
 Calls Tryz.prog 118 #[v] w fun e w'=>∃u,e=.returned u/\Vg w w' u (Qg l):=by
 have H:=Qq h;obtain⟨⟨A,c,rfl,hat⟩,hok⟩:=h;have hl:=hat.1;have hm:=hat.2.1;unfold maxLen at hm;clear hat hok;go_enter Tryz.func118,Tryz.ntmps118;go_wp2_with fail;refine(Ez _ l _ _ H.out).mono ?_;rintro e w2 ⟨u,rfl,hm⟩;have HM:=Qq hm;clear hm;go_wp2_with fail;go_ret;exact⟨_,rfl,HM.out⟩
theorem Qik(a b:Nd)(w:World):
 (Op.equalIn 10000 71 (.agg #[.int .i64 a.op,.int .i64 a.i,.int .i64 a.e,.int .i64 a.g,.int .i64 a.x,.int .i64 a.y]) (.agg #[.int .i64 b.op,.int .i64 b.i,.int .i64 b.e,.int .i64 b.g,.int .i64 b.x,.int .i64 b.y])).run Tryz.prog w=.ok (decide (a=b)) w:=by
 have u3:=Tryz.underlying3;have a3:=Tryz.isAgg3;have z3:=Tryz.sizeOf3;have hS:Tryz.prog.underlying 71=some (.struct (Tryz.prog.fieldsOf 71)):=by kernel_rfl
 have hp:Tryz.prog.stoodInHeld 71=false:=by kernel_rfl
 rw [show(10000:Nat)=9999+1 from rfl,run_equalIn_agg w 9999 71 _ _ hS hp];simp only [Program.fieldsOf,Tryz.underlying71];go_simp;cases a with
 |mk a0 a1 a2 a3 a4 a5 =>
  cases b with
  |mk b0 b1 b2 b3 b4 b5 =>
   simp only [Nd.mk.injEq];by_cases h0:a0=b0 <;> by_cases h1:a1=b1 <;> by_cases h2:a2=b2 <;> by_cases h3:a3=b3 <;> by_cases h4:a4=b4 <;> by_cases h5:a5=b5 <;> simp [h0,h1,h2,h3,h4,h5]
theorem Xc {α:Type} {l:List α} {k:Nat} {a:α}(h:l[k]?=some a):l.take (k+1)=l.take k++ [a]:=by
 rw [List.take_add_one,h];rfl
theorem Qfi {α:Type} {a b:List α} {k:Nat} {x y:α}(ha:a[k]?=some x)(hb:b[k]?=some y)(hne:x≠y):a≠b:=by
 intro e;rw [e,hb]at ha;exact hne (Option.some.inj ha).symm
theorem Qr1(v1 v2:Value)(l1 l2:List Nd)(w:World)(h1:Nds w v1 l1)(h2:Nds w v2 l2):
 Calls Tryz.prog 180 #[v1,v2] w fun e w'=>e=.returned (.bool (decide (l1=l2)))/\Ext w w':=by
 obtain⟨A1,c1,rfl,hcap1,hmax1,hr1⟩:=h1;obtain⟨A2,c2,rfl,hcap2,hmax2,hr2⟩:=h2;unfold maxLen at hmax1 hmax2;by_cases hl:l1.length=l2.length
 ·have HR1:=Qq hr1;have HR2:=Qq hr2;have HL:=Qq hl;have eb:((l1.length:Int) !=(l2.length:Int))=false:=by simp [hl]
  clear hr1 hr2 hl;go_enter Tryz.func180,Tryz.ntmps180;go_wp2_with fail;go_loopw [13] (fun i wr=>∃k:Nat,k<=l1.length/\i=.int .i64 k/\Hid (l1.take k=l2.take k)/\Ext w wr) (fun i _=>l1.length - (intOf i).toNat)
  case atStart=>exact⟨0,Nat.zero_le _,rfl,Qq rfl,Qz⟩
  case round =>
   obtain⟨k,hk,rfl,htk,hext⟩:=hrel;by_cases hlt2:k < l1.length
   ·have hlt3:k < l2.length:=by have:=HL.out;omega
    obtain⟨a,ha⟩:∃a,l1[k]?=some a:=⟨_,Qv hlt2⟩;obtain⟨b,hb⟩:∃b,l2[k]?=some b:=⟨_,Qv hlt3⟩;obtain⟨ad1,rfl,hb1,hc1⟩:=HR1.out (by intro e;rw [e]at hlt2;simp at hlt2);obtain⟨ad2,rfl,hb2,hc2⟩:=HR2.out (by intro e;rw [e]at hlt3;simp at hlt3);obtain⟨a0,a1,a2,a3,a4,a5⟩:=(hc1 k a ha).keep fun p hp=>hext.cell (p:=p) (by rw [hp,Qc];exact hb1)
    obtain⟨b0,b1,b2,b3,b4,b5⟩:=(hc2 k b hb).keep fun p hp=>hext.cell (p:=p) (by rw [hp,Qc];exact hb2)
    have hi0:(0:Int)<=(k:Int):=by omega
    have hi1:(k:Int) < (l1.length:Int):=by omega
    have hi2:(k:Int) < (l2.length:Int):=by omega
    have heq:=fun W=>Qik a b W
    have HA:=Qq ha;have HB:=Qq hb;clear ha hb hc1 hc2;by_cases hab:a=b
    ·have hd:decide (a=b)=true:=by simpa using hab
     have HT:Hid (l1.take (k+1)=l2.take (k+1)):=Qq (by rw [Xc HA.out,Xc HB.out,htk.out,hab]);clear hab;go_wp2_with fail;go_quiet (fail);go_wp2_with fail;go_roundw
     case rel=>exact⟨k+1,by omega,by go_num,HT,hext.drewN _⟩
     case measure=>simp [intOf];omega
    have hd:decide (a=b)=false:=by simpa using hab
    have HR:Hid (decide (l1=l2)=false):=Qq (decide_eq_false (Qfi HA.out HB.out hab));clear hab;go_wp2_with fail;go_quiet (fail);go_wp2_with fail;go_ret;exact⟨by rw [HR.out];rfl,hext.drewN _⟩
   obtain rfl:l1.length=k:=by omega
   have HR:Hid (decide (l1=l2)=true):=Qq (decide_eq_true (by
    have h:=htk.out;rw [List.take_of_length_le (Nat.le_refl _),HL.out,List.take_of_length_le (Nat.le_refl _)]at h;exact h))
   go_wp2_with fail;go_ret;exact⟨by rw [HR.out];rfl,hext⟩
 have eb:((l1.length:Int) !=(l2.length:Int))=true:=by simp;omega
 have HR:Hid (decide (l1=l2)=false):=Qq (decide_eq_false fun e=>hl (by rw [e]));clear hl hr1 hr2;go_enter Tryz.func180,Tryz.ntmps180;go_wp2_with fail;go_ret;exact⟨by rw [HR.out];rfl,Qz⟩
theorem Ca(a:Nat)(ha:a < 9223372036854775808):(BitVec.ofInt 64 (a:Int)).toNat=a:=by
 rw [BitVec.ofInt_natCast,BitVec.toNat_ofNat];exact Nat.mod_eq_of_lt (by omega)
theorem Qvv(a b:Nat)(ha:a < 9223372036854775808)(hb:b < 9223372036854775808):bits .or .i64 (a:Int) (b:Int)=((a|||b:Nat):Int):=by
 have hx:a|||b < 2^63:=Nat.or_lt_two_pow (by omega) (by omega);show IntKind.i64.wrap ((BitVec.ofInt 64 (a:Int)|||BitVec.ofInt 64 (b:Int)).toNat:Int)=_;rw [BitVec.toNat_or,Ca a ha,Ca b hb,IntKind.wrap_i64];omega
theorem Qk2(op:Int):0<=Vr op/\Vr op<=256:=by
 unfold Vr
 repeat' split
 all_goals omega
theorem Qgq(l:List Nd)(n:Nd):Xg (l++ [n])=Xg l|||(Vr n.op).toNat:=by simp [Xg,List.foldl_append]
theorem Hr(l:List Nd):Xg l < 512:=by
 have:∀(l:List Nd) (m:Nat),m < 512->l.foldl (fun m n=>m|||(Vr n.op).toNat) m < 512:=by
  intro l
  induction l with
  |nil=>intro m h;exact h
  |cons a r ih =>
   intro m h;refine ih _ (Nat.or_lt_two_pow (n:=9) h ?_);have:=Qk2 a.op;omega
 exact this l 0 (by omega)
theorem Qgz(n:Nd)(u0 u1 u2 u3 u4 u5:Bool)(g:Int)(w:World):
 Calls Tryz.prog 117 #[.agg #[.int .i64 n.op,.int .i64 n.i,.int .i64 n.e,.int .i64 n.g,.int .i64 n.x,.int .i64 n.y],.agg #[.bool u0,.bool u1,.bool u2,.bool u3,.bool u4,.bool u5,.int .i64 g]] w
  fun e w'=>e=.returned (.int .i64 g)/\Ext w w':=by
 go_enter Tryz.func117,Tryz.ntmps117;go_wp2_with fail;go_ret;exact⟨rfl,(Qz.alloc _).alloc _⟩
theorem Qpb(v:Value)(l:List Nd)(w:World)(h:Fml w v l):
 Calls Tryz.prog 116 #[v,.func (Fn.func 117) #[] #[]] w fun e w'=>e=.returned (.int .i64 (Yn l:Nat))/\Ext w w':=by
 have H:=Qq h;clear h;go_enter Tryz.func116,Tryz.ntmps116;go_wp2_with fail;refine(Un _ l _ H.out).mono ?_;rintro e w1 ⟨u,rfl,hm⟩;have HX:=Qq hm.2.2;obtain⟨A,c,rfl,hcap,hmax,hread⟩:=hm.fml.1;unfold maxLen at hmax;have HR:=Qq hread;obtain⟨cl,hcl⟩:∃cl,cl=Qg l:=⟨_,rfl⟩;have HCL:=Qq (show Yn l=Xg cl by rw [hcl];rfl);rw [<-hcl]at HR hcap;rw [<-hcl];clear hm hread hcl;go_wp2_with fail;go_loopw [5,13] (fun out i wr=>∃k:Nat,k<=cl.length/\i=.int .i64 k/\out=.int .i64 (Xg (cl.take k):Nat)/\Ext w1 wr) (fun _ i _=>cl.length - (intOf i).toNat)
 case atStart=>exact⟨0,Nat.zero_le _,rfl,rfl,Qz⟩
 case round =>
  obtain⟨k,hk,rfl,rfl,hext⟩:=hrel;by_cases hlt2:k < cl.length
  ·obtain⟨a,ha⟩:∃a,cl[k]?=some a:=⟨_,Qv hlt2⟩;obtain⟨ad,rfl,hb1,hc1⟩:=HR.out (by intro e;rw [e]at hlt2;simp at hlt2);obtain⟨a0,a1,a2,a3,a4,a5⟩:=(hc1 k a ha).keep fun p hp=>hext.cell (p:=p) (by rw [hp,Qc];exact hb1)
   have hfr:=Qk2 a.op;obtain⟨fa,hfa⟩:=Int.eq_ofNat_of_zero_le hfr.1;have hor:=Qvv (Xg (cl.take k)) fa (by have:=Hr (cl.take k);omega) (by omega);have HS:Hid (Xg (cl.take (k+1))=(Xg (cl.take k)|||fa)):=Qq (by rw [Xc ha,Qgq,hfa];rfl);have HFA:=Qq hfa;generalize Xg (cl.take k)=m at hor HS;clear ha hc1 hfr hfa;go_wp2_with(first|(go_at_call 161;refine(Yc _ _ _ _ _ _ _ _ rfl rfl rfl rfl rfl rfl rfl _).mono ?_;rintro e w2 ⟨rfl,hb⟩;rw [HFA.out];have HB:=Qq hb;obtain⟨hc,_,hz0⟩:=hb.facts;clear hb;have hz:wr.heap.size < w2.heap.size:=by { simp at hz0;omega };clear hz0)|(go_at_call 117;refine(Qgz a _ _ _ _ _ _ _ _).mono ?_;rintro e w3 ⟨rfl,hb3⟩))
   go_roundw
   case rel=>exact⟨k+1,by omega,by go_num,by rw [HS.out],(((hext.alloc _).trans HB.out).alloc _).trans hb3⟩
   case measure=>simp [intOf];omega
  obtain rfl:cl.length=k:=by omega
  go_wp2_with fail;go_ret;exact⟨Pq (by rw [HCL.out,List.take_of_length_le (Nat.le_refl _)]),HX.out.trans hext⟩
theorem Dy(v:Value)(l:List Nd)(w:World)(h:Fml w v l):
 Calls Tryz.prog 55 #[v] w fun e w'=>e=.returned (.int .i64 (Yn l:Nat))/\Ext w w':=by
 have H:=Qq h;clear h;go_enter Tryz.func55,Tryz.ntmps55;go_wp2_with(go_at_call 116;refine(Qpb _ l _ H.out).mono ?_;rintro e w3 ⟨rfl,hb3⟩);go_ret;exact⟨rfl,hb3⟩
theorem Qnd {f:List Nd}(hf:Wf f):∀(i:Nat) (o:List Nd),i < f.length->∀m∈(Za f i o).1,m∈o\/∃n∈f,∃k1 k2,m=n.with_ k1 k2:=by
 intro i
 induction i using Nat.strongRecOn with
 |_ i ih =>
  intro o hi m hm;obtain⟨n,hn⟩:∃n,f[i]?=some n:=⟨_,Qv hi⟩;obtain⟨hx,hy⟩:=hf i n hn;have p1:∀o,∀m∈(opX f n o).1,m∈o\/∃n∈f,∃k1 k2,m=n.with_ k1 k2:=by
   intro o m hm;unfold opX at hm
   split at hm
   ·rename_i h1;have:=hx h1;exact ih _ (by omega) _ (by omega) m hm
   exact .inl hm
  have p2:∀o,∀m∈(opY f n o).1,m∈o\/∃n∈f,∃k1 k2,m=n.with_ k1 k2:=by
   intro o m hm;unfold opY at hm
   split at hm
   ·rename_i h1;have:=hy h1;exact ih _ (by omega) _ (by omega) m hm
   exact .inl hm
  rw [Ul hf hn]at hm;have hm':m∈(opY f n (opX f n o).1).1\/m=n.with_ (opX f n o).2 (opY f n (opX f n o).1).2:=by
   simp only [Jb]at hm
   split at hm
   ·exact .inl hm
   simpa using hm
  rcases hm' with hm'|rfl
  ·rcases p2 _ m hm' with h|h
   ·exact p1 _ m h
   exact .inr h
  exact .inr ⟨n,List.mem_of_getElem? hn,_,_,rfl⟩
theorem Py {o:List Nd} {m:Nd}(ho:Wf o)(hx:Qe m.op=true->0<=m.x/\m.x < o.length)(hy:Qh m.op=true->0<=m.y/\m.y < o.length):Wf (o++ [m]):=by
 intro i n hn;by_cases h:i < o.length
 ·rw [List.getElem?_append_left h]at hn;exact ho i n hn
 rw [List.getElem?_append_right (by omega)]at hn;have hi:i=o.length:=by
  by_cases e:i - o.length=0
  ·omega
  rw [List.getElem?_eq_none (by simp;omega)]at hn;cases hn
 subst hi;simp at hn;subst hn;exact⟨hx,hy⟩
theorem Qpd {a b:List Nd}(ha:Wf a)(hb:∀(i:Nat) (n:Nd),b[i]?=some n->(Qe n.op=true->0<=n.x/\n.x < (a.length+i:Nat))/\(Qh n.op=true->0<=n.y/\n.y < (a.length+i:Nat))):Wf (a++b):=by
 intro i n hn;by_cases h:i < a.length
 ·rw [List.getElem?_append_left h]at hn;exact ha i n hn
 rw [List.getElem?_append_right (by omega)]at hn;have:=hb _ n hn;have e:a.length+(i - a.length)=i:=by omega
 rw [e]at this;exact this
theorem By:Wf []:=fun i n h=>by simp at h
theorem Vs {op:Int}(h:Qh op=true):Qe op=true:=by
 unfold Qe;simp [Qh]at h;simp;omega
theorem Qlv {f:List Nd}(hf:Wf f):∀(i:Nat) (o:List Nd),i < f.length->Wf o->Wf (Za f i o).1:=by
 intro i
 induction i using Nat.strongRecOn with
 |_ i ih =>
  intro o hi ho;obtain⟨n,hn⟩:∃n,f[i]?=some n:=⟨_,Qv hi⟩;obtain⟨hx,hy⟩:=hf i n hn;have w1:Wf (opX f n o).1:=by
   unfold opX
   split
   ·rename_i h1;have:=hx h1;exact ih _ (by omega) _ (by omega) ho
   exact ho
  have w2:Wf (opY f n (opX f n o).1).1:=by
   unfold opY
   split
   ·rename_i h1;have:=hy h1;exact ih _ (by omega) _ (by omega) w1
   exact w1
  rw [Ul hf hn];simp only [Jb]
  split
  ·exact w2
  refine Py w2 (fun h=> ?_) (fun h=> ?_)
  ·have h':Qe n.op=true:=h;have hp:=Wr hf hn (opX f n o).1;have hl:(opX f n o).2 < (opX f n o).1.length:=by
    have:=hx h';unfold opX;rw [if_pos h'];exact Mw hf _ _ (by omega)
   have:=hp.length_le;simp only [Nd.with_,h',cond_true];omega
  have h':Qh n.op=true:=h;have hl:(opY f n (opX f n o).1).2 < (opY f n (opX f n o).1).1.length:=by
   have:=hy h';unfold opY;rw [if_pos h'];exact Mw hf _ _ (by omega)
  simp only [Nd.with_,h',cond_true];omega
def Zp(n:Nd):Prop:=Yq n.op=true/\Ji n=false/\Yb n=false/\(Qe n.op=false->n.x=0)/\(Qh n.op=false->n.y=0)
theorem Qlc {n:Nd} {a:Int}(h:Zq n a=0):Zp n:=by
 obtain⟨hx,hy⟩:=Mn h;obtain⟨hf,hr⟩:=Qf5 h;refine⟨Wn h,hf,hr,fun e=> ?_,fun e=> ?_⟩
 ·rw [e]at hx;simpa [Qa]using hx
 rw [e]at hy;simpa [Qa]using hy
theorem Zp.err {n:Nd} {a:Nat}(h:Zp n)(hx:Qe n.op=true->0<=n.x/\n.x < a)(hy:Qh n.op=true->0<=n.y/\n.y < a):Zq n a=0:=by
 obtain⟨ho,hf,hr,h1,h2⟩:=h;refine Qso ho ?_ ?_ hf hr
 ·cases e:Qe n.op
  ·simp [Qa,h1 e]
  have:=hx e;simp [Qa];omega
 cases e:Qh n.op
 ·simp [Qa,h2 e]
 have:=hy e;simp [Qa];omega
theorem Zp.with_ {n:Nd}(h:Zp n)(k1 k2:Nat):Zp (n.with_ k1 k2):=by
 obtain⟨ho,hf,hr,h1,h2⟩:=h;refine⟨ho,hf,hr,fun e=> ?_,fun e=> ?_⟩
 ·have e':Qe n.op=false:=e;simp only [Nd.with_,e',cond_false];exact h1 e'
 have e':Qh n.op=false:=e;simp only [Nd.with_,e',cond_false];exact h2 e'
theorem Qc7 {f:List Nd}(hw:Wf f)(hh:∀n∈f,Zp n):Yj f 0=0:=by
 refine Ok f 0 fun k n hk=> ?_
 obtain⟨hx,hy⟩:=hw k n hk;have:=(hh n (List.mem_of_getElem? hk)).err hx hy
 simpa using this
theorem Qjk {f:List Nd}(h0:f≠ [])(hl:f.length<=200)(hw:Wf f)(hh:∀n∈f,Zp n):check f=0:=by
 unfold check;have h1:f.length≠0:=by simpa using h0
 have h2:¬200 < f.length:=by omega
 simp [h1,h2,Qc7 hw hh]
theorem Dg {f:List Nd}(h:check f=0):∀n∈f,Zp n:=by
 intro n hn;obtain⟨i,hi⟩:=List.getElem?_of_mem hn;exact Qlc (Sw f 0 (Jr h).2.2 i n hi)
theorem Jw {f:List Nd}(h:check f=0):Wf (Qg f)/\(Qg f).length<=f.length/\0 < (Qg f).length/\(∀n∈Qg f,Zp n):=by
 have hw:=Vy h;have hl:=(Jr h).1;rw [Qze h];refine⟨Qlv hw _ _ (by omega) By,?_,?_,?_⟩
 ·have h1:=Qqq hw (f.length - 1) [] (by omega);have h2:=Qzq f;have h3:=Ga f (Za f (f.length - 1) []).1;omega
 ·have:=Mw hw (f.length - 1) [] (by omega);omega
 intro m hm;rcases Qnd hw _ _ (by omega) m hm with h'|⟨n,hn,k1,k2,rfl⟩
 ·cases h'
 exact(Dg h n hn).with_ k1 k2
theorem Ux {f:List Nd}(h:check f=0):check (Qg f)=0:=by
 obtain⟨a,b,c,d⟩:=Jw h;have:=(Jr h).2.1;exact Qjk (by intro e;rw [e]at c;simp at c) (by omega) a d
def Jt(d:Nat)(n:Nd):Nd:= { n with x:=bif Qe n.op then n.x+d else n.x,y:=bif Qh n.op then n.y+d else n.y }
def Mt(k:Nat)(x:Nd)(len:Nat):Nd:=bif k==0 then { x with x:=(len:Int) - 1 } else { x with y:=(len:Int) - 1 }
def Fr:List (List Nd)->Nat->List Nd->Nd->List Nd×Nd
 |[],_,f,x=>(f,x)
 |o :: r,k,f,x=>Fr r (k+1) (f++(Qg o).map (Jt f.length)) (Mt k x (f++(Qg o).map (Jt f.length)).length)
def Nf(f:List Nd)(y:Nd):List Nd :=
 bif Zq y f.length !=0 then []else bif decide (200 < (Za (f++ [y]) f.length []).1.length)then []else(Za (f++ [y]) f.length []).1
def Yp(x:Nd)(ops:List (List Nd)):List Nd:=bif ops.any (fun o=>check o !=0)then []else Nf (Fr ops 0 [] x).1 (Fr ops 0 [] x).2
theorem Qyx {a b:List Nd}(ha:Wf a)(hb:Wf b):Wf (a++b.map (Jt a.length)):=by
 refine Qpd ha fun i n hn=> ?_
 rw [List.getElem?_map]at hn;obtain⟨m,hm,rfl⟩:=Option.map_eq_some_iff.1 hn;obtain⟨hx,hy⟩:=hb i m hm;refine⟨fun e=> ?_,fun e=> ?_⟩
 ·have e':Qe m.op=true:=e;have:=hx e';simp only [Jt,e',cond_true];omega
 have e':Qh m.op=true:=e;have:=hy e';simp only [Jt,e',cond_true];omega
theorem Qdb(ops:List (List Nd))(k:Nat)(o:List Nd)(f:List Nd)(x:Nd)(h:ops[k]?=some o):
 Fr (ops.drop k) k f x=Fr (ops.drop (k+1)) (k+1) (f++(Qg o).map (Jt f.length)) (Mt k x (f++(Qg o).map (Jt f.length)).length):=by
 obtain⟨hk,rfl⟩:=List.getElem?_eq_some_iff.1 h;rw [List.drop_eq_getElem_cons hk];rfl
theorem Qpe(ops:List (List Nd))(k:Nat)(o:List Nd)(h:ops[k]?=some o):(ops.drop k).any (fun o=>check o !=0)=(check o !=0||(ops.drop (k+1)).any (fun o=>check o !=0)):=by
 obtain⟨hk,rfl⟩:=List.getElem?_eq_some_iff.1 h;rw [List.drop_eq_getElem_cons hk];rfl
structure Uy (w w':World) (v v':Value):Prop where
 os:w'.os=w.os
 tape:w'.tape=w.tape
 output:w'.output=w.output
 size:w.heap.size<=w'.heap.size
 block:∀k,k < w.heap.size->v.ownBlock≠some k->w'.heap[k]?=w.heap[k]?
 row:∀g,v'.ownBlock=some g->v.ownBlock=some g\/w.heap.size<=g
section
variable {a b c w w':World} {va vb vc v v':Value}
theorem Uy.refl(w:World)(v:Value):Uy w w v v:=⟨rfl,rfl,rfl,Nat.le_refl _,fun _ _ _=>rfl,fun _ h=> .inl h⟩
theorem Uy.trans(h:Uy a b va vb)(k:Uy b c vb vc):Uy a c va vc :=
 ⟨k.os.trans h.os,k.tape.trans h.tape,k.output.trans h.output,Qx h.size k.size,
  fun i hi h4=>(k.block i (Qy hi h.size) (fun e=>by
   rcases h.row i e with e'|e'
   ·exact h4 e'
   omega)).trans (h.block i hi h4),
  fun g hg=>by
   rcases k.row g hg with e|e
   ·exact h.row g e
   exact .inr (Qx h.size e)⟩
theorem Uy.ext(h:Uy a b va vb)(e:Ext b c):Uy a c va vb:=h.trans ⟨e.os,e.tape,e.output,e.size,fun _ hk _=>e.block hk,fun _ h=> .inl h⟩
theorem Uy.appended(h:Uy a b va v)(hg:b.grownBy w' v.ownBlock)(hat:v'.ownBlock=v.ownBlock\/v'.ownBlock=some b.heap.size):Uy a w' va v' :=
 h.trans ⟨hg.os,hg.tape,hg.output,hg.size,fun k hk hne=>hg.block k hk (fun e=>hne e.symm),fun g hg'=>by
  rcases hat with e|e
  ·exact .inl (by rw [<-e];exact hg')
  rw [e]at hg';injection hg' with hg';exact .inr (by omega)⟩
theorem Uy.cell(h:Uy a b va vb) {p:Addr}(hp:p.block < a.heap.size)(hne:va.ownBlock≠some p.block):b.cell? p=a.cell? p:=World.cell?_of_block (h.block _ hp hne)
theorem Uy.below {B:Nat}(h:Uy a b va vb)(hB:B<=a.heap.size)(hr:∀g,va.ownBlock=some g->B<=g):Below B a b :=
 ⟨h.os,h.tape,h.output,h.size,fun k hk=>h.block k (by omega) (fun e=>by have:=hr k e;omega)⟩
theorem Zf {base:Nat} {e:TypeId} {size n:Nat} {xs:List Value}(h:w.ownsRow base e size v n xs)(he:Ext w w'):w'.ownsRow base e size v n xs:=Zs h fun g hg=>he.block (h.lt g hg).2
theorem Ap(w:World)(cs:Array Value)(t:TypeId):∀j u,cs.toList[j]?=some u->(w.alloc (.cells cs t)).cell? ((⟨w.heap.size,0,none⟩:Addr).add j)=some u:=by
 intro j u hj;have h:=heap_alloc_new w (.cells cs t);have e:((⟨w.heap.size,0,none⟩:Addr).add j)=⟨w.heap.size,j,none⟩:=by
  unfold Addr.add
  split
  ·rename_i h0;rw [h0]
  simp
 rw [e];simp only [World.cell?,h];rw [<-hj];simp
theorem Jk(w:World)(cs:Array Value)(t:TypeId) {g:Nat}(hg:g=w.heap.size):∀j u,cs.toList[j]?=some u->(w.alloc (.cells cs t)).cell? ((⟨g,0,none⟩:Addr).add j)=some u:=by
 subst hg;exact Ap w cs t
end
def Qyt(w:World)(A:Option Addr)(c:Nat)(ops:List (List Nd)):Prop :=
 ops.length<=c/\c<=maxLen/\(ops≠ []->∃ad,A=some ad/\ad.block < w.heap.size/\∀k l,ops[k]?=some l->∃u,w.cell? (ad.add k)=some u/\Fml w u l)
def Fl(w:World)(v:Value)(ops:List (List Nd)):Prop:=∃A c,v=.slice A ops.length c/\Qyt w A c ops
theorem Qyt.ext {w w':World} {A:Option Addr} {c:Nat} {ops:List (List Nd)}(h:Qyt w A c ops)(he:Ext w w'):Qyt w' A c ops :=
 ⟨h.1,h.2.1,fun hn=>by
  obtain⟨ad,e,hlt,hc⟩:=h.2.2 hn;refine⟨ad,e,Qy hlt he.size,fun k l hk=> ?_⟩;obtain⟨u,hu,hf⟩:=hc k l hk;exact⟨u,(he.cell (Qj hlt)).trans hu,hf.ext he⟩⟩
theorem Fl.ext {w w':World} {v:Value} {ops:List (List Nd)}(h:Fl w v ops)(he:Ext w w'):Fl w' v ops:=by
 obtain⟨A,c,e,h⟩:=h;exact⟨A,c,e,h.ext he⟩
structure On (w wr:World) (ops:List (List Nd)) (x:Nd) (k:Nat) (f:List Nd) (y:Nd) (v:Value):Prop where
 row:wr.ownsRow (w.heap.size+1) 71 6 v f.length (f.flatMap Nd.cells)
 ext:Ext w wr
 box:wr.heap[w.heap.size]?=some (.cells #[.int .i64 y.op,.int .i64 y.i,.int .i64 y.e,.int .i64 y.g,.int .i64 y.x,.int .i64 y.y] 71 (0,0))
 lay:Fr (ops.drop k) k f y=Fr ops 0 [] x
 any:ops.any (fun o=>check o !=0)=(ops.drop k).any (fun o=>check o !=0)
 wf:Wf f
 oks:∀n∈f,n.ok
 yok:y.ok
 len:f.length<=200*k
theorem Qm {w:World} {v:Value} {l:List Nd}(h:Fml w v l):∃A c,v=.slice A l.length c/\Ta w A c l:=by
 obtain⟨⟨A,c,e,hat⟩,_⟩:=h;exact⟨A,c,e,hat⟩
theorem Qhr {k len:Nat} {y:Nd}(h:y.ok)(hl:len<=1000):(Mt k y len).ok:=by
 obtain⟨a,b,c,d,e,g⟩:=h;have hb:Yo ((len:Int) - 1):=⟨by omega,by omega⟩;unfold Mt;cases k==0
 ·exact⟨a,b,c,d,e,hb⟩
 exact⟨a,b,c,d,hb,g⟩
theorem Qhs {d:Nat} {n:Nd}(h:n.ok)(hx:Qe n.op=true->0<=n.x/\n.x<=1000)(hy:Qh n.op=true->0<=n.y/\n.y<=1000)(hd:d<=1000):(Jt d n).ok:=by
 obtain⟨a,b,c,d',e,g⟩:=h;refine⟨a,b,c,d',?_,?_⟩
 ·show Yo (bif Qe n.op then n.x+d else n.x);cases hh:Qe n.op
  ·exact e
  have:=hx hh;exact⟨by simp only [cond_true];omega,by simp only [cond_true];omega⟩
 show Yo (bif Qh n.op then n.y+d else n.y);cases hh:Qh n.op
 ·exact g
 have:=hy hh;exact⟨by simp only [cond_true];omega,by simp only [cond_true];omega⟩
theorem Qh8(op:Int):(Qe op=false/\Qh op=false)\/(Qe op=true/\Qh op=false)\/(Qe op=true/\Qh op=true):=by
 cases hx:Qe op
 ·cases hy:Qh op
  ·exact .inl ⟨rfl,rfl⟩
  rw [Vs hy]at hx;cases hx
 cases hy:Qh op
 ·exact .inr (.inl ⟨rfl,rfl⟩)
 exact .inr (.inr ⟨rfl,rfl⟩)
theorem Qmf {wr w1 w':World} {base:Nat} {A5 Ac:Option Addr} {n c5 cc:Nat} {xs:List Value} {l:List Nd}(hm:Vg w1 w' (.slice Ac l.length cc) l)(hrow:wr.ownsRow base 71 6 (.slice A5 n c5) n xs)(he:Ext wr w1):
 ∀ad:Addr,Ac=some ad->(Value.slice A5 n c5).ownBlock≠some ad.block/\ad.block < w'.heap.size:=by
 rintro ad rfl;obtain⟨h1,h2⟩:=hm.1.lt ad.block rfl;refine⟨fun e=> ?_,h2⟩;have:=(hrow.lt _ e).2;have:=he.size;omega
theorem Qbf {w:World} {base:Nat} {e:TypeId} {size n:Nat} {v:Value} {xs:List Value}(h:w.ownsRow (base+1) e size v n xs):v.ownBlock≠some base:=fun e=>by
 have:=(h.lt _ e).1;omega
theorem On.next {w wo wi wr:World} {ops:List (List Nd)} {x y:Nd} {k:Nat} {f cl o:List Nd} {v5 v6:Value}(h:On w wo ops x k f y v5)(hk:k < 2)(hx:Ext w wi)(hrow5:wi.ownsRow (w.heap.size+1) 71 6 v5 f.length (f.flatMap Nd.cells))
 (hst:Uy wi wr v5 v6)(hrow:wr.ownsRow (w.heap.size+1) 71 6 v6 (f.length+cl.length) ((f++(cl.take cl.length).map (Jt f.length)).flatMap Nd.cells))
 (hbox:wi.heap[w.heap.size]?=some (.cells #[.int .i64 y.op,.int .i64 y.i,.int .i64 y.e,.int .i64 y.g,.int .i64 y.x,.int .i64 y.y] 71 (0,0)))
 (hlay:Fr (ops.drop k) k f y=Fr (ops.drop (k+1)) (k+1) (f++(Qg o).map (Jt f.length)) (Mt k y (f++(Qg o).map (Jt f.length)).length))
 (hany:(ops.drop k).any (fun o=>check o !=0)=(check o !=0||(ops.drop (k+1)).any (fun o=>check o !=0)))(hc:check o=0)(hcl:cl=Qg o)(hwf:Wf cl)(hlen:cl.length<=200)(hok:∀n∈cl,n.ok)
 (slot:Nat)(hslot:slot=bif k==0 then 4 else 5)(z:Int)(hz:z=((f.length+cl.length:Nat):Int) - 1):
 On w (wr.setCell ⟨w.heap.size,slot,none⟩ (.int .i64 z)) ops x (k+1) (f++cl.map (Jt f.length)) (Mt k y (f++cl.map (Jt f.length)).length) v6:=by
 have hll:(f++cl.map (Jt f.length)).length=f.length+cl.length:=by simp
 have hlt:=Qf hbox;have hxb:wr.heap[w.heap.size]?=some (.cells #[.int .i64 y.op,.int .i64 y.i,.int .i64 y.e,.int .i64 y.g,.int .i64 y.x,.int .i64 y.y] 71 (0,0)):=(hst.block _ hlt (Qbf hrow5)).trans hbox;rw [List.take_of_length_le (Nat.le_refl _)]at hrow;refine⟨?_,?_,?_,?_,?_,Qyx h.wf hwf,?_,Qhr h.yok (by have:=h.len;omega),by have:=h.len;omega⟩
 ·rw [hll];exact ownsRow_setCell_other hrow (Qbf hrow) _
 ·have hb:Below (w.heap.size+1) wi wr:=hst.below hlt (fun g hg=>(hrow5.lt g hg).1);exact Ext.setCell (Below.trans hx (Below.mono hb (Nat.le_succ _))) (Nat.le_refl _) _
 ·simp only [World.setCell,Array.getElem?_modify,hxb,if_true,Option.map_some];rw [hll];subst hslot hz;unfold Mt;cases e:k==0
  ·simp
  simp
 ·rw [<-h.lay,hlay,hcl]
 ·rw [h.any,hany,hc];rfl
 intro n hn;rcases List.mem_append.1 hn with hn|hn
 ·exact h.oks n hn
 obtain⟨m,hm,rfl⟩:=List.mem_map.1 hn;obtain⟨i,hi⟩:=List.getElem?_of_mem hm;have hil:i < cl.length:=(List.getElem?_eq_some_iff.1 hi).1;obtain⟨h1,h2⟩:=hwf i m hi;exact Qhs (hok m hm) (fun e=>by have:=h1 e;omega) (fun e=>by have:=h2 e;omega) (by have:=h.len;omega)
theorem On.end_ {w wr:World} {ops:List (List Nd)} {x y:Nd} {f:List Nd} {v:Value}(h:On w wr ops x ops.length f y v):Yp x ops=Nf f y:=by
 have h1:=h.lay;have h2:=h.any;rw [List.drop_length]at h1 h2;unfold Yp;rw [h2,<-h1];rfl
theorem On.bad {w wr:World} {ops:List (List Nd)} {x y:Nd} {k:Nat} {f o:List Nd} {v:Value}(h:On w wr ops x k f y v)(hc:check o≠0)
 (hany:(ops.drop k).any (fun o=>check o !=0)=(check o !=0||(ops.drop (k+1)).any (fun o=>check o !=0))):Yp x ops= []:=by
 have hb:(check o !=0)=true:=by simpa using hc
 unfold Yp;rw [h.any,hany,hb];rfl
theorem Qco {f:List Nd} {y:Nd}(h:Zq y f.length≠0):Nf f y= []:=by
 have hb:(Zq y f.length !=0)=true:=by simpa using h
 unfold Nf;rw [hb];rfl
theorem Qli {f:List Nd} {y:Nd}(h:Zq y f.length=0)(hl:200 < (Za (f++ [y]) f.length []).1.length):Nf f y= []:=by
 unfold Nf;simp [h,hl]
theorem Qep {f:List Nd} {y:Nd}(h:Zq y f.length=0)(hl:¬200 < (Za (f++ [y]) f.length []).1.length):Nf f y=(Za (f++ [y]) f.length []).1:=by
 unfold Nf;simp [h,hl]
theorem Qec {f:List Nd} {y:Nd}(hf:Wf f)(h:Zq y f.length=0):Wf (f++ [y]):=by
 obtain⟨hx,hy⟩:=Mn h;refine Py hf (fun e=> ?_) (fun e=> ?_)
 ·rw [e]at hx;simp [Qa]at hx;omega
 rw [e]at hy;simp [Qa]at hy;omega
theorem Qdj(f:List Nd)(A:Option Addr)(c r n:Nat)(w:World)(hn:f.length=n)(hf:Wf f)(hok:∀n∈f,n.ok)(hlen:f.length<=1000)(hr:r < f.length)(h:Ta w A c f):
 Calls Tryz.prog 162 #[.slice A n c,.int .i64 r] w fun e w'=>∃v,e=.returned v/\w'.ownsRow w.heap.size 71 6 v (Za f r []).1.length ((Za f r []).1.flatMap Nd.cells)/\(∀n∈(Za f r []).1,n.ok)/\Ext w w':=by
 subst hn;exact Hb f A c r w hf hok hlen hr h
theorem Uv(x:Nd)(v:Value)(ops:List (List Nd))(w:World)(hx:x.ok)(hops:Fl w v ops)(hn:ops.length<=2):
 Calls Tryz.prog 97 #[.agg #[.int .i64 x.op,.int .i64 x.i,.int .i64 x.e,.int .i64 x.g,.int .i64 x.x,.int .i64 x.y],v] w fun e w'=>∃u,e=.returned u/\Vg w w' u (Yp x ops):=by
 obtain⟨A,c,rfl,hcap,hmax,hread⟩:=hops;unfold maxLen at hmax;have HREAD:=Qq hread;have HXOK:=Qq hx;obtain⟨i0,hi0,hz0',hz1',hz2'⟩:=info_parts Qan;clear hread hx;go_enter Tryz.func97,Tryz.ntmps97;go_wp2_with fail;go_loopw [5,16] (fun v5 i wr=>∃(k:Nat) (f:List Nd) (y:Nd),k<=ops.length/\i=.int .i64 k/\Hid (On w wr ops x k f y v5)) (fun _ i _=>ops.length - (intOf i).toNat)
 case atStart=>exact⟨0,[],x,Nat.zero_le _,rfl,Qq ⟨World.ownsRow_nil _ _ _ _,Qz.alloc _,heap_alloc_new _ _,rfl,rfl,By,by simp,HXOK.out,Nat.le_refl _⟩⟩
 case round =>
  obtain⟨wo,rfl⟩:∃wo:World,wo=wr:=⟨_,rfl⟩;obtain⟨k,f,y,hk,rfl,HO⟩:=hrel;obtain⟨A5,c5,rfl⟩:=Qt HO.out.row;have hflen:=HO.out.len;by_cases hlt:k < ops.length
  ·obtain⟨o,ho⟩:∃o,ops[k]?=some o:=⟨_,Qv hlt⟩;obtain⟨ad,rfl,hb1,hc1⟩:=HREAD.out (by intro e;rw [e]at hlt;simp at hlt);obtain⟨u,hu,hfu⟩:=hc1 k o ho;have cu:=(HO.out.ext.cell (p:=ad.add k) (Qj hb1)).trans hu;have HFU:=Qq (hfu.ext HO.out.ext);have HLAY:=Qq (Qdb ops k o f y ho);have HANY:=Qq (Qpe ops k o ho);obtain⟨Au,cuu,rfl,_⟩:=Qm hfu;clear hc1 hu hfu ho;by_cases hc:check o=0
   ·have HC:=Qq hc;clear hc;go_wp2_with fail;refine(Vk _ o _ HFU.out.1).mono ?_;rintro e w1 ⟨rfl,hb⟩;rw [HC.out];have HX1:=Qq hb;clear hb cu;go_wp2_with fail;refine(Un _ o _ (HFU.out.ext HX1.out)).mono ?_;rintro e wi ⟨uc,rfl,hm⟩;have HM:=Qq hm;obtain⟨Ac,cc,rfl,hcc⟩:=Qm hm.fml;have hclr:=hcc.2.2;have hccap:=hcc.1;have hccm:=hcc.2.1;unfold maxLen at hccm;have HCLR:=Qq hclr;have hp:=Jw HC.out;have hlen200:=(Jr HC.out).2.1;have hcl1:(Qg o).length<=200:=by omega
    have hcl0:=hp.2.2.1;have HWFC:=Qq hp.1;have HOKC:=Qq hm.2.1;have HX2:=Qq (HO.out.ext.trans (HX1.out.trans hm.2.2));have HROWI:Hid (wi.ownsRow (w.heap.size+1) 71 6 (.slice A5 f.length c5) f.length (f.flatMap Nd.cells)):=Qq (Zf HO.out.row (HX1.out.trans hm.2.2))
    have HBOXI:Hid (wi.heap[w.heap.size]?=some (.cells #[.int .i64 y.op,.int .i64 y.i,.int .i64 y.e,.int .i64 y.g,.int .i64 y.x,.int .i64 y.y] 71 (0,0))):=
     Qq (((HX1.out.trans hm.2.2).block (Qf HO.out.box)).trans HO.out.box)
    have HNEW:=Qq (Qmf hm HO.out.row HX1.out);obtain⟨cl,hcl⟩:∃cl,cl=Qg o:=⟨_,rfl⟩;have HCL:=Qq hcl;rw [<-hcl]at HCLR hccap hcl1 hcl0 HWFC HOKC;rw [<-hcl];clear hm hcc hclr hp hcl;go_wp2_with fail;go_loopw [5,29] (fun v5 i wr=>∃j:Nat,j<=cl.length/\i=.int .i64 j/\Hid (wr.ownsRow (w.heap.size+1) 71 6 v5 (f.length+j) ((f++(cl.take j).map (Jt f.length)).flatMap Nd.cells))/\Hid (Uy wi wr (.slice A5 f.length c5) v5)) (fun _ i _=>cl.length - (intOf i).toNat)
    case atStart=>exact⟨0,Nat.zero_le _,rfl,Qq (by simpa using HROWI.out),Qq (Uy.refl _ _)⟩
    case round =>
     obtain⟨j,hj,rfl,HROW2,HST⟩:=hrel;obtain⟨A6,c6,rfl⟩:=Qt HROW2.out;by_cases hlt2:j < cl.length
     ·obtain⟨a,ha⟩:∃a,cl[j]?=some a:=⟨_,Qv hlt2⟩;obtain⟨adc,rfl,hbc,hcc2⟩:=HCLR.out (by intro e;rw [e]at hlt2;simp at hlt2);obtain⟨a0,a1,a2,a3,a4,a5⟩:=(hcc2 j a ha).keep fun p hp=>HST.out.cell (p:=p) (by rw [hp,Qc];exact hbc) (by rw [hp,Qc];exact(HNEW.out adc rfl).1)
      obtain⟨xs,hxs⟩:∃xs,xs=(f++(cl.take j).map (Jt f.length)).flatMap Nd.cells:=⟨_,rfl⟩;rw [<-hxs]at HROW2;have HXS:=Qq hxs;clear hxs;have hxy:=HWFC.out j a ha;have haok:=HOKC.out a (List.mem_of_getElem? ha);have HTK:=Qq (Xc ha);have hc3:f.length+j+1<=maxLen:=by unfold maxLen;omega
      have hc4:(f.length+j+1)*48<=140737488355328:=by omega
      have HX3:Hid (w.heap.size+1<=wr.heap.size):=Qq (Qx (Nat.succ_le_of_lt (Qf HBOXI.out)) HST.out.size);have hxb:Qe a.op=true->0<=a.x/\a.x < 200:=fun e=>by have:=hxy.1 e;omega
      have hyb:Qh a.op=true->0<=a.y/\a.y < 200:=fun e=>by have:=hxy.2 e;omega
      clear hcc2 hxy haok ha;rcases Qh8 a.op with⟨hux,huy⟩|⟨hux,huy⟩|⟨hux,huy⟩
      ·
       have HUX:=Qq hux;have HUY:=Qq huy
       have HN2:Hid (xs++ [.int .i64 a.op,.int .i64 a.i,.int .i64 a.e,.int .i64 a.g,.int .i64 (a.x),.int .i64 (a.y)]=(f++(cl.take (j+1)).map (Jt f.length)).flatMap Nd.cells):=
        Qq (by rw [HXS.out,HTK.out,List.map_append,<-List.append_assoc,List.flatMap_append];simp [Jt,hux,huy,Nd.cells])
       clear hux huy hxb hyb;go_wp2_with(first|(go_at_call 161;refine(Yc _ _ _ _ _ _ _ _ HUX.out HUY.out rfl rfl rfl rfl rfl _).mono ?_;rintro e w2 ⟨rfl,hb⟩;have HB:=Qq hb;obtain⟨hc,hfz,hz0⟩:=hb.facts;clear hb;have hz:wr.heap.size < w2.heap.size:=by { simp at hz0;omega };clear hz0)|(at_builtin;refine wpList_append_own_at _ rfl _ _ 22 rfl (w.heap.size+1) 71 i0 Nd.zero.val 6 48 Tryz.underlying22 hi0 hz0' hz1' hz2' rfl (by decide) _ _ _ rfl (Zf HROW2.out ?hx) _ 1 1 [.int .i64 a.op,.int .i64 a.i,.int .i64 a.e,.int .i64 a.g,.int .i64 (a.x),.int .i64 (a.y)] rfl rfl ?c1 ?c2 hc3 hc4 ?c5 ?_))
       case hx=>exact((((Qz.alloc _).trans HB.out).alloc _).alloc _)
       case c1=>exact Jk _ _ _ (by simp)
       case c2 =>
        intro u hu;simp only [List.mem_cons,List.mem_nil_iff,or_false]at hu;rcases hu with rfl|rfl|rfl|rfl|rfl|rfl <;> rfl
       case c5 =>
        have h1:=HX3.out;have h2:=HB.out.size;simp at h2⊢;omega
       intro v' w4 hown4 hgrow4 _ hat4;have HROW4:=Qq hown4;have HST4:=Qq ((HST.out.ext ((((Qz.alloc _).trans HB.out).alloc _).alloc _)).appended hgrow4 (hat4.imp id fun e=>by rw [e];simp));obtain⟨A4,c4',rfl⟩:=Qt hown4;clear hown4 hgrow4 hat4;go_wp2_with fail;go_roundw
       case rel=>exact⟨j+1,by omega,by go_num,Qq (by rw [<-HN2.out];exact HROW4.out),HST4⟩
       case measure=>simp [intOf];omega
      ·
       obtain⟨bx0,bx1⟩:=hxb hux;have HUX:=Qq hux;have HUY:=Qq huy
       have HN2:Hid (xs++ [.int .i64 a.op,.int .i64 a.i,.int .i64 a.e,.int .i64 a.g,.int .i64 (a.x+(f.length:Int)),.int .i64 (a.y)]=(f++(cl.take (j+1)).map (Jt f.length)).flatMap Nd.cells):=
        Qq (by rw [HXS.out,HTK.out,List.map_append,<-List.append_assoc,List.flatMap_append];simp [Jt,hux,huy,Nd.cells])
       clear hux huy hxb hyb;go_wp2_with(first|(go_at_call 161;refine(Yc _ _ _ _ _ _ _ _ HUX.out HUY.out rfl rfl rfl rfl rfl _).mono ?_;rintro e w2 ⟨rfl,hb⟩;have HB:=Qq hb;obtain⟨hc,hfz,hz0⟩:=hb.facts;clear hb;have hz:wr.heap.size < w2.heap.size:=by { simp at hz0;omega };clear hz0)|(at_builtin;refine wpList_append_own_at _ rfl _ _ 22 rfl (w.heap.size+1) 71 i0 Nd.zero.val 6 48 Tryz.underlying22 hi0 hz0' hz1' hz2' rfl (by decide) _ _ _ rfl (Zf HROW2.out ?hx) _ 1 1 [.int .i64 a.op,.int .i64 a.i,.int .i64 a.e,.int .i64 a.g,.int .i64 (a.x+(f.length:Int)),.int .i64 (a.y)] rfl rfl ?c1 ?c2 hc3 hc4 ?c5 ?_))
       case hx=>exact(((Ext.setCell (p:=⟨wr.heap.size,4,none⟩) ((Qz.alloc _).trans HB.out) (Nat.le_refl _) _).alloc _).alloc _)
       case c1=>exact Jk _ _ _ (by simp)
       case c2 =>
        intro u hu;simp only [List.mem_cons,List.mem_nil_iff,or_false]at hu;rcases hu with rfl|rfl|rfl|rfl|rfl|rfl <;> rfl
       case c5 =>
        have h1:=HX3.out;have h2:=HB.out.size;simp at h2⊢;omega
       intro v' w4 hown4 hgrow4 _ hat4;have HROW4:=Qq hown4;have HST4:=Qq ((HST.out.ext (((Ext.setCell (p:=⟨wr.heap.size,4,none⟩) ((Qz.alloc _).trans HB.out) (Nat.le_refl _) _).alloc _).alloc _)).appended hgrow4 (hat4.imp id fun e=>by rw [e];simp));obtain⟨A4,c4',rfl⟩:=Qt hown4;clear hown4 hgrow4 hat4;go_wp2_with fail;go_roundw
       case rel=>exact⟨j+1,by omega,by go_num,Qq (by rw [<-HN2.out];exact HROW4.out),HST4⟩
       case measure=>simp [intOf];omega
      
      obtain⟨bx0,bx1⟩:=hxb hux;obtain⟨by0,by1⟩:=hyb huy;have HUX:=Qq hux;have HUY:=Qq huy
      have HN2:Hid (xs++ [.int .i64 a.op,.int .i64 a.i,.int .i64 a.e,.int .i64 a.g,.int .i64 (a.x+(f.length:Int)),.int .i64 (a.y+(f.length:Int))]=(f++(cl.take (j+1)).map (Jt f.length)).flatMap Nd.cells):=
       Qq (by rw [HXS.out,HTK.out,List.map_append,<-List.append_assoc,List.flatMap_append];simp [Jt,hux,huy,Nd.cells])
      clear hux huy hxb hyb;go_wp2_with(first|(go_at_call 161;refine(Yc _ _ _ _ _ _ _ _ HUX.out HUY.out rfl rfl rfl rfl rfl _).mono ?_;rintro e w2 ⟨rfl,hb⟩;have HB:=Qq hb;obtain⟨hc,hfz,hz0⟩:=hb.facts;clear hb;have hz:wr.heap.size < w2.heap.size:=by { simp at hz0;omega };clear hz0)|(at_builtin;refine wpList_append_own_at _ rfl _ _ 22 rfl (w.heap.size+1) 71 i0 Nd.zero.val 6 48 Tryz.underlying22 hi0 hz0' hz1' hz2' rfl (by decide) _ _ _ rfl (Zf HROW2.out ?hx) _ 1 1 [.int .i64 a.op,.int .i64 a.i,.int .i64 a.e,.int .i64 a.g,.int .i64 (a.x+(f.length:Int)),.int .i64 (a.y+(f.length:Int))] rfl rfl ?c1 ?c2 hc3 hc4 ?c5 ?_))
      case hx=>exact(((Ext.setCell (p:=⟨wr.heap.size,5,none⟩) (Ext.setCell (p:=⟨wr.heap.size,4,none⟩) ((Qz.alloc _).trans HB.out) (Nat.le_refl _) _) (Nat.le_refl _) _).alloc _).alloc _)
      case c1=>exact Jk _ _ _ (by simp)
      case c2 =>
       intro u hu;simp only [List.mem_cons,List.mem_nil_iff,or_false]at hu;rcases hu with rfl|rfl|rfl|rfl|rfl|rfl <;> rfl
      case c5 =>
       have h1:=HX3.out;have h2:=HB.out.size;simp at h2⊢;omega
      intro v' w4 hown4 hgrow4 _ hat4;have HROW4:=Qq hown4;have HST4:=Qq ((HST.out.ext (((Ext.setCell (p:=⟨wr.heap.size,5,none⟩) (Ext.setCell (p:=⟨wr.heap.size,4,none⟩) ((Qz.alloc _).trans HB.out) (Nat.le_refl _) _) (Nat.le_refl _) _).alloc _).alloc _)).appended hgrow4 (hat4.imp id fun e=>by rw [e];simp));obtain⟨A4,c4',rfl⟩:=Qt hown4;clear hown4 hgrow4 hat4;go_wp2_with fail;go_roundw
      case rel=>exact⟨j+1,by omega,by go_num,Qq (by rw [<-HN2.out];exact HROW4.out),HST4⟩
      case measure=>simp [intOf];omega
     obtain rfl:cl.length=j:=by omega
     clear hlt2;have hlast:1<=f.length+cl.length:=by omega
     have HBX:Hid (wr.heap[w.heap.size]?=some (.cells #[.int .i64 y.op,.int .i64 y.i,.int .i64 y.e,.int .i64 y.g,.int .i64 y.x,.int .i64 y.y] 71 (0,0))):=
      Qq ((HST.out.block _ (Qf HBOXI.out) (Qbf HROWI.out)).trans HBOXI.out)
     obtain⟨⟨d0,d1,d2,d3,d4,d5⟩,dfr,dlt⟩:=Kv HBX.out;by_cases hk0:k=0
     ·
      obtain rfl:k=0:=hk0;go_wp2_with fail;go_roundw
      case rel=>exact⟨0+1,_,_,by omega,by go_num,Qq (HO.out.next (by omega) HX2.out HROWI.out HST.out HROW2.out HBOXI.out HLAY.out HANY.out HC.out HCL.out HWFC.out hcl1 HOKC.out 4 rfl _ (by go_num))⟩
      case measure=>simp [intOf];omega
     
     have hkb:((k:Int)==0)=false:=by rw [beq_eq_false_iff_ne];omega
     have HKB:=Qq hk0;clear hk0;go_wp2_with fail;go_roundw
     case rel=>exact⟨k+1,_,_,by omega,by go_num,Qq (HO.out.next (by omega) HX2.out HROWI.out HST.out HROW2.out HBOXI.out HLAY.out HANY.out HC.out HCL.out HWFC.out hcl1 HOKC.out 5 (by have e:(k==0)=false:=by { rw [beq_eq_false_iff_ne];exact HKB.out };rw [e];rfl) _ (by go_num))⟩
     case measure=>simp [intOf];omega
   have HB0:=Qq (HO.out.bad hc HANY.out);have hcb:(check o !=0)=true:=by simpa using hc
   clear hc;go_wp2_with fail;refine(Vk _ o _ HFU.out.1).mono ?_;rintro e w1 ⟨rfl,hb⟩;have HX1:=Qq (HO.out.ext.trans hb);clear hb;go_wp2_with fail;go_ret;exact⟨_,rfl,by rw [HB0.out];exact(Vg.none_ _).after HX1.out⟩
  obtain rfl:ops.length=k:=by omega
  have HJ:=Qq HO.out.end_;obtain⟨⟨d0,d1,d2,d3,d4,d5⟩,dfr,dlt⟩:=Kv HO.out.box;by_cases hne:Zq y f.length=0
  ·have HNE:=Qq hne;clear hne;go_wp2_with fail;refine(Nn y _ _).mono ?_;rintro e w1 ⟨rfl,hb⟩;rw [HNE.out];have HX1:=Qq hb;have HROW1:=Qq (Zf HO.out.row hb);have HBX:Hid (w1.heap[w.heap.size]?=some (.cells #[.int .i64 y.op,.int .i64 y.i,.int .i64 y.e,.int .i64 y.g,.int .i64 y.x,.int .i64 y.y] 71 (0,0))):=Qq ((hb.block (Qf HO.out.box)).trans HO.out.box);clear hb d0 d1 d2 d3 d4 d5 dfr dlt;obtain⟨⟨d0,d1,d2,d3,d4,d5⟩,dfr,dlt⟩:=Kv HBX.out;obtain⟨xs,hxs⟩:∃xs,xs=f.flatMap Nd.cells:=⟨_,rfl⟩;rw [<-hxs]at HROW1;have HXS:=Qq hxs;clear hxs;have hc3:f.length+1<=maxLen:=by unfold maxLen;omega
   have hc4:(f.length+1)*48<=140737488355328:=by omega
   go_wp2_with(at_builtin;refine wpList_append_own_at _ rfl _ _ 22 rfl (w.heap.size+1) 71 i0 Nd.zero.val 6 48 Tryz.underlying22 hi0 hz0' hz1' hz2' rfl (by decide) _ _ _ rfl (Zf HROW1.out ?hx) _ 1 1 y.cells rfl rfl ?c1 (Qvd y) hc3 hc4 ?c5 ?_)
   case hx=>exact Qz.alloc _
   case c1=>exact Jk _ _ _ rfl
   case c5=>simp;omega
   intro v' w4 hown4 hgrow4 _ hat4;have HROW4:Hid (w4.ownsRow (w.heap.size+1) 71 6 v' (f++ [y]).length ((f++ [y]).flatMap Nd.cells)):=Qq (by rw [HXS.out]at hown4;simpa using hown4);have HX4:Hid (Ext w w4):=Qq ((((HO.out.ext.trans HX1.out).alloc _).grown hgrow4 (fun g hg=>by have:=(HO.out.row.lt g hg).1;omega)));obtain⟨A7,c7,hv7,hat7⟩:=Wd HROW4.out;have HAT7:=Qq hat7;have e7:(f++ [y]).length=f.length+1:=by simp
   rw [e7]at hv7;have HWF:=Qq (Qec HO.out.wf HNE.out);have HOKS:Hid (∀n∈f++ [y],n.ok):=Qq (fun n hn=>by
    rcases List.mem_append.1 hn with hn|hn
    ·exact HO.out.oks n hn
    rw [List.mem_singleton.1 hn];exact HO.out.yok)
   have HE7:=Qq e7;subst hv7;clear hown4 hgrow4 hat4 hat7 e7;go_wp2_with fail;refine(Qdj (f++ [y]) A7 c7 f.length (f.length+1) _ HE7.out HWF.out HOKS.out (by rw [HE7.out];omega) (by rw [HE7.out];omega) HAT7.out).mono ?_;rintro e w5 ⟨u5,rfl,hrow5,hoks5,hext5⟩;have HM5:=Qq (show Vg w w5 u5 (Za (f++ [y]) f.length []).1 from Vg.before ⟨hrow5,hoks5,hext5⟩ HX4.out);obtain⟨A8,c8,rfl⟩:=Qt hrow5;clear hrow5 hoks5 hext5;by_cases hlong:200 < (Za (f++ [y]) f.length []).1.length
   ·have HLJ:=Qq (Qli HNE.out hlong);generalize (Za (f++ [y]) f.length []).1=cf at HM5 hlong;go_wp2_with fail;go_ret;exact⟨_,rfl,by rw [HJ.out,HLJ.out];exact(Vg.none_ _).after HM5.out.2.2⟩
   have HLJ:=Qq (Qep HNE.out hlong);generalize (Za (f++ [y]) f.length []).1=cf at HM5 hlong HLJ;go_wp2_with fail;go_ret;exact⟨_,rfl,by rw [HJ.out,HLJ.out];exact HM5.out⟩
  have HB0:=Qq (Qco hne);have hcb:(Zq y f.length !=0)=true:=by simpa using hne
  clear hne;go_wp2_with fail;refine(Nn y _ _).mono ?_;rintro e w1 ⟨rfl,hb⟩;have HX1:=Qq (HO.out.ext.trans hb);clear hb;go_wp2_with fail;go_ret;exact⟨_,rfl,by rw [HJ.out,HB0.out];exact(Vg.none_ _).after HX1.out⟩
end Go.Proofs.YtkmclcmnoicagaaGreatDoor
