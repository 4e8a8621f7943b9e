/- Checked lists are well formed; subformulas. -/
import Derived.Test.YtkmclcmnoicagaaGreatDoorK03
import Derived.Laws.StructEq
import Derived.Laws.Tables
import Derived.Laws.BitsAllLaws
import Derived.Laws.BitsLemmas
namespace Go.Proofs.YtkmclcmnoicagaaGreatDoor
set_option maxRecDepth 100000
set_option maxHeartbeats 128000000
theorem Lz:∀(l:List Nd) (a:Int),Je l a=0->∀(k:Nat) (n:Nd),l[k]?=some n->Zv n (a+k)=0
 |[],_,_,k,n,h=>by simp at h
 |m :: r,a,hc,k,n,h=>by
  unfold Je at hc;by_cases h0:Zv m a=0
  ·rw [h0]at hc;cases k with
   |zero =>
    simp only [List.getElem?_cons_zero,Option.some.injEq]at h;subst h
    simpa using h0
   |succ k =>
    have:=Lz r (a+1) (by simpa using hc) k n (by simpa using h);rw [<-this]
    congr 1
    omega
  have hb:(Zv m a !=0)=true:=by simpa using h0
  rw [hb]at hc;exact absurd hc h0
theorem Ia:∀(l:List Nd) (a:Int),(∀(k:Nat) (n:Nd),l[k]?=some n->Zv n (a+k)=0)->Je l a=0
 |[],_,_=>rfl
 |m :: r,a,h=>by
  unfold Je;have h0:Zv m a=0:=by simpa using h 0 m (by simp)
  rw [h0];have:=Ia r (a+1) fun k n hk=>by
   have:=h (k+1) n (by simpa using hk);rw [<-this]
   congr 1
   omega
  simpa using this
theorem Oo {n:Nd} {a:Int}(h:Zv n a=0):Jd n.op=true:=by
 cases ho:Jd n.op
 ·simp [Zv,ho]at h
 rfl
theorem Pd {n:Nd} {a:Int}(h:Zv n a=0):Ql (Qw n.op) n.x a=true/\Ql (Qc n.op) n.y a=true:=by
 have ho:=Oo h;cases hx:Ql (Qw n.op) n.x a
 ·simp [Zv,ho,hx]at h
 cases hy:Ql (Qc n.op) n.y a
 ·simp [Zv,ho,hx,hy]at h
 exact⟨rfl,rfl⟩
theorem Qdb {n:Nd} {a:Int}(h:Zv n a=0):Zd n=false/\Jt n=false:=by
 have ho:=Oo h;obtain⟨hx,hy⟩:=Pd h;cases hf:Zd n
 ·cases hr:Jt n
  ·exact⟨rfl,rfl⟩
  simp [Zv,ho,hx,hy,hf,hr]at h
 simp [Zv,ho,hx,hy,hf]at h
theorem Qke {n:Nd} {a:Int}(ho:Jd n.op=true)(hx:Ql (Qw n.op) n.x a=true)(hy:Ql (Qc n.op) n.y a=true)(hf:Zd n=false)(hr:Jt n=false):Zv n a=0:=by
 simp [Zv,ho,hx,hy,hf,hr]
theorem Jg {f:List Nd}(h:check f=0):0 < f.length/\f.length<=200/\Je f 0=0:=by
 unfold check at h;by_cases h0:f.length=0
 ·simp [h0]at h
 by_cases h1:200 < f.length
 ·simp [h0,h1]at h
 simp [h0,h1]at h;exact⟨by omega,by omega,h⟩
theorem Qrg {f:List Nd}(h:Je f 0=0):Wf f:=by
 intro i n hn;have h1:=Lz f 0 h i n hn;obtain⟨hx,hy⟩:=Pd h1;refine⟨fun e=> ?_,fun e=> ?_⟩
 ·rw [e]at hx;simp [Ql]at hx;omega
 rw [e]at hy;simp [Ql]at hy;omega
theorem Ym {f:List Nd}(h:check f=0):Wf f:=Qrg (Jg h).2.2
def Jn(f:List Nd)(z:Int):List Nd:=bif check f !=0||(decide (z < 0)||decide ((f.length:Int)<=z))then []else(Za f z.toNat []).1
def Qg(f:List Nd):List Nd:=Jn f (f.length - 1:Int)
def Zvh(a b:List Nd):Bool:=check a==0&&(check b==0&&decide (Qg a=Qg b))
def Vi(l:List Nd):Nat:=l.foldl (fun m n=>m|||(Vf n.op).toNat) 0
def Jm(f:List Nd):Nat:=Vi (Qg f)
theorem Qj7 {f:List Nd}(h:check f=0):Qg f=(Za f (f.length - 1) []).1:=by
 have hl:=(Jg h).1;unfold Qg Jn;have h1:decide ((f.length:Int) - 1 < 0)=false:=by simp;omega
 have h2:decide ((f.length:Int)<=(f.length:Int) - 1)=false:=by simp;omega
 rw [h,h1,h2];have:((f.length:Int) - 1).toNat=f.length - 1:=by omega
 rw [this];rfl
theorem Qqr {f:List Nd}(h:check f≠0):Qg f= []:=by
 unfold Qg Jn;have:(check f !=0)=true:=by simpa using h
 rw [this];rfl
open Go.RowKit
def Fml(w:World)(v:Value)(l:List Nd):Prop:=Nds w v l/\∀n∈l,n.ok
def Yo(w w':World)(v:Value)(l:List Nd):Prop:=w'.ownsRow w.heap.size 71 6 v l.length (l.flatMap Nd.cells)/\(∀n∈l,n.ok)/\Ext w w'
theorem Fml.ext {w w':World} {v:Value} {l:List Nd}(h:Fml w v l)(he:Ext w w'):Fml w' v l:=⟨h.1.ext he,h.2⟩
theorem Qb1:∀(l:List Nd) (k:Nat) (n:Nd) (j:Nat),l[k]?=some n->j < 6->(l.flatMap Nd.cells)[k*6+j]?=n.cells[j]?
 |[],k,n,j,h,_=>by simp at h
 |m :: r,0,n,j,h,hj=>by
  simp only [List.getElem?_cons_zero,Option.some.injEq]at h;subst h;rw [List.flatMap_cons,List.getElem?_append_left (by simp [Nd.cells];omega)];simp
 |m :: r,k+1,n,j,h,hj=>by
  rw [List.flatMap_cons,List.getElem?_append_right (by simp [Nd.cells];omega)];have e:(k+1)*6+j - m.cells.length=k*6+j:=by simp [Nd.cells];omega
  rw [e];exact Qb1 r k n j (by simpa using h) hj
theorem Pb {w:World} {base:Nat} {v:Value} {l:List Nd}(h:w.ownsRow base 71 6 v l.length (l.flatMap Nd.cells)):Nds w v l:=by
 have mR:=h;obtain⟨_,h2⟩:=h;rcases h2 with⟨rfl,h0⟩|⟨g,cap,cur,rfl,hb,hg,hn,xR,pC,lS⟩
 ·have:l= []:=List.length_eq_zero_iff.1 h0;subst this;exact⟨none,0,rfl,Nat.le_refl _,by unfold maxLen;omega,fun h=>absurd rfl h⟩
 refine⟨some ⟨g,0,none⟩,cap,rfl,hn,xR,fun zQ=>⟨_,rfl,Qf hg,fun k n hk=> ?_⟩⟩;have wO:k < l.length:=(List.getElem?_eq_some_iff.1 hk).1;have cell:∀j,j < 6->∀u,n.cells[j]?=some u->w.cell? ⟨g,k*6+j,none⟩=some u:=by
  intro j hj u hu;have h1:=Qb1 l k n j hk hj;rw [<-lS,hu]at h1;have h2:cur[k*6+j]?=some u:=by
   rw [List.getElem?_take]at h1
   split at h1
   ·simpa using h1
   cases h1
  simp [World.cell?,hg,h2]
 have e0:((⟨g,0,none⟩:Addr).add (k*6))=⟨g,k*6,none⟩:=by
  unfold Addr.add
  split
  ·rename_i h;rw [h]
  simp
 rw [e0];exact⟨cell 0 (by omega) _ rfl,cell 1 (by omega) _ rfl,cell 2 (by omega) _ rfl,cell 3 (by omega) _ rfl,cell 4 (by omega) _ rfl,cell 5 (by omega) _ rfl⟩
theorem Yo.fml {w w':World} {v:Value} {l:List Nd}(h:Yo w w' v l):Fml w' v l:=⟨Pb h.1,h.2.1⟩
theorem Yo.ext {w w':World} {v:Value} {l:List Nd}(h:Yo w w' v l):Ext w w':=h.2.2
theorem Yo.none_(w:World):Yo w w (.slice none 0 0) []:=⟨World.ownsRow_nil _ _ _ _,by simp,Qz⟩
theorem Kt {w:World} {b b':Nat} {e:TypeId} {size n:Nat} {v:Value} {xs:List Value}(h:w.ownsRow b e size v n xs)(hb:b'<=b):w.ownsRow b' e size v n xs:=by
 obtain⟨h1,h2⟩:=h;refine⟨h1,?_⟩;rcases h2 with h2|⟨g,cap,cur,e,h3,h4⟩
 ·exact .inl h2
 exact .inr ⟨g,cap,cur,e,Qx hb h3,h4⟩
theorem Yo.before {w0 w w':World} {v:Value} {l:List Nd}(h:Yo w w' v l)(he:Ext w0 w):Yo w0 w' v l:=⟨Kt h.1 he.size,h.2.1,he.trans h.2.2⟩
theorem Yo.after {w w' w2:World} {v:Value} {l:List Nd}(h:Yo w w' v l)(he:Ext w' w2):Yo w w2 v l :=
 ⟨Zp h.1 fun g hg=>he.block (h.1.lt g hg).2,h.2.1,h.2.2.trans he⟩
theorem Ws(v:Value)(l:List Nd)(z:Int)(w:World)(h:Fml w v l):
 Calls Tryz.prog 147 #[v,.int .i64 z] w fun e w'=>∃u,e=.returned u/\Yo w w' u (Jn l z):=by
 have H:=Qq h;obtain⟨⟨A,c,rfl,yM⟩,zO⟩:=h;have kA:=Qq yM;clear yM zO;by_cases mU:check l≠0\/z < 0\/(l.length:Int)<=z
 ·have HR:=Qq (show Jn l z= [] by
   unfold Jn;rcases mU with h|h|h
   ·have:(check l !=0)=true:=by simpa using h
    rw [this];rfl
   ·simp [h]
   simp [h])
  by_cases hc:check l=0
  ·have YI:z < 0\/(l.length:Int)<=z:=by
    rcases mU with h|h
    ·exact absurd hc h
    exact h
   have HC:=Qq hc;clear hc mU;by_cases hz:z < 0
   ·clear YI;go_enter Tryz.func147,Tryz.ntmps147;go_wp2_with(go_at_call 41;refine(Vh _ l _ H.out.1).mono ?_;rintro e w1 ⟨rfl,hb⟩;rw [HC.out]);go_ret;exact⟨_,rfl,by rw [HR.out];exact(Yo.none_ _).after hb⟩
   have hl:(l.length:Int)<=z:=by omega
   clear YI;go_enter Tryz.func147,Tryz.ntmps147;go_wp2_with(go_at_call 41;refine(Vh _ l _ H.out.1).mono ?_;rintro e w1 ⟨rfl,hb⟩;rw [HC.out]);go_ret;exact⟨_,rfl,by rw [HR.out];exact(Yo.none_ _).after hb⟩
  have yT:(check l !=0)=true:=by simpa using hc
  clear mU hc;go_enter Tryz.func147,Tryz.ntmps147;go_wp2_with(go_at_call 41;refine(Vh _ l _ H.out.1).mono ?_;rintro e w1 ⟨rfl,hb⟩);go_ret;exact⟨_,rfl,by rw [HR.out];exact(Yo.none_ _).after hb⟩
 have hc:check l=0:=by
  by_cases e:check l=0
  ·exact e
  exact absurd (.inl e) mU
 have zB:0<=z:=by
  by_cases e:z < 0
  ·exact absurd (.inr (.inl e)) mU
  omega
 have nU:z < l.length:=by
  by_cases e:(l.length:Int)<=z
  ·exact absurd (.inr (.inr e)) mU
  omega
 clear mU;obtain⟨r,rfl⟩:=Int.eq_ofNat_of_zero_le zB;have hr:r < l.length:=by omega
 have HR:=Qq (show Jn l r=(Za l r []).1 by
  unfold Jn;rw [hc];have h1:decide ((r:Int) < 0)=false:=by simp
  have h2:decide ((l.length:Int)<=(r:Int))=false:=by simp;omega
  rw [h1,h2]
  rfl)
 have HC:=Qq hc;have HL:=(Jg hc).2.1;clear hc;go_enter Tryz.func147,Tryz.ntmps147;go_wp2_with(go_at_call 41;refine(Vh _ l _ H.out.1).mono ?_;rintro e w1 ⟨rfl,hb⟩;rw [HC.out]);have HB:=Qq hb;clear hb;refine(El l A c r _ (Ym HC.out) H.out.2 (by omega) hr (kA.out.ext HB.out)).mono ?_;rintro e w2 ⟨u,rfl,zP,eC,yU⟩;have HM:=Qq (show Yo w w2 u (Jn l r) by rw [HR.out];exact Yo.before ⟨zP,eC,yU⟩ HB.out);clear zP eC yU;go_wp2_with fail;go_ret;exact⟨_,rfl,HM.out⟩
theorem Fv(v:Value)(l:List Nd)(w:World)(h:Fml w v l):
 Calls Tryz.prog 118 #[v] w fun e w'=>∃u,e=.returned u/\Yo w w' u (Qg l):=by
 have H:=Qq h;obtain⟨⟨A,c,rfl,yM⟩,zO⟩:=h;have hl:=yM.1;have hm:=yM.2.1;unfold maxLen at hm;clear yM zO;go_enter Tryz.func118,Tryz.ntmps118;go_wp2_with fail;refine(Ws _ l _ _ H.out).mono ?_;rintro e w2 ⟨u,rfl,hm⟩;have HM:=Qq hm;clear hm;go_wp2_with fail;go_ret;exact⟨_,rfl,HM.out⟩
theorem Qmw(a b:Nd)(w:World):
 (Op.equalIn 10000 71 (.agg #[.int .i64 a.op,.int .i64 a.i,.int .i64 a.e,.int .i64 a.g,.int .i64 a.x,.int .i64 a.y]) (.agg #[.int .i64 b.op,.int .i64 b.i,.int .i64 b.e,.int .i64 b.g,.int .i64 b.x,.int .i64 b.y])).run Tryz.prog w=.ok (decide (a=b)) w:=by
 have u3:=Tryz.underlying3;have a3:=Tryz.isAgg3;have z3:=Tryz.sizeOf3;have hS:Tryz.prog.underlying 71=some (.struct (Tryz.prog.fieldsOf 71)):=by kernel_rfl
 have hp:Tryz.prog.stoodInHeld 71=false:=by kernel_rfl
 rw [show(10000:Nat)=9999+1 from rfl,run_equalIn_agg w 9999 71 _ _ hS hp];simp only [Program.fieldsOf,Tryz.underlying71];go_simp;cases a with
 |mk a0 a1 a2 a3 a4 a5 =>
  cases b with
  |mk b0 b1 b2 b3 b4 b5 =>
   simp only [Nd.mk.injEq];by_cases h0:a0=b0 <;> by_cases h1:a1=b1 <;> by_cases h2:a2=b2 <;> by_cases h3:a3=b3 <;> by_cases h4:a4=b4 <;> by_cases h5:a5=b5 <;> simp [h0,h1,h2,h3,h4,h5]
theorem Kk {α:Type} {l:List α} {k:Nat} {a:α}(h:l[k]?=some a):l.take (k+1)=l.take k++ [a]:=by
 rw [List.take_add_one,h];rfl
theorem Qdy {α:Type} {a b:List α} {k:Nat} {x y:α}(ha:a[k]?=some x)(hb:b[k]?=some y)(zQ:x≠y):a≠b:=by
 intro e;rw [e,hb]at ha;exact zQ (Option.some.inj ha).symm
theorem Qtd(v1 v2:Value)(l1 l2:List Nd)(w:World)(h1:Nds w v1 l1)(h2:Nds w v2 l2):
 Calls Tryz.prog 180 #[v1,v2] w fun e w'=>e=.returned (.bool (decide (l1=l2)))/\Ext w w':=by
 obtain⟨A1,c1,rfl,U6,MM,cJ⟩:=h1;obtain⟨A2,c2,rfl,YF,eH,kN⟩:=h2;unfold maxLen at MM eH;by_cases hl:l1.length=l2.length
 ·have bF:=Qq cJ;have bE:=Qq kN;have HL:=Qq hl;have eb:((l1.length:Int) !=(l2.length:Int))=false:=by simp [hl]
  clear cJ kN hl;go_enter Tryz.func180,Tryz.ntmps180;go_wp2_with fail;go_loopw [13] (fun i wr=>∃k:Nat,k<=l1.length/\i=.int .i64 k/\Hid (l1.take k=l2.take k)/\Ext w wr) (fun i _=>l1.length - (intOf i).toNat)
  case atStart=>exact⟨0,Nat.zero_le _,rfl,Qq rfl,Qz⟩
  case round =>
   obtain⟨k,hk,rfl,lS,yU⟩:=hrel;by_cases hlt2:k < l1.length
   ·have yK:k < l2.length:=by have:=HL.out;omega
    obtain⟨a,ha⟩:∃a,l1[k]?=some a:=⟨_,Qv hlt2⟩;obtain⟨b,hb⟩:∃b,l2[k]?=some b:=⟨_,Qv yK⟩;obtain⟨ad1,rfl,yT,xS⟩:=bF.out (by intro e;rw [e]at hlt2;simp at hlt2);obtain⟨ad2,rfl,wZ,tO⟩:=bE.out (by intro e;rw [e]at yK;simp at yK);obtain⟨a0,a1,a2,a3,a4,a5⟩:=(xS k a ha).keep fun p hp=>yU.cell (p:=p) (by rw [hp,Qr];exact yT)
    obtain⟨b0,b1,b2,b3,b4,b5⟩:=(tO k b hb).keep fun p hp=>yU.cell (p:=p) (by rw [hp,Qr];exact wZ)
    have jI:(0:Int)<=(k:Int):=by omega
    have iJ:(k:Int) < (l1.length:Int):=by omega
    have eP:(k:Int) < (l2.length:Int):=by omega
    have UQ:=fun W=>Qmw a b W
    have HA:=Qq ha;have HB:=Qq hb;clear ha hb xS tO;by_cases qT:a=b
    ·have hd:decide (a=b)=true:=by simpa using qT
     have HT:Hid (l1.take (k+1)=l2.take (k+1)):=Qq (by rw [Kk HA.out,Kk HB.out,lS.out,qT]);clear qT;go_wp2_with fail;go_quiet (fail);go_wp2_with fail;go_roundw
     case rel=>exact⟨k+1,by omega,by go_num,HT,yU.drewN _⟩
     case measure=>simp [intOf];omega
    have hd:decide (a=b)=false:=by simpa using qT
    have HR:Hid (decide (l1=l2)=false):=Qq (decide_eq_false (Qdy HA.out HB.out qT));clear qT;go_wp2_with fail;go_quiet (fail);go_wp2_with fail;go_ret;exact⟨by rw [HR.out];rfl,yU.drewN _⟩
   obtain rfl:l1.length=k:=by omega
   have HR:Hid (decide (l1=l2)=true):=Qq (decide_eq_true (by
    have h:=lS.out;rw [List.take_of_length_le (Nat.le_refl _),HL.out,List.take_of_length_le (Nat.le_refl _)]at h;exact h))
   go_wp2_with fail;go_ret;exact⟨by rw [HR.out];rfl,yU⟩
 have eb:((l1.length:Int) !=(l2.length:Int))=true:=by simp;omega
 have HR:Hid (decide (l1=l2)=false):=Qq (decide_eq_false fun e=>hl (by rw [e]));clear hl cJ kN;go_enter Tryz.func180,Tryz.ntmps180;go_wp2_with fail;go_ret;exact⟨by rw [HR.out];rfl,Qz⟩
theorem Ho(a:Nat)(ha:a < 9223372036854775808):(BitVec.ofInt 64 (a:Int)).toNat=a:=by
 rw [BitVec.ofInt_natCast,BitVec.toNat_ofNat];exact Nat.mod_eq_of_lt (by omega)
theorem Bi(a b:Nat)(ha:a < 9223372036854775808)(hb:b < 9223372036854775808):bits .or .i64 (a:Int) (b:Int)=((a|||b:Nat):Int):=by
 have hx:a|||b < 2^63:=Nat.or_lt_two_pow (by omega) (by omega);show IntKind.i64.wrap ((BitVec.ofInt 64 (a:Int)|||BitVec.ofInt 64 (b:Int)).toNat:Int)=_;rw [BitVec.toNat_or,Ho a ha,Ho b hb,IntKind.wrap_i64];omega
theorem Qqa(op:Int):0<=Vf op/\Vf op<=256:=by
 unfold Vf
 repeat' split
 all_goals omega
theorem Iw(l:List Nd)(n:Nd):Vi (l++ [n])=Vi l|||(Vf n.op).toNat:=by simp [Vi,List.foldl_append]
theorem Mj(l:List Nd):Vi l < 512:=by
 have:∀(l:List Nd) (m:Nat),m < 512->l.foldl (fun m n=>m|||(Vf n.op).toNat) m < 512:=by
  intro l
  induction l with
  |nil=>intro m h;exact h
  |cons a r ih =>
   intro m h;refine ih _ (Nat.or_lt_two_pow (n:=9) h ?_);have:=Qqa a.op;omega
 exact this l 0 (by omega)
theorem Qft(n:Nd)(u0 u1 u2 u3 u4 u5:Bool)(g:Int)(w:World):
 Calls Tryz.prog 117 #[.agg #[.int .i64 n.op,.int .i64 n.i,.int .i64 n.e,.int .i64 n.g,.int .i64 n.x,.int .i64 n.y],.agg #[.bool u0,.bool u1,.bool u2,.bool u3,.bool u4,.bool u5,.int .i64 g]] w
  fun e w'=>e=.returned (.int .i64 g)/\Ext w w':=by
 go_enter Tryz.func117,Tryz.ntmps117;go_wp2_with fail;go_ret;exact⟨rfl,(Qz.alloc _).alloc _⟩
theorem Qhb(v:Value)(l:List Nd)(w:World)(h:Fml w v l):
 Calls Tryz.prog 116 #[v,.func (Fn.func 117) #[] #[]] w fun e w'=>e=.returned (.int .i64 (Jm l:Nat))/\Ext w w':=by
 have H:=Qq h;clear h;go_enter Tryz.func116,Tryz.ntmps116;go_wp2_with fail;refine(Fv _ l _ H.out).mono ?_;rintro e w1 ⟨u,rfl,hm⟩;have HX:=Qq hm.2.2;obtain⟨A,c,rfl,xR,yO,zM⟩:=hm.fml.1;unfold maxLen at yO;have HR:=Qq zM;obtain⟨cl,yS⟩:∃cl,cl=Qg l:=⟨_,rfl⟩;have tX:=Qq (show Jm l=Vi cl by rw [yS];rfl);rw [<-yS]at HR xR;rw [<-yS];clear hm zM yS;go_wp2_with fail;go_loopw [5,13] (fun out i wr=>∃k:Nat,k<=cl.length/\i=.int .i64 k/\out=.int .i64 (Vi (cl.take k):Nat)/\Ext w1 wr) (fun _ i _=>cl.length - (intOf i).toNat)
 case atStart=>exact⟨0,Nat.zero_le _,rfl,rfl,Qz⟩
 case round =>
  obtain⟨k,hk,rfl,rfl,yU⟩:=hrel;by_cases hlt2:k < cl.length
  ·obtain⟨a,ha⟩:∃a,cl[k]?=some a:=⟨_,Qv hlt2⟩;obtain⟨ad,rfl,yT,xS⟩:=HR.out (by intro e;rw [e]at hlt2;simp at hlt2);obtain⟨a0,a1,a2,a3,a4,a5⟩:=(xS k a ha).keep fun p hp=>yU.cell (p:=p) (by rw [hp,Qr];exact yT)
   have yF:=Qqa a.op;obtain⟨fa,mN⟩:=Int.eq_ofNat_of_zero_le yF.1;have uL:=Bi (Vi (cl.take k)) fa (by have:=Mj (cl.take k);omega) (by omega);have HS:Hid (Vi (cl.take (k+1))=(Vi (cl.take k)|||fa)):=Qq (by rw [Kk ha,Iw,mN];rfl);have lH:=Qq mN;generalize Vi (cl.take k)=m at uL HS;clear ha xS yF mN;go_wp2_with(first|(go_at_call 161;refine(Yw _ _ _ _ _ _ _ _ rfl rfl rfl rfl rfl rfl rfl _).mono ?_;rintro e w2 ⟨rfl,hb⟩;rw [lH.out];have HB:=Qq hb;obtain⟨hc,_,zB⟩:=hb.facts;clear hb;have hz:wr.heap.size < w2.heap.size:=by { simp at zB;omega };clear zB)|(go_at_call 117;refine(Qft a _ _ _ _ _ _ _ _).mono ?_;rintro e w3 ⟨rfl,uZ⟩))
   go_roundw
   case rel=>exact⟨k+1,by omega,by go_num,by rw [HS.out],(((yU.alloc _).trans HB.out).alloc _).trans uZ⟩
   case measure=>simp [intOf];omega
  obtain rfl:cl.length=k:=by omega
  go_wp2_with fail;go_ret;exact⟨Kh (by rw [tX.out,List.take_of_length_le (Nat.le_refl _)]),HX.out.trans yU⟩
theorem Na(v:Value)(l:List Nd)(w:World)(h:Fml w v l):
 Calls Tryz.prog 55 #[v] w fun e w'=>e=.returned (.int .i64 (Jm l:Nat))/\Ext w w':=by
 have H:=Qq h;clear h;go_enter Tryz.func55,Tryz.ntmps55;go_wp2_with(go_at_call 116;refine(Qhb _ l _ H.out).mono ?_;rintro e w3 ⟨rfl,uZ⟩);go_ret;exact⟨rfl,uZ⟩
theorem Qre {f:List Nd}(hf:Wf f):∀(i:Nat) (o:List Nd),i < f.length->∀m∈(Za f i o).1,m∈o\/∃n∈f,∃k1 k2,m=n.with_ k1 k2:=by
 intro i
 induction i using Nat.strongRecOn with
 |_ i ih =>
  intro o hi m hm;obtain⟨n,hn⟩:∃n,f[i]?=some n:=⟨_,Qv hi⟩;obtain⟨hx,hy⟩:=hf i n hn;have p1:∀o,∀m∈(opX f n o).1,m∈o\/∃n∈f,∃k1 k2,m=n.with_ k1 k2:=by
   intro o m hm;unfold opX at hm
   split at hm
   ·rename_i h1;have:=hx h1;exact ih _ (by omega) _ (by omega) m hm
   exact .inl hm
  have p2:∀o,∀m∈(opY f n o).1,m∈o\/∃n∈f,∃k1 k2,m=n.with_ k1 k2:=by
   intro o m hm;unfold opY at hm
   split at hm
   ·rename_i h1;have:=hy h1;exact ih _ (by omega) _ (by omega) m hm
   exact .inl hm
  rw [Ff hf hn]at hm;have oR:m∈(opY f n (opX f n o).1).1\/m=n.with_ (opX f n o).2 (opY f n (opX f n o).1).2:=by
   simp only [Zo]at hm
   split at hm
   ·exact .inl hm
   simpa using hm
  rcases oR with oR|rfl
  ·rcases p2 _ m oR with h|h
   ·exact p1 _ m h
   exact .inr h
  exact .inr ⟨n,List.mem_of_getElem? hn,_,_,rfl⟩
theorem Cg {o:List Nd} {m:Nd}(ho:Wf o)(hx:Qw m.op=true->0<=m.x/\m.x < o.length)(hy:Qc m.op=true->0<=m.y/\m.y < o.length):Wf (o++ [m]):=by
 intro i n hn;by_cases h:i < o.length
 ·rw [List.getElem?_append_left h]at hn;exact ho i n hn
 rw [List.getElem?_append_right (by omega)]at hn;have hi:i=o.length:=by
  by_cases e:i - o.length=0
  ·omega
  rw [List.getElem?_eq_none (by simp;omega)]at hn;cases hn
 subst hi;simp at hn;subst hn;exact⟨hx,hy⟩
theorem Qhd {a b:List Nd}(ha:Wf a)(hb:∀(i:Nat) (n:Nd),b[i]?=some n->(Qw n.op=true->0<=n.x/\n.x < (a.length+i:Nat))/\(Qc n.op=true->0<=n.y/\n.y < (a.length+i:Nat))):Wf (a++b):=by
 intro i n hn;by_cases h:i < a.length
 ·rw [List.getElem?_append_left h]at hn;exact ha i n hn
 rw [List.getElem?_append_right (by omega)]at hn;have:=hb _ n hn;have e:a.length+(i - a.length)=i:=by omega
 rw [e]at this;exact this
theorem Ds:Wf []:=fun i n h=>by simp at h
theorem Vn {op:Int}(h:Qc op=true):Qw op=true:=by
 unfold Qw;simp [Qc]at h;simp;omega
theorem Qm5 {f:List Nd}(hf:Wf f):∀(i:Nat) (o:List Nd),i < f.length->Wf o->Wf (Za f i o).1:=by
 intro i
 induction i using Nat.strongRecOn with
 |_ i ih =>
  intro o hi ho;obtain⟨n,hn⟩:∃n,f[i]?=some n:=⟨_,Qv hi⟩;obtain⟨hx,hy⟩:=hf i n hn;have w1:Wf (opX f n o).1:=by
   unfold opX
   split
   ·rename_i h1;have:=hx h1;exact ih _ (by omega) _ (by omega) ho
   exact ho
  have w2:Wf (opY f n (opX f n o).1).1:=by
   unfold opY
   split
   ·rename_i h1;have:=hy h1;exact ih _ (by omega) _ (by omega) w1
   exact w1
  rw [Ff hf hn];simp only [Zo]
  split
  ·exact w2
  refine Cg w2 (fun h=> ?_) (fun h=> ?_)
  ·have h':Qw n.op=true:=h;have hp:=Iq hf hn (opX f n o).1;have hl:(opX f n o).2 < (opX f n o).1.length:=by
    have:=hx h';unfold opX;rw [if_pos h'];exact Pi hf _ _ (by omega)
   have:=hp.length_le;simp only [Nd.with_,h',cond_true];omega
  have h':Qc n.op=true:=h;have hl:(opY f n (opX f n o).1).2 < (opY f n (opX f n o).1).1.length:=by
   have:=hy h';unfold opY;rw [if_pos h'];exact Pi hf _ _ (by omega)
  simp only [Nd.with_,h',cond_true];omega
def Zh(n:Nd):Prop:=Jd n.op=true/\Zd n=false/\Jt n=false/\(Qw n.op=false->n.x=0)/\(Qc n.op=false->n.y=0)
theorem Qpb {n:Nd} {a:Int}(h:Zv n a=0):Zh n:=by
 obtain⟨hx,hy⟩:=Pd h;obtain⟨hf,hr⟩:=Qdb h;refine⟨Oo h,hf,hr,fun e=> ?_,fun e=> ?_⟩
 ·rw [e]at hx;simpa [Ql]using hx
 rw [e]at hy;simpa [Ql]using hy
theorem Zh.err {n:Nd} {a:Nat}(h:Zh n)(hx:Qw n.op=true->0<=n.x/\n.x < a)(hy:Qc n.op=true->0<=n.y/\n.y < a):Zv n a=0:=by
 obtain⟨ho,hf,hr,h1,h2⟩:=h;refine Qke ho ?_ ?_ hf hr
 ·cases e:Qw n.op
  ·simp [Ql,h1 e]
  have:=hx e;simp [Ql];omega
 cases e:Qc n.op
 ·simp [Ql,h2 e]
 have:=hy e;simp [Ql];omega
theorem Zh.with_ {n:Nd}(h:Zh n)(k1 k2:Nat):Zh (n.with_ k1 k2):=by
 obtain⟨ho,hf,hr,h1,h2⟩:=h;refine⟨ho,hf,hr,fun e=> ?_,fun e=> ?_⟩
 ·have e':Qw n.op=false:=e;simp only [Nd.with_,e',cond_false];exact h1 e'
 have e':Qc n.op=false:=e;simp only [Nd.with_,e',cond_false];exact h2 e'
theorem Qej {f:List Nd}(hw:Wf f)(hh:∀n∈f,Zh n):Je f 0=0:=by
 refine Ia f 0 fun k n hk=> ?_
 obtain⟨hx,hy⟩:=hw k n hk;have:=(hh n (List.mem_of_getElem? hk)).err hx hy
 simpa using this
theorem Qyp {f:List Nd}(h0:f≠ [])(hl:f.length<=200)(hw:Wf f)(hh:∀n∈f,Zh n):check f=0:=by
 unfold check;have h1:f.length≠0:=by simpa using h0
 have h2:¬200 < f.length:=by omega
 simp [h1,h2,Qej hw hh]
theorem Ni {f:List Nd}(h:check f=0):∀n∈f,Zh n:=by
 intro n hn;obtain⟨i,hi⟩:=List.getElem?_of_mem hn;exact Qpb (Lz f 0 (Jg h).2.2 i n hi)
theorem Jf {f:List Nd}(h:check f=0):Wf (Qg f)/\(Qg f).length<=f.length/\0 < (Qg f).length/\(∀n∈Qg f,Zh n):=by
 have hw:=Ym h;have hl:=(Jg h).1;rw [Qj7 h];refine⟨Qm5 hw _ _ (by omega) Ds,?_,?_,?_⟩
 ·have h1:=Qzg hw (f.length - 1) [] (by omega);have h2:=Wb f;have h3:=Gs f (Za f (f.length - 1) []).1;omega
 ·have:=Pi hw (f.length - 1) [] (by omega);omega
 intro m hm;rcases Qre hw _ _ (by omega) m hm with h'|⟨n,hn,k1,k2,rfl⟩
 ·cases h'
 exact(Ni h n hn).with_ k1 k2
theorem Xi {f:List Nd}(h:check f=0):check (Qg f)=0:=by
 obtain⟨a,b,c,d⟩:=Jf h;have:=(Jg h).2.1;exact Qyp (by intro e;rw [e]at c;simp at c) (by omega) a d
def Ja(d:Nat)(n:Nd):Nd:= { n with x:=bif Qw n.op then n.x+d else n.x,y:=bif Qc n.op then n.y+d else n.y }
def Pp(k:Nat)(x:Nd)(len:Nat):Nd:=bif k==0 then { x with x:=(len:Int) - 1 } else { x with y:=(len:Int) - 1 }
def Bs:List (List Nd)->Nat->List Nd->Nd->List Nd×Nd
 |[],_,f,x=>(f,x)
 |o :: r,k,f,x=>Bs r (k+1) (f++(Qg o).map (Ja f.length)) (Pp k x (f++(Qg o).map (Ja f.length)).length)
def Sy(f:List Nd)(y:Nd):List Nd :=
 bif Zv y f.length !=0 then []else bif decide (200 < (Za (f++ [y]) f.length []).1.length)then []else(Za (f++ [y]) f.length []).1
def Vg(x:Nd)(ops:List (List Nd)):List Nd:=bif ops.any (fun o=>check o !=0)then []else Sy (Bs ops 0 [] x).1 (Bs ops 0 [] x).2
theorem Qvc {a b:List Nd}(ha:Wf a)(hb:Wf b):Wf (a++b.map (Ja a.length)):=by
 refine Qhd ha fun i n hn=> ?_
 rw [List.getElem?_map]at hn;obtain⟨m,hm,rfl⟩:=Option.map_eq_some_iff.1 hn;obtain⟨hx,hy⟩:=hb i m hm;refine⟨fun e=> ?_,fun e=> ?_⟩
 ·have e':Qw m.op=true:=e;have:=hx e';simp only [Ja,e',cond_true];omega
 have e':Qc m.op=true:=e;have:=hy e';simp only [Ja,e',cond_true];omega
theorem Qni(ops:List (List Nd))(k:Nat)(o:List Nd)(f:List Nd)(x:Nd)(h:ops[k]?=some o):
 Bs (ops.drop k) k f x=Bs (ops.drop (k+1)) (k+1) (f++(Qg o).map (Ja f.length)) (Pp k x (f++(Qg o).map (Ja f.length)).length):=by
 obtain⟨hk,rfl⟩:=List.getElem?_eq_some_iff.1 h;rw [List.drop_eq_getElem_cons hk];rfl
theorem Qha(ops:List (List Nd))(k:Nat)(o:List Nd)(h:ops[k]?=some o):(ops.drop k).any (fun o=>check o !=0)=(check o !=0||(ops.drop (k+1)).any (fun o=>check o !=0)):=by
 obtain⟨hk,rfl⟩:=List.getElem?_eq_some_iff.1 h;rw [List.drop_eq_getElem_cons hk];rfl
structure Gi (w w':World) (v v':Value):Prop where
 os:w'.os=w.os
 tape:w'.tape=w.tape
 output:w'.output=w.output
 size:w.heap.size<=w'.heap.size
 block:∀k,k < w.heap.size->v.ownBlock≠some k->w'.heap[k]?=w.heap[k]?
 row:∀g,v'.ownBlock=some g->v.ownBlock=some g\/w.heap.size<=g
section
variable {a b c w w':World} {va vb vc v v':Value}
theorem Gi.refl(w:World)(v:Value):Gi w w v v:=⟨rfl,rfl,rfl,Nat.le_refl _,fun _ _ _=>rfl,fun _ h=> .inl h⟩
theorem Gi.trans(h:Gi a b va vb)(k:Gi b c vb vc):Gi a c va vc :=
 ⟨k.os.trans h.os,k.tape.trans h.tape,k.output.trans h.output,Qx h.size k.size,
  fun i hi h4=>(k.block i (Qy hi h.size) (fun e=>by
   rcases h.row i e with e'|e'
   ·exact h4 e'
   omega)).trans (h.block i hi h4),
  fun g hg=>by
   rcases k.row g hg with e|e
   ·exact h.row g e
   exact .inr (Qx h.size e)⟩
theorem Gi.ext(h:Gi a b va vb)(e:Ext b c):Gi a c va vb:=h.trans ⟨e.os,e.tape,e.output,e.size,fun _ hk _=>e.block hk,fun _ h=> .inl h⟩
theorem Gi.appended(h:Gi a b va v)(hg:b.grownBy w' v.ownBlock)(yM:v'.ownBlock=v.ownBlock\/v'.ownBlock=some b.heap.size):Gi a w' va v' :=
 h.trans ⟨hg.os,hg.tape,hg.output,hg.size,fun k hk zQ=>hg.block k hk (fun e=>zQ e.symm),fun g vZ=>by
  rcases yM with e|e
  ·exact .inl (by rw [<-e];exact vZ)
  rw [e]at vZ;injection vZ with vZ;exact .inr (by omega)⟩
theorem Gi.cell(h:Gi a b va vb) {p:Addr}(hp:p.block < a.heap.size)(zQ:va.ownBlock≠some p.block):b.cell? p=a.cell? p:=World.cell?_of_block (h.block _ hp zQ)
theorem Gi.below {B:Nat}(h:Gi a b va vb)(hB:B<=a.heap.size)(hr:∀g,va.ownBlock=some g->B<=g):Below B a b :=
 ⟨h.os,h.tape,h.output,h.size,fun k hk=>h.block k (by omega) (fun e=>by have:=hr k e;omega)⟩
theorem Zf {base:Nat} {e:TypeId} {size n:Nat} {xs:List Value}(h:w.ownsRow base e size v n xs)(he:Ext w w'):w'.ownsRow base e size v n xs:=Zp h fun g hg=>he.block (h.lt g hg).2
theorem Wn(w:World)(cs:Array Value)(t:TypeId):∀j u,cs.toList[j]?=some u->(w.alloc (.cells cs t)).cell? ((⟨w.heap.size,0,none⟩:Addr).add j)=some u:=by
 intro j u hj;have h:=heap_alloc_new w (.cells cs t);have e:((⟨w.heap.size,0,none⟩:Addr).add j)=⟨w.heap.size,j,none⟩:=by
  unfold Addr.add
  split
  ·rename_i h0;rw [h0]
  simp
 rw [e];simp only [World.cell?,h];rw [<-hj];simp
theorem Zm(w:World)(cs:Array Value)(t:TypeId) {g:Nat}(hg:g=w.heap.size):∀j u,cs.toList[j]?=some u->(w.alloc (.cells cs t)).cell? ((⟨g,0,none⟩:Addr).add j)=some u:=by
 subst hg;exact Wn w cs t
end
def Qv5(w:World)(A:Option Addr)(c:Nat)(ops:List (List Nd)):Prop :=
 ops.length<=c/\c<=maxLen/\(ops≠ []->∃ad,A=some ad/\ad.block < w.heap.size/\∀k l,ops[k]?=some l->∃u,w.cell? (ad.add k)=some u/\Fml w u l)
def Bp(w:World)(v:Value)(ops:List (List Nd)):Prop:=∃A c,v=.slice A ops.length c/\Qv5 w A c ops
theorem Qv5.ext {w w':World} {A:Option Addr} {c:Nat} {ops:List (List Nd)}(h:Qv5 w A c ops)(he:Ext w w'):Qv5 w' A c ops :=
 ⟨h.1,h.2.1,fun hn=>by
  obtain⟨ad,e,zG,hc⟩:=h.2.2 hn;refine⟨ad,e,Qy zG he.size,fun k l hk=> ?_⟩;obtain⟨u,hu,hf⟩:=hc k l hk;exact⟨u,(he.cell (Qj zG)).trans hu,hf.ext he⟩⟩
theorem Bp.ext {w w':World} {v:Value} {ops:List (List Nd)}(h:Bp w v ops)(he:Ext w w'):Bp w' v ops:=by
 obtain⟨A,c,e,h⟩:=h;exact⟨A,c,e,h.ext he⟩
structure Qqz (w wr:World) (ops:List (List Nd)) (x:Nd) (k:Nat) (f:List Nd) (y:Nd) (v:Value):Prop where
 row:wr.ownsRow (w.heap.size+1) 71 6 v f.length (f.flatMap Nd.cells)
 ext:Ext w wr
 box:wr.heap[w.heap.size]?=some (.cells #[.int .i64 y.op,.int .i64 y.i,.int .i64 y.e,.int .i64 y.g,.int .i64 y.x,.int .i64 y.y] 71 (0,0))
 lay:Bs (ops.drop k) k f y=Bs ops 0 [] x
 any:ops.any (fun o=>check o !=0)=(ops.drop k).any (fun o=>check o !=0)
 wf:Wf f
 oks:∀n∈f,n.ok
 yok:y.ok
 len:f.length<=200*k
theorem Qh {w:World} {v:Value} {l:List Nd}(h:Fml w v l):∃A c,v=.slice A l.length c/\Le w A c l:=by
 obtain⟨⟨A,c,e,yM⟩,_⟩:=h;exact⟨A,c,e,yM⟩
theorem Qeo {k len:Nat} {y:Nd}(h:y.ok)(hl:len<=1000):(Pp k y len).ok:=by
 obtain⟨a,b,c,d,e,g⟩:=h;have hb:Vs ((len:Int) - 1):=⟨by omega,by omega⟩;unfold Pp;cases k==0
 ·exact⟨a,b,c,d,e,hb⟩
 exact⟨a,b,c,d,hb,g⟩
theorem Qe1 {d:Nat} {n:Nd}(h:n.ok)(hx:Qw n.op=true->0<=n.x/\n.x<=1000)(hy:Qc n.op=true->0<=n.y/\n.y<=1000)(hd:d<=1000):(Ja d n).ok:=by
 obtain⟨a,b,c,d',e,g⟩:=h;refine⟨a,b,c,d',?_,?_⟩
 ·show Vs (bif Qw n.op then n.x+d else n.x);cases hh:Qw n.op
  ·exact e
  have:=hx hh;exact⟨by simp only [cond_true];omega,by simp only [cond_true];omega⟩
 show Vs (bif Qc n.op then n.y+d else n.y);cases hh:Qc n.op
 ·exact g
 have:=hy hh;exact⟨by simp only [cond_true];omega,by simp only [cond_true];omega⟩
theorem Qwr(op:Int):(Qw op=false/\Qc op=false)\/(Qw op=true/\Qc op=false)\/(Qw op=true/\Qc op=true):=by
 cases hx:Qw op
 ·cases hy:Qc op
  ·exact .inl ⟨rfl,rfl⟩
  rw [Vn hy]at hx;cases hx
 cases hy:Qc op
 ·exact .inr (.inl ⟨rfl,rfl⟩)
 exact .inr (.inr ⟨rfl,rfl⟩)
theorem Qcq {wr w1 w':World} {base:Nat} {A5 Ac:Option Addr} {n c5 cc:Nat} {xs:List Value} {l:List Nd}(hm:Yo w1 w' (.slice Ac l.length cc) l)(zP:wr.ownsRow base 71 6 (.slice A5 n c5) n xs)(he:Ext wr w1):
 ∀ad:Addr,Ac=some ad->(Value.slice A5 n c5).ownBlock≠some ad.block/\ad.block < w'.heap.size:=by
 rintro ad rfl;obtain⟨h1,h2⟩:=hm.1.lt ad.block rfl;refine⟨fun e=> ?_,h2⟩;have:=(zP.lt _ e).2;have:=he.size;omega
theorem Qzn {w:World} {base:Nat} {e:TypeId} {size n:Nat} {v:Value} {xs:List Value}(h:w.ownsRow (base+1) e size v n xs):v.ownBlock≠some base:=fun e=>by
 have:=(h.lt _ e).1;omega
theorem Qqz.next {w wo wi wr:World} {ops:List (List Nd)} {x y:Nd} {k:Nat} {f cl o:List Nd} {v5 v6:Value}(h:Qqz w wo ops x k f y v5)(hk:k < 2)(hx:Ext w wi)(sS:wi.ownsRow (w.heap.size+1) 71 6 v5 f.length (f.flatMap Nd.cells))
 (wX:Gi wi wr v5 v6)(zP:wr.ownsRow (w.heap.size+1) 71 6 v6 (f.length+cl.length) ((f++(cl.take cl.length).map (Ja f.length)).flatMap Nd.cells))
 (OD:wi.heap[w.heap.size]?=some (.cells #[.int .i64 y.op,.int .i64 y.i,.int .i64 y.e,.int .i64 y.g,.int .i64 y.x,.int .i64 y.y] 71 (0,0)))
 (DA:Bs (ops.drop k) k f y=Bs (ops.drop (k+1)) (k+1) (f++(Qg o).map (Ja f.length)) (Pp k y (f++(Qg o).map (Ja f.length)).length))
 (tV:(ops.drop k).any (fun o=>check o !=0)=(check o !=0||(ops.drop (k+1)).any (fun o=>check o !=0)))(hc:check o=0)(yS:cl=Qg o)(lQ:Wf cl)(zH:cl.length<=200)(zO:∀n∈cl,n.ok)
 (slot:Nat)(LS:slot=bif k==0 then 4 else 5)(z:Int)(hz:z=((f.length+cl.length:Nat):Int) - 1):
 Qqz w (wr.setCell ⟨w.heap.size,slot,none⟩ (.int .i64 z)) ops x (k+1) (f++cl.map (Ja f.length)) (Pp k y (f++cl.map (Ja f.length)).length) v6:=by
 have JX:(f++cl.map (Ja f.length)).length=f.length+cl.length:=by simp
 have zG:=Qf OD;have wQ:wr.heap[w.heap.size]?=some (.cells #[.int .i64 y.op,.int .i64 y.i,.int .i64 y.e,.int .i64 y.g,.int .i64 y.x,.int .i64 y.y] 71 (0,0)):=(wX.block _ zG (Qzn sS)).trans OD;rw [List.take_of_length_le (Nat.le_refl _)]at zP;refine⟨?_,?_,?_,?_,?_,Qvc h.wf lQ,?_,Qeo h.yok (by have:=h.len;omega),by have:=h.len;omega⟩
 ·rw [JX];exact ownsRow_setCell_other zP (Qzn zP) _
 ·have hb:Below (w.heap.size+1) wi wr:=wX.below zG (fun g hg=>(sS.lt g hg).1);exact Ext.setCell (Below.trans hx (Below.mono hb (Nat.le_succ _))) (Nat.le_refl _) _
 ·simp only [World.setCell,Array.getElem?_modify,wQ,if_true,Option.map_some];rw [JX];subst LS hz;unfold Pp;cases e:k==0
  ·simp
  simp
 ·rw [<-h.lay,DA,yS]
 ·rw [h.any,tV,hc];rfl
 intro n hn;rcases List.mem_append.1 hn with hn|hn
 ·exact h.oks n hn
 obtain⟨m,hm,rfl⟩:=List.mem_map.1 hn;obtain⟨i,hi⟩:=List.getElem?_of_mem hm;have kU:i < cl.length:=(List.getElem?_eq_some_iff.1 hi).1;obtain⟨h1,h2⟩:=lQ i m hi;exact Qe1 (zO m hm) (fun e=>by have:=h1 e;omega) (fun e=>by have:=h2 e;omega) (by have:=h.len;omega)
theorem Qqz.end_ {w wr:World} {ops:List (List Nd)} {x y:Nd} {f:List Nd} {v:Value}(h:Qqz w wr ops x ops.length f y v):Vg x ops=Sy f y:=by
 have h1:=h.lay;have h2:=h.any;rw [List.drop_length]at h1 h2;unfold Vg;rw [h2,<-h1];rfl
theorem Qqz.bad {w wr:World} {ops:List (List Nd)} {x y:Nd} {k:Nat} {f o:List Nd} {v:Value}(h:Qqz w wr ops x k f y v)(hc:check o≠0)
 (tV:(ops.drop k).any (fun o=>check o !=0)=(check o !=0||(ops.drop (k+1)).any (fun o=>check o !=0))):Vg x ops= []:=by
 have hb:(check o !=0)=true:=by simpa using hc
 unfold Vg;rw [h.any,tV,hb];rfl
theorem Qa2 {f:List Nd} {y:Nd}(h:Zv y f.length≠0):Sy f y= []:=by
 have hb:(Zv y f.length !=0)=true:=by simpa using h
 unfold Sy;rw [hb];rfl
theorem Qpl {f:List Nd} {y:Nd}(h:Zv y f.length=0)(hl:200 < (Za (f++ [y]) f.length []).1.length):Sy f y= []:=by
 unfold Sy;simp [h,hl]
theorem Qiq {f:List Nd} {y:Nd}(h:Zv y f.length=0)(hl:¬200 < (Za (f++ [y]) f.length []).1.length):Sy f y=(Za (f++ [y]) f.length []).1:=by
 unfold Sy;simp [h,hl]
theorem Qiz {f:List Nd} {y:Nd}(hf:Wf f)(h:Zv y f.length=0):Wf (f++ [y]):=by
 obtain⟨hx,hy⟩:=Pd h;refine Cg hf (fun e=> ?_) (fun e=> ?_)
 ·rw [e]at hx;simp [Ql]at hx;omega
 rw [e]at hy;simp [Ql]at hy;omega
theorem Qnp(f:List Nd)(A:Option Addr)(c r n:Nat)(w:World)(hn:f.length=n)(hf:Wf f)(zO:∀n∈f,n.ok)(zH:f.length<=1000)(hr:r < f.length)(h:Le w A c f):
 Calls Tryz.prog 162 #[.slice A n c,.int .i64 r] w fun e w'=>∃v,e=.returned v/\w'.ownsRow w.heap.size 71 6 v (Za f r []).1.length ((Za f r []).1.flatMap Nd.cells)/\(∀n∈(Za f r []).1,n.ok)/\Ext w w':=by
 subst hn;exact El f A c r w hf zO zH hr h
theorem Uw(x:Nd)(v:Value)(ops:List (List Nd))(w:World)(hx:x.ok)(TS:Bp w v ops)(hn:ops.length<=2):
 Calls Tryz.prog 97 #[.agg #[.int .i64 x.op,.int .i64 x.i,.int .i64 x.e,.int .i64 x.g,.int .i64 x.x,.int .i64 x.y],v] w fun e w'=>∃u,e=.returned u/\Yo w w' u (Vg x ops):=by
 obtain⟨A,c,rfl,xR,yO,zM⟩:=TS;unfold maxLen at yO;have uJ:=Qq zM;have FM:=Qq hx;obtain⟨i0,jI,ZE,ZD,ZC⟩:=info_parts Qli;clear zM hx;go_enter Tryz.func97,Tryz.ntmps97;go_wp2_with fail;go_loopw [5,16] (fun v5 i wr=>∃(k:Nat) (f:List Nd) (y:Nd),k<=ops.length/\i=.int .i64 k/\Hid (Qqz w wr ops x k f y v5)) (fun _ i _=>ops.length - (intOf i).toNat)
 case atStart=>exact⟨0,[],x,Nat.zero_le _,rfl,Qq ⟨World.ownsRow_nil _ _ _ _,Qz.alloc _,heap_alloc_new _ _,rfl,rfl,Ds,by simp,FM.out,Nat.le_refl _⟩⟩
 case round =>
  obtain⟨wo,rfl⟩:∃wo:World,wo=wr:=⟨_,rfl⟩;obtain⟨k,f,y,hk,rfl,HO⟩:=hrel;obtain⟨A5,c5,rfl⟩:=Qs HO.out.row;have T3:=HO.out.len;by_cases zG:k < ops.length
  ·obtain⟨o,ho⟩:∃o,ops[k]?=some o:=⟨_,Qv zG⟩;obtain⟨ad,rfl,yT,xS⟩:=uJ.out (by intro e;rw [e]at zG;simp at zG);obtain⟨u,hu,RV⟩:=xS k o ho;have cu:=(HO.out.ext.cell (p:=ad.add k) (Qj yT)).trans hu;have QJ:=Qq (RV.ext HO.out.ext);have PX:=Qq (Qni ops k o f y ho);have XC:=Qq (Qha ops k o ho);obtain⟨Au,cuu,rfl,_⟩:=Qh RV;clear xS hu RV ho;by_cases hc:check o=0
   ·have HC:=Qq hc;clear hc;go_wp2_with fail;refine(Vh _ o _ QJ.out.1).mono ?_;rintro e w1 ⟨rfl,hb⟩;rw [HC.out];have zL:=Qq hb;clear hb cu;go_wp2_with fail;refine(Fv _ o _ (QJ.out.ext zL.out)).mono ?_;rintro e wi ⟨uc,rfl,hm⟩;have HM:=Qq hm;obtain⟨Ac,cc,rfl,wN⟩:=Qh hm.fml;have NX:=wN.2.2;have NZ:=wN.1;have mQ:=wN.2.1;unfold maxLen at mQ;have QT:=Qq NX;have hp:=Jf HC.out;have JY:=(Jg HC.out).2.1;have UT:(Qg o).length<=200:=by omega
    have EE:=hp.2.2.1;have aT:=Qq hp.1;have bK:=Qq hm.2.1;have zR:=Qq (HO.out.ext.trans (zL.out.trans hm.2.2));have jR:Hid (wi.ownsRow (w.heap.size+1) 71 6 (.slice A5 f.length c5) f.length (f.flatMap Nd.cells)):=Qq (Zf HO.out.row (zL.out.trans hm.2.2))
    have nA:Hid (wi.heap[w.heap.size]?=some (.cells #[.int .i64 y.op,.int .i64 y.i,.int .i64 y.e,.int .i64 y.g,.int .i64 y.x,.int .i64 y.y] 71 (0,0))):=
     Qq (((zL.out.trans hm.2.2).block (Qf HO.out.box)).trans HO.out.box)
    have tK:=Qq (Qcq hm HO.out.row zL.out);obtain⟨cl,yS⟩:∃cl,cl=Qg o:=⟨_,rfl⟩;have tX:=Qq yS;rw [<-yS]at QT NZ UT EE aT bK;rw [<-yS];clear hm wN NX hp yS;go_wp2_with fail;go_loopw [5,29] (fun v5 i wr=>∃j:Nat,j<=cl.length/\i=.int .i64 j/\Hid (wr.ownsRow (w.heap.size+1) 71 6 v5 (f.length+j) ((f++(cl.take j).map (Ja f.length)).flatMap Nd.cells))/\Hid (Gi wi wr (.slice A5 f.length c5) v5)) (fun _ i _=>cl.length - (intOf i).toNat)
    case atStart=>exact⟨0,Nat.zero_le _,rfl,Qq (by simpa using jR.out),Qq (Gi.refl _ _)⟩
    case round =>
     obtain⟨j,hj,rfl,wH,yX⟩:=hrel;obtain⟨A6,c6,rfl⟩:=Qs wH.out;by_cases hlt2:j < cl.length
     ·obtain⟨a,ha⟩:∃a,cl[j]?=some a:=⟨_,Qv hlt2⟩;obtain⟨adc,rfl,KI,UU⟩:=QT.out (by intro e;rw [e]at hlt2;simp at hlt2);obtain⟨a0,a1,a2,a3,a4,a5⟩:=(UU j a ha).keep fun p hp=>yX.out.cell (p:=p) (by rw [hp,Qr];exact KI) (by rw [hp,Qr];exact(tK.out adc rfl).1)
      obtain⟨xs,qY⟩:∃xs,xs=(f++(cl.take j).map (Ja f.length)).flatMap Nd.cells:=⟨_,rfl⟩;rw [<-qY]at wH;have jN:=Qq qY;clear qY;have pB:=aT.out j a ha;have EN:=bK.out a (List.mem_of_getElem? ha);have cW:=Qq (Kk ha);have xN:f.length+j+1<=maxLen:=by unfold maxLen;omega
      have xJ:(f.length+j+1)*48<=140737488355328:=by omega
      have zC:Hid (w.heap.size+1<=wr.heap.size):=Qq (Qx (Nat.succ_le_of_lt (Qf nA.out)) yX.out.size);have wQ:Qw a.op=true->0<=a.x/\a.x < 200:=fun e=>by have:=pB.1 e;omega
      have cF:Qc a.op=true->0<=a.y/\a.y < 200:=fun e=>by have:=pB.2 e;omega
      clear UU pB EN ha;rcases Qwr a.op with⟨pU,sQ⟩|⟨pU,sQ⟩|⟨pU,sQ⟩
      ·
       have oK:=Qq pU;have oW:=Qq sQ
       have oZ:Hid (xs++ [.int .i64 a.op,.int .i64 a.i,.int .i64 a.e,.int .i64 a.g,.int .i64 (a.x),.int .i64 (a.y)]=(f++(cl.take (j+1)).map (Ja f.length)).flatMap Nd.cells):=
        Qq (by rw [jN.out,cW.out,List.map_append,<-List.append_assoc,List.flatMap_append];simp [Ja,pU,sQ,Nd.cells])
       clear pU sQ wQ cF;go_wp2_with(first|(go_at_call 161;refine(Yw _ _ _ _ _ _ _ _ oK.out oW.out rfl rfl rfl rfl rfl _).mono ?_;rintro e w2 ⟨rfl,hb⟩;have HB:=Qq hb;obtain⟨hc,wY,zB⟩:=hb.facts;clear hb;have hz:wr.heap.size < w2.heap.size:=by { simp at zB;omega };clear zB)|(at_builtin;refine wpList_append_own_at _ rfl _ _ 22 rfl (w.heap.size+1) 71 i0 Nd.zero.val 6 48 Tryz.underlying22 jI ZE ZD ZC rfl (by decide) _ _ _ rfl (Zf wH.out ?hx) _ 1 1 [.int .i64 a.op,.int .i64 a.i,.int .i64 a.e,.int .i64 a.g,.int .i64 (a.x),.int .i64 (a.y)] rfl rfl ?c1 ?c2 xN xJ ?c5 ?_))
       case hx=>exact((((Qz.alloc _).trans HB.out).alloc _).alloc _)
       case c1=>exact Zm _ _ _ (by simp)
       case c2 =>
        intro u hu;simp only [List.mem_cons,List.mem_nil_iff,or_false]at hu;rcases hu with rfl|rfl|rfl|rfl|rfl|rfl <;> rfl
       case c5 =>
        have h1:=zC.out;have h2:=HB.out.size;simp at h2⊢;omega
       intro v' w4 yG yL _ uH;have uI:=Qq yG;have fI:=Qq ((yX.out.ext ((((Qz.alloc _).trans HB.out).alloc _).alloc _)).appended yL (uH.imp id fun e=>by rw [e];simp));obtain⟨A4,c4',rfl⟩:=Qs yG;clear yG yL uH;go_wp2_with fail;go_roundw
       case rel=>exact⟨j+1,by omega,by go_num,Qq (by rw [<-oZ.out];exact uI.out),fI⟩
       case measure=>simp [intOf];omega
      ·
       obtain⟨bx0,bx1⟩:=wQ pU;have oK:=Qq pU;have oW:=Qq sQ
       have oZ:Hid (xs++ [.int .i64 a.op,.int .i64 a.i,.int .i64 a.e,.int .i64 a.g,.int .i64 (a.x+(f.length:Int)),.int .i64 (a.y)]=(f++(cl.take (j+1)).map (Ja f.length)).flatMap Nd.cells):=
        Qq (by rw [jN.out,cW.out,List.map_append,<-List.append_assoc,List.flatMap_append];simp [Ja,pU,sQ,Nd.cells])
       clear pU sQ wQ cF;go_wp2_with(first|(go_at_call 161;refine(Yw _ _ _ _ _ _ _ _ oK.out oW.out rfl rfl rfl rfl rfl _).mono ?_;rintro e w2 ⟨rfl,hb⟩;have HB:=Qq hb;obtain⟨hc,wY,zB⟩:=hb.facts;clear hb;have hz:wr.heap.size < w2.heap.size:=by { simp at zB;omega };clear zB)|(at_builtin;refine wpList_append_own_at _ rfl _ _ 22 rfl (w.heap.size+1) 71 i0 Nd.zero.val 6 48 Tryz.underlying22 jI ZE ZD ZC rfl (by decide) _ _ _ rfl (Zf wH.out ?hx) _ 1 1 [.int .i64 a.op,.int .i64 a.i,.int .i64 a.e,.int .i64 a.g,.int .i64 (a.x+(f.length:Int)),.int .i64 (a.y)] rfl rfl ?c1 ?c2 xN xJ ?c5 ?_))
       case hx=>exact(((Ext.setCell (p:=⟨wr.heap.size,4,none⟩) ((Qz.alloc _).trans HB.out) (Nat.le_refl _) _).alloc _).alloc _)
       case c1=>exact Zm _ _ _ (by simp)
       case c2 =>
        intro u hu;simp only [List.mem_cons,List.mem_nil_iff,or_false]at hu;rcases hu with rfl|rfl|rfl|rfl|rfl|rfl <;> rfl
       case c5 =>
        have h1:=zC.out;have h2:=HB.out.size;simp at h2⊢;omega
       intro v' w4 yG yL _ uH;have uI:=Qq yG;have fI:=Qq ((yX.out.ext (((Ext.setCell (p:=⟨wr.heap.size,4,none⟩) ((Qz.alloc _).trans HB.out) (Nat.le_refl _) _).alloc _).alloc _)).appended yL (uH.imp id fun e=>by rw [e];simp));obtain⟨A4,c4',rfl⟩:=Qs yG;clear yG yL uH;go_wp2_with fail;go_roundw
       case rel=>exact⟨j+1,by omega,by go_num,Qq (by rw [<-oZ.out];exact uI.out),fI⟩
       case measure=>simp [intOf];omega
      
      obtain⟨bx0,bx1⟩:=wQ pU;obtain⟨by0,by1⟩:=cF sQ;have oK:=Qq pU;have oW:=Qq sQ
      have oZ:Hid (xs++ [.int .i64 a.op,.int .i64 a.i,.int .i64 a.e,.int .i64 a.g,.int .i64 (a.x+(f.length:Int)),.int .i64 (a.y+(f.length:Int))]=(f++(cl.take (j+1)).map (Ja f.length)).flatMap Nd.cells):=
       Qq (by rw [jN.out,cW.out,List.map_append,<-List.append_assoc,List.flatMap_append];simp [Ja,pU,sQ,Nd.cells])
      clear pU sQ wQ cF;go_wp2_with(first|(go_at_call 161;refine(Yw _ _ _ _ _ _ _ _ oK.out oW.out rfl rfl rfl rfl rfl _).mono ?_;rintro e w2 ⟨rfl,hb⟩;have HB:=Qq hb;obtain⟨hc,wY,zB⟩:=hb.facts;clear hb;have hz:wr.heap.size < w2.heap.size:=by { simp at zB;omega };clear zB)|(at_builtin;refine wpList_append_own_at _ rfl _ _ 22 rfl (w.heap.size+1) 71 i0 Nd.zero.val 6 48 Tryz.underlying22 jI ZE ZD ZC rfl (by decide) _ _ _ rfl (Zf wH.out ?hx) _ 1 1 [.int .i64 a.op,.int .i64 a.i,.int .i64 a.e,.int .i64 a.g,.int .i64 (a.x+(f.length:Int)),.int .i64 (a.y+(f.length:Int))] rfl rfl ?c1 ?c2 xN xJ ?c5 ?_))
      case hx=>exact(((Ext.setCell (p:=⟨wr.heap.size,5,none⟩) (Ext.setCell (p:=⟨wr.heap.size,4,none⟩) ((Qz.alloc _).trans HB.out) (Nat.le_refl _) _) (Nat.le_refl _) _).alloc _).alloc _)
      case c1=>exact Zm _ _ _ (by simp)
      case c2 =>
       intro u hu;simp only [List.mem_cons,List.mem_nil_iff,or_false]at hu;rcases hu with rfl|rfl|rfl|rfl|rfl|rfl <;> rfl
      case c5 =>
       have h1:=zC.out;have h2:=HB.out.size;simp at h2⊢;omega
      intro v' w4 yG yL _ uH;have uI:=Qq yG;have fI:=Qq ((yX.out.ext (((Ext.setCell (p:=⟨wr.heap.size,5,none⟩) (Ext.setCell (p:=⟨wr.heap.size,4,none⟩) ((Qz.alloc _).trans HB.out) (Nat.le_refl _) _) (Nat.le_refl _) _).alloc _).alloc _)).appended yL (uH.imp id fun e=>by rw [e];simp));obtain⟨A4,c4',rfl⟩:=Qs yG;clear yG yL uH;go_wp2_with fail;go_roundw
      case rel=>exact⟨j+1,by omega,by go_num,Qq (by rw [<-oZ.out];exact uI.out),fI⟩
      case measure=>simp [intOf];omega
     obtain rfl:cl.length=j:=by omega
     clear hlt2;have eJ:1<=f.length+cl.length:=by omega
     have xD:Hid (wr.heap[w.heap.size]?=some (.cells #[.int .i64 y.op,.int .i64 y.i,.int .i64 y.e,.int .i64 y.g,.int .i64 y.x,.int .i64 y.y] 71 (0,0))):=
      Qq ((yX.out.block _ (Qf nA.out) (Qzn jR.out)).trans nA.out)
     obtain⟨⟨d0,d1,d2,d3,d4,d5⟩,dfr,dlt⟩:=Vm xD.out;by_cases aD:k=0
     ·
      obtain rfl:k=0:=aD;go_wp2_with fail;go_roundw
      case rel=>exact⟨0+1,_,_,by omega,by go_num,Qq (HO.out.next (by omega) zR.out jR.out yX.out wH.out nA.out PX.out XC.out HC.out tX.out aT.out UT bK.out 4 rfl _ (by go_num))⟩
      case measure=>simp [intOf];omega
     
     have hkb:((k:Int)==0)=false:=by rw [beq_eq_false_iff_ne];omega
     have L6:=Qq aD;clear aD;go_wp2_with fail;go_roundw
     case rel=>exact⟨k+1,_,_,by omega,by go_num,Qq (HO.out.next (by omega) zR.out jR.out yX.out wH.out nA.out PX.out XC.out HC.out tX.out aT.out UT bK.out 5 (by have e:(k==0)=false:=by { rw [beq_eq_false_iff_ne];exact L6.out };rw [e];rfl) _ (by go_num))⟩
     case measure=>simp [intOf];omega
   have vV:=Qq (HO.out.bad hc XC.out);have sF:(check o !=0)=true:=by simpa using hc
   clear hc;go_wp2_with fail;refine(Vh _ o _ QJ.out.1).mono ?_;rintro e w1 ⟨rfl,hb⟩;have zL:=Qq (HO.out.ext.trans hb);clear hb;go_wp2_with fail;go_ret;exact⟨_,rfl,by rw [vV.out];exact(Yo.none_ _).after zL.out⟩
  obtain rfl:ops.length=k:=by omega
  have HJ:=Qq HO.out.end_;obtain⟨⟨d0,d1,d2,d3,d4,d5⟩,dfr,dlt⟩:=Vm HO.out.box;by_cases zQ:Zv y f.length=0
  ·have jT:=Qq zQ;clear zQ;go_wp2_with fail;refine(Sk y _ _).mono ?_;rintro e w1 ⟨rfl,hb⟩;rw [jT.out];have zL:=Qq hb;have YP:=Qq (Zf HO.out.row hb);have xD:Hid (w1.heap[w.heap.size]?=some (.cells #[.int .i64 y.op,.int .i64 y.i,.int .i64 y.e,.int .i64 y.g,.int .i64 y.x,.int .i64 y.y] 71 (0,0))):=Qq ((hb.block (Qf HO.out.box)).trans HO.out.box);clear hb d0 d1 d2 d3 d4 d5 dfr dlt;obtain⟨⟨d0,d1,d2,d3,d4,d5⟩,dfr,dlt⟩:=Vm xD.out;obtain⟨xs,qY⟩:∃xs,xs=f.flatMap Nd.cells:=⟨_,rfl⟩;rw [<-qY]at YP;have jN:=Qq qY;clear qY;have xN:f.length+1<=maxLen:=by unfold maxLen;omega
   have xJ:(f.length+1)*48<=140737488355328:=by omega
   go_wp2_with(at_builtin;refine wpList_append_own_at _ rfl _ _ 22 rfl (w.heap.size+1) 71 i0 Nd.zero.val 6 48 Tryz.underlying22 jI ZE ZD ZC rfl (by decide) _ _ _ rfl (Zf YP.out ?hx) _ 1 1 y.cells rfl rfl ?c1 (Oi y) xN xJ ?c5 ?_)
   case hx=>exact Qz.alloc _
   case c1=>exact Zm _ _ _ rfl
   case c5=>simp;omega
   intro v' w4 yG yL _ uH;have uI:Hid (w4.ownsRow (w.heap.size+1) 71 6 v' (f++ [y]).length ((f++ [y]).flatMap Nd.cells)):=Qq (by rw [jN.out]at yG;simpa using yG);have yI:Hid (Ext w w4):=Qq ((((HO.out.ext.trans zL.out).alloc _).grown yL (fun g hg=>by have:=(HO.out.row.lt g hg).1;omega)));obtain⟨A7,c7,qZ,zF⟩:=Pb uI.out;have lP:=Qq zF;have e7:(f++ [y]).length=f.length+1:=by simp
   rw [e7]at qZ;have iN:=Qq (Qiz HO.out.wf jT.out);have GQ:Hid (∀n∈f++ [y],n.ok):=Qq (fun n hn=>by
    rcases List.mem_append.1 hn with hn|hn
    ·exact HO.out.oks n hn
    rw [List.mem_singleton.1 hn];exact HO.out.yok)
   have IZ:=Qq e7;subst qZ;clear yG yL uH zF e7;go_wp2_with fail;refine(Qnp (f++ [y]) A7 c7 f.length (f.length+1) _ IZ.out iN.out GQ.out (by rw [IZ.out];omega) (by rw [IZ.out];omega) lP.out).mono ?_;rintro e w5 ⟨u5,rfl,sS,XW,YD⟩;have YW:=Qq (show Yo w w5 u5 (Za (f++ [y]) f.length []).1 from Yo.before ⟨sS,XW,YD⟩ yI.out);obtain⟨A8,c8,rfl⟩:=Qs sS;clear sS XW YD;by_cases hlong:200 < (Za (f++ [y]) f.length []).1.length
   ·have KW:=Qq (Qpl jT.out hlong);generalize (Za (f++ [y]) f.length []).1=cf at YW hlong;go_wp2_with fail;go_ret;exact⟨_,rfl,by rw [HJ.out,KW.out];exact(Yo.none_ _).after YW.out.2.2⟩
   have KW:=Qq (Qiq jT.out hlong);generalize (Za (f++ [y]) f.length []).1=cf at YW hlong KW;go_wp2_with fail;go_ret;exact⟨_,rfl,by rw [HJ.out,KW.out];exact YW.out⟩
  have vV:=Qq (Qa2 zQ);have sF:(Zv y f.length !=0)=true:=by simpa using zQ
  clear zQ;go_wp2_with fail;refine(Sk y _ _).mono ?_;rintro e w1 ⟨rfl,hb⟩;have zL:=Qq (HO.out.ext.trans hb);clear hb;go_wp2_with fail;go_ret;exact⟨_,rfl,by rw [HJ.out,vV.out];exact(Yo.none_ _).after zL.out⟩
theorem Qy1(w:World):Bp w (.slice none 0 0) []:=⟨none,0,rfl,Nat.le_refl _,by unfold maxLen;omega,fun h=>absurd rfl h⟩
theorem Qb2 {w:World} {v:Value} {f:List Nd}(h:Fml w v f):Bp (w.alloc (.cells #[v] 22)) (.slice (some ⟨w.heap.size,0,none⟩) 1 1) [f]:=by
 refine⟨_,_,rfl,Nat.le_refl _,by unfold maxLen;simp,fun _=>⟨_,rfl,by simp,fun k l hk=> ?_⟩⟩
 match k,hk with
 |0,hk =>
  simp only [List.getElem?_cons_zero,Option.some.injEq]at hk;subst hk;exact⟨v,Wn w #[v] 22 0 v rfl,h.ext (Qz.alloc _)⟩
theorem Cl {w:World} {v1 v2:Value} {f g:List Nd}(h1:Fml w v1 f)(h2:Fml w v2 g):Bp (w.alloc (.cells #[v1,v2] 22)) (.slice (some ⟨w.heap.size,0,none⟩) 2 2) [f,g]:=by
 refine⟨_,_,rfl,Nat.le_refl _,by unfold maxLen;simp,fun _=>⟨_,rfl,by simp,fun k l hk=> ?_⟩⟩
 match k,hk with
 |0,hk =>
  simp only [List.getElem?_cons_zero,Option.some.injEq]at hk;subst hk;exact⟨v1,Wn w #[v1,v2] 22 0 v1 rfl,h1.ext (Qz.alloc _)⟩
 |1,hk =>
  simp only [List.getElem?_cons_succ,List.getElem?_cons_zero,Option.some.injEq]at hk;subst hk;exact⟨v2,Wn w #[v1,v2] 22 1 v2 rfl,h2.ext (Qz.alloc _)⟩
theorem Fx {a b c d e g:Int}(ha:Vs a)(hb:Vs b)(hc:Vs c)(hd:Vs d)(he:Vs e)(hg:Vs g):(Nd.mk a b c d e g).ok:=⟨ha,hb,hc,hd,he,hg⟩
theorem Zy {a:Int}(h0:0<=a)(h1:a<=1000):Vs a:=⟨by omega,by omega⟩
def Im:List Nd:=Vg ⟨1,0,0,0,0,0⟩ []
theorem Qny(w:World):
 Calls Tryz.prog 119 #[] w fun e w'=>∃u,e=.returned u/\Yo w w' u (Im):=by
 go_enter Tryz.func119,Tryz.ntmps119;go_wp2_with fail;refine(Uw ⟨1,0,0,0,0,0⟩ _ [] _ (Fx (Zy (by omega) (by omega)) (Zy (by omega) (by omega)) (Zy (by omega) (by omega)) (Zy (by omega) (by omega)) (Zy (by omega) (by omega)) (Zy (by omega) (by omega))) (Qy1 _) (by simp)).mono ?_;rintro e w1 ⟨u,rfl,hm⟩;have HM:=Qq hm;clear hm;go_wp2_with fail;go_ret;exact⟨_,rfl,HM.out⟩
def Wv:List Nd:=Vg ⟨2,0,0,0,0,0⟩ []
theorem Qm1(w:World):
 Calls Tryz.prog 120 #[] w fun e w'=>∃u,e=.returned u/\Yo w w' u (Wv):=by
 go_enter Tryz.func120,Tryz.ntmps120;go_wp2_with fail;refine(Uw ⟨2,0,0,0,0,0⟩ _ [] _ (Fx (Zy (by omega) (by omega)) (Zy (by omega) (by omega)) (Zy (by omega) (by omega)) (Zy (by omega) (by omega)) (Zy (by omega) (by omega)) (Zy (by omega) (by omega))) (Qy1 _) (by simp)).mono ?_;rintro e w1 ⟨u,rfl,hm⟩;have HM:=Qq hm;clear hm;go_wp2_with fail;go_ret;exact⟨_,rfl,HM.out⟩
def Qkb(a:Int):List Nd:=Vg ⟨3,a,0,0,0,0⟩ []
theorem Qaq(a:Int)(ha:Vs a)(w:World):
 Calls Tryz.prog 121 #[.int .i64 a] w fun e w'=>∃u,e=.returned u/\Yo w w' u (Qkb a):=by
 go_enter Tryz.func121,Tryz.ntmps121;go_wp2_with fail;refine(Uw ⟨3,a,0,0,0,0⟩ _ [] _ (Fx (Zy (by omega) (by omega)) ha (Zy (by omega) (by omega)) (Zy (by omega) (by omega)) (Zy (by omega) (by omega)) (Zy (by omega) (by omega))) (Qy1 _) (by simp)).mono ?_;rintro e w1 ⟨u,rfl,hm⟩;have HM:=Qq hm;clear hm;go_wp2_with fail;go_ret;exact⟨_,rfl,HM.out⟩
def Kq(f:List Nd):List Nd:=Vg ⟨4,0,0,0,0,0⟩ [f]
theorem Cy(v1:Value)(f:List Nd)(w:World)(h1:Fml w v1 f):
 Calls Tryz.prog 38 #[v1] w fun e w'=>∃u,e=.returned u/\Yo w w' u (Kq f):=by
 have H1:=Qq h1;obtain⟨A1,c1,rfl,_⟩:=Qh h1;clear h1;go_enter Tryz.func38,Tryz.ntmps38;go_wp2_with fail;refine(Uw ⟨4,0,0,0,0,0⟩ _ [f] _ (Fx (Zy (by omega) (by omega)) (Zy (by omega) (by omega)) (Zy (by omega) (by omega)) (Zy (by omega) (by omega)) (Zy (by omega) (by omega)) (Zy (by omega) (by omega))) (Qb2 H1.out) (by simp)).mono ?_;rintro e w1 ⟨u,rfl,hm⟩;have HM:=Qq hm;clear hm;go_wp2_with fail;go_ret;exact⟨_,rfl,(HM.out.before (Qz.alloc _))⟩
def Fo(f g:List Nd):List Nd:=Vg ⟨5,0,0,0,0,0⟩ [f,g]
theorem Qzo(v1 v2:Value)(f g:List Nd)(w:World)(h1:Fml w v1 f)(h2:Fml w v2 g):
 Calls Tryz.prog 71 #[v1,v2] w fun e w'=>∃u,e=.returned u/\Yo w w' u (Fo f g):=by
 have H1:=Qq h1;have H2:=Qq h2;obtain⟨A1,c1,rfl,_⟩:=Qh h1;obtain⟨A2,c2,rfl,_⟩:=Qh h2;clear h1 h2;go_enter Tryz.func71,Tryz.ntmps71;go_wp2_with fail;refine(Uw ⟨5,0,0,0,0,0⟩ _ [f,g] _ (Fx (Zy (by omega) (by omega)) (Zy (by omega) (by omega)) (Zy (by omega) (by omega)) (Zy (by omega) (by omega)) (Zy (by omega) (by omega)) (Zy (by omega) (by omega))) (Cl H1.out H2.out) (by simp)).mono ?_;rintro e w1 ⟨u,rfl,hm⟩;have HM:=Qq hm;clear hm;go_wp2_with fail;go_ret;exact⟨_,rfl,(HM.out.before (Qz.alloc _))⟩
def Qy7(f g:List Nd):List Nd:=Vg ⟨7,0,0,0,0,0⟩ [f,g]
theorem Qxc(v1 v2:Value)(f g:List Nd)(w:World)(h1:Fml w v1 f)(h2:Fml w v2 g):
 Calls Tryz.prog 74 #[v1,v2] w fun e w'=>∃u,e=.returned u/\Yo w w' u (Qy7 f g):=by
 have H1:=Qq h1;have H2:=Qq h2;obtain⟨A1,c1,rfl,_⟩:=Qh h1;obtain⟨A2,c2,rfl,_⟩:=Qh h2;clear h1 h2;go_enter Tryz.func74,Tryz.ntmps74;go_wp2_with fail;refine(Uw ⟨7,0,0,0,0,0⟩ _ [f,g] _ (Fx (Zy (by omega) (by omega)) (Zy (by omega) (by omega)) (Zy (by omega) (by omega)) (Zy (by omega) (by omega)) (Zy (by omega) (by omega)) (Zy (by omega) (by omega))) (Cl H1.out H2.out) (by simp)).mono ?_;rintro e w1 ⟨u,rfl,hm⟩;have HM:=Qq hm;clear hm;go_wp2_with fail;go_ret;exact⟨_,rfl,(HM.out.before (Qz.alloc _))⟩
def Gc(a:Int)(f:List Nd):List Nd:=Vg ⟨9,a,0,0,0,0⟩ [f]
theorem Lr(a:Int)(ha:Vs a)(v1:Value)(f:List Nd)(w:World)(h1:Fml w v1 f):
 Calls Tryz.prog 72 #[.int .i64 a,v1] w fun e w'=>∃u,e=.returned u/\Yo w w' u (Gc a f):=by
 have H1:=Qq h1;obtain⟨A1,c1,rfl,_⟩:=Qh h1;clear h1;go_enter Tryz.func72,Tryz.ntmps72;go_wp2_with fail;refine(Uw ⟨9,a,0,0,0,0⟩ _ [f] _ (Fx (Zy (by omega) (by omega)) ha (Zy (by omega) (by omega)) (Zy (by omega) (by omega)) (Zy (by omega) (by omega)) (Zy (by omega) (by omega))) (Qb2 H1.out) (by simp)).mono ?_;rintro e w1 ⟨u,rfl,hm⟩;have HM:=Qq hm;clear hm;go_wp2_with fail;go_ret;exact⟨_,rfl,(HM.out.before (Qz.alloc _))⟩
def Qw0(a:Int)(f:List Nd):List Nd:=Vg ⟨10,a,0,0,0,0⟩ [f]
theorem Tc {w:World} {base n:Nat} {vd:Value} {d:List Int}(h:w.ownsRow base 3 1 vd n (d.map (Value.int .i64)))(hn:0 < n):
 ∃g cap,vd=.slice (some ⟨g,0,none⟩) n cap/\g < w.heap.size/\n<=cap/\cap<=maxLen/\∀i z,d[i]?=some z->w.cell? ⟨g,i,none⟩=some (.int .i64 z)/\w.frozen? ⟨g,i,none⟩=false:=by
 rcases h.2 with⟨_,h0⟩|⟨g,cap,cur,rfl,_,hg,iG,hm,hs,ht⟩
 ·omega
 refine⟨g,cap,rfl,Qf hg,iG,hm,fun i z hz=>⟨?_,by simp [World.frozen?,hg]⟩⟩;have h1:(d.map (Value.int .i64))[i]?=some (.int .i64 z):=by rw [List.getElem?_map,hz];rfl
 rw [<-ht,List.getElem?_take]at h1
 split at h1
 ·have h2:cur[i]?=some (.int .i64 z):=by simpa using h1
  simp [World.cell?,hg,h2]
 cases h1
theorem Fr(g i:Nat):((⟨g,0,none⟩:Addr).add i)=⟨g,i,none⟩:=by
 unfold Addr.add
 split
 ·rename_i h;rw [h]
 simp
def Qqy(w:World)(A:Option Addr)(c:Nat)(l:List Int):Prop :=
 l.length<=c/\c<=maxLen/\(l≠ []->∃ad,A=some ad/\ad.block < w.heap.size/\∀k z,l[k]?=some z->w.cell? (ad.add k)=some (.int .i64 z))
def Bc(w:World)(v:Value)(l:List Int):Prop:=∃A c,v=.slice A l.length c/\Qqy w A c l
theorem Qqy.ext {w w':World} {A:Option Addr} {c:Nat} {l:List Int}(h:Qqy w A c l)(he:Ext w w'):Qqy w' A c l :=
 ⟨h.1,h.2.1,fun hn=>by
  obtain⟨ad,e,zG,hc⟩:=h.2.2 hn;exact⟨ad,e,Qy zG he.size,fun k z hk=>(he.cell (Qj zG)).trans (hc k z hk)⟩⟩
theorem Bc.ext {w w':World} {v:Value} {l:List Int}(h:Bc w v l)(he:Ext w w'):Bc w' v l:=by
 obtain⟨A,c,e,h⟩:=h;exact⟨A,c,e,h.ext he⟩
theorem Bc.none_(w:World):Bc w (.slice none 0 0) []:=⟨none,0,rfl,Nat.le_refl _,by unfold maxLen;omega,fun h=>absurd rfl h⟩
theorem Qno {w:World} {base:Nat} {v:Value} {l:List Int}(h:w.ownsRow base 3 1 v l.length (l.map (Value.int .i64))):Bc w v l:=by
 by_cases h0:0 < l.length
 ·obtain⟨g,cap,rfl,hg,hc,hm,yR⟩:=Tc h h0;exact⟨_,_,rfl,hc,hm,fun _=>⟨_,rfl,hg,fun k z hk=>by rw [Fr];exact(yR k z hk).1⟩⟩
 have e:l= []:=List.length_eq_zero_iff.1 (by omega);subst e;rcases h.2 with⟨rfl,_⟩|⟨g,cap,cur,rfl,_,_,hn,hm,_⟩
 ·exact Bc.none_ w
 exact⟨_,cap,rfl,Nat.zero_le _,hm,fun h=>absurd rfl h⟩
def Zy9(w w':World)(v:Value)(l:List Int):Prop:=w'.ownsRow w.heap.size 3 1 v l.length (l.map (Value.int .i64))/\Ext w w'
def orN(f g:List Nd):List Nd:=Vg ⟨6,0,0,0,0,0⟩ [f,g]
def Qaw(f g:List Nd):List Nd:=Vg ⟨8,0,0,0,0,0⟩ [f,g]
end Go.Proofs.YtkmclcmnoicagaaGreatDoor
