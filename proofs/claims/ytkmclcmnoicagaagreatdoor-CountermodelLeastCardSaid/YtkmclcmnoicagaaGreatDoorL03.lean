/- Checked lists are well formed; subformulas. -/
import Derived.Test.YtkmclcmnoicagaaGreatDoorL02
import Derived.Laws.StructEq
import Derived.Laws.Tables
import Derived.Laws.BitsAllLaws
import Derived.Laws.BitsLemmas
namespace Go.Proofs.YtkmclcmnoicagaaGreatDoor
set_option maxRecDepth 100000
set_option maxHeartbeats 128000000
theorem My:∀(l:List Nd) (a:Int),Jc l a=0->∀(k:Nat) (n:Nd),l[k]?=some n->Zd n (a+k)=0
 |[],_,_,k,n,h=>by simp at h
 |m :: r,a,hc,k,n,h=>by
  unfold Jc at hc;by_cases h0:Zd m a=0
  ·rw [h0]at hc;cases k with
   |zero =>
    simp only [List.getElem?_cons_zero,Option.some.injEq]at h;subst h
    simpa using h0
   |succ k =>
    have:=My r (a+1) (by simpa using hc) k n (by simpa using h);rw [<-this]
    congr 1
    omega
  have hb:(Zd m a !=0)=true:=by simpa using h0
  rw [hb]at hc;exact absurd hc h0
theorem Qzj:∀(l:List Nd) (a:Int),(∀(k:Nat) (n:Nd),l[k]?=some n->Zd n (a+k)=0)->Jc l a=0
 |[],_,_=>rfl
 |m :: r,a,h=>by
  unfold Jc;have h0:Zd m a=0:=by simpa using h 0 m (by simp)
  rw [h0];have:=Qzj r (a+1) fun k n hk=>by
   have:=h (k+1) n (by simpa using hk);rw [<-this]
   congr 1
   omega
  simpa using this
theorem Qqm {n:Nd} {a:Int}(h:Zd n a=0):Yr n.op=true:=by
 cases ho:Yr n.op
 ·simp [Zd,ho]at h
 rfl
theorem Co {n:Nd} {a:Int}(h:Zd n a=0):Zy (Qi n.op) n.x a=true/\Zy (Qe n.op) n.y a=true:=by
 have ho:=Qqm h;cases hx:Zy (Qi n.op) n.x a
 ·simp [Zd,ho,hx]at h
 cases hy:Zy (Qe n.op) n.y a
 ·simp [Zd,ho,hx,hy]at h
 exact⟨rfl,rfl⟩
theorem Qd5 {n:Nd} {a:Int}(h:Zd n a=0):Zc n=false/\Ys n=false:=by
 have ho:=Qqm h;obtain⟨hx,hy⟩:=Co h;cases hf:Zc n
 ·cases hr:Ys n
  ·exact⟨rfl,rfl⟩
  simp [Zd,ho,hx,hy,hf,hr]at h
 simp [Zd,ho,hx,hy,hf]at h
theorem Qxg {n:Nd} {a:Int}(ho:Yr n.op=true)(hx:Zy (Qi n.op) n.x a=true)(hy:Zy (Qe n.op) n.y a=true)(hf:Zc n=false)(hr:Ys n=false):Zd n a=0:=by
 simp [Zd,ho,hx,hy,hf,hr]
theorem Jf {f:List Nd}(h:check f=0):0 < f.length/\f.length<=200/\Jc f 0=0:=by
 unfold check at h;by_cases h0:f.length=0
 ·simp [h0]at h
 by_cases h1:200 < f.length
 ·simp [h0,h1]at h
 simp [h0,h1]at h;exact⟨by omega,by omega,h⟩
theorem Qr3 {f:List Nd}(h:Jc f 0=0):Wf f:=by
 intro i n hn;have h1:=My f 0 h i n hn;obtain⟨hx,hy⟩:=Co h1;refine⟨fun e=> ?_,fun e=> ?_⟩
 ·rw [e]at hx;simp [Zy]at hx;omega
 rw [e]at hy;simp [Zy]at hy;omega
theorem Yb {f:List Nd}(h:check f=0):Wf f:=Qr3 (Jf h).2.2
def Jn(f:List Nd)(z:Int):List Nd:=bif check f !=0||(decide (z < 0)||decide ((f.length:Int)<=z))then []else(Ze f z.toNat []).1
def Qf(f:List Nd):List Nd:=Jn f (f.length - 1:Int)
def Zky(a b:List Nd):Bool:=check a==0&&(check b==0&&decide (Qf a=Qf b))
def Kz(l:List Nd):Nat:=l.foldl (fun m n=>m|||(Vk n.op).toNat) 0
def Js(f:List Nd):Nat:=Kz (Qf f)
theorem Qyo {f:List Nd}(h:check f=0):Qf f=(Ze f (f.length - 1) []).1:=by
 have hl:=(Jf h).1;unfold Qf Jn;have h1:decide ((f.length:Int) - 1 < 0)=false:=by simp;omega
 have h2:decide ((f.length:Int)<=(f.length:Int) - 1)=false:=by simp;omega
 rw [h,h1,h2];have:((f.length:Int) - 1).toNat=f.length - 1:=by omega
 rw [this];rfl
theorem Qzh {f:List Nd}(h:check f≠0):Qf f= []:=by
 unfold Qf Jn;have:(check f !=0)=true:=by simpa using h
 rw [this];rfl
open Go.RowKit
def Jo(w:World)(v:Value)(l:List Nd):Prop:=Ew w v l/\∀n∈l,n.ok
def Yc(w w':World)(v:Value)(l:List Nd):Prop:=w'.ownsRow w.heap.size 71 6 v l.length (l.flatMap Nd.cells)/\(∀n∈l,n.ok)/\Qg w w'
theorem Jo.ext {w w':World} {v:Value} {l:List Nd}(h:Jo w v l)(he:Qg w w'):Jo w' v l:=⟨h.1.ext he,h.2⟩
theorem Qdn:∀(l:List Nd) (k:Nat) (n:Nd) (j:Nat),l[k]?=some n->j < 6->(l.flatMap Nd.cells)[k*6+j]?=n.cells[j]?
 |[],k,n,j,h,_=>by simp at h
 |m :: r,0,n,j,h,hj=>by
  simp only [List.getElem?_cons_zero,Option.some.injEq]at h;subst h;rw [List.flatMap_cons,List.getElem?_append_left (by simp [Nd.cells];omega)];simp
 |m :: r,k+1,n,j,h,hj=>by
  rw [List.flatMap_cons,List.getElem?_append_right (by simp [Nd.cells];omega)];have e:(k+1)*6+j - m.cells.length=k*6+j:=by simp [Nd.cells];omega
  rw [e];exact Qdn r k n j (by simpa using h) hj
theorem Cw {w:World} {base:Nat} {v:Value} {l:List Nd}(h:w.ownsRow base 71 6 v l.length (l.flatMap Nd.cells)):Ew w v l:=by
 have nM:=h;obtain⟨_,h2⟩:=h;rcases h2 with⟨rfl,h0⟩|⟨g,cap,cur,rfl,hb,hg,hn,xU,lX,lW⟩
 ·have:l= []:=List.length_eq_zero_iff.1 h0;subst this;exact⟨none,0,rfl,Nat.le_refl _,by unfold maxLen;omega,fun h=>absurd rfl h⟩
 refine⟨some ⟨g,0,none⟩,cap,rfl,hn,xU,fun zQ=>⟨_,rfl,Qn hg,fun k n hk=> ?_⟩⟩;have xD:k < l.length:=(List.getElem?_eq_some_iff.1 hk).1;have cell:∀j,j < 6->∀u,n.cells[j]?=some u->w.cell? ⟨g,k*6+j,none⟩=some u:=by
  intro j hj u hu;have h1:=Qdn l k n j hk hj;rw [<-lW,hu]at h1;have h2:cur[k*6+j]?=some u:=by
   rw [List.getElem?_take]at h1
   split at h1
   ·simpa using h1
   cases h1
  simp [World.cell?,hg,h2]
 have e0:((⟨g,0,none⟩:Addr).add (k*6))=⟨g,k*6,none⟩:=by
  unfold Addr.add
  split
  ·rename_i h;rw [h]
  simp
 rw [e0];exact⟨cell 0 (by omega) _ rfl,cell 1 (by omega) _ rfl,cell 2 (by omega) _ rfl,cell 3 (by omega) _ rfl,cell 4 (by omega) _ rfl,cell 5 (by omega) _ rfl⟩
theorem Yc.fml {w w':World} {v:Value} {l:List Nd}(h:Yc w w' v l):Jo w' v l:=⟨Cw h.1,h.2.1⟩
theorem Yc.ext {w w':World} {v:Value} {l:List Nd}(h:Yc w w' v l):Qg w w':=h.2.2
theorem Yc.none_(w:World):Yc w w (.slice none 0 0) []:=⟨World.ownsRow_nil _ _ _ _,by simp,Qz⟩
theorem Kl {w:World} {b b':Nat} {e:TypeId} {size n:Nat} {v:Value} {xs:List Value}(h:w.ownsRow b e size v n xs)(hb:b'<=b):w.ownsRow b' e size v n xs:=by
 obtain⟨h1,h2⟩:=h;refine⟨h1,?_⟩;rcases h2 with h2|⟨g,cap,cur,e,h3,h4⟩
 ·exact .inl h2
 exact .inr ⟨g,cap,cur,e,Qx hb h3,h4⟩
theorem Yc.before {w0 w w':World} {v:Value} {l:List Nd}(h:Yc w w' v l)(he:Qg w0 w):Yc w0 w' v l:=⟨Kl h.1 he.size,h.2.1,he.trans h.2.2⟩
theorem Yc.after {w w' w2:World} {v:Value} {l:List Nd}(h:Yc w w' v l)(he:Qg w' w2):Yc w w2 v l :=
 ⟨Zm h.1 fun g hg=>he.block (h.1.lt g hg).2,h.2.1,h.2.2.trans he⟩
theorem Ik(v:Value)(l:List Nd)(z:Int)(w:World)(h:Jo w v l):
 Calls Tryz.prog 147 #[v,.int .i64 z] w fun e w'=>∃u,e=.returned u/\Yc w w' u (Jn l z):=by
 have H:=Qq h;obtain⟨⟨A,c,rfl,yL⟩,zO⟩:=h;have kE:=Qq yL;clear yL zO;by_cases mV:check l≠0\/z < 0\/(l.length:Int)<=z
 ·have HR:=Qq (show Jn l z= [] by
   unfold Jn;rcases mV with h|h|h
   ·have:(check l !=0)=true:=by simpa using h
    rw [this];rfl
   ·simp [h]
   simp [h])
  by_cases hc:check l=0
  ·have YN:z < 0\/(l.length:Int)<=z:=by
    rcases mV with h|h
    ·exact absurd hc h
    exact h
   have HC:=Qq hc;clear hc mV;by_cases hz:z < 0
   ·clear YN;go_enter Tryz.func147,Tryz.ntmps147;go_wp2_with(go_at_call 41;refine(Vh _ l _ H.out.1).mono ?_;rintro e w1 ⟨rfl,hb⟩;rw [HC.out]);go_ret;exact⟨_,rfl,by rw [HR.out];exact(Yc.none_ _).after hb⟩
   have hl:(l.length:Int)<=z:=by omega
   clear YN;go_enter Tryz.func147,Tryz.ntmps147;go_wp2_with(go_at_call 41;refine(Vh _ l _ H.out.1).mono ?_;rintro e w1 ⟨rfl,hb⟩;rw [HC.out]);go_ret;exact⟨_,rfl,by rw [HR.out];exact(Yc.none_ _).after hb⟩
  have yV:(check l !=0)=true:=by simpa using hc
  clear mV hc;go_enter Tryz.func147,Tryz.ntmps147;go_wp2_with(go_at_call 41;refine(Vh _ l _ H.out.1).mono ?_;rintro e w1 ⟨rfl,hb⟩);go_ret;exact⟨_,rfl,by rw [HR.out];exact(Yc.none_ _).after hb⟩
 have hc:check l=0:=by
  by_cases e:check l=0
  ·exact e
  exact absurd (.inl e) mV
 have wZ:0<=z:=by
  by_cases e:z < 0
  ·exact absurd (.inr (.inl e)) mV
  omega
 have oA:z < l.length:=by
  by_cases e:(l.length:Int)<=z
  ·exact absurd (.inr (.inr e)) mV
  omega
 clear mV;obtain⟨r,rfl⟩:=Int.eq_ofNat_of_zero_le wZ;have hr:r < l.length:=by omega
 have HR:=Qq (show Jn l r=(Ze l r []).1 by
  unfold Jn;rw [hc];have h1:decide ((r:Int) < 0)=false:=by simp
  have h2:decide ((l.length:Int)<=(r:Int))=false:=by simp;omega
  rw [h1,h2]
  rfl)
 have HC:=Qq hc;have HL:=(Jf hc).2.1;clear hc;go_enter Tryz.func147,Tryz.ntmps147;go_wp2_with(go_at_call 41;refine(Vh _ l _ H.out.1).mono ?_;rintro e w1 ⟨rfl,hb⟩;rw [HC.out]);have HB:=Qq hb;clear hb;refine(Oj l A c r _ (Yb HC.out) H.out.2 (by omega) hr (kE.out.ext HB.out)).mono ?_;rintro e w2 ⟨u,rfl,zR,dS,yX⟩;have HM:=Qq (show Yc w w2 u (Jn l r) by rw [HR.out];exact Yc.before ⟨zR,dS,yX⟩ HB.out);clear zR dS yX;go_wp2_with fail;go_ret;exact⟨_,rfl,HM.out⟩
theorem Fk(v:Value)(l:List Nd)(w:World)(h:Jo w v l):
 Calls Tryz.prog 118 #[v] w fun e w'=>∃u,e=.returned u/\Yc w w' u (Qf l):=by
 have H:=Qq h;obtain⟨⟨A,c,rfl,yL⟩,zO⟩:=h;have hl:=yL.1;have hm:=yL.2.1;unfold maxLen at hm;clear yL zO;go_enter Tryz.func118,Tryz.ntmps118;go_wp2_with fail;refine(Ik _ l _ _ H.out).mono ?_;rintro e w2 ⟨u,rfl,hm⟩;have HM:=Qq hm;clear hm;go_wp2_with fail;go_ret;exact⟨_,rfl,HM.out⟩
theorem Qpd(a b:Nd)(w:World):
 (Op.equalIn 10000 71 (.agg #[.int .i64 a.op,.int .i64 a.i,.int .i64 a.e,.int .i64 a.g,.int .i64 a.x,.int .i64 a.y]) (.agg #[.int .i64 b.op,.int .i64 b.i,.int .i64 b.e,.int .i64 b.g,.int .i64 b.x,.int .i64 b.y])).run Tryz.prog w=.ok (decide (a=b)) w:=by
 have u3:=Tryz.underlying3;have a3:=Tryz.isAgg3;have z3:=Tryz.sizeOf3;have hS:Tryz.prog.underlying 71=some (.struct (Tryz.prog.fieldsOf 71)):=by kernel_rfl
 have hp:Tryz.prog.stoodInHeld 71=false:=by kernel_rfl
 rw [show(10000:Nat)=9999+1 from rfl,run_equalIn_agg w 9999 71 _ _ hS hp];simp only [Program.fieldsOf,Tryz.underlying71];go_simp;cases a with
 |mk a0 a1 a2 a3 a4 a5 =>
  cases b with
  |mk b0 b1 b2 b3 b4 b5 =>
   simp only [Nd.mk.injEq];by_cases h0:a0=b0 <;> by_cases h1:a1=b1 <;> by_cases h2:a2=b2 <;> by_cases h3:a3=b3 <;> by_cases h4:a4=b4 <;> by_cases h5:a5=b5 <;> simp [h0,h1,h2,h3,h4,h5]
theorem Kx {α:Type} {l:List α} {k:Nat} {a:α}(h:l[k]?=some a):l.take (k+1)=l.take k++ [a]:=by
 rw [List.take_add_one,h];rfl
theorem Qdi {α:Type} {a b:List α} {k:Nat} {x y:α}(ha:a[k]?=some x)(hb:b[k]?=some y)(zQ:x≠y):a≠b:=by
 intro e;rw [e,hb]at ha;exact zQ (Option.some.inj ha).symm
theorem Qt7(v1 v2:Value)(l1 l2:List Nd)(w:World)(h1:Ew w v1 l1)(h2:Ew w v2 l2):
 Calls Tryz.prog 180 #[v1,v2] w fun e w'=>e=.returned (.bool (decide (l1=l2)))/\Qg w w':=by
 obtain⟨A1,c1,rfl,T3,ML,bY⟩:=h1;obtain⟨A2,c2,rfl,YK,dZ,kY⟩:=h2;unfold maxLen at ML dZ;by_cases hl:l1.length=l2.length
 ·have bC:=Qq bY;have bB:=Qq kY;have HL:=Qq hl;have eb:((l1.length:Int) !=(l2.length:Int))=false:=by simp [hl]
  clear bY kY hl;go_enter Tryz.func180,Tryz.ntmps180;go_wp2_with fail;go_loopw [13] (fun i wr=>∃k:Nat,k<=l1.length/\i=.int .i64 k/\Hid (l1.take k=l2.take k)/\Qg w wr) (fun i _=>l1.length - (intOf i).toNat)
  case atStart=>exact⟨0,Nat.zero_le _,rfl,Qq rfl,Qz⟩
  case round =>
   obtain⟨k,hk,rfl,lW,yX⟩:=hrel;by_cases hlt2:k < l1.length
   ·have yQ:k < l2.length:=by have:=HL.out;omega
    obtain⟨a,ha⟩:∃a,l1[k]?=some a:=⟨_,Qv hlt2⟩;obtain⟨b,hb⟩:∃b,l2[k]?=some b:=⟨_,Qv yQ⟩;obtain⟨ad1,rfl,yV,xV⟩:=bC.out (by intro e;rw [e]at hlt2;simp at hlt2);obtain⟨ad2,rfl,xC,tL⟩:=bB.out (by intro e;rw [e]at yQ;simp at yQ);obtain⟨a0,a1,a2,a3,a4,a5⟩:=(xV k a ha).keep fun p hp=>yX.cell (p:=p) (by rw [hp,Qt];exact yV)
    obtain⟨b0,b1,b2,b3,b4,b5⟩:=(tL k b hb).keep fun p hp=>yX.cell (p:=p) (by rw [hp,Qt];exact xC)
    have jL:(0:Int)<=(k:Int):=by omega
    have iG:(k:Int) < (l1.length:Int):=by omega
    have eF:(k:Int) < (l2.length:Int):=by omega
    have US:=fun W=>Qpd a b W
    have HA:=Qq ha;have HB:=Qq hb;clear ha hb xV tL;by_cases qS:a=b
    ·have hd:decide (a=b)=true:=by simpa using qS
     have HT:Hid (l1.take (k+1)=l2.take (k+1)):=Qq (by rw [Kx HA.out,Kx HB.out,lW.out,qS]);clear qS;go_wp2_with fail;go_quiet (fail);go_wp2_with fail;go_roundw
     case rel=>exact⟨k+1,by omega,by go_num,HT,yX.drewN _⟩
     case measure=>simp [intOf];omega
    have hd:decide (a=b)=false:=by simpa using qS
    have HR:Hid (decide (l1=l2)=false):=Qq (decide_eq_false (Qdi HA.out HB.out qS));clear qS;go_wp2_with fail;go_quiet (fail);go_wp2_with fail;go_ret;exact⟨by rw [HR.out];rfl,yX.drewN _⟩
   obtain rfl:l1.length=k:=by omega
   have HR:Hid (decide (l1=l2)=true):=Qq (decide_eq_true (by
    have h:=lW.out;rw [List.take_of_length_le (Nat.le_refl _),HL.out,List.take_of_length_le (Nat.le_refl _)]at h;exact h))
   go_wp2_with fail;go_ret;exact⟨by rw [HR.out];rfl,yX⟩
 have eb:((l1.length:Int) !=(l2.length:Int))=true:=by simp;omega
 have HR:Hid (decide (l1=l2)=false):=Qq (decide_eq_false fun e=>hl (by rw [e]));clear hl bY kY;go_enter Tryz.func180,Tryz.ntmps180;go_wp2_with fail;go_ret;exact⟨by rw [HR.out];rfl,Qz⟩
theorem Wd(a:Nat)(ha:a < 9223372036854775808):(BitVec.ofInt 64 (a:Int)).toNat=a:=by
 rw [BitVec.ofInt_natCast,BitVec.toNat_ofNat];exact Nat.mod_eq_of_lt (by omega)
theorem Dp(a b:Nat)(ha:a < 9223372036854775808)(hb:b < 9223372036854775808):bits .or .i64 (a:Int) (b:Int)=((a|||b:Nat):Int):=by
 have hx:a|||b < 2^63:=Nat.or_lt_two_pow (by omega) (by omega);show IntKind.i64.wrap ((BitVec.ofInt 64 (a:Int)|||BitVec.ofInt 64 (b:Int)).toNat:Int)=_;rw [BitVec.toNat_or,Wd a ha,Wd b hb,IntKind.wrap_i64];omega
theorem Qz2(op:Int):0<=Vk op/\Vk op<=256:=by
 unfold Vk
 repeat' split
 all_goals omega
theorem Qzv(l:List Nd)(n:Nd):Kz (l++ [n])=Kz l|||(Vk n.op).toNat:=by simp [Kz,List.foldl_append]
theorem Pk(l:List Nd):Kz l < 512:=by
 have:∀(l:List Nd) (m:Nat),m < 512->l.foldl (fun m n=>m|||(Vk n.op).toNat) m < 512:=by
  intro l
  induction l with
  |nil=>intro m h;exact h
  |cons a r ih =>
   intro m h;refine ih _ (Nat.or_lt_two_pow (n:=9) h ?_);have:=Qz2 a.op;omega
 exact this l 0 (by omega)
theorem Qbj(n:Nd)(u0 u1 u2 u3 u4 u5:Bool)(g:Int)(w:World):
 Calls Tryz.prog 117 #[.agg #[.int .i64 n.op,.int .i64 n.i,.int .i64 n.e,.int .i64 n.g,.int .i64 n.x,.int .i64 n.y],.agg #[.bool u0,.bool u1,.bool u2,.bool u3,.bool u4,.bool u5,.int .i64 g]] w
  fun e w'=>e=.returned (.int .i64 g)/\Qg w w':=by
 go_enter Tryz.func117,Tryz.ntmps117;go_wp2_with fail;go_ret;exact⟨rfl,(Qz.alloc _).alloc _⟩
theorem Qh5(v:Value)(l:List Nd)(w:World)(h:Jo w v l):
 Calls Tryz.prog 116 #[v,.func (Fn.func 117) #[] #[]] w fun e w'=>e=.returned (.int .i64 (Js l:Nat))/\Qg w w':=by
 have H:=Qq h;clear h;go_enter Tryz.func116,Tryz.ntmps116;go_wp2_with fail;refine(Fk _ l _ H.out).mono ?_;rintro e w1 ⟨u,rfl,hm⟩;have HX:=Qq hm.2.2;obtain⟨A,c,rfl,xU,yP,zN⟩:=hm.fml.1;unfold maxLen at yP;have HR:=Qq zN;obtain⟨cl,yR⟩:∃cl,cl=Qf l:=⟨_,rfl⟩;have tV:=Qq (show Js l=Kz cl by rw [yR];rfl);rw [<-yR]at HR xU;rw [<-yR];clear hm zN yR;go_wp2_with fail;go_loopw [5,13] (fun out i wr=>∃k:Nat,k<=cl.length/\i=.int .i64 k/\out=.int .i64 (Kz (cl.take k):Nat)/\Qg w1 wr) (fun _ i _=>cl.length - (intOf i).toNat)
 case atStart=>exact⟨0,Nat.zero_le _,rfl,rfl,Qz⟩
 case round =>
  obtain⟨k,hk,rfl,rfl,yX⟩:=hrel;by_cases hlt2:k < cl.length
  ·obtain⟨a,ha⟩:∃a,cl[k]?=some a:=⟨_,Qv hlt2⟩;obtain⟨ad,rfl,yV,xV⟩:=HR.out (by intro e;rw [e]at hlt2;simp at hlt2);obtain⟨a0,a1,a2,a3,a4,a5⟩:=(xV k a ha).keep fun p hp=>yX.cell (p:=p) (by rw [hp,Qt];exact yV)
   have xJ:=Qz2 a.op;obtain⟨fa,pR⟩:=Int.eq_ofNat_of_zero_le xJ.1;have uM:=Dp (Kz (cl.take k)) fa (by have:=Pk (cl.take k);omega) (by omega);have HS:Hid (Kz (cl.take (k+1))=(Kz (cl.take k)|||fa)):=Qq (by rw [Kx ha,Qzv,pR];rfl);have nC:=Qq pR;generalize Kz (cl.take k)=m at uM HS;clear ha xV xJ pR;go_wp2_with(first|(go_at_call 161;refine(Nm _ _ _ _ _ _ _ _ rfl rfl rfl rfl rfl rfl rfl _).mono ?_;rintro e w2 ⟨rfl,hb⟩;rw [nC.out];have HB:=Qq hb;obtain⟨hc,_,wZ⟩:=hb.facts;clear hb;have hz:wr.heap.size < w2.heap.size:=by { simp at wZ;omega };clear wZ)|(go_at_call 117;refine(Qbj a _ _ _ _ _ _ _ _).mono ?_;rintro e w3 ⟨rfl,vR⟩))
   go_roundw
   case rel=>exact⟨k+1,by omega,by go_num,by rw [HS.out],(((yX.alloc _).trans HB.out).alloc _).trans vR⟩
   case measure=>simp [intOf];omega
  obtain rfl:cl.length=k:=by omega
  go_wp2_with fail;go_ret;exact⟨Ke (by rw [tV.out,List.take_of_length_le (Nat.le_refl _)]),HX.out.trans yX⟩
theorem Rh(v:Value)(l:List Nd)(w:World)(h:Jo w v l):
 Calls Tryz.prog 55 #[v] w fun e w'=>e=.returned (.int .i64 (Js l:Nat))/\Qg w w':=by
 have H:=Qq h;clear h;go_enter Tryz.func55,Tryz.ntmps55;go_wp2_with(go_at_call 116;refine(Qh5 _ l _ H.out).mono ?_;rintro e w3 ⟨rfl,vR⟩);go_ret;exact⟨rfl,vR⟩
theorem Qsx {f:List Nd}(hf:Wf f):∀(i:Nat) (o:List Nd),i < f.length->∀m∈(Ze f i o).1,m∈o\/∃n∈f,∃k1 k2,m=n.with_ k1 k2:=by
 intro i
 induction i using Nat.strongRecOn with
 |_ i ih =>
  intro o hi m hm;obtain⟨n,hn⟩:∃n,f[i]?=some n:=⟨_,Qv hi⟩;obtain⟨hx,hy⟩:=hf i n hn;have p1:∀o,∀m∈(Yv f n o).1,m∈o\/∃n∈f,∃k1 k2,m=n.with_ k1 k2:=by
   intro o m hm;unfold Yv at hm
   split at hm
   ·rename_i h1;have:=hx h1;exact ih _ (by omega) _ (by omega) m hm
   exact .inl hm
  have p2:∀o,∀m∈(Vt f n o).1,m∈o\/∃n∈f,∃k1 k2,m=n.with_ k1 k2:=by
   intro o m hm;unfold Vt at hm
   split at hm
   ·rename_i h1;have:=hy h1;exact ih _ (by omega) _ (by omega) m hm
   exact .inl hm
  rw [Fs hf hn]at hm;have oS:m∈(Vt f n (Yv f n o).1).1\/m=n.with_ (Yv f n o).2 (Vt f n (Yv f n o).1).2:=by
   simp only [Zi]at hm
   split at hm
   ·exact .inl hm
   simpa using hm
  rcases oS with oS|rfl
  ·rcases p2 _ m oS with h|h
   ·exact p1 _ m h
   exact .inr h
  exact .inr ⟨n,List.mem_of_getElem? hn,_,_,rfl⟩
theorem Ha {o:List Nd} {m:Nd}(ho:Wf o)(hx:Qi m.op=true->0<=m.x/\m.x < o.length)(hy:Qe m.op=true->0<=m.y/\m.y < o.length):Wf (o++ [m]):=by
 intro i n hn;by_cases h:i < o.length
 ·rw [List.getElem?_append_left h]at hn;exact ho i n hn
 rw [List.getElem?_append_right (by omega)]at hn;have hi:i=o.length:=by
  by_cases e:i - o.length=0
  ·omega
  rw [List.getElem?_eq_none (by simp;omega)]at hn;cases hn
 subst hi;simp at hn;subst hn;exact⟨hx,hy⟩
theorem Qh6 {a b:List Nd}(ha:Wf a)(hb:∀(i:Nat) (n:Nd),b[i]?=some n->(Qi n.op=true->0<=n.x/\n.x < (a.length+i:Nat))/\(Qe n.op=true->0<=n.y/\n.y < (a.length+i:Nat))):Wf (a++b):=by
 intro i n hn;by_cases h:i < a.length
 ·rw [List.getElem?_append_left h]at hn;exact ha i n hn
 rw [List.getElem?_append_right (by omega)]at hn;have:=hb _ n hn;have e:a.length+(i - a.length)=i:=by omega
 rw [e]at this;exact this
theorem Nk:Wf []:=fun i n h=>by simp at h
theorem Vf {op:Int}(h:Qe op=true):Qi op=true:=by
 unfold Qi;simp [Qe]at h;simp;omega
theorem Qpp {f:List Nd}(hf:Wf f):∀(i:Nat) (o:List Nd),i < f.length->Wf o->Wf (Ze f i o).1:=by
 intro i
 induction i using Nat.strongRecOn with
 |_ i ih =>
  intro o hi ho;obtain⟨n,hn⟩:∃n,f[i]?=some n:=⟨_,Qv hi⟩;obtain⟨hx,hy⟩:=hf i n hn;have w1:Wf (Yv f n o).1:=by
   unfold Yv
   split
   ·rename_i h1;have:=hx h1;exact ih _ (by omega) _ (by omega) ho
   exact ho
  have w2:Wf (Vt f n (Yv f n o).1).1:=by
   unfold Vt
   split
   ·rename_i h1;have:=hy h1;exact ih _ (by omega) _ (by omega) w1
   exact w1
  rw [Fs hf hn];simp only [Zi]
  split
  ·exact w2
  refine Ha w2 (fun h=> ?_) (fun h=> ?_)
  ·have h':Qi n.op=true:=h;have hp:=Qqc hf hn (Yv f n o).1;have hl:(Yv f n o).2 < (Yv f n o).1.length:=by
    have:=hx h';unfold Yv;rw [if_pos h'];exact Hr hf _ _ (by omega)
   have:=hp.length_le;simp only [Nd.with_,h',cond_true];omega
  have h':Qe n.op=true:=h;have hl:(Vt f n (Yv f n o).1).2 < (Vt f n (Yv f n o).1).1.length:=by
   have:=hy h';unfold Vt;rw [if_pos h'];exact Hr hf _ _ (by omega)
  simp only [Nd.with_,h',cond_true];omega
def Za(n:Nd):Prop:=Yr n.op=true/\Zc n=false/\Ys n=false/\(Qi n.op=false->n.x=0)/\(Qe n.op=false->n.y=0)
theorem Qp6 {n:Nd} {a:Int}(h:Zd n a=0):Za n:=by
 obtain⟨hx,hy⟩:=Co h;obtain⟨hf,hr⟩:=Qd5 h;refine⟨Qqm h,hf,hr,fun e=> ?_,fun e=> ?_⟩
 ·rw [e]at hx;simpa [Zy]using hx
 rw [e]at hy;simpa [Zy]using hy
theorem Za.err {n:Nd} {a:Nat}(h:Za n)(hx:Qi n.op=true->0<=n.x/\n.x < a)(hy:Qe n.op=true->0<=n.y/\n.y < a):Zd n a=0:=by
 obtain⟨ho,hf,hr,h1,h2⟩:=h;refine Qxg ho ?_ ?_ hf hr
 ·cases e:Qi n.op
  ·simp [Zy,h1 e]
  have:=hx e;simp [Zy];omega
 cases e:Qe n.op
 ·simp [Zy,h2 e]
 have:=hy e;simp [Zy];omega
theorem Za.with_ {n:Nd}(h:Za n)(k1 k2:Nat):Za (n.with_ k1 k2):=by
 obtain⟨ho,hf,hr,h1,h2⟩:=h;refine⟨ho,hf,hr,fun e=> ?_,fun e=> ?_⟩
 ·have e':Qi n.op=false:=e;simp only [Nd.with_,e',cond_false];exact h1 e'
 have e':Qe n.op=false:=e;simp only [Nd.with_,e',cond_false];exact h2 e'
theorem Qei {f:List Nd}(hw:Wf f)(hh:∀n∈f,Za n):Jc f 0=0:=by
 refine Qzj f 0 fun k n hk=> ?_
 obtain⟨hx,hy⟩:=hw k n hk;have:=(hh n (List.mem_of_getElem? hk)).err hx hy
 simpa using this
theorem Qvb {f:List Nd}(h0:f≠ [])(hl:f.length<=200)(hw:Wf f)(hh:∀n∈f,Za n):check f=0:=by
 unfold check;have h1:f.length≠0:=by simpa using h0
 have h2:¬200 < f.length:=by omega
 simp [h1,h2,Qei hw hh]
theorem Rw {f:List Nd}(h:check f=0):∀n∈f,Za n:=by
 intro n hn;obtain⟨i,hi⟩:=List.getElem?_of_mem hn;exact Qp6 (My f 0 (Jf h).2.2 i n hi)
theorem Jj {f:List Nd}(h:check f=0):Wf (Qf f)/\(Qf f).length<=f.length/\0 < (Qf f).length/\(∀n∈Qf f,Za n):=by
 have hw:=Yb h;have hl:=(Jf h).1;rw [Qyo h];refine⟨Qpp hw _ _ (by omega) Nk,?_,?_,?_⟩
 ·have h1:=Qjd hw (f.length - 1) [] (by omega);have h2:=Iz f;have h3:=Gr f (Ze f (f.length - 1) []).1;omega
 ·have:=Hr hw (f.length - 1) [] (by omega);omega
 intro m hm;rcases Qsx hw _ _ (by omega) m hm with h'|⟨n,hn,k1,k2,rfl⟩
 ·cases h'
 exact(Rw h n hn).with_ k1 k2
theorem Gj {f:List Nd}(h:check f=0):check (Qf f)=0:=by
 obtain⟨a,b,c,d⟩:=Jj h;have:=(Jf h).2.1;exact Qvb (by intro e;rw [e]at c;simp at c) (by omega) a d
def Jp(d:Nat)(n:Nd):Nd:= { n with x:=bif Qi n.op then n.x+d else n.x,y:=bif Qe n.op then n.y+d else n.y }
def Hk(k:Nat)(x:Nd)(len:Nat):Nd:=bif k==0 then { x with x:=(len:Int) - 1 } else { x with y:=(len:Int) - 1 }
def Bo:List (List Nd)->Nat->List Nd->Nd->List Nd×Nd
 |[],_,f,x=>(f,x)
 |o :: r,k,f,x=>Bo r (k+1) (f++(Qf o).map (Jp f.length)) (Hk k x (f++(Qf o).map (Jp f.length)).length)
def Tx(f:List Nd)(y:Nd):List Nd :=
 bif Zd y f.length !=0 then []else bif decide (200 < (Ze (f++ [y]) f.length []).1.length)then []else(Ze (f++ [y]) f.length []).1
def Vv(x:Nd)(ops:List (List Nd)):List Nd:=bif ops.any (fun o=>check o !=0)then []else Tx (Bo ops 0 [] x).1 (Bo ops 0 [] x).2
theorem Qkv {a b:List Nd}(ha:Wf a)(hb:Wf b):Wf (a++b.map (Jp a.length)):=by
 refine Qh6 ha fun i n hn=> ?_
 rw [List.getElem?_map]at hn;obtain⟨m,hm,rfl⟩:=Option.map_eq_some_iff.1 hn;obtain⟨hx,hy⟩:=hb i m hm;refine⟨fun e=> ?_,fun e=> ?_⟩
 ·have e':Qi m.op=true:=e;have:=hx e';simp only [Jp,e',cond_true];omega
 have e':Qe m.op=true:=e;have:=hy e';simp only [Jp,e',cond_true];omega
theorem Qrd(ops:List (List Nd))(k:Nat)(o:List Nd)(f:List Nd)(x:Nd)(h:ops[k]?=some o):
 Bo (ops.drop k) k f x=Bo (ops.drop (k+1)) (k+1) (f++(Qf o).map (Jp f.length)) (Hk k x (f++(Qf o).map (Jp f.length)).length):=by
 obtain⟨hk,rfl⟩:=List.getElem?_eq_some_iff.1 h;rw [List.drop_eq_getElem_cons hk];rfl
theorem Qax(ops:List (List Nd))(k:Nat)(o:List Nd)(h:ops[k]?=some o):(ops.drop k).any (fun o=>check o !=0)=(check o !=0||(ops.drop (k+1)).any (fun o=>check o !=0)):=by
 obtain⟨hk,rfl⟩:=List.getElem?_eq_some_iff.1 h;rw [List.drop_eq_getElem_cons hk];rfl
structure Ge (w w':World) (v v':Value):Prop where
 os:w'.os=w.os
 tape:w'.tape=w.tape
 output:w'.output=w.output
 size:w.heap.size<=w'.heap.size
 block:∀k,k < w.heap.size->v.ownBlock≠some k->w'.heap[k]?=w.heap[k]?
 row:∀g,v'.ownBlock=some g->v.ownBlock=some g\/w.heap.size<=g
section
variable {a b c w w':World} {va vb vc v v':Value}
theorem Ge.refl(w:World)(v:Value):Ge w w v v:=⟨rfl,rfl,rfl,Nat.le_refl _,fun _ _ _=>rfl,fun _ h=> .inl h⟩
theorem Ge.trans(h:Ge a b va vb)(k:Ge b c vb vc):Ge a c va vc :=
 ⟨k.os.trans h.os,k.tape.trans h.tape,k.output.trans h.output,Qx h.size k.size,
  fun i hi h4=>(k.block i (Qy hi h.size) (fun e=>by
   rcases h.row i e with e'|e'
   ·exact h4 e'
   omega)).trans (h.block i hi h4),
  fun g hg=>by
   rcases k.row g hg with e|e
   ·exact h.row g e
   exact .inr (Qx h.size e)⟩
theorem Ge.ext(h:Ge a b va vb)(e:Qg b c):Ge a c va vb:=h.trans ⟨e.os,e.tape,e.output,e.size,fun _ hk _=>e.block hk,fun _ h=> .inl h⟩
theorem Ge.appended(h:Ge a b va v)(hg:b.grownBy w' v.ownBlock)(yL:v'.ownBlock=v.ownBlock\/v'.ownBlock=some b.heap.size):Ge a w' va v' :=
 h.trans ⟨hg.os,hg.tape,hg.output,hg.size,fun k hk zQ=>hg.block k hk (fun e=>zQ e.symm),fun g wD=>by
  rcases yL with e|e
  ·exact .inl (by rw [<-e];exact wD)
  rw [e]at wD;injection wD with wD;exact .inr (by omega)⟩
theorem Ge.cell(h:Ge a b va vb) {p:Addr}(hp:p.block < a.heap.size)(zQ:va.ownBlock≠some p.block):b.cell? p=a.cell? p:=World.cell?_of_block (h.block _ hp zQ)
theorem Ge.below {B:Nat}(h:Ge a b va vb)(hB:B<=a.heap.size)(hr:∀g,va.ownBlock=some g->B<=g):Below B a b :=
 ⟨h.os,h.tape,h.output,h.size,fun k hk=>h.block k (by omega) (fun e=>by have:=hr k e;omega)⟩
theorem Zk {base:Nat} {e:TypeId} {size n:Nat} {xs:List Value}(h:w.ownsRow base e size v n xs)(he:Qg w w'):w'.ownsRow base e size v n xs:=Zm h fun g hg=>he.block (h.lt g hg).2
theorem Iy(w:World)(cs:Array Value)(t:TypeId):∀j u,cs.toList[j]?=some u->(w.alloc (.cells cs t)).cell? ((⟨w.heap.size,0,none⟩:Addr).add j)=some u:=by
 intro j u hj;have h:=heap_alloc_new w (.cells cs t);have e:((⟨w.heap.size,0,none⟩:Addr).add j)=⟨w.heap.size,j,none⟩:=by
  unfold Addr.add
  split
  ·rename_i h0;rw [h0]
  simp
 rw [e];simp only [World.cell?,h];rw [<-hj];simp
theorem Zt(w:World)(cs:Array Value)(t:TypeId) {g:Nat}(hg:g=w.heap.size):∀j u,cs.toList[j]?=some u->(w.alloc (.cells cs t)).cell? ((⟨g,0,none⟩:Addr).add j)=some u:=by
 subst hg;exact Iy w cs t
end
def Qkl(w:World)(A:Option Addr)(c:Nat)(ops:List (List Nd)):Prop :=
 ops.length<=c/\c<=maxLen/\(ops≠ []->∃ad,A=some ad/\ad.block < w.heap.size/\∀k l,ops[k]?=some l->∃u,w.cell? (ad.add k)=some u/\Jo w u l)
def Df(w:World)(v:Value)(ops:List (List Nd)):Prop:=∃A c,v=.slice A ops.length c/\Qkl w A c ops
theorem Qkl.ext {w w':World} {A:Option Addr} {c:Nat} {ops:List (List Nd)}(h:Qkl w A c ops)(he:Qg w w'):Qkl w' A c ops :=
 ⟨h.1,h.2.1,fun hn=>by
  obtain⟨ad,e,zI,hc⟩:=h.2.2 hn;refine⟨ad,e,Qy zI he.size,fun k l hk=> ?_⟩;obtain⟨u,hu,hf⟩:=hc k l hk;exact⟨u,(he.cell (Qj zI)).trans hu,hf.ext he⟩⟩
theorem Df.ext {w w':World} {v:Value} {ops:List (List Nd)}(h:Df w v ops)(he:Qg w w'):Df w' v ops:=by
 obtain⟨A,c,e,h⟩:=h;exact⟨A,c,e,h.ext he⟩
structure Qzf (w wr:World) (ops:List (List Nd)) (x:Nd) (k:Nat) (f:List Nd) (y:Nd) (v:Value):Prop where
 row:wr.ownsRow (w.heap.size+1) 71 6 v f.length (f.flatMap Nd.cells)
 ext:Qg w wr
 box:wr.heap[w.heap.size]?=some (.cells #[.int .i64 y.op,.int .i64 y.i,.int .i64 y.e,.int .i64 y.g,.int .i64 y.x,.int .i64 y.y] 71 (0,0))
 lay:Bo (ops.drop k) k f y=Bo ops 0 [] x
 any:ops.any (fun o=>check o !=0)=(ops.drop k).any (fun o=>check o !=0)
 wf:Wf f
 oks:∀n∈f,n.ok
 yok:y.ok
 len:f.length<=200*k
theorem Qc {w:World} {v:Value} {l:List Nd}(h:Jo w v l):∃A c,v=.slice A l.length c/\Mi w A c l:=by
 obtain⟨⟨A,c,e,yL⟩,_⟩:=h;exact⟨A,c,e,yL⟩
theorem Qwd {k len:Nat} {y:Nd}(h:y.ok)(hl:len<=1000):(Hk k y len).ok:=by
 obtain⟨a,b,c,d,e,g⟩:=h;have hb:Vm ((len:Int) - 1):=⟨by omega,by omega⟩;unfold Hk;cases k==0
 ·exact⟨a,b,c,d,e,hb⟩
 exact⟨a,b,c,d,hb,g⟩
theorem Qws {d:Nat} {n:Nd}(h:n.ok)(hx:Qi n.op=true->0<=n.x/\n.x<=1000)(hy:Qe n.op=true->0<=n.y/\n.y<=1000)(hd:d<=1000):(Jp d n).ok:=by
 obtain⟨a,b,c,d',e,g⟩:=h;refine⟨a,b,c,d',?_,?_⟩
 ·show Vm (bif Qi n.op then n.x+d else n.x);cases hh:Qi n.op
  ·exact e
  have:=hx hh;exact⟨by simp only [cond_true];omega,by simp only [cond_true];omega⟩
 show Vm (bif Qe n.op then n.y+d else n.y);cases hh:Qe n.op
 ·exact g
 have:=hy hh;exact⟨by simp only [cond_true];omega,by simp only [cond_true];omega⟩
theorem Qw9(op:Int):(Qi op=false/\Qe op=false)\/(Qi op=true/\Qe op=false)\/(Qi op=true/\Qe op=true):=by
 cases hx:Qi op
 ·cases hy:Qe op
  ·exact .inl ⟨rfl,rfl⟩
  rw [Vf hy]at hx;cases hx
 cases hy:Qe op
 ·exact .inr (.inl ⟨rfl,rfl⟩)
 exact .inr (.inr ⟨rfl,rfl⟩)
theorem Qce {wr w1 w':World} {base:Nat} {A5 Ac:Option Addr} {n c5 cc:Nat} {xs:List Value} {l:List Nd}(hm:Yc w1 w' (.slice Ac l.length cc) l)(zR:wr.ownsRow base 71 6 (.slice A5 n c5) n xs)(he:Qg wr w1):
 ∀ad:Addr,Ac=some ad->(Value.slice A5 n c5).ownBlock≠some ad.block/\ad.block < w'.heap.size:=by
 rintro ad rfl;obtain⟨h1,h2⟩:=hm.1.lt ad.block rfl;refine⟨fun e=> ?_,h2⟩;have:=(zR.lt _ e).2;have:=he.size;omega
theorem Qjt {w:World} {base:Nat} {e:TypeId} {size n:Nat} {v:Value} {xs:List Value}(h:w.ownsRow (base+1) e size v n xs):v.ownBlock≠some base:=fun e=>by
 have:=(h.lt _ e).1;omega
theorem Qzf.next {w wo wi wr:World} {ops:List (List Nd)} {x y:Nd} {k:Nat} {f cl o:List Nd} {v5 v6:Value}(h:Qzf w wo ops x k f y v5)(hk:k < 2)(hx:Qg w wi)(sO:wi.ownsRow (w.heap.size+1) 71 6 v5 f.length (f.flatMap Nd.cells))
 (xM:Ge wi wr v5 v6)(zR:wr.ownsRow (w.heap.size+1) 71 6 v6 (f.length+cl.length) ((f++(cl.take cl.length).map (Jp f.length)).flatMap Nd.cells))
 (OC:wi.heap[w.heap.size]?=some (.cells #[.int .i64 y.op,.int .i64 y.i,.int .i64 y.e,.int .i64 y.g,.int .i64 y.x,.int .i64 y.y] 71 (0,0)))
 (CU:Bo (ops.drop k) k f y=Bo (ops.drop (k+1)) (k+1) (f++(Qf o).map (Jp f.length)) (Hk k y (f++(Qf o).map (Jp f.length)).length))
 (tS:(ops.drop k).any (fun o=>check o !=0)=(check o !=0||(ops.drop (k+1)).any (fun o=>check o !=0)))(hc:check o=0)(yR:cl=Qf o)(kR:Wf cl)(zG:cl.length<=200)(zO:∀n∈cl,n.ok)
 (slot:Nat)(LR:slot=bif k==0 then 4 else 5)(z:Int)(hz:z=((f.length+cl.length:Nat):Int) - 1):
 Qzf w (wr.setCell ⟨w.heap.size,slot,none⟩ (.int .i64 z)) ops x (k+1) (f++cl.map (Jp f.length)) (Hk k y (f++cl.map (Jp f.length)).length) v6:=by
 have JU:(f++cl.map (Jp f.length)).length=f.length+cl.length:=by simp
 have zI:=Qn OC;have sX:wr.heap[w.heap.size]?=some (.cells #[.int .i64 y.op,.int .i64 y.i,.int .i64 y.e,.int .i64 y.g,.int .i64 y.x,.int .i64 y.y] 71 (0,0)):=(xM.block _ zI (Qjt sO)).trans OC;rw [List.take_of_length_le (Nat.le_refl _)]at zR;refine⟨?_,?_,?_,?_,?_,Qkv h.wf kR,?_,Qwd h.yok (by have:=h.len;omega),by have:=h.len;omega⟩
 ·rw [JU];exact ownsRow_setCell_other zR (Qjt zR) _
 ·have hb:Below (w.heap.size+1) wi wr:=xM.below zI (fun g hg=>(sO.lt g hg).1);exact Qg.setCell (Below.trans hx (Below.mono hb (Nat.le_succ _))) (Nat.le_refl _) _
 ·simp only [World.setCell,Array.getElem?_modify,sX,if_true,Option.map_some];rw [JU];subst LR hz;unfold Hk;cases e:k==0
  ·simp
  simp
 ·rw [<-h.lay,CU,yR]
 ·rw [h.any,tS,hc];rfl
 intro n hn;rcases List.mem_append.1 hn with hn|hn
 ·exact h.oks n hn
 obtain⟨m,hm,rfl⟩:=List.mem_map.1 hn;obtain⟨i,hi⟩:=List.getElem?_of_mem hm;have jK:i < cl.length:=(List.getElem?_eq_some_iff.1 hi).1;obtain⟨h1,h2⟩:=kR i m hi;exact Qws (zO m hm) (fun e=>by have:=h1 e;omega) (fun e=>by have:=h2 e;omega) (by have:=h.len;omega)
theorem Qzf.end_ {w wr:World} {ops:List (List Nd)} {x y:Nd} {f:List Nd} {v:Value}(h:Qzf w wr ops x ops.length f y v):Vv x ops=Tx f y:=by
 have h1:=h.lay;have h2:=h.any;rw [List.drop_length]at h1 h2;unfold Vv;rw [h2,<-h1];rfl
theorem Qzf.bad {w wr:World} {ops:List (List Nd)} {x y:Nd} {k:Nat} {f o:List Nd} {v:Value}(h:Qzf w wr ops x k f y v)(hc:check o≠0)
 (tS:(ops.drop k).any (fun o=>check o !=0)=(check o !=0||(ops.drop (k+1)).any (fun o=>check o !=0))):Vv x ops= []:=by
 have hb:(check o !=0)=true:=by simpa using hc
 unfold Vv;rw [h.any,tS,hb];rfl
theorem Qet {f:List Nd} {y:Nd}(h:Zd y f.length≠0):Tx f y= []:=by
 have hb:(Zd y f.length !=0)=true:=by simpa using h
 unfold Tx;rw [hb];rfl
theorem Qcj {f:List Nd} {y:Nd}(h:Zd y f.length=0)(hl:200 < (Ze (f++ [y]) f.length []).1.length):Tx f y= []:=by
 unfold Tx;simp [h,hl]
theorem Qiw {f:List Nd} {y:Nd}(h:Zd y f.length=0)(hl:¬200 < (Ze (f++ [y]) f.length []).1.length):Tx f y=(Ze (f++ [y]) f.length []).1:=by
 unfold Tx;simp [h,hl]
theorem Qio {f:List Nd} {y:Nd}(hf:Wf f)(h:Zd y f.length=0):Wf (f++ [y]):=by
 obtain⟨hx,hy⟩:=Co h;refine Ha hf (fun e=> ?_) (fun e=> ?_)
 ·rw [e]at hx;simp [Zy]at hx;omega
 rw [e]at hy;simp [Zy]at hy;omega
theorem Qry(f:List Nd)(A:Option Addr)(c r n:Nat)(w:World)(hn:f.length=n)(hf:Wf f)(zO:∀n∈f,n.ok)(zG:f.length<=1000)(hr:r < f.length)(h:Mi w A c f):
 Calls Tryz.prog 162 #[.slice A n c,.int .i64 r] w fun e w'=>∃v,e=.returned v/\w'.ownsRow w.heap.size 71 6 v (Ze f r []).1.length ((Ze f r []).1.flatMap Nd.cells)/\(∀n∈(Ze f r []).1,n.ok)/\Qg w w':=by
 subst hn;exact Oj f A c r w hf zO zG hr h
theorem Ui(x:Nd)(v:Value)(ops:List (List Nd))(w:World)(hx:x.ok)(TS:Df w v ops)(hn:ops.length<=2):
 Calls Tryz.prog 97 #[.agg #[.int .i64 x.op,.int .i64 x.i,.int .i64 x.e,.int .i64 x.g,.int .i64 x.x,.int .i64 x.y],v] w fun e w'=>∃u,e=.returned u/\Yc w w' u (Vv x ops):=by
 obtain⟨A,c,rfl,xU,yP,zN⟩:=TS;unfold maxLen at yP;have uJ:=Qq zN;have FI:=Qq hx;obtain⟨i0,jL,ZF,ZE,ZD⟩:=info_parts Qmr;clear zN hx;go_enter Tryz.func97,Tryz.ntmps97;go_wp2_with fail;go_loopw [5,16] (fun v5 i wr=>∃(k:Nat) (f:List Nd) (y:Nd),k<=ops.length/\i=.int .i64 k/\Hid (Qzf w wr ops x k f y v5)) (fun _ i _=>ops.length - (intOf i).toNat)
 case atStart=>exact⟨0,[],x,Nat.zero_le _,rfl,Qq ⟨World.ownsRow_nil _ _ _ _,Qz.alloc _,heap_alloc_new _ _,rfl,rfl,Nk,by simp,FI.out,Nat.le_refl _⟩⟩
 case round =>
  obtain⟨wo,rfl⟩:∃wo:World,wo=wr:=⟨_,rfl⟩;obtain⟨k,f,y,hk,rfl,HO⟩:=hrel;obtain⟨A5,c5,rfl⟩:=Qs HO.out.row;have R7:=HO.out.len;by_cases zI:k < ops.length
  ·obtain⟨o,ho⟩:∃o,ops[k]?=some o:=⟨_,Qv zI⟩;obtain⟨ad,rfl,yV,xV⟩:=uJ.out (by intro e;rw [e]at zI;simp at zI);obtain⟨u,hu,RY⟩:=xV k o ho;have cu:=(HO.out.ext.cell (p:=ad.add k) (Qj yV)).trans hu;have QK:=Qq (RY.ext HO.out.ext);have PY:=Qq (Qrd ops k o f y ho);have XL:=Qq (Qax ops k o ho);obtain⟨Au,cuu,rfl,_⟩:=Qc RY;clear xV hu RY ho;by_cases hc:check o=0
   ·have HC:=Qq hc;clear hc;go_wp2_with fail;refine(Vh _ o _ QK.out.1).mono ?_;rintro e w1 ⟨rfl,hb⟩;rw [HC.out];have zM:=Qq hb;clear hb cu;go_wp2_with fail;refine(Fk _ o _ (QK.out.ext zM.out)).mono ?_;rintro e wi ⟨uc,rfl,hm⟩;have HM:=Qq hm;obtain⟨Ac,cc,rfl,wU⟩:=Qc hm.fml;have NW:=wU.2.2;have NY:=wU.1;have mS:=wU.2.1;unfold maxLen at mS;have QV:=Qq NW;have hp:=Jj HC.out;have JV:=(Jf HC.out).2.1;have UV:(Qf o).length<=200:=by omega
    have EA:=hp.2.2.1;have aR:=Qq hp.1;have bF:=Qq hm.2.1;have zS:=Qq (HO.out.ext.trans (zM.out.trans hm.2.2));have jU:Hid (wi.ownsRow (w.heap.size+1) 71 6 (.slice A5 f.length c5) f.length (f.flatMap Nd.cells)):=Qq (Zk HO.out.row (zM.out.trans hm.2.2))
    have nE:Hid (wi.heap[w.heap.size]?=some (.cells #[.int .i64 y.op,.int .i64 y.i,.int .i64 y.e,.int .i64 y.g,.int .i64 y.x,.int .i64 y.y] 71 (0,0))):=
     Qq (((zM.out.trans hm.2.2).block (Qn HO.out.box)).trans HO.out.box)
    have tF:=Qq (Qce hm HO.out.row zM.out);obtain⟨cl,yR⟩:∃cl,cl=Qf o:=⟨_,rfl⟩;have tV:=Qq yR;rw [<-yR]at QV NY UV EA aR bF;rw [<-yR];clear hm wU NW hp yR;go_wp2_with fail;go_loopw [5,29] (fun v5 i wr=>∃j:Nat,j<=cl.length/\i=.int .i64 j/\Hid (wr.ownsRow (w.heap.size+1) 71 6 v5 (f.length+j) ((f++(cl.take j).map (Jp f.length)).flatMap Nd.cells))/\Hid (Ge wi wr (.slice A5 f.length c5) v5)) (fun _ i _=>cl.length - (intOf i).toNat)
    case atStart=>exact⟨0,Nat.zero_le _,rfl,Qq (by simpa using jU.out),Qq (Ge.refl _ _)⟩
    case round =>
     obtain⟨j,hj,rfl,wM,yY⟩:=hrel;obtain⟨A6,c6,rfl⟩:=Qs wM.out;by_cases hlt2:j < cl.length
     ·obtain⟨a,ha⟩:∃a,cl[j]?=some a:=⟨_,Qv hlt2⟩;obtain⟨adc,rfl,KF,UW⟩:=QV.out (by intro e;rw [e]at hlt2;simp at hlt2);obtain⟨a0,a1,a2,a3,a4,a5⟩:=(UW j a ha).keep fun p hp=>yY.out.cell (p:=p) (by rw [hp,Qt];exact KF) (by rw [hp,Qt];exact(tF.out adc rfl).1)
      obtain⟨xs,oR⟩:∃xs,xs=(f++(cl.take j).map (Jp f.length)).flatMap Nd.cells:=⟨_,rfl⟩;rw [<-oR]at wM;have jR:=Qq oR;clear oR;have pE:=aR.out j a ha;have EJ:=bF.out a (List.mem_of_getElem? ha);have cL:=Qq (Kx ha);have xS:f.length+j+1<=maxLen:=by unfold maxLen;omega
      have xR:(f.length+j+1)*48<=140737488355328:=by omega
      have zD:Hid (w.heap.size+1<=wr.heap.size):=Qq (Qx (Nat.succ_le_of_lt (Qn nE.out)) yY.out.size);have sX:Qi a.op=true->0<=a.x/\a.x < 200:=fun e=>by have:=pE.1 e;omega
      have bT:Qe a.op=true->0<=a.y/\a.y < 200:=fun e=>by have:=pE.2 e;omega
      clear UW pE EJ ha;rcases Qw9 a.op with⟨qB,sN⟩|⟨qB,sN⟩|⟨qB,sN⟩
      ·
       have oN:=Qq qB;have oY:=Qq sN
       have rM:Hid (xs++ [.int .i64 a.op,.int .i64 a.i,.int .i64 a.e,.int .i64 a.g,.int .i64 (a.x),.int .i64 (a.y)]=(f++(cl.take (j+1)).map (Jp f.length)).flatMap Nd.cells):=
        Qq (by rw [jR.out,cL.out,List.map_append,<-List.append_assoc,List.flatMap_append];simp [Jp,qB,sN,Nd.cells])
       clear qB sN sX bT;go_wp2_with(first|(go_at_call 161;refine(Nm _ _ _ _ _ _ _ _ oN.out oY.out rfl rfl rfl rfl rfl _).mono ?_;rintro e w2 ⟨rfl,hb⟩;have HB:=Qq hb;obtain⟨hc,wX,wZ⟩:=hb.facts;clear hb;have hz:wr.heap.size < w2.heap.size:=by { simp at wZ;omega };clear wZ)|(at_builtin;refine wpList_append_own_at _ rfl _ _ 22 rfl (w.heap.size+1) 71 i0 Nd.zero.val 6 48 Tryz.underlying22 jL ZF ZE ZD rfl (by decide) _ _ _ rfl (Zk wM.out ?hx) _ 1 1 [.int .i64 a.op,.int .i64 a.i,.int .i64 a.e,.int .i64 a.g,.int .i64 (a.x),.int .i64 (a.y)] rfl rfl ?c1 ?c2 xS xR ?c5 ?_))
       case hx=>exact((((Qz.alloc _).trans HB.out).alloc _).alloc _)
       case c1=>exact Zt _ _ _ (by simp)
       case c2 =>
        intro u hu;simp only [List.mem_cons,List.mem_nil_iff,or_false]at hu;rcases hu with rfl|rfl|rfl|rfl|rfl|rfl <;> rfl
       case c5 =>
        have h1:=zD.out;have h2:=HB.out.size;simp at h2⊢;omega
       intro v' w4 yG yM _ uF;have uI:=Qq yG;have eZ:=Qq ((yY.out.ext ((((Qz.alloc _).trans HB.out).alloc _).alloc _)).appended yM (uF.imp id fun e=>by rw [e];simp));obtain⟨A4,c4',rfl⟩:=Qs yG;clear yG yM uF;go_wp2_with fail;go_roundw
       case rel=>exact⟨j+1,by omega,by go_num,Qq (by rw [<-rM.out];exact uI.out),eZ⟩
       case measure=>simp [intOf];omega
      ·
       obtain⟨bx0,bx1⟩:=sX qB;have oN:=Qq qB;have oY:=Qq sN
       have rM:Hid (xs++ [.int .i64 a.op,.int .i64 a.i,.int .i64 a.e,.int .i64 a.g,.int .i64 (a.x+(f.length:Int)),.int .i64 (a.y)]=(f++(cl.take (j+1)).map (Jp f.length)).flatMap Nd.cells):=
        Qq (by rw [jR.out,cL.out,List.map_append,<-List.append_assoc,List.flatMap_append];simp [Jp,qB,sN,Nd.cells])
       clear qB sN sX bT;go_wp2_with(first|(go_at_call 161;refine(Nm _ _ _ _ _ _ _ _ oN.out oY.out rfl rfl rfl rfl rfl _).mono ?_;rintro e w2 ⟨rfl,hb⟩;have HB:=Qq hb;obtain⟨hc,wX,wZ⟩:=hb.facts;clear hb;have hz:wr.heap.size < w2.heap.size:=by { simp at wZ;omega };clear wZ)|(at_builtin;refine wpList_append_own_at _ rfl _ _ 22 rfl (w.heap.size+1) 71 i0 Nd.zero.val 6 48 Tryz.underlying22 jL ZF ZE ZD rfl (by decide) _ _ _ rfl (Zk wM.out ?hx) _ 1 1 [.int .i64 a.op,.int .i64 a.i,.int .i64 a.e,.int .i64 a.g,.int .i64 (a.x+(f.length:Int)),.int .i64 (a.y)] rfl rfl ?c1 ?c2 xS xR ?c5 ?_))
       case hx=>exact(((Qg.setCell (p:=⟨wr.heap.size,4,none⟩) ((Qz.alloc _).trans HB.out) (Nat.le_refl _) _).alloc _).alloc _)
       case c1=>exact Zt _ _ _ (by simp)
       case c2 =>
        intro u hu;simp only [List.mem_cons,List.mem_nil_iff,or_false]at hu;rcases hu with rfl|rfl|rfl|rfl|rfl|rfl <;> rfl
       case c5 =>
        have h1:=zD.out;have h2:=HB.out.size;simp at h2⊢;omega
       intro v' w4 yG yM _ uF;have uI:=Qq yG;have eZ:=Qq ((yY.out.ext (((Qg.setCell (p:=⟨wr.heap.size,4,none⟩) ((Qz.alloc _).trans HB.out) (Nat.le_refl _) _).alloc _).alloc _)).appended yM (uF.imp id fun e=>by rw [e];simp));obtain⟨A4,c4',rfl⟩:=Qs yG;clear yG yM uF;go_wp2_with fail;go_roundw
       case rel=>exact⟨j+1,by omega,by go_num,Qq (by rw [<-rM.out];exact uI.out),eZ⟩
       case measure=>simp [intOf];omega
      
      obtain⟨bx0,bx1⟩:=sX qB;obtain⟨by0,by1⟩:=bT sN;have oN:=Qq qB;have oY:=Qq sN
      have rM:Hid (xs++ [.int .i64 a.op,.int .i64 a.i,.int .i64 a.e,.int .i64 a.g,.int .i64 (a.x+(f.length:Int)),.int .i64 (a.y+(f.length:Int))]=(f++(cl.take (j+1)).map (Jp f.length)).flatMap Nd.cells):=
       Qq (by rw [jR.out,cL.out,List.map_append,<-List.append_assoc,List.flatMap_append];simp [Jp,qB,sN,Nd.cells])
      clear qB sN sX bT;go_wp2_with(first|(go_at_call 161;refine(Nm _ _ _ _ _ _ _ _ oN.out oY.out rfl rfl rfl rfl rfl _).mono ?_;rintro e w2 ⟨rfl,hb⟩;have HB:=Qq hb;obtain⟨hc,wX,wZ⟩:=hb.facts;clear hb;have hz:wr.heap.size < w2.heap.size:=by { simp at wZ;omega };clear wZ)|(at_builtin;refine wpList_append_own_at _ rfl _ _ 22 rfl (w.heap.size+1) 71 i0 Nd.zero.val 6 48 Tryz.underlying22 jL ZF ZE ZD rfl (by decide) _ _ _ rfl (Zk wM.out ?hx) _ 1 1 [.int .i64 a.op,.int .i64 a.i,.int .i64 a.e,.int .i64 a.g,.int .i64 (a.x+(f.length:Int)),.int .i64 (a.y+(f.length:Int))] rfl rfl ?c1 ?c2 xS xR ?c5 ?_))
      case hx=>exact(((Qg.setCell (p:=⟨wr.heap.size,5,none⟩) (Qg.setCell (p:=⟨wr.heap.size,4,none⟩) ((Qz.alloc _).trans HB.out) (Nat.le_refl _) _) (Nat.le_refl _) _).alloc _).alloc _)
      case c1=>exact Zt _ _ _ (by simp)
      case c2 =>
       intro u hu;simp only [List.mem_cons,List.mem_nil_iff,or_false]at hu;rcases hu with rfl|rfl|rfl|rfl|rfl|rfl <;> rfl
      case c5 =>
       have h1:=zD.out;have h2:=HB.out.size;simp at h2⊢;omega
      intro v' w4 yG yM _ uF;have uI:=Qq yG;have eZ:=Qq ((yY.out.ext (((Qg.setCell (p:=⟨wr.heap.size,5,none⟩) (Qg.setCell (p:=⟨wr.heap.size,4,none⟩) ((Qz.alloc _).trans HB.out) (Nat.le_refl _) _) (Nat.le_refl _) _).alloc _).alloc _)).appended yM (uF.imp id fun e=>by rw [e];simp));obtain⟨A4,c4',rfl⟩:=Qs yG;clear yG yM uF;go_wp2_with fail;go_roundw
      case rel=>exact⟨j+1,by omega,by go_num,Qq (by rw [<-rM.out];exact uI.out),eZ⟩
      case measure=>simp [intOf];omega
     obtain rfl:cl.length=j:=by omega
     clear hlt2;have eB:1<=f.length+cl.length:=by omega
     have vW:Hid (wr.heap[w.heap.size]?=some (.cells #[.int .i64 y.op,.int .i64 y.i,.int .i64 y.e,.int .i64 y.g,.int .i64 y.x,.int .i64 y.y] 71 (0,0))):=
      Qq ((yY.out.block _ (Qn nE.out) (Qjt jU.out)).trans nE.out)
     obtain⟨⟨d0,d1,d2,d3,d4,d5⟩,dfr,dlt⟩:=Vs vW.out;by_cases aB:k=0
     ·
      obtain rfl:k=0:=aB;go_wp2_with fail;go_roundw
      case rel=>exact⟨0+1,_,_,by omega,by go_num,Qq (HO.out.next (by omega) zS.out jU.out yY.out wM.out nE.out PY.out XL.out HC.out tV.out aR.out UV bF.out 4 rfl _ (by go_num))⟩
      case measure=>simp [intOf];omega
     
     have hkb:((k:Int)==0)=false:=by rw [beq_eq_false_iff_ne];omega
     have K3:=Qq aB;clear aB;go_wp2_with fail;go_roundw
     case rel=>exact⟨k+1,_,_,by omega,by go_num,Qq (HO.out.next (by omega) zS.out jU.out yY.out wM.out nE.out PY.out XL.out HC.out tV.out aR.out UV bF.out 5 (by have e:(k==0)=false:=by { rw [beq_eq_false_iff_ne];exact K3.out };rw [e];rfl) _ (by go_num))⟩
     case measure=>simp [intOf];omega
   have vX:=Qq (HO.out.bad hc XL.out);have sF:(check o !=0)=true:=by simpa using hc
   clear hc;go_wp2_with fail;refine(Vh _ o _ QK.out.1).mono ?_;rintro e w1 ⟨rfl,hb⟩;have zM:=Qq (HO.out.ext.trans hb);clear hb;go_wp2_with fail;go_ret;exact⟨_,rfl,by rw [vX.out];exact(Yc.none_ _).after zM.out⟩
  obtain rfl:ops.length=k:=by omega
  have HJ:=Qq HO.out.end_;obtain⟨⟨d0,d1,d2,d3,d4,d5⟩,dfr,dlt⟩:=Vs HO.out.box;by_cases zQ:Zd y f.length=0
  ·have jW:=Qq zQ;clear zQ;go_wp2_with fail;refine(Tg y _ _).mono ?_;rintro e w1 ⟨rfl,hb⟩;rw [jW.out];have zM:=Qq hb;have YV:=Qq (Zk HO.out.row hb);have vW:Hid (w1.heap[w.heap.size]?=some (.cells #[.int .i64 y.op,.int .i64 y.i,.int .i64 y.e,.int .i64 y.g,.int .i64 y.x,.int .i64 y.y] 71 (0,0))):=Qq ((hb.block (Qn HO.out.box)).trans HO.out.box);clear hb d0 d1 d2 d3 d4 d5 dfr dlt;obtain⟨⟨d0,d1,d2,d3,d4,d5⟩,dfr,dlt⟩:=Vs vW.out;obtain⟨xs,oR⟩:∃xs,xs=f.flatMap Nd.cells:=⟨_,rfl⟩;rw [<-oR]at YV;have jR:=Qq oR;clear oR;have xS:f.length+1<=maxLen:=by unfold maxLen;omega
   have xR:(f.length+1)*48<=140737488355328:=by omega
   go_wp2_with(at_builtin;refine wpList_append_own_at _ rfl _ _ 22 rfl (w.heap.size+1) 71 i0 Nd.zero.val 6 48 Tryz.underlying22 jL ZF ZE ZD rfl (by decide) _ _ _ rfl (Zk YV.out ?hx) _ 1 1 y.cells rfl rfl ?c1 (Qqp y) xS xR ?c5 ?_)
   case hx=>exact Qz.alloc _
   case c1=>exact Zt _ _ _ rfl
   case c5=>simp;omega
   intro v' w4 yG yM _ uF;have uI:Hid (w4.ownsRow (w.heap.size+1) 71 6 v' (f++ [y]).length ((f++ [y]).flatMap Nd.cells)):=Qq (by rw [jR.out]at yG;simpa using yG);have yN:Hid (Qg w w4):=Qq ((((HO.out.ext.trans zM.out).alloc _).grown yM (fun g hg=>by have:=(HO.out.row.lt g hg).1;omega)));obtain⟨A7,c7,qA,zH⟩:=Cw uI.out;have lU:=Qq zH;have e7:(f++ [y]).length=f.length+1:=by simp
   rw [e7]at qA;have iM:=Qq (Qio HO.out.wf jW.out);have GM:Hid (∀n∈f++ [y],n.ok):=Qq (fun n hn=>by
    rcases List.mem_append.1 hn with hn|hn
    ·exact HO.out.oks n hn
    rw [List.mem_singleton.1 hn];exact HO.out.yok)
   have IY:=Qq e7;subst qA;clear yG yM uF zH e7;go_wp2_with fail;refine(Qry (f++ [y]) A7 c7 f.length (f.length+1) _ IY.out iM.out GM.out (by rw [IY.out];omega) (by rw [IY.out];omega) lU.out).mono ?_;rintro e w5 ⟨u5,rfl,sO,YC,YI⟩;have YZ:=Qq (show Yc w w5 u5 (Ze (f++ [y]) f.length []).1 from Yc.before ⟨sO,YC,YI⟩ yN.out);obtain⟨A8,c8,rfl⟩:=Qs sO;clear sO YC YI;by_cases hlong:200 < (Ze (f++ [y]) f.length []).1.length
   ·have KX:=Qq (Qcj jW.out hlong);generalize (Ze (f++ [y]) f.length []).1=cf at YZ hlong;go_wp2_with fail;go_ret;exact⟨_,rfl,by rw [HJ.out,KX.out];exact(Yc.none_ _).after YZ.out.2.2⟩
   have KX:=Qq (Qiw jW.out hlong);generalize (Ze (f++ [y]) f.length []).1=cf at YZ hlong KX;go_wp2_with fail;go_ret;exact⟨_,rfl,by rw [HJ.out,KX.out];exact YZ.out⟩
  have vX:=Qq (Qet zQ);have sF:(Zd y f.length !=0)=true:=by simpa using zQ
  clear zQ;go_wp2_with fail;refine(Tg y _ _).mono ?_;rintro e w1 ⟨rfl,hb⟩;have zM:=Qq (HO.out.ext.trans hb);clear hb;go_wp2_with fail;go_ret;exact⟨_,rfl,by rw [HJ.out,vX.out];exact(Yc.none_ _).after zM.out⟩
theorem Qvc(w:World):Df w (.slice none 0 0) []:=⟨none,0,rfl,Nat.le_refl _,by unfold maxLen;omega,fun h=>absurd rfl h⟩
theorem Qdr {w:World} {v:Value} {f:List Nd}(h:Jo w v f):Df (w.alloc (.cells #[v] 22)) (.slice (some ⟨w.heap.size,0,none⟩) 1 1) [f]:=by
 refine⟨_,_,rfl,Nat.le_refl _,by unfold maxLen;simp,fun _=>⟨_,rfl,by simp,fun k l hk=> ?_⟩⟩
 match k,hk with
 |0,hk =>
  simp only [List.getElem?_cons_zero,Option.some.injEq]at hk;subst hk;exact⟨v,Iy w #[v] 22 0 v rfl,h.ext (Qz.alloc _)⟩
theorem Eq {w:World} {v1 v2:Value} {f g:List Nd}(h1:Jo w v1 f)(h2:Jo w v2 g):Df (w.alloc (.cells #[v1,v2] 22)) (.slice (some ⟨w.heap.size,0,none⟩) 2 2) [f,g]:=by
 refine⟨_,_,rfl,Nat.le_refl _,by unfold maxLen;simp,fun _=>⟨_,rfl,by simp,fun k l hk=> ?_⟩⟩
 match k,hk with
 |0,hk =>
  simp only [List.getElem?_cons_zero,Option.some.injEq]at hk;subst hk;exact⟨v1,Iy w #[v1,v2] 22 0 v1 rfl,h1.ext (Qz.alloc _)⟩
 |1,hk =>
  simp only [List.getElem?_cons_succ,List.getElem?_cons_zero,Option.some.injEq]at hk;subst hk;exact⟨v2,Iy w #[v1,v2] 22 1 v2 rfl,h2.ext (Qz.alloc _)⟩
theorem Ff {a b c d e g:Int}(ha:Vm a)(hb:Vm b)(hc:Vm c)(hd:Vm d)(he:Vm e)(hg:Vm g):(Nd.mk a b c d e g).ok:=⟨ha,hb,hc,hd,he,hg⟩
theorem Zq {a:Int}(h0:0<=a)(h1:a<=1000):Vm a:=⟨by omega,by omega⟩
def Qq8:List Nd:=Vv ⟨1,0,0,0,0,0⟩ []
theorem Qn0(w:World):
 Calls Tryz.prog 119 #[] w fun e w'=>∃u,e=.returned u/\Yc w w' u (Qq8):=by
 go_enter Tryz.func119,Tryz.ntmps119;go_wp2_with fail;refine(Ui ⟨1,0,0,0,0,0⟩ _ [] _ (Ff (Zq (by omega) (by omega)) (Zq (by omega) (by omega)) (Zq (by omega) (by omega)) (Zq (by omega) (by omega)) (Zq (by omega) (by omega)) (Zq (by omega) (by omega))) (Qvc _) (by simp)).mono ?_;rintro e w1 ⟨u,rfl,hm⟩;have HM:=Qq hm;clear hm;go_wp2_with fail;go_ret;exact⟨_,rfl,HM.out⟩
def Oh:List Nd:=Vv ⟨2,0,0,0,0,0⟩ []
theorem Qpt(w:World):
 Calls Tryz.prog 120 #[] w fun e w'=>∃u,e=.returned u/\Yc w w' u (Oh):=by
 go_enter Tryz.func120,Tryz.ntmps120;go_wp2_with fail;refine(Ui ⟨2,0,0,0,0,0⟩ _ [] _ (Ff (Zq (by omega) (by omega)) (Zq (by omega) (by omega)) (Zq (by omega) (by omega)) (Zq (by omega) (by omega)) (Zq (by omega) (by omega)) (Zq (by omega) (by omega))) (Qvc _) (by simp)).mono ?_;rintro e w1 ⟨u,rfl,hm⟩;have HM:=Qq hm;clear hm;go_wp2_with fail;go_ret;exact⟨_,rfl,HM.out⟩
def Qk4(a:Int):List Nd:=Vv ⟨3,a,0,0,0,0⟩ []
theorem Qaw(a:Int)(ha:Vm a)(w:World):
 Calls Tryz.prog 121 #[.int .i64 a] w fun e w'=>∃u,e=.returned u/\Yc w w' u (Qk4 a):=by
 go_enter Tryz.func121,Tryz.ntmps121;go_wp2_with fail;refine(Ui ⟨3,a,0,0,0,0⟩ _ [] _ (Ff (Zq (by omega) (by omega)) ha (Zq (by omega) (by omega)) (Zq (by omega) (by omega)) (Zq (by omega) (by omega)) (Zq (by omega) (by omega))) (Qvc _) (by simp)).mono ?_;rintro e w1 ⟨u,rfl,hm⟩;have HM:=Qq hm;clear hm;go_wp2_with fail;go_ret;exact⟨_,rfl,HM.out⟩
def Kj(f:List Nd):List Nd:=Vv ⟨4,0,0,0,0,0⟩ [f]
theorem Hp(v1:Value)(f:List Nd)(w:World)(h1:Jo w v1 f):
 Calls Tryz.prog 38 #[v1] w fun e w'=>∃u,e=.returned u/\Yc w w' u (Kj f):=by
 have H1:=Qq h1;obtain⟨A1,c1,rfl,_⟩:=Qc h1;clear h1;go_enter Tryz.func38,Tryz.ntmps38;go_wp2_with fail;refine(Ui ⟨4,0,0,0,0,0⟩ _ [f] _ (Ff (Zq (by omega) (by omega)) (Zq (by omega) (by omega)) (Zq (by omega) (by omega)) (Zq (by omega) (by omega)) (Zq (by omega) (by omega)) (Zq (by omega) (by omega))) (Qdr H1.out) (by simp)).mono ?_;rintro e w1 ⟨u,rfl,hm⟩;have HM:=Qq hm;clear hm;go_wp2_with fail;go_ret;exact⟨_,rfl,(HM.out.before (Qz.alloc _))⟩
def Bf(f g:List Nd):List Nd:=Vv ⟨5,0,0,0,0,0⟩ [f,g]
theorem Qj0(v1 v2:Value)(f g:List Nd)(w:World)(h1:Jo w v1 f)(h2:Jo w v2 g):
 Calls Tryz.prog 71 #[v1,v2] w fun e w'=>∃u,e=.returned u/\Yc w w' u (Bf f g):=by
 have H1:=Qq h1;have H2:=Qq h2;obtain⟨A1,c1,rfl,_⟩:=Qc h1;obtain⟨A2,c2,rfl,_⟩:=Qc h2;clear h1 h2;go_enter Tryz.func71,Tryz.ntmps71;go_wp2_with fail;refine(Ui ⟨5,0,0,0,0,0⟩ _ [f,g] _ (Ff (Zq (by omega) (by omega)) (Zq (by omega) (by omega)) (Zq (by omega) (by omega)) (Zq (by omega) (by omega)) (Zq (by omega) (by omega)) (Zq (by omega) (by omega))) (Eq H1.out H2.out) (by simp)).mono ?_;rintro e w1 ⟨u,rfl,hm⟩;have HM:=Qq hm;clear hm;go_wp2_with fail;go_ret;exact⟨_,rfl,(HM.out.before (Qz.alloc _))⟩
def Qvi(f g:List Nd):List Nd:=Vv ⟨7,0,0,0,0,0⟩ [f,g]
theorem Qgy(v1 v2:Value)(f g:List Nd)(w:World)(h1:Jo w v1 f)(h2:Jo w v2 g):
 Calls Tryz.prog 74 #[v1,v2] w fun e w'=>∃u,e=.returned u/\Yc w w' u (Qvi f g):=by
 have H1:=Qq h1;have H2:=Qq h2;obtain⟨A1,c1,rfl,_⟩:=Qc h1;obtain⟨A2,c2,rfl,_⟩:=Qc h2;clear h1 h2;go_enter Tryz.func74,Tryz.ntmps74;go_wp2_with fail;refine(Ui ⟨7,0,0,0,0,0⟩ _ [f,g] _ (Ff (Zq (by omega) (by omega)) (Zq (by omega) (by omega)) (Zq (by omega) (by omega)) (Zq (by omega) (by omega)) (Zq (by omega) (by omega)) (Zq (by omega) (by omega))) (Eq H1.out H2.out) (by simp)).mono ?_;rintro e w1 ⟨u,rfl,hm⟩;have HM:=Qq hm;clear hm;go_wp2_with fail;go_ret;exact⟨_,rfl,(HM.out.before (Qz.alloc _))⟩
def Gp(a:Int)(f:List Nd):List Nd:=Vv ⟨9,a,0,0,0,0⟩ [f]
theorem Ml(a:Int)(ha:Vm a)(v1:Value)(f:List Nd)(w:World)(h1:Jo w v1 f):
 Calls Tryz.prog 72 #[.int .i64 a,v1] w fun e w'=>∃u,e=.returned u/\Yc w w' u (Gp a f):=by
 have H1:=Qq h1;obtain⟨A1,c1,rfl,_⟩:=Qc h1;clear h1;go_enter Tryz.func72,Tryz.ntmps72;go_wp2_with fail;refine(Ui ⟨9,a,0,0,0,0⟩ _ [f] _ (Ff (Zq (by omega) (by omega)) ha (Zq (by omega) (by omega)) (Zq (by omega) (by omega)) (Zq (by omega) (by omega)) (Zq (by omega) (by omega))) (Qdr H1.out) (by simp)).mono ?_;rintro e w1 ⟨u,rfl,hm⟩;have HM:=Qq hm;clear hm;go_wp2_with fail;go_ret;exact⟨_,rfl,(HM.out.before (Qz.alloc _))⟩
def Qor(a:Int)(f:List Nd):List Nd:=Vv ⟨10,a,0,0,0,0⟩ [f]
theorem Lh {w:World} {base n:Nat} {vd:Value} {d:List Int}(h:w.ownsRow base 3 1 vd n (d.map (Value.int .i64)))(hn:0 < n):
 ∃g cap,vd=.slice (some ⟨g,0,none⟩) n cap/\g < w.heap.size/\n<=cap/\cap<=maxLen/\∀i z,d[i]?=some z->w.cell? ⟨g,i,none⟩=some (.int .i64 z)/\w.frozen? ⟨g,i,none⟩=false:=by
 rcases h.2 with⟨_,h0⟩|⟨g,cap,cur,rfl,_,hg,iE,hm,hs,ht⟩
 ·omega
 refine⟨g,cap,rfl,Qn hg,iE,hm,fun i z hz=>⟨?_,by simp [World.frozen?,hg]⟩⟩;have h1:(d.map (Value.int .i64))[i]?=some (.int .i64 z):=by rw [List.getElem?_map,hz];rfl
 rw [<-ht,List.getElem?_take]at h1
 split at h1
 ·have h2:cur[i]?=some (.int .i64 z):=by simpa using h1
  simp [World.cell?,hg,h2]
 cases h1
theorem Fm(g i:Nat):((⟨g,0,none⟩:Addr).add i)=⟨g,i,none⟩:=by
 unfold Addr.add
 split
 ·rename_i h;rw [h]
 simp
def Qzd(w:World)(A:Option Addr)(c:Nat)(l:List Int):Prop :=
 l.length<=c/\c<=maxLen/\(l≠ []->∃ad,A=some ad/\ad.block < w.heap.size/\∀k z,l[k]?=some z->w.cell? (ad.add k)=some (.int .i64 z))
def Db(w:World)(v:Value)(l:List Int):Prop:=∃A c,v=.slice A l.length c/\Qzd w A c l
theorem Qzd.ext {w w':World} {A:Option Addr} {c:Nat} {l:List Int}(h:Qzd w A c l)(he:Qg w w'):Qzd w' A c l :=
 ⟨h.1,h.2.1,fun hn=>by
  obtain⟨ad,e,zI,hc⟩:=h.2.2 hn;exact⟨ad,e,Qy zI he.size,fun k z hk=>(he.cell (Qj zI)).trans (hc k z hk)⟩⟩
theorem Db.ext {w w':World} {v:Value} {l:List Int}(h:Db w v l)(he:Qg w w'):Db w' v l:=by
 obtain⟨A,c,e,h⟩:=h;exact⟨A,c,e,h.ext he⟩
theorem Db.none_(w:World):Db w (.slice none 0 0) []:=⟨none,0,rfl,Nat.le_refl _,by unfold maxLen;omega,fun h=>absurd rfl h⟩
theorem Qrb {w:World} {base:Nat} {v:Value} {l:List Int}(h:w.ownsRow base 3 1 v l.length (l.map (Value.int .i64))):Db w v l:=by
 by_cases h0:0 < l.length
 ·obtain⟨g,cap,rfl,hg,hc,hm,yO⟩:=Lh h h0;exact⟨_,_,rfl,hc,hm,fun _=>⟨_,rfl,hg,fun k z hk=>by rw [Fm];exact(yO k z hk).1⟩⟩
 have e:l= []:=List.length_eq_zero_iff.1 (by omega);subst e;rcases h.2 with⟨rfl,_⟩|⟨g,cap,cur,rfl,_,_,hn,hm,_⟩
 ·exact Db.none_ w
 exact⟨_,cap,rfl,Nat.zero_le _,hm,fun h=>absurd rfl h⟩
def Zvc(w w':World)(v:Value)(l:List Int):Prop:=w'.ownsRow w.heap.size 3 1 v l.length (l.map (Value.int .i64))/\Qg w w'
def orN(f g:List Nd):List Nd:=Vv ⟨6,0,0,0,0,0⟩ [f,g]
def Qeb(f g:List Nd):List Nd:=Vv ⟨8,0,0,0,0,0⟩ [f,g]
end Go.Proofs.YtkmclcmnoicagaaGreatDoor
