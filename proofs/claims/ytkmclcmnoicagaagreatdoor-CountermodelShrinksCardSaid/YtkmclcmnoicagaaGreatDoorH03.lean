/- Checked lists are well formed; subformulas. -/
import Derived.Test.YtkmclcmnoicagaaGreatDoorH02
import Derived.Laws.StructEq
import Derived.Laws.Tables
import Derived.Laws.BitsAllLaws
import Derived.Laws.BitsLemmas
namespace Go.Proofs.YtkmclcmnoicagaaGreatDoor
set_option maxRecDepth 100000
set_option maxHeartbeats 128000000
theorem Mg:∀(l:List Nd) (a:Int),Jw l a=0->∀(k:Nat) (n:Nd),l[k]?=some n->Zr n (a+k)=0
 |[],_,_,k,n,h=>by simp at h
 |m :: r,a,hc,k,n,h=>by
  unfold Jw at hc;by_cases h0:Zr m a=0
  ·rw [h0]at hc;cases k with
   |zero =>
    simp only [List.getElem?_cons_zero,Option.some.injEq]at h;subst h
    simpa using h0
   |succ k =>
    have:=Mg r (a+1) (by simpa using hc) k n (by simpa using h);rw [<-this]
    congr 1
    omega
  have hb:(Zr m a !=0)=true:=by simpa using h0
  rw [hb]at hc;exact absurd hc h0
theorem Qzt:∀(l:List Nd) (a:Int),(∀(k:Nat) (n:Nd),l[k]?=some n->Zr n (a+k)=0)->Jw l a=0
 |[],_,_=>rfl
 |m :: r,a,h=>by
  unfold Jw;have h0:Zr m a=0:=by simpa using h 0 m (by simp)
  rw [h0];have:=Qzt r (a+1) fun k n hk=>by
   have:=h (k+1) n (by simpa using hk);rw [<-this]
   congr 1
   omega
  simpa using this
theorem Qq1 {n:Nd} {a:Int}(h:Zr n a=0):Yp n.op=true:=by
 cases ho:Yp n.op
 ·simp [Zr,ho]at h
 rfl
theorem Hn {n:Nd} {a:Int}(h:Zr n a=0):Zx (Zq n.op) n.x a=true/\Zx (Qw n.op) n.y a=true:=by
 have ho:=Qq1 h;cases hx:Zx (Zq n.op) n.x a
 ·simp [Zr,ho,hx]at h
 cases hy:Zx (Qw n.op) n.y a
 ·simp [Zr,ho,hx,hy]at h
 exact⟨rfl,rfl⟩
theorem Qnn {n:Nd} {a:Int}(h:Zr n a=0):Zh n=false/\Ya n=false:=by
 have ho:=Qq1 h;obtain⟨hx,hy⟩:=Hn h;cases hf:Zh n
 ·cases hr:Ya n
  ·exact⟨rfl,rfl⟩
  simp [Zr,ho,hx,hy,hf,hr]at h
 simp [Zr,ho,hx,hy,hf]at h
theorem Qxw {n:Nd} {a:Int}(ho:Yp n.op=true)(hx:Zx (Zq n.op) n.x a=true)(hy:Zx (Qw n.op) n.y a=true)(hf:Zh n=false)(hr:Ya n=false):Zr n a=0:=by
 simp [Zr,ho,hx,hy,hf,hr]
theorem Jf {f:List Nd}(h:check f=0):0 < f.length/\f.length<=200/\Jw f 0=0:=by
 unfold check at h;by_cases h0:f.length=0
 ·simp [h0]at h
 by_cases h1:200 < f.length
 ·simp [h0,h1]at h
 simp [h0,h1]at h;exact⟨by omega,by omega,h⟩
theorem Qsb {f:List Nd}(h:Jw f 0=0):Wf f:=by
 intro i n hn;have h1:=Mg f 0 h i n hn;obtain⟨hx,hy⟩:=Hn h1;refine⟨fun e=> ?_,fun e=> ?_⟩
 ·rw [e]at hx;simp [Zx]at hx;omega
 rw [e]at hy;simp [Zx]at hy;omega
theorem Yt {f:List Nd}(h:check f=0):Wf f:=Qsb (Jf h).2.2
def Js(f:List Nd)(z:Int):List Nd:=bif check f !=0||(decide (z < 0)||decide ((f.length:Int)<=z))then []else(Zw f z.toNat []).1
def Qf(f:List Nd):List Nd:=Js f (f.length - 1:Int)
def Zxq(a b:List Nd):Bool:=check a==0&&(check b==0&&decide (Qf a=Qf b))
def Kv(l:List Nd):Nat:=l.foldl (fun m n=>m|||(Vn n.op).toNat) 0
def Jp(f:List Nd):Nat:=Kv (Qf f)
theorem Qvz {f:List Nd}(h:check f=0):Qf f=(Zw f (f.length - 1) []).1:=by
 have hl:=(Jf h).1;unfold Qf Js;have h1:decide ((f.length:Int) - 1 < 0)=false:=by simp;omega
 have h2:decide ((f.length:Int)<=(f.length:Int) - 1)=false:=by simp;omega
 rw [h,h1,h2];have:((f.length:Int) - 1).toNat=f.length - 1:=by omega
 rw [this];rfl
theorem Qz7 {f:List Nd}(h:check f≠0):Qf f= []:=by
 unfold Qf Js;have:(check f !=0)=true:=by simpa using h
 rw [this];rfl
open Go.RowKit
def Yq(w:World)(v:Value)(l:List Nd):Prop:=Wn w v l/\∀n∈l,n.ok
def Vq(w w':World)(v:Value)(l:List Nd):Prop:=w'.ownsRow w.heap.size 71 6 v l.length (l.flatMap Nd.cells)/\(∀n∈l,n.ok)/\Qg w w'
theorem Yq.ext {w w':World} {v:Value} {l:List Nd}(h:Yq w v l)(he:Qg w w'):Yq w' v l:=⟨h.1.ext he,h.2⟩
theorem Qd3:∀(l:List Nd) (k:Nat) (n:Nd) (j:Nat),l[k]?=some n->j < 6->(l.flatMap Nd.cells)[k*6+j]?=n.cells[j]?
 |[],k,n,j,h,_=>by simp at h
 |m :: r,0,n,j,h,hj=>by
  simp only [List.getElem?_cons_zero,Option.some.injEq]at h;subst h;rw [List.flatMap_cons,List.getElem?_append_left (by simp [Nd.cells];omega)];simp
 |m :: r,k+1,n,j,h,hj=>by
  rw [List.flatMap_cons,List.getElem?_append_right (by simp [Nd.cells];omega)];have e:(k+1)*6+j - m.cells.length=k*6+j:=by simp [Nd.cells];omega
  rw [e];exact Qd3 r k n j (by simpa using h) hj
theorem Hb {w:World} {base:Nat} {v:Value} {l:List Nd}(h:w.ownsRow base 71 6 v l.length (l.flatMap Nd.cells)):Wn w v l:=by
 have oY:=h;obtain⟨_,h2⟩:=h;rcases h2 with⟨rfl,h0⟩|⟨g,cap,cur,rfl,hb,hg,hn,xR,mP,oG⟩
 ·have:l= []:=List.length_eq_zero_iff.1 h0;subst this;exact⟨none,0,rfl,Nat.le_refl _,by unfold maxLen;omega,fun h=>absurd rfl h⟩
 refine⟨some ⟨g,0,none⟩,cap,rfl,hn,xR,fun zQ=>⟨_,rfl,Qn hg,fun k n hk=> ?_⟩⟩;have wR:k < l.length:=(List.getElem?_eq_some_iff.1 hk).1;have cell:∀j,j < 6->∀u,n.cells[j]?=some u->w.cell? ⟨g,k*6+j,none⟩=some u:=by
  intro j hj u hu;have h1:=Qd3 l k n j hk hj;rw [<-oG,hu]at h1;have h2:cur[k*6+j]?=some u:=by
   rw [List.getElem?_take]at h1
   split at h1
   ·simpa using h1
   cases h1
  simp [World.cell?,hg,h2]
 have e0:((⟨g,0,none⟩:Addr).add (k*6))=⟨g,k*6,none⟩:=by
  unfold Addr.add
  split
  ·rename_i h;rw [h]
  simp
 rw [e0];exact⟨cell 0 (by omega) _ rfl,cell 1 (by omega) _ rfl,cell 2 (by omega) _ rfl,cell 3 (by omega) _ rfl,cell 4 (by omega) _ rfl,cell 5 (by omega) _ rfl⟩
theorem Vq.fml {w w':World} {v:Value} {l:List Nd}(h:Vq w w' v l):Yq w' v l:=⟨Hb h.1,h.2.1⟩
theorem Vq.ext {w w':World} {v:Value} {l:List Nd}(h:Vq w w' v l):Qg w w':=h.2.2
theorem Vq.none_(w:World):Vq w w (.slice none 0 0) []:=⟨World.ownsRow_nil _ _ _ _,by simp,Qz⟩
theorem Kp {w:World} {b b':Nat} {e:TypeId} {size n:Nat} {v:Value} {xs:List Value}(h:w.ownsRow b e size v n xs)(hb:b'<=b):w.ownsRow b' e size v n xs:=by
 obtain⟨h1,h2⟩:=h;refine⟨h1,?_⟩;rcases h2 with h2|⟨g,cap,cur,e,h3,h4⟩
 ·exact .inl h2
 exact .inr ⟨g,cap,cur,e,Qx hb h3,h4⟩
theorem Vq.before {w0 w w':World} {v:Value} {l:List Nd}(h:Vq w w' v l)(he:Qg w0 w):Vq w0 w' v l:=⟨Kp h.1 he.size,h.2.1,he.trans h.2.2⟩
theorem Vq.after {w w' w2:World} {v:Value} {l:List Nd}(h:Vq w w' v l)(he:Qg w' w2):Vq w w2 v l :=
 ⟨Zp h.1 fun g hg=>he.block (h.1.lt g hg).2,h.2.1,h.2.2.trans he⟩
theorem Ic(v:Value)(l:List Nd)(z:Int)(w:World)(h:Yq w v l):
 Calls Tryz.prog 147 #[v,.int .i64 z] w fun e w'=>∃u,e=.returned u/\Vq w w' u (Js l z):=by
 have H:=Qq h;obtain⟨⟨A,c,rfl,yM⟩,zP⟩:=h;have jK:=Qq yM;clear yM zP;by_cases mA:check l≠0\/z < 0\/(l.length:Int)<=z
 ·have HR:=Qq (show Js l z= [] by
   unfold Js;rcases mA with h|h|h
   ·have:(check l !=0)=true:=by simpa using h
    rw [this];rfl
   ·simp [h]
   simp [h])
  by_cases hc:check l=0
  ·have XC:z < 0\/(l.length:Int)<=z:=by
    rcases mA with h|h
    ·exact absurd hc h
    exact h
   have HC:=Qq hc;clear hc mA;by_cases hz:z < 0
   ·clear XC;go_enter Tryz.func147,Tryz.ntmps147;go_wp2_with(go_at_call 41;refine(Vw _ l _ H.out.1).mono ?_;rintro e w1 ⟨rfl,hb⟩;rw [HC.out]);go_ret;exact⟨_,rfl,by rw [HR.out];exact(Vq.none_ _).after hb⟩
   have hl:(l.length:Int)<=z:=by omega
   clear XC;go_enter Tryz.func147,Tryz.ntmps147;go_wp2_with(go_at_call 41;refine(Vw _ l _ H.out.1).mono ?_;rintro e w1 ⟨rfl,hb⟩;rw [HC.out]);go_ret;exact⟨_,rfl,by rw [HR.out];exact(Vq.none_ _).after hb⟩
  have yS:(check l !=0)=true:=by simpa using hc
  clear mA hc;go_enter Tryz.func147,Tryz.ntmps147;go_wp2_with(go_at_call 41;refine(Vw _ l _ H.out.1).mono ?_;rintro e w1 ⟨rfl,hb⟩);go_ret;exact⟨_,rfl,by rw [HR.out];exact(Vq.none_ _).after hb⟩
 have hc:check l=0:=by
  by_cases e:check l=0
  ·exact e
  exact absurd (.inl e) mA
 have xH:0<=z:=by
  by_cases e:z < 0
  ·exact absurd (.inr (.inl e)) mA
  omega
 have oE:z < l.length:=by
  by_cases e:(l.length:Int)<=z
  ·exact absurd (.inr (.inr e)) mA
  omega
 clear mA;obtain⟨r,rfl⟩:=Int.eq_ofNat_of_zero_le xH;have hr:r < l.length:=by omega
 have HR:=Qq (show Js l r=(Zw l r []).1 by
  unfold Js;rw [hc];have h1:decide ((r:Int) < 0)=false:=by simp
  have h2:decide ((l.length:Int)<=(r:Int))=false:=by simp;omega
  rw [h1,h2]
  rfl)
 have HC:=Qq hc;have HL:=(Jf hc).2.1;clear hc;go_enter Tryz.func147,Tryz.ntmps147;go_wp2_with(go_at_call 41;refine(Vw _ l _ H.out.1).mono ?_;rintro e w1 ⟨rfl,hb⟩;rw [HC.out]);have HB:=Qq hb;clear hb;refine(Oh l A c r _ (Yt HC.out) H.out.2 (by omega) hr (jK.out.ext HB.out)).mono ?_;rintro e w2 ⟨u,rfl,zR,cP,yT⟩;have HM:=Qq (show Vq w w2 u (Js l r) by rw [HR.out];exact Vq.before ⟨zR,cP,yT⟩ HB.out);clear zR cP yT;go_wp2_with fail;go_ret;exact⟨_,rfl,HM.out⟩
theorem Fs(v:Value)(l:List Nd)(w:World)(h:Yq w v l):
 Calls Tryz.prog 118 #[v] w fun e w'=>∃u,e=.returned u/\Vq w w' u (Qf l):=by
 have H:=Qq h;obtain⟨⟨A,c,rfl,yM⟩,zP⟩:=h;have hl:=yM.1;have hm:=yM.2.1;unfold maxLen at hm;clear yM zP;go_enter Tryz.func118,Tryz.ntmps118;go_wp2_with fail;refine(Ic _ l _ _ H.out).mono ?_;rintro e w2 ⟨u,rfl,hm⟩;have HM:=Qq hm;clear hm;go_wp2_with fail;go_ret;exact⟨_,rfl,HM.out⟩
theorem Qp3(a b:Nd)(w:World):
 (Op.equalIn 10000 71 (.agg #[.int .i64 a.op,.int .i64 a.i,.int .i64 a.e,.int .i64 a.g,.int .i64 a.x,.int .i64 a.y]) (.agg #[.int .i64 b.op,.int .i64 b.i,.int .i64 b.e,.int .i64 b.g,.int .i64 b.x,.int .i64 b.y])).run Tryz.prog w=.ok (decide (a=b)) w:=by
 have u3:=Tryz.underlying3;have a3:=Tryz.isAgg3;have z3:=Tryz.sizeOf3;have hS:Tryz.prog.underlying 71=some (.struct (Tryz.prog.fieldsOf 71)):=by kernel_rfl
 have hp:Tryz.prog.stoodInHeld 71=false:=by kernel_rfl
 rw [show(10000:Nat)=9999+1 from rfl,run_equalIn_agg w 9999 71 _ _ hS hp];simp only [Program.fieldsOf,Tryz.underlying71];go_simp;cases a with
 |mk a0 a1 a2 a3 a4 a5 =>
  cases b with
  |mk b0 b1 b2 b3 b4 b5 =>
   simp only [Nd.mk.injEq];by_cases h0:a0=b0 <;> by_cases h1:a1=b1 <;> by_cases h2:a2=b2 <;> by_cases h3:a3=b3 <;> by_cases h4:a4=b4 <;> by_cases h5:a5=b5 <;> simp [h0,h1,h2,h3,h4,h5]
theorem Kd {α:Type} {l:List α} {k:Nat} {a:α}(h:l[k]?=some a):l.take (k+1)=l.take k++ [a]:=by
 rw [List.take_add_one,h];rfl
theorem Qnk {α:Type} {a b:List α} {k:Nat} {x y:α}(ha:a[k]?=some x)(hb:b[k]?=some y)(zQ:x≠y):a≠b:=by
 intro e;rw [e,hb]at ha;exact zQ (Option.some.inj ha).symm
theorem Qls(v1 v2:Value)(l1 l2:List Nd)(w:World)(h1:Wn w v1 l1)(h2:Wn w v2 l2):
 Calls Tryz.prog 180 #[v1,v2] w fun e w'=>e=.returned (.bool (decide (l1=l2)))/\Qg w w':=by
 obtain⟨A1,c1,rfl,P8,LB,aV⟩:=h1;obtain⟨A2,c2,rfl,WZ,cY,kA⟩:=h2;unfold maxLen at LB cY;by_cases hl:l1.length=l2.length
 ·have aA:=Qq aV;have ZZ:=Qq kA;have HL:=Qq hl;have eb:((l1.length:Int) !=(l2.length:Int))=false:=by simp [hl]
  clear aV kA hl;go_enter Tryz.func180,Tryz.ntmps180;go_wp2_with fail;go_loopw [13] (fun i wr=>∃k:Nat,k<=l1.length/\i=.int .i64 k/\Hid (l1.take k=l2.take k)/\Qg w wr) (fun i _=>l1.length - (intOf i).toNat)
  case atStart=>exact⟨0,Nat.zero_le _,rfl,Qq rfl,Qz⟩
  case round =>
   obtain⟨k,hk,rfl,oG,yT⟩:=hrel;by_cases hlt2:k < l1.length
   ·have yW:k < l2.length:=by have:=HL.out;omega
    obtain⟨a,ha⟩:∃a,l1[k]?=some a:=⟨_,Qv hlt2⟩;obtain⟨b,hb⟩:∃b,l2[k]?=some b:=⟨_,Qv yW⟩;obtain⟨ad1,rfl,yS,xV⟩:=aA.out (by intro e;rw [e]at hlt2;simp at hlt2);obtain⟨ad2,rfl,xA,tB⟩:=ZZ.out (by intro e;rw [e]at yW;simp at yW);obtain⟨a0,a1,a2,a3,a4,a5⟩:=(xV k a ha).keep fun p hp=>yT.cell (p:=p) (by rw [hp,Qr];exact yS)
    obtain⟨b0,b1,b2,b3,b4,b5⟩:=(tB k b hb).keep fun p hp=>yT.cell (p:=p) (by rw [hp,Qr];exact xA)
    have iO:(0:Int)<=(k:Int):=by omega
    have gN:(k:Int) < (l1.length:Int):=by omega
    have dG:(k:Int) < (l2.length:Int):=by omega
    have ZA:=fun W=>Qp3 a b W
    have HA:=Qq ha;have HB:=Qq hb;clear ha hb xV tB;by_cases qF:a=b
    ·have hd:decide (a=b)=true:=by simpa using qF
     have HT:Hid (l1.take (k+1)=l2.take (k+1)):=Qq (by rw [Kd HA.out,Kd HB.out,oG.out,qF]);clear qF;go_wp2_with fail;go_quiet (fail);go_wp2_with fail;go_roundw
     case rel=>exact⟨k+1,by omega,by go_num,HT,yT.drewN _⟩
     case measure=>simp [intOf];omega
    have hd:decide (a=b)=false:=by simpa using qF
    have HR:Hid (decide (l1=l2)=false):=Qq (decide_eq_false (Qnk HA.out HB.out qF));clear qF;go_wp2_with fail;go_quiet (fail);go_wp2_with fail;go_ret;exact⟨by rw [HR.out];rfl,yT.drewN _⟩
   obtain rfl:l1.length=k:=by omega
   have HR:Hid (decide (l1=l2)=true):=Qq (decide_eq_true (by
    have h:=oG.out;rw [List.take_of_length_le (Nat.le_refl _),HL.out,List.take_of_length_le (Nat.le_refl _)]at h;exact h))
   go_wp2_with fail;go_ret;exact⟨by rw [HR.out];rfl,yT⟩
 have eb:((l1.length:Int) !=(l2.length:Int))=true:=by simp;omega
 have HR:Hid (decide (l1=l2)=false):=Qq (decide_eq_false fun e=>hl (by rw [e]));clear hl aV kA;go_enter Tryz.func180,Tryz.ntmps180;go_wp2_with fail;go_ret;exact⟨by rw [HR.out];rfl,Qz⟩
theorem Wo(a:Nat)(ha:a < 9223372036854775808):(BitVec.ofInt 64 (a:Int)).toNat=a:=by
 rw [BitVec.ofInt_natCast,BitVec.toNat_ofNat];exact Nat.mod_eq_of_lt (by omega)
theorem Dp(a b:Nat)(ha:a < 9223372036854775808)(hb:b < 9223372036854775808):bits .or .i64 (a:Int) (b:Int)=((a|||b:Nat):Int):=by
 have hx:a|||b < 2^63:=Nat.or_lt_two_pow (by omega) (by omega);show IntKind.i64.wrap ((BitVec.ofInt 64 (a:Int)|||BitVec.ofInt 64 (b:Int)).toNat:Int)=_;rw [BitVec.toNat_or,Wo a ha,Wo b hb,IntKind.wrap_i64];omega
theorem Qjk(op:Int):0<=Vn op/\Vn op<=256:=by
 unfold Vn
 repeat' split
 all_goals omega
theorem Qzm(l:List Nd)(n:Nd):Kv (l++ [n])=Kv l|||(Vn n.op).toNat:=by simp [Kv,List.foldl_append]
theorem Pd(l:List Nd):Kv l < 512:=by
 have:∀(l:List Nd) (m:Nat),m < 512->l.foldl (fun m n=>m|||(Vn n.op).toNat) m < 512:=by
  intro l
  induction l with
  |nil=>intro m h;exact h
  |cons a r ih =>
   intro m h;refine ih _ (Nat.or_lt_two_pow (n:=9) h ?_);have:=Qjk a.op;omega
 exact this l 0 (by omega)
theorem Qbc(n:Nd)(u0 u1 u2 u3 u4 u5:Bool)(g:Int)(w:World):
 Calls Tryz.prog 117 #[.agg #[.int .i64 n.op,.int .i64 n.i,.int .i64 n.e,.int .i64 n.g,.int .i64 n.x,.int .i64 n.y],.agg #[.bool u0,.bool u1,.bool u2,.bool u3,.bool u4,.bool u5,.int .i64 g]] w
  fun e w'=>e=.returned (.int .i64 g)/\Qg w w':=by
 go_enter Tryz.func117,Tryz.ntmps117;go_wp2_with fail;go_ret;exact⟨rfl,(Qz.alloc _).alloc _⟩
theorem Qam(v:Value)(l:List Nd)(w:World)(h:Yq w v l):
 Calls Tryz.prog 116 #[v,.func (Fn.func 117) #[] #[]] w fun e w'=>e=.returned (.int .i64 (Jp l:Nat))/\Qg w w':=by
 have H:=Qq h;clear h;go_enter Tryz.func116,Tryz.ntmps116;go_wp2_with fail;refine(Fs _ l _ H.out).mono ?_;rintro e w1 ⟨u,rfl,hm⟩;have HX:=Qq hm.2.2;obtain⟨A,c,rfl,xR,yN,zM⟩:=hm.fml.1;unfold maxLen at yN;have HR:=Qq zM;obtain⟨cl,yU⟩:∃cl,cl=Qf l:=⟨_,rfl⟩;have uO:=Qq (show Jp l=Kv cl by rw [yU];rfl);rw [<-yU]at HR xR;rw [<-yU];clear hm zM yU;go_wp2_with fail;go_loopw [5,13] (fun out i wr=>∃k:Nat,k<=cl.length/\i=.int .i64 k/\out=.int .i64 (Kv (cl.take k):Nat)/\Qg w1 wr) (fun _ i _=>cl.length - (intOf i).toNat)
 case atStart=>exact⟨0,Nat.zero_le _,rfl,rfl,Qz⟩
 case round =>
  obtain⟨k,hk,rfl,rfl,yT⟩:=hrel;by_cases hlt2:k < cl.length
  ·obtain⟨a,ha⟩:∃a,cl[k]?=some a:=⟨_,Qv hlt2⟩;obtain⟨ad,rfl,yS,xV⟩:=HR.out (by intro e;rw [e]at hlt2;simp at hlt2);obtain⟨a0,a1,a2,a3,a4,a5⟩:=(xV k a ha).keep fun p hp=>yT.cell (p:=p) (by rw [hp,Qr];exact yS)
   have xM:=Qjk a.op;obtain⟨fa,lV⟩:=Int.eq_ofNat_of_zero_le xM.1;have uW:=Dp (Kv (cl.take k)) fa (by have:=Pd (cl.take k);omega) (by omega);have HS:Hid (Kv (cl.take (k+1))=(Kv (cl.take k)|||fa)):=Qq (by rw [Kd ha,Qzm,lV];rfl);have kS:=Qq lV;generalize Kv (cl.take k)=m at uW HS;clear ha xV xM lV;go_wp2_with(first|(go_at_call 161;refine(Nn _ _ _ _ _ _ _ _ rfl rfl rfl rfl rfl rfl rfl _).mono ?_;rintro e w2 ⟨rfl,hb⟩;rw [kS.out];have HB:=Qq hb;obtain⟨hc,_,xH⟩:=hb.facts;clear hb;have hz:wr.heap.size < w2.heap.size:=by { simp at xH;omega };clear xH)|(go_at_call 117;refine(Qbc a _ _ _ _ _ _ _ _).mono ?_;rintro e w3 ⟨rfl,vH⟩))
   go_roundw
   case rel=>exact⟨k+1,by omega,by go_num,by rw [HS.out],(((yT.alloc _).trans HB.out).alloc _).trans vH⟩
   case measure=>simp [intOf];omega
  obtain rfl:cl.length=k:=by omega
  go_wp2_with fail;go_ret;exact⟨Ko (by rw [uO.out,List.take_of_length_le (Nat.le_refl _)]),HX.out.trans yT⟩
theorem Rp(v:Value)(l:List Nd)(w:World)(h:Yq w v l):
 Calls Tryz.prog 55 #[v] w fun e w'=>e=.returned (.int .i64 (Jp l:Nat))/\Qg w w':=by
 have H:=Qq h;clear h;go_enter Tryz.func55,Tryz.ntmps55;go_wp2_with(go_at_call 116;refine(Qam _ l _ H.out).mono ?_;rintro e w3 ⟨rfl,vH⟩);go_ret;exact⟨rfl,vH⟩
theorem Qso {f:List Nd}(hf:Wf f):∀(i:Nat) (o:List Nd),i < f.length->∀m∈(Zw f i o).1,m∈o\/∃n∈f,∃k1 k2,m=n.with_ k1 k2:=by
 intro i
 induction i using Nat.strongRecOn with
 |_ i ih =>
  intro o hi m hm;obtain⟨n,hn⟩:∃n,f[i]?=some n:=⟨_,Qv hi⟩;obtain⟨hx,hy⟩:=hf i n hn;have p1:∀o,∀m∈(Yf f n o).1,m∈o\/∃n∈f,∃k1 k2,m=n.with_ k1 k2:=by
   intro o m hm;unfold Yf at hm
   split at hm
   ·rename_i h1;have:=hx h1;exact ih _ (by omega) _ (by omega) m hm
   exact .inl hm
  have p2:∀o,∀m∈(Vh f n o).1,m∈o\/∃n∈f,∃k1 k2,m=n.with_ k1 k2:=by
   intro o m hm;unfold Vh at hm
   split at hm
   ·rename_i h1;have:=hy h1;exact ih _ (by omega) _ (by omega) m hm
   exact .inl hm
  rw [Fh hf hn]at hm;have oJ:m∈(Vh f n (Yf f n o).1).1\/m=n.with_ (Yf f n o).2 (Vh f n (Yf f n o).1).2:=by
   simp only [Jq]at hm
   split at hm
   ·exact .inl hm
   simpa using hm
  rcases oJ with oJ|rfl
  ·rcases p2 _ m oJ with h|h
   ·exact p1 _ m h
   exact .inr h
  exact .inr ⟨n,List.mem_of_getElem? hn,_,_,rfl⟩
theorem Ey {o:List Nd} {m:Nd}(ho:Wf o)(hx:Zq m.op=true->0<=m.x/\m.x < o.length)(hy:Qw m.op=true->0<=m.y/\m.y < o.length):Wf (o++ [m]):=by
 intro i n hn;by_cases h:i < o.length
 ·rw [List.getElem?_append_left h]at hn;exact ho i n hn
 rw [List.getElem?_append_right (by omega)]at hn;have hi:i=o.length:=by
  by_cases e:i - o.length=0
  ·omega
  rw [List.getElem?_eq_none (by simp;omega)]at hn;cases hn
 subst hi;simp at hn;subst hn;exact⟨hx,hy⟩
theorem Qap {a b:List Nd}(ha:Wf a)(hb:∀(i:Nat) (n:Nd),b[i]?=some n->(Zq n.op=true->0<=n.x/\n.x < (a.length+i:Nat))/\(Qw n.op=true->0<=n.y/\n.y < (a.length+i:Nat))):Wf (a++b):=by
 intro i n hn;by_cases h:i < a.length
 ·rw [List.getElem?_append_left h]at hn;exact ha i n hn
 rw [List.getElem?_append_right (by omega)]at hn;have:=hb _ n hn;have e:a.length+(i - a.length)=i:=by omega
 rw [e]at this;exact this
theorem Nk:Wf []:=fun i n h=>by simp at h
theorem Vl {op:Int}(h:Qw op=true):Zq op=true:=by
 unfold Zq;simp [Qw]at h;simp;omega
theorem Qcz {f:List Nd}(hf:Wf f):∀(i:Nat) (o:List Nd),i < f.length->Wf o->Wf (Zw f i o).1:=by
 intro i
 induction i using Nat.strongRecOn with
 |_ i ih =>
  intro o hi ho;obtain⟨n,hn⟩:∃n,f[i]?=some n:=⟨_,Qv hi⟩;obtain⟨hx,hy⟩:=hf i n hn;have w1:Wf (Yf f n o).1:=by
   unfold Yf
   split
   ·rename_i h1;have:=hx h1;exact ih _ (by omega) _ (by omega) ho
   exact ho
  have w2:Wf (Vh f n (Yf f n o).1).1:=by
   unfold Vh
   split
   ·rename_i h1;have:=hy h1;exact ih _ (by omega) _ (by omega) w1
   exact w1
  rw [Fh hf hn];simp only [Jq]
  split
  ·exact w2
  refine Ey w2 (fun h=> ?_) (fun h=> ?_)
  ·have h':Zq n.op=true:=h;have hp:=Qq3 hf hn (Yf f n o).1;have hl:(Yf f n o).2 < (Yf f n o).1.length:=by
    have:=hx h';unfold Yf;rw [if_pos h'];exact Hi hf _ _ (by omega)
   have:=hp.length_le;simp only [Nd.with_,h',cond_true];omega
  have h':Qw n.op=true:=h;have hl:(Vh f n (Yf f n o).1).2 < (Vh f n (Yf f n o).1).1.length:=by
   have:=hy h';unfold Vh;rw [if_pos h'];exact Hi hf _ _ (by omega)
  simp only [Nd.with_,h',cond_true];omega
def Ze(n:Nd):Prop:=Yp n.op=true/\Zh n=false/\Ya n=false/\(Zq n.op=false->n.x=0)/\(Qw n.op=false->n.y=0)
theorem Qcl {n:Nd} {a:Int}(h:Zr n a=0):Ze n:=by
 obtain⟨hx,hy⟩:=Hn h;obtain⟨hf,hr⟩:=Qnn h;refine⟨Qq1 h,hf,hr,fun e=> ?_,fun e=> ?_⟩
 ·rw [e]at hx;simpa [Zx]using hx
 rw [e]at hy;simpa [Zx]using hy
theorem Ze.err {n:Nd} {a:Nat}(h:Ze n)(hx:Zq n.op=true->0<=n.x/\n.x < a)(hy:Qw n.op=true->0<=n.y/\n.y < a):Zr n a=0:=by
 obtain⟨ho,hf,hr,h1,h2⟩:=h;refine Qxw ho ?_ ?_ hf hr
 ·cases e:Zq n.op
  ·simp [Zx,h1 e]
  have:=hx e;simp [Zx];omega
 cases e:Qw n.op
 ·simp [Zx,h2 e]
 have:=hy e;simp [Zx];omega
theorem Ze.with_ {n:Nd}(h:Ze n)(k1 k2:Nat):Ze (n.with_ k1 k2):=by
 obtain⟨ho,hf,hr,h1,h2⟩:=h;refine⟨ho,hf,hr,fun e=> ?_,fun e=> ?_⟩
 ·have e':Zq n.op=false:=e;simp only [Nd.with_,e',cond_false];exact h1 e'
 have e':Qw n.op=false:=e;simp only [Nd.with_,e',cond_false];exact h2 e'
theorem Qwm {f:List Nd}(hw:Wf f)(hh:∀n∈f,Ze n):Jw f 0=0:=by
 refine Qzt f 0 fun k n hk=> ?_
 obtain⟨hx,hy⟩:=hw k n hk;have:=(hh n (List.mem_of_getElem? hk)).err hx hy
 simpa using this
theorem Qvi {f:List Nd}(h0:f≠ [])(hl:f.length<=200)(hw:Wf f)(hh:∀n∈f,Ze n):check f=0:=by
 unfold check;have h1:f.length≠0:=by simpa using h0
 have h2:¬200 < f.length:=by omega
 simp [h1,h2,Qwm hw hh]
theorem Rh {f:List Nd}(h:check f=0):∀n∈f,Ze n:=by
 intro n hn;obtain⟨i,hi⟩:=List.getElem?_of_mem hn;exact Qcl (Mg f 0 (Jf h).2.2 i n hi)
theorem Jb {f:List Nd}(h:check f=0):Wf (Qf f)/\(Qf f).length<=f.length/\0 < (Qf f).length/\(∀n∈Qf f,Ze n):=by
 have hw:=Yt h;have hl:=(Jf h).1;rw [Qvz h];refine⟨Qcz hw _ _ (by omega) Nk,?_,?_,?_⟩
 ·have h1:=Qjw hw (f.length - 1) [] (by omega);have h2:=It f;have h3:=Gp f (Zw f (f.length - 1) []).1;omega
 ·have:=Hi hw (f.length - 1) [] (by omega);omega
 intro m hm;rcases Qso hw _ _ (by omega) m hm with h'|⟨n,hn,k1,k2,rfl⟩
 ·cases h'
 exact(Rh h n hn).with_ k1 k2
theorem Gv {f:List Nd}(h:check f=0):check (Qf f)=0:=by
 obtain⟨a,b,c,d⟩:=Jb h;have:=(Jf h).2.1;exact Qvi (by intro e;rw [e]at c;simp at c) (by omega) a d
def Ja(d:Nat)(n:Nd):Nd:= { n with x:=bif Zq n.op then n.x+d else n.x,y:=bif Qw n.op then n.y+d else n.y }
def Hp(k:Nat)(x:Nd)(len:Nat):Nd:=bif k==0 then { x with x:=(len:Int) - 1 } else { x with y:=(len:Int) - 1 }
def Dy:List (List Nd)->Nat->List Nd->Nd->List Nd×Nd
 |[],_,f,x=>(f,x)
 |o :: r,k,f,x=>Dy r (k+1) (f++(Qf o).map (Ja f.length)) (Hp k x (f++(Qf o).map (Ja f.length)).length)
def Tk(f:List Nd)(y:Nd):List Nd :=
 bif Zr y f.length !=0 then []else bif decide (200 < (Zw (f++ [y]) f.length []).1.length)then []else(Zw (f++ [y]) f.length []).1
def Vd(x:Nd)(ops:List (List Nd)):List Nd:=bif ops.any (fun o=>check o !=0)then []else Tk (Dy ops 0 [] x).1 (Dy ops 0 [] x).2
theorem Qkp {a b:List Nd}(ha:Wf a)(hb:Wf b):Wf (a++b.map (Ja a.length)):=by
 refine Qap ha fun i n hn=> ?_
 rw [List.getElem?_map]at hn;obtain⟨m,hm,rfl⟩:=Option.map_eq_some_iff.1 hn;obtain⟨hx,hy⟩:=hb i m hm;refine⟨fun e=> ?_,fun e=> ?_⟩
 ·have e':Zq m.op=true:=e;have:=hx e';simp only [Ja,e',cond_true];omega
 have e':Qw m.op=true:=e;have:=hy e';simp only [Ja,e',cond_true];omega
theorem Qr2(ops:List (List Nd))(k:Nat)(o:List Nd)(f:List Nd)(x:Nd)(h:ops[k]?=some o):
 Dy (ops.drop k) k f x=Dy (ops.drop (k+1)) (k+1) (f++(Qf o).map (Ja f.length)) (Hp k x (f++(Qf o).map (Ja f.length)).length):=by
 obtain⟨hk,rfl⟩:=List.getElem?_eq_some_iff.1 h;rw [List.drop_eq_getElem_cons hk];rfl
theorem Qa4(ops:List (List Nd))(k:Nat)(o:List Nd)(h:ops[k]?=some o):(ops.drop k).any (fun o=>check o !=0)=(check o !=0||(ops.drop (k+1)).any (fun o=>check o !=0)):=by
 obtain⟨hk,rfl⟩:=List.getElem?_eq_some_iff.1 h;rw [List.drop_eq_getElem_cons hk];rfl
structure Uk (w w':World) (v v':Value):Prop where
 os:w'.os=w.os
 tape:w'.tape=w.tape
 output:w'.output=w.output
 size:w.heap.size<=w'.heap.size
 block:∀k,k < w.heap.size->v.ownBlock≠some k->w'.heap[k]?=w.heap[k]?
 row:∀g,v'.ownBlock=some g->v.ownBlock=some g\/w.heap.size<=g
section
variable {a b c w w':World} {va vb vc v v':Value}
theorem Uk.refl(w:World)(v:Value):Uk w w v v:=⟨rfl,rfl,rfl,Nat.le_refl _,fun _ _ _=>rfl,fun _ h=> .inl h⟩
theorem Uk.trans(h:Uk a b va vb)(k:Uk b c vb vc):Uk a c va vc :=
 ⟨k.os.trans h.os,k.tape.trans h.tape,k.output.trans h.output,Qx h.size k.size,
  fun i hi h4=>(k.block i (Qy hi h.size) (fun e=>by
   rcases h.row i e with e'|e'
   ·exact h4 e'
   omega)).trans (h.block i hi h4),
  fun g hg=>by
   rcases k.row g hg with e|e
   ·exact h.row g e
   exact .inr (Qx h.size e)⟩
theorem Uk.ext(h:Uk a b va vb)(e:Qg b c):Uk a c va vb:=h.trans ⟨e.os,e.tape,e.output,e.size,fun _ hk _=>e.block hk,fun _ h=> .inl h⟩
theorem Uk.appended(h:Uk a b va v)(hg:b.grownBy w' v.ownBlock)(yM:v'.ownBlock=v.ownBlock\/v'.ownBlock=some b.heap.size):Uk a w' va v' :=
 h.trans ⟨hg.os,hg.tape,hg.output,hg.size,fun k hk zQ=>hg.block k hk (fun e=>zQ e.symm),fun g vM=>by
  rcases yM with e|e
  ·exact .inl (by rw [<-e];exact vM)
  rw [e]at vM;injection vM with vM;exact .inr (by omega)⟩
theorem Uk.cell(h:Uk a b va vb) {p:Addr}(hp:p.block < a.heap.size)(zQ:va.ownBlock≠some p.block):b.cell? p=a.cell? p:=World.cell?_of_block (h.block _ hp zQ)
theorem Uk.below {B:Nat}(h:Uk a b va vb)(hB:B<=a.heap.size)(hr:∀g,va.ownBlock=some g->B<=g):Below B a b :=
 ⟨h.os,h.tape,h.output,h.size,fun k hk=>h.block k (by omega) (fun e=>by have:=hr k e;omega)⟩
theorem Zg {base:Nat} {e:TypeId} {size n:Nat} {xs:List Value}(h:w.ownsRow base e size v n xs)(he:Qg w w'):w'.ownsRow base e size v n xs:=Zp h fun g hg=>he.block (h.lt g hg).2
theorem Im(w:World)(cs:Array Value)(t:TypeId):∀j u,cs.toList[j]?=some u->(w.alloc (.cells cs t)).cell? ((⟨w.heap.size,0,none⟩:Addr).add j)=some u:=by
 intro j u hj;have h:=heap_alloc_new w (.cells cs t);have e:((⟨w.heap.size,0,none⟩:Addr).add j)=⟨w.heap.size,j,none⟩:=by
  unfold Addr.add
  split
  ·rename_i h0;rw [h0]
  simp
 rw [e];simp only [World.cell?,h];rw [<-hj];simp
theorem Zt(w:World)(cs:Array Value)(t:TypeId) {g:Nat}(hg:g=w.heap.size):∀j u,cs.toList[j]?=some u->(w.alloc (.cells cs t)).cell? ((⟨g,0,none⟩:Addr).add j)=some u:=by
 subst hg;exact Im w cs t
end
def Qk4(w:World)(A:Option Addr)(c:Nat)(ops:List (List Nd)):Prop :=
 ops.length<=c/\c<=maxLen/\(ops≠ []->∃ad,A=some ad/\ad.block < w.heap.size/\∀k l,ops[k]?=some l->∃u,w.cell? (ad.add k)=some u/\Yq w u l)
def Dd(w:World)(v:Value)(ops:List (List Nd)):Prop:=∃A c,v=.slice A ops.length c/\Qk4 w A c ops
theorem Qk4.ext {w w':World} {A:Option Addr} {c:Nat} {ops:List (List Nd)}(h:Qk4 w A c ops)(he:Qg w w'):Qk4 w' A c ops :=
 ⟨h.1,h.2.1,fun hn=>by
  obtain⟨ad,e,zJ,hc⟩:=h.2.2 hn;refine⟨ad,e,Qy zJ he.size,fun k l hk=> ?_⟩;obtain⟨u,hu,hf⟩:=hc k l hk;exact⟨u,(he.cell (Qj zJ)).trans hu,hf.ext he⟩⟩
theorem Dd.ext {w w':World} {v:Value} {ops:List (List Nd)}(h:Dd w v ops)(he:Qg w w'):Dd w' v ops:=by
 obtain⟨A,c,e,h⟩:=h;exact⟨A,c,e,h.ext he⟩
structure Qza (w wr:World) (ops:List (List Nd)) (x:Nd) (k:Nat) (f:List Nd) (y:Nd) (v:Value):Prop where
 row:wr.ownsRow (w.heap.size+1) 71 6 v f.length (f.flatMap Nd.cells)
 ext:Qg w wr
 box:wr.heap[w.heap.size]?=some (.cells #[.int .i64 y.op,.int .i64 y.i,.int .i64 y.e,.int .i64 y.g,.int .i64 y.x,.int .i64 y.y] 71 (0,0))
 lay:Dy (ops.drop k) k f y=Dy ops 0 [] x
 any:ops.any (fun o=>check o !=0)=(ops.drop k).any (fun o=>check o !=0)
 wf:Wf f
 oks:∀n∈f,n.ok
 yok:y.ok
 len:f.length<=200*k
theorem Qc {w:World} {v:Value} {l:List Nd}(h:Yq w v l):∃A c,v=.slice A l.length c/\Py w A c l:=by
 obtain⟨⟨A,c,e,yM⟩,_⟩:=h;exact⟨A,c,e,yM⟩
theorem Qov {k len:Nat} {y:Nd}(h:y.ok)(hl:len<=1000):(Hp k y len).ok:=by
 obtain⟨a,b,c,d,e,g⟩:=h;have hb:Vp ((len:Int) - 1):=⟨by omega,by omega⟩;unfold Hp;cases k==0
 ·exact⟨a,b,c,d,e,hb⟩
 exact⟨a,b,c,d,hb,g⟩
theorem Qog {d:Nat} {n:Nd}(h:n.ok)(hx:Zq n.op=true->0<=n.x/\n.x<=1000)(hy:Qw n.op=true->0<=n.y/\n.y<=1000)(hd:d<=1000):(Ja d n).ok:=by
 obtain⟨a,b,c,d',e,g⟩:=h;refine⟨a,b,c,d',?_,?_⟩
 ·show Vp (bif Zq n.op then n.x+d else n.x);cases hh:Zq n.op
  ·exact e
  have:=hx hh;exact⟨by simp only [cond_true];omega,by simp only [cond_true];omega⟩
 show Vp (bif Qw n.op then n.y+d else n.y);cases hh:Qw n.op
 ·exact g
 have:=hy hh;exact⟨by simp only [cond_true];omega,by simp only [cond_true];omega⟩
theorem Qo3(op:Int):(Zq op=false/\Qw op=false)\/(Zq op=true/\Qw op=false)\/(Zq op=true/\Qw op=true):=by
 cases hx:Zq op
 ·cases hy:Qw op
  ·exact .inl ⟨rfl,rfl⟩
  rw [Vl hy]at hx;cases hx
 cases hy:Qw op
 ·exact .inr (.inl ⟨rfl,rfl⟩)
 exact .inr (.inr ⟨rfl,rfl⟩)
theorem Qhk {wr w1 w':World} {base:Nat} {A5 Ac:Option Addr} {n c5 cc:Nat} {xs:List Value} {l:List Nd}(hm:Vq w1 w' (.slice Ac l.length cc) l)(zR:wr.ownsRow base 71 6 (.slice A5 n c5) n xs)(he:Qg wr w1):
 ∀ad:Addr,Ac=some ad->(Value.slice A5 n c5).ownBlock≠some ad.block/\ad.block < w'.heap.size:=by
 rintro ad rfl;obtain⟨h1,h2⟩:=hm.1.lt ad.block rfl;refine⟨fun e=> ?_,h2⟩;have:=(zR.lt _ e).2;have:=he.size;omega
theorem Qj2 {w:World} {base:Nat} {e:TypeId} {size n:Nat} {v:Value} {xs:List Value}(h:w.ownsRow (base+1) e size v n xs):v.ownBlock≠some base:=fun e=>by
 have:=(h.lt _ e).1;omega
theorem Qza.next {w wo wi wr:World} {ops:List (List Nd)} {x y:Nd} {k:Nat} {f cl o:List Nd} {v5 v6:Value}(h:Qza w wo ops x k f y v5)(hk:k < 2)(hx:Qg w wi)(sB:wi.ownsRow (w.heap.size+1) 71 6 v5 f.length (f.flatMap Nd.cells))
 (wZ:Uk wi wr v5 v6)(zR:wr.ownsRow (w.heap.size+1) 71 6 v6 (f.length+cl.length) ((f++(cl.take cl.length).map (Ja f.length)).flatMap Nd.cells))
 (MT:wi.heap[w.heap.size]?=some (.cells #[.int .i64 y.op,.int .i64 y.i,.int .i64 y.e,.int .i64 y.g,.int .i64 y.x,.int .i64 y.y] 71 (0,0)))
 (BI:Dy (ops.drop k) k f y=Dy (ops.drop (k+1)) (k+1) (f++(Qf o).map (Ja f.length)) (Hp k y (f++(Qf o).map (Ja f.length)).length))
 (tK:(ops.drop k).any (fun o=>check o !=0)=(check o !=0||(ops.drop (k+1)).any (fun o=>check o !=0)))(hc:check o=0)(yU:cl=Qf o)(kY:Wf cl)(zG:cl.length<=200)(zP:∀n∈cl,n.ok)
 (slot:Nat)(KI:slot=bif k==0 then 4 else 5)(z:Int)(hz:z=((f.length+cl.length:Nat):Int) - 1):
 Qza w (wr.setCell ⟨w.heap.size,slot,none⟩ (.int .i64 z)) ops x (k+1) (f++cl.map (Ja f.length)) (Hp k y (f++cl.map (Ja f.length)).length) v6:=by
 have IL:(f++cl.map (Ja f.length)).length=f.length+cl.length:=by simp
 have zJ:=Qn MT;have rR:wr.heap[w.heap.size]?=some (.cells #[.int .i64 y.op,.int .i64 y.i,.int .i64 y.e,.int .i64 y.g,.int .i64 y.x,.int .i64 y.y] 71 (0,0)):=(wZ.block _ zJ (Qj2 sB)).trans MT;rw [List.take_of_length_le (Nat.le_refl _)]at zR;refine⟨?_,?_,?_,?_,?_,Qkp h.wf kY,?_,Qov h.yok (by have:=h.len;omega),by have:=h.len;omega⟩
 ·rw [IL];exact ownsRow_setCell_other zR (Qj2 zR) _
 ·have hb:Below (w.heap.size+1) wi wr:=wZ.below zJ (fun g hg=>(sB.lt g hg).1);exact Qg.setCell (Below.trans hx (Below.mono hb (Nat.le_succ _))) (Nat.le_refl _) _
 ·simp only [World.setCell,Array.getElem?_modify,rR,if_true,Option.map_some];rw [IL];subst KI hz;unfold Hp;cases e:k==0
  ·simp
  simp
 ·rw [<-h.lay,BI,yU]
 ·rw [h.any,tK,hc];rfl
 intro n hn;rcases List.mem_append.1 hn with hn|hn
 ·exact h.oks n hn
 obtain⟨m,hm,rfl⟩:=List.mem_map.1 hn;obtain⟨i,hi⟩:=List.getElem?_of_mem hm;have kE:i < cl.length:=(List.getElem?_eq_some_iff.1 hi).1;obtain⟨h1,h2⟩:=kY i m hi;exact Qog (zP m hm) (fun e=>by have:=h1 e;omega) (fun e=>by have:=h2 e;omega) (by have:=h.len;omega)
theorem Qza.end_ {w wr:World} {ops:List (List Nd)} {x y:Nd} {f:List Nd} {v:Value}(h:Qza w wr ops x ops.length f y v):Vd x ops=Tk f y:=by
 have h1:=h.lay;have h2:=h.any;rw [List.drop_length]at h1 h2;unfold Vd;rw [h2,<-h1];rfl
theorem Qza.bad {w wr:World} {ops:List (List Nd)} {x y:Nd} {k:Nat} {f o:List Nd} {v:Value}(h:Qza w wr ops x k f y v)(hc:check o≠0)
 (tK:(ops.drop k).any (fun o=>check o !=0)=(check o !=0||(ops.drop (k+1)).any (fun o=>check o !=0))):Vd x ops= []:=by
 have hb:(check o !=0)=true:=by simpa using hc
 unfold Vd;rw [h.any,tK,hb];rfl
theorem Qwv {f:List Nd} {y:Nd}(h:Zr y f.length≠0):Tk f y= []:=by
 have hb:(Zr y f.length !=0)=true:=by simpa using h
 unfold Tk;rw [hb];rfl
theorem Qce {f:List Nd} {y:Nd}(h:Zr y f.length=0)(hl:200 < (Zw (f++ [y]) f.length []).1.length):Tk f y= []:=by
 unfold Tk;simp [h,hl]
theorem Zqp {f:List Nd} {y:Nd}(h:Zr y f.length=0)(hl:¬200 < (Zw (f++ [y]) f.length []).1.length):Tk f y=(Zw (f++ [y]) f.length []).1:=by
 unfold Tk;simp [h,hl]
theorem Zqc {f:List Nd} {y:Nd}(hf:Wf f)(h:Zr y f.length=0):Wf (f++ [y]):=by
 obtain⟨hx,hy⟩:=Hn h;refine Ey hf (fun e=> ?_) (fun e=> ?_)
 ·rw [e]at hx;simp [Zx]at hx;omega
 rw [e]at hy;simp [Zx]at hy;omega
theorem Qra(f:List Nd)(A:Option Addr)(c r n:Nat)(w:World)(hn:f.length=n)(hf:Wf f)(zP:∀n∈f,n.ok)(zG:f.length<=1000)(hr:r < f.length)(h:Py w A c f):
 Calls Tryz.prog 162 #[.slice A n c,.int .i64 r] w fun e w'=>∃v,e=.returned v/\w'.ownsRow w.heap.size 71 6 v (Zw f r []).1.length ((Zw f r []).1.flatMap Nd.cells)/\(∀n∈(Zw f r []).1,n.ok)/\Qg w w':=by
 subst hn;exact Oh f A c r w hf zP zG hr h
theorem Fj(x:Nd)(v:Value)(ops:List (List Nd))(w:World)(hx:x.ok)(SD:Dd w v ops)(hn:ops.length<=2):
 Calls Tryz.prog 97 #[.agg #[.int .i64 x.op,.int .i64 x.i,.int .i64 x.e,.int .i64 x.g,.int .i64 x.x,.int .i64 x.y],v] w fun e w'=>∃u,e=.returned u/\Vq w w' u (Vd x ops):=by
 obtain⟨A,c,rfl,xR,yN,zM⟩:=SD;unfold maxLen at yN;have uA:=Qq zM;have DZ:=Qq hx;obtain⟨i0,iO,XX,XW,XV⟩:=info_parts Qm1;clear zM hx;go_enter Tryz.func97,Tryz.ntmps97;go_wp2_with fail;go_loopw [5,16] (fun v5 i wr=>∃(k:Nat) (f:List Nd) (y:Nd),k<=ops.length/\i=.int .i64 k/\Hid (Qza w wr ops x k f y v5)) (fun _ i _=>ops.length - (intOf i).toNat)
 case atStart=>exact⟨0,[],x,Nat.zero_le _,rfl,Qq ⟨World.ownsRow_nil _ _ _ _,Qz.alloc _,heap_alloc_new _ _,rfl,rfl,Nk,by simp,DZ.out,Nat.le_refl _⟩⟩
 case round =>
  obtain⟨wo,rfl⟩:∃wo:World,wo=wr:=⟨_,rfl⟩;obtain⟨k,f,y,hk,rfl,HO⟩:=hrel;obtain⟨A5,c5,rfl⟩:=Qt HO.out.row;have N7:=HO.out.len;by_cases zJ:k < ops.length
  ·obtain⟨o,ho⟩:∃o,ops[k]?=some o:=⟨_,Qv zJ⟩;obtain⟨ad,rfl,yS,xV⟩:=uA.out (by intro e;rw [e]at zJ;simp at zJ);obtain⟨u,hu,QK⟩:=xV k o ho;have cu:=(HO.out.ext.cell (p:=ad.add k) (Qj yS)).trans hu;have OS:=Qq (QK.ext HO.out.ext);have OJ:=Qq (Qr2 ops k o f y ho);have VX:=Qq (Qa4 ops k o ho);obtain⟨Au,cuu,rfl,_⟩:=Qc QK;clear xV hu QK ho;by_cases hc:check o=0
   ·have HC:=Qq hc;clear hc;go_wp2_with fail;refine(Vw _ o _ OS.out.1).mono ?_;rintro e w1 ⟨rfl,hb⟩;rw [HC.out];have zO:=Qq hb;clear hb cu;go_wp2_with fail;refine(Fs _ o _ (OS.out.ext zO.out)).mono ?_;rintro e wi ⟨uc,rfl,hm⟩;have HM:=Qq hm;obtain⟨Ac,cc,rfl,wN⟩:=Qc hm.fml;have MN:=wN.2.2;have MP:=wN.1;have lX:=wN.2.1;unfold maxLen at lX;have PC:=Qq MN;have hp:=Jb HC.out;have IM:=(Jf HC.out).2.1;have TF:(Qf o).length<=200:=by omega
    have CS:=hp.2.2.1;have ZQ:=Qq hp.1;have aE:=Qq hm.2.1;have zT:=Qq (HO.out.ext.trans (zO.out.trans hm.2.2));have iX:Hid (wi.ownsRow (w.heap.size+1) 71 6 (.slice A5 f.length c5) f.length (f.flatMap Nd.cells)):=Qq (Zg HO.out.row (zO.out.trans hm.2.2))
    have mK:Hid (wi.heap[w.heap.size]?=some (.cells #[.int .i64 y.op,.int .i64 y.i,.int .i64 y.e,.int .i64 y.g,.int .i64 y.x,.int .i64 y.y] 71 (0,0))):=
     Qq (((zO.out.trans hm.2.2).block (Qn HO.out.box)).trans HO.out.box)
    have sV:=Qq (Qhk hm HO.out.row zO.out);obtain⟨cl,yU⟩:∃cl,cl=Qf o:=⟨_,rfl⟩;have uO:=Qq yU;rw [<-yU]at PC MP TF CS ZQ aE;rw [<-yU];clear hm wN MN hp yU;go_wp2_with fail;go_loopw [5,29] (fun v5 i wr=>∃j:Nat,j<=cl.length/\i=.int .i64 j/\Hid (wr.ownsRow (w.heap.size+1) 71 6 v5 (f.length+j) ((f++(cl.take j).map (Ja f.length)).flatMap Nd.cells))/\Hid (Uk wi wr (.slice A5 f.length c5) v5)) (fun _ i _=>cl.length - (intOf i).toNat)
    case atStart=>exact⟨0,Nat.zero_le _,rfl,Qq (by simpa using iX.out),Qq (Uk.refl _ _)⟩
    case round =>
     obtain⟨j,hj,rfl,vZ,zA⟩:=hrel;obtain⟨A6,c6,rfl⟩:=Qt vZ.out;by_cases hlt2:j < cl.length
     ·obtain⟨a,ha⟩:∃a,cl[j]?=some a:=⟨_,Qv hlt2⟩;obtain⟨adc,rfl,TO,TG⟩:=PC.out (by intro e;rw [e]at hlt2;simp at hlt2);obtain⟨a0,a1,a2,a3,a4,a5⟩:=(TG j a ha).keep fun p hp=>zA.out.cell (p:=p) (by rw [hp,Qr];exact TO) (by rw [hp,Qr];exact(sV.out adc rfl).1)
      obtain⟨xs,rZ⟩:∃xs,xs=(f++(cl.take j).map (Ja f.length)).flatMap Nd.cells:=⟨_,rfl⟩;rw [<-rZ]at vZ;have iT:=Qq rZ;clear rZ;have oS:=ZQ.out j a ha;have DB:=aE.out a (List.mem_of_getElem? ha);have gU:=Qq (Kd ha);have xS:f.length+j+1<=maxLen:=by unfold maxLen;omega
      have xP:(f.length+j+1)*48<=140737488355328:=by omega
      have zB:Hid (w.heap.size+1<=wr.heap.size):=Qq (Qx (Nat.succ_le_of_lt (Qn mK.out)) zA.out.size);have rR:Zq a.op=true->0<=a.x/\a.x < 200:=fun e=>by have:=oS.1 e;omega
      have aT:Qw a.op=true->0<=a.y/\a.y < 200:=fun e=>by have:=oS.2 e;omega
      clear TG oS DB ha;rcases Qo3 a.op with⟨pJ,sA⟩|⟨pJ,sA⟩|⟨pJ,sA⟩
      ·
       have nW:=Qq pJ;have oP:=Qq sA
       have tQ:Hid (xs++ [.int .i64 a.op,.int .i64 a.i,.int .i64 a.e,.int .i64 a.g,.int .i64 (a.x),.int .i64 (a.y)]=(f++(cl.take (j+1)).map (Ja f.length)).flatMap Nd.cells):=
        Qq (by rw [iT.out,gU.out,List.map_append,<-List.append_assoc,List.flatMap_append];simp [Ja,pJ,sA,Nd.cells])
       clear pJ sA rR aT;go_wp2_with(first|(go_at_call 161;refine(Nn _ _ _ _ _ _ _ _ nW.out oP.out rfl rfl rfl rfl rfl _).mono ?_;rintro e w2 ⟨rfl,hb⟩;have HB:=Qq hb;obtain⟨hc,xQ,xH⟩:=hb.facts;clear hb;have hz:wr.heap.size < w2.heap.size:=by { simp at xH;omega };clear xH)|(at_builtin;refine wpList_append_own_at _ rfl _ _ 22 rfl (w.heap.size+1) 71 i0 Nd.zero.val 6 48 Tryz.underlying22 iO XX XW XV rfl (by decide) _ _ _ rfl (Zg vZ.out ?hx) _ 1 1 [.int .i64 a.op,.int .i64 a.i,.int .i64 a.e,.int .i64 a.g,.int .i64 (a.x),.int .i64 (a.y)] rfl rfl ?c1 ?c2 xS xP ?c5 ?_))
       case hx=>exact((((Qz.alloc _).trans HB.out).alloc _).alloc _)
       case c1=>exact Zt _ _ _ (by simp)
       case c2 =>
        intro u hu;simp only [List.mem_cons,List.mem_nil_iff,or_false]at hu;rcases hu with rfl|rfl|rfl|rfl|rfl|rfl <;> rfl
       case c5 =>
        have h1:=zB.out;have h2:=HB.out.size;simp at h2⊢;omega
       intro v' w4 yE yL _ tY;have tZ:=Qq yE;have dZ:=Qq ((zA.out.ext ((((Qz.alloc _).trans HB.out).alloc _).alloc _)).appended yL (tY.imp id fun e=>by rw [e];simp));obtain⟨A4,c4',rfl⟩:=Qt yE;clear yE yL tY;go_wp2_with fail;go_roundw
       case rel=>exact⟨j+1,by omega,by go_num,Qq (by rw [<-tQ.out];exact tZ.out),dZ⟩
       case measure=>simp [intOf];omega
      ·
       obtain⟨bx0,bx1⟩:=rR pJ;have nW:=Qq pJ;have oP:=Qq sA
       have tQ:Hid (xs++ [.int .i64 a.op,.int .i64 a.i,.int .i64 a.e,.int .i64 a.g,.int .i64 (a.x+(f.length:Int)),.int .i64 (a.y)]=(f++(cl.take (j+1)).map (Ja f.length)).flatMap Nd.cells):=
        Qq (by rw [iT.out,gU.out,List.map_append,<-List.append_assoc,List.flatMap_append];simp [Ja,pJ,sA,Nd.cells])
       clear pJ sA rR aT;go_wp2_with(first|(go_at_call 161;refine(Nn _ _ _ _ _ _ _ _ nW.out oP.out rfl rfl rfl rfl rfl _).mono ?_;rintro e w2 ⟨rfl,hb⟩;have HB:=Qq hb;obtain⟨hc,xQ,xH⟩:=hb.facts;clear hb;have hz:wr.heap.size < w2.heap.size:=by { simp at xH;omega };clear xH)|(at_builtin;refine wpList_append_own_at _ rfl _ _ 22 rfl (w.heap.size+1) 71 i0 Nd.zero.val 6 48 Tryz.underlying22 iO XX XW XV rfl (by decide) _ _ _ rfl (Zg vZ.out ?hx) _ 1 1 [.int .i64 a.op,.int .i64 a.i,.int .i64 a.e,.int .i64 a.g,.int .i64 (a.x+(f.length:Int)),.int .i64 (a.y)] rfl rfl ?c1 ?c2 xS xP ?c5 ?_))
       case hx=>exact(((Qg.setCell (p:=⟨wr.heap.size,4,none⟩) ((Qz.alloc _).trans HB.out) (Nat.le_refl _) _).alloc _).alloc _)
       case c1=>exact Zt _ _ _ (by simp)
       case c2 =>
        intro u hu;simp only [List.mem_cons,List.mem_nil_iff,or_false]at hu;rcases hu with rfl|rfl|rfl|rfl|rfl|rfl <;> rfl
       case c5 =>
        have h1:=zB.out;have h2:=HB.out.size;simp at h2⊢;omega
       intro v' w4 yE yL _ tY;have tZ:=Qq yE;have dZ:=Qq ((zA.out.ext (((Qg.setCell (p:=⟨wr.heap.size,4,none⟩) ((Qz.alloc _).trans HB.out) (Nat.le_refl _) _).alloc _).alloc _)).appended yL (tY.imp id fun e=>by rw [e];simp));obtain⟨A4,c4',rfl⟩:=Qt yE;clear yE yL tY;go_wp2_with fail;go_roundw
       case rel=>exact⟨j+1,by omega,by go_num,Qq (by rw [<-tQ.out];exact tZ.out),dZ⟩
       case measure=>simp [intOf];omega
      
      obtain⟨bx0,bx1⟩:=rR pJ;obtain⟨by0,by1⟩:=aT sA;have nW:=Qq pJ;have oP:=Qq sA
      have tQ:Hid (xs++ [.int .i64 a.op,.int .i64 a.i,.int .i64 a.e,.int .i64 a.g,.int .i64 (a.x+(f.length:Int)),.int .i64 (a.y+(f.length:Int))]=(f++(cl.take (j+1)).map (Ja f.length)).flatMap Nd.cells):=
       Qq (by rw [iT.out,gU.out,List.map_append,<-List.append_assoc,List.flatMap_append];simp [Ja,pJ,sA,Nd.cells])
      clear pJ sA rR aT;go_wp2_with(first|(go_at_call 161;refine(Nn _ _ _ _ _ _ _ _ nW.out oP.out rfl rfl rfl rfl rfl _).mono ?_;rintro e w2 ⟨rfl,hb⟩;have HB:=Qq hb;obtain⟨hc,xQ,xH⟩:=hb.facts;clear hb;have hz:wr.heap.size < w2.heap.size:=by { simp at xH;omega };clear xH)|(at_builtin;refine wpList_append_own_at _ rfl _ _ 22 rfl (w.heap.size+1) 71 i0 Nd.zero.val 6 48 Tryz.underlying22 iO XX XW XV rfl (by decide) _ _ _ rfl (Zg vZ.out ?hx) _ 1 1 [.int .i64 a.op,.int .i64 a.i,.int .i64 a.e,.int .i64 a.g,.int .i64 (a.x+(f.length:Int)),.int .i64 (a.y+(f.length:Int))] rfl rfl ?c1 ?c2 xS xP ?c5 ?_))
      case hx=>exact(((Qg.setCell (p:=⟨wr.heap.size,5,none⟩) (Qg.setCell (p:=⟨wr.heap.size,4,none⟩) ((Qz.alloc _).trans HB.out) (Nat.le_refl _) _) (Nat.le_refl _) _).alloc _).alloc _)
      case c1=>exact Zt _ _ _ (by simp)
      case c2 =>
       intro u hu;simp only [List.mem_cons,List.mem_nil_iff,or_false]at hu;rcases hu with rfl|rfl|rfl|rfl|rfl|rfl <;> rfl
      case c5 =>
       have h1:=zB.out;have h2:=HB.out.size;simp at h2⊢;omega
      intro v' w4 yE yL _ tY;have tZ:=Qq yE;have dZ:=Qq ((zA.out.ext (((Qg.setCell (p:=⟨wr.heap.size,5,none⟩) (Qg.setCell (p:=⟨wr.heap.size,4,none⟩) ((Qz.alloc _).trans HB.out) (Nat.le_refl _) _) (Nat.le_refl _) _).alloc _).alloc _)).appended yL (tY.imp id fun e=>by rw [e];simp));obtain⟨A4,c4',rfl⟩:=Qt yE;clear yE yL tY;go_wp2_with fail;go_roundw
      case rel=>exact⟨j+1,by omega,by go_num,Qq (by rw [<-tQ.out];exact tZ.out),dZ⟩
      case measure=>simp [intOf];omega
     obtain rfl:cl.length=j:=by omega
     clear hlt2;have dB:1<=f.length+cl.length:=by omega
     have wC:Hid (wr.heap[w.heap.size]?=some (.cells #[.int .i64 y.op,.int .i64 y.i,.int .i64 y.e,.int .i64 y.g,.int .i64 y.x,.int .i64 y.y] 71 (0,0))):=
      Qq ((zA.out.block _ (Qn mK.out) (Qj2 iX.out)).trans mK.out)
     obtain⟨⟨d0,d1,d2,d3,d4,d5⟩,dfr,dlt⟩:=Vc wC.out;by_cases YV:k=0
     ·
      obtain rfl:k=0:=YV;go_wp2_with fail;go_roundw
      case rel=>exact⟨0+1,_,_,by omega,by go_num,Qq (HO.out.next (by omega) zT.out iX.out zA.out vZ.out mK.out OJ.out VX.out HC.out uO.out ZQ.out TF aE.out 4 rfl _ (by go_num))⟩
      case measure=>simp [intOf];omega
     
     have hkb:((k:Int)==0)=false:=by rw [beq_eq_false_iff_ne];omega
     have H7:=Qq YV;clear YV;go_wp2_with fail;go_roundw
     case rel=>exact⟨k+1,_,_,by omega,by go_num,Qq (HO.out.next (by omega) zT.out iX.out zA.out vZ.out mK.out OJ.out VX.out HC.out uO.out ZQ.out TF aE.out 5 (by have e:(k==0)=false:=by { rw [beq_eq_false_iff_ne];exact H7.out };rw [e];rfl) _ (by go_num))⟩
     case measure=>simp [intOf];omega
   have wL:=Qq (HO.out.bad hc VX.out);have rN:(check o !=0)=true:=by simpa using hc
   clear hc;go_wp2_with fail;refine(Vw _ o _ OS.out.1).mono ?_;rintro e w1 ⟨rfl,hb⟩;have zO:=Qq (HO.out.ext.trans hb);clear hb;go_wp2_with fail;go_ret;exact⟨_,rfl,by rw [wL.out];exact(Vq.none_ _).after zO.out⟩
  obtain rfl:ops.length=k:=by omega
  have HJ:=Qq HO.out.end_;obtain⟨⟨d0,d1,d2,d3,d4,d5⟩,dfr,dlt⟩:=Vc HO.out.box;by_cases zQ:Zr y f.length=0
  ·have iZ:=Qq zQ;clear zQ;go_wp2_with fail;refine(Tx y _ _).mono ?_;rintro e w1 ⟨rfl,hb⟩;rw [iZ.out];have zO:=Qq hb;have XK:=Qq (Zg HO.out.row hb);have wC:Hid (w1.heap[w.heap.size]?=some (.cells #[.int .i64 y.op,.int .i64 y.i,.int .i64 y.e,.int .i64 y.g,.int .i64 y.x,.int .i64 y.y] 71 (0,0))):=Qq ((hb.block (Qn HO.out.box)).trans HO.out.box);clear hb d0 d1 d2 d3 d4 d5 dfr dlt;obtain⟨⟨d0,d1,d2,d3,d4,d5⟩,dfr,dlt⟩:=Vc wC.out;obtain⟨xs,rZ⟩:∃xs,xs=f.flatMap Nd.cells:=⟨_,rfl⟩;rw [<-rZ]at XK;have iT:=Qq rZ;clear rZ;have xS:f.length+1<=maxLen:=by unfold maxLen;omega
   have xP:(f.length+1)*48<=140737488355328:=by omega
   go_wp2_with(at_builtin;refine wpList_append_own_at _ rfl _ _ 22 rfl (w.heap.size+1) 71 i0 Nd.zero.val 6 48 Tryz.underlying22 iO XX XW XV rfl (by decide) _ _ _ rfl (Zg XK.out ?hx) _ 1 1 y.cells rfl rfl ?c1 (Qq2 y) xS xP ?c5 ?_)
   case hx=>exact Qz.alloc _
   case c1=>exact Zt _ _ _ rfl
   case c5=>simp;omega
   intro v' w4 yE yL _ tY;have tZ:Hid (w4.ownsRow (w.heap.size+1) 71 6 v' (f++ [y]).length ((f++ [y]).flatMap Nd.cells)):=Qq (by rw [iT.out]at yE;simpa using yE);have yP:Hid (Qg w w4):=Qq ((((HO.out.ext.trans zO.out).alloc _).grown yL (fun g hg=>by have:=(HO.out.row.lt g hg).1;omega)));obtain⟨A7,c7,qL,zF⟩:=Hb tZ.out;have kX:=Qq zF;have e7:(f++ [y]).length=f.length+1:=by simp
   rw [e7]at qL;have gS:=Qq (Zqc HO.out.wf iZ.out);have FG:Hid (∀n∈f++ [y],n.ok):=Qq (fun n hn=>by
    rcases List.mem_append.1 hn with hn|hn
    ·exact HO.out.oks n hn
    rw [List.mem_singleton.1 hn];exact HO.out.yok)
   have GM:=Qq e7;subst qL;clear yE yL tY zF e7;go_wp2_with fail;refine(Qra (f++ [y]) A7 c7 f.length (f.length+1) _ GM.out gS.out FG.out (by rw [GM.out];omega) (by rw [GM.out];omega) kX.out).mono ?_;rintro e w5 ⟨u5,rfl,sB,WR,WX⟩;have XQ:=Qq (show Vq w w5 u5 (Zw (f++ [y]) f.length []).1 from Vq.before ⟨sB,WR,WX⟩ yP.out);obtain⟨A8,c8,rfl⟩:=Qt sB;clear sB WR WX;by_cases hlong:200 < (Zw (f++ [y]) f.length []).1.length
   ·have JJ:=Qq (Qce iZ.out hlong);generalize (Zw (f++ [y]) f.length []).1=cf at XQ hlong;go_wp2_with fail;go_ret;exact⟨_,rfl,by rw [HJ.out,JJ.out];exact(Vq.none_ _).after XQ.out.2.2⟩
   have JJ:=Qq (Zqp iZ.out hlong);generalize (Zw (f++ [y]) f.length []).1=cf at XQ hlong JJ;go_wp2_with fail;go_ret;exact⟨_,rfl,by rw [HJ.out,JJ.out];exact XQ.out⟩
  have wL:=Qq (Qwv zQ);have rN:(Zr y f.length !=0)=true:=by simpa using zQ
  clear zQ;go_wp2_with fail;refine(Tx y _ _).mono ?_;rintro e w1 ⟨rfl,hb⟩;have zO:=Qq (HO.out.ext.trans hb);clear hb;go_wp2_with fail;go_ret;exact⟨_,rfl,by rw [HJ.out,wL.out];exact(Vq.none_ _).after zO.out⟩
theorem Qv8(w:World):Dd w (.slice none 0 0) []:=⟨none,0,rfl,Nat.le_refl _,by unfold maxLen;omega,fun h=>absurd rfl h⟩
theorem Qd4 {w:World} {v:Value} {f:List Nd}(h:Yq w v f):Dd (w.alloc (.cells #[v] 22)) (.slice (some ⟨w.heap.size,0,none⟩) 1 1) [f]:=by
 refine⟨_,_,rfl,Nat.le_refl _,by unfold maxLen;simp,fun _=>⟨_,rfl,by simp,fun k l hk=> ?_⟩⟩
 match k,hk with
 |0,hk =>
  simp only [List.getElem?_cons_zero,Option.some.injEq]at hk;subst hk;exact⟨v,Im w #[v] 22 0 v rfl,h.ext (Qz.alloc _)⟩
theorem Et {w:World} {v1 v2:Value} {f g:List Nd}(h1:Yq w v1 f)(h2:Yq w v2 g):Dd (w.alloc (.cells #[v1,v2] 22)) (.slice (some ⟨w.heap.size,0,none⟩) 2 2) [f,g]:=by
 refine⟨_,_,rfl,Nat.le_refl _,by unfold maxLen;simp,fun _=>⟨_,rfl,by simp,fun k l hk=> ?_⟩⟩
 match k,hk with
 |0,hk =>
  simp only [List.getElem?_cons_zero,Option.some.injEq]at hk;subst hk;exact⟨v1,Im w #[v1,v2] 22 0 v1 rfl,h1.ext (Qz.alloc _)⟩
 |1,hk =>
  simp only [List.getElem?_cons_succ,List.getElem?_cons_zero,Option.some.injEq]at hk;subst hk;exact⟨v2,Im w #[v1,v2] 22 1 v2 rfl,h2.ext (Qz.alloc _)⟩
theorem Fl {a b c d e g:Int}(ha:Vp a)(hb:Vp b)(hc:Vp c)(hd:Vp d)(he:Vp e)(hg:Vp g):(Nd.mk a b c d e g).ok:=⟨ha,hb,hc,hd,he,hg⟩
theorem Zz {a:Int}(h0:0<=a)(h1:a<=1000):Vp a:=⟨by omega,by omega⟩
def Qzn:List Nd:=Vd ⟨1,0,0,0,0,0⟩ []
theorem Qrx(w:World):
 Calls Tryz.prog 119 #[] w fun e w'=>∃u,e=.returned u/\Vq w w' u (Qzn):=by
 go_enter Tryz.func119,Tryz.ntmps119;go_wp2_with fail;refine(Fj ⟨1,0,0,0,0,0⟩ _ [] _ (Fl (Zz (by omega) (by omega)) (Zz (by omega) (by omega)) (Zz (by omega) (by omega)) (Zz (by omega) (by omega)) (Zz (by omega) (by omega)) (Zz (by omega) (by omega))) (Qv8 _) (by simp)).mono ?_;rintro e w1 ⟨u,rfl,hm⟩;have HM:=Qq hm;clear hm;go_wp2_with fail;go_ret;exact⟨_,rfl,HM.out⟩
def If:List Nd:=Vd ⟨2,0,0,0,0,0⟩ []
theorem Qp7(w:World):
 Calls Tryz.prog 120 #[] w fun e w'=>∃u,e=.returned u/\Vq w w' u (If):=by
 go_enter Tryz.func120,Tryz.ntmps120;go_wp2_with fail;refine(Fj ⟨2,0,0,0,0,0⟩ _ [] _ (Fl (Zz (by omega) (by omega)) (Zz (by omega) (by omega)) (Zz (by omega) (by omega)) (Zz (by omega) (by omega)) (Zz (by omega) (by omega)) (Zz (by omega) (by omega))) (Qv8 _) (by simp)).mono ?_;rintro e w1 ⟨u,rfl,hm⟩;have HM:=Qq hm;clear hm;go_wp2_with fail;go_ret;exact⟨_,rfl,HM.out⟩
def Qxf(a:Int):List Nd:=Vd ⟨3,a,0,0,0,0⟩ []
theorem Qer(a:Int)(ha:Vp a)(w:World):
 Calls Tryz.prog 121 #[.int .i64 a] w fun e w'=>∃u,e=.returned u/\Vq w w' u (Qxf a):=by
 go_enter Tryz.func121,Tryz.ntmps121;go_wp2_with fail;refine(Fj ⟨3,a,0,0,0,0⟩ _ [] _ (Fl (Zz (by omega) (by omega)) ha (Zz (by omega) (by omega)) (Zz (by omega) (by omega)) (Zz (by omega) (by omega)) (Zz (by omega) (by omega))) (Qv8 _) (by simp)).mono ?_;rintro e w1 ⟨u,rfl,hm⟩;have HM:=Qq hm;clear hm;go_wp2_with fail;go_ret;exact⟨_,rfl,HM.out⟩
def Kk(f:List Nd):List Nd:=Vd ⟨4,0,0,0,0,0⟩ [f]
theorem Eq(v1:Value)(f:List Nd)(w:World)(h1:Yq w v1 f):
 Calls Tryz.prog 38 #[v1] w fun e w'=>∃u,e=.returned u/\Vq w w' u (Kk f):=by
 have H1:=Qq h1;obtain⟨A1,c1,rfl,_⟩:=Qc h1;clear h1;go_enter Tryz.func38,Tryz.ntmps38;go_wp2_with fail;refine(Fj ⟨4,0,0,0,0,0⟩ _ [f] _ (Fl (Zz (by omega) (by omega)) (Zz (by omega) (by omega)) (Zz (by omega) (by omega)) (Zz (by omega) (by omega)) (Zz (by omega) (by omega)) (Zz (by omega) (by omega))) (Qd4 H1.out) (by simp)).mono ?_;rintro e w1 ⟨u,rfl,hm⟩;have HM:=Qq hm;clear hm;go_wp2_with fail;go_ret;exact⟨_,rfl,(HM.out.before (Qz.alloc _))⟩
def Bt(f g:List Nd):List Nd:=Vd ⟨5,0,0,0,0,0⟩ [f,g]
theorem Qyv(v1 v2:Value)(f g:List Nd)(w:World)(h1:Yq w v1 f)(h2:Yq w v2 g):
 Calls Tryz.prog 71 #[v1,v2] w fun e w'=>∃u,e=.returned u/\Vq w w' u (Bt f g):=by
 have H1:=Qq h1;have H2:=Qq h2;obtain⟨A1,c1,rfl,_⟩:=Qc h1;obtain⟨A2,c2,rfl,_⟩:=Qc h2;clear h1 h2;go_enter Tryz.func71,Tryz.ntmps71;go_wp2_with fail;refine(Fj ⟨5,0,0,0,0,0⟩ _ [f,g] _ (Fl (Zz (by omega) (by omega)) (Zz (by omega) (by omega)) (Zz (by omega) (by omega)) (Zz (by omega) (by omega)) (Zz (by omega) (by omega)) (Zz (by omega) (by omega))) (Et H1.out H2.out) (by simp)).mono ?_;rintro e w1 ⟨u,rfl,hm⟩;have HM:=Qq hm;clear hm;go_wp2_with fail;go_ret;exact⟨_,rfl,(HM.out.before (Qz.alloc _))⟩
def Qkv(f g:List Nd):List Nd:=Vd ⟨7,0,0,0,0,0⟩ [f,g]
theorem Qgc(v1 v2:Value)(f g:List Nd)(w:World)(h1:Yq w v1 f)(h2:Yq w v2 g):
 Calls Tryz.prog 74 #[v1,v2] w fun e w'=>∃u,e=.returned u/\Vq w w' u (Qkv f g):=by
 have H1:=Qq h1;have H2:=Qq h2;obtain⟨A1,c1,rfl,_⟩:=Qc h1;obtain⟨A2,c2,rfl,_⟩:=Qc h2;clear h1 h2;go_enter Tryz.func74,Tryz.ntmps74;go_wp2_with fail;refine(Fj ⟨7,0,0,0,0,0⟩ _ [f,g] _ (Fl (Zz (by omega) (by omega)) (Zz (by omega) (by omega)) (Zz (by omega) (by omega)) (Zz (by omega) (by omega)) (Zz (by omega) (by omega)) (Zz (by omega) (by omega))) (Et H1.out H2.out) (by simp)).mono ?_;rintro e w1 ⟨u,rfl,hm⟩;have HM:=Qq hm;clear hm;go_wp2_with fail;go_ret;exact⟨_,rfl,(HM.out.before (Qz.alloc _))⟩
def Uq(a:Int)(f:List Nd):List Nd:=Vd ⟨9,a,0,0,0,0⟩ [f]
theorem Mc(a:Int)(ha:Vp a)(v1:Value)(f:List Nd)(w:World)(h1:Yq w v1 f):
 Calls Tryz.prog 72 #[.int .i64 a,v1] w fun e w'=>∃u,e=.returned u/\Vq w w' u (Uq a f):=by
 have H1:=Qq h1;obtain⟨A1,c1,rfl,_⟩:=Qc h1;clear h1;go_enter Tryz.func72,Tryz.ntmps72;go_wp2_with fail;refine(Fj ⟨9,a,0,0,0,0⟩ _ [f] _ (Fl (Zz (by omega) (by omega)) ha (Zz (by omega) (by omega)) (Zz (by omega) (by omega)) (Zz (by omega) (by omega)) (Zz (by omega) (by omega))) (Qd4 H1.out) (by simp)).mono ?_;rintro e w1 ⟨u,rfl,hm⟩;have HM:=Qq hm;clear hm;go_wp2_with fail;go_ret;exact⟨_,rfl,(HM.out.before (Qz.alloc _))⟩
def Qix(a:Int)(f:List Nd):List Nd:=Vd ⟨10,a,0,0,0,0⟩ [f]
theorem Le {w:World} {base n:Nat} {vd:Value} {d:List Int}(h:w.ownsRow base 3 1 vd n (d.map (Value.int .i64)))(hn:0 < n):
 ∃g cap,vd=.slice (some ⟨g,0,none⟩) n cap/\g < w.heap.size/\n<=cap/\cap<=maxLen/\∀i z,d[i]?=some z->w.cell? ⟨g,i,none⟩=some (.int .i64 z)/\w.frozen? ⟨g,i,none⟩=false:=by
 rcases h.2 with⟨_,h0⟩|⟨g,cap,cur,rfl,_,hg,gM,hm,hs,ht⟩
 ·omega
 refine⟨g,cap,rfl,Qn hg,gM,hm,fun i z hz=>⟨?_,by simp [World.frozen?,hg]⟩⟩;have h1:(d.map (Value.int .i64))[i]?=some (.int .i64 z):=by rw [List.getElem?_map,hz];rfl
 rw [<-ht,List.getElem?_take]at h1
 split at h1
 ·have h2:cur[i]?=some (.int .i64 z):=by simpa using h1
  simp [World.cell?,hg,h2]
 cases h1
theorem Fo(g i:Nat):((⟨g,0,none⟩:Addr).add i)=⟨g,i,none⟩:=by
 unfold Addr.add
 split
 ·rename_i h;rw [h]
 simp
def Qzw(w:World)(A:Option Addr)(c:Nat)(l:List Int):Prop :=
 l.length<=c/\c<=maxLen/\(l≠ []->∃ad,A=some ad/\ad.block < w.heap.size/\∀k z,l[k]?=some z->w.cell? (ad.add k)=some (.int .i64 z))
def Dn(w:World)(v:Value)(l:List Int):Prop:=∃A c,v=.slice A l.length c/\Qzw w A c l
theorem Qzw.ext {w w':World} {A:Option Addr} {c:Nat} {l:List Int}(h:Qzw w A c l)(he:Qg w w'):Qzw w' A c l :=
 ⟨h.1,h.2.1,fun hn=>by
  obtain⟨ad,e,zJ,hc⟩:=h.2.2 hn;exact⟨ad,e,Qy zJ he.size,fun k z hk=>(he.cell (Qj zJ)).trans (hc k z hk)⟩⟩
theorem Dn.ext {w w':World} {v:Value} {l:List Int}(h:Dn w v l)(he:Qg w w'):Dn w' v l:=by
 obtain⟨A,c,e,h⟩:=h;exact⟨A,c,e,h.ext he⟩
theorem Dn.none_(w:World):Dn w (.slice none 0 0) []:=⟨none,0,rfl,Nat.le_refl _,by unfold maxLen;omega,fun h=>absurd rfl h⟩
theorem Qr1 {w:World} {base:Nat} {v:Value} {l:List Int}(h:w.ownsRow base 3 1 v l.length (l.map (Value.int .i64))):Dn w v l:=by
 by_cases h0:0 < l.length
 ·obtain⟨g,cap,rfl,hg,hc,hm,yR⟩:=Le h h0;exact⟨_,_,rfl,hc,hm,fun _=>⟨_,rfl,hg,fun k z hk=>by rw [Fo];exact(yR k z hk).1⟩⟩
 have e:l= []:=List.length_eq_zero_iff.1 (by omega);subst e;rcases h.2 with⟨rfl,_⟩|⟨g,cap,cur,rfl,_,_,hn,hm,_⟩
 ·exact Dn.none_ w
 exact⟨_,cap,rfl,Nat.zero_le _,hm,fun h=>absurd rfl h⟩
def Zkl(w w':World)(v:Value)(l:List Int):Prop:=w'.ownsRow w.heap.size 3 1 v l.length (l.map (Value.int .i64))/\Qg w w'
def orN(f g:List Nd):List Nd:=Vd ⟨6,0,0,0,0,0⟩ [f,g]
def Qe9(f g:List Nd):List Nd:=Vd ⟨8,0,0,0,0,0⟩ [f,g]
end Go.Proofs.YtkmclcmnoicagaaGreatDoor
