/- What the reference's constructors of formulas come to: the lists that the program's constructors come to. -/
import Derived.Test.YtmidgcldljfkcaaGreatDoorM01
import Derived.Test.YtmidgcldljfkcaaGreatDoorM13
import Derived.Test.YtmidgcldljfkcaaGreatDoorM12
import Derived.Test.YtmidgcldljfkcaaGreatDoorM03
import Derived.Test.YtmidgcldljfkcaaGreatDoorM16
namespace Go.Proofs.YtmidgcldljfkcaaGreatDoor
set_option maxRecDepth 100000
set_option maxHeartbeats 128000000
def Cx(t:Tr):List Nd:=bif decide (200 < (Ys t).length)then []else Ys t
theorem Qyn {t:Tr}(h:(Ys t).length<=200):Cx t=Ys t:=by
 unfold Cx;rw [decide_eq_false (by omega)];rfl
theorem Qzl {t:Tr}(h:200 < (Ys t).length):Cx t= []:=by
 unfold Cx;rw [decide_eq_true h];rfl
theorem Rx:Qs []≠0:=by decide
def Qwo(l:List Nd):List Nd:=bif decide (200 < (Jj l (l.length - 1) []).1.length)then []else(Jj l (l.length - 1) []).1
theorem Qq6(f:List Nd):f.map (Jk 0)=f:=by
 rw [show Jk 0=id from by funext m;unfold Jk;cases Qw m.op <;> cases Qa m.op <;> simp];simp
theorem Qbp {n:Nd} {f:List Nd}(hf:Qs f=0)(h1:Qw n.op=true)(h2:Qa n.op=false)(hh:Jm n):Yp n [f]=Cx (.one n.head (Qp f)):=by
 obtain⟨cw,cl,cp,_⟩:=Vz hf;unfold Yp;have e0: [f].any (fun o=>Qs o !=0)=false:=by simp [hf]
 rw [e0,cond_false];have eL:Up [f] 0 [] n=(Qf f,{ n with x:=((Qf f).length:Int) - 1 }):=by
  simp only [Up,Bw,List.nil_append,List.length_nil,Qq6];rfl
 rw [eL];generalize hm:({ n with x:=((Qf f).length:Int) - 1 } :Nd)=m;have mo:m.op=n.op:=by rw [<-hm]
 have mx:m.x=((Qf f).length:Int) - 1:=by rw [<-hm]
 have mh:m.head=n.head:=by
  rw [<-hm];unfold Nd.head Nd.with_;simp [h1,h2]
 have hmh:Jm m:=by
  rw [<-hm];exact⟨hh.1,hh.2.1,hh.2.2.1,fun h=>by(rw [h1]at h;cases h),hh.2.2.2.2⟩
 have herr:Zz m (Qf f).length=0:=hmh.err (fun _=>by omega) (fun h=>by rw [mo,h2]at h;cases h);have hw:Wf (Qf f++ [m]):=Lm cw (fun _=>by omega) (fun h=>by rw [mo,h2]at h;cases h);have htr:tr (Qf f++ [m]) (Qf f).length=.one n.head (Qp f):=by
  rw [Xb hw (n:=m) (by simp)];unfold Ve;rw [mo,h1,h2,mh,mx];rw [show(((Qf f).length:Int) - 1).toNat=(Qf f).length - 1 by omega,Fc cw hw (List.prefix_append _ _) _ (by omega)];rw [show tr (Qf f) ((Qf f).length - 1)=Qp (Qf f)from rfl,Ky hf];rfl
 unfold Rt;have hfin:(Jj (Qf f++ [m]) (Qf f).length []).1=Ys (.one n.head (Qp f)):=by
  rw [Cs hw _ _ (by simp),htr];rfl
 simp only [herr,hfin];rfl
theorem Qdz {n:Nd} {f g:List Nd}(hf:Qs f=0)(hg:Qs g=0)(h1:Qw n.op=true)(h2:Qa n.op=true)(hh:Jm n):Yp n [f,g]=Cx (.two n.head (Qp f) (Qp g)):=by
 obtain⟨cw,cl,cp,_⟩:=Vz hf;obtain⟨dw,dl,dp,_⟩:=Vz hg;unfold Yp;have e0: [f,g].any (fun o=>Qs o !=0)=false:=by simp [hf,hg]
 rw [e0,cond_false];have eL:Up [f,g] 0 [] n=(Qf f++(Qf g).map (Jk (Qf f).length),{ n with x:=((Qf f).length:Int) - 1,y:=((Qf f).length:Int)+(Qf g).length - 1 }):=by
  simp only [Up,Bw,List.nil_append,List.length_nil,Qq6];simp
 rw [eL];have hFw:=Hd cw dw;have hFl:(Qf f++(Qf g).map (Jk (Qf f).length)).length=(Qf f).length+(Qf g).length:=by simp
 have hF1:tr (Qf f++(Qf g).map (Jk (Qf f).length)) ((Qf f).length - 1)=Qp f:=by
  rw [Fc cw hFw (List.prefix_append _ _) _ (by omega),show tr (Qf f) ((Qf f).length - 1)=Qp (Qf f)from rfl,Ky hf]
 have hF2:tr (Qf f++(Qf g).map (Jk (Qf f).length)) ((Qf f).length+(Qf g).length - 1)=Qp g:=by
  rw [show(Qf f).length+(Qf g).length - 1=(Qf f).length+((Qf g).length - 1) by omega,Qmk cw dw _ (by omega),show tr (Qf g) ((Qf g).length - 1)=Qp (Qf g)from rfl,Ky hg]
 generalize Qf f++(Qf g).map (Jk (Qf f).length)=F at *;generalize hm:({ n with x:=((Qf f).length:Int) - 1,y:=((Qf f).length:Int)+(Qf g).length - 1 } :Nd)=m;have mo:m.op=n.op:=by rw [<-hm]
 have mx:m.x=((Qf f).length:Int) - 1:=by rw [<-hm]
 have my:m.y=((Qf f).length:Int)+(Qf g).length - 1:=by rw [<-hm]
 have mh:m.head=n.head:=by
  rw [<-hm];unfold Nd.head Nd.with_;simp [h1,h2]
 have hmh:Jm m:=by
  rw [<-hm];exact⟨hh.1,hh.2.1,hh.2.2.1,fun h=>by(rw [h1]at h;cases h),fun h=>by(rw [h2]at h;cases h)⟩
 have herr:Zz m F.length=0:=hmh.err (fun _=>by omega) (fun _=>by omega);have hw:Wf (F++ [m]):=Lm hFw (fun _=>by omega) (fun _=>by omega);have htr:tr (F++ [m]) F.length=.two n.head (Qp f) (Qp g):=by
  rw [Xb hw (n:=m) (by simp)];unfold Ve;rw [mo,h2,mh,mx,my];rw [show(((Qf f).length:Int) - 1).toNat=(Qf f).length - 1 by omega,Fc hFw hw (List.prefix_append _ _) _ (by omega),hF1];rw [show(((Qf f).length:Int)+(Qf g).length - 1).toNat=(Qf f).length+(Qf g).length - 1 by omega,Fc hFw hw (List.prefix_append _ _) _ (by omega),hF2];rfl
 unfold Rt;have hfin:(Jj (F++ [m]) F.length []).1=Ys (.two n.head (Qp f) (Qp g)):=by
  rw [Cs hw _ _ (by simp),htr];rfl
 simp only [herr,hfin];rfl
theorem Qbm {n:Nd} {f:List Nd}(hf:Qs f≠0):Yp n [f]= []:=by
 unfold Yp;have e0: [f].any (fun o=>Qs o !=0)=true:=by simpa using hf
 rw [e0,cond_true]
theorem Qz1 {n:Nd} {f g:List Nd}(hf:Qs f≠0\/Qs g≠0):Yp n [f,g]= []:=by
 unfold Yp;have e0: [f,g].any (fun o=>Qs o !=0)=true:=by simp;exact hf
 rw [e0,cond_true]
open Go.RowKit
def Nb(g:Nd->Nat)(l:List Nd):Nat:=l.foldl (fun m n=>m|||g n) 0
theorem Qsk(g:Nd->Nat)(l:List Nd)(n:Nd):Nb g (l++ [n])=Nb g l|||g n:=by simp [Nb,List.foldl_append]
theorem Qpe {g:Nd->Nat} :∀(l:List Nd),(∀n∈l,g n < 512)->Nb g l < 512:=by
 have:∀(l:List Nd) (m:Nat),(∀n∈l,g n < 512)->m < 512->l.foldl (fun m n=>m|||g n) m < 512:=by
  intro l
  induction l with
  |nil=>intro m _ h;exact h
  |cons a r ih =>
   intro m hl h;exact ih _ (fun n hn=>hl n (List.mem_cons_of_mem _ hn)) (Nat.or_lt_two_pow (n:=9) h (hl a (List.mem_cons_self ..)))
 exact fun l hl=>this l 0 hl (by omega)
def agU(n:Nd):Nat:=if Zy n.op then 2^n.i.toNat else n.g.toNat
def faU(n:Nd):Nat:=if Zw n.op then 2^n.i.toNat else 0
theorem Qyw {n:Nd}(h:Jm n)(ha:Zy n.op=true):n.g=0:=by
 have hg:Zb n.op=false:=by
  unfold Zy at ha;unfold Zb;simp at ha;rcases ha with((h|h)|h)|h <;>(rw [h];rfl)
 obtain⟨_,h3,_,_,_⟩:=h;unfold Yf at h3;simp [hg]at h3;exact h3.2
theorem Qwn {n:Nd}(h:Jm n)(s:Nat):agS s n=s|||agU n:=by
 unfold agS agU;cases ha:Zy n.op
 ·rw [if_neg (by simp),if_neg (by simp),Nat.or_zero]
 rw [if_pos rfl,if_pos rfl,Qyw h ha];exact Nat.or_zero _
theorem Hj(op:Int):Zw op=true↔op=3:=by unfold Zw;simp
theorem Qwj {n:Nd}(s:Nat):faS s n=s|||faU n:=by
 unfold faS faU;by_cases h:n.op=3
 ·rw [if_pos h,if_pos ((Hj _).2 h)]
 rw [if_neg h,if_neg (fun e=>h ((Hj _).1 e)),Nat.or_zero]
theorem Mb {f g:Nat->Nd->Nat} :∀(l:List Nd) (s:Nat),(∀n∈l,∀s,f s n=g s n)->l.foldl f s=l.foldl g s
 |[],_,_=>rfl
 |a :: r,s,h=>by
  show r.foldl f (f s a)=r.foldl g (g s a);rw [h a (List.mem_cons_self ..) s];exact Mb r _ (fun n hn=>h n (List.mem_cons_of_mem _ hn))
theorem Qbj {l:List Nd}(h:∀n∈l,Jm n):Dr l=Nb agU l:=Mb l 0 (fun n hn s=>Qwn (h n hn) s)
theorem Qnf {l:List Nd} :Rn l=Nb faU l:=Mb l 0 (fun _ _ s=>Qwj s)
theorem Qad {n:Nd}(h:Jm n):agU n < 512:=by
 unfold agU;have h1:=Fo h
 split
 ·rename_i ho;have:=Uc h ho;exact Nat.pow_lt_pow_right (by decide) (show n.i.toNat < 9 by omega)
 omega
theorem Qey {n:Nd}(h:Jm n):faU n < 512:=by
 unfold faU
 split
 ·rename_i ho;have:=Tk h ((Hj _).1 ho);exact Nat.pow_lt_pow_right (by decide) (show n.i.toNat < 9 by omega)
 decide
theorem Qx9(n:Nd)(h:Jm n)(u0 u1 u2 u4 u5:Bool)(g:Int)(w:World):
 Calls Tryz.prog 118 #[.agg #[.int .i64 n.op,.int .i64 n.i,.int .i64 n.e,.int .i64 n.g,.int .i64 n.x,.int .i64 n.y],.agg #[.bool u0,.bool u1,.bool u2,.bool (Zy n.op),.bool u4,.bool u5,.int .i64 g]] w
  fun e w'=>e=.returned (.int .i64 ((agU n:Nat):Int))/\Ext w w':=by
 have hg:=Fo h;cases ha:Zy n.op
 ·have HE:=Qq (show((agU n:Nat):Int)=n.g by unfold agU;rw [if_neg (by rw [ha];simp)];omega);clear h hg;go_enter Tryz.func118,Tryz.ntmps118;go_wp2_with fail;go_ret;exact⟨by rw [HE.out] <;> rfl,(Qz.alloc _).alloc _⟩
 obtain⟨h0,h1⟩:=Uc h ha;obtain⟨k,hk⟩:=Int.eq_ofNat_of_zero_le h0;have hw:=Rp (k:=k) (by omega);have hk8:k < 64:=by omega
 have hmk:min k 64=k:=by omega
 have HE:=Qq (show((agU n:Nat):Int)=wrap64 ((2:Int)^k) by rw [hw];unfold agU;rw [if_pos ha,hk,Int.toNat_natCast]);rw [hk];clear h hg h0 h1 hk hw;go_enter Tryz.func118,Tryz.ntmps118;go_wp2_with fail;go_ret;exact⟨by rw [HE.out] <;> rfl,(Qz.alloc _).alloc _⟩
theorem Qby(n:Nd)(h:Jm n)(u0 u1 u3 u4 u5:Bool)(g:Int)(w:World):
 Calls Tryz.prog 119 #[.agg #[.int .i64 n.op,.int .i64 n.i,.int .i64 n.e,.int .i64 n.g,.int .i64 n.x,.int .i64 n.y],.agg #[.bool u0,.bool u1,.bool (Zw n.op),.bool u3,.bool u4,.bool u5,.int .i64 g]] w
  fun e w'=>e=.returned (.int .i64 ((faU n:Nat):Int))/\Ext w w':=by
 cases ha:Zw n.op
 ·have HE:=Qq (show((faU n:Nat):Int)=0 by unfold faU;rw [if_neg (by rw [ha];simp)];rfl);clear h;go_enter Tryz.func119,Tryz.ntmps119;go_wp2_with fail;go_ret;exact⟨by rw [HE.out] <;> rfl,(Qz.alloc _).alloc _⟩
 obtain⟨h0,h1⟩:=Tk h ((Hj _).1 ha);obtain⟨k,hk⟩:=Int.eq_ofNat_of_zero_le h0;have hw:=Rp (k:=k) (by omega);have hk8:k < 64:=by omega
 have hmk:min k 64=k:=by omega
 have HE:=Qq (show((faU n:Nat):Int)=wrap64 ((2:Int)^k) by rw [hw];unfold faU;rw [if_pos ha,hk,Int.toNat_natCast]);rw [hk];clear h h0 h1 hk hw;go_enter Tryz.func119,Tryz.ntmps119;go_wp2_with fail;go_ret;exact⟨by rw [HE.out] <;> rfl,(Qz.alloc _).alloc _⟩
theorem Qp1(g:Nd->Nat)(l:List Nd)(hg:∀n∈l,g n < 512)(k:Nat):Nb g (l.take k) < 512:=Qpe _ (fun n hn=>hg n (List.mem_of_mem_take hn))
theorem Qz5(fn:Nat)(eg:∀args w,(callFunc fn args).run Tryz.prog w=.ok (.enter fn args) w)(g:Nd->Nat)(v:Value)(l:List Nd)(w:World)(h:Fml w v l)(_hc:Qs l=0)(hg:∀n∈Qf l,g n < 512)
 (hf:∀n∈Qf l,∀W,Calls Tryz.prog fn #[.agg #[.int .i64 n.op,.int .i64 n.i,.int .i64 n.e,.int .i64 n.g,.int .i64 n.x,.int .i64 n.y],.agg #[.bool (Qw n.op),.bool (Qa n.op),.bool (Zw n.op),.bool (Zy n.op),.bool (Zb n.op),.bool (Zl n.op),.int .i64 (Kv n.op)]] W fun e w'=>e=.returned (.int .i64 ((g n:Nat):Int))/\Ext W w'):
 Calls Tryz.prog 65 #[v,.func (Fn.func fn) #[] #[]] w fun e w'=>e=.returned (.int .i64 (Nb g (Qf l):Nat))/\Ext w w':=by
 have H:=Qq h;have HG:=Qq hg;have HF:=Qq hf;clear h hg hf;go_enter Tryz.func65,Tryz.ntmps65;go_wp2_with fail;refine(Vy _ l _ H.out).mono ?_;rintro e w1 ⟨u,rfl,hm⟩;have HX:=Qq hm.2.2;obtain⟨A,c,rfl,hcap,hmax,hread⟩:=hm.fml.1;unfold maxLen at hmax;have HR:=Qq hread;obtain⟨cl,hcl⟩:∃cl,cl=Qf l:=⟨_,rfl⟩;have HCL:=Qq (show Nb g (Qf l)=Nb g cl by rw [hcl]);rw [<-hcl]at HR hcap HG HF;rw [<-hcl];clear hm hread hcl;go_wp2_with fail;go_loopw [5,13] (fun out i wr=>∃k:Nat,k<=cl.length/\i=.int .i64 k/\out=.int .i64 (Nb g (cl.take k):Nat)/\Ext w1 wr) (fun _ i _=>cl.length - (intOf i).toNat)
 case atStart=>exact⟨0,Nat.zero_le _,rfl,rfl,Qz⟩
 case round =>
  obtain⟨k,hk,rfl,rfl,hext⟩:=hrel;by_cases hlt2:k < cl.length
  ·obtain⟨a,ha⟩:∃a,cl[k]?=some a:=⟨_,Qv hlt2⟩;have ham:=List.mem_of_getElem? ha;obtain⟨ad,rfl,hb1,hc1⟩:=HR.out (by intro e;rw [e]at hlt2;simp at hlt2);obtain⟨a0,a1,a2,a3,a4,a5⟩:=(hc1 k a ha).keep fun p hp=>hext.cell (p:=p) (by rw [hp,Qn];exact hb1)
   have hor:=Qz6 (Nb g (cl.take k)) (g a) (by have:=Qp1 g cl HG.out k;omega) (by have:=HG.out a ham;omega);have HS:Hid (Nb g (cl.take (k+1))=(Nb g (cl.take k)|||g a)):=Qq (by rw [Yr ha,Qsk]);have HFA:=Qq (HF.out a ham);obtain⟨ga,hga⟩:∃x,x=g a:=⟨_,rfl⟩;rw [<-hga]at hor HS HFA;generalize Nb g (cl.take k)=m at hor HS;clear ha hc1 ham hga;go_wp2_with fail;refine(Jw _ _ _ _ _ _ _ _ rfl rfl rfl rfl rfl rfl rfl _).mono ?_;rintro e w2 ⟨rfl,hb⟩;have HB:=Qq hb;obtain⟨hcc,_,hz0⟩:=hb.facts;clear hb;have hz:wr.heap.size < w2.heap.size:=by { simp at hz0;omega }
   clear hz0;go_wp2_with fail;refine(HFA.out _).mono ?_;rintro e w3 ⟨rfl,hb3⟩;go_wp2_with fail;go_roundw
   case rel=>exact⟨k+1,by omega,by go_num,by rw [HS.out],(((hext.alloc _).trans HB.out).alloc _).trans hb3⟩
   case measure=>simp [intOf];omega
  obtain rfl:cl.length=k:=by omega
  go_wp2_with fail;go_ret;exact⟨Nw (by rw [HCL.out,List.take_of_length_le (Nat.le_refl _)]),HX.out.trans hext⟩
theorem Qgk(v:Value)(l:List Nd)(w:World)(h:Fml w v l)(hc:Qs l=0):
 Calls Tryz.prog 108 #[v] w fun e w'=>e=.returned (.int .i64 ((Dr (Qf l):Nat):Int))/\Ext w w':=by
 have H:=Qq h;have hh:=(Vz hc).2.2.2;have HU:=Qq (Qz5 118 (fun _ _=>rfl) agU v l w h hc (fun n hn=>Qad (hh n hn)) (fun n hn W=>Qx9 n (hh n hn) _ _ _ _ _ _ W));have HE:=Qq (Qbj hh);rw [HE.out];clear h hh hc;go_enter Tryz.func108,Tryz.ntmps108;go_wp2_with fail;refine HU.out.mono ?_;rintro e w1 ⟨rfl,hx⟩;go_wp2_with fail;go_ret;exact⟨rfl,hx⟩
theorem Qdn(v:Value)(l:List Nd)(w:World)(h:Fml w v l)(hc:Qs l=0):
 Calls Tryz.prog 109 #[v] w fun e w'=>e=.returned (.int .i64 ((Rn (Qf l):Nat):Int))/\Ext w w':=by
 have H:=Qq h;have hh:=(Vz hc).2.2.2;have HU:=Qq (Qz5 119 (fun _ _=>rfl) faU v l w h hc (fun n hn=>Qey (hh n hn)) (fun n hn W=>Qby n (hh n hn) _ _ _ _ _ _ W));rw [Qnf];clear h hh hc;go_enter Tryz.func109,Tryz.ntmps109;go_wp2_with fail;refine HU.out.mono ?_;rintro e w1 ⟨rfl,hx⟩;go_wp2_with fail;go_ret;exact⟨rfl,hx⟩
end Go.Proofs.YtmidgcldljfkcaaGreatDoor
