/- hilbert and boolean as Lean functions of lists: definitions. Plain. -/
import Derived.Test.YtmidgcldljfkcaaGreatDoorM01
import Derived.Test.YtmidgcldljfkcaaGreatDoorM04
import Derived.Test.YtmidgcldljfkcaaGreatDoorM16
import Derived.Test.YtmidgcldljfkcaaGreatDoorM13
import Derived.Test.YtmidgcldljfkcaaGreatDoorM22
namespace Go.Proofs.YtmidgcldljfkcaaGreatDoor
set_option maxRecDepth 100000
set_option maxHeartbeats 128000000
open Go.RowKit
def Pe(op:Int):Bool:=(decide (5<=op)&&decide (op<=8))||op==13
def Ql(f:List Nd):List Nd:=bif decide (4<=(Qt f).op)then Zh f (Qt f).x else []
def Jf(f:List Nd):List Nd:=bif Pe (Qt f).op then Zh f (Qt f).y else []
def Tg(g:Int)(f:List Nd):List Nd:=Yp ⟨11,0,0,g,0,0⟩ [f]
def Qqi:List (List Nd)->List Nd
 |[]=>Db
 |f :: r=>r.foldl Vi (Qf f)
def Qvo(g:Int):List Int:=([0,1,2,3]:List Nat).filterMap fun i=>bif Fr g i then some (i:Int)else none
def Rb(f:List Nd):Bool :=
 (Qt (Ql f)).op==9&&((Qt (Ql (Ql f))).op==7&&Yb f (Ya (Ql f) (Ya (Yy (Qt (Ql f)).i (Ql (Ql (Ql f)))) (Yy (Qt (Ql f)).i (Jf (Ql (Ql f)))))))
def Jr(t:Int->List Nd->List Nd)(f:List Nd):Bool:=(Qt (Ql f)).op==9&&Yb f (Ya (Ql f) (t (Qt (Ql f)).i (Ql (Ql f))))
def toT(_:Int)(x:List Nd):List Nd:=x
def to4(a:Int)(x:List Nd):List Nd:=Yy a (Yy a x)
def toD(a:Int)(x:List Nd):List Nd:=Vt (Yy a (Vt x))
def Rr(f:List Nd):Bool:=(Qt (Ql (Ql f))).op==9&&Yb f (Ya (Vt (Ql (Ql f))) (Yy (Qt (Ql (Ql f))).i (Vt (Ql (Ql f)))))
def Lg(f:List Nd):Bool:=(Qt (Ql f)).op==10&&Yb f (Lo (Ql f) (Vt (Yy (Qt (Ql f)).i (Vt (Ql (Ql f))))))
def De(f:List Nd):Bool:=(Qt (Ql f)).op==11&&Yb f (Lo (Ql f) (Qqi ((Qvo (Qt (Ql f)).g).map fun i=>Yy i (Ql (Ql f)))))
def Ry(f:List Nd):Bool:=(Qt (Ql f)).op==13&&Yb f (Lo (Ql f) (Tg (Qt (Ql f)).g (Ya (Ql (Ql f)) (Vi (Jf (Ql f)) (Ql f)))))
def Gn(f h:List Nd):Bool :=
 (Qt (Jf f)).op==13&&(Yb f (Ya (Ql f) (Jf f))&&Yb h (Ya (Ql f) (Tg (Qt (Jf f)).g (Ya (Ql (Jf f)) (Vi (Jf (Jf f)) (Ql f))))))
def Xv(op:Int):Bool:=op==3||decide (8 < op)
def Jn(c:List Nd):Nat->Nat->List Bool×List Nat->List Bool×List Nat
 |0,_,s=>s
 |k+1,i,s =>
  bif s.1.getD i false then s
  else bif Xv (c.getD i Nd.zero).op then(s.1.set i true,s.2++ [i])
  else bif decide (5<=(c.getD i Nd.zero).op)then Jn c k (c.getD i Nd.zero).y.toNat (Jn c k (c.getD i Nd.zero).x.toNat (s.1.set i true,s.2))
  else bif decide (4<=(c.getD i Nd.zero).op)then Jn c k (c.getD i Nd.zero).x.toNat (s.1.set i true,s.2)
  else(s.1.set i true,s.2)
def Fb(op:Int)(x y:Bool):Bool :=
 bif op==1 then true else bif op==4 then !x else bif op==5 then x&&y else bif op==6 then x||y else bif op==7 then !x||y else bif op==8 then x==y else false
def Um(leaf:Nat->Bool)(v:List Bool)(n:Nd):Bool:=bif Xv n.op then leaf v.length else Fb n.op (v.getD n.x.toNat false) (v.getD n.y.toNat false)
def Xc(leaf:Nat->Bool):List Nd->List Bool->List Bool
 |[],v=>v
 |n :: r,v=>Xc leaf r (v++ [Um leaf v n])
def Qqt(leaf:Nat->Bool)(c:List Nd):Bool:=(Xc leaf c []).getD (c.length - 1) false
def Nf:List Nat->Nat->List Nat->List Nat
 |[],_,a=>a
 |i :: r,k,a=>Nf r (k+1) (a.set i k)
def Gb(c:List Nd):List Nat:=(Jn c c.length (c.length - 1) (List.replicate c.length false,[])).2
def Dh(c:List Nd):List Nat:=Nf (Gb c) 0 (List.replicate c.length 0)
def Bj(c:List Nd):Bool:=bif decide (10 < (Gb c).length)then false else(List.range (2^(Gb c).length)).all fun v=>Qqt (fun i=>v.testBit ((Dh c).getD i 0)) c
structure HLn where
 f:List Nd
 rule:Int
 a:Int
 b:Int
 agent:Int
def HLn.zero:HLn:=⟨[],0,0,0,0⟩
def Vv(f:List Nd):Int:=bif Qs f !=0 then Qs f else bif Yd (Jh f) 11 then 0 else 10
def Vo(lg rule:Int):Bool :=
 bif rule==3 then decide (lg∈([2,4,6]:List Int))else bif rule==4 then decide (lg∈([3,4,5,6]:List Int))else bif rule==5 then decide (lg∈([5,6]:List Int))else bif rule==6 then decide (lg∈([1,5]:List Int))else true
def Vn(r:Int)(f:List Nd):Bool :=
 bif r==1 then Bj f else bif r==2 then Rb f else bif r==3 then Jr toT f else bif r==4 then Jr to4 f else bif r==5 then Rr f
 else bif r==6 then Jr toD f else bif r==7 then Lg f else bif r==8 then De f else Ry f
def Vf(lg:Int)(c:List Nd):Nat->Int->Int
 |0,_=>0
 |m+1,r=>bif Vo lg r&&Vn r c then r else Vf lg c m (r+1)
def Rv(lg:Int)(f:List Nd):Int×Int :=
 bif decide (lg < 0)||decide (6 < lg)then(0,1)else bif Vv f !=0 then(0,Vv f)else(Vf lg (Qf f) 9 1,0)
def Bi(rule:Int):Int:=bif rule==10 then 2 else bif rule==11||rule==12 then 1 else 0
def Yg(k p n i:Int):Bool:=(decide (p<=k)&&n !=0)||(decide (k < p)&&(decide (n < 0)||decide (i<=n)))
def Jo(x:HLn)(i:Int):Int :=
 bif Yg 0 (Bi x.rule) x.a i then 3 else bif Yg 1 (Bi x.rule) x.b i then 3
 else bif x.rule !=11 then(bif x.agent !=0 then 3 else 0)else bif decide (x.agent < 0)||decide (4<=x.agent)then 2 else 0
def lnH(ls:List HLn)(k:Int):HLn:=ls.getD k.toNat HLn.zero
def Xk(ls:List HLn)(x:HLn):Bool :=
 bif x.rule==10 then Yb (lnH ls x.b).f (Ya (lnH ls x.a).f (Qf x.f))else bif x.rule==11 then Yb (Qf x.f) (Yy x.agent (lnH ls x.a).f)
 else bif x.rule==12 then Gn (Qf x.f) (lnH ls x.a).f else Vn x.rule (Qf x.f)
def Xw(lg:Int)(ls:List HLn)(i:Nat):Int :=
 bif Vv (lnH ls i).f !=0 then Vv (lnH ls i).f else bif decide ((lnH ls i).rule < 1)||decide (12 < (lnH ls i).rule)then 1
 else bif Jo (lnH ls i) i !=0 then Jo (lnH ls i) i else bif Vo lg (lnH ls i).rule then(bif Xk ls (lnH ls i)then 0 else 13)else 12
def Lj(lg:Int)(ls:List HLn):Nat->Nat->Int
 |0,_=>0
 |m+1,i=>bif Xw lg ls i !=0 then Xw lg ls i else Lj lg ls m (i+1)
def Gy(lg:Int)(ls:List HLn):Int :=
 bif decide (lg < 0)||decide (6 < lg)then 1 else bif decide (ls.length=0)then 3 else bif decide (400 < ls.length)then 8 else Lj lg ls ls.length 0
theorem Lq {P:Program} {fn:Func} {t a b:Tmp} {ty:TypeId}(h:fn.results=#[.cell t ty,.tmp a,.tmp b])(tmps:Array Value)(w:World) {g o:Nat}(ht:tmps.getD t undef=.pointer (some ⟨g,o,none⟩)) {cs:List Value} {d:TypeDesc}(hc:w.rangeAt g o cs)
 (hu:P.underlying ty=some d)(hd:d.isRow=true)(hi:(P.info? ty).map (·.size)=some cs.length) {va vb:Value}(ha:tmps.getD a undef=va)(hb:tmps.getD b undef=vb):(results fn tmps).run P w=.ok (.tuple #[.agg cs.toArray,va,vb]) w:=by
 have ht':tmps[t]?.getD undef=.pointer (some ⟨g,o,none⟩):=by rw [<-Array.getD_eq_getD_getElem?];exact ht
 have ha':tmps[a]?.getD undef=va:=by rw [<-Array.getD_eq_getD_getElem?];exact ha
 have hb':tmps[b]?.getD undef=vb:=by rw [<-Array.getD_eq_getD_getElem?];exact hb
 simp [results,h,ht',ha',hb',asAddr,run_loadVar_mid w g o ty cs d hc hu hd hi]
theorem Qzo {w:World} {b:Nat} {n:Nd} {t:TypeId}(h:w.heap[b]?=some (.cells n.cells.toArray t (0,0))):w.rangeAt b 0 n.cells:=fun j v hj=>by
 have h2:n.cells.toArray[j]?=some v:=by simpa using hj
 rw [Nat.zero_add];simp [World.cell?,h,h2]
def Uy(lg:Int):Bool:= !(decide (lg < 0)||decide (6 < lg))
theorem Tw(lg:Int)(w:World):Calls Tryz.prog 33 #[.int .i64 lg] w fun e w'=>e=.returned (.bool (Uy lg))/\Ext w w':=by
 by_cases h0:0<=lg
 ·by_cases h6:lg<=6
  ·have HE:=Qq (show Uy lg=true by unfold Uy;rw [decide_eq_false (by omega),decide_eq_false (by omega)];rfl);go_enter Tryz.func33,Tryz.ntmps33;go_wp2_with fail;go_ret;exact⟨by rw [HE.out] <;> rfl,Qz⟩
  have HE:=Qq (show Uy lg=false by unfold Uy;rw [decide_eq_true (show 6 < lg by omega),Bool.or_true];rfl);go_enter Tryz.func33,Tryz.ntmps33;go_wp2_with fail;go_ret;exact⟨by rw [HE.out] <;> rfl,Qz⟩
 have HE:=Qq (show Uy lg=false by unfold Uy;rw [decide_eq_true (show lg < 0 by omega)];rfl);go_enter Tryz.func33,Tryz.ntmps33;go_wp2_with fail;go_ret;exact⟨by rw [HE.out] <;> rfl,Qz⟩
theorem Vp(r:Int)(w:World):Calls Tryz.prog 96 #[.int .i64 r] w fun e w'=>e=.returned (.int .i64 (Bi r))/\Ext w w':=by
 by_cases h0:r=10
 ·subst h0;go_enter Tryz.func96,Tryz.ntmps96;go_wp2_with fail;go_ret;exact⟨rfl,Qz⟩
 by_cases h1:r=11
 ·subst h1;go_enter Tryz.func96,Tryz.ntmps96;go_wp2_with fail;go_ret;exact⟨rfl,Qz⟩
 by_cases h2:r=12
 ·subst h2;go_enter Tryz.func96,Tryz.ntmps96;go_wp2_with fail;go_ret;exact⟨rfl,Qz⟩
 have b0:(r==10)=false:=by simpa using h0
 have b1:(r==11)=false:=by simpa using h1
 have b2:(r==12)=false:=by simpa using h2
 have HE:=Qq (show Bi r=0 by unfold Bi;rw [b0,b1,b2];rfl);clear h0 h1 h2;go_enter Tryz.func96,Tryz.ntmps96;go_wp2_with fail;go_ret;exact⟨by rw [HE.out] <;> rfl,Qz⟩
def Xo(l:List Nat):Nat:=l.foldl (fun s x=>s|||2^x) 0
theorem Qf4 {l:List Nat} {k x:Nat}(h:l[k]?=some x):Xo (l.take (k+1))=Xo (l.take k)|||2^x:=by
 unfold Xo;rw [Yr h,List.foldl_append];rfl
theorem My {l:List Nat}(h:∀x∈l,x < 64):∀k,Xo (l.take k) < 2^64:=by
 intro k;have key:∀(m:List Nat) (s:Nat),s < 2^64->(∀x∈m,x < 64)->m.foldl (fun s x=>s|||2^x) s < 2^64:=by
  intro m
  induction m with
  |nil=>exact fun s hs _=>hs
  |cons a r ih=>exact fun s hs hm=>ih _ (Nat.or_lt_two_pow hs (Nat.pow_lt_pow_right (by decide) (hm a (List.mem_cons_self ..)))) (fun x hx=>hm x (List.mem_cons_of_mem _ hx))
 exact key _ _ (by decide) (fun x hx=>h x (List.mem_of_mem_take hx))
theorem Sh(l:List Nat)(hl:∀x∈l,x < 64) {w:World} {v:Value}(h:Zi w v (l.map fun(x:Nat)=>(x:Int))):
 Calls Tryz.prog 64 #[v] w fun e w'=>e=.returned (.int .u64 (Xo l:Nat))/\Ext w w':=by
 obtain⟨A,c,rfl,hcap,hmax,hr⟩:=h;rw [List.length_map]at hcap⊢;unfold maxLen at hmax;have HR:=Qq hr;have HL:=Qq hl;clear hr hl;go_enter Tryz.func64,Tryz.ntmps64;go_wp2_with fail;go_loopw [2,4,7] (fun vs _ vi wr=>∃k:Nat,vi=.int .i64 (k:Int)/\k<=l.length/\vs=.int .u64 (Xo (l.take k):Nat)/\Ext w wr) (fun _ _ v _=>l.length - (intOf v).toNat)
 case atStart=>exact⟨0,rfl,Nat.zero_le _,rfl,Qz⟩
 case round =>
  obtain⟨k,rfl,hk,rfl,hext⟩:=hrel;have HX:=Qq hext;clear hext;by_cases hlt2:k < l.length
  ·have hk1:(k:Int) < (l.length:Int):=by omega
   obtain⟨ad,rfl,hdl,hda⟩:=HR.out (by intro e;rw [List.map_eq_nil_iff.1 e]at hlt2;simp at hlt2);obtain⟨x,hx⟩:∃x,l[k]?=some x:=⟨_,Qv hlt2⟩;have hx64:=HL.out x (List.mem_of_getElem? hx);have hu:=(HX.out.cell (p:=ad.add k) (Qj hdl)).trans (hda k (x:Int) (by rw [List.getElem?_map,hx];rfl));have hlo:=My HL.out k;have hx1:(x:Int) < 64:=by omega
   have hp:(2:Nat)^x < 2^64:=Nat.pow_lt_pow_right (by decide) hx64;have HS:=Qq (Qf4 hx);obtain⟨m,hm⟩:∃m,m=Xo (l.take k):=⟨_,rfl⟩;rw [<-hm]at hlo HS⊢;clear hda hx hm;have HV:=Qq (show bits BinOp.or IntKind.u64 (m:Int) (IntKind.u64.wrap (2^x))=((Xo (l.take (k+1)):Nat):Int) by rw [Qql hx64,Sm hlo hp,HS.out]);go_wp2_with fail;go_roundw
   case rel=>exact⟨k+1,by go_num,by omega,by rw [HV.out],HX.out⟩
   case measure=>simp [intOf];omega
  obtain rfl:l.length=k:=by omega
  have HT:=Qq (show l.take l.length=l from List.take_of_length_le (Nat.le_refl _));go_wp2_with fail;go_ret;exact⟨by rw [HT.out] <;> rfl,HX.out⟩
theorem Mg {w:World}(l:List Int)(h:l.length<=100):Zi (w.alloc (.cells (l.map (Value.int .i64)).toArray 3)) (.slice (some ⟨w.heap.size,0,none⟩) l.length l.length) l :=
 ⟨_,_,rfl,Nat.le_refl _,by unfold maxLen;omega,fun _=>⟨_,rfl,by simp,fun k z hk=>by
  exact Bm w (l.map (Value.int .i64)).toArray 3 k (.int .i64 z) (by rw [List.getElem?_map,hk];rfl)⟩⟩
theorem Wo:∀lg:Nat,lg < 7->∀l∈([[2,4,6],[3,4,5,6],[5,6],[1,5]]:List (List Nat)),(Xo l).testBit lg=decide ((lg:Int)∈l.map (fun(x:Nat)=>(x:Int))):=by decide
theorem Qlz:∀lg:Nat,lg < 7->(18446744073709551615:Nat).testBit lg=true:=by decide
theorem Gd(lg r:Int)(h0:0<=lg)(h6:lg<=6)(w:World):Calls Tryz.prog 37 #[.int .i64 lg,.int .i64 r] w fun e w'=>e=.returned (.bool (Vo lg r))/\Ext w w':=by
 obtain⟨g,rfl⟩:=Int.eq_ofNat_of_zero_le h0;have hg7:g < 7:=by omega
 by_cases h:r=3\/r=4\/r=5\/r=6
 ·rcases h with rfl|rfl|rfl|rfl
  ·have hb:=Fq (Xo [2,4,6]) g (My (l:= [2,4,6]) (by decide) 9);have HE:=Qq (show(Xo [2,4,6]).testBit g=Vo (g:Int) 3 from Wo g hg7 [2,4,6] (by decide));rw [HE.out]at hb;go_enter Tryz.func37,Tryz.ntmps37;go_wp2_with fail;refine(Sh [2,4,6] (by decide) (Mg [2,4,6] (by decide))).mono ?_;rintro e w1 ⟨rfl,hx⟩;have HX:=Qq (((Ext.refl w).alloc _).trans hx);obtain⟨m,hm⟩:∃m,m=Xo [2,4,6]:=⟨_,rfl⟩;rw [<-hm]at hb⊢;clear hx hm;go_wp2_with fail;go_ret;exact⟨Qr rfl,HX.out⟩
  ·have hb:=Fq (Xo [3,4,5,6]) g (My (l:= [3,4,5,6]) (by decide) 9);have HE:=Qq (show(Xo [3,4,5,6]).testBit g=Vo (g:Int) 4 from Wo g hg7 [3,4,5,6] (by decide));rw [HE.out]at hb;go_enter Tryz.func37,Tryz.ntmps37;go_wp2_with fail;refine(Sh [3,4,5,6] (by decide) (Mg [3,4,5,6] (by decide))).mono ?_;rintro e w1 ⟨rfl,hx⟩;have HX:=Qq (((Ext.refl w).alloc _).trans hx);obtain⟨m,hm⟩:∃m,m=Xo [3,4,5,6]:=⟨_,rfl⟩;rw [<-hm]at hb⊢;clear hx hm;go_wp2_with fail;go_ret;exact⟨Qr rfl,HX.out⟩
  ·have hb:=Fq (Xo [5,6]) g (My (l:= [5,6]) (by decide) 9);have HE:=Qq (show(Xo [5,6]).testBit g=Vo (g:Int) 5 from Wo g hg7 [5,6] (by decide));rw [HE.out]at hb;go_enter Tryz.func37,Tryz.ntmps37;go_wp2_with fail;refine(Sh [5,6] (by decide) (Mg [5,6] (by decide))).mono ?_;rintro e w1 ⟨rfl,hx⟩;have HX:=Qq (((Ext.refl w).alloc _).trans hx);obtain⟨m,hm⟩:∃m,m=Xo [5,6]:=⟨_,rfl⟩;rw [<-hm]at hb⊢;clear hx hm;go_wp2_with fail;go_ret;exact⟨Qr rfl,HX.out⟩
  have hb:=Fq (Xo [1,5]) g (My (l:= [1,5]) (by decide) 9);have HE:=Qq (show(Xo [1,5]).testBit g=Vo (g:Int) 6 from Wo g hg7 [1,5] (by decide));rw [HE.out]at hb;go_enter Tryz.func37,Tryz.ntmps37;go_wp2_with fail;refine(Sh [1,5] (by decide) (Mg [1,5] (by decide))).mono ?_;rintro e w1 ⟨rfl,hx⟩;have HX:=Qq (((Ext.refl w).alloc _).trans hx);obtain⟨m,hm⟩:∃m,m=Xo [1,5]:=⟨_,rfl⟩;rw [<-hm]at hb⊢;clear hx hm;go_wp2_with fail;go_ret;exact⟨Qr rfl,HX.out⟩
 have b3:(r==3)=false:=by simp;omega
 have b4:(r==4)=false:=by simp;omega
 have b5:(r==5)=false:=by simp;omega
 have b6:(r==6)=false:=by simp;omega
 have HE:=Qq (show Vo (g:Int) r=true by unfold Vo;rw [b3,b4,b5,b6];rfl);have hb:(bits .and .u64 ((18446744073709551615:Int) / 2^g) 1==1)=true:=by
  have h1:=Fq 18446744073709551615 g (by omega);rw [Qlz g hg7]at h1;exact h1
 clear h;go_enter Tryz.func37,Tryz.ntmps37;go_wp2_with fail;go_ret;exact⟨by rw [HE.out] <;> rfl,Qz⟩
theorem Qlg:(List.range 512).all (fun m=>(bits .andNot .i64 (m:Int) 11 !=0)== !Yd m 11)=true:=by kernel_rfl
theorem Qn8(f:List Nd):(bits .andNot .i64 ((Jh f:Nat):Int) 11 !=0)= !Yd (Jh f) 11:=by
 have:=List.all_eq_true.1 Qlg (Jh f) (List.mem_range.2 (Si _));exact eq_of_beq this
theorem Qzm {w:World} {v:Value} {f:List Nd}(h:Fml w v f):Calls Tryz.prog 36 #[v] w fun e w'=>e=.returned (.int .i64 (Vv f))/\Ext w w':=by
 have H:=Qq h;obtain⟨A,c,rfl,_⟩:=Qg h;obtain⟨cv,hcv⟩:∃z,z=Qs f:=⟨_,rfl⟩;have HC:=Qq hcv;have HAN:=Qq (Qn8 f);obtain⟨mf,hmf⟩:∃z:Nat,z=Jh f:=⟨_,rfl⟩;rw [<-hmf]at HAN;have HF:=Qq hmf;clear h hcv hmf;go_enter Tryz.func36,Tryz.ntmps36;go_wp2_with fail;refine(Je _ f _ H.out.1).mono ?_;rintro e w1 ⟨rfl,hx⟩;rw [<-HC.out];have S1:=Qq hx;clear hx;by_cases h0:cv=0
 ·subst h0;go_wp2_with fail;refine(Tf _ f _ (H.out.ext S1.out)).mono ?_;rintro e w2 ⟨rfl,hx⟩;rw [<-HF.out];have S2:=Qq (S1.out.trans hx);clear hx;cases hs:Yd mf 11
  ·have han:=HAN.out;rw [hs]at han;have HE:=Qq (show Vv f=10 by unfold Vv;rw [<-HC.out,<-HF.out,hs];rfl);clear hs;go_wp2_with fail;go_ret;exact⟨by rw [HE.out] <;> rfl,S2.out⟩
  have han:=HAN.out;rw [hs]at han;have HE:=Qq (show Vv f=0 by unfold Vv;rw [<-HC.out,<-HF.out,hs];rfl);clear hs;go_wp2_with fail;go_ret;exact⟨by rw [HE.out] <;> rfl,S2.out⟩
 have hn:(cv !=0)=true:=by simpa using h0
 have HE:=Qq (show Vv f=cv by unfold Vv;rw [<-HC.out,hn];rfl);clear h0;go_wp2_with fail;go_ret;exact⟨by rw [HE.out] <;> rfl,S1.out⟩
theorem Dd {w:World} {b j:Nat} {cs:Array Value} {t:TypeId} {fr:Nat×Nat} {v:Value}(h:w.heap[b]?=some (.cells cs t fr))(hv:cs[j]?=some v):w.setCell ⟨b,j,none⟩ v=w:=by
 have e:(w.setCell ⟨b,j,none⟩ v).heap=w.heap:=by
  refine Array.ext_getElem? fun i=> ?_
  simp only [World.setCell,Array.getElem?_modify];by_cases hb:b=i
  ·subst hb;rw [h];simp only [if_true,Option.map_some,Option.some.injEq,Obj.cells.injEq,and_true,Option.isSome_none];show cs.setIfInBounds j v=cs;refine Array.ext_getElem? fun k=> ?_
   rw [Array.getElem?_setIfInBounds];by_cases hk:j=k
   ·subst hk;rw [if_pos rfl]
    split
    ·exact hv.symm
    rename_i hn;rw [Array.getElem?_eq_none (by omega)]
   rw [if_neg hk]
  rw [if_neg hb]
 unfold World.setCell at e⊢;simp only at e⊢;rw [e]
theorem Iz {w:World} {b:Nat} {a0 a1 a2 a3 a4 a5:Value} {t:TypeId}(h:w.heap[b]?=some (.cells #[a0,a1,a2,a3,a4,a5] t (0,0))):
 ((((((w.setCell ⟨b,0,none⟩ a0).setCell ⟨b,1,none⟩ a1).setCell ⟨b,2,none⟩ a2).setCell ⟨b,3,none⟩ a3).setCell ⟨b,4,none⟩ a4).setCell ⟨b,5,none⟩ a5)=w:=by
 rw [Dd h rfl,Dd h rfl,Dd h rfl,Dd h rfl,Dd h rfl,Dd h rfl]
theorem Rq {w:World} {v:Value} {f:List Nd}(h:Fml w v f):(Qt f).ok:=by
 by_cases h0:0 < f.length
 ·exact h.2 _ (List.mem_of_getElem? (Xi h0))
 obtain rfl:f= []:=List.length_eq_zero_iff.1 (by omega);exact⟨⟨by decide,by decide⟩,⟨by decide,by decide⟩,⟨by decide,by decide⟩,⟨by decide,by decide⟩,⟨by decide,by decide⟩,⟨by decide,by decide⟩⟩
theorem Pa(w:World):Fml w (.slice none 0 0) []:=(Ye.none_ w).fml
theorem Qxl(op:Int):(Pe op=true/\(op=5\/op=6\/op=7\/op=8\/op=13))\/(Pe op=false/\(op==5)=false/\(op==6)=false/\(op==7)=false/\(op==8)=false/\(op==13)=false):=by
 unfold Pe;by_cases h:op=5\/op=6\/op=7\/op=8\/op=13
 ·refine .inl ⟨?_,h⟩;rcases h with rfl|rfl|rfl|rfl|rfl <;> rfl
 refine .inr ⟨?_,by simp;omega,by simp;omega,by simp;omega,by simp;omega,by simp;omega⟩;rw [show(op==13)=false by simp;omega,Bool.or_false,Bool.and_eq_false_iff];by_cases h5:5<=op
 ·exact .inr (decide_eq_false (by omega))
 exact .inl (decide_eq_false h5)
theorem Vl {w:World} {v:Value} {f:List Nd}(h:Fml w v f):
 Calls Tryz.prog 113 #[v] w fun e w'=>∃ua ub,e=.returned (.tuple #[(Qt f).val,ua,ub])/\Ext w w'/\Fml w' ua (Ql f)/\Fml w' ub (Jf f):=by
 have H:=Qq h;obtain⟨A,c,rfl,hcap,hmax,hr⟩:=Qg h;unfold maxLen at hmax;have HR:=Qq hr;clear h hr;by_cases h0:f.length=0
 ·obtain rfl:f= []:=List.length_eq_zero_iff.1 h0;have HZ:=Qq (heap_alloc_new w (.cells Nd.zero.cells.toArray 64));go_enter Tryz.func113,Tryz.ntmps113;go_wp2_with fail;refine bodyPost_ret (Lq Tryz.results113 _ _ rfl (Qzo HZ.out) Tryz.underlying64 rfl (by kernel_rfl) rfl rfl) rfl ?_;exact⟨_,_,rfl,Qz.alloc _,Pa _,Pa _⟩
 have h1:((f.length:Int)==0)=false:=by rw [beq_eq_false_iff_ne];omega
 obtain⟨ad,rfl,hb,hc⟩:=HR.out (by intro e;rw [e]at h0;exact h0 rfl);obtain⟨n,hn⟩:∃n,n=Qt f:=⟨_,rfl⟩;have HN:=Qq hn;obtain⟨a0,a1,a2,a3,a4,a5⟩:=hc (f.length - 1) n (by rw [hn];exact Xi (by omega));have hbl:(ad.add ((f.length - 1)*6)).block < w.heap.size:=by rw [Qn];exact hb
 have e1:((f.length:Int) - 1).toNat=f.length - 1:=by omega
 have e2:(0:Int)<=(f.length:Int) - 1:=by omega
 have e3:(f.length:Int) - 1 < (f.length:Int):=by omega
 have B0:=Qq (heap_alloc_new w (.cells n.cells.toArray 64));have X0:=Qq ((Ext.refl w).alloc (.cells n.cells.toArray 64));have HA:Hid (∀b,decide (4<=n.op)=b->Ql f=bif b then Zh f n.x else []):=Qq (fun b hb=>by unfold Ql;rw [<-hn,hb]);have HB:Hid (∀b,Pe n.op=b->Jf f=bif b then Zh f n.y else []):=Qq (fun b hb=>by unfold Jf;rw [<-hn,hb]);rw [<-hn];clear hn hc;obtain⟨o,i,e,g,x,y⟩:=n;unfold Nd.val;simp only at a0 a1 a2 a3 a4 a5;by_cases h4:4<=o
 ·have HA1:=Qq (HA.out true (decide_eq_true h4));rcases Qxl o with⟨hB,ho⟩|⟨hB,b5,b6,b7,b8,b13⟩
  ·have HB1:=Qq (HB.out true hB);clear hB
   rcases ho with rfl|rfl|rfl|rfl|rfl <;>
    (go_enter Tryz.func113,Tryz.ntmps113
     go_wp2_with fail;refine(Ut _ f x _ (H.out.ext (X0.out))).mono ?_;rintro e' w1 ⟨u1,rfl,hm⟩;have X1:=Qq (X0.out.trans hm.ext);have B1:=Qq ((hm.ext.block (Qm B0.out)).trans B0.out);have F1:=Qq hm.fml;obtain⟨A1,c1,rfl,_⟩:=Qg hm.fml;clear hm;obtain⟨⟨z0,z1,z2,z3,z4,z5⟩,_,zlt⟩:=Zg B1.out;go_wp2_with fail;clear z0 z1 z2 z3 z4 z5 zlt;refine(Ut _ f y _ (H.out.ext (X1.out))).mono ?_;rintro e' w2 ⟨u2,rfl,hm⟩;have X2:=Qq (X1.out.trans hm.ext);have B2:=Qq ((hm.ext.block (Qm B1.out)).trans B1.out);have F2:=Qq hm.fml;have F12:=Qq hm.ext;obtain⟨A2,c2,rfl,_⟩:=Qg hm.fml;clear hm
     obtain⟨⟨z0,z1,z2,z3,z4,z5⟩,_,zlt⟩:=Zg B2.out;go_wp2_with fail;clear z0 z1 z2 z3 z4 z5 zlt;rw [Iz B2.out];refine bodyPost_ret (Lq Tryz.results113 _ _ rfl (Qzo (n:=⟨_,i,e,g,x,y⟩) B2.out) Tryz.underlying64 rfl (by kernel_rfl) rfl rfl) rfl ?_;exact⟨_,_,rfl,X2.out,by rw [HA1.out];exact F1.out.ext F12.out,by rw [HB1.out];exact F2.out⟩)
  have HB1:=Qq (HB.out false hB);clear hB;go_enter Tryz.func113,Tryz.ntmps113;go_wp2_with fail;refine(Ut _ f x _ (H.out.ext (X0.out))).mono ?_;rintro e' w1 ⟨u1,rfl,hm⟩;have X1:=Qq (X0.out.trans hm.ext);have B1:=Qq ((hm.ext.block (Qm B0.out)).trans B0.out);have F1:=Qq hm.fml;obtain⟨A1,c1,rfl,_⟩:=Qg hm.fml;clear hm;obtain⟨⟨z0,z1,z2,z3,z4,z5⟩,_,zlt⟩:=Zg B1.out;go_wp2_with fail;rw [Iz B1.out];refine bodyPost_ret (Lq Tryz.results113 _ _ rfl (Qzo (n:=⟨_,i,e,g,x,y⟩) B1.out) Tryz.underlying64 rfl (by kernel_rfl) rfl rfl) rfl ?_;exact⟨_,_,rfl,X1.out,by rw [HA1.out];exact F1.out,by rw [HB1.out];exact Pa _⟩
 have HA1:=Qq (HA.out false (decide_eq_false h4));rcases Qxl o with⟨_,ho⟩|⟨hB,b5,b6,b7,b8,b13⟩
 ·omega
 have HB1:=Qq (HB.out false hB);clear hB;obtain⟨⟨z0,z1,z2,z3,z4,z5⟩,_,zlt⟩:=Zg B0.out;go_enter Tryz.func113,Tryz.ntmps113;go_wp2_with fail;refine bodyPost_ret (Lq Tryz.results113 _ _ rfl (Qzo (n:=⟨_,i,e,g,x,y⟩) B0.out) Tryz.underlying64 rfl (by kernel_rfl) rfl rfl) rfl ?_;exact⟨_,_,rfl,X0.out,by rw [HA1.out];exact Pa _,by rw [HB1.out];exact Pa _⟩
theorem Lk(op:Int)(w:World):Calls Tryz.prog 173 #[.int .i64 op] w fun e w'=>e=.returned (.bool (decide (op<=8)))/\Ext w w':=by
 go_enter Tryz.func173,Tryz.ntmps173;go_wp2_with fail;go_ret;exact⟨rfl,Qz⟩
theorem Qs1(op:Int)(x y:Bool)(w:World):Calls Tryz.prog 174 #[.int .i64 op,.bool x,.bool y] w fun e w'=>e=.returned (.bool (Fb op x y))/\Ext w w':=by
 by_cases h:op=1\/op=4\/op=5\/op=6\/op=7\/op=8
 ·rcases h with rfl|rfl|rfl|rfl|rfl|rfl <;> cases x <;> cases y <;>
   (go_enter Tryz.func174,Tryz.ntmps174
    go_wp2_with fail;go_ret;exact⟨rfl,Qz⟩)
 have b1:(op==1)=false:=by simp;omega
 have b4:(op==4)=false:=by simp;omega
 have b5:(op==5)=false:=by simp;omega
 have b6:(op==6)=false:=by simp;omega
 have b7:(op==7)=false:=by simp;omega
 have b8:(op==8)=false:=by simp;omega
 have HE:=Qq (show Fb op x y=false by unfold Fb;rw [b1,b4,b5,b6,b7,b8];rfl);clear h;go_enter Tryz.func174,Tryz.ntmps174;go_wp2_with fail;go_ret;exact⟨by rw [HE.out] <;> rfl,Qz⟩
theorem Qle {op:Int}(h:4<=op)(h8:op<=8):Qw op=true:=by
 unfold Qw;rw [decide_eq_true h,decide_eq_true (show op<=21 by omega)];rfl
theorem Qs7 {op:Int}(h:5<=op)(h8:op<=8):Qa op=true:=by
 unfold Qa;rw [decide_eq_true h,decide_eq_true h8];rfl
def Ih(l:List Bool):Nat:=(l.filter id).length
theorem Qmo(l:List Bool):Ih l<=l.length:=List.length_filter_le _ _
theorem Qxp:∀(l:List Bool) (i:Nat),i < l.length->l.getD i false=false->Ih (l.set i true)=Ih l+1
 |[],i,h,_=>absurd h (Nat.not_lt_zero _)
 |a :: r,0,_,h=>by
  have:a=false:=h;subst this;rfl
 |a :: r,i+1,h,h2=>by
  have ih:=Qxp r i (by simpa using h) (by simpa using h2);unfold Ih at ih⊢;rw [List.set_cons_succ];cases a
  ·exact ih
  show((r.set i true).filter id).length+1=(r.filter id).length+1+1;omega
structure LvS (w w':World) (g:Nat) (vo vo':Value):Prop where
 size:w.heap.size<=w'.heap.size
 block:∀k,k < w.heap.size->k≠g->vo.ownBlock≠some k->w'.heap[k]?=w.heap[k]?
 row:∀h,vo'.ownBlock=some h->vo.ownBlock=some h\/w.heap.size<=h
theorem LvS.trans {a b c:World} {g:Nat} {va vb vc:Value}(h:LvS a b g va vb)(k:LvS b c g vb vc):LvS a c g va vc :=
 ⟨Qx h.size k.size,fun j hj hg hv=>(k.block j (Qy hj h.size) hg (fun e=>by
  rcases h.row j e with e2|e2
  ·exact hv e2
  ·omega)).trans (h.block j hj hg hv),fun j hj=>by
  rcases k.row j hj with e|e
  ·exact h.row j e
  exact .inr (Qx h.size e)⟩
theorem LvS.refl(w:World)(g:Nat)(v:Value):LvS w w g v v:=⟨Nat.le_refl _,fun _ _ _ _=>rfl,fun _ h=> .inl h⟩
theorem LvS.ext {a b c:World} {g:Nat} {va vb:Value}(h:LvS a b g va vb)(k:Ext b c):LvS a c g va vb :=
 h.trans ⟨k.size,fun _ hj _ _=>k.block hj,fun _ h=> .inl h⟩
structure LvR (w0 w:World) (g:Nat) (vo:Value) (s:List Bool×List Nat):Prop where
 ext:Ext w0 w
 seen:Xg w0.heap.size w g s.1
 out:w.ownsRow w0.heap.size 3 1 vo s.2.length (s.2.map fun(i:Nat)=>Value.int .i64 (i:Int))
 ne:vo.ownBlock≠some g
theorem LvR.ext_ {w0 w w':World} {g:Nat} {vo:Value} {s:List Bool×List Nat}(h:LvR w0 w g vo s)(he:Ext w w'):LvR w0 w' g vo s :=
 ⟨h.ext.trans he,h.seen.ext he,Jt h.out he,h.ne⟩
theorem LvR.mark {w0 w:World} {g:Nat} {vo:Value} {s:List Bool×List Nat}(h:LvR w0 w g vo s)(i:Nat):LvR w0 (w.setCell ⟨g,i,none⟩ (.bool true)) g vo (s.1.set i true,s.2)/\LvS w (w.setCell ⟨g,i,none⟩ (.bool true)) g vo vo :=
 ⟨⟨h.ext.setCell h.seen.lt.1 _,(h.seen.set i true).1,ownsRow_setCell_other h.out h.ne _,h.ne⟩,⟨by simp [World.setCell],fun k _ hk _=>Below.heap_setCell _ _ _ _ hk,fun _ h=> .inl h⟩⟩
theorem LvR.push {w0 w W w4:World} {g:Nat} {vo v':Value} {s:List Bool×List Nat} {i:Nat}(h:LvR w0 w g vo s)(he:Ext w W)(hrow:w4.ownsRow w0.heap.size 3 1 v' (s.2.length+1) ((s.2.map fun(i:Nat)=>Value.int .i64 (i:Int))++ [.int .i64 (i:Int)]))
 (hg:W.grownBy w4 vo.ownBlock)(hat:v'.ownBlock=vo.ownBlock\/v'.ownBlock=some W.heap.size):LvR w0 w4 g v' (s.1,s.2++ [i])/\LvS w w4 g vo v':=by
 have hlt:=(h.seen.ext he).lt;have hs:s.1.length=s.1.length:=rfl;refine⟨⟨(h.ext.trans he).grown hg (fun k hk=>(h.out.lt k hk).1),?_,?_,fun e=> ?_⟩,⟨Qx he.size hg.size,fun k hk hkg hv=>(hg.block k (Qy hk he.size) (fun e=>hv e.symm)).trans (he.block hk),fun k hk=> ?_⟩⟩
 ·exact World.ownsRow.kept (h.seen.ext he) hg (.inr fun e=>h.ne e.symm)
 ·have e:(s.2++ [i]).length=s.2.length+1:=by simp
  show w4.ownsRow w0.heap.size 3 1 v' (s.2++ [i]).length _;rw [e,List.map_append];exact hrow
 ·rcases hat with e1|e1
  ·exact h.ne (e1.symm.trans e)
  rw [e1]at e;injection e with e;omega
 rcases hat with e1|e1
 ·exact .inl (e1.symm.trans hk)
 rw [e1]at hk;injection hk with hk;exact .inr (by rw [<-hk];exact he.size)
theorem Qm3:(Tryz.prog.info? 3).map (fun i=>(i.zero,i.size,i.bytes))=some (some (.int .i64 0),1,8):=by kernel_rfl
theorem Qjw {w:World} {b:Nat} {n:Nd} {t:TypeId}(h:w.heap[b]?=some (.cells #[.int .i64 n.op,.int .i64 n.i,.int .i64 n.e,.int .i64 n.g,.int .i64 n.x,.int .i64 n.y] t (0,0))):w.cell? ⟨b,0,none⟩=some (.int .i64 n.op)/\w.cell? ⟨b,4,none⟩=some (.int .i64 n.x)/\w.cell? ⟨b,5,none⟩=some (.int .i64 n.y)/\b < w.heap.size :=
 ⟨by simp [World.cell?,h],by simp [World.cell?,h],by simp [World.cell?,h],Qm h⟩
def LvQ(w0 w:World)(c:List Nd)(k i:Nat)(s:List Bool×List Nat)(g:Nat)(vo:Value)(e:Ending)(w':World):Prop :=
 ∃vo',e=.returned vo'/\LvR w0 w' g vo' (Jn c k i s)/\LvS w w' g vo vo'/\(Jn c k i s).1.length=s.1.length/\(Jn c k i s).2.length<=Ih (Jn c k i s).1
theorem Qz2 {w0:World} {Ac:Option Addr} {cc:Nat} {c:List Nd}(hc:Fml w0 (.slice Ac c.length cc) c)(hk:Qs c=0):∀(k i:Nat) (s:List Bool×List Nat) (w:World) (g:Nat) (vo:Value),i < k->i < c.length->s.1.length=c.length->s.2.length<=Ih s.1->LvR w0 w g vo s->
 Calls Tryz.prog 169 #[.slice Ac c.length cc,.int .i64 (i:Int),.slice (some ⟨g,0,none⟩) c.length c.length,vo] w (LvQ w0 w c k i s g vo)
 |0,_,_,_,_,_,h,_,_,_,_=>absurd h (Nat.not_lt_zero _)
 |k+1,i,s,w,g,vo,hik,hic,hsl,hcn,hR=>by
  have ih:=Qz2 hc hk k;have HR:=Qq hR;have IH:=Qq ih;have hcl:=(Zk hk).2.1;obtain⟨⟨_,_,he,hcap,hcm,hrd⟩,_⟩:=id hc;injection he with he1 _ he2;subst he1 he2;unfold maxLen at hcm;obtain⟨ad,rfl,hb,hcell⟩:=hrd (by intro e;rw [e]at hic;simp at hic);obtain⟨n,hn⟩:∃n,c[i]?=some n:=⟨_,Qv hic⟩;have HND:=Qq (show c.getD i Nd.zero=n by rw [Qk,hn];rfl);have HWF:=Qq (Jq hk i n hn);have hi1:(i:Int) < (c.length:Int):=by omega
  have hs0:=hR.seen.cell (j:=i) (by omega);have hfz:=hR.seen.frozen i;obtain⟨Ao,co,rfl⟩:=Zq hR.out;have HSL:=Qq hsl;have HCN:=Qq hcn;have HCAP:=Qq (And.intro hcap hcm);have HCL:=Qq hcl;cases hs:s.1.getD i false
  case true =>
   rw [hs]at hs0;have HE:=Qq (show Jn c (k+1) i s=s by unfold Jn;rw [hs];rfl);clear hs ih hc hk hR hn hcell hrd hsl hcn;go_enter Tryz.func169,Tryz.ntmps169;go_wp2_with fail;go_ret;refine⟨_,rfl,?_⟩;rw [HE.out];exact⟨HR.out,LvS.refl _ _ _,rfl,HCN.out⟩
  case false =>
   rw [hs]at hs0;obtain⟨i3,hi3,hz30,hz31,hz32⟩:=info_parts Qm3;have hadg:ad.block≠g:=by have:=hR.seen.lt.1;omega
   have HL0:Hid (∀s',(bif Xv n.op then(s.1.set i true,s.2++ [i])else bif decide (5<=n.op)then Jn c k n.y.toNat (Jn c k n.x.toNat (s.1.set i true,s.2))else bif decide (4<=n.op)then Jn c k n.x.toNat (s.1.set i true,s.2)else(s.1.set i true,s.2))=s'->Jn c (k+1) i s=s'):=Qq (fun s' h=>by
    rw [<-h];show(bif s.1.getD i false then s else bif Xv (c.getD i Nd.zero).op then(s.1.set i true,s.2++ [i])else bif decide (5<=(c.getD i Nd.zero).op)then Jn c k (c.getD i Nd.zero).y.toNat (Jn c k (c.getD i Nd.zero).x.toNat (s.1.set i true,s.2))else bif decide (4<=(c.getD i Nd.zero).op)then Jn c k (c.getD i Nd.zero).x.toNat (s.1.set i true,s.2)else(s.1.set i true,s.2))=_;rw [hs,HND.out];rfl)
   have HCN1:=Qq (show s.2.length+1<=Ih (s.1.set i true) by rw [Qxp s.1 i (by omega) hs];omega);have HSL1:=Qq (show(s.1.set i true).length=c.length by rw [List.length_set];exact hsl);have hle:=Qmo (s.1.set i true);have hc3:s.2.length+1<=maxLen:=by have:=HCN1.out;have:=HSL1.out;unfold maxLen;omega
   have hc4:(s.2.length+1)*8<=140737488355328:=by have:=HCN1.out;have:=HSL1.out;omega
   have hcl2:=(hcell i n hn);have HCEL:=Qq hcl2;go_enter Tryz.func169,Tryz.ntmps169;go_upto_region 4 with fail;obtain⟨hm1,hm2⟩:=hR.mark i;obtain⟨w1,hw1⟩:∃z,z=w.setCell ⟨g,i,none⟩ (.bool true):=⟨_,rfl⟩;rw [<-hw1]at hm1 hm2⊢;have R1:=Qq hm1;have L1:=Qq hm2;have hbl:(ad.add (i*6)).block < w1.heap.size:=by rw [Qn];exact Qy hb hm1.ext.size
   obtain⟨p0,p1,p2,p3,p4,p5⟩:=HCEL.out.keep fun p hp=>hm1.ext.cell (p:=p) (by rw [hp,Qn];exact hb)
   have HGW:=Qq (show w1.heap.size≠g by have:=hm1.seen.lt.2;omega);have X1:=Qq ((Ext.refl w1).alloc (.cells #[.int .i64 n.op,.int .i64 n.i,.int .i64 n.e,.int .i64 n.g,.int .i64 n.x,.int .i64 n.y] 64));have B1:=Qq (heap_alloc_new w1 (.cells #[.int .i64 n.op,.int .i64 n.i,.int .i64 n.e,.int .i64 n.g,.int .i64 n.x,.int .i64 n.y] 64));clear hw1 hm1 hm2 hs ih hc hk hR hcell hrd hsl hcn hcl2 hs0 hfz hadg hle hcap hcm hcl hn;by_cases h3:n.op=3
   ·have HE:=Qq (HL0.out _ (show _=(s.1.set i true,s.2++ [i]) by rw [h3];rfl));have b3:(n.op==3)=true:=by simpa using h3
    clear h3;go_wp2_with(at_builtin;refine wpList_append_own_at _ rfl _ _ 60 rfl w0.heap.size 3 i3 (.int .i64 0) 1 8 Tryz.underlying60 hi3 hz30 hz31 hz32 rfl (by decide) _ s.2.length (s.2.map fun(i:Nat)=>Value.int .i64 (i:Int)) rfl (Jt R1.out.out (X1.out.trans (Qz.alloc _))) ⟨_,0,none⟩ 1 1 [.int .i64 (i:Int)] rfl rfl (Yv _ _ _ (by simp)) (fun u hu=>by rw [List.mem_singleton.1 hu];rfl) hc3 hc4 (Qx R1.out.ext.size (X1.out.trans (Qz.alloc _)).size) ?_);intro v7 w7 hown7 hgrow7 _ hat7;obtain⟨P1,P2⟩:=R1.out.push (X1.out.trans (Qz.alloc _)) hown7 hgrow7 (hat7.imp id (fun e=>e.trans (by simp)))
    have HP1:=Qq P1;have HP2:=Qq P2;obtain⟨A7,c7,rfl⟩:=Zq hown7;clear hown7 hgrow7 hat7 P1 P2;go_wp2_with fail;go_ret;exact⟨_,rfl,by rw [HE.out];exact HP1.out,L1.out.trans HP2.out,by rw [HE.out];exact List.length_set ..,by rw [HE.out];show(s.2++ [i]).length<=_;rw [List.length_append];exact HCN1.out⟩
   have b3:(n.op==3)=false:=by simpa using h3
   by_cases h8:8 < n.op
   ·have HE:=Qq (HL0.out _ (show _=(s.1.set i true,s.2++ [i]) by rw [show Xv n.op=true by unfold Xv;rw [decide_eq_true h8,Bool.or_true]];rfl));have h8b:decide (n.op<=8)=false:=decide_eq_false (by omega);have h8i:¬n.op<=8:=by omega
    clear h3;go_wp2_with fail;refine(Lk n.op _).mono ?_;rintro e w2 ⟨rfl,hx⟩;have X2:=Qq (X1.out.trans hx);have B2:=Qq ((hx.block (Qm B1.out)).trans B1.out);obtain⟨z0,z4,z5,zl⟩:=Qjw B2.out;clear hx;go_wp2_with(at_builtin;refine wpList_append_own_at _ rfl _ _ 60 rfl w0.heap.size 3 i3 (.int .i64 0) 1 8 Tryz.underlying60 hi3 hz30 hz31 hz32 rfl (by decide) _ s.2.length (s.2.map fun(i:Nat)=>Value.int .i64 (i:Int)) rfl (Jt R1.out.out (X2.out.trans (Qz.alloc _))) ⟨_,0,none⟩ 1 1 [.int .i64 (i:Int)] rfl rfl (Yv _ _ _ (by simp)) (fun u hu=>by rw [List.mem_singleton.1 hu];rfl) hc3 hc4 (Qx R1.out.ext.size (X2.out.trans (Qz.alloc _)).size) ?_)
    intro v7 w7 hown7 hgrow7 _ hat7;obtain⟨P1,P2⟩:=R1.out.push (X2.out.trans (Qz.alloc _)) hown7 hgrow7 (hat7.imp id (fun e=>e.trans (by simp)));have HP1:=Qq P1;have HP2:=Qq P2;obtain⟨A7,c7,rfl⟩:=Zq hown7;clear hown7 hgrow7 hat7 P1 P2;go_wp2_with fail;go_ret;exact⟨_,rfl,by rw [HE.out];exact HP1.out,L1.out.trans HP2.out,by rw [HE.out];exact List.length_set ..,by rw [HE.out];show(s.2++ [i]).length<=_;rw [List.length_append];exact HCN1.out⟩
   have HAT:=Qq (show Xv n.op=false by unfold Xv;rw [b3,decide_eq_false h8];rfl);have h8n:n.op<=8:=by omega
   have h8b:decide (n.op<=8)=true:=decide_eq_true h8n;clear h3 h8;go_wp2_with fail;refine(Lk n.op _).mono ?_;rintro e w2 ⟨rfl,hx⟩;have X2:=Qq (X1.out.trans hx);have B2:=Qq ((hx.block (Qm B1.out)).trans B1.out);obtain⟨z0,z4,z5,zl⟩:=Qjw B2.out;clear hx;by_cases h4:4<=n.op
   ·have hx4:=(HWF.out.1 (Qle h4 h8n));obtain⟨jx,hjx⟩:=Int.eq_ofNat_of_zero_le hx4.1;have hjx1:jx < i:=by omega
    have z4':w2.cell? ⟨w1.heap.size,4,none⟩=some (.int .i64 (jx:Int)):=by rw [z4,hjx]
    have HJX:=Qq (show n.x.toNat=jx by omega);clear z4 hx4 hjx;go_wp2_with fail;refine(IH.out jx (s.1.set i true,s.2) _ g _ (by omega) (by omega) HSL1.out (Nat.le_of_succ_le HCN1.out) (R1.out.ext_ X2.out)).mono ?_;rintro e w3 ⟨vo3,rfl,hR3,hL3,hl3,hn3⟩;have R3:=Qq hR3;have L3:=Qq ((L1.out.ext X2.out).trans hL3);have B3:=Qq ((hL3.block w1.heap.size (Qm B2.out) HGW.out (fun e=>by have:=(R1.out.out.lt _ e).2;omega)).trans B2.out);have HL3:=Qq hl3;have HN3:=Qq hn3;obtain⟨t3,ht3⟩:∃t,t=Jn c k jx (s.1.set i true,s.2):=⟨_,rfl⟩;have HT3:=Qq ht3;rw [<-ht3]at R3 HL3 HN3;obtain⟨A3,c3,rfl⟩:=Zq R3.out.out
    obtain⟨y0,y4,y5,yl⟩:=Qjw B3.out;clear hR3 hL3 hl3 hn3 ht3 z0 z4' z5 zl;by_cases h5:5<=n.op
    ·have hy4:=(HWF.out.2 (Qs7 h5 h8n));obtain⟨jy,hjy⟩:=Int.eq_ofNat_of_zero_le hy4.1;have hjy1:jy < i:=by omega
     have y5':w3.cell? ⟨w1.heap.size,5,none⟩=some (.int .i64 (jy:Int)):=by rw [y5,hjy]
     have HE:=Qq (HL0.out _ (show(bif Xv n.op then(s.1.set i true,s.2++ [i])else bif decide (5<=n.op)then Jn c k n.y.toNat (Jn c k n.x.toNat (s.1.set i true,s.2))else bif decide (4<=n.op)then Jn c k n.x.toNat (s.1.set i true,s.2)else(s.1.set i true,s.2))=Jn c k jy t3 by rw [HAT.out,decide_eq_true h5,HJX.out,show n.y.toNat=jy by omega,HT3.out];rfl));clear y5 hy4 hjy;go_wp2_with fail;refine(IH.out jy t3 _ g _ (by omega) (by omega) (HL3.out.trans HSL1.out) HN3.out R3.out).mono ?_;rintro e w4 ⟨vo4,rfl,hR4,hL4,hl4,hn4⟩;have HQ:=Qq (And.intro hR4 (And.intro (L3.out.trans hL4) (And.intro hl4 hn4)))
     obtain⟨A4,c4,rfl⟩:=Zq hR4.out;clear hR4 hL4 hl4 hn4 y0 y4 y5' yl;go_wp2_with fail;go_ret;exact⟨_,rfl,by rw [HE.out];exact HQ.out.1,HQ.out.2.1,by rw [HE.out];exact HQ.out.2.2.1.trans (HL3.out.trans (List.length_set ..)),by rw [HE.out];exact HQ.out.2.2.2⟩
    have HE:=Qq (HL0.out _ (show(bif Xv n.op then(s.1.set i true,s.2++ [i])else bif decide (5<=n.op)then Jn c k n.y.toNat (Jn c k n.x.toNat (s.1.set i true,s.2))else bif decide (4<=n.op)then Jn c k n.x.toNat (s.1.set i true,s.2)else(s.1.set i true,s.2))=t3 by rw [HAT.out,decide_eq_false h5,decide_eq_true h4,HJX.out,HT3.out];rfl));go_wp2_with fail;go_ret;exact⟨_,rfl,by rw [HE.out];exact R3.out,L3.out,by rw [HE.out];exact HL3.out.trans (List.length_set ..),by rw [HE.out];exact HN3.out⟩
   have h5:¬5<=n.op:=by omega
   have HE:=Qq (HL0.out _ (show(bif Xv n.op then(s.1.set i true,s.2++ [i])else bif decide (5<=n.op)then Jn c k n.y.toNat (Jn c k n.x.toNat (s.1.set i true,s.2))else bif decide (4<=n.op)then Jn c k n.x.toNat (s.1.set i true,s.2)else(s.1.set i true,s.2))=(s.1.set i true,s.2) by rw [HAT.out,decide_eq_false h5,decide_eq_false h4];rfl));go_wp2_with fail;go_ret;exact⟨_,rfl,by rw [HE.out];exact R1.out.ext_ X2.out,L1.out.ext X2.out,by rw [HE.out];exact List.length_set ..,by rw [HE.out];exact Nat.le_of_succ_le HCN1.out⟩
end Go.Proofs.YtmidgcldljfkcaaGreatDoor
