/- What the reference's constructors of formulas come to: the lists that the program's constructors come to. -/
import Derived.Test.YtmidgcldljfkcaaGreatDoorM01
import Derived.Test.YtmidgcldljfkcaaGreatDoorM13
import Derived.Test.YtmidgcldljfkcaaGreatDoorM12
import Derived.Test.YtmidgcldljfkcaaGreatDoorM03
import Derived.Test.YtmidgcldljfkcaaGreatDoorM16
namespace Go.Proofs.YtmidgcldljfkcaaGreatDoor
set_option maxRecDepth 100000
set_option maxHeartbeats 128000000
def shortT(t:Tr):List Nd:=bif decide (200 < (canon t).length)then []else canon t
theorem short_fit {t:Tr}(h:(canon t).length<=200):shortT t=canon t:=by
 unfold shortT;rw [decide_eq_false (by omega)];rfl
theorem short_long {t:Tr}(h:200 < (canon t).length):shortT t= []:=by
 unfold shortT;rw [decide_eq_true h];rfl
theorem check_nil':check []≠0:=by decide
def shortN(l:List Nd):List Nd:=bif decide (200 < (finN l (l.length - 1) []).1.length)then []else(finN l (l.length - 1) []).1
theorem map_shift0(f:List Nd):f.map (shiftN 0)=f:=by
 rw [show shiftN 0=id from by funext m;unfold shiftN;cases hasX m.op <;> cases hasY m.op <;> simp];simp
theorem build_oneS {n:Nd} {f:List Nd}(hf:check f=0)(h1:hasX n.op=true)(h2:hasY n.op=false)(hh:headOk n):buildN n [f]=shortT (.one n.head (treeOf f)):=by
 obtain⟨cw,cl,cp,_⟩:=compactN_props hf;unfold buildN;have e0: [f].any (fun o=>check o !=0)=false:=by simp [hf]
 rw [e0,cond_false];have eL:layout [f] 0 [] n=(compactN f,{ n with x:=((compactN f).length:Int) - 1 }):=by
  simp only [layout,setOp,List.nil_append,List.length_nil,map_shift0];rfl
 rw [eL];generalize hm:({ n with x:=((compactN f).length:Int) - 1 } :Nd)=m;have mo:m.op=n.op:=by rw [<-hm]
 have mx:m.x=((compactN f).length:Int) - 1:=by rw [<-hm]
 have mh:m.head=n.head:=by
  rw [<-hm];unfold Nd.head Nd.with_;simp [h1,h2]
 have hmh:headOk m:=by
  rw [<-hm];exact⟨hh.1,hh.2.1,hh.2.2.1,fun h=>by(rw [h1]at h;cases h),hh.2.2.2.2⟩
 have herr:nodeErr m (compactN f).length=0:=hmh.err (fun _=>by omega) (fun h=>by rw [mo,h2]at h;cases h);have hw:Wf (compactN f++ [m]):=wf_snoc cw (fun _=>by omega) (fun h=>by rw [mo,h2]at h;cases h);have htr:tr (compactN f++ [m]) (compactN f).length=.one n.head (treeOf f):=by
  rw [tr_eq hw (n:=m) (by simp)];unfold mkTr;rw [mo,h1,h2,mh,mx];rw [show(((compactN f).length:Int) - 1).toNat=(compactN f).length - 1 by omega,tr_prefix cw hw (List.prefix_append _ _) _ (by omega)];rw [show tr (compactN f) ((compactN f).length - 1)=treeOf (compactN f)from rfl,treeOf_compact hf];rfl
 unfold joinN;have hfin:(finN (compactN f++ [m]) (compactN f).length []).1=canon (.one n.head (treeOf f)):=by
  rw [finN_ins hw _ _ (by simp),htr];rfl
 simp only [herr,hfin];rfl
theorem build_twoS {n:Nd} {f g:List Nd}(hf:check f=0)(hg:check g=0)(h1:hasX n.op=true)(h2:hasY n.op=true)(hh:headOk n):buildN n [f,g]=shortT (.two n.head (treeOf f) (treeOf g)):=by
 obtain⟨cw,cl,cp,_⟩:=compactN_props hf;obtain⟨dw,dl,dp,_⟩:=compactN_props hg;unfold buildN;have e0: [f,g].any (fun o=>check o !=0)=false:=by simp [hf,hg]
 rw [e0,cond_false];have eL:layout [f,g] 0 [] n=(compactN f++(compactN g).map (shiftN (compactN f).length),{ n with x:=((compactN f).length:Int) - 1,y:=((compactN f).length:Int)+(compactN g).length - 1 }):=by
  simp only [layout,setOp,List.nil_append,List.length_nil,map_shift0];simp
 rw [eL];have hFw:=shift_wf cw dw;have hFl:(compactN f++(compactN g).map (shiftN (compactN f).length)).length=(compactN f).length+(compactN g).length:=by simp
 have hF1:tr (compactN f++(compactN g).map (shiftN (compactN f).length)) ((compactN f).length - 1)=treeOf f:=by
  rw [tr_prefix cw hFw (List.prefix_append _ _) _ (by omega),show tr (compactN f) ((compactN f).length - 1)=treeOf (compactN f)from rfl,treeOf_compact hf]
 have hF2:tr (compactN f++(compactN g).map (shiftN (compactN f).length)) ((compactN f).length+(compactN g).length - 1)=treeOf g:=by
  rw [show(compactN f).length+(compactN g).length - 1=(compactN f).length+((compactN g).length - 1) by omega,tr_shift cw dw _ (by omega),show tr (compactN g) ((compactN g).length - 1)=treeOf (compactN g)from rfl,treeOf_compact hg]
 generalize compactN f++(compactN g).map (shiftN (compactN f).length)=F at *;generalize hm:({ n with x:=((compactN f).length:Int) - 1,y:=((compactN f).length:Int)+(compactN g).length - 1 } :Nd)=m;have mo:m.op=n.op:=by rw [<-hm]
 have mx:m.x=((compactN f).length:Int) - 1:=by rw [<-hm]
 have my:m.y=((compactN f).length:Int)+(compactN g).length - 1:=by rw [<-hm]
 have mh:m.head=n.head:=by
  rw [<-hm];unfold Nd.head Nd.with_;simp [h1,h2]
 have hmh:headOk m:=by
  rw [<-hm];exact⟨hh.1,hh.2.1,hh.2.2.1,fun h=>by(rw [h1]at h;cases h),fun h=>by(rw [h2]at h;cases h)⟩
 have herr:nodeErr m F.length=0:=hmh.err (fun _=>by omega) (fun _=>by omega);have hw:Wf (F++ [m]):=wf_snoc hFw (fun _=>by omega) (fun _=>by omega);have htr:tr (F++ [m]) F.length=.two n.head (treeOf f) (treeOf g):=by
  rw [tr_eq hw (n:=m) (by simp)];unfold mkTr;rw [mo,h2,mh,mx,my];rw [show(((compactN f).length:Int) - 1).toNat=(compactN f).length - 1 by omega,tr_prefix hFw hw (List.prefix_append _ _) _ (by omega),hF1];rw [show(((compactN f).length:Int)+(compactN g).length - 1).toNat=(compactN f).length+(compactN g).length - 1 by omega,tr_prefix hFw hw (List.prefix_append _ _) _ (by omega),hF2];rfl
 unfold joinN;have hfin:(finN (F++ [m]) F.length []).1=canon (.two n.head (treeOf f) (treeOf g)):=by
  rw [finN_ins hw _ _ (by simp),htr];rfl
 simp only [herr,hfin];rfl
theorem build_bad1 {n:Nd} {f:List Nd}(hf:check f≠0):buildN n [f]= []:=by
 unfold buildN;have e0: [f].any (fun o=>check o !=0)=true:=by simpa using hf
 rw [e0,cond_true]
theorem build_bad2 {n:Nd} {f g:List Nd}(hf:check f≠0\/check g≠0):buildN n [f,g]= []:=by
 unfold buildN;have e0: [f,g].any (fun o=>check o !=0)=true:=by simp;exact hf
 rw [e0,cond_true]
open Go.RowKit
def uniM(g:Nd->Nat)(l:List Nd):Nat:=l.foldl (fun m n=>m|||g n) 0
theorem uniM_snoc(g:Nd->Nat)(l:List Nd)(n:Nd):uniM g (l++ [n])=uniM g l|||g n:=by simp [uniM,List.foldl_append]
theorem uniM_lt {g:Nd->Nat} :∀(l:List Nd),(∀n∈l,g n < 512)->uniM g l < 512:=by
 have:∀(l:List Nd) (m:Nat),(∀n∈l,g n < 512)->m < 512->l.foldl (fun m n=>m|||g n) m < 512:=by
  intro l
  induction l with
  |nil=>intro m _ h;exact h
  |cons a r ih =>
   intro m hl h;exact ih _ (fun n hn=>hl n (List.mem_cons_of_mem _ hn)) (Nat.or_lt_two_pow (n:=9) h (hl a (List.mem_cons_self ..)))
 exact fun l hl=>this l 0 hl (by omega)
def agU(n:Nd):Nat:=if hasAgent n.op then 2^n.i.toNat else n.g.toNat
def faU(n:Nd):Nat:=if hasFact n.op then 2^n.i.toNat else 0
theorem agent_nogroup {n:Nd}(h:headOk n)(ha:hasAgent n.op=true):n.g=0:=by
 have hg:hasGroup n.op=false:=by
  unfold hasAgent at ha;unfold hasGroup;simp at ha;rcases ha with((h|h)|h)|h <;>(rw [h];rfl)
 obtain⟨_,h3,_,_,_⟩:=h;unfold formBad at h3;simp [hg]at h3;exact h3.2
theorem agS_U {n:Nd}(h:headOk n)(s:Nat):agS s n=s|||agU n:=by
 unfold agS agU;cases ha:hasAgent n.op
 ·rw [if_neg (by simp),if_neg (by simp),Nat.or_zero]
 rw [if_pos rfl,if_pos rfl,agent_nogroup h ha];exact Nat.or_zero _
theorem fact_iff(op:Int):hasFact op=true↔op=3:=by unfold hasFact;simp
theorem faS_U {n:Nd}(s:Nat):faS s n=s|||faU n:=by
 unfold faS faU;by_cases h:n.op=3
 ·rw [if_pos h,if_pos ((fact_iff _).2 h)]
 rw [if_neg h,if_neg (fun e=>h ((fact_iff _).1 e)),Nat.or_zero]
theorem foldl_congr' {f g:Nat->Nd->Nat} :∀(l:List Nd) (s:Nat),(∀n∈l,∀s,f s n=g s n)->l.foldl f s=l.foldl g s
 |[],_,_=>rfl
 |a :: r,s,h=>by
  show r.foldl f (f s a)=r.foldl g (g s a);rw [h a (List.mem_cons_self ..) s];exact foldl_congr' r _ (fun n hn=>h n (List.mem_cons_of_mem _ hn))
theorem agents_uni {l:List Nd}(h:∀n∈l,headOk n):agentsM l=uniM agU l:=foldl_congr' l 0 (fun n hn s=>agS_U (h n hn) s)
theorem facts_uni {l:List Nd} :factsM l=uniM faU l:=foldl_congr' l 0 (fun _ _ s=>faS_U s)
theorem agU_lt {n:Nd}(h:headOk n):agU n < 512:=by
 unfold agU;have h1:=head_group h
 split
 ·rename_i ho;have:=head_agent h ho;exact Nat.pow_lt_pow_right (by decide) (show n.i.toNat < 9 by omega)
 omega
theorem faU_lt {n:Nd}(h:headOk n):faU n < 512:=by
 unfold faU
 split
 ·rename_i ho;have:=head_fact h ((fact_iff _).1 ho);exact Nat.pow_lt_pow_right (by decide) (show n.i.toNat < 9 by omega)
 decide
theorem agents1_any(n:Nd)(h:headOk n)(u0 u1 u2 u4 u5:Bool)(g:Int)(w:World):
 Calls Tryz.prog 118 #[.agg #[.int .i64 n.op,.int .i64 n.i,.int .i64 n.e,.int .i64 n.g,.int .i64 n.x,.int .i64 n.y],.agg #[.bool u0,.bool u1,.bool u2,.bool (hasAgent n.op),.bool u4,.bool u5,.int .i64 g]] w
  fun e w'=>e=.returned (.int .i64 ((agU n:Nat):Int))/\Ext w w':=by
 have hg:=head_group h;cases ha:hasAgent n.op
 ·have HE:=Qq (show((agU n:Nat):Int)=n.g by unfold agU;rw [if_neg (by rw [ha];simp)];omega);clear h hg;go_enter Tryz.func118,Tryz.ntmps118;go_wp2_with fail;go_ret;exact⟨by rw [HE.out] <;> rfl,(Qz.alloc _).alloc _⟩
 obtain⟨h0,h1⟩:=head_agent h ha;obtain⟨k,hk⟩:=Int.eq_ofNat_of_zero_le h0;have hw:=wrap_small (k:=k) (by omega);have hk8:k < 64:=by omega
 have hmk:min k 64=k:=by omega
 have HE:=Qq (show((agU n:Nat):Int)=wrap64 ((2:Int)^k) by rw [hw];unfold agU;rw [if_pos ha,hk,Int.toNat_natCast]);rw [hk];clear h hg h0 h1 hk hw;go_enter Tryz.func118,Tryz.ntmps118;go_wp2_with fail;go_ret;exact⟨by rw [HE.out] <;> rfl,(Qz.alloc _).alloc _⟩
theorem facts1_any(n:Nd)(h:headOk n)(u0 u1 u3 u4 u5:Bool)(g:Int)(w:World):
 Calls Tryz.prog 119 #[.agg #[.int .i64 n.op,.int .i64 n.i,.int .i64 n.e,.int .i64 n.g,.int .i64 n.x,.int .i64 n.y],.agg #[.bool u0,.bool u1,.bool (hasFact n.op),.bool u3,.bool u4,.bool u5,.int .i64 g]] w
  fun e w'=>e=.returned (.int .i64 ((faU n:Nat):Int))/\Ext w w':=by
 cases ha:hasFact n.op
 ·have HE:=Qq (show((faU n:Nat):Int)=0 by unfold faU;rw [if_neg (by rw [ha];simp)];rfl);clear h;go_enter Tryz.func119,Tryz.ntmps119;go_wp2_with fail;go_ret;exact⟨by rw [HE.out] <;> rfl,(Qz.alloc _).alloc _⟩
 obtain⟨h0,h1⟩:=head_fact h ((fact_iff _).1 ha);obtain⟨k,hk⟩:=Int.eq_ofNat_of_zero_le h0;have hw:=wrap_small (k:=k) (by omega);have hk8:k < 64:=by omega
 have hmk:min k 64=k:=by omega
 have HE:=Qq (show((faU n:Nat):Int)=wrap64 ((2:Int)^k) by rw [hw];unfold faU;rw [if_pos ha,hk,Int.toNat_natCast]);rw [hk];clear h h0 h1 hk hw;go_enter Tryz.func119,Tryz.ntmps119;go_wp2_with fail;go_ret;exact⟨by rw [HE.out] <;> rfl,(Qz.alloc _).alloc _⟩
theorem uniM_le(g:Nd->Nat)(l:List Nd)(hg:∀n∈l,g n < 512)(k:Nat):uniM g (l.take k) < 512:=uniM_lt _ (fun n hn=>hg n (List.mem_of_mem_take hn))
theorem unionG_any(fn:Nat)(eg:∀args w,(callFunc fn args).run Tryz.prog w=.ok (.enter fn args) w)(g:Nd->Nat)(v:Value)(l:List Nd)(w:World)(h:Fml w v l)(_hc:check l=0)(hg:∀n∈compactN l,g n < 512)
 (hf:∀n∈compactN l,∀W,Calls Tryz.prog fn #[.agg #[.int .i64 n.op,.int .i64 n.i,.int .i64 n.e,.int .i64 n.g,.int .i64 n.x,.int .i64 n.y],.agg #[.bool (hasX n.op),.bool (hasY n.op),.bool (hasFact n.op),.bool (hasAgent n.op),.bool (hasGroup n.op),.bool (hasEvent n.op),.int .i64 (fragOf n.op)]] W fun e w'=>e=.returned (.int .i64 ((g n:Nat):Int))/\Ext W w'):
 Calls Tryz.prog 65 #[v,.func (Fn.func fn) #[] #[]] w fun e w'=>e=.returned (.int .i64 (uniM g (compactN l):Nat))/\Ext w w':=by
 have H:=Qq h;have HG:=Qq hg;have HF:=Qq hf;clear h hg hf;go_enter Tryz.func65,Tryz.ntmps65;go_wp2_with fail;refine(compactF_any _ l _ H.out).mono ?_;rintro e w1 ⟨u,rfl,hm⟩;have HX:=Qq hm.2.2;obtain⟨A,c,rfl,hcap,hmax,hread⟩:=hm.fml.1;unfold maxLen at hmax;have HR:=Qq hread;obtain⟨cl,hcl⟩:∃cl,cl=compactN l:=⟨_,rfl⟩;have HCL:=Qq (show uniM g (compactN l)=uniM g cl by rw [hcl]);rw [<-hcl]at HR hcap HG HF;rw [<-hcl];clear hm hread hcl;go_wp2_with fail;go_loopw [5,13] (fun out i wr=>∃k:Nat,k<=cl.length/\i=.int .i64 k/\out=.int .i64 (uniM g (cl.take k):Nat)/\Ext w1 wr) (fun _ i _=>cl.length - (intOf i).toNat)
 case atStart=>exact⟨0,Nat.zero_le _,rfl,rfl,Qz⟩
 case round =>
  obtain⟨k,hk,rfl,rfl,hext⟩:=hrel;by_cases hlt2:k < cl.length
  ·obtain⟨a,ha⟩:∃a,cl[k]?=some a:=⟨_,Qv hlt2⟩;have ham:=List.mem_of_getElem? ha;obtain⟨ad,rfl,hb1,hc1⟩:=HR.out (by intro e;rw [e]at hlt2;simp at hlt2);obtain⟨a0,a1,a2,a3,a4,a5⟩:=(hc1 k a ha).keep fun p hp=>hext.cell (p:=p) (by rw [hp,block_of_add];exact hb1)
   have hor:=i64_or_nat (uniM g (cl.take k)) (g a) (by have:=uniM_le g cl HG.out k;omega) (by have:=HG.out a ham;omega);have HS:Hid (uniM g (cl.take (k+1))=(uniM g (cl.take k)|||g a)):=Qq (by rw [take_succ_eq ha,uniM_snoc]);have HFA:=Qq (HF.out a ham);obtain⟨ga,hga⟩:∃x,x=g a:=⟨_,rfl⟩;rw [<-hga]at hor HS HFA;generalize uniM g (cl.take k)=m at hor HS;clear ha hc1 ham hga;go_wp2_with fail;refine(uses_as _ _ _ _ _ _ _ _ rfl rfl rfl rfl rfl rfl rfl _).mono ?_;rintro e w2 ⟨rfl,hb⟩;have HB:=Qq hb;obtain⟨hcc,_,hz0⟩:=hb.facts;clear hb;have hz:wr.heap.size < w2.heap.size:=by { simp at hz0;omega }
   clear hz0;go_wp2_with fail;refine(HFA.out _).mono ?_;rintro e w3 ⟨rfl,hb3⟩;go_wp2_with fail;go_roundw
   case rel=>exact⟨k+1,by omega,by go_num,by rw [HS.out],(((hext.alloc _).trans HB.out).alloc _).trans hb3⟩
   case measure=>simp [intOf];omega
  obtain rfl:cl.length=k:=by omega
  go_wp2_with fail;go_ret;exact⟨ret_int (by rw [HCL.out,List.take_of_length_le (Nat.le_refl _)]),HX.out.trans hext⟩
theorem agentsF_any(v:Value)(l:List Nd)(w:World)(h:Fml w v l)(hc:check l=0):
 Calls Tryz.prog 108 #[v] w fun e w'=>e=.returned (.int .i64 ((agentsM (compactN l):Nat):Int))/\Ext w w':=by
 have H:=Qq h;have hh:=(compactN_props hc).2.2.2;have HU:=Qq (unionG_any 118 (fun _ _=>rfl) agU v l w h hc (fun n hn=>agU_lt (hh n hn)) (fun n hn W=>agents1_any n (hh n hn) _ _ _ _ _ _ W));have HE:=Qq (agents_uni hh);rw [HE.out];clear h hh hc;go_enter Tryz.func108,Tryz.ntmps108;go_wp2_with fail;refine HU.out.mono ?_;rintro e w1 ⟨rfl,hx⟩;go_wp2_with fail;go_ret;exact⟨rfl,hx⟩
theorem factsF_any(v:Value)(l:List Nd)(w:World)(h:Fml w v l)(hc:check l=0):
 Calls Tryz.prog 109 #[v] w fun e w'=>e=.returned (.int .i64 ((factsM (compactN l):Nat):Int))/\Ext w w':=by
 have H:=Qq h;have hh:=(compactN_props hc).2.2.2;have HU:=Qq (unionG_any 119 (fun _ _=>rfl) faU v l w h hc (fun n hn=>faU_lt (hh n hn)) (fun n hn W=>facts1_any n (hh n hn) _ _ _ _ _ _ W));rw [facts_uni];clear h hh hc;go_enter Tryz.func109,Tryz.ntmps109;go_wp2_with fail;refine HU.out.mono ?_;rintro e w1 ⟨rfl,hx⟩;go_wp2_with fail;go_ret;exact⟨rfl,hx⟩
end Go.Proofs.YtmidgcldljfkcaaGreatDoor
