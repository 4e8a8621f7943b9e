/- The reference's properties of relations, and the conditions of a logic on a model. -/
import Derived.Test.YtbfeodammikajaaGreatM01
import Derived.Test.YtbfeodammikajaaGreatM26
import Derived.Test.YtbfeodammikajaaGreatM07
import Derived.Test.YtbfeodammikajaaGreatM09
import Derived.Test.YtbfeodammikajaaGreatM11
import Derived.Test.YtbfeodammikajaaGreatM23
import Derived.ArgAppend
namespace Go.Proofs.YtbfeodammikajaaGreat
set_option maxRecDepth 100000
set_option maxHeartbeats 128000000
open Go.RowKit
def propP(q:Int)(l:List Nat):Prop :=
 if q=1 then ∀i,i < l.length->l.getD i 0≠0 else if q=2 then reflP l else if q=4 then closedG false l else closedG true l
theorem has02_any(v:Value)(l:List Nat)(q:Int)(w:World)(h:U64s w v l)(hw:∀s∈l,word s)(h0:0 < l.length)(hq:q=1\/q=2\/q=4\/q=5):
 Calls Tryz.prog 87 #[v,.int .i64 q] w fun e w'=>∃b:Bool,e=.returned (.bool b)/\Ext w w'/\(b=true↔valid02 l=true/\propP q l):=by
 have H:=Qq h;have HW:=Qq hw;obtain⟨A,c,rfl,hlc,hcm,HL⟩:=u64_at h;unfold maxLen at hcm;obtain⟨iU,hiU,hzU0,hzU1,hzU2⟩:=info_parts tInfoU8;clear h hw;cases hv:valid02 l
 ·have HV:=Qq hv;clear hv;go_enter Tryz.func87,Tryz.ntmps87;go_wp2_with fail;refine(valid02_any _ l _ H.out HW.out).mono ?_;rintro e w2 ⟨rfl,hx2⟩;rw [HV.out];have HX2:=Qq hx2;clear hx2;go_wp2_with fail;go_ret
  first
  |exact⟨false,rfl,HX2.out,by simp⟩
  |exact⟨.inl ⟨rfl,by simp⟩,HX2.out⟩
  |exact .inl ⟨rfl,HX2.out,by simp⟩
  |exact⟨rfl,HX2.out,by simp⟩
 have HV:=Qq hv;have hl64:=(valid_iff.1 hv).1;obtain⟨ad,rfl,hadl,_⟩:=HL.out 0 h0;obtain⟨n,hn⟩:∃n,n=l.length:=⟨_,rfl⟩;have HN:=Qq hn;clear hv;have HAD:=Qq (show ∀i,i < l.length->w.cell? (ad.add i)=some (.int .u64 ((l.getD i 0:Nat):Int))from fun i hi=>by
  obtain⟨ad2,e,_,hc⟩:=HL.out i hi;injection e with e;subst e;exact hc)
 rw [<-hn]at H hl64 h0⊢;have hm1:0+n<=maxLen:=by unfold maxLen;omega
 have hm2:(0+n)*8<=140737488355328:=by omega
 clear hn HL;rcases hq with rfl|rfl|rfl|rfl
 ·skip
  go_enter Tryz.func87,Tryz.ntmps87;go_wp2_with fail;refine(valid02_any _ l _ H.out HW.out).mono ?_;rintro e w2 ⟨rfl,hx2⟩;rw [HV.out];have HX2:=Qq hx2;have HNEW:=Qq (show ∀(j:Nat) u,(uV l)[j]?=some u->(w2.alloc (.cells #[] 40)).cell? (ad.add j)=some u from row_of_u64 fun i hi=>((hx2.alloc _).cell (p:=ad.add i) (Qj hadl)).trans (HAD.out i hi));have HRE:=Qq (row_empty w2 40);clear hx2;go_wp2_with(at_builtin;refine wpList_append_own_at _ rfl _ _ 27 rfl w2.heap.size 40 iU (.int .u64 0) 1 8 Tryz.underlying27 hiU hzU0 hzU1 hzU2 rfl (by decide) _ 0 [] rfl HRE.out ad n c (uV l) rfl (by rw [uv_len,Nat.mul_one];exact HN.out.symm) HNEW.out (uv_one l) hm1 hm2 (by simp) ?_)
  intro v3 w3 hown3 hgrow3 _ _;have HX3:=Qq (show Ext w w3 from(HX2.out.alloc _).grown hgrow3 (fun k hk=>by have h1:=HX2.out.size;have h2:w2.heap.size=k:=Option.some.inj hk;omega));have HM:=Qq (show MadeU w.heap.size w3 v3 l by
   unfold MadeU;rw [<-HN.out];exact row_base hown3 HX2.out.size)
  clear hown3 hgrow3;obtain⟨g,cap,rfl,hgl,hgb,_,hcm2,_,_⟩:=HM.out.slice (by rw [<-HN.out];exact h0);rw [<-HN.out]at HM⊢;clear hgl;go_wp2_with fail;go_loopw [6] (fun v wr=>∃k:Nat,v=.int .i64 (k:Int)/\k<=n/\Hid (Ext w3 wr/\∀j,j < k->l.getD j 0≠0)) (fun v _=>n - (intOf v).toNat)
  case atStart=>exact⟨0,rfl,Nat.zero_le _,Qq ⟨Qz,fun j hj=>absurd hj (by omega)⟩⟩
  case round =>
   obtain⟨k,rfl,hk,HREL⟩:=hrel;have HX:=Qq HREL.out.1;have HJ:=Qq HREL.out.2;have HXW:=Qq (HX3.out.trans HX.out);clear HREL;by_cases hlt2:k < n
   ·have hk1:(k:Int) < (n:Int):=by omega
    have a0:=(HXW.out.cell (p:=ad.add k) (Qj hadl)).trans (HAD.out k (by rw [<-HN.out];exact hlt2));have al:(ad.add k).block < wr.heap.size:=by rw [block_of_add];exact Qy hadl HXW.out.size
    have HNX:=Qq (show l.getD k 0≠0->∀j,j < k+1->l.getD j 0≠0 from fun h=>upto2 (P:=fun j=>l.getD j 0≠0) HJ.out h);have HHT:=Qq (show l.getD k 0=0->¬propP 1 l from fun h hp=>by
     unfold propP at hp;rw [if_pos rfl]at hp;exact hp k (by rw [<-HN.out];exact hlt2) h)
    obtain⟨x,hx⟩:∃x,x=l.getD k 0:=⟨_,rfl⟩;rw [<-hx]at a0 HNX HHT;clear hx;by_cases hz:x=0
    ·have hzb:((x:Int)==0)=true:=by rw [hz];rfl
     have HE:=Qq (HHT.out hz);clear hz;go_wp2_with fail;go_ret
     first
     |exact⟨false,rfl,HXW.out,iff_of_false (by decide) fun h=>HE.out h.2⟩
     |exact .inl ⟨rfl,HXW.out,fun _=>HE.out⟩
     |exact .inl ⟨rfl,HXW.out,fun h=>absurd h HE.out⟩
    have hzb:((x:Int)==0)=false:=by rw [beq_eq_false_iff_ne];omega
    have HP:=Qq (HNX.out hz);clear hz;go_wp2_with fail;go_roundw
    case rel=>exact⟨k+1,by go_num,by omega,Qq ⟨HX.out,HP.out⟩⟩
    case measure=>simp [intOf];omega
   obtain rfl:n=k:=by omega
   have HP:=Qq (show propP 1 l by
    unfold propP;rw [if_pos rfl,<-HN.out];exact HJ.out)
   go_wp2_with fail;refine(same02_any _ _ l l _ (HM.out.u64s.ext HX.out) (H.out.ext HXW.out)).mono ?_;rintro e w5 ⟨rfl,hx5⟩;rw [decide_eq_true (show l=l from rfl)];have HX5:=Qq (HXW.out.trans hx5);clear hx5;go_wp2_with fail;go_ret
   first
   |exact⟨true,rfl,HX5.out,iff_of_true rfl ⟨HV.out,HP.out⟩⟩
   |exact⟨true,rfl,HX5.out,iff_of_true rfl ⟨trivial,HP.out⟩⟩
 ·skip
  go_enter Tryz.func87,Tryz.ntmps87;go_wp2_with fail;refine(valid02_any _ l _ H.out HW.out).mono ?_;rintro e w2 ⟨rfl,hx2⟩;rw [HV.out];have HX2:=Qq hx2;have HNEW:=Qq (show ∀(j:Nat) u,(uV l)[j]?=some u->(w2.alloc (.cells #[] 40)).cell? (ad.add j)=some u from row_of_u64 fun i hi=>((hx2.alloc _).cell (p:=ad.add i) (Qj hadl)).trans (HAD.out i hi));have HRE:=Qq (row_empty w2 40);clear hx2;go_wp2_with(at_builtin;refine wpList_append_own_at _ rfl _ _ 27 rfl w2.heap.size 40 iU (.int .u64 0) 1 8 Tryz.underlying27 hiU hzU0 hzU1 hzU2 rfl (by decide) _ 0 [] rfl HRE.out ad n c (uV l) rfl (by rw [uv_len,Nat.mul_one];exact HN.out.symm) HNEW.out (uv_one l) hm1 hm2 (by simp) ?_)
  intro v3 w3 hown3 hgrow3 _ _;have HX3:=Qq (show Ext w w3 from(HX2.out.alloc _).grown hgrow3 (fun k hk=>by have h1:=HX2.out.size;have h2:w2.heap.size=k:=Option.some.inj hk;omega));have HM:=Qq (show MadeU w.heap.size w3 v3 l by
   unfold MadeU;rw [<-HN.out];exact row_base hown3 HX2.out.size)
  clear hown3 hgrow3;obtain⟨g,cap,rfl,hgl,hgb,_,hcm2,_,_⟩:=HM.out.slice (by rw [<-HN.out];exact h0);rw [<-HN.out]at HM⊢;clear hgl;go_wp2_with fail;refine(reflexive02_any _ l _ (H.out.ext HX3.out) HW.out HV.out (by rw [<-HN.out];exact h0)).mono ?_;rintro e w4 ⟨u,rfl,hx4,hm4⟩;have HX4:=Qq (HX3.out.trans hx4);have HM4:=Qq hm4;obtain⟨out,hout⟩:∃o,o=reflK l l.length:=⟨_,rfl⟩;have HIFF:=Qq (show out=l↔propP 2 l by rw [hout,refl_same];unfold propP;rw [if_neg (by decide),if_pos rfl]);rw [<-hout]at HM4 hm4;clear hout hx4;obtain⟨Au,cu,rfl,_⟩:=hm4.u64s;clear hm4;go_wp2_with fail;refine(same02_any _ _ out l _ HM4.out.u64s (H.out.ext HX4.out)).mono ?_
  rintro e w5 ⟨rfl,hx5⟩;have HX5:=Qq (HX4.out.trans hx5);clear hx5;cases hd:decide (out=l)
  ·have HE:=Qq (show ¬propP 2 l from fun h=>of_decide_eq_false hd (HIFF.out.2 h));clear hd;go_wp2_with fail;go_ret
   first
   |exact⟨false,rfl,HX5.out,iff_of_false (by decide) fun h=>HE.out h.2⟩
   |exact .inl ⟨rfl,HX5.out,fun _=>HE.out⟩
  have HE:=Qq (show propP 2 l from HIFF.out.1 (of_decide_eq_true hd));clear hd;go_wp2_with fail;go_ret
  first
  |exact⟨true,rfl,HX5.out,iff_of_true rfl ⟨HV.out,HE.out⟩⟩
  |exact⟨true,rfl,HX5.out,iff_of_true rfl ⟨trivial,HE.out⟩⟩
 ·skip
  go_enter Tryz.func87,Tryz.ntmps87;go_wp2_with fail;refine(valid02_any _ l _ H.out HW.out).mono ?_;rintro e w2 ⟨rfl,hx2⟩;rw [HV.out];have HX2:=Qq hx2;have HNEW:=Qq (show ∀(j:Nat) u,(uV l)[j]?=some u->(w2.alloc (.cells #[] 40)).cell? (ad.add j)=some u from row_of_u64 fun i hi=>((hx2.alloc _).cell (p:=ad.add i) (Qj hadl)).trans (HAD.out i hi));have HRE:=Qq (row_empty w2 40);clear hx2;go_wp2_with(at_builtin;refine wpList_append_own_at _ rfl _ _ 27 rfl w2.heap.size 40 iU (.int .u64 0) 1 8 Tryz.underlying27 hiU hzU0 hzU1 hzU2 rfl (by decide) _ 0 [] rfl HRE.out ad n c (uV l) rfl (by rw [uv_len,Nat.mul_one];exact HN.out.symm) HNEW.out (uv_one l) hm1 hm2 (by simp) ?_)
  intro v3 w3 hown3 hgrow3 _ _;have HX3:=Qq (show Ext w w3 from(HX2.out.alloc _).grown hgrow3 (fun k hk=>by have h1:=HX2.out.size;have h2:w2.heap.size=k:=Option.some.inj hk;omega));have HM:=Qq (show MadeU w.heap.size w3 v3 l by
   unfold MadeU;rw [<-HN.out];exact row_base hown3 HX2.out.size)
  clear hown3 hgrow3;obtain⟨g,cap,rfl,hgl,hgb,_,hcm2,_,_⟩:=HM.out.slice (by rw [<-HN.out];exact h0);rw [<-HN.out]at HM⊢;clear hgl;go_wp2_with fail;refine(transitive02_any _ l _ (H.out.ext HX3.out) HW.out HV.out (by rw [<-HN.out];exact h0)).mono ?_;rintro e w4 ⟨u,rfl,hx4,out,hm4,hif⟩;have HX4:=Qq (HX3.out.trans hx4);have HM4:=Qq hm4;have HIFF:=Qq (show out=l↔propP 4 l by rw [hif];unfold propP;rw [if_neg (by decide),if_neg (by decide),if_pos rfl]);clear hx4 hif;obtain⟨Au,cu,rfl,_⟩:=hm4.u64s;clear hm4;go_wp2_with fail;refine(same02_any _ _ out l _ HM4.out.u64s (H.out.ext HX4.out)).mono ?_;rintro e w5 ⟨rfl,hx5⟩
  have HX5:=Qq (HX4.out.trans hx5);clear hx5;cases hd:decide (out=l)
  ·have HE:=Qq (show ¬propP 4 l from fun h=>of_decide_eq_false hd (HIFF.out.2 h));clear hd;go_wp2_with fail;go_ret
   first
   |exact⟨false,rfl,HX5.out,iff_of_false (by decide) fun h=>HE.out h.2⟩
   |exact .inl ⟨rfl,HX5.out,fun _=>HE.out⟩
  have HE:=Qq (show propP 4 l from HIFF.out.1 (of_decide_eq_true hd));clear hd;go_wp2_with fail;go_ret
  first
  |exact⟨true,rfl,HX5.out,iff_of_true rfl ⟨HV.out,HE.out⟩⟩
  |exact⟨true,rfl,HX5.out,iff_of_true rfl ⟨trivial,HE.out⟩⟩
 skip
 go_enter Tryz.func87,Tryz.ntmps87;go_wp2_with fail;refine(valid02_any _ l _ H.out HW.out).mono ?_;rintro e w2 ⟨rfl,hx2⟩;rw [HV.out];have HX2:=Qq hx2;have HNEW:=Qq (show ∀(j:Nat) u,(uV l)[j]?=some u->(w2.alloc (.cells #[] 40)).cell? (ad.add j)=some u from row_of_u64 fun i hi=>((hx2.alloc _).cell (p:=ad.add i) (Qj hadl)).trans (HAD.out i hi));have HRE:=Qq (row_empty w2 40);clear hx2;go_wp2_with(at_builtin;refine wpList_append_own_at _ rfl _ _ 27 rfl w2.heap.size 40 iU (.int .u64 0) 1 8 Tryz.underlying27 hiU hzU0 hzU1 hzU2 rfl (by decide) _ 0 [] rfl HRE.out ad n c (uV l) rfl (by rw [uv_len,Nat.mul_one];exact HN.out.symm) HNEW.out (uv_one l) hm1 hm2 (by simp) ?_)
 intro v3 w3 hown3 hgrow3 _ _;have HX3:=Qq (show Ext w w3 from(HX2.out.alloc _).grown hgrow3 (fun k hk=>by have h1:=HX2.out.size;have h2:w2.heap.size=k:=Option.some.inj hk;omega));have HM:=Qq (show MadeU w.heap.size w3 v3 l by
  unfold MadeU;rw [<-HN.out];exact row_base hown3 HX2.out.size)
 clear hown3 hgrow3;obtain⟨g,cap,rfl,hgl,hgb,_,hcm2,_,_⟩:=HM.out.slice (by rw [<-HN.out];exact h0);rw [<-HN.out]at HM⊢;clear hgl;go_wp2_with fail;refine(euclidean02_any _ l _ (H.out.ext HX3.out) HW.out HV.out (by rw [<-HN.out];exact h0)).mono ?_;rintro e w4 ⟨u,rfl,hx4,out,hm4,hif⟩;have HX4:=Qq (HX3.out.trans hx4);have HM4:=Qq hm4;have HIFF:=Qq (show out=l↔propP 5 l by rw [hif];unfold propP;rw [if_neg (by decide),if_neg (by decide),if_neg (by decide)]);clear hx4 hif;obtain⟨Au,cu,rfl,_⟩:=hm4.u64s;clear hm4;go_wp2_with fail;refine(same02_any _ _ out l _ HM4.out.u64s (H.out.ext HX4.out)).mono ?_;rintro e w5 ⟨rfl,hx5⟩
 have HX5:=Qq (HX4.out.trans hx5);clear hx5;cases hd:decide (out=l)
 ·have HE:=Qq (show ¬propP 5 l from fun h=>of_decide_eq_false hd (HIFF.out.2 h));clear hd;go_wp2_with fail;go_ret
  first
  |exact⟨false,rfl,HX5.out,iff_of_false (by decide) fun h=>HE.out h.2⟩
  |exact .inl ⟨rfl,HX5.out,fun _=>HE.out⟩
 have HE:=Qq (show propP 5 l from HIFF.out.1 (of_decide_eq_true hd));clear hd;go_wp2_with fail;go_ret
 first
 |exact⟨true,rfl,HX5.out,iff_of_true rfl ⟨HV.out,HE.out⟩⟩
 |exact⟨true,rfl,HX5.out,iff_of_true rfl ⟨trivial,HE.out⟩⟩
def propsL(lg:Int):List Int:=if lg=0 then []else if lg=1 then [1]else if lg=2 then [2]else if lg=3 then [4]else if lg=4 then [2,4]else if lg=5 then [1,4,5]else [2,4,5]
def p15(lg:Int):Int:=if 0<=lg/\lg<=6 then 0 else 1
theorem props_mem {lg q:Int}(h:q∈propsL lg):q=1\/q=2\/q=4\/q=5:=by
 unfold propsL at h
 repeat' split at h
 all_goals(simp at h;try omega)
theorem ints_lit(w:World)(l:List Int)(t:TypeId)(hl:l.length<=10):Ints (w.alloc (.cells (l.map (Value.int .i64)).toArray t)) (.slice (some ⟨w.heap.size,0,none⟩) l.length l.length) l:=by
 refine⟨_,_,rfl,Nat.le_refl _,by unfold maxLen;omega,fun _=>⟨_,rfl,by simp,fun k z hk=> ?_⟩⟩;have h1:=heap_alloc_new w (.cells (l.map (Value.int .i64)).toArray t);rw [addr_zero];have h2:(w.alloc (.cells (l.map (Value.int .i64)).toArray t)).heap[w.heap.size]?=some (Obj.cells (l.map (Value.int .i64)).toArray t (0,0)):=h1;simp only [World.cell?,h2];rw [List.getElem?_toArray,List.getElem?_map,hk];rfl
theorem props15_any(lg:Int)(w:World):
 Calls Tryz.prog 38 #[.int .i64 lg] w fun e w'=>∃v,e=.returned (.tuple #[v,.int .i64 (p15 lg)])/\Ext w w'/\Hid (p15 lg=0->Ints w' v (propsL lg)):=by
 by_cases hc:0<=lg/\lg<=6
 ·have hcl:lg=0\/lg=1\/lg=2\/lg=3\/lg=4\/lg=5\/lg=6:=by omega
  clear hc;rcases hcl with rfl|rfl|rfl|rfl|rfl|rfl|rfl
  all_goals
   go_enter Tryz.func38,Tryz.ntmps38;go_wp2_with fail;go_ret2
   first
   |exact⟨_,rfl,Qz,Qq fun _=>Ints.none_ _⟩
   |exact⟨_,rfl,Qz.alloc _,Qq fun _=>ints_lit w [1] _ (by decide)⟩
   |exact⟨_,rfl,Qz.alloc _,Qq fun _=>ints_lit w [2] _ (by decide)⟩
   |exact⟨_,rfl,Qz.alloc _,Qq fun _=>ints_lit w [4] _ (by decide)⟩
   |exact⟨_,rfl,Qz.alloc _,Qq fun _=>ints_lit w [2,4] _ (by decide)⟩
   |exact⟨_,rfl,Qz.alloc _,Qq fun _=>ints_lit w [1,4,5] _ (by decide)⟩
   |exact⟨_,rfl,Qz.alloc _,Qq fun _=>ints_lit w [2,4,5] _ (by decide)⟩
 have h0:(lg==0)=false:=by rw [beq_eq_false_iff_ne];omega
 have h1:(lg==1)=false:=by rw [beq_eq_false_iff_ne];omega
 have h2:(lg==2)=false:=by rw [beq_eq_false_iff_ne];omega
 have h3:(lg==3)=false:=by rw [beq_eq_false_iff_ne];omega
 have h4:(lg==4)=false:=by rw [beq_eq_false_iff_ne];omega
 have h5:(lg==5)=false:=by rw [beq_eq_false_iff_ne];omega
 have h6:(lg==6)=false:=by rw [beq_eq_false_iff_ne];omega
 have HC:=Qq (show p15 lg=1 from if_neg hc);clear hc;go_enter Tryz.func38,Tryz.ntmps38;go_wp2_with fail;go_ret2;exact⟨_,by rw [HC.out] <;> rfl,Qz,Qq fun e=>by rw [HC.out]at e;cases e⟩
def goodR(lg:Int)(l:List Nat):Prop:=∀q∈propsL lg,propP q l
theorem ints_get {w:World} {A:Option Addr} {c k:Nat} {l:List Int}(h:IntsAt w A c l)(hk:k < l.length):∃ad,A=some ad/\ad.block < w.heap.size/\w.cell? (ad.add k)=some (.int .i64 (l.getD k 0)):=by
 obtain⟨ad,e,hl,hc⟩:=h.2.2 (by intro e;rw [e]at hk;simp at hk);exact⟨ad,e,hl,hc k _ (by rw [Qk,Qv hk];rfl)⟩
theorem props_len(lg:Int):(propsL lg).length<=3:=by
 unfold propsL
 repeat' split
 all_goals simp
theorem has15_any(v:Value)(l:List Nat)(lg:Int)(w:World)(h:U64s w v l)(hw:∀s∈l,word s)(h0:0 < l.length)(hlg:0<=lg/\lg<=6)(hv:valid02 l=true):
 Calls Tryz.prog 40 #[v,.int .i64 lg] w fun e w'=>∃b:Bool,e=.returned (.bool b)/\Ext w w'/\Hid (b=true↔goodR lg l):=by
 have H:=Qq h;have HW:=Qq hw;have HP0:=Qq (show p15 lg=0 from if_pos hlg);have HV:=Qq hv;obtain⟨A,c,rfl,_⟩:=h;clear hw hlg hv;go_enter Tryz.func40,Tryz.ntmps40;go_wp2_with fail;refine(props15_any lg _).mono ?_;rintro e w2 ⟨vp,rfl,hx2,hi⟩;rw [HP0.out];obtain⟨Ap,cp,rfl,hia⟩:=hi.out HP0.out;have HIA:=Qq hia;have HX2:=Qq hx2;have hpl:=props_len lg;obtain⟨ps,hps⟩:∃ps,ps=propsL lg:=⟨_,rfl⟩;have HPS:=Qq hps;rw [<-hps]at HIA hpl⊢;clear hi hia hx2 hps;go_wp2_with fail;refine(valid02_any _ l _ (H.out.ext HX2.out) HW.out).mono ?_;rintro e w3 ⟨rfl,hx3⟩;rw [HV.out];have HX3:=Qq hx3;have HXW:=Qq (HX2.out.trans hx3)
 clear hx3;go_wp2_with fail;go_loopw [7] (fun v wr=>∃k:Nat,v=.int .i64 (k:Int)/\k<=ps.length/\Hid (Ext w3 wr/\∀j,j < k->propP (ps.getD j 0) l)) (fun v _=>ps.length - (intOf v).toNat)
 case atStart=>exact⟨0,rfl,Nat.zero_le _,Qq ⟨Qz,fun j hj=>absurd hj (by omega)⟩⟩
 case round =>
  obtain⟨k,rfl,hk,HREL⟩:=hrel;have HX:=Qq HREL.out.1;have HJ:=Qq HREL.out.2;clear HREL;by_cases hlt2:k < ps.length
  ·have hk1:(k:Int) < (ps.length:Int):=by omega
   obtain⟨ad,rfl,hadl,hc⟩:=ints_get HIA.out hlt2;have a0:=((HX3.out.trans HX.out).cell (p:=ad.add k) (Qj hadl)).trans hc;have al:(ad.add k).block < wr.heap.size:=by rw [block_of_add];exact Qy hadl (HX3.out.trans HX.out).size
   have HNX:=Qq (show propP (ps.getD k 0) l->∀j,j < k+1->propP (ps.getD j 0) l from fun h=>upto2 (P:=fun j=>propP (ps.getD j 0) l) HJ.out h);have HMEM:=Qq (show ps.getD k 0∈propsL lg by rw [<-HPS.out,Qk,Qv hlt2];exact List.getElem_mem hlt2);obtain⟨q,hq⟩:∃q,q=ps.getD k 0:=⟨_,rfl⟩;rw [<-hq]at a0 HNX HMEM;have HQ:=Qq (props_mem HMEM.out);clear hc hq;go_wp2_with fail;refine(has02_any _ l q _ (H.out.ext (HXW.out.trans HX.out)) HW.out h0 HQ.out).mono ?_;rintro e w4 ⟨b,rfl,hx4,hb⟩;have HX4:=Qq (HX.out.trans hx4);have HB:=Qq hb;clear hx4 hb;cases b
   ·have HE:=Qq (show ¬goodR lg l from fun h=>absurd (HB.out.2 ⟨HV.out,h q HMEM.out⟩) (by decide));go_wp2_with fail;go_ret
    first
    |exact⟨false,rfl,HXW.out.trans HX4.out,Qq (iff_of_false (by decide) HE.out)⟩
    |exact .inl ⟨rfl,HXW.out.trans HX4.out,Qq (iff_of_false (by decide) HE.out)⟩
   have HP:=Qq (HNX.out (HB.out.1 rfl).2);go_wp2_with fail;go_roundw
   case rel=>exact⟨k+1,by go_num,by omega,Qq ⟨HX4.out,HP.out⟩⟩
   case measure=>simp [intOf];omega
  obtain rfl:ps.length=k:=by omega
  have HE:=Qq (show goodR lg l from fun q hq=>by
   rw [<-HPS.out]at hq;obtain⟨j,hj,e⟩:=List.getElem_of_mem hq;have:=HJ.out j hj;rw [Qk,Qv hj]at this;have h2:propP ps[j] l:=this;rw [e]at h2;exact h2)
  go_wp2_with fail;go_ret
  first
  |exact⟨true,rfl,HXW.out.trans HX.out,Qq (iff_of_true rfl HE.out)⟩
  |exact .inr ⟨rfl,HXW.out.trans HX.out,Qq (iff_of_true rfl HE.out)⟩
structure GoodM (md:Md) (lg:Int):Prop where
 lgr:0<=lg/\lg<=6
 ck:checkM md=0
 rel:∀r∈md.rel,goodR lg r
theorem checkM_zero {md:Md}(h:checkM md=0):1<=md.n/\md.n<=64/\md.rel.length<=4/\md.val.length<=8/\(∀r∈md.rel,(r.length:Int)=md.n)/\beyondN md.val md.n.toNat=false/\∀r∈md.rel,beyondN r md.n.toNat=false:=by
 unfold checkM at h;by_cases h1:md.n < 1\/64 < md.n
 ·rw [if_pos h1]at h;cases h
 rw [if_neg h1]at h;by_cases h2:4 < md.rel.length\/8 < md.val.length
 ·rw [if_pos h2]at h;cases h
 rw [if_neg h2]at h;cases h3:md.rel.any (fun r=> !decide ((r.length:Int)=md.n))
 ·rw [h3]at h;cases h4:beyondN md.val md.n.toNat
  ·rw [h4]at h;cases h5:md.rel.any (fun r=>beyondN r md.n.toNat)
   ·rw [List.any_eq_false]at h3 h5;exact⟨by omega,by omega,by omega,by omega,fun r hr=>by simpa using h3 r hr,rfl,fun r hr=>by simpa using h5 r hr⟩
   rw [h5]at h;cases h
  rw [h4]at h;cases h
 rw [h3]at h;cases h
theorem rel_valid {md:Md}(h:checkM md=0) {r:List Nat}(hr:r∈md.rel):valid02 r=true/\0 < r.length:=by
 obtain⟨h1,h2,_,_,h3,_,h4⟩:=checkM_zero h;have h5:=h3 r hr;have h6:=h4 r hr;have e:md.n.toNat=r.length:=by omega
 rw [e]at h6;exact⟨valid_iff.2 ⟨by omega,h6⟩,by omega⟩
theorem in15_any(v:Value)(md:Md)(lg:Int)(w:World)(h:MdV w v md)(hok:md.ok):
 Calls Tryz.prog 15 #[v,.int .i64 lg] w fun e w'=>∃b:Bool,e=.returned (.bool b)/\Ext w w'/\Hid (b=true↔GoodM md lg):=by
 have H:=Qq h;have HOK:=Qq hok;obtain⟨vv,vr,rfl,hv,hr⟩:=h;obtain⟨Av,cv,rfl,_⟩:=hv;obtain⟨Ar,cr,rfl,hrl1,hrl2,HR⟩:=u64ss_at hr;unfold maxLen at hrl2;obtain⟨n,hn⟩:∃n,n=md.n:=⟨_,rfl⟩;have HN:=Qq hn;rw [<-hn]at H⊢;have HX0:=Qq (show Ext w (w.alloc (.cells #[.int .i64 n,.slice Av md.val.length cv,.slice Ar md.rel.length cr] 38))from Qz.alloc _);have HB0:=Qq (show(w.alloc (.cells #[.int .i64 n,.slice Av md.val.length cv,.slice Ar md.rel.length cr] 38)).heap[w.heap.size]?=some (.cells #[.int .i64 n,.slice Av md.val.length cv,.slice Ar md.rel.length cr] 38 (0,0))from heap_alloc_new _ _);clear hr hok hn;by_cases hlg:0<=lg/\lg<=6
 ·have HP0:=Qq (show p15 lg=0 from if_pos hlg);have HLG:=Qq hlg;clear hlg;obtain⟨z,hz⟩:∃z,z=checkM md:=⟨_,rfl⟩;have HZ:=Qq hz;clear hz;go_enter Tryz.func15,Tryz.ntmps15;go_wp2_with fail;refine(props15_any lg _).mono ?_;rintro e w2 ⟨vp,rfl,hx2,hi⟩;rw [HP0.out];obtain⟨Ap,cp,rfl,_⟩:=hi.out HP0.out;have HX2:=Qq (HX0.out.trans hx2);have HB2:=Qq ((hx2.block (lt_heap HB0.out)).trans HB0.out);obtain⟨e0,e1,e2,eb⟩:=cells3y HB2.out;clear hi hx2;go_wp2_with fail;refine(check13_any _ md _ (H.out.ext HX2.out) HOK.out).mono ?_;rintro e w3 ⟨rfl,hx3⟩;rw [<-HZ.out];have HX3:=Qq (HX2.out.trans hx3);have HB3:=Qq ((hx3.block (lt_heap HB2.out)).trans HB2.out)
  clear hx3 e0 e1 e2 eb;by_cases hz0:z=0
  ·subst hz0;have HCK:=Qq (show checkM md=0 from HZ.out.symm);obtain⟨rl,hrl⟩:∃l,l=md.rel:=⟨_,rfl⟩;have HRLE:=Qq hrl;have HRO:=Qq (show ∀r∈rl,∀s∈r,word s by rw [hrl];exact HOK.out.rel);have HRV:=Qq (show ∀r∈rl,valid02 r=true/\0 < r.length by rw [hrl];exact fun r hr=>rel_valid HCK.out hr);rw [<-hrl]at HR HB3 hrl1⊢;clear hrl HB0 HB2;go_wp2_with fail;go_loopw [7] (fun v wr=>∃k:Nat,v=.int .i64 (k:Int)/\k<=rl.length/\Hid (Ext w3 wr/\∀j,j < k->goodR lg (rl.getD j []))) (fun v _=>rl.length - (intOf v).toNat)
   case atStart=>exact⟨0,rfl,Nat.zero_le _,Qq ⟨Qz,fun j hj=>absurd hj (by omega)⟩⟩
   case round =>
    obtain⟨k,rfl,hk,HREL⟩:=hrel;have HX:=Qq HREL.out.1;have HJ:=Qq HREL.out.2;have HXW:=Qq (HX3.out.trans HX.out);obtain⟨e0,e1,e2,eb⟩:=cells3y ((HX.out.block (lt_heap HB3.out)).trans HB3.out);clear HREL;by_cases hlt2:k < rl.length
    ·have hk1:(k:Int) < (rl.length:Int):=by omega
     obtain⟨ad,u,rfl,hadl,hc,hu⟩:=HR.out k hlt2;have HU:=Qq (hu.ext HXW.out);have HMEM:=Qq (show rl.getD k []∈rl by rw [Qk,Qv hlt2];exact List.getElem_mem hlt2);obtain⟨Au,cu,rfl,_⟩:=hu;have a0:=(HXW.out.cell (p:=ad.add k) (Qj hadl)).trans hc;have al:(ad.add k).block < wr.heap.size:=by rw [block_of_add];exact Qy hadl HXW.out.size
     have HNX:=Qq (show goodR lg (rl.getD k [])->∀j,j < k+1->goodR lg (rl.getD j [])from fun h=>upto2 (P:=fun j=>goodR lg (rl.getD j [])) HJ.out h);obtain⟨r,hr⟩:∃r,r=rl.getD k []:=⟨_,rfl⟩;rw [<-hr]at a0 HNX HMEM HU;have HVR:=Qq (HRV.out r HMEM.out);clear hc hr;go_wp2_with fail;refine(has15_any _ r lg _ HU.out (HRO.out r HMEM.out) HVR.out.2 HLG.out HVR.out.1).mono ?_;rintro e w4 ⟨b,rfl,hx4,hb⟩;have HX4:=Qq (HX.out.trans hx4);have HB:=Qq hb.out;clear hx4 hb e0 e1 e2 eb;cases b
     ·have HE:=Qq (show ¬GoodM md lg from fun h=>absurd (HB.out.2 (h.rel r (by rw [<-HRLE.out];exact HMEM.out))) (by decide));go_wp2_with fail;go_ret
      first
      |exact⟨false,rfl,HX3.out.trans HX4.out,Qq (iff_of_false (by decide) HE.out)⟩
      |exact .inl ⟨rfl,HX3.out.trans HX4.out,Qq (iff_of_false (by decide) HE.out)⟩
     have HP:=Qq (HNX.out (HB.out.1 rfl));go_wp2_with fail;go_roundw
     case rel=>exact⟨k+1,by go_num,by omega,Qq ⟨HX4.out,HP.out⟩⟩
     case measure=>simp [intOf];omega
    obtain rfl:rl.length=k:=by omega
    have HE:=Qq (show GoodM md lg from⟨HLG.out,HCK.out,fun r hr=>by
     rw [<-HRLE.out]at hr;obtain⟨j,hj,e⟩:=List.getElem_of_mem hr;have:=HJ.out j hj;rw [Qk,Qv hj]at this;have h2:goodR lg rl[j]:=this;rw [e]at h2;exact h2⟩)
    go_wp2_with fail;go_ret
    first
    |exact⟨true,rfl,HXW.out,Qq (iff_of_true rfl HE.out)⟩
    |exact .inr ⟨rfl,HXW.out,Qq (iff_of_true rfl HE.out)⟩
  have HE:=Qq (show ¬GoodM md lg from fun h=>hz0 (HZ.out.trans h.ck));have hzb:(z==0)=false:=by rw [beq_eq_false_iff_ne];exact hz0
  clear hz0;go_wp2_with fail;go_ret
  first
  |exact⟨false,rfl,HX3.out,Qq (iff_of_false (by decide) HE.out)⟩
  |exact .inl ⟨rfl,HX3.out,Qq (iff_of_false (by decide) HE.out)⟩
 have HP0:=Qq (show p15 lg=1 from if_neg hlg);have HE:=Qq (show ¬GoodM md lg from fun h=>hlg h.lgr);clear hlg;go_enter Tryz.func15,Tryz.ntmps15;go_wp2_with fail;refine(props15_any lg _).mono ?_;rintro e w2 ⟨vp,rfl,hx2,hi⟩;rw [HP0.out];have HX2:=Qq (HX0.out.trans hx2);clear hi hx2;go_wp2_with fail;go_ret
 first
 |exact⟨false,rfl,HX2.out,Qq (iff_of_false (by decide) HE.out)⟩
 |exact .inl ⟨rfl,HX2.out,Qq (iff_of_false (by decide) HE.out)⟩
def grpS(rl:List (List Nat))(gn:Nat)(meet:Bool)(i s a:Nat):Nat:=if gn.testBit a then(if meet then s&&&(rl.getD a []).getD i 0 else s|||(rl.getD a []).getD i 0)else s
def grpN(rl:List (List Nat))(gn:Nat)(meet:Bool)(n i:Nat):Nat:=(List.range rl.length).foldl (grpS rl gn meet i) (if meet then allW n else 0)
theorem grpS_word {rl:List (List Nat)}(hw:∀r∈rl,∀s∈r,word s) {gn i s a:Nat} {meet:Bool}(hs:word s):word (grpS rl gn meet i s a):=by
 unfold grpS;have h1:word ((rl.getD a []).getD i 0):=getD_word (getD_words hw a) i
 split
 ·split
  ·exact and_word hs
  exact or_word hs h1
 exact hs
theorem grp_word {rl:List (List Nat)}(hw:∀r∈rl,∀s∈r,word s) {gn n i:Nat} {meet:Bool}(hn:n<=64):word (grpN rl gn meet n i):=by
 unfold grpN;refine fold_word (fun s a h=>grpS_word hw h) _ _ ?_
 split
 ·exact allw_word hn
 show(0:Nat) < _;omega
theorem range_snocG {α:Type}(g:Nat->α)(k:Nat):(List.range (k+1)).map g=(List.range k).map g++ [g k]:=by
 rw [List.range_succ,List.map_append];rfl
theorem shl_le {k gn:Nat}(hk:k<=4)(hg:gn < 2^k):¬wrap64 ((2:Int)^k)<=(gn:Int):=by
 have hc:k=0\/k=1\/k=2\/k=3\/k=4:=by omega
 rcases hc with rfl|rfl|rfl|rfl|rfl <;>(unfold wrap64;simp at hg⊢;omega)
theorem group_any(meet:Bool)(v:Value)(md:Md)(gn:Nat)(w:World)(h:MdV w v md)(hok:md.ok)(hck:checkM md=0)(hg1:1<=gn)(hg:gn < 2^md.rel.length):
 Calls Tryz.prog 161 #[v,.int .i64 (gn:Int),.bool meet] w fun e w'=>∃u,e=.returned u/\Ext w w'/\MadeU w.heap.size w' u ((List.range md.n.toNat).map (grpN md.rel gn meet md.n.toNat)):=by
 have H:=Qq h;have HOK:=Qq hok;have HCK:=Qq hck;obtain⟨hn1,hn64,hr4,_,hrl0,_,_⟩:=checkM_zero hck;obtain⟨iU,hiU,hzU0,hzU1,hzU2⟩:=info_parts tInfoU8;obtain⟨vv,vr,rfl,hv,hr⟩:=h;obtain⟨Av,cv,rfl,_⟩:=hv;obtain⟨Ar,cr,rfl,hrl1,hrl2,HR⟩:=u64ss_at hr;obtain⟨n,hnn⟩:=Int.eq_ofNat_of_zero_le (show 0<=md.n by omega);rw [hnn]at hn1 hn64 H hrl0⊢;have hnt:((n:Nat):Int).toNat=n:=Int.toNat_natCast n;rw [hnt];have hn65:n<=64:=by omega
 have hg2:=decide_eq_false (shl_le hr4 hg);have hg3:decide ((gn:Int) < 1)=false:=decide_eq_false (by omega);have hmin:min md.rel.length 64=md.rel.length:=by omega
 obtain⟨rl,hrl⟩:∃l,l=md.rel:=⟨_,rfl⟩;have HRO:=Qq (show ∀r∈rl,∀s∈r,word s by rw [hrl];exact hok.rel);have HRL0:=Qq (show ∀r∈rl,r.length=n by rw [hrl];exact fun r hr=>by have:=hrl0 r hr;omega);rw [<-hrl]at HR hrl1 hr4 hg2 hmin⊢;have HX0:=Qq (show Ext w (w.alloc (.cells #[.int .i64 (n:Int),.slice Av md.val.length cv,.slice Ar rl.length cr] 38))from Qz.alloc _);have HB0:=Qq (show(w.alloc (.cells #[.int .i64 (n:Int),.slice Av md.val.length cv,.slice Ar rl.length cr] 38)).heap[w.heap.size]?=some (.cells #[.int .i64 (n:Int),.slice Av md.val.length cv,.slice Ar rl.length cr] 38 (0,0))from heap_alloc_new _ _)
 have H2:=Qq (show MdV w (.agg #[.int .i64 (n:Int),.slice Av md.val.length cv,.slice Ar rl.length cr]) md by rw [hrl];exact H.out);clear hr hok hck hnn hrl hg hrl0 hnt H hg1;go_enter Tryz.func161,Tryz.ntmps161;go_wp2_with fail;refine(check13_any _ md _ (H2.out.ext HX0.out) HOK.out).mono ?_;rintro e w1 ⟨rfl,hx1⟩;rw [HCK.out];have HX1:=Qq (HX0.out.trans hx1);have HB1:=Qq ((hx1.block (lt_heap HB0.out)).trans HB0.out);obtain⟨e0,e1,e2,eb⟩:=cells3y HB1.out;obtain⟨b,hb⟩:∃b,b=w.heap.size:=⟨_,rfl⟩;rw [<-hb]at e0 e1 e2 eb HB1⊢;have HBS:=Qq hb;clear hx1 HB0 hb;go_wp2_with fail;clear e0 e1 e2 eb;go_loopw [7,8] (fun vo vi wr=>∃i:Nat,vi=.int .i64 (i:Int)/\i<=n/\Hid (Ext w1 wr/\MadeU w1.heap.size wr vo ((List.range i).map (grpN rl gn meet n)))) (fun _ v _=>n - (intOf v).toNat)
 case atStart=>exact⟨0,rfl,Nat.zero_le _,Qq ⟨Qz,MadeU.nil _ _⟩⟩
 case round =>
  obtain⟨i,rfl,hi,HREL⟩:=hrel;have HXA:=Qq HREL.out.1;have HRW:=Qq HREL.out.2;obtain⟨out,hout⟩:∃o,o=(List.range i).map (grpN rl gn meet n):=⟨_,rfl⟩;have hol:out.length<=n:=by rw [hout];simpa using hi
  have HOUT:=Qq hout;rw [<-hout]at HRW;obtain⟨Ax,cx,rfl⟩:=slice_of_row HRW.out;obtain⟨e0,e1,e2,eb⟩:=cells3y ((HXA.out.block (lt_heap HB1.out)).trans HB1.out);clear HREL hout;by_cases hlt2:i < n
  ·have hk1:(i:Int) < (n:Int):=by omega
   obtain⟨wq,hwq⟩:∃v,v=wr:=⟨_,rfl⟩;subst hwq;cases meet
   ·skip
    go_wp2_with fail;clear e0 e1 e2 eb;go_loopw [9,10] (fun vs vi wr=>∃a:Nat,vi=.int .i64 (a:Int)/\a<=rl.length/\∃s:Nat,vs=.int .u64 (s:Int)/\Hid (s=(List.range a).foldl (grpS rl gn false i) 0/\Ext wq wr)) (fun _ v _=>rl.length - (intOf v).toNat)
    case atStart=>exact⟨0,rfl,Nat.zero_le _,0,rfl,Qq ⟨rfl,Qz⟩⟩
    case round =>
     obtain⟨a,rfl,ha,s,rfl,HREL⟩:=hrel;have HSE:=Qq HREL.out.1;have HXB:=Qq HREL.out.2;have HX:=Qq (HXA.out.trans HXB.out);have HSW:=Qq (show word s by rw [HSE.out];exact fold_word (fun s a h=>grpS_word HRO.out h) _ _ (show(0:Nat) < _ by omega));obtain⟨e0,e1,e2,eb⟩:=cells3y ((HX.out.block (lt_heap HB1.out)).trans HB1.out);clear HREL;by_cases hlt3:a < rl.length
     ·have hk2:(a:Int) < (rl.length:Int):=by omega
      have hmin2:min a 64=a:=by omega
      obtain⟨ad,u,rfl,hadl,hcl,hu⟩:=HR.out a hlt3;have hrlen:(rl.getD a []).length=n:=HRL0.out _ (by rw [Qk,Qv hlt3];exact List.getElem_mem hlt3);obtain⟨Au,cu,rfl,_,_,HU⟩:=u64_at hu;rw [hrlen]at hcl HU;obtain⟨ud,rfl,hudl,huc⟩:=HU.out i hlt2;have HXT:=Qq (HX1.out.trans HX.out);have a0:=(HXT.out.cell (p:=ad.add a) (Qj hadl)).trans hcl;have al:(ad.add a).block < wr.heap.size:=by rw [block_of_add];exact Qy hadl HXT.out.size
      have u0:=(HXT.out.cell (p:=ud.add i) (Qj hudl)).trans huc;have ul:(ud.add i).block < wr.heap.size:=by rw [block_of_add];exact Qy hudl HXT.out.size
      have hbt:=shr_mod_two_u gn a;have hop:=bits_or HSW.out (getD_word (getD_words HRO.out a) i);have HST:=Qq (show(List.range (a+1)).foldl (grpS rl gn false i) 0=if gn.testBit a then s|||(rl.getD a []).getD i 0 else s by rw [fold_snoc,<-HSE.out];rfl);obtain⟨x,hx⟩:∃x,x=(rl.getD a []).getD i 0:=⟨_,rfl⟩;rw [<-hx]at u0 hop HST;obtain⟨z,hz⟩:∃z,z=s|||x:=⟨_,rfl⟩;rw [<-hz]at hop HST;clear hcl huc hx hz hrlen hu;cases htb:gn.testBit a
      ·rw [htb]at hbt HST;clear htb;go_wp2_with fail;go_roundw
       case rel=>exact⟨a+1,by go_num,by omega,s,rfl,Qq ⟨by rw [HST.out];rfl,HXB.out⟩⟩
       case measure=>simp [intOf];omega
      rw [htb]at hbt HST;clear htb;go_wp2_with fail;go_roundw
      case rel=>exact⟨a+1,by go_num,by omega,z,rfl,Qq ⟨by rw [HST.out];rfl,HXB.out⟩⟩
      case measure=>simp [intOf];omega
     obtain rfl:rl.length=a:=by omega
     have HGE:=Qq (show grpN rl gn false n i=s by rw [HSE.out];rfl);have hc3:out.length+1<=maxLen:=by unfold maxLen;omega
     have hc4:(out.length+1)*8<=140737488355328:=by omega
     have HRX:=Qq (HRW.out.ext HXB.out);have HXT:=Qq (HX1.out.trans HX.out);go_wp2_with(at_builtin;refine wpList_append_own_at _ rfl _ _ 27 rfl w1.heap.size 40 iU (.int .u64 0) 1 8 Tryz.underlying27 hiU hzU0 hzU1 hzU2 rfl (by decide) _ out.length (uV out) rfl (row_ext HRX.out (Qz.alloc _)) ⟨_,0,none⟩ 1 1 [.int .u64 (s:Int)] rfl rfl (row_new_at _ _ _ (by simp)) (fun u hu=>by rw [List.mem_singleton.1 hu];rfl) hc3 hc4 (Qx HX.out.size (by simp)) ?_);intro v7 w7 hown7 hgrow7 _ _;have HX7:=Qq (show Ext w1 w7 from(HX.out.alloc _).grown hgrow7 (fun k hk=>(HRX.out.lt k hk).1));have HM7:=Qq (show MadeU w1.heap.size w7 v7 ((List.range (i+1)).map (grpN rl gn false n)) by
      rw [range_snocG,<-HOUT.out,HGE.out];unfold MadeU uV;rw [List.map_append,List.length_append];exact hown7)
     obtain⟨A7,c7,rfl⟩:=slice_of_row hown7;clear hown7 hgrow7;go_wp2_with fail;go_roundw
     case rel=>exact⟨i+1,by go_num,by omega,Qq ⟨HX7.out,HM7.out⟩⟩
     case measure=>simp [intOf];omega
   skip
   go_wp2_with fail;refine(rAll13_any n hn65 _).mono ?_;rintro e w2 ⟨rfl,rfl⟩;go_wp2_with fail;clear e0 e1 e2 eb;go_loopw [9,10] (fun vs vi wr=>∃a:Nat,vi=.int .i64 (a:Int)/\a<=rl.length/\∃s:Nat,vs=.int .u64 (s:Int)/\Hid (s=(List.range a).foldl (grpS rl gn true i) (allW n)/\Ext wq wr)) (fun _ v _=>rl.length - (intOf v).toNat)
   case atStart=>exact⟨0,rfl,Nat.zero_le _,allW n,rfl,Qq ⟨rfl,Qz⟩⟩
   case round =>
    obtain⟨a,rfl,ha,s,rfl,HREL⟩:=hrel;have HSE:=Qq HREL.out.1;have HXB:=Qq HREL.out.2;have HX:=Qq (HXA.out.trans HXB.out);have HSW:=Qq (show word s by rw [HSE.out];exact fold_word (fun s a h=>grpS_word HRO.out h) _ _ (allw_word hn65));obtain⟨e0,e1,e2,eb⟩:=cells3y ((HX.out.block (lt_heap HB1.out)).trans HB1.out);clear HREL;by_cases hlt3:a < rl.length
    ·have hk2:(a:Int) < (rl.length:Int):=by omega
     have hmin2:min a 64=a:=by omega
     obtain⟨ad,u,rfl,hadl,hcl,hu⟩:=HR.out a hlt3;have hrlen:(rl.getD a []).length=n:=HRL0.out _ (by rw [Qk,Qv hlt3];exact List.getElem_mem hlt3);obtain⟨Au,cu,rfl,_,_,HU⟩:=u64_at hu;rw [hrlen]at hcl HU;obtain⟨ud,rfl,hudl,huc⟩:=HU.out i hlt2;have HXT:=Qq (HX1.out.trans HX.out);have a0:=(HXT.out.cell (p:=ad.add a) (Qj hadl)).trans hcl;have al:(ad.add a).block < wr.heap.size:=by rw [block_of_add];exact Qy hadl HXT.out.size
     have u0:=(HXT.out.cell (p:=ud.add i) (Qj hudl)).trans huc;have ul:(ud.add i).block < wr.heap.size:=by rw [block_of_add];exact Qy hudl HXT.out.size
     have hbt:=shr_mod_two_u gn a;have hop:=bits_and HSW.out (getD_word (getD_words HRO.out a) i);have HST:=Qq (show(List.range (a+1)).foldl (grpS rl gn true i) (allW n)=if gn.testBit a then s&&&(rl.getD a []).getD i 0 else s by rw [fold_snoc,<-HSE.out];rfl);obtain⟨x,hx⟩:∃x,x=(rl.getD a []).getD i 0:=⟨_,rfl⟩;rw [<-hx]at u0 hop HST;obtain⟨z,hz⟩:∃z,z=s&&&x:=⟨_,rfl⟩;rw [<-hz]at hop HST;clear hcl huc hx hz hrlen hu;cases htb:gn.testBit a
     ·rw [htb]at hbt HST;clear htb;go_wp2_with fail;go_roundw
      case rel=>exact⟨a+1,by go_num,by omega,s,rfl,Qq ⟨by rw [HST.out];rfl,HXB.out⟩⟩
      case measure=>simp [intOf];omega
     rw [htb]at hbt HST;clear htb;go_wp2_with fail;go_roundw
     case rel=>exact⟨a+1,by go_num,by omega,z,rfl,Qq ⟨by rw [HST.out];rfl,HXB.out⟩⟩
     case measure=>simp [intOf];omega
    obtain rfl:rl.length=a:=by omega
    have HGE:=Qq (show grpN rl gn true n i=s by rw [HSE.out];rfl);have hc3:out.length+1<=maxLen:=by unfold maxLen;omega
    have hc4:(out.length+1)*8<=140737488355328:=by omega
    have HRX:=Qq (HRW.out.ext HXB.out);have HXT:=Qq (HX1.out.trans HX.out);go_wp2_with(at_builtin;refine wpList_append_own_at _ rfl _ _ 27 rfl w1.heap.size 40 iU (.int .u64 0) 1 8 Tryz.underlying27 hiU hzU0 hzU1 hzU2 rfl (by decide) _ out.length (uV out) rfl (row_ext HRX.out (Qz.alloc _)) ⟨_,0,none⟩ 1 1 [.int .u64 (s:Int)] rfl rfl (row_new_at _ _ _ (by simp)) (fun u hu=>by rw [List.mem_singleton.1 hu];rfl) hc3 hc4 (Qx HX.out.size (by simp)) ?_);intro v7 w7 hown7 hgrow7 _ _;have HX7:=Qq (show Ext w1 w7 from(HX.out.alloc _).grown hgrow7 (fun k hk=>(HRX.out.lt k hk).1));have HM7:=Qq (show MadeU w1.heap.size w7 v7 ((List.range (i+1)).map (grpN rl gn true n)) by
     rw [range_snocG,<-HOUT.out,HGE.out];unfold MadeU uV;rw [List.map_append,List.length_append];exact hown7)
    obtain⟨A7,c7,rfl⟩:=slice_of_row hown7;clear hown7 hgrow7;go_wp2_with fail;go_roundw
    case rel=>exact⟨i+1,by go_num,by omega,Qq ⟨HX7.out,HM7.out⟩⟩
    case measure=>simp [intOf];omega
  obtain rfl:n=i:=by omega
  go_wp2_with fail;go_ret;exact⟨_,rfl,HX1.out.trans HXA.out,by rw [<-HOUT.out];exact row_base HRW.out HX1.out.size⟩
theorem rgroup_any(v:Value)(md:Md)(gn:Nat)(w:World)(h:MdV w v md)(hok:md.ok)(hck:checkM md=0)(hg1:1<=gn)(hg:gn < 2^md.rel.length):
 Calls Tryz.prog 144 #[v,.int .i64 (gn:Int)] w fun e w'=>∃u,e=.returned u/\Ext w w'/\MadeU w.heap.size w' u ((List.range md.n.toNat).map (grpN md.rel gn false md.n.toNat)):=by
 have H:=Qq h;have HO:=Qq hok;have HC:=Qq hck;have HG:=Qq hg;obtain⟨vv,vr,rfl,⟨Av,cv,rfl,_⟩,⟨Ar,cr,rfl,_⟩⟩:=h;clear hok hck hg;go_enter Tryz.func144,Tryz.ntmps144;go_wp2_with fail;refine(group_any false _ md gn _ (H.out.ext (Qz.alloc _)) HO.out HC.out hg1 HG.out).mono ?_;rintro e w1 ⟨u,rfl,hx,hm⟩;have HX:=Qq (((Ext.refl w).alloc _).trans hx);have HM:=Qq (show MadeU w.heap.size w1 u _ from row_base hm (by simp));clear hx hm;go_wp2_with fail;go_ret;exact⟨u,rfl,HX.out,HM.out⟩
theorem rmeet_any(v:Value)(md:Md)(gn:Nat)(w:World)(h:MdV w v md)(hok:md.ok)(hck:checkM md=0)(hg1:1<=gn)(hg:gn < 2^md.rel.length):
 Calls Tryz.prog 145 #[v,.int .i64 (gn:Int)] w fun e w'=>∃u,e=.returned u/\Ext w w'/\MadeU w.heap.size w' u ((List.range md.n.toNat).map (grpN md.rel gn true md.n.toNat)):=by
 have H:=Qq h;have HO:=Qq hok;have HC:=Qq hck;have HG:=Qq hg;obtain⟨vv,vr,rfl,⟨Av,cv,rfl,_⟩,⟨Ar,cr,rfl,_⟩⟩:=h;clear hok hck hg;go_enter Tryz.func145,Tryz.ntmps145;go_wp2_with fail;refine(group_any true _ md gn _ (H.out.ext (Qz.alloc _)) HO.out HC.out hg1 HG.out).mono ?_;rintro e w1 ⟨u,rfl,hx,hm⟩;have HX:=Qq (((Ext.refl w).alloc _).trans hx);have HM:=Qq (show MadeU w.heap.size w1 u _ from row_base hm (by simp));clear hx hm;go_wp2_with fail;go_ret;exact⟨u,rfl,HX.out,HM.out⟩
def OpOk(n:Nd):Prop:=1<=n.op/\n.op<=10
theorem check_nil:check []≠0:=by decide
theorem sub_props {base:List Nd}(hc:check base=0) {k:Nat}(hk:k < base.length):subN base k=(finN base k []).1/\check (subN base k)=0/\(subN base k).length<=base.length:=by
 have e:subN base k=(finN base k []).1:=by
  unfold subN;have e2:(decide ((k:Int) < 0)||decide ((base.length:Int)<=(k:Int)))=false:=by simp;omega
  rw [hc,e2,Int.toNat_natCast];rfl
 have hw:=check_wf hc;have h1:=length_le_pot base (finN base k []).1;have h2:=pot_le hw k [] hk;have h3:=pot_nil base;have hl:(finN base k []).1.length<=base.length:=by omega
 have h4:=finN_lt hw k [] hk;refine⟨e,?_,by rw [e];exact hl⟩;rw [e];refine check_of (by intro e;rw [e]at h4;simp at h4) (by have:=(check_parts hc).2.1;omega) (fin_wf hw k [] hk wf_nil) (fun n hn=> ?_);rcases fin_mem hw k [] hk n hn with h|⟨m,hm,k1,k2,rfl⟩
 ·cases h
 exact(heads_of hc m hm).with_ k1 k2
section
variable {base:List (List Nd)}
def topN(base:List (List Nd))(i:Nat):Nd:=lastN (base.getD i [])
def bodyN(base:List (List Nd))(i:Nat):List Bool:=bif (topN base i).op==9 then tabN base (subN (base.getD i []) (topN base i).x)else []
def condN(base:List (List Nd))(i:Nat):List Bool:=bif (topN base i).op==13 then tabN base (subN (base.getD i []) (topN base i).x)else []
def lastT(base:List (List Nd))(i:Nat):List Bool:=bif (topN base i).op==13 then tabN base (subN (base.getD i []) (topN base i).y)else []
def knAt(base:List (List Nd))(i:Nat):Kn:=⟨(topN base i).i,i,bodyN base i⟩
def cmAt(base:List (List Nd))(i:Nat):Cm:=⟨i,(topN base i).g,condN base i,lastT base i,partsN base (base.getD i [])⟩
theorem knOf_at(i:Nat):knOf base (base.getD i []) i=bif (topN base i).op==9 then [knAt base i]else []:=by
 unfold knOf knAt bodyN topN;cases h:(lastN (base.getD i [])).op==9
 ·rfl
 rfl
theorem cmOf_at(i:Nat):cmOf base (base.getD i []) i=bif (topN base i).op==13 then [cmAt base i]else []:=by
 unfold cmOf cmAt condN lastT topN;cases h:(lastN (base.getD i [])).op==13
 ·rfl
 rfl
theorem kn_mem {k:Kn} :k∈knowsN base↔∃i,i < base.length/\(topN base i).op=9/\k=knAt base i:=by
 unfold knowsN;rw [List.mem_flatMap];constructor
 ·rintro⟨i,hi,hk⟩;rw [knOf_at]at hk;cases h:(topN base i).op==9
  ·rw [h]at hk;cases hk
  rw [h]at hk;exact⟨i,List.mem_range.1 hi,by simpa using h,List.mem_singleton.1 hk⟩
 rintro⟨i,hi,ho,rfl⟩;refine⟨i,List.mem_range.2 hi,?_⟩;rw [knOf_at,ho];exact List.mem_singleton.2 rfl
theorem cm_mem {k:Cm} :k∈commsN base↔∃i,i < base.length/\(topN base i).op=13/\k=cmAt base i:=by
 unfold commsN;rw [List.mem_flatMap];constructor
 ·rintro⟨i,hi,hk⟩;rw [cmOf_at]at hk;cases h:(topN base i).op==13
  ·rw [h]at hk;cases hk
  rw [h]at hk;exact⟨i,List.mem_range.1 hi,by simpa using h,List.mem_singleton.1 hk⟩
 rintro⟨i,hi,ho,rfl⟩;refine⟨i,List.mem_range.2 hi,?_⟩;rw [cmOf_at,ho];exact List.mem_singleton.2 rfl
def posAt(lg:Int)(base:List (List Nd))(a:Int)(t u i:Nat):Bool :=
 bif (topN base i).op==9&&(topN base i).i==a then condL lg (t.testBit i) ((bodyN base i).getD u false) (u.testBit i)else true
theorem pos_places {lg a:Int} {t u:Nat} :possibleN lg (knowsN base) a t u=true↔∀i,i < base.length->posAt lg base a t u i=true:=by
 unfold possibleN;rw [List.all_eq_true];constructor
 ·intro h i hi;unfold posAt;cases ho:(topN base i).op==9
  ·rfl
  cases ha:(topN base i).i==a
  ·rfl
  have h1:=h _ (kn_mem.2 ⟨i,hi,by simpa using ho,rfl⟩);have h2:((knAt base i).agent !=a)=false:=by rw [bne,show((knAt base i).agent==a)=true from ha];rfl
  rw [h2,Bool.false_or]at h1;exact h1
 intro h k hk;obtain⟨i,hi,ho,rfl⟩:=kn_mem.1 hk;have h1:=h i hi;unfold posAt at h1;rw [ho]at h1;cases ha:(topN base i).i==a
 ·have h2:((knAt base i).agent !=a)=true:=by rw [bne,show((knAt base i).agent==a)=false from ha];rfl
  rw [h2];rfl
 rw [ha]at h1;have h3:condL lg (t.testBit i) ((bodyN base i).getD u false) (u.testBit i)=true:=h1;show((knAt base i).agent !=a||condL lg (t.testBit i) ((bodyN base i).getD u false) (u.testBit i))=true;rw [h3,Bool.or_true]
def unfIn(base:List (List Nd))(t i:Nat)(a:Nat):Bool:= !gbit (topN base i).g a||t.testBit (placeN base (unfN a (base.getD i []))).toNat
def cohAt(lg:Int)(base:List (List Nd))(t i:Nat):Bool :=
 bif (topN base i).op==13 then(List.range 4).all (unfIn base t i)==t.testBit i
 else bif (topN base i).op==9 then !(reflN lg&&(t.testBit i&& !(bodyN base i).getD t false))else true
theorem parts_all(t i:Nat):((t&&&partsN base (base.getD i []))==partsN base (base.getD i []))=(List.range 4).all (unfIn base t i):=by
 have hpe:partsN base (base.getD i [])=(((List.range 4).filter fun a=>gbit (topN base i).g a).map fun a=>(placeN base (unfN a (base.getD i []))).toNat).foldl (fun p x=>p|||2^x) 0:=by
  unfold partsN topN;rw [List.foldl_map]
 rw [Bool.eq_iff_iff,and_sub,hpe,List.all_eq_true];constructor
 ·intro h a ha;unfold unfIn;cases hg:gbit (topN base i).g a
  ·rfl
  rw [Bool.not_true,Bool.false_or];refine h _ ?_;rw [fold_bits];simp only [Nat.zero_testBit,Bool.false_or,decide_eq_true_iff,List.mem_map];exact⟨a,List.mem_filter.2 ⟨ha,hg⟩,rfl⟩
 intro h j hj;rw [fold_bits]at hj;simp only [Nat.zero_testBit,Bool.false_or,decide_eq_true_iff,List.mem_map]at hj;obtain⟨a,ha,rfl⟩:=hj;obtain⟨h1,h2⟩:=List.mem_filter.1 ha;have:=h a h1;unfold unfIn at this;rw [h2]at this
 simpa using this
theorem coh_places {lg:Int} {t:Nat} :coherentN lg (knowsN base) (commsN base) t=true↔∀i,i < base.length->cohAt lg base t i=true:=by
 unfold coherentN;rw [Bool.and_eq_true,List.all_eq_true,List.all_eq_true];constructor
 ·rintro⟨h1,h2⟩ i hi;unfold cohAt;cases ho:(topN base i).op==13
  ·cases ho9:(topN base i).op==9
   ·rfl
   exact h2 _ (kn_mem.2 ⟨i,hi,by simpa using ho9,rfl⟩)
  have h3:=h1 _ (cm_mem.2 ⟨i,hi,by simpa using ho,rfl⟩);have h4:(t.testBit i==((t&&&partsN base (base.getD i []))==partsN base (base.getD i [])))=true:=h3;rw [parts_all]at h4;rw [cond_true];rw [beq_iff_eq]at h4⊢;exact h4.symm
 intro h;refine⟨fun c hc=> ?_,fun k hk=> ?_⟩
 ·obtain⟨i,hi,ho,rfl⟩:=cm_mem.1 hc;have h1:=h i hi;unfold cohAt at h1;rw [ho]at h1;show(t.testBit i==((t&&&partsN base (base.getD i []))==partsN base (base.getD i [])))=true;rw [parts_all];have h2:((List.range 4).all (unfIn base t i)==t.testBit i)=true:=h1;rw [beq_iff_eq]at h2⊢;exact h2.symm
 obtain⟨i,hi,ho,rfl⟩:=kn_mem.1 hk;have h1:=h i hi;unfold cohAt at h1;rw [ho]at h1;exact h1
theorem kn_find_at {i:Nat}(hi:i < base.length)(ho:(topN base i).op=9):(knowsN base).find? (fun k=>(k.place:Int)==(i:Int))=some (knAt base i):=by
 cases h:(knowsN base).find? (fun k=>(k.place:Int)==(i:Int))with
 |none =>
  rw [List.find?_eq_none]at h;have:=h _ (kn_mem.2 ⟨i,hi,ho,rfl⟩);simp [knAt]at this
 |some k =>
  have h1:=List.find?_some h;obtain⟨j,_,_,rfl⟩:=kn_mem.1 (List.mem_of_find?_eq_some h);have h2:((j:Nat):Int)=(i:Int):=by simpa [knAt]using h1
  have:j=i:=by omega
  rw [this]
theorem kn_find_no {i:Nat}(ho:i < base.length->(topN base i).op≠9):(knowsN base).find? (fun k=>(k.place:Int)==(i:Int))=none:=by
 rw [List.find?_eq_none];intro k hk;obtain⟨j,hj,hoj,rfl⟩:=kn_mem.1 hk;intro e;have h2:((j:Nat):Int)=(i:Int):=by simpa [knAt]using e
 have:j=i:=by omega
 subst this;exact ho hj hoj
theorem cm_find_at {i:Nat}(hi:i < base.length)(ho:(topN base i).op=13):(commsN base).find? (fun k=>(k.place:Int)==(i:Int))=some (cmAt base i):=by
 cases h:(commsN base).find? (fun k=>(k.place:Int)==(i:Int))with
 |none =>
  rw [List.find?_eq_none]at h;have:=h _ (cm_mem.2 ⟨i,hi,ho,rfl⟩);simp [cmAt]at this
 |some k =>
  have h1:=List.find?_some h;obtain⟨j,_,_,rfl⟩:=cm_mem.1 (List.mem_of_find?_eq_some h);have h2:((j:Nat):Int)=(i:Int):=by simpa [cmAt]using h1
  have:j=i:=by omega
  rw [this]
theorem cm_find_no {i:Nat}(ho:i < base.length->(topN base i).op≠13):(commsN base).find? (fun k=>(k.place:Int)==(i:Int))=none:=by
 rw [List.find?_eq_none];intro k hk;obtain⟨j,hj,hoj,rfl⟩:=cm_mem.1 hk;intro e;have h2:((j:Nat):Int)=(i:Int):=by simpa [cmAt]using e
 have:j=i:=by omega
 subst this;exact ho hj hoj
variable {lg:Int} {al:List Bool} {t:Nat}
theorem lacks_know {i:Nat}(hi:i < base.length)(ho:(topN base i).op=9):lacksN lg (knowsN base) (commsN base) al t (i:Int)=(!t.testBit i&&decide (nextN lg (knowsN base) al (topN base i).i t (fun u=> !(bodyN base i).getD u false) < 0)):=by
 unfold lacksN;rw [decide_eq_false (by omega),cond_false,kn_find_at hi ho];rfl
theorem lacks_com {i:Nat}(hi:i < base.length)(ho:(topN base i).op=13):lacksN lg (knowsN base) (commsN base) al t (i:Int)=(!t.testBit i&& !pathN lg (knowsN base) al (cmAt base i) t):=by
 unfold lacksN;rw [decide_eq_false (by omega),cond_false,kn_find_no (fun _ e=>by rw [ho]at e;cases e),cm_find_at hi ho];rfl
theorem lacks_other {i:Nat}(h:i < base.length->(topN base i).op≠9/\(topN base i).op≠13):lacksN lg (knowsN base) (commsN base) al t (i:Int)=false:=by
 unfold lacksN;rw [decide_eq_false (by omega),cond_false,kn_find_no (fun hi=>(h hi).1),cm_find_no (fun hi=>(h hi).2)]
theorem lacks_in {i:Nat}(h:t.testBit i=true):lacksN lg (knowsN base) (commsN base) al t (i:Int)=false:=by
 by_cases hi:i < base.length
 ·by_cases h9:(topN base i).op=9
  ·rw [lacks_know hi h9,h];rfl
  by_cases h13:(topN base i).op=13
  ·rw [lacks_com hi h13,h];rfl
  exact lacks_other fun _=>⟨h9,h13⟩
 exact lacks_other fun e=>absurd e hi
def occN(base:List (List Nd))(a:Int):Bool:=(List.range base.length).any fun i=>(topN base i).op==9&&(topN base i).i==a
theorem occ_any {a:Int} :(knowsN base).any (fun k=>k.agent==a)=occN base a:=by
 unfold occN;rw [Bool.eq_iff_iff,List.any_eq_true,List.any_eq_true];constructor
 ·rintro⟨k,hk,ha⟩;obtain⟨i,hi,ho,rfl⟩:=kn_mem.1 hk;exact⟨i,List.mem_range.2 hi,by rw [ho];exact ha⟩
 rintro⟨i,hi,h⟩;rw [Bool.and_eq_true]at h;exact⟨_,kn_mem.2 ⟨i,List.mem_range.1 hi,by simpa using h.1,rfl⟩,h.2⟩
theorem lacks_neg {num:Int}(h:num < 0):lacksN lg (knowsN base) (commsN base) al t num=((lg==1||lg==5)&&(occN base (-1 - num)&&decide (nextN lg (knowsN base) al (-1 - num) t (fun _=>true) < 0))):=by
 unfold lacksN;rw [decide_eq_true h,cond_true,occ_any]
end
def Bls(w:World)(v:Value)(l:List (List Bool)):Prop :=
 ∃A c,v=.slice A l.length c/\l.length<=c/\c<=maxLen/\(l≠ []->∃ad,A=some ad/\ad.block < w.heap.size/\∀(k:Nat) s,l[k]?=some s->∃u,w.cell? (ad.add k)=some u/\Bools w u s)
theorem Bls.ext {w w':World} {v:Value} {l:List (List Bool)}(h:Bls w v l)(he:Ext w w'):Bls w' v l:=by
 obtain⟨A,c,e,h1,h2,h3⟩:=h;refine⟨A,c,e,h1,h2,fun hn=> ?_⟩;obtain⟨ad,e,hlt,hc⟩:=h3 hn;refine⟨ad,e,Qy hlt he.size,fun k s hk=> ?_⟩;obtain⟨u,hu,hb⟩:=hc k s hk;exact⟨u,(he.cell (Qj hlt)).trans hu,hb.ext he⟩
def MadeB(base:Nat)(w:World)(v:Value)(l:List Bool):Prop:=w.ownsRow base 4 1 v l.length (l.map Value.bool)
section
variable {base:Nat} {w w':World} {v:Value} {l:List Bool}
theorem MadeB.nil(base:Nat)(w:World):MadeB base w (.slice none 0 0) []:=World.ownsRow_nil _ _ _ _
theorem MadeB.ext(h:MadeB base w v l)(he:Ext w w'):MadeB base w' v l:=row_ext h he
theorem MadeB.bools(h:MadeB base w v l):Bools w v l:=by
 unfold MadeB at h;have e:l.map Value.bool=l.flatMap fun b=> [Value.bool b]:=List.map_eq_flatMap
 rw [e]at h;obtain⟨A,cap,rfl,h1,h2,h3⟩:=row_cells (f:=fun b=> [Value.bool b]) (c:=1) (fun _=>rfl) h;refine⟨A,cap,rfl,h1,h2,fun hn=> ?_⟩;obtain⟨g,rfl,hg,hc⟩:=h3 hn;refine⟨_,rfl,hg,fun k z hk=> ?_⟩;have:=hc k z hk 0 (by omega) _ rfl;rw [addr_zero]
 simpa using this
theorem MadeB.slice(h:MadeB base w v l)(h0:0 < l.length):∃g cap,v=.slice (some ⟨g,0,none⟩) l.length cap/\g < w.heap.size/\base<=g/\l.length<=cap/\cap<=maxLen/\(∀i z,l[i]?=some z->w.cell? ⟨g,i,none⟩=some (.bool z))/\∀i,w.frozen? ⟨g,i,none⟩=false:=by
 rcases h.2 with⟨_,e0⟩|⟨g,cap,cur,rfl,hb,hg,hnc,hm,hs,ht⟩
 ·omega
 refine⟨g,cap,rfl,lt_heap hg,hb,hnc,hm,fun i z hz=> ?_,fun i=>by simp [World.frozen?,hg]⟩;have h1:(l.map Value.bool)[i]?=some (.bool z):=by rw [List.getElem?_map,hz];rfl
 rw [<-ht,List.getElem?_take]at h1
 split at h1
 ·have h2:cur[i]?=some (.bool z):=by simpa using h1
  simp [World.cell?,hg,h2]
 cases h1
theorem MadeB.set {g cap:Nat}(h:MadeB base w (.slice (some ⟨g,0,none⟩) l.length cap) l)(j:Nat)(b:Bool):MadeB base (w.setCell ⟨g,j,none⟩ (.bool b)) (.slice (some ⟨g,0,none⟩) l.length cap) (l.set j b)/\w.grownBy (w.setCell ⟨g,j,none⟩ (.bool b)) (some g):=by
 obtain⟨h1,h2⟩:=World.ownsRow.stored h j (.bool b);refine⟨?_,h2⟩;unfold MadeB;rw [List.length_set,List.map_set];exact h1
end
theorem frz_of_made {X:Nat->Prop} {base:Nat} {w:World} {v:Value} {l:List Bool}(h:MadeB base w v l)(hg:∀g,v.ownBlock=some g->¬X g):Frz X w fun w'=>Bools w' v l:=fun w2 h2 =>
 MadeB.bools (row_keep h fun k hk=>h2.2 k (hg k hk) (h.lt k hk).2:MadeB base w2 v l)
structure SpcAt (w:World) (s:Nat) (lg:Int) (base:List (List Nd)):Prop where
 cells:∃vb vo v1 v2 v3,w.heap[s]?=some (.cells #[.int .i64 lg,vb,vo,v1,v2,v3] 108 (0,0))/\Fmls w vb base/\Nds w vo ((List.range base.length).map (topN base))/\Bls w v1 ((List.range base.length).map (bodyN base))/\Bls w v2 ((List.range base.length).map (condN base))/\Bls w v3 ((List.range base.length).map (lastT base))
theorem SpcAt.ext {w w':World} {s:Nat} {lg:Int} {base:List (List Nd)}(h:SpcAt w s lg base)(he:Ext w w'):SpcAt w' s lg base:=by
 obtain⟨vb,vo,v1,v2,v3,hb,h1,h2,h3,h4,h5⟩:=h.cells;exact⟨vb,vo,v1,v2,v3,(he.block (lt_heap hb)).trans hb,h1.ext he,h2.ext he,h3.ext he,h4.ext he,h5.ext he⟩
def Que(base:Nat)(w:World)(v:Value)(q:List Nat):Prop :=
 ∃g off cap cur,v=.slice (some ⟨g,off,none⟩) q.length cap/\base<=g/\w.heap[g]?=some (.cells cur 3 (0,0))/\q.length<=cap/\cap<=maxLen/\off+cap<=cur.size/\∀(j u:Nat),q[j]?=some u->cur[off+j]?=some (.int .i64 (u:Int))
section
variable {base:Nat} {w w':World} {v:Value} {q:List Nat}
theorem Que.keep(h:Que base w v q)(hk:∀k,v.ownBlock=some k->w'.heap[k]?=w.heap[k]?):Que base w' v q:=by
 obtain⟨g,off,cap,cur,rfl,h1,h2,h3,h4,h5,h6⟩:=h;exact⟨g,off,cap,cur,rfl,h1,(hk g rfl).trans h2,h3,h4,h5,h6⟩
theorem Que.lt(h:Que base w v q) {k:Nat}(hk:v.ownBlock=some k):base<=k/\k < w.heap.size:=by
 obtain⟨g,off,cap,cur,rfl,h1,h2,_⟩:=h;injection hk with hk;subst hk;exact⟨h1,lt_heap h2⟩
theorem Que.ext(h:Que base w v q)(he:Ext w w'):Que base w' v q:=h.keep fun _ hk=>he.block (h.lt hk).2
theorem Que.read(h:Que base w v q):∃g off cap,v=.slice (some ⟨g,off,none⟩) q.length cap/\g < w.heap.size/\base<=g/\q.length<=cap/\cap<=maxLen/\(∀(j u:Nat),q[j]?=some u->w.cell? ⟨g,off+j,none⟩=some (.int .i64 (u:Int)))/\(∀j,j < cap->(w.cell? ⟨g,off+j,none⟩).isSome=true)/\(∀j,w.frozen? ⟨g,j,none⟩=false):=by
 obtain⟨g,off,cap,cur,rfl,h1,h2,h3,h4,h5,h6⟩:=h;refine⟨g,off,cap,rfl,lt_heap h2,h1,h3,h4,fun j u hj=>by simp [World.cell?,h2,h6 j u hj],fun j hj=> ?_,fun j=>by simp [World.frozen?,h2]⟩;have hlt:off+j < cur.size:=by omega
 simp [World.cell?,h2,hlt]
theorem Que.start(hb:base<=w.heap.size)(t:Nat):Que base (w.alloc (.cells #[.int .i64 (t:Int)] 3)) (.slice (some ⟨w.heap.size,0,none⟩) 1 1) [t]:=
 ⟨w.heap.size,0,1,_,rfl,hb,heap_alloc_new _ _,Nat.le_refl _,by unfold maxLen;omega,Nat.le_refl _,fun j u hj=>by
  have hl:=(List.getElem?_eq_some_iff.1 hj).1;have:j=0:=by simpa using hl
  subst this;obtain rfl:t=u:=by simpa using hj
  rfl⟩
theorem Que.cut {g off cap x:Nat}(h:Que base w (.slice (some ⟨g,off,none⟩) (x :: q).length cap) (x :: q)):Que base w (.slice (some ⟨g,off+1,none⟩) q.length (cap - 1)) q:=by
 obtain⟨g',off',cap',cur,e,h1,h2,h3,h4,h5,h6⟩:=h;injection e with e1 _ e2;injection e1 with e1;injection e1 with ea eb;subst ea eb e2;rw [List.length_cons]at h3;refine⟨g,off+1,cap - 1,cur,rfl,h1,h2,by omega,by omega,by omega,fun j u hj=> ?_⟩;have:=h6 (j+1) u (by simpa using hj);rw [show off+1+j=off+(j+1) by omega];exact this
theorem Que.of_row {b:Nat} {n:Nat}(hb:base<=b)(hn:n=q.length)(hq:0 < q.length)(h:w.ownsRow b 3 1 v n (q.map fun(u:Nat)=>Value.int .i64 (u:Int))):Que base w v q:=by
 subst hn;rcases h.2 with⟨_,e0⟩|⟨g,cap,cur,rfl,hg,h2,h3,h4,h5,h6⟩
 ·omega
 refine⟨g,0,cap,cur,rfl,Qx hb hg,h2,h3,h4,by omega,fun j u hj=> ?_⟩;have h7:(q.map fun(u:Nat)=>Value.int .i64 (u:Int))[j]?=some (.int .i64 (u:Int)):=by rw [List.getElem?_map,hj];rfl
 rw [<-h6,List.getElem?_take]at h7
 split at h7
 ·rw [Nat.zero_add];simpa using h7
 cases h7
theorem Que.room {g off cap u:Nat}(h:Que base w (.slice (some ⟨g,off,none⟩) q.length cap) q)(hr:q.length+1<=cap):Que base (w.setCells g (off+q.length*1) [.int .i64 (u:Int)]) (.slice (some ⟨g,off,none⟩) (q.length+1) cap) (q++ [u])/\w.grownBy (w.setCells g (off+q.length*1) [.int .i64 (u:Int)]) (some g):=by
 obtain⟨g',off',cap',cur,e,h1,h2,h3,h4,h5,h6⟩:=h;injection e with e1 _ e2;injection e1 with e1;injection e1 with ea eb;subst ea eb e2;have es:w.setCells g (off+q.length*1) [.int .i64 (u:Int)]=w.setCell ⟨g,off+q.length,none⟩ (.int .i64 (u:Int)):=by rw [Nat.mul_one];rfl
 rw [es];refine⟨⟨g,off,cap,cur.setIfInBounds (off+q.length) (.int .i64 (u:Int)),by rw [List.length_append];rfl,h1,?_,by rw [List.length_append];exact hr,h4,by rw [Array.size_setIfInBounds];exact h5,fun j x hj=> ?_⟩,⟨rfl,rfl,rfl,by simp [World.setCell],fun k _ hk=>Below.heap_setCell _ _ _ _ (fun e=>hk (by rw [e]))⟩⟩
 ·simp only [World.setCell,Array.getElem?_modify,h2,if_true,Option.map_some];rfl
 rw [Array.getElem?_setIfInBounds];by_cases hj2:j < q.length
 ·rw [if_neg (by omega)];rw [List.getElem?_append_left hj2]at hj;exact h6 j x hj
 rw [List.getElem?_append_right (by omega)]at hj;have e0:j - q.length=0:=by
  by_cases e:j - q.length=0
  ·exact e
  rw [List.getElem?_eq_none (by simp;omega)]at hj;cases hj
 rw [e0]at hj;obtain rfl:u=x:=by simpa using hj
 rw [show off+j=off+q.length by omega,if_pos rfl,if_pos (by omega)]
end
def Part(s:Tr):Tr->Prop
 |.leaf n=>s=.leaf n
 |.one n a=>s=.one n a\/Part s a
 |.two n a b=>s=.two n a b\/Part s a\/Part s b
def lessL:List (Int×Int):= [(6,5),(6,4),(4,2),(4,3),(5,3),(5,1),(2,1),(1,0),(3,0)]
theorem sat_err {lg:Int} {f:List Nd}(h:engErr lg f≠0):satN lg f=(false,engErr lg f):=by
 unfold satN;rw [show(engErr lg f !=0)=true by simpa using h];rfl
theorem sat_ok {lg:Int} {f:List Nd}(h:engErr lg f=0):satN lg f=(leftN lg f,0):=by
 unfold satN;rw [show(engErr lg f !=0)=false by simpa using h];rfl
theorem bits_mask:∀(l:List Nd),(∀n∈l,(fragOf n.op).toNat&&&500=0)->fragMask l&&&500=0:=by
 have key:∀(l:List Nd) (m:Nat),m&&&500=0->(∀n∈l,(fragOf n.op).toNat&&&500=0)->(l.foldl (fun m n=>m|||(fragOf n.op).toNat) m)&&&500=0:=by
  intro l
  induction l with
  |nil=>intro m h _;exact h
  |cons a r ih =>
   intro m h hl;refine ih _ ?_ (fun n hn=>hl n (List.mem_cons_of_mem _ hn));rw [Nat.and_or_distrib_right,h,hl a (List.mem_cons_self ..)];rfl
 intro l h;exact key l 0 (by decide) h
theorem lang_of {f:List Nd}(hl:∀n∈compactN f,tyOp n.op):langBad f=false:=by
 unfold langBad fragsN;have:=bits_mask (compactN f) fun n hn=>by
  have ho:=hl n hn;have:n.op=1\/n.op=2\/n.op=3\/n.op=4\/n.op=5\/n.op=6\/n.op=7\/n.op=8\/n.op=9\/n.op=10\/n.op=11\/n.op=13:=by unfold tyOp at ho;omega
  rcases this with h|h|h|h|h|h|h|h|h|h|h|h <;>(rw [h];decide)
 rw [this];rfl
theorem baseOf_err(g:List Nd):(baseOfN g).2=0\/(baseOfN g).2=8:=by
 unfold baseOfN;cases((base0 g).flatMap unfsN).any (fun u=>decide (u.length=0))||decide (12 < (((base0 g).flatMap unfsN).foldl addF (base0 g)).length)
 ·exact .inl rfl
 exact .inr rfl
def tw(k:Int)(s t:Tr):Tr:=.two ⟨k,0,0,0,0,0⟩ s t
def ng(s:Tr):Tr:=.one ⟨4,0,0,0,0,0⟩ s
section
variable {k j:Int} {s t:Tr}
structure Dual2 (f g:List Nd):Prop where
 cA:check (andN f g)=0
 tA:treeOf (andN f g)=tw 5 (treeOf f) (treeOf g)
 cO:check (orN f g)=0
 tO:treeOf (orN f g)=tw 6 (treeOf f) (treeOf g)
 cN:check (notN f)=0
 tN:treeOf (notN f)=ng (treeOf f)
 eF:(baseN f).2=0
 eG:(baseN g).2=0
 eN:(baseN (notN f)).2=0
end
def unitM:KM:=⟨Unit,fun _ _ _=>True,fun _ _=>False⟩
def everyN(g:Int)(f:List Nd):List Nd:=buildN ⟨11,0,0,g,0,0⟩ [f]
theorem head_78(k:Int)(hk:k=7\/k=8):headOk ⟨k,0,0,0,0,0⟩:=by rcases hk with rfl|rfl <;> exact⟨rfl,rfl,rfl,fun _=>rfl,fun _=>rfl⟩
theorem head_g(k:Int)(hk:k=11\/k=13) {g:Int}(h0:1<=g)(h1:g<=3):headOk ⟨k,0,0,g,0,0⟩:=by
 have hg:g=1\/g=2\/g=3:=by omega
 rcases hk with rfl|rfl <;> rcases hg with rfl|rfl|rfl <;> exact⟨rfl,rfl,rfl,fun _=>rfl,fun _=>rfl⟩
def fact0:List Nd:=factN 0
def comF(g:Int)(x:List Nd):List Nd:=commonN g x fact0
def stepF(g:Int)(x:List Nd):List Nd:=everyN g (impN x (andN fact0 (comF g x)))
def com1(g:Int)(x:List Nd):List Nd:=iffN (comF g x) (stepF g x)
def com2(g:Int)(x:List Nd):List Nd:=impN (comF g x) (everyN g (impN x fact0))
section
variable {g:Int} {x:List Nd} {M:KM} {w:M.W}
end
theorem refEqual_any(v1 v2:Value)(l1 l2:List Nd)(w:World)(h1:Nds w v1 l1)(h2:Nds w v2 l2):
 Calls Tryz.prog 109 #[v1,v2] w fun e w'=>e=.returned (.bool (decide (l1=l2)))/\Ext w w':=by
 obtain⟨A1,c1,rfl,hcap1,hmax1,hr1⟩:=h1;obtain⟨A2,c2,rfl,hcap2,hmax2,hr2⟩:=h2;unfold maxLen at hmax1 hmax2;by_cases hl:l1.length=l2.length
 ·have HR1:=Qq hr1;have HR2:=Qq hr2;have HL:=Qq hl;have eb:((l1.length:Int) !=(l2.length:Int))=false:=by simp [hl]
  clear hr1 hr2 hl;go_enter Tryz.func109,Tryz.ntmps109;go_wp2_with fail;go_loopw [5] (fun i wr=>∃k:Nat,k<=l1.length/\i=.int .i64 k/\Hid (l1.take k=l2.take k)/\Ext w wr) (fun i _=>l1.length - (intOf i).toNat)
  case atStart=>exact⟨0,Nat.zero_le _,rfl,Qq rfl,Qz⟩
  case round =>
   obtain⟨k,hk,rfl,htk,hext⟩:=hrel;by_cases hlt2:k < l1.length
   ·have hlt3:k < l2.length:=by have:=HL.out;omega
    obtain⟨a,ha⟩:∃a,l1[k]?=some a:=⟨_,Qv hlt2⟩;obtain⟨b,hb⟩:∃b,l2[k]?=some b:=⟨_,Qv hlt3⟩;obtain⟨ad1,rfl,hb1,hc1⟩:=HR1.out (by intro e;rw [e]at hlt2;simp at hlt2);obtain⟨ad2,rfl,hb2,hc2⟩:=HR2.out (by intro e;rw [e]at hlt3;simp at hlt3);obtain⟨a0,a1,a2,a3,a4,a5⟩:=(hc1 k a ha).keep fun p hp=>hext.cell (p:=p) (by rw [hp,block_of_add];exact hb1)
    obtain⟨b0,b1,b2,b3,b4,b5⟩:=(hc2 k b hb).keep fun p hp=>hext.cell (p:=p) (by rw [hp,block_of_add];exact hb2)
    have hi0:(0:Int)<=(k:Int):=by omega
    have hi1:(k:Int) < (l1.length:Int):=by omega
    have hi2:(k:Int) < (l2.length:Int):=by omega
    have heq:=fun W=>eqNode a b W
    have HA:=Qq ha;have HB:=Qq hb;clear ha hb hc1 hc2;by_cases hab:a=b
    ·have hd:decide (a=b)=true:=by simpa using hab
     have HT:Hid (l1.take (k+1)=l2.take (k+1)):=Qq (by rw [take_succ_eq HA.out,take_succ_eq HB.out,htk.out,hab]);clear hab;go_wp2_with fail;go_quiet (fail);go_wp2_with fail;go_roundw
     case rel=>exact⟨k+1,by omega,by go_num,HT,hext.drewN _⟩
     case measure=>simp [intOf];omega
    have hd:decide (a=b)=false:=by simpa using hab
    have HR:Hid (decide (l1=l2)=false):=Qq (decide_eq_false (lists_differ HA.out HB.out hab));clear hab;go_wp2_with fail;go_quiet (fail);go_wp2_with fail;go_ret;exact⟨by rw [HR.out];rfl,hext.drewN _⟩
   obtain rfl:l1.length=k:=by omega
   have HR:Hid (decide (l1=l2)=true):=Qq (decide_eq_true (by
    have h:=htk.out;rw [List.take_of_length_le (Nat.le_refl _),HL.out,List.take_of_length_le (Nat.le_refl _)]at h;exact h))
   go_wp2_with fail;go_ret;exact⟨by rw [HR.out];rfl,hext⟩
 have eb:((l1.length:Int) !=(l2.length:Int))=true:=by simp;omega
 have HR:Hid (decide (l1=l2)=false):=Qq (decide_eq_false fun e=>hl (by rw [e]));clear hl hr1 hr2;go_enter Tryz.func109,Tryz.ntmps109;go_wp2_with fail;go_ret;exact⟨by rw [HR.out];rfl,Qz⟩
end Go.Proofs.YtbfeodammikajaaGreat
