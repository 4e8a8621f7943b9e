/- The reference's checker: Holds. -/
import Derived.Test.YtbfeodammikajaaGreatM01
import Derived.Test.YtbfeodammikajaaGreatM33
import Derived.Test.YtbfeodammikajaaGreatM11
import Derived.Test.YtbfeodammikajaaGreatM23
import Derived.Test.YtbfeodammikajaaGreatM09
import Derived.Test.YtbfeodammikajaaGreatM10
import Derived.Test.YtbfeodammikajaaGreatM26
namespace Go.Proofs.YtbfeodammikajaaGreat
set_option maxRecDepth 100000
set_option maxHeartbeats 128000000
open Go.RowKit
def holdE(md:Md)(f:List Nd):Int:=if chk17 md (compactN f)=0 then 0 else chk17 md f
def hold17(md:Md)(f:List Nd):Nat:=if chk17 md (compactN f)=0 then(setsK md (compactN f) (compactN f).length).getD ((compactN f).length - 1) 0 else 0
theorem holds17_any(vm v:Value)(md:Md)(f:List Nd)(w:World)(hm:MdV w vm md)(hok:md.ok)(h:Fml w v f):
 Calls Tryz.prog 16 #[vm,v] w fun e w'=>e=.returned (.tuple #[.int .u64 ((hold17 md f:Nat):Int),.int .i64 (holdE md f)])/\Ext w w':=by
 have H:=Qq h;have HM:=Qq hm;have HOK:=Qq hok;obtain⟨vv,vr,rfl,⟨Av,cv,rfl,_⟩,⟨Ar,cr,rfl,_⟩⟩:=hm;obtain⟨A,c,rfl,_⟩:=fml_slice h;clear hok h;have HX0:=Qq (show Ext w (w.alloc (.cells #[.int .i64 md.n,.slice Av md.val.length cv,.slice Ar md.rel.length cr] 38))from Qz.alloc _);have HB0:=Qq (show(w.alloc (.cells #[.int .i64 md.n,.slice Av md.val.length cv,.slice Ar md.rel.length cr] 38)).heap[w.heap.size]?=some (.cells #[.int .i64 md.n,.slice Av md.val.length cv,.slice Ar md.rel.length cr] 38 (0,0))from heap_alloc_new _ _);obtain⟨b,hb⟩:∃b,b=w.heap.size:=⟨_,rfl⟩;go_enter Tryz.func16,Tryz.ntmps16;go_upto_region 1 with(fail)
 obtain⟨W0,hW0⟩:∃W,W=w.alloc (.cells #[.int .i64 md.n,.slice Av md.val.length cv,.slice Ar md.rel.length cr] 38):=⟨_,rfl⟩;rw [<-hW0]at HX0 HB0⊢;rw [<-hb]at HB0⊢;clear hb hW0;obtain⟨e0,e1,e2,eb⟩:=cells3y HB0.out;refine ordU_region 8 (fun w'=>w'.cell? (⟨b,0,none⟩)=some (.int .i64 md.n)/\w'.cell? (⟨b,1,none⟩)=some (.slice Av md.val.length cv)/\w'.cell? (⟨b,2,none⟩)=some (.slice Ar md.rel.length cr)) (by kernel_rfl) ⟨xd eb e0,xd eb e1,xd eb e2⟩ (fun hHeld=> ?_);refine utk 0 hHeld ?_;refine utk 1 hHeld ?_;refine ordU_ready (rs:= [2]) (by kernel_rfl) (by simp) ?_;refine AllU.cons rfl (fun K hK=> ?_) AllU.nil
 go_simp;refine(refCompact_any _ f _ (H.out.ext (HX0.out.trans xv))).mono ?_;rintro e w1 ⟨u,rfl,hm1⟩;have hx1:Ext W0 w1:=Ext.trans xv hm1.2.2;have HF1:=Qq hm1.fml;have HX1:=Qq (HX0.out.trans hx1);clear hm1;go_wp2_with fail;refine hK.out _ _ ⟨xd eb e0,xd eb e1,xd eb e2⟩ (fun hHeld=> ?_);clear hK K;refine Qb ?_;refine ordU_ready (rs:= [3]) (by kernel_rfl) (by simp) ?_;refine AllU.cons rfl (fun K hK=> ?_) AllU.nil;go_simp;refine(sets_any _ _ md (compactN f) _ (HM.out.ext HX1.out) HOK.out HF1.out).mono ?_;rintro e w2 ⟨us,rfl,hx2',HU⟩;have hx2:Ext W0 w2:=hx1.trans hx2';have HX2:=Qq (HX1.out.trans hx2')
 clear hx2';obtain⟨er,her⟩:∃er,er=chk17 md (compactN f):=⟨_,rfl⟩;have HER:=Qq her;rw [<-her]at HU⊢;clear her;go_wp2_with fail;refine hK.out _ _ ⟨xd eb e0,xd eb e1,xd eb e2⟩ (fun hHeld=> ?_);clear hK K;refine Qb ?_;refine utk 4 hHeld ?_;refine utk 5 hHeld ?_;refine utk 6 hHeld ?_;refine utk 7 hHeld ?_;refine ordU_last (by kernel_rfl) rfl (fun K hK=> ?_);go_simp;refine hK.out _ _ ?_;clear hK K;refine Qb ?_;refine ordU_done (by kernel_rfl) ?_ _;by_cases hz:er=0
 ·subst hz;have HU2:=Qq (show MadeU w1.heap.size w2 us (setsK md (compactN f) (compactN f).length) by have:=HU.out;rw [if_pos rfl]at this;exact this);have hpos:0 < (compactN f).length:=(check_parts (chk17_zero HER.out.symm).2.1).1;have hle:(compactN f).length<=1000:=Qx (check_parts (chk17_zero HER.out.symm).2.1).2.1 (by decide);have HEL:=Qq (show holdE md f=0 by unfold holdE;rw [if_pos HER.out.symm]);have HHL:=Qq (show hold17 md f=(setsK md (compactN f) (compactN f).length).getD ((compactN f).length - 1) 0 by unfold hold17;rw [if_pos HER.out.symm]);have hsl:=setsK_len md (compactN f) (compactN f).length
  obtain⟨sl,hse⟩:∃l,l=setsK md (compactN f) (compactN f).length:=⟨_,rfl⟩;rw [<-hse]at HU2 HHL hsl;rw [<-hsl]at hpos hle HHL;obtain⟨n,hn⟩:∃n,sl.length=n+1:=⟨sl.length - 1,by omega⟩;obtain⟨Au,cu,rfl⟩:=slice_of_row HU2.out;obtain⟨g,cp,hge,gl,_,_,_,hclx,_⟩:=HU2.out.slice (by omega);injection hge with hge1 _ hge2;subst hge1 hge2;have hcl:=hclx n (by omega);rw [hn]at HHL hpos⊢;clear hse hclx;go_wp2_with fail;go_ret2;exact⟨by rw [HEL.out,HHL.out];rfl,HX2.out⟩
 have hzb:(er==0)=false:=by rw [beq_eq_false_iff_ne];exact hz
 have HEL:=Qq (show holdE md f=chk17 md f by unfold holdE;rw [if_neg (by rw [<-HER.out];exact hz)]);have HHL:=Qq (show hold17 md f=0 by unfold hold17;rw [if_neg (by rw [<-HER.out];exact hz)]);have hzn:(er !=0)=true:=by simp [bne,hzb]
 go_wp2_with fail;refine(chk17_any _ _ md f _ (HM.out.ext HX2.out) HOK.out (H.out.ext HX2.out)).mono ?_;rintro e w3 ⟨rfl,hx3⟩;go_wp2_with fail;go_ret2;exact⟨by rw [HEL.out,HHL.out];rfl,HX2.out.trans hx3⟩
def atE(md:Md)(f:List Nd)(i:Int):Int:=if holdE md f=0 then(if i < 0\/md.n<=i then 2 else 0)else holdE md f
def at17(md:Md)(f:List Nd)(i:Int):Bool:=if holdE md f=0 then(if i < 0\/md.n<=i then false else(hold17 md f).testBit i.toNat)else false
theorem holdE_n {md:Md} {f:List Nd}(h:holdE md f=0):md.n<=64:=by
 unfold holdE at h;have hc:checkM md=0:=by
  by_cases h0:chk17 md (compactN f)=0
  ·exact(chk17_zero h0).1
  rw [if_neg h0]at h;exact(chk17_zero h).1
 exact(checkM_zero hc).2.1
theorem at17_any(vm v:Value)(md:Md)(f:List Nd)(i:Int)(w:World)(hm:MdV w vm md)(hok:md.ok)(h:Fml w v f):
 Calls Tryz.prog 19 #[vm,.int .i64 i,v] w fun e w'=>e=.returned (.tuple #[.bool (at17 md f i),.int .i64 (atE md f i)])/\Ext w w':=by
 have H:=Qq h;have HM:=Qq hm;have HOK:=Qq hok;obtain⟨vv,vr,rfl,⟨Av,cv,rfl,_⟩,⟨Ar,cr,rfl,_⟩⟩:=hm;obtain⟨A,c,rfl,_⟩:=fml_slice h;clear hok h;have HX0:=Qq (show Ext w (w.alloc (.cells #[.int .i64 md.n,.slice Av md.val.length cv,.slice Ar md.rel.length cr] 38))from Qz.alloc _);have HB0:=Qq (show(w.alloc (.cells #[.int .i64 md.n,.slice Av md.val.length cv,.slice Ar md.rel.length cr] 38)).heap[w.heap.size]?=some (.cells #[.int .i64 md.n,.slice Av md.val.length cv,.slice Ar md.rel.length cr] 38 (0,0))from heap_alloc_new _ _);obtain⟨b,hb⟩:∃b,b=w.heap.size:=⟨_,rfl⟩;go_enter Tryz.func19,Tryz.ntmps19;go_upto_region 1 with(fail)
 obtain⟨W0,hW0⟩:∃W,W=w.alloc (.cells #[.int .i64 md.n,.slice Av md.val.length cv,.slice Ar md.rel.length cr] 38):=⟨_,rfl⟩;rw [<-hW0]at HX0 HB0⊢;rw [<-hb]at HB0⊢;clear hb hW0;obtain⟨e0,e1,e2,eb⟩:=cells3y HB0.out;go_wp2_with fail;refine(holds17_any _ _ md f _ (HM.out.ext (HX0.out.trans xv)) HOK.out (H.out.ext (HX0.out.trans xv))).mono ?_;rintro e w1 ⟨rfl,hx0⟩;have hx1:Ext W0 w1:=Ext.trans xv hx0;have HX1:=Qq (HX0.out.trans hx1);clear hx0;obtain⟨er,her⟩:∃er,er=holdE md f:=⟨_,rfl⟩;have HER:=Qq her;obtain⟨hs,hhs⟩:∃s,s=hold17 md f:=⟨_,rfl⟩;have HHS:=Qq hhs;rw [<-her,<-hhs];clear her hhs;have q0:=(Ext.cell (p:=⟨b,0,none⟩) hx1 eb).trans e0
 by_cases hz:er=0
 ·subst hz;have h64:=holdE_n HER.out.symm;by_cases hi0:i < 0
  ·have HA:=Qq (show at17 md f i=false by unfold at17;rw [if_pos HER.out.symm,if_pos (Or.inl hi0)]);have HE:=Qq (show atE md f i=2 by unfold atE;rw [if_pos HER.out.symm,if_pos (Or.inl hi0)]);go_wp2_with fail;go_ret2;exact⟨by rw [HA.out,HE.out];rfl,HX1.out⟩
  by_cases hi1:md.n<=i
  ·have HA:=Qq (show at17 md f i=false by unfold at17;rw [if_pos HER.out.symm,if_pos (Or.inr hi1)]);have HE:=Qq (show atE md f i=2 by unfold atE;rw [if_pos HER.out.symm,if_pos (Or.inr hi1)]);go_wp2_with fail;go_ret2;exact⟨by rw [HA.out,HE.out];rfl,HX1.out⟩
  have HA:=Qq (show at17 md f i=hs.testBit i.toNat by unfold at17;rw [if_pos HER.out.symm,if_neg (by omega),HHS.out]);have HE:=Qq (show atE md f i=0 by unfold atE;rw [if_pos HER.out.symm,if_neg (by omega)]);obtain⟨j,rfl⟩:=Int.eq_ofNat_of_zero_le (show 0<=i by omega);go_wp2_with fail;refine(rHas13_any hs j _ (by omega)).mono ?_;rintro e w2 ⟨rfl,rfl⟩;go_wp2_with fail;go_ret2;exact⟨by rw [HA.out,HE.out];rfl,HX1.out⟩
 have hzb:(er==0)=false:=by rw [beq_eq_false_iff_ne];exact hz
 have hzn:(er !=0)=true:=by simp [bne,hzb]
 have HA:=Qq (show at17 md f i=false by unfold at17;rw [if_neg (by rw [<-HER.out];exact hz)]);have HE:=Qq (show atE md f i=er by unfold atE;rw [if_neg (by rw [<-HER.out];exact hz),HER.out]);go_wp2_with fail;go_ret2;exact⟨by rw [HA.out,HE.out];rfl,HX1.out⟩
def bitR(l:List Nat)(n:Nat)(u v:Fin n):Prop:=(l.getD u.1 0).testBit v.1=true
def kmOf(md:Md):KM where
 W:=Fin md.n.toNat
 R:=fun a u v=>if 0<=a/\a < md.rel.length then bitR (md.rel.getD a.toNat []) md.n.toNat u v else u=v
 V:=fun p w=>(md.val.getD p.toNat 0).testBit w.1=true
theorem box_bit(r:List Nat)(n s i:Nat):(boxN r n s).testBit i=true↔i < n/\∀v,(r.getD i 0).testBit v=true->s.testBit v=true:=by
 unfold boxN;rw [mask_bit,Bool.and_eq_true,decide_eq_true_iff,subS_iff]
theorem dia_bit(r:List Nat)(n s i:Nat)(h:∀v,(r.getD i 0).testBit v=true->v < n):
 (difN (allW n) (boxN r n (difN (allW n) s))).testBit i=true↔i < n/\∃v,(r.getD i 0).testBit v=true/\s.testBit v=true:=by
 rw [dif_bit,Bool.and_eq_true,allw_bit,decide_eq_true_iff];constructor
 ·rintro⟨hi,hb⟩;refine⟨hi,Classical.byContradiction fun hn=> ?_⟩;have:(boxN r n (difN (allW n) s)).testBit i=true:=(box_bit ..).2 ⟨hi,fun v hv=>by
   rw [dif_bit,allw_bit,Bool.and_eq_true,decide_eq_true_iff];refine⟨h v hv,?_⟩;cases hs:s.testBit v
   ·rfl
   exact absurd ⟨v,hv,hs⟩ hn⟩
  rw [this]at hb;cases hb
 rintro⟨hi,v,hv,hs⟩;refine⟨hi,?_⟩;cases hb:(boxN r n (difN (allW n) s)).testBit i
 ·rfl
 have h2:=((box_bit ..).1 hb).2 v hv;rw [dif_bit,hs,Bool.not_true,Bool.and_false]at h2;cases h2
theorem grp_fold(rl:List (List Nat))(gn i v:Nat):∀(k s:Nat),(((List.range k).foldl (grpS rl gn false i) s).testBit v=true↔s.testBit v=true\/∃a,a < k/\gn.testBit a=true/\((rl.getD a []).getD i 0).testBit v=true)
 |0,s=>by simp
 |k+1,s=>by
  rw [fold_snoc];have ih:=grp_fold rl gn i v k s;unfold grpS;cases hg:gn.testBit k
  ·rw [if_neg (by simp)];rw [show(List.foldl (fun s a=>if gn.testBit a=true then if false=true then s&&&(rl.getD a []).getD i 0 else s|||(rl.getD a []).getD i 0 else s) s (List.range k))=(List.range k).foldl (grpS rl gn false i) s from rfl,ih];refine or_congr Iff.rfl ⟨fun⟨a,h1,h2,h3⟩=>⟨a,by omega,h2,h3⟩,fun⟨a,h1,h2,h3⟩=>⟨a,?_,h2,h3⟩⟩;have:a≠k:=fun e=>by rw [e,hg]at h2;cases h2
   omega
  rw [if_pos rfl,if_neg (by simp),Nat.testBit_or,Bool.or_eq_true];rw [show(List.foldl (fun s a=>if gn.testBit a=true then if false=true then s&&&(rl.getD a []).getD i 0 else s|||(rl.getD a []).getD i 0 else s) s (List.range k))=(List.range k).foldl (grpS rl gn false i) s from rfl,ih];constructor
  ·rintro((h|⟨a,h1,h2,h3⟩)|h)
   ·exact Or.inl h
   ·exact Or.inr ⟨a,by omega,h2,h3⟩
   exact Or.inr ⟨k,by omega,hg,h⟩
  rintro(h|⟨a,h1,h2,h3⟩)
  ·exact Or.inl (Or.inl h)
  by_cases e:a=k
  ·exact Or.inr (by rw [<-e];exact h3)
  exact Or.inl (Or.inr ⟨a,by omega,h2,h3⟩)
theorem grp_bit(rl:List (List Nat))(gn n i v:Nat):(grpN rl gn false n i).testBit v=true↔∃a,a < rl.length/\gn.testBit a=true/\((rl.getD a []).getD i 0).testBit v=true:=by
 unfold grpN;rw [grp_fold];simp
theorem grp_get(rl:List (List Nat))(gn n i:Nat)(b:Bool)(hi:i < n):((List.range n).map (grpN rl gn b n)).getD i 0=grpN rl gn b n i:=by
 rw [Qk,List.getElem?_map,List.getElem?_range hi];rfl
def stpW(r:List Nat)(c:Nat)(u v:Nat):Prop:=(r.getD u 0).testBit v=true/\c.testBit v=true
theorem rch_snoc {α:Type} {r:α->α->Prop} {a b c:α}(h:Rch r a b)(hc:r b c):Rch r a c:=by
 induction h with
 |one h=>exact .cons h (.one hc)
 |cons h _ ih=>exact .cons h (ih hc)
theorem first_bit(r:List Nat)(c a v:Nat):(r.getD a 0&&&c).testBit v=true↔stpW r c a v:=by
 rw [Nat.testBit_and,Bool.and_eq_true];rfl
theorem step_sound {r:List Nat} {c a s:Nat}(h:∀v,s.testBit v=true->Rch (stpW r c) a v)(u:Nat):∀v,(stepP r c s u).testBit v=true->Rch (stpW r c) a v:=by
 intro v hv;unfold stepP at hv;cases hu:s.testBit u
 ·rw [if_neg (by rw [hu];simp)]at hv;exact h v hv
 rw [if_pos hu,Nat.testBit_or,Bool.or_eq_true]at hv;rcases hv with hv|hv
 ·exact h v hv
 exact rch_snoc (h u hu) ((first_bit ..).1 hv)
theorem pass_sound {r:List Nat} {c a:Nat} :∀(n s:Nat),(∀v,s.testBit v=true->Rch (stpW r c) a v)->∀v,(passP r c n s).testBit v=true->Rch (stpW r c) a v
 |0,s,h=>h
 |n+1,s,h=>by
  unfold passP;rw [fold_snoc];exact step_sound (pass_sound n s h) n
theorem paths_fold {r:List Nat} {c a n:Nat} :∀(k:Nat),∀v,((List.range k).foldl (fun s _=>passP r c n s) (r.getD a 0&&&c)).testBit v=true->Rch (stpW r c) a v
 |0=>fun v hv=> .one ((first_bit ..).1 hv)
 |k+1=>by
  rw [fold_snoc];exact pass_sound n _ (paths_fold k)
theorem paths_sound {r:List Nat} {c n a v:Nat}(h:(pathsN r c n a).testBit v=true):Rch (stpW r c) a v:=paths_fold n v h
theorem step_grow {r:List Nat} {c s u v:Nat}(h:s.testBit v=true):(stepP r c s u).testBit v=true:=by
 unfold stepP
 split
 ·rw [Nat.testBit_or,h,Bool.true_or]
 exact h
theorem step_hits {r:List Nat} {c s u v:Nat}(h:s.testBit u=true)(hst:stpW r c u v):(stepP r c s u).testBit v=true:=by
 unfold stepP;rw [if_pos h,Nat.testBit_or,(first_bit r c u v).2 hst,Bool.or_true]
theorem pass_grow {r:List Nat} {c v:Nat} :∀(n s:Nat),s.testBit v=true->(passP r c n s).testBit v=true
 |0,_,h=>h
 |n+1,s,h=>by
  unfold passP;rw [fold_snoc];exact step_grow (pass_grow n s h)
theorem pass_hits {r:List Nat} {c s u v:Nat}(hs:s.testBit u=true)(hst:stpW r c u v):∀(n:Nat),u < n->(passP r c n s).testBit v=true
 |0,h=>absurd h (by omega)
 |n+1,h=>by
  unfold passP;rw [fold_snoc];by_cases e:u=n
  ·subst e;have h1:(passP r c u s).testBit u=true:=pass_grow u s hs;unfold passP at h1;exact step_hits h1 hst
  exact step_grow (pass_hits hs hst n (by omega))
def clsW(r:List Nat)(c s:Nat):Prop:=∀u v,s.testBit u=true->stpW r c u v->s.testBit v=true
theorem step_still {r:List Nat} {c s u:Nat}(h:clsW r c s):stepP r c s u=s:=by
 unfold stepP
 split
 ·rename_i hu;refine Nat.eq_of_testBit_eq fun v=> ?_
  rw [Nat.testBit_or];cases hb:(r.getD u 0&&&c).testBit v
  ·rw [Bool.or_false]
  rw [h u v hu ((first_bit ..).1 hb)];rfl
 rfl
theorem pass_still {r:List Nat} {c s:Nat}(h:clsW r c s):∀n,passP r c n s=s
 |0=>rfl
 |n+1=>by
  unfold passP;rw [fold_snoc];have ih:=pass_still h n;unfold passP at ih;rw [ih,step_still h]
def zerW(n s:Nat):Nat:=(List.range n).countP fun i=> !s.testBit i
theorem pass_less {r:List Nat} {c n s:Nat}(hb:∀u v,(r.getD u 0).testBit v=true->u < n/\v < n)(h:¬clsW r c s):zerW n (passP r c n s) < zerW n s:=by
 obtain⟨u,v,h1,h2,h3⟩:∃u v,s.testBit u=true/\stpW r c u v/\s.testBit v=false:=Classical.byContradiction fun hn=>h fun u v h1 h2=>by
  cases h3:s.testBit v
  ·exact absurd ⟨u,v,h1,h2,h3⟩ hn
  rfl
 obtain⟨hu,hv⟩:=hb u v h2.1;unfold zerW;refine countP_ltG (fun i _ hq=> ?_) ⟨v,List.mem_range.2 hv,by rw [h3];rfl,by rw [pass_hits h1 h2 n hu];rfl⟩;cases hi:s.testBit i
 ·rfl
 rw [pass_grow n s hi]at hq;cases hq
theorem zer_le(n s:Nat):zerW n s<=n:=by
 have:=List.countP_le_length (p:=fun i=> !s.testBit i) (l:=List.range n);rw [List.length_range]at this;exact this
theorem zer_full {r:List Nat} {c n s:Nat}(hb:∀u v,(r.getD u 0).testBit v=true->u < n/\v < n)(h:zerW n s=0):clsW r c s:=by
 intro u v _ h2;unfold zerW at h;rw [List.countP_eq_zero]at h;have:=h v (List.mem_range.2 (hb u v h2.1).2)
 simpa using this
theorem paths_cls {r:List Nat} {c n a:Nat}(hb:∀u v,(r.getD u 0).testBit v=true->u < n/\v < n):∀k,clsW r c ((List.range k).foldl (fun s _=>passP r c n s) (r.getD a 0&&&c))\/zerW n ((List.range k).foldl (fun s _=>passP r c n s) (r.getD a 0&&&c))+k<=n
 |0=>Or.inr (zer_le _ _)
 |k+1=>by
  rw [fold_snoc];rcases paths_cls hb k with h|h
  ·exact Or.inl (by rw [pass_still h];exact h)
  by_cases hc:clsW r c ((List.range k).foldl (fun s _=>passP r c n s) (r.getD a 0&&&c))
  ·exact Or.inl (by rw [pass_still hc];exact hc)
  have:=pass_less hb hc;exact Or.inr (by omega)
theorem start_in {r:List Nat} {c n a v:Nat}(h:stpW r c a v):∀k,((List.range k).foldl (fun s _=>passP r c n s) (r.getD a 0&&&c)).testBit v=true
 |0=>(first_bit ..).2 h
 |k+1=>by
  rw [fold_snoc];exact pass_grow n _ (start_in h k)
theorem rch_in {r:List Nat} {c s:Nat}(hc:clsW r c s) {a v:Nat}(h:Rch (stpW r c) a v):(∀u,stpW r c a u->s.testBit u=true)->s.testBit v=true:=by
 induction h with
 |one h=>exact fun hs=>hs _ h
 |cons h _ ih=>exact fun hs=>ih fun u hu=>hc _ u (hs _ h) hu
theorem paths_bit {r:List Nat} {c n a v:Nat}(hb:∀u v,(r.getD u 0).testBit v=true->u < n/\v < n):(pathsN r c n a).testBit v=true↔Rch (stpW r c) a v:=by
 refine⟨paths_sound,fun h=> ?_⟩;have hc:clsW r c (pathsN r c n a):=by
  rcases paths_cls (a:=a) (c:=c) hb n with h|h
  ·exact h
  exact zer_full hb (by unfold pathsN;omega)
 exact rch_in hc h fun u hu=>start_in hu n
theorem rel_bits {md:Md}(h:checkM md=0)(a:Nat):∀u v,((md.rel.getD a []).getD u 0).testBit v=true->u < md.n.toNat/\v < md.n.toNat:=by
 intro u v hb;by_cases ha:a < md.rel.length
 ·have hm:md.rel.getD a []∈md.rel:=by
   rw [Qk,Qv ha];exact List.getElem_mem _
  obtain⟨hv,_⟩:=rel_valid h hm;have hl:=(checkM_zero h).2.2.2.2.1 _ hm;have hl2:(md.rel.getD a []).length=md.n.toNat:=by omega
  by_cases hu:u < md.n.toNat
  ·have:=(GrwI.start (eu:=true) hl2 (by rw [<-hl2];exact(valid_iff.1 hv).2)).lt u hu;exact⟨hu,bit_lt this hb⟩
  rw [Qk,List.getElem?_eq_none (by omega)]at hb;simp at hb
 have e:md.rel.getD a []= []:=by rw [Qk,List.getElem?_eq_none (by omega)];rfl
 rw [e]at hb;simp at hb
theorem grp_bits {md:Md}(h:checkM md=0)(gn:Nat):∀u v,(((List.range md.n.toNat).map (grpN md.rel gn false md.n.toNat)).getD u 0).testBit v=true->u < md.n.toNat/\v < md.n.toNat:=by
 intro u v hb;by_cases hu:u < md.n.toNat
 ·rw [grp_get _ _ _ _ _ hu,grp_bit]at hb;obtain⟨a,_,_,h3⟩:=hb;exact⟨hu,(rel_bits h a u v h3).2⟩
 rw [Qk,List.getElem?_eq_none (by simp;omega)]at hb;simp at hb
def IsW(md:Md)(s:Nat)(t:Tr):Prop:=∀w:Fin md.n.toNat,s.testBit w.1=true↔(kmOf md).sat t w
theorem box_sat {md:Md}(h:checkM md=0) {n:Nd} {s:Nat} {t:Tr}(hi:0<=n.i/\n.i < md.rel.length)(hs:IsW md s t)(h9:n.op=9):IsW md (boxN (md.rel.getD n.i.toNat []) md.n.toNat s) (.one n t):=by
 intro w;rw [box_bit];show _↔(if n.op=4 then _ else if n.op=9 then _ else _);rw [if_neg (by omega),if_pos h9];constructor
 ·rintro⟨_,hb⟩ v hv;refine(hs v).1 (hb v.1 ?_);have hv':(if 0<=n.i/\n.i < md.rel.length then bitR (md.rel.getD n.i.toNat []) md.n.toNat w v else w=v):=hv;rw [if_pos hi]at hv';exact hv'
 intro hf;refine⟨w.2,fun v hv=> ?_⟩;have hvn:=(rel_bits h n.i.toNat w.1 v hv).2;refine(hs ⟨v,hvn⟩).2 (hf ⟨v,hvn⟩ ?_);show(if 0<=n.i/\n.i < md.rel.length then bitR (md.rel.getD n.i.toNat []) md.n.toNat w ⟨v,hvn⟩else _);rw [if_pos hi];exact hv
theorem dia_sat {md:Md}(h:checkM md=0) {n:Nd} {s:Nat} {t:Tr}(hi:0<=n.i/\n.i < md.rel.length)(hs:IsW md s t)(h9:n.op=10):
 IsW md (difN (allW md.n.toNat) (boxN (md.rel.getD n.i.toNat []) md.n.toNat (difN (allW md.n.toNat) s))) (.one n t):=by
 intro w;rw [dia_bit _ _ _ _ (fun v hv=>(rel_bits h _ _ v hv).2)];show _↔(if n.op=4 then _ else if n.op=9 then _ else if n.op=10 then _ else _);rw [if_neg (by omega),if_neg (by omega),if_pos h9];constructor
 ·rintro⟨_,v,hv,hb⟩;have hvn:=(rel_bits h n.i.toNat w.1 v hv).2;refine⟨⟨v,hvn⟩,?_,(hs ⟨v,hvn⟩).1 hb⟩;show(if 0<=n.i/\n.i < md.rel.length then bitR (md.rel.getD n.i.toNat []) md.n.toNat w ⟨v,hvn⟩else _);rw [if_pos hi];exact hv
 rintro⟨v,hv,hb⟩;have hv':(if 0<=n.i/\n.i < md.rel.length then bitR (md.rel.getD n.i.toNat []) md.n.toNat w v else w=v):=hv;rw [if_pos hi]at hv';exact⟨w.2,v.1,hv',(hs v).2 hb⟩
theorem grp_agent {md:Md} {g:Int}(hg:g.toNat < 2^md.rel.length) {i:Nat}(hi:gbit g i=true):i < md.rel.length:=bit_lt hg hi
theorem kmR {md:Md} {i:Nat}(hi:i < md.rel.length)(u v:Fin md.n.toNat):(kmOf md).R (i:Int) u v↔((md.rel.getD i []).getD u.1 0).testBit v.1=true:=by
 show(if 0<=(i:Int)/\(i:Int) < md.rel.length then bitR (md.rel.getD (i:Int).toNat []) md.n.toNat u v else u=v)↔_;rw [if_pos (by omega),Int.toNat_natCast];rfl
theorem grp_sat {md:Md}(h:checkM md=0) {n:Nd} {s:Nat} {t:Tr}(hg:n.g.toNat < 2^md.rel.length)(hs:IsW md s t)(h9:n.op=11):
 IsW md (boxN ((List.range md.n.toNat).map (grpN md.rel n.g.toNat false md.n.toNat)) md.n.toNat s) (.one n t):=by
 intro w;rw [box_bit];show _↔(if n.op=4 then _ else if n.op=9 then _ else if n.op=10 then _ else if n.op=11 then _ else _);rw [if_neg (by omega),if_neg (by omega),if_neg (by omega),if_pos h9,grp_get _ _ _ _ _ w.2];have h4:=(checkM_zero h).2.2.1;constructor
 ·rintro⟨_,hb⟩ i hi hgi v hv;exact(hs v).1 (hb v.1 ((grp_bit ..).2 ⟨i,grp_agent hg hgi,hgi,(kmR (grp_agent hg hgi) w v).1 hv⟩))
 intro hf;refine⟨w.2,fun v hv=> ?_⟩;obtain⟨i,hi,hgi,hr⟩:=(grp_bit ..).1 hv;have hvn:=(rel_bits h i w.1 v hr).2;exact(hs ⟨v,hvn⟩).2 (hf i (by omega) hgi ⟨v,hvn⟩ ((kmR hi w ⟨v,hvn⟩).2 hr))
theorem step_words {md:Md}(h:checkM md=0) {g:Int} {c:Nat} {t:Tr}(hg:g.toNat < 2^md.rel.length)(hc:IsW md c t)(u v:Fin md.n.toNat):
 stpW ((List.range md.n.toNat).map (grpN md.rel g.toNat false md.n.toNat)) c u.1 v.1↔(kmOf md).step g ((kmOf md).sat t) u v:=by
 unfold stpW KM.step;rw [grp_get _ _ _ _ _ u.2,grp_bit,hc v];have h4:=(checkM_zero h).2.2.1;refine and_congr ⟨?_,?_⟩ Iff.rfl
 ·rintro⟨a,ha,hga,hr⟩;exact⟨a,by omega,hga,(kmR ha u v).2 hr⟩
 rintro⟨a,_,hga,hr⟩;exact⟨a,grp_agent hg hga,hga,(kmR (grp_agent hg hga) u v).1 hr⟩
theorem rch_up {md:Md}(h:checkM md=0) {g:Int} {c:Nat} {t:Tr}(hg:g.toNat < 2^md.rel.length)(hc:IsW md c t) {a b:Nat}(hr:Rch (stpW ((List.range md.n.toNat).map (grpN md.rel g.toNat false md.n.toNat)) c) a b):
 ∀(ha:a < md.n.toNat),∃hb:b < md.n.toNat,Rch ((kmOf md).step g ((kmOf md).sat t)) (⟨a,ha⟩:Fin md.n.toNat) (⟨b,hb⟩:Fin md.n.toNat):=by
 induction hr with
 |one hs=>exact fun ha=>⟨(grp_bits h _ _ _ hs.1).2,.one ((step_words h hg hc ⟨_,ha⟩ ⟨_,(grp_bits h _ _ _ hs.1).2⟩).1 hs)⟩
 |cons hs _ ih =>
  intro ha;obtain⟨hb,hr2⟩:=ih (grp_bits h _ _ _ hs.1).2;exact⟨hb,.cons ((step_words h hg hc ⟨_,ha⟩ ⟨_,(grp_bits h _ _ _ hs.1).2⟩).1 hs) hr2⟩
theorem rch_down {md:Md}(h:checkM md=0) {g:Int} {c:Nat} {t:Tr}(hg:g.toNat < 2^md.rel.length)(hc:IsW md c t) {a b:Fin md.n.toNat}(hr:Rch ((kmOf md).step g ((kmOf md).sat t)) a b):
 Rch (stpW ((List.range md.n.toNat).map (grpN md.rel g.toNat false md.n.toNat)) c) a.1 b.1:=by
 induction hr with
 |one hs=>exact .one ((step_words h hg hc _ _).2 hs)
 |cons hs _ ih=>exact .cons ((step_words h hg hc _ _).2 hs) ih
theorem common_sat {md:Md}(h:checkM md=0) {n:Nd} {c s:Nat} {t1 t2:Tr}(hg:n.g.toNat < 2^md.rel.length)(hc:IsW md c t1)(hs:IsW md s t2)(h9:n.op=13):
 IsW md (commonM ((List.range md.n.toNat).map (grpN md.rel n.g.toNat false md.n.toNat)) md.n.toNat c s) (.two n t1 t2):=by
 intro w;unfold commonM;rw [mask_bit,Bool.and_eq_true,decide_eq_true_iff,subS_iff];show _↔(if n.op=5 then _ else if n.op=6 then _ else if n.op=7 then _ else if n.op=8 then _ else if n.op=13 then _ else _);rw [if_neg (by omega),if_neg (by omega),if_neg (by omega),if_neg (by omega),if_pos h9];constructor
 ·rintro⟨_,hb⟩ v hv;exact(hs v).1 (hb v.1 ((paths_bit (grp_bits h _)).2 (rch_down h hg hc hv)))
 intro hf;refine⟨w.2,fun v hv=> ?_⟩;obtain⟨hvn,hr⟩:=rch_up h hg hc ((paths_bit (grp_bits h _)).1 hv) w.2;exact(hs ⟨v,hvn⟩).2 (hf ⟨v,hvn⟩ hr)
theorem top_sat {md:Md} {n:Nd}(h:n.op=1)(x y:Nat):IsW md (boolN n.op x y (allW md.n.toNat)) (.leaf n):=by
 intro w;show _↔(n.op=1\/_);unfold boolN;rw [if_pos h,allw_bit];exact⟨fun _=>Or.inl h,fun _=>decide_eq_true w.2⟩
theorem bot_sat {md:Md} {n:Nd}(h:n.op=2)(x y:Nat):IsW md (boolN n.op x y (allW md.n.toNat)) (.leaf n):=by
 intro w;show _↔(n.op=1\/(n.op=3/\_));rw [h];show(boolN 2 x y (allW md.n.toNat)).testBit w.1=true↔_;rw [show boolN 2 x y (allW md.n.toNat)=0 from rfl,Nat.zero_testBit];simp
theorem fact_sat {md:Md} {n:Nd}(h:n.op=3):IsW md (md.val.getD n.i.toNat 0) (.leaf n):=by
 intro w;show _↔(n.op=1\/(n.op=3/\(md.val.getD n.i.toNat 0).testBit w.1=true));rw [h];simp
theorem not_sat {md:Md} {n:Nd} {x y:Nat} {t:Tr}(h:n.op=4)(hx:IsW md x t):IsW md (boolN n.op x y (allW md.n.toNat)) (.one n t):=by
 intro w;show _↔(if n.op=4 then ¬(kmOf md).sat t w else _);rw [if_pos h,<-hx w,h];show(difN (allW md.n.toNat) x).testBit w.1=true↔_;rw [dif_bit,allw_bit,decide_eq_true w.2];simp
theorem two_sat {md:Md} {n:Nd} {x y:Nat} {t1 t2:Tr}(h:n.op=5\/n.op=6\/n.op=7\/n.op=8)(hx:IsW md x t1)(hy:IsW md y t2):IsW md (boolN n.op x y (allW md.n.toNat)) (.two n t1 t2):=by
 intro w;have h1:=hx w;have h2:=hy w;show _↔(if n.op=5 then(kmOf md).sat t1 w/\(kmOf md).sat t2 w else if n.op=6 then(kmOf md).sat t1 w\/(kmOf md).sat t2 w else if n.op=7 then(kmOf md).sat t1 w->(kmOf md).sat t2 w else if n.op=8 then((kmOf md).sat t1 w↔(kmOf md).sat t2 w)else _);rw [<-h1,<-h2];rcases h with h|h|h|h <;> rw [h]
 ·show(x&&&y).testBit w.1=true↔_;rw [Nat.testBit_and];cases x.testBit w.1 <;> cases y.testBit w.1 <;> simp
 ·show(x|||y).testBit w.1=true↔_;rw [Nat.testBit_or];cases x.testBit w.1 <;> cases y.testBit w.1 <;> simp
 ·show(difN (allW md.n.toNat) x|||y).testBit w.1=true↔_;rw [Nat.testBit_or,dif_bit,allw_bit,decide_eq_true w.2];cases x.testBit w.1 <;> cases y.testBit w.1 <;> simp
 show(difN (allW md.n.toNat) (x^^^y)).testBit w.1=true↔_;rw [dif_bit,allw_bit,decide_eq_true w.2,Nat.testBit_xor];cases x.testBit w.1 <;> cases y.testBit w.1 <;> simp
theorem node_sat {md:Md}(h:checkM md=0) {n:Nd} {x y:Nat} {a b:Tr}(hf:FitNd md n)(h12:n.op≠12)(hx:hasX n.op=true->IsW md x a)(hy:hasY n.op=true->IsW md y b):
 IsW md (oneN md n x y) (mkTr n a b):=by
 have ho:1<=n.op:=by
  have:=hf.head.1;unfold isOp at this;simp at this;omega
 have h13:=hf.op;obtain⟨op,i,e,g,p,q⟩:=n;have hc:op=1\/op=2\/op=3\/op=4\/(op=5\/op=6\/op=7\/op=8)\/op=9\/op=10\/op=11\/op=13:=by
  simp at h12 ho h13;omega
 rcases hc with rfl|rfl|rfl|rfl|hc|rfl|rfl|rfl|rfl
 ·exact top_sat (n:=⟨1,i,e,g,p,q⟩) rfl x y
 ·exact bot_sat (n:=⟨2,i,e,g,p,q⟩) rfl x y
 ·exact fact_sat (n:=⟨3,i,e,g,p,q⟩) rfl
 ·exact not_sat (n:=Nd.head ⟨4,i,e,g,p,q⟩) (y:=y) rfl (hx rfl)
 ·rcases hc with rfl|rfl|rfl|rfl
  ·exact two_sat (n:=Nd.head ⟨5,i,e,g,p,q⟩) (Or.inl rfl) (hx rfl) (hy rfl)
  ·exact two_sat (n:=Nd.head ⟨6,i,e,g,p,q⟩) (Or.inr (Or.inl rfl)) (hx rfl) (hy rfl)
  ·exact two_sat (n:=Nd.head ⟨7,i,e,g,p,q⟩) (Or.inr (Or.inr (Or.inl rfl))) (hx rfl) (hy rfl)
  exact two_sat (n:=Nd.head ⟨8,i,e,g,p,q⟩) (Or.inr (Or.inr (Or.inr rfl))) (hx rfl) (hy rfl)
 ·exact box_sat h (n:=Nd.head ⟨9,i,e,g,p,q⟩) ⟨(head_agent hf.head rfl).1,hf.agent (Or.inl rfl)⟩ (hx rfl) rfl
 ·exact dia_sat h (n:=Nd.head ⟨10,i,e,g,p,q⟩) ⟨(head_agent hf.head rfl).1,hf.agent (Or.inr rfl)⟩ (hx rfl) rfl
 ·exact grp_sat h (n:=Nd.head ⟨11,i,e,g,p,q⟩) (hf.group (show(11:Int)<=11 by decide)).2 (hx rfl) rfl
 exact common_sat h (n:=Nd.head ⟨13,i,e,g,p,q⟩) (hf.group (show(11:Int)<=13 by decide)).2 (hx rfl) (hy rfl) rfl
theorem setsK_at(md:Md)(f:List Nd):∀(m k:Nat),k < m->(setsK md f m).getD k 0=setS md f (setsK md f k) k
 |0,_,h=>absurd h (by omega)
 |m+1,k,h=>by
  show(setsK md f m++ [setS md f (setsK md f m) m]).getD k 0=_;rw [Qk];by_cases e:k=m
  ·subst e;rw [List.getElem?_append_right (by rw [setsK_len];omega),setsK_len,Nat.sub_self];rfl
  rw [List.getElem?_append_left (by rw [setsK_len];omega),<-Qk];exact setsK_at md f m k (by omega)
theorem frag_src:∀(l:List Nd) (s i:Nat),(l.foldl (fun s n=>s|||(fragOf n.op).toNat) s).testBit i=true->s.testBit i=true\/∃n∈l,(fragOf n.op).toNat.testBit i=true
 |[],_,_,h=>Or.inl h
 |a :: l,s,i,h=>by
  rcases frag_src l (s|||(fragOf a.op).toNat) i h with h1|⟨n,hn,h2⟩
  ·rw [Nat.testBit_or,Bool.or_eq_true]at h1;rcases h1 with h1|h1
   ·exact Or.inl h1
   exact Or.inr ⟨a,List.mem_cons_self ..,h1⟩
  exact Or.inr ⟨n,List.mem_cons_of_mem _ hn,h2⟩
theorem ag_src:∀(l:List Nd) (s i:Nat),(l.foldl agS s).testBit i=true->s.testBit i=true\/∃n∈l,(hasAgent n.op=true/\i=n.i.toNat)\/n.g.toNat.testBit i=true
 |[],_,_,h=>Or.inl h
 |a :: l,s,i,h=>by
  rcases ag_src l (agS s a) i h with h1|⟨n,hn,h2⟩
  ·unfold agS at h1;rw [Nat.testBit_or,Nat.testBit_or,Bool.or_eq_true,Bool.or_eq_true]at h1;rcases h1 with(h1|h1)|h1
   ·exact Or.inl h1
   ·refine Or.inr ⟨a,List.mem_cons_self ..,Or.inl ?_⟩;cases ha:hasAgent a.op
    ·rw [ha,if_neg (by simp),Nat.zero_testBit]at h1;cases h1
    rw [ha,if_pos rfl,Nat.testBit_two_pow,decide_eq_true_iff]at h1;exact⟨rfl,h1.symm⟩
   exact Or.inr ⟨a,List.mem_cons_self ..,Or.inr h1⟩
  exact Or.inr ⟨n,List.mem_cons_of_mem _ hn,h2⟩
theorem fa_src:∀(l:List Nd) (s i:Nat),(l.foldl faS s).testBit i=true->s.testBit i=true\/∃n∈l,n.op=3/\i=n.i.toNat
 |[],_,_,h=>Or.inl h
 |a :: l,s,i,h=>by
  rcases fa_src l (faS s a) i h with h1|⟨n,hn,h2⟩
  ·unfold faS at h1;by_cases ho:a.op=3
   ·rw [if_pos ho,Nat.testBit_or,Bool.or_eq_true,Nat.testBit_two_pow,decide_eq_true_iff]at h1;rcases h1 with h1|h1
    ·exact Or.inl h1
    exact Or.inr ⟨a,List.mem_cons_self ..,ho,h1.symm⟩
   rw [if_neg ho]at h1;exact Or.inl h1
  exact Or.inr ⟨n,List.mem_cons_of_mem _ hn,h2⟩
theorem part_heads {c:List Nd}(hc:check c=0) {k:Nat}(hk:k < c.length):∀n∈canon (tr c k),∃m∈c,m.head=n.head:=by
 have hP:∀(n:Nd) (k1 k2:Nat),(∃m∈c,m.head=n.head)->∃m∈c,m.head=(n.with_ k1 k2).head:=fun n k1 k2 ⟨m,hm,h⟩=>⟨m,hm,by rw [with_head];exact h⟩
 exact ins_all (P:=fun n=>∃m∈c,m.head=n.head) hP (tr c k) [] (tr_all (P:=fun n=>∃m∈c,m.head=n.head) hP (check_wf hc) (fun n hn=>⟨n,hn,rfl⟩) k hk) (fun n hn=>by cases hn)
theorem fit_part {md:Md} {c:List Nd}(hc:check c=0)(hcc:compactN c=c)(hs:subS (fragsN c) 15=true)(hf:fitsN c md.rel.length md.val.length=true) {k:Nat}(hk:k < c.length):fit17 md c (k:Int)=true:=by
 have hg:=(sub_props hc hk).2.1;have htk:(tr c k).ok:=tr_ok (check_wf hc) k hk;have hce:compactN (subN c (k:Int))=canon (tr c k):=by
  rw [compactN_tree hg,subN_tree hc hk,treeOf_canon htk]
 have hh:=part_heads hc hk;unfold fitsN at hf;rw [Bool.and_eq_true,Bool.and_eq_true,List.all_eq_true,List.all_eq_true,hcc]at hf;unfold fit17;rw [Bool.and_eq_true];refine⟨?_,?_⟩
 ·rw [subS_iff]at hs⊢;intro i hi;unfold fragsN fragMask at hi;rw [hce]at hi;rcases frag_src _ _ _ hi with h|⟨n,hn,h⟩
  ·rw [Nat.zero_testBit]at h;cases h
  obtain⟨m,hm,e⟩:=hh n hn;refine hs i ?_;unfold fragsN fragMask;rw [hcc];exact(frag_mem c 0).2 m hm i (by rw [(head_eqs e).1];exact h)
 unfold fitsN;rw [Bool.and_eq_true,Bool.and_eq_true,List.all_eq_true,List.all_eq_true,hce];refine⟨by rw [hg];rfl,fun i hi=> ?_,fun i hi=> ?_⟩
 ·have h1:=hf.2.1 i hi;unfold fitA at h1⊢;rw [Bool.or_eq_true]at h1⊢;rcases h1 with h1|h1
  ·refine Or.inl ?_;cases hb:(agentsM (canon (tr c k))).testBit i
   ·rfl
   exfalso
   rcases ag_src _ _ _ hb with h|⟨n,hn,h⟩
   ·rw [Nat.zero_testBit]at h;cases h
   obtain⟨m,hm,e⟩:=hh n hn;have:=(ag_mem c 0).2 m hm i (by rw [(head_eqs e).1,(head_eqs e).2.1,(head_eqs e).2.2];exact h);unfold agentsM at h1;rw [this]at h1;cases h1
  exact Or.inr h1
 have h1:=hf.2.2 i hi;unfold fitA at h1⊢;rw [Bool.or_eq_true]at h1⊢;rcases h1 with h1|h1
 ·refine Or.inl ?_;cases hb:(factsM (canon (tr c k))).testBit i
  ·rfl
  exfalso
  rcases fa_src _ _ _ hb with h|⟨n,hn,h⟩
  ·rw [Nat.zero_testBit]at h;cases h
  obtain⟨m,hm,e⟩:=hh n hn;have:=(fa_mem c 0).2 m hm i (by rw [(head_eqs e).1,(head_eqs e).2.1];exact h);unfold factsM at h1;rw [this]at h1;cases h1
 exact Or.inr h1
theorem sets_is {md:Md} {c:List Nd}(hck:checkM md=0)(hc:check c=0)(hf:∀k:Nat,k < c.length->fit17 md c (k:Int)=true)(h12:∀n∈c,n.op≠12):∀k,k < c.length->IsW md (setS md c (setsK md c k) k) (tr c k):=by
 intro k
 induction k using Nat.strongRecOn with
 |_ k ih =>
  intro hk;obtain⟨n,hn⟩:∃n,c[k]?=some n:=⟨_,Qv hk⟩;obtain⟨hx,hy⟩:=check_wf hc k n hn;unfold setS;rw [if_pos (hf k hk),getD_of hn,tr_eq (check_wf hc) hn];refine node_sat hck (fit_nd hc hn (hf k hk) (checkM_zero hck).2.2.1) (h12 n (List.mem_of_getElem? hn)) (fun h=> ?_) (fun h=> ?_)
  ·have:=hx h;rw [if_pos h,setsK_at md c k _ (by omega)];exact ih _ (by omega) (by omega)
  have:=hy h;rw [if_pos h,setsK_at md c k _ (by omega)];exact ih _ (by omega) (by omega)
theorem dif_low {a b n:Nat}(h:a < 2^n):difN a b < 2^n:=low_bits fun i hi=>by
 rw [dif_bit,Bool.and_eq_true]at hi;exact bit_lt h hi.1
theorem allw_low(n:Nat):allW n < 2^n:=by
 unfold allW;have:=Nat.two_pow_pos n;omega
theorem bool_low {op:Int} {x y n:Nat}(hx:x < 2^n)(hy:y < 2^n):boolN op x y (allW n) < 2^n:=by
 have h:=Nat.two_pow_pos n;unfold boolN
 repeat' split
 ·exact allw_low n
 ·exact dif_low (allw_low n)
 ·exact Nat.lt_of_le_of_lt Nat.and_le_left hx
 ·exact Nat.or_lt_two_pow hx hy
 ·exact Nat.or_lt_two_pow (dif_low (allw_low n)) hy
 ·exact dif_low (allw_low n)
 exact h
theorem one_low {md:Md}(hck:checkM md=0) {n:Nd} {x y:Nat}(hx:x < 2^md.n.toNat)(hy:y < 2^md.n.toNat):oneN md n x y < 2^md.n.toNat:=by
 unfold oneN
 split
 ·have hb:=(checkM_zero hck).2.2.2.2.2.1;unfold beyondN at hb;rw [List.any_eq_false]at hb;rw [Qk];cases e:md.val[n.i.toNat]? with
  |none=>exact Nat.two_pow_pos _
  |some s =>
   have:=hb s (List.mem_of_getElem? e)
   simpa using this
 split
 ·exact bool_low hx hy
 split
 ·exact mask_lt _ _
 split
 ·exact dif_low (allw_low _)
 split
 ·exact mask_lt _ _
 split
 ·exact mask_lt _ _
 exact mask_lt _ _
theorem getD_low {l:List Nat} {b:Nat}(h:∀s∈l,s < b)(hb:0 < b)(i:Nat):l.getD i 0 < b:=by
 rw [Qk];cases e:l[i]? with
 |none=>exact hb
 |some s=>exact h s (List.mem_of_getElem? e)
theorem setsK_low {md:Md}(hck:checkM md=0)(f:List Nd):∀k,∀s∈setsK md f k,s < 2^md.n.toNat
 |0,s,hs=>by cases hs
 |k+1,s,hs=>by
  have ih:=setsK_low hck f k;have h0:=Nat.two_pow_pos md.n.toNat;rcases List.mem_append.1 hs with h|h
  ·exact ih s h
  rw [List.mem_singleton.1 h];unfold setS
  split
  ·refine one_low hck ?_ ?_
   ·split
    ·exact getD_low ih h0 _
    exact h0
   split
   ·exact getD_low ih h0 _
   exact h0
  exact h0
theorem chk_compact {md:Md} {f:List Nd}(h:chk17 md (compactN f)=0):check f=0:=by
 refine Classical.byContradiction fun hn=> ?_
 have hcc:=(chk17_zero h).2.1;have:compactN f= []:=by
  unfold compactN subN;rw [show(check f !=0)=true by simpa using hn];rfl
 rw [this]at hcc;exact check_nil hcc
theorem hold_is {md:Md} {f:List Nd}(h:chk17 md (compactN f)=0)(hl:langBad f=false):check f=0/\IsW md (hold17 md f) (treeOf f)/\hold17 md f < 2^md.n.toNat:=by
 obtain⟨hck,hcc,hs,hf⟩:=chk17_zero h;have hc:check f=0:=chk_compact h;have hp:=(compactN_props hc).2.2.1;have h2:=compact_twice hc;have h12:∀n∈compactN f,n.op≠12:=fun n hn e=>by
  have:=lang_ops hc hl n hn;unfold tyOp at this;omega
 refine⟨hc,?_,?_⟩
 ·unfold hold17;rw [if_pos h,setsK_at md _ _ _ (by omega),<-treeOf_compact hc];exact sets_is hck hcc (fun k hk=>fit_part hcc h2 hs hf hk) h12 _ (by omega)
 unfold hold17;rw [if_pos h];exact getD_low (setsK_low hck _ _) (Nat.two_pow_pos _) _
structure InB (A F:Nat) (n:Nd):Prop where
 agent:n.op=9\/n.op=10->0<=n.i/\n.i < A
 group:∀i:Nat,gbit n.g i=true->i < A
 fact:n.op=3->0<=n.i/\n.i < F
section
variable {A F:Nat}
theorem InB.with {n:Nd}(h:InB A F n)(k1 k2:Nat):InB A F (n.with_ k1 k2):=⟨h.agent,h.group,h.fact⟩
theorem inB_plain {op:Int}(h:op=1\/op=4\/op=5\/op=7):InB A F ⟨op,0,0,0,0,0⟩:=
 ⟨fun e=>by have:op=9\/op=10:=e;omega,fun i hi=>by unfold gbit at hi;simp at hi,fun e=>by have:op=3:=e;omega⟩
theorem inB_know {i:Int}(h:0<=i/\i < A):InB A F ⟨9,i,0,0,0,0⟩:=
 ⟨fun _=>h,fun i hi=>by unfold gbit at hi;simp at hi,fun e=>by have:(9:Int)=3:=e;omega⟩
theorem ands_in:∀(r:List Tr) (t:Tr),t.all (InB A F)->(∀u∈r,u.all (InB A F))->(andsT t r).all (InB A F)
 |[],_,ht,_=>ht
 |u :: r,t,ht,hr=>ands_in r _ ⟨inB_plain (by omega),ht,hr u (List.mem_cons_self ..)⟩ (fun v hv=>hr v (List.mem_cons_of_mem _ hv))
theorem all_in:∀(l:List Tr),(∀u∈l,u.all (InB A F))->(allT l).all (InB A F)
 |[],_=>inB_plain (by omega)
 |t :: r,h=>ands_in r t (h t (List.mem_cons_self ..)) (fun v hv=>h v (List.mem_cons_of_mem _ hv))
theorem exp_in:∀(t:Tr),t.all (InB A F)->(expT t).all (InB A F)
 |.leaf _,h=>h
 |.one n a,h=>by
  have ih:=exp_in a h.2;unfold expT;by_cases h10:n.op=10
  ·rw [if_pos h10];exact⟨inB_plain (by omega),inB_know (h.1.agent (.inr h10)),inB_plain (by omega),ih⟩
  rw [if_neg h10];by_cases h11:n.op=11
  ·rw [if_pos h11];refine all_in _ fun u hu=> ?_
   obtain⟨i,hi,rfl⟩:=List.mem_map.1 hu;obtain⟨_,h2⟩:=List.mem_filter.1 hi;have:=h.1.group i h2;exact⟨inB_know ⟨by omega,by omega⟩,ih⟩
  rw [if_neg h11];exact⟨h.1,ih⟩
 |.two n a b,h=>⟨h.1,exp_in a h.2.1,exp_in b h.2.2⟩
theorem unfT_in {i:Nat} {n:Nd} {a b:Tr}(h:(Tr.two n a b).all (InB A F))(hg:gbit n.g i=true):(unfT i n a b).all (InB A F):=by
 have:=h.1.group i hg;exact⟨inB_know ⟨by omega,by omega⟩,inB_plain (by omega),h.2.1,inB_plain (by omega),h.2.2,h⟩
theorem at_in {t:Tr}(ht:t.ok)(h:t.all (InB A F)) {k:Nat}(hk:k < (canon t).length):(tr (canon t) k).all (InB A F):=
 tr_all (P:=InB A F) (fun _ k1 k2 h=>h.with k1 k2) (canon_wf ht) (ins_all (P:=InB A F) (fun _ k1 k2 h=>h.with k1 k2) t [] h (fun n hn=>by cases hn)) k hk
theorem base_in {t:Tr}(h:Xf t)(he:(baseOfN (canon t)).2=0)(hin:t.all (InB A F)):∀s∈(baseOfN (canon t)).1.map treeOf,s.all (InB A F):=by
 have hB:=base_ok h he;intro s hs;obtain⟨hX,hc⟩:=(mem_trees hB.can).1 hs;unfold baseOfN at he hc;cases hb:((base0 (canon t)).flatMap unfsN).any (fun u=>decide (u.length=0))||decide (12 < (((base0 (canon t)).flatMap unfsN).foldl addF (base0 (canon t))).length)
 case true=>rw [hb]at he;cases he
 rw [hb,cond_false]at hc;rcases(fold_mem _ _ _).1 hc with h1|h1
 ·obtain⟨k,hk,e,_⟩:=h.mem_base0.1 h1;rw [(hX.inj (h.at hk) e)];exact at_in h.xp.1.1 hin hk
 obtain⟨c,hcb,huc⟩:=List.mem_flatMap.1 h1;obtain⟨k,hk,rfl,_⟩:=h.mem_base0.1 hcb;have hx:=h.at hk;have hin2:=at_in h.xp.1.1 hin hk;by_cases ho:(tr (canon t) k).top.op=13
 ·obtain⟨n,a,b,e,ho'⟩:=top_two hx ho;rw [e]at hx huc hin2;obtain⟨i,hi,hg,e2⟩:=(unfs_mem hx ho').1 huc;have hlen:(canon (unfT i n a b)).length<=200:=by
   by_cases e3:(canon (unfT i n a b)).length<=200
   ·exact e3
   rw [short_long (by omega)]at e2;have hp:=canon_pos hX.xp.1.1;rw [e2]at hp;simp at hp
  have hX2:Xf (unfT i n a b):=⟨hx.xp.unf hi,hlen⟩;rw [hX.inj hX2 (by rw [e2,short_fit hlen])];exact unfT_in hin2 hg
 rw [unfs_other hx ho]at huc;cases huc
end
theorem lenB_lt(m:Nat):m < 2^lenB m:=by
 unfold lenB
 split
 ·rename_i h;rw [h];decide
 exact Nat.lt_log2_self
theorem form_in {f:List Nd}(hc:check f=0):(treeOf f).all (InB (lenB (agentsM (compactN f))) (lenB (factsM (compactN f)))):=by
 obtain⟨hw,_,hp,hh⟩:=compactN_props hc;have h:=tr_all (P:=InB (lenB (agentsM (compactN f))) (lenB (factsM (compactN f)))) (fun _ k1 k2 h=>h.with k1 k2) hw (fun n hn=> ?_) ((compactN f).length - 1) (by omega)
 ·rw [show tr (compactN f) ((compactN f).length - 1)=treeOf f from treeOf_compact hc]at h;exact h
 have hn1:=hh n hn;have ha:=fun i hi=>bit_lt (lenB_lt (agentsM (compactN f))) ((ag_mem (compactN f) 0).2 n hn i hi)
 have hf:=fun i hi=>bit_lt (lenB_lt (factsM (compactN f))) ((fa_mem (compactN f) 0).2 n hn i hi)
 refine⟨fun ho=> ?_,fun i hi=>ha i (.inr hi),fun ho=> ?_⟩
 ·have h1:hasAgent n.op=true:=by rcases ho with h|h <;>(rw [h];rfl)
  have h2:=head_agent hn1 h1;have:=ha n.i.toNat (.inl ⟨h1,rfl⟩);exact⟨h2.1,by omega⟩
 have h2:=head_fact hn1 ho;have:=hf n.i.toNat ⟨ho,rfl⟩;exact⟨h2.1,by omega⟩
theorem eng_in {lg:Int} {f:List Nd}(h:EngOk lg f)(he:engErr lg f=0):∀s∈(baseN f).1.map treeOf,s.all (InB (lenB (agentsM (compactN f))) (lenB (factsM (compactN f)))):=by
 have h4:baseN f=baseOfN (canon (expT (treeOf f))):=by
  unfold engErr at he;cases ha:decide (lg < 0)||decide (6 < lg)
  ·rw [ha]at he;rw [<-h.e];exact(base_parts he).2.2.2
  rw [ha]at he;cases he
 have h5:(baseOfN (canon (expT (treeOf f)))).2=0:=by
  rw [<-h4];unfold engErr at he;cases ha:decide (lg < 0)||decide (6 < lg)
  ·rw [ha]at he;exact he
  rw [ha]at he;cases he
 rw [h4];exact base_in h.x h5 (exp_in _ (form_in h.ck))
section
variable {M N:KM} (e:N.W->M.W)
structure IsoN (n:Nd):Prop where
 agent:n.op=9\/n.op=10->∀u v,N.R n.i u v↔M.R n.i (e u) (e v)
 group:n.op=11\/n.op=13->∀i:Nat,i < 4->gbit n.g i=true->∀u v,N.R (i:Int) u v↔M.R (i:Int) (e u) (e v)
 fact:n.op=3->∀u,N.V n.i u↔M.V n.i (e u)
theorem sat_iso(hs:∀v,∃u,e u=v):∀(t:Tr),t.all (IsoN e)->∀u,N.sat t u↔M.sat t (e u)
 |.leaf n,h,u=>by
  show(n.op=1\/(n.op=3/\N.V n.i u))↔(n.op=1\/(n.op=3/\M.V n.i (e u)));refine or_congr Iff.rfl ⟨fun⟨h1,h2⟩=>⟨h1,(h.fact h1 u).1 h2⟩,fun⟨h1,h2⟩=>⟨h1,(h.fact h1 u).2 h2⟩⟩
 |.one n a,h,u=>by
  have ih:=sat_iso hs a h.2;unfold KM.sat;by_cases h4:n.op=4
  ·rw [if_pos h4,if_pos h4,ih u]
  rw [if_neg h4,if_neg h4];by_cases h9:n.op=9
  ·rw [if_pos h9,if_pos h9];constructor
   ·intro k v hv;obtain⟨v',rfl⟩:=hs v;exact(ih v').1 (k v' ((h.1.agent (.inl h9) u v').2 hv))
   intro k v hv;exact(ih v).2 (k (e v) ((h.1.agent (.inl h9) u v).1 hv))
  rw [if_neg h9,if_neg h9];by_cases h10:n.op=10
  ·rw [if_pos h10,if_pos h10];constructor
   ·rintro⟨v,hv,k⟩;exact⟨e v,(h.1.agent (.inr h10) u v).1 hv,(ih v).1 k⟩
   rintro⟨v,hv,k⟩;obtain⟨v',rfl⟩:=hs v;exact⟨v',(h.1.agent (.inr h10) u v').2 hv,(ih v').2 k⟩
  rw [if_neg h10,if_neg h10];by_cases h11:n.op=11
  ·rw [if_pos h11,if_pos h11];constructor
   ·intro k i hi hg v hv;obtain⟨v',rfl⟩:=hs v;exact(ih v').1 (k i hi hg v' ((h.1.group (.inl h11) i hi hg u v').2 hv))
   intro k i hi hg v hv;exact(ih v).2 (k i hi hg (e v) ((h.1.group (.inl h11) i hi hg u v).1 hv))
  rw [if_neg h11,if_neg h11]
 |.two n a b,h,u=>by
  have iha:=sat_iso hs a h.2.1;have ihb:=sat_iso hs b h.2.2;unfold KM.sat;by_cases h5:n.op=5
  ·rw [if_pos h5,if_pos h5,iha u,ihb u]
  rw [if_neg h5,if_neg h5];by_cases h6:n.op=6
  ·rw [if_pos h6,if_pos h6,iha u,ihb u]
  rw [if_neg h6,if_neg h6];by_cases h7:n.op=7
  ·rw [if_pos h7,if_pos h7,iha u,ihb u]
  rw [if_neg h7,if_neg h7];by_cases h8:n.op=8
  ·rw [if_pos h8,if_pos h8,iha u,ihb u]
  rw [if_neg h8,if_neg h8];by_cases h13:n.op=13
  ·rw [if_pos h13,if_pos h13];have hst:∀x y,N.step n.g (N.sat a) x y↔M.step n.g (M.sat a) (e x) (e y):=fun x y=>by
    unfold KM.step;rw [iha y];refine and_congr ⟨?_,?_⟩ Iff.rfl
    ·rintro⟨i,hi,hg,hr⟩;exact⟨i,hi,hg,(h.1.group (.inr h13) i hi hg x y).1 hr⟩
    rintro⟨i,hi,hg,hr⟩;exact⟨i,hi,hg,(h.1.group (.inr h13) i hi hg x y).2 hr⟩
   have up:∀x y,Rch (N.step n.g (N.sat a)) x y->Rch (M.step n.g (M.sat a)) (e x) (e y):=fun x y hr=>hr.map e (fun x y h=>(hst x y).1 h)
   have down:∀p q,Rch (M.step n.g (M.sat a)) p q->∀x,e x=p->∃y,e y=q/\Rch (N.step n.g (N.sat a)) x y:=by
    intro p q hr
    induction hr with
    |@one p q hp =>
     rintro x rfl;obtain⟨y,rfl⟩:=hs q;exact⟨y,rfl,.one ((hst x y).2 hp)⟩
    |@cons p q r hp _ ih =>
     rintro x rfl;obtain⟨y,rfl⟩:=hs q;obtain⟨z,hz,hr⟩:=ih y rfl;exact⟨z,hz,.cons ((hst x y).2 hp) hr⟩
   constructor
   ·intro k v hv;obtain⟨y,rfl,hy⟩:=down _ _ hv u rfl;exact(ihb y).1 (k y hy)
   intro k v hv;exact(ihb v).2 (k (e v) (up u v hv))
  rw [if_neg h13,if_neg h13]
end
structure SelMd (lg:Int) (base:List (List Nd)) (S:List Nat) (agents facts:Nat) (md:Md):Prop where
 n:md.n=S.length
 rel:md.rel=(List.range agents).map fun(a:Nat)=>(List.range S.length).map fun v=>maskN S.length fun w=>possibleN lg (knowsN base) (a:Int) (S.getD v 0) (S.getD w 0)
 vlen:md.val.length=facts
 vlow:∀s∈md.val,s < 2^S.length
 fact:∀(i p:Nat),i < base.length->(lastN (base.getD i [])).op=3->(lastN (base.getD i [])).i=(p:Int)->∀w,w < S.length->(md.val.getD p 0).testBit w=(S.getD w 0).testBit i
section
variable {lg:Int} {l:List (List Nd)} {t0:Tr} {S:List Nat} {agents facts:Nat} {md:Md}
theorem SelMd.row(h:SelMd lg l S agents facts md) {a:Nat}(ha:a < agents):md.rel.getD a []=(List.range S.length).map fun v=>maskN S.length fun w=>possibleN lg (knowsN l) (a:Int) (S.getD v 0) (S.getD w 0):=by
 rw [h.rel,Qk,List.getElem?_map,List.getElem?_range ha];rfl
theorem SelMd.bit(h:SelMd lg l S agents facts md) {a:Nat}(ha:a < agents) {v w:Nat}(hv:v < S.length):((md.rel.getD a []).getD v 0).testBit w=(decide (w < S.length)&&possibleN lg (knowsN l) (a:Int) (S.getD v 0) (S.getD w 0)):=by
 rw [h.row ha,Qk,List.getElem?_map,List.getElem?_range hv];exact mask_bit _ _ _
theorem getD_in {S:List Nat} {v:Nat}(h:v < S.length):S.getD v 0∈S:=by
 rw [Qk,Qv h];exact List.getElem_mem _
theorem in_getD {S:List Nat} {u:Nat}(h:u∈S):∃w,w < S.length/\S.getD w 0=u:=by
 obtain⟨w,hw,e⟩:=List.getElem_of_mem h;exact⟨w,hw,by rw [Qk,Qv hw];exact e⟩
variable (hB:BaseOk l t0) (hlg:0<=lg/\lg<=6) (hF:Full lg (l.map treeOf) (fun t=>t∈S) (th l)) (hlt:∀u∈S,u < 2^l.length)
include hB hlg hF hlt
theorem good_sel(h:SelMd lg l S agents facts md)(h0:0 < S.length)(h64:S.length<=64)(ha4:agents<=4)(hf8:facts<=8):GoodM md lg:=by
 have hM:=modT_in hF hlg.2;have hnn:md.n.toNat=S.length:=by rw [h.n];exact Int.toNat_natCast _
 have hrl:md.rel.length=agents:=by rw [h.rel];simp
 have hrow:∀r∈md.rel,∃a,a < agents/\r=md.rel.getD a []:=fun r hr=>by
  obtain⟨a,ha,e⟩:=List.getElem_of_mem hr;exact⟨a,by omega,by rw [Qk,Qv ha];exact e.symm⟩
 have hlen:∀a,a < agents->(md.rel.getD a []).length=S.length:=fun a ha=>by rw [h.row ha];simp
 have hbey:∀a,a < agents->beyondN (md.rel.getD a []) S.length=false:=fun a ha=>by
  unfold beyondN;rw [List.any_eq_false];intro s hs;rw [h.row ha]at hs;obtain⟨v,_,rfl⟩:=List.mem_map.1 hs
  simpa using mask_lt _ _
 refine⟨hlg,?_,fun r hr=> ?_⟩
 ·unfold checkM;rw [if_neg (by rw [h.n];omega),if_neg (by rw [hrl,h.vlen];omega),hnn];have h1:md.rel.any (fun r=> !decide ((r.length:Int)=md.n))=false:=by
   rw [List.any_eq_false];intro r hr;obtain⟨a,ha,rfl⟩:=hrow r hr;rw [hlen a ha,h.n];simp
  have h2:beyondN md.val S.length=false:=by
   unfold beyondN;rw [List.any_eq_false];intro s hs;have:=h.vlow s hs
   simpa using this
  have h3:md.rel.any (fun r=>beyondN r S.length)=false:=by
   rw [List.any_eq_false];intro r hr;obtain⟨a,ha,rfl⟩:=hrow r hr;rw [hbey a ha];simp
  rw [h1,h2,h3];rfl
 obtain⟨a,ha,rfl⟩:=hrow r hr;have hfr:=hM (a:Int);have hbit:∀v w,v < S.length->(((md.rel.getD a []).getD v 0).testBit w=true↔w < S.length/\Poss lg (l.map treeOf) (a:Int) (th l (S.getD v 0)) (th l (S.getD w 0))):=fun v w hv=>by
  rw [h.bit ha hv,Bool.and_eq_true,decide_eq_true_iff];refine and_congr_right fun hw=> ?_
  exact poss_iff hB (hlt _ (getD_in hw))
 have hl:=hlen a ha;generalize md.rel.getD a []=r at hbit hl;intro q hq;have hq':=hq;unfold propsL at hq;have hmem:=props_mem hq';unfold propP;by_cases h1:q=1
 ·rw [if_pos h1];intro v hv hz;rw [hl]at hv;have hs:lg=1\/lg=5:=by
   subst h1
   repeat' split at hq
   all_goals(simp at hq;try omega)
  obtain⟨u,hp⟩:=hfr.ser hs ⟨S.getD v 0,getD_in hv⟩;obtain⟨w,hw,e⟩:=in_getD u.2;have hp':Poss lg (l.map treeOf) (a:Int) (th l (S.getD v 0)) (th l u.1):=hp;rw [<-e]at hp';have:=(hbit v w hv).2 ⟨hw,hp'⟩;rw [hz,Nat.zero_testBit]at this;cases this
 rw [if_neg h1];by_cases h2:q=2
 ·rw [if_pos h2];intro v hv;rw [hl]at hv;have hs:lg=2\/lg=4\/lg=6:=by
   subst h2
   repeat' split at hq
   all_goals(simp at hq;try omega)
  exact(hbit v v hv).2 ⟨hv,hfr.refl hs ⟨S.getD v 0,getD_in hv⟩⟩
 rw [if_neg h2];by_cases h4:q=4
 ·rw [if_pos h4];have hs:3<=lg/\lg<=6:=by
   subst h4
   repeat' split at hq
   all_goals(simp at hq;try omega)
  intro w u hw hu hwu;show subS (r.getD u 0) (r.getD w 0)=true;rw [subS_iff];rw [hl]at hw hu;intro v hv;obtain⟨_,p1⟩:=(hbit w u hw).1 hwu;obtain⟨hv',p2⟩:=(hbit u v hu).1 hv;exact(hbit w v hw).2 ⟨hv',hfr.trans hs ⟨S.getD w 0,getD_in hw⟩ ⟨S.getD u 0,getD_in hu⟩ ⟨S.getD v 0,getD_in hv'⟩ p1 p2⟩
 rw [if_neg h4];have hs:lg=5\/lg=6:=by
  have:q=5:=by omega
  subst this
  repeat' split at hq
  all_goals(simp at hq;try omega)
 intro w u hw hu hwu;show subS (r.getD w 0) (r.getD u 0)=true;rw [subS_iff];rw [hl]at hw hu;intro v hv;obtain⟨_,p1⟩:=(hbit w u hw).1 hwu;obtain⟨hv',p2⟩:=(hbit w v hw).1 hv;exact(hbit u v hu).2 ⟨hv',hfr.eucl hs ⟨S.getD w 0,getD_in hw⟩ ⟨S.getD u 0,getD_in hu⟩ ⟨S.getD v 0,getD_in hv'⟩ p1 p2⟩
end
theorem cov_facts {B:List Tr}(hB:Closed B):∀t:Tr,cov B t->lang t->t.all (fun n=>n.op=3->Tr.leaf n∈B)
 |.leaf _,h,_=>h
 |.one n a,h,hl=>by
  have h3:n.op=3->Tr.leaf n∈B:=fun e=>by rcases hl.1 with h1|h1 <;> omega
  by_cases h9:n.op=9
  ·have hm:.one n a∈B:=by simpa [cov,h9]using h
   obtain⟨_,hc,hla,_⟩:=hB.know n a hm;exact⟨h3,cov_facts hB a hc hla⟩
  have hc:cov B a:=by simpa [cov,h9]using h
  exact⟨h3,cov_facts hB a hc hl.2⟩
 |.two n a b,h,hl=>by
  have h3:n.op=3->Tr.leaf n∈B:=fun e=>by rcases hl.1 with h1|h1 <;> omega
  by_cases h13:n.op=13
  ·have hm:.two n a b∈B:=by simpa [cov,h13]using h
   obtain⟨_,hca,hcb,hla,hlb,_⟩:=hB.com n a b hm;exact⟨h3,cov_facts hB a hca hla,cov_facts hB b hcb hlb⟩
  have hc:cov B a/\cov B b:=by simpa [cov,h13]using h
  exact⟨h3,cov_facts hB a hc.1 hl.2.1,cov_facts hB b hc.2 hl.2.2⟩
theorem all_and {P Q R:Nd->Prop}(h:∀n,P n->Q n->R n):∀t:Tr,t.all P->t.all Q->t.all R
 |.leaf n,h1,h2=>h n h1 h2
 |.one n a,h1,h2=>⟨h n h1.1 h2.1,all_and h a h1.2 h2.2⟩
 |.two n a b,h1,h2=>⟨h n h1.1 h2.1,all_and h a h1.2.1 h2.2.1,all_and h b h1.2.2 h2.2.2⟩
theorem fact_all:∀t:Tr,factOk t->t.ok->t.all (fun n=>n.op=3->n=⟨3,n.i,0,0,0,0⟩)
 |.leaf _,h,_=>h
 |.one n a,h,ho=>⟨fun e=>absurd (e▸ho.1) (by decide),fact_all a h ho.2.2.2⟩
 |.two n a b,h,ho=>⟨fun e=>absurd (e▸ho.1) (by decide),fact_all a h.1 ho.2.2.2.1,fact_all b h.2 ho.2.2.2.2⟩
section
variable {lg:Int} {f:List Nd} {S:List Nat} {agents facts:Nat} {md:Md}
theorem sel_sat(h:EngOk lg f)(hF:Full lg ((baseN f).1.map treeOf) (fun t=>t∈S) (th (baseN f).1))(hlt:∀u∈S,u < 2^(baseN f).1.length)
 (hm:SelMd lg (baseN f).1 S agents facts md)(hA:lenB (agentsM (compactN f))=agents)(hFa:lenB (factsM (compactN f))=facts)(w:Fin md.n.toNat):
 (kmOf md).sat (treeOf f) w↔(rootN f).getD (S.getD w.1 0) false=true:=by
 have hnn:md.n.toNat=S.length:=by rw [hm.n];exact Int.toNat_natCast _
 have hrl:md.rel.length=agents:=by rw [hm.rel];simp
 have hwl:∀v:Fin md.n.toNat,v.1 < S.length:=fun v=>by have:=v.2;omega
 have hin:=form_in h.ck;rw [hA,hFa]at hin;have hexp:(expT (treeOf f)).all (InB agents facts):=exp_in _ hin;have hcf:=cov_facts h.b.closed _ h.b.cov h.x.xp.lang;have hff:=fact_all _ h.x.xp.fact h.x.xp.1.1
 let M:=modT lg ((baseN f).1.map treeOf) (fun t=>t∈S) (th (baseN f).1)
 let e:(kmOf md).W->M.W:=fun v=>⟨S.getD v.1 0,getD_in (hwl v)⟩
 have hsur:∀v:M.W,∃u,e u=v:=fun v=>by
  obtain⟨w,hw,e1⟩:=in_getD v.2;exact⟨⟨w,by omega⟩,Subtype.ext e1⟩
 have hR:∀i:Int,0<=i/\i < agents->∀u v,(kmOf md).R i u v↔M.R i (e u) (e v):=fun i hi u v=>by
  have hi2:0<=i/\i < md.rel.length:=by omega
  show(if 0<=i/\i < md.rel.length then bitR (md.rel.getD i.toNat []) md.n.toNat u v else u=v)↔Poss lg ((baseN f).1.map treeOf) i (th (baseN f).1 (S.getD u.1 0)) (th (baseN f).1 (S.getD v.1 0));rw [if_pos hi2];unfold bitR;rw [hm.bit (by omega) (hwl u),decide_eq_true (hwl v),Bool.true_and,show((i.toNat:Nat):Int)=i by omega];exact poss_iff h.b (hlt _ (getD_in (hwl v)))
 have hV:∀n:Nd,n.op=3->Tr.leaf n∈(baseN f).1.map treeOf->n=⟨3,n.i,0,0,0,0⟩->0<=n.i->∀u,(kmOf md).V n.i u↔M.V n.i (e u):=fun n h3 hn hne h0 u=>by
  obtain⟨i,hg,hi,hth⟩:=th_at h.b hn;show(md.val.getD n.i.toNat 0).testBit u.1=true↔th (baseN f).1 (S.getD u.1 0) (.leaf ⟨3,n.i,0,0,0,0⟩)=true;rw [<-hne,hth];have hcan:(baseN f).1.getD i []= [n]:=by
   rw [Qk,hg];rfl
  have:=hm.fact i n.i.toNat hi (by rw [hcan];exact h3) (by rw [hcan,show((n.i.toNat:Nat):Int)=n.i by omega];rfl) u.1 (hwl u);rw [this]
 have hiso:(expT (treeOf f)).all (IsoN (M:=M) e):=by
  refine all_and (P:=InB agents facts) (Q:=fun n=>(n.op=3->Tr.leaf n∈(baseN f).1.map treeOf)/\(n.op=3->n=⟨3,n.i,0,0,0,0⟩)) (fun n h1 h2=>⟨fun ho=>hR n.i (h1.agent ho),fun _ i _ hg=>hR i ⟨by omega,by have:=h1.group i hg;omega⟩,fun h3=>hV n h3 (h2.1 h3) (h2.2 h3) (h1.fact h3).1⟩) _ hexp (all_and (fun _ h1 h2=>⟨h1,h2⟩) _ hcf hff)
 refine(sat_exp (M:=kmOf md) (treeOf f) w).symm.trans ((sat_iso e hsur _ hiso w).trans ((truth h.b.closed hF _ h.b.cov h.x.xp.lang h.x.xp.fact (e w)).symm.trans ?_));rw [root_get h (hlt _ (getD_in (hwl w)))]
end
theorem fact_at {lg:Int} {f:List Nd}(h:EngOk lg f)(he:engErr lg f=0) {i:Nat}(hi:i < (baseN f).1.length)(ho:(lastN ((baseN f).1.getD i [])).op=3):
 ∃p:Nat,(lastN ((baseN f).1.getD i [])).i=(p:Int)/\p < lenB (factsM (compactN f))/\(baseN f).1.getD i []= [⟨3,(p:Int),0,0,0,0⟩]:=by
 obtain⟨c,hc⟩:∃c,(baseN f).1[i]?=some c:=⟨_,Qv hi⟩;have hcd:(baseN f).1.getD i []=c:=by rw [Qk,hc];rfl
 rw [hcd]at ho⊢;obtain⟨s,hX,rfl,_,hm⟩:=base_get h.b hc;rw [hX.last]at ho;have hin:=eng_in h he s hm;cases s with
 |leaf n =>
  have h3:n.op=3:=ho;have hf:=hX.xp.fact h3;have h0:=hin.fact h3;have hl:lastN (canon (.leaf n))=n:=rfl;rw [hl];refine⟨n.i.toNat,by omega,by omega,?_⟩;show [n]=_;rw [show((n.i.toNat:Nat):Int)=n.i by omega];rw [hf]
 |one n a=>exact absurd (ho▸hX.xp.1.1.1) (by decide)
 |two n a b=>exact absurd (ho▸hX.xp.1.1.1) (by decide)
theorem fact_uniq {lg:Int} {f:List Nd}(h:EngOk lg f)(he:engErr lg f=0) {i j p:Nat}(hi:i < (baseN f).1.length)(hj:j < (baseN f).1.length)(ho:(lastN ((baseN f).1.getD i [])).op=3)(hp:(lastN ((baseN f).1.getD i [])).i=(p:Int))
 (ho2:(lastN ((baseN f).1.getD j [])).op=3)(hp2:(lastN ((baseN f).1.getD j [])).i=(p:Int)):i=j:=by
 obtain⟨q,hq,_,e1⟩:=fact_at h he hi ho;obtain⟨q2,hq2,_,e2⟩:=fact_at h he hj ho2;have hqp:q=p:=by omega
 have hqp2:q2=p:=by omega
 subst hqp hqp2;have hg:∀k,k < (baseN f).1.length->(baseN f).1[k]?=some ((baseN f).1.getD k []):=fun k hk=>by rw [Qk,Qv hk];rfl
 have h1:=place_at h.b.nodup (hg i hi);have h2:=place_at h.b.nodup (hg j hj);rw [e1,<-e2,h2]at h1;omega
structure FactI (base:List (List Nd)) (S:List Nat) (i:Nat) (vals:List Nat):Prop where
 low:∀s∈vals,s < 2^S.length
 bit:∀j p:Nat,j < i->(lastN (base.getD j [])).op=3->(lastN (base.getD j [])).i=(p:Int)->∀w,w < S.length->(vals.getD p 0).testBit w=(S.getD w 0).testBit j
 zero:∀p:Nat,(∀j,j < i->¬((lastN (base.getD j [])).op=3/\(lastN (base.getD j [])).i=(p:Int)))->vals.getD p 0=0
theorem getD_repl(n i:Nat):(List.replicate n 0).getD i 0=0:=by
 rw [Qk,List.getElem?_replicate]
 split <;> rfl
theorem FactI.start(base:List (List Nd))(S:List Nat)(n:Nat):FactI base S 0 (List.replicate n 0):=
 ⟨fun s hs=>by rw [(List.mem_replicate.1 hs).2];exact Nat.two_pow_pos _,fun j p hj=>absurd hj (by omega),fun p _=>getD_repl n p⟩
structure WordK (S:List Nat) (i k x:Nat):Prop where
 low:x < 2^S.length
 bit:∀w,x.testBit w=(decide (w < k)&&(S.getD w 0).testBit i)
theorem WordK.start(S:List Nat)(i:Nat):WordK S i 0 0:=⟨Nat.two_pow_pos _,fun w=>by simp⟩
theorem WordK.step {S:List Nat} {i k x:Nat}(h:WordK S i k x)(hk:k < S.length):WordK S i (k+1) (x|||(if(S.getD k 0).testBit i then 2^k else 0)):=by
 refine⟨Nat.or_lt_two_pow h.low ?_,fun w=> ?_⟩
 ·split
  ·exact Nat.pow_lt_pow_right (by decide) hk
  exact Nat.two_pow_pos _
 rw [Nat.testBit_or,h.bit w];cases hb:(S.getD k 0).testBit i
 ·rw [if_neg (by simp),Nat.zero_testBit,Bool.or_false];by_cases e:w=k
  ·subst e;rw [hb];simp
  have:decide (w < k+1)=decide (w < k):=by rw [decide_eq_decide];omega
  rw [this]
 rw [if_pos rfl,Nat.testBit_two_pow];by_cases e:w=k
 ·subst e;rw [hb];simp
 have h1:decide (k=w)=false:=decide_eq_false (fun q=>e q.symm);have h2:decide (w < k+1)=decide (w < k):=by rw [decide_eq_decide];omega
 rw [h1,h2,Bool.or_false]
theorem getD_setN {l:List Nat} {p x q:Nat} :(l.set p x).getD q 0=if p=q/\p < l.length then x else l.getD q 0:=by
 rw [Qk,Qk,List.getElem?_set];by_cases e:p=q
 ·subst e;by_cases hl:p < l.length
  ·rw [if_pos rfl,if_pos hl,if_pos ⟨rfl,hl⟩];rfl
  rw [if_pos rfl,if_neg hl,if_neg (fun h=>hl h.2),List.getElem?_eq_none (by omega)]
 rw [if_neg e,if_neg (fun h=>e h.1)]
section
variable {base:List (List Nd)} {S vals:List Nat} {i:Nat}
theorem FactI.other(h:FactI base S i vals)(ho:(lastN (base.getD i [])).op≠3):FactI base S (i+1) vals :=
 ⟨h.low,fun j p hj h1 h2 w hw=>by
  by_cases e:j=i
  ·subst e;exact absurd h1 ho
  exact h.bit j p (by omega) h1 h2 w hw,fun p hp=>h.zero p (fun j hj=>hp j (by omega))⟩
theorem FactI.next {p x:Nat}(h:FactI base S i vals)(hu:∀j,j < i->¬((lastN (base.getD j [])).op=3/\(lastN (base.getD j [])).i=(p:Int)))(ho:(lastN (base.getD i [])).op=3)(hi:(lastN (base.getD i [])).i=(p:Int))(hp:p < vals.length)(hx:WordK S i S.length x):FactI base S (i+1) (vals.set p x):=by
 refine⟨fun s hs=> ?_,fun j q hj h1 h2 w hw=> ?_,fun q hq=> ?_⟩
 ·rcases List.mem_or_eq_of_mem_set hs with h1|h1
  ·exact h.low s h1
  rw [h1];exact hx.low
 ·rw [getD_setN];by_cases e:p=q
  ·subst e;rw [if_pos ⟨rfl,hp⟩];by_cases e2:j=i
   ·subst e2;rw [hx.bit,decide_eq_true hw,Bool.true_and]
   exact absurd ⟨h1,h2⟩ (hu j (by omega))
  rw [if_neg (fun h=>e h.1)];by_cases e2:j=i
  ·subst e2;exact absurd (by omega) e
  exact h.bit j q (by omega) h1 h2 w hw
 rw [getD_setN];by_cases e:p=q
 ·subst e;exact absurd ⟨ho,hi⟩ (hq i (by omega))
 rw [if_neg (fun h=>e h.1)];exact h.zero q (fun j hj=>hq j (by omega))
end
structure RowK (n:Nat) (P:Nat->Nat->Bool) (v w:Nat) (r:List Nat):Prop where
 len:r.length=n
 val:∀x,x < n->r.getD x 0=if x < v then maskN n (P x)else if x=v then maskN w (P v)else 0
theorem RowK.start(n:Nat)(P:Nat->Nat->Bool):RowK n P 0 0 (List.replicate n 0):=⟨by simp,fun x hx=>by
 rw [getD_repl,if_neg (by omega)]
 split <;> rfl⟩
theorem RowK.no {n:Nat} {P:Nat->Nat->Bool} {v w:Nat} {r:List Nat}(h:RowK n P v w r)(hp:P v w=false):RowK n P v (w+1) r :=
 ⟨h.len,fun x hx=>by rw [h.val x hx,mask_succ,hp];rfl⟩
theorem RowK.yes {n:Nat} {P:Nat->Nat->Bool} {v w:Nat} {r:List Nat}(h:RowK n P v w r)(hv:v < n)(hp:P v w=true):RowK n P v (w+1) (r.set v (r.getD v 0|||2^w)):=by
 refine⟨by rw [List.length_set];exact h.len,fun x hx=> ?_⟩;rw [getD_setN];by_cases e:v=x
 ·subst e;rw [if_pos ⟨rfl,by rw [h.len];exact hv⟩,h.val v hv,if_neg (by omega),if_pos rfl,if_neg (by omega),if_pos rfl,mask_succ,hp];rfl
 rw [if_neg (fun h=>e h.1),h.val x hx];by_cases h1:x < v
 ·rw [if_pos h1,if_pos h1]
 rw [if_neg h1,if_neg h1,if_neg (fun e2=>e e2.symm),if_neg (fun e2=>e e2.symm)]
theorem RowK.turn {n:Nat} {P:Nat->Nat->Bool} {v:Nat} {r:List Nat}(h:RowK n P v n r):RowK n P (v+1) 0 r:=by
 refine⟨h.len,fun x hx=> ?_⟩;rw [h.val x hx];by_cases h1:x < v
 ·rw [if_pos h1,if_pos (by omega)]
 rw [if_neg h1];by_cases h2:x=v
 ·subst h2;rw [if_pos rfl,if_pos (by omega)]
 rw [if_neg h2,if_neg (by omega)]
 split <;> rfl
theorem RowK.done {n:Nat} {P:Nat->Nat->Bool} {r:List Nat}(h:RowK n P n 0 r):r=(List.range n).map fun v=>maskN n (P v):=by
 refine List.ext_getElem (by simp [h.len]) fun x h1 h2=> ?_
 have hx:x < n:=by rw [h.len]at h1;exact h1
 have:=h.val x hx;rw [if_pos hx,Qk,Qv h1]at this;rw [List.getElem_map,List.getElem_range];exact this
theorem RowK.low {n:Nat} {P:Nat->Nat->Bool} {v w:Nat} {r:List Nat}(h:RowK n P v w r)(hw:w<=n)(hv:v < n):r.getD v 0 < 2^n:=by
 rw [h.val v hv,if_neg (by omega),if_pos rfl];exact Qy (mask_lt _ _) (Nat.pow_le_pow_right (by decide) hw)
end Go.Proofs.YtbfeodammikajaaGreat
