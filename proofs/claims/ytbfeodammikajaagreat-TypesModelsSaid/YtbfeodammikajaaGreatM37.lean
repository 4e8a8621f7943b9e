/- The reference of types: Expand. -/
import Derived.Test.YtbfeodammikajaaGreatM01
import Derived.Test.YtbfeodammikajaaGreatM36
import Derived.Test.YtbfeodammikajaaGreatM22
import Derived.Test.YtbfeodammikajaaGreatM11
import Derived.Test.YtbfeodammikajaaGreatM23
import Derived.Test.YtbfeodammikajaaGreatM27
import Derived.Test.YtbfeodammikajaaGreatM12
namespace Go.Proofs.YtbfeodammikajaaGreat
set_option maxRecDepth 100000
set_option maxHeartbeats 128000000
open Go.RowKit
theorem zero_head {n:Nd}(h:headOk n):({ n with x:=0,y:=0 } :Nd)=n.head:=by
 obtain⟨_,_,_,hx,hy⟩:=h;unfold Nd.head Nd.with_;cases h1:hasX n.op
 ·cases h2:hasY n.op
  ·rw [hx h1,hy h2];rfl
  rw [hx h1];rfl
 cases h2:hasY n.op
 ·rw [hy h2];rfl
 rfl
theorem rebuild_exp {n:Nd}(h:headOk n)(ho:(1<=n.op/\n.op<=11)\/n.op=13)(h10:n.op≠10)(h11:n.op≠11)(a b:List Nd):rebuildN n a b=expS n a b:=by
 have hop:(n.op=1\/n.op=2\/n.op=4\/n.op=5\/n.op=6\/n.op=7\/n.op=8)\/(n.op=3\/n.op=9)\/n.op=13:=by omega
 unfold rebuildN;rw [zero_head h];rcases hop with hop|hop|hop
 ·rw [bare0 h hop];rcases hop with e|e|e|e|e|e|e
  all_goals(unfold expS;rw [e])
  ·exact true_list.symm
  ·exact false_list.symm
  all_goals rfl
 ·rw [barei h hop];rcases hop with e|e
  all_goals(unfold expS;rw [e])
  ·exact(build_zero (n:=⟨3,n.i,0,0,0,0⟩) rfl rfl (head3 h e)).2.symm
  rfl
 rw [bareg h hop];unfold expS;rw [hop];rfl
theorem rexpand_any(v:Value)(f:List Nd)(w:World)(h:Fml w v f)(hc:check f=0)(hl:∀n∈compactN f,(1<=n.op/\n.op<=11)\/n.op=13):
 Calls Tryz.prog 56 #[v] w fun e w'=>∃u,e=.returned u/\Fml w' u (expandN f)/\Ext w w':=by
 have H:=Qq h;obtain⟨iI,hiI,hzI0,hzI1,hzI2⟩:=info_parts tInfoF2;obtain⟨A,c,rfl,_⟩:=fml_slice h;obtain⟨hwf,hlen0,hpos,hheads⟩:=compactN_props hc;have hl200:(compactN f).length<=200:=Qx hlen0 (check_parts hc).2.1;obtain⟨cl,hcl⟩:∃b,b=compactN f:=⟨_,rfl⟩;rw [<-hcl]at hwf hpos hheads hl200 hl;have HCL:=Qq hcl;have HWF:=Qq hwf;have HHD:=Qq hheads;have HLG:=Qq hl;clear h hc hwf hlen0 hheads hcl hl;go_enter Tryz.func56,Tryz.ntmps56;go_wp2_with fail;refine(refCompact_any _ f _ H.out).mono ?_;rintro e w0 ⟨uc,rfl,hm0⟩;rw [<-HCL.out]at hm0;have HM0:=Qq hm0;obtain⟨Ac,cc,rfl,hcap,hmax,hread⟩:=fml_slice hm0.fml;obtain⟨ad,rfl,hblk,hcells⟩:=hread (by intro e;rw [e]at hpos;simp at hpos)
 have HCELLS:=Qq hcells;unfold maxLen at hmax;clear hm0 hread hcells;go_wp2_with fail;go_loopw [3,12] (fun vo vi wr=>∃k:Nat,vi=.int .i64 (k:Int)/\k<=cl.length/\Hid (∃out,expGo (cl.take k) []=some out/\out.length=k/\FRow w0 wr vo out)) (fun _ v _=>cl.length - (intOf v).toNat)
 case atStart=>exact⟨0,rfl,Nat.zero_le _,Qq ⟨[],rfl,rfl,FRow.nil _⟩⟩
 case round =>
  obtain⟨k,rfl,hk,HREL⟩:=hrel;obtain⟨out,ho,hok,hfr⟩:=HREL.out;obtain⟨us,hrow,hus⟩:=hfr.row;obtain⟨Ao,co,rfl⟩:=slice_of_row hrow;have HO:=Qq ho;have HOK:=Qq hok;have HFR:=Qq hfr;have HROW:=Qq hrow;have HUS:=Qq hus;have hol:out.length<=1000:=by omega
  clear HREL ho hfr hrow hus hok;by_cases hlt2:k < cl.length
  ·have hk1:(k:Int) < (cl.length:Int):=by omega
   obtain⟨n,hn⟩:∃n,cl[k]?=some n:=⟨_,Qv hlt2⟩;obtain⟨c0,c1,c2,c3,c4,c5⟩:=(HCELLS.out k n hn).keep fun p hp=>HFR.out.ext.cell (p:=p) (by rw [hp,block_of_add];exact hblk)
   have hblk2:(ad.add (k*6)).block < wr.heap.size:=by rw [block_of_add];exact Qy hblk HFR.out.ext.size
   have HN:=Qq hn;have HOPS:=Qq (HLG.out n (List.mem_of_getElem? hn));have HHN:=Qq (HHD.out n (List.mem_of_getElem? hn));have HXY:=Qq (HWF.out k n hn);have HNO:=Qq (show n.ok from HM0.out.2.1 n (List.mem_of_getElem? hn));clear hn;obtain⟨wq,hwq⟩:∃v,v=wr:=⟨_,rfl⟩;subst hwq;obtain⟨o,i1,e1,gq,px,py⟩:=n;have HCS:=Qq (xy_cases o);rcases HCS.out with⟨hux,huy⟩|⟨hux,huy⟩|⟨hux,huy⟩
   ·have HUX:=Qq hux;have HUY:=Qq huy;clear hux huy HCS;have HW0:=Qq (show(wq.alloc (.cells #[.int .i64 o,.int .i64 i1,.int .i64 e1,.int .i64 gq,.int .i64 px,.int .i64 py] 93)).heap[wq.heap.size]?=some (.cells #[.int .i64 o,.int .i64 i1,.int .i64 e1,.int .i64 gq,.int .i64 px,.int .i64 py] 93 (0,0))from heap_alloc_new _ _);have HX0:=Qq (show Ext wq (wq.alloc (.cells #[.int .i64 o,.int .i64 i1,.int .i64 e1,.int .i64 gq,.int .i64 px,.int .i64 py] 93))from Qz.alloc _);obtain⟨⟨d0,d1,d2,d3,d4,d5⟩,dfr,dlt⟩:=cells6 HW0.out;have h10:o≠10:=fun e=>by have h1:=HUX.out;have h2:=HUY.out;rw [e]at h1 h2;revert h1 h2;decide
    have h11:o≠11:=fun e=>by have h1:=HUX.out;have h2:=HUY.out;rw [e]at h1 h2;revert h1 h2;decide
    have HEX:=Qq (show expS ⟨o,i1,e1,gq,px,py⟩ (out.getD (px).toNat []) (out.getD (py).toNat [])=rebuildN ⟨o,i1,e1,gq,px,py⟩ [] [] by
     rw [rebuild_exp HHN.out HOPS.out h10 h11];exact expS_congr (fun h=>absurd (HUX.out.symm.trans h) (by decide)) (fun h=>absurd (HUY.out.symm.trans h) (by decide)) HOPS.out)
    have t10:(o==10)=false:=by rw [beq_eq_false_iff_ne];exact h10
    have t11:(o==11)=false:=by rw [beq_eq_false_iff_ne];exact h11
    clear h10 h11;go_wp2_with(first|(go_at_call 89;refine(usesX_as HUX.out _).mono ?_;rintro e1 w5 ⟨rfl,rfl⟩)|(go_at_call 90;refine(usesY_as HUY.out _).mono ?_;rintro e1 w5 ⟨rfl,rfl⟩));refine(rebuild_any ⟨o,i1,e1,gq,px,py⟩ _ _ [] [] _ HHN.out HNO.out (fml_none _) (fml_none _)).mono ?_;rintro e w2 ⟨u,rfl,hm⟩;have HM:=Qq hm;obtain⟨⟨d0,d1,d2,d3,d4,d5⟩,dfr,dlt⟩:=cells6 ((hm.ext.block dlt).trans HW0.out);have HG:Hid (Made wq w2 u (expS ⟨o,i1,e1,gq,px,py⟩ (out.getD (px).toNat []) (out.getD (py).toNat []))):=Qq (by rw [HEX.out];exact hm.before HX0.out);clear hm HEX;obtain⟨As8,cs8,rfl,_⟩:=fml_slice HG.out.fml
    have HX8:=Qq HG.out.ext;by_cases hz:(expS ⟨o,i1,e1,gq,px,py⟩ (out.getD (px).toNat []) (out.getD (py).toNat [])).length=0
    ·have HE:=Qq (show expandN f= [] by
      unfold expandN;rw [<-HCL.out,expGo_none (k:=k+1) (by rw [expGo_step HN.out HO.out,decide_eq_true hz];rfl)])
     have hzb:(((expS ⟨o,i1,e1,gq,px,py⟩ (out.getD (px).toNat []) (out.getD (py).toNat [])).length:Int)==0)=true:=by rw [hz];rfl
     generalize (expS ⟨o,i1,e1,gq,px,py⟩ (out.getD (px).toNat []) (out.getD (py).toNat [])).length=m8 at hz hzb;clear hz;go_wp2_with fail;go_ret;exact⟨_,rfl,by rw [HE.out];exact fml_none _,HM0.out.ext.trans (HFR.out.ext.trans HX8.out)⟩
    have hzb:(((expS ⟨o,i1,e1,gq,px,py⟩ (out.getD (px).toNat []) (out.getD (py).toNat [])).length:Int)==0)=false:=by rw [beq_eq_false_iff_ne];omega
    have HSTEP:=Qq (show expGo (cl.take (k+1)) []=some (out++ [expS ⟨o,i1,e1,gq,px,py⟩ (out.getD (px).toNat []) (out.getD (py).toNat [])]) by rw [expGo_step HN.out HO.out,decide_eq_false hz];rfl);clear hz;generalize expS ⟨o,i1,e1,gq,px,py⟩ (out.getD (px).toNat []) (out.getD (py).toNat [])=g8 at HG hzb HSTEP;have hc3:out.length+1<=maxLen:=by unfold maxLen;omega
    have hc4:(out.length+1)*24<=140737488355328:=by omega
    go_wp2_with(at_builtin;refine wpList_append_own_at _ rfl _ _ 49 rfl w0.heap.size 22 iI (.slice none 0 0) 1 24 Tryz.underlying49 hiI hzI0 hzI1 hzI2 rfl (by decide) _ out.length us rfl (row_ext HROW.out (HX8.out.alloc _)) ⟨_,0,none⟩ 1 1 [.slice As8 g8.length cs8] rfl rfl (row_new_at _ _ _ (by simp)) (fun u hu=>by rw [List.mem_singleton.1 hu];rfl) hc3 hc4 (Qx HFR.out.ext.size (HX8.out.alloc _).size) ?_);intro v7 w7 hown7 hgrow7 _ hat7;have HPS:=Qq (FRow.push (s:=g8) ((HFR.out.ext.trans HX8.out).alloc _) (row_ext HROW.out (HX8.out.alloc _)) (fun k s hk=>by
     obtain⟨u,a,b,c⟩:=HUS.out k s hk;exact⟨u,a,b.ext (HX8.out.alloc _),c.ext (HX8.out.alloc _)⟩) hown7 hgrow7 (hat7.imp id (fun e=>e.trans (by simp))) (HG.out.fml.ext (Qz.alloc _)) (made_away (Nat.le_refl _) (row_ext HG.out.1 (Qz.alloc _)) HROW.out HFR.out.ext.size))
    obtain⟨A7,c7,rfl⟩:=slice_of_row hown7;clear hown7 hgrow7 hat7;go_wp2_with fail;go_roundw
    case rel=>exact⟨k+1,by go_num,by omega,Qq ⟨_,HSTEP.out,by rw [List.length_append,HOK.out];rfl,HPS.out⟩⟩
    case measure=>simp [intOf];omega
   ·have HUX:=Qq hux;have HUY:=Qq huy;clear hux huy HCS;obtain⟨g0,cap0,hsl,hs1,hs2⟩:=HFR.out.slice (by rw [HOK.out];have:=(HXY.out.1 HUX.out);omega);injection hsl with hsl1 _ hsl2;subst hsl1 hsl2;unfold maxLen at hs2;have hXx:0<=px/\px < k:=HXY.out.1 HUX.out;obtain⟨jx,hjx⟩:=Int.eq_ofNat_of_zero_le hXx.1;subst hjx;obtain⟨sx,hsx⟩:∃s,out[jx]?=some s:=⟨_,List.getElem?_eq_getElem (by rw [HOK.out];omega)⟩;obtain⟨ux,hux,hfx,hglx⟩:=HFR.out.get hsx;have HSx:=Qq (show out.getD (jx:Int).toNat []=sx by rw [Int.toNat_natCast,Qk,hsx];rfl);have HFx:=Qq hfx;obtain⟨Ax,cx,rfl,_⟩:=fml_slice hfx;have hjlx:(jx:Int) < (out.length:Int):=by rw [HOK.out];omega
    clear hsx hfx hXx;have HW0:=Qq (show(wq.alloc (.cells #[.int .i64 o,.int .i64 i1,.int .i64 e1,.int .i64 gq,.int .i64 (jx:Int),.int .i64 py] 93)).heap[wq.heap.size]?=some (.cells #[.int .i64 o,.int .i64 i1,.int .i64 e1,.int .i64 gq,.int .i64 (jx:Int),.int .i64 py] 93 (0,0))from heap_alloc_new _ _);have HX0:=Qq (show Ext wq (wq.alloc (.cells #[.int .i64 o,.int .i64 i1,.int .i64 e1,.int .i64 gq,.int .i64 (jx:Int),.int .i64 py] 93))from Qz.alloc _);obtain⟨⟨d0,d1,d2,d3,d4,d5⟩,dfr,dlt⟩:=cells6 HW0.out;by_cases h10:o=10
    ·subst h10;have HEX:=Qq (show expS ⟨10,i1,e1,gq,(jx:Int),py⟩ (out.getD (jx:Int).toNat []) (out.getD (py).toNat [])=notN (knowN i1 (notN sx)) by unfold expS;rw [HSx.out];rfl);go_wp2_with(first|(go_at_call 89;refine(usesX_as HUX.out _).mono ?_;rintro e1 w5 ⟨rfl,rfl⟩)|(go_at_call 90;refine(usesY_as HUY.out _).mono ?_;rintro e1 w5 ⟨rfl,rfl⟩));refine(rebuild_any ⟨10,i1,e1,gq,(jx:Int),py⟩ _ _ sx [] _ HHN.out HNO.out (HFx.out.ext HX0.out) (fml_none _)).mono ?_;rintro e w2 ⟨u,rfl,hm⟩;have HM:=Qq hm;obtain⟨⟨d0,d1,d2,d3,d4,d5⟩,dfr,dlt⟩:=cells6 ((hm.ext.block dlt).trans HW0.out);go_upto_region 12 with(fail)
     have HFX2:=Qq (HFx.out.ext (HX0.out.trans hm.ext));have hxw:Ext wq w2:=HX0.out.trans hm.ext;have HHK:=Qq (head9 HHN.out 9 (.inl rfl) (.inr rfl));have HI1:=Qq HNO.out.2.1;clear hm d0 d2 d3 d4 d5 dfr;refine wp_region_held_drew (S:=fun w'=>w'.cell? (⟨wq.heap.size,1,none⟩)=some (.int .i64 i1)) (by kernel_rfl) ((Ext.cell (p:=⟨wq.heap.size,1,none⟩) (by repeat(first|exact Qz|assumption|apply Ext.alloc|apply Ext.drew)) dlt).trans d1) (fun hHeld=> ?_);refine' wpAnyH_take (i:=0) (v:=_) rfl (by kernel_rfl) (by kernel_rfl) (by kernel_rfl) (fun _ _ _ h=>h) (Or.inl ⟨by rfl,?hybw10⟩) hHeld ?restbw10
     case hybw10=>(intro w' hSw;(try dsimp only at hSw);go_simp;(try with_reducible rfl))
     try simp only [Act.put,List.setIfInBounds_toArray,List.set_cons_zero,List.set_cons_succ,List.getElem_toArray,List.getElem_cons_zero]
     refine' wpAnyH_take (i:=1) (v:=_) rfl (by kernel_rfl) (by kernel_rfl) (by kernel_rfl) (fun _ _ _ h=>h) (Or.inl ⟨by rfl,?hybw11⟩) hHeld ?restbw11
     case hybw11=>(intro w' hSw;(try dsimp only at hSw);go_simp;(try with_reducible rfl))
     try simp only [Act.put,List.setIfInBounds_toArray,List.set_cons_zero,List.set_cons_succ,List.getElem_toArray,List.getElem_cons_succ,List.getElem_cons_zero]
     refine' wpAnyH_take (i:=2) (v:=_) rfl (by kernel_rfl) (by kernel_rfl) (by kernel_rfl) (fun _ _ _ h=>h) (Or.inl ⟨by rfl,?hybw12⟩) hHeld ?restbw12
     case hybw12=>(intro w' hSw;(try dsimp only at hSw);go_simp;(try with_reducible rfl))
     try simp only [Act.put,List.setIfInBounds_toArray,List.set_cons_zero,List.set_cons_succ,List.getElem_toArray,List.getElem_cons_succ,List.getElem_cons_zero]
     refine wpAnyH_ready (rs:= [3]) (by kernel_rfl) (by simp) ?_;refine AllReadyH.cons rfl (fun K hK=> ?_) AllReadyH.nil;go_simp;refine(rNot_any _ sx _ (HFX2.out.ext (by exact(by repeat(first|exact Qz|assumption|apply Ext.alloc|apply Ext.drew))))).mono ?_;rintro e w3 ⟨u3,rfl,hm3⟩;have hx3:Ext w2 w3:=Ext.trans (by repeat(first|exact Qz|assumption|apply Ext.alloc|apply Ext.drew)) hm3.ext;have HM3:=Qq (hm3.before (w0:=w2) (by repeat(first|exact Qz|assumption|apply Ext.alloc|apply Ext.drew)));obtain⟨A3,c3,rfl,_⟩:=fml_slice hm3.fml;clear hm3;go_wp2_with fail;refine hK.out _ _ ((Ext.cell (p:=⟨wq.heap.size,1,none⟩) (by repeat(first|exact Qz|assumption|apply Ext.alloc|apply Ext.drew)) dlt).trans d1) (fun hHeld=> ?_)
     clear hK K
     try simp only [Act.put,List.setIfInBounds_toArray,List.set_cons_zero,List.set_cons_succ,List.getElem_toArray,List.getElem_cons_succ,List.getElem_cons_zero]
     refine wpAnyH_ready (rs:= [4]) (by kernel_rfl) (by simp) ?_;refine AllReadyH.cons rfl (fun K hK=> ?_) AllReadyH.nil;go_simp;refine(rKnow_any i1 HI1.out HHK.out _ _ _ (HM3.out.fml.ext (by repeat(first|exact Qz|assumption|apply Ext.alloc|apply Ext.drew)))).mono ?_;rintro e w4 ⟨u4,rfl,hm4⟩;have hx4:Ext w2 w4:=Ext.trans (by repeat(first|exact Qz|assumption|apply Ext.alloc|apply Ext.drew)) hm4.ext;have HM4:=Qq (hm4.before (w0:=w2) (by repeat(first|exact Qz|assumption|apply Ext.alloc|apply Ext.drew)));obtain⟨A4,c4,rfl,_⟩:=fml_slice hm4.fml;clear hm4;go_wp2_with fail;refine hK.out _ _ ((Ext.cell (p:=⟨wq.heap.size,1,none⟩) (by repeat(first|exact Qz|assumption|apply Ext.alloc|apply Ext.drew)) dlt).trans d1) (fun hHeld=> ?_)
     clear hK K
     try simp only [Act.put,List.setIfInBounds_toArray,List.set_cons_zero,List.set_cons_succ,List.getElem_toArray,List.getElem_cons_succ,List.getElem_cons_zero]
     refine wpAnyH_ready (rs:= [5]) (by kernel_rfl) (by simp) ?_;refine AllReadyH.cons rfl (fun K hK=> ?_) AllReadyH.nil;go_simp;refine(rNot_any _ _ _ (HM4.out.fml.ext (by repeat(first|exact Qz|assumption|apply Ext.alloc|apply Ext.drew)))).mono ?_;rintro e w5 ⟨u5,rfl,hm5⟩;have hx5:Ext w2 w5:=Ext.trans (by repeat(first|exact Qz|assumption|apply Ext.alloc|apply Ext.drew)) hm5.ext;have HM5:=Qq (hm5.before (w0:=w2) (by repeat(first|exact Qz|assumption|apply Ext.alloc|apply Ext.drew)));clear hm5;go_wp2_with fail;refine hK.out _ _ ((Ext.cell (p:=⟨wq.heap.size,1,none⟩) (by repeat(first|exact Qz|assumption|apply Ext.alloc|apply Ext.drew)) dlt).trans d1) (fun hHeld=> ?_)
     clear hK K
     try simp only [Act.put,List.setIfInBounds_toArray,List.set_cons_zero,List.set_cons_succ,List.getElem_toArray,List.getElem_cons_succ,List.getElem_cons_zero]
     refine' wpAnyH_take (i:=6) (v:=_) rfl (by kernel_rfl) (by kernel_rfl) (by kernel_rfl) (fun _ _ _ h=>h) (Or.inl ⟨by rfl,?hybw16⟩) hHeld ?restbw16
     case hybw16=>(intro w' hSw;(try dsimp only at hSw);go_simp;(try with_reducible rfl))
     try simp only [Act.put,List.setIfInBounds_toArray,List.set_cons_zero,List.set_cons_succ,List.getElem_toArray,List.getElem_cons_succ,List.getElem_cons_zero]
     refine wpAnyH_done (by kernel_rfl) ?_ _;have HG:Hid (Made wq w5 u5 (expS ⟨10,i1,e1,gq,(jx:Int),py⟩ (out.getD (jx:Int).toNat []) (out.getD (py).toNat []))):=Qq (by rw [HEX.out];exact HM5.out.before hxw);obtain⟨⟨y0,y1,y2,y3,y4,y5⟩,yfr,ylt⟩:=cells6 ((hx5.block dlt).trans ((HM.out.ext.block (lt_heap HW0.out)).trans HW0.out));clear HEX;obtain⟨As8,cs8,rfl,_⟩:=fml_slice HG.out.fml;have HX8:=Qq HG.out.ext;by_cases hz:(expS ⟨10,i1,e1,gq,(jx:Int),py⟩ (out.getD (jx:Int).toNat []) (out.getD (py).toNat [])).length=0
     ·have HE:=Qq (show expandN f= [] by
       unfold expandN;rw [<-HCL.out,expGo_none (k:=k+1) (by rw [expGo_step HN.out HO.out,decide_eq_true hz];rfl)])
      have hzb:(((expS ⟨10,i1,e1,gq,(jx:Int),py⟩ (out.getD (jx:Int).toNat []) (out.getD (py).toNat [])).length:Int)==0)=true:=by rw [hz];rfl
      generalize (expS ⟨10,i1,e1,gq,(jx:Int),py⟩ (out.getD (jx:Int).toNat []) (out.getD (py).toNat [])).length=m8 at hz hzb;clear hz;go_wp2_with fail;go_ret;exact⟨_,rfl,by rw [HE.out];exact fml_none _,HM0.out.ext.trans (HFR.out.ext.trans HX8.out)⟩
     have hzb:(((expS ⟨10,i1,e1,gq,(jx:Int),py⟩ (out.getD (jx:Int).toNat []) (out.getD (py).toNat [])).length:Int)==0)=false:=by rw [beq_eq_false_iff_ne];omega
     have HSTEP:=Qq (show expGo (cl.take (k+1)) []=some (out++ [expS ⟨10,i1,e1,gq,(jx:Int),py⟩ (out.getD (jx:Int).toNat []) (out.getD (py).toNat [])]) by rw [expGo_step HN.out HO.out,decide_eq_false hz];rfl);clear hz;generalize expS ⟨10,i1,e1,gq,(jx:Int),py⟩ (out.getD (jx:Int).toNat []) (out.getD (py).toNat [])=g8 at HG hzb HSTEP;have hc3:out.length+1<=maxLen:=by unfold maxLen;omega
     have hc4:(out.length+1)*24<=140737488355328:=by omega
     go_wp2_with(at_builtin;refine wpList_append_own_at _ rfl _ _ 49 rfl w0.heap.size 22 iI (.slice none 0 0) 1 24 Tryz.underlying49 hiI hzI0 hzI1 hzI2 rfl (by decide) _ out.length us rfl (row_ext HROW.out (HX8.out.alloc _)) ⟨_,0,none⟩ 1 1 [.slice As8 g8.length cs8] rfl rfl (row_new_at _ _ _ (by simp)) (fun u hu=>by rw [List.mem_singleton.1 hu];rfl) hc3 hc4 (Qx HFR.out.ext.size (HX8.out.alloc _).size) ?_);intro v7 w7 hown7 hgrow7 _ hat7;have HPS:=Qq (FRow.push (s:=g8) ((HFR.out.ext.trans HX8.out).alloc _) (row_ext HROW.out (HX8.out.alloc _)) (fun k s hk=>by
      obtain⟨u,a,b,c⟩:=HUS.out k s hk;exact⟨u,a,b.ext (HX8.out.alloc _),c.ext (HX8.out.alloc _)⟩) hown7 hgrow7 (hat7.imp id (fun e=>e.trans (by simp))) (HG.out.fml.ext (Qz.alloc _)) (made_away (Nat.le_refl _) (row_ext HG.out.1 (Qz.alloc _)) HROW.out HFR.out.ext.size))
     obtain⟨A7,c7,rfl⟩:=slice_of_row hown7;clear hown7 hgrow7 hat7;go_wp2_with fail;go_roundw
     case rel=>exact⟨k+1,by go_num,by omega,Qq ⟨_,HSTEP.out,by rw [List.length_append,HOK.out];rfl,HPS.out⟩⟩
     case measure=>simp [intOf];omega
    by_cases h11:o=11
    ·subst h11;have hgr:=group_of HHN.out (.inl rfl);obtain⟨gn,hgn⟩:=Int.eq_ofNat_of_zero_le (show 0<=gq from hgr.1);subst hgn;clear h10 hgr;have HEX:=Qq (show expS ⟨11,i1,e1,(gn:Int),(jx:Int),py⟩ (out.getD (jx:Int).toNat []) (out.getD (py).toNat [])=allN (everyL (gn:Int) sx) by unfold expS;rw [HSx.out];rfl);go_wp2_with(first|(go_at_call 89;refine(usesX_as HUX.out _).mono ?_;rintro e1 w5 ⟨rfl,rfl⟩)|(go_at_call 90;refine(usesY_as HUY.out _).mono ?_;rintro e1 w5 ⟨rfl,rfl⟩));refine(rebuild_any ⟨11,i1,e1,(gn:Int),(jx:Int),py⟩ _ _ sx [] _ HHN.out HNO.out (HFx.out.ext HX0.out) (fml_none _)).mono ?_;rintro e w2 ⟨u,rfl,hm⟩
     have HM:=Qq hm;obtain⟨⟨d0,d1,d2,d3,d4,d5⟩,dfr,dlt⟩:=cells6 ((hm.ext.block dlt).trans HW0.out);go_wp2_with fail;refine(everybody_any gn _ sx _ (HFx.out.ext (HX0.out.trans hm.ext))).mono ?_;rintro e w3 ⟨u3,rfl,hm3⟩;have HG:Hid (Made wq w3 u3 (expS ⟨11,i1,e1,(gn:Int),(jx:Int),py⟩ (out.getD (jx:Int).toNat []) (out.getD (py).toNat []))):=Qq (by rw [HEX.out];exact hm3.before (HX0.out.trans hm.ext));clear HEX hm hm3;obtain⟨As8,cs8,rfl,_⟩:=fml_slice HG.out.fml;have HX8:=Qq HG.out.ext;by_cases hz:(expS ⟨11,i1,e1,(gn:Int),(jx:Int),py⟩ (out.getD (jx:Int).toNat []) (out.getD (py).toNat [])).length=0
     ·have HE:=Qq (show expandN f= [] by
       unfold expandN;rw [<-HCL.out,expGo_none (k:=k+1) (by rw [expGo_step HN.out HO.out,decide_eq_true hz];rfl)])
      have hzb:(((expS ⟨11,i1,e1,(gn:Int),(jx:Int),py⟩ (out.getD (jx:Int).toNat []) (out.getD (py).toNat [])).length:Int)==0)=true:=by rw [hz];rfl
      generalize (expS ⟨11,i1,e1,(gn:Int),(jx:Int),py⟩ (out.getD (jx:Int).toNat []) (out.getD (py).toNat [])).length=m8 at hz hzb;clear hz;go_wp2_with fail;go_ret;exact⟨_,rfl,by rw [HE.out];exact fml_none _,HM0.out.ext.trans (HFR.out.ext.trans HX8.out)⟩
     have hzb:(((expS ⟨11,i1,e1,(gn:Int),(jx:Int),py⟩ (out.getD (jx:Int).toNat []) (out.getD (py).toNat [])).length:Int)==0)=false:=by rw [beq_eq_false_iff_ne];omega
     have HSTEP:=Qq (show expGo (cl.take (k+1)) []=some (out++ [expS ⟨11,i1,e1,(gn:Int),(jx:Int),py⟩ (out.getD (jx:Int).toNat []) (out.getD (py).toNat [])]) by rw [expGo_step HN.out HO.out,decide_eq_false hz];rfl);clear hz;generalize expS ⟨11,i1,e1,(gn:Int),(jx:Int),py⟩ (out.getD (jx:Int).toNat []) (out.getD (py).toNat [])=g8 at HG hzb HSTEP;have hc3:out.length+1<=maxLen:=by unfold maxLen;omega
     have hc4:(out.length+1)*24<=140737488355328:=by omega
     go_wp2_with(at_builtin;refine wpList_append_own_at _ rfl _ _ 49 rfl w0.heap.size 22 iI (.slice none 0 0) 1 24 Tryz.underlying49 hiI hzI0 hzI1 hzI2 rfl (by decide) _ out.length us rfl (row_ext HROW.out (HX8.out.alloc _)) ⟨_,0,none⟩ 1 1 [.slice As8 g8.length cs8] rfl rfl (row_new_at _ _ _ (by simp)) (fun u hu=>by rw [List.mem_singleton.1 hu];rfl) hc3 hc4 (Qx HFR.out.ext.size (HX8.out.alloc _).size) ?_);intro v7 w7 hown7 hgrow7 _ hat7;have HPS:=Qq (FRow.push (s:=g8) ((HFR.out.ext.trans HX8.out).alloc _) (row_ext HROW.out (HX8.out.alloc _)) (fun k s hk=>by
      obtain⟨u,a,b,c⟩:=HUS.out k s hk;exact⟨u,a,b.ext (HX8.out.alloc _),c.ext (HX8.out.alloc _)⟩) hown7 hgrow7 (hat7.imp id (fun e=>e.trans (by simp))) (HG.out.fml.ext (Qz.alloc _)) (made_away (Nat.le_refl _) (row_ext HG.out.1 (Qz.alloc _)) HROW.out HFR.out.ext.size))
     obtain⟨A7,c7,rfl⟩:=slice_of_row hown7;clear hown7 hgrow7 hat7;go_wp2_with fail;go_roundw
     case rel=>exact⟨k+1,by go_num,by omega,Qq ⟨_,HSTEP.out,by rw [List.length_append,HOK.out];rfl,HPS.out⟩⟩
     case measure=>simp [intOf];omega
    skip
    have HEX:=Qq (show expS ⟨o,i1,e1,gq,(jx:Int),py⟩ (out.getD (jx:Int).toNat []) (out.getD (py).toNat [])=rebuildN ⟨o,i1,e1,gq,(jx:Int),py⟩ sx [] by
     rw [rebuild_exp HHN.out HOPS.out h10 h11];exact expS_congr (fun _=>HSx.out) (fun h=>absurd (HUY.out.symm.trans h) (by decide)) HOPS.out)
    have t10:(o==10)=false:=by rw [beq_eq_false_iff_ne];exact h10
    have t11:(o==11)=false:=by rw [beq_eq_false_iff_ne];exact h11
    clear h10 h11;go_wp2_with(first|(go_at_call 89;refine(usesX_as HUX.out _).mono ?_;rintro e1 w5 ⟨rfl,rfl⟩)|(go_at_call 90;refine(usesY_as HUY.out _).mono ?_;rintro e1 w5 ⟨rfl,rfl⟩));refine(rebuild_any ⟨o,i1,e1,gq,(jx:Int),py⟩ _ _ sx [] _ HHN.out HNO.out (HFx.out.ext HX0.out) (fml_none _)).mono ?_;rintro e w2 ⟨u,rfl,hm⟩;have HM:=Qq hm;obtain⟨⟨d0,d1,d2,d3,d4,d5⟩,dfr,dlt⟩:=cells6 ((hm.ext.block dlt).trans HW0.out);have HG:Hid (Made wq w2 u (expS ⟨o,i1,e1,gq,(jx:Int),py⟩ (out.getD (jx:Int).toNat []) (out.getD (py).toNat []))):=Qq (by rw [HEX.out];exact hm.before HX0.out);clear hm HEX;obtain⟨As8,cs8,rfl,_⟩:=fml_slice HG.out.fml
    have HX8:=Qq HG.out.ext;by_cases hz:(expS ⟨o,i1,e1,gq,(jx:Int),py⟩ (out.getD (jx:Int).toNat []) (out.getD (py).toNat [])).length=0
    ·have HE:=Qq (show expandN f= [] by
      unfold expandN;rw [<-HCL.out,expGo_none (k:=k+1) (by rw [expGo_step HN.out HO.out,decide_eq_true hz];rfl)])
     have hzb:(((expS ⟨o,i1,e1,gq,(jx:Int),py⟩ (out.getD (jx:Int).toNat []) (out.getD (py).toNat [])).length:Int)==0)=true:=by rw [hz];rfl
     generalize (expS ⟨o,i1,e1,gq,(jx:Int),py⟩ (out.getD (jx:Int).toNat []) (out.getD (py).toNat [])).length=m8 at hz hzb;clear hz;go_wp2_with fail;go_ret;exact⟨_,rfl,by rw [HE.out];exact fml_none _,HM0.out.ext.trans (HFR.out.ext.trans HX8.out)⟩
    have hzb:(((expS ⟨o,i1,e1,gq,(jx:Int),py⟩ (out.getD (jx:Int).toNat []) (out.getD (py).toNat [])).length:Int)==0)=false:=by rw [beq_eq_false_iff_ne];omega
    have HSTEP:=Qq (show expGo (cl.take (k+1)) []=some (out++ [expS ⟨o,i1,e1,gq,(jx:Int),py⟩ (out.getD (jx:Int).toNat []) (out.getD (py).toNat [])]) by rw [expGo_step HN.out HO.out,decide_eq_false hz];rfl);clear hz;generalize expS ⟨o,i1,e1,gq,(jx:Int),py⟩ (out.getD (jx:Int).toNat []) (out.getD (py).toNat [])=g8 at HG hzb HSTEP;have hc3:out.length+1<=maxLen:=by unfold maxLen;omega
    have hc4:(out.length+1)*24<=140737488355328:=by omega
    go_wp2_with(at_builtin;refine wpList_append_own_at _ rfl _ _ 49 rfl w0.heap.size 22 iI (.slice none 0 0) 1 24 Tryz.underlying49 hiI hzI0 hzI1 hzI2 rfl (by decide) _ out.length us rfl (row_ext HROW.out (HX8.out.alloc _)) ⟨_,0,none⟩ 1 1 [.slice As8 g8.length cs8] rfl rfl (row_new_at _ _ _ (by simp)) (fun u hu=>by rw [List.mem_singleton.1 hu];rfl) hc3 hc4 (Qx HFR.out.ext.size (HX8.out.alloc _).size) ?_);intro v7 w7 hown7 hgrow7 _ hat7;have HPS:=Qq (FRow.push (s:=g8) ((HFR.out.ext.trans HX8.out).alloc _) (row_ext HROW.out (HX8.out.alloc _)) (fun k s hk=>by
     obtain⟨u,a,b,c⟩:=HUS.out k s hk;exact⟨u,a,b.ext (HX8.out.alloc _),c.ext (HX8.out.alloc _)⟩) hown7 hgrow7 (hat7.imp id (fun e=>e.trans (by simp))) (HG.out.fml.ext (Qz.alloc _)) (made_away (Nat.le_refl _) (row_ext HG.out.1 (Qz.alloc _)) HROW.out HFR.out.ext.size))
    obtain⟨A7,c7,rfl⟩:=slice_of_row hown7;clear hown7 hgrow7 hat7;go_wp2_with fail;go_roundw
    case rel=>exact⟨k+1,by go_num,by omega,Qq ⟨_,HSTEP.out,by rw [List.length_append,HOK.out];rfl,HPS.out⟩⟩
    case measure=>simp [intOf];omega
   have HUX:=Qq hux;have HUY:=Qq huy;clear hux huy HCS;obtain⟨g0,cap0,hsl,hs1,hs2⟩:=HFR.out.slice (by rw [HOK.out];have:=(HXY.out.1 HUX.out);omega);injection hsl with hsl1 _ hsl2;subst hsl1 hsl2;unfold maxLen at hs2;have hXx:0<=px/\px < k:=HXY.out.1 HUX.out;obtain⟨jx,hjx⟩:=Int.eq_ofNat_of_zero_le hXx.1;subst hjx;obtain⟨sx,hsx⟩:∃s,out[jx]?=some s:=⟨_,List.getElem?_eq_getElem (by rw [HOK.out];omega)⟩;obtain⟨ux,hux,hfx,hglx⟩:=HFR.out.get hsx;have HSx:=Qq (show out.getD (jx:Int).toNat []=sx by rw [Int.toNat_natCast,Qk,hsx];rfl);have HFx:=Qq hfx;obtain⟨Ax,cx,rfl,_⟩:=fml_slice hfx;have hjlx:(jx:Int) < (out.length:Int):=by rw [HOK.out];omega
   clear hsx hfx hXx;have hXy:0<=py/\py < k:=HXY.out.2 HUY.out;obtain⟨jy,hjy⟩:=Int.eq_ofNat_of_zero_le hXy.1;subst hjy;obtain⟨sy,hsy⟩:∃s,out[jy]?=some s:=⟨_,List.getElem?_eq_getElem (by rw [HOK.out];omega)⟩;obtain⟨uy,huy,hfy,hgly⟩:=HFR.out.get hsy;have HSy:=Qq (show out.getD (jy:Int).toNat []=sy by rw [Int.toNat_natCast,Qk,hsy];rfl);have HFy:=Qq hfy;obtain⟨Ay,cy,rfl,_⟩:=fml_slice hfy;have hjly:(jy:Int) < (out.length:Int):=by rw [HOK.out];omega
   clear hsy hfy hXy;have HW0:=Qq (show(wq.alloc (.cells #[.int .i64 o,.int .i64 i1,.int .i64 e1,.int .i64 gq,.int .i64 (jx:Int),.int .i64 (jy:Int)] 93)).heap[wq.heap.size]?=some (.cells #[.int .i64 o,.int .i64 i1,.int .i64 e1,.int .i64 gq,.int .i64 (jx:Int),.int .i64 (jy:Int)] 93 (0,0))from heap_alloc_new _ _);have HX0:=Qq (show Ext wq (wq.alloc (.cells #[.int .i64 o,.int .i64 i1,.int .i64 e1,.int .i64 gq,.int .i64 (jx:Int),.int .i64 (jy:Int)] 93))from Qz.alloc _);obtain⟨⟨d0,d1,d2,d3,d4,d5⟩,dfr,dlt⟩:=cells6 HW0.out;have h10:o≠10:=fun e=>by have h1:=HUX.out;have h2:=HUY.out;rw [e]at h1 h2;revert h1 h2;decide
   have h11:o≠11:=fun e=>by have h1:=HUX.out;have h2:=HUY.out;rw [e]at h1 h2;revert h1 h2;decide
   have HEX:=Qq (show expS ⟨o,i1,e1,gq,(jx:Int),(jy:Int)⟩ (out.getD (jx:Int).toNat []) (out.getD (jy:Int).toNat [])=rebuildN ⟨o,i1,e1,gq,(jx:Int),(jy:Int)⟩ sx sy by
    rw [rebuild_exp HHN.out HOPS.out h10 h11];exact expS_congr (fun _=>HSx.out) (fun _=>HSy.out) HOPS.out)
   have t10:(o==10)=false:=by rw [beq_eq_false_iff_ne];exact h10
   have t11:(o==11)=false:=by rw [beq_eq_false_iff_ne];exact h11
   clear h10 h11;go_wp2_with(first|(go_at_call 89;refine(usesX_as HUX.out _).mono ?_;rintro e1 w5 ⟨rfl,rfl⟩)|(go_at_call 90;refine(usesY_as HUY.out _).mono ?_;rintro e1 w5 ⟨rfl,rfl⟩));refine(rebuild_any ⟨o,i1,e1,gq,(jx:Int),(jy:Int)⟩ _ _ sx sy _ HHN.out HNO.out (HFx.out.ext HX0.out) (HFy.out.ext HX0.out)).mono ?_;rintro e w2 ⟨u,rfl,hm⟩;have HM:=Qq hm;obtain⟨⟨d0,d1,d2,d3,d4,d5⟩,dfr,dlt⟩:=cells6 ((hm.ext.block dlt).trans HW0.out);have HG:Hid (Made wq w2 u (expS ⟨o,i1,e1,gq,(jx:Int),(jy:Int)⟩ (out.getD (jx:Int).toNat []) (out.getD (jy:Int).toNat []))):=Qq (by rw [HEX.out];exact hm.before HX0.out);clear hm HEX
   obtain⟨As8,cs8,rfl,_⟩:=fml_slice HG.out.fml;have HX8:=Qq HG.out.ext;by_cases hz:(expS ⟨o,i1,e1,gq,(jx:Int),(jy:Int)⟩ (out.getD (jx:Int).toNat []) (out.getD (jy:Int).toNat [])).length=0
   ·have HE:=Qq (show expandN f= [] by
     unfold expandN;rw [<-HCL.out,expGo_none (k:=k+1) (by rw [expGo_step HN.out HO.out,decide_eq_true hz];rfl)])
    have hzb:(((expS ⟨o,i1,e1,gq,(jx:Int),(jy:Int)⟩ (out.getD (jx:Int).toNat []) (out.getD (jy:Int).toNat [])).length:Int)==0)=true:=by rw [hz];rfl
    generalize (expS ⟨o,i1,e1,gq,(jx:Int),(jy:Int)⟩ (out.getD (jx:Int).toNat []) (out.getD (jy:Int).toNat [])).length=m8 at hz hzb;clear hz;go_wp2_with fail;go_ret;exact⟨_,rfl,by rw [HE.out];exact fml_none _,HM0.out.ext.trans (HFR.out.ext.trans HX8.out)⟩
   have hzb:(((expS ⟨o,i1,e1,gq,(jx:Int),(jy:Int)⟩ (out.getD (jx:Int).toNat []) (out.getD (jy:Int).toNat [])).length:Int)==0)=false:=by rw [beq_eq_false_iff_ne];omega
   have HSTEP:=Qq (show expGo (cl.take (k+1)) []=some (out++ [expS ⟨o,i1,e1,gq,(jx:Int),(jy:Int)⟩ (out.getD (jx:Int).toNat []) (out.getD (jy:Int).toNat [])]) by rw [expGo_step HN.out HO.out,decide_eq_false hz];rfl);clear hz;generalize expS ⟨o,i1,e1,gq,(jx:Int),(jy:Int)⟩ (out.getD (jx:Int).toNat []) (out.getD (jy:Int).toNat [])=g8 at HG hzb HSTEP;have hc3:out.length+1<=maxLen:=by unfold maxLen;omega
   have hc4:(out.length+1)*24<=140737488355328:=by omega
   go_wp2_with(at_builtin;refine wpList_append_own_at _ rfl _ _ 49 rfl w0.heap.size 22 iI (.slice none 0 0) 1 24 Tryz.underlying49 hiI hzI0 hzI1 hzI2 rfl (by decide) _ out.length us rfl (row_ext HROW.out (HX8.out.alloc _)) ⟨_,0,none⟩ 1 1 [.slice As8 g8.length cs8] rfl rfl (row_new_at _ _ _ (by simp)) (fun u hu=>by rw [List.mem_singleton.1 hu];rfl) hc3 hc4 (Qx HFR.out.ext.size (HX8.out.alloc _).size) ?_);intro v7 w7 hown7 hgrow7 _ hat7;have HPS:=Qq (FRow.push (s:=g8) ((HFR.out.ext.trans HX8.out).alloc _) (row_ext HROW.out (HX8.out.alloc _)) (fun k s hk=>by
    obtain⟨u,a,b,c⟩:=HUS.out k s hk;exact⟨u,a,b.ext (HX8.out.alloc _),c.ext (HX8.out.alloc _)⟩) hown7 hgrow7 (hat7.imp id (fun e=>e.trans (by simp))) (HG.out.fml.ext (Qz.alloc _)) (made_away (Nat.le_refl _) (row_ext HG.out.1 (Qz.alloc _)) HROW.out HFR.out.ext.size))
   obtain⟨A7,c7,rfl⟩:=slice_of_row hown7;clear hown7 hgrow7 hat7;go_wp2_with fail;go_roundw
   case rel=>exact⟨k+1,by go_num,by omega,Qq ⟨_,HSTEP.out,by rw [List.length_append,HOK.out];rfl,HPS.out⟩⟩
   case measure=>simp [intOf];omega
  obtain rfl:cl.length=k:=by omega
  have hok:=HOK.out;obtain⟨g0,cap0,hsl,hs1,hs2⟩:=HFR.out.slice (by omega);injection hsl with hsl1 _ hsl2;subst hsl1 hsl2;unfold maxLen at hs2;have HE:=Qq (show expandN f=out.getLastD [] by
   unfold expandN;have h1:=HO.out;rw [List.take_of_length_le (Nat.le_refl _)]at h1;rw [<-HCL.out,h1])
  obtain⟨m,hm⟩:∃m,out.length=m+1:=⟨out.length - 1,by omega⟩;obtain⟨s,hs⟩:∃s,out[m]?=some s:=⟨_,List.getElem?_eq_getElem (by omega)⟩;obtain⟨us,hus,hfs,hgl⟩:=HFR.out.get hs;have HLS:=Qq (show out.getLastD []=s by rw [List.getLastD_eq_getLast?,List.getLast?_eq_getElem?,hm,Nat.add_sub_cancel,hs];rfl);have HFS:=Qq hfs;obtain⟨As,cs,rfl,_⟩:=fml_slice hfs;have i1:((out.length:Int) - 1)=(m:Int):=by omega
  have i2:(m:Int) < (out.length:Int):=by omega
  have i3:((out.length:Int) - 1).toNat=m:=by omega
  have i4:((out.length:Int) - 1) < (out.length:Int):=by omega
  have i5:(0:Int)<=(out.length:Int) - 1:=by omega
  have i6:wrap64 ((out.length:Int) - 1)=(m:Int):=by unfold wrap64;omega
  clear hs hfs hok hm;go_wp2_with fail;go_ret;exact⟨_,rfl,by rw [HE.out,HLS.out];exact HFS.out,HM0.out.ext.trans HFR.out.ext⟩
theorem shr_mod_zero(s k:Nat):(((s:Int) / 2^k).tmod 2==0)= !s.testBit k:=by
 rw [shr_nat,testBit_int];generalize s / 2^k=r;rw [show((r:Nat):Int).tmod 2=((r % 2:Nat):Int)from rfl];rcases Nat.mod_two_eq_zero_or_one r with h|h <;> rw [h] <;> rfl
theorem unfs_len(c:List Nd):(unfsN c).length<=4:=by
 unfold unfsN;cases(lastN c).op==13
 ·exact Nat.zero_le _
 simp only [cond_true,List.length_map];exact Qx (List.length_filter_le _ _) (by simp)
theorem usK_le:∀(l:List (List Nd)),(l.flatMap unfsN).length<=4*l.length
 |[]=>Nat.le_refl _
 |c :: r=>by
  rw [List.flatMap_cons,List.length_append,List.length_cons];have:=usK_le r;have:=unfs_len c;omega
theorem fold_len2:∀(us l:List (List Nd)),(us.foldl addF l).length<=l.length+us.length
 |[],_=>Nat.le_refl _
 |u :: r,l=>by
  rw [List.foldl_cons,List.length_cons];have h1:=fold_len2 r (addF l u);have h2:(addF l u).length<=l.length+1:=by
   unfold addF;cases decide (placeN l u < 0)
   ·exact Nat.le_succ _
   simp
  omega
theorem usK_len {l0:List (List Nd)}(h:l0.length<=200)(k:Nat):((usK l0 k).foldl addF l0).length<=1000:=by
 have h1:=fold_len2 (usK l0 k) l0;have h2:(usK l0 k).length<=4*(l0.take k).length:=usK_le _;rw [List.length_take]at h2;omega
theorem langOk_bad {f:List Nd}(hc:check f=0):langOk f= !langBad f:=by
 have h1:langBad f=false↔∀n∈compactN f,tyOp n.op:=⟨lang_ops hc,lang_of⟩;have h2:langOk f=true↔∀n∈compactN f,tyOp n.op:=by
  unfold langOk;rw [List.all_eq_true];constructor
  ·intro h n hn;have h3:=h n hn;have h4:=(isOp_iff n.op).1 ((compactN_props hc).2.2.2 n hn).1;unfold tyOp;by_cases e:n.op=13
   ·exact .inr e
   left;rw [show(n.op !=13)=true by simpa using e,Bool.and_true,Bool.not_eq_true',decide_eq_false_iff_not]at h3;omega
  intro h n hn;have h3:=h n hn;unfold tyOp at h3;by_cases e:n.op=13
  ·rw [e];rfl
  rw [decide_eq_false (by omega)];rfl
 cases hb:langBad f
 ·exact h2.2 (h1.1 hb)
 cases hk:langOk f
 ·rfl
 rw [h1.2 (h2.1 hk)]at hb;cases hb
theorem rbase_any(v:Value)(f:List Nd)(w:World)(h:Fml w v f):
 Calls Tryz.prog 21 #[v] w (BaseRes w (baseN f)):=by
 have H:=Qq h;obtain⟨iI,hiI,hzI0,hzI1,hzI2⟩:=info_parts tInfoF2;obtain⟨A,c,rfl,_⟩:=fml_slice h;clear h;by_cases hc:check f≠0
 ·have hb1:(check f !=0)=true:=by simpa using hc
  have HB:=Qq (show baseN f=([],check f) by unfold baseN;rw [hb1];rfl);clear hc;go_enter Tryz.func21,Tryz.ntmps21;go_wp2_with fail;refine(refCheck_any _ f _ H.out.1).mono ?_;rintro e w1 ⟨rfl,hb⟩;have HX:=Qq hb;clear hb;go_wp2_with fail;go_ret2;exact⟨.slice none 0 0,by rw [HB.out] <;> rfl,HX.out,by rw [HB.out];exact(FRow.nil _).before HX.out⟩
 have hc:check f=0:=Classical.not_not.1 hc;have hb1:(check f !=0)=false:=by simpa using hc
 have HC:=Qq hc;have HLO:=Qq (langOk_bad hc);clear hc;cases hl:langBad f
 case true =>
  have HB:=Qq (show baseN f=([],10) by unfold baseN;rw [hb1,hl];rfl);rw [hl]at HLO;clear hl;go_enter Tryz.func21,Tryz.ntmps21;go_wp2_with fail;refine(refCheck_any _ f _ H.out.1).mono ?_;rintro e w1 ⟨rfl,hb⟩;rw [HC.out];have HX:=Qq hb;clear hb;go_wp2_with fail;refine(language_any _ f _ (H.out.ext HX.out) HC.out).mono ?_;rintro e w2 ⟨rfl,hb⟩;rw [HLO.out];have HX2:=Qq (HX.out.trans hb);clear hb;go_wp2_with fail;go_ret2;exact⟨.slice none 0 0,by rw [HB.out] <;> rfl,HX2.out,by rw [HB.out];exact(FRow.nil _).before HX2.out⟩
 case false =>
  rw [hl]at HLO;have HL:=Qq hl;clear hl;by_cases hz:(expandN f).length=0
  ·have HB:=Qq (show baseN f=([],8) by unfold baseN;rw [hb1,HL.out,decide_eq_true hz];rfl);have hzb:(((expandN f).length:Int)==0)=true:=by rw [hz];rfl
   clear hz;go_enter Tryz.func21,Tryz.ntmps21;go_wp2_with fail;refine(refCheck_any _ f _ H.out.1).mono ?_;rintro e w1 ⟨rfl,hb⟩;rw [HC.out];have HX:=Qq hb;clear hb;go_wp2_with fail;refine(language_any _ f _ (H.out.ext HX.out) HC.out).mono ?_;rintro e w2 ⟨rfl,hb⟩;rw [HLO.out];have HX2:=Qq (HX.out.trans hb);clear hb;go_wp2_with fail;refine(rexpand_any _ f _ (H.out.ext HX2.out) HC.out (lang_ops HC.out HL.out)).mono ?_;rintro e w3 ⟨u,rfl,hf,hb⟩;have HF:=Qq hf;have HX3:=Qq (HX2.out.trans hb);obtain⟨A3,c3,rfl,_⟩:=fml_slice hf;clear hb hf;go_wp2_with fail;go_ret2;exact⟨.slice none 0 0,by rw [HB.out] <;> rfl,HX3.out,by rw [HB.out];exact(FRow.nil _).before HX3.out⟩
  have hzb:(((expandN f).length:Int)==0)=false:=by rw [beq_eq_false_iff_ne];omega
  obtain⟨hxt,het⟩:=expand_tree HC.out HL.out hz;obtain⟨t,ht⟩:∃t,t=expT (treeOf f):=⟨_,rfl⟩;rw [<-ht]at hxt het;have HBN:=Qq (show baseN f=baseOfN (canon t) by unfold baseN;rw [hb1,HL.out,decide_eq_false hz,het];rfl);have HT:=Qq hxt;have HET:=Qq het;clear hz hxt het ht;go_enter Tryz.func21,Tryz.ntmps21;go_wp2_with fail;refine(refCheck_any _ f _ H.out.1).mono ?_;rintro e w1 ⟨rfl,hb⟩;rw [HC.out];have HX:=Qq hb;clear hb;go_wp2_with fail;refine(language_any _ f _ (H.out.ext HX.out) HC.out).mono ?_;rintro e w2 ⟨rfl,hb⟩;rw [HLO.out];have HX2:=Qq (HX.out.trans hb);clear hb;go_wp2_with fail;refine(rexpand_any _ f _ (H.out.ext HX2.out) HC.out (lang_ops HC.out HL.out)).mono ?_
  rintro e wE ⟨u,rfl,hf,hb⟩;have HXE:=Qq (HX2.out.trans hb);rw [HET.out]at hf hzb;have HFE:=Qq hf;obtain⟨A3,c3,rfl,_⟩:=fml_slice hf;obtain⟨sl,hsl⟩:∃b,b=subsN (canon t):=⟨_,rfl⟩;have hsl200:sl.length<=200:=by rw [hsl,HT.out.subs];simpa using HT.out.len
  have HSL:=Qq hsl;have HSX:=Qq (show ∀s∈sl,∃u,Xf u/\s=canon u by
   rw [hsl,HT.out.subs];intro s hs;obtain⟨i,hi,rfl⟩:=List.mem_map.1 hs;exact⟨_,HT.out.at (List.mem_range.1 hi),rfl⟩)
  clear hb hf hsl HX HX2 HLO;go_wp2_with fail;refine(refSubs_any _ (canon t) _ HFE.out HT.out.check).mono ?_;rintro e w1 ⟨uc,rfl,hm0⟩;rw [<-HSL.out]at hm0;have HM0:=Qq hm0;obtain⟨As,cs,rfl,hcap,hmax,hread⟩:=hm0.fmls;have HREAD:=Qq hread;unfold maxLen at hmax;have HUS0:=Qq hm0.row;clear hm0 hread;go_wp2_with fail;go_loopw [6,30] (fun vo vi wr=>∃k:Nat,vi=.int .i64 (k:Int)/\k<=sl.length/\Hid (∃ol,ol=(sl.take k).filter (fun s=>isBase (lastN s))/\FRow wE wr vo ol/\Ext w1 wr/\From w1.heap.size vo)) (fun _ v _=>sl.length - (intOf v).toNat)
  case atStart=>exact⟨0,rfl,Nat.zero_le _,Qq ⟨[],rfl,(FRow.nil _).before HM0.out.ext,Qz,fun g hg=>by cases hg⟩⟩
  case round =>
   obtain⟨k,rfl,hk,HREL⟩:=hrel;obtain⟨ol,hol,hfr,hx,hfm⟩:=HREL.out;obtain⟨us,hrow,hus⟩:=hfr.row;obtain⟨Ao,co,rfl⟩:=slice_of_row hrow;have HOL:=Qq hol;have HFR:=Qq hfr;have HROW:=Qq hrow;have HUS:=Qq hus;have HX:=Qq hx;have HFM:=Qq hfm;have hol2:ol.length<=200:=by
    rw [hol];refine Qx (List.length_filter_le _ _) ?_;rw [List.length_take];omega
   clear HREL hol hfr hrow hus hx hfm;by_cases hlt2:k < sl.length
   ·have hk1:(k:Int) < (sl.length:Int):=by omega
    obtain⟨s,hs⟩:∃s,sl[k]?=some s:=⟨_,Qv hlt2⟩;obtain⟨ad,rfl,hblk,hcells⟩:=HREAD.out (by intro e;rw [e]at hlt2;simp at hlt2);obtain⟨u,hu,hf⟩:=hcells k s hs;have a0:=(HX.out.cell (p:=ad.add k) (Qj hblk)).trans hu;have hblk2:(ad.add k).block < wr.heap.size:=by rw [block_of_add];exact Qy hblk HX.out.size
    have HF:=Qq (hf.ext HX.out);have HS:=Qq hs;obtain⟨su,hsu,hse⟩:=HSX.out s (List.mem_of_getElem? hs);have hs0:0 < s.length:=by rw [hse];exact canon_pos hsu.xp.1.1
    obtain⟨Au,cu,rfl,_⟩:=fml_slice hf;have HAW:=Qq (show ∀g,(Value.slice Au s.length cu).ownBlock=some g->g < w1.heap.size/\wE.heap.size<=g by
     obtain⟨us0,hr0,hu0⟩:=HUS0.out;obtain⟨u',hu',_,haw⟩:=hu0 k s hs;have h0:0 < sl.length:=by omega
     obtain⟨g',cap',e',_,_,_,hc'⟩:=row1_cellsF hr0 h0;injection e' with e1 _ _;injection e1 with e1;subst e1;have hcell:=hc' k u' hu';rw [show((⟨g',0,none⟩:Addr).add k)=⟨g',k,none⟩from addr_zero g' k]at hu;rw [hcell]at hu;injection hu with hu;subst hu;exact fun g hg=>⟨(haw g hg).1,(haw g hg).2.2⟩)
    clear hs hcells hf hu hsu hse;obtain⟨wq,hwq⟩:∃v,v=wr:=⟨_,rfl⟩;subst hwq;go_wp2_with fail;refine(rtop_any _ s _ HF.out hs0).mono ?_;rintro e w2 ⟨rfl,hx2⟩;have HX2:=Qq hx2;obtain⟨n,hn⟩:∃n,n=lastN s:=⟨_,rfl⟩;rw [<-hn];have HN:=Qq hn;have hfe:Sem.run Tryz.prog (Instr.field 93 (.agg #[.int .i64 n.op,.int .i64 n.i,.int .i64 n.e,.int .i64 n.g,.int .i64 n.x,.int .i64 n.y]) 0) w2=.ok (.int .i64 n.op) w2:=rfl;unfold Nd.val;clear hx2 hn;have HXW:=Qq (show Ext wq w2 from HX2.out);have HSTEP:=Qq (filt_step HS.out);rw [<-HN.out,<-HOL.out]at HSTEP;rcases base_cases n with hop|⟨t3,t9,t13⟩
    ·have hb:=Qq (show isBase n=true by unfold isBase;rcases hop with e|e|e <;> rw [e] <;> rfl);have hc3:ol.length+1<=maxLen:=by unfold maxLen;omega
     have hc4:(ol.length+1)*24<=140737488355328:=by omega
     have HTT:=Qq (show((n.op==3)=true)\/((n.op==3)=false/\(n.op==9)=true)\/((n.op==3)=false/\(n.op==9)=false/\(n.op==13)=true) by rcases hop with e|e|e <;> rw [e] <;> simp);clear hop;rcases HTT.out with t3|⟨t3,t9⟩|⟨t3,t9,t13⟩
     all_goals
      go_wp2_with(at_builtin;refine wpList_append_own_at _ rfl _ _ 49 rfl wE.heap.size 22 iI (.slice none 0 0) 1 24 Tryz.underlying49 hiI hzI0 hzI1 hzI2 rfl (by decide) _ ol.length us rfl (row_ext HROW.out (HXW.out.alloc _)) ⟨_,0,none⟩ 1 1 [.slice Au s.length cu] rfl rfl (row_new_at _ _ _ (by simp)) (fun u hu=>by rw [List.mem_singleton.1 hu];rfl) hc3 hc4 (Qx HFR.out.ext.size (HXW.out.alloc _).size) ?_);intro v7 w7 hown7 hgrow7 _ hat7;have HFM7:=Qq (HFM.out.next (by have:=HX.out.size;have:=HXW.out.size;omega) hat7);have HX7:=Qq (Ext.grown (HX.out.trans (HXW.out.alloc (.cells #[.slice Au s.length cu] 22))) hgrow7 HFM.out)
      have HPS:=Qq (FRow.push (s:=s) ((HFR.out.ext.trans HXW.out).alloc _) (row_ext HROW.out (HXW.out.alloc _)) (fun k s hk=>by
       obtain⟨u,a,b,c⟩:=HUS.out k s hk;exact⟨u,a,b.ext (HXW.out.alloc _),c.ext (HXW.out.alloc _)⟩) hown7 hgrow7 (hat7.imp id (fun e=>e.trans (by simp))) (HF.out.ext (HXW.out.alloc _)) (away_of HAW.out (Nat.le_refl _) HFM.out (Qx HX.out.size (HXW.out.alloc _).size)))
      obtain⟨A7,c7,rfl⟩:=slice_of_row hown7;clear hown7 hgrow7 hat7;go_wp2_with fail;go_roundw
      case rel=>exact⟨k+1,by go_num,by omega,Qq ⟨_,by rw [HSTEP.out,hb.out];rfl,HPS.out,HX7.out,HFM7.out⟩⟩
      case measure=>simp [intOf];omega
    have hb:=Qq (show isBase n=false by unfold isBase;rw [t3,t9,t13];rfl);go_wp2_with fail;go_roundw
    case rel=>exact⟨k+1,by go_num,by omega,Qq ⟨_,by rw [HSTEP.out,hb.out];exact(List.append_nil _).symm,HFR.out.ext_ HXW.out,HX.out.trans HXW.out,HFM.out⟩⟩
    case measure=>simp [intOf];omega
   obtain rfl:sl.length=k:=by omega
   obtain⟨l0,hl0⟩:∃l,l=base0 (canon t):=⟨_,rfl⟩;have HL0:=Qq hl0;have HOL0:=Qq (show ol=l0 by rw [HOL.out,hl0,List.take_of_length_le (Nat.le_refl _),HSL.out];rfl);have HL200:=Qq (show l0.length<=200 by rw [<-HOL0.out];exact hol2);clear hl0;go_wp2_with fail;go_loopw [6,10] (fun vo vi wr=>∃k:Nat,vi=.int .i64 (k:Int)/\k<=1000/\Hid (∃ol,ol=(usK l0 k).foldl addF l0/\(∀u∈usK l0 k,u.length≠0)/\k<=ol.length/\FRow wE wr vo ol)) (fun _ v _=>1001 - (intOf v).toNat)
   case atStart=>exact⟨0,rfl,Nat.zero_le _,Qq ⟨ol,HOL0.out,(fun u hu=>by cases hu),Nat.zero_le _,HFR.out⟩⟩
   case round =>
    clear HOL HFR HROW HUS HX HFM HOL0 hol2;obtain⟨k,rfl,hk,HREL⟩:=hrel;obtain⟨ol,hol,hne,hkl,hfr⟩:=HREL.out;have hol2:ol.length<=1000:=by rw [hol];exact usK_len HL200.out k
    have HOL:=Qq hol;have HNE:=Qq hne;have HFR:=Qq hfr;obtain⟨Ao,co,rfl⟩:=slice_of_row hfr.row.choose_spec.1;clear HREL hol hne hfr;by_cases hlt2:k < ol.length
    ·have hk1:(k:Int) < (ol.length:Int):=by omega
     ·skip
      obtain⟨s,hs⟩:∃s,ol[k]?=some s:=⟨_,Qv hlt2⟩;obtain⟨g0,cap0,hsl,hs1,hs2⟩:=HFR.out.slice (by omega);injection hsl with hsl1 _ hsl2;subst hsl1 hsl2;unfold maxLen at hs2;obtain⟨u,hu,hf,hgl⟩:=HFR.out.get hs;have HF:=Qq hf;have HBS:=Qq (base_step HT.out (k:=k) (ol:=ol) (c:=s) (by rw [<-HL0.out];exact HOL.out) (by rw [<-HL0.out];exact HNE.out) hs);have HS:=Qq hs;obtain⟨su,hsu,hse⟩:=HBS.out.2;have hs0:0 < s.length:=by rw [hse];exact canon_pos hsu.xp.1.1
      have HHD:=Qq (show headOk (lastN s) by
       have hck:=hsu.check;rw [<-hse]at hck;exact heads_of hck _ (List.mem_of_getElem? (lastN_get hs0)))
      obtain⟨Au,cu,rfl,_⟩:=fml_slice hf;clear hs hf hsu hse;obtain⟨wq,hwq⟩:∃v,v=wr:=⟨_,rfl⟩;subst hwq;go_wp2_with fail;refine(rtop_any _ s _ HF.out hs0).mono ?_;rintro e w2 ⟨rfl,hx2⟩;have HX2:=Qq hx2;obtain⟨n,hn⟩:∃n,n=lastN s:=⟨_,rfl⟩;rw [<-hn];have HN:=Qq hn;unfold Nd.val;clear hx2 hn;go_wp2_with fail;have hg2:g0 < w2.heap.size:=Qy hgl HX2.out.size;obtain⟨W0,hW0⟩:∃v,v=w2.alloc (.cells #[.int .i64 n.op,.int .i64 n.i,.int .i64 n.e,.int .i64 n.g,.int .i64 n.x,.int .i64 n.y] 93):=⟨_,rfl⟩;have HBOX:=Qq (show W0.heap[w2.heap.size]?=some (.cells #[.int .i64 n.op,.int .i64 n.i,.int .i64 n.e,.int .i64 n.g,.int .i64 n.x,.int .i64 n.y] 93 (0,0)) by rw [hW0];exact heap_alloc_new _ _)
      have HXW:=Qq (show Ext wq W0 by rw [hW0];exact HX2.out.alloc _);rw [<-hW0];clear hW0;by_cases hop:n.op=13
      ·have hgr:=group_of (by rw [HN.out];exact HHD.out) (.inr hop);obtain⟨gn,hgn⟩:=Int.eq_ofNat_of_zero_le hgr.1;have hg16:gn < 16:=by omega
       have HGN:=Qq hgn;have hb13:(n.op !=13)=false:=by rw [hop];rfl
       have HOP:=Qq (show(lastN s).op=13 by rw [<-HN.out];exact hop);rw [hgn]at HBOX;clear hgr hgn hop;go_loopw [6,12] (fun vo vi wr=>∃q:Nat,vi=.int .i64 (q:Int)/\q<=4/\Hid (∃ol2,ol2=(unfQ s q).foldl addF ol/\(∀u∈unfQ s q,u.length≠0)/\ol2.length<=ol.length+q/\FRow wE wr vo ol2/\Ext wE wr/\wr.heap[w2.heap.size]?=some (.cells #[.int .i64 n.op,.int .i64 n.i,.int .i64 n.e,.int .i64 (gn:Int),.int .i64 n.x,.int .i64 n.y] 93 (0,0))/\vo.ownBlock≠some w2.heap.size)) (fun _ v _=>4 - (intOf v).toNat)
       case atStart=>exact⟨0,rfl,Nat.zero_le _,Qq ⟨ol,by rw [unfQ_zero];rfl,(by intro u hu;rw [unfQ_zero]at hu;cases hu),Nat.le_refl _,HFR.out.ext_ HXW.out,HFR.out.ext.trans HXW.out,HBOX.out,(fun e=>by injection e with e;simp at e;omega)⟩⟩
       case round =>
        obtain⟨q,rfl,hq,HREL2⟩:=hrel;obtain⟨ol2,hol2',hne2,hlen2,hfr2,hx2',hbox2,hnb2⟩:=HREL2.out;obtain⟨us2,hrow2,hus2⟩:=hfr2.row;have HOL2:=Qq hol2';have HNE2:=Qq hne2;have HFR2:=Qq hfr2;have HROW2:=Qq hrow2;have HUS2:=Qq hus2;have HBOX2:=Qq hbox2;have HNB2:=Qq hnb2;have HPF:=Qq (show ol <+: ol2 by rw [hol2'];exact fold_prefix _ _);have hlt3:k < ol2.length:=Qy hlt2 HPF.out.length_le;have HS2:=Qq (show ol2[k]?=some s by
         obtain⟨r,hr⟩:=HPF.out;rw [<-hr,List.getElem?_append_left hlt2];exact HS.out)
        obtain⟨g2,cap2,hsl2,hs12,hs22⟩:=HFR2.out.slice (by omega);subst hsl2;unfold maxLen at hs22;obtain⟨uu,huu,hff,hgl2⟩:=HFR2.out.get HS2.out;have HFF:=Qq hff;obtain⟨Au2,cu2,rfl,_⟩:=fml_slice hff;obtain⟨⟨q0,q1,q2,q3,q4,q5⟩,_,qb⟩:=cells6 hbox2;clear HREL2 hol2' hne2 hfr2 hrow2 hus2 hbox2 hnb2 hff hx2';have hk3:(k:Int) < (ol2.length:Int):=by omega
        by_cases hq4:q < 4
        ·have hq1:(q:Int) < 4:=by omega
         have hbt:=shr_mod_zero gn q;cases hgb:gn.testBit q
         case false =>
          rw [hgb]at hbt;simp only [Bool.not_false]at hbt;have HQ:=Qq (unfQ_no (c:=s) (q:=q) (by rw [<-HN.out,HGN.out,show gbit (gn:Int) q=false from hgb,Bool.and_false]));clear hgb;go_wp2_with fail;go_roundw
          case rel=>exact⟨q+1,by go_num,by omega,Qq ⟨ol2,by rw [HQ.out];exact HOL2.out,by rw [HQ.out];exact HNE2.out,by omega,HFR2.out,HFR2.out.ext,HBOX2.out,HNB2.out⟩⟩
          case measure=>simp [intOf];omega
         case true =>
          rw [hgb]at hbt;simp only [Bool.not_true]at hbt;have HQ:=Qq (unfQ_yes (c:=s) (q:=q) (by rw [HOP.out];rfl) (by rw [<-HN.out,HGN.out];exact hgb));clear hgb;go_wp2_with fail;refine(runfold_any q hq4 _ s _ HFF.out hs0).mono ?_;rintro e w3 ⟨u3,rfl,hm3⟩;have HM3:=Qq hm3;obtain⟨A3,c3,rfl,_⟩:=fml_slice hm3.fml;clear hm3;by_cases hz:(unfN q s).length=0
          ·have hzb:(((unfN q s).length:Int)==0)=true:=by rw [hz];rfl
           have HB:=Qq (show baseOfN (canon t)=([],8)from baseOf_bad (.inl (by
            rw [<-HL0.out];refine base_bad (k:=k+1) (u:=unfN q s) ?_ hz;rw [HL0.out,HBS.out.1];refine List.mem_append_right _ (unfQ_sub (q:=q+1) (by omega) ?_);rw [HQ.out]
            simp)))
           generalize (unfN q s).length=m8 at hz hzb;clear hz;go_wp2_with fail;go_ret2;exact⟨.slice none 0 0,by rw [HBN.out,HB.out] <;> rfl,HXE.out.trans (HFR2.out.ext.trans HM3.out.ext),by rw [HBN.out,HB.out];exact(FRow.nil _).before (HXE.out.trans (HFR2.out.ext.trans HM3.out.ext))⟩
          have hzb:(((unfN q s).length:Int)==0)=false:=by rw [beq_eq_false_iff_ne];omega
          have HZ:=Qq hz;have HNE3:=Qq (show ∀u∈unfQ s (q+1),u.length≠0 by
           rw [HQ.out];intro u hu;rcases List.mem_append.1 hu with hu|hu
           ·exact HNE2.out u hu
           rw [List.mem_singleton.1 hu];exact hz)
          have HOL3:=Qq (show addF ol2 (unfN q s)=(unfQ s (q+1)).foldl addF ol by rw [HQ.out,List.foldl_append,<-HOL2.out];rfl);clear hz;generalize unfN q s=g8 at HM3 hzb HOL3;go_wp2_with fail;refine(refIndex_any _ _ ol2 g8 _ (HFR2.out.fmls.ext HM3.out.ext) HM3.out.fml).mono ?_;rintro e w4 ⟨rfl,hx4⟩;have HX4:=Qq (HM3.out.ext.trans hx4);have HX34:=Qq hx4;clear hx4;by_cases hp:placeN ol2 g8 < 0
          ·have HAD:=Qq (show addF ol2 g8=ol2++ [g8] by unfold addF;rw [decide_eq_true hp];rfl);generalize placeN ol2 g8=pz at hp;have hc3:ol2.length+1<=maxLen:=by unfold maxLen;omega
           have hc4:(ol2.length+1)*24<=140737488355328:=by omega
           go_wp2_with(at_builtin;refine wpList_append_own_at _ rfl _ _ 49 rfl wE.heap.size 22 iI (.slice none 0 0) 1 24 Tryz.underlying49 hiI hzI0 hzI1 hzI2 rfl (by decide) _ ol2.length us2 rfl (row_ext HROW2.out (HX4.out.alloc _)) ⟨_,0,none⟩ 1 1 [.slice A3 g8.length c3] rfl rfl (row_new_at _ _ _ (by simp)) (fun u hu=>by rw [List.mem_singleton.1 hu];rfl) hc3 hc4 (Qx HFR2.out.ext.size (HX4.out.alloc _).size) ?_);intro v7 w7 hown7 hgrow7 _ hat7;have HBOX7:=Qq (show w7.heap[w2.heap.size]?=some (.cells #[.int .i64 n.op,.int .i64 n.i,.int .i64 n.e,.int .i64 (gn:Int),.int .i64 n.x,.int .i64 n.y] 93 (0,0))from(hgrow7.block _ (Qy qb (HX4.out.alloc _).size) (fun e=>HNB2.out e.symm)).trans (((HX4.out.alloc _).block qb).trans HBOX2.out))
           have HNB7:=Qq (show v7.ownBlock≠some w2.heap.size from fun e=>by
            rcases hat7 with e1|e1
            ·exact HNB2.out (e1▸e)
            rw [e1]at e;injection e with e;have:=(HX4.out).size;omega)
           have HPS:=Qq (FRow.push (s:=g8) ((HFR2.out.ext.trans HX4.out).alloc _) (row_ext HROW2.out (HX4.out.alloc _)) (fun k s hk=>by
            obtain⟨u,a,b,c⟩:=HUS2.out k s hk;exact⟨u,a,b.ext (HX4.out.alloc _),c.ext (HX4.out.alloc _)⟩) hown7 hgrow7 (hat7.imp id (fun e=>e.trans (by simp))) (HM3.out.fml.ext (HX34.out.alloc _)) (made_away (Nat.le_refl _) (row_ext HM3.out.1 (HX34.out.alloc _)) HROW2.out HFR2.out.ext.size))
           obtain⟨A7,c7,rfl⟩:=slice_of_row hown7;clear hown7 hgrow7 hat7;go_wp2_with fail;go_roundw
           case rel=>exact⟨q+1,by go_num,by omega,Qq ⟨_,by rw [<-HOL3.out,HAD.out],HNE3.out,by rw [List.length_append,List.length_singleton];omega,HPS.out,HPS.out.ext,HBOX7.out,HNB7.out⟩⟩
           case measure=>simp [intOf];omega
          have HAD:=Qq (show addF ol2 g8=ol2 by unfold addF;rw [decide_eq_false hp];rfl);generalize placeN ol2 g8=pz at hp;go_wp2_with fail;go_roundw
          case rel=>exact⟨q+1,by go_num,by omega,Qq ⟨ol2,by rw [<-HOL3.out,HAD.out],HNE3.out,by omega,HFR2.out.ext_ HX4.out,HFR2.out.ext.trans HX4.out,(HX4.out.block qb).trans HBOX2.out,HNB2.out⟩⟩
          case measure=>simp [intOf];omega
        obtain rfl:4=q:=by omega
        go_wp2_with fail;go_roundw
        case rel=>exact⟨k+1,by go_num,by omega,Qq ⟨ol2,by rw [HL0.out,HBS.out.1,List.foldl_append,<-HL0.out,<-HOL.out,<-unfQ_four];exact HOL2.out,(by
         rw [HL0.out,HBS.out.1];intro u hu;rcases List.mem_append.1 hu with hu|hu
         ·exact HNE.out u (by rw [HL0.out];exact hu)
         exact HNE2.out u (by rw [unfQ_four];exact hu)),by omega,HFR2.out⟩⟩
        case measure=>simp [intOf];omega
      have hb13:(n.op !=13)=true:=by simpa using hop
      have HUE:=Qq (show unfsN s= [] by unfold unfsN;rw [<-HN.out,show(n.op==13)=false by simpa using hop];rfl);obtain⟨⟨q0,q1,q2,q3,q4,q5⟩,_,qb⟩:=cells6 HBOX.out;clear hop;go_loopw [6,12] (fun vo vi wr=>∃q:Nat,vi=.int .i64 (q:Int)/\q<=4/\vo=.slice (some ⟨g0,0,none⟩) ol.length co/\wr=W0) (fun _ v _=>4 - (intOf v).toNat)
      case atStart=>exact⟨0,rfl,Nat.zero_le _,rfl,rfl⟩
      case round =>
       obtain⟨q,rfl,hq,rfl,rfl⟩:=hrel;by_cases hq4:q < 4
       ·have hq1:(q:Int) < 4:=by omega
        go_wp2_with fail;go_roundw
        case rel=>exact⟨q+1,by go_num,by omega,by first|rfl|trivial,by first|rfl|trivial⟩
        case measure=>simp [intOf];omega
       obtain rfl:4=q:=by omega
       go_wp2_with fail;go_roundw
       case rel=>exact⟨k+1,by go_num,by omega,Qq ⟨ol,by rw [HL0.out,HBS.out.1,HUE.out,List.append_nil,<-HL0.out];exact HOL.out,(by
        rw [HL0.out,HBS.out.1,HUE.out,List.append_nil,<-HL0.out];exact HNE.out),by omega,HFR.out.ext_ HXW.out⟩⟩
       case measure=>simp [intOf];omega
    obtain rfl:ol.length=k:=by omega
    have HUS2:=Qq (show usK l0 ol.length=l0.flatMap unfsN from usK_all (by rw [HOL.out];exact fold_len _ _));by_cases h12:12 < ol.length
    ·have h12i:(12:Int) < (ol.length:Int):=by omega
     have HB:=Qq (show baseOfN (canon t)=([],8)from baseOf_bad (.inr (by rw [<-HL0.out];exact base_long (k:=ol.length) (by rw [<-HOL.out];exact h12))));go_wp2_with fail;go_ret2;exact⟨.slice none 0 0,by rw [HBN.out,HB.out] <;> rfl,HXE.out.trans HFR.out.ext,by rw [HBN.out,HB.out];exact(FRow.nil _).before (HXE.out.trans HFR.out.ext)⟩
    have h12i:(ol.length:Int)<=12:=by omega
    have HB:=Qq (show baseOfN (canon t)=(ol,0) by
     have h1:=HOL.out;rw [HUS2.out]at h1;rw [baseOf_good,<-HL0.out,<-h1]
     ·rw [<-HL0.out,<-HUS2.out];exact HNE.out
     rw [<-HL0.out,<-h1];omega)
    go_wp2_with fail;go_ret2;exact⟨_,by rw [HBN.out,HB.out] <;> rfl,HXE.out.trans HFR.out.ext,by rw [HBN.out,HB.out];exact HFR.out.before HXE.out⟩
theorem in_any(t i:Nat)(b:Bool)(w:World)(hi:i < 64)(hb:t.testBit i=b):
 Calls Tryz.prog 77 #[.int .i64 (t:Int),.int .i64 (i:Int)] w fun e w'=>e=.returned (.bool b)/\w=w':=by
 have hm:min i 64=i:=by omega
 have hbt:=shr_mod_two t i;rw [hb]at hbt;have hi64:(i:Int) < 64:=by omega
 clear hb;cases b
 all_goals
  go_enter Tryz.func77,Tryz.ntmps77;go_wp2_with fail;go_ret;exact⟨rfl,rfl⟩
theorem rrefl_any(lg:Int)(w:World):
 Calls Tryz.prog 126 #[.int .i64 lg] w fun e w'=>e=.returned (.bool (reflN lg))/\w=w':=by
 cases h2:lg==2
 ·cases h4:lg==4
  ·cases h6:lg==6
   ·have HE:=Qq (show reflN lg=false by unfold reflN;rw [h2,h4,h6];rfl);go_enter Tryz.func126,Tryz.ntmps126;go_wp2_with fail;go_ret;exact⟨by rw [HE.out] <;> rfl,rfl⟩
   have HE:=Qq (show reflN lg=true by unfold reflN;rw [h2,h4,h6];rfl);go_enter Tryz.func126,Tryz.ntmps126;go_wp2_with fail;go_ret;exact⟨by rw [HE.out] <;> rfl,rfl⟩
  have HE:=Qq (show reflN lg=true by unfold reflN;rw [h2,h4];rfl);go_enter Tryz.func126,Tryz.ntmps126;go_wp2_with fail;go_ret;exact⟨by rw [HE.out] <;> rfl,rfl⟩
 have HE:=Qq (show reflN lg=true by unfold reflN;rw [h2];rfl);go_enter Tryz.func126,Tryz.ntmps126;go_wp2_with fail;go_ret;exact⟨by rw [HE.out] <;> rfl,rfl⟩
section
variable {w:World} {s:Nat} {lg:Int} {base:List (List Nd)}
theorem bls_at {u:Value} {L:Nat->List Bool} {m:Nat}(h:Bls w u ((List.range m).map L)):∃A c,u=.slice A m c/\Hid (∀i,i < m->∃ad v,A=some ad/\ad.block < w.heap.size/\w.cell? (ad.add i)=some v/\Bools w v (L i)):=by
 obtain⟨A,c,rfl,h1,h2,h3⟩:=h;refine⟨A,c,by simp,Qq fun i hi=> ?_⟩;obtain⟨ad,e,hl,hc⟩:=h3 (by intro e;rw [List.map_eq_nil_iff,List.range_eq_nil]at e;omega);obtain⟨v,hv,hb⟩:=hc i (L i) (by rw [List.getElem?_map,List.getElem?_range hi];rfl);exact⟨ad,v,e,hl,hv,hb⟩
theorem SpcAt.reads(h:SpcAt w s lg base):∃vb Ao co A1 c1 A2 c2 A3 c3,s < w.heap.size/\w.cell? ⟨s,0,none⟩=some (.int .i64 lg)/\w.cell? ⟨s,1,none⟩=some vb/\w.cell? ⟨s,2,none⟩=some (.slice Ao base.length co)/\w.cell? ⟨s,3,none⟩=some (.slice A1 base.length c1)/\w.cell? ⟨s,4,none⟩=some (.slice A2 base.length c2)/\w.cell? ⟨s,5,none⟩=some (.slice A3 base.length c3)/\Hid (Fmls w vb base)/\
 Hid (∀i,i < base.length->∃ad,Ao=some ad/\ad.block < w.heap.size/\NdAt w (ad.add (i*6)) (topN base i))/\Hid (∀i,i < base.length->∃ad v,A1=some ad/\ad.block < w.heap.size/\w.cell? (ad.add i)=some v/\Bools w v (bodyN base i))/\Hid (∀i,i < base.length->∃ad v,A2=some ad/\ad.block < w.heap.size/\w.cell? (ad.add i)=some v/\Bools w v (condN base i))/\Hid (∀i,i < base.length->∃ad v,A3=some ad/\ad.block < w.heap.size/\w.cell? (ad.add i)=some v/\Bools w v (lastT base i)):=by
 obtain⟨vb,vo,v1,v2,v3,hb,h1,h2,h3,h4,h5⟩:=h.cells;obtain⟨⟨d0,d1,d2,d3,d4,d5⟩,_,hl⟩:=cells6 hb;obtain⟨Ao,co,rfl,_,_,hr⟩:=h2;obtain⟨A1,c1,rfl,g1⟩:=bls_at h3;obtain⟨A2,c2,rfl,g2⟩:=bls_at h4;obtain⟨A3,c3,rfl,g3⟩:=bls_at h5;rw [List.length_map,List.length_range]at d2;refine⟨vb,Ao,co,A1,c1,A2,c2,A3,c3,hl,d0,d1,d2,d3,d4,d5,Qq h1,Qq fun i hi=> ?_,g1,g2,g3⟩;obtain⟨ad,e,hlt,hc⟩:=hr (by intro e;rw [List.map_eq_nil_iff,List.range_eq_nil]at e;omega);exact⟨ad,e,hlt,hc i (topN base i) (by rw [List.getElem?_map,List.getElem?_range hi];rfl)⟩
theorem occ_hit {a:Int} {k:Nat}(hk:k < base.length)(h1:(topN base k).op=9)(h2:(topN base k).i=a):occN base a=true:=by
 unfold occN;rw [List.any_eq_true];exact⟨k,List.mem_range.2 hk,by rw [h1,h2];simp⟩
theorem occ_miss {a:Int}(h:∀k,k < base.length->((topN base k).op==9&&(topN base k).i==a)=false):occN base a=false:=by
 unfold occN;rw [List.any_eq_false];intro k hk;rw [h k (List.mem_range.1 hk)];simp
theorem upto {P:Nat->Prop} {k:Nat}(h:∀j,j < k->P j)(hk:P k):∀j,j < k+1->P j:=fun j hj=>by
 by_cases e:j < k
 ·exact h j e
 have:j=k:=by omega
 rw [this];exact hk
end
theorem occurs_any(s:Nat)(lg:Int)(base:List (List Nd))(a:Int)(w:World)(hS:SpcAt w s lg base)(hbl:base.length<=12):
 Calls Tryz.prog 75 #[.pointer (some ⟨s,0,none⟩),.int .i64 a] w fun e w'=>e=.returned (.bool (occN base a))/\Ext w w':=by
 obtain⟨vb,Ao,co,A1,c1,A2,c2,A3,c3,hs,d0,d1,d2,d3,d4,d5,HFM,HNO,HKN,HCO,HLA⟩:=hS.reads;clear hS d0 d1 d3 d4 d5 HFM HKN HCO HLA;go_enter Tryz.func75,Tryz.ntmps75;go_wp2_with fail;clear d2;go_loopw [12] (fun v wr=>∃k:Nat,v=.int .i64 (k:Int)/\k<=base.length/\Hid (Ext w wr/\∀j,j < k->((topN base j).op==9&&(topN base j).i==a)=false)) (fun v _=>base.length - (intOf v).toNat)
 case atStart=>exact⟨0,rfl,Nat.zero_le _,Qq ⟨Qz,fun j hj=>absurd hj (by omega)⟩⟩
 case round =>
  obtain⟨k,rfl,hk,HREL⟩:=hrel;have HX:=Qq HREL.out.1;by_cases hlt2:k < base.length
  ·have hk1:(k:Int) < (base.length:Int):=by omega
   obtain⟨ad,rfl,hadl,hnd⟩:=HNO.out k hlt2;obtain⟨c0,c1,c2,c3,c4,c5⟩:=hnd.keep fun p hp=>HX.out.cell (p:=p) (by rw [hp,block_of_add];exact hadl)
   have hblk2:(ad.add (k*6)).block < wr.heap.size:=by rw [block_of_add];exact Qy hadl HX.out.size
   clear hnd;obtain⟨n,hn⟩:∃n,n=topN base k:=⟨_,rfl⟩;rw [<-hn]at c0 c1 c2 c3 c4 c5;have HN:=Qq hn;clear hn;by_cases h9:n.op=9
   ·by_cases ha:n.i=a
    ·rw [h9]at c0;rw [ha]at c1;have HE:=Qq (show occN base a=true from occ_hit hlt2 (by rw [<-HN.out];exact h9) (by rw [<-HN.out];exact ha));clear h9 ha;go_wp2_with fail;go_ret;exact⟨by rw [HE.out] <;> rfl,HX.out.trans (Qz.alloc _)⟩
    rw [h9]at c0;have ta:(n.i==a)=false:=by simpa using ha
    have HP:=Qq (upto (P:=fun j=>((topN base j).op==9&&(topN base j).i==a)=false) HREL.out.2 (by rw [<-HN.out,ta,Bool.and_false]));clear h9 ha;go_wp2_with fail;go_roundw
    case rel=>exact⟨k+1,by go_num,by omega,Qq ⟨HX.out.trans (Qz.alloc _),HP.out⟩⟩
    case measure=>simp [intOf];omega
   have t9:(n.op==9)=false:=by simpa using h9
   have HP:=Qq (upto (P:=fun j=>((topN base j).op==9&&(topN base j).i==a)=false) HREL.out.2 (by rw [<-HN.out,t9,Bool.false_and]));clear h9;go_wp2_with fail;go_roundw
   case rel=>exact⟨k+1,by go_num,by omega,Qq ⟨HX.out.trans (Qz.alloc _),HP.out⟩⟩
   case measure=>simp [intOf];omega
  obtain rfl:base.length=k:=by omega
  have HE:=Qq (occ_miss HREL.out.2);go_wp2_with fail;go_ret;exact⟨by rw [HE.out] <;> rfl,HX.out⟩
end Go.Proofs.YtbfeodammikajaaGreat
