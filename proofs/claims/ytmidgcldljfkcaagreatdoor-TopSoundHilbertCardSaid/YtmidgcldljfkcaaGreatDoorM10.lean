/- The rules: notOut. -/
import Derived.Test.YtmidgcldljfkcaaGreatDoorM01
import Derived.Test.YtmidgcldljfkcaaGreatDoorM05
import Derived.Deep.RegionHeld3
namespace Go.Proofs.YtmidgcldljfkcaaGreatDoor
set_option maxRecDepth 100000
set_option maxHeartbeats 128000000
open Go.RowKit
theorem Qfi {w:World} {b:Nat} {lg:Int} {ls:List Ln} {fs:List (List Nd)} {st:List (List Int)} {i:Nat} {n:Ln} {fi:List Nd}(h:Chk w b lg ls fs st)(ok:Vb ls fs st i n fi):
 Calls Tryz.prog 183 #[.pointer (some ⟨b,0,none⟩),.int .i64 i] w fun e w'=>e=.returned (.bool (Pi lg ls fs st i n fi))/\Ext w w':=by
 have H:=Qq h;have OK:=Qq ok;have HX0:=Qq (Ext.refl w);clear h ok;go_enter Tryz.func183,Tryz.ntmps183;go_wp2_with fail;refine(Wr (H.out.ext HX0.out) OK.out).mono ?_;rintro e w1 ⟨ur0,ur1,rfl,hx,hf⟩;have HX1:=Qq (HX0.out.trans hx);have HS1:=Qq hx;clear hx;have HF1:=Qq hf;clear hf;cases hd:Dj ls fs st i n with
 |none =>
  have D2:=Qq hd;clear hd;go_wp2_with fail;go_quiet (fail);go_wp2_with fail;go_ret;exact⟨Qr (by simp only [Pi,D2.out] <;> rfl),HX1.out.drewN _⟩
 |some r =>
  have D2:=Qq hd;have Vr:=Qq (HF1.out _ hd);clear hd;obtain⟨ad,c,vl,vs,Ai,ci,g1,g2,g3,g4,g5,g6,g7,g8,g9⟩:=(H.out.ext HX1.out).form OK.out.f_at;have GB:=(H.out.ext HX1.out).blt;have GI:i < fs.length:=(List.getElem?_eq_some_iff.1 OK.out.f_at).1;have GF:=Qq g9;clear g4 g5 g7 g9;cases hd:eqN (Vt r.1) r.2
  case false =>
   have D3:=Qq hd;clear hd;go_wp2_with fail;refine wp_region_held_drew (S:=fun w'=>w'.cell? ⟨b,2,none⟩=some (.slice (some ad) fs.length c)/\w'.cell? (ad.add i)=some (.slice Ai fi.length ci)) (by kernel_rfl) ⟨g6,g8⟩ (fun hHeld=> ?_);refine' wpAnyH_take (i:=0) (v:=_) rfl (by kernel_rfl) (by kernel_rfl) (by kernel_rfl) (fun _ _ _ h=>h) (Or.inl ⟨by rfl,?hy0⟩) ⟨g6,g8⟩ ?rest0
   case hy0=>(intro w' hSw;(try dsimp only at hSw);go_simp;(try with_reducible rfl))
   try simp only [Act.put,List.setIfInBounds_toArray,List.set_cons_zero,List.set_cons_succ,List.getElem_toArray,List.getElem_cons_zero]
   refine' wpAnyH_take (i:=1) (v:=_) rfl (by kernel_rfl) (by kernel_rfl) (by kernel_rfl) (fun _ _ _ h=>h) (Or.inl ⟨by rfl,?hy1⟩) ⟨g6,g8⟩ ?rest1
   case hy1=>(intro w' hSw;(try dsimp only at hSw);go_simp;(try with_reducible rfl))
   try simp only [Act.put,List.setIfInBounds_toArray,List.set_cons_zero,List.set_cons_succ,List.getElem_toArray,List.getElem_cons_succ,List.getElem_cons_zero]
   refine' wpAnyH_take (i:=2) (v:=_) rfl (by kernel_rfl) (by kernel_rfl) (by kernel_rfl) (fun _ _ _ h=>h) (Or.inl ⟨by rfl,?hy2⟩) ⟨g6,g8⟩ ?rest2
   case hy2=>(intro w' hSw;(try dsimp only at hSw);go_simp;(try with_reducible rfl))
   try simp only [Act.put,List.setIfInBounds_toArray,List.set_cons_zero,List.set_cons_succ,List.getElem_toArray,List.getElem_cons_succ,List.getElem_cons_zero]
   refine' wpAnyH_take (i:=4) (v:=_) rfl (by kernel_rfl) (by kernel_rfl) (by kernel_rfl) (fun _ _ _ h=>h) (Or.inl ⟨by rfl,?hy4⟩) ⟨g6,g8⟩ ?rest4
   case hy4=>(intro w' hSw;(try dsimp only at hSw);go_simp;(try with_reducible rfl))
   try simp only [Act.put,List.setIfInBounds_toArray,List.set_cons_zero,List.set_cons_succ,List.getElem_toArray,List.getElem_cons_succ,List.getElem_cons_zero]
   refine wpAnyH_ready (rs:= [3]) (by kernel_rfl) (by simp) ?_;refine AllReadyH.cons rfl (fun K hK=> ?_) AllReadyH.nil;go_simp
   (go_at_call 83;refine(Gg _ r.1 _ (by exact Vr.out.1.ext (by repeat(first|exact Qz|assumption|apply Ext.alloc|apply Ext.drew)))).mono ?_;rintro e wa ⟨ua,rfl,hma⟩;have MA:=Qq hma;have hxa:Ext w1 wa:=Ext.trans (by repeat(first|exact Qz|assumption|apply Ext.alloc|apply Ext.drew)) hma.2.2;have g6a:=(hxa.cell (p:=⟨b,2,none⟩) GB).trans g6;have g8a:=(hxa.cell (p:=ad.add i) (Qj g3)).trans g8;clear hma)
   go_wp2_with fail;refine hK.out _ _ ⟨g6a,g8a⟩ (fun hHeld=> ?_);clear hK K hHeld
   try simp only [Act.put,List.setIfInBounds_toArray,List.set_cons_zero,List.set_cons_succ,List.getElem_toArray,List.getElem_cons_succ,List.getElem_cons_zero]
   refine wpAnyH_ready (rs:= [5]) (by kernel_rfl) (by simp) ?_;refine AllReadyH.cons rfl (fun K hK=> ?_) AllReadyH.nil;go_simp
   (go_at_call 69;refine(Zs _ _ (Vt r.1) r.2 _ (by exact(MA.out.fml.ext (by repeat(first|exact Qz|assumption|apply Ext.alloc|apply Ext.drew))).1) (by exact(Vr.out.2.ext (by repeat(first|exact Qz|assumption|apply Ext.alloc|apply Ext.drew))).1)).mono ?_;rintro e wb ⟨rfl,hxb0⟩;rw [D3.out];have hxb:Ext w1 wb:=Ext.trans (by repeat(first|exact Qz|assumption|apply Ext.alloc|apply Ext.drew)) hxb0;have g6b:=(hxb.cell (p:=⟨b,2,none⟩) GB).trans g6;have g8b:=(hxb.cell (p:=ad.add i) (Qj g3)).trans g8;clear hxb0)
   go_wp2_with fail;refine hK.out _ _ ⟨g6b,g8b⟩ (fun hHeld=> ?_);clear hK K hHeld
   try simp only [Act.put,List.setIfInBounds_toArray,List.set_cons_zero,List.set_cons_succ,List.getElem_toArray,List.getElem_cons_succ,List.getElem_cons_zero]
   refine' wpAnyH_take (i:=6) (v:=_) rfl (by kernel_rfl) (by kernel_rfl) (by kernel_rfl) (fun _ _ _ h=>h) (Or.inl ⟨by rfl,?hy6⟩) ⟨g6b,g8b⟩ ?rest6
   case hy6=>(intro w' hSw;(try dsimp only at hSw);go_simp;(try with_reducible rfl))
   try simp only [Act.put,List.setIfInBounds_toArray,List.set_cons_zero,List.set_cons_succ,List.getElem_toArray,List.getElem_cons_succ,List.getElem_cons_zero]
   refine' wpAnyH_take (i:=7) (v:=_) rfl (by kernel_rfl) (by kernel_rfl) (by kernel_rfl) (fun _ _ _ h=>h) (Or.inl ⟨by rfl,?hy7⟩) ⟨g6b,g8b⟩ ?rest7
   case hy7=>(intro w' hSw;(try dsimp only at hSw);go_simp;(try with_reducible rfl))
   try simp only [Act.put,List.setIfInBounds_toArray,List.set_cons_zero,List.set_cons_succ,List.getElem_toArray,List.getElem_cons_succ,List.getElem_cons_zero]
   refine wpAnyH_take (i:=8) (v:=undef) rfl (by kernel_rfl) (by kernel_rfl) (by kernel_rfl) (fun _ _ _ h=>h) (Or.inr ⟨by rfl,rfl⟩) ⟨g6b,g8b⟩ ?_
   try simp only [Act.put,List.setIfInBounds_toArray,List.set_cons_zero,List.set_cons_succ,List.getElem_toArray,List.getElem_cons_succ,List.getElem_cons_zero]
   refine wpAnyH_take (i:=9) (v:=undef) rfl (by kernel_rfl) (by kernel_rfl) (by kernel_rfl) (fun _ _ _ h=>h) (Or.inr ⟨by rfl,rfl⟩) ⟨g6b,g8b⟩ ?_
   try simp only [Act.put,List.setIfInBounds_toArray,List.set_cons_zero,List.set_cons_succ,List.getElem_toArray,List.getElem_cons_succ,List.getElem_cons_zero]
   refine wpAnyH_take (i:=10) (v:=undef) rfl (by kernel_rfl) (by kernel_rfl) (by kernel_rfl) (fun _ _ _ h=>h) (Or.inr ⟨by rfl,rfl⟩) ⟨g6b,g8b⟩ ?_
   try simp only [Act.put,List.setIfInBounds_toArray,List.set_cons_zero,List.set_cons_succ,List.getElem_toArray,List.getElem_cons_succ,List.getElem_cons_zero]
   refine wpAnyH_take (i:=11) (v:=undef) rfl (by kernel_rfl) (by kernel_rfl) (by kernel_rfl) (fun _ _ _ h=>h) (Or.inr ⟨by rfl,rfl⟩) ⟨g6b,g8b⟩ ?_
   try simp only [Act.put,List.setIfInBounds_toArray,List.set_cons_zero,List.set_cons_succ,List.getElem_toArray,List.getElem_cons_succ,List.getElem_cons_zero]
   refine wpAnyH_take (i:=12) (v:=undef) rfl (by kernel_rfl) (by kernel_rfl) (by kernel_rfl) (fun _ _ _ h=>h) (Or.inr ⟨by rfl,rfl⟩) ⟨g6b,g8b⟩ ?_
   try simp only [Act.put,List.setIfInBounds_toArray,List.set_cons_zero,List.set_cons_succ,List.getElem_toArray,List.getElem_cons_succ,List.getElem_cons_zero]
   refine wpAnyH_take (i:=13) (v:=undef) rfl (by kernel_rfl) (by kernel_rfl) (by kernel_rfl) (fun _ _ _ h=>h) (Or.inr ⟨by rfl,rfl⟩) ⟨g6b,g8b⟩ ?_
   try simp only [Act.put,List.setIfInBounds_toArray,List.set_cons_zero,List.set_cons_succ,List.getElem_toArray,List.getElem_cons_succ,List.getElem_cons_zero]
   refine wpAnyH_take (i:=14) (v:=undef) rfl (by kernel_rfl) (by kernel_rfl) (by kernel_rfl) (fun _ _ _ h=>h) (Or.inr ⟨by rfl,rfl⟩) ⟨g6b,g8b⟩ ?_
   try simp only [Act.put,List.setIfInBounds_toArray,List.set_cons_zero,List.set_cons_succ,List.getElem_toArray,List.getElem_cons_succ,List.getElem_cons_zero]
   refine wpAnyH_take (i:=15) (v:=undef) rfl (by kernel_rfl) (by kernel_rfl) (by kernel_rfl) (fun _ _ _ h=>h) (Or.inr ⟨by rfl,rfl⟩) ⟨g6b,g8b⟩ ?_
   try simp only [Act.put,List.setIfInBounds_toArray,List.set_cons_zero,List.set_cons_succ,List.getElem_toArray,List.getElem_cons_succ,List.getElem_cons_zero]
   refine wpAnyH_take (i:=16) (v:=undef) rfl (by kernel_rfl) (by kernel_rfl) (by kernel_rfl) (fun _ _ _ h=>h) (Or.inr ⟨by rfl,rfl⟩) ⟨g6b,g8b⟩ ?_
   try simp only [Act.put,List.setIfInBounds_toArray,List.set_cons_zero,List.set_cons_succ,List.getElem_toArray,List.getElem_cons_succ,List.getElem_cons_zero]
   refine' wpAnyH_take (i:=17) (v:=_) rfl (by kernel_rfl) (by kernel_rfl) (by kernel_rfl) (fun _ _ _ h=>h) (Or.inl ⟨by rfl,?hy17⟩) ⟨g6b,g8b⟩ ?rest17
   case hy17=>(intro w' hSw;(try dsimp only at hSw);go_simp;(try with_reducible rfl))
   try simp only [Act.put,List.setIfInBounds_toArray,List.set_cons_zero,List.set_cons_succ,List.getElem_toArray,List.getElem_cons_succ,List.getElem_cons_zero]
   refine' wpAnyH_take (i:=18) (v:=_) rfl (by kernel_rfl) (by kernel_rfl) (by kernel_rfl) (fun _ _ _ h=>h) (Or.inl ⟨by rfl,?hy18⟩) ⟨g6b,g8b⟩ ?rest18
   case hy18=>(intro w' hSw;(try dsimp only at hSw);go_simp;(try with_reducible rfl))
   try simp only [Act.put,List.setIfInBounds_toArray,List.set_cons_zero,List.set_cons_succ,List.getElem_toArray,List.getElem_cons_succ,List.getElem_cons_zero]
   refine wpAnyH_done (by kernel_rfl) ?_ _;go_wp2_with fail;go_ret;exact⟨Qr (by simp only [Pi,D2.out,D3.out] <;> rfl),HX1.out.trans hxb⟩
  case true =>
   have D3:=Qq hd;clear hd;go_wp2_with fail;go_region_held3 (fun w'=>w'.cell? ⟨b,2,none⟩=some (.slice (some ad) fs.length c)/\w'.cell? (ad.add i)=some (.slice Ai fi.length ci)) (first|exact⟨g6,g8⟩|exact⟨g6a,g8a⟩|exact⟨g6b,g8b⟩|exact⟨g6c,g8c⟩|exact⟨g6d,g8d⟩|go_keep) (first|(go_at_call 83;refine(Gg _ r.1 _ (by exact Vr.out.1.ext (by repeat(first|exact Qz|assumption|apply Ext.alloc|apply Ext.drew)))).mono ?_;rintro e wa ⟨ua,rfl,hma⟩;have MA:=Qq hma;have hxa:Ext w1 wa:=Ext.trans (by repeat(first|exact Qz|assumption|apply Ext.alloc|apply Ext.drew)) hma.2.2;have g6a:=(hxa.cell (p:=⟨b,2,none⟩) GB).trans g6;have g8a:=(hxa.cell (p:=ad.add i) (Qj g3)).trans g8;clear hma)|(go_at_call 69;refine(Zs _ _ (Vt r.1) r.2 _ (by exact(MA.out.fml.ext (by repeat(first|exact Qz|assumption|apply Ext.alloc|apply Ext.drew))).1) (by exact(Vr.out.2.ext (by repeat(first|exact Qz|assumption|apply Ext.alloc|apply Ext.drew))).1)).mono ?_;rintro e wb ⟨rfl,hxb0⟩;rw [D3.out];have hxb:Ext w1 wb:=Ext.trans (by repeat(first|exact Qz|assumption|apply Ext.alloc|apply Ext.drew)) hxb0;have g6b:=(hxb.cell (p:=⟨b,2,none⟩) GB).trans g6;have g8b:=(hxb.cell (p:=ad.add i) (Qj g3)).trans g8;clear hxb0)|(go_at_call 121;refine(Td _).mono ?_;rintro e wc ⟨uc,rfl,hmc⟩;have MC:=Qq hmc;have hxc:Ext w1 wc:=Ext.trans (by repeat(first|exact Qz|assumption|apply Ext.alloc|apply Ext.drew)) hmc.2.2;have g6c:=(hxc.cell (p:=⟨b,2,none⟩) GB).trans g6;have g8c:=(hxc.cell (p:=ad.add i) (Qj g3)).trans g8;clear hmc)|(go_at_call 69;refine(Zs _ _ fi Dv _ (by exact(GF.out.ext (by repeat(first|exact Qz|assumption|apply Ext.alloc|apply Ext.drew))).1) (by exact(MC.out.fml.ext (by repeat(first|exact Qz|assumption|apply Ext.alloc|apply Ext.drew))).1)).mono ?_;rintro e wd ⟨rfl,hxd0⟩;have hxd:Ext w1 wd:=Ext.trans (by repeat(first|exact Qz|assumption|apply Ext.alloc|apply Ext.drew)) hxd0;have g6d:=(hxd.cell (p:=⟨b,2,none⟩) GB).trans g6;have g8d:=(hxd.cell (p:=ad.add i) (Qj g3)).trans g8;clear hxd0))
   all_goals
    go_wp2_with fail;go_ret;exact⟨Qr (by simp only [Pi,D2.out,D3.out] <;> rfl),HX1.out.trans hxd⟩
end Go.Proofs.YtmidgcldljfkcaaGreatDoor
