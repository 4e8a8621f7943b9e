/- The rules: orIn, impOut, fromFalse. -/
import Derived.Test.YtmidgcldljfkcaaGreatDoorM01
import Derived.Test.YtmidgcldljfkcaaGreatDoorM05
import Derived.Deep.RegionHeld3
namespace Go.Proofs.YtmidgcldljfkcaaGreatDoor
set_option maxRecDepth 100000
set_option maxHeartbeats 128000000
open Go.RowKit
theorem Qta {w:World} {b:Nat} {lg:Int} {ls:List Ln} {fs:List (List Nd)} {st:List (List Int)} {i:Nat} {n:Ln} {fi:List Nd}(h:Chk w b lg ls fs st)(ok:Vb ls fs st i n fi):
 Calls Tryz.prog 178 #[.pointer (some ⟨b,0,none⟩),.int .i64 i] w fun e w'=>e=.returned (.bool (Oy lg ls fs st i n fi))/\Ext w w':=by
 have H:=Qq h;have OK:=Qq ok;have HX0:=Qq (Ext.refl w);clear h ok;go_enter Tryz.func178,Tryz.ntmps178;go_wp2_with fail;refine(Sk (H.out.ext HX0.out) OK.out.st_ok i n OK.out.n_at OK.out.st_lt OK.out.fs_le).mono ?_;rintro e w1 ⟨ux0,rfl,hx,hf⟩;have HX1:=Qq (HX0.out.trans hx);have HS1:=Qq hx;clear hx;have HF1:=Qq hf;clear hf;cases hd:Ko ls fs st i n with
 |none =>
  have D2:=Qq hd;clear hd;go_wp2_with fail;go_ret;exact⟨Qr (by simp only [Oy,D2.out] <;> rfl),HX1.out⟩
 |some x =>
  have D2:=Qq hd;have Vx:=Qq (HF1.out _ hd);clear hd;obtain⟨ad,c,vl,vs,Ai,ci,g1,g2,g3,g4,g5,g6,g7,g8,g9⟩:=(H.out.ext HX1.out).form OK.out.f_at;have GB:=(H.out.ext HX1.out).blt;have GI:i < fs.length:=(List.getElem?_eq_some_iff.1 OK.out.f_at).1;have GF:=Qq g9;clear g4 g5 g7 g9;go_wp2_with fail;refine(Sz _ fi 6 _ (GF.out.ext Qz) (OK.out.fs_ok _ (List.mem_of_getElem? OK.out.f_at)).1).mono ?_;rintro e w2 ⟨ur0,ur1,rfl,hx,hf⟩;have HX2:=Qq (HX1.out.trans hx);have HS2:=Qq hx;clear hx;have HF3:=Qq hf;clear hf;cases hd:Ub fi 6 with
  |none =>
   have D4:=Qq hd;clear hd;go_wp2_with fail;go_ret;exact⟨Qr (by simp only [Oy,D2.out,D4.out] <;> rfl),HX2.out⟩
  |some r =>
   have D4:=Qq hd;have Vr:=Qq (HF3.out _ hd);clear hd;go_wp2_with fail;refine(Zs ur0 ux0 r.1 x _ (Vr.out.1.ext Qz).1 (Vx.out.ext (Ext.trans Qz HS2.out)).1).mono ?_;rintro e w3 ⟨rfl,hx⟩;have HX3:=Qq (HX2.out.trans hx);have HS3:=Qq hx;clear hx;cases hd:eqN r.1 x
   case false =>
    have D5:=Qq hd;clear hd;go_wp2_with fail;refine(Zs ur1 ux0 r.2 x _ (Vr.out.2.ext (Ext.trans Qz HS3.out)).1 (Vx.out.ext (Ext.trans (Ext.trans Qz HS2.out) HS3.out)).1).mono ?_;rintro e w4 ⟨rfl,hx⟩;have HX4:=Qq (HX3.out.trans hx);have HS4:=Qq hx;clear hx;go_wp2_with fail;go_ret;exact⟨Qr (by simp only [Oy,D2.out,D4.out,D5.out] <;> rfl),HX4.out⟩
   case true =>
    have D5:=Qq hd;clear hd;go_wp2_with fail;go_ret;exact⟨Qr (by simp only [Oy,D2.out,D4.out,D5.out] <;> rfl),HX3.out⟩
theorem Qb0 {w:World} {b:Nat} {lg:Int} {ls:List Ln} {fs:List (List Nd)} {st:List (List Int)} {i:Nat} {n:Ln} {fi:List Nd}(h:Chk w b lg ls fs st)(ok:Vb ls fs st i n fi):
 Calls Tryz.prog 181 #[.pointer (some ⟨b,0,none⟩),.int .i64 i] w fun e w'=>e=.returned (.bool (Wt lg ls fs st i n fi))/\Ext w w':=by
 have H:=Qq h;have OK:=Qq ok;have HX0:=Qq (Ext.refl w);clear h ok;go_enter Tryz.func181,Tryz.ntmps181;go_wp2_with fail;refine(Wr (H.out.ext HX0.out) OK.out).mono ?_;rintro e w1 ⟨ur0,ur1,rfl,hx,hf⟩;have HX1:=Qq (HX0.out.trans hx);have HS1:=Qq hx;clear hx;have HF1:=Qq hf;clear hf;cases hd:Dj ls fs st i n with
 |none =>
  have D2:=Qq hd;clear hd;go_wp2_with fail;go_ret;exact⟨Qr (by simp only [Wt,D2.out] <;> rfl),HX1.out⟩
 |some r =>
  have D2:=Qq hd;have Vr:=Qq (HF1.out _ hd);clear hd;obtain⟨ad,c,vl,vs,Ai,ci,g1,g2,g3,g4,g5,g6,g7,g8,g9⟩:=(H.out.ext HX1.out).form OK.out.f_at;have GB:=(H.out.ext HX1.out).blt;have GI:i < fs.length:=(List.getElem?_eq_some_iff.1 OK.out.f_at).1;have GF:=Qq g9;clear g4 g5 g7 g9;go_wp2_with fail;refine(Kq _ _ r.1 fi _ (Vr.out.1.ext Qz) (GF.out.ext Qz)).mono ?_;rintro e w2 ⟨um,rfl,hm⟩;have Mm:=Qq hm;have HX2:=Qq (HX1.out.trans hm.2.2);have HS2:=Qq hm.2.2;clear hm;go_wp2_with fail;refine(Zs _ ur1 (Ya r.1 fi) r.2 _ (Mm.out.fml.ext Qz).1 (Vr.out.2.ext (Ext.trans Qz HS2.out)).1).mono ?_;rintro e w3 ⟨rfl,hx⟩
  have HX3:=Qq (HX2.out.trans hx);have HS3:=Qq hx;clear hx;go_wp2_with fail;go_ret;exact⟨Qr (by simp only [Wt,D2.out] <;> rfl),HX3.out⟩
theorem Qy0 {w:World} {b:Nat} {lg:Int} {ls:List Ln} {fs:List (List Nd)} {st:List (List Int)} {i:Nat} {n:Ln} {fi:List Nd}(h:Chk w b lg ls fs st)(ok:Vb ls fs st i n fi):
 Calls Tryz.prog 185 #[.pointer (some ⟨b,0,none⟩),.int .i64 i] w fun e w'=>e=.returned (.bool (To lg ls fs st i n fi))/\Ext w w':=by
 have H:=Qq h;have OK:=Qq ok;have HX0:=Qq (Ext.refl w);clear h ok;go_enter Tryz.func185,Tryz.ntmps185;go_wp2_with fail;refine(Sk (H.out.ext HX0.out) OK.out.st_ok i n OK.out.n_at OK.out.st_lt OK.out.fs_le).mono ?_;rintro e w1 ⟨ux0,rfl,hx,hf⟩;have HX1:=Qq (HX0.out.trans hx);have HS1:=Qq hx;clear hx;have HF1:=Qq hf;clear hf;cases hd:Ko ls fs st i n with
 |none =>
  have D2:=Qq hd;clear hd;go_wp2_with fail;go_ret;exact⟨Qr (by simp only [To,D2.out] <;> rfl),HX1.out⟩
 |some x =>
  have D2:=Qq hd;have Vx:=Qq (HF1.out _ hd);clear hd;go_wp2_with fail;refine(Td _).mono ?_;rintro e w2 ⟨um,rfl,hm⟩;have Mm:=Qq hm;have HX2:=Qq (HX1.out.trans hm.2.2);have HS2:=Qq hm.2.2;clear hm;go_wp2_with fail;refine(Zs ux0 _ x Dv _ (Vx.out.ext (Ext.trans Qz HS2.out)).1 (Mm.out.fml.ext Qz).1).mono ?_;rintro e w3 ⟨rfl,hx⟩;have HX3:=Qq (HX2.out.trans hx);have HS3:=Qq hx;clear hx;go_wp2_with fail;go_ret;exact⟨Qr (by simp only [To,D2.out] <;> rfl),HX3.out⟩
theorem Qcd {w:World} {b:Nat} {lg:Int} {ls:List Ln} {fs:List (List Nd)} {st:List (List Int)} {i:Nat} {n:Ln} {fi:List Nd}(h:Chk w b lg ls fs st)(ok:Vb ls fs st i n fi):
 Calls Tryz.prog 187 #[.pointer (some ⟨b,0,none⟩),.int .i64 i] w fun e w'=>e=.returned (.bool (Cp lg ls fs st i n fi))/\Ext w w':=by
 have H:=Qq h;have OK:=Qq ok;have HX0:=Qq (Ext.refl w);clear h ok;go_enter Tryz.func187,Tryz.ntmps187;go_wp2_with fail;refine(Wr (H.out.ext HX0.out) OK.out).mono ?_;rintro e w1 ⟨ur0,ur1,rfl,hx,hf⟩;have HX1:=Qq (HX0.out.trans hx);have HS1:=Qq hx;clear hx;have HF1:=Qq hf;clear hf;cases hd:Dj ls fs st i n with
 |none =>
  have D2:=Qq hd;clear hd;go_wp2_with fail;refine(Sk (H.out.ext HX1.out) OK.out.st_ok i n OK.out.n_at OK.out.st_lt OK.out.fs_le).mono ?_;rintro e w2 ⟨ux0,rfl,hx,hf⟩;have HX2:=Qq (HX1.out.trans hx);have HS2:=Qq hx;clear hx;have HF3:=Qq hf;clear hf;cases hd:Ko ls fs st i n with
  |none =>
   have D4:=Qq hd;clear hd;go_wp2_with fail;go_ret;exact⟨Qr (by simp only [Cp,D2.out,D4.out] <;> rfl),HX2.out⟩
  |some x =>
   have D4:=Qq hd;have Vx:=Qq (HF3.out _ hd);clear hd;go_wp2_with fail;refine(Sz ux0 x 8 _ (Vx.out.ext Qz) (OK.out.fs_ok _ (Lh D4.out OK.out.fs_le)).1).mono ?_;rintro e w3 ⟨us0,us1,rfl,hx,hf⟩;have HX3:=Qq (HX2.out.trans hx);have HS3:=Qq hx;clear hx;have HF5:=Qq hf;clear hf;cases hd:Ub x 8 with
   |none =>
    have D6:=Qq hd;clear hd;go_wp2_with fail;go_quiet (fail);go_wp2_with fail;go_ret;exact⟨Qr (by simp only [Cp,D2.out,D4.out,D6.out] <;> rfl),HX3.out.drewN _⟩
   |some s =>
    have D6:=Qq hd;have Vs:=Qq (HF5.out _ hd);clear hd;cases hd:eqN (Ya s.1 s.2) fi
    case false =>
     have D7:=Qq hd;clear hd;obtain⟨ad,c,vl,vs,Ai,ci,g1,g2,g3,g4,g5,g6,g7,g8,g9⟩:=(H.out.ext HX3.out).form OK.out.f_at;have GB:=(H.out.ext HX3.out).blt;have GI:i < fs.length:=(List.getElem?_eq_some_iff.1 OK.out.f_at).1;have GF:=Qq g9;clear g4 g5 g7 g9;go_wp2_with fail;go_region_held3 (fun w'=>w'.cell? ⟨b,2,none⟩=some (.slice (some ad) fs.length c)/\w'.cell? (ad.add i)=some (.slice Ai fi.length ci)) (first|exact⟨g6,g8⟩|exact⟨g6a,g8a⟩|exact⟨g6b,g8b⟩|exact⟨g6c,g8c⟩|exact⟨g6d,g8d⟩|go_keep) (first|(go_at_call 69;refine(Zs _ _ (Ya s.1 s.2) fi _ (by exact(MA.out.fml.ext (by repeat(first|exact Qz|assumption|apply Ext.alloc|apply Ext.drew))).1) (by exact(GF.out.ext (by repeat(first|exact Qz|assumption|apply Ext.alloc|apply Ext.drew))).1)).mono ?_;rintro e wb ⟨rfl,hxb0⟩;rw [D7.out];have hxb:Ext w3 wb:=Ext.trans (by repeat(first|exact Qz|assumption|apply Ext.alloc|apply Ext.drew)) hxb0;have g6b:=(hxb.cell (p:=⟨b,2,none⟩) GB).trans g6;have g8b:=(hxb.cell (p:=ad.add i) (Qj g3)).trans g8;clear hxb0)|(go_at_call 69;refine(Zs _ _ (Ya s.2 s.1) fi _ (by exact(MC.out.fml.ext (by repeat(first|exact Qz|assumption|apply Ext.alloc|apply Ext.drew))).1) (by exact(GF.out.ext (by repeat(first|exact Qz|assumption|apply Ext.alloc|apply Ext.drew))).1)).mono ?_;rintro e wd ⟨rfl,hxd0⟩;have hxd:Ext w3 wd:=Ext.trans (by repeat(first|exact Qz|assumption|apply Ext.alloc|apply Ext.drew)) hxd0;have g6d:=(hxd.cell (p:=⟨b,2,none⟩) GB).trans g6;have g8d:=(hxd.cell (p:=ad.add i) (Qj g3)).trans g8;clear hxd0)|(go_at_call 17;refine(Kq us0 us1 s.1 s.2 _ (by exact Vs.out.1.ext (by repeat(first|exact Qz|assumption|apply Ext.alloc|apply Ext.drew))) (by exact Vs.out.2.ext (by repeat(first|exact Qz|assumption|apply Ext.alloc|apply Ext.drew)))).mono ?_;rintro e wa ⟨ua,rfl,hma⟩;have MA:=Qq hma;have hxa:Ext w3 wa:=Ext.trans (by repeat(first|exact Qz|assumption|apply Ext.alloc|apply Ext.drew)) hma.2.2;have g6a:=(hxa.cell (p:=⟨b,2,none⟩) GB).trans g6;have g8a:=(hxa.cell (p:=ad.add i) (Qj g3)).trans g8;clear hma)|(go_at_call 17;refine(Kq us1 us0 s.2 s.1 _ (by exact Vs.out.2.ext (by repeat(first|exact Qz|assumption|apply Ext.alloc|apply Ext.drew))) (by exact Vs.out.1.ext (by repeat(first|exact Qz|assumption|apply Ext.alloc|apply Ext.drew)))).mono ?_;rintro e wc ⟨uc,rfl,hmc⟩;have MC:=Qq hmc;have hxc:Ext w3 wc:=Ext.trans (by repeat(first|exact Qz|assumption|apply Ext.alloc|apply Ext.drew)) hmc.2.2;have g6c:=(hxc.cell (p:=⟨b,2,none⟩) GB).trans g6;have g8c:=(hxc.cell (p:=ad.add i) (Qj g3)).trans g8;clear hmc))
     all_goals
      go_wp2_with fail;go_ret;exact⟨Qr (by simp only [Cp,D2.out,D4.out,D6.out,D7.out] <;> rfl),HX3.out.trans hxd⟩
    case true =>
     have D7:=Qq hd;clear hd;obtain⟨ad,c,vl,vs,Ai,ci,g1,g2,g3,g4,g5,g6,g7,g8,g9⟩:=(H.out.ext HX3.out).form OK.out.f_at;have GB:=(H.out.ext HX3.out).blt;have GI:i < fs.length:=(List.getElem?_eq_some_iff.1 OK.out.f_at).1;have GF:=Qq g9;clear g4 g5 g7 g9;go_wp2_with fail;refine wp_region_held_drew (S:=fun w'=>w'.cell? ⟨b,2,none⟩=some (.slice (some ad) fs.length c)/\w'.cell? (ad.add i)=some (.slice Ai fi.length ci)) (by kernel_rfl) ⟨g6,g8⟩ (fun hHeld=> ?_);refine' wpAnyH_take (i:=0) (v:=_) rfl (by kernel_rfl) (by kernel_rfl) (by kernel_rfl) (fun _ _ _ h=>h) (Or.inl ⟨by rfl,?hy0⟩) ⟨g6,g8⟩ ?rest0
     case hy0=>(intro w' hSw;(try dsimp only at hSw);go_simp;(try with_reducible rfl))
     try simp only [Act.put,List.setIfInBounds_toArray,List.set_cons_zero,List.set_cons_succ,List.getElem_toArray,List.getElem_cons_zero]
     refine' wpAnyH_take (i:=1) (v:=_) rfl (by kernel_rfl) (by kernel_rfl) (by kernel_rfl) (fun _ _ _ h=>h) (Or.inl ⟨by rfl,?hy1⟩) ⟨g6,g8⟩ ?rest1
     case hy1=>(intro w' hSw;(try dsimp only at hSw);go_simp;(try with_reducible rfl))
     try simp only [Act.put,List.setIfInBounds_toArray,List.set_cons_zero,List.set_cons_succ,List.getElem_toArray,List.getElem_cons_succ,List.getElem_cons_zero]
     refine' wpAnyH_take (i:=2) (v:=_) rfl (by kernel_rfl) (by kernel_rfl) (by kernel_rfl) (fun _ _ _ h=>h) (Or.inl ⟨by rfl,?hy2⟩) ⟨g6,g8⟩ ?rest2
     case hy2=>(intro w' hSw;(try dsimp only at hSw);go_simp;(try with_reducible rfl))
     try simp only [Act.put,List.setIfInBounds_toArray,List.set_cons_zero,List.set_cons_succ,List.getElem_toArray,List.getElem_cons_succ,List.getElem_cons_zero]
     refine' wpAnyH_take (i:=3) (v:=_) rfl (by kernel_rfl) (by kernel_rfl) (by kernel_rfl) (fun _ _ _ h=>h) (Or.inl ⟨by rfl,?hy3⟩) ⟨g6,g8⟩ ?rest3
     case hy3=>(intro w' hSw;(try dsimp only at hSw);go_simp;(try with_reducible rfl))
     try simp only [Act.put,List.setIfInBounds_toArray,List.set_cons_zero,List.set_cons_succ,List.getElem_toArray,List.getElem_cons_succ,List.getElem_cons_zero]
     refine' wpAnyH_take (i:=5) (v:=_) rfl (by kernel_rfl) (by kernel_rfl) (by kernel_rfl) (fun _ _ _ h=>h) (Or.inl ⟨by rfl,?hy5⟩) ⟨g6,g8⟩ ?rest5
     case hy5=>(intro w' hSw;(try dsimp only at hSw);go_simp;(try with_reducible rfl))
     try simp only [Act.put,List.setIfInBounds_toArray,List.set_cons_zero,List.set_cons_succ,List.getElem_toArray,List.getElem_cons_succ,List.getElem_cons_zero]
     refine' wpAnyH_take (i:=6) (v:=_) rfl (by kernel_rfl) (by kernel_rfl) (by kernel_rfl) (fun _ _ _ h=>h) (Or.inl ⟨by rfl,?hy6⟩) ⟨g6,g8⟩ ?rest6
     case hy6=>(intro w' hSw;(try dsimp only at hSw);go_simp;(try with_reducible rfl))
     try simp only [Act.put,List.setIfInBounds_toArray,List.set_cons_zero,List.set_cons_succ,List.getElem_toArray,List.getElem_cons_succ,List.getElem_cons_zero]
     refine' wpAnyH_take (i:=7) (v:=_) rfl (by kernel_rfl) (by kernel_rfl) (by kernel_rfl) (fun _ _ _ h=>h) (Or.inl ⟨by rfl,?hy7⟩) ⟨g6,g8⟩ ?rest7
     case hy7=>(intro w' hSw;(try dsimp only at hSw);go_simp;(try with_reducible rfl))
     try simp only [Act.put,List.setIfInBounds_toArray,List.set_cons_zero,List.set_cons_succ,List.getElem_toArray,List.getElem_cons_succ,List.getElem_cons_zero]
     refine' wpAnyH_take (i:=8) (v:=_) rfl (by kernel_rfl) (by kernel_rfl) (by kernel_rfl) (fun _ _ _ h=>h) (Or.inl ⟨by rfl,?hy8⟩) ⟨g6,g8⟩ ?rest8
     case hy8=>(intro w' hSw;(try dsimp only at hSw);go_simp;(try with_reducible rfl))
     try simp only [Act.put,List.setIfInBounds_toArray,List.set_cons_zero,List.set_cons_succ,List.getElem_toArray,List.getElem_cons_succ,List.getElem_cons_zero]
     refine' wpAnyH_take (i:=9) (v:=_) rfl (by kernel_rfl) (by kernel_rfl) (by kernel_rfl) (fun _ _ _ h=>h) (Or.inl ⟨by rfl,?hy9⟩) ⟨g6,g8⟩ ?rest9
     case hy9=>(intro w' hSw;(try dsimp only at hSw);go_simp;(try with_reducible rfl))
     try simp only [Act.put,List.setIfInBounds_toArray,List.set_cons_zero,List.set_cons_succ,List.getElem_toArray,List.getElem_cons_succ,List.getElem_cons_zero]
     refine' wpAnyH_take (i:=10) (v:=_) rfl (by kernel_rfl) (by kernel_rfl) (by kernel_rfl) (fun _ _ _ h=>h) (Or.inl ⟨by rfl,?hy10⟩) ⟨g6,g8⟩ ?rest10
     case hy10=>(intro w' hSw;(try dsimp only at hSw);go_simp;(try with_reducible rfl))
     try simp only [Act.put,List.setIfInBounds_toArray,List.set_cons_zero,List.set_cons_succ,List.getElem_toArray,List.getElem_cons_succ,List.getElem_cons_zero]
     refine' wpAnyH_take (i:=11) (v:=_) rfl (by kernel_rfl) (by kernel_rfl) (by kernel_rfl) (fun _ _ _ h=>h) (Or.inl ⟨by rfl,?hy11⟩) ⟨g6,g8⟩ ?rest11
     case hy11=>(intro w' hSw;(try dsimp only at hSw);go_simp;(try with_reducible rfl))
     try simp only [Act.put,List.setIfInBounds_toArray,List.set_cons_zero,List.set_cons_succ,List.getElem_toArray,List.getElem_cons_succ,List.getElem_cons_zero]
     refine wpAnyH_ready (rs:= [4]) (by kernel_rfl) (by simp) ?_;refine AllReadyH.cons rfl (fun K hK=> ?_) AllReadyH.nil;go_simp
     (go_at_call 17;refine(Kq _ _ s.1 s.2 _ (by exact Vs.out.1.ext (by repeat(first|exact Qz|assumption|apply Ext.alloc|apply Ext.drew))) (by exact Vs.out.2.ext (by repeat(first|exact Qz|assumption|apply Ext.alloc|apply Ext.drew)))).mono ?_;rintro e wa ⟨ua,rfl,hma⟩;have MA:=Qq hma;have hxa:Ext w3 wa:=Ext.trans (by repeat(first|exact Qz|assumption|apply Ext.alloc|apply Ext.drew)) hma.2.2;have g6a:=(hxa.cell (p:=⟨b,2,none⟩) GB).trans g6;have g8a:=(hxa.cell (p:=(ad.add i)) (Qj g3)).trans g8;clear hma)
     go_wp2_with fail;refine hK.out _ _ ⟨g6a,g8a⟩ (fun hHeld=> ?_);clear hK K hHeld
     try simp only [Act.put,List.setIfInBounds_toArray,List.set_cons_zero,List.set_cons_succ,List.getElem_toArray,List.getElem_cons_succ,List.getElem_cons_zero]
     refine wpAnyH_ready (rs:= [12]) (by kernel_rfl) (by simp) ?_;refine AllReadyH.cons rfl (fun K hK=> ?_) AllReadyH.nil;go_simp
     (go_at_call 69;refine(Zs _ _ (Ya s.1 s.2) fi _ (by exact(MA.out.fml.ext (by repeat(first|exact Qz|assumption|apply Ext.alloc|apply Ext.drew))).1) (by exact(GF.out.ext (by repeat(first|exact Qz|assumption|apply Ext.alloc|apply Ext.drew))).1)).mono ?_;rintro e wd ⟨rfl,hvd⟩;rw [D7.out];have hxd:Ext w3 wd:=Ext.trans (by repeat(first|exact Qz|assumption|apply Ext.alloc|apply Ext.drew)) hvd;have g6d:=(hxd.cell (p:=⟨b,2,none⟩) GB).trans g6;have g8d:=(hxd.cell (p:=(ad.add i)) (Qj g3)).trans g8;clear hvd)
     go_wp2_with fail;refine hK.out _ _ ⟨g6d,g8d⟩ (fun hHeld=> ?_);clear hK K hHeld
     try simp only [Act.put,List.setIfInBounds_toArray,List.set_cons_zero,List.set_cons_succ,List.getElem_toArray,List.getElem_cons_succ,List.getElem_cons_zero]
     refine' wpAnyH_take (i:=13) (v:=_) rfl (by kernel_rfl) (by kernel_rfl) (by kernel_rfl) (fun _ _ _ h=>h) (Or.inl ⟨by rfl,?hy13⟩) ⟨g6d,g8d⟩ ?rest13
     case hy13=>(intro w' hSw;(try dsimp only at hSw);go_simp;(try with_reducible rfl))
     try simp only [Act.put,List.setIfInBounds_toArray,List.set_cons_zero,List.set_cons_succ,List.getElem_toArray,List.getElem_cons_succ,List.getElem_cons_zero]
     refine wpAnyH_take (i:=14) (v:=undef) rfl (by kernel_rfl) (by kernel_rfl) (by kernel_rfl) (fun _ _ _ h=>h) (Or.inr ⟨by rfl,rfl⟩) ⟨g6d,g8d⟩ ?_
     try simp only [Act.put,List.setIfInBounds_toArray,List.set_cons_zero,List.set_cons_succ,List.getElem_toArray,List.getElem_cons_succ,List.getElem_cons_zero]
     refine wpAnyH_take (i:=15) (v:=undef) rfl (by kernel_rfl) (by kernel_rfl) (by kernel_rfl) (fun _ _ _ h=>h) (Or.inr ⟨by rfl,rfl⟩) ⟨g6d,g8d⟩ ?_
     try simp only [Act.put,List.setIfInBounds_toArray,List.set_cons_zero,List.set_cons_succ,List.getElem_toArray,List.getElem_cons_succ,List.getElem_cons_zero]
     refine wpAnyH_take (i:=16) (v:=undef) rfl (by kernel_rfl) (by kernel_rfl) (by kernel_rfl) (fun _ _ _ h=>h) (Or.inr ⟨by rfl,rfl⟩) ⟨g6d,g8d⟩ ?_
     try simp only [Act.put,List.setIfInBounds_toArray,List.set_cons_zero,List.set_cons_succ,List.getElem_toArray,List.getElem_cons_succ,List.getElem_cons_zero]
     refine wpAnyH_take (i:=17) (v:=undef) rfl (by kernel_rfl) (by kernel_rfl) (by kernel_rfl) (fun _ _ _ h=>h) (Or.inr ⟨by rfl,rfl⟩) ⟨g6d,g8d⟩ ?_
     try simp only [Act.put,List.setIfInBounds_toArray,List.set_cons_zero,List.set_cons_succ,List.getElem_toArray,List.getElem_cons_succ,List.getElem_cons_zero]
     refine wpAnyH_take (i:=18) (v:=undef) rfl (by kernel_rfl) (by kernel_rfl) (by kernel_rfl) (fun _ _ _ h=>h) (Or.inr ⟨by rfl,rfl⟩) ⟨g6d,g8d⟩ ?_
     try simp only [Act.put,List.setIfInBounds_toArray,List.set_cons_zero,List.set_cons_succ,List.getElem_toArray,List.getElem_cons_succ,List.getElem_cons_zero]
     refine wpAnyH_take (i:=19) (v:=undef) rfl (by kernel_rfl) (by kernel_rfl) (by kernel_rfl) (fun _ _ _ h=>h) (Or.inr ⟨by rfl,rfl⟩) ⟨g6d,g8d⟩ ?_
     try simp only [Act.put,List.setIfInBounds_toArray,List.set_cons_zero,List.set_cons_succ,List.getElem_toArray,List.getElem_cons_succ,List.getElem_cons_zero]
     refine wpAnyH_take (i:=20) (v:=undef) rfl (by kernel_rfl) (by kernel_rfl) (by kernel_rfl) (fun _ _ _ h=>h) (Or.inr ⟨by rfl,rfl⟩) ⟨g6d,g8d⟩ ?_
     try simp only [Act.put,List.setIfInBounds_toArray,List.set_cons_zero,List.set_cons_succ,List.getElem_toArray,List.getElem_cons_succ,List.getElem_cons_zero]
     refine wpAnyH_take (i:=21) (v:=undef) rfl (by kernel_rfl) (by kernel_rfl) (by kernel_rfl) (fun _ _ _ h=>h) (Or.inr ⟨by rfl,rfl⟩) ⟨g6d,g8d⟩ ?_
     try simp only [Act.put,List.setIfInBounds_toArray,List.set_cons_zero,List.set_cons_succ,List.getElem_toArray,List.getElem_cons_succ,List.getElem_cons_zero]
     refine wpAnyH_take (i:=22) (v:=undef) rfl (by kernel_rfl) (by kernel_rfl) (by kernel_rfl) (fun _ _ _ h=>h) (Or.inr ⟨by rfl,rfl⟩) ⟨g6d,g8d⟩ ?_
     try simp only [Act.put,List.setIfInBounds_toArray,List.set_cons_zero,List.set_cons_succ,List.getElem_toArray,List.getElem_cons_succ,List.getElem_cons_zero]
     refine wpAnyH_take (i:=23) (v:=undef) rfl (by kernel_rfl) (by kernel_rfl) (by kernel_rfl) (fun _ _ _ h=>h) (Or.inr ⟨by rfl,rfl⟩) ⟨g6d,g8d⟩ ?_
     try simp only [Act.put,List.setIfInBounds_toArray,List.set_cons_zero,List.set_cons_succ,List.getElem_toArray,List.getElem_cons_succ,List.getElem_cons_zero]
     refine wpAnyH_take (i:=24) (v:=undef) rfl (by kernel_rfl) (by kernel_rfl) (by kernel_rfl) (fun _ _ _ h=>h) (Or.inr ⟨by rfl,rfl⟩) ⟨g6d,g8d⟩ ?_
     try simp only [Act.put,List.setIfInBounds_toArray,List.set_cons_zero,List.set_cons_succ,List.getElem_toArray,List.getElem_cons_succ,List.getElem_cons_zero]
     refine' wpAnyH_take (i:=25) (v:=_) rfl (by kernel_rfl) (by kernel_rfl) (by kernel_rfl) (fun _ _ _ h=>h) (Or.inl ⟨by rfl,?hy25⟩) ⟨g6d,g8d⟩ ?rest25
     case hy25=>(intro w' hSw;(try dsimp only at hSw);go_simp;(try with_reducible rfl))
     try simp only [Act.put,List.setIfInBounds_toArray,List.set_cons_zero,List.set_cons_succ,List.getElem_toArray,List.getElem_cons_succ,List.getElem_cons_zero]
     refine' wpAnyH_take (i:=26) (v:=_) rfl (by kernel_rfl) (by kernel_rfl) (by kernel_rfl) (fun _ _ _ h=>h) (Or.inl ⟨by rfl,?hy26⟩) ⟨g6d,g8d⟩ ?rest26
     case hy26=>(intro w' hSw;(try dsimp only at hSw);go_simp;(try with_reducible rfl))
     try simp only [Act.put,List.setIfInBounds_toArray,List.set_cons_zero,List.set_cons_succ,List.getElem_toArray,List.getElem_cons_succ,List.getElem_cons_zero]
     refine' wpAnyH_take (i:=27) (v:=_) rfl (by kernel_rfl) (by kernel_rfl) (by kernel_rfl) (fun _ _ _ h=>h) (Or.inl ⟨by rfl,?hy27⟩) ⟨g6d,g8d⟩ ?rest27
     case hy27=>(intro w' hSw;(try dsimp only at hSw);go_simp;(try with_reducible rfl))
     try simp only [Act.put,List.setIfInBounds_toArray,List.set_cons_zero,List.set_cons_succ,List.getElem_toArray,List.getElem_cons_succ,List.getElem_cons_zero]
     refine wpAnyH_done (by kernel_rfl) ?_ _;go_wp2_with fail;go_ret;exact⟨Qr (by simp only [Cp,D2.out,D4.out,D6.out,D7.out] <;> rfl),HX3.out.trans hxd⟩
 |some r =>
  have D2:=Qq hd;have Vr:=Qq (HF1.out _ hd);clear hd;obtain⟨ad,c,vl,vs,Ai,ci,g1,g2,g3,g4,g5,g6,g7,g8,g9⟩:=(H.out.ext HX1.out).form OK.out.f_at;have GB:=(H.out.ext HX1.out).blt;have GI:i < fs.length:=(List.getElem?_eq_some_iff.1 OK.out.f_at).1;have GF:=Qq g9;clear g4 g5 g7 g9;go_wp2_with fail;refine(Sz _ fi 8 _ (GF.out.ext Qz) (OK.out.fs_ok _ (List.mem_of_getElem? OK.out.f_at)).1).mono ?_;rintro e w2 ⟨us0,us1,rfl,hx,hf⟩;have HX2:=Qq (HX1.out.trans hx);have HS2:=Qq hx;clear hx;have HF8:=Qq hf;clear hf;cases hd:Ub fi 8 with
  |none =>
   have D9:=Qq hd;clear hd;go_wp2_with fail;go_ret;exact⟨Qr (by simp only [Cp,D2.out,D9.out] <;> rfl),HX2.out⟩
  |some s =>
   have D9:=Qq hd;have Vs:=Qq (HF8.out _ hd);clear hd;go_wp2_with fail;refine(Kq _ _ s.1 s.2 _ (Vs.out.1.ext Qz) (Vs.out.2.ext Qz)).mono ?_;rintro e w3 ⟨um,rfl,hm⟩;have Mm:=Qq hm;have HX3:=Qq (HX2.out.trans hm.2.2);have HS3:=Qq hm.2.2;clear hm;go_wp2_with fail;refine(Zs _ ur0 (Ya s.1 s.2) r.1 _ (Mm.out.fml.ext Qz).1 (Vr.out.1.ext (Ext.trans (Ext.trans Qz HS2.out) HS3.out)).1).mono ?_;rintro e w4 ⟨rfl,hx⟩;have HX4:=Qq (HX3.out.trans hx);have HS4:=Qq hx;clear hx;cases hd:eqN (Ya s.1 s.2) r.1
   case false =>
    have D10:=Qq hd;clear hd;go_wp2_with fail;go_ret;exact⟨Qr (by simp only [Cp,D2.out,D9.out,D10.out] <;> rfl),HX4.out⟩
   case true =>
    have D10:=Qq hd;clear hd;go_wp2_with fail;refine(Kq _ _ s.2 s.1 _ (Vs.out.2.ext (Ext.trans (Ext.trans Qz HS3.out) HS4.out)) (Vs.out.1.ext (Ext.trans (Ext.trans Qz HS3.out) HS4.out))).mono ?_;rintro e w5 ⟨uo,rfl,hm⟩;have Mo:=Qq hm;have HX5:=Qq (HX4.out.trans hm.2.2);have HS5:=Qq hm.2.2;clear hm;go_wp2_with fail;refine(Zs _ ur1 (Ya s.2 s.1) r.2 _ (Mo.out.fml.ext Qz).1 (Vr.out.2.ext (Ext.trans (Ext.trans (Ext.trans (Ext.trans Qz HS2.out) HS3.out) HS4.out) HS5.out)).1).mono ?_;rintro e w6 ⟨rfl,hx⟩;have HX6:=Qq (HX5.out.trans hx);have HS6:=Qq hx;clear hx;go_wp2_with fail;go_ret;exact⟨Qr (by simp only [Cp,D2.out,D9.out,D10.out] <;> rfl),HX6.out⟩
theorem Fk(w:World)(l:List Int)(h:l.length<=1000):Zi (w.alloc (.cells (l.map (Value.int .i64)).toArray 3)) (.slice (some ⟨w.heap.size,0,none⟩) l.length l.length) l:=by
 refine⟨_,_,rfl,Nat.le_refl _,by unfold maxLen;omega,fun _=>⟨_,rfl,by simp,fun k z hk=> ?_⟩⟩;exact Bm w _ _ k _ (by simp [hk])
theorem Rj {w:World} {b:Nat} {lg:Int} {ls:List Ln} {fs:List (List Nd)} {st:List (List Int)}(h:Chk w b lg ls fs st)(i:Nat)(n:Ln)(m:Nat)(hi:ls[i]?=some n):
 Calls Tryz.prog 193 #[.pointer (some ⟨b,0,none⟩),.int .i64 i,.int .i64 (m:Int)] w fun e w'=>e=.returned (.bool (decide (n.from_.length=m)))/\∃m,w'=w.drewN m:=by
 obtain⟨ad,c,vf,vs,uf,ur,hc1,hc2,hlt,d0,d1,d2,d3,q0,q1,q2,q3,q4,_,⟨Ar,cr,rfl,hir⟩⟩:=h.line hi;have hil:i < ls.length:=(List.getElem?_eq_some_iff.1 hi).1;have hr1:=hir.1;have hr2:=hir.2.1;unfold maxLen at hr2;have HB:=Qq (show((n.from_.length:Int)==(m:Int))=decide (n.from_.length=m) by
  by_cases e:n.from_.length=m
  ·simp [e]
  rw [decide_eq_false e,beq_eq_false_iff_ne];omega)
 clear h hi hir;go_enter Tryz.func193,Tryz.ntmps193;go_wp2_with fail;go_ret;exact⟨Qr HB.out,0,rfl⟩
theorem Ga {w:World} {b:Nat} {lg:Int} {ls:List Ln} {fs:List (List Nd)} {st:List (List Int)}(h:Chk w b lg ls fs st)(v:Value)(l:List Int)(hv:Zi w v l):
 Calls Tryz.prog 203 #[.pointer (some ⟨b,0,none⟩),v] w fun e w'=>e=.returned (.bool (inL l lg))/\Ext w w':=by
 obtain⟨vl,vf,vs,hb,_⟩:=h.all;obtain⟨d0,d1,d2,d3,_,_⟩:=Bn hb;have HV:=Qq hv;obtain⟨A,c,rfl,_⟩:=hv;clear h hb;go_enter Tryz.func203,Tryz.ntmps203;go_wp2_with fail;refine(Bb _ l lg _ HV.out).mono ?_;rintro e w1 ⟨rfl,hx⟩;go_wp2_with fail;go_ret;exact⟨rfl,hx⟩
theorem Qzt(v1:Value)(f:List Nd)(v2:Value)(g:List Nd)(w:World)(h1:Fml w v1 f)(h2:Fml w v2 g)(h0L:0 < f.length):
 Calls Tryz.prog 204 #[v1,v2] w fun e w'=>e=.returned (.bool (Lb f g))/\Ext w w':=by
 have HG:=Qq h2;have HLF:=Qq h1;obtain⟨A2,c2,rfl,_⟩:=Qg h2;obtain⟨⟨AL,cL,rfl,hcapL,hmaxL,hreadL⟩,hokL⟩:=h1;unfold maxLen at hmaxL;obtain⟨adL,rfl,hltL,hcellsL⟩:=hreadL (by intro e;rw [e]at h0L;simp at h0L);have hlast:=Xi h0L;obtain⟨n0,n1,n2,n3,n4,n5⟩:=hcellsL _ _ hlast;have hi1L:((f.length:Int) - 1) < (f.length:Int):=by omega
 have hi0L:(0:Int)<=(f.length:Int) - 1:=by omega
 have e1L:((f.length:Int) - 1).toNat=f.length - 1:=by omega
 have hniL:=(hokL _ (List.mem_of_getElem? hlast)).2.1;clear hreadL hokL hcellsL hlast h2;obtain⟨nn,hnn⟩:∃nn,nn=Qt f:=⟨_,rfl⟩;rw [<-hnn]at n0 n1 n2 n3 n4 n5 hniL;have HNN:=Qq hnn.symm;have HNI:=Qq hniL;clear hnn hniL;have hw0:w.heap.size < (w.alloc (.cells #[.int .i64 nn.op,.int .i64 nn.i,.int .i64 nn.e,.int .i64 nn.g,.int .i64 nn.x,.int .i64 nn.y] 64)).heap.size:=by simp
 cases hd:(nn.op==10)
 case false =>
  have D1:=Qq hd;have hd2:(nn.op !=10)=true:=by rw [bne,hd];rfl
  go_enter Tryz.func204,Tryz.ntmps204;go_wp2_with fail;go_ret;exact⟨Qr (by simp only [Lb,HNN.out,D1.out] <;> rfl),Qz.alloc _⟩
 case true =>
  have D1:=Qq hd;have hd2:(nn.op !=10)=false:=by rw [bne,hd];rfl
  go_enter Tryz.func204,Tryz.ntmps204;go_wp2_with fail;go_region_with (first|(go_at_call 43;refine(Ut _ f nn.x _ (by exact HLF.out.ext (by repeat(first|exact Qz|assumption|apply Ext.alloc|apply Ext.drew)))).mono ?_;rintro e wa ⟨ua,rfl,hma⟩;have MA:=Qq hma;have hxa:Ext w wa:=Ext.trans (by repeat(first|exact Qz|assumption|apply Ext.alloc|apply Ext.drew)) hma.2.2;obtain⟨hca,_,hza0⟩:=hma.2.2.facts;have hza:w.heap.size < wa.heap.size:=(by first|omega|(simp at hza0;omega));clear hza0;clear hma)|(go_at_call 83;refine(Gg _ (Zh f nn.x) _ (by exact MA.out.fml.ext (by repeat(first|exact Qz|assumption|apply Ext.alloc|apply Ext.drew)))).mono ?_;rintro e wb ⟨ub,rfl,hmb⟩;have MB:=Qq hmb;have hxb:Ext w wb:=Ext.trans (by repeat(first|exact Qz|assumption|apply Ext.alloc|apply Ext.drew)) hmb.2.2;obtain⟨hcb,_,hzb0⟩:=hmb.2.2.facts;have hzb:w.heap.size < wb.heap.size:=(by first|omega|(simp at hzb0;omega));clear hzb0;clear hmb)|(go_at_call 16;refine(Xn nn.i HNI.out _ (Vt (Zh f nn.x)) _ (by exact MB.out.fml.ext (by repeat(first|exact Qz|assumption|apply Ext.alloc|apply Ext.drew)))).mono ?_;rintro e wc ⟨uc,rfl,hmc⟩;have MC:=Qq hmc;have hxc:Ext w wc:=Ext.trans (by repeat(first|exact Qz|assumption|apply Ext.alloc|apply Ext.drew)) hmc.2.2;obtain⟨hcc,_,hzc0⟩:=hmc.2.2.facts;have hzc:w.heap.size < wc.heap.size:=(by first|omega|(simp at hzc0;omega));clear hzc0;clear hmc)|(go_at_call 83;refine(Gg _ (Yy nn.i (Vt (Zh f nn.x))) _ (by exact MC.out.fml.ext (by repeat(first|exact Qz|assumption|apply Ext.alloc|apply Ext.drew)))).mono ?_;rintro e wd ⟨ud,rfl,hmd⟩;have MD:=Qq hmd;have hxd:Ext w wd:=Ext.trans (by repeat(first|exact Qz|assumption|apply Ext.alloc|apply Ext.drew)) hmd.2.2;obtain⟨hcd,_,hzd0⟩:=hmd.2.2.facts;have hzd:w.heap.size < wd.heap.size:=(by first|omega|(simp at hzd0;omega));clear hzd0;clear hmd)|(go_at_call 69;refine(Zs _ _ (Vt (Yy nn.i (Vt (Zh f nn.x)))) g _ (by exact(MD.out.fml.ext (by repeat(first|exact Qz|assumption|apply Ext.alloc|apply Ext.drew))).1) (by exact(HG.out.ext (by repeat(first|exact Qz|assumption|apply Ext.alloc|apply Ext.drew))).1)).mono ?_;rintro e we ⟨rfl,hxe⟩;have hye:Ext w we:=Ext.trans (by repeat(first|exact Qz|assumption|apply Ext.alloc|apply Ext.drew)) hxe))
  all_goals
   go_wp2_with fail;go_ret;exact⟨Qr (by simp only [Lb,HNN.out,D1.out] <;> rfl),hye⟩
theorem Qss {w:World} {b:Nat} {lg:Int} {ls:List Ln} {fs:List (List Nd)} {st:List (List Int)} {i:Nat} {n:Ln} {fi:List Nd}(h:Chk w b lg ls fs st)(ok:Vb ls fs st i n fi):
 Calls Tryz.prog 190 #[.pointer (some ⟨b,0,none⟩),.int .i64 i] w fun e w'=>e=.returned (.bool (Cf lg ls fs st i n fi))/\Ext w w':=by
 have H:=Qq h;have OK:=Qq ok;have HX0:=Qq (Ext.refl w);clear h ok;go_enter Tryz.func190,Tryz.ntmps190;go_wp2_with fail;refine(Sk (H.out.ext HX0.out) OK.out.st_ok i n OK.out.n_at OK.out.st_lt OK.out.fs_le).mono ?_;rintro e w1 ⟨ux0,rfl,hx,hf⟩;have HX1:=Qq (HX0.out.trans hx);have HS1:=Qq hx;clear hx;have HF1:=Qq hf;clear hf;cases hd:Ko ls fs st i n with
 |none =>
  have D2:=Qq hd;clear hd;go_wp2_with fail;go_ret;exact⟨Qr (by simp only [Cf,D2.out] <;> rfl),HX1.out⟩
 |some x =>
  have D2:=Qq hd;have Vx:=Qq (HF1.out _ hd);clear hd;go_wp2_with fail;refine(Ga ((H.out.ext HX1.out).ext (Qz.alloc _)) _ [2,4,6] (Fk _ [2,4,6] (by decide))).mono ?_;rintro e w2 ⟨rfl,hx⟩;have HS2:=Qq (Ext.trans (show Ext w1 _ from Qz.alloc _) hx);have HX2:=Qq (HX1.out.trans HS2.out);clear hx;cases hd:inL [2,4,6] lg
  case false =>
   have D3:=Qq hd;clear hd;go_wp2_with fail;go_ret;exact⟨Qr (by simp only [Cf,D2.out,D3.out] <;> rfl),HX2.out⟩
  case true =>
   have D3:=Qq hd;clear hd;go_wp2_with fail;refine(Sz ux0 x 9 _ (Vx.out.ext (Ext.trans Qz HS2.out)) (OK.out.fs_ok _ (Lh D2.out OK.out.fs_le)).1).mono ?_;rintro e w3 ⟨ur0,ur1,rfl,hx,hf⟩;have HX3:=Qq (HX2.out.trans hx);have HS3:=Qq hx;clear hx;have HF4:=Qq hf;clear hf;cases hd:Ub x 9 with
   |none =>
    have D5:=Qq hd;clear hd;go_wp2_with fail;go_ret;exact⟨Qr (by simp only [Cf,D2.out,D3.out,D5.out] <;> rfl),HX3.out⟩
   |some r =>
    have D5:=Qq hd;have Vr:=Qq (HF4.out _ hd);clear hd;obtain⟨ad,c,vl,vs,Ai,ci,g1,g2,g3,g4,g5,g6,g7,g8,g9⟩:=(H.out.ext HX3.out).form OK.out.f_at;have GB:=(H.out.ext HX3.out).blt;have GI:i < fs.length:=(List.getElem?_eq_some_iff.1 OK.out.f_at).1;have GF:=Qq g9;clear g4 g5 g7 g9;go_wp2_with fail;refine(Zs ur0 _ r.1 fi _ (Vr.out.1.ext Qz).1 ((GF.out.ext Qz)).1).mono ?_;rintro e w4 ⟨rfl,hx⟩;have HX4:=Qq (HX3.out.trans hx);have HS4:=Qq hx;clear hx;go_wp2_with fail;go_ret;exact⟨Qr (by simp only [Cf,D2.out,D3.out,D5.out] <;> rfl),HX4.out⟩
theorem Ql6 {w:World} {b:Nat} {lg:Int} {ls:List Ln} {fs:List (List Nd)} {st:List (List Int)} {i:Nat} {n:Ln} {fi:List Nd}(h:Chk w b lg ls fs st)(ok:Vb ls fs st i n fi):
 Calls Tryz.prog 191 #[.pointer (some ⟨b,0,none⟩),.int .i64 i] w fun e w'=>e=.returned (.bool (Qzz lg ls fs st i n fi))/\Ext w w':=by
 have H:=Qq h;have OK:=Qq ok;have HX0:=Qq (Ext.refl w);clear h ok;go_enter Tryz.func191,Tryz.ntmps191;go_wp2_with fail;refine(Sk (H.out.ext HX0.out) OK.out.st_ok i n OK.out.n_at OK.out.st_lt OK.out.fs_le).mono ?_;rintro e w1 ⟨ux0,rfl,hx,hf⟩;have HX1:=Qq (HX0.out.trans hx);have HS1:=Qq hx;clear hx;have HF1:=Qq hf;clear hf;cases hd:Ko ls fs st i n with
 |none =>
  have D2:=Qq hd;clear hd;go_wp2_with fail;go_ret;exact⟨Qr (by simp only [Qzz,D2.out] <;> rfl),HX1.out⟩
 |some x =>
  have D2:=Qq hd;have Vx:=Qq (HF1.out _ hd);clear hd;obtain⟨ad,c,vl,vs,Ai,ci,g1,g2,g3,g4,g5,g6,g7,g8,g9⟩:=(H.out.ext HX1.out).form OK.out.f_at;have GB:=(H.out.ext HX1.out).blt;have GI:i < fs.length:=(List.getElem?_eq_some_iff.1 OK.out.f_at).1;have GF:=Qq g9;clear g4 g5 g7 g9;go_wp2_with fail;refine(Qzt _ x _ fi _ (Vx.out.ext Qz) (GF.out.ext Qz) (OK.out.fs_ok _ (Lh D2.out OK.out.fs_le)).1).mono ?_;rintro e w2 ⟨rfl,hx⟩;have HX2:=Qq (HX1.out.trans hx);have HS2:=Qq hx;clear hx;cases hd:Lb x fi
  case false =>
   have D3:=Qq hd;clear hd;clear g1 g2 g3 g6 g8 GB GF GI;obtain⟨ad,c,vl,vs,Ai,ci,g1,g2,g3,g4,g5,g6,g7,g8,g9⟩:=(H.out.ext HX2.out).form OK.out.f_at;have GB:=(H.out.ext HX2.out).blt;have GI:i < fs.length:=(List.getElem?_eq_some_iff.1 OK.out.f_at).1;have GF:=Qq g9;clear g4 g5 g7 g9;go_wp2_with fail;refine(Qzt _ fi _ x _ (GF.out.ext Qz) (Vx.out.ext (Ext.trans Qz HS2.out)) (OK.out.fs_ok _ (List.mem_of_getElem? OK.out.f_at)).1).mono ?_;rintro e w3 ⟨rfl,hx⟩;have HX3:=Qq (HX2.out.trans hx);have HS3:=Qq hx;clear hx;go_wp2_with fail;go_ret;exact⟨Qr (by simp only [Qzz,D2.out,D3.out] <;> rfl),HX3.out⟩
  case true =>
   have D3:=Qq hd;clear hd;go_wp2_with fail;go_ret;exact⟨Qr (by simp only [Qzz,D2.out,D3.out] <;> rfl),HX2.out⟩
theorem Qdk {w:World} {b:Nat} {lg:Int} {ls:List Ln} {fs:List (List Nd)} {st:List (List Int)} {i:Nat} {n:Ln} {fi:List Nd}(h:Chk w b lg ls fs st)(ok:Vb ls fs st i n fi):
 Calls Tryz.prog 186 #[.pointer (some ⟨b,0,none⟩),.int .i64 i] w fun e w'=>e=.returned (.bool (Wn lg ls fs st i n fi))/\Ext w w':=by
 have H:=Qq h;have OK:=Qq ok;have HX0:=Qq (Ext.refl w);clear h ok;obtain⟨ad,c,vl,vs,Ai,ci,g1,g2,g3,g4,g5,g6,g7,g8,g9⟩:=H.out.form OK.out.f_at;have GB:=H.out.blt;have GI:i < fs.length:=(List.getElem?_eq_some_iff.1 OK.out.f_at).1;have GF:=Qq g9;clear g4 g5 g7 g9;cases hd:decide (n.from_.length=0)
 case false =>
  have D1:=Qq hd;have HQ:=Qq (fun nq=>Rj (H.out.ext ((Ext.refl w).drewN nq)) i n 0 OK.out.n_at);rw [hd]at HQ;clear hd;go_enter Tryz.func186,Tryz.ntmps186;go_wp2_with fail;go_quiet ((go_at_call 193;exact Calls.quiet_of (HQ.out _)));go_wp2_with fail;go_ret;exact⟨Qr (by simp only [Wn,D1.out] <;> rfl),Qz.drewN _⟩
 case true =>
  have D1:=Qq hd;clear hd;go_enter Tryz.func186,Tryz.ntmps186;go_wp2_with fail;go_region_held3 (fun w'=>w'.cell? ⟨b,2,none⟩=some (.slice (some ad) fs.length c)/\w'.cell? (ad.add i)=some (.slice Ai fi.length ci)) (first|exact⟨g6,g8⟩|exact⟨g6n,g8n⟩|exact⟨g6a,g8a⟩|exact⟨g6d,g8d⟩|go_keep) (first|(go_at_call 193;refine(Ge (by exact H.out.ext (by repeat(first|exact Qz|assumption|apply Ext.alloc|apply Ext.drew))) i n 0 OK.out.n_at).mono ?_;rintro e wn ⟨rfl,hvn⟩;rw [D1.out];have hxn:Ext w wn:=Ext.trans (by repeat(first|exact Qz|assumption|apply Ext.alloc|apply Ext.drew)) hvn;have g6n:=(hxn.cell (p:=⟨b,2,none⟩) GB).trans g6;have g8n:=(hxn.cell (p:=(ad.add i)) (Qj g3)).trans g8;clear hvn)|(go_at_call 70;refine(Li _).mono ?_;rintro e wa ⟨ua,rfl,hma⟩;have MA:=Qq hma;have hxa:Ext w wa:=Ext.trans (by repeat(first|exact Qz|assumption|apply Ext.alloc|apply Ext.drew)) hma.2.2;have g6a:=(hxa.cell (p:=⟨b,2,none⟩) GB).trans g6;have g8a:=(hxa.cell (p:=(ad.add i)) (Qj g3)).trans g8;clear hma)|(go_at_call 69;refine(Zs _ _ fi Db _ (by exact(GF.out.ext (by repeat(first|exact Qz|assumption|apply Ext.alloc|apply Ext.drew))).1) (by exact(MA.out.fml.ext (by repeat(first|exact Qz|assumption|apply Ext.alloc|apply Ext.drew))).1)).mono ?_;rintro e wd ⟨rfl,hvd⟩;have hxd:Ext w wd:=Ext.trans (by repeat(first|exact Qz|assumption|apply Ext.alloc|apply Ext.drew)) hvd;have g6d:=(hxd.cell (p:=⟨b,2,none⟩) GB).trans g6;have g8d:=(hxd.cell (p:=(ad.add i)) (Qj g3)).trans g8;clear hvd))
  all_goals
   go_wp2_with fail;go_ret;exact⟨Qr (by simp only [Wn,D1.out] <;> rfl),hxd⟩
end Go.Proofs.YtmidgcldljfkcaaGreatDoor
