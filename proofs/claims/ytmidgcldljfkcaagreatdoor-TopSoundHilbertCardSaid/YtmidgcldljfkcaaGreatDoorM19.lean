/- natural's push, at the first line. -/
import Derived.Test.YtmidgcldljfkcaaGreatDoorM01
import Derived.Test.YtmidgcldljfkcaaGreatDoorM18
namespace Go.Proofs.YtmidgcldljfkcaaGreatDoor
set_option maxRecDepth 100000
set_option maxHeartbeats 128000000
open Go.RowKit
theorem Qdd {w0 w:World} {bw:Nat} {lg:Int} {vl vf vs:Value} {ls:List Ln} {fs:List (List Nd)}(h:Kf w0 w bw lg vl vf vs ls fs [])(n:Ln)(hi:ls[0]?=some n):
 Calls Tryz.prog 41 #[.pointer (some ⟨bw,0,none⟩)] w (Kc w0 w bw lg vl vf vs ls fs [] n):=by
 obtain⟨ss,hs,hv⟩:=h.srow;obtain⟨k0,k1,k2,k3,kfr,klt⟩:=Bn h.blk;obtain⟨As,cs0,hvs⟩:=Zq hs;subst hvs;rw [List.length_nil]at k3;have HBL:Hid (Yx []= []):=Qq rfl;have HI:Hid (Dw w none 0 []):=Qq ⟨Nat.le_refl _,by unfold maxLen;omega,fun h=>absurd rfl h⟩;have HFREE:Hid (Gq w bw vf (.slice As 0 cs0) (.slice none 0 0)):=Qq (Gq.none_ _ _ _ _);clear k0 k1 k2;obtain⟨ad,c,vf',vs',uf,ur,hc1,hc2,hlt,d0,d1,d2,d3,q0,q1,q2,q3,q4,_,_⟩:=h.chk.line hi;have hil:0 < ls.length:=(List.getElem?_eq_some_iff.1 hi).1;have q0:w.cell? ad=some (.int .i64 n.depth):=by simpa [Addr.add]using q0
 have H:=Qq h;have HOP:=Qq (Mp h.chk 0 n hi);have HROW:=Qq hs;have HV:=Qq hv;obtain⟨iI,hiI,hzI0,hzI1,hzI2⟩:=info_parts Qsi;obtain⟨i3,hi3',hz30,hz31,hz32⟩:=info_parts Qq8;have hbase:w0.heap.size<=w.heap.size:=h.ext.size;have hc3:0+1<=maxLen:=by unfold maxLen;omega
 have hc4:(0+1)*24<=140737488355328:=by omega
 clear h hs hv hi d0 d2 d3;cases ho:Kk n
 case false =>
  have HO:=Qq ho;by_cases hbad:n.depth < 0\/(0:Int) < n.depth
  ·have HP:=Qq (Cb (st:= []) ho (by rw [HBL.out];simpa using hbad));by_cases hb1:n.depth < 0
   ·clear hbad ho;go_enter Tryz.func41,Tryz.ntmps41;go_wp2_with fail;refine HOP.out.mono ?_;rintro e w1 ⟨rfl,hx⟩;rw [HO.out];have HX:=Qq hx;have k3w:=(hx.cell (p:=⟨bw,3,none⟩) klt).trans k3;have kfw:=(hx.frozen (p:=⟨bw,3,none⟩) klt).trans (kfr 3);have kltw:bw < w1.heap.size:=Qy klt hx.size;clear hx;go_wp2_with fail;go_ret;exact Kc.no HP.out rfl HX.out
   have hb2:(0:Int) < n.depth:=by omega
   clear hbad ho;go_enter Tryz.func41,Tryz.ntmps41;go_wp2_with fail;refine HOP.out.mono ?_;rintro e w1 ⟨rfl,hx⟩;rw [HO.out];have HX:=Qq hx;have k3w:=(hx.cell (p:=⟨bw,3,none⟩) klt).trans k3;have kfw:=(hx.frozen (p:=⟨bw,3,none⟩) klt).trans (kfr 3);have kltw:bw < w1.heap.size:=Qy klt hx.size;clear hx;go_wp2_with fail;go_ret;exact Kc.no HP.out rfl HX.out
  obtain⟨d,hd⟩:∃d:Nat,n.depth=(d:Int):=⟨n.depth.toNat,by omega⟩;have hdl:d<=0:=by omega
  obtain rfl:d=0:=by omega
  have HP:=Qq (Qzk (st:= []) ho hd (by rw [HBL.out];simp));have HT:=Qq (Zi.take3 HI.out (n:=0) (by simp));rw [hd]at q0;have hn0:¬(0:Int) < 0:=by omega
  have hn1:(0:Int)<=(0:Int):=by omega
  have hn2:0<=0:=by omega
  have hn3:(0:Int)<=(0:Int):=by omega
  clear hbad ho hd;go_enter Tryz.func41,Tryz.ntmps41;go_wp2_with fail;refine HOP.out.mono ?_;rintro e w1 ⟨rfl,hx⟩;rw [HO.out];have HX:=Qq hx;have k3w:=(hx.cell (p:=⟨bw,3,none⟩) klt).trans k3;have kfw:=(hx.frozen (p:=⟨bw,3,none⟩) klt).trans (kfr 3);have kltw:bw < w1.heap.size:=Qy klt hx.size;clear hx;go_wp2_with fail;go_region_law (refine Ka rfl (.tmp 71) (.tmp 76) 91 rfl w0.heap.size 60 iI (.slice none 0 0) 1 24 Tryz.underlying91 hiI hzI0 hzI1 hzI2 rfl (by decide) (.slice As 0 cs0) 0 ss (by simp [Act.eval]) (Jt HROW.out (Ext.trans HX.out (by repeat(first|exact Qz|assumption|apply Ext.alloc|apply Ext.drew)))) ⟨_,0,none⟩ 1 1 [.slice none 0 0] (by simp [Act.eval];rfl) rfl (Yv _ _ _ (by simp)) (fun u hu=>by rw [List.mem_singleton.1 hu];rfl) hc3 hc4 (Qx hbase (Ext.size (a:=w) (Ext.trans HX.out (by repeat(first|exact Qz|assumption|apply Ext.alloc|apply Ext.drew))))) ?_;intro v' w4 hown4 hgrow4 hat4;have HPS:=Qq (Kf.pushS2 H.out (Ext.trans HX.out (by repeat(first|exact Qz|assumption|apply Ext.alloc|apply Ext.drew))) HROW.out HV.out hown4 hgrow4 hat4 (HT.out.ext (Ext.trans HX.out (by repeat(first|exact Qz|assumption|apply Ext.alloc|apply Ext.drew)))) ((HFREE.out.of_ints).ext (Ext.trans HX.out (by repeat(first|exact Qz|assumption|apply Ext.alloc|apply Ext.drew)))));have kb:=Rf (H.out.ext_ HX.out).blk H.out.sne (by repeat(first|exact Qz|assumption|apply Ext.alloc|apply Ext.drew)) hgrow4;obtain⟨z0,z1,z2,z3,zfr,zlt⟩:=Bn kb;obtain⟨A4,c4,hv4⟩:=Zq hown4;subst hv4;clear hown4 hgrow4 hat4 kb)
  all_goals
   go_wp2_with fail;go_ret;exact Kc.yes (by rw [HP.out,HBL.out] <;> rfl) rfl HPS.out.1 HPS.out.2.1 HPS.out.2.2
 case true =>
  have HO:=Qq ho;by_cases hbad:n.depth < 1\/(0:Int)+1 < n.depth
  ·have HP:=Qq (He (st:= []) ho (by rw [HBL.out];simpa using hbad));by_cases hb1:n.depth < 1
   ·clear hbad ho;go_enter Tryz.func41,Tryz.ntmps41;go_wp2_with fail;refine HOP.out.mono ?_;rintro e w1 ⟨rfl,hx⟩;rw [HO.out];have HX:=Qq hx;have k3w:=(hx.cell (p:=⟨bw,3,none⟩) klt).trans k3;have kfw:=(hx.frozen (p:=⟨bw,3,none⟩) klt).trans (kfr 3);have kltw:bw < w1.heap.size:=Qy klt hx.size;clear hx;go_wp2_with fail;go_ret;exact Kc.no HP.out rfl HX.out
   have hb2:(0:Int)+1 < n.depth:=by omega
   clear hbad ho;go_enter Tryz.func41,Tryz.ntmps41;go_wp2_with fail;refine HOP.out.mono ?_;rintro e w1 ⟨rfl,hx⟩;rw [HO.out];have HX:=Qq hx;have k3w:=(hx.cell (p:=⟨bw,3,none⟩) klt).trans k3;have kfw:=(hx.frozen (p:=⟨bw,3,none⟩) klt).trans (kfr 3);have kltw:bw < w1.heap.size:=Qy klt hx.size;clear hx;go_wp2_with fail;go_ret;exact Kc.no HP.out rfl HX.out
  obtain⟨d,hd⟩:∃d:Nat,n.depth=(d:Int)+1:=⟨(n.depth - 1).toNat,by omega⟩;have hdl:d<=0:=by omega
  obtain rfl:d=0:=by omega
  have HP:=Qq (Qj8 (st:= []) ho hd (by rw [HBL.out];simp));have HT:=Qq (Zi.take_ HI.out (n:=0) (by simp));have HTL:=Qq (show(([]:List Int).take 0).length=0 by simp);rw [hd]at q0;have hn0:¬(0:Int)+1 < 1:=by omega
  have hn1:(0:Int)+1<=(0:Int)+1:=by omega
  have hn2:0<=0:=by omega
  have hn3:(0:Int)<=(0:Int):=by omega
  have hn4:((0:Int)+1 - 1)=(0:Int):=by omega
  have hwr:IntKind.i64.wrap (0:Int)=(0:Int):=by rw [IntKind.wrap_i64];omega
  have hdb:0+1<=maxLen:=by unfold maxLen;omega
  have hdc:(0+1)*8<=140737488355328:=by omega
  clear hbad ho hd;go_enter Tryz.func41,Tryz.ntmps41;go_wp2_with fail;refine HOP.out.mono ?_;rintro e w1 ⟨rfl,hx⟩;rw [HO.out];have HX:=Qq hx;have k3w:=(hx.cell (p:=⟨bw,3,none⟩) klt).trans k3;have kfw:=(hx.frozen (p:=⟨bw,3,none⟩) klt).trans (kfr 3);have kltw:bw < w1.heap.size:=Qy klt hx.size;clear hx;go_wp2_with fail;go_region_law (first|(go_simp;go_at_call 68;refine(Qyp _ (([]:List Int).take 0) _ (by exact HT.out.ext (Ext.trans HX.out (by repeat(first|exact Qz|assumption|apply Ext.alloc|apply Ext.drew)))) (by rw [HTL.out];omega)).mono ?_;rintro e wc ⟨uc,rfl,hmc⟩;obtain⟨Ac,cc,huc⟩:=Zq hmc.1;rw [HTL.out]at huc;subst huc;have MC:=Qq hmc;have hxc:Ext w1 wc:=Ext.trans (by repeat(first|exact Qz|assumption|apply Ext.alloc|apply Ext.drew)) hmc.2;have k3c:=(hxc.cell (p:=⟨bw,3,none⟩) kltw).trans k3w;have kltc:bw < wc.heap.size:=Qy kltw hxc.size;clear hmc)|(refine Ka rfl (.tmp 51) (.tmp 53) 60 rfl _ 3 i3 (.int .i64 0) 1 8 Tryz.underlying60 hi3' hz30 hz31 hz32 rfl (by decide) (.slice Ac 0 cc) 0 ((([]:List Int).take 0).map (Value.int .i64)) (by simp [Act.eval]) (Jt (by have h:=MC.out.1;rw [HTL.out]at h;exact h) (by repeat(first|exact Qz|assumption|apply Ext.alloc|apply Ext.drew))) ⟨_,0,none⟩ 1 1 [.int .i64 (0:Int)] (by simp [Act.eval];rfl) rfl (by first|exact Yv _ _ _ (by simp)|exact fun j u hu=>(MC.out.2.cell (by rw [Qn];simp)).trans (Yv w1 #[.int .i64 (0:Int)] 3 rfl j u hu)) (fun u hu=>by rw [List.mem_singleton.1 hu];rfl) hdb hdc (Qx MC.out.2.size (Ext.size (by repeat(first|exact Qz|assumption|apply Ext.alloc|apply Ext.drew)))) ?_;intro v5 w5 hown5 hgrow5 hat5;obtain⟨A5,c5,hv5⟩:=Zq hown5;subst hv5;have hx5:Ext w1 w5:=Ext.grown (Ext.trans hxc (by repeat(first|exact Qz|assumption|apply Ext.alloc|apply Ext.drew))) hgrow5 (fun g hg=>Qx (Ext.size (by repeat(first|exact Qz|assumption|apply Ext.alloc|apply Ext.drew))) (MC.out.1.lt g hg).1);have HR5:=Qq hown5;have k3d:=(hx5.cell (p:=⟨bw,3,none⟩) kltw).trans k3w;have kltd:bw < w5.heap.size:=Qy kltw hx5.size;clear hown5 hgrow5 hat5)|(refine Ka rfl (.tmp 46) (.tmp 55) 91 rfl w0.heap.size 60 iI (.slice none 0 0) 1 24 Tryz.underlying91 hiI hzI0 hzI1 hzI2 rfl (by decide) (.slice As 0 cs0) 0 ss (by simp [Act.eval]) (Jt HROW.out (Ext.trans HX.out (by repeat(first|exact Qz|assumption|apply Ext.alloc|apply Ext.drew)))) ⟨_,0,none⟩ 1 1 [.slice A5 (0+1) c5] (by simp [Act.eval];rfl) rfl (Yv _ _ _ (by simp)) (fun u hu=>by rw [List.mem_singleton.1 hu];rfl) hc3 hc4 (Qx hbase (Ext.size (a:=w) (Ext.trans HX.out (by repeat(first|exact Qz|assumption|apply Ext.alloc|apply Ext.drew))))) ?_;intro v' w4 hown4 hgrow4 hat4;have HPS:=Qq (Kf.pushS2 H.out (Ext.trans HX.out (by repeat(first|exact Qz|assumption|apply Ext.alloc|apply Ext.drew))) HROW.out HV.out hown4 hgrow4 hat4 ((Tq (l:=([]:List Int).take 0++ [(0:Int)]) (by have h:=HR5.out;simpa [HTL.out]using h)).ext (by repeat(first|exact Qz|assumption|apply Ext.alloc|apply Ext.drew))) ((Kf.free_new (w':=w5) (H.out.ext_ HX.out) (fun g hg=>⟨Qx (Ext.size (by repeat(first|exact Qz|assumption|apply Ext.alloc|apply Ext.drew))) (HR5.out.lt g hg).1,(HR5.out.lt g hg).2⟩)).ext (by repeat(first|exact Qz|assumption|apply Ext.alloc|apply Ext.drew))));have kb:=Rf (H.out.ext_ HX.out).blk H.out.sne (by repeat(first|exact Qz|assumption|apply Ext.alloc|apply Ext.drew)) hgrow4;obtain⟨z0,z1,z2,z3,zfr,zlt⟩:=Bn kb;obtain⟨A4,c4,hv4⟩:=Zq hown4;subst hv4;clear hown4 hgrow4 hat4 kb))
  all_goals
   go_wp2_with fail;go_ret;exact Kc.yes (by rw [HP.out,HBL.out] <;> rfl) rfl HPS.out.1 HPS.out.2.1 HPS.out.2.2
theorem Qt6 {w0 w:World} {bw:Nat} {lg:Int} {vl vf vs:Value} {ls:List Ln} {fs:List (List Nd)} {st:List (List Int)}(h:Kf w0 w bw lg vl vf vs ls fs st)(n:Ln)(hi:ls[st.length]?=some n)(hlen:st.length<=400)(hbl:(Yx st).length<=400):
 Calls Tryz.prog 41 #[.pointer (some ⟨bw,0,none⟩)] w (Kc w0 w bw lg vl vf vs ls fs st n):=by
 cases st with
 |nil=>exact Qdd h n hi
 |cons a t=>exact Qsg h n hi (Nat.succ_pos _) hlen hbl
end Go.Proofs.YtmidgcldljfkcaaGreatDoor
