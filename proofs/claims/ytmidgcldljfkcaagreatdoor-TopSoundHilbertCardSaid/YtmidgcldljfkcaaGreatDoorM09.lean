/- The rule imported: what the agent knows, kept. -/
import Derived.Test.YtmidgcldljfkcaaGreatDoorM01
import Derived.Test.YtmidgcldljfkcaaGreatDoorM07
import Derived.Test.YtmidgcldljfkcaaGreatDoorM06
import Derived.Deep.RegionHeld3
import Derived.Test.YtmidgcldljfkcaaGreatDoorM08
import Derived.Test.YtmidgcldljfkcaaGreatDoorM04
namespace Go.Proofs.YtmidgcldljfkcaaGreatDoor
set_option maxRecDepth 100000
set_option maxHeartbeats 128000000
open Go.RowKit
theorem Qgs {w:World} {b:Nat} {lg:Int} {ls:List Ln} {fs:List (List Nd)} {st:List (List Int)} {i:Nat} {n:Ln} {fi:List Nd}(h:Chk w b lg ls fs st)(ok:Vb ls fs st i n fi)(hd:decide (n.from_.length=1)=true) {r:List Int}(hw:Yl st i (Zn n 0)=some r) {o:Int}(hbs:Jv ls r= [o]) {f:List Nd}(hf:fs.getD (Zn n 0).toNat []=f) {nn:Nd}(hnn:Qt f=nn) {ag:Int}(hag:(Js ls o).agent=ag)(h9:nn.op=9)(hia:nn.i=ag)(he:eqN (Zh f nn.x) fi=false)(hkk:inL [3,4,5,6] lg=true):
 Calls Tryz.prog 189 #[.pointer (some ⟨b,0,none⟩),.int .i64 i] w fun e w'=>e=.returned (.bool (Gk lg f ag fi))/\Ext w w':=by
 have H:=Qq h;have OK:=Qq ok;have HX0:=Qq (Ext.refl w);have HD:=Qq hd;have HW:=Qq hw;have HNN:=Qq hnn;obtain⟨hr1,hr2⟩:=Fw ok.st_ok hw ok.st_lt;have HR1:=Qq hr1;have HR2:=Qq hr2;have HBM:Hid (0<=o/\o < ls.length):=Qq (hr2 o (List.mem_filter.1 (show o∈Jv ls r by rw [hbs];simp)).1);have hjr:0<=Zn n 0/\Zn n 0 < i:=by
  unfold Yl at hw
  split at hw
  ·cases hw
  omega
 obtain⟨jn,hjn⟩:=Int.eq_ofNat_of_zero_le hjr.1;rw [hjn,Int.toNat_natCast]at hf;have hji:jn < i:=by omega
 have hjf:jn < fs.length:=by have:=ok.fs_le;omega
 have hff:=getD_some (l:=fs) (d:= []) hjf;rw [hf]at hff;have HFA:=Qq hff;have hfne:=ok.fs_ok f (List.mem_of_getElem? hff);have h0L:=hfne.1;have hlast:=Xi h0L;rw [hnn]at hlast;have hwf:=hfne.2 _ _ hlast;obtain⟨on,hon⟩:=Int.eq_ofNat_of_zero_le HBM.out.1;subst hon;have hm:=Ua (ls:=ls) (o:=(on:Int)) HBM.out.1 HBM.out.2;rw [Int.toNat_natCast]at hm;have honl:on < ls.length:=by have:=HBM.out.2;omega
 have HM:=Qq hm;have HAG:=Qq hag;have HLAST:=Qq hlast;have HBS:=Qq hbs;have hkj:n.from_[0]?=some (jn:Int):=by rw [<-hjn];exact Fs (k:=0) hd (by decide)
 have HKJ:=Qq hkj;obtain⟨ad,c,vf,vs,uf,ur,hc1,hc2,hlt,d0,d1,d2,d3,q0,q1,q2,q3,q4,_,⟨Ar,cr,rfl,hir⟩⟩:=h.line ok.n_at;obtain⟨adr,rfl,hbr,hcr⟩:=hir.2.2 (by intro e;rw [e]at hkj;simp at hkj);have r0:w.cell? adr=some (.int .i64 (jn:Int)):=by simpa [Addr.add]using hcr 0 _ hkj
 have hkl:0 < n.from_.length:=(List.getElem?_eq_some_iff.1 hkj).1;have hrc:=hir.1;have hrm:=hir.2.1;unfold maxLen at hrm;have hil:i < ls.length:=(List.getElem?_eq_some_iff.1 ok.n_at).1;have hi1L:((f.length:Int) - 1) < (f.length:Int):=by omega
 have hi0L:(0:Int)<=(f.length:Int) - 1:=by omega
 have e1L:((f.length:Int) - 1).toNat=f.length - 1:=by omega
 rw [hjn]at hw;have HWJ:=Qq hw;clear h ok hd hw hbs hf hnn hag hr1 hr2 hff hfne hlast hm hkj hir hcr d2 d3 hjr hjn;go_enter Tryz.func189,Tryz.ntmps189;go_wp2_with fail;refine(Rj H.out i n 1 OK.out.n_at).mono ?_;rintro e w1 ⟨rfl,m1,hw1⟩;rw [HD.out];have hd1:∀p,w1.cell? p=w.cell? p:=fun p=>by rw [hw1];rfl
 have HX1:=Qq (show Ext w w1 by rw [hw1];exact Qz.drewN _);have hlt1:ad.block < w1.heap.size:=Qy hlt HX1.out.size;have hbr1:adr.block < w1.heap.size:=Qy hbr HX1.out.size;rw [<-hd1]at d0 d1 q0 q1 q2 q3 q4 r0;clear hw1 hd1;go_wp2_with fail;refine(Ue (H.out.ext HX1.out) i (jn:Int) OK.out.st_lt).mono ?_;rintro e w2 ⟨u,rfl,hx,hfu⟩;rw [HWJ.out];have HX2:=Qq (HX1.out.trans hx);have HU:=Qq (hfu _ HWJ.out);clear hx hfu d0 d1 q0 q1 q2 q3 q4 r0;go_wp2_with fail;refine(Uo (H.out.ext HX2.out) u r HU.out HR2.out HR1.out).mono ?_;rintro e w3 ⟨ub,rfl,hmb⟩;have hmi:=hmb.ints;rw [HBS.out]at hmi;obtain⟨Ab,cb,rfl,hbi⟩:=hmi
 have HX3:=Qq (HX2.out.trans hmb.2);have hcb:=hbi.1;have hcbm:=hbi.2.1;obtain⟨adb,hab,hbb,hcb2⟩:=hbi.2.2 (by simp);subst hab;have b0:w3.cell? adb=some (.int .i64 (on:Int)):=by simpa [Addr.add]using hcb2 0 (on:Int) (by simp)
 unfold maxLen at hcbm;clear hmb hbi hcb2;obtain⟨adl,cl,vf2,vs2,uf2,ur2,l1,l2,l3,l4,l5,l6,l7,m0,m1',m2,m3,m4,_,_⟩:=(H.out.ext HX3.out).line HM.out;obtain⟨adf,cf,vl3,vs3,Af,cF,f1,f2,f3,f4,f5,f6,f7,f8,f9⟩:=(H.out.ext HX3.out).form HFA.out;rw [HAG.out]at m3;have HF9:=Qq f9;obtain⟨⟨AL,cL,eL,hcapL,hmaxL,hreadL⟩,hokL⟩:=f9;injection eL with eL1 _ eL2;subst eL1 eL2;unfold maxLen at hmaxL;obtain⟨adL,hadL,hltL,hcellsL⟩:=hreadL (by intro e;rw [e]at h0L;simp at h0L);subst hadL;obtain⟨n0,n1,n2,n3,n4,n5⟩:=hcellsL _ _ HLAST.out;have HCL:=Qq hcellsL;clear hreadL hokL hcellsL l4 l6 l7 f4 f5 f7 m0 m1' m2 m4;have hop4b:(nn.op==4)=false:=by rw [h9];rfl
 have h9b:(nn.op==9)=true:=by rw [h9];rfl
 have hib:(nn.i==ag)=true:=by simp [hia]
 have H9t:=Qq h9b;have HIT:=Qq hib;have HE:=Qq he;have HKK:=Qq hkk;clear hkk;clear hwf h9 hia he;go_wp2_with fail;go_quiet (fail);obtain⟨w4,hw⟩:∃w',w'=w3.drewN nq:=⟨_,rfl⟩;rw [<-hw];have hd:∀p,w4.cell? p=w3.cell? p:=fun p=>by rw [hw];rfl
 have HX4:=Qq (show Ext w w4 by rw [hw];exact HX3.out.drewN _);have HS4:=Qq (show Ext w3 w4 by rw [hw];exact Qz.drewN _);rw [<-hd]at n0 n1 n2 n3 n4 n5;have hltL4:adL.block < w4.heap.size:=Qy hltL HS4.out.size;clear hw hd b0 l1 l2 l3 l5 f1 f2 f3 f6 f8 m3 hbb;go_wp2_with fail;have A0:Ext w (((w4.alloc (.cells #[.int .i64 nn.op,.int .i64 nn.i,.int .i64 nn.e,.int .i64 nn.g,.int .i64 nn.x,.int .i64 nn.y] 64)).alloc (.cells #[.int .i64 nn.op,.int .i64 nn.i,.int .i64 nn.e,.int .i64 nn.g,.int .i64 nn.x,.int .i64 nn.y] 64)).alloc (.cells #[.int .i64 5,.int .i64 6] 3)):=((HX4.out.alloc _).alloc _).alloc _
 have hk2:((w4.alloc (.cells #[.int .i64 nn.op,.int .i64 nn.i,.int .i64 nn.e,.int .i64 nn.g,.int .i64 nn.x,.int .i64 nn.y] 64)).alloc (.cells #[.int .i64 nn.op,.int .i64 nn.i,.int .i64 nn.e,.int .i64 nn.g,.int .i64 nn.x,.int .i64 nn.y] 64)).heap.size=w4.heap.size+1+1:=by simp
 have I0:Zi (((w4.alloc (.cells #[.int .i64 nn.op,.int .i64 nn.i,.int .i64 nn.e,.int .i64 nn.g,.int .i64 nn.x,.int .i64 nn.y] 64)).alloc (.cells #[.int .i64 nn.op,.int .i64 nn.i,.int .i64 nn.e,.int .i64 nn.g,.int .i64 nn.x,.int .i64 nn.y] 64)).alloc (.cells #[.int .i64 5,.int .i64 6] 3)) (.slice (some ⟨w4.heap.size+1+1,0,none⟩) 2 2) [5,6]:=by
  have h:=Fk ((w4.alloc (.cells #[.int .i64 nn.op,.int .i64 nn.i,.int .i64 nn.e,.int .i64 nn.g,.int .i64 nn.x,.int .i64 nn.y] 64)).alloc (.cells #[.int .i64 nn.op,.int .i64 nn.i,.int .i64 nn.e,.int .i64 nn.g,.int .i64 nn.x,.int .i64 nn.y] 64)) [5,6] (by decide);rw [hk2]at h;exact h
 refine(Ga (H.out.ext A0) _ [5,6] I0).mono ?_;rintro e w5 ⟨rfl,hx⟩;have A1:Ext (w4.alloc (.cells #[.int .i64 nn.op,.int .i64 nn.i,.int .i64 nn.e,.int .i64 nn.g,.int .i64 nn.x,.int .i64 nn.y] 64)) w5:=(((Ext.refl (w4.alloc (.cells #[.int .i64 nn.op,.int .i64 nn.i,.int .i64 nn.e,.int .i64 nn.g,.int .i64 nn.x,.int .i64 nn.y] 64))).alloc _).alloc _).trans hx;have A2:Ext ((w4.alloc (.cells #[.int .i64 nn.op,.int .i64 nn.i,.int .i64 nn.e,.int .i64 nn.g,.int .i64 nn.x,.int .i64 nn.y] 64)).alloc (.cells #[.int .i64 nn.op,.int .i64 nn.i,.int .i64 nn.e,.int .i64 nn.g,.int .i64 nn.x,.int .i64 nn.y] 64)) w5:=((Ext.refl ((w4.alloc (.cells #[.int .i64 nn.op,.int .i64 nn.i,.int .i64 nn.e,.int .i64 nn.g,.int .i64 nn.x,.int .i64 nn.y] 64)).alloc (.cells #[.int .i64 nn.op,.int .i64 nn.i,.int .i64 nn.e,.int .i64 nn.g,.int .i64 nn.x,.int .i64 nn.y] 64))).alloc _).trans hx
 obtain⟨⟨s0,s1,_,_,s4,_⟩,_,slt⟩:=Zg ((A1.block (by simp)).trans (heap_alloc_new w4 (.cells #[.int .i64 nn.op,.int .i64 nn.i,.int .i64 nn.e,.int .i64 nn.g,.int .i64 nn.x,.int .i64 nn.y] 64)));obtain⟨⟨t0,t1,_,_,_,_⟩,_,tlt⟩:=Zg ((A2.block (by simp)).trans (heap_alloc_new (w4.alloc (.cells #[.int .i64 nn.op,.int .i64 nn.i,.int .i64 nn.e,.int .i64 nn.g,.int .i64 nn.x,.int .i64 nn.y] 64)) (.cells #[.int .i64 nn.op,.int .i64 nn.i,.int .i64 nn.e,.int .i64 nn.g,.int .i64 nn.x,.int .i64 nn.y] 64)));have hk:(w4.alloc (.cells #[.int .i64 nn.op,.int .i64 nn.i,.int .i64 nn.e,.int .i64 nn.g,.int .i64 nn.x,.int .i64 nn.y] 64)).heap.size=w4.heap.size+1:=by simp
 rw [hk]at t0 t1 tlt;have HX5:=Qq (A0.trans hx);have HS5:=Qq (show Ext w4 w5 from((((Ext.refl w4).alloc _).alloc _).alloc _).trans hx);clear hx A0 A1 A2 I0 hk hk2 n0 n1 n2 n3 n4 n5;go_wp2_with fail;refine(Ga ((H.out.ext HX5.out).ext (Qz.alloc _)) _ [3,4,5,6] (Fk _ [3,4,5,6] (by decide))).mono ?_;rintro e w6 ⟨rfl,hx⟩;have HS6:=Qq (Ext.trans (show Ext w5 _ from Qz.alloc _) hx);have HX6:=Qq (HX5.out.trans HS6.out);have s4:=(HS6.out.cell (p:=⟨w4.heap.size,4,none⟩) slt).trans s4;have slt:=Qy slt HS6.out.size;clear hx s0 s1 t0 t1;rw [HKK.out];obtain⟨ad,c,vl,vs,Ai,ci,g1,g2,g3,g4,g5,g6,g7,g8,g9⟩:=(H.out.ext HX6.out).form OK.out.f_at
 have GB:=(H.out.ext HX6.out).blt;have GI:i < fs.length:=(List.getElem?_eq_some_iff.1 OK.out.f_at).1;have GF:=Qq g9;clear g4 g5 g7 g9;have HLW:=Qq (HF9.out.ext (Ext.trans (Ext.trans (Ext.trans Qz HS4.out) HS5.out) HS6.out));go_wp2_with fail;refine wp_region_held_drew (S:=fun w'=>w'.cell? ⟨b,2,none⟩=some (.slice (some ad) fs.length c)/\w'.cell? (ad.add i)=some (.slice Ai fi.length ci)/\w'.cell? ⟨w4.heap.size,4,none⟩=some (.int .i64 nn.x)) (by kernel_rfl) ⟨g6,g8,s4⟩ (fun hHeld=> ?_);refine' wpAnyH_take (i:=0) (v:=_) rfl (by kernel_rfl) (by kernel_rfl) (by kernel_rfl) (fun _ _ _ h=>h) (Or.inl ⟨by rfl,?hy0⟩) ⟨g6,g8,s4⟩ ?rest0
 case hy0=>(intro w' hSw;(try dsimp only at hSw);go_simp;(try with_reducible rfl))
 try simp only [Act.put,List.setIfInBounds_toArray,List.set_cons_zero,List.set_cons_succ,List.getElem_toArray,List.getElem_cons_zero]
 refine' wpAnyH_take (i:=1) (v:=_) rfl (by kernel_rfl) (by kernel_rfl) (by kernel_rfl) (fun _ _ _ h=>h) (Or.inl ⟨by rfl,?hy1⟩) ⟨g6,g8,s4⟩ ?rest1
 case hy1=>(intro w' hSw;(try dsimp only at hSw);go_simp;(try with_reducible rfl))
 try simp only [Act.put,List.setIfInBounds_toArray,List.set_cons_zero,List.set_cons_succ,List.getElem_toArray,List.getElem_cons_succ,List.getElem_cons_zero]
 refine' wpAnyH_take (i:=2) (v:=_) rfl (by kernel_rfl) (by kernel_rfl) (by kernel_rfl) (fun _ _ _ h=>h) (Or.inl ⟨by rfl,?hy2⟩) ⟨g6,g8,s4⟩ ?rest2
 case hy2=>(intro w' hSw;(try dsimp only at hSw);go_simp;(try with_reducible rfl))
 try simp only [Act.put,List.setIfInBounds_toArray,List.set_cons_zero,List.set_cons_succ,List.getElem_toArray,List.getElem_cons_succ,List.getElem_cons_zero]
 refine' wpAnyH_take (i:=4) (v:=_) rfl (by kernel_rfl) (by kernel_rfl) (by kernel_rfl) (fun _ _ _ h=>h) (Or.inl ⟨by rfl,?hy4⟩) ⟨g6,g8,s4⟩ ?rest4
 case hy4=>(intro w' hSw;(try dsimp only at hSw);go_simp;(try with_reducible rfl))
 try simp only [Act.put,List.setIfInBounds_toArray,List.set_cons_zero,List.set_cons_succ,List.getElem_toArray,List.getElem_cons_succ,List.getElem_cons_zero]
 refine' wpAnyH_take (i:=5) (v:=_) rfl (by kernel_rfl) (by kernel_rfl) (by kernel_rfl) (fun _ _ _ h=>h) (Or.inl ⟨by rfl,?hy5⟩) ⟨g6,g8,s4⟩ ?rest5
 case hy5=>(intro w' hSw;(try dsimp only at hSw);go_simp;(try with_reducible rfl))
 try simp only [Act.put,List.setIfInBounds_toArray,List.set_cons_zero,List.set_cons_succ,List.getElem_toArray,List.getElem_cons_succ,List.getElem_cons_zero]
 refine' wpAnyH_take (i:=6) (v:=_) rfl (by kernel_rfl) (by kernel_rfl) (by kernel_rfl) (fun _ _ _ h=>h) (Or.inl ⟨by rfl,?hy6⟩) ⟨g6,g8,s4⟩ ?rest6
 case hy6=>(intro w' hSw;(try dsimp only at hSw);go_simp;(try with_reducible rfl))
 try simp only [Act.put,List.setIfInBounds_toArray,List.set_cons_zero,List.set_cons_succ,List.getElem_toArray,List.getElem_cons_succ,List.getElem_cons_zero]
 refine' wpAnyH_take (i:=7) (v:=_) rfl (by kernel_rfl) (by kernel_rfl) (by kernel_rfl) (fun _ _ _ h=>h) (Or.inl ⟨by rfl,?hy7⟩) ⟨g6,g8,s4⟩ ?rest7
 case hy7=>(intro w' hSw;(try dsimp only at hSw);go_simp;(try with_reducible rfl))
 try simp only [Act.put,List.setIfInBounds_toArray,List.set_cons_zero,List.set_cons_succ,List.getElem_toArray,List.getElem_cons_succ,List.getElem_cons_zero]
 refine' wpAnyH_take (i:=8) (v:=_) rfl (by kernel_rfl) (by kernel_rfl) (by kernel_rfl) (fun _ _ _ h=>h) (Or.inl ⟨by rfl,?hy8⟩) ⟨g6,g8,s4⟩ ?rest8
 case hy8=>(intro w' hSw;(try dsimp only at hSw);go_simp;(try with_reducible rfl))
 try simp only [Act.put,List.setIfInBounds_toArray,List.set_cons_zero,List.set_cons_succ,List.getElem_toArray,List.getElem_cons_succ,List.getElem_cons_zero]
 refine' wpAnyH_take (i:=9) (v:=_) rfl (by kernel_rfl) (by kernel_rfl) (by kernel_rfl) (fun _ _ _ h=>h) (Or.inl ⟨by rfl,?hy9⟩) ⟨g6,g8,s4⟩ ?rest9
 case hy9=>(intro w' hSw;(try dsimp only at hSw);go_simp;(try with_reducible rfl))
 try simp only [Act.put,List.setIfInBounds_toArray,List.set_cons_zero,List.set_cons_succ,List.getElem_toArray,List.getElem_cons_succ,List.getElem_cons_zero]
 refine' wpAnyH_take (i:=10) (v:=_) rfl (by kernel_rfl) (by kernel_rfl) (by kernel_rfl) (fun _ _ _ h=>h) (Or.inl ⟨by rfl,?hy10⟩) ⟨g6,g8,s4⟩ ?rest10
 case hy10=>(intro w' hSw;(try dsimp only at hSw);go_simp;(try with_reducible rfl))
 try simp only [Act.put,List.setIfInBounds_toArray,List.set_cons_zero,List.set_cons_succ,List.getElem_toArray,List.getElem_cons_succ,List.getElem_cons_zero]
 refine wpAnyH_ready (rs:= [3]) (by kernel_rfl) (by simp) ?_;refine AllReadyH.cons rfl (fun K hK=> ?_) AllReadyH.nil;go_simp
 (go_at_call 43;refine(Ut _ f nn.x _ (by exact HLW.out.ext (by repeat(first|exact Qz|assumption|apply Ext.alloc|apply Ext.drew)))).mono ?_;rintro e wa ⟨ua,rfl,hma⟩;have MA:=Qq hma;have hxa:Ext w6 wa:=Ext.trans (by repeat(first|exact Qz|assumption|apply Ext.alloc|apply Ext.drew)) hma.2.2;have g6a:=(hxa.cell (p:=⟨b,2,none⟩) GB).trans g6;have g8a:=(hxa.cell (p:=(ad.add i)) (Qj g3)).trans g8;have s4a:=(hxa.cell (p:=⟨w4.heap.size,4,none⟩) slt).trans s4;clear hma)
 go_wp2_with fail;refine hK.out _ _ ⟨g6a,g8a,s4a⟩ (fun hHeld=> ?_);clear hK K hHeld
 try simp only [Act.put,List.setIfInBounds_toArray,List.set_cons_zero,List.set_cons_succ,List.getElem_toArray,List.getElem_cons_succ,List.getElem_cons_zero]
 refine wpAnyH_ready (rs:= [11]) (by kernel_rfl) (by simp) ?_;refine AllReadyH.cons rfl (fun K hK=> ?_) AllReadyH.nil;go_simp
 (go_at_call 69;refine(Zs _ _ (Zh f nn.x) fi _ (by exact(MA.out.fml.ext (by repeat(first|exact Qz|assumption|apply Ext.alloc|apply Ext.drew))).1) (by exact(GF.out.ext (by repeat(first|exact Qz|assumption|apply Ext.alloc|apply Ext.drew))).1)).mono ?_;rintro e wd ⟨rfl,hvd⟩;rw [HE.out];have hxd:Ext w6 wd:=Ext.trans (by repeat(first|exact Qz|assumption|apply Ext.alloc|apply Ext.drew)) hvd;have g6d:=(hxd.cell (p:=⟨b,2,none⟩) GB).trans g6;have g8d:=(hxd.cell (p:=(ad.add i)) (Qj g3)).trans g8;have s4d:=(hxd.cell (p:=⟨w4.heap.size,4,none⟩) slt).trans s4;clear hvd)
 go_wp2_with fail;refine hK.out _ _ ⟨g6d,g8d,s4d⟩ (fun hHeld=> ?_);clear hK K hHeld
 try simp only [Act.put,List.setIfInBounds_toArray,List.set_cons_zero,List.set_cons_succ,List.getElem_toArray,List.getElem_cons_succ,List.getElem_cons_zero]
 refine' wpAnyH_take (i:=12) (v:=_) rfl (by kernel_rfl) (by kernel_rfl) (by kernel_rfl) (fun _ _ _ h=>h) (Or.inl ⟨by rfl,?hy12⟩) ⟨g6d,g8d,s4d⟩ ?rest12
 case hy12=>(intro w' hSw;(try dsimp only at hSw);go_simp;(try with_reducible rfl))
 try simp only [Act.put,List.setIfInBounds_toArray,List.set_cons_zero,List.set_cons_succ,List.getElem_toArray,List.getElem_cons_succ,List.getElem_cons_zero]
 refine' wpAnyH_take (i:=13) (v:=_) rfl (by kernel_rfl) (by kernel_rfl) (by kernel_rfl) (fun _ _ _ h=>h) (Or.inl ⟨by rfl,?hy13⟩) ⟨g6d,g8d,s4d⟩ ?rest13
 case hy13=>(intro w' hSw;(try dsimp only at hSw);go_simp;(try with_reducible rfl))
 try simp only [Act.put,List.setIfInBounds_toArray,List.set_cons_zero,List.set_cons_succ,List.getElem_toArray,List.getElem_cons_succ,List.getElem_cons_zero]
 refine' wpAnyH_take (i:=14) (v:=_) rfl (by kernel_rfl) (by kernel_rfl) (by kernel_rfl) (fun _ _ _ h=>h) (Or.inl ⟨by rfl,?hy14⟩) ⟨g6d,g8d,s4d⟩ ?rest14
 case hy14=>(intro w' hSw;(try dsimp only at hSw);go_simp;(try with_reducible rfl))
 try simp only [Act.put,List.setIfInBounds_toArray,List.set_cons_zero,List.set_cons_succ,List.getElem_toArray,List.getElem_cons_succ,List.getElem_cons_zero]
 refine' wpAnyH_take (i:=15) (v:=_) rfl (by kernel_rfl) (by kernel_rfl) (by kernel_rfl) (fun _ _ _ h=>h) (Or.inl ⟨by rfl,?hy15⟩) ⟨g6d,g8d,s4d⟩ ?rest15
 case hy15=>(intro w' hSw;(try dsimp only at hSw);go_simp;(try with_reducible rfl))
 try simp only [Act.put,List.setIfInBounds_toArray,List.set_cons_zero,List.set_cons_succ,List.getElem_toArray,List.getElem_cons_succ,List.getElem_cons_zero]
 refine' wpAnyH_take (i:=16) (v:=_) rfl (by kernel_rfl) (by kernel_rfl) (by kernel_rfl) (fun _ _ _ h=>h) (Or.inl ⟨by rfl,?hy16⟩) ⟨g6d,g8d,s4d⟩ ?rest16
 case hy16=>(intro w' hSw;(try dsimp only at hSw);go_simp;(try with_reducible rfl))
 try simp only [Act.put,List.setIfInBounds_toArray,List.set_cons_zero,List.set_cons_succ,List.getElem_toArray,List.getElem_cons_succ,List.getElem_cons_zero]
 refine' wpAnyH_take (i:=17) (v:=_) rfl (by kernel_rfl) (by kernel_rfl) (by kernel_rfl) (fun _ _ _ h=>h) (Or.inl ⟨by rfl,?hy17⟩) ⟨g6d,g8d,s4d⟩ ?rest17
 case hy17=>(intro w' hSw;(try dsimp only at hSw);go_simp;(try with_reducible rfl))
 try simp only [Act.put,List.setIfInBounds_toArray,List.set_cons_zero,List.set_cons_succ,List.getElem_toArray,List.getElem_cons_succ,List.getElem_cons_zero]
 refine' wpAnyH_take (i:=18) (v:=_) rfl (by kernel_rfl) (by kernel_rfl) (by kernel_rfl) (fun _ _ _ h=>h) (Or.inl ⟨by rfl,?hy18⟩) ⟨g6d,g8d,s4d⟩ ?rest18
 case hy18=>(intro w' hSw;(try dsimp only at hSw);go_simp;(try with_reducible rfl))
 try simp only [Act.put,List.setIfInBounds_toArray,List.set_cons_zero,List.set_cons_succ,List.getElem_toArray,List.getElem_cons_succ,List.getElem_cons_zero]
 refine' wpAnyH_take (i:=19) (v:=_) rfl (by kernel_rfl) (by kernel_rfl) (by kernel_rfl) (fun _ _ _ h=>h) (Or.inl ⟨by rfl,?hy19⟩) ⟨g6d,g8d,s4d⟩ ?rest19
 case hy19=>(intro w' hSw;(try dsimp only at hSw);go_simp;(try with_reducible rfl))
 try simp only [Act.put,List.setIfInBounds_toArray,List.set_cons_zero,List.set_cons_succ,List.getElem_toArray,List.getElem_cons_succ,List.getElem_cons_zero]
 refine' wpAnyH_take (i:=20) (v:=_) rfl (by kernel_rfl) (by kernel_rfl) (by kernel_rfl) (fun _ _ _ h=>h) (Or.inl ⟨by rfl,?hy20⟩) ⟨g6d,g8d,s4d⟩ ?rest20
 case hy20=>(intro w' hSw;(try dsimp only at hSw);go_simp;(try with_reducible rfl))
 try simp only [Act.put,List.setIfInBounds_toArray,List.set_cons_zero,List.set_cons_succ,List.getElem_toArray,List.getElem_cons_succ,List.getElem_cons_zero]
 refine' wpAnyH_take (i:=21) (v:=_) rfl (by kernel_rfl) (by kernel_rfl) (by kernel_rfl) (fun _ _ _ h=>h) (Or.inl ⟨by rfl,?hy21⟩) ⟨g6d,g8d,s4d⟩ ?rest21
 case hy21=>(intro w' hSw;(try dsimp only at hSw);go_simp;(try with_reducible rfl))
 try simp only [Act.put,List.setIfInBounds_toArray,List.set_cons_zero,List.set_cons_succ,List.getElem_toArray,List.getElem_cons_succ,List.getElem_cons_zero]
 refine' wpAnyH_take (i:=22) (v:=_) rfl (by kernel_rfl) (by kernel_rfl) (by kernel_rfl) (fun _ _ _ h=>h) (Or.inl ⟨by rfl,?hy22⟩) ⟨g6d,g8d,s4d⟩ ?rest22
 case hy22=>(intro w' hSw;(try dsimp only at hSw);go_simp;(try with_reducible rfl))
 try simp only [Act.put,List.setIfInBounds_toArray,List.set_cons_zero,List.set_cons_succ,List.getElem_toArray,List.getElem_cons_succ,List.getElem_cons_zero]
 refine wpAnyH_ready (rs:= [23]) (by kernel_rfl) (by simp) ?_;refine AllReadyH.cons rfl (fun K hK=> ?_) AllReadyH.nil;go_simp
 (go_at_call 69;refine(Zs _ _ f fi _ (by exact(HLW.out.ext (by repeat(first|exact Qz|assumption|apply Ext.alloc|apply Ext.drew))).1) (by exact(GF.out.ext (by repeat(first|exact Qz|assumption|apply Ext.alloc|apply Ext.drew))).1)).mono ?_;rintro e wq ⟨rfl,hvq⟩;have hxq:Ext w6 wq:=Ext.trans (by repeat(first|exact Qz|assumption|apply Ext.alloc|apply Ext.drew)) hvq;have g6q:=(hxq.cell (p:=⟨b,2,none⟩) GB).trans g6;have g8q:=(hxq.cell (p:=(ad.add i)) (Qj g3)).trans g8;have s4q:=(hxq.cell (p:=⟨w4.heap.size,4,none⟩) slt).trans s4;clear hvq)
 go_wp2_with fail;refine hK.out _ _ ⟨g6q,g8q,s4q⟩ (fun hHeld=> ?_);clear hK K hHeld
 try simp only [Act.put,List.setIfInBounds_toArray,List.set_cons_zero,List.set_cons_succ,List.getElem_toArray,List.getElem_cons_succ,List.getElem_cons_zero]
 refine' wpAnyH_take (i:=24) (v:=_) rfl (by kernel_rfl) (by kernel_rfl) (by kernel_rfl) (fun _ _ _ h=>h) (Or.inl ⟨by rfl,?hy24⟩) ⟨g6q,g8q,s4q⟩ ?rest24
 case hy24=>(intro w' hSw;(try dsimp only at hSw);go_simp;(try with_reducible rfl))
 try simp only [Act.put,List.setIfInBounds_toArray,List.set_cons_zero,List.set_cons_succ,List.getElem_toArray,List.getElem_cons_succ,List.getElem_cons_zero]
 refine' wpAnyH_take (i:=25) (v:=_) rfl (by kernel_rfl) (by kernel_rfl) (by kernel_rfl) (fun _ _ _ h=>h) (Or.inl ⟨by rfl,?hy25⟩) ⟨g6q,g8q,s4q⟩ ?rest25
 case hy25=>(intro w' hSw;(try dsimp only at hSw);go_simp;(try with_reducible rfl))
 try simp only [Act.put,List.setIfInBounds_toArray,List.set_cons_zero,List.set_cons_succ,List.getElem_toArray,List.getElem_cons_succ,List.getElem_cons_zero]
 refine' wpAnyH_take (i:=26) (v:=_) rfl (by kernel_rfl) (by kernel_rfl) (by kernel_rfl) (fun _ _ _ h=>h) (Or.inl ⟨by rfl,?hy26⟩) ⟨g6q,g8q,s4q⟩ ?rest26
 case hy26=>(intro w' hSw;(try dsimp only at hSw);go_simp;(try with_reducible rfl))
 try simp only [Act.put,List.setIfInBounds_toArray,List.set_cons_zero,List.set_cons_succ,List.getElem_toArray,List.getElem_cons_succ,List.getElem_cons_zero]
 refine wpAnyH_done (by kernel_rfl) ?_ _;go_wp2_with fail;go_ret;exact⟨Qr (by simp only [Gk,HNN.out,H9t.out,HIT.out,HE.out,HKK.out] <;> rfl),HX6.out.trans hxq⟩
theorem Qxd {w:World} {b:Nat} {lg:Int} {ls:List Ln} {fs:List (List Nd)} {st:List (List Int)} {i:Nat} {n:Ln} {fi:List Nd}(h:Chk w b lg ls fs st)(ok:Vb ls fs st i n fi):
 Calls Tryz.prog 189 #[.pointer (some ⟨b,0,none⟩),.int .i64 i] w fun e w'=>e=.returned (.bool (Ex lg ls fs st i n fi))/\Ext w w':=by
 unfold Ex;cases hd:decide (n.from_.length=1)
 ·exact Qlj h ok hd
 rw [cond_true];cases hw:Yl st i (Zn n 0)with
 |none=>exact Qb7 h ok hd hw
 |some r =>
  by_cases hb:(Jv ls r).length=1
  ·obtain⟨o,hbs⟩:=List.length_eq_one_iff.1 hb;simp only [hbs];by_cases h4:(Qt (fs.getD (Zn n 0).toNat [])).op=4
   ·exact Ql2 h ok hd hw hbs rfl rfl rfl h4
   by_cases hk:(Qt (fs.getD (Zn n 0).toNat [])).op=9/\(Qt (fs.getD (Zn n 0).toNat [])).i=(Js ls o).agent
   ·cases he:eqN (Zh (fs.getD (Zn n 0).toNat []) (Qt (fs.getD (Zn n 0).toNat [])).x) fi
    ·cases hkk:inL [3,4,5,6] lg
     ·exact Qx2 h ok hd hw hbs rfl rfl rfl hk.1 hk.2 he hkk
     exact Qgs h ok hd hw hbs rfl rfl rfl hk.1 hk.2 he hkk
    exact Qde h ok hd hw hbs rfl rfl rfl hk.1 hk.2 he
   exact Qrs h ok hd hw hbs rfl rfl rfl h4 hk
  have hm:(match Jv ls r with| [o]=>Gk lg (fs.getD (Zn n 0).toNat []) (Js ls o).agent fi|_=>false)=false:=by
   generalize Jv ls r=bs at hb
   match bs,hb with
   |[],_=>rfl
   |[_],h=>exact absurd rfl h
   |_ :: _ :: _,_=>rfl
  show Calls _ _ _ _ (fun e w'=>e=.returned (.bool (match Jv ls r with| [o]=>Gk lg (fs.getD (Zn n 0).toNat []) (Js ls o).agent fi|_=>false))/\Ext w w');rw [hm];exact Qnh h ok hd hw hb
theorem Qd4 {w:World} {b:Nat} {lg:Int} {ls:List Ln} {fs:List (List Nd)} {st:List (List Int)} {i:Nat} {n:Ln} {fi:List Nd}(h:Chk w b lg ls fs st)(ok:Vb ls fs st i n fi):
 Calls Tryz.prog 192 #[.pointer (some ⟨b,0,none⟩),.int .i64 i] w fun e w'=>e=.returned (.bool (Ls lg ls fs st i n fi))/\Ext w w':=by
 have H:=Qq h;have OK:=Qq ok;have HX0:=Qq (Ext.refl w);clear h ok;go_enter Tryz.func192,Tryz.ntmps192;go_wp2_with fail;refine(Sk (H.out.ext HX0.out) OK.out.st_ok i n OK.out.n_at OK.out.st_lt OK.out.fs_le).mono ?_;rintro e w1 ⟨ux0,rfl,hx,hf⟩;have HX1:=Qq (HX0.out.trans hx);have HS1:=Qq hx;clear hx;have HF1:=Qq hf;clear hf;cases hd:Ko ls fs st i n with
 |none =>
  have D2:=Qq hd;clear hd;go_wp2_with fail;go_ret;exact⟨Qr (by simp only [Ls,D2.out] <;> rfl),HX1.out⟩
 |some x =>
  have D2:=Qq hd;have Vx:=Qq (HF1.out _ hd);clear hd;go_wp2_with fail;refine(Ga ((H.out.ext HX1.out).ext (Qz.alloc _)) _ [1,5] (Fk _ [1,5] (by decide))).mono ?_;rintro e w2 ⟨rfl,hx⟩;have HS2:=Qq (Ext.trans (show Ext w1 _ from Qz.alloc _) hx);have HX2:=Qq (HX1.out.trans HS2.out);clear hx;cases hd:inL [1,5] lg
  case false =>
   have D3:=Qq hd;clear hd;go_wp2_with fail;go_ret;exact⟨Qr (by simp only [Ls,D2.out,D3.out] <;> rfl),HX2.out⟩
  case true =>
   have D3:=Qq hd;clear hd;have hF:=Vx.out.ext (Ext.trans Qz HS2.out);have HLF:=Qq hF;obtain⟨⟨AL,cL,rfl,hcapL,hmaxL,hreadL⟩,hokL⟩:=hF;have h0L:=(OK.out.fs_ok _ (Lh D2.out OK.out.fs_le)).1;unfold maxLen at hmaxL;obtain⟨adL,rfl,hltL,hcellsL⟩:=hreadL (by intro e;rw [e]at h0L;simp at h0L);have hlast:=Xi h0L;obtain⟨n0,n1,n2,n3,n4,n5⟩:=hcellsL _ _ hlast;have hi1L:((x.length:Int) - 1) < (x.length:Int):=by omega
   have hi0L:(0:Int)<=(x.length:Int) - 1:=by omega
   have e1L:((x.length:Int) - 1).toNat=x.length - 1:=by omega
   have hniL:=(hokL _ (List.mem_of_getElem? hlast)).2.1;clear hreadL hokL hcellsL hlast;obtain⟨nn,hnn⟩:∃nn,nn=Qt x:=⟨_,rfl⟩;rw [<-hnn]at n0 n1 n2 n3 n4 n5 hniL;have HNN:=Qq hnn.symm;have HNI:=Qq hniL;clear hnn hniL;cases hd:(nn.op==9)
   case false =>
    have D4:=Qq hd;go_wp2_with fail;go_quiet (fail);go_wp2_with fail;go_ret;exact⟨Qr (by simp only [Ls,D2.out,D3.out,HNN.out,D4.out] <;> rfl),(HX2.out.alloc _).drewN _⟩
   case true =>
    have D4:=Qq hd;go_wp2_with fail;generalize hW:World.alloc w2 _=W;have hW0:Ext w2 W:=by rw [<-hW];exact Qz.alloc _
    obtain⟨⟨s0,s1,s2,s3,s4,s5⟩,sfr,slt⟩:=Zg (show W.heap[w2.heap.size]?=some (.cells #[.int .i64 nn.op,.int .i64 nn.i,.int .i64 nn.e,.int .i64 nn.g,.int .i64 nn.x,.int .i64 nn.y] 64 (0,0)) by rw [<-hW];exact heap_alloc_new _ _);clear hW;obtain⟨ad,c,vl,vs,Ai,ci,g1,g2,g3,g4,g5,g6,g7,g8,g9⟩:=((H.out.ext HX2.out).ext hW0).form OK.out.f_at;have GB:=((H.out.ext HX2.out).ext hW0).blt;have GI:i < fs.length:=(List.getElem?_eq_some_iff.1 OK.out.f_at).1;have GF:=Qq g9;have HLW:=Qq (HLF.out.ext hW0);clear g4 g5 g7 g9;go_region_held3 (fun w'=>w'.cell? ⟨b,2,none⟩=some (.slice (some ad) fs.length c)/\w'.cell? (ad.add i)=some (.slice Ai fi.length ci)/\w'.cell? ⟨w2.heap.size,0,none⟩=some (.int .i64 nn.op)/\w'.cell? ⟨w2.heap.size,1,none⟩=some (.int .i64 nn.i)/\w'.cell? ⟨w2.heap.size,4,none⟩=some (.int .i64 nn.x)) (first|exact⟨g6,g8,s0,s1,s4⟩|exact⟨g6a,g8a,s0a,s1a,s4a⟩|exact⟨g6b,g8b,s0b,s1b,s4b⟩|exact⟨g6d,g8d,s0d,s1d,s4d⟩|go_keep) (first|(go_at_call 43;refine(Ut _ x nn.x _ (by exact HLW.out.ext (by repeat(first|exact Qz|assumption|apply Ext.alloc|apply Ext.drew)))).mono ?_;rintro e wa ⟨ua,rfl,hma⟩;have MA:=Qq hma;have hxa:Ext W wa:=Ext.trans (by repeat(first|exact Qz|assumption|apply Ext.alloc|apply Ext.drew)) hma.2.2;have g6a:=(hxa.cell (p:=⟨b,2,none⟩) GB).trans g6;have g8a:=(hxa.cell (p:=(ad.add i)) (Qj g3)).trans g8;have s0a:=(hxa.cell (p:=⟨w2.heap.size,0,none⟩) slt).trans s0;have s1a:=(hxa.cell (p:=⟨w2.heap.size,1,none⟩) slt).trans s1;have s4a:=(hxa.cell (p:=⟨w2.heap.size,4,none⟩) slt).trans s4;clear hma)|(go_at_call 123;refine(Qqq nn.i HNI.out _ (Zh x nn.x) _ (by exact MA.out.fml.ext (by repeat(first|exact Qz|assumption|apply Ext.alloc|apply Ext.drew)))).mono ?_;rintro e wb ⟨ub,rfl,hmb⟩;have MB:=Qq hmb;have hxb:Ext W wb:=Ext.trans (by repeat(first|exact Qz|assumption|apply Ext.alloc|apply Ext.drew)) hmb.2.2;have g6b:=(hxb.cell (p:=⟨b,2,none⟩) GB).trans g6;have g8b:=(hxb.cell (p:=(ad.add i)) (Qj g3)).trans g8;have s0b:=(hxb.cell (p:=⟨w2.heap.size,0,none⟩) slt).trans s0;have s1b:=(hxb.cell (p:=⟨w2.heap.size,1,none⟩) slt).trans s1;have s4b:=(hxb.cell (p:=⟨w2.heap.size,4,none⟩) slt).trans s4;clear hmb)|(go_at_call 69;refine(Zs _ _ (Cr nn.i (Zh x nn.x)) fi _ (by exact(MB.out.fml.ext (by repeat(first|exact Qz|assumption|apply Ext.alloc|apply Ext.drew))).1) (by exact(GF.out.ext (by repeat(first|exact Qz|assumption|apply Ext.alloc|apply Ext.drew))).1)).mono ?_;rintro e wd ⟨rfl,hvd⟩;have hxd:Ext W wd:=Ext.trans (by repeat(first|exact Qz|assumption|apply Ext.alloc|apply Ext.drew)) hvd;have g6d:=(hxd.cell (p:=⟨b,2,none⟩) GB).trans g6;have g8d:=(hxd.cell (p:=(ad.add i)) (Qj g3)).trans g8;have s0d:=(hxd.cell (p:=⟨w2.heap.size,0,none⟩) slt).trans s0;have s1d:=(hxd.cell (p:=⟨w2.heap.size,1,none⟩) slt).trans s1;have s4d:=(hxd.cell (p:=⟨w2.heap.size,4,none⟩) slt).trans s4;clear hvd))
    all_goals
     go_wp2_with fail;go_ret;exact⟨Qr (by simp only [Ls,D2.out,D3.out,HNN.out,D4.out] <;> rfl),(HX2.out.trans hW0).trans hxd⟩
theorem Qbr {w:World} {b:Nat} {lg:Int} {ls:List Ln} {fs:List (List Nd)} {st:List (List Int)} {i:Nat} {n:Ln} {fi:List Nd}(h:Chk w b lg ls fs st)(ok:Vb ls fs st i n fi):
 Calls Tryz.prog 188 #[.pointer (some ⟨b,0,none⟩),.int .i64 i] w fun e w'=>e=.returned (.bool (Lt lg ls fs st i n fi))/\Ext w w':=by
 have H:=Qq h;have OK:=Qq ok;have HX0:=Qq (Ext.refl w);clear h ok;go_enter Tryz.func188,Tryz.ntmps188;go_wp2_with fail;refine(Ge (H.out.ext HX0.out) i n 1 OK.out.n_at).mono ?_;rintro e w1 ⟨rfl,hx⟩;have HX1:=Qq (HX0.out.trans hx);have HS1:=Qq hx;clear hx;cases hd:decide (n.from_.length=1)
 case false =>
  have D1:=Qq hd;clear hd;go_wp2_with fail;go_ret;exact⟨Qr (by simp only [Lt,D1.out] <;> rfl),HX1.out⟩
 case true =>
  have D1:=Qq hd;clear hd;have HK0:=Qq (Fs (k:=0) D1.out (by decide));go_wp2_with fail;refine(Wq (H.out.ext HX1.out) OK.out 0 (Zn n 0) HK0.out).mono ?_;rintro e w2 ⟨z,u,rfl,hx,hf⟩;have HX2:=Qq (HX1.out.trans hx);have HS2:=Qq hx;have HF:=Qq hf;clear hx hf;cases hd:Bx ls fs st i (Zn n 0)with
  |none =>
   have D2:=Qq hd;clear hd;go_wp2_with fail;go_quiet (fail);go_wp2_with fail;go_ret;exact⟨Qr (by simp only [Lt,D1.out,D2.out] <;> rfl),HX2.out.drewN _⟩
  |some r =>
   have D2:=Qq hd;have Vr:=Qq (HF.out _ hd);clear hd;obtain⟨hz,hfm⟩:=Vr.out;obtain⟨h1,h2,h3⟩:=Ej D2.out;have hzj:=hz.trans h1;have HR1:=Qq (show Js ls r.1=Js ls z by rw [hz]);obtain⟨zn,hzn⟩:=Int.eq_ofNat_of_zero_le h2;rw [hzn]at hzj h3;subst hzj;have hzi:zn < i:=by omega
   have hil:i < ls.length:=(List.getElem?_eq_some_iff.1 OK.out.n_at).1;have hfl:=OK.out.fs_le;have hm:=Ua (ls:=ls) (o:=(zn:Int)) (by omega) (by omega);rw [Int.toNat_natCast]at hm;have HFM:=Qq hfm;have hag:=OK.out.ag zn _ (by omega) hm;have hr0:(0:Int)<=(zn:Int):=by omega
   have hr1:(zn:Int) < (ls.length:Int):=by omega
   obtain⟨adl,cl,vf,vs',uf,ur,q1,q2,q3,q4,q5,q6,q7,d0,d1,d2,d3,d4,_,_⟩:=(H.out.ext HX2.out).line hm;clear hz hfm h1 h2 h3 hzn q4 q6 q7 hm;obtain⟨m,hmm⟩:∃m,Js ls (zn:Int)=m:=⟨_,rfl⟩;rw [hmm]at d1 d3 hag HR1;have HAG:=Qq hag;clear hmm hag;cases hd:(m.rule==2)
   case false =>
    have D3:=Qq hd;have GB:=(H.out.ext HX2.out).blt;go_wp2_with fail;go_quiet (fail);go_wp2_with fail;go_ret;exact⟨Qr (by simp only [Lt,D1.out,D2.out,HR1.out,D3.out] <;> rfl),HX2.out.drewN _⟩
   case true =>
    have D3:=Qq hd;obtain⟨ad,c,vl,vs,Ai,ci,g1,g2,g3,g4,g5,g6,g7,g8,g9⟩:=(H.out.ext HX2.out).form OK.out.f_at;have GB:=(H.out.ext HX2.out).blt;have GI:i < fs.length:=(List.getElem?_eq_some_iff.1 OK.out.f_at).1;have GF:=Qq g9;clear g4 g5 g7 g9;go_wp2_with fail;go_region_held3 (fun w'=>w'.cell? ⟨b,2,none⟩=some (.slice (some ad) fs.length c)/\w'.cell? (ad.add i)=some (.slice Ai fi.length ci)/\w'.cell? ⟨b,1,none⟩=some (.slice (some adl) ls.length cl)/\w'.cell? ⟨(adl.add (zn*5)).block,(adl.add (zn*5)).off+3,none⟩=some (.int .i64 m.agent)/\w'.cell? ⟨(adl.add (zn*5)).block,(adl.add (zn*5)).off+1,none⟩=some (.int .i64 m.rule)) (first|exact⟨g6,g8,q5,d3,d1⟩|exact⟨g6a,g8a,q5a,d3a,d1a⟩|exact⟨g6d,g8d,q5d,d3d,d1d⟩|go_keep) (first|(go_at_call 16;refine(Xn m.agent HAG.out _ r.2 _ (by exact HFM.out.ext (by repeat(first|exact Qz|assumption|apply Ext.alloc|apply Ext.drew)))).mono ?_;rintro e wa ⟨ua,rfl,hma⟩;have MA:=Qq hma;have hxa:Ext w2 wa:=Ext.trans (by repeat(first|exact Qz|assumption|apply Ext.alloc|apply Ext.drew)) hma.2.2;have g6a:=(hxa.cell (p:=⟨b,2,none⟩) GB).trans g6;have g8a:=(hxa.cell (p:=(ad.add i)) (Qj g3)).trans g8;have q5a:=(hxa.cell (p:=⟨b,1,none⟩) GB).trans q5;have d3a:=(hxa.cell (p:=⟨(adl.add (zn*5)).block,(adl.add (zn*5)).off+3,none⟩) (Qj q3)).trans d3;have d1a:=(hxa.cell (p:=⟨(adl.add (zn*5)).block,(adl.add (zn*5)).off+1,none⟩) (Qj q3)).trans d1;clear hma)|(go_at_call 69;refine(Zs _ _ (Yy m.agent r.2) fi _ (by exact(MA.out.fml.ext (by repeat(first|exact Qz|assumption|apply Ext.alloc|apply Ext.drew))).1) (by exact(GF.out.ext (by repeat(first|exact Qz|assumption|apply Ext.alloc|apply Ext.drew))).1)).mono ?_;rintro e wd ⟨rfl,hvd⟩;have hxd:Ext w2 wd:=Ext.trans (by repeat(first|exact Qz|assumption|apply Ext.alloc|apply Ext.drew)) hvd;have g6d:=(hxd.cell (p:=⟨b,2,none⟩) GB).trans g6;have g8d:=(hxd.cell (p:=(ad.add i)) (Qj g3)).trans g8;have q5d:=(hxd.cell (p:=⟨b,1,none⟩) GB).trans q5;have d3d:=(hxd.cell (p:=⟨(adl.add (zn*5)).block,(adl.add (zn*5)).off+3,none⟩) (Qj q3)).trans d3;have d1d:=(hxd.cell (p:=⟨(adl.add (zn*5)).block,(adl.add (zn*5)).off+1,none⟩) (Qj q3)).trans d1;clear hvd))
    all_goals
     go_wp2_with fail;go_ret;exact⟨Qr (by simp only [Lt,D1.out,D2.out,HR1.out,D3.out] <;> rfl),HX2.out.trans hxd⟩
theorem Qnc {w:World} {b:Nat} {lg:Int} {ls:List Ln} {fs:List (List Nd)} {st:List (List Int)} {i:Nat} {n:Ln} {fi:List Nd}(h:Chk w b lg ls fs st)(ok:Vb ls fs st i n fi):
 Calls Tryz.prog 180 #[.pointer (some ⟨b,0,none⟩),.int .i64 i] w fun e w'=>e=.returned (.bool (Az lg ls fs st i n fi))/\Ext w w':=by
 have H:=Qq h;have OK:=Qq ok;have HX0:=Qq (Ext.refl w);clear h ok;go_enter Tryz.func180,Tryz.ntmps180;go_wp2_with fail;refine(Ge (H.out.ext HX0.out) i n 1 OK.out.n_at).mono ?_;rintro e w1 ⟨rfl,hx⟩;have HX1:=Qq (HX0.out.trans hx);have HS1:=Qq hx;clear hx;cases hd:decide (n.from_.length=1)
 case false =>
  have D1:=Qq hd;clear hd;have OD1:Hid (Tm ls fs st i n=none):=Qq (Qg5 D1.out);go_wp2_with fail;go_ret;exact⟨Qr (by simp only [Az,OD1.out] <;> rfl),HX1.out⟩
 case true =>
  have D1:=Qq hd;clear hd;have D1p:=Qq (Qkm (ls:=ls) (fs:=fs) (st:=st) (i:=i) D1.out);go_wp2_with fail;refine(Sw (H.out.ext HX1.out) OK.out 0 (Zn n 0) D1p.out.1).mono ?_;rintro e w2 ⟨ua0,ua1,rfl,hx,hf⟩;have HX2:=Qq (HX1.out.trans hx);have HS2:=Qq hx;clear hx;have HF2:=Qq hf;clear hf;cases hd:Kg ls fs st i (Zn n 0)with
  |none =>
   have D3:=Qq hd;clear hd;have OD3:Hid (Tm ls fs st i n=none):=Qq (D1p.out.2.trans D3.out);go_wp2_with fail;go_quiet (fail);go_wp2_with fail;go_ret;exact⟨Qr (by simp only [Az,OD3.out] <;> rfl),HX2.out.drewN _⟩
  |some a =>
   have D3:=Qq hd;have Va:=Qq (HF2.out _ hd);clear hd;have OD3:Hid (Tm ls fs st i n=some a):=Qq (D1p.out.2.trans D3.out);obtain⟨ad,c,vl,vs,Ai,ci,g1,g2,g3,g4,g5,g6,g7,g8,g9⟩:=(H.out.ext HX2.out).form OK.out.f_at;have GB:=(H.out.ext HX2.out).blt;have GI:i < fs.length:=(List.getElem?_eq_some_iff.1 OK.out.f_at).1;have GF:=Qq g9;clear g4 g5 g7 g9;go_wp2_with fail;go_region_with (first|(go_at_call 17;refine(Kq _ _ a.1 a.2 _ (by exact Va.out.1.ext (by repeat(first|exact Qz|assumption|apply Ext.alloc|apply Ext.drew))) (by exact Va.out.2.ext (by repeat(first|exact Qz|assumption|apply Ext.alloc|apply Ext.drew)))).mono ?_;rintro e wa ⟨ua,rfl,hma⟩;have MA:=Qq hma;have hxa:Ext w2 wa:=Ext.trans (by repeat(first|exact Qz|assumption|apply Ext.alloc|apply Ext.drew)) hma.2.2;have g6a:=(hxa.cell (p:=⟨b,2,none⟩) GB).trans g6;have g8a:=(hxa.cell (p:=ad.add i) (Qj g3)).trans g8;clear hma)|(go_at_call 69;refine(Zs _ _ (Ya a.1 a.2) fi _ (by exact(MA.out.fml.ext (by repeat(first|exact Qz|assumption|apply Ext.alloc|apply Ext.drew))).1) (by exact(GF.out.ext (by repeat(first|exact Qz|assumption|apply Ext.alloc|apply Ext.drew))).1)).mono ?_;rintro e wb ⟨rfl,hxb⟩;have hyb:Ext w2 wb:=Ext.trans (by repeat(first|exact Qz|assumption|apply Ext.alloc|apply Ext.drew)) hxb))
   all_goals
    go_wp2_with fail;go_ret;exact⟨Qr (by simp only [Az,OD3.out] <;> rfl),HX2.out.trans hyb⟩
theorem Ij {w:World} {b:Nat} {lg:Int} {ls:List Ln} {fs:List (List Nd)} {st:List (List Int)} {i:Nat} {n:Ln} {fi:List Nd}(h:Chk w b lg ls fs st)(ok:Vb ls fs st i n fi):
 Calls Tryz.prog 199 #[.pointer (some ⟨b,0,none⟩),.int .i64 i] w fun e w'=>∃u,e=.returned (.tuple #[u,.bool (Xf ls fs st i n).isSome])/\Ext w w'/\∀r,Xf ls fs st i n=some r->Fml w' u r:=by
 have H:=Qq h;have OK:=Qq ok;have HX0:=Qq (Ext.refl w);clear h ok;go_enter Tryz.func199,Tryz.ntmps199;go_wp2_with fail;refine(Ge (H.out.ext HX0.out) i n 1 OK.out.n_at).mono ?_;rintro e w1 ⟨rfl,hx⟩;have HX1:=Qq (HX0.out.trans hx);have HS1:=Qq hx;clear hx;cases hd:decide (n.from_.length=1)
 case false =>
  have D1:=Qq hd;clear hd;have OD1:Hid (Tm ls fs st i n=none):=Qq (Qg5 D1.out);have HN:Hid (Xf ls fs st i n=none):=Qq (by simp only [Xf,OD1.out] <;> rfl);go_wp2_with fail;go_ret2;exact⟨.slice none 0 0,by rw [HN.out];rfl,HX1.out,fun r hr=>by rw [HN.out]at hr;cases hr⟩
 case true =>
  have D1:=Qq hd;clear hd;have D1p:=Qq (Qkm (ls:=ls) (fs:=fs) (st:=st) (i:=i) D1.out);go_wp2_with fail;refine(Sw (H.out.ext HX1.out) OK.out 0 (Zn n 0) D1p.out.1).mono ?_;rintro e w2 ⟨ua0,ua1,rfl,hx,hf⟩;have HX2:=Qq (HX1.out.trans hx);have HS2:=Qq hx;clear hx;have HF2:=Qq hf;clear hf;cases hd:Kg ls fs st i (Zn n 0)with
  |none =>
   have D3:=Qq hd;clear hd;have OD3:Hid (Tm ls fs st i n=none):=Qq (D1p.out.2.trans D3.out);have HN:Hid (Xf ls fs st i n=none):=Qq (by simp only [Xf,OD3.out] <;> rfl);go_wp2_with fail;go_ret2;exact⟨ua0,by rw [HN.out];rfl,HX2.out,fun r hr=>by rw [HN.out]at hr;cases hr⟩
  |some a =>
   have D3:=Qq hd;have Va:=Qq (HF2.out _ hd);clear hd;have OD3:Hid (Tm ls fs st i n=some a):=Qq (D1p.out.2.trans D3.out);go_wp2_with fail;refine(Td _).mono ?_;rintro e w3 ⟨um,rfl,hm⟩;have Mm:=Qq hm;have HX3:=Qq (HX2.out.trans hm.2.2);have HS3:=Qq hm.2.2;clear hm;go_wp2_with fail;refine(Zs ua1 _ a.2 Dv _ (Va.out.2.ext (Ext.trans Qz HS3.out)).1 (Mm.out.fml.ext Qz).1).mono ?_;rintro e w4 ⟨rfl,hx⟩;have HX4:=Qq (HX3.out.trans hx);have HS4:=Qq hx;clear hx;cases hd:eqN a.2 Dv
   case false =>
    have D4:=Qq hd;clear hd;have HN:Hid (Xf ls fs st i n=none):=Qq (by simp only [Xf,OD3.out,D4.out] <;> rfl);go_wp2_with fail;go_ret2;exact⟨ua0,by rw [HN.out];rfl,HX4.out,fun r hr=>by rw [HN.out]at hr;cases hr⟩
   case true =>
    have D4:=Qq hd;clear hd;have HN:Hid (Xf ls fs st i n=some a.1):=Qq (by simp only [Xf,OD3.out,D4.out] <;> rfl);go_wp2_with fail;go_ret2;exact⟨ua0,by rw [HN.out];rfl,HX4.out,fun r hr=>by rw [HN.out]at hr;injection hr with hr;subst hr;exact Va.out.1.ext (Ext.trans (Ext.trans Qz HS3.out) HS4.out)⟩
theorem Qn2 {w:World} {b:Nat} {lg:Int} {ls:List Ln} {fs:List (List Nd)} {st:List (List Int)} {i:Nat} {n:Ln} {fi:List Nd}(h:Chk w b lg ls fs st)(ok:Vb ls fs st i n fi):
 Calls Tryz.prog 182 #[.pointer (some ⟨b,0,none⟩),.int .i64 i] w fun e w'=>e=.returned (.bool (Qzj lg ls fs st i n fi))/\Ext w w':=by
 have H:=Qq h;have OK:=Qq ok;have HX0:=Qq (Ext.refl w);clear h ok;go_enter Tryz.func182,Tryz.ntmps182;go_wp2_with fail;refine(Ij (H.out.ext HX0.out) OK.out).mono ?_;rintro e w1 ⟨ux0,rfl,hx,hf⟩;have HX1:=Qq (HX0.out.trans hx);have HS1:=Qq hx;clear hx;have HF1:=Qq hf;clear hf;cases hd:Xf ls fs st i n with
 |none =>
  have D2:=Qq hd;clear hd;go_wp2_with fail;go_quiet (fail);go_wp2_with fail;go_ret;exact⟨Qr (by simp only [Qzj,D2.out] <;> rfl),HX1.out.drewN _⟩
 |some x =>
  have D2:=Qq hd;have Vx:=Qq (HF1.out _ hd);clear hd;obtain⟨ad,c,vl,vs,Ai,ci,g1,g2,g3,g4,g5,g6,g7,g8,g9⟩:=(H.out.ext HX1.out).form OK.out.f_at;have GB:=(H.out.ext HX1.out).blt;have GI:i < fs.length:=(List.getElem?_eq_some_iff.1 OK.out.f_at).1;have GF:=Qq g9;clear g4 g5 g7 g9;go_wp2_with fail;go_region_with (first|(go_at_call 83;refine(Gg _ x _ (by exact Vx.out.ext (by repeat(first|exact Qz|assumption|apply Ext.alloc|apply Ext.drew)))).mono ?_;rintro e wa ⟨ua,rfl,hma⟩;have MA:=Qq hma;have hxa:Ext w1 wa:=Ext.trans (by repeat(first|exact Qz|assumption|apply Ext.alloc|apply Ext.drew)) hma.2.2;have g6a:=(hxa.cell (p:=⟨b,2,none⟩) GB).trans g6;have g8a:=(hxa.cell (p:=ad.add i) (Qj g3)).trans g8;clear hma)|(go_at_call 69;refine(Zs _ _ (Vt x) fi _ (by exact(MA.out.fml.ext (by repeat(first|exact Qz|assumption|apply Ext.alloc|apply Ext.drew))).1) (by exact(GF.out.ext (by repeat(first|exact Qz|assumption|apply Ext.alloc|apply Ext.drew))).1)).mono ?_;rintro e wb ⟨rfl,hxb⟩;have hyb:Ext w1 wb:=Ext.trans (by repeat(first|exact Qz|assumption|apply Ext.alloc|apply Ext.drew)) hxb))
  all_goals
   go_wp2_with fail;go_ret;exact⟨Qr (by simp only [Qzj,D2.out] <;> rfl),HX1.out.trans hyb⟩
theorem Qdl {w:World} {b:Nat} {lg:Int} {ls:List Ln} {fs:List (List Nd)} {st:List (List Int)} {i:Nat} {n:Ln} {fi:List Nd}(h:Chk w b lg ls fs st)(ok:Vb ls fs st i n fi):
 Calls Tryz.prog 184 #[.pointer (some ⟨b,0,none⟩),.int .i64 i] w fun e w'=>e=.returned (.bool (Oq lg ls fs st i n fi))/\Ext w w':=by
 have H:=Qq h;have OK:=Qq ok;have HX0:=Qq (Ext.refl w);clear h ok;go_enter Tryz.func184,Tryz.ntmps184;go_wp2_with fail;refine(Ij (H.out.ext HX0.out) OK.out).mono ?_;rintro e w1 ⟨ux0,rfl,hx,hf⟩;have HX1:=Qq (HX0.out.trans hx);have HS1:=Qq hx;clear hx;have HF1:=Qq hf;clear hf;cases hd:Xf ls fs st i n with
 |none =>
  have D2:=Qq hd;clear hd;go_wp2_with fail;go_ret;exact⟨Qr (by simp only [Oq,D2.out] <;> rfl),HX1.out⟩
 |some x =>
  have D2:=Qq hd;have Vx:=Qq (HF1.out _ hd);clear hd;obtain⟨ad,c,vl,vs,Ai,ci,g1,g2,g3,g4,g5,g6,g7,g8,g9⟩:=(H.out.ext HX1.out).form OK.out.f_at;have GB:=(H.out.ext HX1.out).blt;have GI:i < fs.length:=(List.getElem?_eq_some_iff.1 OK.out.f_at).1;have GF:=Qq g9;clear g4 g5 g7 g9;go_wp2_with fail;refine(Gg _ fi _ (GF.out.ext Qz)).mono ?_;rintro e w2 ⟨um,rfl,hm⟩;have Mm:=Qq hm;have HX2:=Qq (HX1.out.trans hm.2.2);have HS2:=Qq hm.2.2;clear hm;go_wp2_with fail;refine(Zs _ ux0 (Vt fi) x _ (Mm.out.fml.ext Qz).1 (Vx.out.ext (Ext.trans Qz HS2.out)).1).mono ?_;rintro e w3 ⟨rfl,hx⟩;have HX3:=Qq (HX2.out.trans hx)
  have HS3:=Qq hx;clear hx;go_wp2_with fail;go_ret;exact⟨Qr (by simp only [Oq,D2.out] <;> rfl),HX3.out⟩
end Go.Proofs.YtmidgcldljfkcaaGreatDoor
