/- The rule imported: another formula. -/
import Derived.Test.YtmidgcldljfkcaaGreatDoorM01
import Derived.Test.YtmidgcldljfkcaaGreatDoorM07
import Derived.Test.YtmidgcldljfkcaaGreatDoorM06
import Derived.Deep.RegionHeld3
namespace Go.Proofs.YtmidgcldljfkcaaGreatDoor
set_option maxRecDepth 100000
set_option maxHeartbeats 128000000
open Go.RowKit
theorem Qrs {w:World} {b:Nat} {lg:Int} {ls:List Ln} {fs:List (List Nd)} {st:List (List Int)} {i:Nat} {n:Ln} {fi:List Nd}(h:Chk w b lg ls fs st)(ok:Vb ls fs st i n fi)(hd:decide (n.from_.length=1)=true) {r:List Int}(hw:Yl st i (Zn n 0)=some r) {o:Int}(hbs:Jv ls r= [o]) {f:List Nd}(hf:fs.getD (Zn n 0).toNat []=f) {nn:Nd}(hnn:Qt f=nn) {ag:Int}(hag:(Js ls o).agent=ag)(hop4:nn.op≠4)(hk:¬(nn.op=9/\nn.i=ag)):
 Calls Tryz.prog 189 #[.pointer (some ⟨b,0,none⟩),.int .i64 i] w fun e w'=>e=.returned (.bool (Gk lg f ag fi))/\Ext w w':=by
 have H:=Qq h;have OK:=Qq ok;have HX0:=Qq (Ext.refl w);have HD:=Qq hd;have HW:=Qq hw;have HNN:=Qq hnn;obtain⟨hr1,hr2⟩:=Fw ok.st_ok hw ok.st_lt;have HR1:=Qq hr1;have HR2:=Qq hr2;have HBM:Hid (0<=o/\o < ls.length):=Qq (hr2 o (List.mem_filter.1 (show o∈Jv ls r by rw [hbs];simp)).1);have hjr:0<=Zn n 0/\Zn n 0 < i:=by
  unfold Yl at hw
  split at hw
  ·cases hw
  omega
 obtain⟨jn,hjn⟩:=Int.eq_ofNat_of_zero_le hjr.1;rw [hjn,Int.toNat_natCast]at hf;have hji:jn < i:=by omega
 have hjf:jn < fs.length:=by have:=ok.fs_le;omega
 have hff:=getD_some (l:=fs) (d:= []) hjf;rw [hf]at hff;have HFA:=Qq hff;have hfne:=ok.fs_ok f (List.mem_of_getElem? hff);have h0L:=hfne.1;have hlast:=Xi h0L;rw [hnn]at hlast;have hwf:=hfne.2 _ _ hlast;obtain⟨on,hon⟩:=Int.eq_ofNat_of_zero_le HBM.out.1;subst hon;have hm:=Ua (ls:=ls) (o:=(on:Int)) HBM.out.1 HBM.out.2;rw [Int.toNat_natCast]at hm;have honl:on < ls.length:=by have:=HBM.out.2;omega
 have HM:=Qq hm;have HAG:=Qq hag;have HLAST:=Qq hlast;have HBS:=Qq hbs;have hkj:n.from_[0]?=some (jn:Int):=by rw [<-hjn];exact Fs (k:=0) hd (by decide)
 have HKJ:=Qq hkj;obtain⟨ad,c,vf,vs,uf,ur,hc1,hc2,hlt,d0,d1,d2,d3,q0,q1,q2,q3,q4,_,⟨Ar,cr,rfl,hir⟩⟩:=h.line ok.n_at;obtain⟨adr,rfl,hbr,hcr⟩:=hir.2.2 (by intro e;rw [e]at hkj;simp at hkj);have r0:w.cell? adr=some (.int .i64 (jn:Int)):=by simpa [Addr.add]using hcr 0 _ hkj
 have hkl:0 < n.from_.length:=(List.getElem?_eq_some_iff.1 hkj).1;have hrc:=hir.1;have hrm:=hir.2.1;unfold maxLen at hrm;have hil:i < ls.length:=(List.getElem?_eq_some_iff.1 ok.n_at).1;have hi1L:((f.length:Int) - 1) < (f.length:Int):=by omega
 have hi0L:(0:Int)<=(f.length:Int) - 1:=by omega
 have e1L:((f.length:Int) - 1).toNat=f.length - 1:=by omega
 rw [hjn]at hw;have HWJ:=Qq hw;clear h ok hd hw hbs hf hnn hag hr1 hr2 hff hfne hlast hm hkj hir hcr d2 d3 hjr hjn;go_enter Tryz.func189,Tryz.ntmps189;go_wp2_with fail;refine(Rj H.out i n 1 OK.out.n_at).mono ?_;rintro e w1 ⟨rfl,m1,hw1⟩;rw [HD.out];have hd1:∀p,w1.cell? p=w.cell? p:=fun p=>by rw [hw1];rfl
 have HX1:=Qq (show Ext w w1 by rw [hw1];exact Qz.drewN _);have hlt1:ad.block < w1.heap.size:=Qy hlt HX1.out.size;have hbr1:adr.block < w1.heap.size:=Qy hbr HX1.out.size;rw [<-hd1]at d0 d1 q0 q1 q2 q3 q4 r0;clear hw1 hd1;go_wp2_with fail;refine(Ue (H.out.ext HX1.out) i (jn:Int) OK.out.st_lt).mono ?_;rintro e w2 ⟨u,rfl,hx,hfu⟩;rw [HWJ.out];have HX2:=Qq (HX1.out.trans hx);have HU:=Qq (hfu _ HWJ.out);clear hx hfu d0 d1 q0 q1 q2 q3 q4 r0;go_wp2_with fail;refine(Uo (H.out.ext HX2.out) u r HU.out HR2.out HR1.out).mono ?_;rintro e w3 ⟨ub,rfl,hmb⟩;have hmi:=hmb.ints;rw [HBS.out]at hmi;obtain⟨Ab,cb,rfl,hbi⟩:=hmi
 have HX3:=Qq (HX2.out.trans hmb.2);have hcb:=hbi.1;have hcbm:=hbi.2.1;obtain⟨adb,hab,hbb,hcb2⟩:=hbi.2.2 (by simp);subst hab;have b0:w3.cell? adb=some (.int .i64 (on:Int)):=by simpa [Addr.add]using hcb2 0 (on:Int) (by simp)
 unfold maxLen at hcbm;clear hmb hbi hcb2;obtain⟨adl,cl,vf2,vs2,uf2,ur2,l1,l2,l3,l4,l5,l6,l7,m0,m1',m2,m3,m4,_,_⟩:=(H.out.ext HX3.out).line HM.out;obtain⟨adf,cf,vl3,vs3,Af,cF,f1,f2,f3,f4,f5,f6,f7,f8,f9⟩:=(H.out.ext HX3.out).form HFA.out;rw [HAG.out]at m3;have HF9:=Qq f9;obtain⟨⟨AL,cL,eL,hcapL,hmaxL,hreadL⟩,hokL⟩:=f9;injection eL with eL1 _ eL2;subst eL1 eL2;unfold maxLen at hmaxL;obtain⟨adL,hadL,hltL,hcellsL⟩:=hreadL (by intro e;rw [e]at h0L;simp at h0L);subst hadL;obtain⟨n0,n1,n2,n3,n4,n5⟩:=hcellsL _ _ HLAST.out;have HCL:=Qq hcellsL;clear hreadL hokL hcellsL l4 l6 l7 f4 f5 f7 m0 m1' m2 m4;have hop4b:(nn.op==4)=false:=by simpa using hop4
 have HK:=Qq hk;clear hk hwf;go_wp2_with fail;go_quiet (fail);obtain⟨w4,hw⟩:∃w',w'=w3.drewN nq:=⟨_,rfl⟩;rw [<-hw];have hd:∀p,w4.cell? p=w3.cell? p:=fun p=>by rw [hw];rfl
 have HX4:=Qq (show Ext w w4 by rw [hw];exact HX3.out.drewN _);have HS4:=Qq (show Ext w3 w4 by rw [hw];exact Qz.drewN _);rw [<-hd]at n0 n1 n2 n3 n4 n5;have hltL4:adL.block < w4.heap.size:=Qy hltL HS4.out.size;clear hw hd b0 l1 l2 l3 l5 f1 f2 f3 f6 f8 m3 hbb;go_wp2_with fail;have A0:Ext w (((w4.alloc (.cells #[.int .i64 nn.op,.int .i64 nn.i,.int .i64 nn.e,.int .i64 nn.g,.int .i64 nn.x,.int .i64 nn.y] 64)).alloc (.cells #[.int .i64 nn.op,.int .i64 nn.i,.int .i64 nn.e,.int .i64 nn.g,.int .i64 nn.x,.int .i64 nn.y] 64)).alloc (.cells #[.int .i64 5,.int .i64 6] 3)):=((HX4.out.alloc _).alloc _).alloc _
 have hk2:((w4.alloc (.cells #[.int .i64 nn.op,.int .i64 nn.i,.int .i64 nn.e,.int .i64 nn.g,.int .i64 nn.x,.int .i64 nn.y] 64)).alloc (.cells #[.int .i64 nn.op,.int .i64 nn.i,.int .i64 nn.e,.int .i64 nn.g,.int .i64 nn.x,.int .i64 nn.y] 64)).heap.size=w4.heap.size+1+1:=by simp
 have I0:Zi (((w4.alloc (.cells #[.int .i64 nn.op,.int .i64 nn.i,.int .i64 nn.e,.int .i64 nn.g,.int .i64 nn.x,.int .i64 nn.y] 64)).alloc (.cells #[.int .i64 nn.op,.int .i64 nn.i,.int .i64 nn.e,.int .i64 nn.g,.int .i64 nn.x,.int .i64 nn.y] 64)).alloc (.cells #[.int .i64 5,.int .i64 6] 3)) (.slice (some ⟨w4.heap.size+1+1,0,none⟩) 2 2) [5,6]:=by
  have h:=Fk ((w4.alloc (.cells #[.int .i64 nn.op,.int .i64 nn.i,.int .i64 nn.e,.int .i64 nn.g,.int .i64 nn.x,.int .i64 nn.y] 64)).alloc (.cells #[.int .i64 nn.op,.int .i64 nn.i,.int .i64 nn.e,.int .i64 nn.g,.int .i64 nn.x,.int .i64 nn.y] 64)) [5,6] (by decide);rw [hk2]at h;exact h
 refine(Ga (H.out.ext A0) _ [5,6] I0).mono ?_;rintro e w5 ⟨rfl,hx⟩;have A1:Ext (w4.alloc (.cells #[.int .i64 nn.op,.int .i64 nn.i,.int .i64 nn.e,.int .i64 nn.g,.int .i64 nn.x,.int .i64 nn.y] 64)) w5:=(((Ext.refl (w4.alloc (.cells #[.int .i64 nn.op,.int .i64 nn.i,.int .i64 nn.e,.int .i64 nn.g,.int .i64 nn.x,.int .i64 nn.y] 64))).alloc _).alloc _).trans hx;have A2:Ext ((w4.alloc (.cells #[.int .i64 nn.op,.int .i64 nn.i,.int .i64 nn.e,.int .i64 nn.g,.int .i64 nn.x,.int .i64 nn.y] 64)).alloc (.cells #[.int .i64 nn.op,.int .i64 nn.i,.int .i64 nn.e,.int .i64 nn.g,.int .i64 nn.x,.int .i64 nn.y] 64)) w5:=((Ext.refl ((w4.alloc (.cells #[.int .i64 nn.op,.int .i64 nn.i,.int .i64 nn.e,.int .i64 nn.g,.int .i64 nn.x,.int .i64 nn.y] 64)).alloc (.cells #[.int .i64 nn.op,.int .i64 nn.i,.int .i64 nn.e,.int .i64 nn.g,.int .i64 nn.x,.int .i64 nn.y] 64))).alloc _).trans hx
 obtain⟨⟨s0,s1,_,_,s4,_⟩,_,slt⟩:=Zg ((A1.block (by simp)).trans (heap_alloc_new w4 (.cells #[.int .i64 nn.op,.int .i64 nn.i,.int .i64 nn.e,.int .i64 nn.g,.int .i64 nn.x,.int .i64 nn.y] 64)));obtain⟨⟨t0,t1,_,_,_,_⟩,_,tlt⟩:=Zg ((A2.block (by simp)).trans (heap_alloc_new (w4.alloc (.cells #[.int .i64 nn.op,.int .i64 nn.i,.int .i64 nn.e,.int .i64 nn.g,.int .i64 nn.x,.int .i64 nn.y] 64)) (.cells #[.int .i64 nn.op,.int .i64 nn.i,.int .i64 nn.e,.int .i64 nn.g,.int .i64 nn.x,.int .i64 nn.y] 64)));have hk:(w4.alloc (.cells #[.int .i64 nn.op,.int .i64 nn.i,.int .i64 nn.e,.int .i64 nn.g,.int .i64 nn.x,.int .i64 nn.y] 64)).heap.size=w4.heap.size+1:=by simp
 rw [hk]at t0 t1 tlt;have HX5:=Qq (A0.trans hx);have HS5:=Qq (show Ext w4 w5 from((((Ext.refl w4).alloc _).alloc _).alloc _).trans hx);clear hx A0 A1 A2 I0 hk hk2 n0 n1 n2 n3 n4 n5;have H4f:=Qq hop4b;cases hd:(nn.op==9)
 case false =>
  have D1:=Qq hd;cases hd:(nn.op==10)
  case false =>
   have D2:=Qq hd;go_wp2_with fail;go_ret;exact⟨Qr (by simp only [Gk,HNN.out,D1.out,D2.out,H4f.out] <;> rfl),HX5.out⟩
  case true =>
   have D2:=Qq hd;cases hd:(nn.i==ag)
   case false =>
    have D3:=Qq hd;go_wp2_with fail;go_ret;exact⟨Qr (by simp only [Gk,HNN.out,D1.out,D2.out,D3.out,H4f.out] <;> rfl),HX5.out⟩
   case true =>
    have D3:=Qq hd;cases hd:inL [5,6] lg
    case false =>
     have D4:=Qq hd;clear hd;go_wp2_with fail;go_ret;exact⟨Qr (by simp only [Gk,HNN.out,D1.out,D2.out,D3.out,D4.out] <;> rfl),HX5.out⟩
    case true =>
     have D4:=Qq hd;clear hd;obtain⟨ad,c,vl,vs,Ai,ci,g1,g2,g3,g4,g5,g6,g7,g8,g9⟩:=(H.out.ext HX5.out).form OK.out.f_at;have GB:=(H.out.ext HX5.out).blt;have GI:i < fs.length:=(List.getElem?_eq_some_iff.1 OK.out.f_at).1;have GF:=Qq g9;clear g4 g5 g7 g9;go_wp2_with fail;refine(Zs _ _ f fi _ (HF9.out.ext (Ext.trans (Ext.trans Qz HS4.out) HS5.out)).1 ((GF.out.ext Qz)).1).mono ?_;rintro e w6 ⟨rfl,hx⟩;have HX6:=Qq (HX5.out.trans hx);have HS6:=Qq hx;clear hx;go_wp2_with fail;go_ret;exact⟨Qr (by simp only [Gk,HNN.out,D1.out,D2.out,D3.out,D4.out] <;> rfl),HX6.out⟩
 case true =>
  have D1:=Qq hd;have hop9:nn.op=9:=by simpa using D1.out
  have h10:(nn.op==10)=false:=by rw [hop9];rfl
  have H10f:=Qq h10;have hagf:(nn.i==ag)=false:=by simpa using fun e=>HK.out ⟨hop9,e⟩
  have HAGF:=Qq hagf;clear hop9;go_wp2_with fail;go_ret;exact⟨Qr (by simp only [Gk,HNN.out,D1.out,HAGF.out,H10f.out,H4f.out] <;> rfl),HX5.out⟩
theorem Qde {w:World} {b:Nat} {lg:Int} {ls:List Ln} {fs:List (List Nd)} {st:List (List Int)} {i:Nat} {n:Ln} {fi:List Nd}(h:Chk w b lg ls fs st)(ok:Vb ls fs st i n fi)(hd:decide (n.from_.length=1)=true) {r:List Int}(hw:Yl st i (Zn n 0)=some r) {o:Int}(hbs:Jv ls r= [o]) {f:List Nd}(hf:fs.getD (Zn n 0).toNat []=f) {nn:Nd}(hnn:Qt f=nn) {ag:Int}(hag:(Js ls o).agent=ag)(h9:nn.op=9)(hia:nn.i=ag)(he:eqN (Zh f nn.x) fi=true):
 Calls Tryz.prog 189 #[.pointer (some ⟨b,0,none⟩),.int .i64 i] w fun e w'=>e=.returned (.bool (Gk lg f ag fi))/\Ext w w':=by
 have H:=Qq h;have OK:=Qq ok;have HX0:=Qq (Ext.refl w);have HD:=Qq hd;have HW:=Qq hw;have HNN:=Qq hnn;obtain⟨hr1,hr2⟩:=Fw ok.st_ok hw ok.st_lt;have HR1:=Qq hr1;have HR2:=Qq hr2;have HBM:Hid (0<=o/\o < ls.length):=Qq (hr2 o (List.mem_filter.1 (show o∈Jv ls r by rw [hbs];simp)).1);have hjr:0<=Zn n 0/\Zn n 0 < i:=by
  unfold Yl at hw
  split at hw
  ·cases hw
  omega
 obtain⟨jn,hjn⟩:=Int.eq_ofNat_of_zero_le hjr.1;rw [hjn,Int.toNat_natCast]at hf;have hji:jn < i:=by omega
 have hjf:jn < fs.length:=by have:=ok.fs_le;omega
 have hff:=getD_some (l:=fs) (d:= []) hjf;rw [hf]at hff;have HFA:=Qq hff;have hfne:=ok.fs_ok f (List.mem_of_getElem? hff);have h0L:=hfne.1;have hlast:=Xi h0L;rw [hnn]at hlast;have hwf:=hfne.2 _ _ hlast;obtain⟨on,hon⟩:=Int.eq_ofNat_of_zero_le HBM.out.1;subst hon;have hm:=Ua (ls:=ls) (o:=(on:Int)) HBM.out.1 HBM.out.2;rw [Int.toNat_natCast]at hm;have honl:on < ls.length:=by have:=HBM.out.2;omega
 have HM:=Qq hm;have HAG:=Qq hag;have HLAST:=Qq hlast;have HBS:=Qq hbs;have hkj:n.from_[0]?=some (jn:Int):=by rw [<-hjn];exact Fs (k:=0) hd (by decide)
 have HKJ:=Qq hkj;obtain⟨ad,c,vf,vs,uf,ur,hc1,hc2,hlt,d0,d1,d2,d3,q0,q1,q2,q3,q4,_,⟨Ar,cr,rfl,hir⟩⟩:=h.line ok.n_at;obtain⟨adr,rfl,hbr,hcr⟩:=hir.2.2 (by intro e;rw [e]at hkj;simp at hkj);have r0:w.cell? adr=some (.int .i64 (jn:Int)):=by simpa [Addr.add]using hcr 0 _ hkj
 have hkl:0 < n.from_.length:=(List.getElem?_eq_some_iff.1 hkj).1;have hrc:=hir.1;have hrm:=hir.2.1;unfold maxLen at hrm;have hil:i < ls.length:=(List.getElem?_eq_some_iff.1 ok.n_at).1;have hi1L:((f.length:Int) - 1) < (f.length:Int):=by omega
 have hi0L:(0:Int)<=(f.length:Int) - 1:=by omega
 have e1L:((f.length:Int) - 1).toNat=f.length - 1:=by omega
 rw [hjn]at hw;have HWJ:=Qq hw;clear h ok hd hw hbs hf hnn hag hr1 hr2 hff hfne hlast hm hkj hir hcr d2 d3 hjr hjn;go_enter Tryz.func189,Tryz.ntmps189;go_wp2_with fail;refine(Rj H.out i n 1 OK.out.n_at).mono ?_;rintro e w1 ⟨rfl,m1,hw1⟩;rw [HD.out];have hd1:∀p,w1.cell? p=w.cell? p:=fun p=>by rw [hw1];rfl
 have HX1:=Qq (show Ext w w1 by rw [hw1];exact Qz.drewN _);have hlt1:ad.block < w1.heap.size:=Qy hlt HX1.out.size;have hbr1:adr.block < w1.heap.size:=Qy hbr HX1.out.size;rw [<-hd1]at d0 d1 q0 q1 q2 q3 q4 r0;clear hw1 hd1;go_wp2_with fail;refine(Ue (H.out.ext HX1.out) i (jn:Int) OK.out.st_lt).mono ?_;rintro e w2 ⟨u,rfl,hx,hfu⟩;rw [HWJ.out];have HX2:=Qq (HX1.out.trans hx);have HU:=Qq (hfu _ HWJ.out);clear hx hfu d0 d1 q0 q1 q2 q3 q4 r0;go_wp2_with fail;refine(Uo (H.out.ext HX2.out) u r HU.out HR2.out HR1.out).mono ?_;rintro e w3 ⟨ub,rfl,hmb⟩;have hmi:=hmb.ints;rw [HBS.out]at hmi;obtain⟨Ab,cb,rfl,hbi⟩:=hmi
 have HX3:=Qq (HX2.out.trans hmb.2);have hcb:=hbi.1;have hcbm:=hbi.2.1;obtain⟨adb,hab,hbb,hcb2⟩:=hbi.2.2 (by simp);subst hab;have b0:w3.cell? adb=some (.int .i64 (on:Int)):=by simpa [Addr.add]using hcb2 0 (on:Int) (by simp)
 unfold maxLen at hcbm;clear hmb hbi hcb2;obtain⟨adl,cl,vf2,vs2,uf2,ur2,l1,l2,l3,l4,l5,l6,l7,m0,m1',m2,m3,m4,_,_⟩:=(H.out.ext HX3.out).line HM.out;obtain⟨adf,cf,vl3,vs3,Af,cF,f1,f2,f3,f4,f5,f6,f7,f8,f9⟩:=(H.out.ext HX3.out).form HFA.out;rw [HAG.out]at m3;have HF9:=Qq f9;obtain⟨⟨AL,cL,eL,hcapL,hmaxL,hreadL⟩,hokL⟩:=f9;injection eL with eL1 _ eL2;subst eL1 eL2;unfold maxLen at hmaxL;obtain⟨adL,hadL,hltL,hcellsL⟩:=hreadL (by intro e;rw [e]at h0L;simp at h0L);subst hadL;obtain⟨n0,n1,n2,n3,n4,n5⟩:=hcellsL _ _ HLAST.out;have HCL:=Qq hcellsL;clear hreadL hokL hcellsL l4 l6 l7 f4 f5 f7 m0 m1' m2 m4;have hop4b:(nn.op==4)=false:=by rw [h9];rfl
 have h9b:(nn.op==9)=true:=by rw [h9];rfl
 have hib:(nn.i==ag)=true:=by simp [hia]
 have H9t:=Qq h9b;have HIT:=Qq hib;have HE:=Qq he;clear hwf h9 hia he;go_wp2_with fail;go_quiet (fail);obtain⟨w4,hw⟩:∃w',w'=w3.drewN nq:=⟨_,rfl⟩;rw [<-hw];have hd:∀p,w4.cell? p=w3.cell? p:=fun p=>by rw [hw];rfl
 have HX4:=Qq (show Ext w w4 by rw [hw];exact HX3.out.drewN _);have HS4:=Qq (show Ext w3 w4 by rw [hw];exact Qz.drewN _);rw [<-hd]at n0 n1 n2 n3 n4 n5;have hltL4:adL.block < w4.heap.size:=Qy hltL HS4.out.size;clear hw hd b0 l1 l2 l3 l5 f1 f2 f3 f6 f8 m3 hbb;go_wp2_with fail;have A0:Ext w (((w4.alloc (.cells #[.int .i64 nn.op,.int .i64 nn.i,.int .i64 nn.e,.int .i64 nn.g,.int .i64 nn.x,.int .i64 nn.y] 64)).alloc (.cells #[.int .i64 nn.op,.int .i64 nn.i,.int .i64 nn.e,.int .i64 nn.g,.int .i64 nn.x,.int .i64 nn.y] 64)).alloc (.cells #[.int .i64 5,.int .i64 6] 3)):=((HX4.out.alloc _).alloc _).alloc _
 have hk2:((w4.alloc (.cells #[.int .i64 nn.op,.int .i64 nn.i,.int .i64 nn.e,.int .i64 nn.g,.int .i64 nn.x,.int .i64 nn.y] 64)).alloc (.cells #[.int .i64 nn.op,.int .i64 nn.i,.int .i64 nn.e,.int .i64 nn.g,.int .i64 nn.x,.int .i64 nn.y] 64)).heap.size=w4.heap.size+1+1:=by simp
 have I0:Zi (((w4.alloc (.cells #[.int .i64 nn.op,.int .i64 nn.i,.int .i64 nn.e,.int .i64 nn.g,.int .i64 nn.x,.int .i64 nn.y] 64)).alloc (.cells #[.int .i64 nn.op,.int .i64 nn.i,.int .i64 nn.e,.int .i64 nn.g,.int .i64 nn.x,.int .i64 nn.y] 64)).alloc (.cells #[.int .i64 5,.int .i64 6] 3)) (.slice (some ⟨w4.heap.size+1+1,0,none⟩) 2 2) [5,6]:=by
  have h:=Fk ((w4.alloc (.cells #[.int .i64 nn.op,.int .i64 nn.i,.int .i64 nn.e,.int .i64 nn.g,.int .i64 nn.x,.int .i64 nn.y] 64)).alloc (.cells #[.int .i64 nn.op,.int .i64 nn.i,.int .i64 nn.e,.int .i64 nn.g,.int .i64 nn.x,.int .i64 nn.y] 64)) [5,6] (by decide);rw [hk2]at h;exact h
 refine(Ga (H.out.ext A0) _ [5,6] I0).mono ?_;rintro e w5 ⟨rfl,hx⟩;have A1:Ext (w4.alloc (.cells #[.int .i64 nn.op,.int .i64 nn.i,.int .i64 nn.e,.int .i64 nn.g,.int .i64 nn.x,.int .i64 nn.y] 64)) w5:=(((Ext.refl (w4.alloc (.cells #[.int .i64 nn.op,.int .i64 nn.i,.int .i64 nn.e,.int .i64 nn.g,.int .i64 nn.x,.int .i64 nn.y] 64))).alloc _).alloc _).trans hx;have A2:Ext ((w4.alloc (.cells #[.int .i64 nn.op,.int .i64 nn.i,.int .i64 nn.e,.int .i64 nn.g,.int .i64 nn.x,.int .i64 nn.y] 64)).alloc (.cells #[.int .i64 nn.op,.int .i64 nn.i,.int .i64 nn.e,.int .i64 nn.g,.int .i64 nn.x,.int .i64 nn.y] 64)) w5:=((Ext.refl ((w4.alloc (.cells #[.int .i64 nn.op,.int .i64 nn.i,.int .i64 nn.e,.int .i64 nn.g,.int .i64 nn.x,.int .i64 nn.y] 64)).alloc (.cells #[.int .i64 nn.op,.int .i64 nn.i,.int .i64 nn.e,.int .i64 nn.g,.int .i64 nn.x,.int .i64 nn.y] 64))).alloc _).trans hx
 obtain⟨⟨s0,s1,_,_,s4,_⟩,_,slt⟩:=Zg ((A1.block (by simp)).trans (heap_alloc_new w4 (.cells #[.int .i64 nn.op,.int .i64 nn.i,.int .i64 nn.e,.int .i64 nn.g,.int .i64 nn.x,.int .i64 nn.y] 64)));obtain⟨⟨t0,t1,_,_,_,_⟩,_,tlt⟩:=Zg ((A2.block (by simp)).trans (heap_alloc_new (w4.alloc (.cells #[.int .i64 nn.op,.int .i64 nn.i,.int .i64 nn.e,.int .i64 nn.g,.int .i64 nn.x,.int .i64 nn.y] 64)) (.cells #[.int .i64 nn.op,.int .i64 nn.i,.int .i64 nn.e,.int .i64 nn.g,.int .i64 nn.x,.int .i64 nn.y] 64)));have hk:(w4.alloc (.cells #[.int .i64 nn.op,.int .i64 nn.i,.int .i64 nn.e,.int .i64 nn.g,.int .i64 nn.x,.int .i64 nn.y] 64)).heap.size=w4.heap.size+1:=by simp
 rw [hk]at t0 t1 tlt;have HX5:=Qq (A0.trans hx);have HS5:=Qq (show Ext w4 w5 from((((Ext.refl w4).alloc _).alloc _).alloc _).trans hx);clear hx A0 A1 A2 I0 hk hk2 n0 n1 n2 n3 n4 n5;go_wp2_with fail;refine(Ga ((H.out.ext HX5.out).ext (Qz.alloc _)) _ [3,4,5,6] (Fk _ [3,4,5,6] (by decide))).mono ?_;rintro e w6 ⟨rfl,hx⟩;have HS6:=Qq (Ext.trans (show Ext w5 _ from Qz.alloc _) hx);have HX6:=Qq (HX5.out.trans HS6.out);have s4:=(HS6.out.cell (p:=⟨w4.heap.size,4,none⟩) slt).trans s4;have slt:=Qy slt HS6.out.size;clear hx s0 s1 t0 t1;obtain⟨ad,c,vl,vs,Ai,ci,g1,g2,g3,g4,g5,g6,g7,g8,g9⟩:=(H.out.ext HX6.out).form OK.out.f_at
 have GB:=(H.out.ext HX6.out).blt;have GI:i < fs.length:=(List.getElem?_eq_some_iff.1 OK.out.f_at).1;have GF:=Qq g9;clear g4 g5 g7 g9;have HLW:=Qq (HF9.out.ext (Ext.trans (Ext.trans (Ext.trans Qz HS4.out) HS5.out) HS6.out));go_wp2_with fail;refine wp_region_held_drew (S:=fun w'=>w'.cell? ⟨b,2,none⟩=some (.slice (some ad) fs.length c)/\w'.cell? (ad.add i)=some (.slice Ai fi.length ci)/\w'.cell? ⟨w4.heap.size,4,none⟩=some (.int .i64 nn.x)) (by kernel_rfl) ⟨g6,g8,s4⟩ (fun hHeld=> ?_);refine' wpAnyH_take (i:=0) (v:=_) rfl (by kernel_rfl) (by kernel_rfl) (by kernel_rfl) (fun _ _ _ h=>h) (Or.inl ⟨by rfl,?hy0⟩) ⟨g6,g8,s4⟩ ?rest0
 case hy0=>(intro w' hSw;(try dsimp only at hSw);go_simp;(try with_reducible rfl))
 try simp only [Act.put,List.setIfInBounds_toArray,List.set_cons_zero,List.set_cons_succ,List.getElem_toArray,List.getElem_cons_zero]
 refine' wpAnyH_take (i:=1) (v:=_) rfl (by kernel_rfl) (by kernel_rfl) (by kernel_rfl) (fun _ _ _ h=>h) (Or.inl ⟨by rfl,?hy1⟩) ⟨g6,g8,s4⟩ ?rest1
 case hy1=>(intro w' hSw;(try dsimp only at hSw);go_simp;(try with_reducible rfl))
 try simp only [Act.put,List.setIfInBounds_toArray,List.set_cons_zero,List.set_cons_succ,List.getElem_toArray,List.getElem_cons_succ,List.getElem_cons_zero]
 refine' wpAnyH_take (i:=2) (v:=_) rfl (by kernel_rfl) (by kernel_rfl) (by kernel_rfl) (fun _ _ _ h=>h) (Or.inl ⟨by rfl,?hy2⟩) ⟨g6,g8,s4⟩ ?rest2
 case hy2=>(intro w' hSw;(try dsimp only at hSw);go_simp;(try with_reducible rfl))
 try simp only [Act.put,List.setIfInBounds_toArray,List.set_cons_zero,List.set_cons_succ,List.getElem_toArray,List.getElem_cons_succ,List.getElem_cons_zero]
 refine' wpAnyH_take (i:=4) (v:=_) rfl (by kernel_rfl) (by kernel_rfl) (by kernel_rfl) (fun _ _ _ h=>h) (Or.inl ⟨by rfl,?hy4⟩) ⟨g6,g8,s4⟩ ?rest4
 case hy4=>(intro w' hSw;(try dsimp only at hSw);go_simp;(try with_reducible rfl))
 try simp only [Act.put,List.setIfInBounds_toArray,List.set_cons_zero,List.set_cons_succ,List.getElem_toArray,List.getElem_cons_succ,List.getElem_cons_zero]
 refine' wpAnyH_take (i:=5) (v:=_) rfl (by kernel_rfl) (by kernel_rfl) (by kernel_rfl) (fun _ _ _ h=>h) (Or.inl ⟨by rfl,?hy5⟩) ⟨g6,g8,s4⟩ ?rest5
 case hy5=>(intro w' hSw;(try dsimp only at hSw);go_simp;(try with_reducible rfl))
 try simp only [Act.put,List.setIfInBounds_toArray,List.set_cons_zero,List.set_cons_succ,List.getElem_toArray,List.getElem_cons_succ,List.getElem_cons_zero]
 refine' wpAnyH_take (i:=6) (v:=_) rfl (by kernel_rfl) (by kernel_rfl) (by kernel_rfl) (fun _ _ _ h=>h) (Or.inl ⟨by rfl,?hy6⟩) ⟨g6,g8,s4⟩ ?rest6
 case hy6=>(intro w' hSw;(try dsimp only at hSw);go_simp;(try with_reducible rfl))
 try simp only [Act.put,List.setIfInBounds_toArray,List.set_cons_zero,List.set_cons_succ,List.getElem_toArray,List.getElem_cons_succ,List.getElem_cons_zero]
 refine' wpAnyH_take (i:=7) (v:=_) rfl (by kernel_rfl) (by kernel_rfl) (by kernel_rfl) (fun _ _ _ h=>h) (Or.inl ⟨by rfl,?hy7⟩) ⟨g6,g8,s4⟩ ?rest7
 case hy7=>(intro w' hSw;(try dsimp only at hSw);go_simp;(try with_reducible rfl))
 try simp only [Act.put,List.setIfInBounds_toArray,List.set_cons_zero,List.set_cons_succ,List.getElem_toArray,List.getElem_cons_succ,List.getElem_cons_zero]
 refine' wpAnyH_take (i:=8) (v:=_) rfl (by kernel_rfl) (by kernel_rfl) (by kernel_rfl) (fun _ _ _ h=>h) (Or.inl ⟨by rfl,?hy8⟩) ⟨g6,g8,s4⟩ ?rest8
 case hy8=>(intro w' hSw;(try dsimp only at hSw);go_simp;(try with_reducible rfl))
 try simp only [Act.put,List.setIfInBounds_toArray,List.set_cons_zero,List.set_cons_succ,List.getElem_toArray,List.getElem_cons_succ,List.getElem_cons_zero]
 refine' wpAnyH_take (i:=9) (v:=_) rfl (by kernel_rfl) (by kernel_rfl) (by kernel_rfl) (fun _ _ _ h=>h) (Or.inl ⟨by rfl,?hy9⟩) ⟨g6,g8,s4⟩ ?rest9
 case hy9=>(intro w' hSw;(try dsimp only at hSw);go_simp;(try with_reducible rfl))
 try simp only [Act.put,List.setIfInBounds_toArray,List.set_cons_zero,List.set_cons_succ,List.getElem_toArray,List.getElem_cons_succ,List.getElem_cons_zero]
 refine' wpAnyH_take (i:=10) (v:=_) rfl (by kernel_rfl) (by kernel_rfl) (by kernel_rfl) (fun _ _ _ h=>h) (Or.inl ⟨by rfl,?hy10⟩) ⟨g6,g8,s4⟩ ?rest10
 case hy10=>(intro w' hSw;(try dsimp only at hSw);go_simp;(try with_reducible rfl))
 try simp only [Act.put,List.setIfInBounds_toArray,List.set_cons_zero,List.set_cons_succ,List.getElem_toArray,List.getElem_cons_succ,List.getElem_cons_zero]
 refine wpAnyH_ready (rs:= [3]) (by kernel_rfl) (by simp) ?_;refine AllReadyH.cons rfl (fun K hK=> ?_) AllReadyH.nil;go_simp
 (go_at_call 43;refine(Ut _ f nn.x _ (by exact HLW.out.ext (by repeat(first|exact Qz|assumption|apply Ext.alloc|apply Ext.drew)))).mono ?_;rintro e wa ⟨ua,rfl,hma⟩;have MA:=Qq hma;have hxa:Ext w6 wa:=Ext.trans (by repeat(first|exact Qz|assumption|apply Ext.alloc|apply Ext.drew)) hma.2.2;have g6a:=(hxa.cell (p:=⟨b,2,none⟩) GB).trans g6;have g8a:=(hxa.cell (p:=(ad.add i)) (Qj g3)).trans g8;have s4a:=(hxa.cell (p:=⟨w4.heap.size,4,none⟩) slt).trans s4;clear hma)
 go_wp2_with fail;refine hK.out _ _ ⟨g6a,g8a,s4a⟩ (fun hHeld=> ?_);clear hK K hHeld
 try simp only [Act.put,List.setIfInBounds_toArray,List.set_cons_zero,List.set_cons_succ,List.getElem_toArray,List.getElem_cons_succ,List.getElem_cons_zero]
 refine wpAnyH_ready (rs:= [11]) (by kernel_rfl) (by simp) ?_;refine AllReadyH.cons rfl (fun K hK=> ?_) AllReadyH.nil;go_simp
 (go_at_call 69;refine(Zs _ _ (Zh f nn.x) fi _ (by exact(MA.out.fml.ext (by repeat(first|exact Qz|assumption|apply Ext.alloc|apply Ext.drew))).1) (by exact(GF.out.ext (by repeat(first|exact Qz|assumption|apply Ext.alloc|apply Ext.drew))).1)).mono ?_;rintro e wd ⟨rfl,hvd⟩;rw [HE.out];have hxd:Ext w6 wd:=Ext.trans (by repeat(first|exact Qz|assumption|apply Ext.alloc|apply Ext.drew)) hvd;have g6d:=(hxd.cell (p:=⟨b,2,none⟩) GB).trans g6;have g8d:=(hxd.cell (p:=(ad.add i)) (Qj g3)).trans g8;have s4d:=(hxd.cell (p:=⟨w4.heap.size,4,none⟩) slt).trans s4;clear hvd)
 go_wp2_with fail;refine hK.out _ _ ⟨g6d,g8d,s4d⟩ (fun hHeld=> ?_);clear hK K hHeld
 try simp only [Act.put,List.setIfInBounds_toArray,List.set_cons_zero,List.set_cons_succ,List.getElem_toArray,List.getElem_cons_succ,List.getElem_cons_zero]
 refine' wpAnyH_take (i:=12) (v:=_) rfl (by kernel_rfl) (by kernel_rfl) (by kernel_rfl) (fun _ _ _ h=>h) (Or.inl ⟨by rfl,?hy12⟩) ⟨g6d,g8d,s4d⟩ ?rest12
 case hy12=>(intro w' hSw;(try dsimp only at hSw);go_simp;(try with_reducible rfl))
 try simp only [Act.put,List.setIfInBounds_toArray,List.set_cons_zero,List.set_cons_succ,List.getElem_toArray,List.getElem_cons_succ,List.getElem_cons_zero]
 refine wpAnyH_take (i:=13) (v:=undef) rfl (by kernel_rfl) (by kernel_rfl) (by kernel_rfl) (fun _ _ _ h=>h) (Or.inr ⟨by rfl,rfl⟩) ⟨g6d,g8d,s4d⟩ ?_
 try simp only [Act.put,List.setIfInBounds_toArray,List.set_cons_zero,List.set_cons_succ,List.getElem_toArray,List.getElem_cons_succ,List.getElem_cons_zero]
 refine wpAnyH_take (i:=14) (v:=undef) rfl (by kernel_rfl) (by kernel_rfl) (by kernel_rfl) (fun _ _ _ h=>h) (Or.inr ⟨by rfl,rfl⟩) ⟨g6d,g8d,s4d⟩ ?_
 try simp only [Act.put,List.setIfInBounds_toArray,List.set_cons_zero,List.set_cons_succ,List.getElem_toArray,List.getElem_cons_succ,List.getElem_cons_zero]
 refine wpAnyH_take (i:=15) (v:=undef) rfl (by kernel_rfl) (by kernel_rfl) (by kernel_rfl) (fun _ _ _ h=>h) (Or.inr ⟨by rfl,rfl⟩) ⟨g6d,g8d,s4d⟩ ?_
 try simp only [Act.put,List.setIfInBounds_toArray,List.set_cons_zero,List.set_cons_succ,List.getElem_toArray,List.getElem_cons_succ,List.getElem_cons_zero]
 refine wpAnyH_take (i:=16) (v:=undef) rfl (by kernel_rfl) (by kernel_rfl) (by kernel_rfl) (fun _ _ _ h=>h) (Or.inr ⟨by rfl,rfl⟩) ⟨g6d,g8d,s4d⟩ ?_
 try simp only [Act.put,List.setIfInBounds_toArray,List.set_cons_zero,List.set_cons_succ,List.getElem_toArray,List.getElem_cons_succ,List.getElem_cons_zero]
 refine wpAnyH_take (i:=17) (v:=undef) rfl (by kernel_rfl) (by kernel_rfl) (by kernel_rfl) (fun _ _ _ h=>h) (Or.inr ⟨by rfl,rfl⟩) ⟨g6d,g8d,s4d⟩ ?_
 try simp only [Act.put,List.setIfInBounds_toArray,List.set_cons_zero,List.set_cons_succ,List.getElem_toArray,List.getElem_cons_succ,List.getElem_cons_zero]
 refine wpAnyH_take (i:=18) (v:=undef) rfl (by kernel_rfl) (by kernel_rfl) (by kernel_rfl) (fun _ _ _ h=>h) (Or.inr ⟨by rfl,rfl⟩) ⟨g6d,g8d,s4d⟩ ?_
 try simp only [Act.put,List.setIfInBounds_toArray,List.set_cons_zero,List.set_cons_succ,List.getElem_toArray,List.getElem_cons_succ,List.getElem_cons_zero]
 refine wpAnyH_take (i:=19) (v:=undef) rfl (by kernel_rfl) (by kernel_rfl) (by kernel_rfl) (fun _ _ _ h=>h) (Or.inr ⟨by rfl,rfl⟩) ⟨g6d,g8d,s4d⟩ ?_
 try simp only [Act.put,List.setIfInBounds_toArray,List.set_cons_zero,List.set_cons_succ,List.getElem_toArray,List.getElem_cons_succ,List.getElem_cons_zero]
 refine wpAnyH_take (i:=20) (v:=undef) rfl (by kernel_rfl) (by kernel_rfl) (by kernel_rfl) (fun _ _ _ h=>h) (Or.inr ⟨by rfl,rfl⟩) ⟨g6d,g8d,s4d⟩ ?_
 try simp only [Act.put,List.setIfInBounds_toArray,List.set_cons_zero,List.set_cons_succ,List.getElem_toArray,List.getElem_cons_succ,List.getElem_cons_zero]
 refine wpAnyH_take (i:=21) (v:=undef) rfl (by kernel_rfl) (by kernel_rfl) (by kernel_rfl) (fun _ _ _ h=>h) (Or.inr ⟨by rfl,rfl⟩) ⟨g6d,g8d,s4d⟩ ?_
 try simp only [Act.put,List.setIfInBounds_toArray,List.set_cons_zero,List.set_cons_succ,List.getElem_toArray,List.getElem_cons_succ,List.getElem_cons_zero]
 refine wpAnyH_take (i:=22) (v:=undef) rfl (by kernel_rfl) (by kernel_rfl) (by kernel_rfl) (fun _ _ _ h=>h) (Or.inr ⟨by rfl,rfl⟩) ⟨g6d,g8d,s4d⟩ ?_
 try simp only [Act.put,List.setIfInBounds_toArray,List.set_cons_zero,List.set_cons_succ,List.getElem_toArray,List.getElem_cons_succ,List.getElem_cons_zero]
 refine wpAnyH_take (i:=23) (v:=undef) rfl (by kernel_rfl) (by kernel_rfl) (by kernel_rfl) (fun _ _ _ h=>h) (Or.inr ⟨by rfl,rfl⟩) ⟨g6d,g8d,s4d⟩ ?_
 try simp only [Act.put,List.setIfInBounds_toArray,List.set_cons_zero,List.set_cons_succ,List.getElem_toArray,List.getElem_cons_succ,List.getElem_cons_zero]
 refine wpAnyH_take (i:=24) (v:=undef) rfl (by kernel_rfl) (by kernel_rfl) (by kernel_rfl) (fun _ _ _ h=>h) (Or.inr ⟨by rfl,rfl⟩) ⟨g6d,g8d,s4d⟩ ?_
 try simp only [Act.put,List.setIfInBounds_toArray,List.set_cons_zero,List.set_cons_succ,List.getElem_toArray,List.getElem_cons_succ,List.getElem_cons_zero]
 refine' wpAnyH_take (i:=25) (v:=_) rfl (by kernel_rfl) (by kernel_rfl) (by kernel_rfl) (fun _ _ _ h=>h) (Or.inl ⟨by rfl,?hy25⟩) ⟨g6d,g8d,s4d⟩ ?rest25
 case hy25=>(intro w' hSw;(try dsimp only at hSw);go_simp;(try with_reducible rfl))
 try simp only [Act.put,List.setIfInBounds_toArray,List.set_cons_zero,List.set_cons_succ,List.getElem_toArray,List.getElem_cons_succ,List.getElem_cons_zero]
 refine' wpAnyH_take (i:=26) (v:=_) rfl (by kernel_rfl) (by kernel_rfl) (by kernel_rfl) (fun _ _ _ h=>h) (Or.inl ⟨by rfl,?hy26⟩) ⟨g6d,g8d,s4d⟩ ?rest26
 case hy26=>(intro w' hSw;(try dsimp only at hSw);go_simp;(try with_reducible rfl))
 try simp only [Act.put,List.setIfInBounds_toArray,List.set_cons_zero,List.set_cons_succ,List.getElem_toArray,List.getElem_cons_succ,List.getElem_cons_zero]
 refine wpAnyH_done (by kernel_rfl) ?_ _;go_wp2_with fail;go_ret;exact⟨Qr (by simp only [Gk,HNN.out,H9t.out,HIT.out,HE.out] <;> rfl),HX6.out.trans hxd⟩
theorem Qx2 {w:World} {b:Nat} {lg:Int} {ls:List Ln} {fs:List (List Nd)} {st:List (List Int)} {i:Nat} {n:Ln} {fi:List Nd}(h:Chk w b lg ls fs st)(ok:Vb ls fs st i n fi)(hd:decide (n.from_.length=1)=true) {r:List Int}(hw:Yl st i (Zn n 0)=some r) {o:Int}(hbs:Jv ls r= [o]) {f:List Nd}(hf:fs.getD (Zn n 0).toNat []=f) {nn:Nd}(hnn:Qt f=nn) {ag:Int}(hag:(Js ls o).agent=ag)(h9:nn.op=9)(hia:nn.i=ag)(he:eqN (Zh f nn.x) fi=false)(hkk:inL [3,4,5,6] lg=false):
 Calls Tryz.prog 189 #[.pointer (some ⟨b,0,none⟩),.int .i64 i] w fun e w'=>e=.returned (.bool (Gk lg f ag fi))/\Ext w w':=by
 have H:=Qq h;have OK:=Qq ok;have HX0:=Qq (Ext.refl w);have HD:=Qq hd;have HW:=Qq hw;have HNN:=Qq hnn;obtain⟨hr1,hr2⟩:=Fw ok.st_ok hw ok.st_lt;have HR1:=Qq hr1;have HR2:=Qq hr2;have HBM:Hid (0<=o/\o < ls.length):=Qq (hr2 o (List.mem_filter.1 (show o∈Jv ls r by rw [hbs];simp)).1);have hjr:0<=Zn n 0/\Zn n 0 < i:=by
  unfold Yl at hw
  split at hw
  ·cases hw
  omega
 obtain⟨jn,hjn⟩:=Int.eq_ofNat_of_zero_le hjr.1;rw [hjn,Int.toNat_natCast]at hf;have hji:jn < i:=by omega
 have hjf:jn < fs.length:=by have:=ok.fs_le;omega
 have hff:=getD_some (l:=fs) (d:= []) hjf;rw [hf]at hff;have HFA:=Qq hff;have hfne:=ok.fs_ok f (List.mem_of_getElem? hff);have h0L:=hfne.1;have hlast:=Xi h0L;rw [hnn]at hlast;have hwf:=hfne.2 _ _ hlast;obtain⟨on,hon⟩:=Int.eq_ofNat_of_zero_le HBM.out.1;subst hon;have hm:=Ua (ls:=ls) (o:=(on:Int)) HBM.out.1 HBM.out.2;rw [Int.toNat_natCast]at hm;have honl:on < ls.length:=by have:=HBM.out.2;omega
 have HM:=Qq hm;have HAG:=Qq hag;have HLAST:=Qq hlast;have HBS:=Qq hbs;have hkj:n.from_[0]?=some (jn:Int):=by rw [<-hjn];exact Fs (k:=0) hd (by decide)
 have HKJ:=Qq hkj;obtain⟨ad,c,vf,vs,uf,ur,hc1,hc2,hlt,d0,d1,d2,d3,q0,q1,q2,q3,q4,_,⟨Ar,cr,rfl,hir⟩⟩:=h.line ok.n_at;obtain⟨adr,rfl,hbr,hcr⟩:=hir.2.2 (by intro e;rw [e]at hkj;simp at hkj);have r0:w.cell? adr=some (.int .i64 (jn:Int)):=by simpa [Addr.add]using hcr 0 _ hkj
 have hkl:0 < n.from_.length:=(List.getElem?_eq_some_iff.1 hkj).1;have hrc:=hir.1;have hrm:=hir.2.1;unfold maxLen at hrm;have hil:i < ls.length:=(List.getElem?_eq_some_iff.1 ok.n_at).1;have hi1L:((f.length:Int) - 1) < (f.length:Int):=by omega
 have hi0L:(0:Int)<=(f.length:Int) - 1:=by omega
 have e1L:((f.length:Int) - 1).toNat=f.length - 1:=by omega
 rw [hjn]at hw;have HWJ:=Qq hw;clear h ok hd hw hbs hf hnn hag hr1 hr2 hff hfne hlast hm hkj hir hcr d2 d3 hjr hjn;go_enter Tryz.func189,Tryz.ntmps189;go_wp2_with fail;refine(Rj H.out i n 1 OK.out.n_at).mono ?_;rintro e w1 ⟨rfl,m1,hw1⟩;rw [HD.out];have hd1:∀p,w1.cell? p=w.cell? p:=fun p=>by rw [hw1];rfl
 have HX1:=Qq (show Ext w w1 by rw [hw1];exact Qz.drewN _);have hlt1:ad.block < w1.heap.size:=Qy hlt HX1.out.size;have hbr1:adr.block < w1.heap.size:=Qy hbr HX1.out.size;rw [<-hd1]at d0 d1 q0 q1 q2 q3 q4 r0;clear hw1 hd1;go_wp2_with fail;refine(Ue (H.out.ext HX1.out) i (jn:Int) OK.out.st_lt).mono ?_;rintro e w2 ⟨u,rfl,hx,hfu⟩;rw [HWJ.out];have HX2:=Qq (HX1.out.trans hx);have HU:=Qq (hfu _ HWJ.out);clear hx hfu d0 d1 q0 q1 q2 q3 q4 r0;go_wp2_with fail;refine(Uo (H.out.ext HX2.out) u r HU.out HR2.out HR1.out).mono ?_;rintro e w3 ⟨ub,rfl,hmb⟩;have hmi:=hmb.ints;rw [HBS.out]at hmi;obtain⟨Ab,cb,rfl,hbi⟩:=hmi
 have HX3:=Qq (HX2.out.trans hmb.2);have hcb:=hbi.1;have hcbm:=hbi.2.1;obtain⟨adb,hab,hbb,hcb2⟩:=hbi.2.2 (by simp);subst hab;have b0:w3.cell? adb=some (.int .i64 (on:Int)):=by simpa [Addr.add]using hcb2 0 (on:Int) (by simp)
 unfold maxLen at hcbm;clear hmb hbi hcb2;obtain⟨adl,cl,vf2,vs2,uf2,ur2,l1,l2,l3,l4,l5,l6,l7,m0,m1',m2,m3,m4,_,_⟩:=(H.out.ext HX3.out).line HM.out;obtain⟨adf,cf,vl3,vs3,Af,cF,f1,f2,f3,f4,f5,f6,f7,f8,f9⟩:=(H.out.ext HX3.out).form HFA.out;rw [HAG.out]at m3;have HF9:=Qq f9;obtain⟨⟨AL,cL,eL,hcapL,hmaxL,hreadL⟩,hokL⟩:=f9;injection eL with eL1 _ eL2;subst eL1 eL2;unfold maxLen at hmaxL;obtain⟨adL,hadL,hltL,hcellsL⟩:=hreadL (by intro e;rw [e]at h0L;simp at h0L);subst hadL;obtain⟨n0,n1,n2,n3,n4,n5⟩:=hcellsL _ _ HLAST.out;have HCL:=Qq hcellsL;clear hreadL hokL hcellsL l4 l6 l7 f4 f5 f7 m0 m1' m2 m4;have hop4b:(nn.op==4)=false:=by rw [h9];rfl
 have h9b:(nn.op==9)=true:=by rw [h9];rfl
 have hib:(nn.i==ag)=true:=by simp [hia]
 have H9t:=Qq h9b;have HIT:=Qq hib;have HE:=Qq he;have HKK:=Qq hkk;clear hkk;clear hwf h9 hia he;go_wp2_with fail;go_quiet (fail);obtain⟨w4,hw⟩:∃w',w'=w3.drewN nq:=⟨_,rfl⟩;rw [<-hw];have hd:∀p,w4.cell? p=w3.cell? p:=fun p=>by rw [hw];rfl
 have HX4:=Qq (show Ext w w4 by rw [hw];exact HX3.out.drewN _);have HS4:=Qq (show Ext w3 w4 by rw [hw];exact Qz.drewN _);rw [<-hd]at n0 n1 n2 n3 n4 n5;have hltL4:adL.block < w4.heap.size:=Qy hltL HS4.out.size;clear hw hd b0 l1 l2 l3 l5 f1 f2 f3 f6 f8 m3 hbb;go_wp2_with fail;have A0:Ext w (((w4.alloc (.cells #[.int .i64 nn.op,.int .i64 nn.i,.int .i64 nn.e,.int .i64 nn.g,.int .i64 nn.x,.int .i64 nn.y] 64)).alloc (.cells #[.int .i64 nn.op,.int .i64 nn.i,.int .i64 nn.e,.int .i64 nn.g,.int .i64 nn.x,.int .i64 nn.y] 64)).alloc (.cells #[.int .i64 5,.int .i64 6] 3)):=((HX4.out.alloc _).alloc _).alloc _
 have hk2:((w4.alloc (.cells #[.int .i64 nn.op,.int .i64 nn.i,.int .i64 nn.e,.int .i64 nn.g,.int .i64 nn.x,.int .i64 nn.y] 64)).alloc (.cells #[.int .i64 nn.op,.int .i64 nn.i,.int .i64 nn.e,.int .i64 nn.g,.int .i64 nn.x,.int .i64 nn.y] 64)).heap.size=w4.heap.size+1+1:=by simp
 have I0:Zi (((w4.alloc (.cells #[.int .i64 nn.op,.int .i64 nn.i,.int .i64 nn.e,.int .i64 nn.g,.int .i64 nn.x,.int .i64 nn.y] 64)).alloc (.cells #[.int .i64 nn.op,.int .i64 nn.i,.int .i64 nn.e,.int .i64 nn.g,.int .i64 nn.x,.int .i64 nn.y] 64)).alloc (.cells #[.int .i64 5,.int .i64 6] 3)) (.slice (some ⟨w4.heap.size+1+1,0,none⟩) 2 2) [5,6]:=by
  have h:=Fk ((w4.alloc (.cells #[.int .i64 nn.op,.int .i64 nn.i,.int .i64 nn.e,.int .i64 nn.g,.int .i64 nn.x,.int .i64 nn.y] 64)).alloc (.cells #[.int .i64 nn.op,.int .i64 nn.i,.int .i64 nn.e,.int .i64 nn.g,.int .i64 nn.x,.int .i64 nn.y] 64)) [5,6] (by decide);rw [hk2]at h;exact h
 refine(Ga (H.out.ext A0) _ [5,6] I0).mono ?_;rintro e w5 ⟨rfl,hx⟩;have A1:Ext (w4.alloc (.cells #[.int .i64 nn.op,.int .i64 nn.i,.int .i64 nn.e,.int .i64 nn.g,.int .i64 nn.x,.int .i64 nn.y] 64)) w5:=(((Ext.refl (w4.alloc (.cells #[.int .i64 nn.op,.int .i64 nn.i,.int .i64 nn.e,.int .i64 nn.g,.int .i64 nn.x,.int .i64 nn.y] 64))).alloc _).alloc _).trans hx;have A2:Ext ((w4.alloc (.cells #[.int .i64 nn.op,.int .i64 nn.i,.int .i64 nn.e,.int .i64 nn.g,.int .i64 nn.x,.int .i64 nn.y] 64)).alloc (.cells #[.int .i64 nn.op,.int .i64 nn.i,.int .i64 nn.e,.int .i64 nn.g,.int .i64 nn.x,.int .i64 nn.y] 64)) w5:=((Ext.refl ((w4.alloc (.cells #[.int .i64 nn.op,.int .i64 nn.i,.int .i64 nn.e,.int .i64 nn.g,.int .i64 nn.x,.int .i64 nn.y] 64)).alloc (.cells #[.int .i64 nn.op,.int .i64 nn.i,.int .i64 nn.e,.int .i64 nn.g,.int .i64 nn.x,.int .i64 nn.y] 64))).alloc _).trans hx
 obtain⟨⟨s0,s1,_,_,s4,_⟩,_,slt⟩:=Zg ((A1.block (by simp)).trans (heap_alloc_new w4 (.cells #[.int .i64 nn.op,.int .i64 nn.i,.int .i64 nn.e,.int .i64 nn.g,.int .i64 nn.x,.int .i64 nn.y] 64)));obtain⟨⟨t0,t1,_,_,_,_⟩,_,tlt⟩:=Zg ((A2.block (by simp)).trans (heap_alloc_new (w4.alloc (.cells #[.int .i64 nn.op,.int .i64 nn.i,.int .i64 nn.e,.int .i64 nn.g,.int .i64 nn.x,.int .i64 nn.y] 64)) (.cells #[.int .i64 nn.op,.int .i64 nn.i,.int .i64 nn.e,.int .i64 nn.g,.int .i64 nn.x,.int .i64 nn.y] 64)));have hk:(w4.alloc (.cells #[.int .i64 nn.op,.int .i64 nn.i,.int .i64 nn.e,.int .i64 nn.g,.int .i64 nn.x,.int .i64 nn.y] 64)).heap.size=w4.heap.size+1:=by simp
 rw [hk]at t0 t1 tlt;have HX5:=Qq (A0.trans hx);have HS5:=Qq (show Ext w4 w5 from((((Ext.refl w4).alloc _).alloc _).alloc _).trans hx);clear hx A0 A1 A2 I0 hk hk2 n0 n1 n2 n3 n4 n5;go_wp2_with fail;refine(Ga ((H.out.ext HX5.out).ext (Qz.alloc _)) _ [3,4,5,6] (Fk _ [3,4,5,6] (by decide))).mono ?_;rintro e w6 ⟨rfl,hx⟩;have HS6:=Qq (Ext.trans (show Ext w5 _ from Qz.alloc _) hx);have HX6:=Qq (HX5.out.trans HS6.out);have s4:=(HS6.out.cell (p:=⟨w4.heap.size,4,none⟩) slt).trans s4;have slt:=Qy slt HS6.out.size;clear hx s0 s1 t0 t1;rw [HKK.out];obtain⟨ad,c,vl,vs,Ai,ci,g1,g2,g3,g4,g5,g6,g7,g8,g9⟩:=(H.out.ext HX6.out).form OK.out.f_at
 have GB:=(H.out.ext HX6.out).blt;have GI:i < fs.length:=(List.getElem?_eq_some_iff.1 OK.out.f_at).1;have GF:=Qq g9;clear g4 g5 g7 g9;have HLW:=Qq (HF9.out.ext (Ext.trans (Ext.trans (Ext.trans Qz HS4.out) HS5.out) HS6.out));go_wp2_with fail;refine wp_region_held_drew (S:=fun w'=>w'.cell? ⟨b,2,none⟩=some (.slice (some ad) fs.length c)/\w'.cell? (ad.add i)=some (.slice Ai fi.length ci)/\w'.cell? ⟨w4.heap.size,4,none⟩=some (.int .i64 nn.x)) (by kernel_rfl) ⟨g6,g8,s4⟩ (fun hHeld=> ?_);refine' wpAnyH_take (i:=0) (v:=_) rfl (by kernel_rfl) (by kernel_rfl) (by kernel_rfl) (fun _ _ _ h=>h) (Or.inl ⟨by rfl,?hy0⟩) ⟨g6,g8,s4⟩ ?rest0
 case hy0=>(intro w' hSw;(try dsimp only at hSw);go_simp;(try with_reducible rfl))
 try simp only [Act.put,List.setIfInBounds_toArray,List.set_cons_zero,List.set_cons_succ,List.getElem_toArray,List.getElem_cons_zero]
 refine' wpAnyH_take (i:=1) (v:=_) rfl (by kernel_rfl) (by kernel_rfl) (by kernel_rfl) (fun _ _ _ h=>h) (Or.inl ⟨by rfl,?hy1⟩) ⟨g6,g8,s4⟩ ?rest1
 case hy1=>(intro w' hSw;(try dsimp only at hSw);go_simp;(try with_reducible rfl))
 try simp only [Act.put,List.setIfInBounds_toArray,List.set_cons_zero,List.set_cons_succ,List.getElem_toArray,List.getElem_cons_succ,List.getElem_cons_zero]
 refine' wpAnyH_take (i:=2) (v:=_) rfl (by kernel_rfl) (by kernel_rfl) (by kernel_rfl) (fun _ _ _ h=>h) (Or.inl ⟨by rfl,?hy2⟩) ⟨g6,g8,s4⟩ ?rest2
 case hy2=>(intro w' hSw;(try dsimp only at hSw);go_simp;(try with_reducible rfl))
 try simp only [Act.put,List.setIfInBounds_toArray,List.set_cons_zero,List.set_cons_succ,List.getElem_toArray,List.getElem_cons_succ,List.getElem_cons_zero]
 refine' wpAnyH_take (i:=4) (v:=_) rfl (by kernel_rfl) (by kernel_rfl) (by kernel_rfl) (fun _ _ _ h=>h) (Or.inl ⟨by rfl,?hy4⟩) ⟨g6,g8,s4⟩ ?rest4
 case hy4=>(intro w' hSw;(try dsimp only at hSw);go_simp;(try with_reducible rfl))
 try simp only [Act.put,List.setIfInBounds_toArray,List.set_cons_zero,List.set_cons_succ,List.getElem_toArray,List.getElem_cons_succ,List.getElem_cons_zero]
 refine' wpAnyH_take (i:=5) (v:=_) rfl (by kernel_rfl) (by kernel_rfl) (by kernel_rfl) (fun _ _ _ h=>h) (Or.inl ⟨by rfl,?hy5⟩) ⟨g6,g8,s4⟩ ?rest5
 case hy5=>(intro w' hSw;(try dsimp only at hSw);go_simp;(try with_reducible rfl))
 try simp only [Act.put,List.setIfInBounds_toArray,List.set_cons_zero,List.set_cons_succ,List.getElem_toArray,List.getElem_cons_succ,List.getElem_cons_zero]
 refine' wpAnyH_take (i:=6) (v:=_) rfl (by kernel_rfl) (by kernel_rfl) (by kernel_rfl) (fun _ _ _ h=>h) (Or.inl ⟨by rfl,?hy6⟩) ⟨g6,g8,s4⟩ ?rest6
 case hy6=>(intro w' hSw;(try dsimp only at hSw);go_simp;(try with_reducible rfl))
 try simp only [Act.put,List.setIfInBounds_toArray,List.set_cons_zero,List.set_cons_succ,List.getElem_toArray,List.getElem_cons_succ,List.getElem_cons_zero]
 refine' wpAnyH_take (i:=7) (v:=_) rfl (by kernel_rfl) (by kernel_rfl) (by kernel_rfl) (fun _ _ _ h=>h) (Or.inl ⟨by rfl,?hy7⟩) ⟨g6,g8,s4⟩ ?rest7
 case hy7=>(intro w' hSw;(try dsimp only at hSw);go_simp;(try with_reducible rfl))
 try simp only [Act.put,List.setIfInBounds_toArray,List.set_cons_zero,List.set_cons_succ,List.getElem_toArray,List.getElem_cons_succ,List.getElem_cons_zero]
 refine' wpAnyH_take (i:=8) (v:=_) rfl (by kernel_rfl) (by kernel_rfl) (by kernel_rfl) (fun _ _ _ h=>h) (Or.inl ⟨by rfl,?hy8⟩) ⟨g6,g8,s4⟩ ?rest8
 case hy8=>(intro w' hSw;(try dsimp only at hSw);go_simp;(try with_reducible rfl))
 try simp only [Act.put,List.setIfInBounds_toArray,List.set_cons_zero,List.set_cons_succ,List.getElem_toArray,List.getElem_cons_succ,List.getElem_cons_zero]
 refine' wpAnyH_take (i:=9) (v:=_) rfl (by kernel_rfl) (by kernel_rfl) (by kernel_rfl) (fun _ _ _ h=>h) (Or.inl ⟨by rfl,?hy9⟩) ⟨g6,g8,s4⟩ ?rest9
 case hy9=>(intro w' hSw;(try dsimp only at hSw);go_simp;(try with_reducible rfl))
 try simp only [Act.put,List.setIfInBounds_toArray,List.set_cons_zero,List.set_cons_succ,List.getElem_toArray,List.getElem_cons_succ,List.getElem_cons_zero]
 refine' wpAnyH_take (i:=10) (v:=_) rfl (by kernel_rfl) (by kernel_rfl) (by kernel_rfl) (fun _ _ _ h=>h) (Or.inl ⟨by rfl,?hy10⟩) ⟨g6,g8,s4⟩ ?rest10
 case hy10=>(intro w' hSw;(try dsimp only at hSw);go_simp;(try with_reducible rfl))
 try simp only [Act.put,List.setIfInBounds_toArray,List.set_cons_zero,List.set_cons_succ,List.getElem_toArray,List.getElem_cons_succ,List.getElem_cons_zero]
 refine wpAnyH_ready (rs:= [3]) (by kernel_rfl) (by simp) ?_;refine AllReadyH.cons rfl (fun K hK=> ?_) AllReadyH.nil;go_simp
 (go_at_call 43;refine(Ut _ f nn.x _ (by exact HLW.out.ext (by repeat(first|exact Qz|assumption|apply Ext.alloc|apply Ext.drew)))).mono ?_;rintro e wa ⟨ua,rfl,hma⟩;have MA:=Qq hma;have hxa:Ext w6 wa:=Ext.trans (by repeat(first|exact Qz|assumption|apply Ext.alloc|apply Ext.drew)) hma.2.2;have g6a:=(hxa.cell (p:=⟨b,2,none⟩) GB).trans g6;have g8a:=(hxa.cell (p:=(ad.add i)) (Qj g3)).trans g8;have s4a:=(hxa.cell (p:=⟨w4.heap.size,4,none⟩) slt).trans s4;clear hma)
 go_wp2_with fail;refine hK.out _ _ ⟨g6a,g8a,s4a⟩ (fun hHeld=> ?_);clear hK K hHeld
 try simp only [Act.put,List.setIfInBounds_toArray,List.set_cons_zero,List.set_cons_succ,List.getElem_toArray,List.getElem_cons_succ,List.getElem_cons_zero]
 refine wpAnyH_ready (rs:= [11]) (by kernel_rfl) (by simp) ?_;refine AllReadyH.cons rfl (fun K hK=> ?_) AllReadyH.nil;go_simp
 (go_at_call 69;refine(Zs _ _ (Zh f nn.x) fi _ (by exact(MA.out.fml.ext (by repeat(first|exact Qz|assumption|apply Ext.alloc|apply Ext.drew))).1) (by exact(GF.out.ext (by repeat(first|exact Qz|assumption|apply Ext.alloc|apply Ext.drew))).1)).mono ?_;rintro e wd ⟨rfl,hvd⟩;rw [HE.out];have hxd:Ext w6 wd:=Ext.trans (by repeat(first|exact Qz|assumption|apply Ext.alloc|apply Ext.drew)) hvd;have g6d:=(hxd.cell (p:=⟨b,2,none⟩) GB).trans g6;have g8d:=(hxd.cell (p:=(ad.add i)) (Qj g3)).trans g8;have s4d:=(hxd.cell (p:=⟨w4.heap.size,4,none⟩) slt).trans s4;clear hvd)
 go_wp2_with fail;refine hK.out _ _ ⟨g6d,g8d,s4d⟩ (fun hHeld=> ?_);clear hK K hHeld
 try simp only [Act.put,List.setIfInBounds_toArray,List.set_cons_zero,List.set_cons_succ,List.getElem_toArray,List.getElem_cons_succ,List.getElem_cons_zero]
 refine' wpAnyH_take (i:=12) (v:=_) rfl (by kernel_rfl) (by kernel_rfl) (by kernel_rfl) (fun _ _ _ h=>h) (Or.inl ⟨by rfl,?hy12⟩) ⟨g6d,g8d,s4d⟩ ?rest12
 case hy12=>(intro w' hSw;(try dsimp only at hSw);go_simp;(try with_reducible rfl))
 try simp only [Act.put,List.setIfInBounds_toArray,List.set_cons_zero,List.set_cons_succ,List.getElem_toArray,List.getElem_cons_succ,List.getElem_cons_zero]
 refine' wpAnyH_take (i:=13) (v:=_) rfl (by kernel_rfl) (by kernel_rfl) (by kernel_rfl) (fun _ _ _ h=>h) (Or.inl ⟨by rfl,?hy13⟩) ⟨g6d,g8d,s4d⟩ ?rest13
 case hy13=>(intro w' hSw;(try dsimp only at hSw);go_simp;(try with_reducible rfl))
 try simp only [Act.put,List.setIfInBounds_toArray,List.set_cons_zero,List.set_cons_succ,List.getElem_toArray,List.getElem_cons_succ,List.getElem_cons_zero]
 refine' wpAnyH_take (i:=14) (v:=_) rfl (by kernel_rfl) (by kernel_rfl) (by kernel_rfl) (fun _ _ _ h=>h) (Or.inl ⟨by rfl,?hy14⟩) ⟨g6d,g8d,s4d⟩ ?rest14
 case hy14=>(intro w' hSw;(try dsimp only at hSw);go_simp;(try with_reducible rfl))
 try simp only [Act.put,List.setIfInBounds_toArray,List.set_cons_zero,List.set_cons_succ,List.getElem_toArray,List.getElem_cons_succ,List.getElem_cons_zero]
 refine wpAnyH_take (i:=15) (v:=undef) rfl (by kernel_rfl) (by kernel_rfl) (by kernel_rfl) (fun _ _ _ h=>h) (Or.inr ⟨by rfl,rfl⟩) ⟨g6d,g8d,s4d⟩ ?_
 try simp only [Act.put,List.setIfInBounds_toArray,List.set_cons_zero,List.set_cons_succ,List.getElem_toArray,List.getElem_cons_succ,List.getElem_cons_zero]
 refine wpAnyH_take (i:=16) (v:=undef) rfl (by kernel_rfl) (by kernel_rfl) (by kernel_rfl) (fun _ _ _ h=>h) (Or.inr ⟨by rfl,rfl⟩) ⟨g6d,g8d,s4d⟩ ?_
 try simp only [Act.put,List.setIfInBounds_toArray,List.set_cons_zero,List.set_cons_succ,List.getElem_toArray,List.getElem_cons_succ,List.getElem_cons_zero]
 refine wpAnyH_take (i:=17) (v:=undef) rfl (by kernel_rfl) (by kernel_rfl) (by kernel_rfl) (fun _ _ _ h=>h) (Or.inr ⟨by rfl,rfl⟩) ⟨g6d,g8d,s4d⟩ ?_
 try simp only [Act.put,List.setIfInBounds_toArray,List.set_cons_zero,List.set_cons_succ,List.getElem_toArray,List.getElem_cons_succ,List.getElem_cons_zero]
 refine wpAnyH_take (i:=18) (v:=undef) rfl (by kernel_rfl) (by kernel_rfl) (by kernel_rfl) (fun _ _ _ h=>h) (Or.inr ⟨by rfl,rfl⟩) ⟨g6d,g8d,s4d⟩ ?_
 try simp only [Act.put,List.setIfInBounds_toArray,List.set_cons_zero,List.set_cons_succ,List.getElem_toArray,List.getElem_cons_succ,List.getElem_cons_zero]
 refine wpAnyH_take (i:=19) (v:=undef) rfl (by kernel_rfl) (by kernel_rfl) (by kernel_rfl) (fun _ _ _ h=>h) (Or.inr ⟨by rfl,rfl⟩) ⟨g6d,g8d,s4d⟩ ?_
 try simp only [Act.put,List.setIfInBounds_toArray,List.set_cons_zero,List.set_cons_succ,List.getElem_toArray,List.getElem_cons_succ,List.getElem_cons_zero]
 refine wpAnyH_take (i:=20) (v:=undef) rfl (by kernel_rfl) (by kernel_rfl) (by kernel_rfl) (fun _ _ _ h=>h) (Or.inr ⟨by rfl,rfl⟩) ⟨g6d,g8d,s4d⟩ ?_
 try simp only [Act.put,List.setIfInBounds_toArray,List.set_cons_zero,List.set_cons_succ,List.getElem_toArray,List.getElem_cons_succ,List.getElem_cons_zero]
 refine wpAnyH_take (i:=21) (v:=undef) rfl (by kernel_rfl) (by kernel_rfl) (by kernel_rfl) (fun _ _ _ h=>h) (Or.inr ⟨by rfl,rfl⟩) ⟨g6d,g8d,s4d⟩ ?_
 try simp only [Act.put,List.setIfInBounds_toArray,List.set_cons_zero,List.set_cons_succ,List.getElem_toArray,List.getElem_cons_succ,List.getElem_cons_zero]
 refine wpAnyH_take (i:=22) (v:=undef) rfl (by kernel_rfl) (by kernel_rfl) (by kernel_rfl) (fun _ _ _ h=>h) (Or.inr ⟨by rfl,rfl⟩) ⟨g6d,g8d,s4d⟩ ?_
 try simp only [Act.put,List.setIfInBounds_toArray,List.set_cons_zero,List.set_cons_succ,List.getElem_toArray,List.getElem_cons_succ,List.getElem_cons_zero]
 refine wpAnyH_take (i:=23) (v:=undef) rfl (by kernel_rfl) (by kernel_rfl) (by kernel_rfl) (fun _ _ _ h=>h) (Or.inr ⟨by rfl,rfl⟩) ⟨g6d,g8d,s4d⟩ ?_
 try simp only [Act.put,List.setIfInBounds_toArray,List.set_cons_zero,List.set_cons_succ,List.getElem_toArray,List.getElem_cons_succ,List.getElem_cons_zero]
 refine' wpAnyH_take (i:=24) (v:=_) rfl (by kernel_rfl) (by kernel_rfl) (by kernel_rfl) (fun _ _ _ h=>h) (Or.inl ⟨by rfl,?hy24⟩) ⟨g6d,g8d,s4d⟩ ?rest24
 case hy24=>(intro w' hSw;(try dsimp only at hSw);go_simp;(try with_reducible rfl))
 try simp only [Act.put,List.setIfInBounds_toArray,List.set_cons_zero,List.set_cons_succ,List.getElem_toArray,List.getElem_cons_succ,List.getElem_cons_zero]
 refine' wpAnyH_take (i:=25) (v:=_) rfl (by kernel_rfl) (by kernel_rfl) (by kernel_rfl) (fun _ _ _ h=>h) (Or.inl ⟨by rfl,?hy25⟩) ⟨g6d,g8d,s4d⟩ ?rest25
 case hy25=>(intro w' hSw;(try dsimp only at hSw);go_simp;(try with_reducible rfl))
 try simp only [Act.put,List.setIfInBounds_toArray,List.set_cons_zero,List.set_cons_succ,List.getElem_toArray,List.getElem_cons_succ,List.getElem_cons_zero]
 refine' wpAnyH_take (i:=26) (v:=_) rfl (by kernel_rfl) (by kernel_rfl) (by kernel_rfl) (fun _ _ _ h=>h) (Or.inl ⟨by rfl,?hy26⟩) ⟨g6d,g8d,s4d⟩ ?rest26
 case hy26=>(intro w' hSw;(try dsimp only at hSw);go_simp;(try with_reducible rfl))
 try simp only [Act.put,List.setIfInBounds_toArray,List.set_cons_zero,List.set_cons_succ,List.getElem_toArray,List.getElem_cons_succ,List.getElem_cons_zero]
 refine wpAnyH_done (by kernel_rfl) ?_ _;go_wp2_with fail;go_ret;exact⟨Qr (by simp only [Gk,HNN.out,H9t.out,HIT.out,HE.out,HKK.out] <;> rfl),HX6.out.trans hxd⟩
end Go.Proofs.YtmidgcldljfkcaaGreatDoor
