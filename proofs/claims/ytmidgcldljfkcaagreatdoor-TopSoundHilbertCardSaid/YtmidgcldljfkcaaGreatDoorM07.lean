/- natural's checker: subproof, assumed. -/
import Derived.Test.YtmidgcldljfkcaaGreatDoorM01
import Derived.Test.YtmidgcldljfkcaaGreatDoorM05
import Derived.Test.YtmidgcldljfkcaaGreatDoorM06
import Derived.Deep.RegionHeld3
namespace Go.Proofs.YtmidgcldljfkcaaGreatDoor
set_option maxRecDepth 100000
set_option maxHeartbeats 128000000
open Go.RowKit
theorem Qsp {w:World} {b:Nat} {lg:Int} {ls:List Ln} {fs:List (List Nd)} {st:List (List Int)}(h:Chk w b lg ls fs st)(i k:Nat)(n:Ln)(j:Int)(hi:ls[i]?=some n)(hk:n.from_[k]?=some j)(hj:j < 0\/(i:Int)<=j):
 Calls Tryz.prog 200 #[.pointer (some ⟨b,0,none⟩),.int .i64 i,.int .i64 (k:Int)] w fun e w'=>e=.returned (.tuple #[.int .i64 0,.slice none 0 0,.bool false])/\Ext w w':=by
 obtain⟨ad,c,vf,vs,uf,ur,hc1,hc2,hlt,d0,d1,d2,d3,q0,q1,q2,q3,q4,_,⟨Ar,cr,rfl,hir⟩⟩:=h.line hi;obtain⟨adr,rfl,hbr,hcr⟩:=hir.2.2 (by intro e;rw [e]at hk;simp at hk);have r0:=hcr k j hk;have hkl:k < n.from_.length:=(List.getElem?_eq_some_iff.1 hk).1;have hrc:=hir.1;have hrm:=hir.2.1;unfold maxLen at hrm;have hil:i < ls.length:=(List.getElem?_eq_some_iff.1 hi).1;clear h hi hk hir hcr;by_cases h0:j < 0
 ·clear hj;go_enter Tryz.func200,Tryz.ntmps200;go_wp2_with fail;go_ret3;exact⟨rfl,Qz⟩
 have h1:(i:Int)<=j:=by omega
 clear hj;go_enter Tryz.func200,Tryz.ntmps200;go_wp2_with fail;go_ret3;exact⟨rfl,Qz⟩
theorem Qbz {w:World} {b:Nat} {lg:Int} {ls:List Ln} {fs:List (List Nd)} {st:List (List Int)}(h:Chk w b lg ls fs st)(i k:Nat)(n:Ln)(j:Nat)(m:Ln)(hi:ls[i]?=some n)(hk:n.from_[k]?=some (j:Int))(hj:j < i)(hm:ls[j]?=some m)(ho:Kk m=false):
 Calls Tryz.prog 200 #[.pointer (some ⟨b,0,none⟩),.int .i64 i,.int .i64 (k:Int)] w fun e w'=>e=.returned (.tuple #[.int .i64 0,.slice none 0 0,.bool false])/\Ext w w':=by
 obtain⟨ad,c,vf,vs,uf,ur,hc1,hc2,hlt,d0,d1,d2,d3,q0,q1,q2,q3,q4,_,⟨Ar,cr,rfl,hir⟩⟩:=h.line hi;obtain⟨adr,rfl,hbr,hcr⟩:=hir.2.2 (by intro e;rw [e]at hk;simp at hk);have r0:=hcr k j hk;have hkl:k < n.from_.length:=(List.getElem?_eq_some_iff.1 hk).1;have hrc:=hir.1;have hrm:=hir.2.1;unfold maxLen at hrm;have hil:i < ls.length:=(List.getElem?_eq_some_iff.1 hi).1;have HOP:=Qq (Mp h j m hm);have HO:=Qq ho;clear h hi hk hir hcr hm ho;go_enter Tryz.func200,Tryz.ntmps200;go_wp2_with fail;refine HOP.out.mono ?_;rintro e w1 ⟨rfl,hx⟩;rw [HO.out];go_wp2_with fail;go_ret3;exact⟨rfl,hx⟩
structure Bl (ls:List Ln) (st:List (List Int)) (i j lv:Nat) (si sj:List Int):Prop where
 all:si.take lv=sj.take lv/\(j:Int)∉si/\Jv ls (si.drop lv)= []/\(st.getD (Gp st j i) []).length=sj.length
inductive Xr (ls:List Ln) (fs:List (List Nd)) (st:List (List Int)) (i j lv:Nat) (si sj:List Int) (w:World) (e:Ending) (w':World):Prop where
 |yes {u:Value} (h:Bl ls st i j lv si sj) (he:e=.returned (.tuple #[.int .i64 j,u,.bool true])) (hx:Ext w w') (hf:Fml w' u (fs.getD (Gp st j i) []))
 |no {z:Int} {u:Value} (h:¬Bl ls st i j lv si sj) (he:e=.returned (.tuple #[.int .i64 z,u,.bool false])) (hx:Ext w w')
theorem Qs2 {w:World} {b:Nat} {lg:Int} {ls:List Ln} {fs:List (List Nd)} {st:List (List Int)}(h:Chk w b lg ls fs st)(hst:Qv2 ls st)(i k:Nat)(n:Ln)(j:Nat)(m:Ln)(si sj:List Int)(hi:ls[i]?=some n)(hk:n.from_[k]?=some (j:Int))(hj:j < i)(hm:ls[j]?=some m)(ho:Kk m=true)
 (hsi:st[i]?=some si)(hsj:st[j]?=some sj)(hpos:0 < sj.length)(hif:i<=fs.length):
 Calls Tryz.prog 200 #[.pointer (some ⟨b,0,none⟩),.int .i64 i,.int .i64 (k:Int)] w (Xr ls fs st i j (sj.length - 1) si sj w):=by
 obtain⟨ad,c,vf,vs,uf,ur,hc1,hc2,hlt,d0,d1,d2,d3,q0,q1,q2,q3,q4,_,⟨Ar,cr,rfl,hir⟩⟩:=h.line hi;obtain⟨adr,rfl,hbr,hcr⟩:=hir.2.2 (by intro e;rw [e]at hk;simp at hk);have r0:=hcr k j hk;have hkl:k < n.from_.length:=(List.getElem?_eq_some_iff.1 hk).1;have hrc:=hir.1;have hrm:=hir.2.1;unfold maxLen at hrm;have hil:i < ls.length:=(List.getElem?_eq_some_iff.1 hi).1;have HOP:=Qq (Mp h j m hm);have HO:=Qq ho;have H:=Qq h;have HST:=Qq hst;have HSI:=Qq hsi;have HSJ:=Qq hsj;have hit:i < st.length:=(List.getElem?_eq_some_iff.1 hsi).1;have HSIok:=Qq (hst si (List.mem_of_getElem? hsi));obtain⟨lv,hlv⟩:∃lv,sj.length=lv+1:=⟨sj.length - 1,by omega⟩
 have HLV:=Qq hlv;have e1:(sj.length:Int) - 1=(lv:Int):=by omega
 rw [show sj.length - 1=lv by omega];clear h hst hi hk hir hcr hm ho hsi hsj;go_enter Tryz.func200,Tryz.ntmps200;go_wp2_with fail;refine HOP.out.mono ?_;rintro e w1 ⟨rfl,hx⟩;rw [HO.out];have HX:=Qq hx;clear hx;obtain⟨ad2,c2,vl2,vf2,Ai,Aj,ci,cj,g1,g2,g3,g4,g5,g6,g7,g8,g9,gI,gJ⟩:=(H.out.ext HX.out).stack HSI.out HSJ.out;have HI:=Qq gI;have HJ:=Qq gJ;have hci:=gI.1;have hcim:=gI.2.1;have hcj:=gJ.1;have hcjm:=gJ.2.1;unfold maxLen at hcim hcjm;clear gI gJ;by_cases hle:si.length < lv
 ·have hne:¬Bl ls st i j lv si sj:=fun e=>by
   have:=congrArg List.length e.all.1;have h2:=HLV.out;simp at this;omega
  have HNE:=Qq hne;have hle2:decide (si.length < lv)=true:=by simpa using hle
  clear hne;go_wp2_with fail;go_quiet (fail);go_wp2_with fail;go_ret3;exact Xr.no HNE.out rfl (HX.out.trans (Qz.drewN _))
 have hle2:decide (si.length < lv)=false:=by simpa using hle
 have hle3:lv<=si.length:=by omega
 have hle4:lv<=ci:=by omega
 have hle5:(lv:Int)<=(ci:Int):=by omega
 have HD:=Qq (Zi.drop_ HI.out hle3);clear hle;by_cases hcn:ci=lv
 ·rw [if_pos hcn,hcn,Nat.sub_self]at HD;rw [show si.length - lv=0 by omega]at HD;have hcn':=hcn.symm;subst hcn';go_wp2_with fail;go_quiet (fail);go_wp2_with fail;refine(Qza _ _ (si.take lv) (sj.take lv) _ ((Zi.take_ HI.out hle3).ext (Qz.drewN _)) ((Zi.take_ HJ.out (by have:=HLV.out;omega)).ext (Qz.drewN _))).mono ?_;rintro e w2 ⟨rfl,hx2⟩;have HX12:=Qq (((Ext.refl w1).drewN _).trans hx2);have HX2:=Qq (HX.out.trans HX12.out);clear hx2;cases hE:decide (si.take lv=sj.take lv)
  case false =>
   have HNE:=Qq (show ¬Bl ls st i j lv si sj from fun e=>(of_decide_eq_false hE) e.all.1);clear hE;go_wp2_with fail;go_ret3;exact Xr.no HNE.out rfl HX2.out
  case true =>
   have HE:=Qq (of_decide_eq_true hE);clear hE;go_wp2_with fail;refine(Bb _ si j w2 ((show Zi w1 (.slice Ai si.length _) si from⟨_,_,rfl,HI.out⟩).ext HX12.out)).mono ?_;rintro e w3 ⟨rfl,hx3⟩;have HX13:=Qq (HX12.out.trans hx3);have HX3:=Qq (HX2.out.trans hx3);clear hx3;cases hC:decide ((j:Int)∈si)
   case true =>
    have HNE:=Qq (show ¬Bl ls st i j lv si sj from fun e=>e.all.2.1 (of_decide_eq_true hC));clear hC;go_wp2_with fail;go_ret3;exact Xr.no HNE.out rfl HX3.out
   case false =>
    have HC:=Qq hC;clear hC;go_wp2_with fail;refine(Uo (H.out.ext HX3.out) _ (si.drop lv) (HD.out.ext HX13.out) (fun o ho=>HSIok.out.2 o (List.mem_of_mem_drop ho)) (by have:=HSIok.out.1;rw [List.length_drop];omega)).mono ?_;rintro e w4 ⟨ub,rfl,hmb⟩;obtain⟨Ab,cb,rfl,_⟩:=hmb.ints;have HX4:=Qq (HX3.out.trans hmb.2);clear hmb;by_cases hbx:(Jv ls (si.drop lv)).length=0
    ·have HBX:=Qq hbx;rw [hbx];clear hbx;go_wp2_with fail;go_loopw [13] (fun v wr=>∃l:Nat,v=.int .i64 l/\j<=l/\l < i/\Hid (∃f,i<=l+f/\Tj st j i f l=Gp st j i)/\Hid (Ext w wr)) (fun v _=>i - (intOf v).toNat)
     case atStart=>exact⟨j,rfl,Nat.le_refl _,hj,Qq ⟨i,by omega,rfl⟩,Qq HX4.out⟩
     case round =>
      obtain⟨l,rfl,hl1,hl2,HF,HXR⟩:=hrel;by_cases hlt2:l+1 < i
      ·obtain⟨sn,hsn⟩:∃sn,st[l+1]?=some sn:=⟨_,List.getElem?_eq_getElem (by omega)⟩;obtain⟨ad5,c5,vl5,vf5,A5,B5,k5,m5,t1,t2,t3,t4,t5,t6,t7,t8,t9,tI,_⟩:=(H.out.ext HXR.out).stack hsn hsn;have HTI:=Qq tI;have t8:wr.cell? ⟨ad5.block,ad5.off+(l+1),none⟩=some (.slice A5 sn.length k5):=by simpa [Addr.add]using t8
       have HSN:Hid (st.getD (l+1) []=sn):=Qq (by rw [Qk,hsn];rfl);have hlt3:(l:Int)+1 < (i:Int):=by omega
       have hlt4:(l:Int)+1 < (st.length:Int):=by omega
       have hlt5:(0:Int)<=(l:Int)+1:=by omega
       have hlt6:((l:Int)+1).toNat=l+1:=by omega
       have HLT:=Qq hlt2;clear hsn t5 t6 t9 tI;go_wp2_with fail;refine(Bb _ sn j _ ⟨_,_,rfl,HTI.out⟩).mono ?_;rintro e w6 ⟨rfl,hx6⟩;have HX6:=Qq (HXR.out.trans hx6);clear hx6;cases hM:decide ((j:Int)∈sn)
       case true =>
        have HM:=Qq hM;clear hM;go_wp2_with fail;go_roundw
        case rel =>
         refine⟨l+1,by go_num,by omega,HLT.out,Qq ?_,Qq HX6.out⟩;obtain⟨f,hf1,hf2⟩:=HF.out;cases f with
         |zero=>omega
         |succ f =>
          refine⟨f,by omega,?_⟩;rw [<-hf2]
          conv=>rhs;unfold Tj
          rw [HSN.out,HM.out,decide_eq_true HLT.out];rfl
        case measure=>simp [intOf];omega
       case false =>
        have HM:=Qq hM;clear hM t1 t2 t3 t4 t7 t8;have HFL:Hid (Gp st j i=l):=Qq (by
         obtain⟨f,hf1,hf2⟩:=HF.out;rw [<-hf2];cases f with
         |zero=>rfl
         |succ f=>unfold Tj;rw [HSN.out,HM.out,Bool.and_false];rfl)
        obtain⟨sl,hsl⟩:∃sl,st[l]?=some sl:=⟨_,List.getElem?_eq_getElem (by omega)⟩;obtain⟨fl,hfl⟩:∃fl,fs[l]?=some fl:=⟨_,List.getElem?_eq_getElem (by omega)⟩;have hlf:l < fs.length:=by omega
        have hls:l < st.length:=by omega
        obtain⟨ad3,c3,vl3,vf3,A3,B3,k3,m3,p1,p2,p3,p4,p5,p6,p7,p8,p9,pI,_⟩:=(H.out.ext HX6.out).stack hsl hsl;obtain⟨ad4,c4,vl4,vs4,A4,k4,o1,o2,o3,o4,o5,o6,o7,o8,o9⟩:=(H.out.ext HX6.out).form hfl;have HF4:=Qq o9;have HGS:Hid (st.getD (Gp st j i) []=sl):=Qq (by rw [HFL.out,Qk,hsl];rfl);have HGF:Hid (fs.getD (Gp st j i) []=fl):=Qq (by rw [HFL.out,Qk,hfl];rfl);have hli0:(0:Int)<=(l:Int):=by omega
        have hli1:(l:Int) < (st.length:Int):=by omega
        have hli2:(l:Int) < (fs.length:Int):=by omega
        clear hsl hfl p5 p6 p9 pI o5 o7 o9;by_cases hfin:sl.length=lv+1
        ·have HL2:=Qq hfin;rw [hfin]at p8;clear hfin;go_wp2_with fail;go_quiet (fail);go_wp2_with fail;go_ret3;exact Xr.yes ⟨⟨HE.out,of_decide_eq_false HC.out,List.length_eq_zero_iff.1 HBX.out,by rw [HGS.out,HLV.out];exact HL2.out⟩⟩ rfl (HX6.out.drewN _) (by rw [HGF.out];exact HF4.out.ext (Qz.drewN _))
        have hd:((sl.length:Int) !=(lv:Int)+1)=true:=by simp;omega
        have HL2:=Qq hfin;clear hfin;go_wp2_with fail;go_ret3;exact Xr.no (fun e=>HL2.out (by have:=e.all.2.2.2;rw [HGS.out,HLV.out]at this;exact this)) rfl HX6.out
      clear HX4;have HFL:Hid (Gp st j i=l):=Qq (by
       obtain⟨f,hf1,hf2⟩:=HF.out;rw [<-hf2];cases f with
       |zero=>rfl
       |succ f=>unfold Tj;rw [decide_eq_false hlt2,Bool.false_and];rfl)
      obtain⟨sl,hsl⟩:∃sl,st[l]?=some sl:=⟨_,List.getElem?_eq_getElem (by omega)⟩;obtain⟨fl,hfl⟩:∃fl,fs[l]?=some fl:=⟨_,List.getElem?_eq_getElem (by omega)⟩;have hlf:l < fs.length:=by omega
      have hls:l < st.length:=by omega
      obtain⟨ad3,c3,vl3,vf3,A3,B3,k3,m3,p1,p2,p3,p4,p5,p6,p7,p8,p9,pI,_⟩:=(H.out.ext HXR.out).stack hsl hsl;obtain⟨ad4,c4,vl4,vs4,A4,k4,o1,o2,o3,o4,o5,o6,o7,o8,o9⟩:=(H.out.ext HXR.out).form hfl;have HF4:=Qq o9;have HGS:Hid (st.getD (Gp st j i) []=sl):=Qq (by rw [HFL.out,Qk,hsl];rfl);have HGF:Hid (fs.getD (Gp st j i) []=fl):=Qq (by rw [HFL.out,Qk,hfl];rfl);have hli0:(0:Int)<=(l:Int):=by omega
      have hli1:(l:Int) < (st.length:Int):=by omega
      have hli2:(l:Int) < (fs.length:Int):=by omega
      clear hsl hfl p5 p6 p9 pI o5 o7 o9;by_cases hfin:sl.length=lv+1
      ·have HL2:=Qq hfin;rw [hfin]at p8;clear hfin;go_wp2_with fail;go_quiet (fail);go_wp2_with fail;go_ret3;exact Xr.yes ⟨⟨HE.out,of_decide_eq_false HC.out,List.length_eq_zero_iff.1 HBX.out,by rw [HGS.out,HLV.out];exact HL2.out⟩⟩ rfl (HXR.out.drewN _) (by rw [HGF.out];exact HF4.out.ext (Qz.drewN _))
      have hd:((sl.length:Int) !=(lv:Int)+1)=true:=by simp;omega
      have HL2:=Qq hfin;clear hfin;go_wp2_with fail;go_ret3;exact Xr.no (fun e=>HL2.out (by have:=e.all.2.2.2;rw [HGS.out,HLV.out]at this;exact this)) rfl HXR.out
    have hpos0:0 < (Jv ls (si.drop lv)).length:=by omega
    have HNE:=Qq (show ¬Bl ls st i j lv si sj from fun e=>hbx (List.length_eq_zero_iff.2 e.all.2.2.1));clear hbx;go_wp2_with fail;go_ret3;exact Xr.no HNE.out rfl HX4.out
 rw [if_neg hcn]at HD;go_wp2_with fail;go_quiet (fail);go_wp2_with fail;refine(Qza _ _ (si.take lv) (sj.take lv) _ ((Zi.take_ HI.out hle3).ext (Qz.drewN _)) ((Zi.take_ HJ.out (by have:=HLV.out;omega)).ext (Qz.drewN _))).mono ?_;rintro e w2 ⟨rfl,hx2⟩;have HX12:=Qq (((Ext.refl w1).drewN _).trans hx2);have HX2:=Qq (HX.out.trans HX12.out);clear hx2;cases hE:decide (si.take lv=sj.take lv)
 case false =>
  have HNE:=Qq (show ¬Bl ls st i j lv si sj from fun e=>(of_decide_eq_false hE) e.all.1);clear hE;go_wp2_with fail;go_ret3;exact Xr.no HNE.out rfl HX2.out
 case true =>
  have HE:=Qq (of_decide_eq_true hE);clear hE;go_wp2_with fail;refine(Bb _ si j w2 ((show Zi w1 (.slice Ai si.length _) si from⟨_,_,rfl,HI.out⟩).ext HX12.out)).mono ?_;rintro e w3 ⟨rfl,hx3⟩;have HX13:=Qq (HX12.out.trans hx3);have HX3:=Qq (HX2.out.trans hx3);clear hx3;cases hC:decide ((j:Int)∈si)
  case true =>
   have HNE:=Qq (show ¬Bl ls st i j lv si sj from fun e=>e.all.2.1 (of_decide_eq_true hC));clear hC;go_wp2_with fail;go_ret3;exact Xr.no HNE.out rfl HX3.out
  case false =>
   have HC:=Qq hC;clear hC;go_wp2_with fail;refine(Uo (H.out.ext HX3.out) _ (si.drop lv) (HD.out.ext HX13.out) (fun o ho=>HSIok.out.2 o (List.mem_of_mem_drop ho)) (by have:=HSIok.out.1;rw [List.length_drop];omega)).mono ?_;rintro e w4 ⟨ub,rfl,hmb⟩;obtain⟨Ab,cb,rfl,_⟩:=hmb.ints;have HX4:=Qq (HX3.out.trans hmb.2);clear hmb;by_cases hbx:(Jv ls (si.drop lv)).length=0
   ·have HBX:=Qq hbx;rw [hbx];clear hbx;go_wp2_with fail;go_loopw [13] (fun v wr=>∃l:Nat,v=.int .i64 l/\j<=l/\l < i/\Hid (∃f,i<=l+f/\Tj st j i f l=Gp st j i)/\Hid (Ext w wr)) (fun v _=>i - (intOf v).toNat)
    case atStart=>exact⟨j,rfl,Nat.le_refl _,hj,Qq ⟨i,by omega,rfl⟩,Qq HX4.out⟩
    case round =>
     obtain⟨l,rfl,hl1,hl2,HF,HXR⟩:=hrel;by_cases hlt2:l+1 < i
     ·obtain⟨sn,hsn⟩:∃sn,st[l+1]?=some sn:=⟨_,List.getElem?_eq_getElem (by omega)⟩;obtain⟨ad5,c5,vl5,vf5,A5,B5,k5,m5,t1,t2,t3,t4,t5,t6,t7,t8,t9,tI,_⟩:=(H.out.ext HXR.out).stack hsn hsn;have HTI:=Qq tI;have t8:wr.cell? ⟨ad5.block,ad5.off+(l+1),none⟩=some (.slice A5 sn.length k5):=by simpa [Addr.add]using t8
      have HSN:Hid (st.getD (l+1) []=sn):=Qq (by rw [Qk,hsn];rfl);have hlt3:(l:Int)+1 < (i:Int):=by omega
      have hlt4:(l:Int)+1 < (st.length:Int):=by omega
      have hlt5:(0:Int)<=(l:Int)+1:=by omega
      have hlt6:((l:Int)+1).toNat=l+1:=by omega
      have HLT:=Qq hlt2;clear hsn t5 t6 t9 tI;go_wp2_with fail;refine(Bb _ sn j _ ⟨_,_,rfl,HTI.out⟩).mono ?_;rintro e w6 ⟨rfl,hx6⟩;have HX6:=Qq (HXR.out.trans hx6);clear hx6;cases hM:decide ((j:Int)∈sn)
      case true =>
       have HM:=Qq hM;clear hM;go_wp2_with fail;go_roundw
       case rel =>
        refine⟨l+1,by go_num,by omega,HLT.out,Qq ?_,Qq HX6.out⟩;obtain⟨f,hf1,hf2⟩:=HF.out;cases f with
        |zero=>omega
        |succ f =>
         refine⟨f,by omega,?_⟩;rw [<-hf2]
         conv=>rhs;unfold Tj
         rw [HSN.out,HM.out,decide_eq_true HLT.out];rfl
       case measure=>simp [intOf];omega
      case false =>
       have HM:=Qq hM;clear hM t1 t2 t3 t4 t7 t8;have HFL:Hid (Gp st j i=l):=Qq (by
        obtain⟨f,hf1,hf2⟩:=HF.out;rw [<-hf2];cases f with
        |zero=>rfl
        |succ f=>unfold Tj;rw [HSN.out,HM.out,Bool.and_false];rfl)
       obtain⟨sl,hsl⟩:∃sl,st[l]?=some sl:=⟨_,List.getElem?_eq_getElem (by omega)⟩;obtain⟨fl,hfl⟩:∃fl,fs[l]?=some fl:=⟨_,List.getElem?_eq_getElem (by omega)⟩;have hlf:l < fs.length:=by omega
       have hls:l < st.length:=by omega
       obtain⟨ad3,c3,vl3,vf3,A3,B3,k3,m3,p1,p2,p3,p4,p5,p6,p7,p8,p9,pI,_⟩:=(H.out.ext HX6.out).stack hsl hsl;obtain⟨ad4,c4,vl4,vs4,A4,k4,o1,o2,o3,o4,o5,o6,o7,o8,o9⟩:=(H.out.ext HX6.out).form hfl;have HF4:=Qq o9;have HGS:Hid (st.getD (Gp st j i) []=sl):=Qq (by rw [HFL.out,Qk,hsl];rfl);have HGF:Hid (fs.getD (Gp st j i) []=fl):=Qq (by rw [HFL.out,Qk,hfl];rfl);have hli0:(0:Int)<=(l:Int):=by omega
       have hli1:(l:Int) < (st.length:Int):=by omega
       have hli2:(l:Int) < (fs.length:Int):=by omega
       clear hsl hfl p5 p6 p9 pI o5 o7 o9;by_cases hfin:sl.length=lv+1
       ·have HL2:=Qq hfin;rw [hfin]at p8;clear hfin;go_wp2_with fail;go_quiet (fail);go_wp2_with fail;go_ret3;exact Xr.yes ⟨⟨HE.out,of_decide_eq_false HC.out,List.length_eq_zero_iff.1 HBX.out,by rw [HGS.out,HLV.out];exact HL2.out⟩⟩ rfl (HX6.out.drewN _) (by rw [HGF.out];exact HF4.out.ext (Qz.drewN _))
       have hd:((sl.length:Int) !=(lv:Int)+1)=true:=by simp;omega
       have HL2:=Qq hfin;clear hfin;go_wp2_with fail;go_ret3;exact Xr.no (fun e=>HL2.out (by have:=e.all.2.2.2;rw [HGS.out,HLV.out]at this;exact this)) rfl HX6.out
     clear HX4;have HFL:Hid (Gp st j i=l):=Qq (by
      obtain⟨f,hf1,hf2⟩:=HF.out;rw [<-hf2];cases f with
      |zero=>rfl
      |succ f=>unfold Tj;rw [decide_eq_false hlt2,Bool.false_and];rfl)
     obtain⟨sl,hsl⟩:∃sl,st[l]?=some sl:=⟨_,List.getElem?_eq_getElem (by omega)⟩;obtain⟨fl,hfl⟩:∃fl,fs[l]?=some fl:=⟨_,List.getElem?_eq_getElem (by omega)⟩;have hlf:l < fs.length:=by omega
     have hls:l < st.length:=by omega
     obtain⟨ad3,c3,vl3,vf3,A3,B3,k3,m3,p1,p2,p3,p4,p5,p6,p7,p8,p9,pI,_⟩:=(H.out.ext HXR.out).stack hsl hsl;obtain⟨ad4,c4,vl4,vs4,A4,k4,o1,o2,o3,o4,o5,o6,o7,o8,o9⟩:=(H.out.ext HXR.out).form hfl;have HF4:=Qq o9;have HGS:Hid (st.getD (Gp st j i) []=sl):=Qq (by rw [HFL.out,Qk,hsl];rfl);have HGF:Hid (fs.getD (Gp st j i) []=fl):=Qq (by rw [HFL.out,Qk,hfl];rfl);have hli0:(0:Int)<=(l:Int):=by omega
     have hli1:(l:Int) < (st.length:Int):=by omega
     have hli2:(l:Int) < (fs.length:Int):=by omega
     clear hsl hfl p5 p6 p9 pI o5 o7 o9;by_cases hfin:sl.length=lv+1
     ·have HL2:=Qq hfin;rw [hfin]at p8;clear hfin;go_wp2_with fail;go_quiet (fail);go_wp2_with fail;go_ret3;exact Xr.yes ⟨⟨HE.out,of_decide_eq_false HC.out,List.length_eq_zero_iff.1 HBX.out,by rw [HGS.out,HLV.out];exact HL2.out⟩⟩ rfl (HXR.out.drewN _) (by rw [HGF.out];exact HF4.out.ext (Qz.drewN _))
     have hd:((sl.length:Int) !=(lv:Int)+1)=true:=by simp;omega
     have HL2:=Qq hfin;clear hfin;go_wp2_with fail;go_ret3;exact Xr.no (fun e=>HL2.out (by have:=e.all.2.2.2;rw [HGS.out,HLV.out]at this;exact this)) rfl HXR.out
   have hpos0:0 < (Jv ls (si.drop lv)).length:=by omega
   have HNE:=Qq (show ¬Bl ls st i j lv si sj from fun e=>hbx (List.length_eq_zero_iff.2 e.all.2.2.1));clear hbx;go_wp2_with fail;go_ret3;exact Xr.no HNE.out rfl HX4.out
theorem getD_some {α:Type} {l:List α} {k:Nat} {d:α}(h:k < l.length):l[k]?=some (l.getD k d):=by
 rw [Qk,Qv h];rfl
theorem Qyd {ls:List Ln} {st:List (List Int)} {i j:Nat} :Co ls st i j=true↔Bl ls st i j ((st.getD j []).length - 1) (st.getD i []) (st.getD j []):=by
 unfold Co;rw [Bool.and_eq_true,Bool.and_eq_true,Bool.and_eq_true,decide_eq_true_iff,decide_eq_true_iff,Bool.not_eq_true',decide_eq_false_iff_not,List.isEmpty_iff];exact⟨fun h=>⟨h⟩,fun h=>h.all⟩
theorem Wq {w:World} {b:Nat} {lg:Int} {ls:List Ln} {fs:List (List Nd)} {st:List (List Int)} {i:Nat} {n:Ln} {fi:List Nd}(h:Chk w b lg ls fs st)(ok:Vb ls fs st i n fi)(k:Nat)(j:Int)(hk:n.from_[k]?=some j):
 Calls Tryz.prog 200 #[.pointer (some ⟨b,0,none⟩),.int .i64 i,.int .i64 (k:Int)] w fun e w'=>∃z u,e=.returned (.tuple #[.int .i64 z,u,.bool (Bx ls fs st i j).isSome])/\Ext w w'/\∀r,Bx ls fs st i j=some r->z=r.1/\Fml w' u r.2:=by
 by_cases hj:j < 0\/(i:Int)<=j
 ·have hs:Bx ls fs st i j=none:=by unfold Bx;rw [if_pos hj]
  refine(Qsp h i k n j ok.n_at hk hj).mono ?_;rintro e w' ⟨rfl,hx⟩;exact⟨0,.slice none 0 0,by rw [hs];rfl,hx,fun r hr=>by rw [hs]at hr;cases hr⟩
 obtain⟨jn,rfl⟩:=Int.eq_ofNat_of_zero_le (show 0<=j by omega);have hji:jn < i:=by omega
 have hil:i < ls.length:=(List.getElem?_eq_some_iff.1 ok.n_at).1;have hm:=Ua (ls:=ls) (o:=(jn:Int)) (by omega) (by omega);rw [Int.toNat_natCast]at hm;have hs:Bx ls fs st i (jn:Int)=bif Kk (Js ls jn)&&Co ls st i jn then some ((jn:Int),fs.getD (Gp st jn i) [])else none:=by
  unfold Bx;rw [if_neg hj,Int.toNat_natCast]
 cases ho:Kk (Js ls jn)
 ·refine(Qbz h i k n jn _ ok.n_at hk hji hm ho).mono ?_;rintro e w' ⟨rfl,hx⟩;rw [ho]at hs;exact⟨0,.slice none 0 0,by rw [hs];rfl,hx,fun r hr=>by rw [hs]at hr;cases hr⟩
 rw [ho,Bool.true_and]at hs;have hsi:=getD_some (d:= []) ok.st_lt;have hsj:=getD_some (l:=st) (k:=jn) (d:= []) (by have:=ok.st_lt;omega);refine(Qs2 h ok.st_ok i k n jn _ _ _ ok.n_at hk hji hm ho hsi hsj (ok.op jn _ _ hm hsj ho) ok.fs_le).mono ?_;rintro e w' hp;cases hp with
 |yes hg he hx hf =>
  rw [Qyd.2 hg]at hs;exact⟨_,_,by rw [hs];exact he,hx,fun r hr=>by rw [hs]at hr;injection hr with hr;subst hr;exact⟨rfl,hf⟩⟩
 |no hg he hx =>
  have:Co ls st i jn=false:=by
   cases hb:Co ls st i jn
   ·rfl
   exact absurd (Qyd.1 hb) hg
  rw [this]at hs;exact⟨_,_,by rw [hs];exact he,hx,fun r hr=>by rw [hs]at hr;cases hr⟩
theorem Ej {ls:List Ln} {fs:List (List Nd)} {st:List (List Int)} {i:Nat} {j:Int} {r:Int×List Nd}(h:Bx ls fs st i j=some r):r.1=j/\0<=j/\j < i:=by
 unfold Bx at h
 split at h
 ·cases h
 rename_i hj;cases hb:Kk (Js ls j)&&Co ls st i j.toNat
 ·rw [hb]at h;cases h
 rw [hb]at h;injection h with h;subst h;exact⟨rfl,by omega,by omega⟩
theorem Sw {w:World} {b:Nat} {lg:Int} {ls:List Ln} {fs:List (List Nd)} {st:List (List Int)} {i:Nat} {n:Ln} {fi:List Nd}(h:Chk w b lg ls fs st)(ok:Vb ls fs st i n fi)(k:Nat)(j:Int)(hk:n.from_[k]?=some j):
 Calls Tryz.prog 198 #[.pointer (some ⟨b,0,none⟩),.int .i64 i,.int .i64 (k:Int)] w fun e w'=>∃u1 u2,e=.returned (.tuple #[u1,u2,.bool (Kg ls fs st i j).isSome])/\Ext w w'/\∀r,Kg ls fs st i j=some r->Fml w' u1 r.1/\Fml w' u2 r.2:=by
 have H:=Qq h;have OK:=Qq ok;have HK:=Qq hk;have hil:i < ls.length:=(List.getElem?_eq_some_iff.1 ok.n_at).1;have hfl:=ok.fs_le;clear h ok hk;go_enter Tryz.func198,Tryz.ntmps198;go_wp2_with fail;refine(Wq H.out OK.out k j HK.out).mono ?_;rintro e w1 ⟨z,u,rfl,hx,hf⟩;have HX:=Qq hx;have HF:=Qq hf;clear hx hf;cases hs:Bx ls fs st i j with
 |none =>
  have HA:=Qq (show Kg ls fs st i j=none by unfold Kg;rw [hs]);clear HF hs;go_wp2_with fail;go_ret3;exact⟨.slice none 0 0,.slice none 0 0,by rw [HA.out];rfl,HX.out,fun r hr=>by rw [HA.out]at hr;cases hr⟩
 |some r =>
  obtain⟨hz,hfm⟩:=HF.out r hs;obtain⟨h1,h2,h3⟩:=Ej hs;have hzj:=hz.trans h1;subst hzj;obtain⟨zn,rfl⟩:=Int.eq_ofNat_of_zero_le h2;have hzi:zn < i:=by omega
  have hm:=Ua (ls:=ls) (o:=(zn:Int)) (by omega) (by omega);rw [Int.toNat_natCast]at hm;have hff:=getD_some (l:=fs) (k:=zn) (d:= []) (by omega);have HFM:=Qq hfm;have HS:=Qq hs;have HR:=Qq h1;have hr0:(0:Int)<=(zn:Int):=by omega
  have hr1:(zn:Int) < (ls.length:Int):=by omega
  have hr2:(zn:Int) < (fs.length:Int):=by omega
  obtain⟨ad,c,vf,vs,uf,ur,q1,q2,q3,q4,q5,q6,q7,d0,d1,d2,d3,d4,_,_⟩:=(H.out.ext HX.out).line hm;obtain⟨ad2,c2,vl2,vs2,Ai,ci,g1,g2,g3,g4,g5,g6,g7,g8,g9⟩:=(H.out.ext HX.out).form hff;have HF9:=Qq g9;have HL:Hid (Js ls r.1=Js ls zn/\r.1.toNat=zn):=Qq (by rw [h1];exact⟨rfl,Int.toNat_natCast _⟩);clear HF hs h1 h2 h3 hz hfm hm hff g9 g5 g7 q6 q7;obtain⟨ff,hfe⟩:∃ff,fs.getD zn []=ff:=⟨_,rfl⟩;rw [hfe]at HF9 g8;have HFN:=Qq hfe;clear hfe;generalize hmm:Js ls (zn:Int)=m at d0 d1 d2 d3 d4 HL;have HMM:=Qq hmm;clear hmm;cases hb:(m.rule==1)
  ·have hb2:(m.rule !=1)=true:=by rw [bne,hb];rfl
   have HA:=Qq (show Kg ls fs st i (zn:Int)=none by unfold Kg;rw [HS.out];show(bif (Js ls r.1).rule==1 then _ else _)=_;rw [HL.out.1,hb];rfl);go_wp2_with fail;go_ret3;exact⟨.slice none 0 0,.slice none 0 0,by rw [HA.out];rfl,HX.out,fun r hr=>by rw [HA.out]at hr;cases hr⟩
  have hb2:(m.rule !=1)=false:=by rw [bne,hb];rfl
  have HA:=Qq (show Kg ls fs st i (zn:Int)=some (fs.getD zn [],r.2) by unfold Kg;rw [HS.out];show(bif (Js ls r.1).rule==1 then _ else _)=_;rw [HL.out.1,hb,HL.out.2];rfl);go_wp2_with fail;go_ret3;exact⟨.slice Ai ff.length ci,u,by rw [HA.out];rfl,HX.out,fun r' hr=>by rw [HA.out]at hr;injection hr with hr;subst hr;exact⟨by rw [HFN.out];exact HF9.out,HFM.out⟩⟩
theorem Qrp {w:World} {b:Nat} {lg:Int} {ls:List Ln} {fs:List (List Nd)} {st:List (List Int)} {i:Nat} {n:Ln} {fi:List Nd}(h:Chk w b lg ls fs st)(ok:Vb ls fs st i n fi):
 Calls Tryz.prog 179 #[.pointer (some ⟨b,0,none⟩),.int .i64 i] w fun e w'=>e=.returned (.bool (Dx lg ls fs st i n fi))/\Ext w w':=by
 have H:=Qq h;have OK:=Qq ok;have HX0:=Qq (Ext.refl w);clear h ok;go_enter Tryz.func179,Tryz.ntmps179;go_wp2_with fail;refine(Ge (H.out.ext HX0.out) i n 3 OK.out.n_at).mono ?_;rintro e w1 ⟨rfl,hx⟩;have HX1:=Qq (HX0.out.trans hx);have HS1:=Qq hx;clear hx;cases hd:decide (n.from_.length=3)
 case false =>
  have D1:=Qq hd;clear hd;go_wp2_with fail;go_ret;exact⟨Qr (by simp only [Dx,D1.out] <;> rfl),HX1.out⟩
 case true =>
  have D1:=Qq hd;clear hd;have HK0:=Qq (Fs (k:=0) D1.out (by decide));have HK1:=Qq (Fs (k:=1) D1.out (by decide));have HK2:=Qq (Fs (k:=2) D1.out (by decide));go_wp2_with fail;refine(Mz (H.out.ext HX1.out) OK.out.st_ok i 0 n _ OK.out.n_at HK0.out OK.out.st_lt OK.out.fs_le).mono ?_;rintro e w2 ⟨ux0,rfl,hx,hf⟩;have HX2:=Qq (HX1.out.trans hx);have HS2:=Qq hx;clear hx;have HF2:=Qq hf;clear hf;cases hd:Xt ls fs st i (Zn n 0)with
  |none =>
   have D3:=Qq hd;clear hd;go_wp2_with fail;go_ret;exact⟨Qr (by simp only [Dx,D1.out,D3.out] <;> rfl),HX2.out⟩
  |some x =>
   have D3:=Qq hd;have Vx:=Qq (HF2.out _ hd);clear hd;go_wp2_with fail;refine(Sz ux0 x 6 _ (Vx.out.ext Qz) (OK.out.fs_ok _ (Qyz D3.out OK.out.fs_le)).1).mono ?_;rintro e w3 ⟨ur0,ur1,rfl,hx,hfr⟩;have HX3:=Qq (HX2.out.trans hx);have HS3:=Qq hx;have HFR:=Qq hfr;clear hx hfr;go_wp2_with fail;refine(Sw (H.out.ext HX3.out) OK.out 1 (Zn n 1) HK1.out).mono ?_;rintro e w4 ⟨ua0,ua1,rfl,hx,hfa⟩;have HX4:=Qq (HX3.out.trans hx);have HS4:=Qq hx;have HFA:=Qq hfa;clear hx hfa;go_wp2_with fail;refine(Sw (H.out.ext HX4.out) OK.out 2 (Zn n 2) HK2.out).mono ?_;rintro e w5 ⟨ub0,ub1,rfl,hx,hfb⟩
   have HX5:=Qq (HX4.out.trans hx);have HS5:=Qq hx;have HFB:=Qq hfb;clear hx hfb;cases hd:Ub x 6 with
   |none =>
    have D4:=Qq hd;clear hd;go_wp2_with fail;go_ret;exact⟨Qr (by simp only [Dx,D1.out,D3.out,D4.out] <;> rfl),HX5.out⟩
   |some r =>
    have D4:=Qq hd;have Vr:=Qq (HFR.out _ hd);clear hd;cases hd:Kg ls fs st i (Zn n 1)with
    |none =>
     have D5:=Qq hd;clear hd;go_wp2_with fail;go_ret;exact⟨Qr (by simp only [Dx,D1.out,D3.out,D4.out,D5.out] <;> rfl),HX5.out⟩
    |some a =>
     have D5:=Qq hd;have Va:=Qq (HFA.out _ hd);clear hd;cases hd:Kg ls fs st i (Zn n 2)with
     |none =>
      have D6:=Qq hd;clear hd;go_wp2_with fail;go_ret;exact⟨Qr (by simp only [Dx,D1.out,D3.out,D4.out,D5.out,D6.out] <;> rfl),HX5.out⟩
     |some bb =>
      have D6:=Qq hd;have Vbb:=Qq (HFB.out _ hd);clear hd;go_wp2_with fail;refine(Zs ua0 ur0 a.1 r.1 _ (Va.out.1.ext (Ext.trans Qz HS5.out)).1 (Vr.out.1.ext (Ext.trans (Ext.trans Qz HS4.out) HS5.out)).1).mono ?_;rintro e w6 ⟨rfl,hx⟩;have HX6:=Qq (HX5.out.trans hx);have HS6:=Qq hx;clear hx;cases hd:eqN a.1 r.1
      case false =>
       have D7:=Qq hd;clear hd;go_wp2_with fail;go_ret;exact⟨Qr (by simp only [Dx,D1.out,D3.out,D4.out,D5.out,D6.out,D7.out] <;> rfl),HX6.out⟩
      case true =>
       have D7:=Qq hd;clear hd;go_wp2_with fail;refine(Zs ub0 ur1 bb.1 r.2 _ (Vbb.out.1.ext (Ext.trans Qz HS6.out)).1 (Vr.out.2.ext (Ext.trans (Ext.trans (Ext.trans Qz HS4.out) HS5.out) HS6.out)).1).mono ?_;rintro e w7 ⟨rfl,hx⟩;have HX7:=Qq (HX6.out.trans hx);have HS7:=Qq hx;clear hx;cases hd:eqN bb.1 r.2
       case false =>
        have D8:=Qq hd;clear hd;go_wp2_with fail;go_ret;exact⟨Qr (by simp only [Dx,D1.out,D3.out,D4.out,D5.out,D6.out,D7.out,D8.out] <;> rfl),HX7.out⟩
       case true =>
        have D8:=Qq hd;clear hd;obtain⟨ad,c,vl,vs,Ai,ci,g1,g2,g3,g4,g5,g6,g7,g8,g9⟩:=(H.out.ext HX7.out).form OK.out.f_at;have GB:=(H.out.ext HX7.out).blt;have GI:i < fs.length:=(List.getElem?_eq_some_iff.1 OK.out.f_at).1;have GF:=Qq g9;clear g4 g5 g7 g9;go_wp2_with fail;refine(Zs ua1 _ a.2 fi _ (Va.out.2.ext (Ext.trans (Ext.trans (Ext.trans Qz HS5.out) HS6.out) HS7.out)).1 ((GF.out.ext Qz)).1).mono ?_;rintro e w8 ⟨rfl,hx⟩;have HX8:=Qq (HX7.out.trans hx);have HS8:=Qq hx;clear hx;cases hd:eqN a.2 fi
        case false =>
         have D9:=Qq hd;clear hd;go_wp2_with fail;go_ret;exact⟨Qr (by simp only [Dx,D1.out,D3.out,D4.out,D5.out,D6.out,D7.out,D8.out,D9.out] <;> rfl),HX8.out⟩
        case true =>
         have D9:=Qq hd;clear hd;clear g1 g2 g3 g6 g8 GB GF GI;obtain⟨ad,c,vl,vs,Ai,ci,g1,g2,g3,g4,g5,g6,g7,g8,g9⟩:=(H.out.ext HX8.out).form OK.out.f_at;have GB:=(H.out.ext HX8.out).blt;have GI:i < fs.length:=(List.getElem?_eq_some_iff.1 OK.out.f_at).1;have GF:=Qq g9;clear g4 g5 g7 g9;go_wp2_with fail;refine(Zs ub1 _ bb.2 fi _ (Vbb.out.2.ext (Ext.trans (Ext.trans (Ext.trans Qz HS6.out) HS7.out) HS8.out)).1 ((GF.out.ext Qz)).1).mono ?_;rintro e w9 ⟨rfl,hx⟩;have HX9:=Qq (HX8.out.trans hx);have HS9:=Qq hx;clear hx;go_wp2_with fail;go_ret;exact⟨Qr (by simp only [Dx,D1.out,D3.out,D4.out,D5.out,D6.out,D7.out,D8.out,D9.out] <;> rfl),HX9.out⟩
theorem Qlj {w:World} {b:Nat} {lg:Int} {ls:List Ln} {fs:List (List Nd)} {st:List (List Int)} {i:Nat} {n:Ln} {fi:List Nd}(h:Chk w b lg ls fs st)(ok:Vb ls fs st i n fi)(hd:decide (n.from_.length=1)=false):
 Calls Tryz.prog 189 #[.pointer (some ⟨b,0,none⟩),.int .i64 i] w fun e w'=>e=.returned (.bool false)/\Ext w w':=by
 have H:=Qq h;have OK:=Qq ok;have HD:=Qq hd;clear h ok hd;go_enter Tryz.func189,Tryz.ntmps189;go_wp2_with fail;refine(Ge H.out i n 1 OK.out.n_at).mono ?_;rintro e w1 ⟨rfl,hx⟩;rw [HD.out];go_wp2_with fail;go_ret;exact⟨rfl,hx⟩
theorem Qb7 {w:World} {b:Nat} {lg:Int} {ls:List Ln} {fs:List (List Nd)} {st:List (List Int)} {i:Nat} {n:Ln} {fi:List Nd}(h:Chk w b lg ls fs st)(ok:Vb ls fs st i n fi)(hd:decide (n.from_.length=1)=true)(hw:Yl st i (Zn n 0)=none):
 Calls Tryz.prog 189 #[.pointer (some ⟨b,0,none⟩),.int .i64 i] w fun e w'=>e=.returned (.bool false)/\Ext w w':=by
 have H:=Qq h;have OK:=Qq ok;have HD:=Qq hd;have HW:=Qq hw;obtain⟨j,hj⟩:∃j,Zn n 0=j:=⟨_,rfl⟩;have hkj:n.from_[0]?=some j:=by rw [<-hj];exact Fs (k:=0) hd (by decide)
 rw [hj]at HW;obtain⟨ad,c,vf,vs,uf,ur,hc1,hc2,hlt,d0,d1,d2,d3,q0,q1,q2,q3,q4,_,⟨Ar,cr,rfl,hir⟩⟩:=h.line ok.n_at;obtain⟨adr,rfl,hbr,hcr⟩:=hir.2.2 (by intro e;rw [e]at hkj;simp at hkj);have r0:w.cell? adr=some (.int .i64 j):=by simpa [Addr.add]using hcr 0 _ hkj
 have hkl:0 < n.from_.length:=(List.getElem?_eq_some_iff.1 hkj).1;have hrc:=hir.1;have hrm:=hir.2.1;unfold maxLen at hrm;have hil:i < ls.length:=(List.getElem?_eq_some_iff.1 ok.n_at).1;clear h ok hd hir hcr d2 d3 hw hj hkj;go_enter Tryz.func189,Tryz.ntmps189;go_wp2_with fail;refine(Rj H.out i n 1 OK.out.n_at).mono ?_;rintro e w1 ⟨rfl,m1,hw1⟩;rw [HD.out];have hd1:∀p,w1.cell? p=w.cell? p:=fun p=>by rw [hw1];rfl
 have HX1:=Qq (show Ext w w1 by rw [hw1];exact Qz.drewN _);have hlt1:ad.block < w1.heap.size:=Qy hlt HX1.out.size;have hbr1:adr.block < w1.heap.size:=Qy hbr HX1.out.size;rw [<-hd1]at d0 d1 q0 q1 q2 q3 q4 r0;clear hw1 hd1;go_wp2_with fail;refine(Ue (H.out.ext HX1.out) i j OK.out.st_lt).mono ?_;rintro e w2 ⟨u,rfl,hx,hfu⟩;rw [HW.out];have HX2:=Qq (HX1.out.trans hx);clear hx hfu;go_wp2_with fail;go_ret;exact⟨rfl,HX2.out⟩
theorem Qnh {w:World} {b:Nat} {lg:Int} {ls:List Ln} {fs:List (List Nd)} {st:List (List Int)} {i:Nat} {n:Ln} {fi:List Nd}(h:Chk w b lg ls fs st)(ok:Vb ls fs st i n fi)(hd:decide (n.from_.length=1)=true) {r:List Int}(hw:Yl st i (Zn n 0)=some r)(hb:(Jv ls r).length≠1):
 Calls Tryz.prog 189 #[.pointer (some ⟨b,0,none⟩),.int .i64 i] w fun e w'=>e=.returned (.bool false)/\Ext w w':=by
 have H:=Qq h;have OK:=Qq ok;have HD:=Qq hd;have HW:=Qq hw;obtain⟨j,hj⟩:∃j,Zn n 0=j:=⟨_,rfl⟩;have hkj:n.from_[0]?=some j:=by rw [<-hj];exact Fs (k:=0) hd (by decide)
 rw [hj]at HW;obtain⟨ad,c,vf,vs,uf,ur,hc1,hc2,hlt,d0,d1,d2,d3,q0,q1,q2,q3,q4,_,⟨Ar,cr,rfl,hir⟩⟩:=h.line ok.n_at;obtain⟨adr,rfl,hbr,hcr⟩:=hir.2.2 (by intro e;rw [e]at hkj;simp at hkj);have r0:w.cell? adr=some (.int .i64 j):=by simpa [Addr.add]using hcr 0 _ hkj
 have hkl:0 < n.from_.length:=(List.getElem?_eq_some_iff.1 hkj).1;have hrc:=hir.1;have hrm:=hir.2.1;unfold maxLen at hrm;have hil:i < ls.length:=(List.getElem?_eq_some_iff.1 ok.n_at).1;clear h ok hd hir hcr d2 d3 hw hj hkj;go_enter Tryz.func189,Tryz.ntmps189;go_wp2_with fail;refine(Rj H.out i n 1 OK.out.n_at).mono ?_;rintro e w1 ⟨rfl,m1,hw1⟩;rw [HD.out];have hd1:∀p,w1.cell? p=w.cell? p:=fun p=>by rw [hw1];rfl
 have HX1:=Qq (show Ext w w1 by rw [hw1];exact Qz.drewN _);have hlt1:ad.block < w1.heap.size:=Qy hlt HX1.out.size;have hbr1:adr.block < w1.heap.size:=Qy hbr HX1.out.size;rw [<-hd1]at d0 d1 q0 q1 q2 q3 q4 r0;clear hw1 hd1;go_wp2_with fail;refine(Ue (H.out.ext HX1.out) i j OK.out.st_lt).mono ?_;rintro e w2 ⟨u,rfl,hx,hfu⟩;rw [HW.out];have HX2:=Qq (HX1.out.trans hx);have HU:=Qq (hfu _ HW.out);obtain⟨hr1,hr2⟩:=Fw OK.out.st_ok HW.out OK.out.st_lt;have HR1:=Qq hr1;have HR2:=Qq hr2;clear hx hfu hr1 hr2;go_wp2_with fail;refine(Uo (H.out.ext HX2.out) u r HU.out HR2.out HR1.out).mono ?_
 rintro e w3 ⟨ub,rfl,hmb⟩;obtain⟨Ab,cb,rfl,_⟩:=hmb.ints;have HX3:=Qq (HX2.out.trans hmb.2);have hb2:(((Jv ls r).length:Int) !=1)=true:=by simp;omega
 clear hmb;go_wp2_with fail;go_ret;exact⟨rfl,HX3.out⟩
theorem Ql2 {w:World} {b:Nat} {lg:Int} {ls:List Ln} {fs:List (List Nd)} {st:List (List Int)} {i:Nat} {n:Ln} {fi:List Nd}(h:Chk w b lg ls fs st)(ok:Vb ls fs st i n fi)(hd:decide (n.from_.length=1)=true) {r:List Int}(hw:Yl st i (Zn n 0)=some r) {o:Int}(hbs:Jv ls r= [o]) {f:List Nd}(hf:fs.getD (Zn n 0).toNat []=f) {nn:Nd}(hnn:Qt f=nn) {ag:Int}(hag:(Js ls o).agent=ag)(hop4:nn.op=4):
 Calls Tryz.prog 189 #[.pointer (some ⟨b,0,none⟩),.int .i64 i] w fun e w'=>e=.returned (.bool (Gk lg f ag fi))/\Ext w w':=by
 have H:=Qq h;have OK:=Qq ok;have HX0:=Qq (Ext.refl w);have HD:=Qq hd;have HW:=Qq hw;have HNN:=Qq hnn;obtain⟨hr1,hr2⟩:=Fw ok.st_ok hw ok.st_lt;have HR1:=Qq hr1;have HR2:=Qq hr2;have HBM:Hid (0<=o/\o < ls.length):=Qq (hr2 o (List.mem_filter.1 (show o∈Jv ls r by rw [hbs];simp)).1);have hjr:0<=Zn n 0/\Zn n 0 < i:=by
  unfold Yl at hw
  split at hw
  ·cases hw
  omega
 obtain⟨jn,hjn⟩:=Int.eq_ofNat_of_zero_le hjr.1;rw [hjn,Int.toNat_natCast]at hf;have hji:jn < i:=by omega
 have hjf:jn < fs.length:=by have:=ok.fs_le;omega
 have hff:=getD_some (l:=fs) (d:= []) hjf;rw [hf]at hff;have HFA:=Qq hff;have hfne:=ok.fs_ok f (List.mem_of_getElem? hff);have h0L:=hfne.1;have hlast:=Xi h0L;rw [hnn]at hlast;have hwf:=hfne.2 _ _ hlast;obtain⟨on,hon⟩:=Int.eq_ofNat_of_zero_le HBM.out.1;subst hon;have hm:=Ua (ls:=ls) (o:=(on:Int)) HBM.out.1 HBM.out.2;rw [Int.toNat_natCast]at hm;have honl:on < ls.length:=by have:=HBM.out.2;omega
 have HM:=Qq hm;have HAG:=Qq hag;have HLAST:=Qq hlast;have HBS:=Qq hbs;have hkj:n.from_[0]?=some (jn:Int):=by rw [<-hjn];exact Fs (k:=0) hd (by decide)
 have HKJ:=Qq hkj;obtain⟨ad,c,vf,vs,uf,ur,hc1,hc2,hlt,d0,d1,d2,d3,q0,q1,q2,q3,q4,_,⟨Ar,cr,rfl,hir⟩⟩:=h.line ok.n_at;obtain⟨adr,rfl,hbr,hcr⟩:=hir.2.2 (by intro e;rw [e]at hkj;simp at hkj);have r0:w.cell? adr=some (.int .i64 (jn:Int)):=by simpa [Addr.add]using hcr 0 _ hkj
 have hkl:0 < n.from_.length:=(List.getElem?_eq_some_iff.1 hkj).1;have hrc:=hir.1;have hrm:=hir.2.1;unfold maxLen at hrm;have hil:i < ls.length:=(List.getElem?_eq_some_iff.1 ok.n_at).1;have hi1L:((f.length:Int) - 1) < (f.length:Int):=by omega
 have hi0L:(0:Int)<=(f.length:Int) - 1:=by omega
 have e1L:((f.length:Int) - 1).toNat=f.length - 1:=by omega
 rw [hjn]at hw;have HWJ:=Qq hw;clear h ok hd hw hbs hf hnn hag hr1 hr2 hff hfne hlast hm hkj hir hcr d2 d3 hjr hjn;go_enter Tryz.func189,Tryz.ntmps189;go_wp2_with fail;refine(Rj H.out i n 1 OK.out.n_at).mono ?_;rintro e w1 ⟨rfl,m1,hw1⟩;rw [HD.out];have hd1:∀p,w1.cell? p=w.cell? p:=fun p=>by rw [hw1];rfl
 have HX1:=Qq (show Ext w w1 by rw [hw1];exact Qz.drewN _);have hlt1:ad.block < w1.heap.size:=Qy hlt HX1.out.size;have hbr1:adr.block < w1.heap.size:=Qy hbr HX1.out.size;rw [<-hd1]at d0 d1 q0 q1 q2 q3 q4 r0;clear hw1 hd1;go_wp2_with fail;refine(Ue (H.out.ext HX1.out) i (jn:Int) OK.out.st_lt).mono ?_;rintro e w2 ⟨u,rfl,hx,hfu⟩;rw [HWJ.out];have HX2:=Qq (HX1.out.trans hx);have HU:=Qq (hfu _ HWJ.out);clear hx hfu d0 d1 q0 q1 q2 q3 q4 r0;go_wp2_with fail;refine(Uo (H.out.ext HX2.out) u r HU.out HR2.out HR1.out).mono ?_;rintro e w3 ⟨ub,rfl,hmb⟩;have hmi:=hmb.ints;rw [HBS.out]at hmi;obtain⟨Ab,cb,rfl,hbi⟩:=hmi
 have HX3:=Qq (HX2.out.trans hmb.2);have hcb:=hbi.1;have hcbm:=hbi.2.1;obtain⟨adb,hab,hbb,hcb2⟩:=hbi.2.2 (by simp);subst hab;have b0:w3.cell? adb=some (.int .i64 (on:Int)):=by simpa [Addr.add]using hcb2 0 (on:Int) (by simp)
 unfold maxLen at hcbm;clear hmb hbi hcb2;obtain⟨adl,cl,vf2,vs2,uf2,ur2,l1,l2,l3,l4,l5,l6,l7,m0,m1',m2,m3,m4,_,_⟩:=(H.out.ext HX3.out).line HM.out;obtain⟨adf,cf,vl3,vs3,Af,cF,f1,f2,f3,f4,f5,f6,f7,f8,f9⟩:=(H.out.ext HX3.out).form HFA.out;rw [HAG.out]at m3;have HF9:=Qq f9;obtain⟨⟨AL,cL,eL,hcapL,hmaxL,hreadL⟩,hokL⟩:=f9;injection eL with eL1 _ eL2;subst eL1 eL2;unfold maxLen at hmaxL;obtain⟨adL,hadL,hltL,hcellsL⟩:=hreadL (by intro e;rw [e]at h0L;simp at h0L);subst hadL;obtain⟨n0,n1,n2,n3,n4,n5⟩:=hcellsL _ _ HLAST.out;have HCL:=Qq hcellsL;clear hreadL hokL hcellsL l4 l6 l7 f4 f5 f7 m0 m1' m2 m4;have hop4b:(nn.op==4)=true:=by simp [hop4]
 have hx4:=hwf.1 (by rw [hop4];decide);obtain⟨xn,hxn⟩:=Int.eq_ofNat_of_zero_le hx4.1;have hxl:xn < f.length:=by omega
 obtain⟨m,hm⟩:∃m,f[xn]?=some m:=⟨_,Qv hxl⟩;obtain⟨p0,p1,p2,p3,p4,p5⟩:=HCL.out _ _ hm;rw [hxn]at n4;have hx0:(0:Int)<=(xn:Int):=by omega
 have hx1:(xn:Int) < (f.length:Int):=by omega
 have HIN:=Qq (show Qq3 f=m by unfold Qq3;rw [HNN.out,hop4b,cond_true,hxn,Int.toNat_natCast];exact Nm hm);clear hm hx4 hwf;go_wp2_with fail;go_quiet (fail);obtain⟨w4,hw⟩:∃w',w'=w3.drewN nq:=⟨_,rfl⟩;rw [<-hw];have hd:∀p,w4.cell? p=w3.cell? p:=fun p=>by rw [hw];rfl
 have HX4:=Qq (show Ext w w4 by rw [hw];exact HX3.out.drewN _);have HS4:=Qq (show Ext w3 w4 by rw [hw];exact Qz.drewN _);rw [<-hd]at n0 n1 n2 n3 n4 n5 p0 p1 p2 p3 p4 p5;have hltL4:adL.block < w4.heap.size:=Qy hltL HS4.out.size;clear hw hd b0 l1 l2 l3 l5 f1 f2 f3 f6 f8 m3 hbb;rw [hop4]at n0;have hE2:Ext w4 ((w4.alloc (.cells #[.int .i64 4,.int .i64 nn.i,.int .i64 nn.e,.int .i64 nn.g,.int .i64 (xn:Int),.int .i64 nn.y] 64)).alloc (.cells #[.int .i64 4,.int .i64 nn.i,.int .i64 nn.e,.int .i64 nn.g,.int .i64 (xn:Int),.int .i64 nn.y] 64)):=(Qz.alloc _).alloc _;have P0:=(hE2.cell (p:=adL.add (xn*6)) (Qj hltL4)).trans p0
 have P1:=(hE2.cell (p:=⟨(adL.add (xn*6)).block,(adL.add (xn*6)).off+1,none⟩) (Qj hltL4)).trans p1;have P2:=(hE2.cell (p:=⟨(adL.add (xn*6)).block,(adL.add (xn*6)).off+2,none⟩) (Qj hltL4)).trans p2;have P3:=(hE2.cell (p:=⟨(adL.add (xn*6)).block,(adL.add (xn*6)).off+3,none⟩) (Qj hltL4)).trans p3;have P4:=(hE2.cell (p:=⟨(adL.add (xn*6)).block,(adL.add (xn*6)).off+4,none⟩) (Qj hltL4)).trans p4;have P5:=(hE2.cell (p:=⟨(adL.add (xn*6)).block,(adL.add (xn*6)).off+5,none⟩) (Qj hltL4)).trans p5;clear hE2 p0 p1 p2 p3 p4 p5;go_wp2_with fail;have A0:Ext w (((w4.alloc (.cells #[.int .i64 4,.int .i64 nn.i,.int .i64 nn.e,.int .i64 nn.g,.int .i64 (xn:Int),.int .i64 nn.y] 64)).alloc (.cells #[.int .i64 m.op,.int .i64 m.i,.int .i64 m.e,.int .i64 m.g,.int .i64 m.x,.int .i64 m.y] 64)).alloc (.cells #[.int .i64 5,.int .i64 6] 3)):=((HX4.out.alloc _).alloc _).alloc _
 have hk2:((w4.alloc (.cells #[.int .i64 4,.int .i64 nn.i,.int .i64 nn.e,.int .i64 nn.g,.int .i64 (xn:Int),.int .i64 nn.y] 64)).alloc (.cells #[.int .i64 m.op,.int .i64 m.i,.int .i64 m.e,.int .i64 m.g,.int .i64 m.x,.int .i64 m.y] 64)).heap.size=w4.heap.size+1+1:=by simp
 have I0:Zi (((w4.alloc (.cells #[.int .i64 4,.int .i64 nn.i,.int .i64 nn.e,.int .i64 nn.g,.int .i64 (xn:Int),.int .i64 nn.y] 64)).alloc (.cells #[.int .i64 m.op,.int .i64 m.i,.int .i64 m.e,.int .i64 m.g,.int .i64 m.x,.int .i64 m.y] 64)).alloc (.cells #[.int .i64 5,.int .i64 6] 3)) (.slice (some ⟨w4.heap.size+1+1,0,none⟩) 2 2) [5,6]:=by
  have h:=Fk ((w4.alloc (.cells #[.int .i64 4,.int .i64 nn.i,.int .i64 nn.e,.int .i64 nn.g,.int .i64 (xn:Int),.int .i64 nn.y] 64)).alloc (.cells #[.int .i64 m.op,.int .i64 m.i,.int .i64 m.e,.int .i64 m.g,.int .i64 m.x,.int .i64 m.y] 64)) [5,6] (by decide);rw [hk2]at h;exact h
 refine(Ga (H.out.ext A0) _ [5,6] I0).mono ?_;rintro e w5 ⟨rfl,hx⟩;have A1:Ext (w4.alloc (.cells #[.int .i64 4,.int .i64 nn.i,.int .i64 nn.e,.int .i64 nn.g,.int .i64 (xn:Int),.int .i64 nn.y] 64)) w5:=(((Ext.refl (w4.alloc (.cells #[.int .i64 4,.int .i64 nn.i,.int .i64 nn.e,.int .i64 nn.g,.int .i64 (xn:Int),.int .i64 nn.y] 64))).alloc _).alloc _).trans hx;have A2:Ext ((w4.alloc (.cells #[.int .i64 4,.int .i64 nn.i,.int .i64 nn.e,.int .i64 nn.g,.int .i64 (xn:Int),.int .i64 nn.y] 64)).alloc (.cells #[.int .i64 m.op,.int .i64 m.i,.int .i64 m.e,.int .i64 m.g,.int .i64 m.x,.int .i64 m.y] 64)) w5:=((Ext.refl ((w4.alloc (.cells #[.int .i64 4,.int .i64 nn.i,.int .i64 nn.e,.int .i64 nn.g,.int .i64 (xn:Int),.int .i64 nn.y] 64)).alloc (.cells #[.int .i64 m.op,.int .i64 m.i,.int .i64 m.e,.int .i64 m.g,.int .i64 m.x,.int .i64 m.y] 64))).alloc _).trans hx
 obtain⟨⟨s0,s1,_,_,s4,_⟩,_,slt⟩:=Zg ((A1.block (by simp)).trans (heap_alloc_new w4 (.cells #[.int .i64 4,.int .i64 nn.i,.int .i64 nn.e,.int .i64 nn.g,.int .i64 (xn:Int),.int .i64 nn.y] 64)));obtain⟨⟨t0,t1,_,_,_,_⟩,_,tlt⟩:=Zg ((A2.block (by simp)).trans (heap_alloc_new (w4.alloc (.cells #[.int .i64 4,.int .i64 nn.i,.int .i64 nn.e,.int .i64 nn.g,.int .i64 (xn:Int),.int .i64 nn.y] 64)) (.cells #[.int .i64 m.op,.int .i64 m.i,.int .i64 m.e,.int .i64 m.g,.int .i64 m.x,.int .i64 m.y] 64)));have hk:(w4.alloc (.cells #[.int .i64 4,.int .i64 nn.i,.int .i64 nn.e,.int .i64 nn.g,.int .i64 (xn:Int),.int .i64 nn.y] 64)).heap.size=w4.heap.size+1:=by simp
 rw [hk]at t0 t1 tlt;have HX5:=Qq (A0.trans hx);have HS5:=Qq (show Ext w4 w5 from((((Ext.refl w4).alloc _).alloc _).alloc _).trans hx);clear hx A0 A1 A2 I0 hk hk2 n0 n1 n2 n3 n4 n5;have H9f:=Qq (show(nn.op==9)=false by rw [hop4];rfl);have H10f:=Qq (show(nn.op==10)=false by rw [hop4];rfl);have H4t:=Qq hop4b;cases hd:(m.op==9)
 case false =>
  have D1:=Qq hd;go_wp2_with fail;go_ret;exact⟨Qr (by simp only [Gk,HNN.out,HIN.out,H9f.out,H10f.out,H4t.out,D1.out] <;> rfl),HX5.out⟩
 case true =>
  have D1:=Qq hd;cases hd:(m.i==ag)
  case false =>
   have D2:=Qq hd;go_wp2_with fail;go_ret;exact⟨Qr (by simp only [Gk,HNN.out,HIN.out,H9f.out,H10f.out,H4t.out,D1.out,D2.out] <;> rfl),HX5.out⟩
  case true =>
   have D2:=Qq hd;cases hd:inL [5,6] lg
   case false =>
    have D3:=Qq hd;clear hd;go_wp2_with fail;go_ret;exact⟨Qr (by simp only [Gk,HNN.out,HIN.out,H9f.out,H10f.out,H4t.out,D1.out,D2.out,D3.out] <;> rfl),HX5.out⟩
   case true =>
    have D3:=Qq hd;clear hd;obtain⟨ad,c,vl,vs,Ai,ci,g1,g2,g3,g4,g5,g6,g7,g8,g9⟩:=(H.out.ext HX5.out).form OK.out.f_at;have GB:=(H.out.ext HX5.out).blt;have GI:i < fs.length:=(List.getElem?_eq_some_iff.1 OK.out.f_at).1;have GF:=Qq g9;clear g4 g5 g7 g9;go_wp2_with fail;refine(Zs _ _ f fi _ (HF9.out.ext (Ext.trans (Ext.trans Qz HS4.out) HS5.out)).1 ((GF.out.ext Qz)).1).mono ?_;rintro e w6 ⟨rfl,hx⟩;have HX6:=Qq (HX5.out.trans hx);have HS6:=Qq hx;clear hx;go_wp2_with fail;go_ret;exact⟨Qr (by simp only [Gk,HNN.out,HIN.out,H9f.out,H10f.out,H4t.out,D1.out,D2.out,D3.out] <;> rfl),HX6.out⟩
end Go.Proofs.YtmidgcldljfkcaaGreatDoor
