/- hilbert's line and Check: what they return. -/
import Derived.Test.YtmidgcldljfkcaaGreatDoorM01
import Derived.Test.YtmidgcldljfkcaaGreatDoorM49
import Derived.Test.YtmidgcldljfkcaaGreatDoorM13
namespace Go.Proofs.YtmidgcldljfkcaaGreatDoor
set_option maxRecDepth 100000
set_option maxHeartbeats 128000000
open Go.RowKit
theorem Qni {ls:List HLn} {x:HLn} {i:Nat}(hi:i < ls.length)(h:Jo x i=0):
 (x.rule=10\/x.rule=11\/x.rule=12->Qvz ls x.a)/\(x.rule=10->Qvz ls x.b)/\(x.rule=11->0<=x.agent/\x.agent < 4):=by
 unfold Jo at h;cases n1:Yg 0 (Bi x.rule) x.a i
 ·rw [n1,cond_false]at h;cases n2:Yg 1 (Bi x.rule) x.b i
  ·rw [n2,cond_false]at h;refine⟨fun hr=> ?_,fun hr=> ?_,fun hr=> ?_⟩
   ·have:=Po n1 (by rcases hr with hr|hr|hr <;> rw [hr] <;> decide);exact⟨this.1,by omega⟩
   ·have:=Po n2 (by rw [hr];decide);exact⟨this.1,by omega⟩
   rw [hr]at h;cases g1:decide (x.agent < 0)||decide (4<=x.agent)
   ·rw [Bool.or_eq_false_iff]at g1;have g2:=of_decide_eq_false g1.1;have g3:=of_decide_eq_false g1.2;omega
   rw [g1]at h;cases h
  rw [n2]at h;cases h
 rw [n1]at h;cases h
theorem Qst {w:World} {b:Nat} {lg:Int} {ls:List HLn}(h:HPf w b lg ls)(hT:Pn w)(h0:0<=lg)(h6:lg<=6)(i:Nat)(hil:i < ls.length):
 Calls Tryz.prog 34 #[.pointer (some ⟨b,0,none⟩),.int .i64 (i:Int)] w fun e w'=>e=.returned (.int .i64 (Xw lg ls i))/\Ext w w':=by
 have hi:=Wh hil;obtain⟨ad,c,Af,cf,hc1,hc2,hlt,hadl,hbl,d0,d1,q0,q1,q2,q3,q4,hff⟩:=h.line hi;have hil1:(i:Int) < (ls.length:Int):=by omega
 have hbk:=hadl (i*5);have H:=Qq h;have HT:=Qq hT;have HNA:=Qq (Oa h i _ hi);obtain⟨x,hx⟩:∃x,x=lnH ls (i:Int):=⟨_,rfl⟩;have HL:Hid (Xw lg ls i=bif Vv x.f !=0 then Vv x.f else bif decide (x.rule < 1)||decide (12 < x.rule)then 1 else bif Jo x i !=0 then Jo x i else bif Vo lg x.rule then(bif Xk ls x then 0 else 13)else 12):=Qq (by rw [hx];rfl);rw [<-hx]at q0 q1 q2 q3 q4 hff hi;have HI:=Qq hi;have HF:=Qq hff;have HXX:=Qq hx;clear h hT hi hff hx;obtain⟨f,r,a,bb,g⟩:=x;simp only at q0 q1 q2 q3 q4 HF HL;have X0:=Qq ((Ext.refl w).alloc (.cells #[.slice Af f.length cf,.int .i64 r,.int .i64 a,.int .i64 bb,.int .i64 g] 51))
 have B0:=Qq (heap_alloc_new w (.cells #[.slice Af f.length cf,.int .i64 r,.int .i64 a,.int .i64 bb,.int .i64 g] 51));obtain⟨fv,hfv⟩:∃z,z=Vv f:=⟨_,rfl⟩;have HFV:=Qq hfv;rw [<-hfv]at HL;obtain⟨nv,hnv⟩:∃z,z=Jo ⟨f,r,a,bb,g⟩ i:=⟨_,rfl⟩;have HNV:=Qq hnv;rw [<-hnv]at HL;clear hfv hnv;go_enter Tryz.func34,Tryz.ntmps34;go_wp2_with fail;refine(Qzm (HF.out.ext X0.out)).mono ?_;rintro e w1 ⟨rfl,hx⟩;rw [<-HFV.out];have X1:=Qq (X0.out.trans hx);have B1:=Qq ((hx.block (Qm B0.out)).trans B0.out);obtain⟨z0,z1,z2,z3,z4,zl⟩:=Vq B1.out;clear hx;by_cases hf0:fv=0
 case neg =>
  have hn:(fv !=0)=true:=by simpa using hf0
  have HE:=Qq (show Xw lg ls i=fv by rw [HL.out,hn];rfl);clear hf0;go_wp2_with fail;go_ret;exact⟨by rw [HE.out] <;> rfl,X1.out⟩
 subst hf0;have hck:=(Pm HFV.out.symm).1;have HCK:=Qq hck;clear hck;by_cases hr1:r < 1
 ·have HE:=Qq (show Xw lg ls i=1 by rw [HL.out,decide_eq_true hr1];rfl);go_wp2_with fail;go_ret;exact⟨by rw [HE.out] <;> rfl,X1.out⟩
 by_cases hr12:12 < r
 ·have HE:=Qq (show Xw lg ls i=1 by rw [HL.out,decide_eq_true hr12,Bool.or_true];rfl);go_wp2_with fail;go_ret;exact⟨by rw [HE.out] <;> rfl,X1.out⟩
 have HL2:=Qq (show Xw lg ls i=bif nv !=0 then nv else bif Vo lg r then(bif Xk ls ⟨f,r,a,bb,g⟩then 0 else 13)else 12 by rw [HL.out,decide_eq_false hr1,decide_eq_false hr12];rfl);go_wp2_with fail;refine(Oa (H.out.ext X1.out) i _ HI.out).mono ?_;rintro e w2 ⟨rfl,hx⟩;rw [<-HNV.out];have X2:=Qq (X1.out.trans hx);have B2:=Qq ((hx.block (Qm B1.out)).trans B1.out);clear z0 z1 z2 z3 z4 zl;obtain⟨z0,z1,z2,z3,z4,zl⟩:=Vq B2.out;have y0:=(X2.out.cell (p:=⟨b,0,none⟩) hbl).trans d0;have yl:=Qy hbl X2.out.size;clear hx;by_cases hn0:nv=0
 case neg =>
  have hn:(nv !=0)=true:=by simpa using hn0
  have HE:=Qq (show Xw lg ls i=nv by rw [HL2.out,hn];rfl);clear hn0;go_wp2_with fail;go_ret;exact⟨by rw [HE.out] <;> rfl,X2.out⟩
 subst hn0;have HNP:=Qq (Qni (x:=⟨f,r,a,bb,g⟩) hil HNV.out.symm);have HL3:=Qq (show Xw lg ls i=bif Vo lg r then(bif Xk ls ⟨f,r,a,bb,g⟩then 0 else 13)else 12 by rw [HL2.out];rfl);go_wp2_with fail;cases hh:Vo lg r
 ·have HH:=Qq hh;have HE:=Qq (show Xw lg ls i=12 by rw [HL3.out,hh];rfl);clear hh;refine wp_region_held_drew (S:=fun w'=>w'.cell? (⟨b,0,none⟩)=some (.int .i64 lg)/\w'.cell? (⟨w.heap.size,1,none⟩)=some (.int .i64 r)) (by kernel_rfl) ⟨xc yl y0,xc zl z1⟩ (fun hHeld=> ?_);refine tk 0 hHeld ?_;refine tk 1 hHeld ?_;refine tk 2 hHeld ?_;refine tk 3 hHeld ?_;refine tk 4 hHeld ?_;refine tk 5 hHeld ?_;refine wpAnyH_ready (rs:= [6]) (by kernel_rfl) (by simp) ?_;refine AllReadyH.cons rfl (fun K hK=> ?_) AllReadyH.nil;go_simp;refine(Gd lg r h0 h6 _).mono ?_;rintro e wa ⟨rfl,hv⟩;rw [HH.out];have hxwa:Ext w2 wa:=xt hv;clear hv
  go_wp2_with fail;refine hK.out _ _ ⟨xc yl y0,xc zl z1⟩ (fun hHeld=> ?_);clear hK K;refine Qd ?_;refine tk 7 hHeld ?_;refine wpAnyH_done (by kernel_rfl) ?_ _;go_wp2_with fail;go_ret;exact⟨by rw [HE.out] <;> rfl,X2.out.trans xw⟩
 have HH:=Qq hh;have HL4:=Qq (show Xw lg ls i=bif Xk ls ⟨f,r,a,bb,g⟩then 0 else 13 by rw [HL3.out,hh];rfl);clear hh;obtain⟨bv,hbv⟩:∃z,z=Xk ls ⟨f,r,a,bb,g⟩:=⟨_,rfl⟩;have HBV:=Qq hbv;clear hbv;refine wp_region_held_drew (S:=fun w'=>w'.cell? (⟨b,0,none⟩)=some (.int .i64 lg)/\w'.cell? (⟨w.heap.size,1,none⟩)=some (.int .i64 r)) (by kernel_rfl) ⟨xc yl y0,xc zl z1⟩ (fun hHeld=> ?_);refine tk 0 hHeld ?_;refine tk 1 hHeld ?_;refine tk 2 hHeld ?_;refine tk 3 hHeld ?_;refine tk 4 hHeld ?_;refine tk 5 hHeld ?_;refine wpAnyH_ready (rs:= [6]) (by kernel_rfl) (by simp) ?_;refine AllReadyH.cons rfl (fun K hK=> ?_) AllReadyH.nil
 go_simp;refine(Gd lg r h0 h6 _).mono ?_;rintro e wa ⟨rfl,hv⟩;rw [HH.out];have hxwa:Ext w2 wa:=xt hv;clear hv;go_wp2_with fail;refine hK.out _ _ ⟨xc yl y0,xc zl z1⟩ (fun hHeld=> ?_);clear hK K;refine Qd ?_;refine tk 7 hHeld ?_;refine wpAnyH_done (by kernel_rfl) ?_ _;have HX3:=Qq (X2.out.trans hxwa);have B3:=Qq ((hxwa.block (Qm B2.out)).trans B2.out);clear z0 z1 z2 z3 z4 zl y0 hxwa;obtain⟨z0,z1,z2,z3,z4,zl⟩:=Vq B3.out;go_wp2_with fail;refine(Qkp (H.out.ext (HX3.out.trans xw)) (HT.out.ext (HX3.out.trans xw)) r a bb g (HF.out.ext (HX3.out.trans xw)) HCK.out ⟨by omega,by omega⟩ HNP.out.1 HNP.out.2.1 HNP.out.2.2).mono ?_
 rintro e w4 ⟨rfl,hx⟩;rw [<-HBV.out];have X4:=Qq (HX3.out.trans (show Ext wa w4 from xt hx));clear hx;cases bv
 ·have HE:=Qq (show Xw lg ls i=13 by rw [HL4.out,<-HBV.out];rfl);go_wp2_with fail;go_ret;exact⟨by rw [HE.out] <;> rfl,X4.out⟩
 have HE:=Qq (show Xw lg ls i=0 by rw [HL4.out,<-HBV.out];rfl);go_wp2_with fail;go_ret;exact⟨by rw [HE.out] <;> rfl,X4.out⟩
theorem Qtm(lg:Int)(ls:List HLn) {k:Nat}(h:k < ls.length):Lj lg ls (ls.length - k) k=bif Xw lg ls k !=0 then Xw lg ls k else Lj lg ls (ls.length - (k+1)) (k+1):=by
 rw [show ls.length - k=(ls.length - (k+1))+1 by omega];rfl
theorem Qbd {w:World} {lg:Int} {v:Value} {ls:List HLn}(h:HLs w v ls)(hT:Pn w):
 Calls Tryz.prog 14 #[.int .i64 lg,v] w fun e w'=>e=.returned (.int .i64 (Gy lg ls))/\Ext w w':=by
 have HT:=Qq hT;obtain⟨A,c,rfl,hat⟩:=h;have HAT:=Qq hat;cases ht:Uy lg
 ·have HTH:=Qq ht;have HE:=Qq (show Gy lg ls=1 by unfold Gy;unfold Uy at ht;cases hb:(decide (lg < 0)||decide (6 < lg));(rw [hb]at ht;cases ht);rfl);clear ht hat hT;go_enter Tryz.func14,Tryz.ntmps14;go_wp2_with fail;refine(Tw lg _).mono ?_;rintro e w1 ⟨rfl,hx⟩;rw [HTH.out];have S1:=Qq hx;clear hx;go_wp2_with fail;go_ret;exact⟨by rw [HE.out] <;> rfl,S1.out⟩
 have HTH:=Qq ht;have hlg:0<=lg/\lg<=6:=by
  unfold Uy at ht;rw [Bool.not_eq_true',Bool.or_eq_false_iff]at ht;have h1:=of_decide_eq_false ht.1;have h2:=of_decide_eq_false ht.2;omega
 have HLG:=Qq hlg;have HA:Hid (Gy lg ls=bif decide (ls.length=0)then 3 else bif decide (400 < ls.length)then 8 else Lj lg ls ls.length 0):=Qq (by unfold Gy;unfold Uy at ht;cases hb:(decide (lg < 0)||decide (6 < lg));rfl;(rw [hb]at ht;cases ht));clear ht hat hT hlg;go_enter Tryz.func14,Tryz.ntmps14;go_wp2_with fail;refine(Tw lg _).mono ?_;rintro e w1 ⟨rfl,hx⟩;rw [HTH.out];have S1:=Qq hx;clear hx;by_cases hl0:ls.length=0
 ·have hl0i:((ls.length:Int)==0)=true:=by rw [beq_iff_eq];omega
  have HE:=Qq (show Gy lg ls=3 by rw [HA.out,decide_eq_true hl0];rfl);go_wp2_with fail;go_ret;exact⟨by rw [HE.out] <;> rfl,S1.out⟩
 have hl0i:((ls.length:Int)==0)=false:=by rw [beq_eq_false_iff_ne];omega
 by_cases hl4:400 < ls.length
 ·have hl4i:(400:Int) < (ls.length:Int):=by omega
  have HE:=Qq (show Gy lg ls=8 by rw [HA.out,decide_eq_false hl0,decide_eq_true hl4];rfl);go_wp2_with fail;go_ret;exact⟨by rw [HE.out] <;> rfl,S1.out⟩
 have hl4i:¬(400:Int) < (ls.length:Int):=by omega
 have HE:=Qq (show Gy lg ls=Lj lg ls (ls.length - 0) 0 by rw [HA.out,decide_eq_false hl0,decide_eq_false hl4];rfl);have HPF:=Qq (show HPf (w1.alloc (.cells #[.int .i64 lg,.slice A ls.length c] 83)) w1.heap.size lg ls from⟨A,c,heap_alloc_new _ _,HAT.out.ext (S1.out.alloc _)⟩);have S2:=Qq (S1.out.alloc (.cells #[.int .i64 lg,.slice A ls.length c] 83));obtain⟨w2,hw2⟩:∃z,z=w1.alloc (.cells #[.int .i64 lg,.slice A ls.length c] 83):=⟨_,rfl⟩;rw [<-hw2]at HPF S2;go_wp2_with fail;rw [<-hw2];clear hl0 hl4 hl4i hw2;go_loopw [6,7,26] (fun _ _ vi wr=>∃k:Nat,vi=.int .i64 (k:Int)/\k<=ls.length/\Hid (Ext w2 wr)/\Hid (Gy lg ls=Lj lg ls (ls.length - k) k)) (fun _ _ v _=>ls.length - (intOf v).toNat)
 case atStart=>exact⟨0,rfl,Nat.zero_le _,Qq Qz,HE⟩
 case round =>
  obtain⟨k,rfl,hk,HX,HG⟩:=hrel;have SR:=Qq (S2.out.trans HX.out);by_cases hlt2:k < ls.length
  ·have hk1:(k:Int) < (ls.length:Int):=by omega
   have HST:=Qq (HG.out.trans (Qtm lg ls hlt2));obtain⟨ev,hev⟩:∃z,z=Xw lg ls k:=⟨_,rfl⟩;have HEV:=Qq hev;rw [<-hev]at HST;clear hev;go_wp2_with fail;refine(Qst (HPF.out.ext HX.out) (HT.out.ext SR.out) HLG.out.1 HLG.out.2 k hlt2).mono ?_;rintro e w3 ⟨rfl,hx⟩;rw [<-HEV.out];have HX3:=Qq (HX.out.trans hx);clear hx;by_cases h0:ev=0
   ·subst h0;go_wp2_with fail;go_roundw
    case rel=>exact⟨k+1,by go_num,by omega,HX3,Qq (by rw [HST.out];rfl)⟩
    case measure=>simp [intOf];omega
   have hn:(ev !=0)=true:=by simpa using h0
   have HE2:=Qq (show Gy lg ls=ev by rw [HST.out,hn];rfl);clear h0;go_wp2_with fail;go_ret;exact⟨by rw [HE2.out] <;> rfl,S2.out.trans HX3.out⟩
  obtain rfl:ls.length=k:=by omega
  have HE2:=Qq (show Gy lg ls=0 by rw [HG.out,Nat.sub_self];rfl);go_wp2_with fail;go_ret;exact⟨by rw [HE2.out] <;> rfl,SR.out⟩
end Go.Proofs.YtmidgcldljfkcaaGreatDoor
