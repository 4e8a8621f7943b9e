/- The rules of hilbert as Lean functions of lists, and why they are sound. Plain. -/
import Derived.Test.YtmidgcldljfkcaaGreatDoorM01
import Derived.Test.YtmidgcldljfkcaaGreatDoorM27
import Derived.Test.YtmidgcldljfkcaaGreatDoorM24
import Derived.Test.YtmidgcldljfkcaaGreatDoorM26
import Derived.Test.YtmidgcldljfkcaaGreatDoorM13
namespace Go.Proofs.YtmidgcldljfkcaaGreatDoor
set_option maxRecDepth 100000
set_option maxHeartbeats 128000000
open Go.RowKit
section
variable {M:KM} {w:M.W} {f g:List Nd}
theorem part_a(hc:check f=0)(ho:hasX (lastN f).op=true):partA f=subN f (lastN f).x/\check (partA f)=0/\treeOf (partA f)=tr f (lastN f).x.toNat:=by
 have e:partA f=subN f (lastN f).x:=by
  unfold partA;have:decide (4<=(lastN f).op)=true:=by unfold hasX at ho;rw [Bool.and_eq_true]at ho;exact ho.1
  rw [this];rfl
 rw [e];exact⟨rfl,last_x hc ho⟩
theorem group_in(hc:check f=0)(ho:(lastN f).op=11\/(lastN f).op=13):1<=(lastN f).g/\(lastN f).g<=15:=by
 obtain⟨_,_,h3,_,_⟩:=heads_of hc _ (List.mem_of_getElem? (last_at hc));unfold rangeBad at h3;rcases ho with ho|ho <;>(rw [ho]at h3;simp [outsideB,hasFact,hasAgent,hasEvent,hasGroup]at h3;omega)
end
section
variable {M:KM} {w:M.W} {f:List Nd}
end
theorem part_group {f:List Nd}(hc:check f=0)(ho:(lastN (partA f)).op=11):1<=(lastN (partA f)).g/\(lastN (partA f)).g<=15:=by
 by_cases h4:4<=(lastN f).op
 ·have h21:=((isOp_iff _).1 (heads_of hc _ (List.mem_of_getElem? (last_at hc))).1).2;have hx:hasX (lastN f).op=true:=by unfold hasX;rw [decide_eq_true h4,decide_eq_true (by omega)];rfl
  exact group_in (part_a hc hx).2.1 (.inl ho)
 have e:partA f= []:=by unfold partA;rw [decide_eq_false h4];rfl
 rw [e]at ho;cases ho
theorem group_take(gn:Nat)(x:List Nd)(q:Nat)(l:List (List Nd))(hl:l=((List.range q).filterMap fun i=>bif gbit (gn:Int) i then some (i:Int)else none).map fun i=>knowN i x):
 (gn.testBit q=true->l++ [knowN (q:Int) x]=((List.range (q+1)).filterMap fun i=>bif gbit (gn:Int) i then some (i:Int)else none).map fun i=>knowN i x)/\
 (gn.testBit q=false->l=((List.range (q+1)).filterMap fun i=>bif gbit (gn:Int) i then some (i:Int)else none).map fun i=>knowN i x):=by
 subst hl;have e:gbit (gn:Int) q=gn.testBit q:=rfl;refine⟨fun h=> ?_,fun h=> ?_⟩
 ·rw [List.range_succ,List.filterMap_append,List.map_append];simp [e,h]
 rw [List.range_succ,List.filterMap_append,List.map_append];simp [e,h]
theorem every2_any {w:World} {v:Value} {f:List Nd}(h:Fml w v f)(hc:check f=0):
 Calls Tryz.prog 164 #[v] w fun e w'=>e=.returned (.bool (everyH f))/\Ext w w':=by
 have HC:=Qq hc;clear hc;obtain⟨iI,hiI,hzI0,hzI1,hzI2⟩:=info_parts tInfoF2;have HF:=Qq h;obtain⟨A,c,rfl,_⟩:=fml_slice h;clear h;go_enter Tryz.func164,Tryz.ntmps164;go_wp2_with fail;refine(hpart_any (HF.out.ext (xw))).mono ?_;rintro e w1 ⟨ua,ub,rfl,hx,h1,h2⟩;have S1:=Qq (show Ext w w1 from xt hx);have HA:=Qq h1;have HB:=Qq h2;obtain⟨AHA,cHA,rfl,_⟩:=fml_slice h1;obtain⟨AHB,cHB,rfl,_⟩:=fml_slice h2;clear hx h1 h2;unfold Nd.val;go_wp2_with fail;refine(hpart_any (HA.out.ext (xw))).mono ?_;rintro e w2 ⟨ua,ub,rfl,hx,h1,h2⟩;have S2:=Qq (show Ext w1 w2 from xt hx);have HP:=Qq h1;have HQ:=Qq h2;obtain⟨AHP,cHP,rfl,_⟩:=fml_slice h1
 obtain⟨AHQ,cHQ,rfl,_⟩:=fml_slice h2;clear hx h1 h2;unfold Nd.val;cases hop:((lastN (partA f)).op !=11)
 case true =>
  have HE:=Qq (show everyH f=false by unfold everyH;rw [show((lastN (partA f)).op==11)=false by simpa using hop];rfl);go_wp2_with fail;go_ret;exact⟨same_of HE.out.symm,(S1.out.trans S2.out).trans xw⟩
 obtain⟨W0,hW0⟩:∃z,z=w2.alloc (.cells #[.int .i64 (lastN (partA f)).op,.int .i64 (lastN (partA f)).i,.int .i64 (lastN (partA f)).e,.int .i64 (lastN (partA f)).g,.int .i64 (lastN (partA f)).x,.int .i64 (lastN (partA f)).y] 64):=⟨_,rfl⟩;have E0:=Qq (show Ext w2 W0 from by rw [hW0];exact Qz.alloc _);have B0:=Qq (show W0.heap[w2.heap.size]?=some (.cells #[.int .i64 (lastN (partA f)).op,.int .i64 (lastN (partA f)).i,.int .i64 (lastN (partA f)).e,.int .i64 (lastN (partA f)).g,.int .i64 (lastN (partA f)).x,.int .i64 (lastN (partA f)).y] 64 (0,0))from by rw [hW0];exact heap_alloc_new _ _);go_wp2_with fail
 rw [<-hW0];obtain⟨⟨z0,z1,z2,z3,z4,z5⟩,_,zlt⟩:=cells6 B0.out;clear hW0;have HF0:=Qq (HF.out.ext ((S1.out.trans S2.out).trans E0.out));have HA0:=Qq (HA.out.ext ((S2.out).trans E0.out));have HP0:=Qq (HP.out.ext (E0.out));have hop2:(lastN (partA f)).op=11:=by simpa using hop
 obtain⟨hg1,hg2⟩:=part_group HC.out hop2;obtain⟨gn,hgn⟩:=Int.eq_ofNat_of_zero_le (show 0<=(lastN (partA f)).g by omega);have hg16:gn < 16:=by omega
 have HE:=Qq (show everyH f=sameN f (iffN (partA f) (allN ((([0,1,2,3]:List Nat).filterMap fun i=>bif gbit (gn:Int) i then some (i:Int)else none).map fun i=>knowN i (partA (partA f))))) by unfold everyH;rw [show((lastN (partA f)).op==11)=true by simpa using hop2,<-hgn];rfl);have d3:W0.cell? ⟨w2.heap.size,3,none⟩=some (.int .i64 (gn:Int)):=by rw [z3,hgn]
 have D3:=Qq d3;obtain⟨sx,hsx⟩:∃z,z=partA (partA f):=⟨_,rfl⟩;rw [<-hsx]at HP0 HE;rw [<-hsx];clear hop2 hg1 hg2 hgn d3 z0 z1 z2 z3 z4 z5 hsx;go_loopw [9,10,26] (fun vo _ vi wr=>∃q:Nat,vi=.int .i64 (q:Int)/\q<=4/\Hid (∃ol,ol=((List.range q).filterMap fun i=>bif gbit (gn:Int) i then some (i:Int)else none).map (fun i=>knowN i sx)/\FRow W0 wr vo ol)) (fun _ _ v _=>4 - (intOf v).toNat)
 case atStart=>exact⟨0,rfl,Nat.zero_le _,Qq ⟨[],rfl,FRow.nil _⟩⟩
 case round =>
  obtain⟨q,rfl,hq,HREL⟩:=hrel;obtain⟨ol,hol',hfr⟩:=HREL.out;obtain⟨us2,hrow2,hus2⟩:=hfr.row;obtain⟨Ao2,co2,rfl⟩:=slice_of_row hrow2;have HOL:=Qq (group_take gn sx q ol hol');have HOL0:=Qq hol';have HFR2:=Qq hfr;have HROW2:=Qq hrow2;have HUS2:=Qq hus2;have holen:ol.length<=4:=by rw [hol',List.length_map];refine Qx (List.length_filterMap_le _ _) (by simp;omega)
  clear HREL hol' hfr hrow2 hus2;have dl3:=(HFR2.out.ext.cell (p:=⟨w2.heap.size,3,none⟩) zlt).trans D3.out;by_cases hq4:q < 4
  ·have hq1:(q:Int) < 4:=by omega
   have hbt:=shr_and_one_i gn q (by omega);cases hgb:gn.testBit q
   case true =>
    rw [hgb]at hbt;have HGB:=Qq (HOL.out.1 hgb);clear hgb;go_wp2_with fail;refine(know_any (q:Int) ⟨by omega,by omega⟩ _ sx _ (HP0.out.ext HFR2.out.ext)).mono ?_;rintro e w5 ⟨u,rfl,hm⟩;have HM:=Qq hm;have Y1:=Qq hm.ext;obtain⟨Au,cu,rfl,_⟩:=fml_slice hm.fml;clear hm;have hc3:ol.length+1<=maxLen:=by unfold maxLen;omega
    have hc4:(ol.length+1)*24<=140737488355328:=by omega
    go_wp2_with(at_builtin;refine wpList_append_own_at _ rfl _ _ 40 rfl W0.heap.size 31 iI (.slice none 0 0) 1 24 Tryz.underlying40 hiI hzI0 hzI1 hzI2 rfl (by decide) _ ol.length us2 rfl (row_ext HROW2.out (Y1.out.alloc _)) ⟨_,0,none⟩ 1 1 [.slice Au (knowN (q:Int) sx).length cu] rfl rfl (row_new_at _ _ _ (by simp)) (fun u hu=>by rw [List.mem_singleton.1 hu];rfl) hc3 hc4 (Qx HFR2.out.ext.size (Y1.out.alloc _).size) ?_);intro v7 w7 hown7 hgrow7 _ hat7;have HPS:=Qq (FRow.push (s:=knowN (q:Int) sx) ((HFR2.out.ext.trans Y1.out).alloc _) (row_ext HROW2.out (Y1.out.alloc _)) (fun k s hk=>by
     obtain⟨u,a,b,c⟩:=HUS2.out k s hk;exact⟨u,a,b.ext (Y1.out.alloc _),c.ext (Y1.out.alloc _)⟩) hown7 hgrow7 (hat7.imp id (fun e=>e.trans (by simp))) (HM.out.fml.ext (Qz.alloc _)) (made_away (Nat.le_refl _) (row_ext HM.out.1 (Qz.alloc _)) HROW2.out HFR2.out.ext.size))
    obtain⟨A7,c7,rfl⟩:=slice_of_row hown7;clear hown7 hgrow7 hat7;go_wp2_with fail;go_roundw
    case rel=>exact⟨q+1,by go_num,by omega,Qq ⟨_,HGB.out,HPS.out⟩⟩
    case measure=>simp [intOf];omega
   case false =>
    rw [hgb]at hbt;have HGB:=Qq (HOL.out.2 hgb);clear hgb;go_wp2_with fail;go_roundw
    case rel=>exact⟨q+1,by go_num,by omega,Qq ⟨_,HGB.out,HFR2.out⟩⟩
    case measure=>simp [intOf];omega
  obtain rfl:4=q:=by omega
  have HE2:=Qq (show everyH f=sameN f (iffN (partA f) (allN ol)) by rw [HE.out,HOL0.out];rfl);go_wp2_with fail;refine(hall_any _ ol _ HFR2.out.fmls).mono ?_;rintro e w5 ⟨u,rfl,hm⟩;have S5:=Qq (HFR2.out.ext.trans hm.ext);have HL:=Qq hm.fml;obtain⟨AHL,cHL,rfl,_⟩:=fml_slice hm.fml;clear hm;go_wp2_with fail;refine(fiff_any _ _ _ _ _ (HA0.out.ext S5.out) HL.out).mono ?_;rintro e w6 ⟨u,rfl,hm⟩;have S6:=Qq (S5.out.trans hm.ext);have HM:=Qq hm.fml;obtain⟨AHM,cHM,rfl,_⟩:=fml_slice hm.fml;clear hm;go_wp2_with fail;refine(same_any _ _ _ _ _ (HF0.out.ext S6.out) HM.out).mono ?_;rintro e w7 ⟨rfl,hx⟩;have S7:=Qq (S6.out.trans hx)
  clear hx;go_wp2_with fail;go_ret;exact⟨same_of HE2.out.symm,((S1.out.trans S2.out).trans E0.out).trans S7.out⟩
def htab:List Value:= [.func (.func 153) #[] #[],.func (.func 154) #[] #[],.func (.func 155) #[] #[],.func (.func 158) #[] #[],.func (.func 160) #[] #[],.func (.func 161) #[] #[],.func (.func 163) #[] #[],.func (.func 164) #[] #[],.func (.func 165) #[] #[]]
structure HTab (w:World):Prop where
 at_:∀j v,htab[j]?=some v->w.cell? ⟨0,j+1,none⟩=some v
theorem HTab.ext {w w':World}(h:HTab w)(he:Ext w w'):HTab w' :=
 ⟨fun j v hj=>(he.cell (p:=⟨0,j+1,none⟩) (World.block_lt_of_cell? _ _ (h.at_ j v hj))).trans (h.at_ j v hj)⟩
theorem compact_two {f:List Nd}(hc:check f=0):compactN (compactN f)=compactN f:=by
 rw [compactN_tree (compactN_check hc),treeOf_compact hc,compactN_tree hc]
theorem axiom_any {w:World} {lg:Int} {v:Value} {f:List Nd}(h:Fml w v f)(hT:HTab w):
 Calls Tryz.prog 19 #[.int .i64 lg,v] w fun e w'=>e=.returned (.tuple #[.int .i64 (axiomN lg f).1,.int .i64 (axiomN lg f).2])/\Ext w w':=by
 have HF:=Qq h;have HT:=Qq hT;obtain⟨A,c0,rfl,_⟩:=fml_slice h;clear h hT;cases ht:thereH lg
 ·have HTH:=Qq ht;have HE:=Qq (show axiomN lg f=(0,1) by unfold axiomN;unfold thereH at ht;cases hb:(decide (lg < 0)||decide (6 < lg));(rw [hb]at ht;cases ht);rfl);clear ht;go_enter Tryz.func19,Tryz.ntmps19;go_wp2_with fail;refine(hthere_any lg _).mono ?_;rintro e w1 ⟨rfl,hx⟩;rw [HTH.out];have S1:=Qq hx;clear hx;go_wp2_with fail;go_ret2;exact⟨by rw [HE.out] <;> rfl,S1.out⟩
 have HTH:=Qq ht;have hlg:0<=lg/\lg<=6:=by
  unfold thereH at ht;rw [Bool.not_eq_true',Bool.or_eq_false_iff]at ht;have h1:=of_decide_eq_false ht.1;have h2:=of_decide_eq_false ht.2;omega
 have HLG:=Qq hlg;have HA:Hid (axiomN lg f=bif formedH f !=0 then(0,formedH f)else(axGo lg (compactN f) 9 1,0)):=Qq (by unfold axiomN;unfold thereH at ht;cases hb:(decide (lg < 0)||decide (6 < lg));rfl;(rw [hb]at ht;cases ht));obtain⟨fv,hfv⟩:∃z,z=formedH f:=⟨_,rfl⟩;have HFV:=Qq hfv;clear ht hlg hfv;go_enter Tryz.func19,Tryz.ntmps19;go_wp2_with fail;refine(hthere_any lg _).mono ?_;rintro e w1 ⟨rfl,hx⟩;rw [HTH.out];have S1:=Qq hx;clear hx;go_wp2_with fail;refine(formed_any (HF.out.ext S1.out)).mono ?_;rintro e w2 ⟨rfl,hx⟩;rw [<-HFV.out];have S2:=Qq (S1.out.trans hx);clear hx;by_cases h0:fv=0
 ·subst h0;have hck:check f=0:=by
   have h:=HFV.out;unfold formedH at h;cases e:check f !=0
   ·simpa using e
   rw [e,cond_true]at h;exact h.symm
  go_wp2_with fail;refine(compactF_any _ f _ (HF.out.ext S2.out)).mono ?_;rintro e w3 ⟨u,rfl,hm⟩;have S3:=Qq (S2.out.trans hm.ext);have HCF:=Qq hm.fml;have HCK:=Qq (compactN_check hck);have HC2:=Qq (compact_two hck);have HE:=Qq (show axiomN lg f=(axGo lg (compactN f) 9 1,0) by rw [HA.out,<-HFV.out];rfl);obtain⟨c,hc⟩:∃z,z=compactN f:=⟨_,rfl⟩;rw [<-hc]at HCF HCK HC2 HE hm;obtain⟨Ac,cc,rfl,_⟩:=fml_slice hm.fml;clear hm hc hck;go_wp2_with fail;go_loopw [8] (fun vi wr=>∃k:Nat,vi=.int .i64 ((k:Int)+1)/\k<=9/\Hid (axGo lg c 9 1=axGo lg c (9 - k) ((k:Int)+1))/\Hid (Ext w3 wr)) (fun v _=>10 - (intOf v).toNat)
  case atStart=>exact⟨0,rfl,Nat.zero_le _,Qq rfl,Qq Qz⟩
  case round =>
   obtain⟨k,rfl,hk,HG,HX⟩:=hrel;have HFR:=Qq (HCF.out.ext HX.out);have SR:=Qq (S3.out.trans HX.out);by_cases hlt2:k < 9
   ·have hk1:(k:Int)+1<=9:=by omega
    have HST:=Qq (show axGo lg c 9 1=bif hasH lg ((k:Int)+1)&&axiomH ((k:Int)+1) c then(k:Int)+1 else axGo lg c (9 - (k+1)) ((k:Int)+1+1) by rw [HG.out,show 9 - k=(9 - (k+1))+1 by omega];rfl);cases hh:hasH lg ((k:Int)+1)
    ·have HH:=Qq hh;have HN:=Qq (show axGo lg c 9 1=axGo lg c (9 - (k+1)) ((k:Int)+1+1) by rw [HST.out,hh];rfl);clear hh;go_wp2_with fail;refine(hhas_any lg ((k:Int)+1) HLG.out.1 HLG.out.2 _).mono ?_;rintro e w4 ⟨rfl,hx⟩;rw [HH.out];have HX4:=Qq (HX.out.trans hx);clear hx;go_wp2_with fail;go_roundw
     case rel=>exact⟨k+1,by go_num,by omega,Qq (by rw [HN.out];rfl),HX4⟩
     case measure=>simp [intOf];omega
    have HH:=Qq hh;clear hh;rcases(show k=0\/k=1\/k=2\/k=3\/k=4\/k=5\/k=6\/k=7\/k=8 by omega)with rfl|rfl|rfl|rfl|rfl|rfl|rfl|rfl|rfl
    ·go_wp2_with fail;refine(hhas_any lg _ HLG.out.1 HLG.out.2 _).mono ?_;rintro e w4 ⟨rfl,hx⟩;rw [show hasH lg 1=true from HH.out];have S4:=Qq (HX.out.trans hx);have g1:=((HT.out.ext S3.out).ext S4.out).at_ 0 _ rfl;have HF4:=Qq (HFR.out.ext hx);obtain⟨bv,hbv⟩:∃z,z=tautN c:=⟨_,rfl⟩;have HB:=Qq hbv;clear hx hbv;go_wp2_with fail;refine(htaut_any HF4.out HCK.out).mono ?_;rintro e w5 ⟨rfl,hx⟩;rw [HC2.out,<-HB.out];have S5:=Qq (S4.out.trans hx);clear hx g1;cases bv
     ·have HN:=Qq (show axGo lg c 9 1=axGo lg c 8 2 by rw [HST.out];rw [show axiomH (((0:Nat):Int)+1) c=false from HB.out.symm,Bool.and_false];rfl);go_wp2_with fail;go_roundw
      case rel=>exact⟨1,by go_num,by omega,Qq HN.out,S5⟩
      case measure=>simp [intOf]
     have HN:=Qq (show axGo lg c 9 1=1 by rw [HST.out];rw [show axiomH (((0:Nat):Int)+1) c=true from HB.out.symm,show hasH lg (((0:Nat):Int)+1)=true from HH.out];rfl);go_wp2_with fail;go_ret2;exact⟨by rw [HE.out,HN.out] <;> rfl,S3.out.trans S5.out⟩
    ·go_wp2_with fail;refine(hhas_any lg _ HLG.out.1 HLG.out.2 _).mono ?_;rintro e w4 ⟨rfl,hx⟩;rw [show hasH lg 2=true from HH.out];have S4:=Qq (HX.out.trans hx);have g1:=((HT.out.ext S3.out).ext S4.out).at_ 1 _ rfl;have HF4:=Qq (HFR.out.ext hx);obtain⟨bv,hbv⟩:∃z,z=distH c:=⟨_,rfl⟩;have HB:=Qq hbv;clear hx hbv;go_wp2_with fail;refine(dist_any HF4.out).mono ?_;rintro e w5 ⟨rfl,hx⟩;rw [<-HB.out];have S5:=Qq (S4.out.trans hx);clear hx g1;cases bv
     ·have HN:=Qq (show axGo lg c 9 1=axGo lg c 7 3 by rw [HST.out];rw [show axiomH (((1:Nat):Int)+1) c=false from HB.out.symm,Bool.and_false];rfl);go_wp2_with fail;go_roundw
      case rel=>exact⟨2,by go_num,by omega,Qq HN.out,S5⟩
      case measure=>simp [intOf]
     have HN:=Qq (show axGo lg c 9 1=2 by rw [HST.out];rw [show axiomH (((1:Nat):Int)+1) c=true from HB.out.symm,show hasH lg (((1:Nat):Int)+1)=true from HH.out];rfl);go_wp2_with fail;go_ret2;exact⟨by rw [HE.out,HN.out] <;> rfl,S3.out.trans S5.out⟩
    ·go_wp2_with fail;refine(hhas_any lg _ HLG.out.1 HLG.out.2 _).mono ?_;rintro e w4 ⟨rfl,hx⟩;rw [show hasH lg 3=true from HH.out];have S4:=Qq (HX.out.trans hx);have g1:=((HT.out.ext S3.out).ext S4.out).at_ 2 _ rfl;have HF4:=Qq (HFR.out.ext hx);obtain⟨bv,hbv⟩:∃z,z=impliedH toT c:=⟨_,rfl⟩;have HB:=Qq hbv;clear hx hbv;go_wp2_with fail;refine(axT_any HF4.out).mono ?_;rintro e w5 ⟨rfl,hx⟩;rw [<-HB.out];have S5:=Qq (S4.out.trans hx);clear hx g1;cases bv
     ·have HN:=Qq (show axGo lg c 9 1=axGo lg c 6 4 by rw [HST.out];rw [show axiomH (((2:Nat):Int)+1) c=false from HB.out.symm,Bool.and_false];rfl);go_wp2_with fail;go_roundw
      case rel=>exact⟨3,by go_num,by omega,Qq HN.out,S5⟩
      case measure=>simp [intOf]
     have HN:=Qq (show axGo lg c 9 1=3 by rw [HST.out];rw [show axiomH (((2:Nat):Int)+1) c=true from HB.out.symm,show hasH lg (((2:Nat):Int)+1)=true from HH.out];rfl);go_wp2_with fail;go_ret2;exact⟨by rw [HE.out,HN.out] <;> rfl,S3.out.trans S5.out⟩
    ·go_wp2_with fail;refine(hhas_any lg _ HLG.out.1 HLG.out.2 _).mono ?_;rintro e w4 ⟨rfl,hx⟩;rw [show hasH lg 4=true from HH.out];have S4:=Qq (HX.out.trans hx);have g1:=((HT.out.ext S3.out).ext S4.out).at_ 3 _ rfl;have HF4:=Qq (HFR.out.ext hx);obtain⟨bv,hbv⟩:∃z,z=impliedH to4 c:=⟨_,rfl⟩;have HB:=Qq hbv;clear hx hbv;go_wp2_with fail;refine(ax4_any HF4.out).mono ?_;rintro e w5 ⟨rfl,hx⟩;rw [<-HB.out];have S5:=Qq (S4.out.trans hx);clear hx g1;cases bv
     ·have HN:=Qq (show axGo lg c 9 1=axGo lg c 5 5 by rw [HST.out];rw [show axiomH (((3:Nat):Int)+1) c=false from HB.out.symm,Bool.and_false];rfl);go_wp2_with fail;go_roundw
      case rel=>exact⟨4,by go_num,by omega,Qq HN.out,S5⟩
      case measure=>simp [intOf]
     have HN:=Qq (show axGo lg c 9 1=4 by rw [HST.out];rw [show axiomH (((3:Nat):Int)+1) c=true from HB.out.symm,show hasH lg (((3:Nat):Int)+1)=true from HH.out];rfl);go_wp2_with fail;go_ret2;exact⟨by rw [HE.out,HN.out] <;> rfl,S3.out.trans S5.out⟩
    ·go_wp2_with fail;refine(hhas_any lg _ HLG.out.1 HLG.out.2 _).mono ?_;rintro e w4 ⟨rfl,hx⟩;rw [show hasH lg 5=true from HH.out];have S4:=Qq (HX.out.trans hx);have g1:=((HT.out.ext S3.out).ext S4.out).at_ 4 _ rfl;have HF4:=Qq (HFR.out.ext hx);obtain⟨bv,hbv⟩:∃z,z=introH c:=⟨_,rfl⟩;have HB:=Qq hbv;clear hx hbv;go_wp2_with fail;refine(intro_any HF4.out).mono ?_;rintro e w5 ⟨rfl,hx⟩;rw [<-HB.out];have S5:=Qq (S4.out.trans hx);clear hx g1;cases bv
     ·have HN:=Qq (show axGo lg c 9 1=axGo lg c 4 6 by rw [HST.out];rw [show axiomH (((4:Nat):Int)+1) c=false from HB.out.symm,Bool.and_false];rfl);go_wp2_with fail;go_roundw
      case rel=>exact⟨5,by go_num,by omega,Qq HN.out,S5⟩
      case measure=>simp [intOf]
     have HN:=Qq (show axGo lg c 9 1=5 by rw [HST.out];rw [show axiomH (((4:Nat):Int)+1) c=true from HB.out.symm,show hasH lg (((4:Nat):Int)+1)=true from HH.out];rfl);go_wp2_with fail;go_ret2;exact⟨by rw [HE.out,HN.out] <;> rfl,S3.out.trans S5.out⟩
    ·go_wp2_with fail;refine(hhas_any lg _ HLG.out.1 HLG.out.2 _).mono ?_;rintro e w4 ⟨rfl,hx⟩;rw [show hasH lg 6=true from HH.out];have S4:=Qq (HX.out.trans hx);have g1:=((HT.out.ext S3.out).ext S4.out).at_ 5 _ rfl;have HF4:=Qq (HFR.out.ext hx);obtain⟨bv,hbv⟩:∃z,z=impliedH toD c:=⟨_,rfl⟩;have HB:=Qq hbv;clear hx hbv;go_wp2_with fail;refine(axD_any HF4.out).mono ?_;rintro e w5 ⟨rfl,hx⟩;rw [<-HB.out];have S5:=Qq (S4.out.trans hx);clear hx g1;cases bv
     ·have HN:=Qq (show axGo lg c 9 1=axGo lg c 3 7 by rw [HST.out];rw [show axiomH (((5:Nat):Int)+1) c=false from HB.out.symm,Bool.and_false];rfl);go_wp2_with fail;go_roundw
      case rel=>exact⟨6,by go_num,by omega,Qq HN.out,S5⟩
      case measure=>simp [intOf]
     have HN:=Qq (show axGo lg c 9 1=6 by rw [HST.out];rw [show axiomH (((5:Nat):Int)+1) c=true from HB.out.symm,show hasH lg (((5:Nat):Int)+1)=true from HH.out];rfl);go_wp2_with fail;go_ret2;exact⟨by rw [HE.out,HN.out] <;> rfl,S3.out.trans S5.out⟩
    ·go_wp2_with fail;refine(hhas_any lg _ HLG.out.1 HLG.out.2 _).mono ?_;rintro e w4 ⟨rfl,hx⟩;rw [show hasH lg 7=true from HH.out];have S4:=Qq (HX.out.trans hx);have g1:=((HT.out.ext S3.out).ext S4.out).at_ 6 _ rfl;have HF4:=Qq (HFR.out.ext hx);obtain⟨bv,hbv⟩:∃z,z=dualH c:=⟨_,rfl⟩;have HB:=Qq hbv;clear hx hbv;go_wp2_with fail;refine(dual2_any HF4.out).mono ?_;rintro e w5 ⟨rfl,hx⟩;rw [<-HB.out];have S5:=Qq (S4.out.trans hx);clear hx g1;cases bv
     ·have HN:=Qq (show axGo lg c 9 1=axGo lg c 2 8 by rw [HST.out];rw [show axiomH (((6:Nat):Int)+1) c=false from HB.out.symm,Bool.and_false];rfl);go_wp2_with fail;go_roundw
      case rel=>exact⟨7,by go_num,by omega,Qq HN.out,S5⟩
      case measure=>simp [intOf]
     have HN:=Qq (show axGo lg c 9 1=7 by rw [HST.out];rw [show axiomH (((6:Nat):Int)+1) c=true from HB.out.symm,show hasH lg (((6:Nat):Int)+1)=true from HH.out];rfl);go_wp2_with fail;go_ret2;exact⟨by rw [HE.out,HN.out] <;> rfl,S3.out.trans S5.out⟩
    ·go_wp2_with fail;refine(hhas_any lg _ HLG.out.1 HLG.out.2 _).mono ?_;rintro e w4 ⟨rfl,hx⟩;rw [show hasH lg 8=true from HH.out];have S4:=Qq (HX.out.trans hx);have g1:=((HT.out.ext S3.out).ext S4.out).at_ 7 _ rfl;have HF4:=Qq (HFR.out.ext hx);obtain⟨bv,hbv⟩:∃z,z=everyH c:=⟨_,rfl⟩;have HB:=Qq hbv;clear hx hbv;go_wp2_with fail;refine(every2_any HF4.out HCK.out).mono ?_;rintro e w5 ⟨rfl,hx⟩;rw [<-HB.out];have S5:=Qq (S4.out.trans hx);clear hx g1;cases bv
     ·have HN:=Qq (show axGo lg c 9 1=axGo lg c 1 9 by rw [HST.out];rw [show axiomH (((7:Nat):Int)+1) c=false from HB.out.symm,Bool.and_false];rfl);go_wp2_with fail;go_roundw
      case rel=>exact⟨8,by go_num,by omega,Qq HN.out,S5⟩
      case measure=>simp [intOf]
     have HN:=Qq (show axGo lg c 9 1=8 by rw [HST.out];rw [show axiomH (((7:Nat):Int)+1) c=true from HB.out.symm,show hasH lg (((7:Nat):Int)+1)=true from HH.out];rfl);go_wp2_with fail;go_ret2;exact⟨by rw [HE.out,HN.out] <;> rfl,S3.out.trans S5.out⟩
    go_wp2_with fail;refine(hhas_any lg _ HLG.out.1 HLG.out.2 _).mono ?_;rintro e w4 ⟨rfl,hx⟩;rw [show hasH lg 9=true from HH.out];have S4:=Qq (HX.out.trans hx);have g1:=((HT.out.ext S3.out).ext S4.out).at_ 8 _ rfl;have HF4:=Qq (HFR.out.ext hx);obtain⟨bv,hbv⟩:∃z,z=fixedH c:=⟨_,rfl⟩;have HB:=Qq hbv;clear hx hbv;go_wp2_with fail;refine(fixed_any HF4.out).mono ?_;rintro e w5 ⟨rfl,hx⟩;rw [<-HB.out];have S5:=Qq (S4.out.trans hx);clear hx g1;cases bv
    ·have HN:=Qq (show axGo lg c 9 1=axGo lg c 0 10 by rw [HST.out];rw [show axiomH (((8:Nat):Int)+1) c=false from HB.out.symm,Bool.and_false];rfl);go_wp2_with fail;go_roundw
     case rel=>exact⟨9,by go_num,by omega,Qq HN.out,S5⟩
     case measure=>simp [intOf]
    have HN:=Qq (show axGo lg c 9 1=9 by rw [HST.out];rw [show axiomH (((8:Nat):Int)+1) c=true from HB.out.symm,show hasH lg (((8:Nat):Int)+1)=true from HH.out];rfl);go_wp2_with fail;go_ret2;exact⟨by rw [HE.out,HN.out] <;> rfl,S3.out.trans S5.out⟩
   obtain rfl:k=9:=by omega
   have HN:=Qq (show axGo lg c 9 1=0 from HG.out);go_wp2_with fail;go_ret2;exact⟨by rw [HE.out,HN.out] <;> rfl,SR.out⟩
 have hn:(fv !=0)=true:=by simpa using h0
 have HE:=Qq (show axiomN lg f=(0,fv) by rw [HA.out,<-HFV.out,hn];rfl);clear h0;go_wp2_with fail;go_ret2;exact⟨by rw [HE.out] <;> rfl,S2.out⟩
end Go.Proofs.YtmidgcldljfkcaaGreatDoor
