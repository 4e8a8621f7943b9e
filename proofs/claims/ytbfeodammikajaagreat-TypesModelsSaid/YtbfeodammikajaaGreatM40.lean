/- The reference of types: lacks. -/
import Derived.Test.YtbfeodammikajaaGreatM01
import Derived.Test.YtbfeodammikajaaGreatM39
import Derived.Test.YtbfeodammikajaaGreatM26
import Derived.Test.YtbfeodammikajaaGreatM11
namespace Go.Proofs.YtbfeodammikajaaGreat
set_option maxRecDepth 100000
set_option maxHeartbeats 128000000
open Go.RowKit
structure AgOk (base:List (List Nd)):Prop where
 kn:∀i,i < base.length->(topN base i).op=9->0<=(topN base i).i/\(topN base i).i < 4
 cm:∀i,i < base.length->(topN base i).op=13->∃gn:Nat,(topN base i).g=(gn:Int)/\gn < 16
theorem occ_big {base:List (List Nd)} {a:Int}(h:AgOk base)(ha:4<=a):occN base a=false :=
 occ_miss fun k hk=>by
  cases h9:(topN base k).op==9
  ·rfl
  have h1:=h.kn k hk (by simpa using h9);rw [Bool.true_and,beq_eq_false_iff_ne];omega
theorem setg_get {w:World} {As:Option Addr} {cs:Nat} {set:List Bool} {m k:Nat}(h:BoolsAt w As cs set)(hl:set.length=m)(hk:k < m):∃ad,As=some ad/\ad.block < w.heap.size/\w.cell? (ad.add k)=some (.bool (set.getD k false)):=bools_get h (by rw [hl];exact hk)
theorem rlacks_any(s:Nat)(lg:Int)(base:List (List Nd))(set:List Bool)(vs:Value)(t m:Nat)(num:Int)(w:World)(hS:SpcAt w s lg base)(hbl:base.length<=12)(hlg:0<=lg/\lg<=6)(hm:m=2^base.length)(hsl:set.length=m)(hb:Bools w vs set)
 (hag:AgOk base)(hnum:i64ok num):
 Calls Tryz.prog 36 #[.pointer (some ⟨s,0,none⟩),vs,.int .i64 (t:Int),.int .i64 num] w fun e w'=>e=.returned (.bool (lacksN lg (knowsN base) (commsN base) set t num))/\Ext w w':=by
 obtain⟨vb,Ao,co,A1,c1,A2,c2,A3,c3,hs,d0,d1,d2,d3,d4,d5,HFM,HNO,HKN,HCO,HLA⟩:=hS.reads;obtain⟨Ab,cb,rfl,_,_,_⟩:=HFM.out;have HS:=Qq hS;have HM:=Qq hm;have HSL:=Qq hsl;have HB:=Qq hb;have HAG:=Qq hag;have hm2:m<=4096:=by rw [hm];exact pow12 hbl
 obtain⟨As,cs,rfl,hbs⟩:=hb;rw [hsl]at HB⊢;have HBS:=Qq hbs;obtain⟨l0,l6⟩:=hlg;have HL:=Qq (show 0<=lg/\lg<=6 from⟨l0,l6⟩);unfold i64ok at hnum;obtain⟨n0,n1⟩:=hnum;have D3:=Qq d3;clear hS hm hsl hbs l0 l6 d3 d4 d5 HFM hag;by_cases hn0:num < 0
 ·have HLN:=Qq (lacks_neg (lg:=lg) (base:=base) (al:=set) (t:=t) hn0);have hage:0<= -1 - num:=by omega
  by_cases ha4:4<= -1 - num
  ·have HE:=Qq (show lacksN lg (knowsN base) (commsN base) set t num=false by rw [HLN.out,occ_big HAG.out ha4,Bool.false_and,Bool.and_false]);go_enter Tryz.func36,Tryz.ntmps36;go_wp2_with fail;go_ret;exact⟨by rw [HE.out] <;> rfl,Qz⟩
  have ha3: -1 - num < 4:=by omega
  by_cases h1:lg=1
  ·subst h1;have HSP:=Qq (show((1:Int)==1||(1:Int)==5)=true by rfl);go_enter Tryz.func36,Tryz.ntmps36;go_wp2_with fail;refine(occurs_any s 1 base (-1 - num) _ HS.out hbl).mono ?_;rintro e w2 ⟨rfl,hx2⟩;have HX2:=Qq hx2;clear hx2;cases hoc:occN base (-1 - num)
   ·have HE:=Qq (show lacksN 1 (knowsN base) (commsN base) set t num=false by rw [HLN.out,hoc,Bool.false_and,Bool.and_false]);clear hoc;go_wp2_with fail;go_ret;exact⟨by rw [HE.out] <;> rfl,HX2.out⟩
   have HLN2:=Qq (show lacksN 1 (knowsN base) (commsN base) set t num=decide (nextN 1 (knowsN base) set (-1 - num) t (fun _=>true) < 0) by rw [HLN.out,hoc,HSP.out,Bool.true_and,Bool.true_and]);clear hoc;go_wp2_with fail;go_loopw [41] (fun v wr=>∃k:Nat,v=.int .i64 (k:Int)/\k<=m/\Hid (Ext w wr/\∀j,j < k->nextP 1 (knowsN base) set (-1 - num) t (fun _=>true) j=false)) (fun v _=>m - (intOf v).toNat)
   case atStart=>exact⟨0,rfl,Nat.zero_le _,Qq ⟨HX2.out,fun j hj=>absurd hj (by omega)⟩⟩
   case round =>
    obtain⟨k,rfl,hk,HREL⟩:=hrel;have HXB:=Qq HREL.out.1;have HX:=Qq (HREL.out.1);have HJ:=Qq HREL.out.2;clear HREL;by_cases hlt2:k < m
    ·have hk1:(k:Int) < (m:Int):=by omega
     obtain⟨ad,rfl,hadl,s0⟩:=setg_get HBS.out HSL.out hlt2;have s1:=(HX.out.cell (p:=ad.add k) (Qj hadl)).trans s0;have hadl2:(ad.add k).block < wr.heap.size:=by rw [block_of_add];exact Qy hadl HX.out.size
     have HNX:=Qq (show nextP 1 (knowsN base) set (-1 - num) t (fun _=>true) k=false->∀j,j < k+1->nextP 1 (knowsN base) set (-1 - num) t (fun _=>true) j=false from fun h=>upto HJ.out h);clear s0;cases hsv:set.getD k false
     ·rw [hsv]at s1;have HF:=Qq (HNX.out (by unfold nextP;rw [hsv,Bool.false_and]));clear hsv;go_wp2_with fail;go_roundw
      case rel=>exact⟨k+1,by go_num,by omega,Qq ⟨HXB.out,HF.out⟩⟩
      case measure=>simp [intOf];omega
     rw [hsv]at s1;have HPP:=Qq (show nextP 1 (knowsN base) set (-1 - num) t (fun _=>true) k=possibleN 1 (knowsN base) (-1 - num) t k by unfold nextP;rw [hsv,Bool.true_and,Bool.true_and]);clear hsv;go_wp2_with fail;refine(rpossible_any s 1 base (-1 - num) t k wr (HS.out.ext HX.out) hbl HL.out (by rw [<-HM.out];exact hlt2)).mono ?_;rintro e w3 ⟨rfl,hx3⟩;have HX5:=Qq (HX.out.trans hx3);have HXB3:=Qq (HXB.out.trans hx3);clear hx3;cases hp:possibleN 1 (knowsN base) (-1 - num) t k
     ·have HF:=Qq (HNX.out (by rw [HPP.out,hp]));clear hp;go_wp2_with fail;go_roundw
      case rel=>exact⟨k+1,by go_num,by omega,Qq ⟨HXB3.out,HF.out⟩⟩
      case measure=>simp [intOf];omega
     have HE:=Qq (show lacksN 1 (knowsN base) (commsN base) set t num=false by rw [HLN2.out,next_hit (by rw [HSL.out];exact hlt2) (by rw [HPP.out,hp]) HJ.out];exact decide_eq_false (by omega));clear hp;go_wp2_with fail;go_ret;exact⟨by rw [HE.out] <;> rfl,HX5.out⟩
    obtain rfl:m=k:=by omega
    have HE:=Qq (show lacksN 1 (knowsN base) (commsN base) set t num=true by rw [HLN2.out,next_miss (by rw [HSL.out];exact HJ.out)];rfl);go_wp2_with fail;go_ret;exact⟨by rw [HE.out] <;> rfl,HX.out⟩
  by_cases h5:lg=5
  ·subst h5;have HSP:=Qq (show((5:Int)==1||(5:Int)==5)=true by rfl);go_enter Tryz.func36,Tryz.ntmps36;go_wp2_with fail;refine(occurs_any s 5 base (-1 - num) _ HS.out hbl).mono ?_;rintro e w2 ⟨rfl,hx2⟩;have HX2:=Qq hx2;clear hx2;cases hoc:occN base (-1 - num)
   ·have HE:=Qq (show lacksN 5 (knowsN base) (commsN base) set t num=false by rw [HLN.out,hoc,Bool.false_and,Bool.and_false]);clear hoc;go_wp2_with fail;go_ret;exact⟨by rw [HE.out] <;> rfl,HX2.out⟩
   have HLN2:=Qq (show lacksN 5 (knowsN base) (commsN base) set t num=decide (nextN 5 (knowsN base) set (-1 - num) t (fun _=>true) < 0) by rw [HLN.out,hoc,HSP.out,Bool.true_and,Bool.true_and]);clear hoc;go_wp2_with fail;go_loopw [41] (fun v wr=>∃k:Nat,v=.int .i64 (k:Int)/\k<=m/\Hid (Ext w wr/\∀j,j < k->nextP 5 (knowsN base) set (-1 - num) t (fun _=>true) j=false)) (fun v _=>m - (intOf v).toNat)
   case atStart=>exact⟨0,rfl,Nat.zero_le _,Qq ⟨HX2.out,fun j hj=>absurd hj (by omega)⟩⟩
   case round =>
    obtain⟨k,rfl,hk,HREL⟩:=hrel;have HXB:=Qq HREL.out.1;have HX:=Qq (HREL.out.1);have HJ:=Qq HREL.out.2;clear HREL;by_cases hlt2:k < m
    ·have hk1:(k:Int) < (m:Int):=by omega
     obtain⟨ad,rfl,hadl,s0⟩:=setg_get HBS.out HSL.out hlt2;have s1:=(HX.out.cell (p:=ad.add k) (Qj hadl)).trans s0;have hadl2:(ad.add k).block < wr.heap.size:=by rw [block_of_add];exact Qy hadl HX.out.size
     have HNX:=Qq (show nextP 5 (knowsN base) set (-1 - num) t (fun _=>true) k=false->∀j,j < k+1->nextP 5 (knowsN base) set (-1 - num) t (fun _=>true) j=false from fun h=>upto HJ.out h);clear s0;cases hsv:set.getD k false
     ·rw [hsv]at s1;have HF:=Qq (HNX.out (by unfold nextP;rw [hsv,Bool.false_and]));clear hsv;go_wp2_with fail;go_roundw
      case rel=>exact⟨k+1,by go_num,by omega,Qq ⟨HXB.out,HF.out⟩⟩
      case measure=>simp [intOf];omega
     rw [hsv]at s1;have HPP:=Qq (show nextP 5 (knowsN base) set (-1 - num) t (fun _=>true) k=possibleN 5 (knowsN base) (-1 - num) t k by unfold nextP;rw [hsv,Bool.true_and,Bool.true_and]);clear hsv;go_wp2_with fail;refine(rpossible_any s 5 base (-1 - num) t k wr (HS.out.ext HX.out) hbl HL.out (by rw [<-HM.out];exact hlt2)).mono ?_;rintro e w3 ⟨rfl,hx3⟩;have HX5:=Qq (HX.out.trans hx3);have HXB3:=Qq (HXB.out.trans hx3);clear hx3;cases hp:possibleN 5 (knowsN base) (-1 - num) t k
     ·have HF:=Qq (HNX.out (by rw [HPP.out,hp]));clear hp;go_wp2_with fail;go_roundw
      case rel=>exact⟨k+1,by go_num,by omega,Qq ⟨HXB3.out,HF.out⟩⟩
      case measure=>simp [intOf];omega
     have HE:=Qq (show lacksN 5 (knowsN base) (commsN base) set t num=false by rw [HLN2.out,next_hit (by rw [HSL.out];exact hlt2) (by rw [HPP.out,hp]) HJ.out];exact decide_eq_false (by omega));clear hp;go_wp2_with fail;go_ret;exact⟨by rw [HE.out] <;> rfl,HX5.out⟩
    obtain rfl:m=k:=by omega
    have HE:=Qq (show lacksN 5 (knowsN base) (commsN base) set t num=true by rw [HLN2.out,next_miss (by rw [HSL.out];exact HJ.out)];rfl);go_wp2_with fail;go_ret;exact⟨by rw [HE.out] <;> rfl,HX.out⟩
  have t1:(lg !=1)=true:=by simpa using h1
  have t5:(lg !=5)=true:=by simpa using h5
  have HE:=Qq (show lacksN lg (knowsN base) (commsN base) set t num=false by rw [HLN.out,show(lg==1)=false by simpa using h1,show(lg==5)=false by simpa using h5];rfl);clear h1 h5;go_enter Tryz.func36,Tryz.ntmps36;go_wp2_with fail;go_ret;exact⟨by rw [HE.out] <;> rfl,Qz⟩
 obtain⟨nn,rfl⟩:=Int.eq_ofNat_of_zero_le (show 0<=num by omega);have hn1:((nn:Int) < 0)=False:=by simp
 clear hn0 n0 d0;by_cases hnl:nn < base.length
 ·have hnl1:(nn:Int) < (base.length:Int):=by omega
  have hn64:nn < 64:=by omega
  have hnl2:decide (base.length<=nn)=false:=decide_eq_false (by omega);cases hin:t.testBit nn
  case true =>
   have HE:=Qq (lacks_in (lg:=lg) (base:=base) (al:=set) hin);have HIN:=Qq hin;clear hin;go_enter Tryz.func36,Tryz.ntmps36;go_wp2_with fail;refine(in_any t nn _ _ hn64 HIN.out).mono ?_;rintro e w2 ⟨rfl,rfl⟩;go_wp2_with fail;go_ret;exact⟨by rw [HE.out] <;> rfl,Qz⟩
  have HIN:=Qq hin;clear hin;obtain⟨ad,rfl,hadl,hnd⟩:=HNO.out nn hnl;obtain⟨c0,c1,c2,c3,c4,c5⟩:=hnd;have hadl2:(ad.add (nn*6)).block < w.heap.size:=by rw [block_of_add];exact hadl
  obtain⟨n,hn⟩:∃n,n=topN base nn:=⟨_,rfl⟩;rw [<-hn]at c0 c1 c2 c3 c4 c5;have HN:=Qq hn;clear hn;by_cases h13:n.op=13
  ·have HLN:=Qq (lacks_com (lg:=lg) (al:=set) (t:=t) hnl (by rw [<-HN.out];exact h13));obtain⟨gn,hgn,hg16⟩:=HAG.out.cm nn hnl (by rw [<-HN.out];exact h13);have HGN:=Qq hgn;have H13:=Qq (show(topN base nn).op=13 by rw [<-HN.out];exact h13);rw [h13]at c0;clear h13 hgn;go_enter Tryz.func36,Tryz.ntmps36;go_wp2_with fail;refine(in_any t nn _ _ hn64 HIN.out).mono ?_;rintro e w2 ⟨rfl,rfl⟩;go_wp2_with fail;refine(rpath_any s lg base set _ nn gn t m _ (HS.out.ext (Qz.alloc _)) hbl HL.out HM.out HSL.out (HB.out.ext (Qz.alloc _)) hnl H13.out HGN.out).mono ?_;rintro e w3 ⟨rfl,hx3⟩;have HX3:=Qq (((Ext.refl w).alloc _).trans hx3)
   clear hx3;cases hp:pathN lg (knowsN base) set (cmAt base nn) t
   ·have HE:=Qq (show lacksN lg (knowsN base) (commsN base) set t (nn:Int)=true by rw [HLN.out,HIN.out,hp];rfl);clear hp;go_wp2_with fail;go_ret;exact⟨by rw [HE.out] <;> rfl,HX3.out⟩
   have HE:=Qq (show lacksN lg (knowsN base) (commsN base) set t (nn:Int)=false by rw [HLN.out,HIN.out,hp];rfl);clear hp;go_wp2_with fail;go_ret;exact⟨by rw [HE.out] <;> rfl,HX3.out⟩
  by_cases h9:n.op=9
  ·have HLN:=Qq (lacks_know (lg:=lg) (al:=set) (t:=t) hnl (by rw [<-HN.out];exact h9));have HBL2:=Qq (show(bodyN base nn).length=m by rw [body_len (by rw [<-HN.out];exact h9),HM.out]);rw [h9]at c0;clear h9 h13;obtain⟨ak,vk,rfl,hakl,hvk,⟨Ak,ck,rfl,hbo⟩⟩:=HKN.out nn hnl;have HBO:=Qq hbo;have HVK:=Qq hvk;rw [HBL2.out]at HVK;obtain⟨na,hna⟩:∃x,x=n.i:=⟨_,rfl⟩;rw [<-hna]at c1;have HLN2:=Qq (show lacksN lg (knowsN base) (commsN base) set t (nn:Int)=decide (nextN lg (knowsN base) set na t (fun u=> !(bodyN base nn).getD u false) < 0) by rw [HLN.out,HIN.out,<-HN.out,hna];rfl);clear hbo hvk HLN hna;go_enter Tryz.func36,Tryz.ntmps36
   go_wp2_with fail;refine(in_any t nn _ _ hn64 HIN.out).mono ?_;rintro e w2 ⟨rfl,rfl⟩;go_upto_region 15 with(fail);obtain⟨W3,hW3⟩:∃W,W=w.alloc (.cells #[.int .i64 9,.int .i64 na,.int .i64 n.e,.int .i64 n.g,.int .i64 n.x,.int .i64 n.y] 93):=⟨_,rfl⟩;have HX3:=Qq (show Ext w W3 by rw [hW3];exact Qz.alloc _);obtain⟨x0,x1,_,_,_,_,xl⟩:=cells6t (w:=W3) (b:=w.heap.size) (by rw [hW3];exact heap_alloc_new _ _);rw [<-hW3];clear hW3;obtain⟨xb,hxb⟩:∃b,b=w.heap.size:=⟨_,rfl⟩;rw [<-hxb]at x0 x1 xl⊢;clear hxb;have XB:=Qq (show xb < W3.heap.size/\W3.cell? ⟨xb,1,none⟩=some (.int .i64 na)from⟨xl,x1⟩);go_wp2_with fail
   clear x0 x1 xl;go_loopw [89] (fun v wr=>∃k:Nat,v=.int .i64 (k:Int)/\k<=m/\Hid (Ext W3 wr/\∀j,j < k->nextP lg (knowsN base) set (na) t (fun u=> !(bodyN base nn).getD u false) j=false)) (fun v _=>m - (intOf v).toNat)
   case atStart=>exact⟨0,rfl,Nat.zero_le _,Qq ⟨Qz,fun j hj=>absurd hj (by omega)⟩⟩
   case round =>
    obtain⟨k,rfl,hk,HREL⟩:=hrel;have HXB:=Qq HREL.out.1;have HX:=Qq (HX3.out.trans HREL.out.1);have HJ:=Qq HREL.out.2;clear HREL;by_cases hlt2:k < m
    ·have hk1:(k:Int) < (m:Int):=by omega
     obtain⟨ad,rfl,hadl,s0⟩:=setg_get HBS.out HSL.out hlt2;have s1:=(HX.out.cell (p:=ad.add k) (Qj hadl)).trans s0;have hadl2:(ad.add k).block < wr.heap.size:=by rw [block_of_add];exact Qy hadl HX.out.size
     have HNX:=Qq (show nextP lg (knowsN base) set (na) t (fun u=> !(bodyN base nn).getD u false) k=false->∀j,j < k+1->nextP lg (knowsN base) set (na) t (fun u=> !(bodyN base nn).getD u false) j=false from fun h=>upto HJ.out h);clear s0;obtain⟨ab,rfl,habl,hab⟩:=bools_get HBO.out (k:=k) (by rw [HBL2.out];exact hlt2);have b0:=(HX.out.cell (p:=ab.add k) (Qj habl)).trans hab;have habl2:(ab.add k).block < wr.heap.size:=by rw [block_of_add];exact Qy habl HX.out.size
     have hs2:=Qy hs HX.out.size;have d3:=(HX.out.cell (p:=⟨s,3,none⟩) hs).trans D3.out;have k0:=(HX.out.cell (p:=ak.add nn) (Qj hakl)).trans HVK.out;have hakl2:(ak.add nn).block < wr.heap.size:=by rw [block_of_add];exact Qy hakl HX.out.size
     have x0:=(HXB.out.cell (p:=⟨xb,1,none⟩) XB.out.1).trans XB.out.2;have xbl:=Qy XB.out.1 HXB.out.size;clear hab;cases hsv:set.getD k false
     ·rw [hsv]at s1;have HF:=Qq (HNX.out (by unfold nextP;rw [hsv,Bool.false_and]));clear hsv;go_wp2_with fail;go_roundw
      case rel=>exact⟨k+1,by go_num,by omega,Qq ⟨HXB.out,HF.out⟩⟩
      case measure=>simp [intOf];omega
     rw [hsv]at s1;cases hbv:(bodyN base nn).getD k false
     case true =>
      rw [hbv]at b0;have HF:=Qq (HNX.out (by show(set.getD k false&&(!(bodyN base nn).getD k false&&possibleN lg (knowsN base) na t k))=false;rw [hbv,Bool.not_true,Bool.false_and,Bool.and_false]));clear hsv hbv;go_wp2_with fail;go_roundw
      case rel=>exact⟨k+1,by go_num,by omega,Qq ⟨HXB.out,HF.out⟩⟩
      case measure=>simp [intOf];omega
     rw [hbv]at b0;have HPP:=Qq (show nextP lg (knowsN base) set (na) t (fun u=> !(bodyN base nn).getD u false) k=possibleN lg (knowsN base) (na) t k by show(set.getD k false&&(!(bodyN base nn).getD k false&&possibleN lg (knowsN base) na t k))=_;rw [hsv,hbv,Bool.not_false,Bool.true_and,Bool.true_and]);clear hsv hbv;go_wp2_with fail;refine(rpossible_any s lg base (na) t k wr (HS.out.ext HX.out) hbl HL.out (by rw [<-HM.out];exact hlt2)).mono ?_;rintro e w3 ⟨rfl,hx3⟩;have HX5:=Qq (HX.out.trans hx3);have HXB3:=Qq (HXB.out.trans hx3);clear hx3;cases hp:possibleN lg (knowsN base) (na) t k
     ·have HF:=Qq (HNX.out (by rw [HPP.out,hp]));clear hp;go_wp2_with fail;go_roundw
      case rel=>exact⟨k+1,by go_num,by omega,Qq ⟨HXB3.out,HF.out⟩⟩
      case measure=>simp [intOf];omega
     have HE:=Qq (show lacksN lg (knowsN base) (commsN base) set t (nn:Int)=false by rw [HLN2.out,next_hit (by rw [HSL.out];exact hlt2) (by rw [HPP.out,hp]) HJ.out];exact decide_eq_false (by omega));clear hp;go_wp2_with fail;go_ret;exact⟨by rw [HE.out] <;> rfl,HX5.out⟩
    obtain rfl:m=k:=by omega
    have HE:=Qq (show lacksN lg (knowsN base) (commsN base) set t (nn:Int)=true by rw [HLN2.out,next_miss (by rw [HSL.out];exact HJ.out)];rfl);go_wp2_with fail;go_ret;exact⟨by rw [HE.out] <;> rfl,HX.out⟩
  have HE:=Qq (lacks_other (lg:=lg) (al:=set) (t:=t) (base:=base) (i:=nn) fun _=>⟨by rw [<-HN.out];exact h9,by rw [<-HN.out];exact h13⟩);go_enter Tryz.func36,Tryz.ntmps36;go_wp2_with fail;refine(in_any t nn _ _ hn64 HIN.out).mono ?_;rintro e w2 ⟨rfl,rfl⟩;go_wp2_with fail;go_ret;exact⟨by rw [HE.out] <;> rfl,Qz.alloc _⟩
 have HE:=Qq (lacks_other (lg:=lg) (al:=set) (t:=t) (base:=base) (i:=nn) fun e=>absurd e hnl);have hnl1:¬(nn:Int) < (base.length:Int):=by omega
 go_enter Tryz.func36,Tryz.ntmps36;go_wp2_with fail;go_ret;exact⟨by rw [HE.out] <;> rfl,Qz⟩
structure SpcOk (base:List (List Nd)):Prop where
 ag:AgOk base
 un:∀i q,i < base.length->(topN base i).op=13->q < 4->gbit (topN base i).g q=true->∃j:Nat,j < 12/\placeN base (unfN q (base.getD i []))=(j:Int)
 pos:∀i,i < base.length->0 < (base.getD i []).length
 ck9:∀i,i < base.length->(topN base i).op=9->check (subN (base.getD i []) (topN base i).x)=0
 ck13:∀i,i < base.length->(topN base i).op=13->check (subN (base.getD i []) (topN base i).x)=0/\check (subN (base.getD i []) (topN base i).y)=0
theorem know_top {t:Tr}(ht:Xf t)(h:(lastN (canon t)).op=9):0<=(lastN (canon t)).i/\(lastN (canon t)).i < 4:=by
 have h1:=heads_of ht.check (lastN (canon t)) (List.mem_of_getElem? (lastN_get (canon_pos ht.xp.1.1)));obtain⟨_,_,h3,_,_⟩:=h1;unfold rangeBad at h3;rw [h]at h3;simp [outsideB,hasFact,hasAgent,hasEvent,hasGroup]at h3;omega
theorem spc_ok {base:List (List Nd)} {t:Tr}(h:BaseOk base t):SpcOk base:=by
 have hget:∀i,i < base.length->∃u,Xf u/\base.getD i []=canon u/\base.getD i []∈base:=fun i hi=>by
  have hm:base.getD i []∈base:=by rw [Qk,Qv hi];exact List.getElem_mem hi
  obtain⟨u,h1,h2,_⟩:=h.can _ hm;exact⟨u,h1,h2,hm⟩
 refine⟨⟨fun i hi ho=> ?_,fun i hi ho=> ?_⟩,fun i q hi ho hq hg=> ?_,fun i hi=> ?_,fun i hi ho=> ?_,fun i hi ho=> ?_⟩
 ·obtain⟨u,h1,h2,_⟩:=hget i hi;unfold topN at ho⊢;rw [h2]at ho⊢;exact know_top h1 ho
 ·obtain⟨u,h1,h2,_⟩:=hget i hi;unfold topN at ho⊢;rw [h2]at ho⊢;exact group_top h1 ho
 ·obtain⟨u,h1,h2,hm⟩:=hget i hi;exact unf_in h hm ho hq hg
 ·obtain⟨u,h1,h2,_⟩:=hget i hi;rw [h2];exact canon_pos h1.xp.1.1
 ·obtain⟨u,h1,h2,_⟩:=hget i hi;unfold topN at ho⊢;rw [h2]at ho⊢;have h3:=top_check h1 ho;unfold topA at h3;rw [ho]at h3;exact h3
 obtain⟨u,h1,h2,_⟩:=hget i hi;unfold topN at ho⊢;rw [h2]at ho⊢;have h3:=top_check2 h1 ho;unfold topA topB at h3;rw [ho]at h3;exact h3
theorem coh_hit {lg:Int} {base:List (List Nd)} {t i:Nat}(hi:i < base.length)(h:cohAt lg base t i=false):coherentN lg (knowsN base) (commsN base) t=false:=by
 cases e:coherentN lg (knowsN base) (commsN base) t
 ·rfl
 rw [coh_places.1 e i hi]at h;cases h
theorem all_snoc {P:Nat->Bool} {q:Nat} :(List.range (q+1)).all P=((List.range q).all P&&P q):=by rw [List.range_succ,List.all_append];simp
theorem rcoherent_any(s:Nat)(lg:Int)(base:List (List Nd))(t:Nat)(w:World)(hS:SpcAt w s lg base)(hbl:base.length<=12)(hok:SpcOk base)(ht:t < 2^base.length):
 Calls Tryz.prog 69 #[.pointer (some ⟨s,0,none⟩),.int .i64 (t:Int)] w fun e w'=>e=.returned (.bool (coherentN lg (knowsN base) (commsN base) t))/\Ext w w':=by
 obtain⟨vb,Ao,co,A1,c1,A2,c2,A3,c3,hs,d0,d1,d2,d3,d4,d5,HFM,HNO,HKN,HCO,HLA⟩:=hS.reads;obtain⟨Ab,cb,rfl,_,_,hbr⟩:=HFM.out;have HBR:=Qq hbr;have D0:=Qq d0;have D1:=Qq d1;have D3:=Qq d3;have HT:=Qq ht;have HOK:=Qq hok;clear hS d0 d1 d3 d4 d5 HCO HLA ht hok hbr;go_enter Tryz.func69,Tryz.ntmps69;go_wp2_with fail;clear d2;go_loopw [14] (fun v wr=>∃k:Nat,v=.int .i64 (k:Int)/\k<=base.length/\Hid (Ext w wr/\∀j,j < k->cohAt lg base t j=true)) (fun v _=>base.length - (intOf v).toNat)
 case atStart=>exact⟨0,rfl,Nat.zero_le _,Qq ⟨Qz,fun j hj=>absurd hj (by omega)⟩⟩
 case round =>
  obtain⟨k,rfl,hk,HREL⟩:=hrel;have HX:=Qq HREL.out.1;have HALL:=Qq HREL.out.2;clear HREL;by_cases hlt2:k < base.length
  ·have hk1:(k:Int) < (base.length:Int):=by omega
   have hk64:k < 64:=by omega
   obtain⟨ad,rfl,hadl,hnd⟩:=HNO.out k hlt2;obtain⟨c0,c1,c2,c3,c4,c5⟩:=hnd.keep fun p hp=>HX.out.cell (p:=p) (by rw [hp,block_of_add];exact hadl)
   have hblk2:(ad.add (k*6)).block < wr.heap.size:=by rw [block_of_add];exact Qy hadl HX.out.size
   have hs2:=Qy hs HX.out.size;clear hnd;obtain⟨n,hn⟩:∃n,n=topN base k:=⟨_,rfl⟩;rw [<-hn]at c0 c1 c2 c3 c4 c5;have HN:=Qq hn;have HALL2:=Qq (show cohAt lg base t k=true->∀j,j < k+1->cohAt lg base t j=true from fun h=>upto HALL.out h);clear hn;obtain⟨wq,hwq⟩:∃v,v=wr:=⟨_,rfl⟩;subst hwq;by_cases h13:n.op=13
   ·have HCA:=Qq (show cohAt lg base t k=((List.range 4).all (unfIn base t k)==t.testBit k) by unfold cohAt;rw [<-HN.out,h13];rfl);have HUN:=Qq (fun q hq hg=>HOK.out.un k q hlt2 (by rw [<-HN.out];exact h13) hq hg);obtain⟨gn,hgn,hg16⟩:=HOK.out.ag.cm k hlt2 (by rw [<-HN.out];exact h13);have HGB:=Qq (show ∀q,gbit (topN base k).g q=gn.testBit q from fun q=>by rw [hgn];rfl);rw [<-HN.out]at hgn;rw [h13]at c0;rw [hgn]at c3;obtain⟨f,hf⟩:∃f,f=base.getD k []:=⟨_,rfl⟩;have hf0:0 < f.length:=by rw [hf];exact HOK.out.pos k hlt2
    obtain⟨ab,rfl,habl,hbc⟩:=HBR.out (by intro e;rw [e]at hlt2;simp at hlt2);obtain⟨u,hu,hfm⟩:=hbc k f (by rw [hf,Qk,Qv hlt2];rfl);obtain⟨Au,cu,rfl,_⟩:=fml_slice hfm;have HU:=Qq hu;have HF:=Qq hfm;have HFE:=Qq hf;clear h13 hgn hf hbc hu hfm;go_upto_region 4 with(fail);obtain⟨W3,hW3⟩:∃W,W=wq.alloc (.cells #[.int .i64 13,.int .i64 n.i,.int .i64 n.e,.int .i64 (gn:Int),.int .i64 n.x,.int .i64 n.y] 93):=⟨_,rfl⟩;have HX3:=Qq (show Ext w W3 by rw [hW3];exact HX.out.alloc _);obtain⟨x0,_,_,x3,_,_,xl⟩:=cells6t (w:=W3) (b:=wq.heap.size) (by rw [hW3];exact heap_alloc_new _ _);rw [<-hW3];clear hW3;obtain⟨xb,hxb⟩:∃b,b=wq.heap.size:=⟨_,rfl⟩
    rw [<-hxb]at x0 x3 xl⊢;clear hxb;have XB:=Qq (show xb < W3.heap.size/\W3.cell? ⟨xb,0,none⟩=some (.int .i64 13)/\W3.cell? ⟨xb,3,none⟩=some (.int .i64 (gn:Int))from⟨xl,x0,x3⟩);go_wp2_with fail;clear x0 x3 xl;go_loopw [7,8] (fun va v wr=>∃q:Nat,v=.int .i64 (q:Int)/\q<=4/\∃b:Bool,va=.bool b/\Hid (Ext W3 wr/\b=(List.range q).all (unfIn base t k))) (fun _ v _=>4 - (intOf v).toNat)
    case atStart=>exact⟨0,rfl,Nat.zero_le _,true,rfl,Qq ⟨Qz,rfl⟩⟩
    case round =>
     obtain⟨q,rfl,hq,b,rfl,HREL⟩:=hrel;have HX4:=Qq HREL.out.1;have HB:=Qq HREL.out.2;clear HREL;have x0:=(HX4.out.cell (p:=⟨xb,0,none⟩) XB.out.1).trans XB.out.2.1;have x3:=(HX4.out.cell (p:=⟨xb,3,none⟩) XB.out.1).trans XB.out.2.2;have xl:=Qy XB.out.1 HX4.out.size;have HXW:=Qq (HX3.out.trans HX4.out);by_cases hq4:q < 4
     ·have hq1:(q:Int) < 4:=by omega
      have hmin:min q 64=q:=by omega
      have hbt:=shr_mod_two gn q;have HSN:=Qq (show(List.range (q+1)).all (unfIn base t k)=(b&&unfIn base t k q) by rw [all_snoc,HB.out]);have HUQ:=Qq (show unfIn base t k q=(!gn.testBit q||t.testBit (placeN base (unfN q f)).toNat) by unfold unfIn;rw [HGB.out,HFE.out]);cases hgb:gn.testBit q
      ·rw [hgb]at hbt HUQ;clear hgb;go_wp2_with fail;go_roundw
       case rel=>exact⟨q+1,by go_num,by omega,_,rfl,Qq ⟨HX4.out,by rw [HSN.out,HUQ.out,Bool.not_false,Bool.true_or,Bool.and_true]⟩⟩
       case measure=>simp [intOf];omega
      obtain⟨j,hj12,hpl⟩:=HUN.out q hq4 (by rw [HGB.out];exact hgb);rw [<-HFE.out]at hpl;have HPL:=Qq hpl;have hj64:j < 64:=by omega
      rw [hgb,hpl,Int.toNat_natCast]at HUQ;rw [hgb]at hbt;clear hgb hpl;have d1:=(HXW.out.cell (p:=⟨s,1,none⟩) hs).trans D1.out;have u0:=(HXW.out.cell (p:=ab.add k) (Qj habl)).trans HU.out;have hsl:=Qy hs HXW.out.size;have abl:(ab.add k).block < wr.heap.size:=by rw [block_of_add];exact Qy habl HXW.out.size
      go_upto_region 10 with(fail);cases b
      ·skip
       refine wp_region_held_drew (S:=fun w'=>w'.cell? (⟨s,1,none⟩)=some (.slice (some ab) base.length cb)/\w'.cell? (ab.add k)=some (.slice Au f.length cu)) (by kernel_rfl) ⟨xc hsl d1,xc abl u0⟩ (fun hHeld=> ?_);refine tk 0 hHeld ?_;refine tk 1 hHeld ?_;refine un 2 hHeld ?_;refine un 3 hHeld ?_;refine un 4 hHeld ?_;refine un 5 hHeld ?_;refine un 6 hHeld ?_;refine un 7 hHeld ?_;refine un 8 hHeld ?_;refine un 9 hHeld ?_;refine un 10 hHeld ?_;refine un 11 hHeld ?_;refine un 12 hHeld ?_;refine un 13 hHeld ?_;refine un 14 hHeld ?_;refine un 15 hHeld ?_;refine un 16 hHeld ?_;refine un 17 hHeld ?_;refine tk 18 hHeld ?_
       refine tk 19 hHeld ?_;refine wpAnyH_done (by kernel_rfl) ?_ _;go_wp2_with fail;go_roundw
       case rel=>exact⟨q+1,by go_num,by omega,_,rfl,Qq ⟨HX4.out.trans Qz.drew,by rw [HSN.out,Bool.false_and]⟩⟩
       case measure=>simp [intOf];omega
      skip
      refine wp_region_held_drew (S:=fun w'=>w'.cell? (⟨s,1,none⟩)=some (.slice (some ab) base.length cb)/\w'.cell? (ab.add k)=some (.slice Au f.length cu)) (by kernel_rfl) ⟨xc hsl d1,xc abl u0⟩ (fun hHeld=> ?_);refine tk 0 hHeld ?_;refine tk 1 hHeld ?_;refine tk 2 hHeld ?_;refine tk 3 hHeld ?_;refine tk 4 hHeld ?_;refine tk 5 hHeld ?_;refine tk 6 hHeld ?_;refine tk 7 hHeld ?_;refine tk 8 hHeld ?_;refine tk 9 hHeld ?_;refine tk 10 hHeld ?_;refine tk 11 hHeld ?_;refine tk 12 hHeld ?_;refine tk 13 hHeld ?_;refine tk 14 hHeld ?_;refine wpAnyH_ready (rs:= [15]) (by kernel_rfl) (by simp) ?_;refine AllReadyH.cons rfl (fun K hK=> ?_) AllReadyH.nil
      go_simp;refine(runfold_any q hq4 _ f _ (HF.out.ext (Ext.trans HXW.out (by repeat(first|exact Qz|assumption|apply Ext.alloc|apply Ext.drew|apply Ext.setCell)))) hf0).mono ?_;rintro e w6 ⟨u6,rfl,hm6⟩;have HM6:=Qq hm6;have hx6:Ext wr w6:=Ext.trans (by repeat(first|exact Qz|assumption|apply Ext.alloc|apply Ext.drew|apply Ext.setCell)) hm6.ext;obtain⟨A6,c6,rfl,_⟩:=fml_slice hm6.fml;clear hm6;go_wp2_with fail;refine hK.out _ _ ⟨xc hsl d1,xc abl u0⟩ (fun hHeld=> ?_);clear hK K;refine Qd ?_;refine wpAnyH_ready (rs:= [16]) (by kernel_rfl) (by simp) ?_;refine AllReadyH.cons rfl (fun K hK=> ?_) AllReadyH.nil
      go_simp;refine(refIndex_any _ _ base (unfN q f) _ (HFM.out.ext (HXW.out.trans hx6)) HM6.out.fml).mono ?_;rintro e w7 ⟨rfl,hx0⟩;have hx7:Ext wr w7:=hx6.trans hx0;rw [HPL.out];have HX7:=Qq hx7;clear hx0;go_wp2_with fail;refine hK.out _ _ ⟨xc hsl d1,xc abl u0⟩ (fun hHeld=> ?_);clear hK K;refine Qd ?_;refine wpAnyH_ready (rs:= [17]) (by kernel_rfl) (by simp) ?_;refine AllReadyH.cons rfl (fun K hK=> ?_) AllReadyH.nil;go_simp;refine(in_any t j _ _ hj64 rfl).mono ?_;rintro e w8 ⟨rfl,rfl⟩;go_wp2_with fail;refine hK.out _ _ ⟨xc hsl d1,xc abl u0⟩ (fun hHeld=> ?_);clear hK K;refine Qd ?_;refine tk 18 hHeld ?_
      refine tk 19 hHeld ?_;refine wpAnyH_done (by kernel_rfl) ?_ _;go_wp2_with fail;go_roundw
      case rel=>exact⟨q+1,by go_num,by omega,_,rfl,Qq ⟨HX4.out.trans HX7.out,by rw [HSN.out,HUQ.out];rfl⟩⟩
      case measure=>simp [intOf];omega
     obtain rfl:q=4:=by omega
     rw [<-HB.out]at HCA;cases hkt:t.testBit k
     ·have HKT:=Qq hkt;rw [hkt]at HCA;clear hkt;cases b
      ·have HP:=Qq (HALL2.out (by rw [HCA.out];rfl));go_wp2_with fail;refine(in_any t k _ _ hk64 HKT.out).mono ?_;rintro e w2 ⟨rfl,rfl⟩;go_wp2_with fail;go_roundw
       case rel=>exact⟨k+1,by go_num,by omega,Qq ⟨HXW.out,HP.out⟩⟩
       case measure=>simp [intOf];omega
      have HE:=Qq (coh_hit hlt2 (HCA.out.trans rfl));go_wp2_with fail;refine(in_any t k _ _ hk64 HKT.out).mono ?_;rintro e w2 ⟨rfl,rfl⟩;go_wp2_with fail;go_ret;exact⟨by rw [HE.out] <;> rfl,HXW.out⟩
     have HKT:=Qq hkt;rw [hkt]at HCA;clear hkt;cases b
     ·have HE:=Qq (coh_hit hlt2 (HCA.out.trans rfl));go_wp2_with fail;refine(in_any t k _ _ hk64 HKT.out).mono ?_;rintro e w2 ⟨rfl,rfl⟩;go_wp2_with fail;go_ret;exact⟨by rw [HE.out] <;> rfl,HXW.out⟩
     have HP:=Qq (HALL2.out (by rw [HCA.out];rfl));go_wp2_with fail;refine(in_any t k _ _ hk64 HKT.out).mono ?_;rintro e w2 ⟨rfl,rfl⟩;go_wp2_with fail;go_roundw
     case rel=>exact⟨k+1,by go_num,by omega,Qq ⟨HXW.out,HP.out⟩⟩
     case measure=>simp [intOf];omega
   by_cases h9:n.op=9
   ·have HCA:=Qq (show cohAt lg base t k= !(reflN lg&&(t.testBit k&& !(bodyN base k).getD t false)) by unfold cohAt;rw [<-HN.out,h9];rfl);have hbl2:(bodyN base k).length=2^base.length:=body_len (by rw [<-HN.out];exact h9);rw [h9]at c0;obtain⟨ak,vk,rfl,hakl,hvk,⟨Ab2,cb2,rfl,hbo⟩⟩:=HKN.out k hlt2;have k0:=(HX.out.cell (p:=ak.add k) (Qj hakl)).trans hvk;have hakl2:(ak.add k).block < wq.heap.size:=by rw [block_of_add];exact Qy hakl HX.out.size
    obtain⟨ab,rfl,habl,hab⟩:=bools_get hbo (k:=t) (by rw [hbl2];exact HT.out);have b0:=(HX.out.cell (p:=ab.add t) (Qj habl)).trans hab;have habl2:(ab.add t).block < wq.heap.size:=by rw [block_of_add];exact Qy habl HX.out.size
    have ht1:(t:Int) < ((bodyN base k).length:Int):=by rw [hbl2];exact Int.ofNat_lt.2 HT.out
    obtain⟨bl,hbl3⟩:∃m,m=(bodyN base k).length:=⟨_,rfl⟩;rw [<-hbl3]at k0 ht1;have d0:=(HX.out.cell (p:=⟨s,0,none⟩) hs).trans D0.out;have d3:=(HX.out.cell (p:=⟨s,3,none⟩) hs).trans D3.out;clear h9 h13 hvk hab hbo hbl2 hbl3;cases hr:reflN lg
    ·have HP:=Qq (HALL2.out (by rw [HCA.out,hr];rfl));have HRE:=Qq hr;clear hr;go_wp2_with fail;refine(rrefl_any lg _).mono ?_;rintro e w2 ⟨rfl,rfl⟩;rw [HRE.out];go_wp2_with fail;go_roundw
     case rel=>exact⟨k+1,by go_num,by omega,Qq ⟨HX.out.trans (Qz.alloc _),HP.out⟩⟩
     case measure=>simp [intOf];omega
    have HRE:=Qq hr;rw [hr]at HCA;clear hr;cases hkt:t.testBit k
    ·have HP:=Qq (HALL2.out (by rw [HCA.out,hkt];rfl));have HKT:=Qq hkt;clear hkt;go_wp2_with fail;refine(rrefl_any lg _).mono ?_;rintro e w2 ⟨rfl,rfl⟩;rw [HRE.out];go_wp2_with fail;refine(in_any t k _ _ hk64 HKT.out).mono ?_;rintro e w2 ⟨rfl,rfl⟩;go_wp2_with fail;go_roundw
     case rel=>exact⟨k+1,by go_num,by omega,Qq ⟨HX.out.trans (Qz.alloc _),HP.out⟩⟩
     case measure=>simp [intOf];omega
    have HKT:=Qq hkt;rw [hkt]at HCA;clear hkt;cases hbv:(bodyN base k).getD t false
    ·rw [hbv]at b0 HCA;have HE:=Qq (coh_hit hlt2 (HCA.out.trans rfl));clear hbv;go_wp2_with fail;refine(rrefl_any lg _).mono ?_;rintro e w2 ⟨rfl,rfl⟩;rw [HRE.out];go_wp2_with fail;refine(in_any t k _ _ hk64 HKT.out).mono ?_;rintro e w2 ⟨rfl,rfl⟩;go_wp2_with fail;go_ret;exact⟨by rw [HE.out] <;> rfl,HX.out.trans (Qz.alloc _)⟩
    rw [hbv]at b0 HCA;have HP:=Qq (HALL2.out (HCA.out.trans rfl));clear hbv;go_wp2_with fail;refine(rrefl_any lg _).mono ?_;rintro e w2 ⟨rfl,rfl⟩;rw [HRE.out];go_wp2_with fail;refine(in_any t k _ _ hk64 HKT.out).mono ?_;rintro e w2 ⟨rfl,rfl⟩;go_wp2_with fail;go_roundw
    case rel=>exact⟨k+1,by go_num,by omega,Qq ⟨HX.out.trans (Qz.alloc _),HP.out⟩⟩
    case measure=>simp [intOf];omega
   have t13:(n.op==13)=false:=by simpa using h13
   have t9:(n.op==9)=false:=by simpa using h9
   have HP:=Qq (HALL2.out (by unfold cohAt;rw [<-HN.out,t13,t9];rfl));clear h9 h13;go_wp2_with fail;go_roundw
   case rel=>exact⟨k+1,by go_num,by omega,Qq ⟨HX.out.trans (Qz.alloc _),HP.out⟩⟩
   case measure=>simp [intOf];omega
  obtain rfl:base.length=k:=by omega
  have HE:=Qq (coh_places.2 HALL.out);go_wp2_with fail;go_ret;exact⟨by rw [HE.out] <;> rfl,HX.out⟩
end Go.Proofs.YtbfeodammikajaaGreat
