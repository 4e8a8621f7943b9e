/- The reference of types: reduce. -/
import Derived.Test.YtbfeodammikajaaGreatM01
import Derived.Test.YtbfeodammikajaaGreatM43
import Derived.Test.YtbfeodammikajaaGreatM23
namespace Go.Proofs.YtbfeodammikajaaGreat
set_option maxRecDepth 100000
set_option maxHeartbeats 128000000
open Go.RowKit
theorem rreduce_any(s:Nat)(lg:Int)(base:List (List Nd))(alive:List Bool)(g cap m:Nat)(w0 w:World)(hS:SpcAt w0 s lg base)(hx0:Ext w0 w)(hbl:base.length<=12)(hlg:0<=lg/\lg<=6)(hm:m=2^base.length)(hal:alive.length=m)(hR:MadeB w0.heap.size w (.slice (some ⟨g,0,none⟩) m cap) alive)(hok:SpcOk base):
 Calls Tryz.prog 31 #[.pointer (some ⟨s,0,none⟩),.slice (some ⟨g,0,none⟩) m cap] w fun e w'=>∃v,e=.returned v/\Ext w0 w'/\MadeB w0.heap.size w' (.slice (some ⟨g,0,none⟩) m cap) (elimN lg (knowsN base) (commsN base) base.length alive).1:=by
 obtain⟨vb,Ao,co,A1,c1,A2,c2,A3,c3,hs,d0,d1,d2,d3,d4,d5,HFM,HNO,HKN,HCO,HLA⟩:=hS.reads;obtain⟨Ab,cb,rfl,hbc,hbm,_⟩:=HFM.out;have HS:=Qq hS;have HOK:=Qq hok;have HMM:=Qq hm;have HAL:=Qq hal;have D1:=Qq d1;have HL:=Qq hlg;have hm12:m<=4096:=by rw [hm];exact pow12 hbl
 obtain⟨iU,hiU,hzU0,hzU1,hzU2⟩:=info_parts tInfoU;obtain⟨iI,hiI,hzI0,hzI1,hzI2⟩:=info_parts tInfo3;have e0:=(hx0.cell (p:=⟨s,0,none⟩) hs).trans d0;have sl:=Qy hs hx0.size;have hcm:m<=cap:=by
  rcases hR.2 with⟨e,_⟩|⟨g',cap',cur,e,_,_,h2,_⟩
  ·cases e
  injection e with e1 e2 e3;omega
 have HR:=Qq hR;have HX0:=Qq hx0;obtain⟨fin,hfin⟩:∃f,f=elimN lg (knowsN base) (commsN base) base.length alive:=⟨_,rfl⟩;have HFIN:=Qq hfin;obtain⟨why,hwhy⟩:∃f,f=whyN lg (knowsN base) (commsN base) base.length:=⟨_,rfl⟩;have HWHY:=Qq hwhy;rw [<-hfin];clear hS d0 d1 d2 d3 d4 d5 HFM HNO HKN HCO HLA hok hm hal hlg hx0 hR hfin hwhy;go_enter Tryz.func31,Tryz.ntmps31;go_upto_region 2 with(fail);obtain⟨W1,hW1⟩:∃W,W=(w.alloc (.cells #[.int .i64 0,.slice none 0 0,.slice none 0 0] 30)).alloc (.cells #[.int .i64 lg,.slice none 0 0,.slice none 0 0] 30):=⟨_,rfl⟩;have HI0:=Qq (show RdI w0 W1 g m cap (w.heap.size+1) w.heap.size lg (alive,[]) by
  rw [hW1];exact RdI.start HX0.out HR.out HAL.out)
 rw [<-hW1];clear hW1 e0 sl;obtain⟨xb,hxb⟩:∃x,x=w.heap.size+1:=⟨_,rfl⟩;obtain⟨rb,hrb⟩:∃x,x=w.heap.size:=⟨_,rfl⟩;rw [<-hxb]at HI0⊢;rw [<-hrb]at HI0⊢;clear hxb hrb HX0 HR;go_wp2_with fail;go_loopw [6] (fun vc wr=>∃fl:Bool,vc=.bool fl/\Hid (∃s,RdI w0 wr g m cap xb rb lg s/\cnt s.1+s.2.length<=m/\(fl=true->∃k,cnt s.1 < k/\elimG why k s=fin)/\(fl=false->s=fin))) (fun vc wr=>2*cntW wr g m+flagOf vc)
 case atStart=>exact⟨true,rfl,Qq ⟨(alive,[]),HI0.out,by show cnt alive+0<=m;rw [<-HAL.out];exact cnt_le alive,(fun _=>⟨alive.length+1,by show cnt alive < _;have:=cnt_le alive;omega,by rw [HFIN.out,HWHY.out];rfl⟩),(fun e=>by cases e)⟩⟩
 case round =>
  clear HI0;obtain⟨fl,rfl,HREL⟩:=hrel;obtain⟨s1,hs1,hcnt,hft,hff⟩:=HREL.out;have HI1:=Qq hs1;have HCN1:=Qq hcnt;have HFT:=Qq hft;have HFF:=Qq hff;clear HREL hs1 hcnt hft hff;cases fl
  ·obtain⟨vt,vw,n,hb,_,⟨_,hr1⟩,⟨_,hr2⟩,_⟩:=HI1.out.blk;obtain⟨At,ct,rfl⟩:=slice_of_row hr1;obtain⟨Aw,cw,rfl⟩:=slice_of_row hr2;obtain⟨⟨y0,y1,y2⟩,_,yl⟩:=cells3z hb;obtain⟨⟨r0,r1,r2⟩,rf,rl⟩:=cells3z HI1.out.res.2.2.2;have rf0:=rf.1;have rf1:=rf.2.1;have rf2:=rf.2.2;have HE:=Qq (HFF.out (by trivial));clear hb rf hr1 hr2;go_wp2_with fail
   (try simp only [Exit.inBlock,Exit.then])
   refine bodyPost_ret (results_cell Tryz.results31 _ _ rfl (range_of (set3z HI1.out.res.2.2.2 _ _ _)) Tryz.underlying30 rfl (by kernel_rfl)) rfl ?_;exact⟨⟨_,rfl⟩,ext3z HI1.out.ext HI1.out.res.1 _ _ _,by
    rw [<-HE.out];exact row_keep HI1.out.row fun k hk=>other3z (fun e=>HI1.out.res.2.2.1 (by injection hk with hk;exact e.symm.trans hk.symm)) _ _ _⟩
  obtain⟨wp,hwp⟩:∃v,v=wr:=⟨_,rfl⟩;subst hwp;have HCW:=Qq (cntW_row HI1.out.row HI1.out.len);go_wp2_with fail;go_loopw [6,17] (fun vc vi wr=>∃t:Nat,vi=.int .i64 (t:Int)/\t<=m/\∃fl:Bool,vc=.bool fl/\Hid (RdI w0 wr g m cap xb rb lg (passG why (List.range t) s1)/\(fl=true↔s1.2.length < (passG why (List.range t) s1).2.length))) (fun _ vi _=>m - (intOf vi).toNat)
  case atStart=>exact⟨0,rfl,Nat.zero_le _,false,rfl,Qq ⟨HI1.out,by simp [passG]⟩⟩
  case round =>
   obtain⟨t,rfl,ht,fl,rfl,HREL⟩:=hrel;obtain⟨s2,hs2⟩:∃x,x=passG why (List.range t) s1:=⟨_,rfl⟩;have HS2:=Qq hs2;have HI2:=Qq HREL.out.1;have HFL:=Qq HREL.out.2;rw [<-hs2]at HI2 HFL;clear HREL hs2;by_cases hlt2:t < m
   ·have hk1:(t:Int) < (m:Int):=by omega
    have hwu:IntKind.u64.wrap (t:Int)=(t:Int):=by rw [IntKind.wrap_u64];omega
    have HNX:=Qq (show passG why (List.range (t+1)) s1=stepG why s2 t by rw [pass_snoc,<-HS2.out]);have HPC:=Qq (show s2.2.length+cnt s2.1<=m by
     have h1:=(pass_cnt (why:=why) (List.range t) s1).1;rw [<-HS2.out]at h1;have h2:=HCN1.out
     omega)
    obtain⟨wq,hwq⟩:∃v,v=wr:=⟨_,rfl⟩;subst hwq;go_wp2_with fail;go_loopw [6,8] (fun vc vi wr=>∃fl':Bool,vc=.bool fl'/\∃z:Int,vi=.int .i64 z/\ -4<=z/\z<=(base.length:Int)/\Hid (∃s3,RdI w0 wr g m cap xb rb lg s3/\((s3=s2/\fl'=fl/\(s2.1.getD t false=true->∀j:Int,-4<=j->j < z->lacksN lg (knowsN base) (commsN base) s2.1 t j=false))\/(s3=stepG why s2 t/\fl'=true/\s3.1.getD t false=false/\s2.2.length < s3.2.length)))) (fun _ vi _=>((base.length:Int) - intOf vi).toNat)
    case atStart=>exact⟨fl,rfl,-4,rfl,by omega,by omega,Qq ⟨s2,HI2.out,.inl ⟨rfl,rfl,fun _ j h1 h2=>by omega⟩⟩⟩
    case round =>
     obtain⟨fl',rfl,z,rfl,hz0,hz1,HREL⟩:=hrel;obtain⟨s3,hi3,hcase⟩:=HREL.out;have HI3:=Qq hi3;have HCASE:=Qq hcase;have d1:=(HI3.out.ext.cell (p:=⟨s,1,none⟩) hs).trans D1.out;have sl:=Qy hs HI3.out.ext.size;have gl:g < wr.heap.size:=(HI3.out.row.lt g rfl).2;obtain⟨b3,hb3⟩:∃x,x=s3.1.getD t false:=⟨_,rfl⟩;have HB3:=Qq hb3;have gc:wr.cell? ⟨g,t,none⟩=some (.bool b3):=by rw [hb3];exact HI3.out.row.cellAt (by rw [HI3.out.len];exact hlt2)
     clear HREL hi3 hcase hb3;by_cases hzl:z < (base.length:Int)
     ·cases b3
      ·have HN:=Qq (show(s3=s2/\fl'=fl/\(s2.1.getD t false=true->∀j:Int,-4<=j->j < z+1->lacksN lg (knowsN base) (commsN base) s2.1 t j=false))\/(s3=stepG why s2 t/\fl'=true/\s3.1.getD t false=false/\s2.2.length < s3.2.length)from by
        rcases HCASE.out with⟨e1,e2,_⟩|h
        ·refine .inl ⟨e1,e2,fun h=> ?_⟩;rw [<-e1,<-HB3.out]at h;cases h
        exact .inr h)
       go_wp2_with fail;go_roundw
       case rel=>exact⟨fl',rfl,z+1,rfl,by omega,by omega,Qq ⟨s3,HI3.out,HN.out⟩⟩
       case measure=>simp [intOf];omega
      obtain⟨e1,e2,hj⟩:=HCASE.out.resolve_right (fun h=>by rw [<-HB3.out]at h;cases h.2.2.1);subst e1 e2;have HJ:=Qq (hj HB3.out.symm);have HIZ:=Qq (show i64ok z from⟨by omega,by omega⟩);clear hj HCASE;go_wp2_with fail;refine(rlacks_any s lg base s3.1 (.slice (some ⟨g,0,none⟩) m cap) t m z _ (HS.out.ext HI3.out.ext) hbl HL.out HMM.out HI3.out.len HI3.out.row.bools HOK.out.ag HIZ.out).mono ?_;rintro e w3 ⟨rfl,hx3⟩;have HI4:=Qq (HI3.out.next hx3);clear hx3 d1 sl gl gc;obtain⟨lk,hlk⟩:∃x,x=lacksN lg (knowsN base) (commsN base) s3.1 t z:=⟨_,rfl⟩;rw [<-hlk];have HLK:=Qq hlk;clear hlk;cases lk
      ·go_wp2_with fail;go_roundw
       case rel=>exact⟨_,rfl,z+1,rfl,by omega,by omega,Qq ⟨s3,HI4.out,.inl ⟨rfl,rfl,fun _ j h1 h2=>by
        by_cases e:j < z
        ·exact HJ.out j h1 e
        have:j=z:=by omega
        subst this;exact HLK.out.symm⟩⟩⟩
       case measure=>simp [intOf];omega
      have HWY:=Qq (show why s3.1 t=some z by rw [HWHY.out];exact why_hit hz0 hzl HLK.out.symm HJ.out);have HST:=Qq (show stepG why s3 t=(s3.1.set t false,s3.2++ [(t,z)]) by
       unfold stepG;rw [<-HB3.out,HWY.out]
       rfl)
      have HLEN:=Qq (show s3.2.length+1<=m by
       have h1:=step_cnt (why:=why) s3 t;rw [HST.out]at h1;have h2:=HPC.out;simp only [List.length_append,List.length_singleton]at h1
       omega)
      have gl:g < w3.heap.size:=(HI4.out.row.lt g rfl).2;have gc:w3.cell? ⟨g,t,none⟩=some (.bool true):=by rw [HB3.out];exact HI4.out.row.cellAt (by rw [HI4.out.len];exact hlt2)
      have gf:w3.frozen? ⟨g,t,none⟩=false:=HI4.out.row.frz (by rw [HI4.out.len];omega) t;have HI5:=Qq (HI4.out.store t);go_upto_region 13 with(fail);obtain⟨W8,hW8⟩:∃W,W=w3.setCell ⟨g,t,none⟩ (.bool false):=⟨_,rfl⟩;rw [<-hW8]at HI5⊢;have HI8:=Qq HI5.out.2;have HX8:=Qq HI5.out.1;clear hW8 gl gc gf HI5 HI4 HI3;obtain⟨vt,vw,n,hb8,hn8,⟨us1,hr1⟩,⟨us2,hr2⟩,hd1,hd2,hd3⟩:=HI8.out.blk;obtain⟨A1,c1,rfl⟩:=slice_of_row hr1;obtain⟨A2,c2,rfl⟩:=slice_of_row hr2;have hn12:n+1<=m:=by rw [hn8];exact HLEN.out
      obtain⟨⟨z0,z1,z2⟩,zf,zl⟩:=cells3z hb8;have ZF:=Qq zf;have HB8:=Qq hb8;have HN8:=Qq hn8;have HR1:=Qq hr1;have HR2:=Qq hr2;have HD:=Qq (show _/\_/\_ from⟨hd1,hd2,hd3⟩);clear hb8 hn8 hr1 hr2 hd1 hd2 hd3 zf z0;refine ordU_region 14 (fun w'=>w'.cell? (⟨xb,2,none⟩)=some (.slice A2 n c2)) (by kernel_rfl) (xd zl z2) (fun hHeld=> ?_);refine utk 0 hHeld ?_;refine utk 2 hHeld ?_;refine utk 3 hHeld ?_;refine utk 6 hHeld ?_;refine utk 7 hHeld ?_;refine utk 8 hHeld ?_;refine ordU_ready (rs:= [1,4,9]) (by kernel_rfl) (by simp) ?_;refine AllU.cons rfl (fun K hK=> ?_) (AllU.cons rfl (fun K hK=> ?_) (AllU.cons rfl (fun K hK=> ?_) AllU.nil))
      ·skip
       go_simp;refine hK.out _ _ (by first|exact xd yl7 y72|exact xd zl z2) (fun hHeld=> ?_);clear hK K;refine Qb ?_;refine ordU_ready (rs:= [4,9]) (by kernel_rfl) (by simp) ?_;refine AllU.cons rfl (fun K hK=> ?_) (AllU.cons rfl (fun K hK=> ?_) AllU.nil)
       ·skip
        go_simp;refine hK.out _ _ (by first|exact xd yl7 y72|exact xd zl z2) (fun hHeld=> ?_);clear hK K;refine Qb ?_;refine ordU_ready (rs:= [5,9]) (by kernel_rfl) (by simp) ?_;refine AllU.cons rfl (fun K hK=> ?_) (AllU.cons rfl (fun K hK=> ?_) AllU.nil)
        ·skip
         refine step_append_at rfl (.tmp 44) (.tmp 47) 27 rfl w0.heap.size 40 iU (.int .u64 0) 1 8 Tryz.underlying27 hiU hzU0 hzU1 hzU2 rfl (by decide) (.slice A1 n c1) n us1 (by simp [Act.eval]) (row_ext HR1.out xv) ⟨W8.heap.size,0,none⟩ 1 1 [.int .u64 (t:Int)] (by simp [Act.eval]) rfl (by exact row_new_at _ _ _ (by simp)) (fun u hu=>by rw [List.mem_singleton.1 hu];rfl) (by unfold maxLen;omega) (by omega) (Qx HX8.out.size (Ext.size (a:=W8) xv)) ?_;intro v7 w7 hown7 hgrow7 hat7;have HG7:=Qq hgrow7;have HP7:=Qq (show ∃W,Ext W8 W/\W.grownBy w7 (Value.slice A1 n c1).ownBlock/\(v7.ownBlock=(Value.slice A1 n c1).ownBlock\/v7.ownBlock=some W.heap.size)from⟨_,xv,hgrow7,by first|exact hat7|exact hat7.imp_right fun h=>by rw [h];simp⟩)
         have HO7:=Qq hown7;have HBK:=Qq (show ∀k,k < W8.heap.size->(Value.slice A1 n c1).ownBlock≠some k->w7.heap[k]?=W8.heap[k]? from fun k hk hne=>by
          obtain⟨W,hx,hg,_⟩:=HP7.out;exact(hg.block k (Qy hk hx.size) (fun e=>hne e.symm)).trans (hx.block hk))
         have HX7:=Qq (show Ext w0 w7 from by
          obtain⟨W,hx,hg,_⟩:=HP7.out;exact(HX8.out.trans hx).grown hg (fun k hk=>(HR1.out.lt k hk).1))
         have hs7:W8.heap.size<=w7.heap.size:=by
          obtain⟨W,hx,hg,_⟩:=HP7.out;exact Qx hx.size hg.size
         have HB7:=Qq ((HBK.out xb zl (fun e=>(HD.out.1 xb e).1 rfl)).trans HB8.out);obtain⟨⟨_,y71,y72⟩,yf7,yl7⟩:=cells3z HB7.out;have YF7:=Qq yf7;have HR7:=Qq (row_keep (w':=w7) HR2.out fun k hk=>HBK.out k (HR2.out.lt k hk).2 (fun e=>HD.out.2.2 k e hk));obtain⟨A7,c7,hv7⟩:=slice_of_row hown7;subst hv7;clear hown7 hgrow7 hat7 yf7;refine hK.out _ _ y72 (fun hHeld=> ?_);clear hK K;refine Qb ?_;refine utk 11 hHeld ?_;refine ordU_ready (rs:= [9]) (by kernel_rfl) (by simp) ?_;refine AllU.cons rfl (fun K hK=> ?_) AllU.nil;go_simp;refine hK.out _ _ (by first|exact xd yl7 y72|exact xd zl z2) (fun hHeld=> ?_);clear hK K
         refine Qb ?_;refine ordU_ready (rs:= [10]) (by kernel_rfl) (by simp) ?_;refine AllU.cons rfl (fun K hK=> ?_) AllU.nil;refine step_append_at rfl (.tmp 50) (.tmp 52) 28 rfl w0.heap.size 3 iI (.int .i64 0) 1 8 Tryz.underlying28 hiI hzI0 hzI1 hzI2 rfl (by decide) (.slice A2 n c2) n us2 (by simp [Act.eval]) (row_ext HR7.out xv) ⟨w7.heap.size,0,none⟩ 1 1 [.int .i64 z] (by simp [Act.eval]) rfl (by exact row_new_at _ _ _ (by simp)) (fun u hu=>by rw [List.mem_singleton.1 hu];rfl) (by unfold maxLen;omega) (by omega) (Qx HX7.out.size (Ext.size (a:=w7) xv)) ?_;intro v9 w9 hown9 hgrow9 hat9;have HP9:=Qq (show ∃W,Ext w7 W/\W.grownBy w9 (Value.slice A2 n c2).ownBlock/\(v9.ownBlock=(Value.slice A2 n c2).ownBlock\/v9.ownBlock=some W.heap.size)from⟨_,xv,hgrow9,by first|exact hat9|exact hat9.imp_right fun h=>by rw [h];simp⟩)
         have HO9:=Qq hown9;have HB9:=Qq (show w9.heap[xb]?=some (.cells #[.int .i64 lg,.slice A1 n c1,.slice A2 n c2] 30 (0,0))from by
          obtain⟨W,hx,hg,_⟩:=HP9.out;exact((hg.block xb (Qy yl7 hx.size) (fun e=>(HD.out.2.1 xb e.symm).1 rfl)).trans (hx.block yl7)).trans HB7.out)
         obtain⟨A9,c9,hv9⟩:=slice_of_row hown9;subst hv9;obtain⟨⟨_,y91,y92⟩,yf9,yl9⟩:=cells3z HB9.out;have yf91:=yf9.2.1;have HB12:=Qq (show(w9.setCell ⟨xb,1,none⟩ (.slice A7 (n+1) c7)).heap[xb]?=some (.cells #[.int .i64 lg,.slice A7 (n+1) c7,.slice A2 n c2] 30 (0,0)) by
          simp only [World.setCell,Array.getElem?_modify,HB9.out,if_true,Option.map_some]
          simp)
         obtain⟨⟨_,q1,q2⟩,qf,ql⟩:=cells3z HB12.out;have qf2:=qf.2.2;have HTK:=Qq (show RdI w0 ((w9.setCell ⟨xb,1,none⟩ (.slice A7 (n+1) c7)).setCell ⟨xb,2,none⟩ (.slice A9 (n+1) c9)) g m cap xb rb lg (s3.1.set t false,s3.2++ [(t,z)])from by
          obtain⟨W6,hx6,hg7,ha7⟩:=HP7.out;obtain⟨W9,hx9,hg9,ha9⟩:=HP9.out;exact HI8.out.take HB8.out HN8.out ⟨_,HR1.out⟩ ⟨_,HR2.out⟩ HD.out.1 HD.out.2.1 HD.out.2.2 hx6 hg7 HO7.out ha7 hx9 hg9 HO9.out ha9)
         clear hown9 hgrow9 hat9 yf9 qf;refine hK.out _ _ y92 (fun hHeld=> ?_);clear hK K;refine Qb ?_;refine ordU_ready (rs:= [12]) (by kernel_rfl) (by simp) ?_;refine AllU.cons rfl (fun K hK=> ?_) AllU.nil;go_simp;refine hK.out _ _ q2 (fun hHeld=> ?_);clear hK K;refine Qb ?_;refine utk 13 hHeld ?_;refine ordU_last (by kernel_rfl) rfl (fun K hK=> ?_);go_simp;refine hK.out _ _ ?_;clear hK K;refine Qb ?_;refine ordU_done (by kernel_rfl) ?_ _;go_wp2_with fail;go_roundw
         case rel=>exact⟨true,rfl,z+1,rfl,by omega,by omega,Qq ⟨_,HTK.out,.inr ⟨HST.out.symm,rfl,by
          rw [Qk,List.getElem?_set];simp only [if_true]
          split <;> rfl,by rw [List.length_append];exact Nat.lt_succ_self _⟩⟩⟩
         case measure=>simp [intOf];omega
        skip
        go_simp;refine hK.out _ _ (by first|exact xd yl7 y72|exact xd zl z2) (fun hHeld=> ?_);clear hK K;refine Qb ?_;refine ordU_ready (rs:= [5]) (by kernel_rfl) (by simp) ?_;refine AllU.cons rfl (fun K hK=> ?_) AllU.nil;refine step_append_at rfl (.tmp 44) (.tmp 47) 27 rfl w0.heap.size 40 iU (.int .u64 0) 1 8 Tryz.underlying27 hiU hzU0 hzU1 hzU2 rfl (by decide) (.slice A1 n c1) n us1 (by simp [Act.eval]) (row_ext HR1.out xv) ⟨W8.heap.size,0,none⟩ 1 1 [.int .u64 (t:Int)] (by simp [Act.eval]) rfl (by intro j u hj;exact((Qz.alloc _).cell (by rw [block_of_add];simp)).trans (row_new_at _ _ _ (by simp) j u hj)) (fun u hu=>by rw [List.mem_singleton.1 hu];rfl) (by unfold maxLen;omega) (by omega) (Qx HX8.out.size (Ext.size (a:=W8) xv)) ?_
        intro v7 w7 hown7 hgrow7 hat7;have HG7:=Qq hgrow7;have HP7:=Qq (show ∃W,Ext W8 W/\W.grownBy w7 (Value.slice A1 n c1).ownBlock/\(v7.ownBlock=(Value.slice A1 n c1).ownBlock\/v7.ownBlock=some W.heap.size)from⟨_,xv,hgrow7,by first|exact hat7|exact hat7.imp_right fun h=>by rw [h];simp⟩);have HO7:=Qq hown7;have HBK:=Qq (show ∀k,k < W8.heap.size->(Value.slice A1 n c1).ownBlock≠some k->w7.heap[k]?=W8.heap[k]? from fun k hk hne=>by
         obtain⟨W,hx,hg,_⟩:=HP7.out;exact(hg.block k (Qy hk hx.size) (fun e=>hne e.symm)).trans (hx.block hk))
        have HX7:=Qq (show Ext w0 w7 from by
         obtain⟨W,hx,hg,_⟩:=HP7.out;exact(HX8.out.trans hx).grown hg (fun k hk=>(HR1.out.lt k hk).1))
        have hs7:W8.heap.size<=w7.heap.size:=by
         obtain⟨W,hx,hg,_⟩:=HP7.out;exact Qx hx.size hg.size
        have HB7:=Qq ((HBK.out xb zl (fun e=>(HD.out.1 xb e).1 rfl)).trans HB8.out);obtain⟨⟨_,y71,y72⟩,yf7,yl7⟩:=cells3z HB7.out;have YF7:=Qq yf7;have HR7:=Qq (row_keep (w':=w7) HR2.out fun k hk=>HBK.out k (HR2.out.lt k hk).2 (fun e=>HD.out.2.2 k e hk));obtain⟨A7,c7,hv7⟩:=slice_of_row hown7;subst hv7;clear hown7 hgrow7 hat7 yf7;refine hK.out _ _ y72 (fun hHeld=> ?_);clear hK K;refine Qb ?_;refine utk 11 hHeld ?_;refine ordU_ready (rs:= [10]) (by kernel_rfl) (by simp) ?_;refine AllU.cons rfl (fun K hK=> ?_) AllU.nil;refine step_append_at rfl (.tmp 50) (.tmp 52) 28 rfl w0.heap.size 3 iI (.int .i64 0) 1 8 Tryz.underlying28 hiI hzI0 hzI1 hzI2 rfl (by decide) (.slice A2 n c2) n us2 (by simp [Act.eval]) (row_ext HR7.out xv) ⟨W8.heap.size+1,0,none⟩ 1 1 [.int .i64 z] (by simp [Act.eval]) rfl (by exact row_in (HG7.out.block (W8.heap.size+1) (by simp <;> omega) (fun e=>by have:=(HR1.out.lt _ e.symm).2;omega)) (row_new_at _ _ _ (by simp))) (fun u hu=>by rw [List.mem_singleton.1 hu];rfl) (by unfold maxLen;omega) (by omega) (Qx HX7.out.size (Ext.size (a:=w7) xv)) ?_
        intro v9 w9 hown9 hgrow9 hat9;have HP9:=Qq (show ∃W,Ext w7 W/\W.grownBy w9 (Value.slice A2 n c2).ownBlock/\(v9.ownBlock=(Value.slice A2 n c2).ownBlock\/v9.ownBlock=some W.heap.size)from⟨_,xv,hgrow9,by first|exact hat9|exact hat9.imp_right fun h=>by rw [h];simp⟩);have HO9:=Qq hown9;have HB9:=Qq (show w9.heap[xb]?=some (.cells #[.int .i64 lg,.slice A1 n c1,.slice A2 n c2] 30 (0,0))from by
         obtain⟨W,hx,hg,_⟩:=HP9.out;exact((hg.block xb (Qy yl7 hx.size) (fun e=>(HD.out.2.1 xb e.symm).1 rfl)).trans (hx.block yl7)).trans HB7.out)
        obtain⟨A9,c9,hv9⟩:=slice_of_row hown9;subst hv9;obtain⟨⟨_,y91,y92⟩,yf9,yl9⟩:=cells3z HB9.out;have yf91:=yf9.2.1;have HB12:=Qq (show(w9.setCell ⟨xb,1,none⟩ (.slice A7 (n+1) c7)).heap[xb]?=some (.cells #[.int .i64 lg,.slice A7 (n+1) c7,.slice A2 n c2] 30 (0,0)) by
         simp only [World.setCell,Array.getElem?_modify,HB9.out,if_true,Option.map_some]
         simp)
        obtain⟨⟨_,q1,q2⟩,qf,ql⟩:=cells3z HB12.out;have qf2:=qf.2.2;have HTK:=Qq (show RdI w0 ((w9.setCell ⟨xb,1,none⟩ (.slice A7 (n+1) c7)).setCell ⟨xb,2,none⟩ (.slice A9 (n+1) c9)) g m cap xb rb lg (s3.1.set t false,s3.2++ [(t,z)])from by
         obtain⟨W6,hx6,hg7,ha7⟩:=HP7.out;obtain⟨W9,hx9,hg9,ha9⟩:=HP9.out;exact HI8.out.take HB8.out HN8.out ⟨_,HR1.out⟩ ⟨_,HR2.out⟩ HD.out.1 HD.out.2.1 HD.out.2.2 hx6 hg7 HO7.out ha7 hx9 hg9 HO9.out ha9)
        clear hown9 hgrow9 hat9 yf9 qf;refine hK.out _ _ y92 (fun hHeld=> ?_);clear hK K;refine Qb ?_;refine ordU_ready (rs:= [12]) (by kernel_rfl) (by simp) ?_;refine AllU.cons rfl (fun K hK=> ?_) AllU.nil;go_simp;refine hK.out _ _ q2 (fun hHeld=> ?_);clear hK K;refine Qb ?_;refine utk 13 hHeld ?_;refine ordU_last (by kernel_rfl) rfl (fun K hK=> ?_);go_simp;refine hK.out _ _ ?_;clear hK K;refine Qb ?_;refine ordU_done (by kernel_rfl) ?_ _;go_wp2_with fail;go_roundw
        case rel=>exact⟨true,rfl,z+1,rfl,by omega,by omega,Qq ⟨_,HTK.out,.inr ⟨HST.out.symm,rfl,by
         rw [Qk,List.getElem?_set];simp only [if_true]
         split <;> rfl,by rw [List.length_append];exact Nat.lt_succ_self _⟩⟩⟩
        case measure=>simp [intOf];omega
       skip
       go_simp;refine hK.out _ _ (by first|exact xd yl7 y72|exact xd zl z2) (fun hHeld=> ?_);clear hK K;refine Qb ?_;refine ordU_ready (rs:= [4]) (by kernel_rfl) (by simp) ?_;refine AllU.cons rfl (fun K hK=> ?_) AllU.nil;go_simp;refine hK.out _ _ (by first|exact xd yl7 y72|exact xd zl z2) (fun hHeld=> ?_);clear hK K;refine Qb ?_;refine ordU_ready (rs:= [5]) (by kernel_rfl) (by simp) ?_;refine AllU.cons rfl (fun K hK=> ?_) AllU.nil;refine step_append_at rfl (.tmp 44) (.tmp 47) 27 rfl w0.heap.size 40 iU (.int .u64 0) 1 8 Tryz.underlying27 hiU hzU0 hzU1 hzU2 rfl (by decide) (.slice A1 n c1) n us1 (by simp [Act.eval]) (row_ext HR1.out xv) ⟨W8.heap.size+1,0,none⟩ 1 1 [.int .u64 (t:Int)] (by simp [Act.eval]) rfl (by exact row_new_at _ _ _ (by simp)) (fun u hu=>by rw [List.mem_singleton.1 hu];rfl) (by unfold maxLen;omega) (by omega) (Qx HX8.out.size (Ext.size (a:=W8) xv)) ?_
       intro v7 w7 hown7 hgrow7 hat7;have HG7:=Qq hgrow7;have HP7:=Qq (show ∃W,Ext W8 W/\W.grownBy w7 (Value.slice A1 n c1).ownBlock/\(v7.ownBlock=(Value.slice A1 n c1).ownBlock\/v7.ownBlock=some W.heap.size)from⟨_,xv,hgrow7,by first|exact hat7|exact hat7.imp_right fun h=>by rw [h];simp⟩);have HO7:=Qq hown7;have HBK:=Qq (show ∀k,k < W8.heap.size->(Value.slice A1 n c1).ownBlock≠some k->w7.heap[k]?=W8.heap[k]? from fun k hk hne=>by
        obtain⟨W,hx,hg,_⟩:=HP7.out;exact(hg.block k (Qy hk hx.size) (fun e=>hne e.symm)).trans (hx.block hk))
       have HX7:=Qq (show Ext w0 w7 from by
        obtain⟨W,hx,hg,_⟩:=HP7.out;exact(HX8.out.trans hx).grown hg (fun k hk=>(HR1.out.lt k hk).1))
       have hs7:W8.heap.size<=w7.heap.size:=by
        obtain⟨W,hx,hg,_⟩:=HP7.out;exact Qx hx.size hg.size
       have HB7:=Qq ((HBK.out xb zl (fun e=>(HD.out.1 xb e).1 rfl)).trans HB8.out);obtain⟨⟨_,y71,y72⟩,yf7,yl7⟩:=cells3z HB7.out;have YF7:=Qq yf7;have HR7:=Qq (row_keep (w':=w7) HR2.out fun k hk=>HBK.out k (HR2.out.lt k hk).2 (fun e=>HD.out.2.2 k e hk));obtain⟨A7,c7,hv7⟩:=slice_of_row hown7;subst hv7;clear hown7 hgrow7 hat7 yf7;refine hK.out _ _ y72 (fun hHeld=> ?_);clear hK K;refine Qb ?_;refine utk 11 hHeld ?_;refine ordU_ready (rs:= [10]) (by kernel_rfl) (by simp) ?_;refine AllU.cons rfl (fun K hK=> ?_) AllU.nil;refine step_append_at rfl (.tmp 50) (.tmp 52) 28 rfl w0.heap.size 3 iI (.int .i64 0) 1 8 Tryz.underlying28 hiI hzI0 hzI1 hzI2 rfl (by decide) (.slice A2 n c2) n us2 (by simp [Act.eval]) (row_ext HR7.out xv) ⟨W8.heap.size,0,none⟩ 1 1 [.int .i64 z] (by simp [Act.eval]) rfl (by exact row_in (HG7.out.block (W8.heap.size) (by simp <;> omega) (fun e=>by have:=(HR1.out.lt _ e.symm).2;omega)) (fun j u hj=>((Qz.alloc _).cell (by rw [block_of_add];simp)).trans (row_new_at _ _ _ (by simp) j u hj))) (fun u hu=>by rw [List.mem_singleton.1 hu];rfl) (by unfold maxLen;omega) (by omega) (Qx HX7.out.size (Ext.size (a:=w7) xv)) ?_
       intro v9 w9 hown9 hgrow9 hat9;have HP9:=Qq (show ∃W,Ext w7 W/\W.grownBy w9 (Value.slice A2 n c2).ownBlock/\(v9.ownBlock=(Value.slice A2 n c2).ownBlock\/v9.ownBlock=some W.heap.size)from⟨_,xv,hgrow9,by first|exact hat9|exact hat9.imp_right fun h=>by rw [h];simp⟩);have HO9:=Qq hown9;have HB9:=Qq (show w9.heap[xb]?=some (.cells #[.int .i64 lg,.slice A1 n c1,.slice A2 n c2] 30 (0,0))from by
        obtain⟨W,hx,hg,_⟩:=HP9.out;exact((hg.block xb (Qy yl7 hx.size) (fun e=>(HD.out.2.1 xb e.symm).1 rfl)).trans (hx.block yl7)).trans HB7.out)
       obtain⟨A9,c9,hv9⟩:=slice_of_row hown9;subst hv9;obtain⟨⟨_,y91,y92⟩,yf9,yl9⟩:=cells3z HB9.out;have yf91:=yf9.2.1;have HB12:=Qq (show(w9.setCell ⟨xb,1,none⟩ (.slice A7 (n+1) c7)).heap[xb]?=some (.cells #[.int .i64 lg,.slice A7 (n+1) c7,.slice A2 n c2] 30 (0,0)) by
        simp only [World.setCell,Array.getElem?_modify,HB9.out,if_true,Option.map_some]
        simp)
       obtain⟨⟨_,q1,q2⟩,qf,ql⟩:=cells3z HB12.out;have qf2:=qf.2.2;have HTK:=Qq (show RdI w0 ((w9.setCell ⟨xb,1,none⟩ (.slice A7 (n+1) c7)).setCell ⟨xb,2,none⟩ (.slice A9 (n+1) c9)) g m cap xb rb lg (s3.1.set t false,s3.2++ [(t,z)])from by
        obtain⟨W6,hx6,hg7,ha7⟩:=HP7.out;obtain⟨W9,hx9,hg9,ha9⟩:=HP9.out;exact HI8.out.take HB8.out HN8.out ⟨_,HR1.out⟩ ⟨_,HR2.out⟩ HD.out.1 HD.out.2.1 HD.out.2.2 hx6 hg7 HO7.out ha7 hx9 hg9 HO9.out ha9)
       clear hown9 hgrow9 hat9 yf9 qf;refine hK.out _ _ y92 (fun hHeld=> ?_);clear hK K;refine Qb ?_;refine ordU_ready (rs:= [12]) (by kernel_rfl) (by simp) ?_;refine AllU.cons rfl (fun K hK=> ?_) AllU.nil;go_simp;refine hK.out _ _ q2 (fun hHeld=> ?_);clear hK K;refine Qb ?_;refine utk 13 hHeld ?_;refine ordU_last (by kernel_rfl) rfl (fun K hK=> ?_);go_simp;refine hK.out _ _ ?_;clear hK K;refine Qb ?_;refine ordU_done (by kernel_rfl) ?_ _;go_wp2_with fail;go_roundw
       case rel=>exact⟨true,rfl,z+1,rfl,by omega,by omega,Qq ⟨_,HTK.out,.inr ⟨HST.out.symm,rfl,by
        rw [Qk,List.getElem?_set];simp only [if_true]
        split <;> rfl,by rw [List.length_append];exact Nat.lt_succ_self _⟩⟩⟩
       case measure=>simp [intOf];omega
      ·skip
       go_simp;refine hK.out _ _ (by first|exact xd yl7 y72|exact xd zl z2) (fun hHeld=> ?_);clear hK K;refine Qb ?_;refine ordU_ready (rs:= [1,9]) (by kernel_rfl) (by simp) ?_;refine AllU.cons rfl (fun K hK=> ?_) (AllU.cons rfl (fun K hK=> ?_) AllU.nil)
       ·skip
        go_simp;refine hK.out _ _ (by first|exact xd yl7 y72|exact xd zl z2) (fun hHeld=> ?_);clear hK K;refine Qb ?_;refine ordU_ready (rs:= [5,9]) (by kernel_rfl) (by simp) ?_;refine AllU.cons rfl (fun K hK=> ?_) (AllU.cons rfl (fun K hK=> ?_) AllU.nil)
        ·skip
         refine step_append_at rfl (.tmp 44) (.tmp 47) 27 rfl w0.heap.size 40 iU (.int .u64 0) 1 8 Tryz.underlying27 hiU hzU0 hzU1 hzU2 rfl (by decide) (.slice A1 n c1) n us1 (by simp [Act.eval]) (row_ext HR1.out xv) ⟨W8.heap.size,0,none⟩ 1 1 [.int .u64 (t:Int)] (by simp [Act.eval]) rfl (by exact row_new_at _ _ _ (by simp)) (fun u hu=>by rw [List.mem_singleton.1 hu];rfl) (by unfold maxLen;omega) (by omega) (Qx HX8.out.size (Ext.size (a:=W8) xv)) ?_;intro v7 w7 hown7 hgrow7 hat7;have HG7:=Qq hgrow7;have HP7:=Qq (show ∃W,Ext W8 W/\W.grownBy w7 (Value.slice A1 n c1).ownBlock/\(v7.ownBlock=(Value.slice A1 n c1).ownBlock\/v7.ownBlock=some W.heap.size)from⟨_,xv,hgrow7,by first|exact hat7|exact hat7.imp_right fun h=>by rw [h];simp⟩)
         have HO7:=Qq hown7;have HBK:=Qq (show ∀k,k < W8.heap.size->(Value.slice A1 n c1).ownBlock≠some k->w7.heap[k]?=W8.heap[k]? from fun k hk hne=>by
          obtain⟨W,hx,hg,_⟩:=HP7.out;exact(hg.block k (Qy hk hx.size) (fun e=>hne e.symm)).trans (hx.block hk))
         have HX7:=Qq (show Ext w0 w7 from by
          obtain⟨W,hx,hg,_⟩:=HP7.out;exact(HX8.out.trans hx).grown hg (fun k hk=>(HR1.out.lt k hk).1))
         have hs7:W8.heap.size<=w7.heap.size:=by
          obtain⟨W,hx,hg,_⟩:=HP7.out;exact Qx hx.size hg.size
         have HB7:=Qq ((HBK.out xb zl (fun e=>(HD.out.1 xb e).1 rfl)).trans HB8.out);obtain⟨⟨_,y71,y72⟩,yf7,yl7⟩:=cells3z HB7.out;have YF7:=Qq yf7;have HR7:=Qq (row_keep (w':=w7) HR2.out fun k hk=>HBK.out k (HR2.out.lt k hk).2 (fun e=>HD.out.2.2 k e hk));obtain⟨A7,c7,hv7⟩:=slice_of_row hown7;subst hv7;clear hown7 hgrow7 hat7 yf7;refine hK.out _ _ y72 (fun hHeld=> ?_);clear hK K;refine Qb ?_;refine utk 11 hHeld ?_;refine ordU_ready (rs:= [9]) (by kernel_rfl) (by simp) ?_;refine AllU.cons rfl (fun K hK=> ?_) AllU.nil;go_simp;refine hK.out _ _ (by first|exact xd yl7 y72|exact xd zl z2) (fun hHeld=> ?_);clear hK K
         refine Qb ?_;refine ordU_ready (rs:= [10]) (by kernel_rfl) (by simp) ?_;refine AllU.cons rfl (fun K hK=> ?_) AllU.nil;refine step_append_at rfl (.tmp 50) (.tmp 52) 28 rfl w0.heap.size 3 iI (.int .i64 0) 1 8 Tryz.underlying28 hiI hzI0 hzI1 hzI2 rfl (by decide) (.slice A2 n c2) n us2 (by simp [Act.eval]) (row_ext HR7.out xv) ⟨w7.heap.size,0,none⟩ 1 1 [.int .i64 z] (by simp [Act.eval]) rfl (by exact row_new_at _ _ _ (by simp)) (fun u hu=>by rw [List.mem_singleton.1 hu];rfl) (by unfold maxLen;omega) (by omega) (Qx HX7.out.size (Ext.size (a:=w7) xv)) ?_;intro v9 w9 hown9 hgrow9 hat9;have HP9:=Qq (show ∃W,Ext w7 W/\W.grownBy w9 (Value.slice A2 n c2).ownBlock/\(v9.ownBlock=(Value.slice A2 n c2).ownBlock\/v9.ownBlock=some W.heap.size)from⟨_,xv,hgrow9,by first|exact hat9|exact hat9.imp_right fun h=>by rw [h];simp⟩)
         have HO9:=Qq hown9;have HB9:=Qq (show w9.heap[xb]?=some (.cells #[.int .i64 lg,.slice A1 n c1,.slice A2 n c2] 30 (0,0))from by
          obtain⟨W,hx,hg,_⟩:=HP9.out;exact((hg.block xb (Qy yl7 hx.size) (fun e=>(HD.out.2.1 xb e.symm).1 rfl)).trans (hx.block yl7)).trans HB7.out)
         obtain⟨A9,c9,hv9⟩:=slice_of_row hown9;subst hv9;obtain⟨⟨_,y91,y92⟩,yf9,yl9⟩:=cells3z HB9.out;have yf91:=yf9.2.1;have HB12:=Qq (show(w9.setCell ⟨xb,1,none⟩ (.slice A7 (n+1) c7)).heap[xb]?=some (.cells #[.int .i64 lg,.slice A7 (n+1) c7,.slice A2 n c2] 30 (0,0)) by
          simp only [World.setCell,Array.getElem?_modify,HB9.out,if_true,Option.map_some]
          simp)
         obtain⟨⟨_,q1,q2⟩,qf,ql⟩:=cells3z HB12.out;have qf2:=qf.2.2;have HTK:=Qq (show RdI w0 ((w9.setCell ⟨xb,1,none⟩ (.slice A7 (n+1) c7)).setCell ⟨xb,2,none⟩ (.slice A9 (n+1) c9)) g m cap xb rb lg (s3.1.set t false,s3.2++ [(t,z)])from by
          obtain⟨W6,hx6,hg7,ha7⟩:=HP7.out;obtain⟨W9,hx9,hg9,ha9⟩:=HP9.out;exact HI8.out.take HB8.out HN8.out ⟨_,HR1.out⟩ ⟨_,HR2.out⟩ HD.out.1 HD.out.2.1 HD.out.2.2 hx6 hg7 HO7.out ha7 hx9 hg9 HO9.out ha9)
         clear hown9 hgrow9 hat9 yf9 qf;refine hK.out _ _ y92 (fun hHeld=> ?_);clear hK K;refine Qb ?_;refine ordU_ready (rs:= [12]) (by kernel_rfl) (by simp) ?_;refine AllU.cons rfl (fun K hK=> ?_) AllU.nil;go_simp;refine hK.out _ _ q2 (fun hHeld=> ?_);clear hK K;refine Qb ?_;refine utk 13 hHeld ?_;refine ordU_last (by kernel_rfl) rfl (fun K hK=> ?_);go_simp;refine hK.out _ _ ?_;clear hK K;refine Qb ?_;refine ordU_done (by kernel_rfl) ?_ _;go_wp2_with fail;go_roundw
         case rel=>exact⟨true,rfl,z+1,rfl,by omega,by omega,Qq ⟨_,HTK.out,.inr ⟨HST.out.symm,rfl,by
          rw [Qk,List.getElem?_set];simp only [if_true]
          split <;> rfl,by rw [List.length_append];exact Nat.lt_succ_self _⟩⟩⟩
         case measure=>simp [intOf];omega
        skip
        go_simp;refine hK.out _ _ (by first|exact xd yl7 y72|exact xd zl z2) (fun hHeld=> ?_);clear hK K;refine Qb ?_;refine ordU_ready (rs:= [5]) (by kernel_rfl) (by simp) ?_;refine AllU.cons rfl (fun K hK=> ?_) AllU.nil;refine step_append_at rfl (.tmp 44) (.tmp 47) 27 rfl w0.heap.size 40 iU (.int .u64 0) 1 8 Tryz.underlying27 hiU hzU0 hzU1 hzU2 rfl (by decide) (.slice A1 n c1) n us1 (by simp [Act.eval]) (row_ext HR1.out xv) ⟨W8.heap.size,0,none⟩ 1 1 [.int .u64 (t:Int)] (by simp [Act.eval]) rfl (by intro j u hj;exact((Qz.alloc _).cell (by rw [block_of_add];simp)).trans (row_new_at _ _ _ (by simp) j u hj)) (fun u hu=>by rw [List.mem_singleton.1 hu];rfl) (by unfold maxLen;omega) (by omega) (Qx HX8.out.size (Ext.size (a:=W8) xv)) ?_
        intro v7 w7 hown7 hgrow7 hat7;have HG7:=Qq hgrow7;have HP7:=Qq (show ∃W,Ext W8 W/\W.grownBy w7 (Value.slice A1 n c1).ownBlock/\(v7.ownBlock=(Value.slice A1 n c1).ownBlock\/v7.ownBlock=some W.heap.size)from⟨_,xv,hgrow7,by first|exact hat7|exact hat7.imp_right fun h=>by rw [h];simp⟩);have HO7:=Qq hown7;have HBK:=Qq (show ∀k,k < W8.heap.size->(Value.slice A1 n c1).ownBlock≠some k->w7.heap[k]?=W8.heap[k]? from fun k hk hne=>by
         obtain⟨W,hx,hg,_⟩:=HP7.out;exact(hg.block k (Qy hk hx.size) (fun e=>hne e.symm)).trans (hx.block hk))
        have HX7:=Qq (show Ext w0 w7 from by
         obtain⟨W,hx,hg,_⟩:=HP7.out;exact(HX8.out.trans hx).grown hg (fun k hk=>(HR1.out.lt k hk).1))
        have hs7:W8.heap.size<=w7.heap.size:=by
         obtain⟨W,hx,hg,_⟩:=HP7.out;exact Qx hx.size hg.size
        have HB7:=Qq ((HBK.out xb zl (fun e=>(HD.out.1 xb e).1 rfl)).trans HB8.out);obtain⟨⟨_,y71,y72⟩,yf7,yl7⟩:=cells3z HB7.out;have YF7:=Qq yf7;have HR7:=Qq (row_keep (w':=w7) HR2.out fun k hk=>HBK.out k (HR2.out.lt k hk).2 (fun e=>HD.out.2.2 k e hk));obtain⟨A7,c7,hv7⟩:=slice_of_row hown7;subst hv7;clear hown7 hgrow7 hat7 yf7;refine hK.out _ _ y72 (fun hHeld=> ?_);clear hK K;refine Qb ?_;refine utk 11 hHeld ?_;refine ordU_ready (rs:= [10]) (by kernel_rfl) (by simp) ?_;refine AllU.cons rfl (fun K hK=> ?_) AllU.nil;refine step_append_at rfl (.tmp 50) (.tmp 52) 28 rfl w0.heap.size 3 iI (.int .i64 0) 1 8 Tryz.underlying28 hiI hzI0 hzI1 hzI2 rfl (by decide) (.slice A2 n c2) n us2 (by simp [Act.eval]) (row_ext HR7.out xv) ⟨W8.heap.size+1,0,none⟩ 1 1 [.int .i64 z] (by simp [Act.eval]) rfl (by exact row_in (HG7.out.block (W8.heap.size+1) (by simp <;> omega) (fun e=>by have:=(HR1.out.lt _ e.symm).2;omega)) (row_new_at _ _ _ (by simp))) (fun u hu=>by rw [List.mem_singleton.1 hu];rfl) (by unfold maxLen;omega) (by omega) (Qx HX7.out.size (Ext.size (a:=w7) xv)) ?_
        intro v9 w9 hown9 hgrow9 hat9;have HP9:=Qq (show ∃W,Ext w7 W/\W.grownBy w9 (Value.slice A2 n c2).ownBlock/\(v9.ownBlock=(Value.slice A2 n c2).ownBlock\/v9.ownBlock=some W.heap.size)from⟨_,xv,hgrow9,by first|exact hat9|exact hat9.imp_right fun h=>by rw [h];simp⟩);have HO9:=Qq hown9;have HB9:=Qq (show w9.heap[xb]?=some (.cells #[.int .i64 lg,.slice A1 n c1,.slice A2 n c2] 30 (0,0))from by
         obtain⟨W,hx,hg,_⟩:=HP9.out;exact((hg.block xb (Qy yl7 hx.size) (fun e=>(HD.out.2.1 xb e.symm).1 rfl)).trans (hx.block yl7)).trans HB7.out)
        obtain⟨A9,c9,hv9⟩:=slice_of_row hown9;subst hv9;obtain⟨⟨_,y91,y92⟩,yf9,yl9⟩:=cells3z HB9.out;have yf91:=yf9.2.1;have HB12:=Qq (show(w9.setCell ⟨xb,1,none⟩ (.slice A7 (n+1) c7)).heap[xb]?=some (.cells #[.int .i64 lg,.slice A7 (n+1) c7,.slice A2 n c2] 30 (0,0)) by
         simp only [World.setCell,Array.getElem?_modify,HB9.out,if_true,Option.map_some]
         simp)
        obtain⟨⟨_,q1,q2⟩,qf,ql⟩:=cells3z HB12.out;have qf2:=qf.2.2;have HTK:=Qq (show RdI w0 ((w9.setCell ⟨xb,1,none⟩ (.slice A7 (n+1) c7)).setCell ⟨xb,2,none⟩ (.slice A9 (n+1) c9)) g m cap xb rb lg (s3.1.set t false,s3.2++ [(t,z)])from by
         obtain⟨W6,hx6,hg7,ha7⟩:=HP7.out;obtain⟨W9,hx9,hg9,ha9⟩:=HP9.out;exact HI8.out.take HB8.out HN8.out ⟨_,HR1.out⟩ ⟨_,HR2.out⟩ HD.out.1 HD.out.2.1 HD.out.2.2 hx6 hg7 HO7.out ha7 hx9 hg9 HO9.out ha9)
        clear hown9 hgrow9 hat9 yf9 qf;refine hK.out _ _ y92 (fun hHeld=> ?_);clear hK K;refine Qb ?_;refine ordU_ready (rs:= [12]) (by kernel_rfl) (by simp) ?_;refine AllU.cons rfl (fun K hK=> ?_) AllU.nil;go_simp;refine hK.out _ _ q2 (fun hHeld=> ?_);clear hK K;refine Qb ?_;refine utk 13 hHeld ?_;refine ordU_last (by kernel_rfl) rfl (fun K hK=> ?_);go_simp;refine hK.out _ _ ?_;clear hK K;refine Qb ?_;refine ordU_done (by kernel_rfl) ?_ _;go_wp2_with fail;go_roundw
        case rel=>exact⟨true,rfl,z+1,rfl,by omega,by omega,Qq ⟨_,HTK.out,.inr ⟨HST.out.symm,rfl,by
         rw [Qk,List.getElem?_set];simp only [if_true]
         split <;> rfl,by rw [List.length_append];exact Nat.lt_succ_self _⟩⟩⟩
        case measure=>simp [intOf];omega
       skip
       go_simp;refine hK.out _ _ (by first|exact xd yl7 y72|exact xd zl z2) (fun hHeld=> ?_);clear hK K;refine Qb ?_;refine ordU_ready (rs:= [1]) (by kernel_rfl) (by simp) ?_;refine AllU.cons rfl (fun K hK=> ?_) AllU.nil;go_simp;refine hK.out _ _ (by first|exact xd yl7 y72|exact xd zl z2) (fun hHeld=> ?_);clear hK K;refine Qb ?_;refine ordU_ready (rs:= [5]) (by kernel_rfl) (by simp) ?_;refine AllU.cons rfl (fun K hK=> ?_) AllU.nil;refine step_append_at rfl (.tmp 44) (.tmp 47) 27 rfl w0.heap.size 40 iU (.int .u64 0) 1 8 Tryz.underlying27 hiU hzU0 hzU1 hzU2 rfl (by decide) (.slice A1 n c1) n us1 (by simp [Act.eval]) (row_ext HR1.out xv) ⟨W8.heap.size,0,none⟩ 1 1 [.int .u64 (t:Int)] (by simp [Act.eval]) rfl (by intro j u hj;exact((Qz.alloc _).cell (by rw [block_of_add];simp)).trans (row_new_at _ _ _ (by simp) j u hj)) (fun u hu=>by rw [List.mem_singleton.1 hu];rfl) (by unfold maxLen;omega) (by omega) (Qx HX8.out.size (Ext.size (a:=W8) xv)) ?_
       intro v7 w7 hown7 hgrow7 hat7;have HG7:=Qq hgrow7;have HP7:=Qq (show ∃W,Ext W8 W/\W.grownBy w7 (Value.slice A1 n c1).ownBlock/\(v7.ownBlock=(Value.slice A1 n c1).ownBlock\/v7.ownBlock=some W.heap.size)from⟨_,xv,hgrow7,by first|exact hat7|exact hat7.imp_right fun h=>by rw [h];simp⟩);have HO7:=Qq hown7;have HBK:=Qq (show ∀k,k < W8.heap.size->(Value.slice A1 n c1).ownBlock≠some k->w7.heap[k]?=W8.heap[k]? from fun k hk hne=>by
        obtain⟨W,hx,hg,_⟩:=HP7.out;exact(hg.block k (Qy hk hx.size) (fun e=>hne e.symm)).trans (hx.block hk))
       have HX7:=Qq (show Ext w0 w7 from by
        obtain⟨W,hx,hg,_⟩:=HP7.out;exact(HX8.out.trans hx).grown hg (fun k hk=>(HR1.out.lt k hk).1))
       have hs7:W8.heap.size<=w7.heap.size:=by
        obtain⟨W,hx,hg,_⟩:=HP7.out;exact Qx hx.size hg.size
       have HB7:=Qq ((HBK.out xb zl (fun e=>(HD.out.1 xb e).1 rfl)).trans HB8.out);obtain⟨⟨_,y71,y72⟩,yf7,yl7⟩:=cells3z HB7.out;have YF7:=Qq yf7;have HR7:=Qq (row_keep (w':=w7) HR2.out fun k hk=>HBK.out k (HR2.out.lt k hk).2 (fun e=>HD.out.2.2 k e hk));obtain⟨A7,c7,hv7⟩:=slice_of_row hown7;subst hv7;clear hown7 hgrow7 hat7 yf7;refine hK.out _ _ y72 (fun hHeld=> ?_);clear hK K;refine Qb ?_;refine utk 11 hHeld ?_;refine ordU_ready (rs:= [10]) (by kernel_rfl) (by simp) ?_;refine AllU.cons rfl (fun K hK=> ?_) AllU.nil;refine step_append_at rfl (.tmp 50) (.tmp 52) 28 rfl w0.heap.size 3 iI (.int .i64 0) 1 8 Tryz.underlying28 hiI hzI0 hzI1 hzI2 rfl (by decide) (.slice A2 n c2) n us2 (by simp [Act.eval]) (row_ext HR7.out xv) ⟨W8.heap.size+1,0,none⟩ 1 1 [.int .i64 z] (by simp [Act.eval]) rfl (by exact row_in (HG7.out.block (W8.heap.size+1) (by simp <;> omega) (fun e=>by have:=(HR1.out.lt _ e.symm).2;omega)) (row_new_at _ _ _ (by simp))) (fun u hu=>by rw [List.mem_singleton.1 hu];rfl) (by unfold maxLen;omega) (by omega) (Qx HX7.out.size (Ext.size (a:=w7) xv)) ?_
       intro v9 w9 hown9 hgrow9 hat9;have HP9:=Qq (show ∃W,Ext w7 W/\W.grownBy w9 (Value.slice A2 n c2).ownBlock/\(v9.ownBlock=(Value.slice A2 n c2).ownBlock\/v9.ownBlock=some W.heap.size)from⟨_,xv,hgrow9,by first|exact hat9|exact hat9.imp_right fun h=>by rw [h];simp⟩);have HO9:=Qq hown9;have HB9:=Qq (show w9.heap[xb]?=some (.cells #[.int .i64 lg,.slice A1 n c1,.slice A2 n c2] 30 (0,0))from by
        obtain⟨W,hx,hg,_⟩:=HP9.out;exact((hg.block xb (Qy yl7 hx.size) (fun e=>(HD.out.2.1 xb e.symm).1 rfl)).trans (hx.block yl7)).trans HB7.out)
       obtain⟨A9,c9,hv9⟩:=slice_of_row hown9;subst hv9;obtain⟨⟨_,y91,y92⟩,yf9,yl9⟩:=cells3z HB9.out;have yf91:=yf9.2.1;have HB12:=Qq (show(w9.setCell ⟨xb,1,none⟩ (.slice A7 (n+1) c7)).heap[xb]?=some (.cells #[.int .i64 lg,.slice A7 (n+1) c7,.slice A2 n c2] 30 (0,0)) by
        simp only [World.setCell,Array.getElem?_modify,HB9.out,if_true,Option.map_some]
        simp)
       obtain⟨⟨_,q1,q2⟩,qf,ql⟩:=cells3z HB12.out;have qf2:=qf.2.2;have HTK:=Qq (show RdI w0 ((w9.setCell ⟨xb,1,none⟩ (.slice A7 (n+1) c7)).setCell ⟨xb,2,none⟩ (.slice A9 (n+1) c9)) g m cap xb rb lg (s3.1.set t false,s3.2++ [(t,z)])from by
        obtain⟨W6,hx6,hg7,ha7⟩:=HP7.out;obtain⟨W9,hx9,hg9,ha9⟩:=HP9.out;exact HI8.out.take HB8.out HN8.out ⟨_,HR1.out⟩ ⟨_,HR2.out⟩ HD.out.1 HD.out.2.1 HD.out.2.2 hx6 hg7 HO7.out ha7 hx9 hg9 HO9.out ha9)
       clear hown9 hgrow9 hat9 yf9 qf;refine hK.out _ _ y92 (fun hHeld=> ?_);clear hK K;refine Qb ?_;refine ordU_ready (rs:= [12]) (by kernel_rfl) (by simp) ?_;refine AllU.cons rfl (fun K hK=> ?_) AllU.nil;go_simp;refine hK.out _ _ q2 (fun hHeld=> ?_);clear hK K;refine Qb ?_;refine utk 13 hHeld ?_;refine ordU_last (by kernel_rfl) rfl (fun K hK=> ?_);go_simp;refine hK.out _ _ ?_;clear hK K;refine Qb ?_;refine ordU_done (by kernel_rfl) ?_ _;go_wp2_with fail;go_roundw
       case rel=>exact⟨true,rfl,z+1,rfl,by omega,by omega,Qq ⟨_,HTK.out,.inr ⟨HST.out.symm,rfl,by
        rw [Qk,List.getElem?_set];simp only [if_true]
        split <;> rfl,by rw [List.length_append];exact Nat.lt_succ_self _⟩⟩⟩
       case measure=>simp [intOf];omega
      skip
      go_simp;refine hK.out _ _ (by first|exact xd yl7 y72|exact xd zl z2) (fun hHeld=> ?_);clear hK K;refine Qb ?_;refine ordU_ready (rs:= [1,4]) (by kernel_rfl) (by simp) ?_;refine AllU.cons rfl (fun K hK=> ?_) (AllU.cons rfl (fun K hK=> ?_) AllU.nil)
      ·skip
       go_simp;refine hK.out _ _ (by first|exact xd yl7 y72|exact xd zl z2) (fun hHeld=> ?_);clear hK K;refine Qb ?_;refine ordU_ready (rs:= [4]) (by kernel_rfl) (by simp) ?_;refine AllU.cons rfl (fun K hK=> ?_) AllU.nil;go_simp;refine hK.out _ _ (by first|exact xd yl7 y72|exact xd zl z2) (fun hHeld=> ?_);clear hK K;refine Qb ?_;refine ordU_ready (rs:= [5]) (by kernel_rfl) (by simp) ?_;refine AllU.cons rfl (fun K hK=> ?_) AllU.nil;refine step_append_at rfl (.tmp 44) (.tmp 47) 27 rfl w0.heap.size 40 iU (.int .u64 0) 1 8 Tryz.underlying27 hiU hzU0 hzU1 hzU2 rfl (by decide) (.slice A1 n c1) n us1 (by simp [Act.eval]) (row_ext HR1.out xv) ⟨W8.heap.size+1,0,none⟩ 1 1 [.int .u64 (t:Int)] (by simp [Act.eval]) rfl (by exact row_new_at _ _ _ (by simp)) (fun u hu=>by rw [List.mem_singleton.1 hu];rfl) (by unfold maxLen;omega) (by omega) (Qx HX8.out.size (Ext.size (a:=W8) xv)) ?_
       intro v7 w7 hown7 hgrow7 hat7;have HG7:=Qq hgrow7;have HP7:=Qq (show ∃W,Ext W8 W/\W.grownBy w7 (Value.slice A1 n c1).ownBlock/\(v7.ownBlock=(Value.slice A1 n c1).ownBlock\/v7.ownBlock=some W.heap.size)from⟨_,xv,hgrow7,by first|exact hat7|exact hat7.imp_right fun h=>by rw [h];simp⟩);have HO7:=Qq hown7;have HBK:=Qq (show ∀k,k < W8.heap.size->(Value.slice A1 n c1).ownBlock≠some k->w7.heap[k]?=W8.heap[k]? from fun k hk hne=>by
        obtain⟨W,hx,hg,_⟩:=HP7.out;exact(hg.block k (Qy hk hx.size) (fun e=>hne e.symm)).trans (hx.block hk))
       have HX7:=Qq (show Ext w0 w7 from by
        obtain⟨W,hx,hg,_⟩:=HP7.out;exact(HX8.out.trans hx).grown hg (fun k hk=>(HR1.out.lt k hk).1))
       have hs7:W8.heap.size<=w7.heap.size:=by
        obtain⟨W,hx,hg,_⟩:=HP7.out;exact Qx hx.size hg.size
       have HB7:=Qq ((HBK.out xb zl (fun e=>(HD.out.1 xb e).1 rfl)).trans HB8.out);obtain⟨⟨_,y71,y72⟩,yf7,yl7⟩:=cells3z HB7.out;have YF7:=Qq yf7;have HR7:=Qq (row_keep (w':=w7) HR2.out fun k hk=>HBK.out k (HR2.out.lt k hk).2 (fun e=>HD.out.2.2 k e hk));obtain⟨A7,c7,hv7⟩:=slice_of_row hown7;subst hv7;clear hown7 hgrow7 hat7 yf7;refine hK.out _ _ y72 (fun hHeld=> ?_);clear hK K;refine Qb ?_;refine utk 11 hHeld ?_;refine ordU_ready (rs:= [10]) (by kernel_rfl) (by simp) ?_;refine AllU.cons rfl (fun K hK=> ?_) AllU.nil;refine step_append_at rfl (.tmp 50) (.tmp 52) 28 rfl w0.heap.size 3 iI (.int .i64 0) 1 8 Tryz.underlying28 hiI hzI0 hzI1 hzI2 rfl (by decide) (.slice A2 n c2) n us2 (by simp [Act.eval]) (row_ext HR7.out xv) ⟨W8.heap.size,0,none⟩ 1 1 [.int .i64 z] (by simp [Act.eval]) rfl (by exact row_in (HG7.out.block (W8.heap.size) (by simp <;> omega) (fun e=>by have:=(HR1.out.lt _ e.symm).2;omega)) (fun j u hj=>((Qz.alloc _).cell (by rw [block_of_add];simp)).trans (row_new_at _ _ _ (by simp) j u hj))) (fun u hu=>by rw [List.mem_singleton.1 hu];rfl) (by unfold maxLen;omega) (by omega) (Qx HX7.out.size (Ext.size (a:=w7) xv)) ?_
       intro v9 w9 hown9 hgrow9 hat9;have HP9:=Qq (show ∃W,Ext w7 W/\W.grownBy w9 (Value.slice A2 n c2).ownBlock/\(v9.ownBlock=(Value.slice A2 n c2).ownBlock\/v9.ownBlock=some W.heap.size)from⟨_,xv,hgrow9,by first|exact hat9|exact hat9.imp_right fun h=>by rw [h];simp⟩);have HO9:=Qq hown9;have HB9:=Qq (show w9.heap[xb]?=some (.cells #[.int .i64 lg,.slice A1 n c1,.slice A2 n c2] 30 (0,0))from by
        obtain⟨W,hx,hg,_⟩:=HP9.out;exact((hg.block xb (Qy yl7 hx.size) (fun e=>(HD.out.2.1 xb e.symm).1 rfl)).trans (hx.block yl7)).trans HB7.out)
       obtain⟨A9,c9,hv9⟩:=slice_of_row hown9;subst hv9;obtain⟨⟨_,y91,y92⟩,yf9,yl9⟩:=cells3z HB9.out;have yf91:=yf9.2.1;have HB12:=Qq (show(w9.setCell ⟨xb,1,none⟩ (.slice A7 (n+1) c7)).heap[xb]?=some (.cells #[.int .i64 lg,.slice A7 (n+1) c7,.slice A2 n c2] 30 (0,0)) by
        simp only [World.setCell,Array.getElem?_modify,HB9.out,if_true,Option.map_some]
        simp)
       obtain⟨⟨_,q1,q2⟩,qf,ql⟩:=cells3z HB12.out;have qf2:=qf.2.2;have HTK:=Qq (show RdI w0 ((w9.setCell ⟨xb,1,none⟩ (.slice A7 (n+1) c7)).setCell ⟨xb,2,none⟩ (.slice A9 (n+1) c9)) g m cap xb rb lg (s3.1.set t false,s3.2++ [(t,z)])from by
        obtain⟨W6,hx6,hg7,ha7⟩:=HP7.out;obtain⟨W9,hx9,hg9,ha9⟩:=HP9.out;exact HI8.out.take HB8.out HN8.out ⟨_,HR1.out⟩ ⟨_,HR2.out⟩ HD.out.1 HD.out.2.1 HD.out.2.2 hx6 hg7 HO7.out ha7 hx9 hg9 HO9.out ha9)
       clear hown9 hgrow9 hat9 yf9 qf;refine hK.out _ _ y92 (fun hHeld=> ?_);clear hK K;refine Qb ?_;refine ordU_ready (rs:= [12]) (by kernel_rfl) (by simp) ?_;refine AllU.cons rfl (fun K hK=> ?_) AllU.nil;go_simp;refine hK.out _ _ q2 (fun hHeld=> ?_);clear hK K;refine Qb ?_;refine utk 13 hHeld ?_;refine ordU_last (by kernel_rfl) rfl (fun K hK=> ?_);go_simp;refine hK.out _ _ ?_;clear hK K;refine Qb ?_;refine ordU_done (by kernel_rfl) ?_ _;go_wp2_with fail;go_roundw
       case rel=>exact⟨true,rfl,z+1,rfl,by omega,by omega,Qq ⟨_,HTK.out,.inr ⟨HST.out.symm,rfl,by
        rw [Qk,List.getElem?_set];simp only [if_true]
        split <;> rfl,by rw [List.length_append];exact Nat.lt_succ_self _⟩⟩⟩
       case measure=>simp [intOf];omega
      skip
      go_simp;refine hK.out _ _ (by first|exact xd yl7 y72|exact xd zl z2) (fun hHeld=> ?_);clear hK K;refine Qb ?_;refine ordU_ready (rs:= [1]) (by kernel_rfl) (by simp) ?_;refine AllU.cons rfl (fun K hK=> ?_) AllU.nil;go_simp;refine hK.out _ _ (by first|exact xd yl7 y72|exact xd zl z2) (fun hHeld=> ?_);clear hK K;refine Qb ?_;refine ordU_ready (rs:= [5]) (by kernel_rfl) (by simp) ?_;refine AllU.cons rfl (fun K hK=> ?_) AllU.nil;refine step_append_at rfl (.tmp 44) (.tmp 47) 27 rfl w0.heap.size 40 iU (.int .u64 0) 1 8 Tryz.underlying27 hiU hzU0 hzU1 hzU2 rfl (by decide) (.slice A1 n c1) n us1 (by simp [Act.eval]) (row_ext HR1.out xv) ⟨W8.heap.size+1,0,none⟩ 1 1 [.int .u64 (t:Int)] (by simp [Act.eval]) rfl (by exact row_new_at _ _ _ (by simp)) (fun u hu=>by rw [List.mem_singleton.1 hu];rfl) (by unfold maxLen;omega) (by omega) (Qx HX8.out.size (Ext.size (a:=W8) xv)) ?_
      intro v7 w7 hown7 hgrow7 hat7;have HG7:=Qq hgrow7;have HP7:=Qq (show ∃W,Ext W8 W/\W.grownBy w7 (Value.slice A1 n c1).ownBlock/\(v7.ownBlock=(Value.slice A1 n c1).ownBlock\/v7.ownBlock=some W.heap.size)from⟨_,xv,hgrow7,by first|exact hat7|exact hat7.imp_right fun h=>by rw [h];simp⟩);have HO7:=Qq hown7;have HBK:=Qq (show ∀k,k < W8.heap.size->(Value.slice A1 n c1).ownBlock≠some k->w7.heap[k]?=W8.heap[k]? from fun k hk hne=>by
       obtain⟨W,hx,hg,_⟩:=HP7.out;exact(hg.block k (Qy hk hx.size) (fun e=>hne e.symm)).trans (hx.block hk))
      have HX7:=Qq (show Ext w0 w7 from by
       obtain⟨W,hx,hg,_⟩:=HP7.out;exact(HX8.out.trans hx).grown hg (fun k hk=>(HR1.out.lt k hk).1))
      have hs7:W8.heap.size<=w7.heap.size:=by
       obtain⟨W,hx,hg,_⟩:=HP7.out;exact Qx hx.size hg.size
      have HB7:=Qq ((HBK.out xb zl (fun e=>(HD.out.1 xb e).1 rfl)).trans HB8.out);obtain⟨⟨_,y71,y72⟩,yf7,yl7⟩:=cells3z HB7.out;have YF7:=Qq yf7;have HR7:=Qq (row_keep (w':=w7) HR2.out fun k hk=>HBK.out k (HR2.out.lt k hk).2 (fun e=>HD.out.2.2 k e hk));obtain⟨A7,c7,hv7⟩:=slice_of_row hown7;subst hv7;clear hown7 hgrow7 hat7 yf7;refine hK.out _ _ y72 (fun hHeld=> ?_);clear hK K;refine Qb ?_;refine utk 11 hHeld ?_;refine ordU_ready (rs:= [10]) (by kernel_rfl) (by simp) ?_;refine AllU.cons rfl (fun K hK=> ?_) AllU.nil;refine step_append_at rfl (.tmp 50) (.tmp 52) 28 rfl w0.heap.size 3 iI (.int .i64 0) 1 8 Tryz.underlying28 hiI hzI0 hzI1 hzI2 rfl (by decide) (.slice A2 n c2) n us2 (by simp [Act.eval]) (row_ext HR7.out xv) ⟨W8.heap.size,0,none⟩ 1 1 [.int .i64 z] (by simp [Act.eval]) rfl (by exact row_in (HG7.out.block (W8.heap.size) (by simp <;> omega) (fun e=>by have:=(HR1.out.lt _ e.symm).2;omega)) (fun j u hj=>((Qz.alloc _).cell (by rw [block_of_add];simp)).trans (row_new_at _ _ _ (by simp) j u hj))) (fun u hu=>by rw [List.mem_singleton.1 hu];rfl) (by unfold maxLen;omega) (by omega) (Qx HX7.out.size (Ext.size (a:=w7) xv)) ?_
      intro v9 w9 hown9 hgrow9 hat9;have HP9:=Qq (show ∃W,Ext w7 W/\W.grownBy w9 (Value.slice A2 n c2).ownBlock/\(v9.ownBlock=(Value.slice A2 n c2).ownBlock\/v9.ownBlock=some W.heap.size)from⟨_,xv,hgrow9,by first|exact hat9|exact hat9.imp_right fun h=>by rw [h];simp⟩);have HO9:=Qq hown9;have HB9:=Qq (show w9.heap[xb]?=some (.cells #[.int .i64 lg,.slice A1 n c1,.slice A2 n c2] 30 (0,0))from by
       obtain⟨W,hx,hg,_⟩:=HP9.out;exact((hg.block xb (Qy yl7 hx.size) (fun e=>(HD.out.2.1 xb e.symm).1 rfl)).trans (hx.block yl7)).trans HB7.out)
      obtain⟨A9,c9,hv9⟩:=slice_of_row hown9;subst hv9;obtain⟨⟨_,y91,y92⟩,yf9,yl9⟩:=cells3z HB9.out;have yf91:=yf9.2.1;have HB12:=Qq (show(w9.setCell ⟨xb,1,none⟩ (.slice A7 (n+1) c7)).heap[xb]?=some (.cells #[.int .i64 lg,.slice A7 (n+1) c7,.slice A2 n c2] 30 (0,0)) by
       simp only [World.setCell,Array.getElem?_modify,HB9.out,if_true,Option.map_some]
       simp)
      obtain⟨⟨_,q1,q2⟩,qf,ql⟩:=cells3z HB12.out;have qf2:=qf.2.2;have HTK:=Qq (show RdI w0 ((w9.setCell ⟨xb,1,none⟩ (.slice A7 (n+1) c7)).setCell ⟨xb,2,none⟩ (.slice A9 (n+1) c9)) g m cap xb rb lg (s3.1.set t false,s3.2++ [(t,z)])from by
       obtain⟨W6,hx6,hg7,ha7⟩:=HP7.out;obtain⟨W9,hx9,hg9,ha9⟩:=HP9.out;exact HI8.out.take HB8.out HN8.out ⟨_,HR1.out⟩ ⟨_,HR2.out⟩ HD.out.1 HD.out.2.1 HD.out.2.2 hx6 hg7 HO7.out ha7 hx9 hg9 HO9.out ha9)
      clear hown9 hgrow9 hat9 yf9 qf;refine hK.out _ _ y92 (fun hHeld=> ?_);clear hK K;refine Qb ?_;refine ordU_ready (rs:= [12]) (by kernel_rfl) (by simp) ?_;refine AllU.cons rfl (fun K hK=> ?_) AllU.nil;go_simp;refine hK.out _ _ q2 (fun hHeld=> ?_);clear hK K;refine Qb ?_;refine utk 13 hHeld ?_;refine ordU_last (by kernel_rfl) rfl (fun K hK=> ?_);go_simp;refine hK.out _ _ ?_;clear hK K;refine Qb ?_;refine ordU_done (by kernel_rfl) ?_ _;go_wp2_with fail;go_roundw
      case rel=>exact⟨true,rfl,z+1,rfl,by omega,by omega,Qq ⟨_,HTK.out,.inr ⟨HST.out.symm,rfl,by
       rw [Qk,List.getElem?_set];simp only [if_true]
       split <;> rfl,by rw [List.length_append];exact Nat.lt_succ_self _⟩⟩⟩
      case measure=>simp [intOf];omega
     obtain rfl:(base.length:Int)=z:=by omega
     have HSX:=Qq (show s3=stepG why s2 t/\(fl'=true↔s1.2.length < s3.2.length)from by
      rcases HCASE.out with⟨e1,e2,h⟩|⟨e1,e2,_,h4⟩
      ·subst e1 e2;refine⟨?_,HFL.out⟩;unfold stepG;cases hc:s3.1.getD t false
       ·rfl
       rw [HWHY.out,why_miss (fun j h1 h2=>h hc j h1 h2)];rfl
      refine⟨e1,fun _=> ?_,fun _=>e2⟩;have h5:=(pass_cnt (why:=why) (List.range t) s1).2;rw [<-HS2.out]at h5
      omega)
     go_wp2_with fail;go_roundw
     case rel=>exact⟨t+1,by go_num,by omega,fl',rfl,Qq (by rw [HNX.out,<-HSX.out.1];exact⟨HI3.out,HSX.out.2⟩)⟩
     case measure=>simp [intOf];omega
   obtain rfl:m=t:=by omega
   go_wp2_with fail
   (try simp only [Exit.noGoto_normal])
   have HPN:=Qq (pass_none (why:=why) (List.range m) s1);have HCN:=Qq (pass_cnt (why:=why) (List.range m) s1);have hcn2:cnt s2.1+s2.2.length<=m:=by rw [HS2.out];have h1:=HCN.out.1;have h2:=HCN1.out;omega
   have HCW2:=Qq (cntW_row HI2.out.row HI2.out.len);go_roundw
   case rel =>
    refine⟨fl,rfl,Qq ⟨s2,HI2.out,hcn2,fun hfl=> ?_,fun hfl=> ?_⟩⟩
    ·obtain⟨k,hk,he⟩:=HFT.out (by trivial);have hlt3:=HFL.out.1 hfl;cases k with
     |zero=>omega
     |succ k =>
      refine⟨k,?_,?_⟩
      ·have h1:=HCN.out.1;rw [<-HS2.out]at h1;omega
      rw [<-he];rw [elim_succ];rw [HI1.out.len,<-HS2.out];have:(s2.2.length==s1.2.length)=false:=by
       rw [beq_eq_false_iff_ne];omega
      rw [this];rfl
    obtain⟨k,hk,he⟩:=HFT.out (by trivial);have hge:¬s1.2.length < s2.2.length:=fun h=>by rw [HFL.out.2 h]at hfl;cases hfl
    have h6:=HCN.out.2;rw [<-HS2.out]at h6;have h5:=(HPN.out (by rw [<-HS2.out];omega)).1;rw [<-HS2.out]at h5;rw [h5];cases k with
    |zero=>omega
    |succ k =>
     rw [<-he];rw [elim_succ];rw [HI1.out.len,<-HS2.out];have:(s2.2.length==s1.2.length)=true:=by
      rw [beq_iff_eq];omega
     rw [this];rfl
   case measure =>
    have h3:=HFL.out;have h4:=HCN.out.1;have h7:=HCN.out.2;rw [<-HS2.out]at h4 h7;have h5:=HCW2.out;have h6:=HCW.out;cases fl
    ·show 2*cntW wr g m+0 < 2*cntW wp g m+1;omega
    show 2*cntW wr g m+1 < 2*cntW wp g m+1;have:=h3.1 rfl;omega
end Go.Proofs.YtbfeodammikajaaGreat
