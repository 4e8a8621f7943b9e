/- types' expand: the walk. -/
import Derived.Test.YtkmclcmnoicagaaGreatDoorT35
namespace Go.Proofs.YtkmclcmnoicagaaGreatDoor
set_option maxRecDepth 100000
set_option maxHeartbeats 128000000
open Go.RowKit
theorem Ht(v:Value)(f:List Nd)(w:World)(h:Fml w v f)(hc:check f=0)(hl:∀n∈Qg f,(1<=n.op/\n.op<=11)\/n.op=13):
 Calls Tryz.prog 56 #[v] w fun e w'=>∃u,e=.returned u/\Fml w' u (Jd f)/\Ext w w':=by
 have H:=Qq h;obtain⟨iI,hiI,hzI0,hzI1,hzI2⟩:=info_parts Qvp;obtain⟨A,c,rfl,_⟩:=Qa h;obtain⟨hwf,hlen0,hpos,hheads⟩:=Jf hc;have hl200:(Qg f).length<=200:=Qx hlen0 (Zm hc).2.1;obtain⟨cl,hcl⟩:∃b,b=Qg f:=⟨_,rfl⟩;rw [<-hcl]at hwf hpos hheads hl200 hl;have HCL:=Qq hcl;have HWF:=Qq hwf;have HHD:=Qq hheads;have HLG:=Qq hl;clear h hc hwf hlen0 hheads hcl hl;go_enter Tryz.func56,Tryz.ntmps56;go_wp2_with fail;refine(Uv _ f _ H.out).mono ?_;rintro e w0 ⟨uc,rfl,hm0⟩;rw [<-HCL.out]at hm0;have HM0:=Qq hm0;obtain⟨Ac,cc,rfl,hcap,hmax,hread⟩:=Qa hm0.fml;obtain⟨ad,rfl,hblk,hcells⟩:=hread (by intro e;rw [e]at hpos;simp at hpos)
 have HCELLS:=Qq hcells;unfold maxLen at hmax;clear hm0 hread hcells;go_wp2_with fail;go_loopw [3,14] (fun vo vi wr=>∃k:Nat,vi=.int .i64 (k:Int)/\k<=cl.length/\Hid (∃out,Gy (cl.take k) []=some out/\out.length=k/\Vy w0 wr vo out)) (fun _ v _=>cl.length - (intOf v).toNat)
 case atStart=>exact⟨0,rfl,Nat.zero_le _,Qq ⟨[],rfl,rfl,Vy.nil _⟩⟩
 case round =>
  obtain⟨k,rfl,hk,HREL⟩:=hrel;obtain⟨out,ho,hok,hfr⟩:=HREL.out;obtain⟨us,hrow,hus⟩:=hfr.row;obtain⟨Ao,co,rfl⟩:=Qt hrow;have HO:=Qq ho;have HOK:=Qq hok;have HFR:=Qq hfr;have HROW:=Qq hrow;have HUS:=Qq hus;have hol:out.length<=1000:=by omega
  clear HREL ho hfr hrow hus hok;by_cases hlt2:k < cl.length
  ·have hk1:(k:Int) < (cl.length:Int):=by omega
   obtain⟨n,hn⟩:∃n,cl[k]?=some n:=⟨_,Qv hlt2⟩;obtain⟨c0,c1,c2,c3,c4,c5⟩:=(HCELLS.out k n hn).keep fun p hp=>HFR.out.ext.cell (p:=p) (by rw [hp,Qp];exact hblk)
   have hblk2:(ad.add (k*6)).block < wr.heap.size:=by rw [Qp];exact Qy hblk HFR.out.ext.size
   have HN:=Qq hn;have hop:=HLG.out n (List.mem_of_getElem? hn);have HHN:=Qq (HHD.out n (List.mem_of_getElem? hn));have HXY:=Qq (HWF.out k n hn);have HNO:=Qq (show n.ok from HM0.out.2.1 n (List.mem_of_getElem? hn));clear hn;obtain⟨wq,hwq⟩:∃v,v=wr:=⟨_,rfl⟩;subst hwq;have hcx:(n.op=1\/n.op=2\/n.op=3)\/(n.op=4\/n.op=9\/n.op=10\/n.op=11)\/(n.op=5\/n.op=6\/n.op=7\/n.op=8\/n.op=13):=by omega
   rcases hcx with hop|hop|hop
   ·have hop4:n.op < 4:=by omega
    have HW0:=Qq (show(wq.alloc (.cells #[.int .i64 n.op,.int .i64 n.i,.int .i64 n.e,.int .i64 n.g,.int .i64 n.x,.int .i64 n.y] 71)).heap[wq.heap.size]?=some (.cells #[.int .i64 n.op,.int .i64 n.i,.int .i64 n.e,.int .i64 n.g,.int .i64 n.x,.int .i64 n.y] 71 (0,0))from heap_alloc_new _ _);obtain⟨⟨d0,d1,d2,d3,d4,d5⟩,dfr,dlt⟩:=Yx HW0.out;go_upto_block 2 with(fail);go_cut [8] (fun s8 wx=>Hid (Jl wq wx s8 (Js n (out.getD n.x.toNat []) (out.getD n.y.toNat []))))
    case first =>
     rcases hop with hop|hop|hop
     ·have HS:=Qq (show Js n (out.getD n.x.toNat []) (out.getD n.y.toNat [])=Sf by unfold Js;rw [hop];rfl);have t1:(n.op==1)=true:=by rw [hop];rfl
      have t2:(n.op==2)=false:=by rw [hop];rfl
      have t3:(n.op==3)=false:=by rw [hop];rfl
      have t4:(n.op==4)=false:=by rw [hop];rfl
      have t9:(n.op==9)=false:=by rw [hop];rfl
      have t10:(n.op==10)=false:=by rw [hop];rfl
      have t11:(n.op==11)=false:=by rw [hop];rfl
      have t5:(n.op==5)=false:=by rw [hop];rfl
      have t6:(n.op==6)=false:=by rw [hop];rfl
      have t7:(n.op==7)=false:=by rw [hop];rfl
      have t8:(n.op==8)=false:=by rw [hop];rfl
      clear hop;go_wp2_with fail;refine(Qf3 _).mono ?_;rintro e w2 ⟨u,rfl,hm⟩;have HM:=Qq (hm.before (Qz.alloc _));clear hm;go_wp2_with fail;go_meet;exact Qq (by rw [HS.out];exact HM.out)
     ·have HS:=Qq (show Js n (out.getD n.x.toNat []) (out.getD n.y.toNat [])=Tp by unfold Js;rw [hop];rfl);have t1:(n.op==1)=false:=by rw [hop];rfl
      have t2:(n.op==2)=true:=by rw [hop];rfl
      have t3:(n.op==3)=false:=by rw [hop];rfl
      have t4:(n.op==4)=false:=by rw [hop];rfl
      have t9:(n.op==9)=false:=by rw [hop];rfl
      have t10:(n.op==10)=false:=by rw [hop];rfl
      have t11:(n.op==11)=false:=by rw [hop];rfl
      have t5:(n.op==5)=false:=by rw [hop];rfl
      have t6:(n.op==6)=false:=by rw [hop];rfl
      have t7:(n.op==7)=false:=by rw [hop];rfl
      have t8:(n.op==8)=false:=by rw [hop];rfl
      clear hop;go_wp2_with fail;refine(Qti _).mono ?_;rintro e w2 ⟨u,rfl,hm⟩;have HM:=Qq (hm.before (Qz.alloc _));clear hm;go_wp2_with fail;go_meet;exact Qq (by rw [HS.out];exact HM.out)
     have HS:=Qq (show Js n (out.getD n.x.toNat []) (out.getD n.y.toNat [])=Ur n.i by unfold Js;rw [hop];rfl);have t1:(n.op==1)=false:=by rw [hop];rfl
     have t2:(n.op==2)=false:=by rw [hop];rfl
     have t3:(n.op==3)=true:=by rw [hop];rfl
     have t4:(n.op==4)=false:=by rw [hop];rfl
     have t9:(n.op==9)=false:=by rw [hop];rfl
     have t10:(n.op==10)=false:=by rw [hop];rfl
     have t11:(n.op==11)=false:=by rw [hop];rfl
     have t5:(n.op==5)=false:=by rw [hop];rfl
     have t6:(n.op==6)=false:=by rw [hop];rfl
     have t7:(n.op==7)=false:=by rw [hop];rfl
     have t8:(n.op==8)=false:=by rw [hop];rfl
     clear hop;go_wp2_with fail;refine(Qp2 n.i HNO.out.2.1 _).mono ?_;rintro e w2 ⟨u,rfl,hm⟩;have HM:=Qq (hm.before (Qz.alloc _));clear hm;go_wp2_with fail;go_meet;exact Qq (by rw [HS.out];exact HM.out)
    case rest =>
     have HG:=hcut;clear hcut;obtain⟨As8,cs8,rfl,_⟩:=Qa HG.out.fml;have HX8:=Qq HG.out.ext;by_cases hz:(Js n (out.getD n.x.toNat []) (out.getD n.y.toNat [])).length=0
     ·have HE:=Qq (show Jd f= [] by
       unfold Jd;rw [<-HCL.out,Lg (k:=k+1) (by rw [Fc HN.out HO.out,decide_eq_true hz];rfl)])
      have hzb:(((Js n (out.getD n.x.toNat []) (out.getD n.y.toNat [])).length:Int)==0)=true:=by rw [hz];rfl
      generalize (Js n (out.getD n.x.toNat []) (out.getD n.y.toNat [])).length=m8 at hz hzb;clear hz;go_wp2_with fail;go_ret;exact⟨_,rfl,by rw [HE.out];exact St _,HM0.out.ext.trans (HFR.out.ext.trans HX8.out)⟩
     have hzb:(((Js n (out.getD n.x.toNat []) (out.getD n.y.toNat [])).length:Int)==0)=false:=by rw [beq_eq_false_iff_ne];omega
     have HSTEP:=Qq (show Gy (cl.take (k+1)) []=some (out++ [Js n (out.getD n.x.toNat []) (out.getD n.y.toNat [])]) by rw [Fc HN.out HO.out,decide_eq_false hz];rfl);clear hz;generalize Js n (out.getD n.x.toNat []) (out.getD n.y.toNat [])=g8 at HG hzb HSTEP;have hc3:out.length+1<=maxLen:=by unfold maxLen;omega
     have hc4:(out.length+1)*24<=140737488355328:=by omega
     go_wp2_with(at_builtin;refine wpList_append_own_at _ rfl _ _ 32 rfl w0.heap.size 22 iI (.slice none 0 0) 1 24 Tryz.underlying32 hiI hzI0 hzI1 hzI2 rfl (by decide) _ out.length us rfl (Zf HROW.out (HX8.out.alloc _)) ⟨_,0,none⟩ 1 1 [.slice As8 g8.length cs8] rfl rfl (Jq _ _ _ (by simp)) (fun u hu=>by rw [List.mem_singleton.1 hu];rfl) hc3 hc4 (Qx HFR.out.ext.size (HX8.out.alloc _).size) ?_);intro v7 w7 hown7 hgrow7 _ hat7;have HPS:=Qq (Vy.push (s:=g8) ((HFR.out.ext.trans HX8.out).alloc _) (Zf HROW.out (HX8.out.alloc _)) (fun k s hk=>by
      obtain⟨u,a,b,c⟩:=HUS.out k s hk;exact⟨u,a,b.ext (HX8.out.alloc _),c.ext (HX8.out.alloc _)⟩) hown7 hgrow7 (hat7.imp id (fun e=>e.trans (by simp))) (HG.out.fml.ext (Qz.alloc _)) (Rd (Nat.le_refl _) (Zf HG.out.1 (Qz.alloc _)) HROW.out HFR.out.ext.size))
     obtain⟨A7,c7,rfl⟩:=Qt hown7;clear hown7 hgrow7 hat7;go_wp2_with fail;go_roundw
     case rel=>exact⟨k+1,by go_num,by omega,Qq ⟨_,HSTEP.out,by rw [List.length_append,HOK.out];rfl,HPS.out⟩⟩
     case measure=>simp [intOf];omega
   ·have hop4:4<=n.op:=by omega
    have hX:0<=n.x/\n.x < k:=HXY.out.1 (by rcases hop with e|e|e|e <;> rw [e] <;> rfl);obtain⟨g0,cap0,hsl,hs1,hs2⟩:=HFR.out.slice (by rw [HOK.out];omega);injection hsl with hsl1 _ hsl2;subst hsl1 hsl2;unfold maxLen at hs2;obtain⟨j,hj⟩:=Int.eq_ofNat_of_zero_le hX.1;obtain⟨sx,hsx⟩:∃s,out[j]?=some s:=⟨_,List.getElem?_eq_getElem (by rw [HOK.out];omega)⟩;obtain⟨ux,hux,hfx,hgl⟩:=HFR.out.get hsx;have HSX:=Qq (show out.getD n.x.toNat []=sx by rw [hj,Int.toNat_natCast,Qk,hsx];rfl);have HFX:=Qq hfx;obtain⟨Ax,cx,rfl,_⟩:=Qa hfx;have hjl:(j:Int) < (out.length:Int):=by rw [HOK.out];omega
    have HXV:=Qq hj;have c4':wq.cell? ⟨(ad.add (k*6)).block,(ad.add (k*6)).off+4,none⟩=some (.int .i64 (j:Int)):=by rw [c4,hj]
    rw [hj]at c4;clear hsx hfx hX hj c4';have HW0:=Qq (show(wq.alloc (.cells #[.int .i64 n.op,.int .i64 n.i,.int .i64 n.e,.int .i64 n.g,.int .i64 (j:Int),.int .i64 n.y] 71)).heap[wq.heap.size]?=some (.cells #[.int .i64 n.op,.int .i64 n.i,.int .i64 n.e,.int .i64 n.g,.int .i64 (j:Int),.int .i64 n.y] 71 (0,0))from heap_alloc_new _ _);obtain⟨⟨d0,d1,d2,d3,d4,d5⟩,dfr,dlt⟩:=Yx HW0.out;go_upto_block 2 with(fail);go_cut [8] (fun s8 wx=>Hid (Jl wq wx s8 (Js n (out.getD n.x.toNat []) (out.getD n.y.toNat []))))
    case first =>
     rcases hop with hop|hop|hop|hop
     ·have HS:=Qq (show Js n (out.getD n.x.toNat []) (out.getD n.y.toNat [])=Jp (out.getD n.x.toNat []) by unfold Js;rw [hop];rfl);have t1:(n.op==1)=false:=by rw [hop];rfl
      have t2:(n.op==2)=false:=by rw [hop];rfl
      have t3:(n.op==3)=false:=by rw [hop];rfl
      have t4:(n.op==4)=true:=by rw [hop];rfl
      have t9:(n.op==9)=false:=by rw [hop];rfl
      have t10:(n.op==10)=false:=by rw [hop];rfl
      have t11:(n.op==11)=false:=by rw [hop];rfl
      have t5:(n.op==5)=false:=by rw [hop];rfl
      have t6:(n.op==6)=false:=by rw [hop];rfl
      have t7:(n.op==7)=false:=by rw [hop];rfl
      have t8:(n.op==8)=false:=by rw [hop];rfl
      clear hop;go_wp2_with fail;refine(Qvr _ sx _ (HFX.out.ext (Qz.alloc _))).mono ?_;rintro e w2 ⟨u,rfl,hm⟩;have HM:=Qq (hm.before (Qz.alloc _));clear hm;go_wp2_with fail;go_meet;exact Qq (by rw [HS.out,HSX.out];exact HM.out)
     ·have HS:=Qq (show Js n (out.getD n.x.toNat []) (out.getD n.y.toNat [])=Ki n.i (out.getD n.x.toNat []) by unfold Js;rw [hop];rfl);have t1:(n.op==1)=false:=by rw [hop];rfl
      have t2:(n.op==2)=false:=by rw [hop];rfl
      have t3:(n.op==3)=false:=by rw [hop];rfl
      have t4:(n.op==4)=false:=by rw [hop];rfl
      have t9:(n.op==9)=true:=by rw [hop];rfl
      have t10:(n.op==10)=false:=by rw [hop];rfl
      have t11:(n.op==11)=false:=by rw [hop];rfl
      have t5:(n.op==5)=false:=by rw [hop];rfl
      have t6:(n.op==6)=false:=by rw [hop];rfl
      have t7:(n.op==7)=false:=by rw [hop];rfl
      have t8:(n.op==8)=false:=by rw [hop];rfl
      clear hop;go_wp2_with fail;refine(Ag n.i HNO.out.2.1 _ sx _ (HFX.out.ext (Qz.alloc _))).mono ?_;rintro e w2 ⟨u,rfl,hm⟩;have HM:=Qq (hm.before (Qz.alloc _));clear hm;go_wp2_with fail;go_meet;exact Qq (by rw [HS.out,HSX.out];exact HM.out)
     ·have HS:=Qq (show Js n (out.getD n.x.toNat []) (out.getD n.y.toNat [])=Jp (Ki n.i (Jp (out.getD n.x.toNat []))) by unfold Js;rw [hop];rfl);have t1:(n.op==1)=false:=by rw [hop];rfl
      have t2:(n.op==2)=false:=by rw [hop];rfl
      have t3:(n.op==3)=false:=by rw [hop];rfl
      have t4:(n.op==4)=false:=by rw [hop];rfl
      have t9:(n.op==9)=false:=by rw [hop];rfl
      have t10:(n.op==10)=true:=by rw [hop];rfl
      have t11:(n.op==11)=false:=by rw [hop];rfl
      have t5:(n.op==5)=false:=by rw [hop];rfl
      have t6:(n.op==6)=false:=by rw [hop];rfl
      have t7:(n.op==7)=false:=by rw [hop];rfl
      have t8:(n.op==8)=false:=by rw [hop];rfl
      clear hop;go_upto_region 31 with(fail);have hxw:Ext wq (wq.alloc (.cells #[.int .i64 n.op,.int .i64 n.i,.int .i64 n.e,.int .i64 n.g,.int .i64 (j:Int),.int .i64 n.y] 71)):=Qz.alloc _;have HNS:=Qq (HFX.out.ext hxw);obtain⟨W0,hW0⟩:∃v,v=wq.alloc (.cells #[.int .i64 n.op,.int .i64 n.i,.int .i64 n.e,.int .i64 n.g,.int .i64 (j:Int),.int .i64 n.y] 71):=⟨_,rfl⟩;rw [<-hW0]at d1 dlt hxw HNS⊢;clear hW0 d0 d2 d3 d4 d5 c0 c1 c2 c3 c4 c5 dfr HW0;refine wp_region_held_drew (S:=fun w'=>w'.cell? (⟨wq.heap.size,1,none⟩)=some (.int .i64 n.i)) (by kernel_rfl) (xc dlt d1) (fun hHeld=> ?_);refine tk 0 hHeld ?_;refine tk 1 hHeld ?_
      refine tk 2 hHeld ?_;refine wpAnyH_ready (rs:= [3]) (by kernel_rfl) (by simp) ?_;refine AllReadyH.cons rfl (fun K hK=> ?_) AllReadyH.nil;go_simp;refine(Qvr _ sx _ (HNS.out.ext xw)).mono ?_;rintro e w2 ⟨u2,rfl,hm2⟩;have hx2:Ext W0 w2:=Ext.trans xw hm2.ext;have HM2:=Qq (hm2.before (w0:=W0) xw);clear hm2;go_wp2_with fail;refine hK.out _ _ (xc dlt d1) (fun hHeld=> ?_);clear hK K;refine Qd ?_;refine wpAnyH_ready (rs:= [4]) (by kernel_rfl) (by simp) ?_;refine AllReadyH.cons rfl (fun K hK=> ?_) AllReadyH.nil;go_simp;refine(Ag n.i HNO.out.2.1 _ _ _ (HM2.out.fml.ext xw)).mono ?_;rintro e w3 ⟨u3,rfl,hm3⟩
      have hx3:Ext W0 w3:=Ext.trans xw hm3.ext;have HM3:=Qq (hm3.before (w0:=W0) xw);clear hm3;go_wp2_with fail;refine hK.out _ _ (xc dlt d1) (fun hHeld=> ?_);clear hK K;refine Qd ?_;refine wpAnyH_ready (rs:= [5]) (by kernel_rfl) (by simp) ?_;refine AllReadyH.cons rfl (fun K hK=> ?_) AllReadyH.nil;go_simp;refine(Qvr _ _ _ (HM3.out.fml.ext xw)).mono ?_;rintro e w4 ⟨u4,rfl,hm4⟩;have hx4:Ext W0 w4:=Ext.trans xw hm4.ext;have HM4:=Qq (hm4.before (w0:=W0) xw);clear hm4;go_wp2_with fail;refine hK.out _ _ (xc dlt d1) (fun hHeld=> ?_);clear hK K;refine Qd ?_;refine tk 6 hHeld ?_;refine wpAnyH_done (by kernel_rfl) ?_ _
      go_wp2_with fail;go_meet;exact Qq (by rw [HS.out,HSX.out];exact HM4.out.before hxw)
     have HS:=Qq (show Js n (out.getD n.x.toNat []) (out.getD n.y.toNat [])=Qzn (Cd n.g (out.getD n.x.toNat [])) by unfold Js;rw [hop];rfl);have t1:(n.op==1)=false:=by rw [hop];rfl
     have t2:(n.op==2)=false:=by rw [hop];rfl
     have t3:(n.op==3)=false:=by rw [hop];rfl
     have t4:(n.op==4)=false:=by rw [hop];rfl
     have t9:(n.op==9)=false:=by rw [hop];rfl
     have t10:(n.op==10)=false:=by rw [hop];rfl
     have t11:(n.op==11)=true:=by rw [hop];rfl
     have t5:(n.op==5)=false:=by rw [hop];rfl
     have t6:(n.op==6)=false:=by rw [hop];rfl
     have t7:(n.op==7)=false:=by rw [hop];rfl
     have t8:(n.op==8)=false:=by rw [hop];rfl
     have hxw:Ext wq (wq.alloc (.cells #[.int .i64 n.op,.int .i64 n.i,.int .i64 n.e,.int .i64 n.g,.int .i64 (j:Int),.int .i64 n.y] 71)):=Qz.alloc _;have HNS:=Qq (HFX.out.ext hxw);have hgr:=Qz3 HHN.out (.inl hop);obtain⟨gn,hgn⟩:=Int.eq_ofNat_of_zero_le hgr.1;have hg16:gn < 16:=by omega
     have HGN:=Qq hgn;obtain⟨W0,hW0⟩:∃v,v=wq.alloc (.cells #[.int .i64 n.op,.int .i64 n.i,.int .i64 n.e,.int .i64 n.g,.int .i64 (j:Int),.int .i64 n.y] 71):=⟨_,rfl⟩;rw [<-hW0]at d0 d1 d2 d3 d4 d5 dlt dfr hxw HNS HW0⊢;have d3':W0.cell? ⟨wq.heap.size,3,none⟩=some (.int .i64 (gn:Int)):=by rw [d3,hgn]
     clear hW0 hgr hgn hop d1 d2 d3 d4 d5 c0 c1 c2 c3 c4 c5 dfr HW0;have D3:=Qq d3';clear d3';go_wp2_with fail;go_loopw [9,91] (fun vo vi wr=>∃q:Nat,vi=.int .i64 (q:Int)/\q<=4/\Hid (∃ol,ol=((List.range q).filter fun i=>Yl (gn:Int) i).map (fun(i:Nat)=>Ki (i:Int) sx)/\Vy W0 wr vo ol)) (fun _ v _=>4 - (intOf v).toNat)
     case atStart=>exact⟨0,rfl,Nat.zero_le _,Qq ⟨[],rfl,Vy.nil _⟩⟩
     case round =>
      obtain⟨q,rfl,hq,HREL⟩:=hrel;obtain⟨ol,hol',hfr⟩:=HREL.out;obtain⟨us2,hrow2,hus2⟩:=hfr.row;obtain⟨Ao2,co2,rfl⟩:=Qt hrow2;have HOL:=Qq hol';have HFR2:=Qq hfr;have HROW2:=Qq hrow2;have HUS2:=Qq hus2;have holen:ol.length<=4:=by rw [hol'];refine Qx (by rw [List.length_map];exact List.length_filter_le _ _) (by simp;omega)
      clear HREL hol' hfr hrow2 hus2;have dl3:=(HFR2.out.ext.cell (p:=⟨wq.heap.size,3,none⟩) dlt).trans D3.out;have hdlt:wq.heap.size < wr.heap.size:=Qy dlt HFR2.out.ext.size;by_cases hq4:q < 4
      ·have hq1:(q:Int) < 4:=by omega
       have hbt:=Lj gn q (by omega);cases hgb:gn.testBit q
       case true =>
        rw [hgb]at hbt;have HGB:=Qq (show((List.range (q+1)).filter fun i=>Yl (gn:Int) i).map (fun(i:Nat)=>Ki (i:Int) sx)=ol++ [Ki (q:Int) sx] by rw [List.range_succ,List.filter_append,List.map_append,<-HOL.out,List.filter_cons,show Yl (gn:Int) q=true from hgb];rfl);clear hgb;go_wp2_with fail;refine(Ag (q:Int) ⟨by omega,by omega⟩ _ sx _ (HNS.out.ext HFR2.out.ext)).mono ?_;rintro e w2 ⟨u,rfl,hm⟩;have HM:=Qq hm;have Y1:=Qq hm.ext;obtain⟨Au,cu,rfl,_⟩:=Qa hm.fml;clear hm;have hc3:ol.length+1<=maxLen:=by unfold maxLen;omega
        have hc4:(ol.length+1)*24<=140737488355328:=by omega
        go_wp2_with(at_builtin;refine wpList_append_own_at _ rfl _ _ 32 rfl W0.heap.size 22 iI (.slice none 0 0) 1 24 Tryz.underlying32 hiI hzI0 hzI1 hzI2 rfl (by decide) _ ol.length us2 rfl (Zf HROW2.out (Y1.out.alloc _)) ⟨_,0,none⟩ 1 1 [.slice Au (Ki (q:Int) sx).length cu] rfl rfl (Jq _ _ _ (by simp)) (fun u hu=>by rw [List.mem_singleton.1 hu];rfl) hc3 hc4 (Qx HFR2.out.ext.size (Y1.out.alloc _).size) ?_);intro v7 w7 hown7 hgrow7 _ hat7;have HPS:=Qq (Vy.push (s:=Ki (q:Int) sx) ((HFR2.out.ext.trans Y1.out).alloc _) (Zf HROW2.out (Y1.out.alloc _)) (fun k s hk=>by
         obtain⟨u,a,b,c⟩:=HUS2.out k s hk;exact⟨u,a,b.ext (Y1.out.alloc _),c.ext (Y1.out.alloc _)⟩) hown7 hgrow7 (hat7.imp id (fun e=>e.trans (by simp))) (HM.out.fml.ext (Qz.alloc _)) (Rd (Nat.le_refl _) (Zf HM.out.1 (Qz.alloc _)) HROW2.out HFR2.out.ext.size))
        obtain⟨A7,c7,rfl⟩:=Qt hown7;clear hown7 hgrow7 hat7;go_wp2_with fail;go_roundw
        case rel=>exact⟨q+1,by go_num,by omega,Qq ⟨_,HGB.out.symm,HPS.out⟩⟩
        case measure=>simp [intOf];omega
       case false =>
        rw [hgb]at hbt;have HGB:=Qq (show((List.range (q+1)).filter fun i=>Yl (gn:Int) i).map (fun(i:Nat)=>Ki (i:Int) sx)=ol by rw [List.range_succ,List.filter_append,List.map_append,<-HOL.out,List.filter_cons,show Yl (gn:Int) q=false from hgb];exact List.append_nil _);clear hgb;go_wp2_with fail;go_roundw
        case rel=>exact⟨q+1,by go_num,by omega,Qq ⟨_,HGB.out.symm,HFR2.out⟩⟩
        case measure=>simp [intOf];omega
      obtain rfl:4=q:=by omega
      go_wp2_with fail;refine(Qab _ ol _ HFR2.out.fmls).mono ?_;rintro e w2 ⟨u2,rfl,hm2⟩;have HM2:=Qq hm2;clear hm2;go_wp2_with fail;go_meet;exact Qq (by rw [HS.out,HSX.out,Cd,HGN.out,show((List.range 4).filter fun i=>Yl (gn:Int) i).map (fun(i:Nat)=>Ki (i:Int) sx)=ol from HOL.out.symm];exact HM2.out.before (hxw.trans HFR2.out.ext))
    case rest =>
     have HG:=hcut;clear hcut;obtain⟨As8,cs8,rfl,_⟩:=Qa HG.out.fml;have HX8:=Qq HG.out.ext;by_cases hz:(Js n (out.getD n.x.toNat []) (out.getD n.y.toNat [])).length=0
     ·have HE:=Qq (show Jd f= [] by
       unfold Jd;rw [<-HCL.out,Lg (k:=k+1) (by rw [Fc HN.out HO.out,decide_eq_true hz];rfl)])
      have hzb:(((Js n (out.getD n.x.toNat []) (out.getD n.y.toNat [])).length:Int)==0)=true:=by rw [hz];rfl
      generalize (Js n (out.getD n.x.toNat []) (out.getD n.y.toNat [])).length=m8 at hz hzb;clear hz;go_wp2_with fail;go_ret;exact⟨_,rfl,by rw [HE.out];exact St _,HM0.out.ext.trans (HFR.out.ext.trans HX8.out)⟩
     have hzb:(((Js n (out.getD n.x.toNat []) (out.getD n.y.toNat [])).length:Int)==0)=false:=by rw [beq_eq_false_iff_ne];omega
     have HSTEP:=Qq (show Gy (cl.take (k+1)) []=some (out++ [Js n (out.getD n.x.toNat []) (out.getD n.y.toNat [])]) by rw [Fc HN.out HO.out,decide_eq_false hz];rfl);clear hz;generalize Js n (out.getD n.x.toNat []) (out.getD n.y.toNat [])=g8 at HG hzb HSTEP;have hc3:out.length+1<=maxLen:=by unfold maxLen;omega
     have hc4:(out.length+1)*24<=140737488355328:=by omega
     go_wp2_with(at_builtin;refine wpList_append_own_at _ rfl _ _ 32 rfl w0.heap.size 22 iI (.slice none 0 0) 1 24 Tryz.underlying32 hiI hzI0 hzI1 hzI2 rfl (by decide) _ out.length us rfl (Zf HROW.out (HX8.out.alloc _)) ⟨_,0,none⟩ 1 1 [.slice As8 g8.length cs8] rfl rfl (Jq _ _ _ (by simp)) (fun u hu=>by rw [List.mem_singleton.1 hu];rfl) hc3 hc4 (Qx HFR.out.ext.size (HX8.out.alloc _).size) ?_);intro v7 w7 hown7 hgrow7 _ hat7;have HPS:=Qq (Vy.push (s:=g8) ((HFR.out.ext.trans HX8.out).alloc _) (Zf HROW.out (HX8.out.alloc _)) (fun k s hk=>by
      obtain⟨u,a,b,c⟩:=HUS.out k s hk;exact⟨u,a,b.ext (HX8.out.alloc _),c.ext (HX8.out.alloc _)⟩) hown7 hgrow7 (hat7.imp id (fun e=>e.trans (by simp))) (HG.out.fml.ext (Qz.alloc _)) (Rd (Nat.le_refl _) (Zf HG.out.1 (Qz.alloc _)) HROW.out HFR.out.ext.size))
     obtain⟨A7,c7,rfl⟩:=Qt hown7;clear hown7 hgrow7 hat7;go_wp2_with fail;go_roundw
     case rel=>exact⟨k+1,by go_num,by omega,Qq ⟨_,HSTEP.out,by rw [List.length_append,HOK.out];rfl,HPS.out⟩⟩
     case measure=>simp [intOf];omega
   have hop4:4<=n.op:=by omega
   have hX:0<=n.x/\n.x < k:=HXY.out.1 (by rcases hop with e|e|e|e|e <;> rw [e] <;> rfl);obtain⟨g0,cap0,hsl,hs1,hs2⟩:=HFR.out.slice (by rw [HOK.out];omega);injection hsl with hsl1 _ hsl2;subst hsl1 hsl2;unfold maxLen at hs2;obtain⟨j,hj⟩:=Int.eq_ofNat_of_zero_le hX.1;obtain⟨sx,hsx⟩:∃s,out[j]?=some s:=⟨_,List.getElem?_eq_getElem (by rw [HOK.out];omega)⟩;obtain⟨ux,hux,hfx,hgl⟩:=HFR.out.get hsx;have HSX:=Qq (show out.getD n.x.toNat []=sx by rw [hj,Int.toNat_natCast,Qk,hsx];rfl);have HFX:=Qq hfx;obtain⟨Ax,cx,rfl,_⟩:=Qa hfx;have hjl:(j:Int) < (out.length:Int):=by rw [HOK.out];omega
   have HXV:=Qq hj;have c4':wq.cell? ⟨(ad.add (k*6)).block,(ad.add (k*6)).off+4,none⟩=some (.int .i64 (j:Int)):=by rw [c4,hj]
   have hY:0<=n.y/\n.y < k:=HXY.out.2 (by rcases hop with e|e|e|e|e <;> rw [e] <;> rfl);obtain⟨j2,hj2⟩:=Int.eq_ofNat_of_zero_le hY.1;obtain⟨sy,hsy⟩:∃s,out[j2]?=some s:=⟨_,List.getElem?_eq_getElem (by rw [HOK.out];omega)⟩;obtain⟨uy,huy,hfy,_⟩:=HFR.out.get hsy;have HSY:=Qq (show out.getD n.y.toNat []=sy by rw [hj2,Int.toNat_natCast,Qk,hsy];rfl);have HFY:=Qq hfy;obtain⟨Ay,cy,rfl,_⟩:=Qa hfy;have hjl2:(j2:Int) < (out.length:Int):=by rw [HOK.out];omega
   rw [hj2]at c5;clear hsy hfy hY hj2;rw [hj]at c4;clear hsx hfx hX hj c4';have HW0:=Qq (show(wq.alloc (.cells #[.int .i64 n.op,.int .i64 n.i,.int .i64 n.e,.int .i64 n.g,.int .i64 (j:Int),.int .i64 (j2:Int)] 71)).heap[wq.heap.size]?=some (.cells #[.int .i64 n.op,.int .i64 n.i,.int .i64 n.e,.int .i64 n.g,.int .i64 (j:Int),.int .i64 (j2:Int)] 71 (0,0))from heap_alloc_new _ _);obtain⟨⟨d0,d1,d2,d3,d4,d5⟩,dfr,dlt⟩:=Yx HW0.out;go_upto_block 2 with(fail);go_cut [8] (fun s8 wx=>Hid (Jl wq wx s8 (Js n (out.getD n.x.toNat []) (out.getD n.y.toNat []))))
   case first =>
    rcases hop with hop|hop|hop|hop|hop
    ·have HS:=Qq (show Js n (out.getD n.x.toNat []) (out.getD n.y.toNat [])=Xi (out.getD n.x.toNat []) (out.getD n.y.toNat []) by unfold Js;rw [hop];rfl);have t1:(n.op==1)=false:=by rw [hop];rfl
     have t2:(n.op==2)=false:=by rw [hop];rfl
     have t3:(n.op==3)=false:=by rw [hop];rfl
     have t4:(n.op==4)=false:=by rw [hop];rfl
     have t9:(n.op==9)=false:=by rw [hop];rfl
     have t10:(n.op==10)=false:=by rw [hop];rfl
     have t11:(n.op==11)=false:=by rw [hop];rfl
     have t5:(n.op==5)=true:=by rw [hop];rfl
     have t6:(n.op==6)=false:=by rw [hop];rfl
     have t7:(n.op==7)=false:=by rw [hop];rfl
     have t8:(n.op==8)=false:=by rw [hop];rfl
     clear hop;go_wp2_with fail;refine(Qvj _ _ sx sy _ (HFX.out.ext (Qz.alloc _)) (HFY.out.ext (Qz.alloc _))).mono ?_;rintro e w2 ⟨u,rfl,hm⟩;have HM:=Qq (hm.before (Qz.alloc _));clear hm;go_wp2_with fail;go_meet;exact Qq (by rw [HS.out,HSX.out,HSY.out];exact HM.out)
    ·have HS:=Qq (show Js n (out.getD n.x.toNat []) (out.getD n.y.toNat [])=orN (out.getD n.x.toNat []) (out.getD n.y.toNat []) by unfold Js;rw [hop];rfl);have t1:(n.op==1)=false:=by rw [hop];rfl
     have t2:(n.op==2)=false:=by rw [hop];rfl
     have t3:(n.op==3)=false:=by rw [hop];rfl
     have t4:(n.op==4)=false:=by rw [hop];rfl
     have t9:(n.op==9)=false:=by rw [hop];rfl
     have t10:(n.op==10)=false:=by rw [hop];rfl
     have t11:(n.op==11)=false:=by rw [hop];rfl
     have t5:(n.op==5)=false:=by rw [hop];rfl
     have t6:(n.op==6)=true:=by rw [hop];rfl
     have t7:(n.op==7)=false:=by rw [hop];rfl
     have t8:(n.op==8)=false:=by rw [hop];rfl
     clear hop;go_wp2_with fail;refine(Qig _ _ sx sy _ (HFX.out.ext (Qz.alloc _)) (HFY.out.ext (Qz.alloc _))).mono ?_;rintro e w2 ⟨u,rfl,hm⟩;have HM:=Qq (hm.before (Qz.alloc _));clear hm;go_wp2_with fail;go_meet;exact Qq (by rw [HS.out,HSX.out,HSY.out];exact HM.out)
    ·have HS:=Qq (show Js n (out.getD n.x.toNat []) (out.getD n.y.toNat [])=Cj (out.getD n.x.toNat []) (out.getD n.y.toNat []) by unfold Js;rw [hop];rfl);have t1:(n.op==1)=false:=by rw [hop];rfl
     have t2:(n.op==2)=false:=by rw [hop];rfl
     have t3:(n.op==3)=false:=by rw [hop];rfl
     have t4:(n.op==4)=false:=by rw [hop];rfl
     have t9:(n.op==9)=false:=by rw [hop];rfl
     have t10:(n.op==10)=false:=by rw [hop];rfl
     have t11:(n.op==11)=false:=by rw [hop];rfl
     have t5:(n.op==5)=false:=by rw [hop];rfl
     have t6:(n.op==6)=false:=by rw [hop];rfl
     have t7:(n.op==7)=true:=by rw [hop];rfl
     have t8:(n.op==8)=false:=by rw [hop];rfl
     clear hop;go_wp2_with fail;refine(Qdt _ _ sx sy _ (HFX.out.ext (Qz.alloc _)) (HFY.out.ext (Qz.alloc _))).mono ?_;rintro e w2 ⟨u,rfl,hm⟩;have HM:=Qq (hm.before (Qz.alloc _));clear hm;go_wp2_with fail;go_meet;exact Qq (by rw [HS.out,HSX.out,HSY.out];exact HM.out)
    ·have HS:=Qq (show Js n (out.getD n.x.toNat []) (out.getD n.y.toNat [])=Qrl (out.getD n.x.toNat []) (out.getD n.y.toNat []) by unfold Js;rw [hop];rfl);have t1:(n.op==1)=false:=by rw [hop];rfl
     have t2:(n.op==2)=false:=by rw [hop];rfl
     have t3:(n.op==3)=false:=by rw [hop];rfl
     have t4:(n.op==4)=false:=by rw [hop];rfl
     have t9:(n.op==9)=false:=by rw [hop];rfl
     have t10:(n.op==10)=false:=by rw [hop];rfl
     have t11:(n.op==11)=false:=by rw [hop];rfl
     have t5:(n.op==5)=false:=by rw [hop];rfl
     have t6:(n.op==6)=false:=by rw [hop];rfl
     have t7:(n.op==7)=false:=by rw [hop];rfl
     have t8:(n.op==8)=true:=by rw [hop];rfl
     clear hop;go_wp2_with fail;refine(Qp4 _ _ sx sy _ (HFX.out.ext (Qz.alloc _)) (HFY.out.ext (Qz.alloc _))).mono ?_;rintro e w2 ⟨u,rfl,hm⟩;have HM:=Qq (hm.before (Qz.alloc _));clear hm;go_wp2_with fail;go_meet;exact Qq (by rw [HS.out,HSX.out,HSY.out];exact HM.out)
    have HS:=Qq (show Js n (out.getD n.x.toNat []) (out.getD n.y.toNat [])=De n.g (out.getD n.x.toNat []) (out.getD n.y.toNat []) by unfold Js;rw [hop];rfl);have t1:(n.op==1)=false:=by rw [hop];rfl
    have t2:(n.op==2)=false:=by rw [hop];rfl
    have t3:(n.op==3)=false:=by rw [hop];rfl
    have t4:(n.op==4)=false:=by rw [hop];rfl
    have t9:(n.op==9)=false:=by rw [hop];rfl
    have t10:(n.op==10)=false:=by rw [hop];rfl
    have t11:(n.op==11)=false:=by rw [hop];rfl
    have t5:(n.op==5)=false:=by rw [hop];rfl
    have t6:(n.op==6)=false:=by rw [hop];rfl
    have t7:(n.op==7)=false:=by rw [hop];rfl
    have t8:(n.op==8)=false:=by rw [hop];rfl
    clear hop;go_wp2_with fail;refine(Qn2 n.g HNO.out.2.2.2.1 _ _ sx sy _ (HFX.out.ext (Qz.alloc _)) (HFY.out.ext (Qz.alloc _))).mono ?_;rintro e w2 ⟨u,rfl,hm⟩;have HM:=Qq (hm.before (Qz.alloc _));clear hm;go_wp2_with fail;go_meet;exact Qq (by rw [HS.out,HSX.out,HSY.out];exact HM.out)
   case rest =>
    have HG:=hcut;clear hcut;obtain⟨As8,cs8,rfl,_⟩:=Qa HG.out.fml;have HX8:=Qq HG.out.ext;by_cases hz:(Js n (out.getD n.x.toNat []) (out.getD n.y.toNat [])).length=0
    ·have HE:=Qq (show Jd f= [] by
      unfold Jd;rw [<-HCL.out,Lg (k:=k+1) (by rw [Fc HN.out HO.out,decide_eq_true hz];rfl)])
     have hzb:(((Js n (out.getD n.x.toNat []) (out.getD n.y.toNat [])).length:Int)==0)=true:=by rw [hz];rfl
     generalize (Js n (out.getD n.x.toNat []) (out.getD n.y.toNat [])).length=m8 at hz hzb;clear hz;go_wp2_with fail;go_ret;exact⟨_,rfl,by rw [HE.out];exact St _,HM0.out.ext.trans (HFR.out.ext.trans HX8.out)⟩
    have hzb:(((Js n (out.getD n.x.toNat []) (out.getD n.y.toNat [])).length:Int)==0)=false:=by rw [beq_eq_false_iff_ne];omega
    have HSTEP:=Qq (show Gy (cl.take (k+1)) []=some (out++ [Js n (out.getD n.x.toNat []) (out.getD n.y.toNat [])]) by rw [Fc HN.out HO.out,decide_eq_false hz];rfl);clear hz;generalize Js n (out.getD n.x.toNat []) (out.getD n.y.toNat [])=g8 at HG hzb HSTEP;have hc3:out.length+1<=maxLen:=by unfold maxLen;omega
    have hc4:(out.length+1)*24<=140737488355328:=by omega
    go_wp2_with(at_builtin;refine wpList_append_own_at _ rfl _ _ 32 rfl w0.heap.size 22 iI (.slice none 0 0) 1 24 Tryz.underlying32 hiI hzI0 hzI1 hzI2 rfl (by decide) _ out.length us rfl (Zf HROW.out (HX8.out.alloc _)) ⟨_,0,none⟩ 1 1 [.slice As8 g8.length cs8] rfl rfl (Jq _ _ _ (by simp)) (fun u hu=>by rw [List.mem_singleton.1 hu];rfl) hc3 hc4 (Qx HFR.out.ext.size (HX8.out.alloc _).size) ?_);intro v7 w7 hown7 hgrow7 _ hat7;have HPS:=Qq (Vy.push (s:=g8) ((HFR.out.ext.trans HX8.out).alloc _) (Zf HROW.out (HX8.out.alloc _)) (fun k s hk=>by
     obtain⟨u,a,b,c⟩:=HUS.out k s hk;exact⟨u,a,b.ext (HX8.out.alloc _),c.ext (HX8.out.alloc _)⟩) hown7 hgrow7 (hat7.imp id (fun e=>e.trans (by simp))) (HG.out.fml.ext (Qz.alloc _)) (Rd (Nat.le_refl _) (Zf HG.out.1 (Qz.alloc _)) HROW.out HFR.out.ext.size))
    obtain⟨A7,c7,rfl⟩:=Qt hown7;clear hown7 hgrow7 hat7;go_wp2_with fail;go_roundw
    case rel=>exact⟨k+1,by go_num,by omega,Qq ⟨_,HSTEP.out,by rw [List.length_append,HOK.out];rfl,HPS.out⟩⟩
    case measure=>simp [intOf];omega
  obtain rfl:cl.length=k:=by omega
  obtain⟨g0,cap0,hsl,hs1,hs2⟩:=HFR.out.slice (by rw [HOK.out];omega);injection hsl with hsl1 _ hsl2;subst hsl1 hsl2;unfold maxLen at hs2;obtain⟨sx,hsx⟩:∃s,out[out.length - 1]?=some s:=⟨_,List.getElem?_eq_getElem (by rw [HOK.out];omega)⟩;obtain⟨ux,hux,hfx,hgl⟩:=HFR.out.get hsx;have HFX:=Qq hfx;have HSX:=Qq (show Jd f=sx by
   have h1:=HO.out;rw [List.take_of_length_le (Nat.le_refl _)]at h1;unfold Jd;rw [<-HCL.out,h1];show out.getLastD []=sx;rw [List.getLastD_eq_getLast?,List.getLast?_eq_getElem?,hsx]
   rfl)
  have hi1:((out.length:Int) - 1) < (out.length:Int):=by omega
  have hi0:(0:Int)<=(out.length:Int) - 1:=by rw [HOK.out];omega
  have e1:((out.length:Int) - 1).toNat=out.length - 1:=by omega
  clear hsx hfx;go_wp2_with fail;go_ret;exact⟨ux,rfl,by rw [HSX.out];exact HFX.out,HM0.out.ext.trans HFR.out.ext⟩
end Go.Proofs.YtkmclcmnoicagaaGreatDoor
