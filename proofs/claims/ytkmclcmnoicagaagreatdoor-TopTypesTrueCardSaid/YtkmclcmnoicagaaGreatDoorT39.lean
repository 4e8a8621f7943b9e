/- types' baseOf: the walk. -/
import Derived.Test.YtkmclcmnoicagaaGreatDoorT38
namespace Go.Proofs.YtkmclcmnoicagaaGreatDoor
set_option maxRecDepth 100000
set_option maxHeartbeats 128000000
open Go.RowKit
def Qxh(m:Nat)(v:Value):Prop:=∀g,v.ownBlock=some g->m<=g
theorem Qxh.next {m N:Nat} {v v':Value}(h:Qxh m v)(hm:m<=N)(hat:v'.ownBlock=v.ownBlock\/v'.ownBlock=some N):Qxh m v':=fun g hg=>by
 rcases hat with e|e
 ·exact h g (e▸hg)
 rw [e]at hg;injection hg with hg;omega
theorem Qam {m B:Nat} {w W:World} {vo x:Value}(hx:∀g,x.ownBlock=some g->g < w.heap.size/\m<=g)(hB:w.heap.size<=B)(hv:Qxh B vo)(he:w.heap.size<=W.heap.size):Mk m W vo x:=fun g hg=>by
 obtain⟨h1,h2⟩:=hx g hg;exact⟨by omega,fun e=>by have:=hv g e;omega,h2⟩
theorem Qk0 {c:List Nd}(h:(Qi c).op=13)(q:Nat):Qsi (q:Int) c=Gl q c:=by
 unfold Qsi Gl Gx Fi;rw [h];rfl
theorem Qt1 {l:List (List Nd)} {k:Nat} {s:List Nd}(h:l[k]?=some s):(l.take (k+1)).filter (fun s=>Jm (Qi s))=(l.take k).filter (fun s=>Jm (Qi s))++(bif Jm (Qi s)then [s]else []):=by
 rw [Yh h,List.filter_append,List.filter_cons];cases Jm (Qi s) <;> rfl
def Qb7(wi:World)(r:List (List Nd)×Int)(e:Ending)(w':World):Prop:=∃u,e=.returned (.tuple #[u,.int .i64 r.2])/\Ext wi w'/\Vy wi w' u r.1
theorem Qnp(v:Value)(t:Tr)(w:World)(ht:Xf t)(h:Fml w v (Qf t)):
 Calls Tryz.prog 57 #[v] w (Qb7 w (Vx (Qf t))):=by
 have H:=Qq h;have HT:=Qq ht;obtain⟨iI,hiI,hzI0,hzI1,hzI2⟩:=info_parts Qvp;obtain⟨A,c,rfl,_⟩:=Qa h;obtain⟨sl,hsl⟩:∃b,b=Qqb (Qf t):=⟨_,rfl⟩;have hsl200:sl.length<=200:=by rw [hsl,ht.subs];simpa using ht.len
 have HSL:=Qq hsl;have HSX:=Qq (show ∀s∈sl,∃u,Xf u/\s=Qf u by
  rw [hsl,ht.subs];intro s hs;obtain⟨i,hi,rfl⟩:=List.mem_map.1 hs;exact⟨_,ht.at (List.mem_range.1 hi),rfl⟩)
 clear h ht hsl;go_enter Tryz.func57,Tryz.ntmps57;go_wp2_with fail;refine(Qhn _ (Qf t) _ H.out HT.out.check).mono ?_;rintro e w1 ⟨uc,rfl,hm0⟩;rw [<-HSL.out]at hm0;have HM0:=Qq hm0;obtain⟨As,cs,rfl,hcap,hmax,hread⟩:=hm0.fmls;have HREAD:=Qq hread;unfold maxLen at hmax;have HUS0:=Qq hm0.row;clear hm0 hread;go_wp2_with fail;go_loopw [4,19] (fun vo vi wr=>∃k:Nat,vi=.int .i64 (k:Int)/\k<=sl.length/\Hid (∃ol,ol=(sl.take k).filter (fun s=>Jm (Qi s))/\Vy w wr vo ol/\Ext w1 wr/\Qxh w1.heap.size vo)) (fun _ v _=>sl.length - (intOf v).toNat)
 case atStart=>exact⟨0,rfl,Nat.zero_le _,Qq ⟨[],rfl,(Vy.nil _).before HM0.out.ext,Qz,fun g hg=>by cases hg⟩⟩
 case round =>
  obtain⟨k,rfl,hk,HREL⟩:=hrel;obtain⟨ol,hol,hfr,hx,hfm⟩:=HREL.out;obtain⟨us,hrow,hus⟩:=hfr.row;obtain⟨Ao,co,rfl⟩:=Qt hrow;have HOL:=Qq hol;have HFR:=Qq hfr;have HROW:=Qq hrow;have HUS:=Qq hus;have HX:=Qq hx;have HFM:=Qq hfm;have hol2:ol.length<=200:=by
   rw [hol];refine Qx (List.length_filter_le _ _) ?_;rw [List.length_take];omega
  clear HREL hol hfr hrow hus hx hfm;by_cases hlt2:k < sl.length
  ·have hk1:(k:Int) < (sl.length:Int):=by omega
   obtain⟨s,hs⟩:∃s,sl[k]?=some s:=⟨_,Qv hlt2⟩;obtain⟨ad,rfl,hblk,hcells⟩:=HREAD.out (by intro e;rw [e]at hlt2;simp at hlt2);obtain⟨u,hu,hf⟩:=hcells k s hs;have a0:=(HX.out.cell (p:=ad.add k) (Qj hblk)).trans hu;have hblk2:(ad.add k).block < wr.heap.size:=by rw [Qp];exact Qy hblk HX.out.size
   have HF:=Qq (hf.ext HX.out);have HS:=Qq hs;obtain⟨su,hsu,hse⟩:=HSX.out s (List.mem_of_getElem? hs);have hs0:0 < s.length:=by rw [hse];exact Gv hsu.xp.1.1
   obtain⟨Au,cu,rfl,_⟩:=Qa hf;have HAW:=Qq (show ∀g,(Value.slice Au s.length cu).ownBlock=some g->g < w1.heap.size/\w.heap.size<=g by
    obtain⟨us0,hr0,hu0⟩:=HUS0.out;obtain⟨u',hu',_,haw⟩:=hu0 k s hs;have h0:0 < sl.length:=by omega
    obtain⟨g',cap',e',_,_,_,hc'⟩:=Tf hr0 h0;injection e' with e1 _ _;injection e1 with e1;subst e1;have hcell:=hc' k u' hu';rw [show((⟨g',0,none⟩:Addr).add k)=⟨g',k,none⟩from Un g' k]at hu;rw [hcell]at hu;injection hu with hu;subst hu;exact fun g hg=>⟨(haw g hg).1,(haw g hg).2.2⟩)
   clear hs hcells hf hu hsu hse;obtain⟨wq,hwq⟩:∃v,v=wr:=⟨_,rfl⟩;subst hwq;go_wp2_with fail;refine(Ca _ s _ HF.out hs0).mono ?_;rintro e w2 ⟨u1,u2,rfl,hx2,hf1,hf2⟩;have HX2:=Qq hx2;obtain⟨n,hn⟩:∃n,n=Qi s:=⟨_,rfl⟩;rw [<-hn];have HN:=Qq hn;unfold Nd.val;obtain⟨A1,c1,rfl,_⟩:=Qa hf1;obtain⟨A2,c2,rfl,_⟩:=Qa hf2;clear hx2 hf1 hf2 hn;have HXW:=Qq (show Ext wq (w2.alloc (.cells #[.int .i64 n.op,.int .i64 n.i,.int .i64 n.e,.int .i64 n.g,.int .i64 n.x,.int .i64 n.y] 71))from HX2.out.alloc _);have HSTEP:=Qq (Qt1 HS.out);rw [<-HN.out,<-HOL.out]at HSTEP;rcases Qj4 n with hop|⟨t3,t9,t13⟩
   ·have hb:=Qq (show Jm n=true by unfold Jm;rcases hop with e|e|e <;> rw [e] <;> rfl);have hc3:ol.length+1<=maxLen:=by unfold maxLen;omega
    have hc4:(ol.length+1)*24<=140737488355328:=by omega
    have HTT:=Qq (show((n.op==3)=true)\/((n.op==3)=false/\(n.op==9)=true)\/((n.op==3)=false/\(n.op==9)=false/\(n.op==13)=true) by rcases hop with e|e|e <;> rw [e] <;> simp);clear hop;rcases HTT.out with t3|⟨t3,t9⟩|⟨t3,t9,t13⟩
    all_goals
     go_wp2_with(at_builtin;refine wpList_append_own_at _ rfl _ _ 32 rfl w.heap.size 22 iI (.slice none 0 0) 1 24 Tryz.underlying32 hiI hzI0 hzI1 hzI2 rfl (by decide) _ ol.length us rfl (Zf HROW.out (HXW.out.alloc _)) ⟨_,0,none⟩ 1 1 [.slice Au s.length cu] rfl rfl (Jq _ _ _ (by simp)) (fun u hu=>by rw [List.mem_singleton.1 hu];rfl) hc3 hc4 (Qx HFR.out.ext.size (HXW.out.alloc _).size) ?_);intro v7 w7 hown7 hgrow7 _ hat7;have HFM7:=Qq (HFM.out.next (by have:=HX.out.size;have:=HXW.out.size;simp at this;omega) hat7);have HX7:=Qq (Ext.grown (HX.out.trans (HXW.out.alloc (.cells #[.slice Au s.length cu] 22))) hgrow7 HFM.out)
     have HPS:=Qq (Vy.push (s:=s) ((HFR.out.ext.trans HXW.out).alloc _) (Zf HROW.out (HXW.out.alloc _)) (fun k s hk=>by
      obtain⟨u,a,b,c⟩:=HUS.out k s hk;exact⟨u,a,b.ext (HXW.out.alloc _),c.ext (HXW.out.alloc _)⟩) hown7 hgrow7 (hat7.imp id (fun e=>e.trans (by simp))) (HF.out.ext (HXW.out.alloc _)) (Qam HAW.out (Nat.le_refl _) HFM.out (Qx HX.out.size (HXW.out.alloc _).size)))
     obtain⟨A7,c7,rfl⟩:=Qt hown7;clear hown7 hgrow7 hat7;go_wp2_with fail;go_roundw
     case rel=>exact⟨k+1,by go_num,by omega,Qq ⟨_,by rw [HSTEP.out,hb.out];rfl,HPS.out,HX7.out,HFM7.out⟩⟩
     case measure=>simp [intOf];omega
   have hb:=Qq (show Jm n=false by unfold Jm;rw [t3,t9,t13];rfl);go_wp2_with fail;go_roundw
   case rel=>exact⟨k+1,by go_num,by omega,Qq ⟨_,by rw [HSTEP.out,hb.out];exact(List.append_nil _).symm,HFR.out.ext_ HXW.out,HX.out.trans HXW.out,HFM.out⟩⟩
   case measure=>simp [intOf];omega
  obtain rfl:sl.length=k:=by omega
  obtain⟨l0,hl0⟩:∃l,l=Yz (Qf t):=⟨_,rfl⟩;have HL0:=Qq hl0;have HOL0:=Qq (show ol=l0 by rw [HOL.out,hl0,List.take_of_length_le (Nat.le_refl _),HSL.out];rfl);clear hl0;go_wp2_with fail;go_loopw [4,10] (fun vo vi wr=>∃k:Nat,vi=.int .i64 (k:Int)/\k<=12/\Hid (∃ol,ol=(usK l0 k).foldl Xd l0/\(∀u∈usK l0 k,u.length≠0)/\k<=ol.length/\ol.length<=216/\Vy w wr vo ol)) (fun _ v _=>13 - (intOf v).toNat)
  case atStart=>exact⟨0,rfl,Nat.zero_le _,Qq ⟨ol,HOL0.out,(fun u hu=>by cases hu),Nat.zero_le _,by omega,HFR.out⟩⟩
  case round =>
   clear HOL HFR HROW HUS HX HFM HOL0 hol2;obtain⟨k,rfl,hk,HREL⟩:=hrel;obtain⟨ol,hol,hne,hkl,hol2,hfr⟩:=HREL.out;have HOL:=Qq hol;have HNE:=Qq hne;have HFR:=Qq hfr;obtain⟨Ao,co,rfl⟩:=Qt hfr.row.choose_spec.1;clear HREL hol hne hfr;by_cases hlt2:k < ol.length
   ·have hk1:(k:Int) < (ol.length:Int):=by omega
    by_cases h12:12 < ol.length
    ·have h12i:(12:Int) < (ol.length:Int):=by omega
     have HB:=Qq (show Vx (Qf t)=([],8)from Qj2 (.inr (by rw [<-HL0.out];exact Qtq (k:=k) (by rw [<-HOL.out];exact h12))));go_wp2_with fail;go_ret2;exact⟨.slice none 0 0,by rw [HB.out] <;> rfl,HFR.out.ext,by rw [HB.out];exact(Vy.nil _).before HFR.out.ext⟩
    have h12i:(ol.length:Int)<=12:=by omega
    obtain⟨s,hs⟩:∃s,ol[k]?=some s:=⟨_,Qv hlt2⟩;obtain⟨g0,cap0,hsl,hs1,hs2⟩:=HFR.out.slice (by omega);injection hsl with hsl1 _ hsl2;subst hsl1 hsl2;unfold maxLen at hs2;obtain⟨u,hu,hf,hgl⟩:=HFR.out.get hs;have HF:=Qq hf;have HBS:=Qq (Qtz HT.out (k:=k) (ol:=ol) (c:=s) (by rw [<-HL0.out];exact HOL.out) (by rw [<-HL0.out];exact HNE.out) hs);have HS:=Qq hs;obtain⟨su,hsu,hse⟩:=HBS.out.2;have hs0:0 < s.length:=by rw [hse];exact Gv hsu.xp.1.1
    have HHD:=Qq (show Zn (Qi s) by
     have hck:=hsu.check;rw [<-hse]at hck;exact Dx hck _ (List.mem_of_getElem? (Rb hs0)))
    obtain⟨Au,cu,rfl,_⟩:=Qa hf;clear hs hf hsu hse;obtain⟨wq,hwq⟩:∃v,v=wr:=⟨_,rfl⟩;subst hwq;go_wp2_with fail;refine(Ca _ s _ HF.out hs0).mono ?_;rintro e w2 ⟨u1,u2,rfl,hx2,hf1,hf2⟩;have HX2:=Qq hx2;obtain⟨n,hn⟩:∃n,n=Qi s:=⟨_,rfl⟩;rw [<-hn];have HN:=Qq hn;unfold Nd.val;obtain⟨A1,c1,rfl,_⟩:=Qa hf1;obtain⟨A2,c2,rfl,_⟩:=Qa hf2;clear hx2 hf1 hf2 hn;go_wp2_with fail;have hg2:g0 < w2.heap.size:=Qy hgl HX2.out.size;obtain⟨W0,hW0⟩:∃v,v=w2.alloc (.cells #[.int .i64 n.op,.int .i64 n.i,.int .i64 n.e,.int .i64 n.g,.int .i64 n.x,.int .i64 n.y] 71):=⟨_,rfl⟩;have HBOX:=Qq (show W0.heap[w2.heap.size]?=some (.cells #[.int .i64 n.op,.int .i64 n.i,.int .i64 n.e,.int .i64 n.g,.int .i64 n.x,.int .i64 n.y] 71 (0,0)) by rw [hW0];exact heap_alloc_new _ _)
    have HXW:=Qq (show Ext wq W0 by rw [hW0];exact HX2.out.alloc _);rw [<-hW0];clear hW0;by_cases hop:n.op=13
    ·have hgr:=Qz3 (by rw [HN.out];exact HHD.out) (.inr hop);obtain⟨gn,hgn⟩:=Int.eq_ofNat_of_zero_le hgr.1;have hg16:gn < 16:=by omega
     have HGN:=Qq hgn;have hb13:(n.op !=13)=false:=by rw [hop];rfl
     have HOP:=Qq (show(Qi s).op=13 by rw [<-HN.out];exact hop);rw [hgn]at HBOX;clear hgr hgn hop;go_loopw [4,65] (fun vo vi wr=>∃q:Nat,vi=.int .i64 (q:Int)/\q<=4/\Hid (∃ol2,ol2=(Na s q).foldl Xd ol/\(∀u∈Na s q,u.length≠0)/\ol2.length<=ol.length+q/\Vy w wr vo ol2/\Ext w wr/\wr.heap[w2.heap.size]?=some (.cells #[.int .i64 n.op,.int .i64 n.i,.int .i64 n.e,.int .i64 (gn:Int),.int .i64 n.x,.int .i64 n.y] 71 (0,0))/\vo.ownBlock≠some w2.heap.size)) (fun _ v _=>4 - (intOf v).toNat)
     case atStart=>exact⟨0,rfl,Nat.zero_le _,Qq ⟨ol,by rw [Qki];rfl,(by intro u hu;rw [Qki]at hu;cases hu),Nat.le_refl _,HFR.out.ext_ HXW.out,HFR.out.ext.trans HXW.out,HBOX.out,(fun e=>by injection e with e;simp at e;omega)⟩⟩
     case round =>
      obtain⟨q,rfl,hq,HREL2⟩:=hrel;obtain⟨ol2,hol2',hne2,hlen2,hfr2,hx2',hbox2,hnb2⟩:=HREL2.out;obtain⟨us2,hrow2,hus2⟩:=hfr2.row;have HOL2:=Qq hol2';have HNE2:=Qq hne2;have HFR2:=Qq hfr2;have HROW2:=Qq hrow2;have HUS2:=Qq hus2;have HBOX2:=Qq hbox2;have HNB2:=Qq hnb2;have HPF:=Qq (show ol <+: ol2 by rw [hol2'];exact Ny _ _);have hlt3:k < ol2.length:=Qy hlt2 HPF.out.length_le;have HS2:=Qq (show ol2[k]?=some s by
       obtain⟨r,hr⟩:=HPF.out;rw [<-hr,List.getElem?_append_left hlt2];exact HS.out)
      obtain⟨g2,cap2,hsl2,hs12,hs22⟩:=HFR2.out.slice (by omega);subst hsl2;unfold maxLen at hs22;obtain⟨uu,huu,hff,hgl2⟩:=HFR2.out.get HS2.out;have HFF:=Qq hff;obtain⟨Au2,cu2,rfl,_⟩:=Qa hff;obtain⟨⟨q0,q1,q2,q3,q4,q5⟩,_,qb⟩:=Yx hbox2;clear HREL2 hol2' hne2 hfr2 hrow2 hus2 hbox2 hnb2 hff hx2';have hk3:(k:Int) < (ol2.length:Int):=by omega
      by_cases hq4:q < 4
      ·have hq1:(q:Int) < 4:=by omega
       have hbt:=Cc gn q (by omega);cases hgb:gn.testBit q
       case false =>
        rw [hgb]at hbt;simp only [Bool.not_false]at hbt;have HQ:=Qq (Qww (c:=s) (q:=q) (by rw [<-HN.out,HGN.out,show Yl (gn:Int) q=false from hgb,Bool.and_false]));clear hgb;go_wp2_with fail;go_roundw
        case rel=>exact⟨q+1,by go_num,by omega,Qq ⟨ol2,by rw [HQ.out];exact HOL2.out,by rw [HQ.out];exact HNE2.out,by omega,HFR2.out,HFR2.out.ext,HBOX2.out,HNB2.out⟩⟩
        case measure=>simp [intOf];omega
       case true =>
        rw [hgb]at hbt;simp only [Bool.not_true]at hbt;have HQ:=Qq (Qhe (c:=s) (q:=q) (by rw [HOP.out];rfl) (by rw [<-HN.out,HGN.out];exact hgb));have HUN:=Qq (Qk0 HOP.out q);clear hgb;go_wp2_with fail;refine(Ik (q:Int) ⟨by omega,by omega⟩ _ s _ HFF.out hs0).mono ?_;rintro e w3 ⟨u3,rfl,hm3⟩;rw [HUN.out]at hm3;have HM3:=Qq hm3;obtain⟨A3,c3,rfl,_⟩:=Qa hm3.fml;clear hm3;by_cases hz:(Gl q s).length=0
        ·have hzb:(((Gl q s).length:Int)==0)=true:=by rw [hz];rfl
         have HB:=Qq (show Vx (Qf t)=([],8)from Qj2 (.inl (by
          rw [<-HL0.out];refine Qpn (k:=k+1) (u:=Gl q s) ?_ hz;rw [HL0.out,HBS.out.1];refine List.mem_append_right _ (Qha (q:=q+1) (by omega) ?_);rw [HQ.out]
          simp)))
         generalize (Gl q s).length=m8 at hz hzb;clear hz;go_wp2_with fail;go_ret2;exact⟨.slice none 0 0,by rw [HB.out] <;> rfl,HFR2.out.ext.trans HM3.out.ext,by rw [HB.out];exact(Vy.nil _).before (HFR2.out.ext.trans HM3.out.ext)⟩
        have hzb:(((Gl q s).length:Int)==0)=false:=by rw [beq_eq_false_iff_ne];omega
        have HZ:=Qq hz;have HNE3:=Qq (show ∀u∈Na s (q+1),u.length≠0 by
         rw [HQ.out];intro u hu;rcases List.mem_append.1 hu with hu|hu
         ·exact HNE2.out u hu
         rw [List.mem_singleton.1 hu];exact hz)
        have HOL3:=Qq (show Xd ol2 (Gl q s)=(Na s (q+1)).foldl Xd ol by rw [HQ.out,List.foldl_append,<-HOL2.out];rfl);clear hz;generalize Gl q s=g8 at HM3 hzb HOL3;go_wp2_with fail;refine(We _ _ ol2 g8 _ (HFR2.out.fmls.ext HM3.out.ext) HM3.out.fml).mono ?_;rintro e w4 ⟨rfl,hx4⟩;have HX4:=Qq (HM3.out.ext.trans hx4);have HX34:=Qq hx4;clear hx4;by_cases hp:Yq ol2 g8 < 0
        ·have HAD:=Qq (show Xd ol2 g8=ol2++ [g8] by unfold Xd;rw [decide_eq_true hp];rfl);generalize Yq ol2 g8=pz at hp;have hc3:ol2.length+1<=maxLen:=by unfold maxLen;omega
         have hc4:(ol2.length+1)*24<=140737488355328:=by omega
         go_wp2_with(at_builtin;refine wpList_append_own_at _ rfl _ _ 32 rfl w.heap.size 22 iI (.slice none 0 0) 1 24 Tryz.underlying32 hiI hzI0 hzI1 hzI2 rfl (by decide) _ ol2.length us2 rfl (Zf HROW2.out (HX4.out.alloc _)) ⟨_,0,none⟩ 1 1 [.slice A3 g8.length c3] rfl rfl (Jq _ _ _ (by simp)) (fun u hu=>by rw [List.mem_singleton.1 hu];rfl) hc3 hc4 (Qx HFR2.out.ext.size (HX4.out.alloc _).size) ?_);intro v7 w7 hown7 hgrow7 _ hat7;have HBOX7:=Qq (show w7.heap[w2.heap.size]?=some (.cells #[.int .i64 n.op,.int .i64 n.i,.int .i64 n.e,.int .i64 (gn:Int),.int .i64 n.x,.int .i64 n.y] 71 (0,0))from(hgrow7.block _ (Qy qb (HX4.out.alloc _).size) (fun e=>HNB2.out e.symm)).trans (((HX4.out.alloc _).block qb).trans HBOX2.out))
         have HNB7:=Qq (show v7.ownBlock≠some w2.heap.size from fun e=>by
          rcases hat7 with e1|e1
          ·exact HNB2.out (e1▸e)
          rw [e1]at e;injection e with e;have:=(HX4.out).size;omega)
         have HPS:=Qq (Vy.push (s:=g8) ((HFR2.out.ext.trans HX4.out).alloc _) (Zf HROW2.out (HX4.out.alloc _)) (fun k s hk=>by
          obtain⟨u,a,b,c⟩:=HUS2.out k s hk;exact⟨u,a,b.ext (HX4.out.alloc _),c.ext (HX4.out.alloc _)⟩) hown7 hgrow7 (hat7.imp id (fun e=>e.trans (by simp))) (HM3.out.fml.ext (HX34.out.alloc _)) (Rd (Nat.le_refl _) (Zf HM3.out.1 (HX34.out.alloc _)) HROW2.out HFR2.out.ext.size))
         obtain⟨A7,c7,rfl⟩:=Qt hown7;clear hown7 hgrow7 hat7;go_wp2_with fail;go_roundw
         case rel=>exact⟨q+1,by go_num,by omega,Qq ⟨_,by rw [<-HOL3.out,HAD.out],HNE3.out,by rw [List.length_append,List.length_singleton];omega,HPS.out,HPS.out.ext,HBOX7.out,HNB7.out⟩⟩
         case measure=>simp [intOf];omega
        have HAD:=Qq (show Xd ol2 g8=ol2 by unfold Xd;rw [decide_eq_false hp];rfl);generalize Yq ol2 g8=pz at hp;go_wp2_with fail;go_roundw
        case rel=>exact⟨q+1,by go_num,by omega,Qq ⟨ol2,by rw [<-HOL3.out,HAD.out],HNE3.out,by omega,HFR2.out.ext_ HX4.out,HFR2.out.ext.trans HX4.out,(HX4.out.block qb).trans HBOX2.out,HNB2.out⟩⟩
        case measure=>simp [intOf];omega
      obtain rfl:4=q:=by omega
      go_wp2_with fail;go_roundw
      case rel=>exact⟨k+1,by go_num,by omega,Qq ⟨ol2,by rw [HL0.out,HBS.out.1,List.foldl_append,<-HL0.out,<-HOL.out,<-Iv];exact HOL2.out,(by
       rw [HL0.out,HBS.out.1];intro u hu;rcases List.mem_append.1 hu with hu|hu
       ·exact HNE.out u (by rw [HL0.out];exact hu)
       exact HNE2.out u (by rw [Iv];exact hu)),by omega,by omega,HFR2.out⟩⟩
      case measure=>simp [intOf];omega
    have hb13:(n.op !=13)=true:=by simpa using hop
    have HUE:=Qq (show Ye s= [] by unfold Ye;rw [<-HN.out,show(n.op==13)=false by simpa using hop];rfl);obtain⟨⟨q0,q1,q2,q3,q4,q5⟩,_,qb⟩:=Yx HBOX.out;clear hop;go_loopw [4,65] (fun vo vi wr=>∃q:Nat,vi=.int .i64 (q:Int)/\q<=4/\vo=.slice (some ⟨g0,0,none⟩) ol.length co/\wr=W0) (fun _ v _=>4 - (intOf v).toNat)
    case atStart=>exact⟨0,rfl,Nat.zero_le _,rfl,rfl⟩
    case round =>
     obtain⟨q,rfl,hq,rfl,rfl⟩:=hrel;by_cases hq4:q < 4
     ·have hq1:(q:Int) < 4:=by omega
      go_wp2_with fail;go_roundw
      case rel=>exact⟨q+1,by go_num,by omega,by first|rfl|trivial,by first|rfl|trivial⟩
      case measure=>simp [intOf];omega
     obtain rfl:4=q:=by omega
     go_wp2_with fail;go_roundw
     case rel=>exact⟨k+1,by go_num,by omega,Qq ⟨ol,by rw [HL0.out,HBS.out.1,HUE.out,List.append_nil,<-HL0.out];exact HOL.out,(by
      rw [HL0.out,HBS.out.1,HUE.out,List.append_nil,<-HL0.out];exact HNE.out),by omega,by omega,HFR.out.ext_ HXW.out⟩⟩
     case measure=>simp [intOf];omega
   obtain rfl:ol.length=k:=by omega
   have HB:=Qq (show Vx (Qf t)=(ol,0) by
    have hl:l0.length<=ol.length:=by rw [HOL.out];exact Qgh _ _
    have hus:=Qw2 (l0:=l0) (k:=ol.length) hl;have h1:=HOL.out;rw [hus]at h1;rw [Qbz,<-HL0.out,<-h1]
    ·rw [<-HL0.out,<-hus];exact HNE.out
    rw [<-HL0.out,<-h1];exact hk)
   have h12i:(ol.length:Int)<=12:=by omega
   go_wp2_with fail;go_ret2;exact⟨_,by rw [HB.out] <;> rfl,HFR.out.ext,by rw [HB.out];exact HFR.out⟩
theorem Qew:(List.range 512).all (fun m=>(bits .andNot .i64 (m:Int) 11 !=0)==((m&&&500) !=0))=true:=by kernel_rfl
theorem Qlm(f:List Nd):(bits .andNot .i64 (Jh f:Nat) 11 !=0)=Kl f:=by
 have h:=List.all_eq_true.1 Qew (Jh f) (List.mem_range.2 (Cq _));exact eq_of_beq h
theorem Qzt(v:Value)(f:List Nd)(w:World)(h:Fml w v f):
 Calls Tryz.prog 18 #[v] w (Qb7 w (Qn f)):=by
 have H:=Qq h;obtain⟨A,c,rfl,_⟩:=Qa h;clear h;by_cases hc:check f≠0
 ·have hb1:(check f !=0)=true:=by simpa using hc
  have HB:=Qq (show Qn f=([],check f) by unfold Qn;rw [hb1];rfl);clear hc;go_enter Tryz.func18,Tryz.ntmps18;go_wp2_with fail;refine(Vn _ f _ H.out.1).mono ?_;rintro e w1 ⟨rfl,hb⟩;have HX:=Qq hb;clear hb;go_wp2_with fail;go_ret2;exact⟨.slice none 0 0,by rw [HB.out] <;> rfl,HX.out,by rw [HB.out];exact(Vy.nil _).before HX.out⟩
 have hc:check f=0:=Classical.not_not.1 hc;have hb1:(check f !=0)=false:=by simpa using hc
 have hcc:((check f==0))=true:=by simpa using hc
 have HC:=Qq hc;clear hc;have hlt:=Qlm f;cases hl:Kl f
 case true =>
  rw [hl]at hlt;have HB:=Qq (show Qn f=([],10) by unfold Qn;rw [hb1,hl];rfl);clear hl;go_enter Tryz.func18,Tryz.ntmps18;go_wp2_with fail;refine(Vn _ f _ H.out.1).mono ?_;rintro e w1 ⟨rfl,hb⟩;have HX:=Qq hb;clear hb;go_wp2_with fail;refine(Ry _ f _ (H.out.ext HX.out)).mono ?_;rintro e w2 ⟨rfl,hb⟩;have HX2:=Qq (HX.out.trans hb);clear hb;go_wp2_with fail;go_ret2;exact⟨.slice none 0 0,by rw [HB.out] <;> rfl,HX2.out,by rw [HB.out];exact(Vy.nil _).before HX2.out⟩
 case false =>
  rw [hl]at hlt;have HL:=Qq hl;clear hl;by_cases hz:(Jd f).length=0
  ·have HB:=Qq (show Qn f=([],8) by unfold Qn;rw [hb1,HL.out,decide_eq_true hz];rfl);have hzb:(((Jd f).length:Int)==0)=true:=by rw [hz];rfl
   clear hz;go_enter Tryz.func18,Tryz.ntmps18;go_wp2_with fail;refine(Vn _ f _ H.out.1).mono ?_;rintro e w1 ⟨rfl,hb⟩;have HX:=Qq hb;clear hb;go_wp2_with fail;refine(Ry _ f _ (H.out.ext HX.out)).mono ?_;rintro e w2 ⟨rfl,hb⟩;have HX2:=Qq (HX.out.trans hb);clear hb;go_wp2_with fail;refine(Ht _ f _ (H.out.ext HX2.out) HC.out (Nc HC.out HL.out)).mono ?_;rintro e w3 ⟨u,rfl,hf,hb⟩;have HF:=Qq hf;have HX3:=Qq (HX2.out.trans hb);obtain⟨A3,c3,rfl,_⟩:=Qa hf;clear hb hf;go_wp2_with fail;go_ret2;exact⟨.slice none 0 0,by rw [HB.out] <;> rfl,HX3.out,by rw [HB.out];exact(Vy.nil _).before HX3.out⟩
  have hzb:(((Jd f).length:Int)==0)=false:=by rw [beq_eq_false_iff_ne];omega
  have HB:=Qq (show Qn f=Vx (Jd f) by unfold Qn;rw [hb1,HL.out,decide_eq_false hz];rfl);have HT:=Qq (Qq5 HC.out HL.out hz);clear hz;go_enter Tryz.func18,Tryz.ntmps18;go_wp2_with fail;refine(Vn _ f _ H.out.1).mono ?_;rintro e w1 ⟨rfl,hb⟩;have HX:=Qq hb;clear hb;go_wp2_with fail;refine(Ry _ f _ (H.out.ext HX.out)).mono ?_;rintro e w2 ⟨rfl,hb⟩;have HX2:=Qq (HX.out.trans hb);clear hb;go_wp2_with fail;refine(Ht _ f _ (H.out.ext HX2.out) HC.out (Nc HC.out HL.out)).mono ?_;rintro e w3 ⟨u,rfl,hf,hb⟩;have HF:=Qq hf;have HX3:=Qq (HX2.out.trans hb);obtain⟨A3,c3,rfl,_⟩:=Qa hf
  clear hb hf;go_wp2_with fail;refine(Qnp _ _ _ HT.out.1 (by rw [<-HT.out.2];exact HF.out)).mono ?_;rintro e w4 ⟨u4,rfl,hx4,hr4⟩;have HX4:=Qq (HX3.out.trans hx4);have HR4:=Qq (hr4.before HX3.out);rw [<-HT.out.2,<-HB.out]at HR4⊢;clear hx4 hr4;go_wp2_with fail;go_ret2;exact⟨_,rfl,HX4.out,HR4.out⟩
structure Uf (w:World) (b g:Nat) (lg:Int) (base:List (List Nd)) (root:List Bool) (ks:List Kn) (cs:List Cm) (alive:List Bool):Prop where
 keep:∀w':World,w.heap.size<=w'.heap.size->(∀k,k≠g->k < w.heap.size->w'.heap[k]?=w.heap[k]?)->∃vb vr vk vc,w'.heap[b]?=some (.cells #[.int .i64 lg,vb,vr,vk,vc,.slice (some ⟨g,0,none⟩) alive.length alive.length] 93 (0,0))/\Fl w' vb base/\Va w' vr root/\Kns w' vk ks/\Cms w' vc cs
 row:Vr g w g alive
section
variable {w w':World} {b g:Nat} {lg:Int} {base:List (List Nd)} {root:List Bool} {ks:List Kn} {cs:List Cm} {alive:List Bool}
theorem Uf.eng(h:Uf w b g lg base root ks cs alive):Eng w b lg base root ks cs alive:=by
 obtain⟨vb,vr,vk,vc,h0,h1,h2,h3,h4⟩:=h.keep w (Nat.le_refl _) (fun _ _ _=>rfl);exact⟨vb,vr,vk,vc,_,h0,h1,h2,h3,h4,h.row.bools⟩
theorem Uf.ext(h:Uf w b g lg base root ks cs alive)(he:Ext w w'):Uf w' b g lg base root ks cs alive :=
 ⟨fun w2 h1 h2=>h.keep w2 (Qx he.size h1) (fun k hk hl=>(h2 k hk (Qy hl he.size)).trans (he.block hl)),h.row.ext he⟩
theorem Uf.set(h:Uf w b g lg base root ks cs alive)(j:Nat)(x:Bool):Uf (w.setCell ⟨g,j,none⟩ (.bool x)) b g lg base root ks cs (alive.set j x):=by
 refine⟨fun w2 h1 h2=> ?_,(h.row.set j x).1⟩;rw [List.length_set];have e:(w.setCell ⟨g,j,none⟩ (.bool x)).heap.size=w.heap.size:=by simp [World.setCell]
 rw [e]at h1 h2;exact h.keep w2 h1 (fun k hk hl=>(h2 k hk hl).trans (Below.heap_setCell _ _ _ _ hk))
theorem Uf.grown {r:Option Nat}(h:Uf w b g lg base root ks cs alive)(hg:w.grownBy w' r)(hr:∀k,r=some k->w.heap.size<=k):Uf w' b g lg base root ks cs alive :=
 h.ext ((Ext.refl w).grown hg hr)
theorem Uf.cells(h:Uf w b g lg base root ks cs alive):∃Ab cb Ar cr,w.cell? ⟨b,0,none⟩=some (.int .i64 lg)/\w.cell? ⟨b,1,none⟩=some (.slice Ab base.length cb)/\w.cell? ⟨b,2,none⟩=some (.slice Ar root.length cr)/\w.cell? ⟨b,5,none⟩=some (.slice (some ⟨g,0,none⟩) alive.length alive.length)/\b < w.heap.size:=by
 obtain⟨vb,vr,vk,vc,h0,⟨Ab,cb,rfl,_⟩,⟨Ar,cr,rfl,_⟩,_,_⟩:=h.keep w (Nat.le_refl _) (fun _ _ _=>rfl);obtain⟨⟨d0,d1,d2,d3,d4,d5⟩,_,hl⟩:=Yx h0;exact⟨Ab,cb,Ar,cr,d0,d1,d2,d5,hl⟩
end
theorem Qok {lg:Int} {ks:List Kn} {cs:List Cm} {m:Nat} {al:List Bool} {t:Nat} {i:Int}(h0: -4<=i)(h1:i < m)(h:Yy lg ks cs al t i=true)(hn:∀j:Int,-4<=j->j < i->Yy lg ks cs al t j=false):Nj lg ks cs m al t=some i:=by
 unfold Nj;rw [List.find?_map];have e:(List.range (m+4)).find? ((fun i=>Yy lg ks cs al t i) ∘ fun(j:Nat)=>(j:Int) - 4)=some (i+4).toNat:=by
  rw [List.find?_range_eq_some];refine⟨?_,List.mem_range.2 (by omega),fun j hj=> ?_⟩
  ·show Yy lg ks cs al t (((i+4).toNat:Nat) - 4:Int)=true;rw [show(((i+4).toNat:Nat) - 4:Int)=i by omega];exact h
  show(!Yy lg ks cs al t ((j:Int) - 4))=true;rw [hn _ (by omega) (by omega)];rfl
 rw [e];show some ((((i+4).toNat:Nat):Int) - 4)=some i
 congr 1
 omega
theorem Qh1 {lg:Int} {ks:List Kn} {cs:List Cm} {m:Nat} {al:List Bool} {t:Nat}(hn:∀j:Int,-4<=j->j < m->Yy lg ks cs al t j=false):Nj lg ks cs m al t=none:=by
 unfold Nj;rw [List.find?_eq_none];intro i hi;obtain⟨j,hj,rfl⟩:=List.mem_map.1 hi;have:=List.mem_range.1 hj;rw [hn _ (by omega) (by omega)];simp
theorem Qmb {why:List Bool->Nat->Option Int}(k:Nat)(s:List Bool×List (Nat×Int)):Vl why (List.range (k+1)) s=Xs why (Vl why (List.range k) s) k:=by
 rw [List.range_succ,Qzj];rfl
def Cx(l:List Nat):List Value:=l.map fun(u:Nat)=>Value.int .u64 (u:Int)
def Ww(l:List Int):List Value:=l.map fun(u:Int)=>Value.int .i64 u
def Yi(X:Nat->Prop)(w w':World):Prop:=w.heap.size<=w'.heap.size/\∀k,¬X k->k < w.heap.size->w'.heap[k]?=w.heap[k]?
def Frz(X:Nat->Prop)(w:World)(P:World->Prop):Prop:=∀w',Yi X w w'->P w'
section
variable {X X':Nat->Prop} {w w':World} {P:World->Prop}
theorem Yi.of_ext(h:Ext w w'):Yi X w w':=⟨h.size,fun _ _ hk=>h.block hk⟩
theorem Yi.trans {w2:World}(h:Yi X w w')(h2:Yi X' w' w2)(hx:∀k,k < w.heap.size->X' k->X k):Yi X w w2 :=
 ⟨Qx h.1 h2.1,fun k hk hl=>(h2.2 k (fun e=>hk (hx k hl e)) (Qy hl h.1)).trans (h.2 k hk hl)⟩
theorem Frz.next(h:Frz X w P)(hs:Yi X w w')(hx:∀k,k < w.heap.size->X' k->X k):Frz X' w' P:=fun w2 h2=>h w2 (hs.trans h2 hx)
theorem Frz.here(h:Frz X w P):P w:=h w ⟨Nat.le_refl _,fun _ _ _=>rfl⟩
theorem Frz.of_row {base g:Nat} {l:List Bool}(h:Vr base w g l)(hg:¬X g):Frz X w fun w'=>Va w' (.slice (some ⟨g,0,none⟩) l.length l.length) l:=fun w2 h2=>by
 have:Vr base w2 g l:=Zi h fun k hk=>by
  have e:k=g:=by injection hk with hk;exact hk.symm
  subst e;exact h2.2 k hg h.lt.2
 exact this.bools
theorem Qtk(w:World):Va w (.slice none 0 0) []:=⟨none,0,rfl,Nat.le_refl _,by unfold maxLen;omega,fun h=>absurd rfl h⟩
theorem Qv6 {α:Type} {f:α->List Value} {c:Nat}(hf:∀a,(f a).length=c):∀(l:List α) (k:Nat) (n:α) (j:Nat),l[k]?=some n->j < c->(l.flatMap f)[k*c+j]?=(f n)[j]?
 |[],k,n,j,h,_=>by simp at h
 |m :: r,0,n,j,h,hj=>by
  simp only [List.getElem?_cons_zero,Option.some.injEq]at h;subst h;rw [List.flatMap_cons,List.getElem?_append_left (by rw [hf];omega)];simp
 |m :: r,k+1,n,j,h,hj=>by
  rw [List.flatMap_cons,List.getElem?_append_right (by rw [hf,Nat.add_mul];omega)];have e:(k+1)*c+j - (f m).length=k*c+j:=by rw [hf,Nat.add_mul];omega
  rw [e];exact Qv6 hf r k n j (by simpa using h) hj
theorem Oe {α:Type} {f:α->List Value} {c base:Nat} {e:TypeId} {v:Value} {l:List α}(hf:∀a,(f a).length=c)(h:w.ownsRow base e c v l.length (l.flatMap f)):
 ∃A cap,v=.slice A l.length cap/\l.length<=cap/\cap<=maxLen/\(l≠ []->∃g,A=some ⟨g,0,none⟩/\g < w.heap.size/\∀k n,l[k]?=some n->∀j,j < c->∀u,(f n)[j]?=some u->w.cell? ⟨g,k*c+j,none⟩=some u):=by
 obtain⟨_,h2⟩:=h;rcases h2 with⟨rfl,h0⟩|⟨g,cap,cur,rfl,hb,hg,hn,hcap,hsz,htk⟩
 ·have:l= []:=List.length_eq_zero_iff.1 h0;subst this;exact⟨none,0,rfl,Nat.le_refl _,by unfold maxLen;omega,fun h=>absurd rfl h⟩
 refine⟨some ⟨g,0,none⟩,cap,rfl,hn,hcap,fun hne=>⟨g,rfl,Qm hg,fun k n hk j hj u hu=> ?_⟩⟩;have h1:=Qv6 hf l k n j hk hj;rw [<-htk,hu]at h1;have h2:cur[k*c+j]?=some u:=by
  rw [List.getElem?_take]at h1
  split at h1
  ·simpa using h1
  cases h1
 simp [World.cell?,hg,h2]
end
def knV(r:Kn×Value):List Value:= [.int .i64 r.1.agent,.int .i64 (r.1.place:Int),r.2]
def cmV(r:Cm×Value×Value):List Value:= [.int .i64 (r.1.place:Int),.int .i64 r.1.group,r.2.1,r.2.2,.int .u64 (r.1.parts:Int)]
section
variable {w w':World} {base:Nat} {v:Value}
theorem Qro {rs:List (Kn×Value)}(h:w.ownsRow base 136 3 v rs.length (rs.flatMap knV))(hb:∀r∈rs,Va w r.2 r.1.holds):Kns w v (rs.map Prod.fst):=by
 obtain⟨A,cap,rfl,h1,h2,h3⟩:=Oe (f:=knV) (c:=3) (fun _=>rfl) h;refine⟨A,cap,by rw [List.length_map],by rw [List.length_map];exact h1,h2,fun hn=> ?_⟩;obtain⟨g,rfl,hg,hc⟩:=h3 (fun e=>hn (by rw [e];rfl));refine⟨_,rfl,hg,fun k n hk=> ?_⟩;rw [List.getElem?_map]at hk;cases hr:rs[k]? with
 |none=>rw [hr]at hk;cases hk
 |some r =>
  rw [hr]at hk;obtain rfl:r.1=n:=by simpa using hk
  have e0:((⟨g,0,none⟩:Addr).add (k*3))=⟨g,k*3,none⟩:=by
   unfold Addr.add
   split
   ·rename_i h;rw [h]
   simp
  rw [e0];exact⟨r.2,hc k r hr 0 (by omega) _ rfl,hc k r hr 1 (by omega) _ rfl,hc k r hr 2 (by omega) _ rfl,hb r (List.mem_of_getElem? hr)⟩
theorem Qn1 {rs:List (Cm×Value×Value)}(h:w.ownsRow base 138 5 v rs.length (rs.flatMap cmV))(hb:∀r∈rs,Va w r.2.1 r.1.x/\Va w r.2.2 r.1.y):Cms w v (rs.map Prod.fst):=by
 obtain⟨A,cap,rfl,h1,h2,h3⟩:=Oe (f:=cmV) (c:=5) (fun _=>rfl) h;refine⟨A,cap,by rw [List.length_map],by rw [List.length_map];exact h1,h2,fun hn=> ?_⟩;obtain⟨g,rfl,hg,hc⟩:=h3 (fun e=>hn (by rw [e];rfl));refine⟨_,rfl,hg,fun k n hk=> ?_⟩;rw [List.getElem?_map]at hk;cases hr:rs[k]? with
 |none=>rw [hr]at hk;cases hk
 |some r =>
  rw [hr]at hk;obtain rfl:r.1=n:=by simpa using hk
  have e0:((⟨g,0,none⟩:Addr).add (k*5))=⟨g,k*5,none⟩:=by
   unfold Addr.add
   split
   ·rename_i h;rw [h]
   simp
  rw [e0];have hm:=hb r (List.mem_of_getElem? hr);exact⟨r.2.1,r.2.2,hc k r hr 0 (by omega) _ rfl,hc k r hr 1 (by omega) _ rfl,hc k r hr 2 (by omega) _ rfl,hc k r hr 3 (by omega) _ rfl,hc k r hr 4 (by omega) _ rfl,hm.1,hm.2⟩
end
def spc(b g:Nat)(vk vc:Value)(k:Nat):Prop:=k=b\/k=g\/vk.ownBlock=some k\/vc.ownBlock=some k
structure Kp (w1 w:World) (b g:Nat) (lg:Int) (base:List (List Nd)) (root:List Bool) (ks:List Kn) (cs:List Cm) (alive:List Bool) (vk vc:Value):Prop where
 ext:Ext w1 w
 lo:w1.heap.size<=b/\b≠g
 cells:∃vb vr,w.heap[b]?=some (.cells #[.int .i64 lg,vb,vr,vk,vc,.slice (some ⟨g,0,none⟩) alive.length alive.length] 93 (0,0))/\Fl w1 vb base/\Frz (spc b g vk vc) w (fun w'=>Va w' vr root)
 al:Vr w1.heap.size w g alive
 kn:∃rs:List (Kn×Value),rs.map Prod.fst=ks/\w.ownsRow w1.heap.size 136 3 vk rs.length (rs.flatMap knV)/\∀r∈rs,Frz (spc b g vk vc) w (fun w'=>Va w' r.2 r.1.holds)
 cm:∃rs:List (Cm×Value×Value),rs.map Prod.fst=cs/\w.ownsRow w1.heap.size 138 5 vc rs.length (rs.flatMap cmV)/\∀r∈rs,Frz (spc b g vk vc) w (fun w'=>Va w' r.2.1 r.1.x)/\Frz (spc b g vk vc) w (fun w'=>Va w' r.2.2 r.1.y)
 dk:vk.ownBlock≠some b/\vk.ownBlock≠some g
 dc:vc.ownBlock≠some b/\vc.ownBlock≠some g
 dd:∀k,vk.ownBlock=some k->vc.ownBlock≠some k
section
variable {w1 w w':World} {b g:Nat} {lg:Int} {base:List (List Nd)} {root:List Bool} {ks:List Kn} {cs:List Cm} {alive:List Bool} {vk vc:Value}
theorem Kp.blt(h:Kp w1 w b g lg base root ks cs alive vk vc):b < w.heap.size:=by
 obtain⟨_,_,hb,_⟩:=h.cells;exact Qm hb
theorem Kp.next(h:Kp w1 w b g lg base root ks cs alive vk vc)(he:Ext w w'):Kp w1 w' b g lg base root ks cs alive vk vc:=by
 refine⟨h.ext.trans he,h.lo,?_,h.al.ext he,?_,?_,h.dk,h.dc,h.dd⟩
 ·obtain⟨vb,vr,hb,h1,h2⟩:=h.cells;exact⟨vb,vr,(he.block (Qm hb)).trans hb,h1,h2.next (Yi.of_ext he) fun _ _ h=>h⟩
 ·obtain⟨rs,e,h1,h2⟩:=h.kn;exact⟨rs,e,Zf h1 he,fun r hr=>(h2 r hr).next (Yi.of_ext he) fun _ _ h=>h⟩
 obtain⟨rs,e,h1,h2⟩:=h.cm;exact⟨rs,e,Zf h1 he,fun r hr=>⟨(h2 r hr).1.next (Yi.of_ext he) fun _ _ h=>h,(h2 r hr).2.next (Yi.of_ext he) fun _ _ h=>h⟩⟩
theorem Qhx {e:TypeId} {size n c m:Nat} {bs:Nat} {xs:List Value}(h:w.ownsRow bs e size (.slice (some ⟨g,0,none⟩) n c) m xs):w.ownsRow g e size (.slice (some ⟨g,0,none⟩) n c) m xs:=by
 obtain⟨h1,h2⟩:=h;refine⟨h1,?_⟩;rcases h2 with h2|⟨g',cap,cur,e,h3,h4⟩
 ·exact .inl h2
 have hg:g'=g:=by
  injection e with e;injection e with e;injection e with e;exact e.symm
 exact .inr ⟨g',cap,cur,e,by omega,h4⟩
theorem Kp.engX(h:Kp w1 w b g lg base root ks cs alive vk vc):Uf w b g lg base root ks cs alive:=by
 refine⟨fun w2 h1 h2=> ?_,Qhx h.al⟩;have hs:Yi (spc b g vk vc) w w2:=⟨h1,fun k hk hl=>h2 k (fun e=>hk (.inr (.inl e))) hl⟩;obtain⟨vb,vr,hb,hf,hr⟩:=h.cells;obtain⟨rs,rfl,k1,k2⟩:=h.kn;obtain⟨ss,rfl,c1,c2⟩:=h.cm;have he:Ext w1 { w2 with os:=w1.os,tape:=w1.tape,output:=w1.output } :=⟨rfl,rfl,rfl,Qx h.ext.size h1,fun k hk=>(h2 k (fun e=>by have:=h.al.lt.1;omega) (Qy hk h.ext.size)).trans (h.ext.block hk)⟩;have hf3:=hf.ext he;have hf2:Fl w2 vb base:=hf3;refine⟨vb,vr,vk,vc,(h2 b h.lo.2 (Qm hb)).trans hb,hf2,hr w2 hs,Qro (Zi k1 fun k hk=>h2 k (fun e=>h.dk.2 (e▸hk)) (k1.lt k hk).2) fun r hr=>k2 r hr w2 hs,Qn1 (Zi c1 fun k hk=>h2 k (fun e=>h.dc.2 (e▸hk)) (c1.lt k hk).2) fun r hr=>⟨(c2 r hr).1 w2 hs,(c2 r hr).2 w2 hs⟩⟩
theorem Es {a0 a1 a2 a3 a4 a5 u:Value} {t:TypeId}(h:w.heap[b]?=some (.cells #[a0,a1,a2,a3,a4,a5] t (0,0))):
 (w.setCell ⟨b,2,none⟩ u).heap[b]?=some (.cells #[a0,a1,u,a3,a4,a5] t (0,0))/\(w.setCell ⟨b,3,none⟩ u).heap[b]?=some (.cells #[a0,a1,a2,u,a4,a5] t (0,0))/\(w.setCell ⟨b,4,none⟩ u).heap[b]?=some (.cells #[a0,a1,a2,a3,u,a5] t (0,0)):=by
 refine⟨?_,?_,?_⟩ <;>(simp only [World.setCell,Array.getElem?_modify,h,if_true,Option.map_some];simp)
theorem Mp(k:Nat)(u:Value):Yi (fun x=>x=b) w (w.setCell ⟨b,k,none⟩ u):=
 ⟨by simp [World.setCell],fun x hx _=>Below.heap_setCell _ _ _ _ hx⟩
theorem Qyg {r:Option Nat}(h:w.grownBy w' r):Yi (fun x=>r=some x) w w':=⟨h.size,fun k hk hl=>h.block k hl (fun e=>hk e.symm)⟩
theorem Qvx {a:World}(h:Ext a w)(hb:a.heap.size<=b)(k:Nat)(u:Value):Ext a (w.setCell ⟨b,k,none⟩ u):=h.setCell (p:=⟨b,k,none⟩) hb u
theorem Kp.root_ {vr:Value} {root':List Bool}(h:Kp w1 w b g lg base root ks cs alive vk vc)(hr:Frz (spc b g vk vc) w (fun w'=>Va w' vr root')):Kp w1 (w.setCell ⟨b,2,none⟩ vr) b g lg base root' ks cs alive vk vc:=by
 have hs:=Mp (w:=w) (b:=b) 2 vr;have hx:∀k,k < w.heap.size->spc b g vk vc k->spc b g vk vc k:=fun _ _ h=>h
 have hs':Yi (spc b g vk vc) w (w.setCell ⟨b,2,none⟩ vr):=⟨hs.1,fun k hk hl=>hs.2 k (fun e=>hk (.inl e)) hl⟩;refine⟨Qvx h.ext h.lo.1 2 vr,h.lo,?_,Zi h.al fun k hk=>hs.2 k (fun e=> ?_) ?_,?_,?_,h.dk,h.dc,h.dd⟩
 ·obtain⟨vb,_,hb,h1,_⟩:=h.cells;exact⟨vb,vr,(Es hb).1,h1,hr.next hs' hx⟩
 ·have:k=g:=by injection hk with hk;exact hk.symm
  exact h.lo.2 (by omega)
 ·exact by have e:k=g:=by injection hk with hk;exact hk.symm
           rw [e];exact h.al.lt.2
 ·obtain⟨rs,e,h1,h2⟩:=h.kn;exact⟨rs,e,Zi h1 fun k hk=>hs.2 k (fun e=>h.dk.1 (e▸hk)) (h1.lt k hk).2,fun r hr=>(h2 r hr).next hs' hx⟩
 obtain⟨rs,e,h1,h2⟩:=h.cm;exact⟨rs,e,Zi h1 fun k hk=>hs.2 k (fun e=>h.dc.1 (e▸hk)) (h1.lt k hk).2,fun r hr=>⟨(h2 r hr).1.next hs' hx,(h2 r hr).2.next hs' hx⟩⟩
theorem Kp.know {w4:World} {c:Obj} {vk' vh:Value} {n:Kn} {rs:List (Kn×Value)}(h:Kp w1 w b g lg base root ks cs alive vk vc)(hrs:rs.map Prod.fst=ks)(hkn:∀r∈rs,Frz (spc b g vk vc) w (fun w'=>Va w' r.2 r.1.holds))
 (hh:Frz (fun k=>spc b g vk vc k) w (fun w'=>Va w' vh n.holds))(hrow:w4.ownsRow w1.heap.size 136 3 vk' (rs.length+1) (rs.flatMap knV++knV (n,vh)))(hg:(w.alloc c).grownBy w4 vk.ownBlock)(ho:vk'.ownBlock=vk.ownBlock\/vk'.ownBlock=some (w.alloc c).heap.size):
 Kp w1 (w4.setCell ⟨b,3,none⟩ vk') b g lg base root (ks++ [n]) cs alive vk' vc:=by
 have hs1:Yi (fun x=>vk.ownBlock=some x) w w4:=(Yi.of_ext ((Ext.refl w).alloc c)).trans (Qyg hg) (fun _ _ h=>h);have hsz:w.heap.size < (w.alloc c).heap.size:=by simp
 have hs2:Yi (fun x=>x=b\/vk.ownBlock=some x) w (w4.setCell ⟨b,3,none⟩ vk'):=by
  refine⟨by rw [show(w4.setCell ⟨b,3,none⟩ vk').heap.size=w4.heap.size by simp [World.setCell]];exact hs1.1,fun k hk hl=> ?_⟩;rw [(Mp (w:=w4) (b:=b) 3 vk').2 k (fun e=>hk (.inl e)) (Qy hl hs1.1)];exact hs1.2 k (fun e=>hk (.inr e)) hl
 have hs3:Yi (spc b g vk vc) w (w4.setCell ⟨b,3,none⟩ vk'):=⟨hs2.1,fun k hk hl=>hs2.2 k (fun e=>hk (e.elim .inl fun e=> .inr (.inr (.inl e)))) hl⟩;have hx:∀k,k < w.heap.size->spc b g vk' vc k->spc b g vk vc k:=fun k hl e=>by
  rcases e with e|e|e|e
  ·exact .inl e
  ·exact .inr (.inl e)
  ·rcases ho with ho|ho
   ·exact .inr (.inr (.inl (ho▸e)))
   rw [ho]at e;injection e with e;omega
  exact .inr (.inr (.inr e))
 have hbl:=h.blt;have hkl:∀k,vk.ownBlock=some k->w1.heap.size<=k:=fun k hk=>by
  obtain⟨_,_,h1,_⟩:=h.kn;exact(h1.lt k hk).1
 have hgl:=h.al.lt;refine⟨?_,h.lo,?_,Zi h.al fun k hk=> ?_,?_,?_,?_,h.dc,fun k hk hk2=> ?_⟩
 ·exact Qvx ((h.ext.alloc c).grown hg hkl) h.lo.1 3 vk'
 ·obtain⟨vb,vr,hb,h1,h2⟩:=h.cells;have hb4:w4.heap[b]?=_:=(hs1.2 b (fun e=>h.dk.1 e) hbl).trans hb;exact⟨vb,vr,(Es hb4).2.1,h1,h2.next hs3 hx⟩
 ·have e:k=g:=by injection hk with hk;exact hk.symm
  subst e;exact hs2.2 k (fun e=>e.elim (fun e=>h.lo.2 e.symm) (fun e=>h.dk.2 e)) hgl.2
 ·refine⟨rs++ [(n,vh)],by rw [List.map_append,hrs];rfl,?_,fun r hr=> ?_⟩
  ·rw [List.length_append,List.length_singleton,List.flatMap_append,List.flatMap_singleton];refine Zi hrow fun k hk=>(Mp (w:=w4) (b:=b) 3 vk').2 k (fun e=> ?_) (hrow.lt k hk).2
   subst e;rcases ho with ho|ho
   ·exact h.dk.1 (ho▸hk)
   rw [ho]at hk;injection hk with hk;omega
  rcases List.mem_append.1 hr with hr|hr
  ·exact(hkn r hr).next hs3 hx
  rw [List.mem_singleton.1 hr];exact hh.next hs3 hx
 ·obtain⟨ss,e,h1,h2⟩:=h.cm;exact⟨ss,e,Zi h1 fun k hk=>hs2.2 k (fun e=>e.elim (fun e=>h.dc.1 (e▸hk)) (fun e=>h.dd k e hk)) (h1.lt k hk).2,fun r hr=>⟨(h2 r hr).1.next hs3 hx,(h2 r hr).2.next hs3 hx⟩⟩
 ·rcases ho with ho|ho
  ·rw [ho];exact h.dk
  rw [ho];exact⟨fun e=>by injection e with e;omega,fun e=>by injection e with e;omega⟩
 rcases ho with ho|ho
 ·exact h.dd k (ho▸hk) hk2
 rw [ho]at hk;injection hk with hk;obtain⟨_,_,h1,_⟩:=h.cm;have:=(h1.lt k hk2).2;omega
theorem Kp.comm {w4:World} {c:Obj} {vc' vx vy:Value} {n:Cm} {rs:List (Cm×Value×Value)}(h:Kp w1 w b g lg base root ks cs alive vk vc)(hrs:rs.map Prod.fst=cs)(hcm:∀r∈rs,Frz (spc b g vk vc) w (fun w'=>Va w' r.2.1 r.1.x)/\Frz (spc b g vk vc) w (fun w'=>Va w' r.2.2 r.1.y))
 (hhx:Frz (spc b g vk vc) w (fun w'=>Va w' vx n.x))(hhy:Frz (spc b g vk vc) w (fun w'=>Va w' vy n.y))(hrow:w4.ownsRow w1.heap.size 138 5 vc' (rs.length+1) (rs.flatMap cmV++cmV (n,vx,vy)))(hg:(w.alloc c).grownBy w4 vc.ownBlock)(ho:vc'.ownBlock=vc.ownBlock\/vc'.ownBlock=some (w.alloc c).heap.size):
 Kp w1 (w4.setCell ⟨b,4,none⟩ vc') b g lg base root ks (cs++ [n]) alive vk vc':=by
 have hs1:Yi (fun x=>vc.ownBlock=some x) w w4:=(Yi.of_ext ((Ext.refl w).alloc c)).trans (Qyg hg) (fun _ _ h=>h);have hsz:w.heap.size < (w.alloc c).heap.size:=by simp
 have hs2:Yi (fun x=>x=b\/vc.ownBlock=some x) w (w4.setCell ⟨b,4,none⟩ vc'):=by
  refine⟨by rw [show(w4.setCell ⟨b,4,none⟩ vc').heap.size=w4.heap.size by simp [World.setCell]];exact hs1.1,fun k hk hl=> ?_⟩;rw [(Mp (w:=w4) (b:=b) 4 vc').2 k (fun e=>hk (.inl e)) (Qy hl hs1.1)];exact hs1.2 k (fun e=>hk (.inr e)) hl
 have hs3:Yi (spc b g vk vc) w (w4.setCell ⟨b,4,none⟩ vc'):=⟨hs2.1,fun k hk hl=>hs2.2 k (fun e=>hk (e.elim .inl fun e=> .inr (.inr (.inr e)))) hl⟩;have hx:∀k,k < w.heap.size->spc b g vk vc' k->spc b g vk vc k:=fun k hl e=>by
  rcases e with e|e|e|e
  ·exact .inl e
  ·exact .inr (.inl e)
  ·exact .inr (.inr (.inl e))
  rcases ho with ho|ho
  ·exact .inr (.inr (.inr (ho▸e)))
  rw [ho]at e;injection e with e;omega
 have hbl:=h.blt;have hcl:∀k,vc.ownBlock=some k->w1.heap.size<=k:=fun k hk=>by
  obtain⟨_,_,h1,_⟩:=h.cm;exact(h1.lt k hk).1
 have hgl:=h.al.lt;refine⟨?_,h.lo,?_,Zi h.al fun k hk=> ?_,?_,?_,h.dk,?_,fun k hk hk2=> ?_⟩
 ·exact Qvx ((h.ext.alloc c).grown hg hcl) h.lo.1 4 vc'
 ·obtain⟨vb,vr,hb,h1,h2⟩:=h.cells;have hb4:w4.heap[b]?=_:=(hs1.2 b (fun e=>h.dc.1 e) hbl).trans hb;exact⟨vb,vr,(Es hb4).2.2,h1,h2.next hs3 hx⟩
 ·have e:k=g:=by injection hk with hk;exact hk.symm
  subst e;exact hs2.2 k (fun e=>e.elim (fun e=>h.lo.2 e.symm) (fun e=>h.dc.2 e)) hgl.2
 ·obtain⟨ss,e,h1,h2⟩:=h.kn;exact⟨ss,e,Zi h1 fun k hk=>hs2.2 k (fun e=>e.elim (fun e=>h.dk.1 (e▸hk)) (fun e=>h.dd k hk e)) (h1.lt k hk).2,fun r hr=>(h2 r hr).next hs3 hx⟩
 ·refine⟨rs++ [(n,vx,vy)],by rw [List.map_append,hrs];rfl,?_,fun r hr=> ?_⟩
  ·rw [List.length_append,List.length_singleton,List.flatMap_append,List.flatMap_singleton];refine Zi hrow fun k hk=>(Mp (w:=w4) (b:=b) 4 vc').2 k (fun e=> ?_) (hrow.lt k hk).2
   subst e;rcases ho with ho|ho
   ·exact h.dc.1 (ho▸hk)
   rw [ho]at hk;injection hk with hk;omega
  rcases List.mem_append.1 hr with hr|hr
  ·exact⟨(hcm r hr).1.next hs3 hx,(hcm r hr).2.next hs3 hx⟩
  rw [List.mem_singleton.1 hr];exact⟨hhx.next hs3 hx,hhy.next hs3 hx⟩
 ·rcases ho with ho|ho
  ·rw [ho];exact h.dc
  rw [ho];exact⟨fun e=>by injection e with e;omega,fun e=>by injection e with e;omega⟩
 rcases ho with ho|ho
 ·exact h.dd k hk (ho▸hk2)
 rw [ho]at hk2;injection hk2 with hk2;obtain⟨_,_,h1,_⟩:=h.kn;have:=(h1.lt k hk).2;omega
theorem Kp.start(he:Ext w1 w)(hlo:w1.heap.size<=b/\b≠g)(hb:w.heap[b]?=some (.cells #[.int .i64 lg,vk,.slice none 0 0,.slice none 0 0,.slice none 0 0,.slice (some ⟨g,0,none⟩) alive.length alive.length] 93 (0,0)))(hf:Fl w1 vk base)(hal:Vr w1.heap.size w g alive):
 Kp w1 w b g lg base [] [] [] alive (.slice none 0 0) (.slice none 0 0):=
 ⟨he,hlo,⟨_,_,hb,hf,fun _ _=>Qtk _⟩,hal,⟨[],rfl,World.ownsRow_nil _ _ _ _,by simp⟩,⟨[],rfl,World.ownsRow_nil _ _ _ _,by simp⟩,⟨by simp [Value.ownBlock],by simp [Value.ownBlock]⟩,⟨by simp [Value.ownBlock],by simp [Value.ownBlock]⟩,fun k hk=>by simp [Value.ownBlock]at hk⟩
theorem Kp.fresh {w0:World} {gh:Nat} {l:List Bool}(h:Kp w1 w0 b g lg base root ks cs alive vk vc)(hr:Vr w0.heap.size w gh l):Frz (spc b g vk vc) w (fun w'=>Va w' (.slice (some ⟨gh,0,none⟩) l.length l.length) l):=
 Frz.of_row hr fun e=>by
  have h1:=hr.lt.1;rcases e with e|e|e|e
  ·have:=h.blt;omega
  ·have:=h.al.lt.2;omega
  ·obtain⟨_,_,h2,_⟩:=h.kn;have:=(h2.lt gh e).2;omega
  obtain⟨_,_,h2,_⟩:=h.cm;have:=(h2.lt gh e).2;omega
theorem Kp.reads(h:Kp w1 w b g lg base root ks cs alive vk vc):w.cell? ⟨b,3,none⟩=some vk/\w.cell? ⟨b,4,none⟩=some vc/\w.cell? ⟨b,5,none⟩=some (.slice (some ⟨g,0,none⟩) alive.length alive.length)/\(∀j,w.frozen? ⟨b,j,none⟩=false)/\b < w.heap.size:=by
 obtain⟨_,_,hb,_⟩:=h.cells;obtain⟨⟨_,_,_,d3,d4,d5⟩,hf,hl⟩:=Yx hb;exact⟨d3,d4,d5,hf,hl⟩
theorem Kp.eng(h:Kp w1 w b g lg base root ks cs alive vk vc):Eng w b lg base root ks cs alive:=h.engX.eng
end
end Go.Proofs.YtkmclcmnoicagaaGreatDoor
