/- types' path: the walk. -/
import Derived.Test.YtkmclcmnoicagaaGreatDoorT32
import Derived.Maps.OwnOps
namespace Go.Proofs.YtkmclcmnoicagaaGreatDoor
set_option maxRecDepth 100000
set_option maxHeartbeats 128000000
open Go.RowKit
open Go.Maps (has)
def Qag(step:Nat->Nat->Bool)(y:Nat->Bool)(t:Nat)(w:World)(e:Ending)(w':World):Prop :=
 (e=.returned (.slice none 0 0)/\Ext w w'/\¬∃u,Rch (fun a b=>step a b=true) t u/\y u=false)\/
 (∃ad c ls,e=.returned (.slice (some ad) ls.length c)/\Ext w w'/\w'.ownsRow w.heap.size 3 1 (.slice (some ad) ls.length c) ls.length (Gk ls)/\ls≠ []/\Mo step t ls/\(∀u,ls[0]?=some u->y u=false)/\∃u,Rch (fun a b=>step a b=true) t u/\y u=false)
theorem Qpd {P:Nat->Bool}(k:Nat):(List.range (k+1)).any P=((List.range k).any P||P k):=by
 rw [List.range_succ,List.any_append];simp
theorem Qg9(q:List Nat)(u:Nat):Gk (q++ [u])=Gk q++ [.int .i64 (u:Int)]:=by
 unfold Gk;rw [List.map_append];rfl
theorem Lo {a:Nat}(h:a<=1000000):Yj (a:Int):=⟨by omega,by omega⟩
theorem Qfb(b:Nat)(lg:Int)(base:List (List Nd))(root:List Bool)(ks:List Kn)(cs:List Cm)(alive:List Bool)(c:Cm)(t:Nat)(vx vy:Value)(w:World)
 (hE:Eng w b lg base root ks cs alive)(hlg:0<=lg/\lg<=6)(ht:t < 4096)(hm:alive.length<=4096)(hks:∀k∈ks,k.place < 64/\alive.length<=k.holds.length)(hx:Va w vx c.x)(hy:Va w vy c.y)(hxl:c.x.length=alive.length)(hyl:c.y.length=alive.length)(hg0:0<=c.group/\c.group < 16)(hpos:0 < alive.length):
 Calls Tryz.prog 139 #[.pointer (some ⟨b,0,none⟩),.agg #[.int .i64 (c.place:Int),.int .i64 c.group,vx,vy,.int .u64 (c.parts:Int)],.int .u64 (t:Int)] w (Qag (Tb lg ks alive c) (fun u=>c.y.getD u false) t w):=by
 have hmm:= @run_makeMap Tryz.prog;obtain⟨Ab,cb,Ar,cr,Ak,ck,Ac,cc,Aa,ca,d0,d1,d2,d3,d4,d5,hbl,_,_,hkn,_,hal⟩:=hE.cells;have HE:=Qq hE;obtain⟨ag,rfl,hagb,_⟩:=Vh hal hpos;obtain⟨Ax,cx,rfl,hbx⟩:=hx;obtain⟨Ay,cy,rfl,hby⟩:=hy;obtain⟨ax,rfl,hxb,_⟩:=Vh hbx (show 0 < c.x.length by omega);obtain⟨ay,rfl,hyb,_⟩:=Vh hby (show 0 < c.y.length by omega);have HA:=Qq hal;have HBX:=Qq hbx;have HBY:=Qq hby;have hac:=hal.1;have hca:=hal.2.1;have hxc:=hbx.1;have hcx:=hbx.2.1;have hyc:=hby.1;have hcy:=hby.2.1;unfold maxLen at hca hcx hcy;have HKS:=Qq hks;obtain⟨gn,hgn⟩:=Int.eq_ofNat_of_zero_le hg0.1
 have hg16:gn < 16:=by omega
 obtain⟨m,hmdef⟩:∃m,m=alive.length:=⟨_,rfl⟩;have HXL:=Qq (show c.x.length=m by rw [hxl,hmdef]);have HYL:=Qq (show c.y.length=m by rw [hyl,hmdef]);rw [<-hmdef]at hm hpos d5 hac;rw [show c.x.length=m by rw [hxl,hmdef]]at hxc⊢;rw [show c.y.length=m by rw [hyl,hmdef]]at hyc⊢;rw [hgn];have HGN:=Qq hgn;have HM:=Qq hmdef;obtain⟨st,hst⟩:∃s,s=Tb lg ks alive c:=⟨_,rfl⟩;have HST:=Qq hst;obtain⟨yy,hyy⟩:∃s:Nat->Bool,s=fun u=>c.y.getD u false:=⟨_,rfl⟩
 have HYY:=Qq hyy;rw [<-hst,<-hyy];have HSTEP:=Qq (show ∀a u,st a u=(alive.getD u false&&(c.x.getD u false&&(List.range 4).any fun(i:Nat)=>Yl (gn:Int) i&&Ze lg ks (i:Int) a u))from fun a u=>by rw [hst];unfold Tb;rw [hgn]);obtain⟨iI,hiI,hzI0,hzI1,hzI2⟩:=info_parts Iq;have D5:=Qq d5;clear hE hal hbx hby hks hgn hmdef hst hyy hkn hxl hyl d0 d1 d2 d3 d4 d5 hg0;go_enter Tryz.func139,Tryz.ntmps139;go_wp2_with fail
 have HP0:=Qq (show Nf w (((w.alloc (.cells #[.int .i64 (c.place:Int),.int .i64 (gn:Int),.slice (some ax) m cx,.slice (some ay) m cy,.int .u64 (c.parts:Int)] 138)).alloc (.map #[] 0)).alloc (.cells #[.int .i64 (t:Int)] 3)) #[.int .i64 (c.place:Int),.int .i64 (gn:Int),.slice (some ax) m cx,.slice (some ay) m cy,.int .u64 (c.parts:Int)] (.slice (some ⟨w.heap.size+1+1,0,none⟩) 1 1) [t] [0]from
  ⟨((Qz.alloc _).alloc _).alloc _,((Qz.alloc _).alloc _).block (by simp)|>.trans (heap_alloc_new _ _),by
    have:=(Gg.made (w.alloc (.cells #[.int .i64 (c.place:Int),.int .i64 (gn:Int),.slice (some ax) m cx,.slice (some ay) m cy,.int .u64 (c.parts:Int)] 138)) t);simp only [World.size_alloc]at this;exact this.kept ((Qz.alloc _).block (by simp)),by
    have:=Qsm ((w.alloc (.cells #[.int .i64 (c.place:Int),.int .i64 (gn:Int),.slice (some ax) m cx,.slice (some ay) m cy,.int .u64 (c.parts:Int)] 138)).alloc (.map #[] 0)) (w.heap.size+2) (by simp) t
    simpa using this⟩)
 go_loopw [8,9] (fun vq vi wr=>∃i:Nat,vi=.int .i64 (i:Int)/\i<=m+1/\Hid (∃q ps,Nf w wr #[.int .i64 (c.place:Int),.int .i64 (gn:Int),.slice (some ax) m cx,.slice (some ay) m cy,.int .u64 (c.parts:Int)] vq q ps/\Bfs st m t q ps/\i<=q.length/\(∀u∈q.tail,yy u=true)/\∀j,j < i->∀u,st (q.getD j 0) u=true->u∈q.tail)) (fun _ v _=>m+2 - (intOf v).toNat)
 case atStart=>exact⟨0,rfl,Nat.zero_le _,Qq ⟨[t],[0],HP0.out,Bfs.start _ _ _,Nat.zero_le _,(fun u hu=>by cases hu),(fun j hj=>absurd hj (by omega))⟩⟩
 case round =>
  clear HP0;obtain⟨i,rfl,hi,HREL⟩:=hrel;obtain⟨q,ps,hpi,hbf,hiq,hya,hcl⟩:=HREL.out;have HPI:=Qq hpi;have HBF:=Qq hbf;have HYA:=Qq hya;have HCL:=Qq hcl;have hql:=hbf.qlen;obtain⟨Aq,cq,rfl⟩:=Qt hpi.row;clear HREL hpi hbf hya hcl;by_cases hlt:i < q.length
  ·have hlti:(i:Int) < (q.length:Int):=by omega
   have dl5:=(HPI.out.ext.cell (p:=⟨b,5,none⟩) hbl).trans D5.out;obtain⟨wo,hwo⟩:∃v,v=wr:=⟨_,rfl⟩;subst hwo;go_wp2_with fail;clear dl5;go_loopw [8,33] (fun vq vk wr=>∃k:Nat,vk=.int .i64 (k:Int)/\k<=m/\Hid (∃q ps,Nf w wr #[.int .i64 (c.place:Int),.int .i64 (gn:Int),.slice (some ax) m cx,.slice (some ay) m cy,.int .u64 (c.parts:Int)] vq q ps/\Bfs st m t q ps/\i < q.length/\(∀u∈q.tail,yy u=true)/\(∀j,j < i->∀u,st (q.getD j 0) u=true->u∈q.tail)/\∀u,u < k->st (q.getD i 0) u=true->u∈q.tail)) (fun _ v _=>m - (intOf v).toNat)
   case atStart=>exact⟨0,rfl,Nat.zero_le _,Qq ⟨q,ps,HPI.out,HBF.out,hlt,HYA.out,HCL.out,(fun u hu=>absurd hu (by omega))⟩⟩
   case round =>
    clear HPI HBF HYA HCL hql hlt hlti hiq;obtain⟨k,rfl,hk,HREL⟩:=hrel;obtain⟨q,ps,hpi,hbf,hiq,hya,hcl,hpa⟩:=HREL.out;have HPI:=Qq hpi;have HBF:=Qq hbf;have HYA:=Qq hya;have HCL:=Qq hcl;have HPA:=Qq hpa;have hql:=hbf.qlen;obtain⟨Aq,cq,rfl⟩:=Qt hpi.row;clear HREL hpi hbf hya hcl hpa;by_cases hlt2:k < m
    ·have hk1:(k:Int) < (m:Int):=by omega
     obtain⟨_,e1,_,a0⟩:=Vh (HA.out.ext HPI.out.ext) (show k < alive.length by rw [<-HM.out];exact hlt2);injection e1 with e1;subst e1;obtain⟨_,e1,hxb2,x0⟩:=Vh (HBX.out.ext HPI.out.ext) (show k < c.x.length by rw [HXL.out];exact hlt2);injection e1 with e1;subst e1;obtain⟨_,e1,hyb2,y0⟩:=Vh (HBY.out.ext HPI.out.ext) (show k < c.y.length by rw [HYL.out];exact hlt2);injection e1 with e1;subst e1;obtain⟨b0,b1,b2,b3,b4,bl⟩:=It HPI.out.box;obtain⟨D,nD,hown,hnD,hhas,hkeys⟩:=HPI.out.map;have hkey:=Dg (Lo (a:=k) (by omega));have hhk:=hhas k;have HOWN:=Qq hown;have HHAS:=Qq hhas
     have HKEYS:=Qq hkeys;have HK1:=Qq (show ∀u,u < k+1->(u=k->st (q.getD i 0) k=true->k∈q.tail)->st (q.getD i 0) u=true->u∈q.tail from fun u hu h2 h3=>by
      by_cases e:u < k
      ·exact HPA.out u e h3
      have:u=k:=by omega
      subst this;exact h2 rfl h3)
     clear hhas hkeys;by_cases hseen:k∈q.tail
     ·have HSE:=Qq hseen;rw [decide_eq_true hseen]at hhk;clear hseen;go_wp2_with(at_lookup;refine wpList_lookup_own_ok_int _ rfl _ _ 178 rfl 3 3 .i64 Gn Tryz.underlying178 Tryz.underlying3 (Rt _) (w.heap.size+1) nD D rfl hown _ _ rfl hkey ?_;intro cc hat hwc;clear hat hwc);go_roundw
      case rel=>exact⟨k+1,by go_num,by omega,Qq ⟨q,ps,HPI.out,HBF.out,hiq,HYA.out,HCL.out,fun u hu=>HK1.out u hu (fun _ _=>HSE.out)⟩⟩
      case measure=>simp [intOf];omega
     have HSE:=Qq hseen;rw [decide_eq_false hseen]at hhk;clear hseen;have HSK:=Qq (fun a=>HSTEP.out a k);obtain⟨ak,hak⟩:∃x,x=alive.getD k false:=⟨_,rfl⟩;obtain⟨xk,hxk⟩:∃x,x=c.x.getD k false:=⟨_,rfl⟩;rw [<-hak,<-hxk]at HSK;rw [<-hak]at a0;rw [<-hxk]at x0;clear hak hxk;cases ak
     ·go_wp2_with(at_lookup;refine wpList_lookup_own_ok_int _ rfl _ _ 178 rfl 3 3 .i64 Gn Tryz.underlying178 Tryz.underlying3 (Rt _) (w.heap.size+1) nD D rfl hown _ _ rfl hkey ?_;intro cc hat hwc;clear hat hwc);go_roundw
      case rel=>exact⟨k+1,by go_num,by omega,Qq ⟨q,ps,HPI.out,HBF.out,hiq,HYA.out,HCL.out,fun u hu=>HK1.out u hu (fun _ h=>by rw [HSK.out]at h;cases h)⟩⟩
      case measure=>simp [intOf];omega
     cases xk
     ·go_wp2_with(at_lookup;refine wpList_lookup_own_ok_int _ rfl _ _ 178 rfl 3 3 .i64 Gn Tryz.underlying178 Tryz.underlying3 (Rt _) (w.heap.size+1) nD D rfl hown _ _ rfl hkey ?_;intro cc hat hwc;clear hat hwc);go_roundw
      case rel=>exact⟨k+1,by go_num,by omega,Qq ⟨q,ps,HPI.out,HBF.out,hiq,HYA.out,HCL.out,fun u hu=>HK1.out u hu (fun _ h=>by rw [HSK.out]at h;cases h)⟩⟩
      case measure=>simp [intOf];omega
     obtain⟨P,hP⟩:∃P:Nat->Bool,P=fun(j:Nat)=>Yl (gn:Int) j&&Ze lg ks (j:Int) (q.getD i 0) k:=⟨_,rfl⟩
     have HPP:=Qq hP;have HSP:=Qq (show st (q.getD i 0) k=(List.range 4).any P by rw [HSK.out,hP];rfl);have hqi:q.getD i 0 < 4096:=by
      by_cases e:i=0
      ·subst e;have:=HBF.out.head;rw [Qk,this];exact ht
      have:=HBF.out.lt _ (Qz9 (j:=i) (by omega) hiq);omega
     clear hP;go_wp2_with(at_lookup;refine wpList_lookup_own_ok_int _ rfl _ _ 178 rfl 3 3 .i64 Gn Tryz.underlying178 Tryz.underlying3 (Rt _) (w.heap.size+1) nD D rfl hown _ _ rfl hkey ?_;intro cc hat hwc;clear hat hwc);obtain⟨wm,hwm⟩:∃v,v=wr:=⟨_,rfl⟩;subst hwm;clear a0 x0 y0 b0 b1 b2 b3 b4 hown hhk hxb2 hyb2;go_loopw [14,57] (fun vb va wr=>∃j:Nat,va=.int .i64 (j:Int)/\j<=4/\vb=.bool ((List.range j).any P)/\Hid (Ext wm wr)) (fun _ v _=>4 - (intOf v).toNat)
     case atStart=>exact⟨0,rfl,Nat.zero_le _,rfl,Qq Qz⟩
     case round =>
      obtain⟨j,rfl,hj,rfl,HX⟩:=hrel;by_cases hj4:j < 4
      ·have hj1:(j:Int) < 4:=by omega
       have HSU:=Qq (Qpd (P:=P) j);have HN:=Qq (HPI.out.next HX.out);obtain⟨b0,b1,b2,b3,b4,bl⟩:=It HN.out.box;obtain⟨g2,cap2,hsl2,hgl2,_,hs12,hs22,hcell2⟩:=Uk HN.out.row hiq rfl;injection hsl2 with hsl2a _ hsl2b;subst hsl2a hsl2b;unfold maxLen at hs22;have hiqi:(i:Int) < (q.length:Int):=by omega
       obtain⟨qi,hqq⟩:∃x,x=q.getD i 0:=⟨_,rfl⟩;rw [<-hqq]at hcell2 hqi;have HQQ:=Qq hqq;have HPO:=Qq (Sk b lg base root ks cs alive (j:Int) qi k wr (HE.out.ext HN.out.ext) hlg (by omega) (by omega) (fun n hn=>⟨(HKS.out n hn).1,by have:=(HKS.out n hn).2;rw [<-HM.out]at this;omega⟩));have hbt:=Lj gn j (by omega);have HPJ:=Qq (show P j=(gn.testBit j&&Ze lg ks (j:Int) qi k) by rw [HPP.out,hqq];rfl);clear hqq;generalize (List.range j).any P=aj at HSU;obtain⟨pj,hpj⟩:∃x,x=Ze lg ks (j:Int) qi k:=⟨_,rfl⟩;rw [<-hpj]at HPO HPJ;obtain⟨gj,hgj⟩:∃x,x=gn.testBit j:=⟨_,rfl⟩;rw [<-hgj]at hbt HPJ
       clear hpj hgj;cases aj
       ·cases gj
        ·go_wp2_with fail;go_roundw
         case rel=>exact⟨j+1,by go_num,by omega,by rw [HSU.out,HPJ.out];rfl,HX⟩
         case measure=>simp [intOf];omega
        go_wp2_with fail;refine HPO.out.mono ?_;rintro e w2 ⟨rfl,hx2⟩;have HX2:=Qq (HX.out.trans hx2);clear hx2;go_wp2_with fail;go_roundw
        case rel=>exact⟨j+1,by go_num,by omega,by rw [HSU.out,HPJ.out];cases pj <;> rfl,HX2⟩
        case measure=>simp [intOf];omega
       go_wp2_with fail;go_roundw
       case rel=>exact⟨j+1,by go_num,by omega,by rw [HSU.out];rfl,HX⟩
       case measure=>simp [intOf];omega
      obtain rfl:4=j:=by omega
      have HN:=Qq (HPI.out.next HX.out);cases hany:(List.range 4).any P
      ·have HSF:=Qq (HSP.out.trans hany);clear hany;go_wp2_with fail;go_roundw
       case rel=>exact⟨k+1,by go_num,by omega,Qq ⟨q,ps,HN.out,HBF.out,hiq,HYA.out,HCL.out,fun u hu=>HK1.out u hu (fun _ h=>by rw [HSF.out]at h;cases h)⟩⟩
       case measure=>simp [intOf];omega
      have HSF:=Qq (HSP.out.trans hany);clear hany;have HSE2:=Qq (show Bfs st m t (q++ [k]) (ps++ [i])from HBF.out.push hiq hlt2 HSE.out HSF.out);obtain⟨D2,nD2,hown2,hn2,hh2,hk2⟩:=HN.out.map;have HH2:=Qq hh2;have HK2:=Qq hk2;have HOWN2:=Qq hown2;have hel:=Qzw (Lo (a:=i) (by omega));have hk64:=Lo (a:=k) (by omega);have hqp:0 < q.length:=by omega
      have HRL:=Qq HBF.out.len;clear hh2 hk2;go_upto_region 19 with(at_mapUpdate;refine wpList_mapUpdate_own _ rfl _ _ _ 178 rfl 3 3 Gn Tryz.underlying178 _ (w.heap.size+1) nD2 D2 rfl hown2 (by unfold maxLen;omega) _ _ _ rfl rfl hkey _ [] hel ?_;intro w6 hown6 hgrow6);have HG6:=Qq hgrow6;have HM6:=Qq (show Gg w6 (w.heap.size+1) (q++ [k]) (ps++ [i])from Gg.put HOWN2.out.isMap hn2 HH2.out HK2.out hqp HRL.out HSE.out hown6);have hw6:w.heap.size+2<=w6.heap.size:=by
       have h1:=HM6.out.lt;have h2:=HN.out.row6 hgrow6;obtain⟨g2,_,_,hgl2,hgb2,_⟩:=Uk h2 hiq rfl;omega
      have HR6:=Qq (HN.out.row6 hgrow6);clear hown2 hown6 hgrow6 hel hkey;have hc3:q.length+1<=maxLen:=by unfold maxLen;omega
      have hc4:(q.length+1)*8<=140737488355328:=by omega
      go_wp2_with(at_builtin;refine wpList_append_own_at _ rfl _ _ 36 rfl (w.heap.size+2) 3 iI (.int .i64 0) 1 8 Tryz.underlying36 hiI hzI0 hzI1 hzI2 rfl (by decide) _ q.length (Gk q) rfl (Zf HR6.out (Qz.alloc _)) ⟨_,0,none⟩ 1 1 [.int .i64 (k:Int)] rfl rfl (Jq _ _ _ (by simp)) (fun u hu=>by rw [List.mem_singleton.1 hu];rfl) hc3 hc4 (by simp;omega) ?_);intro v7 w7 hown7 hgrow7 _ hat7;have HP7:=Qq (Nf.push HN.out HG6.out HM6.out (Qz.alloc _) hown7 hgrow7);obtain⟨A7,c7,rfl⟩:=Qt hown7;clear hown7 hgrow7 hat7;obtain⟨b0,b1,b2,b3,b4,bl⟩:=It HP7.out.box;obtain⟨_,e1,hyb7,y0⟩:=Vh (HBY.out.ext HP7.out.ext) (show k < c.y.length by rw [HYL.out];exact hlt2)
      injection e1 with e1;subst e1;have HYK:=Qq (show yy k=c.y.getD k false by rw [HYY.out]);obtain⟨yk,hyk⟩:∃x,x=c.y.getD k false:=⟨_,rfl⟩;rw [<-hyk]at y0 HYK;clear hyk;have HMT:=Qq (show ∀u,u∈q.tail->u∈(q++ [k]).tail from fun u hu=>by rw [Tz hqp];exact List.mem_append_left _ hu);have HKT:=Qq (show k∈(q++ [k]).tail by rw [Tz hqp];simp);cases yk
      case true =>
       go_wp2_with fail;go_roundw
       case rel=>exact⟨k+1,by go_num,by omega,Qq ⟨q++ [k],ps++ [i],HP7.out,HSE2.out,by simp;omega,(fun u hu=>by
        rw [Tz hqp]at hu;rcases List.mem_append.1 hu with hu|hu
        ·exact HYA.out u hu
        ·rw [List.mem_singleton.1 hu];exact HYK.out),(fun j hj u hu=>by
        rw [Dk (by omega)]at hu;exact HMT.out u (HCL.out j hj u hu)),(fun u hu h=>by
        rw [Dk hiq]at h;by_cases e:u=k
        ·subst e;exact HKT.out
        exact HMT.out u (HK1.out u hu (fun e'=>absurd e' e) h))⟩⟩
       case measure=>simp [intOf];omega
      case false =>
       have HREACH:=Qq (show ∃u,Rch (fun a b=>st a b=true) t u/\yy u=false from⟨k,by
        have:=HSE2.out.reach q.length (by omega) (by simp);rw [Rv]at this;exact this,HYK.out⟩)
       have hq4:q.length<=4097:=by omega
       go_wp2_with fail;clear y0 b0 b1 b2 b3 b4;go_loopw [16,17] (fun vl vk wr=>∃kk:Nat,vk=.int .i64 (kk:Int)/\kk<=q.length/\Hid (∃ls,wr.ownsRow w7.heap.size 3 1 vl ls.length (Gk ls)/\Ext w7 wr/\Mo st ((q++ [k]).getD kk 0) ls/\(ls= []->kk=q.length)/\(∀u,ls[0]?=some u->u=k)/\ls.length+kk<=q.length)) (fun _ v _=>(intOf v).toNat)
       case atStart=>exact⟨q.length,by go_num,Nat.le_refl _,Qq ⟨[],World.ownsRow_nil _ _ _ _,Qz,trivial,fun _=>rfl,(fun u hu=>by cases hu),by simp⟩⟩
       case round =>
        obtain⟨kk,rfl,hkk,HREL⟩:=hrel;obtain⟨ls,hrl,hxl,hlk,hle,hhd,hbd⟩:=HREL.out;have HRL2:=Qq hrl;have HXL2:=Qq hxl;have HLK:=Qq hlk;have HLE:=Qq hle;have HHD:=Qq hhd;have HN2:=Qq (HP7.out.next hxl);obtain⟨Al,cl,rfl⟩:=Qt hrl;clear HREL hrl hxl hlk hle hhd;by_cases hk0:0 < kk
        ·have hk0i:(0:Int) < (kk:Int):=by omega
         obtain⟨g2,cap2,hsl2,hgl2,hgb2,hs12,hs22,hcell2⟩:=Uk (q:=q++ [k]) (n:=q.length+1) (j:=kk) (by have:=HP7.out.row;rw [List.length_append,List.length_singleton]at this;exact this) (by rw [List.length_append,List.length_singleton];omega) (by rw [List.length_append,List.length_singleton]);injection hsl2 with hsl2a _ hsl2b;subst hsl2a hsl2b;unfold maxLen at hs22;have hkki:(kk:Int) < ((q.length:Int)+1):=by omega
         have hkki2:(kk:Int) < ((q.length+1:Nat):Int):=by omega
         obtain⟨qk,hqk⟩:∃x,x=(q++ [k]).getD kk 0:=⟨_,rfl⟩;obtain⟨pk,hpk⟩:∃x,x=(ps++ [i]).getD kk 0:=⟨_,rfl⟩;have HPAR:=Qq (show pk < kk/\st ((q++ [k]).getD pk 0) qk=true by rw [hpk,hqk];exact HSE2.out.par kk (by omega) (by rw [List.length_append,List.length_singleton];omega));have hqk4:qk < 4096:=by
          have:=HSE2.out.lt _ (Qz9 (j:=kk) (by omega) (by rw [List.length_append,List.length_singleton];omega));rw [<-hqk]at this;omega
         have hpk1:=HPAR.out.1;have HKEY:=Qq (show ∀W,Ext w7 W->∃(D:D0) (n:Nat),W.ownsMap Tryz.prog 3 (plainElem Tryz.prog 3) (w.heap.size+1) n D/\∀z,D.atKey (.int .i64 (qk:Int)) z=.lit (.int .i64 (pk:Int))from fun W hW=>by
          obtain⟨D,n,h1,_,_,h4⟩:=(HP7.out.next hW).map;refine⟨D,n,h1,fun z=> ?_⟩;have:=h4 kk (by omega) (by rw [List.length_append,List.length_singleton];omega) z;rw [<-hqk,<-hpk]at this;exact this)
         have HLK2:=Qq (show Mo st ((q++ [k]).getD pk 0) (ls++ [qk])from Qyn ls qk _ (by rw [hqk];exact HLK.out) HPAR.out.2 rfl);have HHD2:=Qq (show ∀u,(ls++ [qk])[0]?=some u->u=k from fun u hu=>by
          cases hls:ls with
          |nil =>
           rw [hls]at hu;have e:=HLE.out hls;rw [e,Rv]at hqk;simp at hu;omega
          |cons a r =>
           rw [hls]at hu;refine HHD.out u ?_;rw [hls]
           simpa using hu)
         rw [<-hqk]at hcell2;have hcellr:=(HXL2.out.cell (p:=⟨g2,kk,none⟩) hgl2).trans hcell2;have hkq:=Dg (Lo (a:=qk) (by omega));clear hqk hpk;have hc5:ls.length+1<=maxLen:=by unfold maxLen;omega
         have hc6:(ls.length+1)*8<=140737488355328:=by omega
         go_upto_region 24 with(at_builtin;refine wpList_append_own_at _ rfl _ _ 36 rfl w7.heap.size 3 iI (.int .i64 0) 1 8 Tryz.underlying36 hiI hzI0 hzI1 hzI2 rfl (by decide) _ ls.length (Gk ls) rfl (Zf HRL2.out (Qz.alloc _)) ⟨_,0,none⟩ 1 1 [.int .i64 (qk:Int)] rfl rfl (Jq _ _ _ (by simp)) (fun u hu=>by rw [List.mem_singleton.1 hu];rfl) hc5 hc6 (Qx HXL2.out.size (by simp)) ?_;intro v9 w9 hown9 hgrow9 _ hat9);have HX9:=Qq (show Ext w7 w9 from Ext.grown (HXL2.out.alloc _) hgrow9 (fun g hg=>(HRL2.out.lt g hg).1));obtain⟨D9,n9,hown10,hk9⟩:=HKEY.out w9 HX9.out;have hcell9:=(HX9.out.cell (p:=⟨g2,kk,none⟩) hgl2).trans hcell2
         have hrow9:=Qq hown9;obtain⟨A9,c9,rfl⟩:=Qt hown9;clear hown9 hgrow9 hat9 hcellr;go_wp2_with(at_lookup;refine wpList_lookup_own_int _ rfl _ _ 178 rfl 3 3 .i64 Gn Tryz.underlying178 Tryz.underlying3 (Rt _) (w.heap.size+1) n9 D9 rfl hown10 _ _ rfl hkq ?_;intro cc hat hwc;obtain rfl:cc=(pk:Int):=(by have h1:=hk9 (.lit (.int .i64 0));rw [h1]at hat;injection hat with hat;injection hat with _ hat;exact hat.symm);clear hat hwc);go_roundw
         case rel=>exact⟨pk,rfl,by omega,Qq ⟨ls++ [qk],by rw [List.length_append,List.length_singleton,Qg9];exact hrow9.out,HX9.out,HLK2.out,(fun e=>by simp at e),HHD2.out,by rw [List.length_append,List.length_singleton];omega⟩⟩
         case measure=>simp [intOf];omega
        obtain rfl:0=kk:=by omega
        have hlp:0 < ls.length:=by
         cases hls:ls with
         |nil=>have:=HLE.out hls;omega
         |cons a r=>simp
        obtain⟨gl,capl,hsl3,_,_,_,_,_⟩:=Uk HRL2.out hlp rfl;injection hsl3 with hsl3a _ hsl3b;subst hsl3a hsl3b;have HT0:=Qq (show(q++ [k]).getD 0 0=t by rw [Qk,HSE2.out.head];rfl);have HW:=Qq (show Ext w w7 from HP7.out.ext);go_wp2_with fail;go_ret;refine .inr ⟨_,_,ls,rfl,HW.out.trans HXL2.out,Xk HRL2.out HW.out.size,(fun e=>by rw [e]at hlp;simp at hlp),by rw [<-HT0.out];exact HLK.out,(fun u hu=>by rw [HHD.out u hu];exact HYK.out),HREACH.out⟩
    obtain rfl:m=k:=by omega
    go_wp2_with fail;go_roundw
    case rel=>exact⟨i+1,by go_num,by omega,Qq ⟨q,ps,HPI.out,HBF.out,by omega,HYA.out,fun j hj u hu=>by
     by_cases e:j < i
     ·exact HCL.out j e u hu
     have:j=i:=by omega
     subst this;refine HPA.out u ?_ hu;rw [HSTEP.out,Bool.and_eq_true]at hu;have:=Kt hu.1;rw [<-HM.out]at this;exact this⟩⟩
    case measure=>simp [intOf];omega
  obtain rfl:q.length=i:=by omega
  have HNO:=Qq (show ¬∃u,Rch (fun a b=>st a b=true) t u/\yy u=false by
   rintro⟨u,hr,hu⟩;have:=HYA.out u (HBF.out.closed HCL.out hr);rw [hu]at this;cases this)
  go_wp2_with fail;go_ret;exact .inl ⟨rfl,HPI.out.ext,HNO.out⟩
end Go.Proofs.YtkmclcmnoicagaaGreatDoor
