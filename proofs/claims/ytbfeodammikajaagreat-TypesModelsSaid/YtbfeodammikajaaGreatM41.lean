/- The reference of types: column. -/
import Derived.Test.YtbfeodammikajaaGreatM01
import Derived.Test.YtbfeodammikajaaGreatM27
import Derived.Test.YtbfeodammikajaaGreatM37
import Derived.Test.YtbfeodammikajaaGreatM20
import Derived.Test.YtbfeodammikajaaGreatM21
import Derived.Test.YtbfeodammikajaaGreatM11
namespace Go.Proofs.YtbfeodammikajaaGreat
set_option maxRecDepth 100000
set_option maxHeartbeats 128000000
open Go.RowKit
structure PlI (w wr:World) (vo:Value) (out:List Int):Prop where
 ext:Ext w wr
 row:wr.ownsRow w.heap.size 3 1 vo out.length (out.map (Value.int .i64))
section
variable {w wr W w7:World} {vo v7:Value} {out:List Int} {z:Int}
theorem PlI.next(h:PlI w wr vo out)(he:Ext wr W):PlI w W vo out:=⟨h.ext.trans he,row_ext h.row he⟩
theorem PlI.push(h:PlI w wr vo out)(he:Ext wr W)(hown:w7.ownsRow w.heap.size 3 1 v7 (out.length+1) (out.map (Value.int .i64)++ [.int .i64 z]))(hg:W.grownBy w7 vo.ownBlock):PlI w w7 v7 (out++ [z]):=
 ⟨(h.ext.trans he).grown hg (fun k hk=>(h.row.lt k hk).1),by rw [List.length_append,List.map_append];exact hown⟩
end
structure ColI (w1 wr:World) (g:Nat) (old:List Bool) (vo:Value) (out:List Bool):Prop where
 ext:Ext w1 wr
 row:BRow w1.heap.size wr g old
 outr:wr.ownsRow (g+1) 4 1 vo out.length (out.map Value.bool)
section
variable {w1 wr W w7:World} {g:Nat} {old:List Bool} {vo v7:Value} {out:List Bool} {b:Bool} {j:Nat}
theorem ColI.next(h:ColI w1 wr g old vo out)(he:Ext wr W):ColI w1 W g old vo out:=⟨h.ext.trans he,h.row.ext he,row_ext h.outr he⟩
theorem ColI.store(h:ColI w1 wr g old vo out)(he:Ext wr W)(j:Nat)(b:Bool):ColI w1 (W.setCell ⟨g,j,none⟩ (.bool b)) g (old.set j b) vo out:=by
 have h2:=h.next he;refine⟨h2.ext.setCell (p:=⟨g,j,none⟩) h2.row.lt.1 _,(h2.row.set j b).1,row_keep h2.outr fun k hk=>Below.heap_setCell _ _ _ _ (fun e=> ?_)⟩;have h3:=(h2.outr.lt k hk).1;have e2:k=g:=e;omega
theorem ColI.push(h:ColI w1 wr g old vo out)(he:Ext wr W)(hown:w7.ownsRow (g+1) 4 1 v7 (out.length+1) (out.map Value.bool++ [.bool b]))(hg:W.grownBy w7 vo.ownBlock):ColI w1 w7 g old v7 (out++ [b]):=by
 have h2:=h.next he;have hl:=h2.row.lt;refine⟨h2.ext.grown hg (fun k hk=>by have:=(h2.outr.lt k hk).1;omega),row_keep h2.row fun k hk=>hg.block k ?_ (fun e=> ?_),by rw [List.length_append,List.map_append];exact hown⟩
 ·have e:k=g:=by injection hk with hk;exact hk.symm
  rw [e];exact hl.2
 have e2:k=g:=by injection hk with hk;exact hk.symm
 have:=(h2.outr.lt k e.symm).1;omega
end
theorem set_mid {pre rest:List Bool} {x b:Bool} {k:Nat}(h:pre.length=k):(pre++x :: rest).set k b=(pre++ [b])++rest:=by
 subst h;simp
theorem ColI.storeMid {w1 wr W:World} {g k:Nat} {pre rest:List Bool} {x:Bool} {vo:Value} {out:List Bool}(h:ColI w1 wr g (pre++x :: rest) vo out)(hl:pre.length=k)(he:Ext wr W)(b:Bool):ColI w1 (W.setCell ⟨g,k,none⟩ (.bool b)) g ((pre++ [b])++rest) vo out:=by
 have h1:=h.store he k b;rw [set_mid hl]at h1;exact h1
theorem at_default {n:Nd} {z:Int} {t:Nat} {v:List Bool}(h1:n.op≠1/\n.op≠4/\n.op≠5/\n.op≠6/\n.op≠7/\n.op≠8):atStep n z t v=(decide (0<=z)&&t.testBit z.toNat):=by
 obtain⟨e1,e4,e5,e6,e7,e8⟩:=h1;unfold atStep;cases decide (0<=z)
 ·have t1:(n.op==1)=false:=by simpa using e1
  have t4:(n.op==4)=false:=by simpa using e4
  have t5:(n.op==5)=false:=by simpa using e5
  have t6:(n.op==6)=false:=by simpa using e6
  have t7:(n.op==7)=false:=by simpa using e7
  have t8:(n.op==8)=false:=by simpa using e8
  rw [t1,t4,t5,t6,t7,t8];rfl
 rfl
theorem column_any(vb vf:Value)(base:List (List Nd))(f:List Nd)(w:World)(hb:Fmls w vb base)(hf:Fml w vf f)(hc:check f=0)(hbl:base.length<=12):
 Calls Tryz.prog 70 #[vb,vf] w fun e w'=>∃v,e=.returned v/\Ext w w'/\MadeB w.heap.size w' v (tabN base f):=by
 have HB:=Qq hb;have HF:=Qq hf;obtain⟨iI,hiI,hzI0,hzI1,hzI2⟩:=info_parts tInfoI;obtain⟨iB,hiB,hzB0,hzB1,hzB2⟩:=info_parts tInfoB;have hparts:=check_parts hc;have hfl:=hparts.2.1;have hf0:=hparts.1;have HWF:=Qq (check_wf hc);have HPL:=Qq (places_lt hbl f);have hp2:=pow12 hbl;obtain⟨m,hmm⟩:∃m,m=2^base.length:=⟨_,rfl⟩;have HMM:=Qq hmm;rw [<-hmm]at hp2;have hwr:wrap64 ((2:Int)^base.length)=(m:Int):=by
  have e:((2:Int)^base.length)=(m:Int):=by rw [HMM.out,Int.natCast_pow];rfl
  rw [e];unfold wrap64;omega
 have hmin:min base.length 64=base.length:=by omega
 obtain⟨Ab,cb,rfl,_⟩:=hb;obtain⟨⟨Af,cf,rfl,hcap,hmax,hread⟩,hok⟩:=hf;unfold maxLen at hmax;obtain⟨ad,rfl,hblk,hcells⟩:=hread (by intro e;rw [e]at hf0;simp at hf0);have HCELLS:=Qq hcells;clear hread hok hcells hparts hmm hc;go_enter Tryz.func70,Tryz.ntmps70;go_wp2_with fail;go_loopw [5,16] (fun vo vi wr=>∃k:Nat,vi=.int .i64 (k:Int)/\k<=f.length/\Hid (∃out,out=(placesN base f).take k/\PlI w wr vo out)) (fun _ v _=>f.length - (intOf v).toNat)
 case atStart=>exact⟨0,rfl,Nat.zero_le _,Qq ⟨[],rfl,Qz,World.ownsRow_nil _ _ _ _⟩⟩
 case round =>
  obtain⟨k,rfl,hk,HREL⟩:=hrel;obtain⟨out,hol,hpl⟩:=HREL.out;have HOL:=Qq hol;have HC:=Qq hpl;obtain⟨Ao,co,rfl⟩:=slice_of_row hpl.row;have hol2:out.length<=200:=by rw [hol,List.length_take];omega
  by_cases hlt2:k < f.length
  ·have hk1:(k:Int) < (f.length:Int):=by omega
   clear HREL hol hpl;obtain⟨n,hn⟩:∃n,f[k]?=some n:=⟨_,Qv hlt2⟩;obtain⟨c0,c1,c2,c3,c4,c5⟩:=(HCELLS.out k n hn).keep fun p hp=>HC.out.ext.cell (p:=p) (by rw [hp,block_of_add];exact hblk)
   have hblk2:(ad.add (k*6)).block < wr.heap.size:=by rw [block_of_add];exact Qy hblk HC.out.ext.size
   have HN:=Qq hn;clear hn;obtain⟨wq,hwq⟩:∃v,v=wr:=⟨_,rfl⟩;subst hwq;have hc3:out.length+1<=maxLen:=by unfold maxLen;omega
   have hc4:(out.length+1)*8<=140737488355328:=by omega
   have HX0:=Qq (show Ext wq (wq.alloc (.cells #[.int .i64 n.op,.int .i64 n.i,.int .i64 n.e,.int .i64 n.g,.int .i64 n.x,.int .i64 n.y] 93))from Qz.alloc _);rcases base_cases n with hop|⟨t3,t9,t13⟩
   ·have HBB:=Qq (show(bif isBase n then placeN base (subN f (k:Int))else -1)=placeN base (subN f (k:Int)) by rw [show isBase n=true by unfold isBase;rcases hop with e|e|e <;> rw [e] <;> rfl];rfl);have HTT:=Qq (show((n.op==3)=true)\/((n.op==3)=false/\(n.op==9)=true)\/((n.op==3)=false/\(n.op==9)=false/\(n.op==13)=true) by rcases hop with e|e|e <;> rw [e] <;> simp);clear hop;rcases HTT.out with t3|⟨t3,t9⟩|⟨t3,t9,t13⟩
    all_goals
     go_wp2_with fail;refine(refSub_any _ f (k:Int) _ (HF.out.ext (HC.out.ext.trans HX0.out))).mono ?_;rintro e w2 ⟨u2,rfl,hm2⟩;have HM2:=Qq hm2;obtain⟨A2,c2,rfl,_⟩:=fml_slice hm2.fml;clear hm2;go_wp2_with fail;refine(refIndex_any _ _ base _ _ (HB.out.ext (HC.out.ext.trans (HX0.out.trans HM2.out.ext))) HM2.out.fml).mono ?_;rintro e w3 ⟨rfl,hx3⟩;have HX3:=Qq (HX0.out.trans (HM2.out.ext.trans hx3));clear hx3;go_wp2_with(at_builtin;refine wpList_append_own_at _ rfl _ _ 28 rfl w.heap.size 3 iI (.int .i64 0) 1 8 Tryz.underlying28 hiI hzI0 hzI1 hzI2 rfl (by decide) _ out.length (out.map (Value.int .i64)) rfl (HC.out.next (HX3.out.alloc _)).row ⟨_,0,none⟩ 1 1 [.int .i64 (placeN base (subN f (k:Int)))] rfl rfl (row_new_at _ _ _ (by simp)) (fun u hu=>by rw [List.mem_singleton.1 hu];rfl) hc3 hc4 (Qx HC.out.ext.size (HX3.out.alloc _).size) ?_)
     intro v7 w7 hown7 hgrow7 _ _;have HP:=Qq (HC.out.push (HX3.out.alloc _) hown7 hgrow7);obtain⟨A7,c7,rfl⟩:=slice_of_row hown7;clear hown7 hgrow7;go_wp2_with fail;go_roundw
     case rel=>exact⟨k+1,by go_num,by omega,Qq ⟨_,by rw [places_step HN.out,<-HOL.out,HBB.out],HP.out⟩⟩
     case measure=>simp [intOf];omega
   have HBB:=Qq (show(bif isBase n then placeN base (subN f (k:Int))else -1)= -1 by rw [show isBase n=false by unfold isBase;rw [t3,t9,t13];rfl];rfl);go_wp2_with(at_builtin;refine wpList_append_own_at _ rfl _ _ 28 rfl w.heap.size 3 iI (.int .i64 0) 1 8 Tryz.underlying28 hiI hzI0 hzI1 hzI2 rfl (by decide) _ out.length (out.map (Value.int .i64)) rfl (HC.out.next (HX0.out.alloc _)).row ⟨_,0,none⟩ 1 1 [.int .i64 (-1)] rfl rfl (row_new_at _ _ _ (by simp)) (fun u hu=>by rw [List.mem_singleton.1 hu];rfl) hc3 hc4 (Qx HC.out.ext.size (HX0.out.alloc _).size) ?_);intro v7 w7 hown7 hgrow7 _ _;have HP:=Qq (HC.out.push (HX0.out.alloc _) hown7 hgrow7)
   obtain⟨A7,c7,rfl⟩:=slice_of_row hown7;clear hown7 hgrow7;go_wp2_with fail;go_roundw
   case rel=>exact⟨k+1,by go_num,by omega,Qq ⟨_,by rw [places_step HN.out,<-HOL.out,HBB.out],HP.out⟩⟩
   case measure=>simp [intOf];omega
  obtain rfl:f.length=k:=by omega
  have hoe:out=placesN base f:=by rw [hol,List.take_of_length_le (by rw [places_len];exact Nat.le_refl _)]
  have hpl2:out.length=f.length:=by rw [hoe,places_len]
  have HOE:=Qq hoe;have HPS:=Qq hpl2;have HPX:=Qq hpl.ext;have HROW:=Qq hpl.row;clear HREL hol hpl hoe HOL HC;obtain⟨w1,hw1⟩:∃v,v=wr:=⟨_,rfl⟩;subst hw1;obtain⟨gp,capp,hsl,hgpl,hcp1,hcp2,hints⟩:∃g cap,Value.slice Ao out.length co=.slice (some ⟨g,0,none⟩) out.length cap/\g < w1.heap.size/\out.length<=cap/\cap<=maxLen/\∀i z,out[i]?=some z->w1.cell? ⟨g,i,none⟩=some (.int .i64 z)/\w1.frozen? ⟨g,i,none⟩=false:=done_cells HROW.out (by omega);injection hsl with hsl1 _ hsl2;subst hsl1 hsl2;have HINTS:=Qq hints;rw [hpl2]at hcp1⊢;clear hints hpl2;go_wp2_with(refine wpList_make_full _ rfl _ _ 61 rfl w1.heap.size 4 iB (.bool false) 1 Tryz.underlying61 hiB hzB0 hzB1 .i64 .i64 (f.length:Int) (f.length:Int) f.length rfl rfl rfl rfl (by rw [hzB2];omega) (by unfold maxLen;omega) (by simp) ?_)
  intro W1 hrow1 hgr1;have HXW:=Qq (show Ext w1 W1 from(Ext.refl w1).grown hgr1 (fun k e=>by cases e));have HT:=Qq (show BRow w1.heap.size W1 w1.heap.size (List.replicate f.length false) by
   have h1:=hrow1;rw [made_false']at h1;unfold BRow;simp only [List.length_replicate];exact h1)
  clear hrow1 hgr1;obtain⟨g,hg⟩:∃g,g=w1.heap.size:=⟨_,rfl⟩;have HG:=Qq hg;have HCI:=Qq (show ColI w1 W1 g (List.replicate f.length false) (.slice none 0 0) []from⟨HXW.out,by rw [hg];exact HT.out,World.ownsRow_nil _ _ _ _⟩);rw [<-hg];clear hg HT;go_wp2_with fail;go_loopw [9,11] (fun vo vi wr=>∃t:Nat,vi=.int .i64 (t:Int)/\t<=m/\Hid (∃old out2,old.length=f.length/\out2=(List.range t).map (atN f out)/\ColI w1 wr g old vo out2)) (fun _ v _=>m - (intOf v).toNat)
  case atStart=>exact⟨0,rfl,Nat.zero_le _,Qq ⟨_,[],List.length_replicate,rfl,HCI.out⟩⟩
  case round =>
   obtain⟨t,rfl,ht,HREL⟩:=hrel;obtain⟨old,out2,hold,hout2,hci⟩:=HREL.out;have HOLD:=Qq hold;have HOUT:=Qq hout2;have HCJ:=Qq hci;obtain⟨Ax,cx,rfl⟩:=slice_of_row hci.outr;have hxl:out2.length<=4096:=by rw [hout2];simp;omega
   by_cases hlt3:t < m
   ·have hk3:(t:Int) < (m:Int):=by omega
    clear HREL hold hout2 hci;go_wp2_with fail;rw [hwr];go_loopw [56] (fun vi wr=>∃k:Nat,vi=.int .i64 (k:Int)/\k<=f.length/\Hid (∃pre rest,pre.length=k/\rest.length=f.length - k/\atGo t (f.drop k) (out.drop k) pre=atGo t f out []/\ColI w1 wr g (pre++rest) (.slice Ax out2.length cx) out2)) (fun v _=>f.length - (intOf v).toNat)
    case atStart=>exact⟨0,rfl,Nat.zero_le _,Qq ⟨[],old,rfl,by rw [HOLD.out];rfl,rfl,HCJ.out⟩⟩
    case round =>
     clear HCJ;obtain⟨k,rfl,hk,HREL⟩:=hrel;obtain⟨pre,rest,hpre,hrest,hgo,hci⟩:=HREL.out;have HPRE:=Qq hpre;have HGO:=Qq hgo;have HA:=Qq hci;have hgl:g < wr.heap.size:=hci.row.lt.2;have hgll:(pre++rest).length=f.length:=by rw [List.length_append];omega
     by_cases hlt4:k < f.length
     ·have hk4:(k:Int) < (f.length:Int):=by omega
      obtain⟨x0,rest',hre⟩:∃x r,rest=x :: r:=by
       cases rest with
       |nil=>simp at hrest;omega
       |cons x r=>exact⟨x,r,rfl⟩
      subst hre;have HRL:=Qq (show rest'.length=f.length - (k+1) by simp only [List.length_cons]at hrest;omega);obtain⟨n,hn⟩:∃n,f[k]?=some n:=⟨_,Qv hlt4⟩;obtain⟨z,hz⟩:∃z,out[k]?=some z:=⟨_,List.getElem?_eq_getElem (by rw [HPS.out];exact hlt4)⟩;obtain⟨c0,c1,c2,c3,c4,c5⟩:=(HCELLS.out k n hn).keep fun p hp=>(HPX.out.trans hci.ext).cell (p:=p) (by rw [hp,block_of_add];exact hblk)
      have z0:=(hci.ext.cell (p:=⟨gp,k,none⟩) hgpl).trans (HINTS.out k z hz).1;have hblk2:(ad.add (k*6)).block < wr.heap.size:=by rw [block_of_add];exact Qy hblk (HPX.out.trans hci.ext).size
      have hgpl2:gp < wr.heap.size:=Qy hgpl hci.ext.size;have gfr:=hci.row.frozen k;have gc:wr.cell? ⟨g,k,none⟩=some (.bool x0):=hci.row.cell (by rw [List.getElem?_append_right (by omega),hpre,Nat.sub_self];rfl);have HN:=Qq hn;have HZ:=Qq hz;have HXY:=Qq (HWF.out k n hn);have hz64:=HPL.out z (by rw [<-HOE.out];exact List.mem_of_getElem? hz);have HZE:=Qq (show isBase n=false->z= -1 from fun h=>by
       have h1:=places_get (base:=base) hn;rw [<-HOE.out,hz,h]at h1;injection h1)
      have HSTEP:=Qq (show ∀b,atStep n z t pre=b->atGo t (f.drop (k+1)) (out.drop (k+1)) (pre++ [b])=atGo t f out []from fun b hb=>by rw [<-hgo,atGo_step hn hz,hb]);clear hn hz HREL hpre hrest hgo hci hgll;obtain⟨wq,hwq⟩:∃v,v=wr:=⟨_,rfl⟩;subst hwq;have hcx:n.op=1\/(n.op=4\/n.op=5\/n.op=6\/n.op=7\/n.op=8)\/(n.op≠1/\n.op≠4/\n.op≠5/\n.op≠6/\n.op≠7/\n.op≠8):=by omega
      rcases hcx with hop|hop|hop
      ·obtain rfl:=HZE.out (by unfold isBase;rw [hop];rfl);have HST:=Qq (show atStep n (-1) t pre=true by unfold atStep;rw [hop];rfl);have t1:(n.op==1)=true:=by rw [hop];rfl
       have t4:(n.op==4)=false:=by rw [hop];rfl
       have t5:(n.op==5)=false:=by rw [hop];rfl
       have t6:(n.op==6)=false:=by rw [hop];rfl
       have t7:(n.op==7)=false:=by rw [hop];rfl
       have t8:(n.op==8)=false:=by rw [hop];rfl
       clear hop;go_wp2_with fail;go_roundw
       case rel=>exact⟨k+1,by go_num,by omega,Qq ⟨pre++ [_],rest',by rw [List.length_append,HPRE.out];rfl,HRL.out,HSTEP.out _ HST.out,(HA.out.storeMid HPRE.out Qz _).next (Qz.alloc _)⟩⟩
       case measure=>simp [intOf];omega
      ·obtain rfl:=HZE.out (by unfold isBase;rcases hop with e|e|e|e|e <;> rw [e] <;> rfl);have hX:0<=n.x/\n.x < k:=HXY.out.1 (by rcases hop with e|e|e|e|e <;> rw [e] <;> rfl);obtain⟨jx,hjx⟩:=Int.eq_ofNat_of_zero_le hX.1;have hjk:jx < k:=by omega
       have gx:wq.cell? ⟨g,jx,none⟩=some (.bool (pre.getD jx false)):=HA.out.row.cell (by rw [List.getElem?_append_left (by rw [HPRE.out];exact hjk),Qk,List.getElem?_eq_getElem (by rw [HPRE.out];exact hjk)];rfl);have HGX:=Qq (show pre.getD n.x.toNat false=pre.getD jx false by rw [hjx,Int.toNat_natCast]);rw [hjx]at c4;have hjl:(jx:Int) < (f.length:Int):=by omega
       clear hX hjx;obtain⟨bx,hbx⟩:∃b,b=pre.getD jx false:=⟨_,rfl⟩;rw [<-hbx]at gx HGX;clear hbx;rcases hop with hop|hop
       ·have HST:=Qq (show atStep n (-1) t pre= !bx by unfold atStep;rw [hop,<-HGX.out];rfl);have t1:(n.op==1)=false:=by rw [hop];rfl
        have t4:(n.op==4)=true:=by rw [hop];rfl
        have t5:(n.op==5)=false:=by rw [hop];rfl
        have t6:(n.op==6)=false:=by rw [hop];rfl
        have t7:(n.op==7)=false:=by rw [hop];rfl
        have t8:(n.op==8)=false:=by rw [hop];rfl
        clear hop;cases bx
        all_goals
         go_wp2_with fail;go_roundw
         case rel=>exact⟨k+1,by go_num,by omega,Qq ⟨pre++ [_],rest',by rw [List.length_append,HPRE.out];rfl,HRL.out,HSTEP.out _ HST.out,(HA.out.storeMid HPRE.out Qz _).next (Qz.alloc _)⟩⟩
         case measure=>simp [intOf];omega
       have hY:0<=n.y/\n.y < k:=HXY.out.2 (by rcases hop with e|e|e|e <;> rw [e] <;> rfl);obtain⟨jy,hjy⟩:=Int.eq_ofNat_of_zero_le hY.1;have hjk2:jy < k:=by omega
       have gy:wq.cell? ⟨g,jy,none⟩=some (.bool (pre.getD jy false)):=HA.out.row.cell (by rw [List.getElem?_append_left (by rw [HPRE.out];exact hjk2),Qk,List.getElem?_eq_getElem (by rw [HPRE.out];exact hjk2)];rfl);have HGY:=Qq (show pre.getD n.y.toNat false=pre.getD jy false by rw [hjy,Int.toNat_natCast]);rw [hjy]at c5;have hjl2:(jy:Int) < (f.length:Int):=by omega
       clear hY hjy;obtain⟨b2,hb2⟩:∃b,b=pre.getD jy false:=⟨_,rfl⟩;rw [<-hb2]at gy HGY;clear hb2;rcases hop with hop|hop|hop|hop
       ·have HST:=Qq (show atStep n (-1) t pre=(bx&&b2) by unfold atStep;rw [hop,<-HGX.out,<-HGY.out];rfl);have t1:(n.op==1)=false:=by rw [hop];rfl
        have t4:(n.op==4)=false:=by rw [hop];rfl
        have t5:(n.op==5)=true:=by rw [hop];rfl
        have t6:(n.op==6)=false:=by rw [hop];rfl
        have t7:(n.op==7)=false:=by rw [hop];rfl
        have t8:(n.op==8)=false:=by rw [hop];rfl
        clear hop;cases bx <;> cases b2
        all_goals
         go_wp2_with fail;go_roundw
         case rel=>exact⟨k+1,by go_num,by omega,Qq ⟨pre++ [_],rest',by rw [List.length_append,HPRE.out];rfl,HRL.out,HSTEP.out _ HST.out,(HA.out.storeMid HPRE.out Qz _).next (Qz.alloc _)⟩⟩
         case measure=>simp [intOf];omega
       ·have HST:=Qq (show atStep n (-1) t pre=(bx||b2) by unfold atStep;rw [hop,<-HGX.out,<-HGY.out];rfl);have t1:(n.op==1)=false:=by rw [hop];rfl
        have t4:(n.op==4)=false:=by rw [hop];rfl
        have t5:(n.op==5)=false:=by rw [hop];rfl
        have t6:(n.op==6)=true:=by rw [hop];rfl
        have t7:(n.op==7)=false:=by rw [hop];rfl
        have t8:(n.op==8)=false:=by rw [hop];rfl
        clear hop;cases bx <;> cases b2
        all_goals
         go_wp2_with fail;go_roundw
         case rel=>exact⟨k+1,by go_num,by omega,Qq ⟨pre++ [_],rest',by rw [List.length_append,HPRE.out];rfl,HRL.out,HSTEP.out _ HST.out,(HA.out.storeMid HPRE.out Qz _).next (Qz.alloc _)⟩⟩
         case measure=>simp [intOf];omega
       ·have HST:=Qq (show atStep n (-1) t pre=(!bx||b2) by unfold atStep;rw [hop,<-HGX.out,<-HGY.out];rfl);have t1:(n.op==1)=false:=by rw [hop];rfl
        have t4:(n.op==4)=false:=by rw [hop];rfl
        have t5:(n.op==5)=false:=by rw [hop];rfl
        have t6:(n.op==6)=false:=by rw [hop];rfl
        have t7:(n.op==7)=true:=by rw [hop];rfl
        have t8:(n.op==8)=false:=by rw [hop];rfl
        clear hop;cases bx <;> cases b2
        all_goals
         go_wp2_with fail;go_roundw
         case rel=>exact⟨k+1,by go_num,by omega,Qq ⟨pre++ [_],rest',by rw [List.length_append,HPRE.out];rfl,HRL.out,HSTEP.out _ HST.out,(HA.out.storeMid HPRE.out Qz _).next (Qz.alloc _)⟩⟩
         case measure=>simp [intOf];omega
       have HST:=Qq (show atStep n (-1) t pre=(bx==b2) by unfold atStep;rw [hop,<-HGX.out,<-HGY.out];rfl);have t1:(n.op==1)=false:=by rw [hop];rfl
       have t4:(n.op==4)=false:=by rw [hop];rfl
       have t5:(n.op==5)=false:=by rw [hop];rfl
       have t6:(n.op==6)=false:=by rw [hop];rfl
       have t7:(n.op==7)=false:=by rw [hop];rfl
       have t8:(n.op==8)=true:=by rw [hop];rfl
       clear hop;go_upto_region 31 with(fail);obtain⟨⟨_,_,_,_,e4,e5⟩,_,eb⟩:=cells6 (show(wq.alloc (.cells #[.int .i64 n.op,.int .i64 n.i,.int .i64 n.e,.int .i64 n.g,.int .i64 (jx:Int),.int .i64 (jy:Int)] 93)).heap[wq.heap.size]?=some (.cells #[.int .i64 n.op,.int .i64 n.i,.int .i64 n.e,.int .i64 n.g,.int .i64 (jx:Int),.int .i64 (jy:Int)] 93 (0,0))from heap_alloc_new _ _);refine ordU_region 14 (fun w'=>w'.cell? (⟨wq.heap.size,4,none⟩)=some (.int .i64 (jx:Int))/\w'.cell? (⟨wq.heap.size,5,none⟩)=some (.int .i64 (jy:Int))/\w'.cell? (⟨g,jx,none⟩)=some (.bool bx)/\w'.cell? (⟨g,jy,none⟩)=some (.bool b2)) (by kernel_rfl) ⟨(Ext.cell (p:=⟨wq.heap.size,4,none⟩) (by repeat(first|exact Qz|assumption|apply Ext.alloc|apply Ext.drew|apply Ext.setCell)) eb).trans e4,(Ext.cell (p:=⟨wq.heap.size,5,none⟩) (by repeat(first|exact Qz|assumption|apply Ext.alloc|apply Ext.drew|apply Ext.setCell)) eb).trans e5,(Ext.cell (p:=⟨g,jx,none⟩) (by repeat(first|exact Qz|assumption|apply Ext.alloc|apply Ext.drew|apply Ext.setCell)) hgl).trans gx,(Ext.cell (p:=⟨g,jy,none⟩) (by repeat(first|exact Qz|assumption|apply Ext.alloc|apply Ext.drew|apply Ext.setCell)) hgl).trans gy⟩ (fun hHeld=> ?_)
       refine' ordU_take (i:=0) (v:=_) rfl (by kernel_rfl) (by kernel_rfl) (by kernel_rfl) (by kernel_rfl) (fun _ _ _ h=>h) (Or.inl ⟨by rfl,?hybu11⟩) hHeld ?restbu11
       case hybu11=>(intro w' hSw;(try dsimp only at hSw);go_simp;(try with_reducible rfl))
       refine Qb ?_;refine' ordU_take (i:=1) (v:=_) rfl (by kernel_rfl) (by kernel_rfl) (by kernel_rfl) (by kernel_rfl) (fun _ _ _ h=>h) (Or.inl ⟨by rfl,?hybu12⟩) hHeld ?restbu12
       case hybu12=>(intro w' hSw;(try dsimp only at hSw);go_simp;(try with_reducible rfl))
       refine Qb ?_;refine' ordU_take (i:=2) (v:=_) rfl (by kernel_rfl) (by kernel_rfl) (by kernel_rfl) (by kernel_rfl) (fun _ _ _ h=>h) (Or.inl ⟨by rfl,?hybu13⟩) hHeld ?restbu13
       case hybu13=>(intro w' hSw;(try dsimp only at hSw);go_simp;(try with_reducible rfl))
       refine Qb ?_;refine' ordU_take (i:=3) (v:=_) rfl (by kernel_rfl) (by kernel_rfl) (by kernel_rfl) (by kernel_rfl) (fun _ _ _ h=>h) (Or.inl ⟨by rfl,?hybu14⟩) hHeld ?restbu14
       case hybu14=>(intro w' hSw;(try dsimp only at hSw);go_simp;(try with_reducible rfl))
       refine Qb ?_;refine' ordU_take (i:=4) (v:=_) rfl (by kernel_rfl) (by kernel_rfl) (by kernel_rfl) (by kernel_rfl) (fun _ _ _ h=>h) (Or.inl ⟨by rfl,?hybu15⟩) hHeld ?restbu15
       case hybu15=>(intro w' hSw;(try dsimp only at hSw);go_simp;(try with_reducible rfl))
       refine Qb ?_;refine' ordU_take (i:=5) (v:=_) rfl (by kernel_rfl) (by kernel_rfl) (by kernel_rfl) (by kernel_rfl) (fun _ _ _ h=>h) (Or.inl ⟨by rfl,?hybu16⟩) hHeld ?restbu16
       case hybu16=>(intro w' hSw;(try dsimp only at hSw);go_simp;(try with_reducible rfl))
       refine Qb ?_;refine' ordU_take (i:=6) (v:=_) rfl (by kernel_rfl) (by kernel_rfl) (by kernel_rfl) (by kernel_rfl) (fun _ _ _ h=>h) (Or.inl ⟨by rfl,?hybu17⟩) hHeld ?restbu17
       case hybu17=>(intro w' hSw;(try dsimp only at hSw);go_simp;(try with_reducible rfl))
       refine Qb ?_;refine' ordU_take (i:=7) (v:=_) rfl (by kernel_rfl) (by kernel_rfl) (by kernel_rfl) (by kernel_rfl) (fun _ _ _ h=>h) (Or.inl ⟨by rfl,?hybu18⟩) hHeld ?restbu18
       case hybu18=>(intro w' hSw;(try dsimp only at hSw);go_simp;(try with_reducible rfl))
       refine Qb ?_;refine' ordU_take (i:=8) (v:=_) rfl (by kernel_rfl) (by kernel_rfl) (by kernel_rfl) (by kernel_rfl) (fun _ _ _ h=>h) (Or.inl ⟨by rfl,?hybu19⟩) hHeld ?restbu19
       case hybu19=>(intro w' hSw;(try dsimp only at hSw);go_simp;(try with_reducible rfl))
       refine Qb ?_;refine' ordU_take (i:=9) (v:=_) rfl (by kernel_rfl) (by kernel_rfl) (by kernel_rfl) (by kernel_rfl) (fun _ _ _ h=>h) (Or.inl ⟨by rfl,?hybu110⟩) hHeld ?restbu110
       case hybu110=>(intro w' hSw;(try dsimp only at hSw);go_simp;(try with_reducible rfl))
       refine Qb ?_;refine' ordU_take (i:=10) (v:=_) rfl (by kernel_rfl) (by kernel_rfl) (by kernel_rfl) (by kernel_rfl) (fun _ _ _ h=>h) (Or.inl ⟨by rfl,?hybu111⟩) hHeld ?restbu111
       case hybu111=>(intro w' hSw;(try dsimp only at hSw);go_simp;(try with_reducible rfl))
       refine Qb ?_;refine' ordU_take (i:=11) (v:=_) rfl (by kernel_rfl) (by kernel_rfl) (by kernel_rfl) (by kernel_rfl) (fun _ _ _ h=>h) (Or.inl ⟨by rfl,?hybu112⟩) hHeld ?restbu112
       case hybu112=>(intro w' hSw;(try dsimp only at hSw);go_simp;(try with_reducible rfl))
       refine Qb ?_;refine' ordU_take (i:=12) (v:=_) rfl (by kernel_rfl) (by kernel_rfl) (by kernel_rfl) (by kernel_rfl) (fun _ _ _ h=>h) (Or.inl ⟨by rfl,?hybu113⟩) hHeld ?restbu113
       case hybu113=>(intro w' hSw;(try dsimp only at hSw);go_simp;(try with_reducible rfl))
       refine Qb ?_;refine' ordU_take (i:=13) (v:=_) rfl (by kernel_rfl) (by kernel_rfl) (by kernel_rfl) (by kernel_rfl) (fun _ _ _ h=>h) (Or.inl ⟨by rfl,?hybu114⟩) hHeld ?restbu114
       case hybu114=>(intro w' hSw;(try dsimp only at hSw);go_simp;(try with_reducible rfl))
       refine Qb ?_;refine ordU_last (by kernel_rfl) rfl (fun K hK=> ?_);go_simp;refine hK.out _ _ ?_;clear hK K;refine Qb ?_;refine ordU_done (by kernel_rfl) ?_ _;generalize hbe:(bx==b2)=be;have HBE:=Qq hbe;clear hbe;go_wp2_with fail;go_roundw
       case rel=>exact⟨k+1,by go_num,by omega,Qq ⟨pre++ [be],rest',by rw [List.length_append,HPRE.out];rfl,HRL.out,HSTEP.out _ (HST.out.trans HBE.out),by first|exact HA.out.storeMid HPRE.out (Qz.alloc _).drew _|exact(HA.out.storeMid HPRE.out Qz _).next (Qz.alloc _).drew⟩⟩
       case measure=>simp [intOf];omega
      have HST:=Qq (at_default (z:=z) (t:=t) (v:=pre) hop);obtain⟨e1,e4,e5,e6,e7,e8⟩:=hop;have t1:(n.op==1)=false:=by simpa using e1
      have t4:(n.op==4)=false:=by simpa using e4
      have t5:(n.op==5)=false:=by simpa using e5
      have t6:(n.op==6)=false:=by simpa using e6
      have t7:(n.op==7)=false:=by simpa using e7
      have t8:(n.op==8)=false:=by simpa using e8
      clear e1 e4 e5 e6 e7 e8;by_cases hz0:0<=z
      ·obtain⟨zn,rfl⟩:=Int.eq_ofNat_of_zero_le hz0;have hzn:zn < 64:=by omega
       have hmz:min zn 64=zn:=by omega
       have hbt:=shr_mod_two t zn;rw [decide_eq_true hz0,Bool.true_and,Int.toNat_natCast]at HST;obtain⟨bb,hbb⟩:∃b,b=t.testBit zn:=⟨_,rfl⟩;rw [<-hbb]at hbt HST;clear hbb;cases bb
       all_goals
        go_wp2_with fail;go_roundw
        case rel=>exact⟨k+1,by go_num,by omega,Qq ⟨pre++ [_],rest',by rw [List.length_append,HPRE.out];rfl,HRL.out,HSTEP.out _ HST.out,(HA.out.storeMid HPRE.out Qz _).next (Qz.alloc _)⟩⟩
        case measure=>simp [intOf];omega
      have hz1:z < 0:=by omega
      rw [decide_eq_false hz0,Bool.false_and]at HST;have hzd:decide (0<=z)=false:=decide_eq_false hz0;clear hz0;go_wp2_with fail;go_roundw
      case rel=>exact⟨k+1,by go_num,by omega,Qq ⟨pre++ [_],rest',by rw [List.length_append,HPRE.out];rfl,HRL.out,HSTEP.out _ HST.out,(HA.out.storeMid HPRE.out Qz _).next (Qz.alloc _)⟩⟩
      case measure=>simp [intOf];omega
     obtain rfl:f.length=k:=by omega
     have hi1:((f.length:Int) - 1) < (f.length:Int):=by omega
     have hi0:(0:Int)<=(f.length:Int) - 1:=by omega
     have hi2:((f.length:Int) - 1).toNat=f.length - 1:=by omega
     have hi3:wrap64 ((f.length:Int) - 1)=(f.length:Int) - 1:=by unfold wrap64;omega
     have hre:rest= []:=List.length_eq_zero_iff.1 (by omega);subst hre;rw [List.append_nil]at hci;have hat:atN f out t=pre.getD (f.length - 1) false:=by
      rw [List.drop_length]at hgo;unfold atN;rw [<-hgo];have e:atGo t [] (out.drop f.length) pre=pre:=by cases out.drop f.length <;> rfl
      rw [e,List.getLastD_eq_getLast?,List.getLast?_eq_getElem?,hpre,Qk]
     have HAT:=Qq hat;have HCI2:=Qq hci;have gl:wr.cell? ⟨g,f.length - 1,none⟩=some (.bool (atN f out t)):=hci.row.cell (by rw [hat,Qk,List.getElem?_eq_getElem (by omega)];rfl);obtain⟨bl,hbl2⟩:∃b,b=atN f out t:=⟨_,rfl⟩;rw [<-hbl2]at gl;have HBL:=Qq hbl2;have hc3:out2.length+1<=maxLen:=by unfold maxLen;omega
     have hc4:(out2.length+1)*1<=140737488355328:=by omega
     have HLE:=Qq (show g+1<=(wr.alloc (.cells #[.bool bl] 4)).heap.size by simp;omega);clear HREL hpre hrest hgo hci hgll hat hbl2;obtain⟨wq,hwq⟩:∃v,v=wr:=⟨_,rfl⟩;subst hwq;go_wp2_with(at_builtin;refine wpList_append_own_at _ rfl _ _ 61 rfl (g+1) 4 iB (.bool false) 1 1 Tryz.underlying61 hiB hzB0 hzB1 hzB2 rfl (by decide) _ out2.length (out2.map Value.bool) rfl (HCI2.out.next (Qz.alloc _)).outr ⟨_,0,none⟩ 1 1 [.bool bl] rfl rfl (row_new_at _ _ _ (by simp)) (fun u hu=>by rw [List.mem_singleton.1 hu];rfl) hc3 hc4 HLE.out ?_);intro v7 w7 hown7 hgrow7 _ _;have HP:=Qq (HCI2.out.push (Qz.alloc _) hown7 hgrow7)
     obtain⟨A7,c7,rfl⟩:=slice_of_row hown7;clear hown7 hgrow7;go_wp2_with fail;go_roundw
     case rel=>exact⟨t+1,by go_num,by omega,Qq ⟨pre,_,by have:=HPRE.out;omega,by rw [range_map_snoc,<-HOUT.out,<-HBL.out],HP.out⟩⟩
     case measure=>simp [intOf];omega
   obtain rfl:m=t:=by omega
   have HE:=Qq (show out2=tabN base f by rw [hout2,HMM.out,HOE.out];rfl);clear HREL hold hout2 hci;go_wp2_with fail;go_ret;refine⟨_,rfl,HPX.out.trans HCJ.out.ext,?_⟩;rw [<-HE.out];exact row_base HCJ.out.outr (by have:=HPX.out.size;have:=HG.out;omega)
end Go.Proofs.YtbfeodammikajaaGreat
