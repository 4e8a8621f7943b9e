/- The reference on countermodels. -/
import Derived.Test.YtkmclcmnoicagaaGreatDoorH29
import Derived.Test.YtkmclcmnoicagaaGreatDoorH31
import Derived.Test.YtkmclcmnoicagaaGreatDoorH30
import Derived.Test.YtkmclcmnoicagaaGreatDoorH33
namespace Go.Proofs.YtkmclcmnoicagaaGreatDoor
set_option maxRecDepth 100000
set_option maxHeartbeats 128000000
open Go.RowKit
theorem Qco(lg:Int)(w:World):Calls Tryz.prog 77 #[.int .i64 lg] w fun e w'=>e=.returned (.int .i64 (if 0<=lg/\lg<=6 then 0 else 1))/\w=w':=by
 obtain⟨lo,wH⟩:∃z:Int,z=if 0<=lg/\lg<=6 then 0 else 1:=⟨_,rfl⟩
 have yB:=Qq wH;rw [<-wH];clear wH;by_cases h0:lg < 0
 ·have HD:=Qq (show lo=1 by rw [yB.out,if_neg (by omega)]);go_enter Tryz.func77,Tryz.ntmps77;go_wp2_with fail;go_ret;exact⟨by rw [HD.out] <;> rfl,rfl⟩
 by_cases h6:6 < lg
 ·have HD:=Qq (show lo=1 by rw [yB.out,if_neg (by omega)]);go_enter Tryz.func77,Tryz.ntmps77;go_wp2_with fail;go_ret;exact⟨by rw [HD.out] <;> rfl,rfl⟩
 have HD:=Qq (show lo=0 by rw [yB.out,if_pos (by omega)]);go_enter Tryz.func77,Tryz.ntmps77;go_wp2_with fail;go_ret;exact⟨by rw [HD.out] <;> rfl,rfl⟩
theorem Qrs {s i:Nat}(hs:Qm s)(hi:i < 64):(bits .and .u64 (s:Int) ((2^i:Nat):Int) !=0)=s.testBit i:=by
 rw [Xk hs (Tl hi)];have hb:∀j,(s&&&2^i).testBit j=(s.testBit j&&decide (i=j)):=fun j=>by rw [Nat.testBit_and,Nat.testBit_two_pow]
 cases h:s.testBit i
 ·have:s&&&2^i=0:=Nat.eq_of_testBit_eq fun j=>by
   rw [hb,Nat.zero_testBit];by_cases e:i=j
   ·rw [<-e,h];rfl
   rw [decide_eq_false e,Bool.and_false]
  rw [this];rfl
 have zQ:s&&&2^i≠0:=fun e=>by
  have:=hb i;rw [e,Nat.zero_testBit,h]at this;simp at this
 rw [bne_iff_ne];omega
theorem Qfq(i:Nat)(w:World)(hi:i < 64):Calls Tryz.prog 150 #[.int .i64 (i:Int)] w fun e w'=>e=.returned (.int .u64 ((2^i:Nat):Int))/\w=w':=by
 have hm:min i 64=i:=by omega
 have hwi:IntKind.u64.wrap (i:Int)=(i:Int):=by rw [IntKind.wrap_u64];omega
 have HB:=Qq (Sg hi);go_enter Tryz.func150,Tryz.ntmps150;go_wp2_with fail;go_ret;exact⟨by rw [<-HB.out] <;> rfl,rfl⟩
theorem Qcn(s i:Nat)(w:World)(hs:Qm s)(hi:i < 64):Calls Tryz.prog 79 #[.int .u64 (s:Int),.int .i64 (i:Int)] w fun e w'=>e=.returned (.bool (s.testBit i))/\w=w':=by
 have gN:(i:Int) < 64:=by omega
 have iO:(0:Int)<=(i:Int):=by omega
 have HB:=Qq (Qrs hs hi);obtain⟨p,hp⟩:∃p,p=2^i:=⟨_,rfl⟩;have PJ:=Qq (Qfq i · hi);rw [<-hp]at HB PJ;clear hp hs;go_enter Tryz.func79,Tryz.ntmps79;go_wp2_with fail;refine(PJ.out _).mono ?_;rintro e w1 ⟨rfl,rfl⟩;go_wp2_with fail;go_ret;exact⟨by rw [<-HB.out] <;> rfl,rfl⟩
theorem Qfw(v:Value)(l:List Nat)(k:Nat)(w:World)(h:Mk w v l)(hl:l.length<=64):
 Calls Tryz.prog 85 #[v,.int .i64 (k:Int)] w fun e w'=>∃r:Int,e=.returned (.int .i64 r)/\(k∈l->∃j:Nat,r=(j:Int)/\l[j]?=some k)/\Qg w w':=by
 obtain⟨A,c,rfl,QE,xY,HA⟩:=h;go_enter Tryz.func85,Tryz.ntmps85;go_wp2_with fail;go_loopw [5] (fun v wr=>∃i:Nat,v=.int .i64 (i:Int)/\i<=l.length/\Hid ((∀j,j < i->l[j]?≠some k)/\Qg w wr)) (fun v _=>l.length - (intOf v).toNat)
 case atStart=>exact⟨0,rfl,Nat.zero_le _,Qq ⟨fun j hj=>absurd hj (by omega),Qz⟩⟩
 case round =>
  obtain⟨i,rfl,hi,zY⟩:=hrel;have HX:=Qq zY.out.2;by_cases zJ:i < l.length
  ·have yV:(i:Int) < (l.length:Int):=by omega
   obtain⟨ad,rfl,zV,ZI⟩:=HA.out i zJ;have HQ:=Qq (show l[i]?=some (l.getD i 0) by rw [Qk,Qv zJ];rfl);have a0:=(HX.out.cell (p:=ad.add i) (Qj zV)).trans ZI;have al:(ad.add i).block < wr.heap.size:=by rw [Qr];exact Qy zV HX.out.size
   obtain⟨q,hq⟩:∃q,q=l.getD i 0:=⟨_,rfl⟩;rw [<-hq]at a0 HQ;clear zV ZI hq;by_cases gI:q=k
   ·have hqb:((q:Int)==(k:Int))=true:=by rw [gI];simp
    have G1:=Qq (show l[i]?=some k by rw [<-gI];exact HQ.out);clear gI;go_wp2_with fail;go_ret;exact⟨(i:Int),rfl,fun _=>⟨i,rfl,G1.out⟩,HX.out⟩
   have hqb:((q:Int)==(k:Int))=false:=by rw [beq_eq_false_iff_ne];omega
   have zD:=Qq (show ∀j,j < i+1->l[j]?≠some k from fun j hj=>by
    by_cases e:j=i
    ·rw [e,HQ.out];exact fun h=>gI (Option.some.inj h)
    exact zY.out.1 j (by omega))
   clear gI zY;go_wp2_with fail;go_roundw
   case rel=>exact⟨i+1,by go_num,by omega,Qq ⟨zD.out,HX.out⟩⟩
   case measure=>simp [intOf];omega
  obtain rfl:l.length=i:=by omega
  have hG:=Qq (show k∉l from fun hm=>by
   obtain⟨j,hj⟩:=List.getElem?_of_mem hm;exact zY.out.1 j (List.getElem?_eq_some_iff.1 hj).1 hj)
  clear zY;go_wp2_with fail;go_ret;exact⟨-1,rfl,fun hm=>absurd hm hG.out,HX.out⟩
def Qzy(s k:Nat):List Nat:=(List.range k).filter fun i=>s.testBit i
theorem Qh7(s k:Nat):Qzy s (k+1)=if s.testBit k then Qzy s k++ [k]else Qzy s k:=by
 unfold Qzy;rw [List.range_succ,List.filter_append];cases h:s.testBit k <;> simp [h]
theorem Qw4(s k:Nat):(Qzy s k).length<=k:=Qx (List.length_filter_le _ _) (by rw [List.length_range];exact Nat.le_refl _)
theorem Qbe(s:Nat)(w:World):
 Calls Tryz.prog 153 #[.int .u64 (s:Int)] w fun e w'=>∃u,e=.returned u/\Uv w.heap.size w' u (Za s)/\Qg w w':=by
 obtain⟨iI,pU,vQ,vP,vO⟩:=info_parts Ih;go_enter Tryz.func153,Tryz.ntmps153;go_wp2_with fail;go_loopw [3,4] (fun v3 v4 wr=>∃k:Nat,v4=.int .i64 (k:Int)/\k<=64/\Hid (Qg w wr/\Uv w.heap.size wr v3 (Qzy s k))) (fun _ v _=>64 - (intOf v).toNat)
 case atStart=>exact⟨0,rfl,Nat.zero_le _,Qq ⟨Qz,Uv.nil _ _⟩⟩
 case round =>
  obtain⟨k,rfl,hk,zY⟩:=hrel;have HX:=Qq zY.out.1;have HM:=Qq zY.out.2;clear zY;by_cases zJ:k < 64
  ·have yV:(k:Int) < 64:=by omega
   have zD:=Qq (Qh7 s k);have sE:=Qw4 s k;obtain⟨pre,sS⟩:∃z,z=Qzy s k:=⟨_,rfl⟩;rw [<-sS]at zD HM sE;obtain⟨tb,yK⟩:∃z,z=s.testBit k:=⟨_,rfl⟩;have mY:=Qq yK;obtain⟨A1,c1,rfl⟩:=Qt HM.out;clear sS yK;go_wp2_with fail;refine(Ht s k _ zJ).mono ?_;rintro e w1 ⟨rfl,rfl⟩;rw [<-mY.out]at zD⊢;cases tb
   ·have tQ:=Qq (show Qzy s (k+1)=pre from zD.out);go_wp2_with fail;go_roundw
    case rel=>exact⟨k+1,by go_num,by omega,Qq ⟨HX.out,by rw [tQ.out];exact HM.out⟩⟩
    case measure=>simp [intOf];omega
   have tQ:=Qq (show Qzy s (k+1)=pre++ [k]from zD.out);have xS:pre.length+1<=maxLen:=by unfold maxLen;omega
   have xP:(pre.length+1)*8<=140737488355328:=by omega
   go_wp2_with(at_builtin;refine wpList_append_own_at _ rfl _ _ 36 rfl w.heap.size 3 iI (.int .i64 0) 1 8 Tryz.underlying36 pU vQ vP vO rfl (by decide) _ pre.length (Ge pre) rfl (Zg HM.out (Qz.alloc _)) ⟨_,0,none⟩ 1 1 [.int .i64 (k:Int)] rfl rfl (Zt _ _ _ (by simp)) (fun u hu=>by rw [List.mem_singleton.1 hu];rfl) xS xP (Qx HX.out.size (by simp)) ?_);intro v7 w7 zW zX _ _;have sL:=Qq (show Qg w w7 from(HX.out.alloc _).grown zX (fun k hk=>(HM.out.lt k hk).1));have pL:=Qq (Uv.snoc zW);obtain⟨A7,c7,rfl⟩:=Qt zW;clear zW zX;go_wp2_with fail
   go_roundw
   case rel=>exact⟨k+1,by go_num,by omega,Qq ⟨sL.out,by rw [tQ.out];exact pL.out⟩⟩
   case measure=>simp [intOf];omega
  obtain rfl:k=64:=by omega
  have wE:=Qq (show Uv w.heap.size wr _ (Za s)from HM.out);obtain⟨A1,c1,rfl⟩:=Qt HM.out;go_wp2_with fail;go_ret;exact⟨_,rfl,wE.out,HX.out⟩
theorem Qvm(s:Nat)(v:Value)(ws:List Nat)(w:World)(h:Mk w v ws)(zJ:∀u∈ws,u < 64)(hl:ws.length<=64):
 Calls Tryz.prog 194 #[.int .u64 (s:Int),v] w fun e w'=>e=.returned (.int .u64 ((Jt s ws:Nat):Int))/\w=w':=by
 have HL:=Qq zJ;obtain⟨A,c,rfl,_,_,HA⟩:=h;clear zJ;go_enter Tryz.func194,Tryz.ntmps194;go_wp2_with fail;go_loopw [5,6] (fun vo vi wr=>∃i:Nat,vi=.int .i64 (i:Int)/\i<=ws.length/\∃z:Nat,vo=.int .u64 (z:Int)/\Hid (z=Yi i (fun i=>s.testBit (ws.getD i 0))/\w=wr)) (fun _ v _=>ws.length - (intOf v).toNat)
 case atStart=>exact⟨0,rfl,Nat.zero_le _,0,rfl,Qq ⟨rfl,rfl⟩⟩
 case round =>
  obtain⟨i,rfl,hi,z,rfl,zY⟩:=hrel;obtain⟨hz,rfl⟩:=zY.out;have HZ:=Qq hz;have ZM:=Qq (show Qm z by rw [hz];exact Fk (by omega) _);clear zY hz;by_cases hlt2:i < ws.length
  ·have yV:(i:Int) < (ws.length:Int):=by omega
   have mT:min i 64=i:=by omega
   obtain⟨ad,rfl,zV,hc⟩:=HA.out i hlt2;have rS:ws.getD i 0 < 64:=HL.out _ (by rw [Qk,Qv hlt2];exact List.getElem_mem _);have zA:=Qq (Bk i (fun i=>s.testBit (ws.getD i 0)));obtain⟨u,hu⟩:∃u,u=ws.getD i 0:=⟨_,rfl⟩;have mE:=Qq (show Yi (i+1) (fun i=>s.testBit (ws.getD i 0))=if s.testBit u then z|||2^i else z by rw [zA.out,HZ.out,hu]);rw [<-hu]at hc rS;have al:(ad.add i).block < w.heap.size:=by rw [Qr];exact zV
   obtain⟨tb,yK⟩:∃z,z=s.testBit u:=⟨_,rfl⟩;have mY:=Qq yK;clear hu zA HZ yK;go_wp2_with fail;refine(Ht s u _ rS).mono ?_;rintro e w1 ⟨rfl,rfl⟩;rw [<-mY.out]at mE⊢;cases tb
   ·have tQ:=Qq (show Yi (i+1) (fun i=>s.testBit (ws.getD i 0))=z from mE.out);go_wp2_with fail;go_roundw
    case rel=>exact⟨i+1,by go_num,by omega,z,rfl,Qq ⟨by rw [tQ.out],by first|rfl|trivial⟩⟩
    case measure=>simp [intOf];omega
   have tQ:=Qq (show Yi (i+1) (fun i=>s.testBit (ws.getD i 0))=z|||2^i from mE.out);have fK:=Qto (x:=i);have uW:=Ep ZM.out (show i < 64 by omega);go_wp2_with fail;go_roundw
   case rel=>exact⟨i+1,by go_num,by omega,z|||2^i,rfl,Qq ⟨by rw [tQ.out],by first|rfl|trivial⟩⟩
   case measure=>simp [intOf];omega
  obtain rfl:ws.length=i:=by omega
  have HE:=Qq (show Jt s ws=z from HZ.out.symm);go_wp2_with fail;go_ret;exact⟨by rw [HE.out] <;> rfl,rfl⟩
theorem Qm2(vm v:Value)(md:Md)(ws:List Nat)(w:World)(hm:Jk w vm md)(zP:md.ok)(zU:Qa md=0)(h:Mk w v ws)(zJ:∀u∈ws,u < md.n.toNat)(hl:ws.length<=64):
 Calls Tryz.prog 154 #[vm,v] w fun e w'=>∃u,e=.returned u/\Vs (fun k=>k < w.heap.size) w' (fun W=>Jk W u (Vj md ws))/\Qg w w':=by
 have HN:=Qq h;have hZ:=Qq zJ;obtain⟨wU,yZ,uR,iJ,wO,_,_⟩:=Zv zU;have eO:=Qq (show ∀u∈ws,u < 64 from fun u hu=>by have:=zJ u hu;omega);have qI:=Qq (show ∀r∈md.rel,r.length=md.n.toNat from fun r hr=>by have:=wO r hr;omega);obtain⟨iU,sG,xF,xE,xD⟩:=info_parts Dx;obtain⟨iS,SR,jN,jM,jL⟩:=info_parts Qkh;obtain⟨A,c,rfl,QE,xY,HA⟩:=h;obtain⟨vv,vr,rfl,hv,hr⟩:=hm;obtain⟨Av,cv,rfl,fH,hvm,HV⟩:=Vf hv;obtain⟨Ar,cr,rfl,RS,oH,HR⟩:=Gj hr;obtain⟨val,uJ⟩:∃z,z=md.val:=⟨_,rfl⟩;obtain⟨rel,sD⟩:∃z,z=md.rel:=⟨_,rfl⟩;have dV:=Qq uJ
 have eD:=Qq sD;have EG:=Qq (show ∀s∈val,Qm s by rw [uJ];exact zP.val);have tM:=Qq (show ∀r∈rel,∀s∈r,Qm s by rw [sD];exact zP.rel);rw [<-uJ]at HV iJ fH⊢;rw [<-sD]at HR qI uR RS⊢;clear zJ hv hr wO zP zU uJ sD wU yZ;obtain⟨W0,zK⟩:∃W,W=(w.alloc (.cells #[.int .i64 md.n,.slice Av val.length cv,.slice Ar rel.length cr] 26)).alloc (.cells #[.int .i64 0,.slice none 0 0,.slice none 0 0] 26):=⟨_,rfl⟩;have X0:=Qq (show Qg w W0 by rw [zK];exact(Qz.alloc _).alloc _);obtain⟨b,hb⟩:∃b,b=w.heap.size:=⟨_,rfl⟩;have B0:=Qq (show W0.heap[b]?=some (.cells #[.int .i64 md.n,.slice Av val.length cv,.slice Ar rel.length cr] 26 (0,0)) by rw [zK,hb];exact((Qz.alloc _).block (by simp)).trans (heap_alloc_new _ _))
 have B1:=Qq (show W0.heap[b+1]?=some (.cells #[.int .i64 0,.slice none 0 0,.slice none 0 0] 26 (0,0)) by
  have h1:=heap_alloc_new (w.alloc (.cells #[.int .i64 md.n,.slice Av val.length cv,.slice Ar rel.length cr] 26)) (.cells #[.int .i64 0,.slice none 0 0,.slice none 0 0] 26);rw [zK,hb]
  simpa using h1)
 have bD:W0.heap.size=b+1+1:=by rw [zK,hb];simp
 have rX:=Qq hb;obtain⟨mn,cU⟩:∃z,z=md.n:=⟨_,rfl⟩;rw [<-cU]at B0;go_enter Tryz.func154,Tryz.ntmps154;go_upto_region 1 with(fail);rw [<-zK,<-cU];rw [<-hb];clear zK hb cU;go_upto_region 2 with(fail);obtain⟨W1,tL⟩:∃W,W=W0.alloc (.cells #[.int .i64 (ws.length:Int),.slice none 0 0,.slice none 0 0] 26):=⟨_,rfl⟩;rw [<-tL];obtain⟨mb,cX⟩:∃z,z=b+1+1:=⟨_,rfl⟩;rw [<-cX];have iA:=Qq (show Fm W0 W1 mb (mb+1) (ws.length:Int) (.slice none 0 0) ((val.take 0).map fun s=>Jt s ws) (.slice none 0 0) []from Fm.start (by rw [tL];exact Qz.alloc _) (by omega) (Nat.lt_succ_self _) (by rw [tL,World.size_alloc,cX,<-bD];exact Nat.le_refl _) (by rw [tL,cX,<-bD];exact heap_alloc_new _ _))
 have FQ:=Qq cX;obtain⟨e0,e1,e2,el⟩:=Zy ((iA.out.ext.block (Qn B0.out)).trans B0.out);clear tL bD cX;go_wp2_with fail;clear e0 e1 e2 el;go_loopw [6] (fun v wr=>∃k:Nat,v=.int .i64 (k:Int)/\k<=val.length/\Hid (∃vx,Fm W0 wr mb (mb+1) (ws.length:Int) vx ((val.take k).map fun s=>Jt s ws) (.slice none 0 0) [])) (fun v _=>val.length - (intOf v).toNat)
 case atStart=>exact⟨0,rfl,Nat.zero_le _,Qq ⟨_,iA.out⟩⟩
 case round =>
  clear iA;obtain⟨k,rfl,hk,zY⟩:=hrel;obtain⟨vx,tF⟩:=zY.out;have HI:=Qq tF;have HX:=Qq (X0.out.trans tF.ext);obtain⟨e0,e1,e2,el⟩:=Zy ((tF.ext.block (Qn B0.out)).trans B0.out);clear zY;by_cases hlt2:k < val.length
  ·have yV:(k:Int) < (val.length:Int):=by omega
   obtain⟨ad,rfl,zV,uG⟩:=HV.out k hlt2;have RB:=Qq (show W0.cell? (ad.add k)=some (.int .u64 ((val.getD k 0:Nat):Int))from(X0.out.cell (p:=ad.add k) (Qj zV)).trans uG);have rY:=Qq (show(ad.add k).block < W0.heap.size by rw [Qr];exact Qy zV X0.out.size);have a0:=(HX.out.cell (p:=ad.add k) (Qj zV)).trans uG;have al:(ad.add k).block < wr.heap.size:=by rw [Qr];exact Qy zV HX.out.size
   have rD:=Qq (show Qm (val.getD k 0)from EG.out _ (by rw [Qk,Qv hlt2];exact List.getElem_mem _));have zD:=Qq (show(val.take (k+1)).map (fun s=>Jt s ws)=(val.take k).map (fun s=>Jt s ws)++ [Jt (val.getD k 0) ws]from by
    rw [Ma hlt2,Qk,Qv hlt2];rfl)
   obtain⟨s,hs⟩:∃s,s=val.getD k 0:=⟨_,rfl⟩;rw [<-hs]at a0 rD zD RB;obtain⟨vs,gF⟩:∃z,z=(val.take k).map (fun s=>Jt s ws):=⟨_,rfl⟩;have sN:vs.length<=8:=by rw [gF,List.length_map,List.length_take];omega
   rw [<-gF]at HI zD;obtain⟨Ax,cx,rfl⟩:=Qt HI.out.val;obtain⟨pz,pO⟩:∃z,z=Jt s ws:=⟨_,rfl⟩;have eE:=Qq pO;rw [<-pO]at zD;obtain⟨⟨m0,m1,m2⟩,⟨mf0,mf1,mf2⟩,ml⟩:=HI.out.cells;have xS:vs.length+1<=maxLen:=by unfold maxLen;omega
   have xP:(vs.length+1)*8<=140737488355328:=by omega
   clear tF uG hs gF zV pO m0 m2 mf0 mf2;go_upto_region 5 with(fail);refine Ym 12 (fun w'=>w'.cell? (⟨mb,1,none⟩)=some (.slice Ax vs.length cx)/\w'.cell? (⟨b,1,none⟩)=some (.slice (some ad) val.length cv)/\w'.cell? (ad.add k)=some (.int .u64 (s:Int))) (by kernel_rfl) ⟨xd ml m1,xd el e1,xd al a0⟩ (fun zZ=> ?_);refine Qo 0 zZ ?_;refine Qo 1 zZ ?_;refine Qo 2 zZ ?_;refine Qo 3 zZ ?_;refine Qo 4 zZ ?_;refine Qo 5 zZ ?_;refine Qo 6 zZ ?_;refine Qo 7 zZ ?_;refine Qe (rs:= [8]) (by kernel_rfl) (by simp) ?_;refine Zj.cons rfl (fun K hK=> ?_) Zj.nil
   go_simp;refine(Qvm s _ ws _ (HN.out.ext (HX.out.trans xv)) eO.out hl).mono ?_;rintro e w6 ⟨rfl,rfl⟩;rw [<-eE.out];go_wp2_with fail;refine hK.out _ _ ⟨xd ml m1,xd el e1,xd al a0⟩ (fun zZ=> ?_);clear hK K;refine Qb ?_;refine Qe (rs:= [9]) (by kernel_rfl) (by simp) ?_;refine Zj.cons rfl (fun K hK=> ?_) Zj.nil;go_simp;refine hK.out _ _ ⟨xd ml m1,xd el e1,xd al a0⟩ (fun zZ=> ?_);clear hK K;refine Qb ?_;refine Qe (rs:= [10]) (by kernel_rfl) (by simp) ?_;refine Zj.cons rfl (fun K hK=> ?_) Zj.nil;refine Gk rfl (.tmp 21) (.tmp 29) 23 rfl (mb+1) 41 iU (.int .u64 0) 1 8 Tryz.underlying23 sG xF xE xD rfl (by decide) (.slice Ax vs.length cx) vs.length (uV vs) (by simp [Act.eval]) (Zg HI.out.val xv) ⟨wr.heap.size,0,none⟩ 1 1 [.int .u64 (pz:Int)] (by simp [Act.eval]) rfl (by exact Zt _ _ _ (by simp)) (fun u hu=>by rw [List.mem_singleton.1 hu];rfl) xS xP (Qx (show mb+1<=wr.heap.size from ml) (Qg.size (a:=wr) xv)) ?_
   intro v7 w7 zW zX zF;have qQ:=Qq (HI.out.pushVal (show Qg wr _ from xv) zW zX);have NJ:=Qq (show Qg W0 w7 from(HI.out.ext.trans (show Qg wr _ from xv)).grown zX (fun k hk=>by have:=(World.ownsRow.lt HI.out.val k hk).1;have:=HI.out.lo;omega));have fB:=Qq ((zX.block mb (Qy ml (Qg.size (a:=wr) xv)) (fun e=>absurd (World.ownsRow.lt HI.out.val mb e.symm).1 (by omega))).trans ((Qg.block (a:=wr) (k:=mb) xv ml).trans HI.out.cell));obtain⟨⟨_,p1,_⟩,⟨_,pf1,_⟩,pl⟩:=Zc fB.out;obtain⟨A7,c7,qL⟩:=Qt zW;subst qL;clear zW zX zF;refine hK.out _ _ ⟨p1,(NJ.out.cell (p:=⟨b,1,none⟩) (Qn B0.out)).trans (Zy B0.out).2.1,(NJ.out.cell rY.out).trans RB.out⟩ (fun zZ=> ?_)
   clear hK K;refine Qb ?_;refine Qo 11 zZ ?_;refine Yh (by kernel_rfl) rfl (fun K hK=> ?_);go_simp;refine hK.out _ _ ?_;clear hK K;refine Qb ?_;refine Yc (by kernel_rfl) ?_ _;go_wp2_with fail;go_roundw
   case rel=>exact⟨k+1,by go_num,by omega,Qq ⟨_,by rw [zD.out];exact qQ.out⟩⟩
   case measure=>simp [intOf];omega
  obtain rfl:val.length=k:=by omega
  rw [List.take_length]at HI;have dP:=HI.out;obtain⟨vals,tR⟩:∃z,z=val.map (fun s=>Jt s ws):=⟨_,rfl⟩;have mD:=Qq tR;rw [<-tR]at HI;obtain⟨e0,e1,e2,el⟩:=Zy (((dP.ext.block (Qn B0.out))).trans B0.out);clear tF dP tR;go_wp2_with fail;clear e0 e1 e2 el;go_loopw [7] (fun v wr=>∃k:Nat,v=.int .i64 (k:Int)/\k<=rel.length/\Hid (∃vy,Fm W0 wr mb (mb+1) (ws.length:Int) vx vals vy ((rel.take k).map fun r=>ws.map fun w=>Jt (r.getD w 0) ws))) (fun v _=>rel.length - (intOf v).toNat)
  case atStart=>exact⟨0,rfl,Nat.zero_le _,Qq ⟨_,HI.out⟩⟩
  case round =>
   clear HI HX;obtain⟨k,rfl,hk,zY⟩:=hrel;obtain⟨vy,tF⟩:=zY.out;have HI:=Qq tF;have HX:=Qq (X0.out.trans tF.ext);obtain⟨e0,e1,e2,el⟩:=Zy ((tF.ext.block (Qn B0.out)).trans B0.out);clear zY;by_cases hlt2:k < rel.length
   ·have yV:(k:Int) < (rel.length:Int):=by omega
    obtain⟨ad,u,rfl,zV,yU,hu⟩:=HR.out k hlt2;have zD:=Qq (show(rel.take (k+1)).map (fun r=>ws.map fun w=>Jt (r.getD w 0) ws)=(rel.take k).map (fun r=>ws.map fun w=>Jt (r.getD w 0) ws)++ [ws.map fun w=>Jt ((rel.getD k []).getD w 0) ws]from by
     rw [Ma hlt2,Qk (l:=rel),Qv hlt2];rfl)
    have oH:rel.getD k []∈rel:=by rw [Qk,Qv hlt2];exact List.getElem_mem _
    have eC:=Qq (qI.out _ oH);have eA:=Qq (tM.out _ oH);obtain⟨Au,cu,rfl,sO,oF,HU⟩:=Vf hu;have RB:=Qq ((HX.out.cell (p:=ad.add k) (Qj zV)).trans yU);have rY:=Qq (show(ad.add k).block < wr.heap.size by rw [Qr];exact Qy zV HX.out.size);have bS:=Qq ((tF.ext.block (Qn B0.out)).trans B0.out);obtain⟨r,hr⟩:∃r,r=rel.getD k []:=⟨_,rfl⟩;rw [<-hr]at RB zD eC eA HU;obtain⟨rows,vT⟩:∃z,z=(rel.take k).map (fun r=>ws.map fun w=>Jt (r.getD w 0) ws):=⟨_,rfl⟩;have rA:rows.length<=4:=by rw [vT,List.length_map,List.length_take];omega
    rw [<-vT]at HI zD;obtain⟨wa,xC⟩:∃v,v=wr:=⟨_,rfl⟩;subst xC;clear tF zV yU hu oH vT hr;go_wp2_with fail;clear e0 e1 e2 el;go_loopw [8,9] (fun v vi wr=>∃i:Nat,vi=.int .i64 (i:Int)/\i<=ws.length/\Hid (Qg wa wr/\Zf wa.heap.size wr v ((ws.take i).map fun w=>Jt (r.getD w 0) ws))) (fun _ v _=>ws.length - (intOf v).toNat)
    case atStart=>exact⟨0,rfl,Nat.zero_le _,Qq ⟨Qz,Zf.nil _ _⟩⟩
    case round =>
     obtain⟨i,rfl,hi,zY⟩:=hrel;have wY:=Qq zY.out.1;have vB:=Qq zY.out.2;clear zY;by_cases yW:i < ws.length
     ·have wV:(i:Int) < (ws.length:Int):=by omega
      obtain⟨wd,rfl,jW,tH⟩:=HA.out i yW;have tQ:=Qq (show(ws.take (i+1)).map (fun w=>Jt (r.getD w 0) ws)=(ws.take i).map (fun w=>Jt (r.getD w 0) ws)++ [Jt (r.getD (ws.getD i 0) 0) ws]from by
       rw [Ma yW,Qk (l:=ws),Qv yW];rfl)
      have nG:ws.getD i 0 < r.length:=by
       rw [eC.out];exact hZ.out _ (by rw [Qk,Qv yW];exact List.getElem_mem _)
      obtain⟨q,hq⟩:∃q,q=ws.getD i 0:=⟨_,rfl⟩;rw [<-hq]at tH nG tQ;obtain⟨ud,rfl,wF,RJ⟩:=HU.out q nG;have AD:(q:Int) < (r.length:Int):=by omega
      have rD:=Qq (show Qm (r.getD q 0)from eA.out _ (by rw [Qk,Qv nG];exact List.getElem_mem _));obtain⟨s,hs⟩:∃s,s=r.getD q 0:=⟨_,rfl⟩;rw [<-hs]at RJ rD tQ;obtain⟨pz,pO⟩:∃z,z=Jt s ws:=⟨_,rfl⟩;have eE:=Qq pO;rw [<-pO]at tQ;have wL:=Qq ((HX.out.cell (p:=wd.add i) (Qj jW)).trans tH);have sM:=Qq (show(wd.add i).block < wa.heap.size by rw [Qr];exact Qy jW HX.out.size);have jJ:=Qq ((HX.out.cell (p:=ud.add q) (Qj wF)).trans RJ);have uO:=Qq (show(ud.add q).block < wa.heap.size by rw [Qr];exact Qy wF HX.out.size);have a0:=(wY.out.cell rY.out).trans RB.out
      have al:=Qy rY.out wY.out.size;have b0:=(wY.out.cell sM.out).trans wL.out;have bl:=Qy sM.out wY.out.size;have c0:=(wY.out.cell uO.out).trans jJ.out;have cl:=Qy uO.out wY.out.size;obtain⟨e0,e1,e2,el⟩:=Zy ((wY.out.block (Qn bS.out)).trans bS.out);have J3:=Qq (show wa.cell? ⟨b,2,none⟩=some (.slice (some ad) rel.length cr)from(Zy bS.out).2.2.1);have OZ:=Qq (Qn bS.out);obtain⟨out,yF⟩:∃z,z=(ws.take i).map (fun w=>Jt (r.getD w 0) ws):=⟨_,rfl⟩;have sZ:out.length<=64:=by rw [yF,List.length_map,List.length_take];omega
      rw [<-yF]at vB tQ;have xS:out.length+1<=maxLen:=by unfold maxLen;omega
      have xP:(out.length+1)*8<=140737488355328:=by omega
      obtain⟨A1,c1,rfl⟩:=Qt vB.out;clear jW tH hq wF RJ hs pO yF nG;go_upto_region 13 with(fail);refine Ym 16 (fun w'=>w'.cell? (⟨b,2,none⟩)=some (.slice (some ad) rel.length cr)/\w'.cell? (ad.add k)=some (.slice (some ud) r.length cu)/\w'.cell? (wd.add i)=some (.int .i64 (q:Int))/\w'.cell? (ud.add q)=some (.int .u64 (s:Int))) (by kernel_rfl) ⟨xd el e2,xd al a0,xd bl b0,xd cl c0⟩ (fun zZ=> ?_);refine Qo 0 zZ ?_;refine Qo 1 zZ ?_;refine Qo 2 zZ ?_;refine Qo 3 zZ ?_;refine Qo 4 zZ ?_;refine Qo 5 zZ ?_;refine Qo 6 zZ ?_;refine Qo 7 zZ ?_;refine Qo 8 zZ ?_
      refine Qo 9 zZ ?_;refine Qo 10 zZ ?_;refine Qo 11 zZ ?_;refine Qo 12 zZ ?_;refine Qe (rs:= [13]) (by kernel_rfl) (by simp) ?_;refine Zj.cons rfl (fun K hK=> ?_) Zj.nil;go_simp;refine(Qvm s _ ws _ (HN.out.ext (HX.out.trans (wY.out.trans xv))) eO.out hl).mono ?_;rintro e w6 ⟨rfl,rfl⟩;rw [<-eE.out];go_wp2_with fail;refine hK.out _ _ ⟨xd el e2,xd al a0,xd bl b0,xd cl c0⟩ (fun zZ=> ?_);clear hK K;refine Qb ?_;refine Qe (rs:= [14]) (by kernel_rfl) (by simp) ?_;refine Zj.cons rfl (fun K hK=> ?_) Zj.nil;go_simp;refine hK.out _ _ ⟨xd el e2,xd al a0,xd bl b0,xd cl c0⟩ (fun zZ=> ?_)
      clear hK K;refine Qb ?_;refine Qe (rs:= [15]) (by kernel_rfl) (by simp) ?_;refine Zj.cons rfl (fun K hK=> ?_) Zj.nil;refine Gk rfl (.tmp 45) (.tmp 59) 23 rfl wa.heap.size 41 iU (.int .u64 0) 1 8 Tryz.underlying23 sG xF xE xD rfl (by decide) (.slice A1 out.length c1) out.length (uV out) (by simp [Act.eval]) (Zg vB.out xv) ⟨wr.heap.size,0,none⟩ 1 1 [.int .u64 (pz:Int)] (by simp [Act.eval]) rfl (by exact Zt _ _ _ (by simp)) (fun u hu=>by rw [List.mem_singleton.1 hu];rfl) xS xP (Qx wY.out.size (Qg.size (a:=wr) xv)) ?_;intro v7 w7 zW zX zF;have sL:=Qq (show Qg wa w7 from(wY.out.trans (show Qg wr _ from xv)).grown zX (fun k hk=>(World.ownsRow.lt vB.out k hk).1))
      have pL:=Qq (Zf.snoc zW);obtain⟨A7,c7,qL⟩:=Qt zW;subst qL;clear zW zX zF;refine hK.out _ _ ⟨(sL.out.cell (p:=⟨b,2,none⟩) OZ.out).trans J3.out,(sL.out.cell rY.out).trans RB.out,(sL.out.cell sM.out).trans wL.out,(sL.out.cell uO.out).trans jJ.out⟩ (fun zZ=> ?_);clear hK K;refine Qb ?_;refine Yh (by kernel_rfl) rfl (fun K hK=> ?_);go_simp;refine hK.out _ _ ?_;clear hK K;refine Qb ?_;refine Yc (by kernel_rfl) ?_ _;go_wp2_with fail;go_roundw
      case rel=>exact⟨i+1,by go_num,by omega,Qq ⟨sL.out,by rw [tQ.out];exact pL.out⟩⟩
      case measure=>simp [intOf];omega
     obtain rfl:ws.length=i:=by omega
     rw [List.take_length]at vB;obtain⟨rw1,lP⟩:∃z,z=ws.map (fun w=>Jt (r.getD w 0) ws):=⟨_,rfl⟩;rw [<-lP]at vB zD;have nB:=Qq (HI.out.next wY.out);obtain⟨us,tJ,zR,xQ⟩:=nB.out.rel;have dU:=Qq (show ∀g,vy.ownBlock=some g->g < wa.heap.size from fun g hg=>by obtain⟨us2,_,xT,_⟩:=HI.out.rel;exact(xT.lt g hg).2);have lG:=Qq tJ;have yO:=Qq zR;have oD:=Qq xQ;have RK:us.length<=4:=by rw [tJ];exact rA
     obtain⟨⟨m0,m1,m2⟩,⟨mf0,mf1,mf2⟩,ml⟩:=nB.out.cells;obtain⟨Av2,cv2,rfl⟩:=Qt zR;obtain⟨A1,c1,rfl⟩:=Qt vB.out;have xS:us.length+1<=maxLen:=by unfold maxLen;omega
     have xP:(us.length+1)*24<=140737488355328:=by omega
     clear tJ zR xQ m0 m1 lP rA;obtain⟨wo,bV⟩:∃v,v=wr:=⟨_,rfl⟩;subst bV;go_wp2_with(at_builtin;refine wpList_append_own_at _ rfl _ _ 24 rfl (mb+1) 23 iS (.slice none 0 0) 1 24 Tryz.underlying24 SR jN jM jL rfl (by decide) _ us.length us rfl (Zg yO.out (Qz.alloc _)) ⟨_,0,none⟩ 1 1 [.slice A1 rw1.length c1] rfl rfl (Zt _ _ _ (by simp)) (fun u hu=>by rw [List.mem_singleton.1 hu];rfl) xS xP (Qx (show mb+1<=wo.heap.size from ml) (by simp)) ?_);intro v7 w7 zW zX sF zF;have qQ:=Qq (nB.out.pushRow lG.out yO.out oD.out (Qz.alloc _) (vB.out.low (Nat.succ_le_of_lt HI.out.mlt)) (fun g hg hv=>absurd (dU.out g hv) (by have:=(World.ownsRow.lt vB.out g hg).1;omega)) zW zX (zF.imp_right fun h=>by rw [h];simp))
     obtain⟨⟨p0,p1,p2⟩,⟨pf0,pf1,pf2⟩,pl⟩:=Zc ((zX.block mb (Qy ml ((Qg.refl wo).alloc (.cells #[.slice A1 rw1.length c1] 23)).size) (fun e=>absurd (World.ownsRow.lt yO.out mb e.symm).1 (by omega))).trans ((((Qg.refl wo).alloc (.cells #[.slice A1 rw1.length c1] 23)).block ml).trans nB.out.cell));obtain⟨A7,c7,rfl⟩:=Qt zW;clear zW zX sF zF m2 mf0 mf1 mf2 p0 p1 pf0 pf1;go_wp2_with fail;go_roundw
     case rel=>exact⟨k+1,by go_num,by omega,Qq ⟨_,by rw [zD.out];exact qQ.out⟩⟩
     case measure=>simp [intOf];omega
   obtain rfl:rel.length=k:=by omega
   rw [List.take_length]at HI;obtain⟨us,-,zR,-⟩:=HI.out.rel;obtain⟨Az,cz,rfl⟩:=Qt HI.out.val;obtain⟨Ay,cy,rfl⟩:=Qt zR;clear zR;obtain⟨⟨m0,m1,m2⟩,⟨mf0,mf1,mf2⟩,ml⟩:=HI.out.cells;have wD:=Qq ((tF.ext.block (Qn B1.out)).trans B1.out);obtain⟨⟨q0,q1,q2⟩,⟨f0,f1,f2⟩,ql⟩:=Zc wD.out;have yB:=Qq (show w.heap.size<=b+1 by rw [rX.out];omega);have oC:=Qq (show b+1<=mb by rw [FQ.out];omega);have HE:=Qq (show Vj md ws=⟨(ws.length:Int),vals,rel.map fun r=>ws.map fun w=>Jt (r.getD w 0) ws⟩ by rw [mD.out,dV.out,eD.out];rfl);clear tF;go_wp2_with fail
   (try simp only [Exit.inBlock,Exit.then])
   refine bodyPost_ret (My Tryz.results154 _ _ rfl (Jj (Yn wD.out _ _ _)) Tryz.underlying26 rfl (by kernel_rfl)) rfl ?_;refine⟨_,rfl,fun W hW=> ?_,Yb HX.out yB.out _ _ _⟩;rw [HE.out];have h1:=yB.out;have h2:=oC.out;exact HI.out.mdv ⟨Qx (by simp [World.setCell]) hW.1,fun k hk hl=>(hW.2 k (by omega) (by simpa [World.setCell]using hl)).trans (Kx (fun e=>hk (by rw [e];exact Nat.lt_succ_of_le oC.out)) _ _ _)⟩
def Qzb(s:Nat):Nat:=((List.range 64).map fun i=>if s.testBit i=true then 1 else 0).sum
theorem Zqm:∀n:Fin 65,((List.range 64).map fun i=>if i < n.1 then 1 else 0).sum=n.1:=by decide+kernel
theorem Zye {s n:Nat}(h:s < 2^n)(hn:n<=64):Qzb s<=n:=by
 have h2:Qzb s<=((List.range 64).map fun i=>if i < n then 1 else 0).sum:=Qj6 _ fun i _=>by
  by_cases hb:s.testBit i=true
  ·rw [if_pos hb,if_pos (Kf h hb)];exact Nat.le_refl _
  rw [if_neg hb];exact Nat.zero_le _
 exact Qx h2 (Nat.le_of_eq (Zqm ⟨n,by omega⟩))
theorem Qax {s t n:Nat}(ht:t < 2^n)(hn:n<=64)(gH:∀i,s.testBit i=true->t.testBit i=true)(zQ:s≠t):Qzb s < Qzb t:=by
 refine Qn9 _ (fun i _=> ?_) ?_
 ·by_cases hb:s.testBit i=true
  ·rw [if_pos hb,if_pos (gH i hb)];exact Nat.le_refl _
  rw [if_neg hb];exact Nat.zero_le _
 refine Classical.byContradiction fun oI=>zQ (Nat.eq_of_testBit_eq fun i=> ?_)
 cases hs:s.testBit i <;> cases yK:t.testBit i
 ·rfl
 ·refine absurd ⟨i,List.mem_range.2 (Qy (Kf ht yK) hn),?_⟩ oI;rw [if_neg (by rw [hs];simp),if_pos yK];exact Nat.one_pos
 ·rw [gH i hs]at yK;cases yK
 rfl
structure GrO (md:Md) (fr s:Nat):Prop where
 sub:∀i,fr.testBit i=true->s.testBit i=true
 low:s < 2^md.n.toNat
 least:∀c:Nat->Prop,(∀i,fr.testBit i=true->c i)->(∀a,a < md.rel.length->∀u,c u->∀v,((md.rel.getD a []).getD u 0).testBit v=true->c v)->∀i,s.testBit i=true->c i
def Qae(md:Md)(s w:Nat):Prop:=∀u,u < w->s.testBit u=true->∀a,a < md.rel.length->∀v,((md.rel.getD a []).getD u 0).testBit v=true->s.testBit v=true
def GrR(md:Md)(fr i s:Nat):Prop:=GrO md fr s/\(Qae md s md.n.toNat\/i+1<=Qzb s)
def GrW(md:Md)(fr s0 w s:Nat):Prop:=GrO md fr s/\((s=s0/\Qae md s0 w)\/Qzb s0 < Qzb s)
def GrA(md:Md)(fr s0 w a s:Nat):Prop:=GrO md fr s/\s.testBit w=true/\((s=s0/\Qae md s0 w/\∀b,b < a->∀v,((md.rel.getD b []).getD w 0).testBit v=true->s0.testBit v=true)\/Qzb s0 < Qzb s)
section
variable {md:Md} {fr i w a s s0 k:Nat}
theorem GrR.start(hk:k < md.n.toNat)(hn:md.n.toNat<=64):GrR md (2^k) 0 (2^k):=by
 refine⟨⟨fun _ h=>h,Nat.pow_lt_pow_right (by decide) hk,fun _ h _=>h⟩,.inr ?_⟩;have:=Qax (s:=0) (t:=2^k) (n:=64) (Nat.pow_lt_pow_right (by decide) (by omega)) (Nat.le_refl _) (fun i hi=>by rw [Nat.zero_testBit]at hi;cases hi) (Nat.ne_of_lt (Nat.two_pow_pos _));omega
theorem GrR.enter(h:GrR md fr i s):GrW md fr s 0 s:=⟨h.1,.inl ⟨rfl,fun u hu=>absurd hu (by omega)⟩⟩
theorem GrW.enter(h:GrW md fr s0 w s)(hw:s.testBit w=true):GrA md fr s0 w 0 s:=⟨h.1,hw,h.2.imp (fun⟨e,h⟩=>⟨e,h,fun b hb=>absurd hb (by omega)⟩) id⟩
theorem GrW.pass(h:GrW md fr s0 w s)(hw:s.testBit w=false):GrW md fr s0 (w+1) s:=⟨h.1,h.2.imp (fun⟨e,h⟩=>⟨e,fun u hu hb=>by
 by_cases e2:u=w
 ·rw [e2,<-e,hw]at hb;cases hb
 exact h u (by omega) hb⟩) id⟩
theorem GrA.step(h:GrA md fr s0 w a s)(hn:md.n.toNat<=64)(ha:a < md.rel.length)(hr:(md.rel.getD a []).getD w 0 < 2^md.n.toNat):GrA md fr s0 w (a+1) (s|||(md.rel.getD a []).getD w 0):=by
 obtain⟨h1,h2,h3⟩:=h;obtain⟨r,AP⟩:∃r,r=(md.rel.getD a []).getD w 0:=⟨_,rfl⟩;rw [<-AP]at hr⊢;have wQ:s|||r < 2^md.n.toNat:=Nat.or_lt_two_pow h1.low hr;refine⟨⟨fun i hi=>by rw [Nat.testBit_or,h1.sub i hi,Bool.true_or],wQ,fun c c1 c2 i hi=> ?_⟩,by rw [Nat.testBit_or,h2,Bool.true_or],?_⟩
 ·rw [Nat.testBit_or,Bool.or_eq_true]at hi;rcases hi with hi|hi
  ·exact h1.least c c1 c2 i hi
  exact c2 a ha w (h1.least c c1 c2 w h2) i (by rw [<-AP];exact hi)
 have iN:∀i,s.testBit i=true->(s|||r).testBit i=true:=fun i hi=>by rw [Nat.testBit_or,hi,Bool.true_or]
 by_cases e:s=s|||r
 ·rcases h3 with⟨e3,h4,h5⟩|h3
  ·refine .inl ⟨e.symm.trans e3,h4,fun b hb v hv=> ?_⟩;by_cases eb:b=a
   ·rw [eb,<-AP]at hv;rw [<-e3,e,Nat.testBit_or,hv,Bool.or_true]
   exact h5 b (by omega) v hv
  rw [<-e];exact .inr h3
 have:=Qax wQ hn iN e;rcases h3 with⟨e3,_⟩|h3
 ·rw [<-e3];exact .inr this
 exact .inr (by omega)
theorem GrA.leave(h:GrA md fr s0 w md.rel.length s):GrW md fr s0 (w+1) s:=⟨h.1,h.2.2.imp (fun⟨e,h4,h5⟩=>⟨e,fun u hu hb a ha v hv=>by
 by_cases e2:u=w
 ·rw [e2]at hv;exact h5 a ha v hv
 exact h4 u (by omega) hb a ha v hv⟩) id⟩
theorem GrW.leave(h0:GrR md fr i s0)(h:GrW md fr s0 md.n.toNat s):GrR md fr (i+1) s:=by
 refine⟨h.1,?_⟩;rcases h.2 with⟨e,h2⟩|h2
 ·exact .inl (by rw [e];exact h2)
 rcases h0.2 with h3|h3
 ·refine Classical.byCases (fun e:s=s0=> .inl (by rw [e];exact h3)) fun e=> ?_
  refine absurd h2 (Nat.not_lt.2 ?_);have hc:∀v,s.testBit v=true->s0.testBit v=true:=h.1.least (fun v=>s0.testBit v=true) h0.1.sub (fun a ha u hu v hv=>h3 u (Kf h0.1.low hu) hu a ha v hv);exact Qj6 _ fun i _=>by
   by_cases hb:s.testBit i=true
   ·rw [if_pos hb,if_pos (hc i hb)];exact Nat.le_refl _
   rw [if_neg hb];exact Nat.zero_le _
 exact .inr (by omega)
theorem GrR.done(h:GrR md fr md.n.toNat s)(hn:md.n.toNat<=64):Ni md fr s:=by
 refine⟨h.1.sub,fun a ha u hu v hv=> ?_,h.1.least⟩;rcases h.2 with h2|h2
 ·exact h2 u (Kf h.1.low hu) hu a ha v hv
 have:=Zye h.1.low hn;omega
end
theorem Qgi(vm:Value)(md:Md)(s:Nat)(w:World)(hs:Qm s)(hm:Jk w vm md)(zP:md.ok):
 Calls Tryz.prog 84 #[vm,.int .u64 (s:Int)] w fun e w'=>∃vr vl,e=.returned (.tuple #[vr,vl,.int .i64 (Gw md s)])/\Qg w w'/\Vs (fun k=>k < w.heap.size) w' (fun W=>Jk W vr (Cw md s)/\Mk W vl (Ce md s)):=by
 have HM:=Qq hm;have HS:=Qq hs;have zE:=Qq zP;obtain⟨vv,vr,rfl,⟨Av,cv,rfl,_⟩,⟨Ar,cr,rfl,_⟩⟩:=hm;obtain⟨n,hn⟩:∃n,n=md.n:=⟨_,rfl⟩;have HN:=Qq hn;rw [<-hn]at HM⊢;obtain⟨rE,RT⟩:∃z,z=Gw md s:=⟨_,rfl⟩;have uB:=Qq RT;rw [<-RT];obtain⟨ck,zU⟩:∃z,z=Qa md:=⟨_,rfl⟩;have yD:=Qq zU;obtain⟨W0,zK⟩:∃W,W=(w.alloc (.cells #[.int .i64 n,.slice Av md.val.length cv,.slice Ar md.rel.length cr] 26)).alloc (.cells #[.int .i64 0,.slice none 0 0,.slice none 0 0] 26):=⟨_,rfl⟩;have X0:=Qq (show Qg w W0 by rw [zK];exact(Qz.alloc _).alloc _);obtain⟨b,hb⟩:∃b,b=w.heap.size:=⟨_,rfl⟩;have B0:=Qq (show W0.heap[b]?=some (.cells #[.int .i64 n,.slice Av md.val.length cv,.slice Ar md.rel.length cr] 26 (0,0)) by rw [zK,hb];exact((Qz.alloc _).block (by simp)).trans (heap_alloc_new _ _))
 have B1:=Qq (show W0.heap[b+1]?=some (.cells #[.int .i64 0,.slice none 0 0,.slice none 0 0] 26 (0,0)) by
  have h1:=heap_alloc_new (w.alloc (.cells #[.int .i64 n,.slice Av md.val.length cv,.slice Ar md.rel.length cr] 26)) (.cells #[.int .i64 0,.slice none 0 0,.slice none 0 0] 26);rw [zK,hb]
  simpa using h1)
 have yB:=Qq (show w.heap.size<=b+1 by omega);clear hs zP hn RT zU;obtain⟨e0,e1,e2,el⟩:=Zy B0.out;go_enter Tryz.func84,Tryz.ntmps84;go_upto_region 1 with(fail);rw [<-zK,<-hb];clear zK hb;go_wp2_with fail;refine(Fy _ md _ (HM.out.ext X0.out) zE.out).mono ?_;rintro e w1 ⟨rfl,hx⟩;rw [<-yD.out];have zO:=Qq hx;have wD:=Qq ((hx.block (Qn B1.out)).trans B1.out);obtain⟨⟨q0,q1,q2⟩,⟨f0,f1,f2⟩,ql⟩:=Zc wD.out;clear hx e0 e1 e2 el;by_cases hz:ck=0
 case neg =>
  have zQ:(ck !=0)=true:=by simpa using hz
  have HE:=Qq (show rE=ck by rw [uB.out,yD.out];unfold Gw;rw [if_pos (by rw [<-yD.out];exact hz)]);have HZ:=Qq (show Gw md s≠0 by rw [<-uB.out,HE.out];exact hz);clear hz;go_wp2_with fail
  (try simp only [Exit.inBlock,Exit.then])
  refine bodyPost_ret (Jd Tryz.results84 _ _ rfl (Jj (Yn wD.out _ _ _)) Tryz.underlying26 rfl (by kernel_rfl)) rfl ?_;exact⟨_,_,by rw [HE.out] <;> rfl,Yb (X0.out.trans zO.out) yB.out _ _ _,fun W _=>by unfold Cw Ce;rw [if_neg HZ.out,if_neg HZ.out];exact⟨Gs _,Mw _⟩⟩
 subst hz;have zU:=yD.out.symm;obtain⟨wU,yZ,_⟩:=Zv zU;obtain⟨N,rP⟩:=Int.eq_ofNat_of_zero_le (show 0<=n by rw [HN.out];omega);have vJ:=Qq (show md.n.toNat=N by rw [<-HN.out,rP];exact Int.toNat_natCast N);have yC:N<=64:=by have:=HN.out;omega
 have uI:=Qq (show rE=if Jr s (Zk N)=false then 2 else if s=0 then 6 else 0 by rw [uB.out];unfold Gw;rw [if_neg (by rw [zU];simp),vJ.out]);subst rP;have yH:=Yg HS.out (Yk yC);have rC:=Rr (a:=s) (b:=Zk N);obtain⟨d,hd⟩:∃d,d=Zl s (Zk N):=⟨_,rfl⟩;rw [<-hd]at yH rC;obtain⟨e0,e1,e2,el⟩:=Zy ((zO.out.block (Qn B0.out)).trans B0.out);clear zU wU yZ hd;go_wp2_with fail;refine(Sm N yC _).mono ?_;rintro e w2 ⟨rfl,rfl⟩;cases hsb:Jr s (Zk N)
 ·rw [hsb]at rC uI;have zQ:((d:Int) !=0)=true:=by
   have:d≠0:=by intro e;rw [e]at rC;cases rC
   simp;omega
  have HE:=Qq (show rE=2 by rw [uI.out,if_pos rfl]);have HZ:=Qq (show Gw md s≠0 by rw [<-uB.out,HE.out];decide);clear rC hsb;go_wp2_with fail
  (try simp only [Exit.inBlock,Exit.then])
  refine bodyPost_ret (Jd Tryz.results84 _ _ rfl (Jj (Yn wD.out _ _ _)) Tryz.underlying26 rfl (by kernel_rfl)) rfl ?_;exact⟨_,_,by rw [HE.out] <;> rfl,Yb (X0.out.trans zO.out) yB.out _ _ _,fun W _=>by unfold Cw Ce;rw [if_neg HZ.out,if_neg HZ.out];exact⟨Gs _,Mw _⟩⟩
 rw [hsb]at rC uI;rw [if_neg (by simp)]at uI;have nP:d=0:=by simpa using rC
 subst nP;have fV:=Qq hsb;clear rC hsb;by_cases sI:s=0
 ·have zQ:((s:Int)==0)=true:=by rw [sI];rfl
  have HE:=Qq (show rE=6 by rw [uI.out,if_pos sI]);have HZ:=Qq (show Gw md s≠0 by rw [<-uB.out,HE.out];decide);clear sI;go_wp2_with fail
  (try simp only [Exit.inBlock,Exit.then])
  refine bodyPost_ret (Jd Tryz.results84 _ _ rfl (Jj (Yn wD.out _ _ _)) Tryz.underlying26 rfl (by kernel_rfl)) rfl ?_;exact⟨_,_,by rw [HE.out] <;> rfl,Yb (X0.out.trans zO.out) yB.out _ _ _,fun W _=>by unfold Cw Ce;rw [if_neg HZ.out,if_neg HZ.out];exact⟨Gs _,Mw _⟩⟩
 have zQ:((s:Int)==0)=false:=by rw [beq_eq_false_iff_ne];omega
 have HE:=Qq (show rE=0 by rw [uI.out,if_neg sI]);have HZ:=Qq (show Gw md s=0 by rw [<-uB.out,HE.out]);clear sI e0 e1 e2 el q0 q1 q2 f0 f1 f2 ql;go_wp2_with fail;refine(Qbe s _).mono ?_;rintro e w2 ⟨vl,rfl,nJ,hx⟩;have hO:=Qq nJ;have FO:=Qq nJ.nts;obtain⟨Al,cl,sN,_⟩:=nJ.nts;subst sN;have zT:=Qq hx;have X2:=Qq (zO.out.trans hx);obtain⟨e0,e1,e2,el⟩:=Zy ((X2.out.block (Qn B0.out)).trans B0.out);clear nJ hx;go_wp2_with fail;refine(Qm2 _ _ md (Za s) _ (HM.out.ext (X0.out.trans X2.out)) zE.out yD.out.symm FO.out (fun u hu=> ?_) (Ea s)).mono ?_
 ·have h1:=Je.1 fV.out u (Ff.1 hu).2;rw [Vz,decide_eq_true_iff]at h1;rw [vJ.out];exact h1
 rintro e w3 ⟨u,rfl,sJ,hx⟩;have vB:=Qq sJ;have zB:=Qq hx;have X3:=Qq (X2.out.trans hx);have wD:=Qq ((X3.out.block (Qn B1.out)).trans B1.out);obtain⟨u0,u1,hu,⟨A1,c1,rfl,_⟩,⟨A2,c2,rfl,_⟩⟩:=sJ.here;subst hu;obtain⟨l1,mU⟩:∃z,z=(Vj md (Za s)).n:=⟨_,rfl⟩;obtain⟨l2,qN⟩:∃z,z=(Vj md (Za s)).val.length:=⟨_,rfl⟩;obtain⟨l3,oK⟩:∃z,z=(Vj md (Za s)).rel.length:=⟨_,rfl⟩;rw [<-mU,<-qN,<-oK]at vB⊢;obtain⟨⟨q0,q1,q2⟩,⟨f0,f1,f2⟩,ql⟩:=Zc wD.out;have VA:=Qq (show b+1 < w1.heap.size from Qy (Qn B1.out) zO.out.size);clear sJ hx e0 e1 e2 el mU qN oK;go_wp2_with fail
 (try simp only [Exit.inBlock,Exit.then])
 refine bodyPost_ret (Jd Tryz.results84 _ _ rfl (Jj (Yn wD.out _ _ _)) Tryz.underlying26 rfl (by kernel_rfl)) rfl ?_;refine⟨_,_,by rw [HE.out] <;> rfl,Yb (X0.out.trans X3.out) yB.out _ _ _,fun W hW=> ?_⟩;have h1:=VA.out;have h2:=zO.out.size;have h3:=X0.out.size;have h4:=zB.out.size;have h5:=yB.out;unfold Cw Ce;rw [if_pos HZ.out,if_pos HZ.out];have xB:(((w3.setCell ⟨b+1,0,none⟩ (.int .i64 l1)).setCell ⟨b+1,1,none⟩ (.slice A1 l2 c1)).setCell ⟨b+1,2,none⟩ (.slice A2 l3 c2)).heap.size=w3.heap.size:=by simp [World.setCell]
 have vU:∀k,w1.heap.size<=k->k < w3.heap.size->W.heap[k]?=w3.heap[k]?:=fun k hk hl=>(hW.2 k (by omega) (by omega)).trans (Kx (by omega) _ _ _)
 have h6:=hW.1;have h7:w1.heap.size<=w2.heap.size:=zT.out.size;have zR:Uv w1.heap.size W (.slice Al (Za s).length cl) (Za s):=Zp hO.out fun k hk=>by
  have yV:=World.ownsRow.lt hO.out k hk;rw [vU k yV.1 (by omega),zB.out.block yV.2]
 exact⟨vB.out W ⟨by omega,fun k hk hl=>vU k (by omega) hl⟩,zR.nts⟩
theorem Qwc {k n:Nat}(hk:k < n):Jr (2^k) (Zk n)=true:=Je.2 fun i hi=>by
 rw [Nat.testBit_two_pow,decide_eq_true_iff]at hi;rw [Vz,<-hi,decide_eq_true hk]
theorem Qxr(vm:Value)(md:Md)(fr k:Nat)(w:World)(hm:Jk w vm md)(zP:md.ok)(zU:Qa md=0)(hf:fr=2^k)(hk:k < md.n.toNat):
 Calls Tryz.prog 83 #[vm,.int .u64 (fr:Int)] w fun e w'=>∃out:Nat,e=.returned (.tuple #[.int .u64 (out:Int),.int .i64 0])/\Ni md fr out/\Qm out/\Qg w w':=by
 have HM:=Qq hm;have zE:=Qq zP;have yD:=Qq zU;have xM:Jr fr (Zk md.n.toNat)=true:=by rw [hf];exact Qwc hk
 obtain⟨wU,yZ,uR,_,wO,_,_⟩:=Zv zU;have hw:Qm fr:=by rw [hf];exact Tl (by omega)
 have HW:=Qq hw;have zA:=Qq (show GrR md fr 0 fr by rw [hf];exact GrR.start hk (by omega));have kN:=Qq (Hv zU).2;have qI:=Qq (show ∀r∈md.rel,r.length=md.n.toNat from fun r hr=>by have:=wO r hr;omega);obtain⟨vv,vr,rfl,⟨Av,cv,rfl,_⟩,hr⟩:=hm;obtain⟨Ar,cr,rfl,RS,oH,HR⟩:=Gj hr;obtain⟨N,rP⟩:=Int.eq_ofNat_of_zero_le (show 0<=md.n by omega);have qG:md.n.toNat=N:=by rw [rP];exact Int.toNat_natCast N
 have yC:N<=64:=by omega
 have vJ:=Qq qG;rw [rP]at HM⊢;have rC:Zl fr (Zk N)=0:=by
  have:=Rr (a:=fr) (b:=Zk N);rw [<-qG,xM]at this;rw [<-qG]
  simpa using this
 have yH:=Yg hw (Yk yC);rw [rC]at yH;obtain⟨nr,cR⟩:∃z,z=md.rel.length:=⟨_,rfl⟩;have mG:=Qq cR;have BB:nr<=4:=by rw [cR];exact uR
 obtain⟨W0,zK⟩:∃W,W=w.alloc (.cells #[.int .i64 (N:Int),.slice Av md.val.length cv,.slice Ar md.rel.length cr] 26):=⟨_,rfl⟩;have X0:=Qq (show Qg w W0 by rw [zK];exact Qz.alloc _);obtain⟨b,hb⟩:∃b,b=w.heap.size:=⟨_,rfl⟩;have B0:=Qq (show W0.heap[b]?=some (.cells #[.int .i64 (N:Int),.slice Av md.val.length cv,.slice Ar md.rel.length cr] 26 (0,0)) by rw [zK,hb];exact heap_alloc_new _ _);rw [<-cR]at B0;clear zP zU xM hf hk hw wU yZ hr rP qG rC wO;go_enter Tryz.func83,Tryz.ntmps83;go_upto_region 1 with(fail);rw [<-zK,<-hb,<-cR];clear zK hb cR;obtain⟨e0,e1,e2,el⟩:=Zy B0.out;go_wp2_with fail
 refine(Fy _ md _ (by have:=HM.out.ext X0.out;rw [<-mG.out]at this;exact this) zE.out).mono ?_;rintro e w1 ⟨rfl,hx⟩;rw [yD.out];have zO:=Qq hx;have B1:=Qq ((hx.block (Qn B0.out)).trans B0.out);obtain⟨e0,e1,e2,el⟩:=Zy B1.out;clear hx;go_wp2_with fail;refine(Sm N yC _).mono ?_;rintro e w2 ⟨rfl,rfl⟩;go_wp2_with fail;clear e0 e1 e2 el yH;go_loopw [7,8] (fun vs vi wr=>∃s i:Nat,vs=.int .u64 (s:Int)/\vi=.int .i64 (i:Int)/\i<=N/\Hid (GrR md fr i s/\Qm s/\Qg w1 wr)) (fun _ vi _=>N - (intOf vi).toNat)
 case atStart=>exact⟨fr,0,rfl,rfl,Nat.zero_le _,Qq ⟨zA.out,HW.out,Qz⟩⟩
 case round =>
  clear zA HW;obtain⟨s,i,rfl,rfl,hi,zY⟩:=hrel;have GC:=Qq zY.out.1;have HW:=Qq zY.out.2.1;have vN:=Qq zY.out.2.2;clear zY;obtain⟨e0,e1,e2,el⟩:=Zy ((vN.out.block (Qn B1.out)).trans B1.out);by_cases zJ:i < N
  ·have yV:(i:Int) < (N:Int):=by omega
   obtain⟨wa,xC⟩:∃v,v=wr:=⟨_,rfl⟩;subst xC;go_wp2_with fail;clear e0 e1 e2 el;go_loopw [7,9] (fun vs vw wr=>∃s2 u:Nat,vs=.int .u64 (s2:Int)/\vw=.int .i64 (u:Int)/\u<=N/\Hid (GrW md fr s u s2/\Qm s2/\Qg w1 wr)) (fun _ vw _=>N - (intOf vw).toNat)
   case atStart=>exact⟨s,0,rfl,rfl,Nat.zero_le _,Qq ⟨GC.out.enter,HW.out,vN.out⟩⟩
   case round =>
    clear HW vN;obtain⟨s2,u,rfl,rfl,hu,zY⟩:=hrel;have XR:=Qq zY.out.1;have HW:=Qq zY.out.2.1;have vN:=Qq zY.out.2.2;clear zY;obtain⟨e0,e1,e2,el⟩:=Zy ((vN.out.block (Qn B1.out)).trans B1.out);by_cases hlt2:u < N
    ·have wV:(u:Int) < (N:Int):=by omega
     have AF:u < 64:=by omega
     obtain⟨wb,Z9⟩:∃v,v=wr:=⟨_,rfl⟩;subst Z9;go_wp2_with fail;clear e0 e1 e2 el;go_loopw [7,10] (fun vs va wr=>∃s3 a:Nat,vs=.int .u64 (s3:Int)/\va=.int .i64 (a:Int)/\a<=nr/\Hid ((s3.testBit u=true->GrA md fr s u a s3)/\(s3.testBit u=false->GrW md fr s (u+1) s3)/\Qm s3/\Qg w1 wr)) (fun _ va _=>nr - (intOf va).toNat)
     case atStart=>exact⟨s2,0,rfl,rfl,Nat.zero_le _,Qq ⟨XR.out.enter,XR.out.pass,HW.out,vN.out⟩⟩
     case round =>
      clear HW vN XR;obtain⟨s3,a,rfl,rfl,ha,zY⟩:=hrel;have JN:=Qq zY.out.1;have U7:=Qq zY.out.2.1;have HW:=Qq zY.out.2.2.1;have vN:=Qq zY.out.2.2.2;clear zY;obtain⟨e0,e1,e2,el⟩:=Zy ((vN.out.block (Qn B1.out)).trans B1.out);by_cases yW:a < nr
      ·have nM:(a:Int) < (nr:Int):=by omega
       obtain⟨tb,yK⟩:∃z,z=s3.testBit u:=⟨_,rfl⟩;have mY:=Qq yK;clear yK;go_wp2_with fail;refine(Ht s3 u _ AF).mono ?_;rintro e w3 ⟨rfl,rfl⟩;rw [<-mY.out];cases tb
       ·have HP:=Qq (U7.out mY.out.symm);go_wp2_with fail;go_roundw
        case rel=>exact⟨s3,u+1,rfl,by go_num,by omega,Qq ⟨HP.out,HW.out,vN.out⟩⟩
        case measure=>simp [intOf];omega
       have HA:=Qq (JN.out mY.out.symm);obtain⟨ad,ur,rfl,zV,yU,KD⟩:=HR.out a (by rw [<-mG.out];exact yW);have oH:md.rel.getD a []∈md.rel:=by rw [Qk,List.getElem?_eq_getElem (by rw [<-mG.out];exact yW)];exact List.getElem_mem _
       have wP:(md.rel.getD a []).length=N:=by rw [<-vJ.out];exact qI.out _ oH
       obtain⟨Au,cu,rfl,_,_,HU⟩:=Vf KD;rw [wP]at yU HU;obtain⟨ud,rfl,wF,sO⟩:=HU.out u hlt2;have tG:=Qq (X0.out.trans (zO.out.trans vN.out));have a0:=(tG.out.cell (p:=ad.add a) (Qj zV)).trans yU;have al:(ad.add a).block < wr.heap.size:=by rw [Qr];exact Qy zV tG.out.size
       have u0:=(tG.out.cell (p:=ud.add u) (Qj wF)).trans sO;have ul:(ud.add u).block < wr.heap.size:=by rw [Qr];exact Qy wF tG.out.size
       have eN:=Qq (show(md.rel.getD a []).getD u 0 < 2^md.n.toNat from kN.out _ oH _ (by
        have rS:u < (md.rel.getD a []).length:=by rw [wP];exact hlt2
        rw [Qk (l:=md.rel.getD a []),Qv rS];exact List.getElem_mem _))
       have UF:=Qq (HA.out.step (by rw [vJ.out];exact yC) (by rw [<-mG.out];exact yW) eN.out);have yY:=Qq (show Qm ((md.rel.getD a []).getD u 0)from Yx (zE.out.rel _ oH) u);obtain⟨x,hx⟩:∃x,x=(md.rel.getD a []).getD u 0:=⟨_,rfl⟩;rw [<-hx]at u0 UF yY;have zI:=Xq HW.out yY.out;have XM:=Qq (Qq4 HW.out yY.out);obtain⟨o3,QC⟩:∃z,z=s3|||x:=⟨_,rfl⟩;rw [<-QC]at zI UF XM;clear yU sO hx wP KD oH zV wF QC;go_wp2_with fail;go_roundw
       case rel=>exact⟨o3,a+1,rfl,by go_num,by omega,Qq ⟨fun _=>UF.out,(fun h=>by rw [UF.out.2.1]at h;cases h),XM.out,vN.out⟩⟩
       case measure=>simp [intOf];omega
      obtain rfl:nr=a:=by omega
      have HP:=Qq (show GrW md fr s (u+1) s3 from by
       cases yK:s3.testBit u
       ·exact U7.out yK
       have:=JN.out yK;rw [mG.out]at this;exact this.leave)
      go_wp2_with fail;go_roundw
      case rel=>exact⟨s3,u+1,rfl,by go_num,by omega,Qq ⟨HP.out,HW.out,vN.out⟩⟩
      case measure=>simp [intOf];omega
    obtain rfl:N=u:=by omega
    have HP:=Qq (show GrR md fr (i+1) s2 from by
     have:=XR.out;rw [<-vJ.out]at this;exact this.leave GC.out)
    go_wp2_with fail;go_roundw
    case rel=>exact⟨s2,i+1,rfl,by go_num,by omega,Qq ⟨HP.out,HW.out,vN.out⟩⟩
    case measure=>simp [intOf];omega
  obtain rfl:N=i:=by omega
  have HD:=Qq (show Ni md fr s from by
   have:=GC.out;rw [<-vJ.out]at this;exact this.done (by rw [vJ.out];exact yC))
  have HX:=Qq (X0.out.trans (zO.out.trans vN.out));go_wp2_with fail;go_ret2;exact⟨s,rfl,HD.out,HW.out,HX.out⟩
theorem Qdl {md:Md} {f:List Nd} :Jz md (Qf f)=0↔Jz md f=0:=by
 constructor
 ·intro h;obtain⟨h1,_,h3,h4⟩:=Vm h;have hc:=Qvq h;have h2:=Ul hc;have ZK:Jr (Jp f) 15=true:=by unfold Jp at h3⊢;rw [h2]at h3;exact h3
  have TT:Yl f md.rel.length md.val.length=true:=by
   unfold Yl at h4⊢;rw [h2,Gv hc]at h4;rw [hc];exact h4
  unfold Jz;rw [if_neg (by rw [h1];simp),if_neg (by rw [hc];simp),if_neg (by rw [ZK];simp),if_neg (by rw [TT];simp)]
 intro h;obtain⟨h1,hc,h3,h4⟩:=Vm h;have h2:=Ul hc;have wN:=Gv hc;have ZK:Jr (Jp (Qf f)) 15=true:=by unfold Jp at h3⊢;rw [h2];exact h3
 have TT:Yl (Qf f) md.rel.length md.val.length=true:=by
  unfold Yl at h4⊢;rw [h2,wN];rw [hc]at h4;exact h4
 unfold Jz;rw [if_neg (by rw [h1];simp),if_neg (by rw [wN];simp),if_neg (by rw [ZK];simp),if_neg (by rw [TT];simp)]
theorem Qjf(md:Md)(f:List Nd):Sl md f=Jz md f:=by
 unfold Sl
 split
 ·rename_i h;exact(Qdl.1 h).symm
 rfl
theorem Qox {md:Md} {c:List Nd}(zU:Qa md=0)(hc:check c=0)(hf:∀k:Nat,k < c.length->Hf md c (k:Int)=true):∀k,k < c.length->Fp md (Ew md c (Ka md c k) k) (tr c k):=by
 intro k
 induction k using Nat.strongRecOn with
 |_ k ih =>
  intro hk;obtain⟨n,hn⟩:∃n,c[k]?=some n:=⟨_,Qv hk⟩;obtain⟨hx,hy⟩:=Yt hc k n hn;unfold Ew;rw [if_pos (hf k hk),Aj hn,Xd (Yt hc) hn];refine Qfm zU (Qxn hc hn (hf k hk) (Zv zU).2.2.1) (fun h=> ?_) (fun h=> ?_)
  ·have:=hx h;rw [if_pos h,Qzf md c k _ (by omega)];exact ih _ (by omega) (by omega)
  have:=hy h;rw [if_pos h,Qzf md c k _ (by omega)];exact ih _ (by omega) (by omega)
theorem Qfd {md:Md} {f:List Nd}(h0:Jz md f=0):Dj md f=Nc md f:=by
 have h:=Qdl.2 h0;obtain⟨zU,wN,hs,hf⟩:=Vm h;have hc:check f=0:=Qvq h;have hp:=(Jb hc).2.2.1;have h2:=Ul hc;have h1:Fp md (Dj md f) (Qh f):=by
  unfold Dj;rw [if_pos h,Qzf md _ _ _ (by omega),<-Xy hc];exact Qox zU wN (fun k hk=>Qv7 wN h2 hs hf hk) _ (by omega)
 have h3:Dj md f < 2^md.n.toNat:=by
  unfold Dj;rw [if_pos h];exact Tn (Qf8 zU _ _) (Nat.two_pow_pos _) _
 have h4:=We h0;have h5:=Qjb zU f;refine Nat.eq_of_testBit_eq fun i=> ?_
 by_cases hi:i < md.n.toNat
 ·rw [Bool.eq_iff_iff];exact(h1 ⟨i,hi⟩).trans (h4 ⟨i,hi⟩).symm
 have sT:2^md.n.toNat<=2^i:=Nat.pow_le_pow_right (by decide) (by omega);rw [Nat.testBit_lt_two_pow (Qy h3 sT),Nat.testBit_lt_two_pow (Qy h5 sT)]
theorem Qgb {lg:Int} {f:List Nd} {md:Md} {wd:Int} {b:Bool}(hb:b=true↔Fw md lg):Xm lg f md wd =
 if lg < 0\/6 < lg then 1 else if Sl md f≠0 then Sl md f else if wd < 0\/md.n<=wd then 2 else if b=false then 12 else if(Dj md f).testBit wd.toNat=true then 0 else 11:=by
 have e:Ib md lg=b:=by rw [Bool.eq_iff_iff,Id];exact hb.symm
 unfold Xm;rw [e,Qjf];by_cases h:Jz md f=0
 ·rw [Qfd h]
 rw [if_pos h,if_pos h]
theorem Qvs(lg:Int)(v vm:Value)(f:List Nd)(md:Md)(wd:Int)(w:World)(h:Yq w v f)(hm:Jk w vm md)(zP:md.ok):
 Calls Tryz.prog 28 #[.int .i64 lg,v,vm,.int .i64 wd] w fun e w'=>e=.returned (.int .i64 (Xm lg f md wd))/\Qg w w':=by
 have HM:=Qq hm;have HF:=Qq h;have zE:=Qq zP;obtain⟨vv,vr,rfl,⟨Av,cv,rfl,_⟩,⟨Ar,cr,rfl,_⟩⟩:=hm;obtain⟨n,hn⟩:∃n,n=md.n:=⟨_,rfl⟩;have HN:=Qq hn;rw [<-hn]at HM⊢;obtain⟨r,hr⟩:∃r,r=Xm lg f md wd:=⟨_,rfl⟩;have HR:=Qq hr;rw [<-hr];obtain⟨er,uK⟩:∃z,z=Sl md f:=⟨_,rfl⟩;have wK:=Qq uK;obtain⟨hs,N3⟩:∃z,z=Dj md f:=⟨_,rfl⟩;have GA:=Qq N3;have I5:=Qq (Qri · · md f · · zP ·);obtain⟨W0,zK⟩:∃W,W=w.alloc (.cells #[.int .i64 n,.slice Av md.val.length cv,.slice Ar md.rel.length cr] 26):=⟨_,rfl⟩;have X0:=Qq (show Qg w W0 by rw [zK];exact Qz.alloc _);have B0:=Qq (show W0.heap[w.heap.size]?=some (.cells #[.int .i64 n,.slice Av md.val.length cv,.slice Ar md.rel.length cr] 26 (0,0)) by rw [zK];exact heap_alloc_new _ _)
 obtain⟨b,hb⟩:∃b,b=w.heap.size:=⟨_,rfl⟩;rw [<-hb]at B0;clear h zP hn hr uK N3;obtain⟨lo,wH⟩:∃z:Int,z=if 0<=lg/\lg<=6 then 0 else 1:=⟨_,rfl⟩
 have yB:=Qq wH;obtain⟨e0,e1,e2,el⟩:=Zy B0.out;go_enter Tryz.func28,Tryz.ntmps28;go_upto_region 1 with(fail);rw [<-zK,<-hb];clear zK hb;go_wp2_with fail;refine(Qco lg _).mono ?_;rintro e w1 ⟨rfl,rfl⟩;rw [<-wH];clear wH;by_cases cZ:0<=lg/\lg<=6
 case neg =>
  obtain rfl:lo=1:=by rw [yB.out,if_neg cZ]
  have HZ:=Qq (show r=1 by
   rw [HR.out];unfold Xm;rw [if_pos (by omega)])
  clear cZ;go_wp2_with fail;go_ret;exact⟨by rw [HZ.out] <;> rfl,X0.out⟩
 obtain rfl:lo=0:=by rw [yB.out,if_pos cZ]
 have oB:=Qq cZ;clear cZ yB;go_wp2_with fail;refine(I5.out _ _ _ (HM.out.ext X0.out) (HF.out.ext X0.out)).mono ?_;rintro e w2 ⟨rfl,hx⟩;rw [<-wK.out,<-GA.out];have X2:=Qq (X0.out.trans hx);have B2:=Qq ((hx.block (Qn B0.out)).trans B0.out);clear hx e0 e1 e2 el;obtain⟨e0,e1,e2,el⟩:=Zy B2.out;by_cases hz:er=0
 case neg =>
  have HZ:=Qq (show r=er by rw [HR.out,Qgb (b:=Ib md lg) Id,<-wK.out];have:=oB.out;rw [if_neg (by omega),if_pos hz]);have zQ:(er !=0)=true:=by simpa using hz
  clear hz;go_wp2_with fail;go_ret;exact⟨by rw [HZ.out] <;> rfl,X2.out⟩
 subst hz;by_cases hw:wd < 0\/n<=wd
 ·have HZ:=Qq (show r=2 by
   rw [HR.out,Qgb (b:=Ib md lg) Id,<-wK.out,<-HN.out];have:=oB.out;rw [if_neg (by omega),if_neg (by simp),if_pos hw])
  by_cases YI:wd < 0
  ·clear hw;go_wp2_with fail;go_ret;exact⟨by rw [HZ.out] <;> rfl,X2.out⟩
  have tI:n<=wd:=hw.resolve_left YI;clear hw;go_wp2_with fail;go_ret;exact⟨by rw [HZ.out] <;> rfl,X2.out⟩
 have YI:¬wd < 0:=fun h=>hw (.inl h)
 have tI:¬n<=wd:=fun h=>hw (.inr h)
 have rV:=Qq hw;clear hw;have zU:=(Vm (show Jz md f=0 by rw [<-Qjf,<-wK.out])).1;have JC:=Qq (show Qm hs by
  rw [GA.out,Qfd (by rw [<-Qjf,<-wK.out])];exact Qy (Qjb zU f) (Nw (by have:=(Zv zU).2.1;omega)))
 have yZ:n<=64:=by rw [HN.out];exact(Zv zU).2.1
 obtain⟨k,rfl⟩:=Int.eq_ofNat_of_zero_le (show 0<=wd by omega);have wI:k < 64:=by omega
 clear zU;go_wp2_with fail;refine(Qwq _ md lg _ (HM.out.ext X2.out) zE.out).mono ?_;rintro e w3 ⟨ib,rfl,hx,N0⟩;have I2:=Qq N0.out;have X3:=Qq (X2.out.trans hx);clear hx N0 e0 e1 e2 el;have uI:=Qq (show r=if ib=false then 12 else if hs.testBit k=true then 0 else 11 by
  rw [HR.out,Qgb I2.out,<-wK.out,<-HN.out,<-GA.out];have:=oB.out;rw [if_neg (by omega),if_neg (by simp),if_neg rV.out,Int.toNat_natCast])
 cases ib
 ·have HZ:=Qq (show r=12 by rw [uI.out,if_pos rfl]);go_wp2_with fail;go_ret;exact⟨by rw [HZ.out] <;> rfl,X3.out⟩
 obtain⟨tb,yK⟩:∃z,z=hs.testBit k:=⟨_,rfl⟩;have mY:=Qq yK;clear yK;go_wp2_with fail;refine(Qcn hs k _ JC.out wI).mono ?_;rintro e w4 ⟨rfl,rfl⟩;rw [<-mY.out];cases tb
 ·have HZ:=Qq (show r=11 by rw [uI.out,if_neg (by simp),if_neg (by rw [<-mY.out];simp)]);go_wp2_with fail;go_ret;exact⟨by rw [HZ.out] <;> rfl,X3.out⟩
 have HZ:=Qq (show r=0 by rw [uI.out,if_neg (by simp),if_pos mY.out.symm]);go_wp2_with fail;go_ret;exact⟨by rw [HZ.out] <;> rfl,X3.out⟩
theorem Qpv {i:Nat} :Zk i|||2^i=Zk (i+1):=Nat.eq_of_testBit_eq fun j=>by
 rw [Nat.testBit_or,Vz,Vz,Nat.testBit_two_pow,Bool.eq_iff_iff,Bool.or_eq_true,decide_eq_true_iff,decide_eq_true_iff,decide_eq_true_iff];omega
theorem Qpj(n:Nat)(hn:n<=64)(w:World):Calls Tryz.prog 155 #[.int .i64 (n:Int)] w fun e w'=>e=.returned (.int .u64 ((Zk n:Nat):Int))/\w=w':=by
 have wU:¬(64:Int) < (n:Int):=by omega
 go_enter Tryz.func155,Tryz.ntmps155;go_wp2_with fail;go_loopw [3,4] (fun v3 v4 wr=>∃i s:Nat,v4=.int .i64 (i:Int)/\i<=n/\v3=.int .u64 (s:Int)/\Hid (s=Zk i/\w=wr)) (fun _ v _=>n - (intOf v).toNat)
 case atStart=>exact⟨0,0,rfl,Nat.zero_le _,rfl,Qq ⟨rfl,rfl⟩⟩
 case round =>
  obtain⟨i,s,rfl,hi,rfl,zY⟩:=hrel;obtain⟨hs,rfl⟩:=zY.out;have HS:=Qq hs;clear zY hs;by_cases zJ:i < n
  ·have yV:(i:Int) < (n:Int):=by omega
   have YW:i < 64:=by omega
   have uW:=Xq (show Qm s by rw [HS.out];exact Yk (by omega)) (Tl YW);have zA:=Qq (show s|||2^i=Zk (i+1) by rw [HS.out];exact Qpv);have PJ:=Qq (Qfq i · YW);obtain⟨pw,L5⟩:∃z,z=2^i:=⟨_,rfl⟩;rw [<-L5]at uW zA PJ;obtain⟨t,ht⟩:∃z,z=s|||pw:=⟨_,rfl⟩;rw [<-ht]at uW zA;clear L5 ht;go_wp2_with fail;refine(PJ.out _).mono ?_;rintro e w1 ⟨rfl,rfl⟩;go_wp2_with fail;go_roundw
   case rel=>exact⟨i+1,t,by go_num,by omega,rfl,Qq ⟨zA.out,by first|rfl|trivial⟩⟩
   case measure=>simp [intOf];omega
  obtain rfl:n=i:=by omega
  go_wp2_with fail;go_ret;exact⟨by rw [<-HS.out] <;> rfl,rfl⟩
def PXL(w0:World)(md:Md)(j:Nat)(a a':Act)(w':World):Prop:=∃bn nS Sv sl sc Sr sm sd vl,(Qg w0 w'/\w'.heap[bn]?=some (.cells #[.int .i64 nS,.slice Sv sl sc,.slice Sr sm sd] 26 (0,0))/\w0.heap.size<=bn/\Vs (fun q=>q < w0.heap.size) w' (fun W=>Jk W (.agg #[.int .i64 nS,.slice Sv sl sc,.slice Sr sm sd]) (Vo md j)/\Mk W vl (Za (Zl (Zk md.n.toNat) (2^j)))))/\∃v27 v28 v29 v30 v31 v32 v33 v34 v35 v26 v36 v37 v38,a'=((((((((((((((((a.put (some 27) v27).put (some 28) v28).put (some 29) v29).put (some 30) v30).put (some 31) v31).put (some 32) v32).put (some 33) v33).put (some 34) v34).put (some 35) v35).put (some 26) v26).put (some 36) v36).put (some 37) v37).put (some 38) v38).put (some 12) (.pointer (some ⟨bn,0,none⟩))).put (some 13) vl).put (some 14) (.int .i64 0))
theorem Qm9 {w0:World} {md:Md} {j:Nat} {a a':Act} {w':World} {bn:Nat} {nS:Int} {Sv:Option Addr} {sl sc:Nat} {Sr:Option Addr} {sm sd:Nat} {vl:Value} {v27 v28 v29 v30 v31 v32 v33 v34 v35 v26 v36 v37 v38:Value}(e:a'=((((((((((((((((a.put (some 27) v27).put (some 28) v28).put (some 29) v29).put (some 30) v30).put (some 31) v31).put (some 32) v32).put (some 33) v33).put (some 34) v34).put (some 35) v35).put (some 26) v26).put (some 36) v36).put (some 37) v37).put (some 38) v38).put (some 12) (.pointer (some ⟨bn,0,none⟩))).put (some 13) vl).put (some 14) (.int .i64 0)))
 (h:Qg w0 w'/\w'.heap[bn]?=some (.cells #[.int .i64 nS,.slice Sv sl sc,.slice Sr sm sd] 26 (0,0))/\w0.heap.size<=bn/\Vs (fun q=>q < w0.heap.size) w' (fun W=>Jk W (.agg #[.int .i64 nS,.slice Sv sl sc,.slice Sr sm sd]) (Vo md j)/\Mk W vl (Za (Zl (Zk md.n.toNat) (2^j))))):PXL w0 md j a a' w':=⟨bn,nS,Sv,sl,sc,Sr,sm,sd,vl,h,v27,v28,v29,v30,v31,v32,v33,v34,v35,v26,v36,v37,v38,e⟩
def Qao(lg:Int)(f:List Nd)(md:Md)(k:Nat)(u:Value)(k':Nat)(b:Bool)(lo:Nat)(w':World):Prop :=
 (b=true/\∃j,j < md.n.toNat/\j≠k/\Xm lg f (Vo md j) (Va k j:Nat)=0/\(∀u,j < u->u < md.n.toNat->u≠k->Xm lg f (Vo md u) (Va k u:Nat)≠0)/\k'=Va k j/\Vs (fun q=>q < lo) w' (fun W=>Jk W u (Vo md j)))\/
 (b=false/\k'=k/\∀u,u < md.n.toNat->u≠k->Xm lg f (Vo md u) (Va k u:Nat)≠0)
theorem Qed {md:Md} {j k:Nat}(zU:Qa md=0)(hk:k < md.n.toNat)(qO:j≠k):Gw md (Zl (Zk md.n.toNat) (2^j))=0:=by
 unfold Gw;rw [if_neg (by rw [zU];simp),if_neg,if_neg]
 ·intro he;have:=Rs md.n.toNat j k;rw [he,decide_eq_true hk,decide_eq_false qO]at this;simp at this
 rw [Bool.not_eq_false];exact Je.2 fun i hi=>by
  rw [Rs,Bool.and_eq_true]at hi;rw [Vz];exact hi.1
theorem Qeb {md:Md} {j k:Nat}(zU:Qa md=0)(hj:j < md.n.toNat)(hk:k < md.n.toNat)(qO:j≠k):(Vo md j).ok:=by
 have yZ:=(Zv zU).2.1;exact Ck (Qz0 zU (by rw [Ed (by omega) hj];omega) (Ea _))
theorem Ca(vm:Value)(md:Md)(s:Nat)(w:World)(hs:Qm s)(hm:Jk w vm md)(zP:md.ok)(hE:Gw md s=0):
 Calls Tryz.prog 84 #[vm,.int .u64 (s:Int)] w fun e w'=>∃vr vl,e=.returned (.tuple #[vr,vl,.int .i64 0])/\Qg w w'/\Vs (fun k=>k < w.heap.size) w' (fun W=>Jk W vr (Vj md (Za s))/\Mk W vl (Za s)):=by
 refine(Qgi vm md s w hs hm zP).mono ?_;rintro e w1 ⟨vr,vl,rfl,hx,hf⟩;unfold Cw Ce at hf;rw [hE]at hf⊢;exact⟨vr,vl,rfl,hx,hf⟩
theorem Qwf(lg:Int)(v vm:Value)(f:List Nd)(md:Md)(k:Nat)(w:World)(h:Yq w v f)(hm:Jk w vm md)(zU:Qa md=0)(hk:k < md.n.toNat):
 Calls Tryz.prog 86 #[.int .i64 lg,v,vm,.int .i64 (k:Int)] w fun e w'=>∃n A l c A' l' c' k' bb,e=.returned (.tuple #[.agg #[.int .i64 n,.slice A l c,.slice A' l' c'],.int .i64 ((k':Nat):Int),.bool bb])/\Qao lg f md k (.agg #[.int .i64 n,.slice A l c,.slice A' l' c']) k' bb w.heap.size w'/\Qg w w':=by
 have HM:=Qq hm;have HF:=Qq h;have yD:=Qq zU;obtain⟨wU,yZ,_⟩:=Zv zU;obtain⟨Av,lv,cv,Ar,lr,cr,rfl⟩:=Qwd hm;obtain⟨Af,cf,rfl,_⟩:=Qc h;obtain⟨n,hn⟩:=Int.eq_ofNat_of_zero_le (show 0<=md.n by omega);have lD:md.n.toNat=n:=by rw [hn];exact Int.toNat_natCast n
 have vJ:=Qq lD;have cT:n<=64:=by omega
 have uX:k < n:=by omega
 rw [hn]at HM⊢;obtain⟨W0,zK⟩:∃W,W=(w.alloc (.cells #[.int .i64 (n:Int),.slice Av lv cv,.slice Ar lr cr] 26)).alloc (.cells #[.int .i64 0,.slice none 0 0,.slice none 0 0] 26):=⟨_,rfl⟩;have X0:=Qq (show Qg w W0 by rw [zK];exact(Qz.alloc _).alloc _);obtain⟨b,hb⟩:∃b,b=w.heap.size:=⟨_,rfl⟩;have B0:=Qq (show W0.heap[b]?=some (.cells #[.int .i64 (n:Int),.slice Av lv cv,.slice Ar lr cr] 26 (0,0)) by rw [zK,hb];exact((Qz.alloc _).block (by simp)).trans (heap_alloc_new _ _));have B1:=Qq (show W0.heap[b+1]?=some (.cells #[.int .i64 0,.slice none 0 0,.slice none 0 0] 26 (0,0)) by
  have h1:=heap_alloc_new (w.alloc (.cells #[.int .i64 (n:Int),.slice Av lv cv,.slice Ar lr cr] 26)) (.cells #[.int .i64 0,.slice none 0 0,.slice none 0 0] 26);rw [zK,hb]
  simpa using h1)
 have yB:=Qq (show w.heap.size<=b by omega);clear h hm zU hk wU yZ hn lD;obtain⟨e0,e1,e2,el⟩:=Zy B0.out;go_enter Tryz.func86,Tryz.ntmps86;go_upto_region 1 with(fail);rw [<-zK,<-hb];clear zK hb;go_wp2_with fail;clear e0 e1 e2 el;go_loopw [11] (fun v wr=>∃z:Int,v=.int .i64 z/\ -1<=z/\z < n/\Hid (Qg W0 wr/\∀u:Nat,z < u->u < n->u≠k->Xm lg f (Vo md u) (Va k u:Nat)≠0)) (fun v _=>(intOf v+1).toNat)
 case atStart=>exact⟨(n:Int) - 1,rfl,by omega,by omega,Qq ⟨Qz,fun u h1 h2=>by omega⟩⟩
 case round =>
  obtain⟨z,rfl,xH,oE,zY⟩:=hrel;have wY:=Qq zY.out.1;have HJ:=Qq zY.out.2;clear zY;have wL:=Qq ((wY.out.block (Qn B0.out)).trans B0.out);have wT:=Qq ((wY.out.block (Qn B1.out)).trans B1.out);obtain⟨e0,e1,e2,el⟩:=Zy wL.out;by_cases hz:0<=z
  ·obtain⟨j,rfl⟩:=Int.eq_ofNat_of_zero_le hz;clear hz;by_cases qO:j=k
   ·have ZA:((j:Int)==(k:Int))=true:=by rw [qO];simp
    have fZ:=Qq qO;clear qO;go_wp2_with fail;go_roundw
    case rel=>exact⟨(j:Int) - 1,rfl,by omega,by omega,Qq ⟨wY.out,fun u h1 h2 h3=>by
     by_cases e:u=j
     ·exact absurd (e.trans fZ.out) h3
     exact HJ.out u (by omega) h2 h3⟩⟩
    case measure=>simp [intOf] <;> omega
   have ZA:((j:Int)==(k:Int))=false:=by rw [beq_eq_false_iff_ne];omega
   have fZ:=Qq qO;have VC:=Qq (show j < md.n.toNat by rw [vJ.out];omega);have VB:=Qq (show k < md.n.toNat by rw [vJ.out];omega);have LS:j < 64:=by omega
   have hmj:min j 64=j:=by omega
   have K4:IntKind.u64.wrap (j:Int)=(j:Int):=by rw [IntKind.wrap_u64];omega
   have mN:=Sg LS;have yH:=Yg (Yk cT) (Tl LS);have HE:=Qq (Qed yD.out VB.out qO);have JI:=Qq (show ∀W,Jk W (.agg #[.int .i64 (n:Int),.slice Av lv cv,.slice Ar lr cr]) md->True from fun _ _=>trivial);obtain⟨pj,QB⟩:∃z,z=2^j:=⟨_,rfl⟩;rw [<-QB]at mN yH HE;obtain⟨al,wJ⟩:∃z,z=Zk n:=⟨_,rfl⟩;have rY:=Qq (Qpj n cT);rw [<-wJ]at yH rY;rw [vJ.out,<-wJ]at HE;obtain⟨z,GV⟩:∃z,z=Zl al pj:=⟨_,rfl⟩;have HZ:=Qq (show z=Zl (Zk md.n.toNat) (2^j) by rw [GV,wJ,QB,vJ.out]);have ZM:=Qq (show Qm z by rw [GV,wJ];exact Uy (Yk cT))
   rw [<-GV]at yH HE;clear QB wJ GV qO JI;obtain⟨wq,vC⟩:∃v,v=wr:=⟨_,rfl⟩;subst vC;go_upto_region 5 with(fail);refine Pr (PXL wq md j) ?_ ?_
   ·skip
    refine wp_region_held_drew (S:=fun w'=>w'.cell? (⟨b,0,none⟩)=some (.int .i64 (n:Int))/\w'.cell? (⟨b,1,none⟩)=some (.slice Av lv cv)/\w'.cell? (⟨b,2,none⟩)=some (.slice Ar lr cr)) (by kernel_rfl) ⟨xd el e0,xd el e1,xd el e2⟩ (fun zZ=> ?_);refine tk 0 zZ ?_;refine tk 1 zZ ?_;refine tk 2 zZ ?_;refine tk 4 zZ ?_;refine tk 5 zZ ?_;refine tk 6 zZ ?_;refine wpAnyH_ready (rs:= [3,13]) (by kernel_rfl) (by simp) ?_;refine AllReadyH.cons rfl (fun K hK=> ?_) (AllReadyH.cons rfl (fun K hK=> ?_) AllReadyH.nil)
    rotate_left
    go_simp;obtain⟨wa,xC⟩:∃z,z=(wq.alloc (.cells #[.int .i64 0,.slice none 0 0,.slice none 0 0] 26)).drew:=⟨_,rfl⟩;obtain⟨bn,tO⟩:∃z,z=wq.heap.size:=⟨_,rfl⟩;have PT:Qg wq wa:=by rw [xC];exact(Qz.alloc _).drew
    have jD:=Qq (show wq.heap.size<=bn by rw [tO];exact Nat.le_refl _);have BN:=Qq (show wa.heap[bn]?=some (.cells #[.int .i64 0,.slice none 0 0,.slice none 0 0] 26 (0,0)) by rw [xC,tO];exact heap_alloc_new _ _);rw [<-xC,<-tO];clear xC tO;refine hK.out _ _ ⟨xd el e0,xd el e1,xd el e2⟩ (fun zZ=> ?_);clear hK K;refine Qd ?_;refine wpAnyH_ready (rs:= [3]) (by kernel_rfl) (by simp) (.cons rfl (fun K hK=> ?_) .nil);go_simp;refine(rY.out _).mono ?_;rintro e wf ⟨rfl,rfl⟩;go_wp2_with fail;refine hK.out _ _ ⟨xd el e0,xd el e1,xd el e2⟩ (fun zZ=> ?_);clear hK K;refine Qd ?_
    refine tk 7 zZ ?_
    rotate_left
    go_simp;refine(rY.out _).mono ?_;rintro e wf ⟨rfl,rfl⟩;go_wp2_with fail;refine hK.out _ _ ⟨xd el e0,xd el e1,xd el e2⟩ (fun zZ=> ?_);clear hK K;refine Qd ?_;refine tk 7 zZ ?_;refine wpAnyH_ready (rs:= [8,13]) (by kernel_rfl) (by simp) ?_;refine AllReadyH.cons rfl (fun K hK=> ?_) (AllReadyH.cons rfl (fun K hK=> ?_) AllReadyH.nil)
    ·skip
     go_simp;refine(Ca _ md z _ ZM.out (HM.out.ext (X0.out.trans (wY.out.trans xv))) (Ck yD.out) HE.out).mono ?_;rintro e ws ⟨vr,vl,rfl,rZ,pW⟩;have nF:Qg wq ws:=Qg.trans xv rZ;rw [HZ.out]at pW;have eQ:=Qq pW;obtain⟨nS,Sv,sl,sc,Sr,sm,sd,rfl⟩:=Fe pW.here.1;obtain⟨Al,lc,sN,_⟩:=pW.here.2;subst sN;have bN:=Qq rZ.size;clear rZ pW;go_wp2_with fail;refine hK.out _ _ ⟨xd el e0,xd el e1,xd el e2⟩ (fun zZ=> ?_);clear hK K;refine Qd ?_;refine tk 9 zZ ?_;refine tk 10 zZ ?_;refine tk 11 zZ ?_;refine tk 12 zZ ?_;refine wpAnyH_ready (rs:= [13]) (by kernel_rfl) (by simp) ?_
     refine .cons rfl (fun K hK=> ?_) .nil;go_simp;obtain⟨wa,xC⟩:∃z,z=ws.alloc (.cells #[.int .i64 0,.slice none 0 0,.slice none 0 0] 26):=⟨_,rfl⟩;obtain⟨bn,tO⟩:∃z,z=ws.heap.size:=⟨_,rfl⟩;have PT:Qg wq wa:=by rw [xC];exact nF.alloc _
     have jD:=Qq (show wq.heap.size<=bn by rw [tO];exact nF.size);have BN:=Qq (show wa.heap[bn]?=some (.cells #[.int .i64 0,.slice none 0 0,.slice none 0 0] 26 (0,0)) by rw [xC,tO];exact heap_alloc_new _ _);have KK:Qg ws wa:=by rw [xC];exact Qz.alloc _
     have QS:=Qq (show ws.heap.size<=bn by rw [tO];exact Nat.le_refl _);rw [<-xC,<-tO];clear xC tO;refine hK.out _ _ ⟨xd el e0,xd el e1,xd el e2⟩ (fun zZ=> ?_);clear hK K;refine Qd ?_;refine wpAnyH_ready (rs:= [14]) (by kernel_rfl) (by simp) (.cons rfl (fun K hK=> ?_) .nil);obtain⟨⟨q0,q1,q2⟩,⟨f0,f1,f2⟩,ql⟩:=Zc BN.out;obtain⟨wz,pI⟩:∃z,z=(((wa.setCell ⟨bn,0,none⟩ (.int .i64 nS)).setCell ⟨bn,1,none⟩ (.slice Sv sl sc)).setCell ⟨bn,2,none⟩ (.slice Sr sm sd)):=⟨_,rfl⟩;have JU:Qg wq wz:=by rw [pI];exact Yb PT jD.out _ _ _
     have BZ:=Qq (show wz.heap[bn]?=some (.cells #[.int .i64 nS,.slice Sv sl sc,.slice Sr sm sd] 26 (0,0)) by rw [pI];exact Yn BN.out _ _ _);have MZ:=Qq (show Vs (fun q=>q < wq.heap.size) wz (fun W=>Jk W (.agg #[.int .i64 nS,.slice Sv sl sc,.slice Sr sm sd]) (Vo md j)/\Mk W (.slice Al (Za (Zl (Zk md.n.toNat) (2^j))).length lc) (Za (Zl (Zk md.n.toNat) (2^j))))from fun W hW=>eQ.out W ⟨Qx (Qx KK.size (by rw [pI];simp [World.setCell])) hW.1,fun q h1 h2=>(hW.2 q (fun e=>h1 e) (by rw [pI];simp only [World.setCell,Array.size_modify];exact Qy h2 KK.size)).trans (by rw [pI,Kx (show q≠bn by have:=QS.out;omega)];exact KK.block h2)⟩)
     go_simp;rw [<-pI];clear pI q0 q1 q2 f0 f1 f2 ql;refine hK.out _ _ ⟨xd el e0,xd el e1,xd el e2⟩ (fun zZ=> ?_);clear hK K;refine Qd ?_;refine tk 15 zZ ?_;refine tk 16 zZ ?_;refine wpAnyH_done (by kernel_rfl) ?_ _;apply Qm9 (bn:=bn) (nS:=nS) (Sv:=Sv) (sl:=sl) (sc:=sc) (Sr:=Sr) (sm:=sm) (sd:=sd) (vl:=.slice Al (Za (Zl (Zk md.n.toNat) (2^j))).length lc)
     ·simp only [Act.put,List.setIfInBounds_toArray,List.set_cons_zero,List.set_cons_succ];exact rfl
     exact⟨JU,BZ.out,jD.out,MZ.out⟩
    go_simp;obtain⟨wa,xC⟩:∃z,z=(wq.alloc (.cells #[.int .i64 0,.slice none 0 0,.slice none 0 0] 26)).drew:=⟨_,rfl⟩;obtain⟨bn,tO⟩:∃z,z=wq.heap.size:=⟨_,rfl⟩;have PT:Qg wq wa:=by rw [xC];exact(Qz.alloc _).drew
    have jD:=Qq (show wq.heap.size<=bn by rw [tO];exact Nat.le_refl _);have BN:=Qq (show wa.heap[bn]?=some (.cells #[.int .i64 0,.slice none 0 0,.slice none 0 0] 26 (0,0)) by rw [xC,tO];exact heap_alloc_new _ _);rw [<-xC,<-tO];clear xC tO;refine hK.out _ _ ⟨xd el e0,xd el e1,xd el e2⟩ (fun zZ=> ?_);clear hK K;refine Qd ?_
    all_goals
     refine wpAnyH_ready (rs:= [8]) (by kernel_rfl) (by simp) (.cons rfl (fun K hK=> ?_) .nil);go_simp;refine(Ca _ md z _ ZM.out (HM.out.ext (X0.out.trans (wY.out.trans xv))) (Ck yD.out) HE.out).mono ?_;rintro e ws ⟨vr,vl,rfl,rZ,pW⟩;have nF:Qg wq ws:=Qg.trans xv rZ;rw [HZ.out]at pW;have eQ:=Qq pW;obtain⟨nS,Sv,sl,sc,Sr,sm,sd,rfl⟩:=Fe pW.here.1;obtain⟨Al,lc,sN,_⟩:=pW.here.2;subst sN;have sM:=Qq (Qn BN.out);have BN:=Qq ((rZ.block (Qn BN.out)).trans BN.out);have bN:=Qq rZ.size;clear rZ pW;go_wp2_with fail;refine hK.out _ _ ⟨xd el e0,xd el e1,xd el e2⟩ (fun zZ=> ?_)
     clear hK K;refine Qd ?_;refine tk 9 zZ ?_;refine tk 10 zZ ?_;refine tk 11 zZ ?_;refine tk 12 zZ ?_;refine wpAnyH_ready (rs:= [14]) (by kernel_rfl) (by simp) (.cons rfl (fun K hK=> ?_) .nil);obtain⟨⟨q0,q1,q2⟩,⟨f0,f1,f2⟩,ql⟩:=Zc BN.out;obtain⟨wz,pI⟩:∃z,z=(((ws.setCell ⟨bn,0,none⟩ (.int .i64 nS)).setCell ⟨bn,1,none⟩ (.slice Sv sl sc)).setCell ⟨bn,2,none⟩ (.slice Sr sm sd)):=⟨_,rfl⟩;have JU:Qg wq wz:=by rw [pI];exact Yb nF jD.out _ _ _
     have BZ:=Qq (show wz.heap[bn]?=some (.cells #[.int .i64 nS,.slice Sv sl sc,.slice Sr sm sd] 26 (0,0)) by rw [pI];exact Yn BN.out _ _ _);have MZ:=Qq (show Vs (fun q=>q < wq.heap.size) wz (fun W=>Jk W (.agg #[.int .i64 nS,.slice Sv sl sc,.slice Sr sm sd]) (Vo md j)/\Mk W (.slice Al (Za (Zl (Zk md.n.toNat) (2^j))).length lc) (Za (Zl (Zk md.n.toNat) (2^j))))from fun W hW=>eQ.out W ⟨Qx (by rw [pI];simp [World.setCell]) hW.1,fun q h1 h2=>(hW.2 q (fun e=>h1 (Qy e PT.size)) (by rw [pI];simpa [World.setCell]using h2)).trans (by rw [pI,Kx (show q≠bn by have:=sM.out;omega)])⟩)
     go_simp;rw [<-pI];clear pI q0 q1 q2 f0 f1 f2 ql;refine hK.out _ _ ⟨xd el e0,xd el e1,xd el e2⟩ (fun zZ=> ?_);clear hK K;refine Qd ?_;refine tk 15 zZ ?_;refine tk 16 zZ ?_;refine wpAnyH_done (by kernel_rfl) ?_ _;apply Qm9 (bn:=bn) (nS:=nS) (Sv:=Sv) (sl:=sl) (sc:=sc) (Sr:=Sr) (sm:=sm) (sd:=sd) (vl:=.slice Al (Za (Zl (Zk md.n.toNat) (2^j))).length lc)
     ·simp only [Act.put,List.setIfInBounds_toArray,List.set_cons_zero,List.set_cons_succ];exact rfl
     exact⟨JU,BZ.out,jD.out,MZ.out⟩
   rintro a' w3 ⟨bn,nS,Sv,sl,sc,Sr,sm,sd,vl,⟨hx,tO,lR,xQ⟩,v27,v28,v29,v30,v31,v32,v33,v34,v35,v26,v36,v37,v38,rfl⟩;simp only [Act.put,List.setIfInBounds_toArray,List.set_cons_zero,List.set_cons_succ];have zB:=Qq hx;have rF:=Qq tO;have jG:=Qq xQ;obtain⟨Al,lc,sN,_,_,_⟩:=xQ.here.2;subst sN;obtain⟨dr,gQ⟩:∃z,z=Vo md j:=⟨_,rfl⟩;have iD:=Qq gQ;obtain⟨sw,PV⟩:∃z,z=Va k j:=⟨_,rfl⟩;have rD:=Qq PV;obtain⟨pl,sE⟩:∃z,z=Za (Zl (Zk md.n.toNat) (2^j)):=⟨_,rfl⟩;have bJ:=Qq sE;have iL:pl.length<=64:=by rw [sE];exact Ea _
   rw [<-gQ,<-sE]at jG;rw [<-sE];clear hx tO lR xQ gQ PV sE e0 e1 e2 el;go_wp2_with fail;refine(Qfw _ pl k _ jG.out.here.2 iL).mono ?_;rintro e w4 ⟨r,rfl,hr,hx⟩;obtain⟨i,rfl,hi⟩:=hr (by
    rw [bJ.out,Ff];refine⟨by have:=VB.out;have:=vJ.out;omega,?_⟩;rw [Rs,decide_eq_true VB.out,decide_eq_false fZ.out];rfl)
   obtain rfl:i=sw:=by
    rw [bJ.out]at hi;rw [rD.out];exact Qpi (by have:=vJ.out;omega) VB.out fZ.out hi
   have yP:=Qq (zB.out.trans hx);have iF:=Qq ((hx.block (Qn rF.out)).trans rF.out);have eT:=Qq (jG.out.next (X':=fun q=>q < wq.heap.size) (Yv.of_ext hx) (fun _ _ h=>h));clear hx hr hi jG rF zB;obtain⟨d0,d1,d2,dl⟩:=Zy iF.out;go_wp2_with fail;refine(Qvs lg _ _ f dr i _ (HF.out.ext (X0.out.trans (wY.out.trans yP.out))) eT.out.here.1 (by rw [iD.out];exact Qeb yD.out VC.out VB.out fZ.out)).mono ?_;rintro e w5 ⟨rfl,hx⟩;have yJ:=Qq (yP.out.trans hx);have mL:=Qq ((hx.block (Qn iF.out)).trans iF.out);have VJ:=Qq (eT.out.next (X':=fun q=>q < wq.heap.size) (Yv.of_ext hx) (fun _ _ h=>h))
   clear hx d0 d1 d2 dl;obtain⟨c0,oY⟩:∃z,z=Xm lg f dr (i:Int):=⟨_,rfl⟩;have jJ:=Qq (show Xm lg f (Vo md j) (Va k j:Nat)=c0 by rw [oY,iD.out,rD.out]);rw [<-oY];clear oY;by_cases uG:c0=0
   ·subst uG;obtain⟨d0,d1,d2,dl⟩:=Zy mL.out;have wC:=Qq ((yJ.out.block (Qn wT.out)).trans wT.out);obtain⟨⟨q0,q1,q2⟩,⟨f0,f1,f2⟩,ql⟩:=Zc wC.out;have EE:=Qq (show w.heap.size<=wq.heap.size from Qx X0.out.size wY.out.size);have J6:=Qq (show b+1 < wq.heap.size from Qn wT.out)
    have wB:=Qq (show Vs (fun q=>q < w.heap.size) (((w5.setCell ⟨b+1,0,none⟩ (.int .i64 nS)).setCell ⟨b+1,1,none⟩ (.slice Sv sl sc)).setCell ⟨b+1,2,none⟩ (.slice Sr sm sd)) (fun W=>Jk W (.agg #[.int .i64 nS,.slice Sv sl sc,.slice Sr sm sd]) dr)from
     Vs.keep (fun W hW=>(VJ.out W hW).1) EE.out (by simp [World.setCell]) (fun q h1 _=>Kx (by have:=J6.out;omega) _ _ _))
    have kJ:=Qq (show Qao lg f md k (.agg #[.int .i64 nS,.slice Sv sl sc,.slice Sr sm sd]) i true w.heap.size (((w5.setCell ⟨b+1,0,none⟩ (.int .i64 nS)).setCell ⟨b+1,1,none⟩ (.slice Sv sl sc)).setCell ⟨b+1,2,none⟩ (.slice Sr sm sd))from
     .inl ⟨rfl,j,VC.out,fZ.out,jJ.out,fun u h1 h2 h3=>HJ.out u (by omega) (by rw [<-vJ.out];exact h2) h3,rD.out,by rw [<-iD.out];exact wB.out⟩)
    go_wp2_with fail
    (try simp only [Exit.inBlock,Exit.then])
    refine bodyPost_ret (Jd Tryz.results86 _ _ rfl (Jj (Yn wC.out _ _ _)) Tryz.underlying26 rfl (by kernel_rfl)) rfl ?_;exact⟨_,_,_,_,_,_,_,i,true,rfl,kJ.out,Yb (X0.out.trans (wY.out.trans yJ.out)) (by have:=yB.out;omega) _ _ _⟩
   have zQ:(c0==0)=false:=by rw [beq_eq_false_iff_ne];exact uG
   have GQ:=Qq uG;clear uG;go_wp2_with fail;go_roundw
   case rel=>exact⟨(j:Int) - 1,rfl,by omega,by omega,Qq ⟨wY.out.trans yJ.out,fun u h1 h2 h3=>by
    by_cases e:u=j
    ·rw [e,jJ.out];exact GQ.out
    exact HJ.out u (by omega) h2 h3⟩⟩
   case measure=>simp [intOf] <;> omega
  obtain rfl:z= -1:=by omega
  obtain⟨⟨q0,q1,q2⟩,⟨f0,f1,f2⟩,ql⟩:=Zc wT.out;have kJ:=Qq (fun u lo w'=>show Qao lg f md k u k false lo w' from .inr ⟨rfl,rfl,fun u h1 h2=>HJ.out u (by omega) (by rw [<-vJ.out];exact h1) h2⟩);clear hz;go_wp2_with fail
  (try simp only [Exit.inBlock,Exit.then])
  refine bodyPost_ret (Jd Tryz.results86 _ _ rfl (Jj (Yn wT.out _ _ _)) Tryz.underlying26 rfl (by kernel_rfl)) rfl ?_;exact⟨_,_,_,_,_,_,_,k,false,rfl,kJ.out _ _ _,Yb (X0.out.trans wY.out) (by have:=yB.out;omega) _ _ _⟩
def ShD(lo b:Nat)(wr:World)(md:Md):Prop:=∃A c A' c',wr.heap[b]?=some (.cells #[.int .i64 md.n,.slice A md.val.length c,.slice A' md.rel.length c'] 26 (0,0))/\
 Vs (fun k=>k < lo\/k=b) wr (fun W=>Jk W (.agg #[.int .i64 md.n,.slice A md.val.length c,.slice A' md.rel.length c']) md)
theorem ShD.ext {lo b:Nat} {w w':World} {md:Md}(h:ShD lo b w md)(he:Qg w w'):ShD lo b w' md:=by
 obtain⟨A,c,A',c',h1,h2⟩:=h;exact⟨A,c,A',c',(he.block (Qn h1)).trans h1,h2.next (Yv.of_ext he) (fun _ _ h=>h)⟩
theorem ShD.start {lo lo':Nat} {w:World} {md:Md} {n:Int} {A A':Option Addr} {l c l' c':Nat}(hu:Vs (fun k=>k < lo') w (fun W=>Jk W (.agg #[.int .i64 n,.slice A l c,.slice A' l' c']) md))(wH:lo<=lo'):
 ShD lo w.heap.size (w.alloc (.cells #[.int .i64 n,.slice A l c,.slice A' l' c'] 26)) md:=by
 have h0:=hu.here;obtain⟨vv,vr,e,⟨B,c2,rfl,_⟩,⟨B',c2',rfl,_⟩⟩:=h0;injection e with e;injection e with e;injection e with e1 e;injection e with e2 e;injection e with e3 e;rw [e1,e2,e3]at hu⊢;refine⟨_,_,_,_,heap_alloc_new _ _,fun W hW=>hu W ⟨Qx ((Qg.refl w).alloc _).size hW.1,fun q h1 h2=> ?_⟩⟩;have hx:Qg w (w.alloc (.cells #[.int .i64 md.n,.slice B md.val.length c2,.slice B' md.rel.length c2'] 26)):=(Qg.refl w).alloc _;exact(hW.2 q (fun e=>by rcases e with e|e <;> omega) (Qy h2 hx.size)).trans (hx.block h2)
theorem ShD.put {lo lo' b:Nat} {w:World} {md:Md} {n:Int} {A A':Option Addr} {l c l' c':Nat} {a0 a1 a2:Value}(hu:Vs (fun k=>k < lo') w (fun W=>Jk W (.agg #[.int .i64 n,.slice A l c,.slice A' l' c']) md))(wH:lo<=lo')(hb:b < lo')
 (hc:w.heap[b]?=some (.cells #[a0,a1,a2] 26 (0,0))):ShD lo b (((w.setCell ⟨b,0,none⟩ (.int .i64 n)).setCell ⟨b,1,none⟩ (.slice A l c)).setCell ⟨b,2,none⟩ (.slice A' l' c')) md:=by
 have h0:=hu.here;obtain⟨vv,vr,e,⟨B,c2,rfl,_⟩,⟨B',c2',rfl,_⟩⟩:=h0;injection e with e;injection e with e;injection e with e1 e;injection e with e2 e;injection e with e3 e;rw [e1,e2,e3]at hu⊢;refine⟨_,_,_,_,Yn hc _ _ _,fun W hW=>hu W ⟨Qx (by simp [World.setCell]) hW.1,fun q h1 h2=> ?_⟩⟩;exact(hW.2 q (fun e=>by rcases e with e|e <;> omega) (by simpa [World.setCell]using h2)).trans (Kx (by omega) _ _ _)
theorem Qni(lg:Int)(v vm:Value)(f:List Nd)(md:Md)(wd:Int)(w:World)(h:Yq w v f)(hm:Jk w vm md)(zP:md.ok):
 Calls Tryz.prog 30 #[.int .i64 lg,v,vm,.int .i64 wd] w fun e w'=>∃u md' k',e=.returned (.tuple #[u,.int .i64 ((k':Nat):Int),.int .i64 (Xm lg f md wd)])/\Ii lg f md wd md' k'/\Qg w w'/\Vs (fun k=>k < w.heap.size) w' (fun W=>Jk W u md'):=by
 have HM:=Qq hm;have zE:=Qq zP;have HF:=Qq h;obtain⟨vv,vr,rfl,⟨Av,cv,rfl,_⟩,⟨Ar,cr,rfl,_⟩⟩:=hm;obtain⟨Af,cf,rfl,_⟩:=Qc h;obtain⟨N,hN⟩:∃n,n=md.n:=⟨_,rfl⟩;rw [<-hN]at HM⊢;obtain⟨lv,LH⟩:∃n,n=md.val.length:=⟨_,rfl⟩;obtain⟨lr,cZ⟩:∃n,n=md.rel.length:=⟨_,rfl⟩;rw [<-LH,<-cZ]at HM⊢;obtain⟨ec,TC⟩:∃z,z=Xm lg f md wd:=⟨_,rfl⟩;have aN:=Qq TC;rw [<-TC];obtain⟨W0,zK⟩:∃W,W=(w.alloc (.cells #[.int .i64 N,.slice Av lv cv,.slice Ar lr cr] 26)).alloc (.cells #[.int .i64 0,.slice none 0 0,.slice none 0 0] 26):=⟨_,rfl⟩;have X0:=Qq (show Qg w W0 by rw [zK];exact(Qz.alloc _).alloc _);obtain⟨b,hb⟩:∃b,b=w.heap.size:=⟨_,rfl⟩
 have B0:=Qq (show W0.heap[b]?=some (.cells #[.int .i64 N,.slice Av lv cv,.slice Ar lr cr] 26 (0,0)) by rw [zK,hb];exact((Qz.alloc _).block (by simp)).trans (heap_alloc_new _ _));have B1:=Qq (show W0.heap[b+1]?=some (.cells #[.int .i64 0,.slice none 0 0,.slice none 0 0] 26 (0,0)) by
  have h1:=heap_alloc_new (w.alloc (.cells #[.int .i64 N,.slice Av lv cv,.slice Ar lr cr] 26)) (.cells #[.int .i64 0,.slice none 0 0,.slice none 0 0] 26);rw [zK,hb]
  simpa using h1)
 have yB:=Qq (show w.heap.size<=b by omega);clear h zP hN LH cZ TC;obtain⟨e0,e1,e2,el⟩:=Zy B0.out;go_enter Tryz.func30,Tryz.ntmps30;go_upto_region 1 with(fail);rw [<-zK,<-hb];clear zK hb;go_wp2_with fail;refine(Qvs lg _ _ f md wd _ (HF.out.ext X0.out) (HM.out.ext X0.out) zE.out).mono ?_;rintro e w1 ⟨rfl,hx⟩;rw [<-aN.out];have zO:=Qq hx;have wD:=Qq ((hx.block (Qn B1.out)).trans B1.out);clear e0 e1 e2 el hx;by_cases hz:ec=0
 case neg =>
  have zQ:(ec !=0)=true:=by simpa using hz
  have HS:=Qq (show Ii lg f md wd ⟨0,[],[]⟩ 0 from .inl ⟨by rw [<-aN.out];exact hz,rfl,rfl⟩);obtain⟨⟨r0,r1,r2⟩,⟨g0,g1,g2⟩,rl⟩:=Zc wD.out;clear hz;go_wp2_with fail
  (try simp only [Exit.inBlock,Exit.then])
  refine bodyPost_ret (Jd Tryz.results30 _ _ rfl (Jj (Yn wD.out _ _ _)) Tryz.underlying26 rfl (by kernel_rfl)) rfl ?_;exact⟨_,_,0,rfl,HS.out,Yb (X0.out.trans zO.out) (Nat.le_succ_of_le yB.out) _ _ _,fun W _=>Gs _⟩
 subst hz;obtain⟨k,rfl,xY⟩:=Fc.1 aN.out.symm;have uY:=Qq xY;have yZ:=(Zv xY.good.ck).2.1;have uX:=xY.lt;have wI:k < 64:=by omega
 have fN:min k 64=k:=by omega
 have K4:IntKind.u64.wrap (k:Int)=(k:Int):=by rw [IntKind.wrap_u64];omega
 have qR:=Sg wI;obtain⟨tw2,oG⟩:∃z,z=2^k:=⟨_,rfl⟩;rw [<-oG]at qR;have gU:=Qq oG;obtain⟨e0,e1,e2,el⟩:=Zy ((zO.out.block (Qn B0.out)).trans B0.out);clear xY yZ uX oG;go_wp2_with fail;refine(Qxr _ md tw2 k _ (HM.out.ext (X0.out.trans zO.out)) zE.out uY.out.good.ck gU.out uY.out.lt).mono ?_;rintro e w4 ⟨out,rfl,aZ,cM,hx⟩;have yP:=Qq hx;have kK:=Qq cM;have XT:=Qq (show Ni md (2^k) out from by rw [<-gU.out];exact aZ);have eF:=Qq (Ni.part XT.out uY.out);have uB:=Qq (show Gw md out=0 from by
  have h1:=eF.out.2.2;have h2:out≠0:=fun e=>by
   have:=XT.out.sub k (by rw [Nat.testBit_two_pow];simp);rw [e,Nat.zero_testBit]at this;cases this
  unfold Gw;rw [if_neg (by rw [uY.out.good.ck];simp),if_neg,if_neg h2];rw [show Jr out (Zk md.n.toNat)=true from Je.2 fun i hi=>by rw [Vz,decide_eq_true (Kf h1 hi)]]
  simp)
 clear aZ cM hx e0 e1 e2 el fN K4 qR;obtain⟨e0,e1,e2,el⟩:=Zy (((zO.out.trans yP.out).block (Qn B0.out)).trans B0.out);go_wp2_with fail;refine(Ca _ md out _ kK.out (HM.out.ext (X0.out.trans (zO.out.trans yP.out))) zE.out uB.out).mono ?_;rintro e w5 ⟨vr,vl,rfl,hx,xQ⟩;have yJ:=Qq (zO.out.trans (yP.out.trans hx));have IZ:W0.heap.size<=w4.heap.size:=(zO.out.trans yP.out).size;obtain⟨A3,c3,KC,_⟩:=xQ.here.2;obtain⟨n5,A1,l1,c1,A2,l2,c2,hu⟩:=Fe xQ.here.1;subst hu KC;obtain⟨md1,kC⟩:∃z,z=Vj md (Za out):=⟨_,rfl⟩;have eK:=Qq kC;rw [<-kC]at xQ;have mQ:=ShD.start (fun W hW=>(xQ W hW).1) IZ
 obtain⟨pl,sE⟩:∃z,z=Za out:=⟨_,rfl⟩;have bJ:=Qq sE;rw [<-sE]at xQ⊢;have iL:pl.length<=64:=by rw [sE];exact Ea _
 have T8:=Qq xQ.here.2;obtain⟨w6,mM⟩:∃z,z=w5.alloc (.cells #[.int .i64 n5,.slice A1 l1 c1,.slice A2 l2 c2] 26):=⟨_,rfl⟩;rw [<-mM]at mQ;obtain⟨b6,mB⟩:∃z,z=w5.heap.size:=⟨_,rfl⟩;rw [<-mB]at mQ;have fU:=Qq mQ;have E6:=Qq (show Qg w5 w6 by rw [mM];exact Qz.alloc _);have XU:=Qq (show W0.heap.size<=b6 by rw [mB];exact yJ.out.size);have PL:=Qq (show b6 < w6.heap.size by obtain⟨_,_,_,_,hc,_⟩:=mQ;exact Qn hc);clear hx xQ mQ e0 e1 e2 el IZ kC sE;go_upto_region 6 with(fail);rw [<-mM,<-mB];clear mM mB;go_wp2_with fail;refine(Qfw _ pl k _ (T8.out.ext E6.out) iL).mono ?_
 rintro e w7 ⟨r,rfl,hr,hx⟩;have U5:=Qq (show out.testBit k=true from XT.out.sub k (by rw [Nat.testBit_two_pow];simp));obtain⟨i,rfl,hi⟩:=hr (by
  rw [bJ.out,Ff];exact⟨wI,U5.out⟩)
 obtain⟨k1,yV⟩:∃z,z=Xc out k:=⟨_,rfl⟩;have lM:=Qq yV;obtain rfl:i=k1:=by
  rw [yV];rw [bJ.out]at hi;have h2:=Qji wI U5.out;obtain⟨h3,e3⟩:=List.getElem?_eq_some_iff.1 hi;obtain⟨h4,e4⟩:=List.getElem?_eq_some_iff.1 h2;have hp:=List.pairwise_iff_getElem.1 (Qf1 out);rcases Nat.lt_trichotomy i (Xc out k)with h5|h5|h5
  ·exact absurd (e3.trans e4.symm) (hp _ _ h3 h4 h5)
  ·exact h5
  exact absurd (e4.trans e3.symm) (hp _ _ h4 h3 h5)
 have X7:=Qq (X0.out.trans (yJ.out.trans (E6.out.trans hx)));have UH:=Qq (fU.out.ext hx);have bI:=Qq (((yJ.out.trans (E6.out.trans hx)).block (Qn B1.out)).trans B1.out);have pG:=Qq (show Uj lg f md1 i by rw [eK.out,lM.out];exact eF.out.1);have ZS:=Qq (Qy PL.out hx.size);obtain⟨lo,wH⟩:∃z,z=W0.heap.size:=⟨_,rfl⟩;have kO:=Qq (show b+1 < lo by rw [wH];exact Qn B1.out);have UX:=Qq (show lo<=b6 by rw [wH];exact XU.out);rw [<-wH]at UH;clear hx hr hi yV wH fU T8 E6 XU PL iL;go_wp2_with fail;go_loopw [17] (fun v wr=>∃kc:Nat,v=.int .i64 (kc:Int)/\kc < 64/\Hid (b6 < wr.heap.size/\∃mdc,ShD lo b6 wr mdc/\Qg w wr/\Uj lg f mdc kc/\wr.heap[b+1]?=some (.cells #[.int .i64 0,.slice none 0 0,.slice none 0 0] 26 (0,0))/\∀md' k',Rj lg f mdc kc md' k'->Rj lg f md1 i md' k')) (fun _ wr=>(intOf ((wr.cell? ⟨b6,0,none⟩).getD undef)).toNat)
 case atStart=>exact⟨i,rfl,by have:=pG.out.lt;have:=(Zv pG.out.good.ck).2.1;omega,Qq ⟨ZS.out,md1,UH.out,X7.out,pG.out,bI.out,fun _ _ h=>h⟩⟩
 case round =>
  clear UH X7 bI pG ZS yJ yP zO wD B0 B1 eF;obtain⟨kc,rfl,LQ,zY⟩:=hrel;obtain⟨LG,mdc,mQ,hx,xY,ZE,fK⟩:=zY.out;have eN:=Qq LG;have HX:=Qq hx;have uY:=Qq xY;have eW:=Qq ZE;have XI:=Qq fK;obtain⟨A,c,A',c',TO,xQ⟩:=mQ;have kV:=Qq TO;have oD:=Qq xQ;obtain⟨xV,TJ,_⟩:=Zv xY.good.ck;obtain⟨n,hn⟩:=Int.eq_ofNat_of_zero_le (show 0<=mdc.n by omega);have lD:mdc.n.toNat=n:=by rw [hn];exact Int.toNat_natCast n
  have vJ:=Qq lD;rw [hn]at kV oD;obtain⟨m2,xO⟩:∃z,z=mdc.val.length:=⟨_,rfl⟩;obtain⟨m3,lQ⟩:∃z,z=mdc.rel.length:=⟨_,rfl⟩;rw [<-xO,<-lQ]at kV oD;clear zY LG hx xY ZE fK TO xQ xV TJ hn lD xO lQ;obtain⟨e0,e1,e2,el⟩:=Zy kV.out;go_wp2_with fail;refine(Qwf lg _ _ f mdc kc _ (HF.out.ext HX.out) oD.out.here uY.out.good.ck uY.out.lt).mono ?_;rintro e w8 ⟨n8,A8,l8,c8,B8,m8,d8,k8,bb,rfl,YU,YE⟩;have rU:=Qq YE;obtain⟨w9,WC⟩:∃z,z=w8.alloc (.cells #[.int .i64 n8,.slice A8 l8 c8,.slice B8 m8 d8] 26):=⟨_,rfl⟩;obtain⟨b9,CZ⟩:∃z,z=w8.heap.size:=⟨_,rfl⟩;have E9:=Qq (show Qg w8 w9 by rw [WC];exact Qz.alloc _)
  have JS:=Qq (show w9.heap[b9]?=some (.cells #[.int .i64 n8,.slice A8 l8 c8,.slice B8 m8 d8] 26 (0,0)) by rw [WC,CZ];exact heap_alloc_new _ _);have QS:=Qq YU;clear YU YE e0 e1 e2 el;go_upto_region 8 with(fail);rw [<-WC,<-CZ];clear WC CZ;have nU:=Qq (rU.out.trans E9.out);have aQ:=Qq ((nU.out.block (Qn kV.out)).trans kV.out);have VS:=Qq ((nU.out.block (Qn eW.out)).trans eW.out);cases bb
  ·have VO:=Qq (show ∀u,u < mdc.n.toNat->u≠kc->Xm lg f (Vo mdc u) (Va kc u:Nat)≠0 from(by
    rcases QS.out with⟨h,_⟩|⟨_,_,h⟩
    ·cases h
    exact h))
   obtain⟨e0,e1,e2,el⟩:=Zy aQ.out;obtain⟨⟨q0,q1,q2⟩,⟨f0,f1,f2⟩,ql⟩:=Zc VS.out;have kJ:=Qq (show Ii lg f md (k:Int) mdc kc from .inr ⟨aN.out.symm,k,out,rfl,XT.out,by
    rw [<-eK.out,<-lM.out];exact XI.out _ _ (.done VO.out)⟩)
   have wB:=Qq (show Vs (fun q=>q < w.heap.size) (((w9.setCell ⟨b+1,0,none⟩ (.int .i64 (n:Int))).setCell ⟨b+1,1,none⟩ (.slice A m2 c)).setCell ⟨b+1,2,none⟩ (.slice A' m3 c')) (fun W=>Jk W (.agg #[.int .i64 (n:Int),.slice A m2 c,.slice A' m3 c']) mdc)from fun W hW=>by
    have h1:=yB.out;have h2:=kO.out;refine oD.out W ⟨Qx nU.out.size (Qx (by simp [World.setCell]) hW.1),fun q h3 h4=> ?_⟩;exact(hW.2 q (fun e=>h3 (.inl (by omega))) (by simp only [World.setCell,Array.size_modify];exact Qy h4 nU.out.size)).trans ((Kx (fun e=>h3 (.inl (by omega))) _ _ _).trans (nU.out.block h4)))
   go_wp2_with fail
   (try simp only [Exit.inBlock,Exit.then])
   refine bodyPost_ret (Jd Tryz.results30 _ _ rfl (Jj (Yn VS.out _ _ _)) Tryz.underlying26 rfl (by kernel_rfl)) rfl ?_;exact⟨_,mdc,kc,rfl,kJ.out,Yb (HX.out.trans nU.out) (by have:=yB.out;omega) _ _ _,wB.out⟩
  obtain⟨j,hj⟩:∃j,j < mdc.n.toNat/\j≠kc/\Xm lg f (Vo mdc j) (Va kc j:Nat)=0/\(∀u,j < u->u < mdc.n.toNat->u≠kc->Xm lg f (Vo mdc u) (Va kc u:Nat)≠0)/\k8=Va kc j/\Vs (fun q=>q < wr.heap.size) w8 (fun W=>Jk W (.agg #[.int .i64 n8,.slice A8 l8 c8,.slice B8 m8 d8]) (Vo mdc j)):=by
   rcases QS.out with⟨_,h⟩|⟨h,_⟩
   ·exact h
   cases h
  obtain⟨oM,lS,SO,IS,BW,BV⟩:=hj;have eH:=Qq (show Uj lg f (Vo mdc j) k8 from(by
   obtain⟨j2,hj7,YP⟩:=Fc.1 SO;obtain rfl:j2=Va kc j:=by omega
   rw [BW];exact YP))
  have VO:=Qq (show(Vo mdc j).n=(n:Int) - 1 by
   show((Za (Zl (Zk mdc.n.toNat) (2^j))).length:Int)=_;have h1:=vJ.out;have h2:=(Zv uY.out.good.ck).2.1;rw [Ed (by omega) oM,h1]
   omega)
  have G7:=Qq (show n8=(Vo mdc j).n from(by
   obtain⟨_,_,_,_,_,_,e,_⟩:=Qft BV.here;injection e))
  have UI:=Qq (ShD.put (lo:=lo) (BV.next (X':=fun q=>q < wr.heap.size) (Yv.of_ext E9.out) (fun _ _ h=>h)) (by have:=UX.out;have:=eN.out;omega) eN.out aQ.out);have H8:=Qq (show ∀md' k',Rj lg f (Vo mdc j) k8 md' k'->Rj lg f mdc kc md' k' from fun md' k' h=> .step oM lS SO IS (by rw [<-BW];exact h));have BO:k8 < 64:=by
   have h1:=eH.out.lt;have h2:=(Zv eH.out.good.ck).2.1;omega
  obtain⟨d0,d1,d2,dl⟩:=Zy JS.out;obtain⟨⟨q0,q1,q2⟩,⟨f0,f1,f2⟩,ql⟩:=Zc aQ.out;have EA:=Qq (show Qg w (((w9.setCell ⟨b6,0,none⟩ (.int .i64 n8)).setCell ⟨b6,1,none⟩ (.slice A8 l8 c8)).setCell ⟨b6,2,none⟩ (.slice B8 m8 d8))from Yb (HX.out.trans nU.out) (by have:=UX.out;have:=kO.out;have:=yB.out;omega) _ _ _);have fA:=Qq (show(((w9.setCell ⟨b6,0,none⟩ (.int .i64 n8)).setCell ⟨b6,1,none⟩ (.slice A8 l8 c8)).setCell ⟨b6,2,none⟩ (.slice B8 m8 d8)).heap[b+1]?=some (.cells #[.int .i64 0,.slice none 0 0,.slice none 0 0] 26 (0,0))from(Kx (by have:=UX.out;have:=kO.out;omega) _ _ _).trans VS.out)
  have pE:=Qq (Zy (Yn aQ.out (.int .i64 n8) (.slice A8 l8 c8) (.slice B8 m8 d8))).1;have wE:=Qq (Zy kV.out).1;have EP:=Qq (Qy eN.out nU.out.size);clear oM lS SO IS BW BV;go_wp2_with fail;refine⟨⟨k8,rfl,BO,Qq ⟨by simpa [World.setCell]using EP.out,Vo mdc j,UI.out,EA.out,eH.out,fA.out,fun md' k' h=>XI.out md' k' (H8.out md' k' h)⟩⟩,?_⟩;rw [pE.out,wE.out];show(n8:Int).toNat < ((n:Nat):Int).toNat;have h1:=uY.out.lt;have h2:=vJ.out;rw [G7.out,VO.out];omega
end Go.Proofs.YtkmclcmnoicagaaGreatDoor
