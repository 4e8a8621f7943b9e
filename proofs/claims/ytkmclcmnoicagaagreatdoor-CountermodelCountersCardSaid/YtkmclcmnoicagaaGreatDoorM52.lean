/- The program's Valid, from what Sets says. -/
import Derived.Test.YtkmclcmnoicagaaGreatDoorM01
import Derived.Test.YtkmclcmnoicagaaGreatDoorM43
import Derived.Test.YtkmclcmnoicagaaGreatDoorM50
import Derived.Test.YtkmclcmnoicagaaGreatDoorM48
import Derived.Test.YtkmclcmnoicagaaGreatDoorM49
import Derived.Test.YtkmclcmnoicagaaGreatDoorM17
import Derived.Test.YtkmclcmnoicagaaGreatDoorM12
import Derived.LaidMore
import Derived.SevenTiedAt
import Derived.Stop.Joined
import Derived.Below
namespace Go.Proofs.YtkmclcmnoicagaaGreatDoor
set_option maxRecDepth 100000
set_option maxHeartbeats 128000000
open Go.RowKit
theorem Qma(HSS:Qz9)(vm v:Value)(md:Md)(f:List Nd)(w:World)(hm:MdV w vm md)(hok:md.ok)(h:Fml w v f):
 Calls Tryz.prog 40 #[vm,v] w fun e w'=>e=.returned (.tuple #[.bool (decide (Yy md f=0)&&(((Gp md f:Nat):Int)==((Zx md.n.toNat:Nat):Int))),.int .i64 (Yy md f)])/\Ext w w':=by
 have HM:=Qq hm;have HF:=Qq h;have HS:=Qq (fun w hm h=>Qxj HSS vm v md f w hm hok h);obtain⟨vv,vr,rfl,hv,hr⟩:=hm;obtain⟨c1,hc1⟩:∃z,z=Yy md f:=⟨_,rfl⟩;have HC1:=Qq hc1;rw [<-hc1]at HS⊢;clear h hok HSS hv hr hc1;by_cases h1:c1=0
 ·subst h1;obtain⟨hck,_,_,_⟩:=Ks HC1.out.symm;obtain⟨hn1,hn64,_⟩:=Zv hck;obtain⟨N,hNN⟩:=Int.eq_ofNat_of_zero_le (show 0<=md.n by omega);have hNt:md.n.toNat=N:=by rw [hNN];exact Int.toNat_natCast N
  have hN64:N<=64:=by omega
  have HALL:=Qq (Qd7 hN64);rw [hNt];rw [hNN]at HS HM⊢;obtain⟨s,hs⟩:∃s,s=Gp md f:=⟨_,rfl⟩;rw [<-hs]at HS⊢;clear hck hn1 hn64 hNN hNt hs;go_enter Tryz.func40,Tryz.ntmps40;go_wp2_with fail;refine(HS.out _ (HM.out.ext ((Ext.refl w).alloc _)) (HF.out.ext ((Ext.refl w).alloc _))).mono ?_;rintro e w2 ⟨rfl,hx⟩;have HX:=Qq (((Ext.refl w).alloc _).trans hx);have c0:w2.cell? ⟨w.heap.size,0,none⟩=some (.int .i64 (N:Int)):=(hx.cell (p:=⟨w.heap.size,0,none⟩) (by simp)).trans (by simp);clear hx;go_wp2_with fail;go_ret2;exact⟨by rw [<-HALL.out] <;> rfl,HX.out⟩
 have hne:(c1==0)=false:=by simpa using h1
 have hdc:=decide_eq_false h1;obtain⟨q,hq⟩:∃q,q=(if c1=0 then Gp md f else 0):=⟨_,rfl⟩;rw [<-hq]at HS;rw [hdc,Bool.false_and];clear h1 hq hdc;go_enter Tryz.func40,Tryz.ntmps40;go_wp2_with fail;refine(HS.out _ (HM.out.ext ((Ext.refl w).alloc _)) (HF.out.ext ((Ext.refl w).alloc _))).mono ?_;rintro e w2 ⟨rfl,hx⟩;have HX:=Qq (((Ext.refl w).alloc _).trans hx);clear hx;go_wp2_with fail;go_ret2;exact⟨rfl,HX.out⟩
theorem Qv8 {w:World} {lg:Int} {vf vm:Value} {f:List Nd} {md:Md}(hf:Fml w vf f)(hm:MdV w vm md)(hok:md.ok)(hT:Vf w):
 Calls Tryz.prog 10 #[.int .i64 lg,vf,vm] w fun e w'=>e=.returned (.bool true)/\Ext w w':=by
 have HF:=Qq hf;have HOK:=Qq hok;have HT:=Qq hT;obtain⟨Af,cf,rfl,_⟩:=Qm hf;obtain⟨Av,lv,cv,Ar,lr,cr,rfl⟩:=Tn hm;obtain⟨n,hn⟩:∃z,z=md.n:=⟨_,rfl⟩;have HN:=Qq hn;rw [<-hn]at hm⊢;have HM:=Qq hm;obtain⟨W0,hW0⟩:∃z,z=w.alloc (.cells #[.int .i64 n,.slice Av lv cv,.slice Ar lr cr] 26):=⟨_,rfl⟩;obtain⟨b,hb⟩:∃z,z=w.heap.size:=⟨_,rfl⟩;have X0:=Qq (show Ext w W0 by rw [hW0];exact Qz.alloc _);have B0:=Qq (show W0.heap[b]?=some (.cells #[.int .i64 n,.slice Av lv cv,.slice Ar lr cr] 26 (0,0)) by rw [hW0,hb];exact heap_alloc_new _ _);clear hf hm hok hT hn;obtain⟨e0,e1,e2,el⟩:=Zd B0.out;go_enter Tryz.func10,Tryz.ntmps10
 go_upto_region 1 with(fail);rw [<-hW0,<-hb];clear hW0 hb;by_cases h24:24 < f.length
 ·have q:(24:Int) < (f.length:Int):=by omega
  clear h24;go_wp2_with fail;refine(Ja _ (HT.out.ext X0.out)).mono ?_;rintro e wt ⟨rfl,hxt⟩;have YT:=Qq (X0.out.trans hxt);clear hxt;go_wp2_with fail;go_ret;exact⟨rfl,YT.out⟩
 have q:¬(24:Int) < (f.length:Int):=by omega
 clear h24;go_wp2_with fail;refine(Ij _ md 10 _ (HM.out.ext X0.out)).mono ?_;rintro e w1 ⟨fb,rfl,hx⟩;have X1:=Qq (X0.out.trans hx);have B1:=Qq ((hx.block (Qf B0.out)).trans B0.out);clear hx e0 e1 e2 el;cases fb
 ·skip
  go_wp2_with fail;refine(Ja _ (HT.out.ext X1.out)).mono ?_;rintro e wt ⟨rfl,hxt⟩;have YT:=Qq (X1.out.trans hxt);clear hxt;go_wp2_with fail;go_ret;exact⟨rfl,YT.out⟩
 go_wp2_with fail;refine(Lq lg _ f _ (HT.out.ext X1.out) (HF.out.ext X1.out)).mono ?_;rintro e w2 ⟨u2,md2,k2,er,rfl,hs,hx,hfz⟩;have HS:=Qq hs;obtain⟨Bv,bl,bc,Br,rl,rc,rfl⟩:=Tn hfz.here;obtain⟨n2,hn2⟩:∃z,z=md2.n:=⟨_,rfl⟩;have HN2:=Qq hn2;have hh:=hfz.here;rw [<-hn2]at hh⊢;have HX:=Qq hx;have HM2:=Qq hh;clear hs hx hfz hh hn2;obtain⟨w3,hw3⟩:∃z,z=w2.alloc (.cells #[.int .i64 n2,.slice Bv bl bc,.slice Br rl rc] 26):=⟨_,rfl⟩;obtain⟨b3,hb3⟩:∃z,z=w2.heap.size:=⟨_,rfl⟩;have E3:=Qq (show Ext w2 w3 by rw [hw3];exact Qz.alloc _);have B3:=Qq (show w3.heap[b3]?=some (.cells #[.int .i64 n2,.slice Bv bl bc,.slice Br rl rc] 26 (0,0)) by rw [hw3,hb3];exact heap_alloc_new _ _)
 go_upto_region 4 with(fail);rw [<-hw3,<-hb3];clear hw3 hb3;have X3:=Qq (X1.out.trans (HX.out.trans E3.out));have B1:=Qq (((HX.out.trans E3.out).block (Qf B1.out)).trans B1.out);have M3:=Qq (HM2.out.ext E3.out);obtain⟨c0,c1,c2,cl⟩:=Zd B3.out;clear HX HM2 E3;by_cases hz:er=0
 ·subst hz;have HCM:=Qq (show Xk lg (Jj f) md2 k2 from(by
   rcases HS.out with⟨h,_⟩|⟨_,_,_,_,_,h⟩
   ·exact absurd rfl h
   exact h))
  have hck:=Zv HCM.out.good.ck;have h1:(1:Int)<=n2:=by rw [HN2.out];exact hck.1
  have h64:n2<=(64:Int):=by rw [HN2.out];exact hck.2.1
  have HC0:=Qq (show cmN lg (Jj f) md2 (k2:Int)=0 from Kc.2 ⟨k2,rfl,HCM.out⟩);have HO2:=Qq (Ll HCM.out.good.ck);clear hck;go_upto_region 5 with(fail);refine Vx 20 (fun w'=>w'.cell? (⟨b3,0,none⟩)=some (.int .i64 n2)/\w'.cell? (⟨b3,1,none⟩)=some (.slice Bv bl bc)/\w'.cell? (⟨b3,2,none⟩)=some (.slice Br rl rc)) (by kernel_rfl) ⟨xd cl c0,xd cl c1,xd cl c2⟩ (fun hHeld=> ?_);refine utk 0 hHeld ?_;refine utk 1 hHeld ?_;refine utk 2 hHeld ?_;refine utk 3 hHeld ?_;refine utk 4 hHeld ?_;refine utk 5 hHeld ?_;refine utk 6 hHeld ?_;refine utk 7 hHeld ?_;refine utk 8 hHeld ?_;refine utk 9 hHeld ?_
  refine utk 10 hHeld ?_;refine utk 12 hHeld ?_;refine utk 13 hHeld ?_;refine Qs (rs:= [11]) (by kernel_rfl) (by simp) ?_;refine Ql.cons rfl (fun K hK=> ?_) Ql.nil;go_simp;refine(Xw _ _ _ (HF.out.ext (X3.out.trans xv))).mono ?_;rintro e w4 ⟨u4,rfl,hm⟩;have F4:=Qq hm.fml;have hx4:Ext w3 w4:=Ext.trans xv hm.2.2;obtain⟨A4,c4,rfl,_⟩:=Qm F4.out;clear hm;go_wp2_with fail;refine hK.out _ _ ⟨xd cl c0,xd cl c1,xd cl c2⟩ (fun hHeld=> ?_);clear hK K;refine Qb ?_;refine Qs (rs:= [14]) (by kernel_rfl) (by simp) ?_;refine Ql.cons rfl (fun K hK=> ?_) Ql.nil;go_simp;refine(Ys lg _ _ (Jj f) md2 (k2:Int) _ (HT.out.ext (X3.out.trans hx4)) F4.out (M3.out.ext hx4) HO2.out).mono ?_
  rintro e w5 ⟨rfl,hh⟩;rw [HC0.out];have hx5:Ext w3 w5:=hx4.trans hh;clear hh;go_wp2_with fail;refine hK.out _ _ ⟨xd cl c0,xd cl c1,xd cl c2⟩ (fun hHeld=> ?_);clear hK K;refine Qb ?_;refine utk 15 hHeld ?_;refine utk 16 hHeld ?_;refine utk 17 hHeld ?_;refine Qs (rs:= [18]) (by kernel_rfl) (by simp) ?_;refine Ql.cons rfl (fun K hK=> ?_) Ql.nil;go_simp;refine(Ja _ (HT.out.ext (X3.out.trans hx5))).mono ?_;rintro e w6 ⟨rfl,hh⟩;have hx6:Ext w3 w6:=hx5.trans hh;clear hh;go_wp2_with fail;refine hK.out _ _ ⟨xd cl c0,xd cl c1,xd cl c2⟩ (fun hHeld=> ?_);clear hK K;refine Qb ?_;refine utk 19 hHeld ?_
  refine Jm (by kernel_rfl) rfl (fun K hK=> ?_);go_simp;refine hK.out _ _ ?_;clear hK K;refine Qb ?_;refine Jl (by kernel_rfl) ?_ _;go_wp2_with fail;go_ret;exact⟨rfl,X3.out.trans hx6⟩
 have HZ:=Qq (show md2=⟨0,[],[]⟩/\k2=0 from(by
  rcases HS.out with⟨_,h1,h2,_⟩|⟨h,_⟩
  ·exact⟨h1,h2⟩
  exact absurd h hz))
 obtain rfl:n2=0:=by rw [HN2.out,HZ.out.1]
 obtain rfl:k2=0:=HZ.out.2;have hz0:(er==0)=false:=by rw [beq_eq_false_iff_ne];exact hz
 clear hz;by_cases h14:er=14
 case neg =>
  have h14f:(er==14)=false:=by rw [beq_eq_false_iff_ne];exact h14
  clear h14;go_wp2_with fail;refine(Ja _ (HT.out.ext X3.out)).mono ?_;rintro e wt ⟨rfl,hxt⟩;have YT:=Qq (X3.out.trans hxt);clear hxt;go_wp2_with fail;go_ret;exact⟨rfl,YT.out⟩
 subst h14;obtain⟨ib,hib⟩:∃z,z=inG md lg:=⟨_,rfl⟩;have HIB:=Qq hib;clear hib hz0;obtain⟨e0,e1,e2,el⟩:=Zd B1.out;go_wp2_with fail;refine(Qns _ md lg _ (HT.out.ext X3.out) (HM.out.ext X3.out) HOK.out).mono ?_;rintro e w4 ⟨rfl,hx⟩;rw [<-HIB.out];have X4:=Qq (X3.out.trans hx);have B4:=Qq ((hx.block (Qf B1.out)).trans B1.out);clear hx e0 e1 e2 el c0 c1 c2 cl;cases ib
 ·skip
  go_wp2_with fail;refine(Ja _ (HT.out.ext X4.out)).mono ?_;rintro e wt ⟨rfl,hxt⟩;have YT:=Qq (X4.out.trans hxt);clear hxt;go_wp2_with fail;go_ret;exact⟨rfl,YT.out⟩
 obtain⟨e0,e1,e2,el⟩:=Zd B4.out;obtain⟨g,hg⟩:∃z,z=Yy md f:=⟨_,rfl⟩;have HG:=Qq hg;clear hg;go_wp2_with fail;refine(Qma Qqg _ _ md f _ (HM.out.ext X4.out) HOK.out (HF.out.ext X4.out)).mono ?_;rintro e w5 ⟨rfl,hx⟩;rw [<-HG.out];have X5:=Qq (X4.out.trans hx);clear hx e0 e1 e2 el;by_cases hg0:g=0
 ·subst hg0;have hall:Gp md f=Zx md.n.toNat:=Qx6 HS.out (Qfa HIB.out.symm).2 HG.out.symm;rw [show(decide ((0:Int)=0)&&(((Gp md f:Nat):Int)==((Zx md.n.toNat:Nat):Int)))=true by rw [hall];simp];clear hall;go_wp2_with fail;refine(Ja _ (HT.out.ext X5.out)).mono ?_;rintro e wt ⟨rfl,hxt⟩;have YT:=Qq (X5.out.trans hxt);clear hxt;go_wp2_with fail;go_ret;exact⟨rfl,YT.out⟩
 obtain⟨vb,hvb⟩:∃z,z=(decide (g=0)&&(((Gp md f:Nat):Int)==((Zx md.n.toNat:Nat):Int))):=⟨_,rfl⟩;rw [<-hvb];clear hvb;have hgf:(g==0)=false:=by rw [beq_eq_false_iff_ne];exact hg0
 clear hg0;go_wp2_with fail;refine(Ja _ (HT.out.ext X5.out)).mono ?_;rintro e wt ⟨rfl,hxt⟩;have YT:=Qq (X5.out.trans hxt);clear hxt;go_wp2_with fail;go_ret;exact⟨rfl,YT.out⟩
open Go.ChangeShapes Go.WideShapes Go.ChangeAt Go.Joins
theorem Ss {H:Type} {enc:TypeId×Value->H} {w:World} {spare:Nat->Bool} {held:Bool} {v:Value} {d:DataW H} {p:List MemPlace}(h:DataW.Trod enc Tryz.prog w 0 spare held 22 v d p)(hv:∃a len cap,v=.slice a len cap):∃l,Fml w v l:=by
 obtain⟨a,len,cap,rfl⟩:=hv;obtain⟨fuel,hf⟩:=h;exact Lz hf
theorem Fw:laidOutB Tryz.prog=true:=by kernel_rfl
theorem own:ownKnob Tryz.prog.godebug=none:=by kernel_rfl
theorem Nt(os:Os)(args:Array Value):laidMetH Tryz.prog [("math/bits.deBruijn64tab",Rows.laid_math_bits_deBruijn64tab)] ((World.doorLaid Tryz.prog 600 os).forCall (fun _ _=>0) ⟨#[],args,[]⟩).memory:=by
 rw [Go.MakeChecks.laidMetH_plain _ _ _ rfl];exact laidMet_of_run' 8 (by kernel_rfl) (by kernel_rfl)
theorem Ld(os:Os)(started:os.Started)(H:Type)(enc:TypeId×Value->H):
 ReturnsInHanded {} Tryz.checked os 10 .any (fun w args=>(Rows.countermodelCountersSpec.pre enc Tryz.prog Tryz.f10 [] false w args/\laidMetH Tryz.prog [("math/bits.deBruijn64tab",Rows.laid_math_bits_deBruijn64tab)] w)/\sizedMet enc Tryz.prog Tryz.f10 (OpenSpec.ofChange Rows.countermodelCountersSpec) false w args)
  (Rows.countermodelCountersSpec.post enc Tryz.prog Tryz.f10 false true false false):=by
 refine returnsInHanded_of_change_and (C:=Tryz.checked) (X:=fun w _=>laidMetH Tryz.prog [("math/bits.deBruijn64tab",Rows.laid_math_bits_deBruijn64tab)] w) (fun _ _ _ hh h=>h.of_heap hh) own started (by kernel_rfl) Tryz.func10
  (ChangeSpec.witness_shaped (enc:=enc) (C:=Tryz.checked) (os:=os) (X:=fun w _=>laidMetH Tryz.prog [("math/bits.deBruijn64tab",Rows.laid_math_bits_deBruijn64tab)] w) false (World.doorLaid Tryz.prog 600 os) #[.int .i64 0,.slice none 0 0,.agg #[.int .i64 0,.slice none 0 0,.slice none 0 0]] 8 rfl (World.shaped_of_RefB (by kernel_rfl) (by kernel_rfl)) (by kernel_rfl) (by kernel_rfl) (by kernel_rfl) (Nt os _)) ?_
 intro W base args ds gs before hval0 hW _ _ hL _;have hval:∀(j:Nat) t v,Tryz.f10.params[j]?=some t->args[j]?=some v->Value.okWide Tryz.prog W .any base t v:=hval0;have hTAB:=Sp hL;have hW':=hW;obtain⟨p,q,hA0,hV,rfl,hfz,hnd⟩:=hW;have hA:DataW.TrodAll enc Tryz.prog W 0 (fun _=>true) true Tryz.f10.params.toList args.toList ds p:=hA0;rw [Tryz.params10]at hA hval;obtain⟨v0,vs0,d0,ds0,p0,q0,hargs,rfl,rfl,h0,r0⟩:=trodAll_cons hA;obtain⟨v1,vs1,d1,ds1,p1,q1,rfl,rfl,rfl,h1,r1⟩:=trodAll_cons r0;obtain⟨v2,vs2,d2,ds2,p2,q2,rfl,rfl,rfl,h2,r2⟩:=trodAll_cons r1;obtain⟨rfl,rfl,rfl⟩:=trodAll_nil r2;obtain rfl:args=#[v0,v1,v2]:=by cases args;simp_all
 obtain⟨rfl,rfl⟩:=trodVars_none hV;obtain⟨z0,rfl,rfl,rfl,wz0⟩:=open_int Tryz.underlying3 (hval 0 3 v0 rfl rfl) h0;obtain⟨f1,hf1⟩:=Ss h1 (okWide_slice Tryz.underlying22 (hval 1 22 v1 rfl rfl));obtain⟨md2,hm2,mo2⟩:=Qk9 (hval 2 26 v2 rfl rfl) h2;simp only [List.append_nil]at hW';clear hA0 hval0;refine(Qv8 (lg:=z0) hf1 hm2 mo2 hTAB).mono ?_;rintro e W' ⟨rfl,hx⟩;have hlt:∀x∈p1++p2,x.block < W.heap.size:=fun x hx'=>hW'.lt x hx'
 refine⟨_,rfl,Nr (pa:=p1++p2) (pv:= []) hW' (fun _ _ _=>trodAll_mk1 (shut_bool Tryz.underlying4 _)) (fun sp hsp=> ?_) (fun _ _=>rfl) (by simp) hx (ok_one (by kernel_rfl) rfl (okWide_bool_mk Tryz.underlying4 _))⟩;have ht:=(trodAll_cons_mk (shut_int Tryz.underlying3 wz0) (trodAll_cons_mk (WideElems.Trod_stays Fw (by kernel_rfl) (of_decide_eq_true (by kernel_rfl)) h1 (fun x hx'=>hx.same (hlt x (by simp [hx']))) (fun x hx'=>hsp x (by simp [hx']))) (trodAll_cons_mk (WideElems.Trod_stays Fw (by kernel_rfl) (of_decide_eq_true (by kernel_rfl)) h2 (fun x hx'=>hx.same (hlt x (by simp [hx']))) (fun x hx'=>hsp x (by simp [hx']))) trodAll_mk0)))
 simp only [List.append_nil,List.nil_append]at ht;exact ht
theorem Mx:Rows.CountermodelCountersSaid :=
 OpenClaim.holds_of_wide 10 Tryz.f10 rfl rfl rfl rfl rfl rfl rfl ⟨rfl,rfl,rfl,rfl,rfl⟩ rfl rfl rfl rfl rfl (by kernel_rfl) Tryz.func10 (by kernel_rfl)
  (of_decide_eq_true (by kernel_rfl)) (by unfold Func.isWrapper;first|(rw [if_pos (by decide+kernel)];kernel_rfl)|(rw [if_neg (by decide+kernel)];exact⟨rfl,rfl⟩))
  (fun os started H enc _=>Ld os started H enc)
theorem Lw(f:FuncId)(fn:Func)(hf:Tryz.pinned.checked.prog.funcNamed "witting/wittinglaw48.CountermodelCounters" =some f)(hfn:Tryz.pinned.checked.prog.funcs[f]?=some fn):
 false=Tryz.pinned.checked.prog.looks []/\∀(j:Nat) t,fn.params[j]?=some t->Tryz.pinned.checked.prog.wantsStandIn t=false:=by
 obtain rfl:f=10:=Option.some.inj ((show Tryz.prog.funcNamed "witting/wittinglaw48.CountermodelCounters" =some 10 by kernel_rfl).symm.trans hf)|>.symm;obtain rfl:fn=Tryz.f10:=(Option.some.inj (Tryz.func10.symm.trans hfn)).symm;refine⟨by kernel_rfl,fun j t ht=> ?_⟩;rw [Tryz.params10]at ht;have hm:t∈ #[(3:TypeId),(22:TypeId),(26:TypeId)]:=Array.mem_of_getElem? ht;simp only [List.mem_toArray,List.mem_cons,List.not_mem_nil,or_false]at hm;rcases hm with rfl|rfl|rfl
 ·exact(show Tryz.prog.wantsStandIn 3=false by kernel_rfl)
 ·exact(show Tryz.prog.wantsStandIn 22=false by kernel_rfl)
 exact(show Tryz.prog.wantsStandIn 26=false by kernel_rfl)
theorem countermodelCounters_card:Rows.CountermodelCountersCardSaid :=
 Claim7.holds_tied_plain_at .later [] _ _ _ _ Mx (fun _ h=>by cases h) (by kernel_rfl) (fun _ h=>by cases h) countermodelCounters_row_tie rfl ⟨rfl,rfl⟩ (by kernel_rfl) rfl Lw (by kernel_rfl)
end Go.Proofs.YtkmclcmnoicagaaGreatDoor
