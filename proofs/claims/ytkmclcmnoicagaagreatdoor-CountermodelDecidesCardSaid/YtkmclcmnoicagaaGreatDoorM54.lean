/- The law CountermodelDecides. -/
import Derived.Test.YtkmclcmnoicagaaGreatDoorM01
import Derived.Test.YtkmclcmnoicagaaGreatDoorM50
import Derived.Test.YtkmclcmnoicagaaGreatDoorM48
import Derived.Test.YtkmclcmnoicagaaGreatDoorM12
import Derived.LaidMore
import Derived.SevenTiedAt
import Derived.Stop.Joined
import Derived.Below
namespace Go.Proofs.YtkmclcmnoicagaaGreatDoor
set_option maxRecDepth 100000
set_option maxHeartbeats 128000000
open Go.RowKit
theorem Qx7 {w:World} {lg:Int} {vf:Value} {f:List Nd}(hf:Fml w vf f)(hT:Vf w):
 Calls Tryz.prog 11 #[.int .i64 lg,vf] w fun e w'=>e=.returned (.bool true)/\Ext w w':=by
 have HF:=Qq hf;have HT:=Qq hT;obtain⟨Af,cf,rfl,_⟩:=Qm hf;obtain⟨ck,hck⟩:∃z,z=check f:=⟨_,rfl⟩;have HCK:=Qq hck;have X0:=Qq (Ext.refl w);clear hf hT hck;go_enter Tryz.func11,Tryz.ntmps11;by_cases h12:12 < f.length
 ·have q:(12:Int) < (f.length:Int):=by omega
  clear h12;go_wp2_with fail;refine(Ja _ (HT.out.ext X0.out)).mono ?_;rintro e wt ⟨rfl,hxt⟩;have YT:=Qq (X0.out.trans hxt);clear hxt;go_wp2_with fail;go_ret;exact⟨rfl,YT.out⟩
 have q:¬(12:Int) < (f.length:Int):=by omega
 clear h12;go_wp2_with fail;refine(Vk _ f _ HF.out.1).mono ?_;rintro e w1 ⟨rfl,hx⟩;rw [<-HCK.out];have X1:=Qq hx;clear hx;by_cases hz:ck=0
 case neg =>
  have hne:(ck !=0)=true:=by simpa using hz
  clear hz;go_wp2_with fail;refine(Ja _ (HT.out.ext X1.out)).mono ?_;rintro e wt ⟨rfl,hxt⟩;have YT:=Qq (X1.out.trans hxt);clear hxt;go_wp2_with fail;go_ret;exact⟨rfl,YT.out⟩
 subst hz;go_wp2_with fail;refine(Lq lg _ f _ (HT.out.ext X1.out) (HF.out.ext X1.out)).mono ?_;rintro e w2 ⟨u2,md2,k2,er,rfl,hs,hx,hfz⟩;have HCS:=Qq (Qdy HCK.out.symm hs);obtain⟨n2,Bv,bl,bc,Br,rl,rc,rfl⟩:=Bb hfz.here;have HX:=Qq hx;clear hs hx hfz;obtain⟨w3,hw3⟩:∃z,z=w2.alloc (.cells #[.int .i64 n2,.slice Bv bl bc,.slice Br rl rc] 26):=⟨_,rfl⟩;have X3:=Qq (show Ext w w3 by rw [hw3];exact(X1.out.trans HX.out).alloc _);go_upto_region 4 with(fail);rw [<-hw3];clear hw3 HX;go_wp2_with fail;refine(Xw _ _ _ (HF.out.ext X3.out)).mono ?_;rintro e w4 ⟨u4,rfl,hm⟩;have F4:=Qq hm.fml
 have X4:=Qq (X3.out.trans hm.2.2);clear hm;obtain⟨A4,c4,rfl,_⟩:=Qm F4.out;go_wp2_with fail;refine(Qwt lg _ (Jj f) _ F4.out).mono ?_;rintro e w5 ⟨rfl,hx⟩;have X5:=Qq (X4.out.trans hx);clear hx;obtain⟨is,g,hsat⟩:∃is g,Nz lg (Jj f)=(is,g):=⟨_,_,rfl⟩;have HCT:=HCS.out;rw [hsat]at HCT⊢;have HC:=Qq HCT;clear HCT HCS hsat;by_cases h8:er=8
 ·subst h8;go_wp2_with fail;refine(Ja _ (HT.out.ext X5.out)).mono ?_;rintro e wt ⟨rfl,hxt⟩;have YT:=Qq (X5.out.trans hxt);clear hxt;go_wp2_with fail;go_ret;exact⟨rfl,YT.out⟩
 obtain⟨c1,c2⟩:=HC.out h8;have h8f:(er==8)=false:=by rw [beq_eq_false_iff_ne];exact h8
 have C1:=Qq c1;have C2:=Qq c2;clear c1 c2 h8;by_cases hg:g=0
 ·obtain⟨d1,d2⟩:=C2.out hg;have D1:=Qq d1;have D2:=Qq d2;have hgf:(g !=0)=false:=by rw [hg];rfl
  clear hg d1 d2;cases is
  ·have d1:(er==0)=false:=D1.out;have d2:(er==14)=true:=D2.out;go_wp2_with fail;refine(Ja _ (HT.out.ext X5.out)).mono ?_;rintro e wt ⟨rfl,hxt⟩;have YT:=Qq (X5.out.trans hxt);clear hxt;go_wp2_with fail;go_ret;exact⟨rfl,YT.out⟩
  have d1:(er==0)=true:=D1.out;have d2:(er==14)=false:=D2.out;go_wp2_with fail;refine(Ja _ (HT.out.ext X5.out)).mono ?_;rintro e wt ⟨rfl,hxt⟩;have YT:=Qq (X5.out.trans hxt);clear hxt;go_wp2_with fail;go_ret;exact⟨rfl,YT.out⟩
 have hgt:(g !=0)=true:=by simpa using hg
 obtain rfl:er=g:=C1.out hg;have hee:(er==er)=true:=by simp
 clear hg;go_wp2_with fail;refine(Ja _ (HT.out.ext X5.out)).mono ?_;rintro e wt ⟨rfl,hxt⟩;have YT:=Qq (X5.out.trans hxt);clear hxt;go_wp2_with fail;go_ret;exact⟨rfl,YT.out⟩
open Go.ChangeShapes Go.WideShapes Go.ChangeAt Go.Joins
theorem Ss {H:Type} {enc:TypeId×Value->H} {w:World} {spare:Nat->Bool} {held:Bool} {v:Value} {d:DataW H} {p:List MemPlace}(h:DataW.Trod enc Tryz.prog w 0 spare held 22 v d p)(hv:∃a len cap,v=.slice a len cap):∃l,Fml w v l:=by
 obtain⟨a,len,cap,rfl⟩:=hv;obtain⟨fuel,hf⟩:=h;exact Lz hf
theorem Fw:laidOutB Tryz.prog=true:=by kernel_rfl
theorem own:ownKnob Tryz.prog.godebug=none:=by kernel_rfl
theorem Nt(os:Os)(args:Array Value):laidMetH Tryz.prog [("math/bits.deBruijn64tab",Rows.laid_math_bits_deBruijn64tab)] ((World.doorLaid Tryz.prog 600 os).forCall (fun _ _=>0) ⟨#[],args,[]⟩).memory:=by
 rw [Go.MakeChecks.laidMetH_plain _ _ _ rfl];exact laidMet_of_run' 8 (by kernel_rfl) (by kernel_rfl)
theorem Lo(os:Os)(started:os.Started)(H:Type)(enc:TypeId×Value->H):
 ReturnsInHanded {} Tryz.checked os 11 .any (fun w args=>(Rows.countermodelDecidesSpec.pre enc Tryz.prog Tryz.f11 [] false w args/\laidMetH Tryz.prog [("math/bits.deBruijn64tab",Rows.laid_math_bits_deBruijn64tab)] w)/\sizedMet enc Tryz.prog Tryz.f11 (OpenSpec.ofChange Rows.countermodelDecidesSpec) false w args)
  (Rows.countermodelDecidesSpec.post enc Tryz.prog Tryz.f11 false true false false):=by
 refine returnsInHanded_of_change_and (C:=Tryz.checked) (X:=fun w _=>laidMetH Tryz.prog [("math/bits.deBruijn64tab",Rows.laid_math_bits_deBruijn64tab)] w) (fun _ _ _ hh h=>h.of_heap hh) own started (by kernel_rfl) Tryz.func11
  (ChangeSpec.witness_shaped (enc:=enc) (C:=Tryz.checked) (os:=os) (X:=fun w _=>laidMetH Tryz.prog [("math/bits.deBruijn64tab",Rows.laid_math_bits_deBruijn64tab)] w) false (World.doorLaid Tryz.prog 600 os) #[.int .i64 0,.slice none 0 0] 8 rfl (World.shaped_of_RefB (by kernel_rfl) (by kernel_rfl)) (by kernel_rfl) (by kernel_rfl) (by kernel_rfl) (Nt os _)) ?_
 intro W base args ds gs before hval0 hW _ _ hL _;have hval:∀(j:Nat) t v,Tryz.f11.params[j]?=some t->args[j]?=some v->Value.okWide Tryz.prog W .any base t v:=hval0;have hTAB:=Sp hL;have hW':=hW;obtain⟨p,q,hA0,hV,rfl,hfz,hnd⟩:=hW;have hA:DataW.TrodAll enc Tryz.prog W 0 (fun _=>true) true Tryz.f11.params.toList args.toList ds p:=hA0;rw [Tryz.params11]at hA hval;obtain⟨v0,vs0,d0,ds0,p0,q0,hargs,rfl,rfl,h0,r0⟩:=trodAll_cons hA;obtain⟨v1,vs1,d1,ds1,p1,q1,rfl,rfl,rfl,h1,r1⟩:=trodAll_cons r0;obtain⟨rfl,rfl,rfl⟩:=trodAll_nil r1;obtain rfl:args=#[v0,v1]:=by cases args;simp_all
 obtain⟨rfl,rfl⟩:=trodVars_none hV;obtain⟨z0,rfl,rfl,rfl,wz0⟩:=open_int Tryz.underlying3 (hval 0 3 v0 rfl rfl) h0;obtain⟨f1,hf1⟩:=Ss h1 (okWide_slice Tryz.underlying22 (hval 1 22 v1 rfl rfl));simp only [List.append_nil]at hW';clear hA0 hval0;refine(Qx7 (lg:=z0) hf1 hTAB).mono ?_;rintro e W' ⟨rfl,hx⟩;have hlt:∀x∈p1,x.block < W.heap.size:=fun x hx'=>hW'.lt x hx'
 refine⟨_,rfl,Nr (pa:=p1) (pv:= []) hW' (fun _ _ _=>trodAll_mk1 (shut_bool Tryz.underlying4 _)) (fun sp hsp=> ?_) (fun _ _=>rfl) (by simp) hx (ok_one (by kernel_rfl) rfl (okWide_bool_mk Tryz.underlying4 _))⟩;have ht:=(trodAll_cons_mk (shut_int Tryz.underlying3 wz0) (trodAll_cons_mk (WideElems.Trod_stays Fw (by kernel_rfl) (of_decide_eq_true (by kernel_rfl)) h1 (fun x hx'=>hx.same (hlt x hx')) (fun x hx'=>hsp x hx')) trodAll_mk0));simp only [List.append_nil,List.nil_append]at ht;exact ht
theorem Pf:Rows.CountermodelDecidesSaid :=
 OpenClaim.holds_of_wide 11 Tryz.f11 rfl rfl rfl rfl rfl rfl rfl ⟨rfl,rfl,rfl,rfl,rfl⟩ rfl rfl rfl rfl rfl (by kernel_rfl) Tryz.func11 (by kernel_rfl)
  (of_decide_eq_true (by kernel_rfl)) (by unfold Func.isWrapper;first|(rw [if_pos (by decide+kernel)];kernel_rfl)|(rw [if_neg (by decide+kernel)];exact⟨rfl,rfl⟩))
  (fun os started H enc _=>Lo os started H enc)
theorem Mg(f:FuncId)(fn:Func)(hf:Tryz.pinned.checked.prog.funcNamed "witting/wittinglaw48.CountermodelDecides" =some f)(hfn:Tryz.pinned.checked.prog.funcs[f]?=some fn):
 false=Tryz.pinned.checked.prog.looks []/\∀(j:Nat) t,fn.params[j]?=some t->Tryz.pinned.checked.prog.wantsStandIn t=false:=by
 obtain rfl:f=11:=Option.some.inj ((show Tryz.prog.funcNamed "witting/wittinglaw48.CountermodelDecides" =some 11 by kernel_rfl).symm.trans hf)|>.symm;obtain rfl:fn=Tryz.f11:=(Option.some.inj (Tryz.func11.symm.trans hfn)).symm;refine⟨by kernel_rfl,fun j t ht=> ?_⟩;rw [Tryz.params11]at ht;have hm:t∈ #[(3:TypeId),(22:TypeId)]:=Array.mem_of_getElem? ht;simp only [List.mem_toArray,List.mem_cons,List.not_mem_nil,or_false]at hm;rcases hm with rfl|rfl
 ·exact(show Tryz.prog.wantsStandIn 3=false by kernel_rfl)
 exact(show Tryz.prog.wantsStandIn 22=false by kernel_rfl)
theorem countermodelDecides_card:Rows.CountermodelDecidesCardSaid :=
 Claim7.holds_tied_plain_at .later [] _ _ _ _ Pf (fun _ h=>by cases h) (by kernel_rfl) (fun _ h=>by cases h) countermodelDecides_row_tie rfl ⟨rfl,rfl⟩ (by kernel_rfl) rfl Mg (by kernel_rfl)
end Go.Proofs.YtkmclcmnoicagaaGreatDoor
