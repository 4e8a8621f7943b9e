/- The law CountermodelFewest. -/
import Derived.Test.YtkmclcmnoicagaaGreatDoorM01
import Derived.Test.YtkmclcmnoicagaaGreatDoorM50
import Derived.Test.YtkmclcmnoicagaaGreatDoorM48
import Derived.Test.YtkmclcmnoicagaaGreatDoorM49
import Derived.Test.YtkmclcmnoicagaaGreatDoorM12
import Derived.LaidMore
import Derived.SevenTiedAt
import Derived.Stop.Joined
import Derived.Below
namespace Go.Proofs.YtkmclcmnoicagaaGreatDoor
set_option maxRecDepth 100000
set_option maxHeartbeats 128000000
open Go.RowKit
theorem Qfx {w:World} {lg:Int} {vf vm:Value} {f:List Nd} {md:Md}(hf:Fml w vf f)(hm:MdV w vm md)(hok:md.ok)(hT:Vf w):
 Calls Tryz.prog 9 #[.int .i64 lg,vf,vm] w fun e w'=>e=.returned (.bool true)/\Ext w w':=by
 have HF:=Qq hf;have HOK:=Qq hok;have HT:=Qq hT;obtain⟨Af,cf,rfl,_⟩:=Qm hf;obtain⟨Av,lv,cv,Ar,lr,cr,rfl⟩:=Tn hm;obtain⟨n,hn⟩:∃z,z=md.n:=⟨_,rfl⟩;have HN:=Qq hn;rw [<-hn]at hm⊢;have HM:=Qq hm;obtain⟨W0,hW0⟩:∃z,z=w.alloc (.cells #[.int .i64 n,.slice Av lv cv,.slice Ar lr cr] 26):=⟨_,rfl⟩;obtain⟨b,hb⟩:∃z,z=w.heap.size:=⟨_,rfl⟩;have X0:=Qq (show Ext w W0 by rw [hW0];exact Qz.alloc _);have B0:=Qq (show W0.heap[b]?=some (.cells #[.int .i64 n,.slice Av lv cv,.slice Ar lr cr] 26 (0,0)) by rw [hW0,hb];exact heap_alloc_new _ _);clear hf hm hok hT hn;obtain⟨e0,e1,e2,el⟩:=Zd B0.out;go_enter Tryz.func9,Tryz.ntmps9
 go_upto_region 1 with(fail);rw [<-hW0,<-hb];clear hW0 hb;by_cases h24:24 < f.length
 ·have q:(24:Int) < (f.length:Int):=by omega
  clear h24;go_wp2_with fail;refine(Ja _ (HT.out.ext X0.out)).mono ?_;rintro e wt ⟨rfl,hxt⟩;have YT:=Qq (X0.out.trans hxt);clear hxt;go_wp2_with fail;go_ret;exact⟨rfl,YT.out⟩
 have q:¬(24:Int) < (f.length:Int):=by omega
 clear h24;go_wp2_with fail;refine(Ij _ md 4 _ (HM.out.ext X0.out)).mono ?_;rintro e w1 ⟨fb,rfl,hx⟩;have X1:=Qq (X0.out.trans hx);have B1:=Qq ((hx.block (Qf B0.out)).trans B0.out);clear hx e0 e1 e2 el;cases fb
 ·skip
  go_wp2_with fail;refine(Ja _ (HT.out.ext X1.out)).mono ?_;rintro e wt ⟨rfl,hxt⟩;have YT:=Qq (X1.out.trans hxt);clear hxt;go_wp2_with fail;go_ret;exact⟨rfl,YT.out⟩
 go_wp2_with fail;refine(Il lg _ f 2 _ (HT.out.ext X1.out) (HF.out.ext X1.out)).mono ?_;rintro e w2 ⟨u2,md2,er,rfl,hs,hx,hfz⟩;have HS:=Qq hs;obtain⟨Bv,bl,bc,Br,rl,rc,rfl⟩:=Tn hfz.here;obtain⟨n2,hn2⟩:∃z,z=md2.n:=⟨_,rfl⟩;have HN2:=Qq hn2;have hh:=hfz.here;rw [<-hn2]at hh⊢;have HX:=Qq hx;have HM2:=Qq hh;clear hs hx hfz hh hn2;obtain⟨w3,hw3⟩:∃z,z=w2.alloc (.cells #[.int .i64 n2,.slice Bv bl bc,.slice Br rl rc] 26):=⟨_,rfl⟩;obtain⟨b3,hb3⟩:∃z,z=w2.heap.size:=⟨_,rfl⟩;have E3:=Qq (show Ext w2 w3 by rw [hw3];exact Qz.alloc _);have B3:=Qq (show w3.heap[b3]?=some (.cells #[.int .i64 n2,.slice Bv bl bc,.slice Br rl rc] 26 (0,0)) by rw [hw3,hb3];exact heap_alloc_new _ _)
 go_upto_region 4 with(fail);rw [<-hw3,<-hb3];clear hw3 hb3;have X3:=Qq (X1.out.trans (HX.out.trans E3.out));have B1:=Qq (((HX.out.trans E3.out).block (Qf B1.out)).trans B1.out);have M3:=Qq (HM2.out.ext E3.out);obtain⟨c0,c1,c2,cl⟩:=Zd B3.out;clear HX HM2 E3;obtain⟨bd,hbd,hb4⟩:∃bd:Nat,max (0:Int) (min 4 n)=(bd:Int)/\bd<=4:=⟨(max (0:Int) (min 4 n)).toNat,by omega,by omega⟩;by_cases hz:er=0
 ·subst hz;obtain⟨n1,hn1,hn2,hxn,hc0,hl⟩:=Qlj HS.out;obtain rfl:n2=(n1:Int):=by rw [HN2.out,hxn]
  have HXN:=Qq hxn;have HC0:=Qq hc0;have HL:=Qq hl;have HO2:=Qq (show md2.ok from(by
   obtain⟨_,_,hok⟩:=Kc.1 hc0;exact Ll hok.good.ck))
  clear hxn hc0 hl;go_wp2_with fail;refine(Do lg _ _ f md2 0 _ (HT.out.ext X3.out) (HF.out.ext X3.out) M3.out HO2.out).mono ?_;rintro e w5 ⟨u5,md5,k5,rfl,hs,hx,hfz⟩;rw [HC0.out];have HN5:=Qq ((Qx9 HXN.out HC0.out HL.out hs).trans HXN.out);obtain⟨Cv,vl,vc,Cr,sl,sc,rfl⟩:=Tn hfz.here;rw [HN5.out];have HX:=Qq hx;clear hs hx hfz c0 c1 c2 cl;obtain⟨w6,hw6⟩:∃z,z=w5.alloc (.cells #[.int .i64 (n1:Int),.slice Cv vl vc,.slice Cr sl sc] 26):=⟨_,rfl⟩;obtain⟨b6,hb6⟩:∃z,z=w5.heap.size:=⟨_,rfl⟩;have E6:=Qq (show Ext w3 w6 by rw [hw6];exact HX.out.alloc _);have B6:=Qq (show w6.heap[b6]?=some (.cells #[.int .i64 (n1:Int),.slice Cv vl vc,.slice Cr sl sc] 26 (0,0)) by rw [hw6,hb6];exact heap_alloc_new _ _)
  go_upto_region 7 with(fail);rw [<-hw6,<-hb6];clear hw6 hb6 HX;have X6:=Qq (X3.out.trans E6.out);have B1:=Qq ((E6.out.block (Qf B1.out)).trans B1.out);have B3:=Qq ((E6.out.block (Qf B3.out)).trans B3.out);obtain⟨c0,c1,c2,cl⟩:=Zd B3.out;obtain⟨d0,d1,d2,dl⟩:=Zd B6.out;have hnn:((n1:Int) !=(n1:Int))=false:=by simp
  go_wp2_with fail;refine(Ys lg _ _ f md2 0 _ (HT.out.ext X6.out) (HF.out.ext X6.out) (M3.out.ext E6.out) HO2.out).mono ?_;rintro e w7 ⟨rfl,hx⟩;rw [HC0.out];have X7:=Qq (X6.out.trans hx);have B1:=Qq ((hx.block (Qf B1.out)).trans B1.out);have B3:=Qq ((hx.block (Qf B3.out)).trans B3.out);clear hx c0 c1 c2 cl d0 d1 d2 dl hnn;obtain⟨c0,c1,c2,cl⟩:=Zd B3.out;have hw1:IntKind.i64.wrap ((n1:Int) - 1)=((n1 - 1:Nat):Int):=by rw [IntKind.wrap_i64];omega
  have hw2:wrap64 ((n1:Int) - 1)=((n1 - 1:Nat):Int):=by have:=Tc (x:=n1 - 1) (by omega);rw [<-this];congr 1;omega
  go_upto_region 12 with(fail);clear c0 c1 c2 cl hw1 hw2;have HKEY:=Qq (show n<=((n1 - 1:Nat):Int)->∀k:Nat,cmN lg f md (k:Int)≠0 from fun hle k h0=>by
   obtain⟨k0,_,hc⟩:=Kc.1 h0;have:=HL.out md k0 hc;have:=HN.out
   omega)
  obtain⟨e0,e1,e2,el⟩:=Zd B1.out;have hmax:=hbd;go_upto_region 13 with(fail);clear e0 e1 e2 el hmax;go_wp2_with fail;go_loopw [65] (fun v wr=>∃k:Nat,v=.int .i64 (k:Int)/\k<=bd/\Hid (Ext w7 wr)) (fun v _=>bd - (intOf v).toNat)
  case atStart=>exact⟨0,rfl,Nat.zero_le _,Qq Qz⟩
  case round =>
   obtain⟨k,rfl,hk,HREL⟩:=hrel;have XR:=Qq (X7.out.trans HREL.out);obtain⟨e0,e1,e2,el⟩:=Zd ((HREL.out.block (Qf B1.out)).trans B1.out);by_cases hlt:k < bd
   ·have hk1:(k:Int) < (bd:Int):=by omega
    by_cases hle:n<=((n1 - 1:Nat):Int)
    ·obtain⟨cz,hcz⟩:∃z,z=cmN lg f md (k:Int):=⟨_,rfl⟩;have HCZ:=Qq hcz;have hne:(cz==0)=false:=by rw [beq_eq_false_iff_ne,hcz];exact HKEY.out hle k
     clear hcz;go_wp2_with fail;refine(Ys lg _ _ f md (k:Int) _ (HT.out.ext XR.out) (HF.out.ext XR.out) (HM.out.ext XR.out) HOK.out).mono ?_;rintro e w8 ⟨rfl,hx⟩;rw [<-HCZ.out];have X8:=Qq (HREL.out.trans hx);clear hx e0 e1 e2 el;go_wp2_with fail;go_roundw
     case rel=>exact⟨k+1,by go_num,by omega,Qq X8.out⟩
     case measure=>simp [intOf];omega
    go_wp2_with fail;go_roundw
    case rel=>exact⟨k+1,by go_num,by omega,Qq HREL.out⟩
    case measure=>simp [intOf];omega
   obtain rfl:bd=k:=by omega
   clear e0 e1 e2 el;go_wp2_with fail;refine(Ja _ (HT.out.ext XR.out)).mono ?_;rintro e wt ⟨rfl,hxt⟩;have YT:=Qq (XR.out.trans hxt);clear hxt;go_wp2_with fail;go_ret;exact⟨rfl,YT.out⟩
 have hz0:(er==0)=false:=by rw [beq_eq_false_iff_ne];exact hz
 clear hz;by_cases h6:er=6
 case neg =>
  have h6f:(er !=6)=true:=by simpa using h6
  clear h6;go_wp2_with fail;refine(Ja _ (HT.out.ext X3.out)).mono ?_;rintro e wt ⟨rfl,hxt⟩;have YT:=Qq (X3.out.trans hxt);clear hxt;go_wp2_with fail;go_ret;exact⟨rfl,YT.out⟩
 subst h6;have HKEY:=Qq (show n<=(2:Int)->∀k:Nat,cmN lg f md (k:Int)≠0 from fun hle k h0=>by
  obtain⟨k0,_,hc⟩:=Kc.1 h0;have:=Qdx HS.out md k0 hc;have:=HN.out
  omega)
 clear c0 c1 c2 cl hz0;go_upto_region 12 with(fail);obtain⟨e0,e1,e2,el⟩:=Zd B1.out;have hmax:=hbd;go_upto_region 13 with(fail);clear e0 e1 e2 el hmax;go_wp2_with fail;go_loopw [65] (fun v wr=>∃k:Nat,v=.int .i64 (k:Int)/\k<=bd/\Hid (Ext w3 wr)) (fun v _=>bd - (intOf v).toNat)
 case atStart=>exact⟨0,rfl,Nat.zero_le _,Qq Qz⟩
 case round =>
  obtain⟨k,rfl,hk,HREL⟩:=hrel;have XR:=Qq (X3.out.trans HREL.out);obtain⟨e0,e1,e2,el⟩:=Zd ((HREL.out.block (Qf B1.out)).trans B1.out);by_cases hlt:k < bd
  ·have hk1:(k:Int) < (bd:Int):=by omega
   by_cases hle:n<=(2:Int)
   ·obtain⟨cz,hcz⟩:∃z,z=cmN lg f md (k:Int):=⟨_,rfl⟩;have HCZ:=Qq hcz;have hne:(cz==0)=false:=by rw [beq_eq_false_iff_ne,hcz];exact HKEY.out hle k
    clear hcz;go_wp2_with fail;refine(Ys lg _ _ f md (k:Int) _ (HT.out.ext XR.out) (HF.out.ext XR.out) (HM.out.ext XR.out) HOK.out).mono ?_;rintro e w8 ⟨rfl,hx⟩;rw [<-HCZ.out];have X8:=Qq (HREL.out.trans hx);clear hx e0 e1 e2 el;go_wp2_with fail;go_roundw
    case rel=>exact⟨k+1,by go_num,by omega,Qq X8.out⟩
    case measure=>simp [intOf];omega
   go_wp2_with fail;go_roundw
   case rel=>exact⟨k+1,by go_num,by omega,Qq HREL.out⟩
   case measure=>simp [intOf];omega
  obtain rfl:bd=k:=by omega
  clear e0 e1 e2 el;go_wp2_with fail;refine(Ja _ (HT.out.ext XR.out)).mono ?_;rintro e wt ⟨rfl,hxt⟩;have YT:=Qq (XR.out.trans hxt);clear hxt;go_wp2_with fail;go_ret;exact⟨rfl,YT.out⟩
open Go.ChangeShapes Go.WideShapes Go.ChangeAt Go.Joins
theorem Ss {H:Type} {enc:TypeId×Value->H} {w:World} {spare:Nat->Bool} {held:Bool} {v:Value} {d:DataW H} {p:List MemPlace}(h:DataW.Trod enc Tryz.prog w 0 spare held 22 v d p)(hv:∃a len cap,v=.slice a len cap):∃l,Fml w v l:=by
 obtain⟨a,len,cap,rfl⟩:=hv;obtain⟨fuel,hf⟩:=h;exact Lz hf
theorem Fw:laidOutB Tryz.prog=true:=by kernel_rfl
theorem own:ownKnob Tryz.prog.godebug=none:=by kernel_rfl
theorem Nt(os:Os)(args:Array Value):laidMetH Tryz.prog [("math/bits.deBruijn64tab",Rows.laid_math_bits_deBruijn64tab)] ((World.doorLaid Tryz.prog 600 os).forCall (fun _ _=>0) ⟨#[],args,[]⟩).memory:=by
 rw [Go.MakeChecks.laidMetH_plain _ _ _ rfl];exact laidMet_of_run' 8 (by kernel_rfl) (by kernel_rfl)
theorem Mf(os:Os)(started:os.Started)(H:Type)(enc:TypeId×Value->H):
 ReturnsInHanded {} Tryz.checked os 9 .any (fun w args=>(Rows.countermodelFewestSpec.pre enc Tryz.prog Tryz.f9 [] false w args/\laidMetH Tryz.prog [("math/bits.deBruijn64tab",Rows.laid_math_bits_deBruijn64tab)] w)/\sizedMet enc Tryz.prog Tryz.f9 (OpenSpec.ofChange Rows.countermodelFewestSpec) false w args)
  (Rows.countermodelFewestSpec.post enc Tryz.prog Tryz.f9 false true false false):=by
 refine returnsInHanded_of_change_and (C:=Tryz.checked) (X:=fun w _=>laidMetH Tryz.prog [("math/bits.deBruijn64tab",Rows.laid_math_bits_deBruijn64tab)] w) (fun _ _ _ hh h=>h.of_heap hh) own started (by kernel_rfl) Tryz.func9
  (ChangeSpec.witness_shaped (enc:=enc) (C:=Tryz.checked) (os:=os) (X:=fun w _=>laidMetH Tryz.prog [("math/bits.deBruijn64tab",Rows.laid_math_bits_deBruijn64tab)] w) false (World.doorLaid Tryz.prog 600 os) #[.int .i64 0,.slice none 0 0,.agg #[.int .i64 0,.slice none 0 0,.slice none 0 0]] 8 rfl (World.shaped_of_RefB (by kernel_rfl) (by kernel_rfl)) (by kernel_rfl) (by kernel_rfl) (by kernel_rfl) (Nt os _)) ?_
 intro W base args ds gs before hval0 hW _ _ hL _;have hval:∀(j:Nat) t v,Tryz.f9.params[j]?=some t->args[j]?=some v->Value.okWide Tryz.prog W .any base t v:=hval0;have hTAB:=Sp hL;have hW':=hW;obtain⟨p,q,hA0,hV,rfl,hfz,hnd⟩:=hW;have hA:DataW.TrodAll enc Tryz.prog W 0 (fun _=>true) true Tryz.f9.params.toList args.toList ds p:=hA0;rw [Tryz.params9]at hA hval;obtain⟨v0,vs0,d0,ds0,p0,q0,hargs,rfl,rfl,h0,r0⟩:=trodAll_cons hA;obtain⟨v1,vs1,d1,ds1,p1,q1,rfl,rfl,rfl,h1,r1⟩:=trodAll_cons r0;obtain⟨v2,vs2,d2,ds2,p2,q2,rfl,rfl,rfl,h2,r2⟩:=trodAll_cons r1;obtain⟨rfl,rfl,rfl⟩:=trodAll_nil r2;obtain rfl:args=#[v0,v1,v2]:=by cases args;simp_all
 obtain⟨rfl,rfl⟩:=trodVars_none hV;obtain⟨z0,rfl,rfl,rfl,wz0⟩:=open_int Tryz.underlying3 (hval 0 3 v0 rfl rfl) h0;obtain⟨f1,hf1⟩:=Ss h1 (okWide_slice Tryz.underlying22 (hval 1 22 v1 rfl rfl));obtain⟨md2,hm2,mo2⟩:=Qk9 (hval 2 26 v2 rfl rfl) h2;simp only [List.append_nil]at hW';clear hA0 hval0;refine(Qfx (lg:=z0) hf1 hm2 mo2 hTAB).mono ?_;rintro e W' ⟨rfl,hx⟩;have hlt:∀x∈p1++p2,x.block < W.heap.size:=fun x hx'=>hW'.lt x hx'
 refine⟨_,rfl,Nr (pa:=p1++p2) (pv:= []) hW' (fun _ _ _=>trodAll_mk1 (shut_bool Tryz.underlying4 _)) (fun sp hsp=> ?_) (fun _ _=>rfl) (by simp) hx (ok_one (by kernel_rfl) rfl (okWide_bool_mk Tryz.underlying4 _))⟩;have ht:=(trodAll_cons_mk (shut_int Tryz.underlying3 wz0) (trodAll_cons_mk (WideElems.Trod_stays Fw (by kernel_rfl) (of_decide_eq_true (by kernel_rfl)) h1 (fun x hx'=>hx.same (hlt x (by simp [hx']))) (fun x hx'=>hsp x (by simp [hx']))) (trodAll_cons_mk (WideElems.Trod_stays Fw (by kernel_rfl) (of_decide_eq_true (by kernel_rfl)) h2 (fun x hx'=>hx.same (hlt x (by simp [hx']))) (fun x hx'=>hsp x (by simp [hx']))) trodAll_mk0)))
 simp only [List.append_nil,List.nil_append]at ht;exact ht
theorem Cy:Rows.CountermodelFewestSaid :=
 OpenClaim.holds_of_wide 9 Tryz.f9 rfl rfl rfl rfl rfl rfl rfl ⟨rfl,rfl,rfl,rfl,rfl⟩ rfl rfl rfl rfl rfl (by kernel_rfl) Tryz.func9 (by kernel_rfl)
  (of_decide_eq_true (by kernel_rfl)) (by unfold Func.isWrapper;first|(rw [if_pos (by decide+kernel)];kernel_rfl)|(rw [if_neg (by decide+kernel)];exact⟨rfl,rfl⟩))
  (fun os started H enc _=>Mf os started H enc)
theorem Pb(f:FuncId)(fn:Func)(hf:Tryz.pinned.checked.prog.funcNamed "witting/wittinglaw48.CountermodelFewest" =some f)(hfn:Tryz.pinned.checked.prog.funcs[f]?=some fn):
 false=Tryz.pinned.checked.prog.looks []/\∀(j:Nat) t,fn.params[j]?=some t->Tryz.pinned.checked.prog.wantsStandIn t=false:=by
 obtain rfl:f=9:=Option.some.inj ((show Tryz.prog.funcNamed "witting/wittinglaw48.CountermodelFewest" =some 9 by kernel_rfl).symm.trans hf)|>.symm;obtain rfl:fn=Tryz.f9:=(Option.some.inj (Tryz.func9.symm.trans hfn)).symm;refine⟨by kernel_rfl,fun j t ht=> ?_⟩;rw [Tryz.params9]at ht;have hm:t∈ #[(3:TypeId),(22:TypeId),(26:TypeId)]:=Array.mem_of_getElem? ht;simp only [List.mem_toArray,List.mem_cons,List.not_mem_nil,or_false]at hm;rcases hm with rfl|rfl|rfl
 ·exact(show Tryz.prog.wantsStandIn 3=false by kernel_rfl)
 ·exact(show Tryz.prog.wantsStandIn 22=false by kernel_rfl)
 exact(show Tryz.prog.wantsStandIn 26=false by kernel_rfl)
theorem countermodelFewest_card:Rows.CountermodelFewestCardSaid :=
 Claim7.holds_tied_plain_at .later [] _ _ _ _ Cy (fun _ h=>by cases h) (by kernel_rfl) (fun _ h=>by cases h) countermodelFewest_row_tie rfl ⟨rfl,rfl⟩ (by kernel_rfl) rfl Pb (by kernel_rfl)
end Go.Proofs.YtkmclcmnoicagaaGreatDoor
