/- The law CountermodelLeast. -/
import Derived.Test.YtkmclcmnoicagaaGreatDoorL36
import Derived.Test.YtkmclcmnoicagaaGreatDoorL08
namespace Go.Proofs.YtkmclcmnoicagaaGreatDoor
set_option maxRecDepth 100000
set_option maxHeartbeats 128000000
open Go.RowKit
theorem Qec {lg:Int} {f:List Nd} {most:Int} {a b:Md} {x y:Int}(h1:Fr lg f most a x)(h2:Fr lg f most b y):a=b/\x=y:=by
 have key:∀{n k:Nat},1<=n->n<=most.toNat->k < 2^Zh n (Fw f) (Fo f)->Uh lg f (Uy n (Fw f) (Fo f) k) 0=0->¬Dn lg f (most.toNat+1) 0:=fun h1 h2 h3 h4 h=>h.1 _ _ h1 (by omega) h3 h4
 rcases h1 with⟨n1,rfl,h1⟩|⟨rfl,a1,a2,a3,a4,a5,n,k,a6,a7,a8,rfl,a9,a10⟩ <;> rcases h2 with⟨n2,rfl,h2⟩|⟨rfl,b1,b2,b3,b4,b5,m,j,b6,b7,b8,rfl,b9,b10⟩
 ·refine⟨rfl,?_⟩;rcases h1 with⟨c1,rfl⟩|⟨c1,⟨c2,rfl⟩|⟨c2,⟨c3,rfl⟩|⟨c3,⟨c4,rfl⟩|⟨c4,⟨c5,rfl⟩|⟨c5,rfl,_⟩⟩⟩⟩⟩ <;>
  rcases h2 with⟨d1,rfl⟩|⟨d1,⟨d2,rfl⟩|⟨d2,⟨d3,rfl⟩|⟨d3,⟨d4,rfl⟩|⟨d4,⟨d5,rfl⟩|⟨d5,rfl,_⟩⟩⟩⟩⟩ <;>
  first|rfl|(exfalso;omega)|(exact absurd (by assumption) (by assumption))|(rw [c3]at d3;cases d3)
 ·exfalso
  rcases h1 with⟨c1,rfl⟩|⟨c1,⟨c2,rfl⟩|⟨c2,⟨c3,rfl⟩|⟨c3,⟨c4,rfl⟩|⟨c4,⟨c5,rfl⟩|⟨c5,rfl,c6⟩⟩⟩⟩⟩
  ·omega
  ·exact c2 b2
  ·rw [b3]at c3;cases c3
  ·omega
  ·omega
  exact key b6 b7 b8 b9 c6
 ·exfalso
  rcases h2 with⟨c1,rfl⟩|⟨c1,⟨c2,rfl⟩|⟨c2,⟨c3,rfl⟩|⟨c3,⟨c4,rfl⟩|⟨c4,⟨c5,rfl⟩|⟨c5,rfl,c6⟩⟩⟩⟩⟩
  ·omega
  ·exact c2 a2
  ·rw [a3]at c3;cases c3
  ·omega
  ·omega
  exact key a6 a7 a8 a9 c6
 have hn:n=m:=by
  rcases Nat.lt_trichotomy n m with h|h|h
  ·exact absurd a9 (b10.1 n k a6 h a8)
  ·exact h
  exact absurd b9 (a10.1 m j b6 h b8)
 subst hn;have hk:k=j:=by
  rcases Nat.lt_trichotomy k j with h|h|h
  ·exact absurd a9 (b10.2 k h)
  ·exact h
  exact absurd b9 (a10.2 j h)
 subst hk;exact⟨rfl,rfl⟩
theorem Qrn {w:World} {lg most:Int} {vf:Value} {f:List Nd}(hf:Jo w vf f)(hT:Kk w):
 Calls Tryz.prog 6 #[.int .i64 lg,vf,.int .i64 most] w fun e w'=>e=.returned (.bool true)/\Qg w w':=by
 have HF:=Qq hf;have HT:=Qq hT;obtain⟨Af,cf,rfl,_⟩:=Qc hf;have X0:=Qq (Qg.refl w);clear hf hT;go_enter Tryz.func6,Tryz.ntmps6;by_cases h24:24 < f.length
 ·have q:(24:Int) < (f.length:Int):=by omega
  clear h24;go_wp2_with fail;refine(Qye _ (HT.out.ext X0.out)).mono ?_;rintro e wt ⟨rfl,LG⟩;have YT:=Qq (X0.out.trans LG);clear LG;go_wp2_with fail;go_ret;exact⟨rfl,YT.out⟩
 have q:¬(24:Int) < (f.length:Int):=by omega
 clear h24;go_wp2_with fail;refine(Qjj lg _ f most _ HT.out HF.out).mono ?_;rintro e w2 ⟨u2,md2,er,rfl,hs,hx,wX⟩;have HS:=Qq hs;have zS:=Qq hx;have XA:=Qq wX;obtain⟨m2,Bv,bl,bc,Br,rl,rc,rfl⟩:=Nt wX.here;clear hs hx wX;obtain⟨w3,jB⟩:∃z,z=w2.alloc (.cells #[.int .i64 m2,.slice Bv bl bc,.slice Br rl rc] 26):=⟨_,rfl⟩;obtain⟨b3,vR⟩:∃z,z=w2.heap.size:=⟨_,rfl⟩;have E3:=Qq (show Qg w2 w3 by rw [jB];exact Qz.alloc _);have B3:=Qq (show w3.heap[b3]?=some (.cells #[.int .i64 m2,.slice Bv bl bc,.slice Br rl rc] 26 (0,0)) by rw [jB,vR];exact heap_alloc_new _ _);go_upto_region 4 with(fail)
 rw [<-jB,<-vR];clear jB vR;have X3:=Qq (zS.out.trans E3.out);have M3:=Qq (XA.out.here.ext E3.out);go_wp2_with fail;refine(Qri lg _ f most _ (HF.out.ext X3.out)).mono ?_;rintro e w4 ⟨u4,md4,er4,rfl,hs,hx,wX⟩;obtain⟨rfl,rfl⟩:=Qec HS.out hs;have yN:=Qq hx;have cV:=Qq wX;obtain⟨m4,Cv,cl1,cc,Cr,dl,dc,rfl⟩:=Nt wX.here;clear hs hx wX;obtain⟨w5,sT⟩:∃z,z=w4.alloc (.cells #[.int .i64 m4,.slice Cv cl1 cc,.slice Cr dl dc] 26):=⟨_,rfl⟩;obtain⟨b5,gO⟩:∃z,z=w4.heap.size:=⟨_,rfl⟩;have E5:=Qq (show Qg w4 w5 by rw [sT];exact Qz.alloc _);have B5:=Qq (show w5.heap[b5]?=some (.cells #[.int .i64 m4,.slice Cv cl1 cc,.slice Cr dl dc] 26 (0,0)) by rw [sT,gO];exact heap_alloc_new _ _)
 go_upto_region 5 with(fail);rw [<-sT,<-gO];clear sT gO;have X5:=Qq (X3.out.trans (yN.out.trans E5.out));have B3:=Qq (((yN.out.trans E5.out).block (Qn B3.out)).trans B3.out);have M3:=Qq (M3.out.ext (yN.out.trans E5.out));have M5:=Qq (cV.out.here.ext E5.out);obtain⟨c0,c1,c2,cl⟩:=Zs B3.out;obtain⟨d0,d1,d2,dl2⟩:=Zs B5.out;have hee:(er==er)=true:=by simp
 go_wp2_with fail;refine(Bj _ _ _ _ _ M3.out M5.out).mono ?_;rintro e w6 ⟨rfl,hx⟩;rw [Dx.2 rfl];have X6:=Qq (X5.out.trans hx);clear hx c0 c1 c2 cl d0 d1 d2 dl2;go_wp2_with fail;refine(Qye _ (HT.out.ext X6.out)).mono ?_;rintro e wt ⟨rfl,LG⟩;have YT:=Qq (X6.out.trans LG);clear LG;go_wp2_with fail;go_ret;exact⟨rfl,YT.out⟩
open Go.ChangeShapes Go.WideShapes Go.ChangeAt Go.Joins
theorem Qlg {H:Type} {enc:TypeId×Value->H} {w:World} {spare:Nat->Bool} {held:Bool} {v:Value} {d:DataW H} {p:List MemPlace}(h:DataW.Trod enc Tryz.prog w 0 spare held 22 v d p)(hv:∃a len cap,v=.slice a len cap):∃l,Jo w v l:=by
 obtain⟨a,len,cap,rfl⟩:=hv;obtain⟨fuel,hf⟩:=h;exact Qrx hf
theorem Qel:laidOutB Tryz.prog=true:=by kernel_rfl
theorem own:ownKnob Tryz.prog.godebug=none:=by kernel_rfl
theorem Qac(os:Os)(args:Array Value):laidMetH Tryz.prog [("math/bits.deBruijn64tab",Rows.laid_math_bits_deBruijn64tab)] ((World.doorLaid Tryz.prog 600 os).forCall (fun _ _=>0) ⟨#[],args,[]⟩).memory:=by
 rw [Go.MakeChecks.laidMetH_plain _ _ _ rfl];exact laidMet_of_run' 8 (by kernel_rfl) (by kernel_rfl)
theorem Hi(os:Os)(started:os.Started)(H:Type)(enc:TypeId×Value->H):
 ReturnsInHanded {} Tryz.checked os 6 .any (fun w args=>(Rows.countermodelLeastSpec.pre enc Tryz.prog Tryz.f6 [] false w args/\laidMetH Tryz.prog [("math/bits.deBruijn64tab",Rows.laid_math_bits_deBruijn64tab)] w)/\sizedMet enc Tryz.prog Tryz.f6 (OpenSpec.ofChange Rows.countermodelLeastSpec) false w args)
  (Rows.countermodelLeastSpec.post enc Tryz.prog Tryz.f6 false true false false):=by
 refine returnsInHanded_of_change_and (C:=Tryz.checked) (X:=fun w _=>laidMetH Tryz.prog [("math/bits.deBruijn64tab",Rows.laid_math_bits_deBruijn64tab)] w) (fun _ _ _ hh h=>h.of_heap hh) own started (by kernel_rfl) Tryz.func6
  (ChangeSpec.witness_shaped (enc:=enc) (C:=Tryz.checked) (os:=os) (X:=fun w _=>laidMetH Tryz.prog [("math/bits.deBruijn64tab",Rows.laid_math_bits_deBruijn64tab)] w) false (World.doorLaid Tryz.prog 600 os) #[.int .i64 0,.slice none 0 0,.int .i64 0] 8 rfl (World.shaped_of_RefB (by kernel_rfl) (by kernel_rfl)) (by kernel_rfl) (by kernel_rfl) (by kernel_rfl) (Qac os _)) ?_
 intro W base args ds gs before XQ hW _ _ hL _;have sM:∀(j:Nat) t v,Tryz.f6.params[j]?=some t->args[j]?=some v->Value.okWide Tryz.prog W .any base t v:=XQ;have ER:=Qno hL;have eR:=hW;obtain⟨p,q,V0,hV,rfl,wX,gJ⟩:=hW;have hA:DataW.TrodAll enc Tryz.prog W 0 (fun _=>true) true Tryz.f6.params.toList args.toList ds p:=V0;rw [Tryz.params6]at hA sM;obtain⟨v0,vs0,d0,ds0,p0,q0,eO,rfl,rfl,h0,r0⟩:=trodAll_cons hA;obtain⟨v1,vs1,d1,ds1,p1,q1,rfl,rfl,rfl,h1,r1⟩:=trodAll_cons r0;obtain⟨v2,vs2,d2,ds2,p2,q2,rfl,rfl,rfl,h2,r2⟩:=trodAll_cons r1;obtain⟨rfl,rfl,rfl⟩:=trodAll_nil r2;obtain rfl:args=#[v0,v1,v2]:=by cases args;simp_all
 obtain⟨rfl,rfl⟩:=trodVars_none hV;obtain⟨z0,rfl,rfl,rfl,wz0⟩:=open_int Tryz.underlying3 (sM 0 3 v0 rfl rfl) h0;obtain⟨f1,nL⟩:=Qlg h1 (okWide_slice Tryz.underlying22 (sM 1 22 v1 rfl rfl));obtain⟨z2,rfl,rfl,rfl,wz2⟩:=open_int Tryz.underlying3 (sM 2 3 v2 rfl rfl) h2;simp only [List.append_nil]at eR;clear V0 XQ;refine(Qrn (lg:=z0) nL ER).mono ?_;rintro e W' ⟨rfl,hx⟩;have zI:∀x∈p1,x.block < W.heap.size:=fun x LJ=>eR.lt x LJ
 refine⟨_,rfl,Qbf (pa:=p1) (pv:= []) eR (fun _ _ _=>trodAll_mk1 (shut_bool Tryz.underlying4 _)) (fun sp LP=> ?_) (fun _ _=>rfl) (by simp) hx (ok_one (by kernel_rfl) rfl (okWide_bool_mk Tryz.underlying4 _))⟩;have ht:=(trodAll_cons_mk (shut_int Tryz.underlying3 wz0) (trodAll_cons_mk (WideElems.Trod_stays Qel (by kernel_rfl) (of_decide_eq_true (by kernel_rfl)) h1 (fun x LJ=>hx.same (zI x LJ)) (fun x LJ=>LP x LJ)) (trodAll_cons_mk (shut_int Tryz.underlying3 wz2) trodAll_mk0)));simp only [List.append_nil,List.nil_append]at ht;exact ht
theorem Oy:Rows.CountermodelLeastSaid :=
 OpenClaim.holds_of_wide 6 Tryz.f6 rfl rfl rfl rfl rfl rfl rfl ⟨rfl,rfl,rfl,rfl,rfl⟩ rfl rfl rfl rfl rfl (by kernel_rfl) Tryz.func6 (by kernel_rfl)
  (of_decide_eq_true (by kernel_rfl)) (by unfold Func.isWrapper;first|(rw [if_pos (by decide+kernel)];kernel_rfl)|(rw [if_neg (by decide+kernel)];exact⟨rfl,rfl⟩))
  (fun os started H enc _=>Hi os started H enc)
theorem Ec(f:FuncId)(fn:Func)(hf:Tryz.pinned.checked.prog.funcNamed "witting/wittinglaw48.CountermodelLeast" =some f)(DQ:Tryz.pinned.checked.prog.funcs[f]?=some fn):
 false=Tryz.pinned.checked.prog.looks []/\∀(j:Nat) t,fn.params[j]?=some t->Tryz.pinned.checked.prog.wantsStandIn t=false:=by
 obtain rfl:f=6:=Option.some.inj ((show Tryz.prog.funcNamed "witting/wittinglaw48.CountermodelLeast" =some 6 by kernel_rfl).symm.trans hf)|>.symm;obtain rfl:fn=Tryz.f6:=(Option.some.inj (Tryz.func6.symm.trans DQ)).symm;refine⟨by kernel_rfl,fun j t ht=> ?_⟩;rw [Tryz.params6]at ht;have hm:t∈ #[(3:TypeId),(22:TypeId),(3:TypeId)]:=Array.mem_of_getElem? ht;simp only [List.mem_toArray,List.mem_cons,List.not_mem_nil,or_false]at hm;rcases hm with rfl|rfl|rfl
 ·exact(show Tryz.prog.wantsStandIn 3=false by kernel_rfl)
 ·exact(show Tryz.prog.wantsStandIn 22=false by kernel_rfl)
 exact(show Tryz.prog.wantsStandIn 3=false by kernel_rfl)
theorem countermodelLeast_card:Rows.CountermodelLeastCardSaid :=
 Claim7.holds_tied_plain_at .later [] _ _ _ _ Oy (fun _ h=>by cases h) (by kernel_rfl) (fun _ h=>by cases h) countermodelLeast_row_tie rfl ⟨rfl,rfl⟩ (by kernel_rfl) rfl Ec (by kernel_rfl)
end Go.Proofs.YtkmclcmnoicagaaGreatDoor
