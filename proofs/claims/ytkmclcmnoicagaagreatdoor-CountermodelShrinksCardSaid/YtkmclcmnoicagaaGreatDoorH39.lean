/- The law CountermodelShrinks. -/
import Derived.Test.YtkmclcmnoicagaaGreatDoorH38
import Derived.Test.YtkmclcmnoicagaaGreatDoorH08
namespace Go.Proofs.YtkmclcmnoicagaaGreatDoor
set_option maxRecDepth 100000
set_option maxHeartbeats 128000000
open Go.RowKit
theorem Qak {lg:Int} {f:List Nd} {md a b:Md} {wd:Int} {i j:Nat}(h1:Ii lg f md wd a i)(h2:Ii lg f md wd b j):a=b/\i=j:=by
 rcases h1 with⟨e1,rfl,rfl⟩|⟨e1,k,o,rfl,g1,s1⟩ <;> rcases h2 with⟨e2,rfl,rfl⟩|⟨e2,m,p,hm,g2,s2⟩
 ·exact⟨rfl,rfl⟩
 ·exact absurd e2 e1
 ·exact absurd e1 e2
 obtain rfl:k=m:=by omega
 obtain rfl:=g1.uniq g2;exact s1.uniq s2
theorem Qb1 {w:World} {lg:Int} {vf n0 n1 n2:Value} {f:List Nd} {md:Md} {wd:Int}(hf:Yq w vf f)(hm:Jk w (.agg #[n0,n1,n2]) md)(zP:md.ok)(hT:Kb w):
 Calls Tryz.prog 5 #[.int .i64 lg,.agg #[vf,n0,n1,n2,.int .i64 wd]] w fun e w'=>e=.returned (.bool true)/\Qg w w':=by
 have HF:=Qq hf;have zE:=Qq zP;have HT:=Qq hT;obtain⟨Af,cf,rfl,_⟩:=Qc hf;obtain⟨Av,lv,cv,Ar,lr,cr,rfl,rfl,rfl⟩:=Qft hm;obtain⟨n,hn⟩:∃z,z=md.n:=⟨_,rfl⟩;rw [<-hn]at hm⊢;have HM:=Qq hm;obtain⟨W0,zK⟩:∃z,z=w.alloc (.cells #[.slice Af f.length cf,.int .i64 n,.slice Av lv cv,.slice Ar lr cr,.int .i64 wd] 50):=⟨_,rfl⟩;obtain⟨b,hb⟩:∃z,z=w.heap.size:=⟨_,rfl⟩;have X0:=Qq (show Qg w W0 by rw [zK];exact Qz.alloc _);have B0:=Qq (show W0.heap[b]?=some (.cells #[.slice Af f.length cf,.int .i64 n,.slice Av lv cv,.slice Ar lr cr,.int .i64 wd] 50 (0,0)) by rw [zK,hb];exact heap_alloc_new _ _)
 clear hf hm zP hT hn;obtain⟨e0,e1,e2,e3,e4,el⟩:=Qyd B0.out;obtain⟨er,uK⟩:∃z,z=Xm lg f md wd:=⟨_,rfl⟩;have wK:=Qq uK;clear uK;go_enter Tryz.func5,Tryz.ntmps5;go_upto_region 1 with(fail);rw [<-zK,<-hb];clear zK hb;go_wp2_with fail;refine(Qsx (HM.out.ext X0.out)).mono ?_;rintro e w1 ⟨fb,rfl,hx⟩;have X1:=Qq (X0.out.trans hx);have B1:=Qq ((hx.block (Qn B0.out)).trans B0.out);clear hx e0 e1 e2 e3 e4 el;cases fb
 ·skip
  go_wp2_with fail;refine(Ol _ (HT.out.ext X1.out)).mono ?_;rintro e wt ⟨rfl,VZ⟩;have YT:=Qq (X1.out.trans VZ);clear VZ;go_wp2_with fail;go_ret;exact⟨rfl,YT.out⟩
 obtain⟨e0,e1,e2,e3,e4,el⟩:=Qyd B1.out;by_cases h8:8 < n
 ·skip
  go_wp2_with fail;refine(Ol _ (HT.out.ext X1.out)).mono ?_;rintro e wt ⟨rfl,VZ⟩;have YT:=Qq (X1.out.trans VZ);clear VZ;go_wp2_with fail;go_ret;exact⟨rfl,YT.out⟩
 go_wp2_with fail;refine(Hc lg _ _ f md wd _ (HT.out.ext X1.out) (HF.out.ext X1.out) (HM.out.ext X1.out) zE.out).mono ?_;rintro e w2 ⟨u2,md2,k2,rfl,hs,hx,xQ⟩;rw [<-wK.out];have HS:=Qq hs;have zT:=Qq hx;have VK:=Qq xQ;obtain⟨m2,Bv,bl,bc,Br,rl,rc,rfl⟩:=Fe xQ.here;clear hs hx xQ e0 e1 e2 e3 e4 el;obtain⟨w3,iH⟩:∃z,z=w2.alloc (.cells #[.int .i64 m2,.slice Bv bl bc,.slice Br rl rc] 26):=⟨_,rfl⟩;obtain⟨b3,vH⟩:∃z,z=w2.heap.size:=⟨_,rfl⟩;have E3:=Qq (show Qg w2 w3 by rw [iH];exact Qz.alloc _);have B3:=Qq (show w3.heap[b3]?=some (.cells #[.int .i64 m2,.slice Bv bl bc,.slice Br rl rc] 26 (0,0)) by rw [iH,vH];exact heap_alloc_new _ _)
 go_upto_region 4 with(fail);rw [<-iH,<-vH];clear iH vH;have X3:=Qq (X1.out.trans (zT.out.trans E3.out));have C3:=Qq (((zT.out.trans E3.out).block (Qn B1.out)).trans B1.out);have M3:=Qq (VK.out.here.ext E3.out);obtain⟨e0,e1,e2,e3,e4,el⟩:=Qyd C3.out;go_wp2_with fail;refine(Qni lg _ _ f md wd _ (HF.out.ext X3.out) (HM.out.ext X3.out) zE.out).mono ?_;rintro e w4 ⟨u4,md4,k4,rfl,hs,hx,xQ⟩;rw [<-wK.out];obtain⟨rfl,rfl⟩:=Qak HS.out hs;have yP:=Qq hx;have eT:=Qq xQ;obtain⟨m4,Cv,cl1,cc,Cr,dl,dc,rfl⟩:=Fe xQ.here;clear hs hx xQ e0 e1 e2 e3 e4 el;obtain⟨w5,qS⟩:∃z,z=w4.alloc (.cells #[.int .i64 m4,.slice Cv cl1 cc,.slice Cr dl dc] 26):=⟨_,rfl⟩
 obtain⟨b5,fQ⟩:∃z,z=w4.heap.size:=⟨_,rfl⟩;have E5:=Qq (show Qg w4 w5 by rw [qS];exact Qz.alloc _);have B5:=Qq (show w5.heap[b5]?=some (.cells #[.int .i64 m4,.slice Cv cl1 cc,.slice Cr dl dc] 26 (0,0)) by rw [qS,fQ];exact heap_alloc_new _ _);go_upto_region 5 with(fail);rw [<-qS,<-fQ];clear qS fQ;have X5:=Qq (X3.out.trans (yP.out.trans E5.out));have B3:=Qq (((yP.out.trans E5.out).block (Qn B3.out)).trans B3.out);have M3:=Qq (M3.out.ext (yP.out.trans E5.out));have M5:=Qq (eT.out.here.ext E5.out);obtain⟨c0,c1,c2,cl⟩:=Zy B3.out;obtain⟨d0,d1,d2,dl2⟩:=Zy B5.out;have hkk:((k2:Int)==(k2:Int))=true:=by simp
 have hee:(er==er)=true:=by simp
 go_wp2_with fail;refine(Bf _ _ _ _ _ M3.out M5.out).mono ?_;rintro e w6 ⟨rfl,hx⟩;rw [Df.2 rfl];have X6:=Qq (X5.out.trans hx);clear hx c0 c1 c2 cl d0 d1 d2 dl2;go_wp2_with fail;refine(Ol _ (HT.out.ext X6.out)).mono ?_;rintro e wt ⟨rfl,VZ⟩;have YT:=Qq (X6.out.trans VZ);clear VZ;go_wp2_with fail;go_ret;exact⟨rfl,YT.out⟩
open Go.ChangeShapes Go.WideShapes Go.ChangeAt Go.Joins
theorem Qwk:laidOutB Tryz.prog=true:=by kernel_rfl
abbrev LM:=laidMetH Tryz.prog [("math/bits.deBruijn64tab",Rows.laid_math_bits_deBruijn64tab)]
theorem own:ownKnob Tryz.prog.godebug=none:=by kernel_rfl
theorem Qex(os:Os)(args:Array Value):laidMetH Tryz.prog [("math/bits.deBruijn64tab",Rows.laid_math_bits_deBruijn64tab)] ((World.doorLaid Tryz.prog 600 os).forCall (fun _ _=>0) ⟨#[],args,[]⟩).memory:=by
 rw [Go.MakeChecks.laidMetH_plain _ _ _ rfl];exact laidMet_of_run' 8 (by kernel_rfl) (by kernel_rfl)
theorem Cc(os:Os)(started:os.Started)(H:Type)(enc:TypeId×Value->H):
 ReturnsInHanded {} Tryz.checked os 5 .any (fun w args=>(Rows.countermodelShrinksSpec.pre enc Tryz.prog Tryz.f5 [] false w args/\LM w)/\sizedMet enc Tryz.prog Tryz.f5 (OpenSpec.ofChange Rows.countermodelShrinksSpec) false w args)
  (Rows.countermodelShrinksSpec.post enc Tryz.prog Tryz.f5 false true false false):=by
 refine returnsInHanded_of_change_and (C:=Tryz.checked) (X:=fun w _=>LM w) (fun _ _ _ hh h=>h.of_heap hh) own started (by kernel_rfl) Tryz.func5
  (ChangeSpec.witness_shaped (enc:=enc) (C:=Tryz.checked) (os:=os) (X:=fun w _=>LM w) false (World.doorLaid Tryz.prog 600 os) #[.int .i64 0,.agg #[.slice none 0 0,.int .i64 0,.slice none 0 0,.slice none 0 0,.int .i64 0]] 8 rfl (World.shaped_of_RefB (by kernel_rfl) (by kernel_rfl)) (by kernel_rfl) (by kernel_rfl) (by kernel_rfl) (Qex os _)) ?_
 intro W base args ds gs before WF hW _ _ hL _;have uJ:∀(j:Nat) t v,Tryz.f5.params[j]?=some t->args[j]?=some v->Value.okWide Tryz.prog W .any base t v:=WF;have DJ:=Qrv hL;have dS:=hW;obtain⟨p,q,R3,hV,rfl,xQ,fM⟩:=hW;have hA:DataW.TrodAll enc Tryz.prog W 0 (fun _=>true) true Tryz.f5.params.toList args.toList ds p:=R3;rw [Tryz.params5]at hA uJ;obtain⟨v0,vs0,d0,ds0,p0,q0,dN,rfl,rfl,h0,r0⟩:=trodAll_cons hA;obtain⟨v1,vs1,d1,ds1,p1,q1,rfl,rfl,rfl,h1,r1⟩:=trodAll_cons r0;obtain⟨rfl,rfl,rfl⟩:=trodAll_nil r1;obtain rfl:args=#[v0,v1]:=by cases args;simp_all
 obtain⟨rfl,rfl⟩:=trodVars_none hV;obtain⟨z0,rfl,rfl,rfl,wz0⟩:=open_int Tryz.underlying3 (uJ 0 3 v0 rfl rfl) h0;obtain⟨u1,f1,n1a,n1b,n1c,md1,wd1,rfl,mW,uS,mo1,wo1⟩:=Qrp (uJ 1 50 v1 rfl rfl) h1;simp only [List.append_nil]at dS;clear R3 WF;refine(Qb1 (lg:=z0) mW uS mo1 DJ).mono ?_;rintro e W' ⟨rfl,hx⟩;have zJ:∀x∈p1,x.block < W.heap.size:=fun x JX=>dS.lt x JX
 refine⟨_,rfl,Qbi (pa:=p1) (pv:= []) dS (fun _ _ _=>trodAll_mk1 (shut_bool Tryz.underlying4 _)) (fun sp KG=> ?_) (fun _ _=>rfl) (by simp) hx (ok_one (by kernel_rfl) rfl (okWide_bool_mk Tryz.underlying4 _))⟩;have ht:=(trodAll_cons_mk (shut_int Tryz.underlying3 wz0) (trodAll_cons_mk (WideElems.Trod_stays Qwk (by kernel_rfl) (of_decide_eq_true (by kernel_rfl)) h1 (fun x JX=>hx.same (zJ x JX)) (fun x JX=>KG x JX)) trodAll_mk0));simp only [List.append_nil,List.nil_append]at ht;exact ht
theorem Ef:Rows.CountermodelShrinksSaid :=
 OpenClaim.holds_of_wide 5 Tryz.f5 rfl rfl rfl rfl rfl rfl rfl ⟨rfl,rfl,rfl,rfl,rfl⟩ rfl rfl rfl rfl rfl (by kernel_rfl) Tryz.func5 (by kernel_rfl)
  (of_decide_eq_true (by kernel_rfl)) (by unfold Func.isWrapper;first|(rw [if_pos (by decide+kernel)];kernel_rfl)|(rw [if_neg (by decide+kernel)];exact⟨rfl,rfl⟩))
  (fun os started H enc _=>Cc os started H enc)
theorem Hx(f:FuncId)(fn:Func)(hf:Tryz.pinned.checked.prog.funcNamed "witting/wittinglaw48.CountermodelShrinks" =some f)(CJ:Tryz.pinned.checked.prog.funcs[f]?=some fn):
 false=Tryz.pinned.checked.prog.looks []/\∀(j:Nat) t,fn.params[j]?=some t->Tryz.pinned.checked.prog.wantsStandIn t=false:=by
 obtain rfl:f=5:=Option.some.inj ((show Tryz.prog.funcNamed "witting/wittinglaw48.CountermodelShrinks" =some 5 by kernel_rfl).symm.trans hf)|>.symm;obtain rfl:fn=Tryz.f5:=(Option.some.inj (Tryz.func5.symm.trans CJ)).symm;refine⟨by kernel_rfl,fun j t ht=> ?_⟩;rw [Tryz.params5]at ht;have hm:t∈ #[(3:TypeId),(50:TypeId)]:=Array.mem_of_getElem? ht;simp only [List.mem_toArray,List.mem_cons,List.not_mem_nil,or_false]at hm;rcases hm with rfl|rfl
 ·exact(show Tryz.prog.wantsStandIn 3=false by kernel_rfl)
 exact(show Tryz.prog.wantsStandIn 50=false by kernel_rfl)
theorem countermodelShrinks_card:Rows.CountermodelShrinksCardSaid :=
 Claim7.holds_tied_plain_at .later [] _ _ _ _ Ef (fun _ h=>by cases h) (by kernel_rfl) (fun _ h=>by cases h) countermodelShrinks_row_tie rfl ⟨rfl,rfl⟩ (by kernel_rfl) rfl Hx (by kernel_rfl)
end Go.Proofs.YtkmclcmnoicagaaGreatDoor
