/- What is proved by natural deduction holds at all worlds of a model of the logic. Plain. -/
import Derived.Test.YtmidgcldljfkcaaGreatDoorM01
import Derived.Test.YtmidgcldljfkcaaGreatDoorM23
import Derived.Test.YtmidgcldljfkcaaGreatDoorM47
import Derived.Test.YtmidgcldljfkcaaGreatDoorM29
import Derived.Test.YtmidgcldljfkcaaGreatDoorM48
import Derived.Test.YtmidgcldljfkcaaGreatDoorM50
import Derived.Test.YtmidgcldljfkcaaGreatDoorM34
import Derived.LaidMore
import Derived.SevenTiedAt
import Derived.Stop.Joined
import Derived.Below
namespace Go.Proofs.YtmidgcldljfkcaaGreatDoor
set_option maxRecDepth 100000
set_option maxHeartbeats 128000000
open Go.RowKit
structure Qw7 (M:KM) (ls:List Ln) (fs:List (List Nd)) (st:List (List Int)) (i:Nat):Prop where
 shp:Qa2 ls st i
 fl:fs.length=i
 sl:st.length=i
 ck:∀f∈fs,Qs f=0
 snd:∀k,k < i->∀v w,Qli M ls fs (st.getD k []) v w->M.sat (Qp (fs.getD k [])) w
 ag:∀k:Nat,k < i->0<=(Js ls k).agent/\(Js ls k).agent < 4
 eq:∀k:Nat,k < i->fs.getD k []=Qf (Js ls k).f
 frag:∀k:Nat,k < i->Qs (Js ls k).f=0/\Jh (Js ls k).f < 2
 top:∀k:Nat,k < i->(Js ls k).depth=0->st.getD k []= []
def Pj(md:Md)(f:List Nd):Bool:=(decide (Yh md f=0)&&(((Df md f:Nat):Int)==((Zo md.n.toNat:Nat):Int)))||(Yh md f !=0)
theorem Qnj {w:World} {vm v:Value} {md:Md} {f:List Nd}(hm:MdV w vm md)(hok:md.ok)(h:Fml w v f):
 Calls Tryz.prog 10 #[vm,v] w fun e w'=>e=.returned (.bool (Pj md f))/\Ext w w':=by
 have HM:=Qq hm;have HF:=Qq h;have HO:=Qq hok;obtain⟨vv,vr,rfl,⟨Av,cv,rfl,_⟩,⟨Ar,cr,rfl,_⟩⟩:=hm;obtain⟨A,c,rfl,_⟩:=Qg h;obtain⟨bv,hbv⟩:∃z,z=(decide (Yh md f=0)&&(((Df md f:Nat):Int)==((Zo md.n.toNat:Nat):Int))):=⟨_,rfl⟩;obtain⟨ev,hev⟩:∃z,z=Yh md f:=⟨_,rfl⟩;have HB:=Qq hbv;have HE:=Qq hev;have HR:=Qq (show Pj md f=(bv||(ev !=0)) by unfold Pj;rw [hbv,hev]);clear h hok hbv hev;go_enter Tryz.func10,Tryz.ntmps10;go_wp2_with fail;refine(Qj9 Qyq _ _ md f _ (HM.out.ext xw) HO.out (HF.out.ext xw)).mono ?_;rintro e w1 ⟨rfl,hx⟩;rw [<-HB.out,<-HE.out];have S1:=Qq (show Ext w w1 from xt hx)
 clear hx;cases bv
 ·cases h2:(ev !=0)
  ·have HN:=Qq (show Pj md f=false by rw [HR.out,h2];rfl);go_wp2_with fail;go_ret;exact⟨Qr HN.out.symm,S1.out⟩
  have HN:=Qq (show Pj md f=true by rw [HR.out,h2];rfl);go_wp2_with fail;go_ret;exact⟨Qr HN.out.symm,S1.out⟩
 have HN:=Qq (show Pj md f=true by rw [HR.out];rfl);go_wp2_with fail;go_ret;exact⟨Qr HN.out.symm,S1.out⟩
theorem Qts {md:Md} {lg:Int} {ls:List HLn}(hg:inG md lg=true)(h:Gy lg ls=0) {k:Nat}(hk:k < ls.length):Pj md (lnH ls k).f=true:=by
 obtain⟨_,hgm⟩:=Qt3 hg;unfold Pj;by_cases hc:Yh md (lnH ls k).f=0
 ·rw [Qma hgm h hk hc];simp [hc]
 rw [show(Yh md (lnH ls k).f !=0)=true by simpa using hc,Bool.or_true]
theorem Qdc {w:World} {lg:Int} {vl vm:Value} {ls:List HLn} {md:Md}(hl:HLs w vl ls)(hm:MdV w vm md)(hok:md.ok)(hT:Tab w)(hZ:Kx w)(hH:Pn w):
 Calls Tryz.prog 5 #[.int .i64 lg,vl,vm] w fun e w'=>e=.returned (.bool true)/\Ext w w':=by
 have HL:=Qq hl;have HM:=Qq hm;have HO:=Qq hok;have HT:=Qq hT;have HZ:=Qq hZ;have HH:=Qq hH;obtain⟨Al,cl,rfl,hlc,hlm,hla⟩:=hl;unfold maxLen at hlm;have HLA:=Qq hla;obtain⟨vv,vr,rfl,⟨Av,cv,rfl,_⟩,⟨Ar,cr,rfl,_⟩⟩:=hm;have X0:=Qq ((Ext.refl w).alloc (.cells #[.int .i64 md.n,.slice Av md.val.length cv,.slice Ar md.rel.length cr] 28));have BM:=Qq (heap_alloc_new w (.cells #[.int .i64 md.n,.slice Av md.val.length cv,.slice Ar md.rel.length cr] 28));have BML:=Qq (Qm BM.out);obtain⟨er,her⟩:∃z,z=Gy lg ls:=⟨_,rfl⟩;have HER:=Qq her;clear hok hT hZ hH hla her;go_enter Tryz.func5,Tryz.ntmps5;go_wp2_with fail
 refine(Pr (HT.out.ext X0.out) (HZ.out.ext X0.out) (HH.out.ext X0.out)).mono ?_;rintro e w1 ⟨rfl,hx⟩;have Y1:=Qq (X0.out.trans hx);have BM1:=Qq ((hx.block BML.out).trans BM.out);clear hx;obtain⟨n0,n1,n2,_,nl⟩:=Ld BM1.out;by_cases h40:(40:Int) < (ls.length:Int)
 ·go_wp2_with fail;refine(Pr (HT.out.ext Y1.out) (HZ.out.ext Y1.out) (HH.out.ext Y1.out)).mono ?_;rintro e wt ⟨rfl,hxt⟩;have YT:=Qq (Y1.out.trans hxt);clear hxt;go_wp2_with fail;go_ret;exact⟨rfl,YT.out⟩
 go_wp2_with fail;refine(Qrc _ md 8 _ (HM.out.ext Y1.out)).mono ?_;rintro e w2 ⟨fb,rfl,hx⟩;have Y2:=Qq (Y1.out.trans hx);have BM2:=Qq ((hx.block (Qm BM1.out)).trans BM1.out);clear hx n0 n1 n2 nl;obtain⟨n0,n1,n2,_,nl⟩:=Ld BM2.out;cases fb
 ·skip
  go_wp2_with fail;refine(Pr (HT.out.ext Y2.out) (HZ.out.ext Y2.out) (HH.out.ext Y2.out)).mono ?_;rintro e wt ⟨rfl,hxt⟩;have YT:=Qq (Y2.out.trans hxt);clear hxt;go_wp2_with fail;go_ret;exact⟨rfl,YT.out⟩
 go_wp2_with fail;refine(Qbd (lg:=lg) (HL.out.ext Y2.out) (HH.out.ext Y2.out)).mono ?_;rintro e w3 ⟨rfl,hx⟩;rw [<-HER.out];have Y3:=Qq (Y2.out.trans hx);have BM3:=Qq ((hx.block (Qm BM2.out)).trans BM2.out);clear hx n0 n1 n2 nl;obtain⟨n0,n1,n2,_,nl⟩:=Ld BM3.out;by_cases hz:er=0
 case neg =>
  have hzb:(er !=0)=true:=by simpa using hz
  clear hz;go_wp2_with fail;go_ret;exact⟨rfl,Y3.out⟩
 subst hz;obtain⟨ib,hib⟩:∃z,z=inG md lg:=⟨_,rfl⟩;have HIB:=Qq hib;clear hib;go_wp2_with fail;refine(Qfd _ md lg _ (HZ.out.ext Y3.out) (HM.out.ext Y3.out) HO.out).mono ?_;rintro e w4 ⟨rfl,hx⟩;rw [<-HIB.out];have Y4:=Qq (Y3.out.trans hx);have BM4:=Qq ((hx.block (Qm BM3.out)).trans BM3.out);clear hx n0 n1 n2 nl;cases ib
 ·skip
  go_wp2_with fail;go_ret;exact⟨rfl,Y4.out⟩
 go_wp2_with fail;go_loopw [8,34] (fun _ vi wr=>∃k:Nat,vi=.int .i64 (k:Int)/\k<=ls.length/\Hid (Ext w4 wr)) (fun _ v _=>ls.length - (intOf v).toNat)
 case atStart=>exact⟨0,rfl,Nat.zero_le _,Qq Qz⟩
 case round =>
  obtain⟨k,rfl,hk,HX⟩:=hrel;have YR:=Qq (Y4.out.trans HX.out);by_cases hlt2:k < ls.length
  ·have hk1:(k:Int) < (ls.length:Int):=by omega
   obtain⟨ad,rfl,hdl,hda⟩:=HLA.out (by intro e;rw [e]at hlt2;simp at hlt2);obtain⟨uf,q0,q1,q2,q3,q4,hff⟩:=(hda k _ (Wh hlt2)).ext YR.out (Qj hdl);have hbk:(ad.add (k*5)).block < wr.heap.size:=by rw [Qn];exact Qy hdl YR.out.size
   have HCV:=Qq (Qts HIB.out.symm HER.out.symm hlt2);obtain⟨x,hx⟩:∃x,x=lnH ls (k:Int):=⟨_,rfl⟩;rw [<-hx]at q1 q2 q3 q4 hff HCV;have HF:=Qq hff;obtain⟨Af,cf,rfl,_⟩:=Qg hff;obtain⟨n0,n1,n2,_,nl⟩:=Ld ((HX.out.block (Qm BM4.out)).trans BM4.out);have HA:=Qq ((Ext.refl wr).alloc (.cells #[.slice Af x.f.length cf,.int .i64 x.rule,.int .i64 x.a,.int .i64 x.b,.int .i64 x.agent] 51));clear hda hff hx;go_wp2_with fail;refine(Qnj (HM.out.ext (YR.out.trans HA.out)) HO.out (HF.out.ext HA.out)).mono ?_;rintro e w5 ⟨rfl,hx⟩;rw [HCV.out];have HX5:=Qq (HX.out.trans (HA.out.trans hx));clear hx
   go_wp2_with fail;go_roundw
   case rel=>exact⟨k+1,by go_num,by omega,HX5⟩
   case measure=>simp [intOf];omega
  obtain rfl:ls.length=k:=by omega
  go_wp2_with fail;go_ret;exact⟨rfl,YR.out⟩
open Go.ChangeShapes Go.WideShapes Go.ChangeAt Go.Joins
theorem Qdq {H:Type} {enc:TypeId×Value->H} {w:World} {spare:Nat->Bool} {held:Bool} {v:Value} {d:DataW H} {p:List MemPlace}(h:DataW.Trod enc Tryz.prog w 0 spare held 48 v d p)(hv:∃a len cap,v=.slice a len cap):∃l,HLs w v l:=by
 obtain⟨a,len,cap,rfl⟩:=hv;obtain⟨fuel,h⟩:=h;rcases Tp Tryz.underlying48 Tryz.underlying51 (by kernel_rfl) (by kernel_rfl) h with⟨hc,_⟩|⟨a,len,cap,hc,hl,hm,hf⟩
 ·injection hc with hc _;rw [hc];exact⟨[],none,0,rfl,Nat.le_refl _,by unfold maxLen;omega,fun h=>absurd rfl h⟩
 injection hc with hc _;rw [hc];obtain⟨l,hlen,hp⟩:=Wa (P:=fun i n=>Qzx w (a.add (i*5)) n/\a.block < w.heap.size) len (fun i hi=>by
  obtain⟨v0,_,_,c0,t0⟩:=hf i hi 0 _ rfl;obtain⟨v1,_,_,c1,t1⟩:=hf i hi 1 _ rfl;obtain⟨v2,_,_,c2,t2⟩:=hf i hi 2 _ rfl;obtain⟨v3,_,_,c3,t3⟩:=hf i hi 3 _ rfl;obtain⟨v4,_,_,c4,t4⟩:=hf i hi 4 _ rfl;obtain⟨f0,hf0⟩:=Qgv t0;obtain⟨z1,rfl,_⟩:=Ks t1;obtain⟨z2,rfl,_⟩:=Ks t2;obtain⟨z3,rfl,_⟩:=Ks t3;obtain⟨z4,rfl,_⟩:=Ks t4;have hs:∀(j:Nat) u,0 < j->w.cell? (a.add (i*5+j))=some u->w.cell? ⟨(a.add (i*5)).block,(a.add (i*5)).off+j,none⟩=some u:=fun j u hj hc=>Qq2 hj hc
  exact⟨⟨f0,z1,z2,z3,z4⟩,⟨v0,by simpa using c0,hs 1 _ (by omega) c1,hs 2 _ (by omega) c2,hs 3 _ (by omega) c3,hs 4 _ (by omega) c4,hf0⟩,by have:=World.block_lt_of_cell? w _ c0;rwa [Qn]at this⟩)
 refine⟨l,some a,cap,by rw [hlen],by rw [hlen];exact hl,hm,fun hne=>⟨a,rfl,?_,fun k n hk=>(hp k n hk).1⟩⟩;obtain⟨n,hn⟩:∃n,l[0]?=some n:=by
  cases l with
  |nil=>exact absurd rfl hne
  |cons x t=>exact⟨x,rfl⟩
 exact(hp 0 n hn).2
theorem Qk8:laidOutB Tryz.prog=true:=by kernel_rfl
theorem own:ownKnob Tryz.prog.godebug=none:=by kernel_rfl
theorem Qt9(os:Os)(args:Array Value):laidMetH Tryz.prog [("math/bits.deBruijn64tab",Rows.laid_math_bits_deBruijn64tab),("witting/hilbert.axioms",Rows.laid_witting_hilbert_axioms),("witting/natural.table",Rows.laid_witting_natural_table)] ((World.doorLaid Tryz.prog 600 os).forCall (fun _ _=>0) ⟨#[],args,[]⟩).memory:=by
 exact laidMetH_of_parts3 (fuel:=8) (laidMet_of_run' 8 (by kernel_rfl) (by kernel_rfl)) (by kernel_rfl) (by kernel_rfl)
theorem Pd(os:Os)(started:os.Started)(H:Type)(enc:TypeId×Value->H):
 ReturnsInHanded {} Tryz.checked os 5 .any (fun w args=>(Rows.topSoundHilbertSpec.pre enc Tryz.prog Tryz.f5 [] false w args/\laidMetH Tryz.prog [("math/bits.deBruijn64tab",Rows.laid_math_bits_deBruijn64tab),("witting/hilbert.axioms",Rows.laid_witting_hilbert_axioms),("witting/natural.table",Rows.laid_witting_natural_table)] w)/\sizedMet enc Tryz.prog Tryz.f5 (OpenSpec.ofChange Rows.topSoundHilbertSpec) false w args)
  (Rows.topSoundHilbertSpec.post enc Tryz.prog Tryz.f5 false true false false):=by
 refine returnsInHanded_of_change_and (C:=Tryz.checked) (X:=fun w _=>laidMetH Tryz.prog [("math/bits.deBruijn64tab",Rows.laid_math_bits_deBruijn64tab),("witting/hilbert.axioms",Rows.laid_witting_hilbert_axioms),("witting/natural.table",Rows.laid_witting_natural_table)] w) (fun _ _ _ hh h=>h.of_heap hh) own started (by kernel_rfl) Tryz.func5
  (ChangeSpec.witness_shaped (enc:=enc) (C:=Tryz.checked) (os:=os) (X:=fun w _=>laidMetH Tryz.prog [("math/bits.deBruijn64tab",Rows.laid_math_bits_deBruijn64tab),("witting/hilbert.axioms",Rows.laid_witting_hilbert_axioms),("witting/natural.table",Rows.laid_witting_natural_table)] w) false (World.doorLaid Tryz.prog 600 os) #[.int .i64 0,.slice none 0 0,.agg #[.int .i64 0,.slice none 0 0,.slice none 0 0]] 8 rfl (World.shaped_of_RefB (by kernel_rfl) (by kernel_rfl)) (by kernel_rfl) (by kernel_rfl) (by kernel_rfl) (Qt9 os _)) ?_
 intro W base args ds gs before hval0 hW _ _ hL _;have hval:∀(j:Nat) t v,Tryz.f5.params[j]?=some t->args[j]?=some v->Value.okWide Tryz.prog W .any base t v:=hval0;have hTAB:=Qg4 hL (List.mem_cons_of_mem _ (List.mem_cons_of_mem _ (List.mem_cons_self ..)));have hTZ:=Qxn (by have h1:=hL.filter (fun x=>x.1== "math/bits.deBruijn64tab");exact h1);have hTH:=Qve hL (List.mem_cons_of_mem _ (List.mem_cons_self ..));have hW':=hW;obtain⟨p,q,hA0,hV,rfl,hfz,hnd⟩:=hW;have hA:DataW.TrodAll enc Tryz.prog W 0 (fun _=>true) true Tryz.f5.params.toList args.toList ds p:=hA0;rw [Tryz.params5]at hA hval
 obtain⟨v0,vs0,d0,ds0,p0,q0,hargs,rfl,rfl,h0,r0⟩:=trodAll_cons hA;obtain⟨v1,vs1,d1,ds1,p1,q1,rfl,rfl,rfl,h1,r1⟩:=trodAll_cons r0;obtain⟨v2,vs2,d2,ds2,p2,q2,rfl,rfl,rfl,h2,r2⟩:=trodAll_cons r1;obtain⟨rfl,rfl,rfl⟩:=trodAll_nil r2;obtain rfl:args=#[v0,v1,v2]:=by cases args;simp_all
 obtain⟨rfl,rfl⟩:=trodVars_none hV;obtain⟨z0,rfl,rfl,rfl,wz0⟩:=open_int Tryz.underlying3 (hval 0 3 v0 rfl rfl) h0;obtain⟨hl1,hhl1⟩:=Qdq h1 (okWide_slice Tryz.underlying48 (hval 1 48 v1 rfl rfl));obtain⟨md2,hm2,mo2⟩:=Qsh (hval 2 28 v2 rfl rfl) h2;simp only [List.append_nil]at hW';clear hA0 hval0;refine(Qdc (lg:=z0) hhl1 hm2 mo2 hTAB hTZ hTH).mono ?_;rintro e W' ⟨rfl,hx⟩;have hlt:∀x∈p1++p2,x.block < W.heap.size:=fun x hx'=>hW'.lt x hx'
 refine⟨_,rfl,Qya (pa:=p1++p2) (pv:= []) hW' (fun _ _ _=>trodAll_mk1 (shut_bool Tryz.underlying4 _)) (fun sp hsp=> ?_) (fun _ _=>rfl) (by simp) hx (ok_one (by kernel_rfl) rfl (okWide_bool_mk Tryz.underlying4 _))⟩;have ht:=(trodAll_cons_mk (shut_int Tryz.underlying3 wz0) (trodAll_cons_mk (WideElems.Trod_stays Qk8 (by kernel_rfl) (of_decide_eq_true (by kernel_rfl)) h1 (fun x hx'=>hx.same (hlt x (by simp [hx']))) (fun x hx'=>hsp x (by simp [hx']))) (trodAll_cons_mk (WideElems.Trod_stays Qk8 (by kernel_rfl) (of_decide_eq_true (by kernel_rfl)) h2 (fun x hx'=>hx.same (hlt x (by simp [hx']))) (fun x hx'=>hsp x (by simp [hx']))) trodAll_mk0)))
 simp only [List.append_nil,List.nil_append]at ht;exact ht
theorem Hx:Rows.TopSoundHilbertSaid :=
 OpenClaim.holds_of_wide 5 Tryz.f5 rfl rfl rfl rfl rfl rfl rfl ⟨rfl,rfl,rfl,rfl,rfl⟩ rfl rfl rfl rfl rfl (by kernel_rfl) Tryz.func5 (by kernel_rfl)
  (of_decide_eq_true (by kernel_rfl)) (by unfold Func.isWrapper;first|(rw [if_pos (by decide+kernel)];kernel_rfl)|(rw [if_neg (by decide+kernel)];exact⟨rfl,rfl⟩))
  (fun os started H enc _=>Pd os started H enc)
theorem Cy(f:FuncId)(fn:Func)(hf:Tryz.pinned.checked.prog.funcNamed "witting/wittingtop.TopSoundHilbert" =some f)(hfn:Tryz.pinned.checked.prog.funcs[f]?=some fn):
 false=Tryz.pinned.checked.prog.looks []/\∀(j:Nat) t,fn.params[j]?=some t->Tryz.pinned.checked.prog.wantsStandIn t=false:=by
 obtain rfl:f=5:=Option.some.inj ((show Tryz.prog.funcNamed "witting/wittingtop.TopSoundHilbert" =some 5 by kernel_rfl).symm.trans hf)|>.symm;obtain rfl:fn=Tryz.f5:=(Option.some.inj (Tryz.func5.symm.trans hfn)).symm;refine⟨by kernel_rfl,fun j t ht=> ?_⟩;rw [Tryz.params5]at ht;have hm:t∈ #[(3:TypeId),(48:TypeId),(28:TypeId)]:=Array.mem_of_getElem? ht;simp only [List.mem_toArray,List.mem_cons,List.not_mem_nil,or_false]at hm;rcases hm with rfl|rfl|rfl
 ·exact(show Tryz.prog.wantsStandIn 3=false by kernel_rfl)
 ·exact(show Tryz.prog.wantsStandIn 48=false by kernel_rfl)
 exact(show Tryz.prog.wantsStandIn 28=false by kernel_rfl)
theorem topSoundHilbert_card:Rows.TopSoundHilbertCardSaid :=
 Claim7.holds_tied_plain_at .later [] _ _ _ _ Hx (fun _ h=>by cases h) (by kernel_rfl) (fun _ h=>by cases h) topSoundHilbert_row_tie rfl ⟨rfl,rfl⟩ (by kernel_rfl) rfl Cy (by kernel_rfl)
end Go.Proofs.YtmidgcldljfkcaaGreatDoor
