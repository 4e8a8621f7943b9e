/- What is proved by natural deduction holds at all worlds of a model of the logic. Plain. -/
import Derived.Test.YtmidgcldljfkcaaGreatDoorM01
import Derived.Test.YtmidgcldljfkcaaGreatDoorM27
import Derived.Test.YtmidgcldljfkcaaGreatDoorM48
import Derived.Test.YtmidgcldljfkcaaGreatDoorM30
import Derived.Test.YtmidgcldljfkcaaGreatDoorM49
import Derived.Test.YtmidgcldljfkcaaGreatDoorM23
import Derived.Test.YtmidgcldljfkcaaGreatDoorM35
import Derived.LaidMore
import Derived.SevenTiedAt
import Derived.Stop.Joined
import Derived.Below
namespace Go.Proofs.YtmidgcldljfkcaaGreatDoor
set_option maxRecDepth 100000
set_option maxHeartbeats 128000000
open Go.RowKit
structure NInv (M:KM) (ls:List Ln) (fs:List (List Nd)) (st:List (List Int)) (i:Nat):Prop where
 shp:ShpS ls st i
 fl:fs.length=i
 sl:st.length=i
 ck:∀f∈fs,check f=0
 snd:∀k,k < i->∀v w,ctxC M ls fs (st.getD k []) v w->M.sat (treeOf (fs.getD k [])) w
 ag:∀k:Nat,k < i->0<=(lineAt ls k).agent/\(lineAt ls k).agent < 4
 eq:∀k:Nat,k < i->fs.getD k []=compactN (lineAt ls k).f
 frag:∀k:Nat,k < i->check (lineAt ls k).f=0/\fragsN (lineAt ls k).f < 2
 top:∀k:Nat,k < i->(lineAt ls k).depth=0->st.getD k []= []
theorem folTab_rule {lg:Int} {ls:List Ln} {fs:List (List Nd)} {st:List (List Int)} {i:Nat} {n:Ln} {fi:List Nd}(h:folTab lg ls fs st i n fi=true):∃k,ruleL k lg ls fs st i n fi=true:=by
 unfold folTab at h;cases e:decide (3<=n.rule)&&decide (n.rule<=20)
 ·rw [e]at h;cases h
 rw [e]at h;exact⟨_,h⟩
theorem push_zero {st:List (List Int)} {n:Ln} {s:List Int}(h:pushL st n=some s)(hd:n.depth=0):s= []:=by
 unfold pushL at h;cases ho:opensL n
 ·rw [ho,cond_false]at h;cases hb:(decide (n.depth < 0)||decide (((lastSt st).length:Int) < n.depth))
  ·rw [hb,cond_false]at h;rw [<-Option.some.inj h,hd];rfl
  rw [hb]at h;cases h
 rw [ho,cond_true,hd]at h;cases h
theorem ninv_next {M:KM} {lg:Int}(hM:M.In lg) {ls:List Ln} {fs:List (List Nd)} {st:List (List Int)} {i:Nat}(h:NInv M ls fs st i) {n:Ln}(hn:lineAt ls i=n)(hc:check n.f=0)(hf:fragsN n.f < 2) {s:List Int}(hp:pushL st n=some s)
 (ha:0<=n.agent/\n.agent < 4)(hfol:followsL lg ls (fs++ [compactN n.f]) (st++ [s]) i n (compactN n.f)=true):NInv M ls (fs++ [compactN n.f]) (st++ [s]) (i+1):=by
 have hcc:=compactN_check hc;have hshp:=shp_next h.sl h.shp hn hp;have hfo:∀k,k < i->(fs++ [compactN n.f]).getD k []=fs.getD k []:=fun k hk=>getD_appL (by have:=h.fl;omega)
 have hso:∀k,k < i->(st++ [s]).getD k []=st.getD k []:=fun k hk=>getD_appL (by have:=h.sl;omega)
 have hfi:(fs++ [compactN n.f]).getD i []=compactN n.f:=by rw [<-h.fl];exact getD_appR
 have hsi:(st++ [s]).getD i []=s:=by rw [<-h.sl];exact getD_appR
 have hck:∀f∈fs++ [compactN n.f],check f=0:=fun f hf=>by
  rcases List.mem_append.1 hf with hf|hf
  ·exact h.ck f hf
  rw [List.mem_singleton.1 hf];exact hcc
 have hsnd:∀k,k < i->∀v w,ctxC M ls (fs++ [compactN n.f]) ((st++ [s]).getD k []) v w->M.sat (treeOf ((fs++ [compactN n.f]).getD k [])) w:=fun k hk v w hcx=>by
  rw [hso k hk]at hcx;rw [hfo k hk];refine h.snd k hk v w ((ctx_congr _ v w fun o ho=> ?_).1 hcx);obtain⟨p,hpl,hpe⟩:=List.getElem_of_mem ho;obtain⟨q,a1,a2,_⟩:=h.shp.pos k hk p hpl;rw [Qv hpl,hpe]at a1;injection a1 with a1;rw [a1,Int.toNat_natCast];exact hfo q (by omega)
 have hag:∀k:Nat,k < i+1->0<=(lineAt ls k).agent/\(lineAt ls k).agent < 4:=fun k hk=>by
  by_cases e:k < i
  ·exact h.ag k e
  obtain rfl:k=i:=by omega
  rw [hn];exact ha
 have hctx:NCtx M ls (fs++ [compactN n.f]) (st++ [s]) i (compactN n.f):=⟨hshp,by rw [List.length_append,h.fl];rfl,hck,hfi,hsnd,hag⟩;have hnew:∀v w,ctxC M ls (fs++ [compactN n.f]) ((st++ [s]).getD i []) v w->M.sat (treeOf (compactN n.f)) w:=by
  intro v w hcx;unfold followsL at hfol;cases h2:n.rule==2
  ·rw [h2,cond_false]at hfol;cases h0:n.agent !=0
   ·rw [h0,cond_false]at hfol;cases h1:n.rule==1
    ·rw [h1,cond_false]at hfol;obtain⟨k,hk⟩:=folTab_rule hfol;exact rule_sound hM hctx hcc k hk hcx
    obtain⟨X,hX⟩:=hshp.opn i (Nat.lt_succ_self i) (by rw [hn];unfold opensL;rw [h1];rfl);rw [hX]at hcx;obtain⟨u,_,x,hx,hxw⟩:=(ctx_append _ _ _ _).1 hcx;have e:x=w:=hxw;rcases hx with⟨hb,_⟩|⟨_,_,hs⟩
    ·unfold isBox at hb;rw [hn,beq_iff_eq]at hb;rw [hb]at h2;cases h2
    rw [Int.toNat_natCast,hfi,e]at hs;exact hs
   rw [h0]at hfol;cases hfol
  rw [h2,cond_true,Bool.and_eq_true]at hfol;rw [eqN_eq hfol.2];exact sem_true
 refine⟨hshp,by rw [List.length_append,h.fl];rfl,by rw [List.length_append,h.sl];rfl,hck,fun k hk v w hcx=> ?_,hag,fun k hk=> ?_,fun k hk=> ?_,fun k hk hd=> ?_⟩
 ·by_cases e:k < i
  ·exact hsnd k e v w hcx
  obtain rfl:k=i:=by omega
  rw [hfi];exact hnew v w hcx
 ·by_cases e:k < i
  ·rw [hfo k e];exact h.eq k e
  obtain rfl:k=i:=by omega
  rw [hfi,hn]
 ·by_cases e:k < i
  ·exact h.frag k e
  obtain rfl:k=i:=by omega
  rw [hn];exact⟨hc,hf⟩
 by_cases e:k < i
 ·rw [hso k e];exact h.top k e hd
 obtain rfl:k=i:=by omega
 rw [hsi];exact push_zero hp (by rw [<-hn];exact hd)
theorem go_sound {M:KM} {lg:Int}(hM:M.In lg) {ls:List Ln} :∀(k i:Nat) (fs:List (List Nd)) (st:List (List Int)),i+k=ls.length->NInv M ls fs st i->(chkGo lg ls (ls.drop i) fs st i).2=0->∃FS ST,NInv M ls FS ST ls.length
 |0,i,fs,st,hk,h,_=>⟨fs,st,by rw [<-hk];exact h⟩
 |k+1,i,fs,st,hk,h,hg=>by
  have hil:i < ls.length:=by omega
  have hn:ls[i]?=some ls[i]:=Qv hil;have hla:lineAt ls i=ls[i]:=by unfold lineAt;rw [Int.toNat_natCast,Qk,hn];rfl
  rw [chkGo_step hn]at hg;obtain⟨n,hnn⟩:∃n,n=ls[i]:=⟨_,rfl⟩;rw [<-hnn]at hg hla;unfold chkGo at hg;cases e1:check n.f !=0
  ·rw [e1,cond_false]at hg;cases e2:decide (2<=fragsN n.f)
   ·rw [e2,cond_false]at hg;cases hp:pushL st n with
    |none=>rw [hp]at hg;cases hg
    |some s =>
     rw [hp]at hg;simp only at hg;cases e3:decide (n.agent < 0)||decide (4<=n.agent)
     ·rw [e3,cond_false]at hg;cases e4:followsL lg ls (fs++ [compactN n.f]) (st++ [s]) i n (compactN n.f)
      ·rw [e4]at hg;cases hg
      rw [e4,cond_true]at hg;have ha:0<=n.agent/\n.agent < 4:=by
       rw [Bool.or_eq_false_iff]at e3;have a1:=of_decide_eq_false e3.1;have a2:=of_decide_eq_false e3.2;omega
      exact go_sound hM k (i+1) _ _ (by omega) (ninv_next hM h hla (by simpa using e1) (by have:=of_decide_eq_false e2;omega) hp ha e4) hg
     rw [e3]at hg;cases hg
   rw [e2]at hg;cases hg
  rw [e1,cond_true]at hg;rw [show check n.f=0 from hg]at e1;cases e1
theorem nat_sound {M:KM} {lg:Int}(hM:M.In lg) {ls:List Ln}(h:(natTheorem lg ls).2=0)(w:M.W):check (natTheorem lg ls).1=0/\Few10 (compactN (natTheorem lg ls).1)/\M.sat (treeOf (natTheorem lg ls).1) w:=by
 unfold natTheorem at h⊢;cases e1:(natCheck lg ls).2 !=0
 ·rw [e1,cond_false]at h;rw [cond_false];cases e2:(lastLn ls).depth !=0
  ·rw [e2,cond_false]at h;rw [cond_false];have hck:(natCheck lg ls).2=0:=by simpa using e1
   have hpos:=natCheck_pos hck;have hgo:(chkGo lg ls ls [] [] 0).2=0:=by
    unfold natCheck at hck;cases b1:(decide (lg < 0)||decide (6 < lg))
    ·rw [b1,cond_false]at hck;cases b2:decide (400 < ls.length)
     ·rw [b2,cond_false]at hck;cases b3:decide (ls.length=0)
      ·rw [b3,cond_false]at hck;exact hck
      rw [b3]at hck;cases hck
     rw [b2]at hck;cases hck
    rw [b1]at hck;cases hck
   have z0:∀{P:Prop} {k:Nat},k < 0->P:=fun h=>absurd h (Nat.not_lt_zero _)
   have h0:NInv M ls [] [] 0:= { shp:=⟨fun k hk=>z0 hk,fun k hk=>z0 hk⟩,fl:=rfl,sl:=rfl,ck:=fun f hf=>(List.not_mem_nil hf).elim,snd:=fun k hk=>z0 hk,ag:=fun k hk=>z0 hk,eq:=fun k hk=>z0 hk,frag:=fun k hk=>z0 hk,top:=fun k hk=>z0 hk };obtain⟨FS,ST,hI⟩:=go_sound hM (ls:=ls) ls.length 0 [] [] (Nat.zero_add _) h0 (by rw [List.drop_zero];exact hgo);have hl:lineAt ls ((ls.length - 1:Nat):Int)=lastLn ls:=by
    unfold lineAt;rw [Int.toNat_natCast,Qk,lastLn_get hpos];rfl
   have hd:(lineAt ls ((ls.length - 1:Nat):Int)).depth=0:=by rw [hl];simpa using e2
   have hst:=hI.top (ls.length - 1) (by omega) hd;have hs:=hI.snd (ls.length - 1) (by omega) w w (by rw [hst];rfl);have he:=hI.eq (ls.length - 1) (by omega);have hfr:=hI.frag (ls.length - 1) (by omega);rw [hl]at he hfr;rw [he]at hs;exact⟨compactN_check hfr.1,by rw [compact_twice hfr.1];exact few_frag hfr.1 hfr.2,hs⟩
  rw [e2]at h;cases h
 rw [e1,cond_true]at h;rw [h]at e1;cases e1
def cvalN(md:Md)(f:List Nd):Bool:=(decide (chk17 md f=0)&&(((holdP md f:Nat):Int)==((allW md.n.toNat:Nat):Int)))||(chk17 md f !=0)
theorem cValid_any {w:World} {vm v:Value} {md:Md} {f:List Nd}(hm:MdV w vm md)(hok:md.ok)(h:Fml w v f):
 Calls Tryz.prog 10 #[vm,v] w fun e w'=>e=.returned (.bool (cvalN md f))/\Ext w w':=by
 have HM:=Qq hm;have HF:=Qq h;have HO:=Qq hok;obtain⟨vv,vr,rfl,⟨Av,cv,rfl,_⟩,⟨Ar,cr,rfl,_⟩⟩:=hm;obtain⟨A,c,rfl,_⟩:=fml_slice h;obtain⟨bv,hbv⟩:∃z,z=(decide (chk17 md f=0)&&(((holdP md f:Nat):Int)==((allW md.n.toNat:Nat):Int))):=⟨_,rfl⟩;obtain⟨ev,hev⟩:∃z,z=chk17 md f:=⟨_,rfl⟩;have HB:=Qq hbv;have HE:=Qq hev;have HR:=Qq (show cvalN md f=(bv||(ev !=0)) by unfold cvalN;rw [hbv,hev]);clear h hok hbv hev;go_enter Tryz.func10,Tryz.ntmps10;go_wp2_with fail;refine(pValid_of sets_said _ _ md f _ (HM.out.ext xw) HO.out (HF.out.ext xw)).mono ?_;rintro e w1 ⟨rfl,hx⟩;rw [<-HB.out,<-HE.out];have S1:=Qq (show Ext w w1 from xt hx)
 clear hx;cases bv
 ·cases h2:(ev !=0)
  ·have HN:=Qq (show cvalN md f=false by rw [HR.out,h2];rfl);go_wp2_with fail;go_ret;exact⟨same_of HN.out.symm,S1.out⟩
  have HN:=Qq (show cvalN md f=true by rw [HR.out,h2];rfl);go_wp2_with fail;go_ret;exact⟨same_of HN.out.symm,S1.out⟩
 have HN:=Qq (show cvalN md f=true by rw [HR.out];rfl);go_wp2_with fail;go_ret;exact⟨same_of HN.out.symm,S1.out⟩
theorem nat_cval {md:Md} {lg:Int} {ls:List Ln}(hg:inG md lg=true)(h:(natTheorem lg ls).2=0):cvalN md (natTheorem lg ls).1=true:=by
 obtain⟨hck,hgm⟩:=inG_good hg;unfold cvalN;by_cases hc:chk17 md (natTheorem lg ls).1=0
 ·have hall:holdP md (natTheorem lg ls).1=allW md.n.toNat:=all_eq (holdP_low hck _) (fun i hi=>by
   obtain⟨_,hF,hs⟩:=nat_sound (M:=kmOf md) (kmOf_in hgm) h (⟨i,hi⟩:Fin md.n.toNat);exact(holdP_is hc hF ⟨i,hi⟩).2 hs)
  rw [hall];simp [hc]
 rw [show(chk17 md (natTheorem lg ls).1 !=0)=true by simpa using hc,Bool.or_true]
theorem cells2t {w:World} {b:Nat} {a0 a1:Value} {t:TypeId}(h:w.heap[b]?=some (.cells #[a0,a1] t (0,0))):w.cell? ⟨b,0,none⟩=some a0/\w.cell? ⟨b,1,none⟩=some a1/\b < w.heap.size :=
 ⟨by simp [World.cell?,h],by simp [World.cell?,h],lt_heap h⟩
theorem topNat_any {w:World} {lg:Int} {vl vm:Value} {ls:List Ln} {md:Md}(hl:Lns w vl ls)(hm:MdV w vm md)(hok:md.ok)(hT:Tab w)(hZ:TabZ w)(hH:HTab w):
 Calls Tryz.prog 3 #[.agg #[.int .i64 lg,vl],vm] w fun e w'=>e=.returned (.bool true)/\Ext w w':=by
 have HL:=Qq hl;have HM:=Qq hm;have HO:=Qq hok;have HT:=Qq hT;have HZ:=Qq hZ;have HH:=Qq hH;obtain⟨Al,cl,rfl,_⟩:=hl;obtain⟨vv,vr,rfl,⟨Av,cv,rfl,_⟩,⟨Ar,cr,rfl,_⟩⟩:=hm;have X0:=Qq (show Ext w ((w.alloc (.cells #[.int .i64 lg,.slice Al ls.length cl] 24)).alloc (.cells #[.int .i64 md.n,.slice Av md.val.length cv,.slice Ar md.rel.length cr] 28))from(Qz.alloc _).alloc _);have BP:=Qq (show((w.alloc (.cells #[.int .i64 lg,.slice Al ls.length cl] 24)).alloc (.cells #[.int .i64 md.n,.slice Av md.val.length cv,.slice Ar md.rel.length cr] 28)).heap[w.heap.size]?=some (.cells #[.int .i64 lg,.slice Al ls.length cl] 24 (0,0))from(((Ext.refl (w.alloc (.cells #[.int .i64 lg,.slice Al ls.length cl] 24))).alloc _).block (by simp)).trans (heap_alloc_new _ _))
 have BM:=Qq (show((w.alloc (.cells #[.int .i64 lg,.slice Al ls.length cl] 24)).alloc (.cells #[.int .i64 md.n,.slice Av md.val.length cv,.slice Ar md.rel.length cr] 28)).heap[w.heap.size+1]?=some (.cells #[.int .i64 md.n,.slice Av md.val.length cv,.slice Ar md.rel.length cr] 28 (0,0)) by
  have h1:=heap_alloc_new (w.alloc (.cells #[.int .i64 lg,.slice Al ls.length cl] 24)) (.cells #[.int .i64 md.n,.slice Av md.val.length cv,.slice Ar md.rel.length cr] 28);rw [World.size_alloc]at h1;exact h1)
 have BPL:=Qq (lt_heap BP.out);have BML:=Qq (lt_heap BM.out);obtain⟨eg,heg⟩:∃z,z=(natTheorem lg ls).2:=⟨_,rfl⟩;have HEG:=Qq heg;obtain⟨f,hf⟩:∃z,z=(natTheorem lg ls).1:=⟨_,rfl⟩;have HF:=Qq hf;clear hok hT hZ hH heg hf;go_enter Tryz.func3,Tryz.ntmps3;go_wp2_with fail;refine(awake25_any (HT.out.ext X0.out) (HZ.out.ext X0.out) (HH.out.ext X0.out)).mono ?_;rintro e w1 ⟨rfl,hx⟩;have Y1:=Qq (show Ext ((w.alloc (.cells #[.int .i64 lg,.slice Al ls.length cl] 24)).alloc (.cells #[.int .i64 md.n,.slice Av md.val.length cv,.slice Ar md.rel.length cr] 28)) w1 from hx);clear hx;obtain⟨z0,z1,zl⟩:=cells2t ((Y1.out.block BPL.out).trans BP.out)
 obtain⟨n0,n1,n2,_,nl⟩:=cells3x ((Y1.out.block BML.out).trans BM.out);by_cases h60:(60:Int) < (ls.length:Int)
 ·go_wp2_with fail;refine(awake25_any (HT.out.ext (X0.out.trans Y1.out)) (HZ.out.ext (X0.out.trans Y1.out)) (HH.out.ext (X0.out.trans Y1.out))).mono ?_;rintro e wt ⟨rfl,hxt⟩;have YT:=Qq (Y1.out.trans hxt);clear hxt;go_wp2_with fail;go_ret;exact⟨rfl,X0.out.trans YT.out⟩
 go_wp2_with fail;refine(few13_any _ md 8 _ (HM.out.ext (X0.out.trans Y1.out))).mono ?_;rintro e w2 ⟨fb,rfl,hx⟩;have Y2:=Qq (Y1.out.trans hx);clear hx z0 z1 zl n0 n1 n2 nl;obtain⟨z0,z1,zl⟩:=cells2t ((Y2.out.block BPL.out).trans BP.out);obtain⟨n0,n1,n2,_,nl⟩:=cells3x ((Y2.out.block BML.out).trans BM.out);cases fb
 ·skip
  go_wp2_with fail;refine(awake25_any (HT.out.ext (X0.out.trans Y2.out)) (HZ.out.ext (X0.out.trans Y2.out)) (HH.out.ext (X0.out.trans Y2.out))).mono ?_;rintro e wt ⟨rfl,hxt⟩;have YT:=Qq (Y2.out.trans hxt);clear hxt;go_wp2_with fail;go_ret;exact⟨rfl,X0.out.trans YT.out⟩
 go_wp2_with fail;refine(natTheorem_any (lg:=lg) (HL.out.ext (X0.out.trans Y2.out)) (HT.out.ext (X0.out.trans Y2.out))).mono ?_;rintro e w3 ⟨u,rfl,hx,hfm⟩;rw [<-HEG.out];rw [<-HF.out]at hfm;have Y3:=Qq (Y2.out.trans hx);have HFM:=Qq hfm;obtain⟨Af,cf,rfl,_⟩:=fml_slice HFM.out;clear hx z0 z1 zl n0 n1 n2 nl hfm;obtain⟨z0,z1,zl⟩:=cells2t ((Y3.out.block BPL.out).trans BP.out);obtain⟨n0,n1,n2,_,nl⟩:=cells3x ((Y3.out.block BML.out).trans BM.out);by_cases hg:eg=0
 ·subst hg;obtain⟨ib,hib⟩:∃z,z=inG md lg:=⟨_,rfl⟩;have HIB:=Qq hib;clear hib;go_wp2_with fail;refine(inG_any _ md lg _ (HZ.out.ext (X0.out.trans Y3.out)) (HM.out.ext (X0.out.trans Y3.out)) HO.out).mono ?_;rintro e w4 ⟨rfl,hx⟩;rw [<-HIB.out];have Y4:=Qq (Y3.out.trans hx);have HF4:=Qq (HFM.out.ext hx);clear hx z0 z1 zl n0 n1 n2 nl;obtain⟨z0,z1,zl⟩:=cells2t ((Y4.out.block BPL.out).trans BP.out);obtain⟨n0,n1,n2,_,nl⟩:=cells3x ((Y4.out.block BML.out).trans BM.out);cases ib
  ·skip
   go_wp2_with fail;go_ret;exact⟨rfl,X0.out.trans Y4.out⟩
  have HCV:=Qq (show cvalN md f=true by rw [HF.out];exact nat_cval HIB.out.symm HEG.out.symm);go_wp2_with fail;refine(cValid_any (HM.out.ext (X0.out.trans Y4.out)) HO.out HF4.out).mono ?_;rintro e w5 ⟨rfl,hx⟩;rw [HCV.out];have Y5:=Qq (Y4.out.trans hx);clear hx;go_wp2_with fail;go_ret;exact⟨rfl,X0.out.trans Y5.out⟩
 have hge:(eg !=0)=true:=by simpa using hg
 clear hg;go_wp2_with fail;go_ret;exact⟨rfl,X0.out.trans Y3.out⟩
open Go.ChangeShapes Go.WideShapes Go.ChangeAt Go.Joins
theorem laidOutP:laidOutB Tryz.prog=true:=by kernel_rfl
theorem own:ownKnob Tryz.prog.godebug=none:=by kernel_rfl
theorem door_met(os:Os)(args:Array Value):laidMetH Tryz.prog [("math/bits.deBruijn64tab",Rows.laid_math_bits_deBruijn64tab),("witting/hilbert.axioms",Rows.laid_witting_hilbert_axioms),("witting/natural.table",Rows.laid_witting_natural_table)] ((World.doorLaid Tryz.prog 600 os).forCall (fun _ _=>0) ⟨#[],args,[]⟩).memory:=by
 exact laidMetH_of_parts3 (fuel:=8) (laidMet_of_run' 8 (by kernel_rfl) (by kernel_rfl)) (by kernel_rfl) (by kernel_rfl)
theorem topSoundNatural_lifted(os:Os)(started:os.Started)(H:Type)(enc:TypeId×Value->H):
 ReturnsInHanded {} Tryz.checked os 3 .any (fun w args=>(Rows.topSoundNaturalSpec.pre enc Tryz.prog Tryz.f3 [] false w args/\laidMetH Tryz.prog [("math/bits.deBruijn64tab",Rows.laid_math_bits_deBruijn64tab),("witting/hilbert.axioms",Rows.laid_witting_hilbert_axioms),("witting/natural.table",Rows.laid_witting_natural_table)] w)/\sizedMet enc Tryz.prog Tryz.f3 (OpenSpec.ofChange Rows.topSoundNaturalSpec) false w args)
  (Rows.topSoundNaturalSpec.post enc Tryz.prog Tryz.f3 false true false false):=by
 refine returnsInHanded_of_change_and (C:=Tryz.checked) (X:=fun w _=>laidMetH Tryz.prog [("math/bits.deBruijn64tab",Rows.laid_math_bits_deBruijn64tab),("witting/hilbert.axioms",Rows.laid_witting_hilbert_axioms),("witting/natural.table",Rows.laid_witting_natural_table)] w) (fun _ _ _ hh h=>h.of_heap hh) own started (by kernel_rfl) Tryz.func3
  (ChangeSpec.witness_shaped (enc:=enc) (C:=Tryz.checked) (os:=os) (X:=fun w _=>laidMetH Tryz.prog [("math/bits.deBruijn64tab",Rows.laid_math_bits_deBruijn64tab),("witting/hilbert.axioms",Rows.laid_witting_hilbert_axioms),("witting/natural.table",Rows.laid_witting_natural_table)] w) false (World.doorLaid Tryz.prog 600 os) #[.agg #[.int .i64 0,.slice none 0 0],.agg #[.int .i64 0,.slice none 0 0,.slice none 0 0]] 8 rfl (World.shaped_of_RefB (by kernel_rfl) (by kernel_rfl)) (by kernel_rfl) (by kernel_rfl) (by kernel_rfl) (door_met os _)) ?_
 intro W base args ds gs before hval0 hW _ _ hL _;have hval:∀(j:Nat) t v,Tryz.f3.params[j]?=some t->args[j]?=some v->Value.okWide Tryz.prog W .any base t v:=hval0;have hTAB:=tab_of_laid hL (List.mem_cons_of_mem _ (List.mem_cons_of_mem _ (List.mem_cons_self ..)));have hTZ:=tabz_of_laid (by have h1:=hL.filter (fun x=>x.1== "math/bits.deBruijn64tab");exact h1);have hTH:=htab_of_laid hL (List.mem_cons_of_mem _ (List.mem_cons_self ..));have hW':=hW;obtain⟨p,q,hA0,hV,rfl,hfz,hnd⟩:=hW;have hA:DataW.TrodAll enc Tryz.prog W 0 (fun _=>true) true Tryz.f3.params.toList args.toList ds p:=hA0;rw [Tryz.params3]at hA hval
 obtain⟨v0,vs0,d0,ds0,p0,q0,hargs,rfl,rfl,h0,r0⟩:=trodAll_cons hA;obtain⟨v1,vs1,d1,ds1,p1,q1,rfl,rfl,rfl,h1,r1⟩:=trodAll_cons r0;obtain⟨rfl,rfl,rfl⟩:=trodAll_nil r1;obtain rfl:args=#[v0,v1]:=by cases args;simp_all
 obtain⟨rfl,rfl⟩:=trodVars_none hV;obtain⟨u0a,u0b,y0a,y0b,n0,rfl,hd0,hp0,t0a,t0b⟩:=open_agg2 Tryz.underlying24 (by kernel_rfl) (by kernel_rfl) (hval 0 24 v0 rfl rfl) h0;obtain⟨lg0,rfl,_⟩:=int_of_trod t0a;obtain⟨ls0,hls0⟩:=lns_of_trod t0b;obtain⟨md1,hm1,mo1⟩:=md_of_arg (hval 1 28 v1 rfl rfl) h1;simp only [List.append_nil]at hW';clear hA0 hval0;refine(topNat_any (lg:=lg0) hls0 hm1 mo1 hTAB hTZ hTH).mono ?_;rintro e W' ⟨rfl,hx⟩;have hlt:∀x∈p0++p1,x.block < W.heap.size:=fun x hx'=>hW'.lt x hx'
 refine⟨_,rfl,post_of_below (pa:=p0++p1) (pv:= []) hW' (fun _ _ _=>trodAll_mk1 (shut_bool Tryz.underlying4 _)) (fun sp hsp=> ?_) (fun _ _=>rfl) (by simp) hx (ok_one (by kernel_rfl) rfl (okWide_bool_mk Tryz.underlying4 _))⟩;have ht:=(trodAll_cons_mk (WideElems.Trod_stays laidOutP (by kernel_rfl) (of_decide_eq_true (by kernel_rfl)) h0 (fun x hx'=>hx.same (hlt x (List.mem_append.2 (Or.inl hx')))) (fun x hx'=>hsp x (List.mem_append.2 (Or.inl hx')))) (trodAll_cons_mk (WideElems.Trod_stays laidOutP (by kernel_rfl) (of_decide_eq_true (by kernel_rfl)) h1 (fun x hx'=>hx.same (hlt x (List.mem_append.2 (Or.inr hx')))) (fun x hx'=>hsp x (List.mem_append.2 (Or.inr hx')))) trodAll_mk0))
 simp only [List.append_nil]at ht;exact ht
theorem topSoundNatural_said:Rows.TopSoundNaturalSaid :=
 OpenClaim.holds_of_wide 3 Tryz.f3 rfl rfl rfl rfl rfl rfl rfl ⟨rfl,rfl,rfl,rfl,rfl⟩ rfl rfl rfl rfl rfl (by kernel_rfl) Tryz.func3 (by kernel_rfl)
  (of_decide_eq_true (by kernel_rfl)) (by unfold Func.isWrapper;first|(rw [if_pos (by decide+kernel)];kernel_rfl)|(rw [if_neg (by decide+kernel)];exact⟨rfl,rfl⟩))
  (fun os started H enc _=>topSoundNatural_lifted os started H enc)
theorem topSoundNatural_plain(f:FuncId)(fn:Func)(hf:Tryz.pinned.checked.prog.funcNamed "witting/wittingtop.TopSoundNatural" =some f)(hfn:Tryz.pinned.checked.prog.funcs[f]?=some fn):
 false=Tryz.pinned.checked.prog.looks []/\∀(j:Nat) t,fn.params[j]?=some t->Tryz.pinned.checked.prog.wantsStandIn t=false:=by
 obtain rfl:f=3:=Option.some.inj ((show Tryz.prog.funcNamed "witting/wittingtop.TopSoundNatural" =some 3 by kernel_rfl).symm.trans hf)|>.symm;obtain rfl:fn=Tryz.f3:=(Option.some.inj (Tryz.func3.symm.trans hfn)).symm;refine⟨by kernel_rfl,fun j t ht=> ?_⟩;rw [Tryz.params3]at ht;have hm:t∈ #[(24:TypeId),(28:TypeId)]:=Array.mem_of_getElem? ht;simp only [List.mem_toArray,List.mem_cons,List.not_mem_nil,or_false]at hm;rcases hm with rfl|rfl
 ·exact(show Tryz.prog.wantsStandIn 24=false by kernel_rfl)
 exact(show Tryz.prog.wantsStandIn 28=false by kernel_rfl)
theorem topSoundNatural_card:Rows.TopSoundNaturalCardSaid :=
 Claim7.holds_tied_plain_at .later [] _ _ _ _ topSoundNatural_said (fun _ h=>by cases h) (by kernel_rfl) (fun _ h=>by cases h) topSoundNatural_row_tie rfl ⟨rfl,rfl⟩ (by kernel_rfl) rfl topSoundNatural_plain (by kernel_rfl)
end Go.Proofs.YtmidgcldljfkcaaGreatDoor
