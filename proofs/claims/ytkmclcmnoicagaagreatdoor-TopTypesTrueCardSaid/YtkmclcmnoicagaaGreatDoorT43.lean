/- types' Model: the walk. -/
import Derived.Test.YtkmclcmnoicagaaGreatDoorT42
namespace Go.Proofs.YtkmclcmnoicagaaGreatDoor
set_option maxRecDepth 100000
set_option maxHeartbeats 128000000
open Go.RowKit
theorem Qyr(n:Nat)(hn:n<=1000)(W:World):(Instr.makeSlice 23 (.int .i64 (n:Int)) (.int .i64 (n:Int))).run Tryz.prog W=.ok (.slice (some ⟨W.heap.size,0,none⟩) n n) (W.alloc (.cells (List.replicate n (Value.int .u64 0)).toArray 41)):=by
 obtain⟨i,hi,h0,h1,h2⟩:=info_parts Mv;have h:=run_make (P:=Tryz.prog) W 23 41 i (.int .u64 0) Tryz.underlying23 hi h0 .i64 .i64 n n (by omega) (Int.le_refl _) (by rw [h2];omega) (by omega);rw [h1,Int.toNat_natCast,Nat.mul_one]at h;rw [h,<-toList_madeCells_one];rfl
theorem Am(n:Nat)(hn:n<=1000)(w:World)(base:Nat)(hb:base<=w.heap.size):Jz base (w.alloc (.cells (List.replicate n (Value.int .u64 0)).toArray 41)) (.slice (some ⟨w.heap.size,0,none⟩) n n) (List.replicate n 0):=by
 have e:uV (List.replicate n 0)=List.replicate n (Value.int .u64 0):=by unfold uV;rw [List.map_replicate];rfl
 unfold Jz;rw [e,List.length_replicate];exact⟨by simp,.inr ⟨w.heap.size,n,(List.replicate n (Value.int .u64 0)).toArray,rfl,hb,heap_alloc_new _ _,Nat.le_refl _,by unfold maxLen;omega,by simp,by simp⟩⟩
theorem Qs6(s k:Nat)(hs:s < 9223372036854775808):bits .and .i64 ((s:Int) / 2^k) 1=((if s.testBit k then 1 else 0:Nat):Int):=by
 have hlt:s / 2^k < 9223372036854775808:=Nat.lt_of_le_of_lt (Nat.div_le_self _ _) hs;rw [Si,show(1:Int)=((1:Nat):Int)from rfl,Cz _ 1 hlt (by decide),Nat.and_one_is_mod,Nat.testBit_eq_decide_div_mod_eq];rcases Nat.mod_two_eq_zero_or_one (s / 2^k)with h|h <;> rw [h] <;> rfl
theorem Qof {x:Nat} :IntKind.u64.wrap (IntKind.u64.wrap 1*2^x)=IntKind.u64.wrap ((2:Int)^x):=by
 rw [show IntKind.u64.wrap 1=1 by decide,Int.one_mul]
theorem Qog {x:Nat} :IntKind.u64.wrap (IntKind.u64.wrap 0*2^x)=0:=by
 rw [show IntKind.u64.wrap 0=0 by decide,Int.zero_mul];decide
theorem Qe1 {z:Nat}(h:Zj z):bits .or .u64 (z:Int) 0=(z:Int):=by
 have:=Bd (a:=z) (b:=0) h (by show(0:Nat) < _;omega);rw [Nat.or_zero]at this;exact this
theorem Qih:(Tryz.prog.info? 23).map (fun i=>(i.zero,i.size,i.bytes))=some (some (.slice none 0 0),1,24):=by kernel_rfl
def X21(W:World)(n fas:Nat)(a a':Act)(w':World):Prop :=
 ∃mb vb,MoI W w' mb vb n fas (List.replicate fas 0) (.slice none 0 0) []/\∃v119 v120 v121 v122 v123 v124 v125 v126,a'=((((((((a.put (some 119) v119).put (some 120) v120).put (some 121) v121).put (some 122) v122).put (some 123) v123).put (some 124) v124).put (some 125) v125).put (some 126) v126).put (some 15) (.pointer (some ⟨mb,0,none⟩))
theorem Qjo {W:World} {n fas:Nat} {a a':Act} {w':World} {mb vb:Nat} {v119 v120 v121 v122 v123 v124 v125 v126:Value}
 (e:a'=((((((((a.put (some 119) v119).put (some 120) v120).put (some 121) v121).put (some 122) v122).put (some 123) v123).put (some 124) v124).put (some 125) v125).put (some 126) v126).put (some 15) (.pointer (some ⟨mb,0,none⟩)))
 (h:MoI W w' mb vb n fas (List.replicate fas 0) (.slice none 0 0) []):X21 W n fas a a' w':=⟨mb,vb,h,v119,v120,v121,v122,v123,v124,v125,v126,e⟩
theorem Qiv {W:World} {n fas:Nat}(hf:fas<=1000):MoI W ((W.alloc (.cells (Array.replicate fas (Value.int .u64 0)) 41)).alloc (.cells #[.int .i64 (n:Int),.slice (some ⟨W.heap.size,0,none⟩) fas fas,.slice none 0 0] 26)).drew (W.heap.size+1) W.heap.size n fas (List.replicate fas 0) (.slice none 0 0) []:=by
 have h1:=Am fas hf W W.heap.size (Nat.le_refl _);rw [List.toArray_replicate]at h1;have h2:=heap_alloc_new (W.alloc (.cells (Array.replicate fas (Value.int .u64 0)) 41)) (.cells #[.int .i64 (n:Int),.slice (some ⟨W.heap.size,0,none⟩) fas fas,.slice none 0 0] 26);rw [show(W.alloc (.cells (Array.replicate fas (Value.int .u64 0)) 41)).heap.size=W.heap.size+1 by simp]at h2;exact⟨((Qz.alloc _).alloc _).drew,⟨by omega,by omega⟩,h2,h1.ext ((Qz.alloc _).drew),by simp,⟨[],rfl,World.ownsRow_nil _ _ _ _,fun k u r hu _=>by simp at hu⟩,⟨(fun e=>by cases e),(fun e=>by cases e)⟩⟩
theorem Qik {W:World} {n fas:Nat}(hf:fas<=1000):MoI W ((W.alloc (.cells #[.int .i64 (n:Int),.slice (some ⟨W.heap.size+1,0,none⟩) fas fas,.slice none 0 0] 26)).alloc (.cells (Array.replicate fas (Value.int .u64 0)) 41)).drew W.heap.size (W.heap.size+1) n fas (List.replicate fas 0) (.slice none 0 0) []:=by
 have h1:=Am fas hf (W.alloc (.cells #[.int .i64 (n:Int),.slice (some ⟨W.heap.size+1,0,none⟩) fas fas,.slice none 0 0] 26)) W.heap.size (by simp);rw [List.toArray_replicate,show(W.alloc (.cells #[.int .i64 (n:Int),.slice (some ⟨W.heap.size+1,0,none⟩) fas fas,.slice none 0 0] 26)).heap.size=W.heap.size+1 by simp]at h1;have h2:((W.alloc (.cells #[.int .i64 (n:Int),.slice (some ⟨W.heap.size+1,0,none⟩) fas fas,.slice none 0 0] 26)).alloc (.cells (Array.replicate fas (Value.int .u64 0)) 41)).heap[W.heap.size]?=_:=((Qz.alloc _).block (by simp)).trans (heap_alloc_new W (.cells #[.int .i64 (n:Int),.slice (some ⟨W.heap.size+1,0,none⟩) fas fas,.slice none 0 0] 26))
 exact⟨((Qz.alloc _).alloc _).drew,⟨by omega,by omega⟩,h2,h1.ext (Qz.drew),by simp,⟨[],rfl,World.ownsRow_nil _ _ _ _,fun k u r hu _=>by simp at hu⟩,⟨(fun e=>by cases e),(fun e=>by cases e)⟩⟩
noncomputable def Qqx (lg:Int) (f:List Nd) (t:Nat):Bool:=(Xe lg f).1.getD t false&&(Xo f).getD t false
theorem An {m k:Nat}(h:m < 2^k):Ym m<=k:=by
 unfold Ym
 split
 ·omega
 rename_i h0;have:=(Nat.log2_lt h0).2 h;omega
structure Qy9 (lg:Int) (f:List Nd) (S:List Nat) (md:Md):Prop where
 n:md.n=S.length
 pos:0 < S.length
 le:S.length<=64
 al:∀u∈S,(Xe lg f).1.getD u false=true
 sel:∀t∈S,Sel lg (Zg (Qn f).1) (Zc (Qn f).1) (Xe lg f).1 (Ym (Jn (Qg f))) S t
 root:(Xo f).getD (S.getD 0 0) false=true
 rel:md.rel=(List.range (Ym (Jn (Qg f)))).map fun(a:Nat)=>(List.range S.length).map fun v=>Kk S.length fun w=>Ze lg (Zg (Qn f).1) (a:Int) (S.getD v 0) (S.getD w 0)
 vlen:md.val.length=Ym (Je (Qg f))
 vlow:∀s∈md.val,s < 2^S.length
 fact:∀(i p:Nat),i < (Qn f).1.length->(Qi ((Qn f).1.getD i [])).op=3->(Qi ((Qn f).1.getD i [])).i=(p:Int)->∀w,w < S.length->(md.val.getD p 0).testBit w=(S.getD w 0).testBit i
def Zqv(w:World)(lg:Int)(f:List Nd)(e:Ending)(w':World):Prop :=
 Ext w w'/\((Zd lg f≠0/\e=.returned (.tuple #[.agg #[.int .i64 0,.slice none 0 0,.slice none 0 0],.int .i64 0,.int .i64 (Zd lg f)]))\/
  (Zd lg f=0/\Kv lg f=false/\e=.returned (.tuple #[.agg #[.int .i64 0,.slice none 0 0,.slice none 0 0],.int .i64 0,.int .i64 6]))\/
  (Zd lg f=0/\Kv lg f=true/\∃vm md S,e=.returned (.tuple #[vm,.int .i64 0,.int .i64 0])/\MdV w' vm md/\md.ok/\Qy9 lg f S md)\/
  (Zd lg f=0/\Kv lg f=true/\6 < (Qn f).1.length/\e=.returned (.tuple #[.agg #[.int .i64 0,.slice none 0 0,.slice none 0 0],.int .i64 0,.int .i64 8])))
theorem Ql2(lg:Int)(v:Value)(f:List Nd)(w:World)(h:Fml w v f):
 Calls Tryz.prog 24 #[.int .i64 lg,v] w (Zqv w lg f):=by
 have hmm:= @run_makeMap Tryz.prog;have H:=Qq h;obtain⟨Af,cf,rfl,_⟩:=Qa h;clear h;have HW0:=Qq (show(w.alloc (.cells #[.int .i64 0,.slice none 0 0,.slice none 0 0] 26)).heap[w.heap.size]?=some (.cells #[.int .i64 0,.slice none 0 0,.slice none 0 0] 26 (0,0))from heap_alloc_new _ _);have HX0:=Qq (show Ext w (w.alloc (.cells #[.int .i64 0,.slice none 0 0,.slice none 0 0] 26))from Qz.alloc _);obtain⟨er,her⟩:∃er,er=Zd lg f:=⟨_,rfl⟩;have HER:=Qq her;by_cases hz:er=0
 ·subst hz;have HOK:=Qq (Sy her.symm);have HA:=Qq (Qvk HOK.out);clear her;go_enter Tryz.func24,Tryz.ntmps24;go_wp2_with fail;refine(Gr lg _ f _ (H.out.ext HX0.out)).mono ?_;rintro e w1 ⟨hx1,hr⟩;obtain⟨b,g,rfl,hb,hg,hE⟩:=(hr.resolve_left (fun h=>h.1 HER.out.symm)).2;have HE:=Qq hE;have HX1:=Qq hx1;have HGB:=Qq (show w.heap.size < g by simp at hg;omega);clear hr hb hg hE hx1;go_wp2_with fail;refine(Ea b g lg _ _ _ _ _ _ HE.out HA.out.lgr HA.out.le HA.out.len (fun k hk=>⟨(HA.out.ks k hk).1,by rw [(HA.out.ks k hk).2,HA.out.al];exact Nat.le_refl _⟩) (fun c hc=>by have:=HA.out.cs c hc;rw [HA.out.al];exact this)).mono ?_
  rintro e w2 ⟨vt,vw,rfl,hgr,hE2,_,_⟩;obtain⟨al,hal⟩:∃al,al=(Xe lg f).1:=⟨_,rfl⟩;have HAL:=Qq hal;rw [show(Hs lg (Zg (Qn f).1) (Zc (Qn f).1) (Qn f).1.length (Yf lg (Qn f).1)).1=al from hal.symm]at hE2;have HEN:=Qq hE2.eng;have HB1:=Qq ((HX1.out.block (by simp)).trans HW0.out);have HB2:=Qq ((hgr.block w.heap.size (Qm HB1.out) (fun e=>by injection e with e;have:=HGB.out;omega)).trans HB1.out);have HX2:=Qq (show Ext w w2 from(HX0.out.trans HX1.out).grown hgr (fun k e=>by injection e with e;have:=HGB.out;omega));have HRB:=Qq (show w.heap.size < w2.heap.size from Qm HB2.out)
  obtain⟨m,hm⟩:∃m,m=2^(Qn f).1.length:=⟨_,rfl⟩;have HM:=Qq hm;have HALN:=Qq (show al.length=m by rw [hal,hm,Rj]);have HRTN:=Qq (show(Xo f).length=m by rw [hm];exact HA.out.root);have hm40:m<=4096:=by rw [hm];exact Qxl HA.out.len
  have HKS:=Qq (show ∀k∈Zg (Qn f).1,k.place < 64/\al.length<=k.holds.length from fun k hk=>⟨(HA.out.ks k hk).1,by rw [(HA.out.ks k hk).2,HALN.out,hm];exact Nat.le_refl _⟩);have HCS:=Qq (show ∀c∈Zc (Qn f).1,c.place < 64/\c.x.length=al.length/\c.y.length=al.length/\0<=c.group/\c.group < 16 from fun c hc=>by have:=HA.out.cs c hc;rw [HALN.out,hm];exact this);have HLV:=Qq (show ∀t,al.getD t false=true->Qxn lg (Zg (Qn f).1) (Zc (Qn f).1) al t from fun t ht=>by rw [hal]at ht⊢;exact Qtp HOK.out ht);have HLF:=Qq (show Kv lg f=(List.range m).any (Qqx lg f) by unfold Kv Kg;rw [Rj,<-hm];rfl)
  have HRP:=Qq (show ∀t,Qqx lg f t=(al.getD t false&&(Xo f).getD t false)from fun t=>by rw [hal];rfl);clear hgr hE2 hal hm;obtain⟨Ab,cb,Ar,cr,Ak,ck,Ac,cc,Aa,ca,d0,d1,d2,d3,d4,d5,hbl,hfm,hrt,_,_,hal⟩:=HEN.out.cells;rw [HRTN.out]at d2;rw [HALN.out]at d5;have D1:=Qq d1;have D2:=Qq d2;have HBL:=Qq hbl;have HFM:=Qq hfm;have HRT:=Qq hrt;have HALB:=Qq hal;have hac:=hal.1;have hac2:=hal.2.1;have hrc:=hrt.1;have hrc2:=hrt.2.1;unfold maxLen at hac2 hrc2;rw [HALN.out]at hac;rw [HRTN.out]at hrc;clear hfm hrt hal d0 d3 d4 d1;go_upto_region 6 with(fail);obtain⟨w3,hw3⟩:∃x,x=(w2.alloc (.map #[] 0)).alloc (.cells #[.slice none 0 0,.map (some w2.heap.size)] 98):=⟨_,rfl⟩
  have HS3:=Qq (show Xa w2 w3 (.slice none 0 0) [] by rw [hw3];exact Xa.start w2);rw [<-hw3];clear hw3;have d2':=(HS3.out.ext.cell (p:=⟨b,2,none⟩) HBL.out).trans D2.out;have d5':=(HS3.out.ext.cell (p:=⟨b,5,none⟩) HBL.out).trans d5;have bl3:=Qy HBL.out HS3.out.ext.size;go_wp2_with fail;clear d2' d5' bl3;go_loopw [49] (fun v wr=>∃k:Nat,v=.int .i64 (k:Int)/\k<=m/\Hid (∃v' l',Xa w2 wr v' l'/\l'.length<=1/\(l'= []->∀j,j < k->Qqx lg f j=false)/\∀u∈l',Qqx lg f u=true)) (fun v _=>m - (intOf v).toNat)
  case atStart=>exact⟨0,rfl,Nat.zero_le _,Qq ⟨_,[],HS3.out,Nat.zero_le _,fun _ j hj=>absurd hj (by omega),fun u hu=>by cases hu⟩⟩
  case round =>
   clear HS3;obtain⟨k,rfl,hk,HREL⟩:=hrel;obtain⟨v1,l1,hs1,hl1,hj1,hu1⟩:=HREL.out;have HS:=Qq hs1;have HJ:=Qq hj1;have HU:=Qq hu1;clear HREL hs1 hj1 hu1;by_cases hlt2:k < m
   ·have hk1:(k:Int) < (m:Int):=by omega
    have d2':=(HS.out.ext.cell (p:=⟨b,2,none⟩) HBL.out).trans D2.out;have bl3:=Qy HBL.out HS.out.ext.size;obtain⟨_,rfl,hb1,a0⟩:=Vh (HALB.out.ext HS.out.ext) (show k < al.length by rw [HALN.out];exact hlt2);obtain⟨_,rfl,hb2,r0⟩:=Vh (HRT.out.ext HS.out.ext) (show k < (Xo f).length by rw [HRTN.out];exact hlt2);have HPK:=Qq (HRP.out k);have HNX:=Qq (fun(hno:l1= []->Qqx lg f k=false) (he:l1= []) j (hj:j < k+1)=>show Qqx lg f j=false from by
     by_cases e:j < k
     ·exact HJ.out he j e
     have:j=k:=by omega
     subst this;exact hno he)
    obtain⟨ak,hak⟩:∃x,x=al.getD k false:=⟨_,rfl⟩;obtain⟨rk,hrk⟩:∃x,x=(Xo f).getD k false:=⟨_,rfl⟩;rw [<-hak,<-hrk]at HPK;rw [<-hak]at a0;rw [<-hrk]at r0;clear hak hrk;obtain⟨e0,e1,el⟩:=HS.out.cells;obtain⟨A1,c1,rfl⟩:=Qt HS.out.row;cases ak
    ·go_wp2_with fail;go_roundw
     case rel=>exact⟨k+1,by go_num,by omega,Qq ⟨_,l1,HS.out,hl1,HNX.out (fun _=>by rw [HPK.out];rfl),HU.out⟩⟩
     case measure=>simp [intOf];omega
    cases rk
    ·go_wp2_with fail;go_roundw
     case rel=>exact⟨k+1,by go_num,by omega,Qq ⟨_,l1,HS.out,hl1,HNX.out (fun _=>by rw [HPK.out];rfl),HU.out⟩⟩
     case measure=>simp [intOf];omega
    by_cases hn0:l1.length=0
    ·have hq:((l1.length:Int)==0)=true:=by rw [hn0];rfl
     have HL1:=Qq (List.length_eq_zero_iff.1 hn0);have HAD:=Qq (show Bp l1 (k:Int)= [k] by rw [HL1.out];rfl);have hk40:(k:Int)<=4096:=by omega
     have hl40:l1.length<=4096:=by omega
     clear hn0;go_wp2_with fail;refine(Qvz w2 _ _ l1 (k:Int) HS.out hk40 hl40).mono ?_;rintro e w5 ⟨⟨r,rfl⟩,v5,hs5,_⟩;rw [HAD.out]at hs5;have HS5:=Qq hs5;clear hs5;go_wp2_with fail;go_roundw
     case rel=>exact⟨k+1,by go_num,by omega,Qq ⟨_,[k],HS5.out,Nat.le_refl _,(fun h=>by cases h),(fun u hu=>by rw [List.mem_singleton.1 hu,HPK.out];rfl)⟩⟩
     case measure=>simp [intOf];omega
    have hq:((l1.length:Int)==0)=false:=by rw [beq_eq_false_iff_ne];omega
    have HL1:=Qq (show l1≠ []from fun e=>hn0 (by rw [e];rfl));clear hn0;go_wp2_with fail;go_roundw
    case rel=>exact⟨k+1,by go_num,by omega,Qq ⟨_,l1,HS.out,hl1,(fun h=>absurd h HL1.out),HU.out⟩⟩
    case measure=>simp [intOf];omega
   obtain rfl:m=k:=by omega
   obtain⟨e0,e1,el⟩:=HS.out.cells;obtain⟨A1,c1,rfl⟩:=Qt HS.out.row;by_cases hn0:l1.length=0
   ·have hq:((l1.length:Int)==0)=true:=by rw [hn0];rfl
    have HL0:=Qq (show Kv lg f=false by
     rw [HLF.out,List.any_eq_false];intro t ht;rw [HJ.out (List.length_eq_zero_iff.1 hn0) t (List.mem_range.1 ht)];simp)
    have HBR:=Qq ((HS.out.ext.block (by have:=HRB.out;exact this)).trans HB2.out);obtain⟨⟨q0,q1,q2⟩,⟨f0,f1,f2⟩,ql⟩:=Gf HBR.out;have HXR:=Qq (HX2.out.trans HS.out.ext);clear hn0;go_wp2_with fail
    (try simp only [Exit.inBlock,Exit.then])
    refine bodyPost_ret (Ue Tryz.results24 _ _ rfl (Gs (Ls HBR.out _ _ _)) Tryz.underlying26 rfl (by kernel_rfl)) rfl ?_;exact⟨Py HXR.out (Nat.le_refl _) _ _ _,.inr (.inl ⟨HER.out.symm,HL0.out,rfl⟩)⟩
   obtain⟨t0,rfl⟩:∃t,l1= [t]:=by
    cases l1 with
    |nil=>exact absurd rfl hn0
    |cons a r=>cases r with
     |nil=>exact⟨a,rfl⟩
     |cons z r=>simp at hl1
   have HRT0:=Qq (HU.out t0 (List.mem_singleton.2 rfl));have HSO:=Qq (show SOk al [t0]from⟨by simp,fun u hu=>by
    have h1:=HRT0.out;rw [HRP.out,Bool.and_eq_true]at h1;rw [List.mem_singleton.1 hu];exact h1.1⟩)
   have hh:=(Jf HOK.out.ck).2.2.2;have hag:=Ni (Qg f) 0 hh (by decide);have hfa:=Ss (Qg f) 0 hh (by decide);obtain⟨am,ham⟩:∃x,x=Jn (Qg f):=⟨_,rfl⟩;obtain⟨fm,hfm⟩:∃x,x=Je (Qg f):=⟨_,rfl⟩;rw [show(Qg f).foldl agS 0=am from ham.symm]at hag;rw [show(Qg f).foldl faS 0=fm from hfm.symm]at hfa;have HAM:=Qq ham;have HFM2:=Qq hfm;have hwa:IntKind.u64.wrap (am:Int)=(am:Int):=by rw [IntKind.wrap_u64];omega
   have hwf:IntKind.u64.wrap (fm:Int)=(fm:Int):=by rw [IntKind.wrap_u64];omega
   clear hn0 hl1 hh ham hfm HJ HU;go_wp2_with fail;refine(Qq1 _ f _ (H.out.ext (HX2.out.trans HS.out.ext)) HOK.out.ck).mono ?_;rintro e w5 ⟨rfl,hx⟩;rw [<-HAM.out];have HS5:=Qq (HS.out.next hx);clear hx e0 e1 el;go_wp2_with fail;refine(Qdo am (by omega) _).mono ?_;rintro e w6 ⟨rfl,rfl⟩;go_wp2_with fail;refine(Qyq _ f _ (H.out.ext (HX2.out.trans HS5.out.ext)) HOK.out.ck).mono ?_;rintro e w7 ⟨rfl,hx⟩;rw [<-HFM2.out];have HS7:=Qq (HS5.out.next hx);clear hx HS HS5;go_wp2_with fail;refine(Qdo fm (by omega) _).mono ?_;rintro e w8 ⟨rfl,rfl⟩;have hag4:=An (m:=am) (k:=4) hag;have hfa8:=An (m:=fm) (k:=8) hfa
   obtain⟨ags,hags⟩:∃x,x=Ym am:=⟨_,rfl⟩;obtain⟨fas,hfas⟩:∃x,x=Ym fm:=⟨_,rfl⟩;have HAGS:=Qq (show ags=Ym (Jn (Qg f)) by rw [hags,HAM.out]);have HFAS:=Qq (show fas=Ym (Je (Qg f)) by rw [hfas,HFM2.out]);rw [<-hags]at hag4⊢;rw [<-hfas]at hfa8⊢;clear hags hfas hwa hwf hag hfa HAM HFM2;go_wp2_with fail;go_loopw [14] (fun v wr=>∃k:Nat,v=.int .i64 (k:Int)/\k<=m/\Hid (∃v' l',Xa w2 wr v' l'/\Kz al [t0] l'/\k<=l'.length/\∀j,j < k->Sel lg (Zg (Qn f).1) (Zc (Qn f).1) al ags l' (l'.getD j 0))) (fun v _=>m - (intOf v).toNat)
   case atStart=>exact⟨0,rfl,Nat.zero_le _,Qq ⟨_,[t0],HS7.out,Kz.refl,Nat.zero_le _,fun j hj=>absurd hj (by omega)⟩⟩
   case round =>
    clear HS7;obtain⟨k,rfl,hk,HREL⟩:=hrel;obtain⟨v1,l1,hs1,hg1,hkl,hj1⟩:=HREL.out;have HS:=Qq hs1;have HG:=Qq hg1;have HJ:=Qq hj1;have HO:=Qq (HSO.out.grow hg1);have hlm:l1.length<=m:=by have:=HO.out.len;rw [HALN.out]at this;exact this
    clear HREL hs1 hg1 hj1;obtain⟨e0,e1,el⟩:=HS.out.cells;by_cases hlt2:k < l1.length
    ·have hk1:(k:Int) < (l1.length:Int):=by omega
     obtain⟨g2,cap2,hsl2,hgl2,_,hs12,hs22,a0⟩:=Uk HS.out.row hlt2 rfl;subst hsl2;unfold maxLen at hs22;have hum:l1.getD k 0∈l1:=by rw [Qk,Qv hlt2];exact List.getElem_mem _
     have HLU:=Qq (HLV.out _ (HO.out.al _ hum));have hul:l1.getD k 0 < m:=by have:=HO.out.lt _ hum;rw [HALN.out]at this;exact this
     have HNX:=Qq (fun(l2:List Nat) (hg2:Kz al l1 l2) (hsel:Sel lg (Zg (Qn f).1) (Zc (Qn f).1) al ags l2 (l1.getD k 0)) j (hj:j < k+1)=>show Sel lg (Zg (Qn f).1) (Zc (Qn f).1) al ags l2 (l2.getD j 0)from by
      rw [hg2.get (by omega)];by_cases e:j < k
      ·exact(HJ.out j e).mono hg2.sub
      have:j=k:=by omega
      subst this;exact hsel)
     obtain⟨u,hu⟩:∃u,u=l1.getD k 0:=⟨_,rfl⟩;rw [<-hu]at a0 hul HLU HNX;have hwr:IntKind.u64.wrap (u:Int)=(u:Int):=by rw [IntKind.wrap_u64];omega
     have hua:u < al.length:=by rw [HALN.out];exact hul
     have hma:al.length<=4096:=by rw [HALN.out];omega
     clear hum hu;go_wp2_with fail;refine(Qn0 b lg _ _ _ _ al ags u w2 _ _ l1 HEN.out HA.out.lgr hua hma HKS.out HCS.out hag4 HLU.out HS.out HO.out).mono ?_;rintro e w9 ⟨⟨r,rfl⟩,v2,l2,hs2,hg2,hsel2⟩;have HS2:=Qq hs2;have HG2:=Qq hg2;have HSEL:=Qq (HNX.out l2 hg2 hsel2);have hl12:l1.length<=l2.length:=hg2.pre.length_le;clear hs2 hg2 hsel2;go_wp2_with fail;go_roundw
     case rel=>exact⟨k+1,by go_num,by omega,Qq ⟨_,l2,HS2.out,HG.out.trans HG2.out,by omega,HSEL.out⟩⟩
     case measure=>simp [intOf];omega
    obtain rfl:l1.length=k:=by omega
    obtain⟨A1,c1,rfl⟩:=Qt HS.out.row;by_cases h65:64 < l1.length
    ·have h64:(64:Int) < (l1.length:Int):=by omega
     have HBR:=Qq ((HS.out.ext.block (by have:=HRB.out;exact this)).trans HB2.out);obtain⟨⟨q0,q1,q2⟩,⟨f0,f1,f2⟩,ql⟩:=Gf HBR.out;have HXR:=Qq (HX2.out.trans HS.out.ext);have HLT:=Qq (show Kv lg f=true by
      rw [HLF.out,List.any_eq_true];have h1:=HRT0.out;refine⟨t0,List.mem_range.2 ?_,h1⟩;rw [HRP.out,Bool.and_eq_true]at h1;have:=Kt h1.1;rw [HALN.out]at this;exact this)
     have HB7:=Qq (show 6 < (Qn f).1.length from Nat.lt_of_not_le fun hle=>by
      have h1:m<=2^6:=by rw [HM.out];exact Nat.pow_le_pow_right (by decide) hle
      omega)
     clear hlm hlt2 h65;go_wp2_with fail
     (try simp only [Exit.inBlock,Exit.then])
     refine bodyPost_ret (Ue Tryz.results24 _ _ rfl (Gs (Ls HBR.out _ _ _)) Tryz.underlying26 rfl (by kernel_rfl)) rfl ?_;exact⟨Py HXR.out (Nat.le_refl _) _ _ _,.inr (.inr (.inr ⟨HER.out.symm,HLT.out,HB7.out,rfl⟩))⟩
    have hn64:l1.length<=64:=by omega
    have h64:¬(64:Int) < (l1.length:Int):=by omega
    have hmk:=Qyr fas (by omega);go_upto_region 21 with(fail);obtain⟨W5,hW5⟩:∃W,W=wr:=⟨_,rfl⟩;subst hW5;refine Qzk (X21 W5 l1.length fas) ?_ ?_
    ·skip
     refine Vb 9 (fun w'=>w'.cell? (⟨w2.heap.size+1,0,none⟩)=some (.slice A1 l1.length c1)) (by kernel_rfl) (xd el e0) (fun hHeld=> ?_);refine utk 0 hHeld ?_;refine utk 1 hHeld ?_;refine utk 2 hHeld ?_;refine utk 3 hHeld ?_;refine utk 4 hHeld ?_;refine utk 5 hHeld ?_;refine Zs (rs:= [6,8]) (by kernel_rfl) (by simp) ?_;refine Za.cons rfl (fun K hK=> ?_) (Za.cons rfl (fun K hK=> ?_) Za.nil)
     ·skip
      go_simp;refine hK.out _ _ (xd el e0) (fun hHeld=> ?_);clear hK K;refine Qb ?_;refine utk 7 hHeld ?_;refine Zs (rs:= [8]) (by kernel_rfl) (by simp) ?_;refine Za.cons rfl (fun K hK=> ?_) Za.nil;go_simp;refine hK.out _ _ (xd el e0) (fun hHeld=> ?_);clear hK K;refine Qb ?_;refine Vk (by kernel_rfl) rfl (fun K hK=> ?_);go_simp;refine hK.out _ _ ?_;clear hK K;refine Qb ?_;refine Vv (by kernel_rfl) ?_ _
      first
      |(apply Qjo (mb:=W5.heap.size+1) (vb:=W5.heap.size)
        ·simp only [Act.put,List.setIfInBounds_toArray,List.set_cons_zero,List.set_cons_succ];exact rfl
        exact Qiv (by omega))
      |(apply Qjo (mb:=W5.heap.size) (vb:=W5.heap.size+1)
        ·simp only [Act.put,List.setIfInBounds_toArray,List.set_cons_zero,List.set_cons_succ];exact rfl
        exact Qik (by omega))
     skip
     go_simp;refine hK.out _ _ (xd el e0) (fun hHeld=> ?_);clear hK K;refine Qb ?_;refine Zs (rs:= [6]) (by kernel_rfl) (by simp) ?_;refine Za.cons rfl (fun K hK=> ?_) Za.nil;go_simp;refine hK.out _ _ (xd el e0) (fun hHeld=> ?_);clear hK K;refine Qb ?_;refine utk 7 hHeld ?_;refine Vk (by kernel_rfl) rfl (fun K hK=> ?_);go_simp;refine hK.out _ _ ?_;clear hK K;refine Qb ?_;refine Vv (by kernel_rfl) ?_ _
     first
     |(apply Qjo (mb:=W5.heap.size+1) (vb:=W5.heap.size)
       ·simp only [Act.put,List.setIfInBounds_toArray,List.set_cons_zero,List.set_cons_succ];exact rfl
       exact Qiv (by omega))
     |(apply Qjo (mb:=W5.heap.size) (vb:=W5.heap.size+1)
       ·simp only [Act.put,List.setIfInBounds_toArray,List.set_cons_zero,List.set_cons_succ];exact rfl
       exact Qik (by omega))
    rintro a' w6 ⟨mb,vb,hmi,v119,v120,v121,v122,v123,v124,v125,v126,rfl⟩;simp only [Act.put,List.setIfInBounds_toArray,List.set_cons_zero,List.set_cons_succ];have HMI:=Qq hmi;have HS6:=Qq (HS.out.next hmi.ext);obtain⟨bl,hbl2⟩:∃x,x=(Qn f).1.length:=⟨_,rfl⟩;have HBLN:=Qq hbl2;have hb6:bl<=12:=by rw [hbl2];exact HA.out.len
    have x1:=(HS6.out.ext.cell (p:=⟨b,1,none⟩) HBL.out).trans D1.out;have xl:=Qy HBL.out HS6.out.ext.size;rw [<-hbl2]at x1;have hpos:0 < l1.length:=by have:=HG.out.pre.length_le;simp at this;omega
    clear hmi hbl2 e0 e1 el hmk h64;go_wp2_with fail;clear x1 xl;go_loopw [132] (fun v wr=>∃k:Nat,v=.int .i64 (k:Int)/\k<=bl/\Hid (∃vals,MoI W5 wr mb vb l1.length fas vals (.slice none 0 0) []/\Rm (Qn f).1 l1 k vals)) (fun v _=>bl - (intOf v).toNat)
    case atStart=>exact⟨0,rfl,Nat.zero_le _,Qq ⟨_,HMI.out,Rm.start _ _ _⟩⟩
    case round =>
     clear HMI HS6;obtain⟨k,rfl,hk,HREL⟩:=hrel;obtain⟨vals,hmi,hfi⟩:=HREL.out;have HMI:=Qq hmi;have HFI:=Qq hfi;have HS6:=Qq (HS.out.next hmi.ext);clear HREL hmi hfi;by_cases hlt2:k < bl
     ·have hk1:(k:Int) < (bl:Int):=by omega
      obtain⟨s,hsd⟩:∃s,s=(Qn f).1.getD k []:=⟨_,rfl⟩;have hklen:k < (Qn f).1.length:=by rw [<-HBLN.out];exact hlt2
      have hsk:(Qn f).1[k]?=some s:=by rw [hsd,Qk,Qv hklen];rfl
      have HSD:=Qq hsd;obtain⟨_,_,hsl,_,_,hne⟩:=HFM.out;injection hsl with hsl1 _ hsl3;subst hsl1 hsl3;obtain⟨ad,rfl,hadl,hcs⟩:=hne (by intro e;rw [e]at hklen;simp at hklen);obtain⟨u,hcu,hfu⟩:=hcs k s hsk;have c0:=(HS6.out.ext.cell (p:=ad.add k) (Qj hadl)).trans hcu;have cl:(ad.add k).block < wr.heap.size:=by rw [Qp];exact Qy hadl HS6.out.ext.size
      have HFU:=Qq (hfu.ext HS6.out.ext);have hs0:0 < s.length:=by
       obtain⟨t,ht,hc,_⟩:=HOK.out.b.can s (List.mem_of_getElem? hsk);rw [hc];exact Gv ht.xp.1.1
      clear hcs hcu hfu hsd hsk hne hadl;go_wp2_with fail;refine(Ca _ s _ HFU.out hs0).mono ?_;rintro e w7 ⟨u1,u2,rfl,hx7,hf1,hf2⟩;have HM7:=Qq (HMI.out.next hx7);obtain⟨nn,hnn⟩:∃nn,nn=Qi s:=⟨_,rfl⟩;have HNN:=Qq (show nn=Qi ((Qn f).1.getD k []) by rw [hnn,HSD.out]);rw [<-hnn];unfold Nd.val;obtain⟨A5,c5,rfl,_⟩:=Qa hf1;obtain⟨A6,c6,rfl,_⟩:=Qa hf2;clear hx7 hf1 hf2 hnn c0 cl HMI HS6;by_cases ho:nn.op=3
      ·have HOP:=Qq (show(Qi ((Qn f).1.getD k [])).op=3 by rw [<-HNN.out];exact ho);obtain⟨p,hp,hpf,-⟩:=Qvg HOK.out HER.out.symm hklen HOP.out;rw [<-HNN.out]at hp;rw [<-HFAS.out]at hpf;have hpi:(p:Int) < (fas:Int):=by omega
       have HUQ:=Qq (show ∀j,j < k->¬((Qi ((Qn f).1.getD j [])).op=3/\(Qi ((Qn f).1.getD j [])).i=(p:Int))from fun j hj hh=>by
        have:=Qtw HOK.out HER.out.symm (i:=j) (j:=k) (by omega) hklen hh.1 hh.2 HOP.out (by rw [<-HNN.out];exact hp)
        omega)
       have HPI:=Qq (show(Qi ((Qn f).1.getD k [])).i=(p:Int) by rw [<-HNN.out];exact hp);rw [hp,ho];have HZ0:=Qq (HFI.out.zero p HUQ.out);obtain⟨w8,hw8⟩:∃x,x=w7.alloc (.cells #[.int .i64 3,.int .i64 (p:Int),.int .i64 nn.e,.int .i64 nn.g,.int .i64 nn.x,.int .i64 nn.y] 71):=⟨_,rfl⟩;have HM8:=Qq (show MoI W5 w8 mb vb l1.length fas vals (.slice none 0 0) [] by rw [hw8];exact HM7.out.next (Qz.alloc _));have HS8:=Qq (HS.out.next HM8.out.ext);obtain⟨nb,hnb⟩:∃x,x=w7.heap.size:=⟨_,rfl⟩;have HNB:=Qq (show w8.heap[nb]?=some (.cells #[.int .i64 3,.int .i64 (p:Int),.int .i64 nn.e,.int .i64 nn.g,.int .i64 nn.x,.int .i64 nn.y] 71 (0,0))/\nb≠vb by
        refine⟨by rw [hw8,hnb];exact heap_alloc_new _ _,?_⟩;have:=(HM7.out.row.lt vb rfl).2
        omega)
       clear hp ho hklen;go_upto_region 26 with(fail);rw [<-hw8,<-hnb];clear hw8 hnb;obtain⟨n0,n1,n3,nl⟩:=Qdv HNB.out.1;obtain⟨e0,e1,el⟩:=HS8.out.cells;go_wp2_with fail;clear n0 n1 n3 nl e0 e1 el;obtain⟨wo,hwo⟩:∃v,v=wr:=⟨_,rfl⟩;subst hwo;go_loopw [151] (fun v wr=>∃x:Nat,v=.int .i64 (x:Int)/\x<=l1.length/\Hid (∃z,MoI W5 wr mb vb l1.length fas (vals.set p z) (.slice none 0 0) []/\Pz l1 k x z/\wr.heap[nb]?=some (.cells #[.int .i64 3,.int .i64 (p:Int),.int .i64 nn.e,.int .i64 nn.g,.int .i64 nn.x,.int .i64 nn.y] 71 (0,0)))) (fun v _=>l1.length - (intOf v).toNat)
       case atStart=>exact⟨0,rfl,Nat.zero_le _,Qq ⟨0,by
        have:vals.set p 0=vals:=by
         refine List.ext_getElem (by simp) fun i h1 h2=> ?_
         rw [List.getElem_set]
         split
         ·rename_i e;subst e;have:=HZ0.out;rw [Qk,Qv h2]at this;exact this.symm
         rfl
        rw [this];exact HM8.out,Pz.start _ _,HNB.out.1⟩⟩
       case round =>
        clear HM8 HM7 HS8;obtain⟨x,rfl,hx,HREL⟩:=hrel;obtain⟨z,hmi,hwk,hnbr⟩:=HREL.out;have HMI:=Qq hmi;have HWK:=Qq hwk;have HNR:=Qq hnbr;have HSR:=Qq (HS.out.next hmi.ext);clear HREL hmi hwk hnbr;by_cases hlt3:x < l1.length
        ·have hx1:(x:Int) < (l1.length:Int):=by omega
         have hx64:x < 64:=by omega
         obtain⟨g2,cap2,hsl2,hgl2,_,hs12,hs22,a0⟩:=Uk HSR.out.row hlt3 rfl;injection hsl2 with hsl2a _ hsl2b;subst hsl2a hsl2b;unfold maxLen at hs22;obtain⟨n0,n1,n3,nl⟩:=Qdv HNR.out;obtain⟨⟨m0,m1,m2⟩,_,ml⟩:=HMI.out.cells;have hvl:(vals.set p z).length=fas:=HMI.out.len;obtain⟨-,vl,-,-,hvc2,hvc,hvf⟩:=HMI.out.row.at_ (by rw [hvl];omega);have v0:=hvc p (by rw [hvl];exact hpf);have vf:=hvf p;rw [List.length_set]at hvl;rw [Pk,if_pos ⟨rfl,by rw [hvl];exact hpf⟩]at v0;unfold maxLen at hvc2;have HZL:=Qq (show Zj z from Qy HWK.out.low (Nr hn64));have hum:l1.getD x 0∈l1:=by rw [Qk,Qv hlt3];exact List.getElem_mem _
         have hul:l1.getD x 0 < m:=by have:=HO.out.lt _ hum;rw [HALN.out]at this;exact this
         have HST:=Qq (HWK.out.step hlt3);obtain⟨u,hu⟩:∃u,u=l1.getD x 0:=⟨_,rfl⟩;rw [<-hu]at a0 hul HST;have hk64:k < 64:=by omega
         clear hum hu m0 m2 n0 n3 hvc hvf HWK hvl;have hla:=Qs6 u k (by omega);cases hub:u.testBit k
         ·rw [hub]at hla HST;have hor:=Qe1 HZL.out;simp only [Bool.false_eq_true,if_false,Nat.or_zero,Int.natCast_zero]at hla HST;clear hub;go_upto_region 30 with(fail);obtain⟨W30,hW30⟩:∃v,v=wr:=⟨_,rfl⟩;subst hW30;refine Vb 15 (fun w'=>w'.cell? (⟨mb,1,none⟩)=some (.slice (some ⟨vb,0,none⟩) fas fas)/\w'.cell? (⟨nb,1,none⟩)=some (.int .i64 (p:Int))/\w'.cell? (⟨vb,p,none⟩)=some (.int .u64 (z:Int))) (by kernel_rfl) ⟨xd ml m1,xd nl n1,xd vl v0⟩ (fun hHeld=> ?_);refine utk 0 hHeld ?_;refine utk 1 hHeld ?_;refine utk 2 hHeld ?_;refine utk 3 hHeld ?_;refine utk 4 hHeld ?_;refine utk 5 hHeld ?_;refine utk 6 hHeld ?_
          refine utk 7 hHeld ?_;refine utk 8 hHeld ?_;refine utk 9 hHeld ?_;refine utk 10 hHeld ?_;refine utk 11 hHeld ?_;refine utk 12 hHeld ?_;refine utk 13 hHeld ?_;refine utk 14 hHeld ?_;refine Vk (by kernel_rfl) rfl (fun K hK=> ?_);go_simp;refine hK.out _ _ ?_;clear hK K;refine Qb ?_;refine Vv (by kernel_rfl) ?_ _;rw [show bits .or .u64 (z:Int) (IntKind.u64.wrap (IntKind.u64.wrap 0*2^x))=((z:Nat):Int)from by rw [Qog];exact hor];have HM9:=Qq (HMI.out.setVal p (z));rw [List.set_set]at HM9;have HN9:=Qq ((Below.heap_setCell W30 ⟨vb,p,none⟩ (.int .u64 ((z:Nat):Int)) nb HNB.out.2).trans HNR.out)
          clear hor hla v0 vf n1 m1 HMI HNR HSR nl ml vl a0;go_wp2_with fail;go_roundw
          case rel=>exact⟨x+1,by go_num,by omega,Qq ⟨z,HM9.out.next (Qz.drew),HST.out,HN9.out⟩⟩
          case measure=>simp [intOf];omega
         rw [hub]at hla HST;have hor:=Qfv HZL.out hx64;simp only [if_true,Int.natCast_one]at hla HST;clear hub;go_upto_region 30 with(fail);obtain⟨W30,hW30⟩:∃v,v=wr:=⟨_,rfl⟩;subst hW30;refine Vb 15 (fun w'=>w'.cell? (⟨mb,1,none⟩)=some (.slice (some ⟨vb,0,none⟩) fas fas)/\w'.cell? (⟨nb,1,none⟩)=some (.int .i64 (p:Int))/\w'.cell? (⟨vb,p,none⟩)=some (.int .u64 (z:Int))) (by kernel_rfl) ⟨xd ml m1,xd nl n1,xd vl v0⟩ (fun hHeld=> ?_);refine utk 0 hHeld ?_;refine utk 1 hHeld ?_;refine utk 2 hHeld ?_;refine utk 3 hHeld ?_;refine utk 4 hHeld ?_;refine utk 5 hHeld ?_;refine utk 6 hHeld ?_;refine utk 7 hHeld ?_
         refine utk 8 hHeld ?_;refine utk 9 hHeld ?_;refine utk 10 hHeld ?_;refine utk 11 hHeld ?_;refine utk 12 hHeld ?_;refine utk 13 hHeld ?_;refine utk 14 hHeld ?_;refine Vk (by kernel_rfl) rfl (fun K hK=> ?_);go_simp;refine hK.out _ _ ?_;clear hK K;refine Qb ?_;refine Vv (by kernel_rfl) ?_ _;rw [show bits .or .u64 (z:Int) (IntKind.u64.wrap (IntKind.u64.wrap 1*2^x))=((z|||2^x:Nat):Int)from by rw [Qof];exact hor];have HM9:=Qq (HMI.out.setVal p (z|||2^x));rw [List.set_set]at HM9;have HN9:=Qq ((Below.heap_setCell W30 ⟨vb,p,none⟩ (.int .u64 ((z|||2^x:Nat):Int)) nb HNB.out.2).trans HNR.out)
         clear hor hla v0 vf n1 m1 HMI HNR HSR nl ml vl a0;go_wp2_with fail;go_roundw
         case rel=>exact⟨x+1,by go_num,by omega,Qq ⟨z|||2^x,HM9.out.next (Qz.drew),HST.out,HN9.out⟩⟩
         case measure=>simp [intOf];omega
        obtain rfl:l1.length=x:=by omega
        have HF9:=Qq (HFI.out.next HUQ.out HOP.out HPI.out (by have:=HMI.out.len;rw [List.length_set]at this;omega) HWK.out);go_wp2_with fail;go_roundw
        case rel=>exact⟨k+1,by go_num,by omega,Qq ⟨_,HMI.out,HF9.out⟩⟩
        case measure=>simp [intOf];omega
      have HF9:=Qq (HFI.out.other (by rw [<-HNN.out];exact ho));have ho3:(nn.op==3)=false:=by rw [beq_eq_false_iff_ne];exact ho
      clear ho;go_wp2_with fail;go_roundw
      case rel=>exact⟨k+1,by go_num,by omega,Qq ⟨vals,HM7.out.next (Qz.alloc _),HF9.out⟩⟩
      case measure=>simp [intOf];omega
     obtain rfl:bl=k:=by omega
     obtain⟨e0,e1,el⟩:=HS6.out.cells;obtain⟨wb,hwb⟩:∃v,v=wr:=⟨_,rfl⟩;subst hwb;have HFA:=Qq (show Rm (Qn f).1 l1 (Qn f).1.length vals by rw [<-HBLN.out];exact HFI.out);clear HFI e0 e1 el;go_wp2_with fail;go_loopw [174] (fun v wr=>∃k:Nat,v=.int .i64 (k:Int)/\k<=ags/\Hid (∃vr,MoI W5 wr mb vb l1.length fas vals vr ((List.range k).map fun(a:Nat)=>(List.range l1.length).map fun v=>Kk l1.length fun w=>Ze lg (Zg (Qn f).1) (a:Int) (l1.getD v 0) (l1.getD w 0)))) (fun v _=>ags - (intOf v).toNat)
     case atStart=>exact⟨0,rfl,Nat.zero_le _,Qq ⟨_,HMI.out⟩⟩
     case round =>
      clear HMI HS6;obtain⟨k,rfl,hk,HREL⟩:=hrel;obtain⟨vr,hmi⟩:=HREL.out;obtain⟨rows,hrows⟩:∃x,x=((List.range k).map fun(a:Nat)=>(List.range l1.length).map fun v=>Kk l1.length fun w=>Ze lg (Zg (Qn f).1) (a:Int) (l1.getD v 0) (l1.getD w 0)):=⟨_,rfl⟩;have HROWS:=Qq hrows;rw [<-hrows]at hmi;have HMI:=Qq hmi;have HS6:=Qq (HS.out.next hmi.ext);clear HREL hmi hrows;obtain⟨e0,e1,el⟩:=HS6.out.cells;by_cases hlt2:k < ags
      ·have hk1:(k:Int) < (ags:Int):=by omega
       obtain⟨P,hP⟩:∃P:Nat->Nat->Bool,P=fun v w=>Ze lg (Zg (Qn f).1) (k:Int) (l1.getD v 0) (l1.getD w 0):=⟨_,rfl⟩
       have HP:=Qq (show ∀v w,P v w=Ze lg (Zg (Qn f).1) (k:Int) (l1.getD v 0) (l1.getD w 0)from fun v w=>by rw [hP]);have HRN:=Qq (show((List.range (k+1)).map fun(a:Nat)=>(List.range l1.length).map fun v=>Kk l1.length fun w=>Ze lg (Zg (Qn f).1) (a:Int) (l1.getD v 0) (l1.getD w 0))=rows++ [(List.range l1.length).map fun v=>Kk l1.length (P v)] by rw [List.range_succ,List.map_append,<-HROWS.out,hP];rfl);clear hP;have hmk:=Qyr l1.length (by omega);obtain⟨wa,hwa⟩:∃v,v=wr:=⟨_,rfl⟩;subst hwa;obtain⟨rb,hrb⟩:∃x,x=wa.heap.size:=⟨_,rfl⟩;have HRB2:=Qq hrb;have HR0:=Qq (Am l1.length (by omega) wa wa.heap.size (Nat.le_refl _))
       rw [List.toArray_replicate,<-hrb]at HR0;go_upto_region 37 with(fail);obtain⟨wc,hwc⟩:∃x,x=(wa.alloc (.cells (Array.replicate l1.length (Value.int .u64 0)) 41)):=⟨_,rfl⟩;have HXC:=Qq (show Ext wa wc by rw [hwc];exact Qz.alloc _);rw [<-hwc]at HR0;rw [<-hwc,<-hrb];clear hwc hrb e0 e1 el hmk;have HSC:=Qq (HS6.out.next HXC.out);obtain⟨e0,e1,el⟩:=HSC.out.cells;go_wp2_with fail;clear e0 e1 el HSC;go_loopw [188] (fun v wr=>∃x:Nat,v=.int .i64 (x:Int)/\x<=l1.length/\Hid (∃r,Ext wa wr/\Jz rb wr (.slice (some ⟨rb,0,none⟩) l1.length l1.length) r/\Bm l1.length P x 0 r)) (fun v _=>l1.length - (intOf v).toNat)
       case atStart=>exact⟨0,rfl,Nat.zero_le _,Qq ⟨_,HXC.out,HR0.out,Bm.start _ _⟩⟩
       case round =>
        clear HR0 HXC;obtain⟨x,rfl,hx,HREL⟩:=hrel;obtain⟨r,hxr,hmr,hrk⟩:=HREL.out;have HXR:=Qq hxr;have HMR:=Qq hmr;have HRK:=Qq hrk;have HSR:=Qq (HS6.out.next hxr);clear HREL hxr hmr hrk;by_cases hlt3:x < l1.length
        ·have hx1:(x:Int) < (l1.length:Int):=by omega
         obtain⟨g2,cap2,hsl2,hgl2,_,hs12,hs22,a0⟩:=Uk HSR.out.row hlt3 rfl;injection hsl2 with hsl2a _ hsl2b;subst hsl2a hsl2b;unfold maxLen at hs22;obtain⟨e0,e1,el⟩:=HSR.out.cells;have hum:l1.getD x 0∈l1:=by rw [Qk,Qv hlt3];exact List.getElem_mem _
         have hul:l1.getD x 0 < m:=by have:=HO.out.lt _ hum;rw [HALN.out]at this;exact this
         obtain⟨u,hu⟩:∃u,u=l1.getD x 0:=⟨_,rfl⟩;have HU1:=Qq hu;rw [<-hu]at a0 hul;have hwu:IntKind.u64.wrap (u:Int)=(u:Int):=by rw [IntKind.wrap_u64];omega
         clear hum hu;obtain⟨wo,hwo⟩:∃v,v=wr:=⟨_,rfl⟩;subst hwo;go_wp2_with fail;clear a0 e0 e1 el hgl2;go_loopw [198] (fun v wr=>∃y:Nat,v=.int .i64 (y:Int)/\y<=l1.length/\Hid (∃r,Ext wa wr/\Jz rb wr (.slice (some ⟨rb,0,none⟩) l1.length l1.length) r/\Bm l1.length P x y r)) (fun v _=>l1.length - (intOf v).toNat)
         case atStart=>exact⟨0,rfl,Nat.zero_le _,Qq ⟨_,HXR.out,HMR.out,HRK.out⟩⟩
         case round =>
          clear HMR HXR HRK HSR;obtain⟨y,rfl,hy,HREL⟩:=hrel;obtain⟨r,hxr,hmr,hrk⟩:=HREL.out;have HXR:=Qq hxr;have HMR:=Qq hmr;have HRK:=Qq hrk;have HSR:=Qq (HS6.out.next hxr);clear HREL hxr hmr hrk;by_cases hlt4:y < l1.length
          ·have hy1:(y:Int) < (l1.length:Int):=by omega
           have hy64:y < 64:=by omega
           obtain⟨g3,cap3,hsl3,hgl3,_,hs13,hs23,a0⟩:=Uk HSR.out.row hlt4 rfl;injection hsl3 with hsl3a _ hsl3b;injection hsl3a with hsl3a;injection hsl3a with hsl3a;subst hsl3a hsl3b;have hum:l1.getD y 0∈l1:=by rw [Qk,Qv hlt4];exact List.getElem_mem _
           have hul2:l1.getD y 0 < m:=by have:=HO.out.lt _ hum;rw [HALN.out]at this;exact this
           have HPV:=Qq (show P x y=Ze lg (Zg (Qn f).1) (k:Int) u (l1.getD y 0) by rw [HP.out,HU1.out]);obtain⟨q,hq⟩:∃q,q=l1.getD y 0:=⟨_,rfl⟩;rw [<-hq]at a0 hul2 HPV;have hwq:IntKind.u64.wrap (q:Int)=(q:Int):=by rw [IntKind.wrap_u64];omega
           have HPO:=Qq (Sk b lg _ _ _ _ _ (k:Int) u q wr (HEN.out.ext HSR.out.ext) HA.out.lgr (by omega) (by omega) (fun n hn=>⟨(HKS.out n hn).1,by have:=(HKS.out n hn).2;rw [HALN.out]at this;omega⟩));rw [<-HPV.out]at HPO;clear hum hq HPV;cases hpb:P x y
           ·rw [hpb]at HPO;have HRN2:=Qq (HRK.out.no hpb);clear hpb;go_wp2_with fail;refine HPO.out.mono ?_;rintro e w9 ⟨rfl,hx9⟩;have HX9:=Qq (HXR.out.trans hx9);have HM9:=Qq (HMR.out.ext hx9);clear hx9;go_wp2_with fail;go_roundw
            case rel=>exact⟨y+1,by go_num,by omega,Qq ⟨r,HX9.out,HM9.out,HRN2.out⟩⟩
            case measure=>simp [intOf];omega
           rw [hpb]at HPO;have HRN2:=Qq (HRK.out.yes hlt3 hpb);have HWZ:=Qq (show Zj (r.getD x 0)from Qy (HRK.out.low hy hlt3) (Nr hn64));have hor:=Qfv HWZ.out hy64;clear hpb;go_wp2_with fail;refine HPO.out.mono ?_;rintro e w9 ⟨rfl,hx9⟩;have HX9:=Qq (HXR.out.trans hx9);have HM9:=Qq (HMR.out.ext hx9);have hrl:=HRK.out.len;obtain⟨-,vl,-,-,-,hvc,hvf⟩:=HM9.out.at_ (by rw [hrl];omega);have v0:=hvc x (by rw [hrl];exact hlt3);have vf:=hvf x;obtain⟨z,hz2⟩:∃z,z=r.getD x 0:=⟨_,rfl⟩;rw [<-hz2]at v0 hor HRN2;clear hx9 hrl hvc hvf hz2 a0 hgl3;go_upto_region 44 with(fail);refine Vb 8 (fun w'=>w'.cell? (⟨rb,x,none⟩)=some (.int .u64 (z:Int))) (by kernel_rfl) (xd vl v0) (fun hHeld=> ?_)
           refine utk 0 hHeld ?_;refine utk 1 hHeld ?_;refine utk 2 hHeld ?_;refine utk 3 hHeld ?_;refine utk 4 hHeld ?_;refine utk 5 hHeld ?_;refine utk 6 hHeld ?_;refine utk 7 hHeld ?_;refine Vk (by kernel_rfl) rfl (fun K hK=> ?_);go_simp;refine hK.out _ _ ?_;clear hK K;refine Qb ?_;refine Vv (by kernel_rfl) ?_ _;have HM10:=Qq (HM9.out.set HRK.out.len x (z|||2^y));have HX10:=Qq (HX9.out.setCell (p:=⟨rb,x,none⟩) (by rw [<-HRB2.out];exact Nat.le_refl _) (.int .u64 ((z|||2^y:Nat):Int)));clear hor v0 vf HM9 HX9 vl;go_wp2_with fail;go_roundw
           case rel=>exact⟨y+1,by go_num,by omega,Qq ⟨_,HX10.out.drew,HM10.out.ext (Qz.drew),HRN2.out⟩⟩
           case measure=>simp [intOf];omega
          obtain rfl:l1.length=y:=by omega
          have HRT2:=Qq HRK.out.turn;go_wp2_with fail;go_roundw
          case rel=>exact⟨x+1,by go_num,by omega,Qq ⟨r,HXR.out,HMR.out,HRT2.out⟩⟩
          case measure=>simp [intOf];omega
        obtain rfl:l1.length=x:=by omega
        have HRD:=Qq HRK.out.done;have HMA:=Qq (HMI.out.next HXR.out);obtain⟨us,hus,hrow,hfz⟩:=HMI.out.rel;have HUS:=Qq hus;have HROW:=Qq hrow;have HFZ:=Qq hfz;have HUL:=Qq (show us.length<=4 by rw [hus,HROWS.out,List.length_map,List.length_range];omega);obtain⟨iS,hiS,hzS0,hzS1,hzS2⟩:=info_parts Qih;obtain⟨⟨m0,m1,m2⟩,⟨mf0,mf1,mf2⟩,ml⟩:=HMA.out.cells;obtain⟨Av,cv,rfl⟩:=Qt hrow;have hul4:=HUL.out;have hc3:us.length+1<=maxLen:=by unfold maxLen;omega
        have hc4:(us.length+1)*24<=140737488355328:=by omega
        clear hus hrow hfz m0 m1;obtain⟨wo,hwo⟩:∃v,v=wr:=⟨_,rfl⟩;subst hwo;go_wp2_with(at_builtin;refine wpList_append_own_at _ rfl _ _ 24 rfl W5.heap.size 23 iS (.slice none 0 0) 1 24 Tryz.underlying24 hiS hzS0 hzS1 hzS2 rfl (by decide) _ us.length us rfl (Zf HROW.out (HXR.out.trans (Qz.alloc _))) ⟨_,0,none⟩ 1 1 [.slice (some ⟨rb,0,none⟩) l1.length l1.length] rfl rfl (Jq _ _ _ (by simp)) (fun u hu=>by rw [List.mem_singleton.1 hu];rfl) hc3 hc4 (Qx HMA.out.ext.size (Qz.alloc _).size) ?_);intro v7 w7 hown7 hgrow7 hnew7 hat7;have HP7:=Qq (HMI.out.push HUS.out HROW.out HFZ.out HXR.out (by rw [<-HRB2.out];exact HMR.out) (Qz.alloc _) hown7 hgrow7 (hat7.imp_right fun h=>by rw [h];simp))
        obtain⟨⟨p0,p1,p2⟩,⟨pf0,pf1,pf2⟩,pl⟩:=Gf ((hgrow7.block mb (Qy ml ((Ext.refl wo).alloc (.cells #[.slice (some ⟨rb,0,none⟩) l1.length l1.length] 23)).size) (fun e=>HMA.out.dr.1 e.symm)).trans ((((Ext.refl wo).alloc (.cells #[.slice (some ⟨rb,0,none⟩) l1.length l1.length] 23)).block ml).trans HMA.out.cell));obtain⟨A7,c7,rfl⟩:=Qt hown7;clear hown7 hgrow7 hnew7 hat7 m2 mf0 mf1 mf2 p0 p1 pf0 pf1;go_wp2_with fail;go_roundw
        case rel=>exact⟨k+1,by go_num,by omega,Qq ⟨_,by rw [HRN.out,<-HRD.out];exact HP7.out⟩⟩
        case measure=>simp [intOf];omega
      obtain rfl:ags=k:=by omega
      obtain⟨⟨m0,m1,m2⟩,⟨mf0,mf1,mf2⟩,ml⟩:=HMI.out.cells;have HBR:=Qq ((HS6.out.ext.block (by have:=HRB.out;exact this)).trans HB2.out);obtain⟨⟨q0,q1,q2⟩,⟨f0,f1,f2⟩,ql⟩:=Gf HBR.out;have HXR:=Qq (HX2.out.trans HS6.out.ext);have HLT:=Qq (show Kv lg f=true by
       rw [HLF.out,List.any_eq_true];have h1:=HRT0.out;refine⟨t0,List.mem_range.2 ?_,h1⟩;rw [HRP.out,Bool.and_eq_true]at h1;have:=Kt h1.1;rw [HALN.out]at this;exact this)
      have HMO:=Qq (show Qy9 lg f l1 ⟨l1.length,vals,rows⟩from {
       n:=rfl
       pos:=hpos
       le:=hn64
       al:=fun u hu=>by rw [<-HAL.out];exact HO.out.al u hu
       sel:=fun t ht=>by
        obtain⟨i,hi,e⟩:=List.getElem_of_mem ht;have h1:=HJ.out i hi;rw [Qk,Qv hi,Option.getD_some,e,HAGS.out,HAL.out]at h1;exact h1
       root:=by
        have h1:=HRT0.out;rw [HRP.out,Bool.and_eq_true]at h1;have h2:=HG.out.get (k:=0) (by simp);rw [h2];exact h1.2
       rel:=by rw [<-HAGS.out];exact HROWS.out
       vlen:=by rw [<-HFAS.out];exact HMI.out.len
       vlow:=HFA.out.low
       fact:=fun i p hi h1 h2=>HFA.out.bit i p hi h1 h2 })
      have HMK:=Qq (show(⟨l1.length,vals,rows⟩:Md).ok from⟨⟨by show(-9223372036854775808:Int)<=(l1.length:Int);omega,by show(l1.length:Int)<=9223372036854775807;omega⟩,fun s hs=>Qy (HFA.out.low s hs) (Nr hn64),fun r hr s hs=>by
       have hr2:r∈rows:=hr;rw [HROWS.out]at hr2;obtain⟨a,_,rfl⟩:=List.mem_map.1 hr2;obtain⟨v,_,rfl⟩:=List.mem_map.1 hs;exact Pf hn64 _⟩)
      have HLO:=Qq (show w.heap.size < W5.heap.size from Qy HRB.out HS.out.ext.size);obtain⟨Av,cv,rfl⟩:∃A c,vr=.slice A rows.length c:=by
       obtain⟨us,hus,hrow,_⟩:=HMI.out.rel;obtain⟨A,c,e⟩:=Qt hrow;exact⟨A,c,by rw [e,hus]⟩
      go_wp2_with fail
      (try simp only [Exit.inBlock,Exit.then])
      refine bodyPost_ret (Ue Tryz.results24 _ _ rfl (Gs (Ls HBR.out _ _ _)) Tryz.underlying26 rfl (by kernel_rfl)) rfl ?_;refine⟨Py HXR.out (Nat.le_refl _) _ _ _,.inr (.inr (.inl ⟨HER.out.symm,HLT.out,_,_,l1,rfl,HMI.out.mdv ⟨by simp [World.setCell],fun k hk hl=>Mq (fun e=>hk (by rw [e];exact HLO.out)) _ _ _⟩,HMK.out,HMO.out⟩))⟩
 have HZ:=Qq hz;clear her;go_enter Tryz.func24,Tryz.ntmps24;go_wp2_with fail;refine(Gr lg _ f _ (H.out.ext HX0.out)).mono ?_;rintro e w1 ⟨hx1,hr⟩;obtain⟨_,rfl⟩:=hr.resolve_right (fun h=>HZ.out (HER.out.trans h.1));rw [<-HER.out];have HX1:=Qq hx1;have HB1:=Qq ((hx1.block (by simp)).trans HW0.out);obtain⟨⟨q0,q1,q2⟩,⟨f0,f1,f2⟩,ql⟩:=Gf HB1.out;clear hx1 hr;go_wp2_with fail
 (try simp only [Exit.inBlock,Exit.then])
 refine bodyPost_ret (Ue Tryz.results24 _ _ rfl (Gs (Ls HB1.out _ _ _)) Tryz.underlying26 rfl (by kernel_rfl)) rfl ?_;exact⟨Py (HX0.out.trans HX1.out) (Nat.le_refl _) _ _ _,.inl ⟨fun h=>HZ.out (HER.out.trans h),by rw [<-HER.out] <;> rfl⟩⟩
end Go.Proofs.YtkmclcmnoicagaaGreatDoor
