/- types' Model: the walk. -/
import Derived.Test.YtkmclcmnoicagaaGreatDoorK28
namespace Go.Proofs.YtkmclcmnoicagaaGreatDoor
set_option maxRecDepth 100000
set_option maxHeartbeats 128000000
open Go.RowKit
theorem Qkc(n:Nat)(hn:n<=1000)(W:World):(Instr.makeSlice 23 (.int .i64 (n:Int)) (.int .i64 (n:Int))).run Tryz.prog W=.ok (.slice (some ⟨W.heap.size,0,none⟩) n n) (W.alloc (.cells (List.replicate n (Value.int .u64 0)).toArray 41)):=by
 obtain⟨i,hi,h0,h1,h2⟩:=info_parts De;have h:=run_make (P:=Tryz.prog) W 23 41 i (.int .u64 0) Tryz.underlying23 hi h0 .i64 .i64 n n (by omega) (Int.le_refl _) (by rw [h2];omega) (by omega);rw [h1,Int.toNat_natCast,Nat.mul_one]at h;rw [h,<-toList_madeCells_one];rfl
theorem Ow(n:Nat)(hn:n<=1000)(w:World)(base:Nat)(hb:base<=w.heap.size):Zx base (w.alloc (.cells (List.replicate n (Value.int .u64 0)).toArray 41)) (.slice (some ⟨w.heap.size,0,none⟩) n n) (List.replicate n 0):=by
 have e:uV (List.replicate n 0)=List.replicate n (Value.int .u64 0):=by unfold uV;rw [List.map_replicate];rfl
 unfold Zx;rw [e,List.length_replicate];exact⟨by simp,.inr ⟨w.heap.size,n,(List.replicate n (Value.int .u64 0)).toArray,rfl,hb,heap_alloc_new _ _,Nat.le_refl _,by unfold maxLen;omega,by simp,by simp⟩⟩
theorem Ql9(s k:Nat)(hs:s < 9223372036854775808):bits .and .i64 ((s:Int) / 2^k) 1=((if s.testBit k then 1 else 0:Nat):Int):=by
 have zG:s / 2^k < 9223372036854775808:=Nat.lt_of_le_of_lt (Nat.div_le_self _ _) hs;rw [Tf,show(1:Int)=((1:Nat):Int)from rfl,My _ 1 zG (by decide),Nat.and_one_is_mod,Nat.testBit_eq_decide_div_mod_eq];rcases Nat.mod_two_eq_zero_or_one (s / 2^k)with h|h <;> rw [h] <;> rfl
theorem Zq6 {x:Nat} :IntKind.u64.wrap (IntKind.u64.wrap 1*2^x)=IntKind.u64.wrap ((2:Int)^x):=by
 rw [show IntKind.u64.wrap 1=1 by decide,Int.one_mul]
theorem Zq4 {x:Nat} :IntKind.u64.wrap (IntKind.u64.wrap 0*2^x)=0:=by
 rw [show IntKind.u64.wrap 0=0 by decide,Int.zero_mul];decide
theorem Qip {z:Nat}(h:Qp z):bits .or .u64 (z:Int) 0=(z:Int):=by
 have:=Xw (a:=z) (b:=0) h (by show(0:Nat) < _;omega);rw [Nat.or_zero]at this;exact this
theorem Zjd:(Tryz.prog.info? 23).map (fun i=>(i.zero,i.size,i.bytes))=some (some (.slice none 0 0),1,24):=by kernel_rfl
def X21(W:World)(n fas:Nat)(a a':Act)(w':World):Prop :=
 ∃mb vb,MoI W w' mb vb n fas (List.replicate fas 0) (.slice none 0 0) []/\∃v119 v120 v121 v122 v123 v124 v125 v126,a'=((((((((a.put (some 119) v119).put (some 120) v120).put (some 121) v121).put (some 122) v122).put (some 123) v123).put (some 124) v124).put (some 125) v125).put (some 126) v126).put (some 15) (.pointer (some ⟨mb,0,none⟩))
theorem Qv6 {W:World} {n fas:Nat} {a a':Act} {w':World} {mb vb:Nat} {v119 v120 v121 v122 v123 v124 v125 v126:Value}
 (e:a'=((((((((a.put (some 119) v119).put (some 120) v120).put (some 121) v121).put (some 122) v122).put (some 123) v123).put (some 124) v124).put (some 125) v125).put (some 126) v126).put (some 15) (.pointer (some ⟨mb,0,none⟩)))
 (h:MoI W w' mb vb n fas (List.replicate fas 0) (.slice none 0 0) []):X21 W n fas a a' w':=⟨mb,vb,h,v119,v120,v121,v122,v123,v124,v125,v126,e⟩
theorem Zz3 {W:World} {n fas:Nat}(hf:fas<=1000):MoI W ((W.alloc (.cells (Array.replicate fas (Value.int .u64 0)) 41)).alloc (.cells #[.int .i64 (n:Int),.slice (some ⟨W.heap.size,0,none⟩) fas fas,.slice none 0 0] 26)).drew (W.heap.size+1) W.heap.size n fas (List.replicate fas 0) (.slice none 0 0) []:=by
 have h1:=Ow fas hf W W.heap.size (Nat.le_refl _);rw [List.toArray_replicate]at h1;have h2:=heap_alloc_new (W.alloc (.cells (Array.replicate fas (Value.int .u64 0)) 41)) (.cells #[.int .i64 (n:Int),.slice (some ⟨W.heap.size,0,none⟩) fas fas,.slice none 0 0] 26);rw [show(W.alloc (.cells (Array.replicate fas (Value.int .u64 0)) 41)).heap.size=W.heap.size+1 by simp]at h2;exact⟨((Qz.alloc _).alloc _).drew,⟨by omega,by omega⟩,h2,h1.ext ((Qz.alloc _).drew),by simp,⟨[],rfl,World.ownsRow_nil _ _ _ _,fun k u r hu _=>by simp at hu⟩,⟨(fun e=>by cases e),(fun e=>by cases e)⟩⟩
theorem Zz4 {W:World} {n fas:Nat}(hf:fas<=1000):MoI W ((W.alloc (.cells #[.int .i64 (n:Int),.slice (some ⟨W.heap.size+1,0,none⟩) fas fas,.slice none 0 0] 26)).alloc (.cells (Array.replicate fas (Value.int .u64 0)) 41)).drew W.heap.size (W.heap.size+1) n fas (List.replicate fas 0) (.slice none 0 0) []:=by
 have h1:=Ow fas hf (W.alloc (.cells #[.int .i64 (n:Int),.slice (some ⟨W.heap.size+1,0,none⟩) fas fas,.slice none 0 0] 26)) W.heap.size (by simp);rw [List.toArray_replicate,show(W.alloc (.cells #[.int .i64 (n:Int),.slice (some ⟨W.heap.size+1,0,none⟩) fas fas,.slice none 0 0] 26)).heap.size=W.heap.size+1 by simp]at h1;have h2:((W.alloc (.cells #[.int .i64 (n:Int),.slice (some ⟨W.heap.size+1,0,none⟩) fas fas,.slice none 0 0] 26)).alloc (.cells (Array.replicate fas (Value.int .u64 0)) 41)).heap[W.heap.size]?=_:=((Qz.alloc _).block (by simp)).trans (heap_alloc_new W (.cells #[.int .i64 (n:Int),.slice (some ⟨W.heap.size+1,0,none⟩) fas fas,.slice none 0 0] 26))
 exact⟨((Qz.alloc _).alloc _).drew,⟨by omega,by omega⟩,h2,h1.ext (Qz.drew),by simp,⟨[],rfl,World.ownsRow_nil _ _ _ _,fun k u r hu _=>by simp at hu⟩,⟨(fun e=>by cases e),(fun e=>by cases e)⟩⟩
noncomputable def Qjn (lg:Int) (f:List Nd) (t:Nat):Bool:=(Np lg f).1.getD t false&&(Nx f).getD t false
theorem Oa {m k:Nat}(h:m < 2^k):Ya m<=k:=by
 unfold Ya
 split
 ·omega
 rename_i h0;have:=(Nat.log2_lt h0).2 h;omega
structure Qxv (lg:Int) (f:List Nd) (S:List Nat) (md:Md):Prop where
 n:md.n=S.length
 pos:0 < S.length
 le:S.length<=64
 al:∀u∈S,(Np lg f).1.getD u false=true
 sel:∀t∈S,Sel lg (Zl (Qm f).1) (Jl (Qm f).1) (Np lg f).1 (Ya (Jr (Qg f))) S t
 root:(Nx f).getD (S.getD 0 0) false=true
 rel:md.rel=(List.range (Ya (Jr (Qg f)))).map fun(a:Nat)=>(List.range S.length).map fun v=>Vt S.length fun w=>Jq lg (Zl (Qm f).1) (a:Int) (S.getD v 0) (S.getD w 0)
 vlen:md.val.length=Ya (Yy (Qg f))
 vlow:∀s∈md.val,s < 2^S.length
 fact:∀(i p:Nat),i < (Qm f).1.length->(Zz ((Qm f).1.getD i [])).op=3->(Zz ((Qm f).1.getD i [])).i=(p:Int)->∀w,w < S.length->(md.val.getD p 0).testBit w=(S.getD w 0).testBit i
def Zj4(w:World)(lg:Int)(f:List Nd)(e:Ending)(w':World):Prop :=
 Ext w w'/\((Yj lg f≠0/\e=.returned (.tuple #[.agg #[.int .i64 0,.slice none 0 0,.slice none 0 0],.int .i64 0,.int .i64 (Yj lg f)]))\/
  (Yj lg f=0/\Uf lg f=false/\e=.returned (.tuple #[.agg #[.int .i64 0,.slice none 0 0,.slice none 0 0],.int .i64 0,.int .i64 6]))\/
  (Yj lg f=0/\Uf lg f=true/\∃vm md S,e=.returned (.tuple #[vm,.int .i64 0,.int .i64 0])/\MdV w' vm md/\md.ok/\Qxv lg f S md)\/
  (Yj lg f=0/\Uf lg f=true/\6 < (Qm f).1.length/\e=.returned (.tuple #[.agg #[.int .i64 0,.slice none 0 0,.slice none 0 0],.int .i64 0,.int .i64 8])))
theorem Qp8(lg:Int)(v:Value)(f:List Nd)(w:World)(h:Fml w v f):
 Calls Tryz.prog 24 #[.int .i64 lg,v] w (Zj4 w lg f):=by
 have rY:= @run_makeMap Tryz.prog;have H:=Qq h;obtain⟨Af,cf,rfl,_⟩:=Qh h;clear h;have lY:=Qq (show(w.alloc (.cells #[.int .i64 0,.slice none 0 0,.slice none 0 0] 26)).heap[w.heap.size]?=some (.cells #[.int .i64 0,.slice none 0 0,.slice none 0 0] 26 (0,0))from heap_alloc_new _ _);have zK:=Qq (show Ext w (w.alloc (.cells #[.int .i64 0,.slice none 0 0,.slice none 0 0] 26))from Qz.alloc _);obtain⟨er,vG⟩:∃er,er=Yj lg f:=⟨_,rfl⟩;have wU:=Qq vG;by_cases hz:er=0
 ·subst hz;have zD:=Qq (Qql vG.symm);have HA:=Qq (Qow zD.out);clear vG;go_enter Tryz.func24,Tryz.ntmps24;go_wp2_with fail;refine(Ii lg _ f _ (H.out.ext zK.out)).mono ?_;rintro e w1 ⟨zN,hr⟩;obtain⟨b,g,rfl,hb,hg,hE⟩:=(hr.resolve_left (fun h=>h.1 wU.out.symm)).2;have HE:=Qq hE;have zL:=Qq zN;have lG:=Qq (show w.heap.size < g by simp at hg;omega);clear hr hb hg hE zN;go_wp2_with fail;refine(Qfs b g lg _ _ _ _ _ _ HE.out HA.out.lgr HA.out.le HA.out.len (fun k hk=>⟨(HA.out.ks k hk).1,by rw [(HA.out.ks k hk).2,HA.out.al];exact Nat.le_refl _⟩) (fun c hc=>by have:=HA.out.cs c hc;rw [HA.out.al];exact this)).mono ?_
  rintro e w2 ⟨vt,vw,rfl,jJ,FB,_,_⟩;obtain⟨al,vS⟩:∃al,al=(Np lg f).1:=⟨_,rfl⟩;have nT:=Qq vS;rw [show(Qkx lg (Zl (Qm f).1) (Jl (Qm f).1) (Qm f).1.length (Km lg (Qm f).1)).1=al from vS.symm]at FB;have bV:=Qq FB.eng;have wJ:=Qq ((zL.out.block (by simp)).trans lY.out);have rV:=Qq ((jJ.block w.heap.size (Qf wJ.out) (fun e=>by injection e with e;have:=lG.out;omega)).trans wJ.out);have zR:=Qq (show Ext w w2 from(zK.out.trans zL.out).grown jJ (fun k e=>by injection e with e;have:=lG.out;omega));have WB:=Qq (show w.heap.size < w2.heap.size from Qf rV.out)
  obtain⟨m,hm⟩:∃m,m=2^(Qm f).1.length:=⟨_,rfl⟩;have HM:=Qq hm;have tN:=Qq (show al.length=m by rw [vS,hm,Lv]);have VY:=Qq (show(Nx f).length=m by rw [hm];exact HA.out.root);have hm40:m<=4096:=by rw [hm];exact Qf0 HA.out.len
  have tL:=Qq (show ∀k∈Zl (Qm f).1,k.place < 64/\al.length<=k.holds.length from fun k hk=>⟨(HA.out.ks k hk).1,by rw [(HA.out.ks k hk).2,tN.out,hm];exact Nat.le_refl _⟩);have lL:=Qq (show ∀c∈Jl (Qm f).1,c.place < 64/\c.x.length=al.length/\c.y.length=al.length/\0<=c.group/\c.group < 16 from fun c hc=>by have:=HA.out.cs c hc;rw [tN.out,hm];exact this);have WK:=Qq (show ∀t,al.getD t false=true->Qfo lg (Zl (Qm f).1) (Jl (Qm f).1) al t from fun t ht=>by rw [vS]at ht⊢;exact Qma zD.out ht);have SI:=Qq (show Uf lg f=(List.range m).any (Qjn lg f) by unfold Uf Pm;rw [Lv,<-hm];rfl)
  have PD:=Qq (show ∀t,Qjn lg f t=(al.getD t false&&(Nx f).getD t false)from fun t=>by rw [vS];rfl);clear jJ FB vS hm;obtain⟨Ab,cb,Ar,cr,Ak,ck,Ac,cc,Aa,ca,d0,d1,d2,d3,d4,d5,yW,oE,JQ,_,_,vS⟩:=bV.out.cells;rw [VY.out]at d2;rw [tN.out]at d5;have D1:=Qq d1;have D2:=Qq d2;have tB:=Qq yW;have hG:=Qq oE;have VZ:=Qq JQ;have JH:=Qq vS;have SA:=vS.1;have ET:=vS.2.1;have JR:=JQ.1;have CH:=JQ.2.1;unfold maxLen at ET CH;rw [tN.out]at SA;rw [VY.out]at JR;clear oE JQ vS d0 d3 d4 d1;go_upto_region 6 with(fail);obtain⟨w3,ZM⟩:∃x,x=(w2.alloc (.map #[] 0)).alloc (.cells #[.slice none 0 0,.map (some w2.heap.size)] 98):=⟨_,rfl⟩
  have qU:=Qq (show Gl w2 w3 (.slice none 0 0) [] by rw [ZM];exact Gl.start w2);rw [<-ZM];clear ZM;have d2':=(qU.out.ext.cell (p:=⟨b,2,none⟩) tB.out).trans D2.out;have d5':=(qU.out.ext.cell (p:=⟨b,5,none⟩) tB.out).trans d5;have bl3:=Qy tB.out qU.out.ext.size;go_wp2_with fail;clear d2' d5' bl3;go_loopw [49] (fun v wr=>∃k:Nat,v=.int .i64 (k:Int)/\k<=m/\Hid (∃v' l',Gl w2 wr v' l'/\l'.length<=1/\(l'= []->∀j,j < k->Qjn lg f j=false)/\∀u∈l',Qjn lg f u=true)) (fun v _=>m - (intOf v).toNat)
  case atStart=>exact⟨0,rfl,Nat.zero_le _,Qq ⟨_,[],qU.out,Nat.zero_le _,fun _ j hj=>absurd hj (by omega),fun u hu=>by cases hu⟩⟩
  case round =>
   clear qU;obtain⟨k,rfl,hk,zY⟩:=hrel;obtain⟨v1,l1,wB,rC,kT,JN⟩:=zY.out;have HS:=Qq wB;have HJ:=Qq kT;have HU:=Qq JN;clear zY wB kT JN;by_cases hlt2:k < m
   ·have yP:(k:Int) < (m:Int):=by omega
    have d2':=(HS.out.ext.cell (p:=⟨b,2,none⟩) tB.out).trans D2.out;have bl3:=Qy tB.out HS.out.ext.size;obtain⟨_,rfl,yT,a0⟩:=Xv (JH.out.ext HS.out.ext) (show k < al.length by rw [tN.out];exact hlt2);obtain⟨_,rfl,wZ,r0⟩:=Xv (VZ.out.ext HS.out.ext) (show k < (Nx f).length by rw [VY.out];exact hlt2);have KU:=Qq (PD.out k);have zA:=Qq (fun(nF:l1= []->Qjn lg f k=false) (he:l1= []) j (hj:j < k+1)=>show Qjn lg f j=false from by
     by_cases e:j < k
     ·exact HJ.out he j e
     have:j=k:=by omega
     subst this;exact nF he)
    obtain⟨ak,qS⟩:∃x,x=al.getD k false:=⟨_,rfl⟩;obtain⟨rk,ZZ⟩:∃x,x=(Nx f).getD k false:=⟨_,rfl⟩;rw [<-qS,<-ZZ]at KU;rw [<-qS]at a0;rw [<-ZZ]at r0;clear qS ZZ;obtain⟨e0,e1,el⟩:=HS.out.cells;obtain⟨A1,c1,rfl⟩:=Qs HS.out.row;cases ak
    ·go_wp2_with fail;go_roundw
     case rel=>exact⟨k+1,by go_num,by omega,Qq ⟨_,l1,HS.out,rC,zA.out (fun _=>by rw [KU.out];rfl),HU.out⟩⟩
     case measure=>simp [intOf];omega
    cases rk
    ·go_wp2_with fail;go_roundw
     case rel=>exact⟨k+1,by go_num,by omega,Qq ⟨_,l1,HS.out,rC,zA.out (fun _=>by rw [KU.out];rfl),HU.out⟩⟩
     case measure=>simp [intOf];omega
    by_cases pH:l1.length=0
    ·have hq:((l1.length:Int)==0)=true:=by rw [pH];rfl
     have PZ:=Qq (List.length_eq_zero_iff.1 pH);have gI:=Qq (show Di l1 (k:Int)= [k] by rw [PZ.out];rfl);have DD:(k:Int)<=4096:=by omega
     have DB:l1.length<=4096:=by omega
     clear pH;go_wp2_with fail;refine(Qxk w2 _ _ l1 (k:Int) HS.out DD DB).mono ?_;rintro e w5 ⟨⟨r,rfl⟩,v5,RK,_⟩;rw [gI.out]at RK;have VU:=Qq RK;clear RK;go_wp2_with fail;go_roundw
     case rel=>exact⟨k+1,by go_num,by omega,Qq ⟨_,[k],VU.out,Nat.le_refl _,(fun h=>by cases h),(fun u hu=>by rw [List.mem_singleton.1 hu,KU.out];rfl)⟩⟩
     case measure=>simp [intOf];omega
    have hq:((l1.length:Int)==0)=false:=by rw [beq_eq_false_iff_ne];omega
    have PZ:=Qq (show l1≠ []from fun e=>pH (by rw [e];rfl));clear pH;go_wp2_with fail;go_roundw
    case rel=>exact⟨k+1,by go_num,by omega,Qq ⟨_,l1,HS.out,rC,(fun h=>absurd h PZ.out),HU.out⟩⟩
    case measure=>simp [intOf];omega
   obtain rfl:m=k:=by omega
   obtain⟨e0,e1,el⟩:=HS.out.cells;obtain⟨A1,c1,rfl⟩:=Qs HS.out.row;by_cases pH:l1.length=0
   ·have hq:((l1.length:Int)==0)=true:=by rw [pH];rfl
    have sW:=Qq (show Uf lg f=false by
     rw [SI.out,List.any_eq_false];intro t ht;rw [HJ.out (List.length_eq_zero_iff.1 pH) t (List.mem_range.1 ht)];simp)
    have vX:=Qq ((HS.out.ext.block (by have:=WB.out;exact this)).trans rV.out);obtain⟨⟨q0,q1,q2⟩,⟨f0,f1,f2⟩,ql⟩:=Zc vX.out;have pL:=Qq (zR.out.trans HS.out.ext);clear pH;go_wp2_with fail
    (try simp only [Exit.inBlock,Exit.then])
    refine bodyPost_ret (Yh Tryz.results24 _ _ rfl (Ze (Yx vX.out _ _ _)) Tryz.underlying26 rfl (by kernel_rfl)) rfl ?_;exact⟨Yv pL.out (Nat.le_refl _) _ _ _,.inr (.inl ⟨wU.out.symm,sW.out,rfl⟩)⟩
   obtain⟨t0,rfl⟩:∃t,l1= [t]:=by
    cases l1 with
    |nil=>exact absurd rfl pH
    |cons a r=>cases r with
     |nil=>exact⟨a,rfl⟩
     |cons z r=>simp at rC
   have aZ:=Qq (HU.out t0 (List.mem_singleton.2 rfl));have J9:=Qq (show SOk al [t0]from⟨by simp,fun u hu=>by
    have h1:=aZ.out;rw [PD.out,Bool.and_eq_true]at h1;rw [List.mem_singleton.1 hu];exact h1.1⟩)
   have hh:=(Jf zD.out.ck).2.2.2;have vH:=Nb (Qg f) 0 hh (by decide);have mN:=Sg (Qg f) 0 hh (by decide);obtain⟨am,eZ⟩:∃x,x=Jr (Qg f):=⟨_,rfl⟩;obtain⟨fm,oE⟩:∃x,x=Yy (Qg f):=⟨_,rfl⟩;rw [show(Qg f).foldl agS 0=am from eZ.symm]at vH;rw [show(Qg f).foldl faS 0=fm from oE.symm]at mN;have SR:=Qq eZ;have WS:=Qq oE;have uU:IntKind.u64.wrap (am:Int)=(am:Int):=by rw [IntKind.wrap_u64];omega
   have lQ:IntKind.u64.wrap (fm:Int)=(fm:Int):=by rw [IntKind.wrap_u64];omega
   clear pH rC hh eZ oE HJ HU;go_wp2_with fail;refine(En _ f _ (H.out.ext (zR.out.trans HS.out.ext)) zD.out.ck).mono ?_;rintro e w5 ⟨rfl,hx⟩;rw [<-SR.out];have VU:=Qq (HS.out.next hx);clear hx e0 e1 el;go_wp2_with fail;refine(Qjf am (by omega) _).mono ?_;rintro e w6 ⟨rfl,rfl⟩;go_wp2_with fail;refine(Of _ f _ (H.out.ext (zR.out.trans VU.out.ext)) zD.out.ck).mono ?_;rintro e w7 ⟨rfl,hx⟩;rw [<-WS.out];have Z6:=Qq (VU.out.next hx);clear hx HS VU;go_wp2_with fail;refine(Qjf fm (by omega) _).mono ?_;rintro e w8 ⟨rfl,rfl⟩;have mV:=Oa (m:=am) (k:=4) vH;have kY:=Oa (m:=fm) (k:=8) mN
   obtain⟨ags,VE⟩:∃x,x=Ya am:=⟨_,rfl⟩;obtain⟨fas,UP⟩:∃x,x=Ya fm:=⟨_,rfl⟩;have RD:=Qq (show ags=Ya (Jr (Qg f)) by rw [VE,SR.out]);have QN:=Qq (show fas=Ya (Yy (Qg f)) by rw [UP,WS.out]);rw [<-VE]at mV⊢;rw [<-UP]at kY⊢;clear VE UP uU lQ vH mN SR WS;go_wp2_with fail;go_loopw [14] (fun v wr=>∃k:Nat,v=.int .i64 (k:Int)/\k<=m/\Hid (∃v' l',Gl w2 wr v' l'/\Ke al [t0] l'/\k<=l'.length/\∀j,j < k->Sel lg (Zl (Qm f).1) (Jl (Qm f).1) al ags l' (l'.getD j 0))) (fun v _=>m - (intOf v).toNat)
   case atStart=>exact⟨0,rfl,Nat.zero_le _,Qq ⟨_,[t0],Z6.out,Ke.refl,Nat.zero_le _,fun j hj=>absurd hj (by omega)⟩⟩
   case round =>
    clear Z6;obtain⟨k,rfl,hk,zY⟩:=hrel;obtain⟨v1,l1,wB,vL,wO,kT⟩:=zY.out;have HS:=Qq wB;have HG:=Qq vL;have HJ:=Qq kT;have HO:=Qq (J9.out.grow vL);have hlm:l1.length<=m:=by have:=HO.out.len;rw [tN.out]at this;exact this
    clear zY wB vL kT;obtain⟨e0,e1,el⟩:=HS.out.cells;by_cases hlt2:k < l1.length
    ·have yP:(k:Int) < (l1.length:Int):=by omega
     obtain⟨g2,cap2,wA,tH,_,kM,tE,a0⟩:=Us HS.out.row hlt2 rfl;subst wA;unfold maxLen at tE;have nW:l1.getD k 0∈l1:=by rw [Qk,Qv hlt2];exact List.getElem_mem _
     have PV:=Qq (WK.out _ (HO.out.al _ nW));have qF:l1.getD k 0 < m:=by have:=HO.out.lt _ nW;rw [tN.out]at this;exact this
     have zA:=Qq (fun(l2:List Nat) (uO:Ke al l1 l2) (dS:Sel lg (Zl (Qm f).1) (Jl (Qm f).1) al ags l2 (l1.getD k 0)) j (hj:j < k+1)=>show Sel lg (Zl (Qm f).1) (Jl (Qm f).1) al ags l2 (l2.getD j 0)from by
      rw [uO.get (by omega)];by_cases e:j < k
      ·exact(HJ.out j e).mono uO.sub
      have:j=k:=by omega
      subst this;exact dS)
     obtain⟨u,hu⟩:∃u,u=l1.getD k 0:=⟨_,rfl⟩;rw [<-hu]at a0 qF PV zA;have SY:IntKind.u64.wrap (u:Int)=(u:Int):=by rw [IntKind.wrap_u64];omega
     have JL:u < al.length:=by rw [tN.out];exact qF
     have aC:al.length<=4096:=by rw [tN.out];omega
     clear nW hu;go_wp2_with fail;refine(Qs8 b lg _ _ _ _ al ags u w2 _ _ l1 bV.out HA.out.lgr JL aC tL.out lL.out mV PV.out HS.out HO.out).mono ?_;rintro e w9 ⟨⟨r,rfl⟩,v2,l2,xP,uO,XM⟩;have xE:=Qq xP;have dF:=Qq uO;have GC:=Qq (zA.out l2 uO XM);have eK:l1.length<=l2.length:=uO.pre.length_le;clear xP uO XM;go_wp2_with fail;go_roundw
     case rel=>exact⟨k+1,by go_num,by omega,Qq ⟨_,l2,xE.out,HG.out.trans dF.out,by omega,GC.out⟩⟩
     case measure=>simp [intOf];omega
    obtain rfl:l1.length=k:=by omega
    obtain⟨A1,c1,rfl⟩:=Qs HS.out.row;by_cases h65:64 < l1.length
    ·have uP:(64:Int) < (l1.length:Int):=by omega
     have vX:=Qq ((HS.out.ext.block (by have:=WB.out;exact this)).trans rV.out);obtain⟨⟨q0,q1,q2⟩,⟨f0,f1,f2⟩,ql⟩:=Zc vX.out;have pL:=Qq (zR.out.trans HS.out.ext);have fS:=Qq (show Uf lg f=true by
      rw [SI.out,List.any_eq_true];have h1:=aZ.out;refine⟨t0,List.mem_range.2 ?_,h1⟩;rw [PD.out,Bool.and_eq_true]at h1;have:=Xg h1.1;rw [tN.out]at this;exact this)
     have cA:=Qq (show 6 < (Qm f).1.length from Nat.lt_of_not_le fun gP=>by
      have h1:m<=2^6:=by rw [HM.out];exact Nat.pow_le_pow_right (by decide) gP
      omega)
     clear hlm hlt2 h65;go_wp2_with fail
     (try simp only [Exit.inBlock,Exit.then])
     refine bodyPost_ret (Yh Tryz.results24 _ _ rfl (Ze (Yx vX.out _ _ _)) Tryz.underlying26 rfl (by kernel_rfl)) rfl ?_;exact⟨Yv pL.out (Nat.le_refl _) _ _ _,.inr (.inr (.inr ⟨wU.out.symm,fS.out,cA.out,rfl⟩))⟩
    have yN:l1.length<=64:=by omega
    have uP:¬(64:Int) < (l1.length:Int):=by omega
    have cL:=Qkc fas (by omega);go_upto_region 21 with(fail);obtain⟨W5,E8⟩:∃W,W=wr:=⟨_,rfl⟩;subst E8;refine Eo (X21 W5 l1.length fas) ?_ ?_
    ·skip
     refine Yd 9 (fun w'=>w'.cell? (⟨w2.heap.size+1,0,none⟩)=some (.slice A1 l1.length c1)) (by kernel_rfl) (xd el e0) (fun zZ=> ?_);refine utk 0 zZ ?_;refine utk 1 zZ ?_;refine utk 2 zZ ?_;refine utk 3 zZ ?_;refine utk 4 zZ ?_;refine utk 5 zZ ?_;refine Qa (rs:= [6,8]) (by kernel_rfl) (by simp) ?_;refine Zj.cons rfl (fun K hK=> ?_) (Zj.cons rfl (fun K hK=> ?_) Zj.nil)
     ·skip
      go_simp;refine hK.out _ _ (xd el e0) (fun zZ=> ?_);clear hK K;refine Qb ?_;refine utk 7 zZ ?_;refine Qa (rs:= [8]) (by kernel_rfl) (by simp) ?_;refine Zj.cons rfl (fun K hK=> ?_) Zj.nil;go_simp;refine hK.out _ _ (xd el e0) (fun zZ=> ?_);clear hK K;refine Qb ?_;refine Yt (by kernel_rfl) rfl (fun K hK=> ?_);go_simp;refine hK.out _ _ ?_;clear hK K;refine Qb ?_;refine Ys (by kernel_rfl) ?_ _
      first
      |(apply Qv6 (mb:=W5.heap.size+1) (vb:=W5.heap.size)
        ·simp only [Act.put,List.setIfInBounds_toArray,List.set_cons_zero,List.set_cons_succ];exact rfl
        exact Zz3 (by omega))
      |(apply Qv6 (mb:=W5.heap.size) (vb:=W5.heap.size+1)
        ·simp only [Act.put,List.setIfInBounds_toArray,List.set_cons_zero,List.set_cons_succ];exact rfl
        exact Zz4 (by omega))
     skip
     go_simp;refine hK.out _ _ (xd el e0) (fun zZ=> ?_);clear hK K;refine Qb ?_;refine Qa (rs:= [6]) (by kernel_rfl) (by simp) ?_;refine Zj.cons rfl (fun K hK=> ?_) Zj.nil;go_simp;refine hK.out _ _ (xd el e0) (fun zZ=> ?_);clear hK K;refine Qb ?_;refine utk 7 zZ ?_;refine Yt (by kernel_rfl) rfl (fun K hK=> ?_);go_simp;refine hK.out _ _ ?_;clear hK K;refine Qb ?_;refine Ys (by kernel_rfl) ?_ _
     first
     |(apply Qv6 (mb:=W5.heap.size+1) (vb:=W5.heap.size)
       ·simp only [Act.put,List.setIfInBounds_toArray,List.set_cons_zero,List.set_cons_succ];exact rfl
       exact Zz3 (by omega))
     |(apply Qv6 (mb:=W5.heap.size) (vb:=W5.heap.size+1)
       ·simp only [Act.put,List.setIfInBounds_toArray,List.set_cons_zero,List.set_cons_succ];exact rfl
       exact Zz4 (by omega))
    rintro a' w6 ⟨mb,vb,mK,v119,v120,v121,v122,v123,v124,v125,v126,rfl⟩;simp only [Act.put,List.setIfInBounds_toArray,List.set_cons_zero,List.set_cons_succ];have uK:=Qq mK;have pO:=Qq (HS.out.next mK.ext);obtain⟨bl,sG⟩:∃x,x=(Qm f).1.length:=⟨_,rfl⟩;have QY:=Qq sG;have gS:bl<=12:=by rw [sG];exact HA.out.len
    have x1:=(pO.out.ext.cell (p:=⟨b,1,none⟩) tB.out).trans D1.out;have xl:=Qy tB.out pO.out.ext.size;rw [<-sG]at x1;have qH:0 < l1.length:=by have:=HG.out.pre.length_le;simp at this;omega
    clear mK sG e0 e1 el cL uP;go_wp2_with fail;clear x1 xl;go_loopw [132] (fun v wr=>∃k:Nat,v=.int .i64 (k:Int)/\k<=bl/\Hid (∃vals,MoI W5 wr mb vb l1.length fas vals (.slice none 0 0) []/\Tn (Qm f).1 l1 k vals)) (fun v _=>bl - (intOf v).toNat)
    case atStart=>exact⟨0,rfl,Nat.zero_le _,Qq ⟨_,uK.out,Tn.start _ _ _⟩⟩
    case round =>
     clear uK pO;obtain⟨k,rfl,hk,zY⟩:=hrel;obtain⟨vals,mK,nI⟩:=zY.out;have uK:=Qq mK;have bT:=Qq nI;have pO:=Qq (HS.out.next mK.ext);clear zY mK nI;by_cases hlt2:k < bl
     ·have yP:(k:Int) < (bl:Int):=by omega
      obtain⟨s,TF⟩:∃s,s=(Qm f).1.getD k []:=⟨_,rfl⟩;have oS:k < (Qm f).1.length:=by rw [<-QY.out];exact hlt2
      have gM:(Qm f).1[k]?=some s:=by rw [TF,Qk,Qv oS];rfl
      have YO:=Qq TF;obtain⟨_,_,nZ,_,_,zQ⟩:=hG.out;injection nZ with hsl1 _ kL;subst hsl1 kL;obtain⟨ad,rfl,zU,qO⟩:=zQ (by intro e;rw [e]at oS;simp at oS);obtain⟨u,U5,RV⟩:=qO k s gM;have c0:=(pO.out.ext.cell (p:=ad.add k) (Qj zU)).trans U5;have cl:(ad.add k).block < wr.heap.size:=by rw [Qr];exact Qy zU pO.out.ext.size
      have QJ:=Qq (RV.ext pO.out.ext);have rA:0 < s.length:=by
       obtain⟨t,ht,hc,_⟩:=zD.out.b.can s (List.mem_of_getElem? gM);rw [hc];exact Uv ht.xp.1.1
      clear qO U5 RV TF gM zQ zU;go_wp2_with fail;refine(Wt _ s _ QJ.out rA).mono ?_;rintro e w7 ⟨u1,u2,rfl,kG,nJ,rJ⟩;have qA:=Qq (uK.out.next kG);obtain⟨nn,uM⟩:∃nn,nn=Zz s:=⟨_,rfl⟩;have tW:=Qq (show nn=Zz ((Qm f).1.getD k []) by rw [uM,YO.out]);rw [<-uM];unfold Nd.val;obtain⟨A5,c5,rfl,_⟩:=Qh nJ;obtain⟨A6,c6,rfl,_⟩:=Qh rJ;clear kG nJ rJ uM c0 cl uK pO;by_cases ho:nn.op=3
      ·have xU:=Qq (show(Zz ((Qm f).1.getD k [])).op=3 by rw [<-tW.out];exact ho);obtain⟨p,hp,CN,-⟩:=Qxt zD.out wU.out.symm oS xU.out;rw [<-tW.out]at hp;rw [<-QN.out]at CN;have lV:(p:Int) < (fas:Int):=by omega
       have Z2:=Qq (show ∀j,j < k->¬((Zz ((Qm f).1.getD j [])).op=3/\(Zz ((Qm f).1.getD j [])).i=(p:Int))from fun j hj hh=>by
        have:=Qmi zD.out wU.out.symm (i:=j) (j:=k) (by omega) oS hh.1 hh.2 xU.out (by rw [<-tW.out];exact hp)
        omega)
       have nP:=Qq (show(Zz ((Qm f).1.getD k [])).i=(p:Int) by rw [<-tW.out];exact hp);rw [hp,ho];have FG:=Qq (bT.out.zero p Z2.out);obtain⟨w8,wR⟩:∃x,x=w7.alloc (.cells #[.int .i64 3,.int .i64 (p:Int),.int .i64 nn.e,.int .i64 nn.g,.int .i64 nn.x,.int .i64 nn.y] 71):=⟨_,rfl⟩;have IA:=Qq (show MoI W5 w8 mb vb l1.length fas vals (.slice none 0 0) [] by rw [wR];exact qA.out.next (Qz.alloc _));have Z5:=Qq (HS.out.next IA.out.ext);obtain⟨nb,TW⟩:∃x,x=w7.heap.size:=⟨_,rfl⟩;have jU:=Qq (show w8.heap[nb]?=some (.cells #[.int .i64 3,.int .i64 (p:Int),.int .i64 nn.e,.int .i64 nn.g,.int .i64 nn.x,.int .i64 nn.y] 71 (0,0))/\nb≠vb by
        refine⟨by rw [wR,TW];exact heap_alloc_new _ _,?_⟩;have:=(qA.out.row.lt vb rfl).2
        omega)
       clear hp ho oS;go_upto_region 26 with(fail);rw [<-wR,<-TW];clear wR TW;obtain⟨n0,n1,n3,nl⟩:=Qxf jU.out.1;obtain⟨e0,e1,el⟩:=Z5.out.cells;go_wp2_with fail;clear n0 n1 n3 nl e0 e1 el;obtain⟨wo,ZL⟩:∃v,v=wr:=⟨_,rfl⟩;subst ZL;go_loopw [151] (fun v wr=>∃x:Nat,v=.int .i64 (x:Int)/\x<=l1.length/\Hid (∃z,MoI W5 wr mb vb l1.length fas (vals.set p z) (.slice none 0 0) []/\Hr l1 k x z/\wr.heap[nb]?=some (.cells #[.int .i64 3,.int .i64 (p:Int),.int .i64 nn.e,.int .i64 nn.g,.int .i64 nn.x,.int .i64 nn.y] 71 (0,0)))) (fun v _=>l1.length - (intOf v).toNat)
       case atStart=>exact⟨0,rfl,Nat.zero_le _,Qq ⟨0,by
        have:vals.set p 0=vals:=by
         refine List.ext_getElem (by simp) fun i h1 h2=> ?_
         rw [List.getElem_set]
         split
         ·rename_i e;subst e;have:=FG.out;rw [Qk,Qv h2]at this;exact this.symm
         rfl
        rw [this];exact IA.out,Hr.start _ _,jU.out.1⟩⟩
       case round =>
        clear IA qA Z5;obtain⟨x,rfl,hx,zY⟩:=hrel;obtain⟨z,mK,oP,MG⟩:=zY.out;have uK:=Qq mK;have nM:=Qq oP;have fN:=Qq MG;have gV:=Qq (HS.out.next mK.ext);clear zY mK oP MG;by_cases yK:x < l1.length
        ·have zN:(x:Int) < (l1.length:Int):=by omega
         have BK:x < 64:=by omega
         obtain⟨g2,cap2,wA,tH,_,kM,tE,a0⟩:=Us gV.out.row yK rfl;injection wA with hsl2a _ hsl2b;subst hsl2a hsl2b;unfold maxLen at tE;obtain⟨n0,n1,n3,nl⟩:=Qxf fN.out;obtain⟨⟨m0,m1,m2⟩,_,ml⟩:=uK.out.cells;have pT:(vals.set p z).length=fas:=uK.out.len;obtain⟨-,vl,-,-,BS,cG,LL⟩:=uK.out.row.at_ (by rw [pT];omega);have v0:=cG p (by rw [pT];exact CN);have vf:=LL p;rw [List.length_set]at pT;rw [Hc,if_pos ⟨rfl,by rw [pT];exact CN⟩]at v0;unfold maxLen at BS;have Y7:=Qq (show Qp z from Qy nM.out.low (Ng yN));have nW:l1.getD x 0∈l1:=by rw [Qk,Qv yK];exact List.getElem_mem _
         have qF:l1.getD x 0 < m:=by have:=HO.out.lt _ nW;rw [tN.out]at this;exact this
         have yX:=Qq (nM.out.step yK);obtain⟨u,hu⟩:∃u,u=l1.getD x 0:=⟨_,rfl⟩;rw [<-hu]at a0 qF yX;have vF:k < 64:=by omega
         clear nW hu m0 m2 n0 n3 cG LL nM pT;have uN:=Ql9 u k (by omega);cases ZV:u.testBit k
         ·rw [ZV]at uN yX;have uL:=Qip Y7.out;simp only [Bool.false_eq_true,if_false,Nat.or_zero,Int.natCast_zero]at uN yX;clear ZV;go_upto_region 30 with(fail);obtain⟨W30,VF⟩:∃v,v=wr:=⟨_,rfl⟩;subst VF;refine Yd 15 (fun w'=>w'.cell? (⟨mb,1,none⟩)=some (.slice (some ⟨vb,0,none⟩) fas fas)/\w'.cell? (⟨nb,1,none⟩)=some (.int .i64 (p:Int))/\w'.cell? (⟨vb,p,none⟩)=some (.int .u64 (z:Int))) (by kernel_rfl) ⟨xd ml m1,xd nl n1,xd vl v0⟩ (fun zZ=> ?_);refine utk 0 zZ ?_;refine utk 1 zZ ?_;refine utk 2 zZ ?_;refine utk 3 zZ ?_;refine utk 4 zZ ?_;refine utk 5 zZ ?_;refine utk 6 zZ ?_
          refine utk 7 zZ ?_;refine utk 8 zZ ?_;refine utk 9 zZ ?_;refine utk 10 zZ ?_;refine utk 11 zZ ?_;refine utk 12 zZ ?_;refine utk 13 zZ ?_;refine utk 14 zZ ?_;refine Yt (by kernel_rfl) rfl (fun K hK=> ?_);go_simp;refine hK.out _ _ ?_;clear hK K;refine Qb ?_;refine Ys (by kernel_rfl) ?_ _;rw [show bits .or .u64 (z:Int) (IntKind.u64.wrap (IntKind.u64.wrap 0*2^x))=((z:Nat):Int)from by rw [Zq4];exact uL];have jV:=Qq (uK.out.setVal p (z));rw [List.set_set]at jV;have GX:=Qq ((Below.heap_setCell W30 ⟨vb,p,none⟩ (.int .u64 ((z:Nat):Int)) nb jU.out.2).trans fN.out)
          clear uL uN v0 vf n1 m1 uK fN gV nl ml vl a0;go_wp2_with fail;go_roundw
          case rel=>exact⟨x+1,by go_num,by omega,Qq ⟨z,jV.out.next (Qz.drew),yX.out,GX.out⟩⟩
          case measure=>simp [intOf];omega
         rw [ZV]at uN yX;have uL:=Wx Y7.out BK;simp only [if_true,Int.natCast_one]at uN yX;clear ZV;go_upto_region 30 with(fail);obtain⟨W30,VF⟩:∃v,v=wr:=⟨_,rfl⟩;subst VF;refine Yd 15 (fun w'=>w'.cell? (⟨mb,1,none⟩)=some (.slice (some ⟨vb,0,none⟩) fas fas)/\w'.cell? (⟨nb,1,none⟩)=some (.int .i64 (p:Int))/\w'.cell? (⟨vb,p,none⟩)=some (.int .u64 (z:Int))) (by kernel_rfl) ⟨xd ml m1,xd nl n1,xd vl v0⟩ (fun zZ=> ?_);refine utk 0 zZ ?_;refine utk 1 zZ ?_;refine utk 2 zZ ?_;refine utk 3 zZ ?_;refine utk 4 zZ ?_;refine utk 5 zZ ?_;refine utk 6 zZ ?_;refine utk 7 zZ ?_
         refine utk 8 zZ ?_;refine utk 9 zZ ?_;refine utk 10 zZ ?_;refine utk 11 zZ ?_;refine utk 12 zZ ?_;refine utk 13 zZ ?_;refine utk 14 zZ ?_;refine Yt (by kernel_rfl) rfl (fun K hK=> ?_);go_simp;refine hK.out _ _ ?_;clear hK K;refine Qb ?_;refine Ys (by kernel_rfl) ?_ _;rw [show bits .or .u64 (z:Int) (IntKind.u64.wrap (IntKind.u64.wrap 1*2^x))=((z|||2^x:Nat):Int)from by rw [Zq6];exact uL];have jV:=Qq (uK.out.setVal p (z|||2^x));rw [List.set_set]at jV;have GX:=Qq ((Below.heap_setCell W30 ⟨vb,p,none⟩ (.int .u64 ((z|||2^x:Nat):Int)) nb jU.out.2).trans fN.out)
         clear uL uN v0 vf n1 m1 uK fN gV nl ml vl a0;go_wp2_with fail;go_roundw
         case rel=>exact⟨x+1,by go_num,by omega,Qq ⟨z|||2^x,jV.out.next (Qz.drew),yX.out,GX.out⟩⟩
         case measure=>simp [intOf];omega
        obtain rfl:l1.length=x:=by omega
        have lI:=Qq (bT.out.next Z2.out xU.out nP.out (by have:=uK.out.len;rw [List.length_set]at this;omega) nM.out);go_wp2_with fail;go_roundw
        case rel=>exact⟨k+1,by go_num,by omega,Qq ⟨_,uK.out,lI.out⟩⟩
        case measure=>simp [intOf];omega
      have lI:=Qq (bT.out.other (by rw [<-tW.out];exact ho));have CS:(nn.op==3)=false:=by rw [beq_eq_false_iff_ne];exact ho
      clear ho;go_wp2_with fail;go_roundw
      case rel=>exact⟨k+1,by go_num,by omega,Qq ⟨vals,qA.out.next (Qz.alloc _),lI.out⟩⟩
      case measure=>simp [intOf];omega
     obtain rfl:bl=k:=by omega
     obtain⟨e0,e1,el⟩:=pO.out.cells;obtain⟨wb,hwb⟩:∃v,v=wr:=⟨_,rfl⟩;subst hwb;have lH:=Qq (show Tn (Qm f).1 l1 (Qm f).1.length vals by rw [<-QY.out];exact bT.out);clear bT e0 e1 el;go_wp2_with fail;go_loopw [174] (fun v wr=>∃k:Nat,v=.int .i64 (k:Int)/\k<=ags/\Hid (∃vr,MoI W5 wr mb vb l1.length fas vals vr ((List.range k).map fun(a:Nat)=>(List.range l1.length).map fun v=>Vt l1.length fun w=>Jq lg (Zl (Qm f).1) (a:Int) (l1.getD v 0) (l1.getD w 0)))) (fun v _=>ags - (intOf v).toNat)
     case atStart=>exact⟨0,rfl,Nat.zero_le _,Qq ⟨_,uK.out⟩⟩
     case round =>
      clear uK pO;obtain⟨k,rfl,hk,zY⟩:=hrel;obtain⟨vr,mK⟩:=zY.out;obtain⟨rows,tZ⟩:∃x,x=((List.range k).map fun(a:Nat)=>(List.range l1.length).map fun v=>Vt l1.length fun w=>Jq lg (Zl (Qm f).1) (a:Int) (l1.getD v 0) (l1.getD w 0)):=⟨_,rfl⟩;have jQ:=Qq tZ;rw [<-tZ]at mK;have uK:=Qq mK;have pO:=Qq (HS.out.next mK.ext);clear zY mK tZ;obtain⟨e0,e1,el⟩:=pO.out.cells;by_cases hlt2:k < ags
      ·have yP:(k:Int) < (ags:Int):=by omega
       obtain⟨P,hP⟩:∃P:Nat->Nat->Bool,P=fun v w=>Jq lg (Zl (Qm f).1) (k:Int) (l1.getD v 0) (l1.getD w 0):=⟨_,rfl⟩
       have HP:=Qq (show ∀v w,P v w=Jq lg (Zl (Qm f).1) (k:Int) (l1.getD v 0) (l1.getD w 0)from fun v w=>by rw [hP]);have sV:=Qq (show((List.range (k+1)).map fun(a:Nat)=>(List.range l1.length).map fun v=>Vt l1.length fun w=>Jq lg (Zl (Qm f).1) (a:Int) (l1.getD v 0) (l1.getD w 0))=rows++ [(List.range l1.length).map fun v=>Vt l1.length (P v)] by rw [List.range_succ,List.map_append,<-jQ.out,hP];rfl);clear hP;have cL:=Qkc l1.length (by omega);obtain⟨wa,uU⟩:∃v,v=wr:=⟨_,rfl⟩;subst uU;obtain⟨rb,XS⟩:∃x,x=wa.heap.size:=⟨_,rfl⟩;have PI:=Qq XS;have bG:=Qq (Ow l1.length (by omega) wa wa.heap.size (Nat.le_refl _))
       rw [List.toArray_replicate,<-XS]at bG;go_upto_region 37 with(fail);obtain⟨wc,sP⟩:∃x,x=(wa.alloc (.cells (Array.replicate l1.length (Value.int .u64 0)) 41)):=⟨_,rfl⟩;have VL:=Qq (show Ext wa wc by rw [sP];exact Qz.alloc _);rw [<-sP]at bG;rw [<-sP,<-XS];clear sP XS e0 e1 el cL;have aY:=Qq (pO.out.next VL.out);obtain⟨e0,e1,el⟩:=aY.out.cells;go_wp2_with fail;clear e0 e1 el aY;go_loopw [188] (fun v wr=>∃x:Nat,v=.int .i64 (x:Int)/\x<=l1.length/\Hid (∃r,Ext wa wr/\Zx rb wr (.slice (some ⟨rb,0,none⟩) l1.length l1.length) r/\Do l1.length P x 0 r)) (fun v _=>l1.length - (intOf v).toNat)
       case atStart=>exact⟨0,rfl,Nat.zero_le _,Qq ⟨_,VL.out,bG.out,Do.start _ _⟩⟩
       case round =>
        clear bG VL;obtain⟨x,rfl,hx,zY⟩:=hrel;obtain⟨r,nB,MJ,ZZ⟩:=zY.out;have pL:=Qq nB;have dC:=Qq MJ;have cZ:=Qq ZZ;have gV:=Qq (pO.out.next nB);clear zY nB MJ ZZ;by_cases yK:x < l1.length
        ·have zN:(x:Int) < (l1.length:Int):=by omega
         obtain⟨g2,cap2,wA,tH,_,kM,tE,a0⟩:=Us gV.out.row yK rfl;injection wA with hsl2a _ hsl2b;subst hsl2a hsl2b;unfold maxLen at tE;obtain⟨e0,e1,el⟩:=gV.out.cells;have nW:l1.getD x 0∈l1:=by rw [Qk,Qv yK];exact List.getElem_mem _
         have qF:l1.getD x 0 < m:=by have:=HO.out.lt _ nW;rw [tN.out]at this;exact this
         obtain⟨u,hu⟩:∃u,u=l1.getD x 0:=⟨_,rfl⟩;have J4:=Qq hu;rw [<-hu]at a0 qF;have JK:IntKind.u64.wrap (u:Int)=(u:Int):=by rw [IntKind.wrap_u64];omega
         clear nW hu;obtain⟨wo,ZL⟩:∃v,v=wr:=⟨_,rfl⟩;subst ZL;go_wp2_with fail;clear a0 e0 e1 el tH;go_loopw [198] (fun v wr=>∃y:Nat,v=.int .i64 (y:Int)/\y<=l1.length/\Hid (∃r,Ext wa wr/\Zx rb wr (.slice (some ⟨rb,0,none⟩) l1.length l1.length) r/\Do l1.length P x y r)) (fun v _=>l1.length - (intOf v).toNat)
         case atStart=>exact⟨0,rfl,Nat.zero_le _,Qq ⟨_,pL.out,dC.out,cZ.out⟩⟩
         case round =>
          clear dC pL cZ gV;obtain⟨y,rfl,hy,zY⟩:=hrel;obtain⟨r,nB,MJ,ZZ⟩:=zY.out;have pL:=Qq nB;have dC:=Qq MJ;have cZ:=Qq ZZ;have gV:=Qq (pO.out.next nB);clear zY nB MJ ZZ;by_cases hlt4:y < l1.length
          ·have JI:(y:Int) < (l1.length:Int):=by omega
           have BG:y < 64:=by omega
           obtain⟨g3,cap3,kL,aE,_,hs13,hs23,a0⟩:=Us gV.out.row hlt4 rfl;injection kL with hsl3a _ hsl3b;injection hsl3a with hsl3a;injection hsl3a with hsl3a;subst hsl3a hsl3b;have nW:l1.getD y 0∈l1:=by rw [Qk,Qv hlt4];exact List.getElem_mem _
           have BU:l1.getD y 0 < m:=by have:=HO.out.lt _ nW;rw [tN.out]at this;exact this
           have GK:=Qq (show P x y=Jq lg (Zl (Qm f).1) (k:Int) u (l1.getD y 0) by rw [HP.out,J4.out]);obtain⟨q,hq⟩:∃q,q=l1.getD y 0:=⟨_,rfl⟩;rw [<-hq]at a0 BU GK;have vD:IntKind.u64.wrap (q:Int)=(q:Int):=by rw [IntKind.wrap_u64];omega
           have jS:=Qq (Te b lg _ _ _ _ _ (k:Int) u q wr (bV.out.ext gV.out.ext) HA.out.lgr (by omega) (by omega) (fun n hn=>⟨(tL.out n hn).1,by have:=(tL.out n hn).2;rw [tN.out]at this;omega⟩));rw [<-GK.out]at jS;clear nW hq GK;cases rB:P x y
           ·rw [rB]at jS;have bB:=Qq (cZ.out.no rB);clear rB;go_wp2_with fail;refine jS.out.mono ?_;rintro e w9 ⟨rfl,gJ⟩;have cU:=Qq (pL.out.trans gJ);have jV:=Qq (dC.out.ext gJ);clear gJ;go_wp2_with fail;go_roundw
            case rel=>exact⟨y+1,by go_num,by omega,Qq ⟨r,cU.out,jV.out,bB.out⟩⟩
            case measure=>simp [intOf];omega
           rw [rB]at jS;have bB:=Qq (cZ.out.yes yK rB);have I3:=Qq (show Qp (r.getD x 0)from Qy (cZ.out.low hy yK) (Ng yN));have uL:=Wx I3.out BG;clear rB;go_wp2_with fail;refine jS.out.mono ?_;rintro e w9 ⟨rfl,gJ⟩;have cU:=Qq (pL.out.trans gJ);have jV:=Qq (dC.out.ext gJ);have wC:=cZ.out.len;obtain⟨-,vl,-,-,-,cG,LL⟩:=jV.out.at_ (by rw [wC];omega);have v0:=cG x (by rw [wC];exact yK);have vf:=LL x;obtain⟨z,kE⟩:∃z,z=r.getD x 0:=⟨_,rfl⟩;rw [<-kE]at v0 uL bB;clear gJ wC cG LL kE a0 aE;go_upto_region 44 with(fail);refine Yd 8 (fun w'=>w'.cell? (⟨rb,x,none⟩)=some (.int .u64 (z:Int))) (by kernel_rfl) (xd vl v0) (fun zZ=> ?_)
           refine utk 0 zZ ?_;refine utk 1 zZ ?_;refine utk 2 zZ ?_;refine utk 3 zZ ?_;refine utk 4 zZ ?_;refine utk 5 zZ ?_;refine utk 6 zZ ?_;refine utk 7 zZ ?_;refine Yt (by kernel_rfl) rfl (fun K hK=> ?_);go_simp;refine hK.out _ _ ?_;clear hK K;refine Qb ?_;refine Ys (by kernel_rfl) ?_ _;have IB:=Qq (jV.out.set cZ.out.len x (z|||2^y));have FP:=Qq (cU.out.setCell (p:=⟨rb,x,none⟩) (by rw [<-PI.out];exact Nat.le_refl _) (.int .u64 ((z|||2^y:Nat):Int)));clear uL v0 vf jV cU vl;go_wp2_with fail;go_roundw
           case rel=>exact⟨y+1,by go_num,by omega,Qq ⟨_,FP.out.drew,IB.out.ext (Qz.drew),bB.out⟩⟩
           case measure=>simp [intOf];omega
          obtain rfl:l1.length=y:=by omega
          have GG:=Qq cZ.out.turn;go_wp2_with fail;go_roundw
          case rel=>exact⟨x+1,by go_num,by omega,Qq ⟨r,pL.out,dC.out,GG.out⟩⟩
          case measure=>simp [intOf];omega
        obtain rfl:l1.length=x:=by omega
        have K2:=Qq cZ.out.done;have YV:=Qq (uK.out.next pL.out);obtain⟨us,sR,zP,wY⟩:=uK.out.rel;have jO:=Qq sR;have yJ:=Qq zP;have nR:=Qq wY;have J3:=Qq (show us.length<=4 by rw [sR,jQ.out,List.length_map,List.length_range];omega);obtain⟨iS,NG,dK,dJ,dI⟩:=info_parts Zjd;obtain⟨⟨m0,m1,m2⟩,⟨mf0,mf1,mf2⟩,ml⟩:=YV.out.cells;obtain⟨Av,cv,rfl⟩:=Qs zP;have LN:=J3.out;have xN:us.length+1<=maxLen:=by unfold maxLen;omega
        have xJ:(us.length+1)*24<=140737488355328:=by omega
        clear sR zP wY m0 m1;obtain⟨wo,ZL⟩:∃v,v=wr:=⟨_,rfl⟩;subst ZL;go_wp2_with(at_builtin;refine wpList_append_own_at _ rfl _ _ 24 rfl W5.heap.size 23 iS (.slice none 0 0) 1 24 Tryz.underlying24 NG dK dJ dI rfl (by decide) _ us.length us rfl (Zf yJ.out (pL.out.trans (Qz.alloc _))) ⟨_,0,none⟩ 1 1 [.slice (some ⟨rb,0,none⟩) l1.length l1.length] rfl rfl (Zm _ _ _ (by simp)) (fun u hu=>by rw [List.mem_singleton.1 hu];rfl) xN xJ (Qx YV.out.ext.size (Qz.alloc _).size) ?_);intro v7 w7 zW zX qK zF;have oY:=Qq (uK.out.push jO.out yJ.out nR.out pL.out (by rw [<-PI.out];exact dC.out) (Qz.alloc _) zW zX (zF.imp_right fun h=>by rw [h];simp))
        obtain⟨⟨p0,p1,p2⟩,⟨pf0,pf1,pf2⟩,pl⟩:=Zc ((zX.block mb (Qy ml ((Ext.refl wo).alloc (.cells #[.slice (some ⟨rb,0,none⟩) l1.length l1.length] 23)).size) (fun e=>YV.out.dr.1 e.symm)).trans ((((Ext.refl wo).alloc (.cells #[.slice (some ⟨rb,0,none⟩) l1.length l1.length] 23)).block ml).trans YV.out.cell));obtain⟨A7,c7,rfl⟩:=Qs zW;clear zW zX qK zF m2 mf0 mf1 mf2 p0 p1 pf0 pf1;go_wp2_with fail;go_roundw
        case rel=>exact⟨k+1,by go_num,by omega,Qq ⟨_,by rw [sV.out,<-K2.out];exact oY.out⟩⟩
        case measure=>simp [intOf];omega
      obtain rfl:ags=k:=by omega
      obtain⟨⟨m0,m1,m2⟩,⟨mf0,mf1,mf2⟩,ml⟩:=uK.out.cells;have vX:=Qq ((pO.out.ext.block (by have:=WB.out;exact this)).trans rV.out);obtain⟨⟨q0,q1,q2⟩,⟨f0,f1,f2⟩,ql⟩:=Zc vX.out;have pL:=Qq (zR.out.trans pO.out.ext);have fS:=Qq (show Uf lg f=true by
       rw [SI.out,List.any_eq_true];have h1:=aZ.out;refine⟨t0,List.mem_range.2 ?_,h1⟩;rw [PD.out,Bool.and_eq_true]at h1;have:=Xg h1.1;rw [tN.out]at this;exact this)
      have K8:=Qq (show Qxv lg f l1 ⟨l1.length,vals,rows⟩from {
       n:=rfl
       pos:=qH
       le:=yN
       al:=fun u hu=>by rw [<-nT.out];exact HO.out.al u hu
       sel:=fun t ht=>by
        obtain⟨i,hi,e⟩:=List.getElem_of_mem ht;have h1:=HJ.out i hi;rw [Qk,Qv hi,Option.getD_some,e,RD.out,nT.out]at h1;exact h1
       root:=by
        have h1:=aZ.out;rw [PD.out,Bool.and_eq_true]at h1;have h2:=HG.out.get (k:=0) (by simp);rw [h2];exact h1.2
       rel:=by rw [<-RD.out];exact jQ.out
       vlen:=by rw [<-QN.out];exact uK.out.len
       vlow:=lH.out.low
       fact:=fun i p hi h1 h2=>lH.out.bit i p hi h1 h2 })
      have PS:=Qq (show(⟨l1.length,vals,rows⟩:Md).ok from⟨⟨by show(-9223372036854775808:Int)<=(l1.length:Int);omega,by show(l1.length:Int)<=9223372036854775807;omega⟩,fun s hs=>Qy (lH.out.low s hs) (Ng yN),fun r hr s hs=>by
       have kN:r∈rows:=hr;rw [jQ.out]at kN;obtain⟨a,_,rfl⟩:=List.mem_map.1 kN;obtain⟨v,_,rfl⟩:=List.mem_map.1 hs;exact Fp yN _⟩)
      have xT:=Qq (show w.heap.size < W5.heap.size from Qy WB.out HS.out.ext.size);obtain⟨Av,cv,rfl⟩:∃A c,vr=.slice A rows.length c:=by
       obtain⟨us,sR,zP,_⟩:=uK.out.rel;obtain⟨A,c,e⟩:=Qs zP;exact⟨A,c,by rw [e,sR]⟩
      go_wp2_with fail
      (try simp only [Exit.inBlock,Exit.then])
      refine bodyPost_ret (Yh Tryz.results24 _ _ rfl (Ze (Yx vX.out _ _ _)) Tryz.underlying26 rfl (by kernel_rfl)) rfl ?_;refine⟨Yv pL.out (Nat.le_refl _) _ _ _,.inr (.inr (.inl ⟨wU.out.symm,fS.out,_,_,l1,rfl,uK.out.mdv ⟨by simp [World.setCell],fun k hk hl=>Kv (fun e=>hk (by rw [e];exact xT.out)) _ _ _⟩,PS.out,K8.out⟩))⟩
 have HZ:=Qq hz;clear vG;go_enter Tryz.func24,Tryz.ntmps24;go_wp2_with fail;refine(Ii lg _ f _ (H.out.ext zK.out)).mono ?_;rintro e w1 ⟨zN,hr⟩;obtain⟨_,rfl⟩:=hr.resolve_right (fun h=>HZ.out (wU.out.trans h.1));rw [<-wU.out];have zL:=Qq zN;have wJ:=Qq ((zN.block (by simp)).trans lY.out);obtain⟨⟨q0,q1,q2⟩,⟨f0,f1,f2⟩,ql⟩:=Zc wJ.out;clear zN hr;go_wp2_with fail
 (try simp only [Exit.inBlock,Exit.then])
 refine bodyPost_ret (Yh Tryz.results24 _ _ rfl (Ze (Yx wJ.out _ _ _)) Tryz.underlying26 rfl (by kernel_rfl)) rfl ?_;exact⟨Yv (zK.out.trans zL.out) (Nat.le_refl _) _ _ _,.inl ⟨fun h=>HZ.out (wU.out.trans h),by rw [<-wU.out] <;> rfl⟩⟩
end Go.Proofs.YtkmclcmnoicagaaGreatDoor
