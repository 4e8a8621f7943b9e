/- types' Model: the walk. -/
import Derived.Test.YtkmclcmnoicagaaGreatDoorL27
namespace Go.Proofs.YtkmclcmnoicagaaGreatDoor
set_option maxRecDepth 100000
set_option maxHeartbeats 128000000
open Go.RowKit
theorem Qxv(n:Nat)(hn:n<=1000)(W:World):(Instr.makeSlice 23 (.int .i64 (n:Int)) (.int .i64 (n:Int))).run Tryz.prog W=.ok (.slice (some ⟨W.heap.size,0,none⟩) n n) (W.alloc (.cells (List.replicate n (Value.int .u64 0)).toArray 41)):=by
 obtain⟨i,hi,h0,h1,h2⟩:=info_parts Dz;have h:=run_make (P:=Tryz.prog) W 23 41 i (.int .u64 0) Tryz.underlying23 hi h0 .i64 .i64 n n (by omega) (Int.le_refl _) (by rw [h2];omega) (by omega);rw [h1,Int.toNat_natCast,Nat.mul_one]at h;rw [h,<-toList_madeCells_one];rfl
theorem Qqt(n:Nat)(hn:n<=1000)(w:World)(base:Nat)(hb:base<=w.heap.size):Zv base (w.alloc (.cells (List.replicate n (Value.int .u64 0)).toArray 41)) (.slice (some ⟨w.heap.size,0,none⟩) n n) (List.replicate n 0):=by
 have e:uV (List.replicate n 0)=List.replicate n (Value.int .u64 0):=by unfold uV;rw [List.map_replicate];rfl
 unfold Zv;rw [e,List.length_replicate];exact⟨by simp,.inr ⟨w.heap.size,n,(List.replicate n (Value.int .u64 0)).toArray,rfl,hb,heap_alloc_new _ _,Nat.le_refl _,by unfold maxLen;omega,by simp,by simp⟩⟩
theorem Qmw(s k:Nat)(hs:s < 9223372036854775808):bits .and .i64 ((s:Int) / 2^k) 1=((if s.testBit k then 1 else 0:Nat):Int):=by
 have zI:s / 2^k < 9223372036854775808:=Nat.lt_of_le_of_lt (Nat.div_le_self _ _) hs;rw [Dq,show(1:Int)=((1:Nat):Int)from rfl,Px _ 1 zI (by decide),Nat.and_one_is_mod,Nat.testBit_eq_decide_div_mod_eq];rcases Nat.mod_two_eq_zero_or_one (s / 2^k)with h|h <;> rw [h] <;> rfl
theorem Zzc {x:Nat} :IntKind.u64.wrap (IntKind.u64.wrap 1*2^x)=IntKind.u64.wrap ((2:Int)^x):=by
 rw [show IntKind.u64.wrap 1=1 by decide,Int.one_mul]
theorem Zzm {x:Nat} :IntKind.u64.wrap (IntKind.u64.wrap 0*2^x)=0:=by
 rw [show IntKind.u64.wrap 0=0 by decide,Int.zero_mul];decide
theorem Zqv {z:Nat}(h:Qp z):bits .or .u64 (z:Int) 0=(z:Int):=by
 have:=Gq (a:=z) (b:=0) h (by show(0:Nat) < _;omega);rw [Nat.or_zero]at this;exact this
theorem Zj5:(Tryz.prog.info? 23).map (fun i=>(i.zero,i.size,i.bytes))=some (some (.slice none 0 0),1,24):=by kernel_rfl
def X21(W:World)(n fas:Nat)(a a':Act)(w':World):Prop :=
 ∃mb vb,Rk W w' mb vb n fas (List.replicate fas 0) (.slice none 0 0) []/\∃v119 v120 v121 v122 v123 v124 v125 v126,a'=((((((((a.put (some 119) v119).put (some 120) v120).put (some 121) v121).put (some 122) v122).put (some 123) v123).put (some 124) v124).put (some 125) v125).put (some 126) v126).put (some 15) (.pointer (some ⟨mb,0,none⟩))
theorem Qkm {W:World} {n fas:Nat} {a a':Act} {w':World} {mb vb:Nat} {v119 v120 v121 v122 v123 v124 v125 v126:Value}
 (e:a'=((((((((a.put (some 119) v119).put (some 120) v120).put (some 121) v121).put (some 122) v122).put (some 123) v123).put (some 124) v124).put (some 125) v125).put (some 126) v126).put (some 15) (.pointer (some ⟨mb,0,none⟩)))
 (h:Rk W w' mb vb n fas (List.replicate fas 0) (.slice none 0 0) []):X21 W n fas a a' w':=⟨mb,vb,h,v119,v120,v121,v122,v123,v124,v125,v126,e⟩
theorem Zjt {W:World} {n fas:Nat}(hf:fas<=1000):Rk W ((W.alloc (.cells (Array.replicate fas (Value.int .u64 0)) 41)).alloc (.cells #[.int .i64 (n:Int),.slice (some ⟨W.heap.size,0,none⟩) fas fas,.slice none 0 0] 26)).drew (W.heap.size+1) W.heap.size n fas (List.replicate fas 0) (.slice none 0 0) []:=by
 have h1:=Qqt fas hf W W.heap.size (Nat.le_refl _);rw [List.toArray_replicate]at h1;have h2:=heap_alloc_new (W.alloc (.cells (Array.replicate fas (Value.int .u64 0)) 41)) (.cells #[.int .i64 (n:Int),.slice (some ⟨W.heap.size,0,none⟩) fas fas,.slice none 0 0] 26);rw [show(W.alloc (.cells (Array.replicate fas (Value.int .u64 0)) 41)).heap.size=W.heap.size+1 by simp]at h2;exact⟨((Qz.alloc _).alloc _).drew,⟨by omega,by omega⟩,h2,h1.ext ((Qz.alloc _).drew),by simp,⟨[],rfl,World.ownsRow_nil _ _ _ _,fun k u r hu _=>by simp at hu⟩,⟨(fun e=>by cases e),(fun e=>by cases e)⟩⟩
theorem Zjl {W:World} {n fas:Nat}(hf:fas<=1000):Rk W ((W.alloc (.cells #[.int .i64 (n:Int),.slice (some ⟨W.heap.size+1,0,none⟩) fas fas,.slice none 0 0] 26)).alloc (.cells (Array.replicate fas (Value.int .u64 0)) 41)).drew W.heap.size (W.heap.size+1) n fas (List.replicate fas 0) (.slice none 0 0) []:=by
 have h1:=Qqt fas hf (W.alloc (.cells #[.int .i64 (n:Int),.slice (some ⟨W.heap.size+1,0,none⟩) fas fas,.slice none 0 0] 26)) W.heap.size (by simp);rw [List.toArray_replicate,show(W.alloc (.cells #[.int .i64 (n:Int),.slice (some ⟨W.heap.size+1,0,none⟩) fas fas,.slice none 0 0] 26)).heap.size=W.heap.size+1 by simp]at h1;have h2:((W.alloc (.cells #[.int .i64 (n:Int),.slice (some ⟨W.heap.size+1,0,none⟩) fas fas,.slice none 0 0] 26)).alloc (.cells (Array.replicate fas (Value.int .u64 0)) 41)).heap[W.heap.size]?=_:=((Qz.alloc _).block (by simp)).trans (heap_alloc_new W (.cells #[.int .i64 (n:Int),.slice (some ⟨W.heap.size+1,0,none⟩) fas fas,.slice none 0 0] 26))
 exact⟨((Qz.alloc _).alloc _).drew,⟨by omega,by omega⟩,h2,h1.ext (Qz.drew),by simp,⟨[],rfl,World.ownsRow_nil _ _ _ _,fun k u r hu _=>by simp at hu⟩,⟨(fun e=>by cases e),(fun e=>by cases e)⟩⟩
noncomputable def Qys (lg:Int) (f:List Nd) (t:Nat):Bool:=(Rl lg f).1.getD t false&&(Ry f).getD t false
theorem Qqr {m k:Nat}(h:m < 2^k):Yj m<=k:=by
 unfold Yj
 split
 ·omega
 rename_i h0;have:=(Nat.log2_lt h0).2 h;omega
structure Qx0 (lg:Int) (f:List Nd) (S:List Nat) (md:Md):Prop where
 n:md.n=S.length
 pos:0 < S.length
 le:S.length<=64
 al:∀u∈S,(Rl lg f).1.getD u false=true
 sel:∀t∈S,Sel lg (Zr (Qm f).1) (Jt (Qm f).1) (Rl lg f).1 (Yj (Jd (Qf f))) S t
 root:(Ry f).getD (S.getD 0 0) false=true
 rel:md.rel=(List.range (Yj (Jd (Qf f)))).map fun(a:Nat)=>(List.range S.length).map fun v=>Vd S.length fun w=>Jz lg (Zr (Qm f).1) (a:Int) (S.getD v 0) (S.getD w 0)
 vlen:md.val.length=Yj (Je (Qf f))
 vlow:∀s∈md.val,s < 2^S.length
 fact:∀(i p:Nat),i < (Qm f).1.length->(Qw ((Qm f).1.getD i [])).op=3->(Qw ((Qm f).1.getD i [])).i=(p:Int)->∀w,w < S.length->(md.val.getD p 0).testBit w=(S.getD w 0).testBit i
def Zyt(w:World)(lg:Int)(f:List Nd)(e:Ending)(w':World):Prop :=
 Qg w w'/\((Ji lg f≠0/\e=.returned (.tuple #[.agg #[.int .i64 0,.slice none 0 0,.slice none 0 0],.int .i64 0,.int .i64 (Ji lg f)]))\/
  (Ji lg f=0/\Ux lg f=false/\e=.returned (.tuple #[.agg #[.int .i64 0,.slice none 0 0,.slice none 0 0],.int .i64 0,.int .i64 6]))\/
  (Ji lg f=0/\Ux lg f=true/\∃vm md S,e=.returned (.tuple #[vm,.int .i64 0,.int .i64 0])/\Yz w' vm md/\md.ok/\Qx0 lg f S md)\/
  (Ji lg f=0/\Ux lg f=true/\6 < (Qm f).1.length/\e=.returned (.tuple #[.agg #[.int .i64 0,.slice none 0 0,.slice none 0 0],.int .i64 0,.int .i64 8])))
theorem Qch(lg:Int)(v:Value)(f:List Nd)(w:World)(h:Jo w v f):
 Calls Tryz.prog 24 #[.int .i64 lg,v] w (Zyt w lg f):=by
 have rD:= @run_makeMap Tryz.prog;have H:=Qq h;obtain⟨Af,cf,rfl,_⟩:=Qc h;clear h;have mD:=Qq (show(w.alloc (.cells #[.int .i64 0,.slice none 0 0,.slice none 0 0] 26)).heap[w.heap.size]?=some (.cells #[.int .i64 0,.slice none 0 0,.slice none 0 0] 26 (0,0))from heap_alloc_new _ _);have zL:=Qq (show Qg w (w.alloc (.cells #[.int .i64 0,.slice none 0 0,.slice none 0 0] 26))from Qz.alloc _);obtain⟨er,tW⟩:∃er,er=Ji lg f:=⟨_,rfl⟩;have wE:=Qq tW;by_cases hz:er=0
 ·subst hz;have zC:=Qq (Qzw tW.symm);have HA:=Qq (Qib zC.out);clear tW;go_enter Tryz.func24,Tryz.ntmps24;go_wp2_with fail;refine(Qzx lg _ f _ (H.out.ext zL.out)).mono ?_;rintro e w1 ⟨zP,hr⟩;obtain⟨b,g,rfl,hb,hg,hE⟩:=(hr.resolve_left (fun h=>h.1 wE.out.symm)).2;have HE:=Qq hE;have zM:=Qq zP;have lP:=Qq (show w.heap.size < g by simp at hg;omega);clear hr hb hg hE zP;go_wp2_with fail;refine(Qbz b g lg _ _ _ _ _ _ HE.out HA.out.lgr HA.out.le HA.out.len (fun k hk=>⟨(HA.out.ks k hk).1,by rw [(HA.out.ks k hk).2,HA.out.al];exact Nat.le_refl _⟩) (fun c hc=>by have:=HA.out.cs c hc;rw [HA.out.al];exact this)).mono ?_
  rintro e w2 ⟨vt,vw,rfl,jM,EX,_,_⟩;obtain⟨al,vS⟩:∃al,al=(Rl lg f).1:=⟨_,rfl⟩;have nZ:=Qq vS;rw [show(Qk1 lg (Zr (Qm f).1) (Jt (Qm f).1) (Qm f).1.length (Kp lg (Qm f).1)).1=al from vS.symm]at EX;have fR:=Qq EX.eng;have wO:=Qq ((zM.out.block (by simp)).trans mD.out);have rY:=Qq ((jM.block w.heap.size (Qn wO.out) (fun e=>by injection e with e;have:=lP.out;omega)).trans wO.out);have zS:=Qq (show Qg w w2 from(zL.out.trans zM.out).grown jM (fun k e=>by injection e with e;have:=lP.out;omega));have WG:=Qq (show w.heap.size < w2.heap.size from Qn rY.out)
  obtain⟨m,hm⟩:∃m,m=2^(Qm f).1.length:=⟨_,rfl⟩;have HM:=Qq hm;have tI:=Qq (show al.length=m by rw [vS,hm,Mx]);have WD:=Qq (show(Ry f).length=m by rw [hm];exact HA.out.root);have hm40:m<=4096:=by rw [hm];exact Qbr HA.out.len
  have tG:=Qq (show ∀k∈Zr (Qm f).1,k.place < 64/\al.length<=k.holds.length from fun k hk=>⟨(HA.out.ks k hk).1,by rw [(HA.out.ks k hk).2,tI.out,hm];exact Nat.le_refl _⟩);have lR:=Qq (show ∀c∈Jt (Qm f).1,c.place < 64/\c.x.length=al.length/\c.y.length=al.length/\0<=c.group/\c.group < 16 from fun c hc=>by have:=HA.out.cs c hc;rw [tI.out,hm];exact this);have WP:=Qq (show ∀t,al.getD t false=true->Qbd lg (Zr (Qm f).1) (Jt (Qm f).1) al t from fun t ht=>by rw [vS]at ht⊢;exact Qpf zC.out ht);have SK:=Qq (show Ux lg f=(List.range m).any (Qys lg f) by unfold Ux Hv;rw [Mx,<-hm];rfl)
  have PC:=Qq (show ∀t,Qys lg f t=(al.getD t false&&(Ry f).getD t false)from fun t=>by rw [vS];rfl);clear jM EX vS hm;obtain⟨Ab,cb,Ar,cr,Ak,ck,Ac,cc,Aa,ca,d0,d1,d2,d3,d4,d5,xQ,pP,JO,_,_,vS⟩:=fR.out.cells;rw [WD.out]at d2;rw [tI.out]at d5;have D1:=Qq d1;have D2:=Qq d2;have rA:=Qq xQ;have lQ:=Qq pP;have WE:=Qq JO;have JF:=Qq vS;have SD:=vS.1;have EP:=vS.2.1;have JP:=JO.1;have CA:=JO.2.1;unfold maxLen at EP CA;rw [tI.out]at SD;rw [WD.out]at JP;clear pP JO vS d0 d3 d4 d1;go_upto_region 6 with(fail);obtain⟨w3,jB⟩:∃x,x=(w2.alloc (.map #[] 0)).alloc (.cells #[.slice none 0 0,.map (some w2.heap.size)] 98):=⟨_,rfl⟩
  have qT:=Qq (show Gt w2 w3 (.slice none 0 0) [] by rw [jB];exact Gt.start w2);rw [<-jB];clear jB;have d2':=(qT.out.ext.cell (p:=⟨b,2,none⟩) rA.out).trans D2.out;have d5':=(qT.out.ext.cell (p:=⟨b,5,none⟩) rA.out).trans d5;have bl3:=Qy rA.out qT.out.ext.size;go_wp2_with fail;clear d2' d5' bl3;go_loopw [49] (fun v wr=>∃k:Nat,v=.int .i64 (k:Int)/\k<=m/\Hid (∃v' l',Gt w2 wr v' l'/\l'.length<=1/\(l'= []->∀j,j < k->Qys lg f j=false)/\∀u∈l',Qys lg f u=true)) (fun v _=>m - (intOf v).toNat)
  case atStart=>exact⟨0,rfl,Nat.zero_le _,Qq ⟨_,[],qT.out,Nat.zero_le _,fun _ j hj=>absurd hj (by omega),fun u hu=>by cases hu⟩⟩
  case round =>
   clear qT;obtain⟨k,rfl,hk,zY⟩:=hrel;obtain⟨v1,l1,wQ,lC,lD,JL⟩:=zY.out;have HS:=Qq wQ;have HJ:=Qq lD;have HU:=Qq JL;clear zY wQ lD JL;by_cases hlt2:k < m
   ·have yT:(k:Int) < (m:Int):=by omega
    have d2':=(HS.out.ext.cell (p:=⟨b,2,none⟩) rA.out).trans D2.out;have bl3:=Qy rA.out HS.out.ext.size;obtain⟨_,rfl,yV,a0⟩:=Xx (JF.out.ext HS.out.ext) (show k < al.length by rw [tI.out];exact hlt2);obtain⟨_,rfl,xC,r0⟩:=Xx (WE.out.ext HS.out.ext) (show k < (Ry f).length by rw [WD.out];exact hlt2);have KU:=Qq (PC.out k);have zE:=Qq (fun(nH:l1= []->Qys lg f k=false) (he:l1= []) j (hj:j < k+1)=>show Qys lg f j=false from by
     by_cases e:j < k
     ·exact HJ.out he j e
     have:j=k:=by omega
     subst this;exact nH he)
    obtain⟨ak,qR⟩:∃x,x=al.getD k false:=⟨_,rfl⟩;obtain⟨rk,ZX⟩:∃x,x=(Ry f).getD k false:=⟨_,rfl⟩;rw [<-qR,<-ZX]at KU;rw [<-qR]at a0;rw [<-ZX]at r0;clear qR ZX;obtain⟨e0,e1,el⟩:=HS.out.cells;obtain⟨A1,c1,rfl⟩:=Qs HS.out.row;cases ak
    ·go_wp2_with fail;go_roundw
     case rel=>exact⟨k+1,by go_num,by omega,Qq ⟨_,l1,HS.out,lC,zE.out (fun _=>by rw [KU.out];rfl),HU.out⟩⟩
     case measure=>simp [intOf];omega
    cases rk
    ·go_wp2_with fail;go_roundw
     case rel=>exact⟨k+1,by go_num,by omega,Qq ⟨_,l1,HS.out,lC,zE.out (fun _=>by rw [KU.out];rfl),HU.out⟩⟩
     case measure=>simp [intOf];omega
    by_cases pK:l1.length=0
    ·have hq:((l1.length:Int)==0)=true:=by rw [pK];rfl
     have QA:=Qq (List.length_eq_zero_iff.1 pK);have gD:=Qq (show Nh l1 (k:Int)= [k] by rw [QA.out];rfl);have CZ:(k:Int)<=4096:=by omega
     have CV:l1.length<=4096:=by omega
     clear pK;go_wp2_with fail;refine(Qx1 w2 _ _ l1 (k:Int) HS.out CZ CV).mono ?_;rintro e w5 ⟨⟨r,rfl⟩,v5,RO,_⟩;rw [gD.out]at RO;have VZ:=Qq RO;clear RO;go_wp2_with fail;go_roundw
     case rel=>exact⟨k+1,by go_num,by omega,Qq ⟨_,[k],VZ.out,Nat.le_refl _,(fun h=>by cases h),(fun u hu=>by rw [List.mem_singleton.1 hu,KU.out];rfl)⟩⟩
     case measure=>simp [intOf];omega
    have hq:((l1.length:Int)==0)=false:=by rw [beq_eq_false_iff_ne];omega
    have QA:=Qq (show l1≠ []from fun e=>pK (by rw [e];rfl));clear pK;go_wp2_with fail;go_roundw
    case rel=>exact⟨k+1,by go_num,by omega,Qq ⟨_,l1,HS.out,lC,(fun h=>absurd h QA.out),HU.out⟩⟩
    case measure=>simp [intOf];omega
   obtain rfl:m=k:=by omega
   obtain⟨e0,e1,el⟩:=HS.out.cells;obtain⟨A1,c1,rfl⟩:=Qs HS.out.row;by_cases pK:l1.length=0
   ·have hq:((l1.length:Int)==0)=true:=by rw [pK];rfl
    have uL:=Qq (show Ux lg f=false by
     rw [SK.out,List.any_eq_false];intro t ht;rw [HJ.out (List.length_eq_zero_iff.1 pK) t (List.mem_range.1 ht)];simp)
    have vI:=Qq ((HS.out.ext.block (by have:=WG.out;exact this)).trans rY.out);obtain⟨⟨q0,q1,q2⟩,⟨f0,f1,f2⟩,ql⟩:=Zp vI.out;have pS:=Qq (zS.out.trans HS.out.ext);clear pK;go_wp2_with fail
    (try simp only [Exit.inBlock,Exit.then])
    refine bodyPost_ret (Yn Tryz.results24 _ _ rfl (Jv (Vq vI.out _ _ _)) Tryz.underlying26 rfl (by kernel_rfl)) rfl ?_;exact⟨Yl pS.out (Nat.le_refl _) _ _ _,.inr (.inl ⟨wE.out.symm,uL.out,rfl⟩)⟩
   obtain⟨t0,rfl⟩:∃t,l1= [t]:=by
    cases l1 with
    |nil=>exact absurd rfl pK
    |cons a r=>cases r with
     |nil=>exact⟨a,rfl⟩
     |cons z r=>simp at lC
   have aW:=Qq (HU.out t0 (List.mem_singleton.2 rfl));have I9:=Qq (show SOk al [t0]from⟨by simp,fun u hu=>by
    have h1:=aW.out;rw [PC.out,Bool.and_eq_true]at h1;rw [List.mem_singleton.1 hu];exact h1.1⟩)
   have hh:=(Jj zC.out.ck).2.2.2;have vZ:=Dy (Qf f) 0 hh (by decide);have pR:=Rp (Qf f) 0 hh (by decide);obtain⟨am,lI⟩:∃x,x=Jd (Qf f):=⟨_,rfl⟩;obtain⟨fm,pP⟩:∃x,x=Je (Qf f):=⟨_,rfl⟩;rw [show(Qf f).foldl Se 0=am from lI.symm]at vZ;rw [show(Qf f).foldl So 0=fm from pP.symm]at pR;have bR:=Qq lI;have WZ:=Qq pP;have vJ:IntKind.u64.wrap (am:Int)=(am:Int):=by rw [IntKind.wrap_u64];omega
   have kR:IntKind.u64.wrap (fm:Int)=(fm:Int):=by rw [IntKind.wrap_u64];omega
   clear pK lC hh lI pP HJ HU;go_wp2_with fail;refine(Wi _ f _ (H.out.ext (zS.out.trans HS.out.ext)) zC.out.ck).mono ?_;rintro e w5 ⟨rfl,hx⟩;rw [<-bR.out];have VZ:=Qq (HS.out.next hx);clear hx e0 e1 el;go_wp2_with fail;refine(Qyd am (by omega) _).mono ?_;rintro e w6 ⟨rfl,rfl⟩;go_wp2_with fail;refine(Qqy _ f _ (H.out.ext (zS.out.trans VZ.out.ext)) zC.out.ck).mono ?_;rintro e w7 ⟨rfl,hx⟩;rw [<-WZ.out];have Y6:=Qq (VZ.out.next hx);clear hx HS VZ;go_wp2_with fail;refine(Qyd fm (by omega) _).mono ?_;rintro e w8 ⟨rfl,rfl⟩;have sS:=Qqr (m:=am) (k:=4) vZ;have sD:=Qqr (m:=fm) (k:=8) pR
   obtain⟨ags,VF⟩:∃x,x=Yj am:=⟨_,rfl⟩;obtain⟨fas,UR⟩:∃x,x=Yj fm:=⟨_,rfl⟩;have RH:=Qq (show ags=Yj (Jd (Qf f)) by rw [VF,bR.out]);have QO:=Qq (show fas=Yj (Je (Qf f)) by rw [UR,WZ.out]);rw [<-VF]at sS⊢;rw [<-UR]at sD⊢;clear VF UR vJ kR vZ pR bR WZ;go_wp2_with fail;go_loopw [14] (fun v wr=>∃k:Nat,v=.int .i64 (k:Int)/\k<=m/\Hid (∃v' l',Gt w2 wr v' l'/\Ko al [t0] l'/\k<=l'.length/\∀j,j < k->Sel lg (Zr (Qm f).1) (Jt (Qm f).1) al ags l' (l'.getD j 0))) (fun v _=>m - (intOf v).toNat)
   case atStart=>exact⟨0,rfl,Nat.zero_le _,Qq ⟨_,[t0],Y6.out,Ko.refl,Nat.zero_le _,fun j hj=>absurd hj (by omega)⟩⟩
   case round =>
    clear Y6;obtain⟨k,rfl,hk,zY⟩:=hrel;obtain⟨v1,l1,wQ,vK,xD,lD⟩:=zY.out;have HS:=Qq wQ;have HG:=Qq vK;have HJ:=Qq lD;have HO:=Qq (I9.out.grow vK);have hlm:l1.length<=m:=by have:=HO.out.len;rw [tI.out]at this;exact this
    clear zY wQ vK lD;obtain⟨e0,e1,el⟩:=HS.out.cells;by_cases hlt2:k < l1.length
    ·have yT:(k:Int) < (l1.length:Int):=by omega
     obtain⟨g2,cap2,wF,tD,_,kW,tC,a0⟩:=Un HS.out.row hlt2 rfl;subst wF;unfold maxLen at tC;have oC:l1.getD k 0∈l1:=by rw [Qk,Qv hlt2];exact List.getElem_mem _
     have PV:=Qq (WP.out _ (HO.out.al _ oC));have qH:l1.getD k 0 < m:=by have:=HO.out.lt _ oC;rw [tI.out]at this;exact this
     have zE:=Qq (fun(l2:List Nat) (uP:Ko al l1 l2) (dI:Sel lg (Zr (Qm f).1) (Jt (Qm f).1) al ags l2 (l1.getD k 0)) j (hj:j < k+1)=>show Sel lg (Zr (Qm f).1) (Jt (Qm f).1) al ags l2 (l2.getD j 0)from by
      rw [uP.get (by omega)];by_cases e:j < k
      ·exact(HJ.out j e).mono uP.sub
      have:j=k:=by omega
      subst this;exact dI)
     obtain⟨u,hu⟩:∃u,u=l1.getD k 0:=⟨_,rfl⟩;rw [<-hu]at a0 qH PV zE;have ZM:IntKind.u64.wrap (u:Int)=(u:Int):=by rw [IntKind.wrap_u64];omega
     have JJ:u < al.length:=by rw [tI.out];exact qH
     have aA:al.length<=4096:=by rw [tI.out];omega
     clear oC hu;go_wp2_with fail;refine(Qte b lg _ _ _ _ al ags u w2 _ _ l1 fR.out HA.out.lgr JJ aA tG.out lR.out sS PV.out HS.out HO.out).mono ?_;rintro e w9 ⟨⟨r,rfl⟩,v2,l2,yD,uP,XT⟩;have wP:=Qq yD;have cT:=Qq uP;have FZ:=Qq (zE.out l2 uP XT);have pN:l1.length<=l2.length:=uP.pre.length_le;clear yD uP XT;go_wp2_with fail;go_roundw
     case rel=>exact⟨k+1,by go_num,by omega,Qq ⟨_,l2,wP.out,HG.out.trans cT.out,by omega,FZ.out⟩⟩
     case measure=>simp [intOf];omega
    obtain rfl:l1.length=k:=by omega
    obtain⟨A1,c1,rfl⟩:=Qs HS.out.row;by_cases h65:64 < l1.length
    ·have uG:(64:Int) < (l1.length:Int):=by omega
     have vI:=Qq ((HS.out.ext.block (by have:=WG.out;exact this)).trans rY.out);obtain⟨⟨q0,q1,q2⟩,⟨f0,f1,f2⟩,ql⟩:=Zp vI.out;have pS:=Qq (zS.out.trans HS.out.ext);have fL:=Qq (show Ux lg f=true by
      rw [SK.out,List.any_eq_true];have h1:=aW.out;refine⟨t0,List.mem_range.2 ?_,h1⟩;rw [PC.out,Bool.and_eq_true]at h1;have:=Xd h1.1;rw [tI.out]at this;exact this)
     have fX:=Qq (show 6 < (Qm f).1.length from Nat.lt_of_not_le fun gK=>by
      have h1:m<=2^6:=by rw [HM.out];exact Nat.pow_le_pow_right (by decide) gK
      omega)
     clear hlm hlt2 h65;go_wp2_with fail
     (try simp only [Exit.inBlock,Exit.then])
     refine bodyPost_ret (Yn Tryz.results24 _ _ rfl (Jv (Vq vI.out _ _ _)) Tryz.underlying26 rfl (by kernel_rfl)) rfl ?_;exact⟨Yl pS.out (Nat.le_refl _) _ _ _,.inr (.inr (.inr ⟨wE.out.symm,fL.out,fX.out,rfl⟩))⟩
    have yW:l1.length<=64:=by omega
    have uG:¬(64:Int) < (l1.length:Int):=by omega
    have dV:=Qxv fas (by omega);go_upto_region 21 with(fail);obtain⟨W5,C8⟩:∃W,W=wr:=⟨_,rfl⟩;subst C8;refine Od (X21 W5 l1.length fas) ?_ ?_
    ·skip
     refine Yp 9 (fun w'=>w'.cell? (⟨w2.heap.size+1,0,none⟩)=some (.slice A1 l1.length c1)) (by kernel_rfl) (xd el e0) (fun zZ=> ?_);refine Zz 0 zZ ?_;refine Zz 1 zZ ?_;refine Zz 2 zZ ?_;refine Zz 3 zZ ?_;refine Zz 4 zZ ?_;refine Zz 5 zZ ?_;refine Qo (rs:= [6,8]) (by kernel_rfl) (by simp) ?_;refine Zj.cons rfl (fun K hK=> ?_) (Zj.cons rfl (fun K hK=> ?_) Zj.nil)
     ·skip
      go_simp;refine hK.out _ _ (xd el e0) (fun zZ=> ?_);clear hK K;refine Qb ?_;refine Zz 7 zZ ?_;refine Qo (rs:= [8]) (by kernel_rfl) (by simp) ?_;refine Zj.cons rfl (fun K hK=> ?_) Zj.nil;go_simp;refine hK.out _ _ (xd el e0) (fun zZ=> ?_);clear hK K;refine Qb ?_;refine Yi (by kernel_rfl) rfl (fun K hK=> ?_);go_simp;refine hK.out _ _ ?_;clear hK K;refine Qb ?_;refine Yo (by kernel_rfl) ?_ _
      first
      |(apply Qkm (mb:=W5.heap.size+1) (vb:=W5.heap.size)
        ·simp only [Act.put,List.setIfInBounds_toArray,List.set_cons_zero,List.set_cons_succ];exact rfl
        exact Zjt (by omega))
      |(apply Qkm (mb:=W5.heap.size) (vb:=W5.heap.size+1)
        ·simp only [Act.put,List.setIfInBounds_toArray,List.set_cons_zero,List.set_cons_succ];exact rfl
        exact Zjl (by omega))
     skip
     go_simp;refine hK.out _ _ (xd el e0) (fun zZ=> ?_);clear hK K;refine Qb ?_;refine Qo (rs:= [6]) (by kernel_rfl) (by simp) ?_;refine Zj.cons rfl (fun K hK=> ?_) Zj.nil;go_simp;refine hK.out _ _ (xd el e0) (fun zZ=> ?_);clear hK K;refine Qb ?_;refine Zz 7 zZ ?_;refine Yi (by kernel_rfl) rfl (fun K hK=> ?_);go_simp;refine hK.out _ _ ?_;clear hK K;refine Qb ?_;refine Yo (by kernel_rfl) ?_ _
     first
     |(apply Qkm (mb:=W5.heap.size+1) (vb:=W5.heap.size)
       ·simp only [Act.put,List.setIfInBounds_toArray,List.set_cons_zero,List.set_cons_succ];exact rfl
       exact Zjt (by omega))
     |(apply Qkm (mb:=W5.heap.size) (vb:=W5.heap.size+1)
       ·simp only [Act.put,List.setIfInBounds_toArray,List.set_cons_zero,List.set_cons_succ];exact rfl
       exact Zjl (by omega))
    rintro a' w6 ⟨mb,vb,mM,v119,v120,v121,v122,v123,v124,v125,v126,rfl⟩;simp only [Act.put,List.setIfInBounds_toArray,List.set_cons_zero,List.set_cons_succ];have uK:=Qq mM;have pU:=Qq (HS.out.next mM.ext);obtain⟨bl,sG⟩:∃x,x=(Qm f).1.length:=⟨_,rfl⟩;have RC:=Qq sG;have gN:bl<=12:=by rw [sG];exact HA.out.len
    have x1:=(pU.out.ext.cell (p:=⟨b,1,none⟩) rA.out).trans D1.out;have xl:=Qy rA.out pU.out.ext.size;rw [<-sG]at x1;have qI:0 < l1.length:=by have:=HG.out.pre.length_le;simp at this;omega
    clear mM sG e0 e1 el dV uG;go_wp2_with fail;clear x1 xl;go_loopw [132] (fun v wr=>∃k:Nat,v=.int .i64 (k:Int)/\k<=bl/\Hid (∃vals,Rk W5 wr mb vb l1.length fas vals (.slice none 0 0) []/\Ls (Qm f).1 l1 k vals)) (fun v _=>bl - (intOf v).toNat)
    case atStart=>exact⟨0,rfl,Nat.zero_le _,Qq ⟨_,uK.out,Ls.start _ _ _⟩⟩
    case round =>
     clear uK pU;obtain⟨k,rfl,hk,zY⟩:=hrel;obtain⟨vals,mM,nK⟩:=zY.out;have uK:=Qq mM;have bL:=Qq nK;have pU:=Qq (HS.out.next mM.ext);clear zY mM nK;by_cases hlt2:k < bl
     ·have yT:(k:Int) < (bl:Int):=by omega
      obtain⟨s,TF⟩:∃s,s=(Qm f).1.getD k []:=⟨_,rfl⟩;have oT:k < (Qm f).1.length:=by rw [<-RC.out];exact hlt2
      have gH:(Qm f).1[k]?=some s:=by rw [TF,Qk,Qv oT];rfl
      have YU:=Qq TF;obtain⟨_,_,oD,_,_,zQ⟩:=lQ.out;injection oD with hsl1 _ kV;subst hsl1 kV;obtain⟨ad,rfl,zV,oU⟩:=zQ (by intro e;rw [e]at oT;simp at oT);obtain⟨u,T2,RY⟩:=oU k s gH;have c0:=(pU.out.ext.cell (p:=ad.add k) (Qj zV)).trans T2;have cl:(ad.add k).block < wr.heap.size:=by rw [Qt];exact Qy zV pU.out.ext.size
      have QK:=Qq (RY.ext pU.out.ext);have qW:0 < s.length:=by
       obtain⟨t,ht,hc,_⟩:=zC.out.b.can s (List.mem_of_getElem? gH);rw [hc];exact Uj ht.xp.1.1
      clear oU T2 RY TF gH zQ zV;go_wp2_with fail;refine(Ig _ s _ QK.out qW).mono ?_;rintro e w7 ⟨u1,u2,rfl,kO,nL,rI⟩;have pA:=Qq (uK.out.next kO);obtain⟨nn,uN⟩:∃nn,nn=Qw s:=⟨_,rfl⟩;have tU:=Qq (show nn=Qw ((Qm f).1.getD k []) by rw [uN,YU.out]);rw [<-uN];unfold Nd.val;obtain⟨A5,c5,rfl,_⟩:=Qc nL;obtain⟨A6,c6,rfl,_⟩:=Qc rI;clear kO nL rI uN c0 cl uK pU;by_cases ho:nn.op=3
      ·have xX:=Qq (show(Qw ((Qm f).1.getD k [])).op=3 by rw [<-tU.out];exact ho);obtain⟨p,hp,CH,-⟩:=Qx9 zC.out wE.out.symm oT xX.out;rw [<-tU.out]at hp;rw [<-QO.out]at CH;have mA:(p:Int) < (fas:Int):=by omega
       have Y2:=Qq (show ∀j,j < k->¬((Qw ((Qm f).1.getD j [])).op=3/\(Qw ((Qm f).1.getD j [])).i=(p:Int))from fun j hj hh=>by
        have:=Qpr zC.out wE.out.symm (i:=j) (j:=k) (by omega) oT hh.1 hh.2 xX.out (by rw [<-tU.out];exact hp)
        omega)
       have nT:=Qq (show(Qw ((Qm f).1.getD k [])).i=(p:Int) by rw [<-tU.out];exact hp);rw [hp,ho];have FA:=Qq (bL.out.zero p Y2.out);obtain⟨w8,lV⟩:∃x,x=w7.alloc (.cells #[.int .i64 3,.int .i64 (p:Int),.int .i64 nn.e,.int .i64 nn.g,.int .i64 nn.x,.int .i64 nn.y] 71):=⟨_,rfl⟩;have GX:=Qq (show Rk W5 w8 mb vb l1.length fas vals (.slice none 0 0) [] by rw [lV];exact pA.out.next (Qz.alloc _));have Y5:=Qq (HS.out.next GX.out.ext);obtain⟨nb,TW⟩:∃x,x=w7.heap.size:=⟨_,rfl⟩;have nU:=Qq (show w8.heap[nb]?=some (.cells #[.int .i64 3,.int .i64 (p:Int),.int .i64 nn.e,.int .i64 nn.g,.int .i64 nn.x,.int .i64 nn.y] 71 (0,0))/\nb≠vb by
        refine⟨by rw [lV,TW];exact heap_alloc_new _ _,?_⟩;have:=(pA.out.row.lt vb rfl).2
        omega)
       clear hp ho oT;go_upto_region 26 with(fail);rw [<-lV,<-TW];clear lV TW;obtain⟨n0,n1,n3,nl⟩:=Qx3 nU.out.1;obtain⟨e0,e1,el⟩:=Y5.out.cells;go_wp2_with fail;clear n0 n1 n3 nl e0 e1 el;obtain⟨wo,cZ⟩:∃v,v=wr:=⟨_,rfl⟩;subst cZ;go_loopw [151] (fun v wr=>∃x:Nat,v=.int .i64 (x:Int)/\x<=l1.length/\Hid (∃z,Rk W5 wr mb vb l1.length fas (vals.set p z) (.slice none 0 0) []/\Eo l1 k x z/\wr.heap[nb]?=some (.cells #[.int .i64 3,.int .i64 (p:Int),.int .i64 nn.e,.int .i64 nn.g,.int .i64 nn.x,.int .i64 nn.y] 71 (0,0)))) (fun v _=>l1.length - (intOf v).toNat)
       case atStart=>exact⟨0,rfl,Nat.zero_le _,Qq ⟨0,by
        have:vals.set p 0=vals:=by
         refine List.ext_getElem (by simp) fun i h1 h2=> ?_
         rw [List.getElem_set]
         split
         ·rename_i e;subst e;have:=FA.out;rw [Qk,Qv h2]at this;exact this.symm
         rfl
        rw [this];exact GX.out,Eo.start _ _,nU.out.1⟩⟩
       case round =>
        clear GX pA Y5;obtain⟨x,rfl,hx,zY⟩:=hrel;obtain⟨z,mM,pG,MG⟩:=zY.out;have uK:=Qq mM;have nO:=Qq pG;have fG:=Qq MG;have gR:=Qq (HS.out.next mM.ext);clear zY mM pG MG;by_cases yQ:x < l1.length
        ·have zP:(x:Int) < (l1.length:Int):=by omega
         have BC:x < 64:=by omega
         obtain⟨g2,cap2,wF,tD,_,kW,tC,a0⟩:=Un gR.out.row yQ rfl;injection wF with hsl2a _ hsl2b;subst hsl2a hsl2b;unfold maxLen at tC;obtain⟨n0,n1,n3,nl⟩:=Qx3 fG.out;obtain⟨⟨m0,m1,m2⟩,_,ml⟩:=uK.out.cells;have qG:(vals.set p z).length=fas:=uK.out.len;obtain⟨-,vl,-,-,BI,bU,LL⟩:=uK.out.row.at_ (by rw [qG];omega);have v0:=bU p (by rw [qG];exact CH);have vf:=LL p;rw [List.length_set]at qG;rw [Wv,if_pos ⟨rfl,by rw [qG];exact CH⟩]at v0;unfold maxLen at BI;have V5:=Qq (show Qp z from Qy nO.out.low (Rv yW));have oC:l1.getD x 0∈l1:=by rw [Qk,Qv yQ];exact List.getElem_mem _
         have qH:l1.getD x 0 < m:=by have:=HO.out.lt _ oC;rw [tI.out]at this;exact this
         have yY:=Qq (nO.out.step yQ);obtain⟨u,hu⟩:∃u,u=l1.getD x 0:=⟨_,rfl⟩;rw [<-hu]at a0 qH yY;have vG:k < 64:=by omega
         clear oC hu m0 m2 n0 n3 bU LL nO qG;have uO:=Qmw u k (by omega);cases ZU:u.testBit k
         ·rw [ZU]at uO yY;have uM:=Zqv V5.out;simp only [Bool.false_eq_true,if_false,Nat.or_zero,Int.natCast_zero]at uO yY;clear ZU;go_upto_region 30 with(fail);obtain⟨W30,VG⟩:∃v,v=wr:=⟨_,rfl⟩;subst VG;refine Yp 15 (fun w'=>w'.cell? (⟨mb,1,none⟩)=some (.slice (some ⟨vb,0,none⟩) fas fas)/\w'.cell? (⟨nb,1,none⟩)=some (.int .i64 (p:Int))/\w'.cell? (⟨vb,p,none⟩)=some (.int .u64 (z:Int))) (by kernel_rfl) ⟨xd ml m1,xd nl n1,xd vl v0⟩ (fun zZ=> ?_);refine Zz 0 zZ ?_;refine Zz 1 zZ ?_;refine Zz 2 zZ ?_;refine Zz 3 zZ ?_;refine Zz 4 zZ ?_;refine Zz 5 zZ ?_;refine Zz 6 zZ ?_
          refine Zz 7 zZ ?_;refine Zz 8 zZ ?_;refine Zz 9 zZ ?_;refine Zz 10 zZ ?_;refine Zz 11 zZ ?_;refine Zz 12 zZ ?_;refine Zz 13 zZ ?_;refine Zz 14 zZ ?_;refine Yi (by kernel_rfl) rfl (fun K hK=> ?_);go_simp;refine hK.out _ _ ?_;clear hK K;refine Qb ?_;refine Yo (by kernel_rfl) ?_ _;rw [show bits .or .u64 (z:Int) (IntKind.u64.wrap (IntKind.u64.wrap 0*2^x))=((z:Nat):Int)from by rw [Zzm];exact uM];have jX:=Qq (uK.out.setVal p (z));rw [List.set_set]at jX;have GT:=Qq ((Below.heap_setCell W30 ⟨vb,p,none⟩ (.int .u64 ((z:Nat):Int)) nb nU.out.2).trans fG.out)
          clear uM uO v0 vf n1 m1 uK fG gR nl ml vl a0;go_wp2_with fail;go_roundw
          case rel=>exact⟨x+1,by go_num,by omega,Qq ⟨z,jX.out.next (Qz.drew),yY.out,GT.out⟩⟩
          case measure=>simp [intOf];omega
         rw [ZU]at uO yY;have uM:=Oo V5.out BC;simp only [if_true,Int.natCast_one]at uO yY;clear ZU;go_upto_region 30 with(fail);obtain⟨W30,VG⟩:∃v,v=wr:=⟨_,rfl⟩;subst VG;refine Yp 15 (fun w'=>w'.cell? (⟨mb,1,none⟩)=some (.slice (some ⟨vb,0,none⟩) fas fas)/\w'.cell? (⟨nb,1,none⟩)=some (.int .i64 (p:Int))/\w'.cell? (⟨vb,p,none⟩)=some (.int .u64 (z:Int))) (by kernel_rfl) ⟨xd ml m1,xd nl n1,xd vl v0⟩ (fun zZ=> ?_);refine Zz 0 zZ ?_;refine Zz 1 zZ ?_;refine Zz 2 zZ ?_;refine Zz 3 zZ ?_;refine Zz 4 zZ ?_;refine Zz 5 zZ ?_;refine Zz 6 zZ ?_;refine Zz 7 zZ ?_
         refine Zz 8 zZ ?_;refine Zz 9 zZ ?_;refine Zz 10 zZ ?_;refine Zz 11 zZ ?_;refine Zz 12 zZ ?_;refine Zz 13 zZ ?_;refine Zz 14 zZ ?_;refine Yi (by kernel_rfl) rfl (fun K hK=> ?_);go_simp;refine hK.out _ _ ?_;clear hK K;refine Qb ?_;refine Yo (by kernel_rfl) ?_ _;rw [show bits .or .u64 (z:Int) (IntKind.u64.wrap (IntKind.u64.wrap 1*2^x))=((z|||2^x:Nat):Int)from by rw [Zzc];exact uM];have jX:=Qq (uK.out.setVal p (z|||2^x));rw [List.set_set]at jX;have GT:=Qq ((Below.heap_setCell W30 ⟨vb,p,none⟩ (.int .u64 ((z|||2^x:Nat):Int)) nb nU.out.2).trans fG.out)
         clear uM uO v0 vf n1 m1 uK fG gR nl ml vl a0;go_wp2_with fail;go_roundw
         case rel=>exact⟨x+1,by go_num,by omega,Qq ⟨z|||2^x,jX.out.next (Qz.drew),yY.out,GT.out⟩⟩
         case measure=>simp [intOf];omega
        obtain rfl:l1.length=x:=by omega
        have QP:=Qq (bL.out.next Y2.out xX.out nT.out (by have:=uK.out.len;rw [List.length_set]at this;omega) nO.out);go_wp2_with fail;go_roundw
        case rel=>exact⟨k+1,by go_num,by omega,Qq ⟨_,uK.out,QP.out⟩⟩
        case measure=>simp [intOf];omega
      have QP:=Qq (bL.out.other (by rw [<-tU.out];exact ho));have CM:(nn.op==3)=false:=by rw [beq_eq_false_iff_ne];exact ho
      clear ho;go_wp2_with fail;go_roundw
      case rel=>exact⟨k+1,by go_num,by omega,Qq ⟨vals,pA.out.next (Qz.alloc _),QP.out⟩⟩
      case measure=>simp [intOf];omega
     obtain rfl:bl=k:=by omega
     obtain⟨e0,e1,el⟩:=pU.out.cells;obtain⟨wb,hwb⟩:∃v,v=wr:=⟨_,rfl⟩;subst hwb;have nC:=Qq (show Ls (Qm f).1 l1 (Qm f).1.length vals by rw [<-RC.out];exact bL.out);clear bL e0 e1 el;go_wp2_with fail;go_loopw [174] (fun v wr=>∃k:Nat,v=.int .i64 (k:Int)/\k<=ags/\Hid (∃vr,Rk W5 wr mb vb l1.length fas vals vr ((List.range k).map fun(a:Nat)=>(List.range l1.length).map fun v=>Vd l1.length fun w=>Jz lg (Zr (Qm f).1) (a:Int) (l1.getD v 0) (l1.getD w 0)))) (fun v _=>ags - (intOf v).toNat)
     case atStart=>exact⟨0,rfl,Nat.zero_le _,Qq ⟨_,uK.out⟩⟩
     case round =>
      clear uK pU;obtain⟨k,rfl,hk,zY⟩:=hrel;obtain⟨vr,mM⟩:=zY.out;obtain⟨rows,wS⟩:∃x,x=((List.range k).map fun(a:Nat)=>(List.range l1.length).map fun v=>Vd l1.length fun w=>Jz lg (Zr (Qm f).1) (a:Int) (l1.getD v 0) (l1.getD w 0)):=⟨_,rfl⟩;have jT:=Qq wS;rw [<-wS]at mM;have uK:=Qq mM;have pU:=Qq (HS.out.next mM.ext);clear zY mM wS;obtain⟨e0,e1,el⟩:=pU.out.cells;by_cases hlt2:k < ags
      ·have yT:(k:Int) < (ags:Int):=by omega
       obtain⟨P,hP⟩:∃P:Nat->Nat->Bool,P=fun v w=>Jz lg (Zr (Qm f).1) (k:Int) (l1.getD v 0) (l1.getD w 0):=⟨_,rfl⟩
       have HP:=Qq (show ∀v w,P v w=Jz lg (Zr (Qm f).1) (k:Int) (l1.getD v 0) (l1.getD w 0)from fun v w=>by rw [hP]);have vB:=Qq (show((List.range (k+1)).map fun(a:Nat)=>(List.range l1.length).map fun v=>Vd l1.length fun w=>Jz lg (Zr (Qm f).1) (a:Int) (l1.getD v 0) (l1.getD w 0))=rows++ [(List.range l1.length).map fun v=>Vd l1.length (P v)] by rw [List.range_succ,List.map_append,<-jT.out,hP];rfl);clear hP;have dV:=Qxv l1.length (by omega);obtain⟨wa,vJ⟩:∃v,v=wr:=⟨_,rfl⟩;subst vJ;obtain⟨rb,XZ⟩:∃x,x=wa.heap.size:=⟨_,rfl⟩;have PG:=Qq XZ;have fC:=Qq (Qqt l1.length (by omega) wa wa.heap.size (Nat.le_refl _))
       rw [List.toArray_replicate,<-XZ]at fC;go_upto_region 37 with(fail);obtain⟨wc,sL⟩:∃x,x=(wa.alloc (.cells (Array.replicate l1.length (Value.int .u64 0)) 41)):=⟨_,rfl⟩;have VO:=Qq (show Qg wa wc by rw [sL];exact Qz.alloc _);rw [<-sL]at fC;rw [<-sL,<-XZ];clear sL XZ e0 e1 el dV;have aV:=Qq (pU.out.next VO.out);obtain⟨e0,e1,el⟩:=aV.out.cells;go_wp2_with fail;clear e0 e1 el aV;go_loopw [188] (fun v wr=>∃x:Nat,v=.int .i64 (x:Int)/\x<=l1.length/\Hid (∃r,Qg wa wr/\Zv rb wr (.slice (some ⟨rb,0,none⟩) l1.length l1.length) r/\Nc l1.length P x 0 r)) (fun v _=>l1.length - (intOf v).toNat)
       case atStart=>exact⟨0,rfl,Nat.zero_le _,Qq ⟨_,VO.out,fC.out,Nc.start _ _⟩⟩
       case round =>
        clear fC VO;obtain⟨x,rfl,hx,zY⟩:=hrel;obtain⟨r,jA,MJ,ZX⟩:=zY.out;have pS:=Qq jA;have cQ:=Qq MJ;have cN:=Qq ZX;have gR:=Qq (pU.out.next jA);clear zY jA MJ ZX;by_cases yQ:x < l1.length
        ·have zP:(x:Int) < (l1.length:Int):=by omega
         obtain⟨g2,cap2,wF,tD,_,kW,tC,a0⟩:=Un gR.out.row yQ rfl;injection wF with hsl2a _ hsl2b;subst hsl2a hsl2b;unfold maxLen at tC;obtain⟨e0,e1,el⟩:=gR.out.cells;have oC:l1.getD x 0∈l1:=by rw [Qk,Qv yQ];exact List.getElem_mem _
         have qH:l1.getD x 0 < m:=by have:=HO.out.lt _ oC;rw [tI.out]at this;exact this
         obtain⟨u,hu⟩:∃u,u=l1.getD x 0:=⟨_,rfl⟩;have I4:=Qq hu;rw [<-hu]at a0 qH;have JI:IntKind.u64.wrap (u:Int)=(u:Int):=by rw [IntKind.wrap_u64];omega
         clear oC hu;obtain⟨wo,cZ⟩:∃v,v=wr:=⟨_,rfl⟩;subst cZ;go_wp2_with fail;clear a0 e0 e1 el tD;go_loopw [198] (fun v wr=>∃y:Nat,v=.int .i64 (y:Int)/\y<=l1.length/\Hid (∃r,Qg wa wr/\Zv rb wr (.slice (some ⟨rb,0,none⟩) l1.length l1.length) r/\Nc l1.length P x y r)) (fun v _=>l1.length - (intOf v).toNat)
         case atStart=>exact⟨0,rfl,Nat.zero_le _,Qq ⟨_,pS.out,cQ.out,cN.out⟩⟩
         case round =>
          clear cQ pS cN gR;obtain⟨y,rfl,hy,zY⟩:=hrel;obtain⟨r,jA,MJ,ZX⟩:=zY.out;have pS:=Qq jA;have cQ:=Qq MJ;have cN:=Qq ZX;have gR:=Qq (pU.out.next jA);clear zY jA MJ ZX;by_cases hlt4:y < l1.length
          ·have JG:(y:Int) < (l1.length:Int):=by omega
           have AZ:y < 64:=by omega
           obtain⟨g3,cap3,kV,aC,_,hs13,hs23,a0⟩:=Un gR.out.row hlt4 rfl;injection kV with hsl3a _ hsl3b;injection hsl3a with hsl3a;injection hsl3a with hsl3a;subst hsl3a hsl3b;have oC:l1.getD y 0∈l1:=by rw [Qk,Qv hlt4];exact List.getElem_mem _
           have BL:l1.getD y 0 < m:=by have:=HO.out.lt _ oC;rw [tI.out]at this;exact this
           have GH:=Qq (show P x y=Jz lg (Zr (Qm f).1) (k:Int) u (l1.getD y 0) by rw [HP.out,I4.out]);obtain⟨q,hq⟩:∃q,q=l1.getD y 0:=⟨_,rfl⟩;rw [<-hq]at a0 BL GH;have vE:IntKind.u64.wrap (q:Int)=(q:Int):=by rw [IntKind.wrap_u64];omega
           have jV:=Qq (Li b lg _ _ _ _ _ (k:Int) u q wr (fR.out.ext gR.out.ext) HA.out.lgr (by omega) (by omega) (fun n hn=>⟨(tG.out n hn).1,by have:=(tG.out n hn).2;rw [tI.out]at this;omega⟩));rw [<-GH.out]at jV;clear oC hq GH;cases qX:P x y
           ·rw [qX]at jV;have aY:=Qq (cN.out.no qX);clear qX;go_wp2_with fail;refine jV.out.mono ?_;rintro e w9 ⟨rfl,gE⟩;have cJ:=Qq (pS.out.trans gE);have jX:=Qq (cQ.out.ext gE);clear gE;go_wp2_with fail;go_roundw
            case rel=>exact⟨y+1,by go_num,by omega,Qq ⟨r,cJ.out,jX.out,aY.out⟩⟩
            case measure=>simp [intOf];omega
           rw [qX]at jV;have aY:=Qq (cN.out.yes yQ qX);have H4:=Qq (show Qp (r.getD x 0)from Qy (cN.out.low hy yQ) (Rv yW));have uM:=Oo H4.out AZ;clear qX;go_wp2_with fail;refine jV.out.mono ?_;rintro e w9 ⟨rfl,gE⟩;have cJ:=Qq (pS.out.trans gE);have jX:=Qq (cQ.out.ext gE);have wG:=cN.out.len;obtain⟨-,vl,-,-,-,bU,LL⟩:=jX.out.at_ (by rw [wG];omega);have v0:=bU x (by rw [wG];exact yQ);have vf:=LL x;obtain⟨z,kM⟩:∃z,z=r.getD x 0:=⟨_,rfl⟩;rw [<-kM]at v0 uM aY;clear gE wG bU LL kM a0 aC;go_upto_region 44 with(fail);refine Yp 8 (fun w'=>w'.cell? (⟨rb,x,none⟩)=some (.int .u64 (z:Int))) (by kernel_rfl) (xd vl v0) (fun zZ=> ?_)
           refine Zz 0 zZ ?_;refine Zz 1 zZ ?_;refine Zz 2 zZ ?_;refine Zz 3 zZ ?_;refine Zz 4 zZ ?_;refine Zz 5 zZ ?_;refine Zz 6 zZ ?_;refine Zz 7 zZ ?_;refine Yi (by kernel_rfl) rfl (fun K hK=> ?_);go_simp;refine hK.out _ _ ?_;clear hK K;refine Qb ?_;refine Yo (by kernel_rfl) ?_ _;have GY:=Qq (jX.out.set cN.out.len x (z|||2^y));have FL:=Qq (cJ.out.setCell (p:=⟨rb,x,none⟩) (by rw [<-PG.out];exact Nat.le_refl _) (.int .u64 ((z|||2^y:Nat):Int)));clear uM v0 vf jX cJ vl;go_wp2_with fail;go_roundw
           case rel=>exact⟨y+1,by go_num,by omega,Qq ⟨_,FL.out.drew,GY.out.ext (Qz.drew),aY.out⟩⟩
           case measure=>simp [intOf];omega
          obtain rfl:l1.length=y:=by omega
          have GD:=Qq cN.out.turn;go_wp2_with fail;go_roundw
          case rel=>exact⟨x+1,by go_num,by omega,Qq ⟨r,pS.out,cQ.out,GD.out⟩⟩
          case measure=>simp [intOf];omega
        obtain rfl:l1.length=x:=by omega
        have J2:=Qq cN.out.done;have YY:=Qq (uK.out.next pS.out);obtain⟨us,tQ,zR,wX⟩:=uK.out.rel;have mE:=Qq tQ;have yS:=Qq zR;have jZ:=Qq wX;have I3:=Qq (show us.length<=4 by rw [tQ,jT.out,List.length_map,List.length_range];omega);obtain⟨iS,UH,kI,kH,kG⟩:=info_parts Zj5;obtain⟨⟨m0,m1,m2⟩,⟨mf0,mf1,mf2⟩,ml⟩:=YY.out.cells;obtain⟨Av,cv,rfl⟩:=Qs zR;have TA:=I3.out;have xS:us.length+1<=maxLen:=by unfold maxLen;omega
        have xR:(us.length+1)*24<=140737488355328:=by omega
        clear tQ zR wX m0 m1;obtain⟨wo,cZ⟩:∃v,v=wr:=⟨_,rfl⟩;subst cZ;go_wp2_with(at_builtin;refine wpList_append_own_at _ rfl _ _ 24 rfl W5.heap.size 23 iS (.slice none 0 0) 1 24 Tryz.underlying24 UH kI kH kG rfl (by decide) _ us.length us rfl (Zk yS.out (pS.out.trans (Qz.alloc _))) ⟨_,0,none⟩ 1 1 [.slice (some ⟨rb,0,none⟩) l1.length l1.length] rfl rfl (Zt _ _ _ (by simp)) (fun u hu=>by rw [List.mem_singleton.1 hu];rfl) xS xR (Qx YY.out.ext.size (Qz.alloc _).size) ?_);intro v7 w7 zW zX sQ zH;have qZ:=Qq (uK.out.push mE.out yS.out jZ.out pS.out (by rw [<-PG.out];exact cQ.out) (Qz.alloc _) zW zX (zH.imp_right fun h=>by rw [h];simp))
        obtain⟨⟨p0,p1,p2⟩,⟨pf0,pf1,pf2⟩,pl⟩:=Zp ((zX.block mb (Qy ml ((Qg.refl wo).alloc (.cells #[.slice (some ⟨rb,0,none⟩) l1.length l1.length] 23)).size) (fun e=>YY.out.dr.1 e.symm)).trans ((((Qg.refl wo).alloc (.cells #[.slice (some ⟨rb,0,none⟩) l1.length l1.length] 23)).block ml).trans YY.out.cell));obtain⟨A7,c7,rfl⟩:=Qs zW;clear zW zX sQ zH m2 mf0 mf1 mf2 p0 p1 pf0 pf1;go_wp2_with fail;go_roundw
        case rel=>exact⟨k+1,by go_num,by omega,Qq ⟨_,by rw [vB.out,<-J2.out];exact qZ.out⟩⟩
        case measure=>simp [intOf];omega
      obtain rfl:ags=k:=by omega
      obtain⟨⟨m0,m1,m2⟩,⟨mf0,mf1,mf2⟩,ml⟩:=uK.out.cells;have vI:=Qq ((pU.out.ext.block (by have:=WG.out;exact this)).trans rY.out);obtain⟨⟨q0,q1,q2⟩,⟨f0,f1,f2⟩,ql⟩:=Zp vI.out;have pS:=Qq (zS.out.trans pU.out.ext);have fL:=Qq (show Ux lg f=true by
       rw [SK.out,List.any_eq_true];have h1:=aW.out;refine⟨t0,List.mem_range.2 ?_,h1⟩;rw [PC.out,Bool.and_eq_true]at h1;have:=Xd h1.1;rw [tI.out]at this;exact this)
      have J9:=Qq (show Qx0 lg f l1 ⟨l1.length,vals,rows⟩from {
       n:=rfl
       pos:=qI
       le:=yW
       al:=fun u hu=>by rw [<-nZ.out];exact HO.out.al u hu
       sel:=fun t ht=>by
        obtain⟨i,hi,e⟩:=List.getElem_of_mem ht;have h1:=HJ.out i hi;rw [Qk,Qv hi,Option.getD_some,e,RH.out,nZ.out]at h1;exact h1
       root:=by
        have h1:=aW.out;rw [PC.out,Bool.and_eq_true]at h1;have h2:=HG.out.get (k:=0) (by simp);rw [h2];exact h1.2
       rel:=by rw [<-RH.out];exact jT.out
       vlen:=by rw [<-QO.out];exact uK.out.len
       vlow:=nC.out.low
       fact:=fun i p hi h1 h2=>nC.out.bit i p hi h1 h2 })
      have PS:=Qq (show(⟨l1.length,vals,rows⟩:Md).ok from⟨⟨by show(-9223372036854775808:Int)<=(l1.length:Int);omega,by show(l1.length:Int)<=9223372036854775807;omega⟩,fun s hs=>Qy (nC.out.low s hs) (Rv yW),fun r hr s hs=>by
       have kY:r∈rows:=hr;rw [jT.out]at kY;obtain⟨a,_,rfl⟩:=List.mem_map.1 kY;obtain⟨v,_,rfl⟩:=List.mem_map.1 hs;exact Fi yW _⟩)
      have xY:=Qq (show w.heap.size < W5.heap.size from Qy WG.out HS.out.ext.size);obtain⟨Av,cv,rfl⟩:∃A c,vr=.slice A rows.length c:=by
       obtain⟨us,tQ,zR,_⟩:=uK.out.rel;obtain⟨A,c,e⟩:=Qs zR;exact⟨A,c,by rw [e,tQ]⟩
      go_wp2_with fail
      (try simp only [Exit.inBlock,Exit.then])
      refine bodyPost_ret (Yn Tryz.results24 _ _ rfl (Jv (Vq vI.out _ _ _)) Tryz.underlying26 rfl (by kernel_rfl)) rfl ?_;refine⟨Yl pS.out (Nat.le_refl _) _ _ _,.inr (.inr (.inl ⟨wE.out.symm,fL.out,_,_,l1,rfl,uK.out.mdv ⟨by simp [World.setCell],fun k hk hl=>Xn (fun e=>hk (by rw [e];exact xY.out)) _ _ _⟩,PS.out,J9.out⟩))⟩
 have HZ:=Qq hz;clear tW;go_enter Tryz.func24,Tryz.ntmps24;go_wp2_with fail;refine(Qzx lg _ f _ (H.out.ext zL.out)).mono ?_;rintro e w1 ⟨zP,hr⟩;obtain⟨_,rfl⟩:=hr.resolve_right (fun h=>HZ.out (wE.out.trans h.1));rw [<-wE.out];have zM:=Qq zP;have wO:=Qq ((zP.block (by simp)).trans mD.out);obtain⟨⟨q0,q1,q2⟩,⟨f0,f1,f2⟩,ql⟩:=Zp wO.out;clear zP hr;go_wp2_with fail
 (try simp only [Exit.inBlock,Exit.then])
 refine bodyPost_ret (Yn Tryz.results24 _ _ rfl (Jv (Vq wO.out _ _ _)) Tryz.underlying26 rfl (by kernel_rfl)) rfl ?_;exact⟨Yl (zL.out.trans zM.out) (Nat.le_refl _) _ _ _,.inl ⟨fun h=>HZ.out (wE.out.trans h),by rw [<-wE.out] <;> rfl⟩⟩
end Go.Proofs.YtkmclcmnoicagaaGreatDoor
