/- types' Model: the walk. -/
import Derived.Test.YtkmclcmnoicagaaGreatDoorH27
namespace Go.Proofs.YtkmclcmnoicagaaGreatDoor
set_option maxRecDepth 100000
set_option maxHeartbeats 128000000
open Go.RowKit
theorem Qxh(n:Nat)(hn:n<=1000)(W:World):(Instr.makeSlice 23 (.int .i64 (n:Int)) (.int .i64 (n:Int))).run Tryz.prog W=.ok (.slice (some ⟨W.heap.size,0,none⟩) n n) (W.alloc (.cells (List.replicate n (Value.int .u64 0)).toArray 41)):=by
 obtain⟨i,hi,h0,h1,h2⟩:=info_parts Dx;have h:=run_make (P:=Tryz.prog) W 23 41 i (.int .u64 0) Tryz.underlying23 hi h0 .i64 .i64 n n (by omega) (Int.le_refl _) (by rw [h2];omega) (by omega);rw [h1,Int.toNat_natCast,Nat.mul_one]at h;rw [h,<-toList_madeCells_one];rfl
theorem Qqi(n:Nat)(hn:n<=1000)(w:World)(base:Nat)(hb:base<=w.heap.size):Zf base (w.alloc (.cells (List.replicate n (Value.int .u64 0)).toArray 41)) (.slice (some ⟨w.heap.size,0,none⟩) n n) (List.replicate n 0):=by
 have e:uV (List.replicate n 0)=List.replicate n (Value.int .u64 0):=by unfold uV;rw [List.map_replicate];rfl
 unfold Zf;rw [e,List.length_replicate];exact⟨by simp,.inr ⟨w.heap.size,n,(List.replicate n (Value.int .u64 0)).toArray,rfl,hb,heap_alloc_new _ _,Nat.le_refl _,by unfold maxLen;omega,by simp,by simp⟩⟩
theorem Qpk(s k:Nat)(hs:s < 9223372036854775808):bits .and .i64 ((s:Int) / 2^k) 1=((if s.testBit k then 1 else 0:Nat):Int):=by
 have zJ:s / 2^k < 9223372036854775808:=Nat.lt_of_le_of_lt (Nat.div_le_self _ _) hs;rw [Ld,show(1:Int)=((1:Nat):Int)from rfl,Pn _ 1 zJ (by decide),Nat.and_one_is_mod,Nat.testBit_eq_decide_div_mod_eq];rcases Nat.mod_two_eq_zero_or_one (s / 2^k)with h|h <;> rw [h] <;> rfl
theorem Zjr {x:Nat} :IntKind.u64.wrap (IntKind.u64.wrap 1*2^x)=IntKind.u64.wrap ((2:Int)^x):=by
 rw [show IntKind.u64.wrap 1=1 by decide,Int.one_mul]
theorem Zjn {x:Nat} :IntKind.u64.wrap (IntKind.u64.wrap 0*2^x)=0:=by
 rw [show IntKind.u64.wrap 0=0 by decide,Int.zero_mul];decide
theorem Zq9 {z:Nat}(h:Qm z):bits .or .u64 (z:Int) 0=(z:Int):=by
 have:=Xq (a:=z) (b:=0) h (by show(0:Nat) < _;omega);rw [Nat.or_zero]at this;exact this
theorem Zy2:(Tryz.prog.info? 23).map (fun i=>(i.zero,i.size,i.bytes))=some (some (.slice none 0 0),1,24):=by kernel_rfl
def X21(W:World)(n fas:Nat)(a a':Act)(w':World):Prop :=
 ∃mb vb,Rq W w' mb vb n fas (List.replicate fas 0) (.slice none 0 0) []/\∃v119 v120 v121 v122 v123 v124 v125 v126,a'=((((((((a.put (some 119) v119).put (some 120) v120).put (some 121) v121).put (some 122) v122).put (some 123) v123).put (some 124) v124).put (some 125) v125).put (some 126) v126).put (some 15) (.pointer (some ⟨mb,0,none⟩))
theorem Qk5 {W:World} {n fas:Nat} {a a':Act} {w':World} {mb vb:Nat} {v119 v120 v121 v122 v123 v124 v125 v126:Value}
 (e:a'=((((((((a.put (some 119) v119).put (some 120) v120).put (some 121) v121).put (some 122) v122).put (some 123) v123).put (some 124) v124).put (some 125) v125).put (some 126) v126).put (some 15) (.pointer (some ⟨mb,0,none⟩)))
 (h:Rq W w' mb vb n fas (List.replicate fas 0) (.slice none 0 0) []):X21 W n fas a a' w':=⟨mb,vb,h,v119,v120,v121,v122,v123,v124,v125,v126,e⟩
theorem Zyd {W:World} {n fas:Nat}(hf:fas<=1000):Rq W ((W.alloc (.cells (Array.replicate fas (Value.int .u64 0)) 41)).alloc (.cells #[.int .i64 (n:Int),.slice (some ⟨W.heap.size,0,none⟩) fas fas,.slice none 0 0] 26)).drew (W.heap.size+1) W.heap.size n fas (List.replicate fas 0) (.slice none 0 0) []:=by
 have h1:=Qqi fas hf W W.heap.size (Nat.le_refl _);rw [List.toArray_replicate]at h1;have h2:=heap_alloc_new (W.alloc (.cells (Array.replicate fas (Value.int .u64 0)) 41)) (.cells #[.int .i64 (n:Int),.slice (some ⟨W.heap.size,0,none⟩) fas fas,.slice none 0 0] 26);rw [show(W.alloc (.cells (Array.replicate fas (Value.int .u64 0)) 41)).heap.size=W.heap.size+1 by simp]at h2;exact⟨((Qz.alloc _).alloc _).drew,⟨by omega,by omega⟩,h2,h1.ext ((Qz.alloc _).drew),by simp,⟨[],rfl,World.ownsRow_nil _ _ _ _,fun k u r hu _=>by simp at hu⟩,⟨(fun e=>by cases e),(fun e=>by cases e)⟩⟩
theorem Zyn {W:World} {n fas:Nat}(hf:fas<=1000):Rq W ((W.alloc (.cells #[.int .i64 (n:Int),.slice (some ⟨W.heap.size+1,0,none⟩) fas fas,.slice none 0 0] 26)).alloc (.cells (Array.replicate fas (Value.int .u64 0)) 41)).drew W.heap.size (W.heap.size+1) n fas (List.replicate fas 0) (.slice none 0 0) []:=by
 have h1:=Qqi fas hf (W.alloc (.cells #[.int .i64 (n:Int),.slice (some ⟨W.heap.size+1,0,none⟩) fas fas,.slice none 0 0] 26)) W.heap.size (by simp);rw [List.toArray_replicate,show(W.alloc (.cells #[.int .i64 (n:Int),.slice (some ⟨W.heap.size+1,0,none⟩) fas fas,.slice none 0 0] 26)).heap.size=W.heap.size+1 by simp]at h1;have h2:((W.alloc (.cells #[.int .i64 (n:Int),.slice (some ⟨W.heap.size+1,0,none⟩) fas fas,.slice none 0 0] 26)).alloc (.cells (Array.replicate fas (Value.int .u64 0)) 41)).heap[W.heap.size]?=_:=((Qz.alloc _).block (by simp)).trans (heap_alloc_new W (.cells #[.int .i64 (n:Int),.slice (some ⟨W.heap.size+1,0,none⟩) fas fas,.slice none 0 0] 26))
 exact⟨((Qz.alloc _).alloc _).drew,⟨by omega,by omega⟩,h2,h1.ext (Qz.drew),by simp,⟨[],rfl,World.ownsRow_nil _ _ _ _,fun k u r hu _=>by simp at hu⟩,⟨(fun e=>by cases e),(fun e=>by cases e)⟩⟩
noncomputable def Qy2 (lg:Int) (f:List Nd) (t:Nat):Bool:=(Rt lg f).1.getD t false&&(Na f).getD t false
theorem Qqw {m k:Nat}(h:m < 2^k):Ye m<=k:=by
 unfold Ye
 split
 ·omega
 rename_i h0;have:=(Nat.log2_lt h0).2 h;omega
structure Qgk (lg:Int) (f:List Nd) (S:List Nat) (md:Md):Prop where
 n:md.n=S.length
 pos:0 < S.length
 le:S.length<=64
 al:∀u∈S,(Rt lg f).1.getD u false=true
 sel:∀t∈S,Sel lg (Zs (Qp f).1) (Jm (Qp f).1) (Rt lg f).1 (Ye (Jl (Qf f))) S t
 root:(Na f).getD (S.getD 0 0) false=true
 rel:md.rel=(List.range (Ye (Jl (Qf f)))).map fun(a:Nat)=>(List.range S.length).map fun v=>Yi S.length fun w=>Jy lg (Zs (Qp f).1) (a:Int) (S.getD v 0) (S.getD w 0)
 vlen:md.val.length=Ye (Yy (Qf f))
 vlow:∀s∈md.val,s < 2^S.length
 fact:∀(i p:Nat),i < (Qp f).1.length->(Qi ((Qp f).1.getD i [])).op=3->(Qi ((Qp f).1.getD i [])).i=(p:Int)->∀w,w < S.length->(md.val.getD p 0).testBit w=(S.getD w 0).testBit i
def Zvn(w:World)(lg:Int)(f:List Nd)(e:Ending)(w':World):Prop :=
 Qg w w'/\((Yj lg f≠0/\e=.returned (.tuple #[.agg #[.int .i64 0,.slice none 0 0,.slice none 0 0],.int .i64 0,.int .i64 (Yj lg f)]))\/
  (Yj lg f=0/\Us lg f=false/\e=.returned (.tuple #[.agg #[.int .i64 0,.slice none 0 0,.slice none 0 0],.int .i64 0,.int .i64 6]))\/
  (Yj lg f=0/\Us lg f=true/\∃vm md S,e=.returned (.tuple #[vm,.int .i64 0,.int .i64 0])/\Jk w' vm md/\md.ok/\Qgk lg f S md)\/
  (Yj lg f=0/\Us lg f=true/\6 < (Qp f).1.length/\e=.returned (.tuple #[.agg #[.int .i64 0,.slice none 0 0,.slice none 0 0],.int .i64 0,.int .i64 8])))
theorem Qhy(lg:Int)(v:Value)(f:List Nd)(w:World)(h:Yq w v f):
 Calls Tryz.prog 24 #[.int .i64 lg,v] w (Zvn w lg f):=by
 have rH:= @run_makeMap Tryz.prog;have H:=Qq h;obtain⟨Af,cf,rfl,_⟩:=Qc h;clear h;have lF:=Qq (show(w.alloc (.cells #[.int .i64 0,.slice none 0 0,.slice none 0 0] 26)).heap[w.heap.size]?=some (.cells #[.int .i64 0,.slice none 0 0,.slice none 0 0] 26 (0,0))from heap_alloc_new _ _);have zL:=Qq (show Qg w (w.alloc (.cells #[.int .i64 0,.slice none 0 0,.slice none 0 0] 26))from Qz.alloc _);obtain⟨er,uK⟩:∃er,er=Yj lg f:=⟨_,rfl⟩;have wK:=Qq uK;by_cases hz:er=0
 ·subst hz;have zE:=Qq (Qjq uK.symm);have HA:=Qq (Zqy zE.out);clear uK;go_enter Tryz.func24,Tryz.ntmps24;go_wp2_with fail;refine(Qzc lg _ f _ (H.out.ext zL.out)).mono ?_;rintro e w1 ⟨zN,hr⟩;obtain⟨b,g,rfl,hb,hg,hE⟩:=(hr.resolve_left (fun h=>h.1 wK.out.symm)).2;have HE:=Qq hE;have zO:=Qq zN;have kR:=Qq (show w.heap.size < g by simp at hg;omega);clear hr hb hg hE zN;go_wp2_with fail;refine(Qbp b g lg _ _ _ _ _ _ HE.out HA.out.lgr HA.out.le HA.out.len (fun k hk=>⟨(HA.out.ks k hk).1,by rw [(HA.out.ks k hk).2,HA.out.al];exact Nat.le_refl _⟩) (fun c hc=>by have:=HA.out.cs c hc;rw [HA.out.al];exact this)).mono ?_
  rintro e w2 ⟨vt,vw,rfl,iP,DP,_,_⟩;obtain⟨al,wJ⟩:∃al,al=(Rt lg f).1:=⟨_,rfl⟩;have rY:=Qq wJ;rw [show(Qxk lg (Zs (Qp f).1) (Jm (Qp f).1) (Qp f).1.length (Kh lg (Qp f).1)).1=al from wJ.symm]at DP;have aM:=Qq DP.eng;have wT:=Qq ((zO.out.block (by simp)).trans lF.out);have rG:=Qq ((iP.block w.heap.size (Qn wT.out) (fun e=>by injection e with e;have:=kR.out;omega)).trans wT.out);have zT:=Qq (show Qg w w2 from(zL.out.trans zO.out).grown iP (fun k e=>by injection e with e;have:=kR.out;omega));have bI:=Qq (show w.heap.size < w2.heap.size from Qn rG.out)
  obtain⟨m,hm⟩:∃m,m=2^(Qp f).1.length:=⟨_,rfl⟩;have HM:=Qq hm;have sY:=Qq (show al.length=m by rw [wJ,hm,Mb]);have UN:=Qq (show(Na f).length=m by rw [hm];exact HA.out.root);have hm40:m<=4096:=by rw [hm];exact Qb5 HA.out.len
  have sW:=Qq (show ∀k∈Zs (Qp f).1,k.place < 64/\al.length<=k.holds.length from fun k hk=>⟨(HA.out.ks k hk).1,by rw [(HA.out.ks k hk).2,sY.out,hm];exact Nat.le_refl _⟩);have kT:=Qq (show ∀c∈Jm (Qp f).1,c.place < 64/\c.x.length=al.length/\c.y.length=al.length/\0<=c.group/\c.group < 16 from fun c hc=>by have:=HA.out.cs c hc;rw [sY.out,hm];exact this);have UW:=Qq (show ∀t,al.getD t false=true->Qb3 lg (Zs (Qp f).1) (Jm (Qp f).1) al t from fun t ht=>by rw [wJ]at ht⊢;exact Qp1 zE.out ht);have QT:=Qq (show Us lg f=(List.range m).any (Qy2 lg f) by unfold Us Hm;rw [Mb,<-hm];rfl)
  have NT:=Qq (show ∀t,Qy2 lg f t=(al.getD t false&&(Na f).getD t false)from fun t=>by rw [wJ];rfl);clear iP DP wJ hm;obtain⟨Ab,cb,Ar,cr,Ak,ck,Ac,cc,Aa,ca,d0,d1,d2,d3,d4,d5,xL,nN,IE,_,_,wJ⟩:=aM.out.cells;rw [UN.out]at d2;rw [sY.out]at d5;have D1:=Qq d1;have D2:=Qq d2;have sM:=Qq xL;have gD:=Qq nN;have UO:=Qq IE;have GU:=Qq wJ;have ZI:=wJ.1;have DH:=wJ.2.1;have RS:=IE.1;have AQ:=IE.2.1;unfold maxLen at DH AQ;rw [sY.out]at ZI;rw [UN.out]at RS;clear nN IE wJ d0 d3 d4 d1;go_upto_region 6 with(fail);obtain⟨w3,iH⟩:∃x,x=(w2.alloc (.map #[] 0)).alloc (.cells #[.slice none 0 0,.map (some w2.heap.size)] 98):=⟨_,rfl⟩
  have qH:=Qq (show Gh w2 w3 (.slice none 0 0) [] by rw [iH];exact Gh.start w2);rw [<-iH];clear iH;have d2':=(qH.out.ext.cell (p:=⟨b,2,none⟩) sM.out).trans D2.out;have d5':=(qH.out.ext.cell (p:=⟨b,5,none⟩) sM.out).trans d5;have bl3:=Qy sM.out qH.out.ext.size;go_wp2_with fail;clear d2' d5' bl3;go_loopw [49] (fun v wr=>∃k:Nat,v=.int .i64 (k:Int)/\k<=m/\Hid (∃v' l',Gh w2 wr v' l'/\l'.length<=1/\(l'= []->∀j,j < k->Qy2 lg f j=false)/\∀u∈l',Qy2 lg f u=true)) (fun v _=>m - (intOf v).toNat)
  case atStart=>exact⟨0,rfl,Nat.zero_le _,Qq ⟨_,[],qH.out,Nat.zero_le _,fun _ j hj=>absurd hj (by omega),fun u hu=>by cases hu⟩⟩
  case round =>
   clear qH;obtain⟨k,rfl,hk,zY⟩:=hrel;obtain⟨v1,l1,vS,mU,oM,IB⟩:=zY.out;have HS:=Qq vS;have HJ:=Qq oM;have HU:=Qq IB;clear zY vS oM IB;by_cases hlt2:k < m
   ·have yV:(k:Int) < (m:Int):=by omega
    have d2':=(HS.out.ext.cell (p:=⟨b,2,none⟩) sM.out).trans D2.out;have bl3:=Qy sM.out HS.out.ext.size;obtain⟨_,rfl,yS,a0⟩:=Xb (GU.out.ext HS.out.ext) (show k < al.length by rw [sY.out];exact hlt2);obtain⟨_,rfl,xA,r0⟩:=Xb (UO.out.ext HS.out.ext) (show k < (Na f).length by rw [UN.out];exact hlt2);have JG:=Qq (NT.out k);have zD:=Qq (fun(oI:l1= []->Qy2 lg f k=false) (he:l1= []) j (hj:j < k+1)=>show Qy2 lg f j=false from by
     by_cases e:j < k
     ·exact HJ.out he j e
     have:j=k:=by omega
     subst this;exact oI he)
    obtain⟨ak,qE⟩:∃x,x=al.getD k false:=⟨_,rfl⟩;obtain⟨rk,YO⟩:∃x,x=(Na f).getD k false:=⟨_,rfl⟩;rw [<-qE,<-YO]at JG;rw [<-qE]at a0;rw [<-YO]at r0;clear qE YO;obtain⟨e0,e1,el⟩:=HS.out.cells;obtain⟨A1,c1,rfl⟩:=Qt HS.out.row;cases ak
    ·go_wp2_with fail;go_roundw
     case rel=>exact⟨k+1,by go_num,by omega,Qq ⟨_,l1,HS.out,mU,zD.out (fun _=>by rw [JG.out];rfl),HU.out⟩⟩
     case measure=>simp [intOf];omega
    cases rk
    ·go_wp2_with fail;go_roundw
     case rel=>exact⟨k+1,by go_num,by omega,Qq ⟨_,l1,HS.out,mU,zD.out (fun _=>by rw [JG.out];rfl),HU.out⟩⟩
     case measure=>simp [intOf];omega
    by_cases oW:l1.length=0
    ·have hq:((l1.length:Int)==0)=true:=by rw [oW];rfl
     have VA:=Qq (List.length_eq_zero_iff.1 oW);have fF:=Qq (show Nt l1 (k:Int)= [k] by rw [VA.out];rfl);have BP:(k:Int)<=4096:=by omega
     have BJ:l1.length<=4096:=by omega
     clear oW;go_wp2_with fail;refine(Qgx w2 _ _ l1 (k:Int) HS.out BP BJ).mono ?_;rintro e w5 ⟨⟨r,rfl⟩,v5,PW,_⟩;rw [fF.out]at PW;have UJ:=Qq PW;clear PW;go_wp2_with fail;go_roundw
     case rel=>exact⟨k+1,by go_num,by omega,Qq ⟨_,[k],UJ.out,Nat.le_refl _,(fun h=>by cases h),(fun u hu=>by rw [List.mem_singleton.1 hu,JG.out];rfl)⟩⟩
     case measure=>simp [intOf];omega
    have hq:((l1.length:Int)==0)=false:=by rw [beq_eq_false_iff_ne];omega
    have VA:=Qq (show l1≠ []from fun e=>oW (by rw [e];rfl));clear oW;go_wp2_with fail;go_roundw
    case rel=>exact⟨k+1,by go_num,by omega,Qq ⟨_,l1,HS.out,mU,(fun h=>absurd h VA.out),HU.out⟩⟩
    case measure=>simp [intOf];omega
   obtain rfl:m=k:=by omega
   obtain⟨e0,e1,el⟩:=HS.out.cells;obtain⟨A1,c1,rfl⟩:=Qt HS.out.row;by_cases oW:l1.length=0
   ·have hq:((l1.length:Int)==0)=true:=by rw [oW];rfl
    have sH:=Qq (show Us lg f=false by
     rw [QT.out,List.any_eq_false];intro t ht;rw [HJ.out (List.length_eq_zero_iff.1 oW) t (List.mem_range.1 ht)];simp)
    have wD:=Qq ((HS.out.ext.block (by have:=bI.out;exact this)).trans rG.out);obtain⟨⟨q0,q1,q2⟩,⟨f0,f1,f2⟩,ql⟩:=Zc wD.out;have oZ:=Qq (zT.out.trans HS.out.ext);clear oW;go_wp2_with fail
    (try simp only [Exit.inBlock,Exit.then])
    refine bodyPost_ret (Jd Tryz.results24 _ _ rfl (Jj (Yn wD.out _ _ _)) Tryz.underlying26 rfl (by kernel_rfl)) rfl ?_;exact⟨Yb oZ.out (Nat.le_refl _) _ _ _,.inr (.inl ⟨wK.out.symm,sH.out,rfl⟩)⟩
   obtain⟨t0,rfl⟩:∃t,l1= [t]:=by
    cases l1 with
    |nil=>exact absurd rfl oW
    |cons a r=>cases r with
     |nil=>exact⟨a,rfl⟩
     |cons z r=>simp at mU
   have ZU:=Qq (HU.out t0 (List.mem_singleton.2 rfl));have F0:=Qq (show SOk al [t0]from⟨by simp,fun u hu=>by
    have h1:=ZU.out;rw [NT.out,Bool.and_eq_true]at h1;rw [List.mem_singleton.1 hu];exact h1.1⟩)
   have hh:=(Jb zE.out.ck).2.2.2;have uZ:=Ry (Qf f) 0 hh (by decide);have lV:=Tb (Qf f) 0 hh (by decide);obtain⟨am,dO⟩:∃x,x=Jl (Qf f):=⟨_,rfl⟩;obtain⟨fm,nN⟩:∃x,x=Yy (Qf f):=⟨_,rfl⟩;rw [show(Qf f).foldl Tq 0=am from dO.symm]at uZ;rw [show(Qf f).foldl Tz 0=fm from nN.symm]at lV;have RA:=Qq dO;have VI:=Qq nN;have xC:IntKind.u64.wrap (am:Int)=(am:Int):=by rw [IntKind.wrap_u64];omega
   have kY:IntKind.u64.wrap (fm:Int)=(fm:Int):=by rw [IntKind.wrap_u64];omega
   clear oW mU hh dO nN HJ HU;go_wp2_with fail;refine(Ot _ f _ (H.out.ext (zT.out.trans HS.out.ext)) zE.out.ck).mono ?_;rintro e w5 ⟨rfl,hx⟩;rw [<-RA.out];have UJ:=Qq (HS.out.next hx);clear hx e0 e1 el;go_wp2_with fail;refine(Qy0 am (by omega) _).mono ?_;rintro e w6 ⟨rfl,rfl⟩;go_wp2_with fail;refine(Qqs _ f _ (H.out.ext (zT.out.trans UJ.out.ext)) zE.out.ck).mono ?_;rintro e w7 ⟨rfl,hx⟩;rw [<-VI.out];have T1:=Qq (UJ.out.next hx);clear hx HS UJ;go_wp2_with fail;refine(Qy0 fm (by omega) _).mono ?_;rintro e w8 ⟨rfl,rfl⟩;have mC:=Qqw (m:=am) (k:=4) uZ;have kH:=Qqw (m:=fm) (k:=8) lV
   obtain⟨ags,TR⟩:∃x,x=Ye am:=⟨_,rfl⟩;obtain⟨fas,TB⟩:∃x,x=Ye fm:=⟨_,rfl⟩;have PO:=Qq (show ags=Ye (Jl (Qf f)) by rw [TR,RA.out]);have OW:=Qq (show fas=Ye (Yy (Qf f)) by rw [TB,VI.out]);rw [<-TR]at mC⊢;rw [<-TB]at kH⊢;clear TR TB xC kY uZ lV RA VI;go_wp2_with fail;go_loopw [14] (fun v wr=>∃k:Nat,v=.int .i64 (k:Int)/\k<=m/\Hid (∃v' l',Gh w2 wr v' l'/\Ki al [t0] l'/\k<=l'.length/\∀j,j < k->Sel lg (Zs (Qp f).1) (Jm (Qp f).1) al ags l' (l'.getD j 0))) (fun v _=>m - (intOf v).toNat)
   case atStart=>exact⟨0,rfl,Nat.zero_le _,Qq ⟨_,[t0],T1.out,Ki.refl,Nat.zero_le _,fun j hj=>absurd hj (by omega)⟩⟩
   case round =>
    clear T1;obtain⟨k,rfl,hk,zY⟩:=hrel;obtain⟨v1,l1,vS,vD,wR,oM⟩:=zY.out;have HS:=Qq vS;have HG:=Qq vD;have HJ:=Qq oM;have HO:=Qq (F0.out.grow vD);have hlm:l1.length<=m:=by have:=HO.out.len;rw [sY.out]at this;exact this
    clear zY vS vD oM;obtain⟨e0,e1,el⟩:=HS.out.cells;by_cases hlt2:k < l1.length
    ·have yV:(k:Int) < (l1.length:Int):=by omega
     obtain⟨g2,cap2,vR,sU,_,jZ,sR,a0⟩:=Up HS.out.row hlt2 rfl;subst vR;unfold maxLen at sR;have oF:l1.getD k 0∈l1:=by rw [Qk,Qv hlt2];exact List.getElem_mem _
     have OH:=Qq (UW.out _ (HO.out.al _ oF));have rS:l1.getD k 0 < m:=by have:=HO.out.lt _ oF;rw [sY.out]at this;exact this
     have zD:=Qq (fun(l2:List Nat) (uF:Ki al l1 l2) (cE:Sel lg (Zs (Qp f).1) (Jm (Qp f).1) al ags l2 (l1.getD k 0)) j (hj:j < k+1)=>show Sel lg (Zs (Qp f).1) (Jm (Qp f).1) al ags l2 (l2.getD j 0)from by
      rw [uF.get (by omega)];by_cases e:j < k
      ·exact(HJ.out j e).mono uF.sub
      have:j=k:=by omega
      subst this;exact cE)
     obtain⟨u,hu⟩:∃u,u=l1.getD k 0:=⟨_,rfl⟩;rw [<-hu]at a0 rS OH zD;have RH:IntKind.u64.wrap (u:Int)=(u:Int):=by rw [IntKind.wrap_u64];omega
     have GZ:u < al.length:=by rw [sY.out];exact rS
     have YS:al.length<=4096:=by rw [sY.out];omega
     clear oF hu;go_wp2_with fail;refine(Qlz b lg _ _ _ _ al ags u w2 _ _ l1 aM.out HA.out.lgr GZ YS sW.out kT.out mC OH.out HS.out HO.out).mono ?_;rintro e w9 ⟨⟨r,rfl⟩,v2,l2,xN,uF,WI⟩;have vK:=Qq xN;have bP:=Qq uF;have ET:=Qq (zD.out l2 uF WI);have dC:l1.length<=l2.length:=uF.pre.length_le;clear xN uF WI;go_wp2_with fail;go_roundw
     case rel=>exact⟨k+1,by go_num,by omega,Qq ⟨_,l2,vK.out,HG.out.trans bP.out,by omega,ET.out⟩⟩
     case measure=>simp [intOf];omega
    obtain rfl:l1.length=k:=by omega
    obtain⟨A1,c1,rfl⟩:=Qt HS.out.row;by_cases h65:64 < l1.length
    ·have uH:(64:Int) < (l1.length:Int):=by omega
     have wD:=Qq ((HS.out.ext.block (by have:=bI.out;exact this)).trans rG.out);obtain⟨⟨q0,q1,q2⟩,⟨f0,f1,f2⟩,ql⟩:=Zc wD.out;have oZ:=Qq (zT.out.trans HS.out.ext);have hZ:=Qq (show Us lg f=true by
      rw [QT.out,List.any_eq_true];have h1:=ZU.out;refine⟨t0,List.mem_range.2 ?_,h1⟩;rw [NT.out,Bool.and_eq_true]at h1;have:=Xr h1.1;rw [sY.out]at this;exact this)
     have fB:=Qq (show 6 < (Qp f).1.length from Nat.lt_of_not_le fun iN=>by
      have h1:m<=2^6:=by rw [HM.out];exact Nat.pow_le_pow_right (by decide) iN
      omega)
     clear hlm hlt2 h65;go_wp2_with fail
     (try simp only [Exit.inBlock,Exit.then])
     refine bodyPost_ret (Jd Tryz.results24 _ _ rfl (Jj (Yn wD.out _ _ _)) Tryz.underlying26 rfl (by kernel_rfl)) rfl ?_;exact⟨Yb oZ.out (Nat.le_refl _) _ _ _,.inr (.inr (.inr ⟨wK.out.symm,hZ.out,fB.out,rfl⟩))⟩
    have yZ:l1.length<=64:=by omega
    have uH:¬(64:Int) < (l1.length:Int):=by omega
    have fN:=Qxh fas (by omega);go_upto_region 21 with(fail);obtain⟨W5,hW5⟩:∃W,W=wr:=⟨_,rfl⟩;subst hW5;refine Pr (X21 W5 l1.length fas) ?_ ?_
    ·skip
     refine Ym 9 (fun w'=>w'.cell? (⟨w2.heap.size+1,0,none⟩)=some (.slice A1 l1.length c1)) (by kernel_rfl) (xd el e0) (fun zZ=> ?_);refine Qo 0 zZ ?_;refine Qo 1 zZ ?_;refine Qo 2 zZ ?_;refine Qo 3 zZ ?_;refine Qo 4 zZ ?_;refine Qo 5 zZ ?_;refine Qe (rs:= [6,8]) (by kernel_rfl) (by simp) ?_;refine Zj.cons rfl (fun K hK=> ?_) (Zj.cons rfl (fun K hK=> ?_) Zj.nil)
     ·skip
      go_simp;refine hK.out _ _ (xd el e0) (fun zZ=> ?_);clear hK K;refine Qb ?_;refine Qo 7 zZ ?_;refine Qe (rs:= [8]) (by kernel_rfl) (by simp) ?_;refine Zj.cons rfl (fun K hK=> ?_) Zj.nil;go_simp;refine hK.out _ _ (xd el e0) (fun zZ=> ?_);clear hK K;refine Qb ?_;refine Yh (by kernel_rfl) rfl (fun K hK=> ?_);go_simp;refine hK.out _ _ ?_;clear hK K;refine Qb ?_;refine Yc (by kernel_rfl) ?_ _
      first
      |(apply Qk5 (mb:=W5.heap.size+1) (vb:=W5.heap.size)
        ·simp only [Act.put,List.setIfInBounds_toArray,List.set_cons_zero,List.set_cons_succ];exact rfl
        exact Zyd (by omega))
      |(apply Qk5 (mb:=W5.heap.size) (vb:=W5.heap.size+1)
        ·simp only [Act.put,List.setIfInBounds_toArray,List.set_cons_zero,List.set_cons_succ];exact rfl
        exact Zyn (by omega))
     skip
     go_simp;refine hK.out _ _ (xd el e0) (fun zZ=> ?_);clear hK K;refine Qb ?_;refine Qe (rs:= [6]) (by kernel_rfl) (by simp) ?_;refine Zj.cons rfl (fun K hK=> ?_) Zj.nil;go_simp;refine hK.out _ _ (xd el e0) (fun zZ=> ?_);clear hK K;refine Qb ?_;refine Qo 7 zZ ?_;refine Yh (by kernel_rfl) rfl (fun K hK=> ?_);go_simp;refine hK.out _ _ ?_;clear hK K;refine Qb ?_;refine Yc (by kernel_rfl) ?_ _
     first
     |(apply Qk5 (mb:=W5.heap.size+1) (vb:=W5.heap.size)
       ·simp only [Act.put,List.setIfInBounds_toArray,List.set_cons_zero,List.set_cons_succ];exact rfl
       exact Zyd (by omega))
     |(apply Qk5 (mb:=W5.heap.size) (vb:=W5.heap.size+1)
       ·simp only [Act.put,List.setIfInBounds_toArray,List.set_cons_zero,List.set_cons_succ];exact rfl
       exact Zyn (by omega))
    rintro a' w6 ⟨mb,vb,mT,v119,v120,v121,v122,v123,v124,v125,v126,rfl⟩;simp only [Act.put,List.setIfInBounds_toArray,List.set_cons_zero,List.set_cons_succ];have uC:=Qq mT;have pB:=Qq (HS.out.next mT.ext);obtain⟨bl,rO⟩:∃x,x=(Qp f).1.length:=⟨_,rfl⟩;have PI:=Qq rO;have mB:bl<=12:=by rw [rO];exact HA.out.len
    have x1:=(pB.out.ext.cell (p:=⟨b,1,none⟩) sM.out).trans D1.out;have xl:=Qy sM.out pB.out.ext.size;rw [<-rO]at x1;have pP:0 < l1.length:=by have:=HG.out.pre.length_le;simp at this;omega
    clear mT rO e0 e1 el fN uH;go_wp2_with fail;clear x1 xl;go_loopw [132] (fun v wr=>∃k:Nat,v=.int .i64 (k:Int)/\k<=bl/\Hid (∃vals,Rq W5 wr mb vb l1.length fas vals (.slice none 0 0) []/\Lt (Qp f).1 l1 k vals)) (fun v _=>bl - (intOf v).toNat)
    case atStart=>exact⟨0,rfl,Nat.zero_le _,Qq ⟨_,uC.out,Lt.start _ _ _⟩⟩
    case round =>
     clear uC pB;obtain⟨k,rfl,hk,zY⟩:=hrel;obtain⟨vals,mT,mV⟩:=zY.out;have uC:=Qq mT;have aL:=Qq mV;have pB:=Qq (HS.out.next mT.ext);clear zY mT mV;by_cases hlt2:k < bl
     ·have yV:(k:Int) < (bl:Int):=by omega
      obtain⟨s,RP⟩:∃s,s=(Qp f).1.getD k []:=⟨_,rfl⟩;have oL:k < (Qp f).1.length:=by rw [<-PI.out];exact hlt2
      have fJ:(Qp f).1[k]?=some s:=by rw [RP,Qk,Qv oL];rfl
      have XJ:=Qq RP;obtain⟨_,_,nH,_,_,zQ⟩:=gD.out;injection nH with hsl1 _ jY;subst hsl1 jY;obtain⟨ad,rfl,zV,qA⟩:=zQ (by intro e;rw [e]at oL;simp at oL);obtain⟨u,P7,QK⟩:=qA k s fJ;have c0:=(pB.out.ext.cell (p:=ad.add k) (Qj zV)).trans P7;have cl:(ad.add k).block < wr.heap.size:=by rw [Qr];exact Qy zV pB.out.ext.size
      have OS:=Qq (QK.ext pB.out.ext);have sI:0 < s.length:=by
       obtain⟨t,ht,hc,_⟩:=zE.out.b.can s (List.mem_of_getElem? fJ);rw [hc];exact Ud ht.xp.1.1
      clear qA P7 QK RP fJ zQ zV;go_wp2_with fail;refine(Ia _ s _ OS.out sI).mono ?_;rintro e w7 ⟨u1,u2,rfl,jT,mW,qW⟩;have pL:=Qq (uC.out.next jT);obtain⟨nn,uD⟩:∃nn,nn=Qi s:=⟨_,rfl⟩;have tN:=Qq (show nn=Qi ((Qp f).1.getD k []) by rw [uD,XJ.out]);rw [<-uD];unfold Nd.val;obtain⟨A5,c5,rfl,_⟩:=Qc mW;obtain⟨A6,c6,rfl,_⟩:=Qc qW;clear jT mW qW uD c0 cl uC pB;by_cases ho:nn.op=3
      ·have xU:=Qq (show(Qi ((Qp f).1.getD k [])).op=3 by rw [<-tN.out];exact ho);obtain⟨p,hp,AV,-⟩:=Qgt zE.out wK.out.symm oL xU.out;rw [<-tN.out]at hp;rw [<-OW.out]at AV;have lB:(p:Int) < (fas:Int):=by omega
       have S8:=Qq (show ∀j,j < k->¬((Qi ((Qp f).1.getD j [])).op=3/\(Qi ((Qp f).1.getD j [])).i=(p:Int))from fun j hj hh=>by
        have:=Qp5 zE.out wK.out.symm (i:=j) (j:=k) (by omega) oL hh.1 hh.2 xU.out (by rw [<-tN.out];exact hp)
        omega)
       have nA:=Qq (show(Qi ((Qp f).1.getD k [])).i=(p:Int) by rw [<-tN.out];exact hp);rw [hp,ho];have DS:=Qq (aL.out.zero p S8.out);obtain⟨w8,kZ⟩:∃x,x=w7.alloc (.cells #[.int .i64 3,.int .i64 (p:Int),.int .i64 nn.e,.int .i64 nn.g,.int .i64 nn.x,.int .i64 nn.y] 71):=⟨_,rfl⟩;have FR:=Qq (show Rq W5 w8 mb vb l1.length fas vals (.slice none 0 0) [] by rw [kZ];exact pL.out.next (Qz.alloc _));have T0:=Qq (HS.out.next FR.out.ext);obtain⟨nb,SH⟩:∃x,x=w7.heap.size:=⟨_,rfl⟩;have jA:=Qq (show w8.heap[nb]?=some (.cells #[.int .i64 3,.int .i64 (p:Int),.int .i64 nn.e,.int .i64 nn.g,.int .i64 nn.x,.int .i64 nn.y] 71 (0,0))/\nb≠vb by
        refine⟨by rw [kZ,SH];exact heap_alloc_new _ _,?_⟩;have:=(pL.out.row.lt vb rfl).2
        omega)
       clear hp ho oL;go_upto_region 26 with(fail);rw [<-kZ,<-SH];clear kZ SH;obtain⟨n0,n1,n3,nl⟩:=Qgf jA.out.1;obtain⟨e0,e1,el⟩:=T0.out.cells;go_wp2_with fail;clear n0 n1 n3 nl e0 e1 el;obtain⟨wo,bV⟩:∃v,v=wr:=⟨_,rfl⟩;subst bV;go_loopw [151] (fun v wr=>∃x:Nat,v=.int .i64 (x:Int)/\x<=l1.length/\Hid (∃z,Rq W5 wr mb vb l1.length fas (vals.set p z) (.slice none 0 0) []/\Wr l1 k x z/\wr.heap[nb]?=some (.cells #[.int .i64 3,.int .i64 (p:Int),.int .i64 nn.e,.int .i64 nn.g,.int .i64 nn.x,.int .i64 nn.y] 71 (0,0)))) (fun v _=>l1.length - (intOf v).toNat)
       case atStart=>exact⟨0,rfl,Nat.zero_le _,Qq ⟨0,by
        have:vals.set p 0=vals:=by
         refine List.ext_getElem (by simp) fun i h1 h2=> ?_
         rw [List.getElem_set]
         split
         ·rename_i e;subst e;have:=DS.out;rw [Qk,Qv h2]at this;exact this.symm
         rfl
        rw [this];exact FR.out,Wr.start _ _,jA.out.1⟩⟩
       case round =>
        clear FR pL T0;obtain⟨x,rfl,hx,zY⟩:=hrel;obtain⟨z,mT,qR,KW⟩:=zY.out;have uC:=Qq mT;have mX:=Qq qR;have mG:=Qq KW;have fT:=Qq (HS.out.next mT.ext);clear zY mT qR KW;by_cases yW:x < l1.length
        ·have zN:(x:Int) < (l1.length:Int):=by omega
         have Z6:x < 64:=by omega
         obtain⟨g2,cap2,vR,sU,_,jZ,sR,a0⟩:=Up fT.out.row yW rfl;injection vR with hsl2a _ hsl2b;subst hsl2a hsl2b;unfold maxLen at sR;obtain⟨n0,n1,n3,nl⟩:=Qgf mG.out;obtain⟨⟨m0,m1,m2⟩,_,ml⟩:=uC.out.cells;have sN:(vals.set p z).length=fas:=uC.out.len;obtain⟨-,vl,-,-,AC,fH,JZ⟩:=uC.out.row.at_ (by rw [sN];omega);have v0:=fH p (by rw [sN];exact AV);have vf:=JZ p;rw [List.length_set]at sN;rw [Wc,if_pos ⟨rfl,by rw [sN];exact AV⟩]at v0;unfold maxLen at AC;have R8:=Qq (show Qm z from Qy mX.out.low (Nw yZ));have oF:l1.getD x 0∈l1:=by rw [Qk,Qv yW];exact List.getElem_mem _
         have rS:l1.getD x 0 < m:=by have:=HO.out.lt _ oF;rw [sY.out]at this;exact this
         have zA:=Qq (mX.out.step yW);obtain⟨u,hu⟩:∃u,u=l1.getD x 0:=⟨_,rfl⟩;rw [<-hu]at a0 rS zA;have wI:k < 64:=by omega
         clear oF hu m0 m2 n0 n3 fH JZ mX sN;have uE:=Qpk u k (by omega);cases YL:u.testBit k
         ·rw [YL]at uE zA;have uW:=Zq9 R8.out;simp only [Bool.false_eq_true,if_false,Nat.or_zero,Int.natCast_zero]at uE zA;clear YL;go_upto_region 30 with(fail);obtain⟨W30,TS⟩:∃v,v=wr:=⟨_,rfl⟩;subst TS;refine Ym 15 (fun w'=>w'.cell? (⟨mb,1,none⟩)=some (.slice (some ⟨vb,0,none⟩) fas fas)/\w'.cell? (⟨nb,1,none⟩)=some (.int .i64 (p:Int))/\w'.cell? (⟨vb,p,none⟩)=some (.int .u64 (z:Int))) (by kernel_rfl) ⟨xd ml m1,xd nl n1,xd vl v0⟩ (fun zZ=> ?_);refine Qo 0 zZ ?_;refine Qo 1 zZ ?_;refine Qo 2 zZ ?_;refine Qo 3 zZ ?_;refine Qo 4 zZ ?_;refine Qo 5 zZ ?_;refine Qo 6 zZ ?_
          refine Qo 7 zZ ?_;refine Qo 8 zZ ?_;refine Qo 9 zZ ?_;refine Qo 10 zZ ?_;refine Qo 11 zZ ?_;refine Qo 12 zZ ?_;refine Qo 13 zZ ?_;refine Qo 14 zZ ?_;refine Yh (by kernel_rfl) rfl (fun K hK=> ?_);go_simp;refine hK.out _ _ ?_;clear hK K;refine Qb ?_;refine Yc (by kernel_rfl) ?_ _;rw [show bits .or .u64 (z:Int) (IntKind.u64.wrap (IntKind.u64.wrap 0*2^x))=((z:Nat):Int)from by rw [Zjn];exact uW];have jB:=Qq (uC.out.setVal p (z));rw [List.set_set]at jB;have FM:=Qq ((Below.heap_setCell W30 ⟨vb,p,none⟩ (.int .u64 ((z:Nat):Int)) nb jA.out.2).trans mG.out)
          clear uW uE v0 vf n1 m1 uC mG fT nl ml vl a0;go_wp2_with fail;go_roundw
          case rel=>exact⟨x+1,by go_num,by omega,Qq ⟨z,jB.out.next (Qz.drew),zA.out,FM.out⟩⟩
          case measure=>simp [intOf];omega
         rw [YL]at uE zA;have uW:=Ep R8.out Z6;simp only [if_true,Int.natCast_one]at uE zA;clear YL;go_upto_region 30 with(fail);obtain⟨W30,TS⟩:∃v,v=wr:=⟨_,rfl⟩;subst TS;refine Ym 15 (fun w'=>w'.cell? (⟨mb,1,none⟩)=some (.slice (some ⟨vb,0,none⟩) fas fas)/\w'.cell? (⟨nb,1,none⟩)=some (.int .i64 (p:Int))/\w'.cell? (⟨vb,p,none⟩)=some (.int .u64 (z:Int))) (by kernel_rfl) ⟨xd ml m1,xd nl n1,xd vl v0⟩ (fun zZ=> ?_);refine Qo 0 zZ ?_;refine Qo 1 zZ ?_;refine Qo 2 zZ ?_;refine Qo 3 zZ ?_;refine Qo 4 zZ ?_;refine Qo 5 zZ ?_;refine Qo 6 zZ ?_;refine Qo 7 zZ ?_
         refine Qo 8 zZ ?_;refine Qo 9 zZ ?_;refine Qo 10 zZ ?_;refine Qo 11 zZ ?_;refine Qo 12 zZ ?_;refine Qo 13 zZ ?_;refine Qo 14 zZ ?_;refine Yh (by kernel_rfl) rfl (fun K hK=> ?_);go_simp;refine hK.out _ _ ?_;clear hK K;refine Qb ?_;refine Yc (by kernel_rfl) ?_ _;rw [show bits .or .u64 (z:Int) (IntKind.u64.wrap (IntKind.u64.wrap 1*2^x))=((z|||2^x:Nat):Int)from by rw [Zjr];exact uW];have jB:=Qq (uC.out.setVal p (z|||2^x));rw [List.set_set]at jB;have FM:=Qq ((Below.heap_setCell W30 ⟨vb,p,none⟩ (.int .u64 ((z|||2^x:Nat):Int)) nb jA.out.2).trans mG.out)
         clear uW uE v0 vf n1 m1 uC mG fT nl ml vl a0;go_wp2_with fail;go_roundw
         case rel=>exact⟨x+1,by go_num,by omega,Qq ⟨z|||2^x,jB.out.next (Qz.drew),zA.out,FM.out⟩⟩
         case measure=>simp [intOf];omega
        obtain rfl:l1.length=x:=by omega
        have OX:=Qq (aL.out.next S8.out xU.out nA.out (by have:=uC.out.len;rw [List.length_set]at this;omega) mX.out);go_wp2_with fail;go_roundw
        case rel=>exact⟨k+1,by go_num,by omega,Qq ⟨_,uC.out,OX.out⟩⟩
        case measure=>simp [intOf];omega
      have OX:=Qq (aL.out.other (by rw [<-tN.out];exact ho));have QC:(nn.op==3)=false:=by rw [beq_eq_false_iff_ne];exact ho
      clear ho;go_wp2_with fail;go_roundw
      case rel=>exact⟨k+1,by go_num,by omega,Qq ⟨vals,pL.out.next (Qz.alloc _),OX.out⟩⟩
      case measure=>simp [intOf];omega
     obtain rfl:bl=k:=by omega
     obtain⟨e0,e1,el⟩:=pB.out.cells;obtain⟨wb,Z9⟩:∃v,v=wr:=⟨_,rfl⟩;subst Z9;have kS:=Qq (show Lt (Qp f).1 l1 (Qp f).1.length vals by rw [<-PI.out];exact aL.out);clear aL e0 e1 el;go_wp2_with fail;go_loopw [174] (fun v wr=>∃k:Nat,v=.int .i64 (k:Int)/\k<=ags/\Hid (∃vr,Rq W5 wr mb vb l1.length fas vals vr ((List.range k).map fun(a:Nat)=>(List.range l1.length).map fun v=>Yi l1.length fun w=>Jy lg (Zs (Qp f).1) (a:Int) (l1.getD v 0) (l1.getD w 0)))) (fun v _=>ags - (intOf v).toNat)
     case atStart=>exact⟨0,rfl,Nat.zero_le _,Qq ⟨_,uC.out⟩⟩
     case round =>
      clear uC pB;obtain⟨k,rfl,hk,zY⟩:=hrel;obtain⟨vr,mT⟩:=zY.out;obtain⟨rows,vT⟩:∃x,x=((List.range k).map fun(a:Nat)=>(List.range l1.length).map fun v=>Yi l1.length fun w=>Jy lg (Zs (Qp f).1) (a:Int) (l1.getD v 0) (l1.getD w 0)):=⟨_,rfl⟩;have iW:=Qq vT;rw [<-vT]at mT;have uC:=Qq mT;have pB:=Qq (HS.out.next mT.ext);clear zY mT vT;obtain⟨e0,e1,el⟩:=pB.out.cells;by_cases hlt2:k < ags
      ·have yV:(k:Int) < (ags:Int):=by omega
       obtain⟨P,hP⟩:∃P:Nat->Nat->Bool,P=fun v w=>Jy lg (Zs (Qp f).1) (k:Int) (l1.getD v 0) (l1.getD w 0):=⟨_,rfl⟩
       have HP:=Qq (show ∀v w,P v w=Jy lg (Zs (Qp f).1) (k:Int) (l1.getD v 0) (l1.getD w 0)from fun v w=>by rw [hP]);have uI:=Qq (show((List.range (k+1)).map fun(a:Nat)=>(List.range l1.length).map fun v=>Yi l1.length fun w=>Jy lg (Zs (Qp f).1) (a:Int) (l1.getD v 0) (l1.getD w 0))=rows++ [(List.range l1.length).map fun v=>Yi l1.length (P v)] by rw [List.range_succ,List.map_append,<-iW.out,hP];rfl);clear hP;have fN:=Qxh l1.length (by omega);obtain⟨wa,xC⟩:∃v,v=wr:=⟨_,rfl⟩;subst xC;obtain⟨rb,WO⟩:∃x,x=wa.heap.size:=⟨_,rfl⟩;have NW:=Qq WO;have aB:=Qq (Qqi l1.length (by omega) wa wa.heap.size (Nat.le_refl _))
       rw [List.toArray_replicate,<-WO]at aB;go_upto_region 37 with(fail);obtain⟨wc,tH⟩:∃x,x=(wa.alloc (.cells (Array.replicate l1.length (Value.int .u64 0)) 41)):=⟨_,rfl⟩;have TX:=Qq (show Qg wa wc by rw [tH];exact Qz.alloc _);rw [<-tH]at aB;rw [<-tH,<-WO];clear tH WO e0 e1 el fN;have fU:=Qq (pB.out.next TX.out);obtain⟨e0,e1,el⟩:=fU.out.cells;go_wp2_with fail;clear e0 e1 el fU;go_loopw [188] (fun v wr=>∃x:Nat,v=.int .i64 (x:Int)/\x<=l1.length/\Hid (∃r,Qg wa wr/\Zf rb wr (.slice (some ⟨rb,0,none⟩) l1.length l1.length) r/\Ns l1.length P x 0 r)) (fun v _=>l1.length - (intOf v).toNat)
       case atStart=>exact⟨0,rfl,Nat.zero_le _,Qq ⟨_,TX.out,aB.out,Ns.start _ _⟩⟩
       case round =>
        clear aB TX;obtain⟨x,rfl,hx,zY⟩:=hrel;obtain⟨r,nF,KZ,YO⟩:=zY.out;have oZ:=Qq nF;have hO:=Qq KZ;have bH:=Qq YO;have fT:=Qq (pB.out.next nF);clear zY nF KZ YO;by_cases yW:x < l1.length
        ·have zN:(x:Int) < (l1.length:Int):=by omega
         obtain⟨g2,cap2,vR,sU,_,jZ,sR,a0⟩:=Up fT.out.row yW rfl;injection vR with hsl2a _ hsl2b;subst hsl2a hsl2b;unfold maxLen at sR;obtain⟨e0,e1,el⟩:=fT.out.cells;have oF:l1.getD x 0∈l1:=by rw [Qk,Qv yW];exact List.getElem_mem _
         have rS:l1.getD x 0 < m:=by have:=HO.out.lt _ oF;rw [sY.out]at this;exact this
         obtain⟨u,hu⟩:∃u,u=l1.getD x 0:=⟨_,rfl⟩;have D8:=Qq hu;rw [<-hu]at a0 rS;have GY:IntKind.u64.wrap (u:Int)=(u:Int):=by rw [IntKind.wrap_u64];omega
         clear oF hu;obtain⟨wo,bV⟩:∃v,v=wr:=⟨_,rfl⟩;subst bV;go_wp2_with fail;clear a0 e0 e1 el sU;go_loopw [198] (fun v wr=>∃y:Nat,v=.int .i64 (y:Int)/\y<=l1.length/\Hid (∃r,Qg wa wr/\Zf rb wr (.slice (some ⟨rb,0,none⟩) l1.length l1.length) r/\Ns l1.length P x y r)) (fun v _=>l1.length - (intOf v).toNat)
         case atStart=>exact⟨0,rfl,Nat.zero_le _,Qq ⟨_,oZ.out,hO.out,bH.out⟩⟩
         case round =>
          clear hO oZ bH fT;obtain⟨y,rfl,hy,zY⟩:=hrel;obtain⟨r,nF,KZ,YO⟩:=zY.out;have oZ:=Qq nF;have hO:=Qq KZ;have bH:=Qq YO;have fT:=Qq (pB.out.next nF);clear zY nF KZ YO;by_cases hlt4:y < l1.length
          ·have GW:(y:Int) < (l1.length:Int):=by omega
           have Z3:y < 64:=by omega
           obtain⟨g3,cap3,jY,YX,_,hs13,hs23,a0⟩:=Up fT.out.row hlt4 rfl;injection jY with hsl3a _ hsl3b;injection hsl3a with hsl3a;injection hsl3a with hsl3a;subst hsl3a hsl3b;have oF:l1.getD y 0∈l1:=by rw [Qk,Qv hlt4];exact List.getElem_mem _
           have AE:l1.getD y 0 < m:=by have:=HO.out.lt _ oF;rw [sY.out]at this;exact this
           have EZ:=Qq (show P x y=Jy lg (Zs (Qp f).1) (k:Int) u (l1.getD y 0) by rw [HP.out,D8.out]);obtain⟨q,hq⟩:∃q,q=l1.getD y 0:=⟨_,rfl⟩;rw [<-hq]at a0 AE EZ;have vC:IntKind.u64.wrap (q:Int)=(q:Int):=by rw [IntKind.wrap_u64];omega
           have iY:=Qq (Mz b lg _ _ _ _ _ (k:Int) u q wr (aM.out.ext fT.out.ext) HA.out.lgr (by omega) (by omega) (fun n hn=>⟨(sW.out n hn).1,by have:=(sW.out n hn).2;rw [sY.out]at this;omega⟩));rw [<-EZ.out]at iY;clear oF hq EZ;cases qM:P x y
           ·rw [qM]at iY;have ZW:=Qq (bH.out.no qM);clear qM;go_wp2_with fail;refine iY.out.mono ?_;rintro e w9 ⟨rfl,fG⟩;have nU:=Qq (oZ.out.trans fG);have jB:=Qq (hO.out.ext fG);clear fG;go_wp2_with fail;go_roundw
            case rel=>exact⟨y+1,by go_num,by omega,Qq ⟨r,nU.out,jB.out,ZW.out⟩⟩
            case measure=>simp [intOf];omega
           rw [qM]at iY;have ZW:=Qq (bH.out.yes yW qM);have HWZ:=Qq (show Qm (r.getD x 0)from Qy (bH.out.low hy yW) (Nw yZ));have uW:=Ep HWZ.out Z3;clear qM;go_wp2_with fail;refine iY.out.mono ?_;rintro e w9 ⟨rfl,fG⟩;have nU:=Qq (oZ.out.trans fG);have jB:=Qq (hO.out.ext fG);have wP:=bH.out.len;obtain⟨-,vl,-,-,-,fH,JZ⟩:=jB.out.at_ (by rw [wP];omega);have v0:=fH x (by rw [wP];exact yW);have vf:=JZ x;obtain⟨z,jR⟩:∃z,z=r.getD x 0:=⟨_,rfl⟩;rw [<-jR]at v0 uW ZW;clear fG wP fH JZ jR a0 YX;go_upto_region 44 with(fail);refine Ym 8 (fun w'=>w'.cell? (⟨rb,x,none⟩)=some (.int .u64 (z:Int))) (by kernel_rfl) (xd vl v0) (fun zZ=> ?_)
           refine Qo 0 zZ ?_;refine Qo 1 zZ ?_;refine Qo 2 zZ ?_;refine Qo 3 zZ ?_;refine Qo 4 zZ ?_;refine Qo 5 zZ ?_;refine Qo 6 zZ ?_;refine Qo 7 zZ ?_;refine Yh (by kernel_rfl) rfl (fun K hK=> ?_);go_simp;refine hK.out _ _ ?_;clear hK K;refine Qb ?_;refine Yc (by kernel_rfl) ?_ _;have FS:=Qq (jB.out.set bH.out.len x (z|||2^y));have ED:=Qq (nU.out.setCell (p:=⟨rb,x,none⟩) (by rw [<-NW.out];exact Nat.le_refl _) (.int .u64 ((z|||2^y:Nat):Int)));clear uW v0 vf jB nU vl;go_wp2_with fail;go_roundw
           case rel=>exact⟨y+1,by go_num,by omega,Qq ⟨_,ED.out.drew,FS.out.ext (Qz.drew),ZW.out⟩⟩
           case measure=>simp [intOf];omega
          obtain rfl:l1.length=y:=by omega
          have EW:=Qq bH.out.turn;go_wp2_with fail;go_roundw
          case rel=>exact⟨x+1,by go_num,by omega,Qq ⟨r,oZ.out,hO.out,EW.out⟩⟩
          case measure=>simp [intOf];omega
        obtain rfl:l1.length=x:=by omega
        have G0:=Qq bH.out.done;have XP:=Qq (uC.out.next oZ.out);obtain⟨us,tJ,zR,xQ⟩:=uC.out.rel;have lG:=Qq tJ;have yO:=Qq zR;have oD:=Qq xQ;have D7:=Qq (show us.length<=4 by rw [tJ,iW.out,List.length_map,List.length_range];omega);obtain⟨iS,SR,jN,jM,jL⟩:=info_parts Zy2;obtain⟨⟨m0,m1,m2⟩,⟨mf0,mf1,mf2⟩,ml⟩:=XP.out.cells;obtain⟨Av,cv,rfl⟩:=Qt zR;have RK:=D7.out;have xS:us.length+1<=maxLen:=by unfold maxLen;omega
        have xP:(us.length+1)*24<=140737488355328:=by omega
        clear tJ zR xQ m0 m1;obtain⟨wo,bV⟩:∃v,v=wr:=⟨_,rfl⟩;subst bV;go_wp2_with(at_builtin;refine wpList_append_own_at _ rfl _ _ 24 rfl W5.heap.size 23 iS (.slice none 0 0) 1 24 Tryz.underlying24 SR jN jM jL rfl (by decide) _ us.length us rfl (Zg yO.out (oZ.out.trans (Qz.alloc _))) ⟨_,0,none⟩ 1 1 [.slice (some ⟨rb,0,none⟩) l1.length l1.length] rfl rfl (Zt _ _ _ (by simp)) (fun u hu=>by rw [List.mem_singleton.1 hu];rfl) xS xP (Qx XP.out.ext.size (Qz.alloc _).size) ?_);intro v7 w7 zW zX sF zF;have qQ:=Qq (uC.out.push lG.out yO.out oD.out oZ.out (by rw [<-NW.out];exact hO.out) (Qz.alloc _) zW zX (zF.imp_right fun h=>by rw [h];simp))
        obtain⟨⟨p0,p1,p2⟩,⟨pf0,pf1,pf2⟩,pl⟩:=Zc ((zX.block mb (Qy ml ((Qg.refl wo).alloc (.cells #[.slice (some ⟨rb,0,none⟩) l1.length l1.length] 23)).size) (fun e=>XP.out.dr.1 e.symm)).trans ((((Qg.refl wo).alloc (.cells #[.slice (some ⟨rb,0,none⟩) l1.length l1.length] 23)).block ml).trans XP.out.cell));obtain⟨A7,c7,rfl⟩:=Qt zW;clear zW zX sF zF m2 mf0 mf1 mf2 p0 p1 pf0 pf1;go_wp2_with fail;go_roundw
        case rel=>exact⟨k+1,by go_num,by omega,Qq ⟨_,by rw [uI.out,<-G0.out];exact qQ.out⟩⟩
        case measure=>simp [intOf];omega
      obtain rfl:ags=k:=by omega
      obtain⟨⟨m0,m1,m2⟩,⟨mf0,mf1,mf2⟩,ml⟩:=uC.out.cells;have wD:=Qq ((pB.out.ext.block (by have:=bI.out;exact this)).trans rG.out);obtain⟨⟨q0,q1,q2⟩,⟨f0,f1,f2⟩,ql⟩:=Zc wD.out;have oZ:=Qq (zT.out.trans pB.out.ext);have hZ:=Qq (show Us lg f=true by
       rw [QT.out,List.any_eq_true];have h1:=ZU.out;refine⟨t0,List.mem_range.2 ?_,h1⟩;rw [NT.out,Bool.and_eq_true]at h1;have:=Xr h1.1;rw [sY.out]at this;exact this)
      have G9:=Qq (show Qgk lg f l1 ⟨l1.length,vals,rows⟩from {
       n:=rfl
       pos:=pP
       le:=yZ
       al:=fun u hu=>by rw [<-rY.out];exact HO.out.al u hu
       sel:=fun t ht=>by
        obtain⟨i,hi,e⟩:=List.getElem_of_mem ht;have h1:=HJ.out i hi;rw [Qk,Qv hi,Option.getD_some,e,PO.out,rY.out]at h1;exact h1
       root:=by
        have h1:=ZU.out;rw [NT.out,Bool.and_eq_true]at h1;have h2:=HG.out.get (k:=0) (by simp);rw [h2];exact h1.2
       rel:=by rw [<-PO.out];exact iW.out
       vlen:=by rw [<-OW.out];exact uC.out.len
       vlow:=kS.out.low
       fact:=fun i p hi h1 h2=>kS.out.bit i p hi h1 h2 })
      have OG:=Qq (show(⟨l1.length,vals,rows⟩:Md).ok from⟨⟨by show(-9223372036854775808:Int)<=(l1.length:Int);omega,by show(l1.length:Int)<=9223372036854775807;omega⟩,fun s hs=>Qy (kS.out.low s hs) (Nw yZ),fun r hr s hs=>by
       have kA:r∈rows:=hr;rw [iW.out]at kA;obtain⟨a,_,rfl⟩:=List.mem_map.1 kA;obtain⟨v,_,rfl⟩:=List.mem_map.1 hs;exact Fk yZ _⟩)
      have yB:=Qq (show w.heap.size < W5.heap.size from Qy bI.out HS.out.ext.size);obtain⟨Av,cv,rfl⟩:∃A c,vr=.slice A rows.length c:=by
       obtain⟨us,tJ,zR,_⟩:=uC.out.rel;obtain⟨A,c,e⟩:=Qt zR;exact⟨A,c,by rw [e,tJ]⟩
      go_wp2_with fail
      (try simp only [Exit.inBlock,Exit.then])
      refine bodyPost_ret (Jd Tryz.results24 _ _ rfl (Jj (Yn wD.out _ _ _)) Tryz.underlying26 rfl (by kernel_rfl)) rfl ?_;refine⟨Yb oZ.out (Nat.le_refl _) _ _ _,.inr (.inr (.inl ⟨wK.out.symm,hZ.out,_,_,l1,rfl,uC.out.mdv ⟨by simp [World.setCell],fun k hk hl=>Kx (fun e=>hk (by rw [e];exact yB.out)) _ _ _⟩,OG.out,G9.out⟩))⟩
 have HZ:=Qq hz;clear uK;go_enter Tryz.func24,Tryz.ntmps24;go_wp2_with fail;refine(Qzc lg _ f _ (H.out.ext zL.out)).mono ?_;rintro e w1 ⟨zN,hr⟩;obtain⟨_,rfl⟩:=hr.resolve_right (fun h=>HZ.out (wK.out.trans h.1));rw [<-wK.out];have zO:=Qq zN;have wT:=Qq ((zN.block (by simp)).trans lF.out);obtain⟨⟨q0,q1,q2⟩,⟨f0,f1,f2⟩,ql⟩:=Zc wT.out;clear zN hr;go_wp2_with fail
 (try simp only [Exit.inBlock,Exit.then])
 refine bodyPost_ret (Jd Tryz.results24 _ _ rfl (Jj (Yn wT.out _ _ _)) Tryz.underlying26 rfl (by kernel_rfl)) rfl ?_;exact⟨Yb (zL.out.trans zO.out) (Nat.le_refl _) _ _ _,.inl ⟨fun h=>HZ.out (wK.out.trans h),by rw [<-wK.out] <;> rfl⟩⟩
end Go.Proofs.YtkmclcmnoicagaaGreatDoor
