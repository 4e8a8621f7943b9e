/- types' newEngine: the walk. -/
import Derived.Test.YtkmclcmnoicagaaGreatDoorH25
namespace Go.Proofs.YtkmclcmnoicagaaGreatDoor
set_option maxRecDepth 100000
set_option maxHeartbeats 128000000
open Go.RowKit
def Qwp(X:Act->World->Prop):Exit->Act->World->Prop
 |.normal,a,w=>X a w
 |_,_,_=>False
theorem Pr {P:Program} {id:Nat} {ops:Array Oper} {md:Bool} {Q:Exit->Act->World->Prop} {a:Act} {w:World}(X:Act->Act->World->Prop)(h1:(Code.region id ops md).wp P (Qwp (X a)) a w)(h2:∀a' w',X a a' w'->Q .normal a' w'):(Code.region id ops md).wp P Q a w :=
 wp_mono h1 fun e a w q=>by
  cases e <;> first|exact h2 _ _ q|exact q.elim
theorem Xe {bs:Nat} {wr:World} {g' B j:Nat} {u:Value} {l:List Bool}(hr:Ks bs wr g' l)(zQ:g'≠B):Ks bs (wr.setCell ⟨B,j,none⟩ u) g' l:=Zp hr fun k hk=>by
 have e:k=g':=by injection hk with hk;exact hk.symm
 rw [e];exact Below.heap_setCell _ _ _ _ zQ
structure Wg (w2 wr:World) (B gx gy:Nat) (place:Nat) (grp:Int) (lx ly:List Bool) (p:Nat):Prop where
 ext:Qg w2 wr
 lo:w2.heap.size<=B
 cells:wr.heap[B]?=some (.cells #[.int .i64 (place:Int),.int .i64 grp,.slice (some ⟨gx,0,none⟩) lx.length lx.length,.slice (some ⟨gy,0,none⟩) ly.length ly.length,.int .u64 (p:Int)] 138 (0,0))
 rx:Ks w2.heap.size wr gx lx
 ry:Ks w2.heap.size wr gy ly
 nx:gx≠B
 ny:gy≠B
section
variable {w2 wr W:World} {B gx gy place p:Nat} {grp:Int} {lx ly:List Bool}
theorem Wg.next(h:Wg w2 wr B gx gy place grp lx ly p)(he:Qg wr W):Wg w2 W B gx gy place grp lx ly p :=
 ⟨h.ext.trans he,h.lo,(he.block (Qn h.cells)).trans h.cells,h.rx.ext he,h.ry.ext he,h.nx,h.ny⟩
theorem Wg.set(h:Wg w2 wr B gx gy place grp lx ly p)(q:Nat):Wg w2 (wr.setCell ⟨B,4,none⟩ (.int .u64 (q:Int))) B gx gy place grp lx ly q:=by
 refine⟨h.ext.setCell (p:=⟨B,4,none⟩) h.lo _,h.lo,?_,Xe h.rx h.nx,Xe h.ry h.ny,h.nx,h.ny⟩;simp only [World.setCell,Array.getElem?_modify,h.cells,if_true,Option.map_some];simp
end
theorem Wg.fill {w2 wr:World} {B gx gy place:Nat} {grp:Int} {lx ly:List Bool} {a0 a1 a2 a3 a4:Value}(he:Qg w2 wr)(wH:w2.heap.size<=B)(hb:wr.heap[B]?=some (.cells #[a0,a1,a2,a3,a4] 138 (0,0)))(hx:Ks w2.heap.size wr gx lx)(hy:Ks w2.heap.size wr gy ly)(nx:gx≠B)(ny:gy≠B):
 Wg w2 (((((wr.setCell ⟨B,0,none⟩ (.int .i64 (place:Int))).setCell ⟨B,1,none⟩ (.int .i64 grp)).setCell ⟨B,2,none⟩ (.slice (some ⟨gx,0,none⟩) lx.length lx.length)).setCell ⟨B,3,none⟩ (.slice (some ⟨gy,0,none⟩) ly.length ly.length)).setCell ⟨B,4,none⟩ (.int .u64 0)) B gx gy place grp lx ly 0:=by
 refine⟨((((he.setCell (p:=⟨B,0,none⟩) wH _).setCell (p:=⟨B,1,none⟩) wH _).setCell (p:=⟨B,2,none⟩) wH _).setCell (p:=⟨B,3,none⟩) wH _).setCell (p:=⟨B,4,none⟩) wH _,wH,?_,Xe (Xe (Xe (Xe (Xe hx nx) nx) nx) nx) nx,Xe (Xe (Xe (Xe (Xe hy ny) ny) ny) ny) ny,nx,ny⟩;simp only [World.setCell,Array.getElem?_modify,hb,if_true,Option.map_some];simp
theorem To {w:World} {b:Nat} {a0 a1 a2 a3 a4:Value} {t:TypeId}(h:w.heap[b]?=some (.cells #[a0,a1,a2,a3,a4] t (0,0))):
 (w.cell? ⟨b,0,none⟩=some a0/\w.cell? ⟨b,1,none⟩=some a1/\w.cell? ⟨b,2,none⟩=some a2/\w.cell? ⟨b,3,none⟩=some a3/\w.cell? ⟨b,4,none⟩=some a4)/\(∀j,w.frozen? ⟨b,j,none⟩=false)/\b < w.heap.size:=by
 refine⟨⟨by simp [World.cell?,h],by simp [World.cell?,h],by simp [World.cell?,h],by simp [World.cell?,h],by simp [World.cell?,h]⟩,fun j=> ?_,Qn h⟩;simp [World.frozen?,h]
def X16(W3:World)(k:Nat)(grp:Int)(lx ly:List Bool)(a a':Act)(w':World):Prop :=
 ∃B gx gy,Wg W3 w' B gx gy k grp lx ly 0/\∃v81 v82 v83 v84 v85 v86 v87 v88 v89 v90,a'=((((((((((a.put (some 81) v81).put (some 82) v82).put (some 83) v83).put (some 84) v84).put (some 85) v85).put (some 86) v86).put (some 87) v87).put (some 88) v88).put (some 89) v89).put (some 90) v90).put (some 14) (.pointer (some ⟨B,0,none⟩))
def Zjp(w:World)(lg:Int)(f:List Nd)(e:Ending)(w':World):Prop :=
 Qg w w'/\((Yj lg f≠0/\e=.returned (.tuple #[.pointer none,.int .i64 (Yj lg f)]))\/(Yj lg f=0/\∃b g,e=.returned (.tuple #[.pointer (some ⟨b,0,none⟩),.int .i64 0])/\w.heap.size<=b/\w.heap.size<=g/\Bd w' b g lg (Qp f).1 (Na f) (Zs (Qp f).1) (Jm (Qp f).1) (Kh lg (Qp f).1)))
theorem Qfk {lg:Int} {f:List Nd}(h:Ba lg f):(Qp f).1.length<=12/\check (Ji f)=0:=⟨h.b.len,by rw [h.e];exact h.x.check⟩
def Cy(base:List (List Nd))(k:Nat):List Kn:=(List.range k).flatMap fun i=>Ch base (base.getD i []) i
def Pw(base:List (List Nd))(k:Nat):List Cm:=(List.range k).flatMap fun i=>Mf base (base.getD i []) i
theorem Qyw(base:List (List Nd))(k:Nat):Cy base (k+1)=Cy base k++Ch base (base.getD k []) k:=by
 unfold Cy;rw [List.range_succ,List.flatMap_append,List.flatMap_singleton]
theorem Qyr(base:List (List Nd))(k:Nat):Pw base (k+1)=Pw base k++Mf base (base.getD k []) k:=by
 unfold Pw;rw [List.range_succ,List.flatMap_append,List.flatMap_singleton]
theorem Qiv {base:List (List Nd)} {g:List Nd} {i:Nat}(h:(Qi g).op≠9):Ch base g i= []:=by
 unfold Ch;rw [beq_eq_false_iff_ne.2 h];rfl
theorem Qo9 {base:List (List Nd)} {g:List Nd} {i:Nat}(h:(Qi g).op≠13):Mf base g i= []:=by
 unfold Mf;rw [beq_eq_false_iff_ne.2 h];rfl
theorem Qs6 {base:List (List Nd)} {k:Kn}(h:k∈Zs base):k.place < base.length/\k.holds.length=2^base.length:=by
 obtain⟨i,hi,hk⟩:=List.mem_flatMap.1 h;have:=List.mem_range.1 hi;unfold Ch at hk;cases ho:(Qi (base.getD i [])).op==9
 ·rw [ho]at hk;cases hk
 rw [ho]at hk;rw [List.mem_singleton.1 hk];exact⟨this,by unfold Vv;rw [List.length_map,List.length_range]⟩
theorem Qgm(e:Nat->Nat)(he:∀x,e x < 64):∀(L:List Nat) (p:Nat),p < 18446744073709551616->L.foldl (fun p i=>p|||2^e i) p < 18446744073709551616
 |[],_,h=>h
 |x :: r,p,h=>Qgm e he r _ (by
  have h1:p < 2^64:=h;have h2:2^e x < 2^64:=Nat.pow_lt_pow_right (by decide) (he x);exact Nat.or_lt_two_pow h1 h2)
theorem Qi3 {base:List (List Nd)}(hl:base.length<=12) {c:Cm}(h:c∈Jm base):c.place < base.length/\c.parts < 18446744073709551616:=by
 obtain⟨i,hi,hk⟩:=List.mem_flatMap.1 h;have:=List.mem_range.1 hi;unfold Mf at hk;cases ho:(Qi (base.getD i [])).op==13
 ·rw [ho]at hk;cases hk
 rw [ho]at hk;rw [List.mem_singleton.1 hk];exact⟨this,Qgm (fun x=>(Yr base (Ua x (base.getD i []))).toNat) (fun x=>by have:=Qzz hl (Ua x (base.getD i []));omega) _ _ (by decide)⟩
theorem Zyk {base:List (List Nd)} {g:List Nd} {i:Nat}(h:(Qi g).op=9):Ch base g i= [⟨(Qi g).i,i,Vv base (Un g)⟩]:=by
 unfold Ch Un;rw [h];rfl
theorem Qas {t:Tr}(ht:Xf t)(h:(Qi (Qs t)).op=9):check (Un (Qs t))=0:=by
 have ho:=ht.last;rw [h]at ho;cases t with
 |leaf n =>
  have h1:=ht.xp.1.1.1;rw [show n.op=9 from ho.symm]at h1;cases h1
 |one n a =>
  obtain⟨_,_,_,e1,_⟩:=Qkg ht.check ht.tree;unfold Un;rw [h];show check (Js _ _)=0;rw [e1];exact ht.of_one.check
 |two n a b =>
  have h1:=ht.xp.1.1.2.1;rw [show n.op=9 from ho.symm]at h1;cases h1
theorem Zj4 {base:List (List Nd)} {g:List Nd} {i:Nat}(h:(Qi g).op=13):Mf base g i= [⟨i,(Qi g).g,Vv base (Un g),Vv base (Dw g),Sq base g⟩]:=by
 unfold Mf Un Dw;rw [h];rfl
theorem Qm4 {t:Tr}(ht:Xf t)(h:(Qi (Qs t)).op=13):check (Un (Qs t))=0/\check (Dw (Qs t))=0:=by
 have ho:=ht.last;rw [h]at ho;cases t with
 |leaf n =>
  have h1:=ht.xp.1.1.1;rw [show n.op=13 from ho.symm]at h1;cases h1
 |one n a =>
  have h1:=ht.xp.1.1.2.1;rw [show n.op=13 from ho.symm]at h1;cases h1
 |two n a b =>
  obtain⟨_,_,e1,e2⟩:=Tt ht.check ht.tree;unfold Un Dw;rw [h];show check (Js _ _)=0/\check (Js _ _)=0;rw [e1,e2];exact⟨ht.of_two.1.check,ht.of_two.2.check⟩
theorem Qfi {k:Nat}(h:k < 64):2^k < 18446744073709551616:=Nat.pow_lt_pow_right (a:=2) (n:=64) (by decide) h
theorem Zkg {k:Nat}(h:k < 64):IntKind.u64.wrap ((2:Int)^k)=((2^k:Nat):Int):=by
 rw [IntKind.wrap_u64,show((2:Int)^k)=((2^k:Nat):Int) by simp];have:=Qfi h;generalize 2^k=a at *;omega
def pQ(base:List (List Nd))(s:List Nd)(q:Nat):Nat:=((List.range q).filter fun i=>Vg (Qi s).g i).foldl (fun p i=>p|||2^(Yr base (Ua i s)).toNat) 0
theorem Zym {base:List (List Nd)} {s:List Nd} {q:Nat}(h:Vg (Qi s).g q=true):pQ base s (q+1)=pQ base s q|||2^(Yr base (Ua q s)).toNat:=by
 unfold pQ;rw [List.range_succ,List.filter_append,List.filter_cons,h,List.foldl_append];rfl
theorem Zkk {base:List (List Nd)} {s:List Nd} {q:Nat}(h:Vg (Qi s).g q=false):pQ base s (q+1)=pQ base s q:=by
 unfold pQ;rw [List.range_succ,List.filter_append,List.filter_cons,h];simp
theorem Zkv {base:List (List Nd)}(hl:base.length<=12)(s:List Nd)(q:Nat):pQ base s q < 18446744073709551616 :=
 Qgm (fun x=>(Yr base (Ua x s)).toNat) (fun x=>by have:=Qzz hl (Ua x s);omega) _ _ (by decide)
theorem Zy6 {l:List (List Nd)} {t:Tr}(hB:Ls l t) {s:List Nd}(hs:s∈l)(ho:(Qi s).op=13) {i:Nat}(hi:i < 4)(hg:Vg (Qi s).g i=true):∃j:Nat,j < 12/\Yr l (Ua i s)=(j:Int):=by
 obtain⟨u,hu,rfl,_⟩:=hB.can s hs;have zI:=hu.last;rw [ho]at zI;obtain⟨n,a,b,rfl,_⟩:=Ie hu zI.symm;have hm:Tr.two n a b∈l.map Qh:=(Vx hB.can).2 ⟨hu,hs⟩;obtain⟨_,e2,_,_⟩:=Tt hu.check hu.tree;rw [e2]at hg;obtain⟨hx,rK⟩:=(Vx hB.can).1 ((hB.closed.com n a b hm).2.2.2.2.2 i hi hg);obtain⟨j,hj⟩:=List.getElem?_of_mem rK;refine⟨j,?_,?_⟩
 ·have:=(List.getElem?_eq_some_iff.1 hj).1;have:=hB.len;omega
 rw [hu.unf hi,hx.short];exact Gz hB.nodup hj
theorem Qfb {t:Tr}(ht:Xf t)(h:(Qi (Qs t)).op=13):∃gn:Nat,(Qi (Qs t)).g=(gn:Int)/\gn < 16:=by
 have h1:=Rh ht.check (Qi (Qs t)) (List.mem_of_getElem? (Lx (Ud ht.xp.1.1)));obtain⟨a,b⟩:=Qkj h1 (.inr h);exact⟨(Qi (Qs t)).g.toNat,by omega,by omega⟩
theorem Qpa(base:List (List Nd)):∀k,(Pw base k).length<=k
 |0=>Nat.le_refl _
 |k+1=>by
  rw [Qyr,List.length_append];have h1:=Qpa base k;have h2:(Mf base (base.getD k []) k).length<=1:=by
   unfold Mf;cases(Qi (base.getD k [])).op==13
   ·exact Nat.zero_le _
   exact Nat.le_refl _
  omega
theorem Zva {r:Cm×Value×Value}(h1:r.2.1.oneCell'=true)(h2:r.2.2.oneCell'=true):∀u∈cmV r,u.oneCell'=true:=by
 intro u hu;simp only [cmV,List.mem_cons,List.not_mem_nil,or_false]at hu;rcases hu with rfl|rfl|rfl|rfl|rfl
 ·rfl
 ·rfl
 ·exact h1
 ·exact h2
 rfl
theorem Zyo:(Tryz.prog.info? 138).map (fun i=>(i.zero,i.size,i.bytes))=some (some (.agg #[.int .i64 0,.int .i64 0,.slice none 0 0,.slice none 0 0,.int .u64 0]),5,72):=by kernel_rfl
theorem Xt.grown_c {w1 w w4:World} {b g:Nat} {lg:Int} {base:List (List Nd)} {root:List Bool} {ks:List Kn} {cs:List Cm} {alive:List Bool} {vk vc:Value} {c:Obj}(h:Xt w1 w b g lg base root ks cs alive vk vc)(hg:(w.alloc c).grownBy w4 vc.ownBlock):
 ∃vb vr,w4.heap[b]?=some (.cells #[.int .i64 lg,vb,vr,vk,vc,.slice (some ⟨g,0,none⟩) alive.length alive.length] 93 (0,0)):=by
 obtain⟨vb,vr,hb,_⟩:=h.cells;exact⟨vb,vr,((hg.block b (by have:=h.blt;simp;omega) (fun e=>h.dc.1 e.symm)).trans (((Qg.refl w).alloc c).block h.blt)).trans hb⟩
theorem Qdx {W3:World} {k:Nat} {grp:Int} {lx ly:List Bool} {a a':Act} {w':World} {B gx gy:Nat} {v81 v82 v83 v84 v85 v86 v87 v88 v89 v90:Value}
 (e:a'=((((((((((a.put (some 81) v81).put (some 82) v82).put (some 83) v83).put (some 84) v84).put (some 85) v85).put (some 86) v86).put (some 87) v87).put (some 88) v88).put (some 89) v89).put (some 90) v90).put (some 14) (.pointer (some ⟨B,0,none⟩)))(h:Wg W3 w' B gx gy k grp lx ly 0):X16 W3 k grp lx ly a a' w' :=
 ⟨B,gx,gy,h,v81,v82,v83,v84,v85,v86,v87,v88,v89,v90,e⟩
theorem Qci(base:List (List Nd)):∀k,(Cy base k).length<=k
 |0=>Nat.le_refl _
 |k+1=>by
  rw [Qyw,List.length_append];have h1:=Qci base k;have h2:(Ch base (base.getD k []) k).length<=1:=by
   unfold Ch;cases(Qi (base.getD k [])).op==9
   ·exact Nat.zero_le _
   exact Nat.le_refl _
  omega
theorem Zv9 {r:Kn×Value}(hr:r.2.oneCell'=true):∀u∈knV r,u.oneCell'=true:=by
 intro u hu;simp only [knV,List.mem_cons,List.not_mem_nil,or_false]at hu;rcases hu with rfl|rfl|rfl
 ·rfl
 ·rfl
 exact hr
theorem Zy0:(Tryz.prog.info? 136).map (fun i=>(i.zero,i.size,i.bytes))=some (some (.agg #[.int .i64 0,.int .i64 0,.slice none 0 0]),3,40):=by kernel_rfl
theorem Qsc {w:World} {b:Nat} {a0 a1 a2 a3 a4 a5:Value} {t:TypeId}(h:w.heap[b]?=some (.cells #[a0,a1,a2,a3,a4,a5] t (0,0))):
 w.cell? ⟨b,0,none⟩=some a0/\w.cell? ⟨b,1,none⟩=some a1/\w.cell? ⟨b,2,none⟩=some a2/\w.cell? ⟨b,3,none⟩=some a3/\w.cell? ⟨b,4,none⟩=some a4/\w.cell? ⟨b,5,none⟩=some a5/\b < w.heap.size :=
 ⟨by simp [World.cell?,h],by simp [World.cell?,h],by simp [World.cell?,h],by simp [World.cell?,h],by simp [World.cell?,h],by simp [World.cell?,h],Qn h⟩
theorem St {w w4:World} {c:Obj} {r:Option Nat} {p:Addr} {u:Value}(hg:(w.alloc c).grownBy w4 r)(hr:r≠some p.block)(hp:p.block < w.heap.size)(h:w.cell? p=some u):w4.cell? p=some u:=by
 have h1:w4.heap[p.block]?=w.heap[p.block]?:=(hg.block p.block (by simp;omega) (fun e=>hr e.symm)).trans (((Qg.refl w).alloc c).block hp);unfold World.cell? at h⊢;rw [h1];exact h
theorem Xt.grown_b {w1 w w4:World} {b g:Nat} {lg:Int} {base:List (List Nd)} {root:List Bool} {ks:List Kn} {cs:List Cm} {alive:List Bool} {vk vc:Value} {c:Obj}(h:Xt w1 w b g lg base root ks cs alive vk vc)(hg:(w.alloc c).grownBy w4 vk.ownBlock):
 ∃vb vr,w4.heap[b]?=some (.cells #[.int .i64 lg,vb,vr,vk,vc,.slice (some ⟨g,0,none⟩) alive.length alive.length] 93 (0,0)):=by
 obtain⟨vb,vr,hb,_⟩:=h.cells;exact⟨vb,vr,((hg.block b (by have:=h.blt;simp;omega) (fun e=>h.dk.1 e.symm)).trans (((Qg.refl w).alloc c).block h.blt)).trans hb⟩
theorem Qzc(lg:Int)(v:Value)(f:List Nd)(w:World)(h:Yq w v f):
 Calls Tryz.prog 59 #[.int .i64 lg,v] w (Zjp w lg f):=by
 have H:=Qq h;obtain⟨Af,cf,rfl,_⟩:=Qc h;obtain⟨iB,SS,jQ,jP,jO⟩:=info_parts Qry;obtain⟨iK,hiK,Y5,Y4,Y3⟩:=info_parts Zy0;obtain⟨iC,hiC,Y8,Y7,Y6⟩:=info_parts Zyo;clear h;by_cases wH:lg < 0
 ·have HE:=Qq (show Yj lg f=1 by unfold Yj;rw [decide_eq_true wH];rfl);go_enter Tryz.func59,Tryz.ntmps59;go_wp2_with fail;go_ret2;exact⟨Qz,.inl ⟨by rw [HE.out];decide,by rw [HE.out] <;> rfl⟩⟩
 by_cases hhi:6 < lg
 ·have HE:=Qq (show Yj lg f=1 by unfold Yj;rw [decide_eq_true hhi,Bool.or_true];rfl);go_enter Tryz.func59,Tryz.ntmps59;go_wp2_with fail;go_ret2;exact⟨Qz,.inl ⟨by rw [HE.out];decide,by rw [HE.out] <;> rfl⟩⟩
 have HE:=Qq (show Yj lg f=(Qp f).2 by unfold Yj;rw [decide_eq_false wH,decide_eq_false hhi];rfl);obtain⟨er,uK⟩:∃er,er=(Qp f).2:=⟨_,rfl⟩;have wK:=Qq uK;obtain⟨base,IV⟩:∃x,x=(Qp f).1:=⟨_,rfl⟩;have VU:=Qq IV;by_cases hz:er=0
 ·subst hz;have zE:=Qq (Qjq (lg:=lg) (f:=f) (by rw [HE.out,<-uK]));have uN:=Qq (show base.length<=12 by rw [VU.out];exact(Qfk zE.out).1);have sT:=Qb5 uN.out;have Q1:=uN.out;obtain⟨m,rH⟩:∃m,m=2^base.length:=⟨_,rfl⟩;have rW:=Qq rH;rw [<-rH]at sT;clear uK IV rH;go_enter Tryz.func59,Tryz.ntmps59;go_wp2_with fail;refine(Qdn _ f _ H.out).mono ?_;rintro e w1 ⟨u,rfl,zN,xM⟩;rw [<-wK.out];rw [<-VU.out]at xM;have zO:=Qq zN;have wW:=Qq xM;have VH:=Qq xM.fmls;obtain⟨Ab,cb,rfl,_⟩:=VH.out;clear zN xM;have RH:wrap64 ((2:Int)^base.length)=(m:Int):=by
   have e:((2:Int)^base.length)=(m:Int):=by rw [rW.out,Int.natCast_pow];rfl
   rw [e];unfold wrap64;omega
  have NK:=Qq RH;clear RH;go_wp2_with(refine wpList_make_full _ rfl _ _ 89 rfl w1.heap.size 4 iB (.bool false) 1 Tryz.underlying89 SS jQ jP .i64 .i64 _ _ m rfl rfl NK.out NK.out (by rw [jO];omega) (by unfold maxLen;omega) (by simp) ?_);intro W1 tS rL;have HT:=Qq (show Ks w1.heap.size W1 w1.heap.size (List.replicate m false) by
   have h1:=tS;rw [Oo]at h1;unfold Ks;simp only [List.length_replicate];exact h1)
  have yY:=Qq (show Qg w1 W1 from(Qg.refl w1).grown rL (fun k e=>by cases e));clear tS rL;have tP:=Qq (Xt.start (w1:=w1) (lg:=lg) (vk:=.slice Ab base.length cb) (base:=base) (alive:=List.replicate m false) (b:=W1.heap.size) (g:=w1.heap.size) (yY.out.alloc (.cells #[.int .i64 lg,.slice Ab base.length cb,.slice none 0 0,.slice none 0 0,.slice none 0 0,.slice (some ⟨w1.heap.size,0,none⟩) m m] 93)) ⟨yY.out.size,by have:=HT.out.lt.2;omega⟩ (by rw [List.length_replicate];exact heap_alloc_new _ _) VH.out (HT.out.ext (Qz.alloc _)));have yD:=Qq (Qfk zE.out).2;have lL:=Qq (Hj (f:=f) wK.out.symm)
  have bD:W1.heap.size < (W1.alloc (.cells #[.int .i64 lg,.slice Ab base.length cb,.slice none 0 0,.slice none 0 0,.slice none 0 0,.slice (some ⟨w1.heap.size,0,none⟩) m m] 93)).heap.size:=by simp
  go_upto_region 7 with(fail);obtain⟨W2,fS⟩:∃W2,W2=(W1.alloc (.cells #[.int .i64 lg,.slice Ab base.length cb,.slice none 0 0,.slice none 0 0,.slice none 0 0,.slice (some ⟨w1.heap.size,0,none⟩) m m] 93)):=⟨_,rfl⟩;rw [<-fS]at tP bD⊢;clear fS;go_wp2_with fail;refine(Qqd _ f _ (H.out.ext (zO.out.trans tP.out.ext)) lL.out.1 (Em lL.out.1 lL.out.2.1)).mono ?_;rintro e w3 ⟨ue,rfl,CK,zC⟩;have JP:=Qq CK;have aH:=Qq (tP.out.next zC);have zB:=Qq zC;obtain⟨Ae,ce,rfl,_⟩:=Qc CK;clear zC CK;go_wp2_with fail;refine(Sx _ lg base [] [] [] (List.replicate m false) _ (Ji f) _ aH.out.eng uN.out (by rw [List.length_replicate,rW.out]) JP.out yD.out).mono ?_
  rintro e w4 ⟨gt,rfl,yA,rT⟩;have UT:=Qq (aH.out.next yA);have UO:=Qq (aH.out.fresh rT);have E4:=Qq (show(Vv base (Ji f)).length=2^base.length by unfold Vv;rw [List.length_map,List.length_range]);rw [E4.out]at UO;have US:=Qq (UT.out.root_ UO.out);clear yA rT;obtain⟨_,_,Q2,_⟩:=UT.out.cells;obtain⟨⟨_,_,d2,_,_,_⟩,dfr,dlt⟩:=Vc Q2;have dfr2:=dfr 2;clear Q2 dfr;go_upto_region 8 with(fail);obtain⟨w5,qS⟩:∃w5,w5=w4.setCell ⟨W1.heap.size,2,none⟩ (.slice (some ⟨gt,0,none⟩) (2^base.length) (2^base.length)):=⟨_,rfl⟩;rw [<-qS]at US⊢;clear qS d2 dfr2 dlt;clear bD;obtain⟨b,hb⟩:∃b,b=W1.heap.size:=⟨_,rfl⟩
  obtain⟨g,hg⟩:∃g,g=w1.heap.size:=⟨_,rfl⟩;have GS:=Qq (show w1.heap.size<=b/\w1.heap.size<=g by rw [hb,hg];exact⟨yY.out.size,Nat.le_refl _⟩);rw [<-hb,<-hg]at US⊢;clear hb hg tP aH UT UO HT yY zB JP;go_wp2_with fail;go_loopw [48] (fun v wr=>∃k:Nat,v=.int .i64 (k:Int)/\k<=base.length/\∃vk vc,Hid (Xt w1 wr b g lg base (Vv base (Ji f)) (Cy base k) (Pw base k) (List.replicate m false) vk vc)) (fun v _=>base.length - (intOf v).toNat)
  case atStart=>exact⟨0,rfl,Nat.zero_le _,_,_,US⟩
  case round =>
   obtain⟨k,rfl,hk,vk,vc,HI⟩:=hrel;by_cases hlt2:k < base.length
   ·have yV:(k:Int) < (base.length:Int):=by omega
    obtain⟨gB,cB,nH,hcb1,CV⟩:=wW.out.slice (by omega);injection nH with e1 _ e3;subst e1;subst e3;obtain⟨s,RP⟩:∃s,s=base.getD k []:=⟨_,rfl⟩;have fJ:base[k]?=some s:=by rw [RP,Qk,Qv hlt2];rfl
    obtain⟨uk,yR,N8,MC⟩:=wW.out.get fJ;have dI:=(HI.out.ext.cell (p:=⟨gB,k,none⟩) MC).trans yR;have hglr:gB < wr.heap.size:=Qy MC HI.out.ext.size;have V1:=Qq (N8.ext HI.out.ext);have XJ:=Qq RP;have mZ:=Qq fJ;clear yR N8 RP fJ;have iT:=Qq (show ∃t,Xf t/\s=Qs t/\Jh t.top=true from(by rw [VU.out]at mZ;exact zE.out.b.can s (List.mem_of_getElem? mZ.out)));have sI:0 < s.length:=by
     obtain⟨t,ht,rfl,_⟩:=iT.out;exact Ud ht.xp.1.1
    go_wp2_with fail;refine(Ia _ s _ V1.out sI).mono ?_;rintro e w2 ⟨u1,u2,rfl,zS,mW,qW⟩;have OM:=Qq (HI.out.next zS);have zT:=Qq zS;have VL:=Qq mW;have VK:=Qq qW;obtain⟨nn,uD⟩:∃nn,nn=Qi s:=⟨_,rfl⟩;have tN:=Qq uD;rw [<-uD];unfold Nd.val;obtain⟨A1,c1,rfl,_⟩:=Qc mW;obtain⟨A2,c2,rfl,_⟩:=Qc qW;clear zS mW qW uD;by_cases cQ:nn.op=9
    ·have xU:=Qq cQ;have VQ:=Qq (show check (Un s)=0 by obtain⟨t,ht,hc,_⟩:=iT.out;rw [hc];exact Qas ht (by rw [<-hc,<-tN.out];exact cQ));have lM:=Qq (show Cy base (k+1)=Cy base k++ [⟨nn.i,k,Vv base (Un s)⟩] by rw [Qyw,<-XJ.out,Zyk (by rw [<-tN.out];exact cQ),<-tN.out]);have oR:=Qq (show Pw base (k+1)=Pw base k by rw [Qyr,<-XJ.out,Qo9 (by rw [<-tN.out,cQ];decide),List.append_nil]);go_upto_region 14 with(fail);obtain⟨W3,fR⟩:∃W,W=w2.alloc (.cells #[.int .i64 9,.int .i64 nn.i,.int .i64 nn.e,.int .i64 nn.g,.int .i64 nn.x,.int .i64 nn.y] 71):=⟨_,rfl⟩;have jU:Qg w2 W3:=by rw [fR];exact Qz.alloc _
     obtain⟨_,GX,_,_,_,_,uU⟩:=Qsc (w:=W3) (b:=w2.heap.size) (by rw [fR];exact heap_alloc_new _ _);have nC:=Qq (OM.out.next jU);have nV:=Qq jU;have FU:=Qq (show ∀q,vk.ownBlock=some q->q < w2.heap.size from fun q e=>by obtain⟨_,_,h1,_⟩:=OM.out.kn;exact(h1.lt q e).2);obtain⟨nM,_,_,_,xL⟩:=nC.out.reads;rw [<-fR];clear jU fR cQ;refine Ym 16 (fun w'=>w'.cell? (⟨b,3,none⟩)=some (vk)/\w'.cell? (⟨w2.heap.size,1,none⟩)=some (.int .i64 nn.i)) (by kernel_rfl) ⟨xd xL nM,xd uU GX⟩ (fun zZ=> ?_);refine Qo 0 zZ ?_;refine Qo 1 zZ ?_;refine Qo 2 zZ ?_;refine Qo 3 zZ ?_
     refine Qo 4 zZ ?_;refine Qo 5 zZ ?_;refine Qo 6 zZ ?_;refine Qo 7 zZ ?_;refine Qo 8 zZ ?_;refine Qo 9 zZ ?_;refine Qe (rs:= [10]) (by kernel_rfl) (by simp) ?_;refine Zj.cons rfl (fun K hK=> ?_) Zj.nil;go_simp;refine(Sx b lg base (Vv base (Ji f)) (Cy base k) (Pw base k) (List.replicate m false) _ (Un s) _ (nC.out.next (Qz.drew)).eng uN.out (by rw [List.length_replicate,rW.out]) ((VL.out.ext nV.out).ext (Qz.drew)) VQ.out).mono ?_;rintro e w6 ⟨gh,rfl,yI,rT⟩;have uP:Qg W3 w6:=(Qz.drew).trans yI;have aG:=Qq (nC.out.next uP);have T2:=Qq ((nC.out.next (Qz.drew)).fresh (w:=w6) rT)
     rw [Xs]at T2;obtain⟨rs,lA,zR,uX⟩:=aG.out.kn;have ZV:=Qq lA;have yO:=Qq zR;have VB:=Qq uX;have wP:rs.length<=12:=by
      have h1:=Qci base k;rw [<-lA,List.length_map]at h1;omega
     clear lA zR uX rT yI;go_wp2_with fail;refine hK.out _ _ ⟨xd xL nM,xd uU GX⟩ (fun zZ=> ?_);clear hK K;refine Qb ?_;refine Qo 11 zZ ?_;refine Qe (rs:= [12]) (by kernel_rfl) (by simp) ?_;refine Zj.cons rfl (fun K hK=> ?_) Zj.nil;go_simp;refine hK.out _ _ ⟨xd xL nM,xd uU GX⟩ (fun zZ=> ?_);clear hK K;refine Qb ?_;refine Qe (rs:= [13]) (by kernel_rfl) (by simp) ?_;refine Zj.cons rfl (fun K hK=> ?_) Zj.nil;refine Gk rfl (.tmp 67) (.tmp 75) 90 rfl w1.heap.size 136 iK (.agg #[.int .i64 0,.int .i64 0,.slice none 0 0]) 3 40 Tryz.underlying90 hiK Y5 Y4 Y3 rfl (by decide) vk rs.length (rs.flatMap knV) (by simp [Act.eval]) (Zg yO.out xv) ⟨w6.heap.size,0,none⟩ 1 1 (knV (⟨nn.i,k,Vv base (Un s)⟩,.slice (some ⟨gh,0,none⟩) (2^base.length) (2^base.length))) (by simp [Act.eval]) rfl (by exact Zt _ _ _ rfl) (Zv9 rfl) (by unfold maxLen;omega) (by omega) (Qx aG.out.ext.size (by simp)) ?_
     intro v7 w7 zW zX zF;obtain⟨A7,c7,qL⟩:=Qt zW;subst qL;have MW:=zF;have eU:=Qq (aG.out.grown_b zX);have wY:=Qq (St (p:=⟨w2.heap.size,1,none⟩) zX (fun e=>absurd (FU.out _ e) (Nat.lt_irrefl _)) (by have:=uP.size;omega:w2.heap.size < w6.heap.size) ((uP.cell (p:=⟨w2.heap.size,1,none⟩) uU).trans GX));obtain⟨_,_,ZF⟩:=eU.out;obtain⟨⟨_,_,_,z3,_,_⟩,zfr,zlt⟩:=Vc ZF;have zfr3:=zfr 3;have eG:=Qq zW;have kQ:=Qq zX;have kX:=Qq zF;clear zW zX zF MW ZF zfr;refine hK.out _ _ ⟨z3,wY.out⟩ (fun zZ=> ?_);clear hK K;refine Qb ?_
     refine Qe (rs:= [14]) (by kernel_rfl) (by simp) ?_;refine Zj.cons rfl (fun K hK=> ?_) Zj.nil;go_simp;refine hK.out _ _ ⟨z3,wY.out⟩ (fun zZ=> ?_);clear hK K;refine Qb ?_;refine Qo 15 zZ ?_;refine Yh (by kernel_rfl) rfl (fun K hK=> ?_);go_simp;refine hK.out _ _ ?_;clear hK K;refine Qb ?_;refine Yc (by kernel_rfl) ?_ _;go_wp2_with fail;go_roundw
     case rel=>exact⟨k+1,by go_num,by omega,.slice A7 (rs.length+1) c7,vc,Qq (by rw [lM.out,oR.out];exact aG.out.know ZV.out VB.out T2.out eG.out kQ.out kX.out)⟩
     case measure=>simp [intOf];omega
    by_cases ho13:nn.op=13
    ·have xU:=Qq ho13;have VQ:=Qq (show check (Un s)=0/\check (Dw s)=0 by obtain⟨t,ht,hc,_⟩:=iT.out;rw [hc];exact Qm4 ht (by rw [<-hc,<-tN.out];exact ho13));have lM:=Qq (show Cy base (k+1)=Cy base k by rw [Qyw,<-XJ.out,Qiv (by rw [<-tN.out];exact cQ),List.append_nil]);have oR:=Qq (show Pw base (k+1)=Pw base k++ [⟨k,nn.g,Vv base (Un s),Vv base (Dw s),Sq base s⟩] by rw [Qyr,<-XJ.out,Zj4 (by rw [<-tN.out];exact ho13),<-tN.out]);go_upto_region 16 with(fail);obtain⟨W3,fR⟩:∃W,W=w2.alloc (.cells #[.int .i64 13,.int .i64 nn.i,.int .i64 nn.e,.int .i64 nn.g,.int .i64 nn.x,.int .i64 nn.y] 71):=⟨_,rfl⟩
     have jU:Qg w2 W3:=by rw [fR];exact Qz.alloc _
     obtain⟨_,_,_,bT,_,_,uU⟩:=Qsc (w:=W3) (b:=w2.heap.size) (by rw [fR];exact heap_alloc_new _ _);have nC:=Qq (OM.out.next jU);have nV:=Qq jU;rw [<-fR];clear jU fR cQ ho13;refine Pr (X16 W3 k nn.g (Vv base (Un s)) (Vv base (Dw s))) ?_ ?_
     ·skip
      refine Ym 11 (fun w'=>w'.cell? (⟨w2.heap.size,3,none⟩)=some (.int .i64 nn.g)) (by kernel_rfl) (xd uU bT) (fun zZ=> ?_);refine Qo 0 zZ ?_;refine Qo 1 zZ ?_;refine Qo 2 zZ ?_;refine Qo 3 zZ ?_;refine Qo 4 zZ ?_;refine Qo 6 zZ ?_;refine Qo 7 zZ ?_;refine Qe (rs:= [5,10]) (by kernel_rfl) (by simp) ?_;refine Zj.cons rfl (fun K hK=> ?_) (Zj.cons rfl (fun K hK=> ?_) Zj.nil)
      ·skip
       go_simp;refine(Sx b lg base (Vv base (Ji f)) (Cy base k) (Pw base k) (List.replicate m false) _ (Un s) _ (nC.out.next xv).eng uN.out (by rw [List.length_replicate,rW.out]) ((VL.out.ext nV.out).ext xv) VQ.out.1).mono ?_;rintro e w6 ⟨gx,rfl,yI,rT⟩;have YC:Qg W3 w6:=Qg.trans xv yI;have lgx:=rT.lt
       (try simp at lgx)
       have Hgx:=Qq (rT.base_ (b':=W3.heap.size) (Qg.size (a:=W3) xv));have RE:=yI;clear rT yI;go_wp2_with fail;refine hK.out _ _ (xd uU bT) (fun zZ=> ?_);clear hK K;refine Qb ?_;refine Qe (rs:= [8,10]) (by kernel_rfl) (by simp) ?_;refine Zj.cons rfl (fun K hK=> ?_) (Zj.cons rfl (fun K hK=> ?_) Zj.nil)
       ·skip
        go_simp;refine(Sx b lg base (Vv base (Ji f)) (Cy base k) (Pw base k) (List.replicate m false) _ (Dw s) _ (nC.out.next xv).eng uN.out (by rw [List.length_replicate,rW.out]) ((VK.out.ext nV.out).ext xv) VQ.out.2).mono ?_;rintro e w7 ⟨gy,rfl,yI,rT⟩;have pM:Qg W3 w7:=Qg.trans xv yI;have lgy:=rT.lt
        (try simp at lgy)
        have Hgy:=Qq (rT.base_ (b':=W3.heap.size) (Qg.size (a:=W3) xv));have JW:=yI;have pN:Qg w6 w7:=Qg.trans xv yI;clear rT yI;go_wp2_with fail;refine hK.out _ _ (xd uU bT) (fun zZ=> ?_);clear hK K;refine Qb ?_;refine Qo 9 zZ ?_;refine Qe (rs:= [10]) (by kernel_rfl) (by simp) ?_;refine Zj.cons rfl (fun K hK=> ?_) Zj.nil;go_simp;refine hK.out _ _ (xd uU bT) (fun zZ=> ?_);clear hK K;refine Qb ?_;refine Yh (by kernel_rfl) rfl (fun K hK=> ?_)
        first
        |have rX:Hid (w7.heap[w6.heap.size]?=some (.cells #[.int .i64 0,.int .i64 0,.slice none 0 0,.slice none 0 0,.int .u64 0] 138 (0,0))):=Qq ((JW.block (k:=w6.heap.size) (by simp)).trans (heap_alloc_new w6 (.cells #[.int .i64 0,.int .i64 0,.slice none 0 0,.slice none 0 0,.int .u64 0] 138)))
         obtain⟨⟨e0,e1,e2,e3,e4⟩,ef,el⟩:=To rX.out;have ef0:=ef 0;have ef1:=ef 1;have ef2:=ef 2;have ef3:=ef 3;have ef4:=ef 4;clear ef
        |have rX:Hid (w7.heap[W3.heap.size]?=some (.cells #[.int .i64 0,.int .i64 0,.slice none 0 0,.slice none 0 0,.int .u64 0] 138 (0,0))):=Qq ((pN.block (k:=W3.heap.size) (Qy (by simp) RE.size)).trans ((RE.block (k:=W3.heap.size) (by simp)).trans (heap_alloc_new W3.drew (.cells #[.int .i64 0,.int .i64 0,.slice none 0 0,.slice none 0 0,.int .u64 0] 138))))
         obtain⟨⟨e0,e1,e2,e3,e4⟩,ef,el⟩:=To rX.out;have ef0:=ef 0;have ef1:=ef 1;have ef2:=ef 2;have ef3:=ef 3;have ef4:=ef 4;clear ef
        |skip
        go_simp;refine hK.out _ _ ?_;clear hK K;refine Qb ?_;refine Yc (by kernel_rfl) ?_ _;apply Qdx (gx:=gx) (gy:=gy)
        ·simp only [Act.put,List.setIfInBounds_toArray,List.set_cons_zero,List.set_cons_succ];exact rfl
        first
        |exact⟨pM.alloc _,pM.size,by rw [Xs,Xs];exact heap_alloc_new _ _,(Hgx.out.ext pN).ext (Qz.alloc _),Hgy.out.ext (Qz.alloc _),by omega,by omega⟩
        |(have h:=Wg.fill (place:=k) (grp:=nn.g) pM (by have:=YC.size;omega) rX.out (Hgx.out.ext pN) Hgy.out (by omega) (by omega)
          rw [Xs,Xs]at h;exact h)
       skip
       go_simp;refine hK.out _ _ (xd uU bT) (fun zZ=> ?_);clear hK K;refine Qb ?_;refine Qe (rs:= [8]) (by kernel_rfl) (by simp) ?_;refine Zj.cons rfl (fun K hK=> ?_) Zj.nil;go_simp;refine(Sx b lg base (Vv base (Ji f)) (Cy base k) (Pw base k) (List.replicate m false) _ (Dw s) _ (nC.out.next xv).eng uN.out (by rw [List.length_replicate,rW.out]) ((VK.out.ext nV.out).ext xv) VQ.out.2).mono ?_;rintro e w7 ⟨gy,rfl,yI,rT⟩;have pM:Qg W3 w7:=Qg.trans xv yI;have lgy:=rT.lt
       (try simp at lgy)
       have Hgy:=Qq (rT.base_ (b':=W3.heap.size) (Qg.size (a:=W3) xv));have JW:=yI;have pN:Qg w6 w7:=Qg.trans xv yI;clear rT yI;go_wp2_with fail;refine hK.out _ _ (xd uU bT) (fun zZ=> ?_);clear hK K;refine Qb ?_;refine Qo 9 zZ ?_;refine Yh (by kernel_rfl) rfl (fun K hK=> ?_)
       first
       |have rX:Hid (w7.heap[w6.heap.size]?=some (.cells #[.int .i64 0,.int .i64 0,.slice none 0 0,.slice none 0 0,.int .u64 0] 138 (0,0))):=Qq ((JW.block (k:=w6.heap.size) (by simp)).trans (heap_alloc_new w6 (.cells #[.int .i64 0,.int .i64 0,.slice none 0 0,.slice none 0 0,.int .u64 0] 138)))
        obtain⟨⟨e0,e1,e2,e3,e4⟩,ef,el⟩:=To rX.out;have ef0:=ef 0;have ef1:=ef 1;have ef2:=ef 2;have ef3:=ef 3;have ef4:=ef 4;clear ef
       |have rX:Hid (w7.heap[W3.heap.size]?=some (.cells #[.int .i64 0,.int .i64 0,.slice none 0 0,.slice none 0 0,.int .u64 0] 138 (0,0))):=Qq ((pN.block (k:=W3.heap.size) (Qy (by simp) RE.size)).trans ((RE.block (k:=W3.heap.size) (by simp)).trans (heap_alloc_new W3.drew (.cells #[.int .i64 0,.int .i64 0,.slice none 0 0,.slice none 0 0,.int .u64 0] 138))))
        obtain⟨⟨e0,e1,e2,e3,e4⟩,ef,el⟩:=To rX.out;have ef0:=ef 0;have ef1:=ef 1;have ef2:=ef 2;have ef3:=ef 3;have ef4:=ef 4;clear ef
       |skip
       go_simp;refine hK.out _ _ ?_;clear hK K;refine Qb ?_;refine Yc (by kernel_rfl) ?_ _;apply Qdx (gx:=gx) (gy:=gy)
       ·simp only [Act.put,List.setIfInBounds_toArray,List.set_cons_zero,List.set_cons_succ];exact rfl
       first
       |exact⟨pM.alloc _,pM.size,by rw [Xs,Xs];exact heap_alloc_new _ _,(Hgx.out.ext pN).ext (Qz.alloc _),Hgy.out.ext (Qz.alloc _),by omega,by omega⟩
       |(have h:=Wg.fill (place:=k) (grp:=nn.g) pM (by have:=YC.size;omega) rX.out (Hgx.out.ext pN) Hgy.out (by omega) (by omega)
         rw [Xs,Xs]at h;exact h)
      skip
      go_simp;refine hK.out _ _ (xd uU bT) (fun zZ=> ?_);clear hK K;refine Qb ?_;refine Qe (rs:= [5]) (by kernel_rfl) (by simp) ?_;refine Zj.cons rfl (fun K hK=> ?_) Zj.nil;go_simp;refine(Sx b lg base (Vv base (Ji f)) (Cy base k) (Pw base k) (List.replicate m false) _ (Un s) _ (nC.out.next xv).eng uN.out (by rw [List.length_replicate,rW.out]) ((VL.out.ext nV.out).ext xv) VQ.out.1).mono ?_;rintro e w6 ⟨gx,rfl,yI,rT⟩;have YC:Qg W3 w6:=Qg.trans xv yI;have lgx:=rT.lt
      (try simp at lgx)
      have Hgx:=Qq (rT.base_ (b':=W3.heap.size) (Qg.size (a:=W3) xv));have RE:=yI;clear rT yI;go_wp2_with fail;refine hK.out _ _ (xd uU bT) (fun zZ=> ?_);clear hK K;refine Qb ?_;refine Qe (rs:= [8]) (by kernel_rfl) (by simp) ?_;refine Zj.cons rfl (fun K hK=> ?_) Zj.nil;go_simp;refine(Sx b lg base (Vv base (Ji f)) (Cy base k) (Pw base k) (List.replicate m false) _ (Dw s) _ (nC.out.next xv).eng uN.out (by rw [List.length_replicate,rW.out]) ((VK.out.ext nV.out).ext xv) VQ.out.2).mono ?_;rintro e w7 ⟨gy,rfl,yI,rT⟩;have pM:Qg W3 w7:=Qg.trans xv yI;have lgy:=rT.lt
      (try simp at lgy)
      have Hgy:=Qq (rT.base_ (b':=W3.heap.size) (Qg.size (a:=W3) xv));have JW:=yI;have pN:Qg w6 w7:=Qg.trans xv yI;clear rT yI;go_wp2_with fail;refine hK.out _ _ (xd uU bT) (fun zZ=> ?_);clear hK K;refine Qb ?_;refine Qo 9 zZ ?_;refine Yh (by kernel_rfl) rfl (fun K hK=> ?_)
      first
      |have rX:Hid (w7.heap[w6.heap.size]?=some (.cells #[.int .i64 0,.int .i64 0,.slice none 0 0,.slice none 0 0,.int .u64 0] 138 (0,0))):=Qq ((JW.block (k:=w6.heap.size) (by simp)).trans (heap_alloc_new w6 (.cells #[.int .i64 0,.int .i64 0,.slice none 0 0,.slice none 0 0,.int .u64 0] 138)))
       obtain⟨⟨e0,e1,e2,e3,e4⟩,ef,el⟩:=To rX.out;have ef0:=ef 0;have ef1:=ef 1;have ef2:=ef 2;have ef3:=ef 3;have ef4:=ef 4;clear ef
      |have rX:Hid (w7.heap[W3.heap.size]?=some (.cells #[.int .i64 0,.int .i64 0,.slice none 0 0,.slice none 0 0,.int .u64 0] 138 (0,0))):=Qq ((pN.block (k:=W3.heap.size) (Qy (by simp) RE.size)).trans ((RE.block (k:=W3.heap.size) (by simp)).trans (heap_alloc_new W3.drew (.cells #[.int .i64 0,.int .i64 0,.slice none 0 0,.slice none 0 0,.int .u64 0] 138))))
       obtain⟨⟨e0,e1,e2,e3,e4⟩,ef,el⟩:=To rX.out;have ef0:=ef 0;have ef1:=ef 1;have ef2:=ef 2;have ef3:=ef 3;have ef4:=ef 4;clear ef
      |skip
      go_simp;refine hK.out _ _ ?_;clear hK K;refine Qb ?_;refine Yc (by kernel_rfl) ?_ _;apply Qdx (gx:=gx) (gy:=gy)
      ·simp only [Act.put,List.setIfInBounds_toArray,List.set_cons_zero,List.set_cons_succ];exact rfl
      first
      |exact⟨pM.alloc _,pM.size,by rw [Xs,Xs];exact heap_alloc_new _ _,(Hgx.out.ext pN).ext (Qz.alloc _),Hgy.out.ext (Qz.alloc _),by omega,by omega⟩
      |(have h:=Wg.fill (place:=k) (grp:=nn.g) pM (by have:=YC.size;omega) rX.out (Hgx.out.ext pN) Hgy.out (by omega) (by omega)
        rw [Xs,Xs]at h;exact h)
     rintro a' W4 ⟨B,gx,gy,xY,v81,v82,v83,v84,v85,v86,v87,v88,v89,v90,rfl⟩;have uY:=Qq xY;clear xY;simp only [Act.put,List.setIfInBounds_toArray,List.set_cons_zero,List.set_cons_succ];obtain⟨gn,vL,N5⟩:∃gn:Nat,nn.g=(gn:Int)/\gn < 16:=by obtain⟨t,ht,hc,_⟩:=iT.out;rw [tN.out,hc];exact Qfb ht (by rw [<-hc,<-tN.out];exact xU.out)
     have mJ:=Qq vL;have eQ:=Qq (V1.out.ext (zT.out.trans nV.out));have pD:=Qq (show s∈(Qp f).1 by rw [<-VU.out];exact List.mem_of_getElem? mZ.out);rw [vL]at bT uY;clear vL;obtain⟨wq,vC⟩:∃v,v=wr:=⟨_,rfl⟩;subst vC;go_wp2_with fail;go_loopw [91] (fun v wr=>∃q:Nat,v=.int .i64 (q:Int)/\q<=4/\Hid (Wg W3 wr B gx gy k (gn:Int) (Vv base (Un s)) (Vv base (Dw s)) (pQ base s q))) (fun v _=>4 - (intOf v).toNat)
     case atStart=>exact⟨0,rfl,by omega,uY⟩
     case round =>
      obtain⟨q,rfl,hq,HC⟩:=hrel;have dl3:=(HC.out.ext.cell (p:=⟨w2.heap.size,3,none⟩) uU).trans bT;have CN:w2.heap.size < wr.heap.size:=Qy uU HC.out.ext.size;by_cases PY:q < 4
      ·have PZ:(q:Int) < 4:=by omega
       have tC:=Co gn q (by omega);cases tV:gn.testBit q
       case true =>
        rw [tV]at tC;have kR:=Qq (show Vg (Qi s).g q=true by rw [<-tN.out,mJ.out];exact tV);have JF:=Qq (Zym (base:=base) kR.out);obtain⟨j,hj,sE⟩:=Zy6 zE.out.b pD.out (by rw [<-tN.out];exact xU.out) PY kR.out;rw [<-VU.out]at sE;have bJ:=Qq sE;have QA:=Zkv uN.out s q;obtain⟨pq,RW⟩:∃p,p=pQ base s q:=⟨_,rfl⟩;have HPE:=Qq RW;rw [<-RW]at HC JF QA;obtain⟨⟨_,_,_,_,z4⟩,zf,zl⟩:=To HC.out.cells;have zf4:=zf 4;have BX:=Zkg (k:=j) (by omega);have MX:min j 64=j:=by omega
        have bS:=Qq (show bits .or .u64 (pq:Int) ((2:Int)^j)=((pq|||2^j:Nat):Int) by rw [show((2:Int)^j)=((2^j:Nat):Int) by simp];exact bits_or_u64_nat pq (2^j) QA (Qfi (by omega)));clear tV zf sE RW;go_upto_region 21 with(fail);refine Ym 10 (fun w'=>w'.cell? (⟨B,4,none⟩)=some (.int .u64 (pq:Int))) (by kernel_rfl) (xd zl z4) (fun zZ=> ?_);refine Qo 0 zZ ?_;refine Qo 1 zZ ?_;refine Qo 2 zZ ?_;refine Qo 3 zZ ?_;refine Qo 4 zZ ?_;refine Qe (rs:= [5]) (by kernel_rfl) (by simp) ?_;refine Zj.cons rfl (fun K hK=> ?_) Zj.nil;go_simp;refine(Qj9 (q:Int) ⟨by omega,by omega⟩ _ s _ (eQ.out.ext (Qg.trans HC.out.ext xv)) sI).mono ?_
        rintro e w6 ⟨u6,rfl,IJ⟩;have bM:=Qq IJ;have uP:Qg wr w6:=Qg.trans xv IJ.ext;obtain⟨A6,c6,rfl,_⟩:=Qc IJ.fml;clear IJ;go_wp2_with fail;refine hK.out _ _ (xd zl z4) (fun zZ=> ?_);clear hK K;refine Qb ?_;refine Qe (rs:= [6]) (by kernel_rfl) (by simp) ?_;refine Zj.cons rfl (fun K hK=> ?_) Zj.nil;go_simp;refine(Qjd _ _ base (Qm5 (q:Int) s) _ (VH.out.ext (nC.out.ext.trans (HC.out.ext.trans uP))) bM.out.fml).mono ?_;rintro e w7 ⟨rfl,yI⟩;have jT:Qg wr w7:=uP.trans yI;rw [Qbk (by rw [<-tN.out];exact xU.out),bJ.out];have sL:=Qq jT;have y4:=(jT.cell (p:=⟨B,4,none⟩) zl).trans z4
        have yf:=(jT.frozen (p:=⟨B,4,none⟩) zl).trans zf4;have yl:B < w7.heap.size:=Qy zl jT.size;clear yI;go_wp2_with fail;refine hK.out _ _ (xd zl z4) (fun zZ=> ?_);clear hK K;refine Qb ?_;refine Qo 7 zZ ?_;refine Qo 8 zZ ?_;refine Qo 9 zZ ?_;refine Yh (by kernel_rfl) rfl (fun K hK=> ?_);go_simp;refine hK.out _ _ ?_;clear hK K;refine Qb ?_;refine Yc (by kernel_rfl) ?_ _;go_wp2_with fail;go_roundw
        case rel=>exact⟨q+1,by go_num,by omega,Qq (by rw [bS.out,JF.out,bJ.out,Int.toNat_natCast];exact(HC.out.next sL.out).set _)⟩
        case measure=>simp [intOf];omega
       case false =>
        rw [tV]at tC;have JF:=Qq (Zkk (base:=base) (show Vg (Qi s).g q=false by rw [<-tN.out,mJ.out];exact tV));clear tV;go_wp2_with fail;go_roundw
        case rel=>exact⟨q+1,by go_num,by omega,by rw [JF.out];exact HC⟩
        case measure=>simp [intOf];omega
      obtain rfl:q=4:=by omega
      have tP:=Qq (nC.out.next HC.out.ext);obtain⟨⟨z0,z1,z2,z3,z4⟩,_,zl⟩:=To HC.out.cells;rw [Xs]at z2 z3;have fH:∀q,vc.ownBlock=some q->q < w2.heap.size:=fun q e=>by obtain⟨_,_,h1,_⟩:=OM.out.cm;exact(h1.lt q e).2
      have dU:=Qq (show vc.ownBlock≠some B from fun e=>by have h1:=fH B e;have h2:=HC.out.lo;have h3:=nV.out.size;omega);clear fH;obtain⟨_,QG,_,_,xL⟩:=tP.out.reads;obtain⟨rs,lA,zR,xY⟩:=tP.out.cm;have ZV:=Qq lA;have yO:=Qq zR;have PB:=Qq xY;have wP:rs.length<=12:=by
       have h1:=Qpa base k;rw [<-lA,List.length_map]at h1;omega
      clear lA zR xY;go_upto_region 23 with(fail);refine Ym 10 (fun w'=>w'.cell? (⟨b,4,none⟩)=some (vc)/\w'.cell? (⟨B,0,none⟩)=some (.int .i64 (k:Int))/\w'.cell? (⟨B,1,none⟩)=some (.int .i64 (gn:Int))/\w'.cell? (⟨B,2,none⟩)=some (.slice (some ⟨gx,0,none⟩) (2^base.length) (2^base.length))/\w'.cell? (⟨B,3,none⟩)=some (.slice (some ⟨gy,0,none⟩) (2^base.length) (2^base.length))/\w'.cell? (⟨B,4,none⟩)=some (.int .u64 ((pQ base s 4:Nat):Int))) (by kernel_rfl) ⟨xd xL QG,xd zl z0,xd zl z1,xd zl z2,xd zl z3,xd zl z4⟩ (fun zZ=> ?_);refine Qo 0 zZ ?_;refine Qo 1 zZ ?_;refine Qo 2 zZ ?_
      refine Qo 3 zZ ?_;refine Qo 4 zZ ?_;refine Qo 5 zZ ?_;refine Qe (rs:= [6]) (by kernel_rfl) (by simp) ?_;refine Zj.cons rfl (fun K hK=> ?_) Zj.nil;go_simp;refine hK.out _ _ ⟨xd xL QG,xd zl z0,xd zl z1,xd zl z2,xd zl z3,xd zl z4⟩ (fun zZ=> ?_);clear hK K;refine Qb ?_;refine Qe (rs:= [7]) (by kernel_rfl) (by simp) ?_;refine Zj.cons rfl (fun K hK=> ?_) Zj.nil;refine Gk rfl (.tmp 115) (.tmp 117) 91 rfl w1.heap.size 138 iC (.agg #[.int .i64 0,.int .i64 0,.slice none 0 0,.slice none 0 0,.int .u64 0]) 5 72 Tryz.underlying91 hiC Y8 Y7 Y6 rfl (by decide) vc rs.length (rs.flatMap cmV) (by simp [Act.eval]) (Zg yO.out xv) ⟨wr.heap.size,0,none⟩ 1 1 (cmV (⟨k,(gn:Int),Vv base (Un s),Vv base (Dw s),pQ base s 4⟩,.slice (some ⟨gx,0,none⟩) (2^base.length) (2^base.length),.slice (some ⟨gy,0,none⟩) (2^base.length) (2^base.length))) (by simp [Act.eval]) rfl (by exact Zt _ _ _ rfl) (Zva rfl rfl) (by unfold maxLen;omega) (by omega) (Qx tP.out.ext.size (by simp)) ?_
      intro v7 w7 zW zX zF;obtain⟨A7,c7,qL⟩:=Qt zW;subst qL;obtain⟨_,_,ZF⟩:=Xt.grown_c (w:=wr.drew) (tP.out.next Qz.drew) zX;have X0:=St (w:=wr.drew) (p:=⟨B,0,none⟩) zX dU.out zl z0;have X1:=St (w:=wr.drew) (p:=⟨B,1,none⟩) zX dU.out zl z1;have X2:=St (w:=wr.drew) (p:=⟨B,2,none⟩) zX dU.out zl z2;have X3:=St (w:=wr.drew) (p:=⟨B,3,none⟩) zX dU.out zl z3;have X4:=St (w:=wr.drew) (p:=⟨B,4,none⟩) zX dU.out zl z4;obtain⟨⟨_,_,_,_,y4,_⟩,zfr,zlt⟩:=Vc ZF;have zfr4:=zfr 4;have eG:=Qq zW;have kQ:=Qq zX
      have kX:=Qq zF;clear zW zX zF ZF zfr;refine hK.out _ _ ⟨y4,X0,X1,X2,X3,X4⟩ (fun zZ=> ?_);clear hK K;refine Qb ?_;refine Qe (rs:= [8]) (by kernel_rfl) (by simp) ?_;refine Zj.cons rfl (fun K hK=> ?_) Zj.nil;go_simp;refine hK.out _ _ ⟨y4,X0,X1,X2,X3,X4⟩ (fun zZ=> ?_);clear hK K;refine Qb ?_;refine Qo 9 zZ ?_;refine Yh (by kernel_rfl) rfl (fun K hK=> ?_);go_simp;refine hK.out _ _ ?_;clear hK K;refine Qb ?_;refine Yc (by kernel_rfl) ?_ _;go_wp2_with fail;go_roundw
      case rel=>exact⟨k+1,by go_num,by omega,vk,.slice A7 (rs.length+1) c7,Qq (by
       rw [lM.out,oR.out,mJ.out];have hx:=nC.out.fresh (w:=wr.drew) HC.out.rx;have hy:=nC.out.fresh (w:=wr.drew) HC.out.ry;rw [Xs]at hx hy;exact Xt.comm (w:=wr.drew) (tP.out.next Qz.drew) ZV.out PB.out hx hy eG.out kQ.out kX.out)⟩
      case measure=>simp [intOf];omega
    have lM:=Qq (show Cy base (k+1)=Cy base k by rw [Qyw,<-XJ.out,Qiv (by rw [<-tN.out];exact cQ),List.append_nil]);have oR:=Qq (show Pw base (k+1)=Pw base k by rw [Qyr,<-XJ.out,Qo9 (by rw [<-tN.out];exact ho13),List.append_nil]);go_wp2_with fail;go_roundw
    case rel=>exact⟨k+1,by go_num,by omega,vk,vc,Qq (by rw [lM.out,oR.out];exact OM.out.next (Qz.alloc _))⟩
    case measure=>simp [intOf];omega
   obtain rfl:base.length=k:=by omega
   have GL:=Qq (show Bd wr b g lg base (Vv base (Ji f)) (Zs base) (Jm base) ((List.range 0).map (Vk lg (Zs base) (Jm base))++List.replicate (m - 0) false)from HI.out.engX);have oO:=Qq HI.out.ext;obtain⟨_,_,_,_,_,_,_,x5,xl⟩:=HI.out.engX.cells;rw [List.length_replicate]at x5;go_wp2_with fail;clear x5 xl;have sW:=Qq (show ∀k∈Zs base,k.place < 64/\k.holds.length=m from fun k hk=>by have:=Qs6 hk;rw [rW.out];have:=uN.out;omega);have kT:=Qq (show ∀c∈Jm base,c.place < 64/\c.parts < 18446744073709551616 from fun c hc=>by have:=Qi3 uN.out hc;have:=uN.out;omega)
   go_loopw [127] (fun v wr2=>∃t:Nat,v=.int .i64 (t:Int)/\t<=m/\Hid (Qg w1 wr2/\Bd wr2 b g lg base (Vv base (Ji f)) (Zs base) (Jm base) ((List.range t).map (Vk lg (Zs base) (Jm base))++List.replicate (m - t) false))) (fun v _=>m - (intOf v).toNat)
   case atStart=>exact⟨0,rfl,Nat.zero_le _,Qq ⟨oO.out,GL.out⟩⟩
   case round =>
    obtain⟨t,rfl,ht,HR⟩:=hrel;have oZ:=Qq HR.out.1;have qY:=Qq HR.out.2;clear HR;have rY:=Qq (show((List.range t).map (Vk lg (Zs base) (Jm base))++List.replicate (m - t) false).length=m by rw [List.length_append,List.length_map,List.length_range,List.length_replicate];omega);by_cases yW:t < m
    ·have nM:(t:Int) < (m:Int):=by omega
     obtain⟨_,_,_,_,_,_,_,x5,xl⟩:=qY.out.cells;rw [rY.out]at x5;go_upto_region 28 with(fail);refine Ym 10 (fun w'=>w'.cell? (⟨b,5,none⟩)=some (.slice (some ⟨g,0,none⟩) m m)) (by kernel_rfl) (xd xl x5) (fun zZ=> ?_);refine Qo 0 zZ ?_;refine Qo 1 zZ ?_;refine Qo 2 zZ ?_;refine Qo 3 zZ ?_;refine Qo 4 zZ ?_;refine Qo 5 zZ ?_;refine Qo 6 zZ ?_;refine Qo 7 zZ ?_;refine Qe (rs:= [8]) (by kernel_rfl) (by simp) ?_;refine Zj.cons rfl (fun K hK=> ?_) Zj.nil;go_simp;have hwt:IntKind.u64.wrap (t:Int)=(t:Int):=by rw [IntKind.wrap_u64];omega
     rw [hwt];refine(Qdc b lg base (Vv base (Ji f)) (Zs base) (Jm base) _ t _ (qY.out.ext (Qz.drew)).eng (by omega) (fun k hk=>by have:=sW.out k hk;omega) (fun c hc=>by have:=kT.out c hc;omega)).mono ?_;rintro e w3 ⟨rfl,yI⟩;have hx:Qg wr w3:=(Qz.drew).trans yI;have zB:=Qq hx;have gfr:=(qY.out.ext hx).row.frozen t;have gc:w3.cell? ⟨g,t,none⟩=some (.bool false):=(qY.out.ext hx).row.cell (by rw [List.getElem?_append_right (by simp),List.length_map,List.length_range,Nat.sub_self,List.getElem?_replicate,if_pos (by omega)]);have gl:g < w3.heap.size:=(qY.out.ext hx).row.lt.2
     go_wp2_with fail;refine hK.out _ _ (xd xl x5) (fun zZ=> ?_);clear hK K;refine Qb ?_;refine Qo 9 zZ ?_;refine Yh (by kernel_rfl) rfl (fun K hK=> ?_);go_simp;refine hK.out _ _ ?_;clear hK K;refine Qb ?_;refine Yc (by kernel_rfl) ?_ _;go_wp2_with fail;go_roundw
     case rel=>exact⟨t+1,by go_num,by omega,Qq ⟨(oZ.out.trans zB.out).setCell (p:=⟨g,t,none⟩) GS.out.2 _,by
      have h1:=(qY.out.ext zB.out).set t (Vk lg (Zs base) (Jm base) t);rw [show m - t=(m - (t+1))+1 by omega,Qgw (by simp),<-Il]at h1;exact h1⟩⟩
     case measure=>simp [intOf];omega
    obtain rfl:m=t:=by omega
    go_wp2_with fail;go_ret2;refine⟨zO.out.trans oZ.out,.inr ⟨by rw [HE.out,<-wK.out],b,g,rfl,?_,?_,?_⟩⟩
    ·exact Qx zO.out.size GS.out.1
    ·exact Qx zO.out.size GS.out.2
    have h1:=qY.out;rw [Nat.sub_self,List.replicate_zero,List.append_nil]at h1;have e:(List.range m).map (Vk lg (Zs base) (Jm base))=Kh lg base:=by unfold Kh;rw [rW.out]
    rw [e]at h1;unfold Na;rw [<-VU.out];exact h1
 clear IV;have HZ:=Qq hz;go_enter Tryz.func59,Tryz.ntmps59;go_wp2_with fail;refine(Qdn _ f _ H.out).mono ?_;rintro e w1 ⟨u,rfl,zN,xM⟩;rw [<-uK];have zO:=Qq zN;have qY:=Qq uK;clear zN xM uK;go_wp2_with fail;go_ret2;exact⟨zO.out,.inl ⟨by rw [HE.out,<-qY.out];exact HZ.out,by rw [HE.out,<-qY.out] <;> rfl⟩⟩
end Go.Proofs.YtkmclcmnoicagaaGreatDoor
