/- types' newEngine: the walk. -/
import Derived.Test.YtkmclcmnoicagaaGreatDoorL25
namespace Go.Proofs.YtkmclcmnoicagaaGreatDoor
set_option maxRecDepth 100000
set_option maxHeartbeats 128000000
open Go.RowKit
def Qe0(X:Act->World->Prop):Exit->Act->World->Prop
 |.normal,a,w=>X a w
 |_,_,_=>False
theorem Od {P:Program} {id:Nat} {ops:Array Oper} {md:Bool} {Q:Exit->Act->World->Prop} {a:Act} {w:World}(X:Act->Act->World->Prop)(h1:(Code.region id ops md).wp P (Qe0 (X a)) a w)(h2:∀a' w',X a a' w'->Q .normal a' w'):(Code.region id ops md).wp P Q a w :=
 wp_mono h1 fun e a w q=>by
  cases e <;> first|exact h2 _ _ q|exact q.elim
theorem Xh {bs:Nat} {wr:World} {g' B j:Nat} {u:Value} {l:List Bool}(hr:Kf bs wr g' l)(zQ:g'≠B):Kf bs (wr.setCell ⟨B,j,none⟩ u) g' l:=Zm hr fun k hk=>by
 have e:k=g':=by injection hk with hk;exact hk.symm
 rw [e];exact Below.heap_setCell _ _ _ _ zQ
structure Eh (w2 wr:World) (B gx gy:Nat) (place:Nat) (grp:Int) (lx ly:List Bool) (p:Nat):Prop where
 ext:Qg w2 wr
 lo:w2.heap.size<=B
 cells:wr.heap[B]?=some (.cells #[.int .i64 (place:Int),.int .i64 grp,.slice (some ⟨gx,0,none⟩) lx.length lx.length,.slice (some ⟨gy,0,none⟩) ly.length ly.length,.int .u64 (p:Int)] 138 (0,0))
 rx:Kf w2.heap.size wr gx lx
 ry:Kf w2.heap.size wr gy ly
 nx:gx≠B
 ny:gy≠B
section
variable {w2 wr W:World} {B gx gy place p:Nat} {grp:Int} {lx ly:List Bool}
theorem Eh.next(h:Eh w2 wr B gx gy place grp lx ly p)(he:Qg wr W):Eh w2 W B gx gy place grp lx ly p :=
 ⟨h.ext.trans he,h.lo,(he.block (Qn h.cells)).trans h.cells,h.rx.ext he,h.ry.ext he,h.nx,h.ny⟩
theorem Eh.set(h:Eh w2 wr B gx gy place grp lx ly p)(q:Nat):Eh w2 (wr.setCell ⟨B,4,none⟩ (.int .u64 (q:Int))) B gx gy place grp lx ly q:=by
 refine⟨h.ext.setCell (p:=⟨B,4,none⟩) h.lo _,h.lo,?_,Xh h.rx h.nx,Xh h.ry h.ny,h.nx,h.ny⟩;simp only [World.setCell,Array.getElem?_modify,h.cells,if_true,Option.map_some];simp
end
theorem Eh.fill {w2 wr:World} {B gx gy place:Nat} {grp:Int} {lx ly:List Bool} {a0 a1 a2 a3 a4:Value}(he:Qg w2 wr)(wB:w2.heap.size<=B)(hb:wr.heap[B]?=some (.cells #[a0,a1,a2,a3,a4] 138 (0,0)))(hx:Kf w2.heap.size wr gx lx)(hy:Kf w2.heap.size wr gy ly)(nx:gx≠B)(ny:gy≠B):
 Eh w2 (((((wr.setCell ⟨B,0,none⟩ (.int .i64 (place:Int))).setCell ⟨B,1,none⟩ (.int .i64 grp)).setCell ⟨B,2,none⟩ (.slice (some ⟨gx,0,none⟩) lx.length lx.length)).setCell ⟨B,3,none⟩ (.slice (some ⟨gy,0,none⟩) ly.length ly.length)).setCell ⟨B,4,none⟩ (.int .u64 0)) B gx gy place grp lx ly 0:=by
 refine⟨((((he.setCell (p:=⟨B,0,none⟩) wB _).setCell (p:=⟨B,1,none⟩) wB _).setCell (p:=⟨B,2,none⟩) wB _).setCell (p:=⟨B,3,none⟩) wB _).setCell (p:=⟨B,4,none⟩) wB _,wB,?_,Xh (Xh (Xh (Xh (Xh hx nx) nx) nx) nx) nx,Xh (Xh (Xh (Xh (Xh hy ny) ny) ny) ny) ny,nx,ny⟩;simp only [World.setCell,Array.getElem?_modify,hb,if_true,Option.map_some];simp
theorem To {w:World} {b:Nat} {a0 a1 a2 a3 a4:Value} {t:TypeId}(h:w.heap[b]?=some (.cells #[a0,a1,a2,a3,a4] t (0,0))):
 (w.cell? ⟨b,0,none⟩=some a0/\w.cell? ⟨b,1,none⟩=some a1/\w.cell? ⟨b,2,none⟩=some a2/\w.cell? ⟨b,3,none⟩=some a3/\w.cell? ⟨b,4,none⟩=some a4)/\(∀j,w.frozen? ⟨b,j,none⟩=false)/\b < w.heap.size:=by
 refine⟨⟨by simp [World.cell?,h],by simp [World.cell?,h],by simp [World.cell?,h],by simp [World.cell?,h],by simp [World.cell?,h]⟩,fun j=> ?_,Qn h⟩;simp [World.frozen?,h]
def X16(W3:World)(k:Nat)(grp:Int)(lx ly:List Bool)(a a':Act)(w':World):Prop :=
 ∃B gx gy,Eh W3 w' B gx gy k grp lx ly 0/\∃v81 v82 v83 v84 v85 v86 v87 v88 v89 v90,a'=((((((((((a.put (some 81) v81).put (some 82) v82).put (some 83) v83).put (some 84) v84).put (some 85) v85).put (some 86) v86).put (some 87) v87).put (some 88) v88).put (some 89) v89).put (some 90) v90).put (some 14) (.pointer (some ⟨B,0,none⟩))
def Zzo(w:World)(lg:Int)(f:List Nd)(e:Ending)(w':World):Prop :=
 Qg w w'/\((Ji lg f≠0/\e=.returned (.tuple #[.pointer none,.int .i64 (Ji lg f)]))\/(Ji lg f=0/\∃b g,e=.returned (.tuple #[.pointer (some ⟨b,0,none⟩),.int .i64 0])/\w.heap.size<=b/\w.heap.size<=g/\Bk w' b g lg (Qm f).1 (Ry f) (Zr (Qm f).1) (Jt (Qm f).1) (Kp lg (Qm f).1)))
theorem Qg0 {lg:Int} {f:List Nd}(h:Bl lg f):(Qm f).1.length<=12/\check (Ja f)=0:=⟨h.b.len,by rw [h.e];exact h.x.check⟩
def Pw(base:List (List Nd))(k:Nat):List Kn:=(List.range k).flatMap fun i=>Cb base (base.getD i []) i
def Pm(base:List (List Nd))(k:Nat):List Cm:=(List.range k).flatMap fun i=>Mv base (base.getD i []) i
theorem Qyf(base:List (List Nd))(k:Nat):Pw base (k+1)=Pw base k++Cb base (base.getD k []) k:=by
 unfold Pw;rw [List.range_succ,List.flatMap_append,List.flatMap_singleton]
theorem Qj7(base:List (List Nd))(k:Nat):Pm base (k+1)=Pm base k++Mv base (base.getD k []) k:=by
 unfold Pm;rw [List.range_succ,List.flatMap_append,List.flatMap_singleton]
theorem Qod {base:List (List Nd)} {g:List Nd} {i:Nat}(h:(Qw g).op≠9):Cb base g i= []:=by
 unfold Cb;rw [beq_eq_false_iff_ne.2 h];rfl
theorem Qok {base:List (List Nd)} {g:List Nd} {i:Nat}(h:(Qw g).op≠13):Mv base g i= []:=by
 unfold Mv;rw [beq_eq_false_iff_ne.2 h];rfl
theorem Qst {base:List (List Nd)} {k:Kn}(h:k∈Zr base):k.place < base.length/\k.holds.length=2^base.length:=by
 obtain⟨i,hi,hk⟩:=List.mem_flatMap.1 h;have:=List.mem_range.1 hi;unfold Cb at hk;cases ho:(Qw (base.getD i [])).op==9
 ·rw [ho]at hk;cases hk
 rw [ho]at hk;rw [List.mem_singleton.1 hk];exact⟨this,by unfold Ya;rw [List.length_map,List.length_range]⟩
theorem Qgz(e:Nat->Nat)(he:∀x,e x < 64):∀(L:List Nat) (p:Nat),p < 18446744073709551616->L.foldl (fun p i=>p|||2^e i) p < 18446744073709551616
 |[],_,h=>h
 |x :: r,p,h=>Qgz e he r _ (by
  have h1:p < 2^64:=h;have h2:2^e x < 2^64:=Nat.pow_lt_pow_right (by decide) (he x);exact Nat.or_lt_two_pow h1 h2)
theorem Qo9 {base:List (List Nd)}(hl:base.length<=12) {c:Cm}(h:c∈Jt base):c.place < base.length/\c.parts < 18446744073709551616:=by
 obtain⟨i,hi,hk⟩:=List.mem_flatMap.1 h;have:=List.mem_range.1 hi;unfold Mv at hk;cases ho:(Qw (base.getD i [])).op==13
 ·rw [ho]at hk;cases hk
 rw [ho]at hk;rw [List.mem_singleton.1 hk];exact⟨this,Qgz (fun x=>(Yx base (Ul x (base.getD i []))).toNat) (fun x=>by have:=Qq0 hl (Ul x (base.getD i []));omega) _ _ (by decide)⟩
theorem Zjd {base:List (List Nd)} {g:List Nd} {i:Nat}(h:(Qw g).op=9):Cb base g i= [⟨(Qw g).i,i,Ya base (Uv g)⟩]:=by
 unfold Cb Uv;rw [h];rfl
theorem Qh2 {t:Tr}(ht:Xf t)(h:(Qw (Qr t)).op=9):check (Uv (Qr t))=0:=by
 have ho:=ht.last;rw [h]at ho;cases t with
 |leaf n =>
  have h1:=ht.xp.1.1.1;rw [show n.op=9 from ho.symm]at h1;cases h1
 |one n a =>
  obtain⟨_,_,_,e1,_⟩:=Qv2 ht.check ht.tree;unfold Uv;rw [h];show check (Jn _ _)=0;rw [e1];exact ht.of_one.check
 |two n a b =>
  have h1:=ht.xp.1.1.2.1;rw [show n.op=9 from ho.symm]at h1;cases h1
theorem Zz9 {base:List (List Nd)} {g:List Nd} {i:Nat}(h:(Qw g).op=13):Mv base g i= [⟨i,(Qw g).g,Ya base (Uv g),Ya base (Dw g),Sj base g⟩]:=by
 unfold Mv Uv Dw;rw [h];rfl
theorem Qmt {t:Tr}(ht:Xf t)(h:(Qw (Qr t)).op=13):check (Uv (Qr t))=0/\check (Dw (Qr t))=0:=by
 have ho:=ht.last;rw [h]at ho;cases t with
 |leaf n =>
  have h1:=ht.xp.1.1.1;rw [show n.op=13 from ho.symm]at h1;cases h1
 |one n a =>
  have h1:=ht.xp.1.1.2.1;rw [show n.op=13 from ho.symm]at h1;cases h1
 |two n a b =>
  obtain⟨_,_,e1,e2⟩:=Tt ht.check ht.tree;unfold Uv Dw;rw [h];show check (Jn _ _)=0/\check (Jn _ _)=0;rw [e1,e2];exact⟨ht.of_two.1.check,ht.of_two.2.check⟩
theorem Qfd {k:Nat}(h:k < 64):2^k < 18446744073709551616:=Nat.pow_lt_pow_right (a:=2) (n:=64) (by decide) h
theorem Zvd {k:Nat}(h:k < 64):IntKind.u64.wrap ((2:Int)^k)=((2^k:Nat):Int):=by
 rw [IntKind.wrap_u64,show((2:Int)^k)=((2^k:Nat):Int) by simp];have:=Qfd h;generalize 2^k=a at *;omega
def pQ(base:List (List Nd))(s:List Nd)(q:Nat):Nat:=((List.range q).filter fun i=>Vz (Qw s).g i).foldl (fun p i=>p|||2^(Yx base (Ul i s)).toNat) 0
theorem Zja {base:List (List Nd)} {s:List Nd} {q:Nat}(h:Vz (Qw s).g q=true):pQ base s (q+1)=pQ base s q|||2^(Yx base (Ul q s)).toNat:=by
 unfold pQ;rw [List.range_succ,List.filter_append,List.filter_cons,h,List.foldl_append];rfl
theorem Zvf {base:List (List Nd)} {s:List Nd} {q:Nat}(h:Vz (Qw s).g q=false):pQ base s (q+1)=pQ base s q:=by
 unfold pQ;rw [List.range_succ,List.filter_append,List.filter_cons,h];simp
theorem Zvg {base:List (List Nd)}(hl:base.length<=12)(s:List Nd)(q:Nat):pQ base s q < 18446744073709551616 :=
 Qgz (fun x=>(Yx base (Ul x s)).toNat) (fun x=>by have:=Qq0 hl (Ul x s);omega) _ _ (by decide)
theorem Zj9 {l:List (List Nd)} {t:Tr}(hB:Lr l t) {s:List Nd}(hs:s∈l)(ho:(Qw s).op=13) {i:Nat}(hi:i < 4)(hg:Vz (Qw s).g i=true):∃j:Nat,j < 12/\Yx l (Ul i s)=(j:Int):=by
 obtain⟨u,hu,rfl,_⟩:=hB.can s hs;have zK:=hu.last;rw [ho]at zK;obtain⟨n,a,b,rfl,_⟩:=If hu zK.symm;have hm:Tr.two n a b∈l.map Qh:=(Yw hB.can).2 ⟨hu,hs⟩;obtain⟨_,e2,_,_⟩:=Tt hu.check hu.tree;rw [e2]at hg;obtain⟨hx,sB⟩:=(Yw hB.can).1 ((hB.closed.com n a b hm).2.2.2.2.2 i hi hg);obtain⟨j,hj⟩:=List.getElem?_of_mem sB;refine⟨j,?_,?_⟩
 ·have:=(List.getElem?_eq_some_iff.1 hj).1;have:=hB.len;omega
 rw [hu.unf hi,hx.short];exact Xi hB.nodup hj
theorem Qg4 {t:Tr}(ht:Xf t)(h:(Qw (Qr t)).op=13):∃gn:Nat,(Qw (Qr t)).g=(gn:Int)/\gn < 16:=by
 have h1:=Rw ht.check (Qw (Qr t)) (List.mem_of_getElem? (Lx (Uj ht.xp.1.1)));obtain⟨a,b⟩:=Qvw h1 (.inr h);exact⟨(Qw (Qr t)).g.toNat,by omega,by omega⟩
theorem Qpy(base:List (List Nd)):∀k,(Pm base k).length<=k
 |0=>Nat.le_refl _
 |k+1=>by
  rw [Qj7,List.length_append];have h1:=Qpy base k;have h2:(Mv base (base.getD k []) k).length<=1:=by
   unfold Mv;cases(Qw (base.getD k [])).op==13
   ·exact Nat.zero_le _
   exact Nat.le_refl _
  omega
theorem Zyo {r:Cm×Value×Value}(h1:r.2.1.oneCell'=true)(h2:r.2.2.oneCell'=true):∀u∈cmV r,u.oneCell'=true:=by
 intro u hu;simp only [cmV,List.mem_cons,List.not_mem_nil,or_false]at hu;rcases hu with rfl|rfl|rfl|rfl|rfl
 ·rfl
 ·rfl
 ·exact h1
 ·exact h2
 rfl
theorem Zj1:(Tryz.prog.info? 138).map (fun i=>(i.zero,i.size,i.bytes))=some (some (.agg #[.int .i64 0,.int .i64 0,.slice none 0 0,.slice none 0 0,.int .u64 0]),5,72):=by kernel_rfl
theorem Xs.grown_c {w1 w w4:World} {b g:Nat} {lg:Int} {base:List (List Nd)} {root:List Bool} {ks:List Kn} {cs:List Cm} {alive:List Bool} {vk vc:Value} {c:Obj}(h:Xs w1 w b g lg base root ks cs alive vk vc)(hg:(w.alloc c).grownBy w4 vc.ownBlock):
 ∃vb vr,w4.heap[b]?=some (.cells #[.int .i64 lg,vb,vr,vk,vc,.slice (some ⟨g,0,none⟩) alive.length alive.length] 93 (0,0)):=by
 obtain⟨vb,vr,hb,_⟩:=h.cells;exact⟨vb,vr,((hg.block b (by have:=h.blt;simp;omega) (fun e=>h.dc.1 e.symm)).trans (((Qg.refl w).alloc c).block h.blt)).trans hb⟩
theorem Qbo {W3:World} {k:Nat} {grp:Int} {lx ly:List Bool} {a a':Act} {w':World} {B gx gy:Nat} {v81 v82 v83 v84 v85 v86 v87 v88 v89 v90:Value}
 (e:a'=((((((((((a.put (some 81) v81).put (some 82) v82).put (some 83) v83).put (some 84) v84).put (some 85) v85).put (some 86) v86).put (some 87) v87).put (some 88) v88).put (some 89) v89).put (some 90) v90).put (some 14) (.pointer (some ⟨B,0,none⟩)))(h:Eh W3 w' B gx gy k grp lx ly 0):X16 W3 k grp lx ly a a' w' :=
 ⟨B,gx,gy,h,v81,v82,v83,v84,v85,v86,v87,v88,v89,v90,e⟩
theorem Qcv(base:List (List Nd)):∀k,(Pw base k).length<=k
 |0=>Nat.le_refl _
 |k+1=>by
  rw [Qyf,List.length_append];have h1:=Qcv base k;have h2:(Cb base (base.getD k []) k).length<=1:=by
   unfold Cb;cases(Qw (base.getD k [])).op==9
   ·exact Nat.zero_le _
   exact Nat.le_refl _
  omega
theorem Zvj {r:Kn×Value}(hr:r.2.oneCell'=true):∀u∈knV r,u.oneCell'=true:=by
 intro u hu;simp only [knV,List.mem_cons,List.not_mem_nil,or_false]at hu;rcases hu with rfl|rfl|rfl
 ·rfl
 ·rfl
 exact hr
theorem Zj3:(Tryz.prog.info? 136).map (fun i=>(i.zero,i.size,i.bytes))=some (some (.agg #[.int .i64 0,.int .i64 0,.slice none 0 0]),3,40):=by kernel_rfl
theorem Qsj {w:World} {b:Nat} {a0 a1 a2 a3 a4 a5:Value} {t:TypeId}(h:w.heap[b]?=some (.cells #[a0,a1,a2,a3,a4,a5] t (0,0))):
 w.cell? ⟨b,0,none⟩=some a0/\w.cell? ⟨b,1,none⟩=some a1/\w.cell? ⟨b,2,none⟩=some a2/\w.cell? ⟨b,3,none⟩=some a3/\w.cell? ⟨b,4,none⟩=some a4/\w.cell? ⟨b,5,none⟩=some a5/\b < w.heap.size :=
 ⟨by simp [World.cell?,h],by simp [World.cell?,h],by simp [World.cell?,h],by simp [World.cell?,h],by simp [World.cell?,h],by simp [World.cell?,h],Qn h⟩
theorem Sp {w w4:World} {c:Obj} {r:Option Nat} {p:Addr} {u:Value}(hg:(w.alloc c).grownBy w4 r)(hr:r≠some p.block)(hp:p.block < w.heap.size)(h:w.cell? p=some u):w4.cell? p=some u:=by
 have h1:w4.heap[p.block]?=w.heap[p.block]?:=(hg.block p.block (by simp;omega) (fun e=>hr e.symm)).trans (((Qg.refl w).alloc c).block hp);unfold World.cell? at h⊢;rw [h1];exact h
theorem Xs.grown_b {w1 w w4:World} {b g:Nat} {lg:Int} {base:List (List Nd)} {root:List Bool} {ks:List Kn} {cs:List Cm} {alive:List Bool} {vk vc:Value} {c:Obj}(h:Xs w1 w b g lg base root ks cs alive vk vc)(hg:(w.alloc c).grownBy w4 vk.ownBlock):
 ∃vb vr,w4.heap[b]?=some (.cells #[.int .i64 lg,vb,vr,vk,vc,.slice (some ⟨g,0,none⟩) alive.length alive.length] 93 (0,0)):=by
 obtain⟨vb,vr,hb,_⟩:=h.cells;exact⟨vb,vr,((hg.block b (by have:=h.blt;simp;omega) (fun e=>h.dk.1 e.symm)).trans (((Qg.refl w).alloc c).block h.blt)).trans hb⟩
theorem Qzx(lg:Int)(v:Value)(f:List Nd)(w:World)(h:Jo w v f):
 Calls Tryz.prog 59 #[.int .i64 lg,v] w (Zzo w lg f):=by
 have H:=Qq h;obtain⟨Af,cf,rfl,_⟩:=Qc h;obtain⟨iB,UI,kL,kK,kJ⟩:=info_parts Qnw;obtain⟨iK,hiK,AR,AQ,AP⟩:=info_parts Zj3;obtain⟨iC,hiC,AU,AT,AS⟩:=info_parts Zj1;clear h;by_cases wB:lg < 0
 ·have HE:=Qq (show Ji lg f=1 by unfold Ji;rw [decide_eq_true wB];rfl);go_enter Tryz.func59,Tryz.ntmps59;go_wp2_with fail;go_ret2;exact⟨Qz,.inl ⟨by rw [HE.out];decide,by rw [HE.out] <;> rfl⟩⟩
 by_cases hhi:6 < lg
 ·have HE:=Qq (show Ji lg f=1 by unfold Ji;rw [decide_eq_true hhi,Bool.or_true];rfl);go_enter Tryz.func59,Tryz.ntmps59;go_wp2_with fail;go_ret2;exact⟨Qz,.inl ⟨by rw [HE.out];decide,by rw [HE.out] <;> rfl⟩⟩
 have HE:=Qq (show Ji lg f=(Qm f).2 by unfold Ji;rw [decide_eq_false wB,decide_eq_false hhi];rfl);obtain⟨er,tW⟩:∃er,er=(Qm f).2:=⟨_,rfl⟩;have wE:=Qq tW;obtain⟨base,KE⟩:∃x,x=(Qm f).1:=⟨_,rfl⟩;have SR:=Qq KE;by_cases hz:er=0
 ·subst hz;have zC:=Qq (Qzw (lg:=lg) (f:=f) (by rw [HE.out,<-tW]));have wA:=Qq (show base.length<=12 by rw [SR.out];exact(Qg0 zC.out).1);have uQ:=Qbr wA.out;have T6:=wA.out;obtain⟨m,rD⟩:∃m,m=2^base.length:=⟨_,rfl⟩;have tP:=Qq rD;rw [<-rD]at uQ;clear tW KE rD;go_enter Tryz.func59,Tryz.ntmps59;go_wp2_with fail;refine(Qb3 _ f _ H.out).mono ?_;rintro e w1 ⟨u,rfl,zP,xJ⟩;rw [<-wE.out];rw [<-SR.out]at xJ;have zM:=Qq zP;have wY:=Qq xJ;have WY:=Qq xJ.fmls;obtain⟨Ab,cb,rfl,_⟩:=WY.out;clear zP xJ;have ZM:wrap64 ((2:Int)^base.length)=(m:Int):=by
   have e:((2:Int)^base.length)=(m:Int):=by rw [tP.out,Int.natCast_pow];rfl
   rw [e];unfold wrap64;omega
  have OR:=Qq ZM;clear ZM;go_wp2_with(refine wpList_make_full _ rfl _ _ 89 rfl w1.heap.size 4 iB (.bool false) 1 Tryz.underlying89 UI kL kK .i64 .i64 _ _ m rfl rfl OR.out OR.out (by rw [kJ];omega) (by unfold maxLen;omega) (by simp) ?_);intro W1 tZ sC;have HT:=Qq (show Kf w1.heap.size W1 w1.heap.size (List.replicate m false) by
   have h1:=tZ;rw [Og]at h1;unfold Kf;simp only [List.length_replicate];exact h1)
  have yZ:=Qq (show Qg w1 W1 from(Qg.refl w1).grown sC (fun k e=>by cases e));clear tZ sC;have tX:=Qq (Xs.start (w1:=w1) (lg:=lg) (vk:=.slice Ab base.length cb) (base:=base) (alive:=List.replicate m false) (b:=W1.heap.size) (g:=w1.heap.size) (yZ.out.alloc (.cells #[.int .i64 lg,.slice Ab base.length cb,.slice none 0 0,.slice none 0 0,.slice none 0 0,.slice (some ⟨w1.heap.size,0,none⟩) m m] 93)) ⟨yZ.out.size,by have:=HT.out.lt.2;omega⟩ (by rw [List.length_replicate];exact heap_alloc_new _ _) WY.out (HT.out.ext (Qz.alloc _)));have yF:=Qq (Qg0 zC.out).2;have pB:=Qq (Cp (f:=f) wE.out.symm)
  have SB:W1.heap.size < (W1.alloc (.cells #[.int .i64 lg,.slice Ab base.length cb,.slice none 0 0,.slice none 0 0,.slice none 0 0,.slice (some ⟨w1.heap.size,0,none⟩) m m] 93)).heap.size:=by simp
  go_upto_region 7 with(fail);obtain⟨W2,gQ⟩:∃W2,W2=(W1.alloc (.cells #[.int .i64 lg,.slice Ab base.length cb,.slice none 0 0,.slice none 0 0,.slice none 0 0,.slice (some ⟨w1.heap.size,0,none⟩) m m] 93)):=⟨_,rfl⟩;rw [<-gQ]at tX SB⊢;clear gQ;go_wp2_with fail;refine(Qqq _ f _ (H.out.ext (zM.out.trans tX.out.ext)) pB.out.1 (Ej pB.out.1 pB.out.2.1)).mono ?_;rintro e w3 ⟨ue,rfl,DR,zF⟩;have LB:=Qq DR;have bI:=Qq (tX.out.next zF);have zD:=Qq zF;obtain⟨Ae,ce,rfl,_⟩:=Qc DR;clear zF DR;go_wp2_with fail;refine(Sb _ lg base [] [] [] (List.replicate m false) _ (Ja f) _ bI.out.eng wA.out (by rw [List.length_replicate,tP.out]) LB.out yF.out).mono ?_
  rintro e w4 ⟨gt,rfl,yE,sI⟩;have WM:=Qq (bI.out.next yE);have WE:=Qq (bI.out.fresh sI);have I6:=Qq (show(Ya base (Ja f)).length=2^base.length by unfold Ya;rw [List.length_map,List.length_range]);rw [I6.out]at WE;have WL:=Qq (WM.out.root_ WE.out);clear yE sI;obtain⟨_,_,T7,_⟩:=WM.out.cells;obtain⟨⟨_,_,d2,_,_,_⟩,dfr,dlt⟩:=Vs T7;have dfr2:=dfr 2;clear T7 dfr;go_upto_region 8 with(fail);obtain⟨w5,sT⟩:∃w5,w5=w4.setCell ⟨W1.heap.size,2,none⟩ (.slice (some ⟨gt,0,none⟩) (2^base.length) (2^base.length)):=⟨_,rfl⟩;rw [<-sT]at WL⊢;clear sT d2 dfr2 dlt;clear SB;obtain⟨b,hb⟩:∃b,b=W1.heap.size:=⟨_,rfl⟩
  obtain⟨g,hg⟩:∃g,g=w1.heap.size:=⟨_,rfl⟩;have JD:=Qq (show w1.heap.size<=b/\w1.heap.size<=g by rw [hb,hg];exact⟨yZ.out.size,Nat.le_refl _⟩);rw [<-hb,<-hg]at WL⊢;clear hb hg tX bI WM WE HT yZ zD LB;go_wp2_with fail;go_loopw [48] (fun v wr=>∃k:Nat,v=.int .i64 (k:Int)/\k<=base.length/\∃vk vc,Hid (Xs w1 wr b g lg base (Ya base (Ja f)) (Pw base k) (Pm base k) (List.replicate m false) vk vc)) (fun v _=>base.length - (intOf v).toNat)
  case atStart=>exact⟨0,rfl,Nat.zero_le _,_,_,WL⟩
  case round =>
   obtain⟨k,rfl,hk,vk,vc,HI⟩:=hrel;by_cases hlt2:k < base.length
   ·have yT:(k:Int) < (base.length:Int):=by omega
    obtain⟨gB,cB,oD,hcb1,ED⟩:=wY.out.slice (by omega);injection oD with e1 _ e3;subst e1;subst e3;obtain⟨s,TF⟩:∃s,s=base.getD k []:=⟨_,rfl⟩;have gH:base[k]?=some s:=by rw [TF,Qk,Qv hlt2];rfl
    obtain⟨uk,yO,R8,NK⟩:=wY.out.get gH;have eI:=(HI.out.ext.cell (p:=⟨gB,k,none⟩) NK).trans yO;have hglr:gB < wr.heap.size:=Qy NK HI.out.ext.size;have AC:=Qq (R8.ext HI.out.ext);have YU:=Qq TF;have nQ:=Qq gH;clear yO R8 TF gH;have jR:=Qq (show ∃t,Xf t/\s=Qr t/\Jm t.top=true from(by rw [SR.out]at nQ;exact zC.out.b.can s (List.mem_of_getElem? nQ.out)));have qW:0 < s.length:=by
     obtain⟨t,ht,rfl,_⟩:=jR.out;exact Uj ht.xp.1.1
    go_wp2_with fail;refine(Ig _ s _ AC.out qW).mono ?_;rintro e w2 ⟨u1,u2,rfl,zT,nL,rI⟩;have QE:=Qq (HI.out.next zT);have zS:=Qq zT;have XB:=Qq nL;have XA:=Qq rI;obtain⟨nn,uN⟩:∃nn,nn=Qw s:=⟨_,rfl⟩;have tU:=Qq uN;rw [<-uN];unfold Nd.val;obtain⟨A1,c1,rfl,_⟩:=Qc nL;obtain⟨A2,c2,rfl,_⟩:=Qc rI;clear zT nL rI uN;by_cases dT:nn.op=9
    ·have xX:=Qq dT;have XG:=Qq (show check (Uv s)=0 by obtain⟨t,ht,hc,_⟩:=jR.out;rw [hc];exact Qh2 ht (by rw [<-hc,<-tU.out];exact dT));have iX:=Qq (show Pw base (k+1)=Pw base k++ [⟨nn.i,k,Ya base (Uv s)⟩] by rw [Qyf,<-YU.out,Zjd (by rw [<-tU.out];exact dT),<-tU.out]);have pC:=Qq (show Pm base (k+1)=Pm base k by rw [Qj7,<-YU.out,Qok (by rw [<-tU.out,dT];decide),List.append_nil]);go_upto_region 14 with(fail);obtain⟨W3,gP⟩:∃W,W=w2.alloc (.cells #[.int .i64 9,.int .i64 nn.i,.int .i64 nn.e,.int .i64 nn.g,.int .i64 nn.x,.int .i64 nn.y] 71):=⟨_,rfl⟩;have kP:Qg w2 W3:=by rw [gP];exact Qz.alloc _
     obtain⟨_,JH,_,_,_,_,vD⟩:=Qsj (w:=W3) (b:=w2.heap.size) (by rw [gP];exact heap_alloc_new _ _);have nW:=Qq (QE.out.next kP);have oM:=Qq kP;have IA:=Qq (show ∀q,vk.ownBlock=some q->q < w2.heap.size from fun q e=>by obtain⟨_,_,h1,_⟩:=QE.out.kn;exact(h1.lt q e).2);obtain⟨nJ,_,_,_,xQ⟩:=nW.out.reads;rw [<-gP];clear kP gP dT;refine Yp 16 (fun w'=>w'.cell? (⟨b,3,none⟩)=some (vk)/\w'.cell? (⟨w2.heap.size,1,none⟩)=some (.int .i64 nn.i)) (by kernel_rfl) ⟨xd xQ nJ,xd vD JH⟩ (fun zZ=> ?_);refine Zz 0 zZ ?_;refine Zz 1 zZ ?_;refine Zz 2 zZ ?_;refine Zz 3 zZ ?_
     refine Zz 4 zZ ?_;refine Zz 5 zZ ?_;refine Zz 6 zZ ?_;refine Zz 7 zZ ?_;refine Zz 8 zZ ?_;refine Zz 9 zZ ?_;refine Qo (rs:= [10]) (by kernel_rfl) (by simp) ?_;refine Zj.cons rfl (fun K hK=> ?_) Zj.nil;go_simp;refine(Sb b lg base (Ya base (Ja f)) (Pw base k) (Pm base k) (List.replicate m false) _ (Uv s) _ (nW.out.next (Qz.drew)).eng wA.out (by rw [List.length_replicate,tP.out]) ((XB.out.ext oM.out).ext (Qz.drew)) XG.out).mono ?_;rintro e w6 ⟨gh,rfl,yK,sI⟩;have uX:Qg W3 w6:=(Qz.drew).trans yK;have bH:=Qq (nW.out.next uX);have Y7:=Qq ((nW.out.next (Qz.drew)).fresh (w:=w6) sI)
     rw [Xr]at Y7;obtain⟨rs,jD,zR,uS⟩:=bH.out.kn;have aX:=Qq jD;have yS:=Qq zR;have K2:=Qq uS;have wG:rs.length<=12:=by
      have h1:=Qcv base k;rw [<-jD,List.length_map]at h1;omega
     clear jD zR uS sI yK;go_wp2_with fail;refine hK.out _ _ ⟨xd xQ nJ,xd vD JH⟩ (fun zZ=> ?_);clear hK K;refine Qb ?_;refine Zz 11 zZ ?_;refine Qo (rs:= [12]) (by kernel_rfl) (by simp) ?_;refine Zj.cons rfl (fun K hK=> ?_) Zj.nil;go_simp;refine hK.out _ _ ⟨xd xQ nJ,xd vD JH⟩ (fun zZ=> ?_);clear hK K;refine Qb ?_;refine Qo (rs:= [13]) (by kernel_rfl) (by simp) ?_;refine Zj.cons rfl (fun K hK=> ?_) Zj.nil;refine Ga rfl (.tmp 67) (.tmp 75) 90 rfl w1.heap.size 136 iK (.agg #[.int .i64 0,.int .i64 0,.slice none 0 0]) 3 40 Tryz.underlying90 hiK AR AQ AP rfl (by decide) vk rs.length (rs.flatMap knV) (by simp [Act.eval]) (Zk yS.out xv) ⟨w6.heap.size,0,none⟩ 1 1 (knV (⟨nn.i,k,Ya base (Uv s)⟩,.slice (some ⟨gh,0,none⟩) (2^base.length) (2^base.length))) (by simp [Act.eval]) rfl (by exact Zt _ _ _ rfl) (Zvj rfl) (by unfold maxLen;omega) (by omega) (Qx bH.out.ext.size (by simp)) ?_
     intro v7 w7 zW zX zH;obtain⟨A7,c7,qA⟩:=Qs zW;subst qA;have OF:=zH;have fS:=Qq (bH.out.grown_b zX);have uH:=Qq (Sp (p:=⟨w2.heap.size,1,none⟩) zX (fun e=>absurd (IA.out _ e) (Nat.lt_irrefl _)) (by have:=uX.size;omega:w2.heap.size < w6.heap.size) ((uX.cell (p:=⟨w2.heap.size,1,none⟩) vD).trans JH));obtain⟨_,_,aI⟩:=fS.out;obtain⟨⟨_,_,_,z3,_,_⟩,zfr,zlt⟩:=Vs aI;have zfr3:=zfr 3;have fE:=Qq zW;have lO:=Qq zX;have lU:=Qq zH;clear zW zX zH OF aI zfr;refine hK.out _ _ ⟨z3,uH.out⟩ (fun zZ=> ?_);clear hK K;refine Qb ?_
     refine Qo (rs:= [14]) (by kernel_rfl) (by simp) ?_;refine Zj.cons rfl (fun K hK=> ?_) Zj.nil;go_simp;refine hK.out _ _ ⟨z3,uH.out⟩ (fun zZ=> ?_);clear hK K;refine Qb ?_;refine Zz 15 zZ ?_;refine Yi (by kernel_rfl) rfl (fun K hK=> ?_);go_simp;refine hK.out _ _ ?_;clear hK K;refine Qb ?_;refine Yo (by kernel_rfl) ?_ _;go_wp2_with fail;go_roundw
     case rel=>exact⟨k+1,by go_num,by omega,.slice A7 (rs.length+1) c7,vc,Qq (by rw [iX.out,pC.out];exact bH.out.know aX.out K2.out Y7.out fE.out lO.out lU.out)⟩
     case measure=>simp [intOf];omega
    by_cases ho13:nn.op=13
    ·have xX:=Qq ho13;have XG:=Qq (show check (Uv s)=0/\check (Dw s)=0 by obtain⟨t,ht,hc,_⟩:=jR.out;rw [hc];exact Qmt ht (by rw [<-hc,<-tU.out];exact ho13));have iX:=Qq (show Pw base (k+1)=Pw base k by rw [Qyf,<-YU.out,Qod (by rw [<-tU.out];exact dT),List.append_nil]);have pC:=Qq (show Pm base (k+1)=Pm base k++ [⟨k,nn.g,Ya base (Uv s),Ya base (Dw s),Sj base s⟩] by rw [Qj7,<-YU.out,Zz9 (by rw [<-tU.out];exact ho13),<-tU.out]);go_upto_region 16 with(fail);obtain⟨W3,gP⟩:∃W,W=w2.alloc (.cells #[.int .i64 13,.int .i64 nn.i,.int .i64 nn.e,.int .i64 nn.g,.int .i64 nn.x,.int .i64 nn.y] 71):=⟨_,rfl⟩
     have kP:Qg w2 W3:=by rw [gP];exact Qz.alloc _
     obtain⟨_,_,_,cX,_,_,vD⟩:=Qsj (w:=W3) (b:=w2.heap.size) (by rw [gP];exact heap_alloc_new _ _);have nW:=Qq (QE.out.next kP);have oM:=Qq kP;rw [<-gP];clear kP gP dT ho13;refine Od (X16 W3 k nn.g (Ya base (Uv s)) (Ya base (Dw s))) ?_ ?_
     ·skip
      refine Yp 11 (fun w'=>w'.cell? (⟨w2.heap.size,3,none⟩)=some (.int .i64 nn.g)) (by kernel_rfl) (xd vD cX) (fun zZ=> ?_);refine Zz 0 zZ ?_;refine Zz 1 zZ ?_;refine Zz 2 zZ ?_;refine Zz 3 zZ ?_;refine Zz 4 zZ ?_;refine Zz 6 zZ ?_;refine Zz 7 zZ ?_;refine Qo (rs:= [5,10]) (by kernel_rfl) (by simp) ?_;refine Zj.cons rfl (fun K hK=> ?_) (Zj.cons rfl (fun K hK=> ?_) Zj.nil)
      ·skip
       go_simp;refine(Sb b lg base (Ya base (Ja f)) (Pw base k) (Pm base k) (List.replicate m false) _ (Uv s) _ (nW.out.next xv).eng wA.out (by rw [List.length_replicate,tP.out]) ((XB.out.ext oM.out).ext xv) XG.out.1).mono ?_;rintro e w6 ⟨gx,rfl,yK,sI⟩;have ZK:Qg W3 w6:=Qg.trans xv yK;have lgx:=sI.lt
       (try simp at lgx)
       have Hgx:=Qq (sI.base_ (b':=W3.heap.size) (Qg.size (a:=W3) xv));have SV:=yK;clear sI yK;go_wp2_with fail;refine hK.out _ _ (xd vD cX) (fun zZ=> ?_);clear hK K;refine Qb ?_;refine Qo (rs:= [8,10]) (by kernel_rfl) (by simp) ?_;refine Zj.cons rfl (fun K hK=> ?_) (Zj.cons rfl (fun K hK=> ?_) Zj.nil)
       ·skip
        go_simp;refine(Sb b lg base (Ya base (Ja f)) (Pw base k) (Pm base k) (List.replicate m false) _ (Dw s) _ (nW.out.next xv).eng wA.out (by rw [List.length_replicate,tP.out]) ((XA.out.ext oM.out).ext xv) XG.out.2).mono ?_;rintro e w7 ⟨gy,rfl,yK,sI⟩;have qE:Qg W3 w7:=Qg.trans xv yK;have lgy:=sI.lt
        (try simp at lgy)
        have Hgy:=Qq (sI.base_ (b':=W3.heap.size) (Qg.size (a:=W3) xv));have LI:=yK;have qF:Qg w6 w7:=Qg.trans xv yK;clear sI yK;go_wp2_with fail;refine hK.out _ _ (xd vD cX) (fun zZ=> ?_);clear hK K;refine Qb ?_;refine Zz 9 zZ ?_;refine Qo (rs:= [10]) (by kernel_rfl) (by simp) ?_;refine Zj.cons rfl (fun K hK=> ?_) Zj.nil;go_simp;refine hK.out _ _ (xd vD cX) (fun zZ=> ?_);clear hK K;refine Qb ?_;refine Yi (by kernel_rfl) rfl (fun K hK=> ?_)
        first
        |have rX:Hid (w7.heap[w6.heap.size]?=some (.cells #[.int .i64 0,.int .i64 0,.slice none 0 0,.slice none 0 0,.int .u64 0] 138 (0,0))):=Qq ((LI.block (k:=w6.heap.size) (by simp)).trans (heap_alloc_new w6 (.cells #[.int .i64 0,.int .i64 0,.slice none 0 0,.slice none 0 0,.int .u64 0] 138)))
         obtain⟨⟨e0,e1,e2,e3,e4⟩,ef,el⟩:=To rX.out;have ef0:=ef 0;have ef1:=ef 1;have ef2:=ef 2;have ef3:=ef 3;have ef4:=ef 4;clear ef
        |have rX:Hid (w7.heap[W3.heap.size]?=some (.cells #[.int .i64 0,.int .i64 0,.slice none 0 0,.slice none 0 0,.int .u64 0] 138 (0,0))):=Qq ((qF.block (k:=W3.heap.size) (Qy (by simp) SV.size)).trans ((SV.block (k:=W3.heap.size) (by simp)).trans (heap_alloc_new W3.drew (.cells #[.int .i64 0,.int .i64 0,.slice none 0 0,.slice none 0 0,.int .u64 0] 138))))
         obtain⟨⟨e0,e1,e2,e3,e4⟩,ef,el⟩:=To rX.out;have ef0:=ef 0;have ef1:=ef 1;have ef2:=ef 2;have ef3:=ef 3;have ef4:=ef 4;clear ef
        |skip
        go_simp;refine hK.out _ _ ?_;clear hK K;refine Qb ?_;refine Yo (by kernel_rfl) ?_ _;apply Qbo (gx:=gx) (gy:=gy)
        ·simp only [Act.put,List.setIfInBounds_toArray,List.set_cons_zero,List.set_cons_succ];exact rfl
        first
        |exact⟨qE.alloc _,qE.size,by rw [Xr,Xr];exact heap_alloc_new _ _,(Hgx.out.ext qF).ext (Qz.alloc _),Hgy.out.ext (Qz.alloc _),by omega,by omega⟩
        |(have h:=Eh.fill (place:=k) (grp:=nn.g) qE (by have:=ZK.size;omega) rX.out (Hgx.out.ext qF) Hgy.out (by omega) (by omega)
          rw [Xr,Xr]at h;exact h)
       skip
       go_simp;refine hK.out _ _ (xd vD cX) (fun zZ=> ?_);clear hK K;refine Qb ?_;refine Qo (rs:= [8]) (by kernel_rfl) (by simp) ?_;refine Zj.cons rfl (fun K hK=> ?_) Zj.nil;go_simp;refine(Sb b lg base (Ya base (Ja f)) (Pw base k) (Pm base k) (List.replicate m false) _ (Dw s) _ (nW.out.next xv).eng wA.out (by rw [List.length_replicate,tP.out]) ((XA.out.ext oM.out).ext xv) XG.out.2).mono ?_;rintro e w7 ⟨gy,rfl,yK,sI⟩;have qE:Qg W3 w7:=Qg.trans xv yK;have lgy:=sI.lt
       (try simp at lgy)
       have Hgy:=Qq (sI.base_ (b':=W3.heap.size) (Qg.size (a:=W3) xv));have LI:=yK;have qF:Qg w6 w7:=Qg.trans xv yK;clear sI yK;go_wp2_with fail;refine hK.out _ _ (xd vD cX) (fun zZ=> ?_);clear hK K;refine Qb ?_;refine Zz 9 zZ ?_;refine Yi (by kernel_rfl) rfl (fun K hK=> ?_)
       first
       |have rX:Hid (w7.heap[w6.heap.size]?=some (.cells #[.int .i64 0,.int .i64 0,.slice none 0 0,.slice none 0 0,.int .u64 0] 138 (0,0))):=Qq ((LI.block (k:=w6.heap.size) (by simp)).trans (heap_alloc_new w6 (.cells #[.int .i64 0,.int .i64 0,.slice none 0 0,.slice none 0 0,.int .u64 0] 138)))
        obtain⟨⟨e0,e1,e2,e3,e4⟩,ef,el⟩:=To rX.out;have ef0:=ef 0;have ef1:=ef 1;have ef2:=ef 2;have ef3:=ef 3;have ef4:=ef 4;clear ef
       |have rX:Hid (w7.heap[W3.heap.size]?=some (.cells #[.int .i64 0,.int .i64 0,.slice none 0 0,.slice none 0 0,.int .u64 0] 138 (0,0))):=Qq ((qF.block (k:=W3.heap.size) (Qy (by simp) SV.size)).trans ((SV.block (k:=W3.heap.size) (by simp)).trans (heap_alloc_new W3.drew (.cells #[.int .i64 0,.int .i64 0,.slice none 0 0,.slice none 0 0,.int .u64 0] 138))))
        obtain⟨⟨e0,e1,e2,e3,e4⟩,ef,el⟩:=To rX.out;have ef0:=ef 0;have ef1:=ef 1;have ef2:=ef 2;have ef3:=ef 3;have ef4:=ef 4;clear ef
       |skip
       go_simp;refine hK.out _ _ ?_;clear hK K;refine Qb ?_;refine Yo (by kernel_rfl) ?_ _;apply Qbo (gx:=gx) (gy:=gy)
       ·simp only [Act.put,List.setIfInBounds_toArray,List.set_cons_zero,List.set_cons_succ];exact rfl
       first
       |exact⟨qE.alloc _,qE.size,by rw [Xr,Xr];exact heap_alloc_new _ _,(Hgx.out.ext qF).ext (Qz.alloc _),Hgy.out.ext (Qz.alloc _),by omega,by omega⟩
       |(have h:=Eh.fill (place:=k) (grp:=nn.g) qE (by have:=ZK.size;omega) rX.out (Hgx.out.ext qF) Hgy.out (by omega) (by omega)
         rw [Xr,Xr]at h;exact h)
      skip
      go_simp;refine hK.out _ _ (xd vD cX) (fun zZ=> ?_);clear hK K;refine Qb ?_;refine Qo (rs:= [5]) (by kernel_rfl) (by simp) ?_;refine Zj.cons rfl (fun K hK=> ?_) Zj.nil;go_simp;refine(Sb b lg base (Ya base (Ja f)) (Pw base k) (Pm base k) (List.replicate m false) _ (Uv s) _ (nW.out.next xv).eng wA.out (by rw [List.length_replicate,tP.out]) ((XB.out.ext oM.out).ext xv) XG.out.1).mono ?_;rintro e w6 ⟨gx,rfl,yK,sI⟩;have ZK:Qg W3 w6:=Qg.trans xv yK;have lgx:=sI.lt
      (try simp at lgx)
      have Hgx:=Qq (sI.base_ (b':=W3.heap.size) (Qg.size (a:=W3) xv));have SV:=yK;clear sI yK;go_wp2_with fail;refine hK.out _ _ (xd vD cX) (fun zZ=> ?_);clear hK K;refine Qb ?_;refine Qo (rs:= [8]) (by kernel_rfl) (by simp) ?_;refine Zj.cons rfl (fun K hK=> ?_) Zj.nil;go_simp;refine(Sb b lg base (Ya base (Ja f)) (Pw base k) (Pm base k) (List.replicate m false) _ (Dw s) _ (nW.out.next xv).eng wA.out (by rw [List.length_replicate,tP.out]) ((XA.out.ext oM.out).ext xv) XG.out.2).mono ?_;rintro e w7 ⟨gy,rfl,yK,sI⟩;have qE:Qg W3 w7:=Qg.trans xv yK;have lgy:=sI.lt
      (try simp at lgy)
      have Hgy:=Qq (sI.base_ (b':=W3.heap.size) (Qg.size (a:=W3) xv));have LI:=yK;have qF:Qg w6 w7:=Qg.trans xv yK;clear sI yK;go_wp2_with fail;refine hK.out _ _ (xd vD cX) (fun zZ=> ?_);clear hK K;refine Qb ?_;refine Zz 9 zZ ?_;refine Yi (by kernel_rfl) rfl (fun K hK=> ?_)
      first
      |have rX:Hid (w7.heap[w6.heap.size]?=some (.cells #[.int .i64 0,.int .i64 0,.slice none 0 0,.slice none 0 0,.int .u64 0] 138 (0,0))):=Qq ((LI.block (k:=w6.heap.size) (by simp)).trans (heap_alloc_new w6 (.cells #[.int .i64 0,.int .i64 0,.slice none 0 0,.slice none 0 0,.int .u64 0] 138)))
       obtain⟨⟨e0,e1,e2,e3,e4⟩,ef,el⟩:=To rX.out;have ef0:=ef 0;have ef1:=ef 1;have ef2:=ef 2;have ef3:=ef 3;have ef4:=ef 4;clear ef
      |have rX:Hid (w7.heap[W3.heap.size]?=some (.cells #[.int .i64 0,.int .i64 0,.slice none 0 0,.slice none 0 0,.int .u64 0] 138 (0,0))):=Qq ((qF.block (k:=W3.heap.size) (Qy (by simp) SV.size)).trans ((SV.block (k:=W3.heap.size) (by simp)).trans (heap_alloc_new W3.drew (.cells #[.int .i64 0,.int .i64 0,.slice none 0 0,.slice none 0 0,.int .u64 0] 138))))
       obtain⟨⟨e0,e1,e2,e3,e4⟩,ef,el⟩:=To rX.out;have ef0:=ef 0;have ef1:=ef 1;have ef2:=ef 2;have ef3:=ef 3;have ef4:=ef 4;clear ef
      |skip
      go_simp;refine hK.out _ _ ?_;clear hK K;refine Qb ?_;refine Yo (by kernel_rfl) ?_ _;apply Qbo (gx:=gx) (gy:=gy)
      ·simp only [Act.put,List.setIfInBounds_toArray,List.set_cons_zero,List.set_cons_succ];exact rfl
      first
      |exact⟨qE.alloc _,qE.size,by rw [Xr,Xr];exact heap_alloc_new _ _,(Hgx.out.ext qF).ext (Qz.alloc _),Hgy.out.ext (Qz.alloc _),by omega,by omega⟩
      |(have h:=Eh.fill (place:=k) (grp:=nn.g) qE (by have:=ZK.size;omega) rX.out (Hgx.out.ext qF) Hgy.out (by omega) (by omega)
        rw [Xr,Xr]at h;exact h)
     rintro a' W4 ⟨B,gx,gy,xK,v81,v82,v83,v84,v85,v86,v87,v88,v89,v90,rfl⟩;have sW:=Qq xK;clear xK;simp only [Act.put,List.setIfInBounds_toArray,List.set_cons_zero,List.set_cons_succ];obtain⟨gn,wC,R5⟩:∃gn:Nat,nn.g=(gn:Int)/\gn < 16:=by obtain⟨t,ht,hc,_⟩:=jR.out;rw [tU.out,hc];exact Qg4 ht (by rw [<-hc,<-tU.out];exact xX.out)
     have nB:=Qq wC;have WX:=Qq (AC.out.ext (zS.out.trans oM.out));have pW:=Qq (show s∈(Qm f).1 by rw [<-SR.out];exact List.mem_of_getElem? nQ.out);rw [wC]at cX sW;clear wC;obtain⟨wq,vE⟩:∃v,v=wr:=⟨_,rfl⟩;subst vE;go_wp2_with fail;go_loopw [91] (fun v wr=>∃q:Nat,v=.int .i64 (q:Int)/\q<=4/\Hid (Eh W3 wr B gx gy k (gn:Int) (Ya base (Uv s)) (Ya base (Dw s)) (pQ base s q))) (fun v _=>4 - (intOf v).toNat)
     case atStart=>exact⟨0,rfl,by omega,sW⟩
     case round =>
      obtain⟨q,rfl,hq,HC⟩:=hrel;have dl3:=(HC.out.ext.cell (p:=⟨w2.heap.size,3,none⟩) vD).trans cX;have DV:w2.heap.size < wr.heap.size:=Qy vD HC.out.ext.size;by_cases RQ:q < 4
      ·have LU:(q:Int) < 4:=by omega
       have tM:=Cd gn q (by omega);cases uC:gn.testBit q
       case true =>
        rw [uC]at tM;have lP:=Qq (show Vz (Qw s).g q=true by rw [<-tU.out,nB.out];exact uC);have KS:=Qq (Zja (base:=base) lP.out);obtain⟨j,hj,lZ⟩:=Zj9 zC.out.b pW.out (by rw [<-tU.out];exact xX.out) RQ lP.out;rw [<-SR.out]at lZ;have KT:=Qq lZ;have RR:=Zvg wA.out s q;obtain⟨pq,TL⟩:∃p,p=pQ base s q:=⟨_,rfl⟩;have HPE:=Qq TL;rw [<-TL]at HC KS RR;obtain⟨⟨_,_,_,_,z4⟩,zf,zl⟩:=To HC.out.cells;have zf4:=zf 4;have BX:=Zvd (k:=j) (by omega);have MX:min j 64=j:=by omega
        have RB:=Qq (show bits .or .u64 (pq:Int) ((2:Int)^j)=((pq|||2^j:Nat):Int) by rw [show((2:Int)^j)=((2^j:Nat):Int) by simp];exact bits_or_u64_nat pq (2^j) RR (Qfd (by omega)));clear uC zf lZ TL;go_upto_region 21 with(fail);refine Yp 10 (fun w'=>w'.cell? (⟨B,4,none⟩)=some (.int .u64 (pq:Int))) (by kernel_rfl) (xd zl z4) (fun zZ=> ?_);refine Zz 0 zZ ?_;refine Zz 1 zZ ?_;refine Zz 2 zZ ?_;refine Zz 3 zZ ?_;refine Zz 4 zZ ?_;refine Qo (rs:= [5]) (by kernel_rfl) (by simp) ?_;refine Zj.cons rfl (fun K hK=> ?_) Zj.nil;go_simp;refine(Qja (q:Int) ⟨by omega,by omega⟩ _ s _ (WX.out.ext (Qg.trans HC.out.ext xv)) qW).mono ?_
        rintro e w6 ⟨u6,rfl,JT⟩;have cR:=Qq JT;have uX:Qg wr w6:=Qg.trans xv JT.ext;obtain⟨A6,c6,rfl,_⟩:=Qc JT.fml;clear JT;go_wp2_with fail;refine hK.out _ _ (xd zl z4) (fun zZ=> ?_);clear hK K;refine Qb ?_;refine Qo (rs:= [6]) (by kernel_rfl) (by simp) ?_;refine Zj.cons rfl (fun K hK=> ?_) Zj.nil;go_simp;refine(Qz7 _ _ base (Qml (q:Int) s) _ (WY.out.ext (nW.out.ext.trans (HC.out.ext.trans uX))) cR.out.fml).mono ?_;rintro e w7 ⟨rfl,yK⟩;have kO:Qg wr w7:=uX.trans yK;rw [Qfi (by rw [<-tU.out];exact xX.out),KT.out];have qY:=Qq kO;have y4:=(kO.cell (p:=⟨B,4,none⟩) zl).trans z4
        have yf:=(kO.frozen (p:=⟨B,4,none⟩) zl).trans zf4;have yl:B < w7.heap.size:=Qy zl kO.size;clear yK;go_wp2_with fail;refine hK.out _ _ (xd zl z4) (fun zZ=> ?_);clear hK K;refine Qb ?_;refine Zz 7 zZ ?_;refine Zz 8 zZ ?_;refine Zz 9 zZ ?_;refine Yi (by kernel_rfl) rfl (fun K hK=> ?_);go_simp;refine hK.out _ _ ?_;clear hK K;refine Qb ?_;refine Yo (by kernel_rfl) ?_ _;go_wp2_with fail;go_roundw
        case rel=>exact⟨q+1,by go_num,by omega,Qq (by rw [RB.out,KS.out,KT.out,Int.toNat_natCast];exact(HC.out.next qY.out).set _)⟩
        case measure=>simp [intOf];omega
       case false =>
        rw [uC]at tM;have KS:=Qq (Zvf (base:=base) (show Vz (Qw s).g q=false by rw [<-tU.out,nB.out];exact uC));clear uC;go_wp2_with fail;go_roundw
        case rel=>exact⟨q+1,by go_num,by omega,by rw [KS.out];exact HC⟩
        case measure=>simp [intOf];omega
      obtain rfl:q=4:=by omega
      have tX:=Qq (nW.out.next HC.out.ext);obtain⟨⟨z0,z1,z2,z3,z4⟩,_,zl⟩:=To HC.out.cells;rw [Xr]at z2 z3;have bU:∀q,vc.ownBlock=some q->q < w2.heap.size:=fun q e=>by obtain⟨_,_,h1,_⟩:=QE.out.cm;exact(h1.lt q e).2
      have eT:=Qq (show vc.ownBlock≠some B from fun e=>by have h1:=bU B e;have h2:=HC.out.lo;have h3:=oM.out.size;omega);clear bU;obtain⟨_,RU,_,_,xQ⟩:=tX.out.reads;obtain⟨rs,jD,zR,xK⟩:=tX.out.cm;have aX:=Qq jD;have yS:=Qq zR;have QU:=Qq xK;have wG:rs.length<=12:=by
       have h1:=Qpy base k;rw [<-jD,List.length_map]at h1;omega
      clear jD zR xK;go_upto_region 23 with(fail);refine Yp 10 (fun w'=>w'.cell? (⟨b,4,none⟩)=some (vc)/\w'.cell? (⟨B,0,none⟩)=some (.int .i64 (k:Int))/\w'.cell? (⟨B,1,none⟩)=some (.int .i64 (gn:Int))/\w'.cell? (⟨B,2,none⟩)=some (.slice (some ⟨gx,0,none⟩) (2^base.length) (2^base.length))/\w'.cell? (⟨B,3,none⟩)=some (.slice (some ⟨gy,0,none⟩) (2^base.length) (2^base.length))/\w'.cell? (⟨B,4,none⟩)=some (.int .u64 ((pQ base s 4:Nat):Int))) (by kernel_rfl) ⟨xd xQ RU,xd zl z0,xd zl z1,xd zl z2,xd zl z3,xd zl z4⟩ (fun zZ=> ?_);refine Zz 0 zZ ?_;refine Zz 1 zZ ?_;refine Zz 2 zZ ?_
      refine Zz 3 zZ ?_;refine Zz 4 zZ ?_;refine Zz 5 zZ ?_;refine Qo (rs:= [6]) (by kernel_rfl) (by simp) ?_;refine Zj.cons rfl (fun K hK=> ?_) Zj.nil;go_simp;refine hK.out _ _ ⟨xd xQ RU,xd zl z0,xd zl z1,xd zl z2,xd zl z3,xd zl z4⟩ (fun zZ=> ?_);clear hK K;refine Qb ?_;refine Qo (rs:= [7]) (by kernel_rfl) (by simp) ?_;refine Zj.cons rfl (fun K hK=> ?_) Zj.nil;refine Ga rfl (.tmp 115) (.tmp 117) 91 rfl w1.heap.size 138 iC (.agg #[.int .i64 0,.int .i64 0,.slice none 0 0,.slice none 0 0,.int .u64 0]) 5 72 Tryz.underlying91 hiC AU AT AS rfl (by decide) vc rs.length (rs.flatMap cmV) (by simp [Act.eval]) (Zk yS.out xv) ⟨wr.heap.size,0,none⟩ 1 1 (cmV (⟨k,(gn:Int),Ya base (Uv s),Ya base (Dw s),pQ base s 4⟩,.slice (some ⟨gx,0,none⟩) (2^base.length) (2^base.length),.slice (some ⟨gy,0,none⟩) (2^base.length) (2^base.length))) (by simp [Act.eval]) rfl (by exact Zt _ _ _ rfl) (Zyo rfl rfl) (by unfold maxLen;omega) (by omega) (Qx tX.out.ext.size (by simp)) ?_
      intro v7 w7 zW zX zH;obtain⟨A7,c7,qA⟩:=Qs zW;subst qA;obtain⟨_,_,aI⟩:=Xs.grown_c (w:=wr.drew) (tX.out.next Qz.drew) zX;have X0:=Sp (w:=wr.drew) (p:=⟨B,0,none⟩) zX eT.out zl z0;have X1:=Sp (w:=wr.drew) (p:=⟨B,1,none⟩) zX eT.out zl z1;have X2:=Sp (w:=wr.drew) (p:=⟨B,2,none⟩) zX eT.out zl z2;have X3:=Sp (w:=wr.drew) (p:=⟨B,3,none⟩) zX eT.out zl z3;have X4:=Sp (w:=wr.drew) (p:=⟨B,4,none⟩) zX eT.out zl z4;obtain⟨⟨_,_,_,_,y4,_⟩,zfr,zlt⟩:=Vs aI;have zfr4:=zfr 4;have fE:=Qq zW;have lO:=Qq zX
      have lU:=Qq zH;clear zW zX zH aI zfr;refine hK.out _ _ ⟨y4,X0,X1,X2,X3,X4⟩ (fun zZ=> ?_);clear hK K;refine Qb ?_;refine Qo (rs:= [8]) (by kernel_rfl) (by simp) ?_;refine Zj.cons rfl (fun K hK=> ?_) Zj.nil;go_simp;refine hK.out _ _ ⟨y4,X0,X1,X2,X3,X4⟩ (fun zZ=> ?_);clear hK K;refine Qb ?_;refine Zz 9 zZ ?_;refine Yi (by kernel_rfl) rfl (fun K hK=> ?_);go_simp;refine hK.out _ _ ?_;clear hK K;refine Qb ?_;refine Yo (by kernel_rfl) ?_ _;go_wp2_with fail;go_roundw
      case rel=>exact⟨k+1,by go_num,by omega,vk,.slice A7 (rs.length+1) c7,Qq (by
       rw [iX.out,pC.out,nB.out];have hx:=nW.out.fresh (w:=wr.drew) HC.out.rx;have hy:=nW.out.fresh (w:=wr.drew) HC.out.ry;rw [Xr]at hx hy;exact Xs.comm (w:=wr.drew) (tX.out.next Qz.drew) aX.out QU.out hx hy fE.out lO.out lU.out)⟩
      case measure=>simp [intOf];omega
    have iX:=Qq (show Pw base (k+1)=Pw base k by rw [Qyf,<-YU.out,Qod (by rw [<-tU.out];exact dT),List.append_nil]);have pC:=Qq (show Pm base (k+1)=Pm base k by rw [Qj7,<-YU.out,Qok (by rw [<-tU.out];exact ho13),List.append_nil]);go_wp2_with fail;go_roundw
    case rel=>exact⟨k+1,by go_num,by omega,vk,vc,Qq (by rw [iX.out,pC.out];exact QE.out.next (Qz.alloc _))⟩
    case measure=>simp [intOf];omega
   obtain rfl:base.length=k:=by omega
   have IW:=Qq (show Bk wr b g lg base (Ya base (Ja f)) (Zr base) (Jt base) ((List.range 0).map (Ye lg (Zr base) (Jt base))++List.replicate (m - 0) false)from HI.out.engX);have oX:=Qq HI.out.ext;obtain⟨_,_,_,_,_,_,_,x5,xl⟩:=HI.out.engX.cells;rw [List.length_replicate]at x5;go_wp2_with fail;clear x5 xl;have tG:=Qq (show ∀k∈Zr base,k.place < 64/\k.holds.length=m from fun k hk=>by have:=Qst hk;rw [tP.out];have:=wA.out;omega);have lR:=Qq (show ∀c∈Jt base,c.place < 64/\c.parts < 18446744073709551616 from fun c hc=>by have:=Qo9 wA.out hc;have:=wA.out;omega)
   go_loopw [127] (fun v wr2=>∃t:Nat,v=.int .i64 (t:Int)/\t<=m/\Hid (Qg w1 wr2/\Bk wr2 b g lg base (Ya base (Ja f)) (Zr base) (Jt base) ((List.range t).map (Ye lg (Zr base) (Jt base))++List.replicate (m - t) false))) (fun v _=>m - (intOf v).toNat)
   case atStart=>exact⟨0,rfl,Nat.zero_le _,Qq ⟨oX.out,IW.out⟩⟩
   case round =>
    obtain⟨t,rfl,ht,HR⟩:=hrel;have pS:=Qq HR.out.1;have rN:=Qq HR.out.2;clear HR;have nZ:=Qq (show((List.range t).map (Ye lg (Zr base) (Jt base))++List.replicate (m - t) false).length=m by rw [List.length_append,List.length_map,List.length_range,List.length_replicate];omega);by_cases yQ:t < m
    ·have nJ:(t:Int) < (m:Int):=by omega
     obtain⟨_,_,_,_,_,_,_,x5,xl⟩:=rN.out.cells;rw [nZ.out]at x5;go_upto_region 28 with(fail);refine Yp 10 (fun w'=>w'.cell? (⟨b,5,none⟩)=some (.slice (some ⟨g,0,none⟩) m m)) (by kernel_rfl) (xd xl x5) (fun zZ=> ?_);refine Zz 0 zZ ?_;refine Zz 1 zZ ?_;refine Zz 2 zZ ?_;refine Zz 3 zZ ?_;refine Zz 4 zZ ?_;refine Zz 5 zZ ?_;refine Zz 6 zZ ?_;refine Zz 7 zZ ?_;refine Qo (rs:= [8]) (by kernel_rfl) (by simp) ?_;refine Zj.cons rfl (fun K hK=> ?_) Zj.nil;go_simp;have hwt:IntKind.u64.wrap (t:Int)=(t:Int):=by rw [IntKind.wrap_u64];omega
     rw [hwt];refine(Qdq b lg base (Ya base (Ja f)) (Zr base) (Jt base) _ t _ (rN.out.ext (Qz.drew)).eng (by omega) (fun k hk=>by have:=tG.out k hk;omega) (fun c hc=>by have:=lR.out c hc;omega)).mono ?_;rintro e w3 ⟨rfl,yK⟩;have hx:Qg wr w3:=(Qz.drew).trans yK;have zD:=Qq hx;have gfr:=(rN.out.ext hx).row.frozen t;have gc:w3.cell? ⟨g,t,none⟩=some (.bool false):=(rN.out.ext hx).row.cell (by rw [List.getElem?_append_right (by simp),List.length_map,List.length_range,Nat.sub_self,List.getElem?_replicate,if_pos (by omega)]);have gl:g < w3.heap.size:=(rN.out.ext hx).row.lt.2
     go_wp2_with fail;refine hK.out _ _ (xd xl x5) (fun zZ=> ?_);clear hK K;refine Qb ?_;refine Zz 9 zZ ?_;refine Yi (by kernel_rfl) rfl (fun K hK=> ?_);go_simp;refine hK.out _ _ ?_;clear hK K;refine Qb ?_;refine Yo (by kernel_rfl) ?_ _;go_wp2_with fail;go_roundw
     case rel=>exact⟨t+1,by go_num,by omega,Qq ⟨(pS.out.trans zD.out).setCell (p:=⟨g,t,none⟩) JD.out.2 _,by
      have h1:=(rN.out.ext zD.out).set t (Ye lg (Zr base) (Jt base) t);rw [show m - t=(m - (t+1))+1 by omega,Qgx (by simp),<-Ij]at h1;exact h1⟩⟩
     case measure=>simp [intOf];omega
    obtain rfl:m=t:=by omega
    go_wp2_with fail;go_ret2;refine⟨zM.out.trans pS.out,.inr ⟨by rw [HE.out,<-wE.out],b,g,rfl,?_,?_,?_⟩⟩
    ·exact Qx zM.out.size JD.out.1
    ·exact Qx zM.out.size JD.out.2
    have h1:=rN.out;rw [Nat.sub_self,List.replicate_zero,List.append_nil]at h1;have e:(List.range m).map (Ye lg (Zr base) (Jt base))=Kp lg base:=by unfold Kp;rw [tP.out]
    rw [e]at h1;unfold Ry;rw [<-SR.out];exact h1
 clear KE;have HZ:=Qq hz;go_enter Tryz.func59,Tryz.ntmps59;go_wp2_with fail;refine(Qb3 _ f _ H.out).mono ?_;rintro e w1 ⟨u,rfl,zP,xJ⟩;rw [<-tW];have zM:=Qq zP;have rN:=Qq tW;clear zP xJ tW;go_wp2_with fail;go_ret2;exact⟨zM.out,.inl ⟨by rw [HE.out,<-rN.out];exact HZ.out,by rw [HE.out,<-rN.out] <;> rfl⟩⟩
end Go.Proofs.YtkmclcmnoicagaaGreatDoor
