/- types' newEngine: the walk. -/
import Derived.Test.YtkmclcmnoicagaaGreatDoorK26
namespace Go.Proofs.YtkmclcmnoicagaaGreatDoor
set_option maxRecDepth 100000
set_option maxHeartbeats 128000000
open Go.RowKit
def Qey(X:Act->World->Prop):Exit->Act->World->Prop
 |.normal,a,w=>X a w
 |_,_,_=>False
theorem Eo {P:Program} {id:Nat} {ops:Array Oper} {md:Bool} {Q:Exit->Act->World->Prop} {a:Act} {w:World}(X:Act->Act->World->Prop)(h1:(Code.region id ops md).wp P (Qey (X a)) a w)(h2:∀a' w',X a a' w'->Q .normal a' w'):(Code.region id ops md).wp P Q a w :=
 wp_mono h1 fun e a w q=>by
  cases e <;> first|exact h2 _ _ q|exact q.elim
theorem Xl {bs:Nat} {wr:World} {g' B j:Nat} {u:Value} {l:List Bool}(hr:Kg bs wr g' l)(zQ:g'≠B):Kg bs (wr.setCell ⟨B,j,none⟩ u) g' l:=Zp hr fun k hk=>by
 have e:k=g':=by injection hk with hk;exact hk.symm
 rw [e];exact Below.heap_setCell _ _ _ _ zQ
structure CmI (w2 wr:World) (B gx gy:Nat) (place:Nat) (grp:Int) (lx ly:List Bool) (p:Nat):Prop where
 ext:Ext w2 wr
 lo:w2.heap.size<=B
 cells:wr.heap[B]?=some (.cells #[.int .i64 (place:Int),.int .i64 grp,.slice (some ⟨gx,0,none⟩) lx.length lx.length,.slice (some ⟨gy,0,none⟩) ly.length ly.length,.int .u64 (p:Int)] 138 (0,0))
 rx:Kg w2.heap.size wr gx lx
 ry:Kg w2.heap.size wr gy ly
 nx:gx≠B
 ny:gy≠B
section
variable {w2 wr W:World} {B gx gy place p:Nat} {grp:Int} {lx ly:List Bool}
theorem CmI.next(h:CmI w2 wr B gx gy place grp lx ly p)(he:Ext wr W):CmI w2 W B gx gy place grp lx ly p :=
 ⟨h.ext.trans he,h.lo,(he.block (Qf h.cells)).trans h.cells,h.rx.ext he,h.ry.ext he,h.nx,h.ny⟩
theorem CmI.set(h:CmI w2 wr B gx gy place grp lx ly p)(q:Nat):CmI w2 (wr.setCell ⟨B,4,none⟩ (.int .u64 (q:Int))) B gx gy place grp lx ly q:=by
 refine⟨h.ext.setCell (p:=⟨B,4,none⟩) h.lo _,h.lo,?_,Xl h.rx h.nx,Xl h.ry h.ny,h.nx,h.ny⟩;simp only [World.setCell,Array.getElem?_modify,h.cells,if_true,Option.map_some];simp
end
theorem CmI.fill {w2 wr:World} {B gx gy place:Nat} {grp:Int} {lx ly:List Bool} {a0 a1 a2 a3 a4:Value}(he:Ext w2 wr)(vK:w2.heap.size<=B)(hb:wr.heap[B]?=some (.cells #[a0,a1,a2,a3,a4] 138 (0,0)))(hx:Kg w2.heap.size wr gx lx)(hy:Kg w2.heap.size wr gy ly)(nx:gx≠B)(ny:gy≠B):
 CmI w2 (((((wr.setCell ⟨B,0,none⟩ (.int .i64 (place:Int))).setCell ⟨B,1,none⟩ (.int .i64 grp)).setCell ⟨B,2,none⟩ (.slice (some ⟨gx,0,none⟩) lx.length lx.length)).setCell ⟨B,3,none⟩ (.slice (some ⟨gy,0,none⟩) ly.length ly.length)).setCell ⟨B,4,none⟩ (.int .u64 0)) B gx gy place grp lx ly 0:=by
 refine⟨((((he.setCell (p:=⟨B,0,none⟩) vK _).setCell (p:=⟨B,1,none⟩) vK _).setCell (p:=⟨B,2,none⟩) vK _).setCell (p:=⟨B,3,none⟩) vK _).setCell (p:=⟨B,4,none⟩) vK _,vK,?_,Xl (Xl (Xl (Xl (Xl hx nx) nx) nx) nx) nx,Xl (Xl (Xl (Xl (Xl hy ny) ny) ny) ny) ny,nx,ny⟩;simp only [World.setCell,Array.getElem?_modify,hb,if_true,Option.map_some];simp
theorem Sa {w:World} {b:Nat} {a0 a1 a2 a3 a4:Value} {t:TypeId}(h:w.heap[b]?=some (.cells #[a0,a1,a2,a3,a4] t (0,0))):
 (w.cell? ⟨b,0,none⟩=some a0/\w.cell? ⟨b,1,none⟩=some a1/\w.cell? ⟨b,2,none⟩=some a2/\w.cell? ⟨b,3,none⟩=some a3/\w.cell? ⟨b,4,none⟩=some a4)/\(∀j,w.frozen? ⟨b,j,none⟩=false)/\b < w.heap.size:=by
 refine⟨⟨by simp [World.cell?,h],by simp [World.cell?,h],by simp [World.cell?,h],by simp [World.cell?,h],by simp [World.cell?,h]⟩,fun j=> ?_,Qf h⟩;simp [World.frozen?,h]
def X16(W3:World)(k:Nat)(grp:Int)(lx ly:List Bool)(a a':Act)(w':World):Prop :=
 ∃B gx gy,CmI W3 w' B gx gy k grp lx ly 0/\∃v81 v82 v83 v84 v85 v86 v87 v88 v89 v90,a'=((((((((((a.put (some 81) v81).put (some 82) v82).put (some 83) v83).put (some 84) v84).put (some 85) v85).put (some 86) v86).put (some 87) v87).put (some 88) v88).put (some 89) v89).put (some 90) v90).put (some 14) (.pointer (some ⟨B,0,none⟩))
def Zzz(w:World)(lg:Int)(f:List Nd)(e:Ending)(w':World):Prop :=
 Ext w w'/\((Yj lg f≠0/\e=.returned (.tuple #[.pointer none,.int .i64 (Yj lg f)]))\/(Yj lg f=0/\∃b g,e=.returned (.tuple #[.pointer (some ⟨b,0,none⟩),.int .i64 0])/\w.heap.size<=b/\w.heap.size<=g/\Fe w' b g lg (Qm f).1 (Nx f) (Zl (Qm f).1) (Jl (Qm f).1) (Km lg (Qm f).1)))
theorem Qgx {lg:Int} {f:List Nd}(h:By lg f):(Qm f).1.length<=12/\check (Jo f)=0:=⟨h.b.len,by rw [h.e];exact h.x.check⟩
def ksK(base:List (List Nd))(k:Nat):List Kn:=(List.range k).flatMap fun i=>Mi base (base.getD i []) i
def csK(base:List (List Nd))(k:Nat):List Cm:=(List.range k).flatMap fun i=>Lj base (base.getD i []) i
theorem Qjk(base:List (List Nd))(k:Nat):ksK base (k+1)=ksK base k++Mi base (base.getD k []) k:=by
 unfold ksK;rw [List.range_succ,List.flatMap_append,List.flatMap_singleton]
theorem Qz5(base:List (List Nd))(k:Nat):csK base (k+1)=csK base k++Lj base (base.getD k []) k:=by
 unfold csK;rw [List.range_succ,List.flatMap_append,List.flatMap_singleton]
theorem Qwo {base:List (List Nd)} {g:List Nd} {i:Nat}(h:(Zz g).op≠9):Mi base g i= []:=by
 unfold Mi;rw [beq_eq_false_iff_ne.2 h];rfl
theorem Qwc {base:List (List Nd)} {g:List Nd} {i:Nat}(h:(Zz g).op≠13):Lj base g i= []:=by
 unfold Lj;rw [beq_eq_false_iff_ne.2 h];rfl
theorem Qr4 {base:List (List Nd)} {k:Kn}(h:k∈Zl base):k.place < base.length/\k.holds.length=2^base.length:=by
 obtain⟨i,hi,hk⟩:=List.mem_flatMap.1 h;have:=List.mem_range.1 hi;unfold Mi at hk;cases ho:(Zz (base.getD i [])).op==9
 ·rw [ho]at hk;cases hk
 rw [ho]at hk;rw [List.mem_singleton.1 hk];exact⟨this,by unfold Vq;rw [List.length_map,List.length_range]⟩
theorem Qxm(e:Nat->Nat)(he:∀x,e x < 64):∀(L:List Nat) (p:Nat),p < 18446744073709551616->L.foldl (fun p i=>p|||2^e i) p < 18446744073709551616
 |[],_,h=>h
 |x :: r,p,h=>Qxm e he r _ (by
  have h1:p < 2^64:=h;have h2:2^e x < 2^64:=Nat.pow_lt_pow_right (by decide) (he x);exact Nat.or_lt_two_pow h1 h2)
theorem Qor {base:List (List Nd)}(hl:base.length<=12) {c:Cm}(h:c∈Jl base):c.place < base.length/\c.parts < 18446744073709551616:=by
 obtain⟨i,hi,hk⟩:=List.mem_flatMap.1 h;have:=List.mem_range.1 hi;unfold Lj at hk;cases ho:(Zz (base.getD i [])).op==13
 ·rw [ho]at hk;cases hk
 rw [ho]at hk;rw [List.mem_singleton.1 hk];exact⟨this,Qxm (fun x=>(Yn base (Um x (base.getD i []))).toNat) (fun x=>by have:=Ig hl (Um x (base.getD i []));omega) _ _ (by decide)⟩
theorem Zzo {base:List (List Nd)} {g:List Nd} {i:Nat}(h:(Zz g).op=9):Mi base g i= [⟨(Zz g).i,i,Vq base (Ux g)⟩]:=by
 unfold Mi Ux;rw [h];rfl
theorem Qhx {t:Tr}(ht:Xf t)(h:(Zz (Qn t)).op=9):check (Ux (Qn t))=0:=by
 have ho:=ht.last;rw [h]at ho;cases t with
 |leaf n =>
  have h1:=ht.xp.1.1.1;rw [show n.op=9 from ho.symm]at h1;cases h1
 |one n a =>
  obtain⟨_,_,_,e1,_⟩:=Qvq ht.check ht.tree;unfold Ux;rw [h];show check (Jn _ _)=0;rw [e1];exact ht.of_one.check
 |two n a b =>
  have h1:=ht.xp.1.1.2.1;rw [show n.op=9 from ho.symm]at h1;cases h1
theorem Zzr {base:List (List Nd)} {g:List Nd} {i:Nat}(h:(Zz g).op=13):Lj base g i= [⟨i,(Zz g).g,Vq base (Ux g),Vq base (Dx g),Rv base g⟩]:=by
 unfold Lj Ux Dx;rw [h];rfl
theorem Ql1 {t:Tr}(ht:Xf t)(h:(Zz (Qn t)).op=13):check (Ux (Qn t))=0/\check (Dx (Qn t))=0:=by
 have ho:=ht.last;rw [h]at ho;cases t with
 |leaf n =>
  have h1:=ht.xp.1.1.1;rw [show n.op=13 from ho.symm]at h1;cases h1
 |one n a =>
  have h1:=ht.xp.1.1.2.1;rw [show n.op=13 from ho.symm]at h1;cases h1
 |two n a b =>
  obtain⟨_,_,e1,e2⟩:=Sn ht.check ht.tree;unfold Ux Dx;rw [h];show check (Jn _ _)=0/\check (Jn _ _)=0;rw [e1,e2];exact⟨ht.of_two.1.check,ht.of_two.2.check⟩
theorem Qgo {k:Nat}(h:k < 64):2^k < 18446744073709551616:=Nat.pow_lt_pow_right (a:=2) (n:=64) (by decide) h
theorem Zy1 {k:Nat}(h:k < 64):IntKind.u64.wrap ((2:Int)^k)=((2^k:Nat):Int):=by
 rw [IntKind.wrap_u64,show((2:Int)^k)=((2^k:Nat):Int) by simp];have:=Qgo h;generalize 2^k=a at *;omega
def pQ(base:List (List Nd))(s:List Nd)(q:Nat):Nat:=((List.range q).filter fun i=>Vy (Zz s).g i).foldl (fun p i=>p|||2^(Yn base (Um i s)).toNat) 0
theorem Zjq {base:List (List Nd)} {s:List Nd} {q:Nat}(h:Vy (Zz s).g q=true):pQ base s (q+1)=pQ base s q|||2^(Yn base (Um q s)).toNat:=by
 unfold pQ;rw [List.range_succ,List.filter_append,List.filter_cons,h,List.foldl_append];rfl
theorem Zyi {base:List (List Nd)} {s:List Nd} {q:Nat}(h:Vy (Zz s).g q=false):pQ base s (q+1)=pQ base s q:=by
 unfold pQ;rw [List.range_succ,List.filter_append,List.filter_cons,h];simp
theorem Zyo {base:List (List Nd)}(hl:base.length<=12)(s:List Nd)(q:Nat):pQ base s q < 18446744073709551616 :=
 Qxm (fun x=>(Yn base (Um x s)).toNat) (fun x=>by have:=Ig hl (Um x s);omega) _ _ (by decide)
theorem Zjt {l:List (List Nd)} {t:Tr}(hB:Td l t) {s:List Nd}(hs:s∈l)(ho:(Zz s).op=13) {i:Nat}(hi:i < 4)(hg:Vy (Zz s).g i=true):∃j:Nat,j < 12/\Yn l (Um i s)=(j:Int):=by
 obtain⟨u,hu,rfl,_⟩:=hB.can s hs;have zV:=hu.last;rw [ho]at zV;obtain⟨n,a,b,rfl,_⟩:=Wl hu zV.symm;have hm:Tr.two n a b∈l.map Qe:=(Vj hB.can).2 ⟨hu,hs⟩;obtain⟨_,e2,_,_⟩:=Sn hu.check hu.tree;rw [e2]at hg;obtain⟨hx,sB⟩:=(Vj hB.can).1 ((hB.closed.com n a b hm).2.2.2.2.2 i hi hg);obtain⟨j,hj⟩:=List.getElem?_of_mem sB;refine⟨j,?_,?_⟩
 ·have:=(List.getElem?_eq_some_iff.1 hj).1;have:=hB.len;omega
 rw [hu.unf hi,hx.short];exact Xe hB.nodup hj
theorem Qgd {t:Tr}(ht:Xf t)(h:(Zz (Qn t)).op=13):∃gn:Nat,(Zz (Qn t)).g=(gn:Int)/\gn < 16:=by
 have h1:=Ni ht.check (Zz (Qn t)) (List.mem_of_getElem? (Ty (Uv ht.xp.1.1)));obtain⟨a,b⟩:=Qy5 h1 (.inr h);exact⟨(Zz (Qn t)).g.toNat,by omega,by omega⟩
theorem Qml(base:List (List Nd)):∀k,(csK base k).length<=k
 |0=>Nat.le_refl _
 |k+1=>by
  rw [Qz5,List.length_append];have h1:=Qml base k;have h2:(Lj base (base.getD k []) k).length<=1:=by
   unfold Lj;cases(Zz (base.getD k [])).op==13
   ·exact Nat.zero_le _
   exact Nat.le_refl _
  omega
theorem Zyy {r:Cm×Value×Value}(h1:r.2.1.oneCell'=true)(h2:r.2.2.oneCell'=true):∀u∈cmV r,u.oneCell'=true:=by
 intro u hu;simp only [cmV,List.mem_cons,List.not_mem_nil,or_false]at hu;rcases hu with rfl|rfl|rfl|rfl|rfl
 ·rfl
 ·rfl
 ·exact h1
 ·exact h2
 rfl
theorem Zjx:(Tryz.prog.info? 138).map (fun i=>(i.zero,i.size,i.bytes))=some (some (.agg #[.int .i64 0,.int .i64 0,.slice none 0 0,.slice none 0 0,.int .u64 0]),5,72):=by kernel_rfl
theorem Xd.grown_c {w1 w w4:World} {b g:Nat} {lg:Int} {base:List (List Nd)} {root:List Bool} {ks:List Kn} {cs:List Cm} {alive:List Bool} {vk vc:Value} {c:Obj}(h:Xd w1 w b g lg base root ks cs alive vk vc)(hg:(w.alloc c).grownBy w4 vc.ownBlock):
 ∃vb vr,w4.heap[b]?=some (.cells #[.int .i64 lg,vb,vr,vk,vc,.slice (some ⟨g,0,none⟩) alive.length alive.length] 93 (0,0)):=by
 obtain⟨vb,vr,hb,_⟩:=h.cells;exact⟨vb,vr,((hg.block b (by have:=h.blt;simp;omega) (fun e=>h.dc.1 e.symm)).trans (((Ext.refl w).alloc c).block h.blt)).trans hb⟩
theorem Qbj {W3:World} {k:Nat} {grp:Int} {lx ly:List Bool} {a a':Act} {w':World} {B gx gy:Nat} {v81 v82 v83 v84 v85 v86 v87 v88 v89 v90:Value}
 (e:a'=((((((((((a.put (some 81) v81).put (some 82) v82).put (some 83) v83).put (some 84) v84).put (some 85) v85).put (some 86) v86).put (some 87) v87).put (some 88) v88).put (some 89) v89).put (some 90) v90).put (some 14) (.pointer (some ⟨B,0,none⟩)))(h:CmI W3 w' B gx gy k grp lx ly 0):X16 W3 k grp lx ly a a' w' :=
 ⟨B,gx,gy,h,v81,v82,v83,v84,v85,v86,v87,v88,v89,v90,e⟩
theorem Qpc(base:List (List Nd)):∀k,(ksK base k).length<=k
 |0=>Nat.le_refl _
 |k+1=>by
  rw [Qjk,List.length_append];have h1:=Qpc base k;have h2:(Mi base (base.getD k []) k).length<=1:=by
   unfold Mi;cases(Zz (base.getD k [])).op==9
   ·exact Nat.zero_le _
   exact Nat.le_refl _
  omega
theorem Zyp {r:Kn×Value}(hr:r.2.oneCell'=true):∀u∈knV r,u.oneCell'=true:=by
 intro u hu;simp only [knV,List.mem_cons,List.not_mem_nil,or_false]at hu;rcases hu with rfl|rfl|rfl
 ·rfl
 ·rfl
 exact hr
theorem Zjf:(Tryz.prog.info? 136).map (fun i=>(i.zero,i.size,i.bytes))=some (some (.agg #[.int .i64 0,.int .i64 0,.slice none 0 0]),3,40):=by kernel_rfl
theorem Qrm {w:World} {b:Nat} {a0 a1 a2 a3 a4 a5:Value} {t:TypeId}(h:w.heap[b]?=some (.cells #[a0,a1,a2,a3,a4,a5] t (0,0))):
 w.cell? ⟨b,0,none⟩=some a0/\w.cell? ⟨b,1,none⟩=some a1/\w.cell? ⟨b,2,none⟩=some a2/\w.cell? ⟨b,3,none⟩=some a3/\w.cell? ⟨b,4,none⟩=some a4/\w.cell? ⟨b,5,none⟩=some a5/\b < w.heap.size :=
 ⟨by simp [World.cell?,h],by simp [World.cell?,h],by simp [World.cell?,h],by simp [World.cell?,h],by simp [World.cell?,h],by simp [World.cell?,h],Qf h⟩
theorem Rp {w w4:World} {c:Obj} {r:Option Nat} {p:Addr} {u:Value}(hg:(w.alloc c).grownBy w4 r)(hr:r≠some p.block)(hp:p.block < w.heap.size)(h:w.cell? p=some u):w4.cell? p=some u:=by
 have h1:w4.heap[p.block]?=w.heap[p.block]?:=(hg.block p.block (by simp;omega) (fun e=>hr e.symm)).trans (((Ext.refl w).alloc c).block hp);unfold World.cell? at h⊢;rw [h1];exact h
theorem Xd.grown_b {w1 w w4:World} {b g:Nat} {lg:Int} {base:List (List Nd)} {root:List Bool} {ks:List Kn} {cs:List Cm} {alive:List Bool} {vk vc:Value} {c:Obj}(h:Xd w1 w b g lg base root ks cs alive vk vc)(hg:(w.alloc c).grownBy w4 vk.ownBlock):
 ∃vb vr,w4.heap[b]?=some (.cells #[.int .i64 lg,vb,vr,vk,vc,.slice (some ⟨g,0,none⟩) alive.length alive.length] 93 (0,0)):=by
 obtain⟨vb,vr,hb,_⟩:=h.cells;exact⟨vb,vr,((hg.block b (by have:=h.blt;simp;omega) (fun e=>h.dk.1 e.symm)).trans (((Ext.refl w).alloc c).block h.blt)).trans hb⟩
theorem Ii(lg:Int)(v:Value)(f:List Nd)(w:World)(h:Fml w v f):
 Calls Tryz.prog 59 #[.int .i64 lg,v] w (Zzz w lg f):=by
 have H:=Qq h;obtain⟨Af,cf,rfl,_⟩:=Qh h;obtain⟨iB,UG,kD,kC,kB⟩:=info_parts Qd9;obtain⟨iK,hiK,AY,AX,AW⟩:=info_parts Zjf;obtain⟨iC,hiC,BB,BA,AZ⟩:=info_parts Zjx;clear h;by_cases vK:lg < 0
 ·have HE:=Qq (show Yj lg f=1 by unfold Yj;rw [decide_eq_true vK];rfl);go_enter Tryz.func59,Tryz.ntmps59;go_wp2_with fail;go_ret2;exact⟨Qz,.inl ⟨by rw [HE.out];decide,by rw [HE.out] <;> rfl⟩⟩
 by_cases hhi:6 < lg
 ·have HE:=Qq (show Yj lg f=1 by unfold Yj;rw [decide_eq_true hhi,Bool.or_true];rfl);go_enter Tryz.func59,Tryz.ntmps59;go_wp2_with fail;go_ret2;exact⟨Qz,.inl ⟨by rw [HE.out];decide,by rw [HE.out] <;> rfl⟩⟩
 have HE:=Qq (show Yj lg f=(Qm f).2 by unfold Yj;rw [decide_eq_false vK,decide_eq_false hhi];rfl);obtain⟨er,vG⟩:∃er,er=(Qm f).2:=⟨_,rfl⟩;have wU:=Qq vG;obtain⟨base,KH⟩:∃x,x=(Qm f).1:=⟨_,rfl⟩;have SQ:=Qq KH;by_cases hz:er=0
 ·subst hz;have zD:=Qq (Qql (lg:=lg) (f:=f) (by rw [HE.out,<-vG]));have uS:=Qq (show base.length<=12 by rw [SQ.out];exact(Qgx zD.out).1);have tF:=Qf0 uS.out;have V1:=uS.out;obtain⟨m,rY⟩:∃m,m=2^base.length:=⟨_,rfl⟩;have sN:=Qq rY;rw [<-rY]at tF;clear vG KH rY;go_enter Tryz.func59,Tryz.ntmps59;go_wp2_with fail;refine(Qbg _ f _ H.out).mono ?_;rintro e w1 ⟨u,rfl,zN,yF⟩;rw [<-wU.out];rw [<-SQ.out]at yF;have zL:=Qq zN;have wS:=Qq yF;have WR:=Qq yF.fmls;obtain⟨Ab,cb,rfl,_⟩:=WR.out;clear zN yF;have SY:wrap64 ((2:Int)^base.length)=(m:Int):=by
   have e:((2:Int)^base.length)=(m:Int):=by rw [sN.out,Int.natCast_pow];rfl
   rw [e];unfold wrap64;omega
  have OT:=Qq SY;clear SY;go_wp2_with(refine wpList_make_full _ rfl _ _ 89 rfl w1.heap.size 4 iB (.bool false) 1 Tryz.underlying89 UG kD kC .i64 .i64 _ _ m rfl rfl OT.out OT.out (by rw [kB];omega) (by unfold maxLen;omega) (by simp) ?_);intro W1 uA sC;have HT:=Qq (show Kg w1.heap.size W1 w1.heap.size (List.replicate m false) by
   have h1:=uA;rw [Eh]at h1;unfold Kg;simp only [List.length_replicate];exact h1)
  have yY:=Qq (show Ext w1 W1 from(Ext.refl w1).grown sC (fun k e=>by cases e));clear uA sC;have tY:=Qq (Xd.start (w1:=w1) (lg:=lg) (vk:=.slice Ab base.length cb) (base:=base) (alive:=List.replicate m false) (b:=W1.heap.size) (g:=w1.heap.size) (yY.out.alloc (.cells #[.int .i64 lg,.slice Ab base.length cb,.slice none 0 0,.slice none 0 0,.slice none 0 0,.slice (some ⟨w1.heap.size,0,none⟩) m m] 93)) ⟨yY.out.size,by have:=HT.out.lt.2;omega⟩ (by rw [List.length_replicate];exact heap_alloc_new _ _) WR.out (HT.out.ext (Qz.alloc _)));have xV:=Qq (Qgx zD.out).2;have mC:=Qq (Py (f:=f) wU.out.symm)
  have RY:W1.heap.size < (W1.alloc (.cells #[.int .i64 lg,.slice Ab base.length cb,.slice none 0 0,.slice none 0 0,.slice none 0 0,.slice (some ⟨w1.heap.size,0,none⟩) m m] 93)).heap.size:=by simp
  go_upto_region 7 with(fail);obtain⟨W2,gU⟩:∃W2,W2=(W1.alloc (.cells #[.int .i64 lg,.slice Ab base.length cb,.slice none 0 0,.slice none 0 0,.slice none 0 0,.slice (some ⟨w1.heap.size,0,none⟩) m m] 93)):=⟨_,rfl⟩;rw [<-gU]at tY RY⊢;clear gU;go_wp2_with fail;refine(Ok _ f _ (H.out.ext (zL.out.trans tY.out.ext)) mC.out.1 (Cc mC.out.1 mC.out.2.1)).mono ?_;rintro e w3 ⟨ue,rfl,DV,zI⟩;have LA:=Qq DV;have bN:=Qq (tY.out.next zI);have zC:=Qq zI;obtain⟨Ae,ce,rfl,_⟩:=Qh DV;clear zI DV;go_wp2_with fail;refine(Rn _ lg base [] [] [] (List.replicate m false) _ (Jo f) _ bN.out.eng uS.out (by rw [List.length_replicate,sN.out]) LA.out xV.out).mono ?_
  rintro e w4 ⟨gt,rfl,yD,sL⟩;have WH:=Qq (bN.out.next yD);have VZ:=Qq (bN.out.fresh sL);have J6:=Qq (show(Vq base (Jo f)).length=2^base.length by unfold Vq;rw [List.length_map,List.length_range]);rw [J6.out]at VZ;have WG:=Qq (WH.out.root_ VZ.out);clear yD sL;obtain⟨_,_,V2,_⟩:=WH.out.cells;obtain⟨⟨_,_,d2,_,_,_⟩,dfr,dlt⟩:=Vm V2;have dfr2:=dfr 2;clear V2 dfr;go_upto_region 8 with(fail);obtain⟨w5,oQ⟩:∃w5,w5=w4.setCell ⟨W1.heap.size,2,none⟩ (.slice (some ⟨gt,0,none⟩) (2^base.length) (2^base.length)):=⟨_,rfl⟩;rw [<-oQ]at WG⊢;clear oQ d2 dfr2 dlt;clear RY;obtain⟨b,hb⟩:∃b,b=W1.heap.size:=⟨_,rfl⟩
  obtain⟨g,hg⟩:∃g,g=w1.heap.size:=⟨_,rfl⟩;have JF:=Qq (show w1.heap.size<=b/\w1.heap.size<=g by rw [hb,hg];exact⟨yY.out.size,Nat.le_refl _⟩);rw [<-hb,<-hg]at WG⊢;clear hb hg tY bN WH VZ HT yY zC LA;go_wp2_with fail;go_loopw [48] (fun v wr=>∃k:Nat,v=.int .i64 (k:Int)/\k<=base.length/\∃vk vc,Hid (Xd w1 wr b g lg base (Vq base (Jo f)) (ksK base k) (csK base k) (List.replicate m false) vk vc)) (fun v _=>base.length - (intOf v).toNat)
  case atStart=>exact⟨0,rfl,Nat.zero_le _,_,_,WG⟩
  case round =>
   obtain⟨k,rfl,hk,vk,vc,HI⟩:=hrel;by_cases hlt2:k < base.length
   ·have yP:(k:Int) < (base.length:Int):=by omega
    obtain⟨gB,cB,nZ,D7,EH⟩:=wS.out.slice (by omega);injection nZ with e1 _ e3;subst e1;subst e3;obtain⟨s,TF⟩:∃s,s=base.getD k []:=⟨_,rfl⟩;have gM:base[k]?=some s:=by rw [TF,Qk,Qv hlt2];rfl
    obtain⟨uk,yR,T4,NM⟩:=wS.out.get gM;have eR:=(HI.out.ext.cell (p:=⟨gB,k,none⟩) NM).trans yR;have A0:gB < wr.heap.size:=Qy NM HI.out.ext.size;have AK:=Qq (T4.ext HI.out.ext);have YO:=Qq TF;have nN:=Qq gM;clear yR T4 TF gM;have jN:=Qq (show ∃t,Xf t/\s=Qn t/\Jh t.top=true from(by rw [SQ.out]at nN;exact zD.out.b.can s (List.mem_of_getElem? nN.out)));have rA:0 < s.length:=by
     obtain⟨t,ht,rfl,_⟩:=jN.out;exact Uv ht.xp.1.1
    go_wp2_with fail;refine(Wt _ s _ AK.out rA).mono ?_;rintro e w2 ⟨u1,u2,rfl,zS,nJ,rJ⟩;have QD:=Qq (HI.out.next zS);have zR:=Qq zS;have WT:=Qq nJ;have QP:=Qq rJ;obtain⟨nn,uM⟩:∃nn,nn=Zz s:=⟨_,rfl⟩;have tW:=Qq uM;rw [<-uM];unfold Nd.val;obtain⟨A1,c1,rfl,_⟩:=Qh nJ;obtain⟨A2,c2,rfl,_⟩:=Qh rJ;clear zS nJ rJ uM;by_cases eD:nn.op=9
    ·have xU:=Qq eD;have WX:=Qq (show check (Ux s)=0 by obtain⟨t,ht,hc,_⟩:=jN.out;rw [hc];exact Qhx ht (by rw [<-hc,<-tW.out];exact eD));have iY:=Qq (show ksK base (k+1)=ksK base k++ [⟨nn.i,k,Vq base (Ux s)⟩] by rw [Qjk,<-YO.out,Zzo (by rw [<-tW.out];exact eD),<-tW.out]);have pA:=Qq (show csK base (k+1)=csK base k by rw [Qz5,<-YO.out,Qwc (by rw [<-tW.out,eD];decide),List.append_nil]);go_upto_region 14 with(fail);obtain⟨W3,gT⟩:∃W,W=w2.alloc (.cells #[.int .i64 9,.int .i64 nn.i,.int .i64 nn.e,.int .i64 nn.g,.int .i64 nn.x,.int .i64 nn.y] 71):=⟨_,rfl⟩;have kH:Ext w2 W3:=by rw [gT];exact Qz.alloc _
     obtain⟨_,JJ,_,_,_,_,vC⟩:=Qrm (w:=W3) (b:=w2.heap.size) (by rw [gT];exact heap_alloc_new _ _);have nQ:=Qq (QD.out.next kH);have oJ:=Qq kH;have ID:=Qq (show ∀q,vk.ownBlock=some q->q < w2.heap.size from fun q e=>by obtain⟨_,_,h1,_⟩:=QD.out.kn;exact(h1.lt q e).2);obtain⟨nH,_,_,_,yW⟩:=nQ.out.reads;rw [<-gT];clear kH gT eD;refine Yd 16 (fun w'=>w'.cell? (⟨b,3,none⟩)=some (vk)/\w'.cell? (⟨w2.heap.size,1,none⟩)=some (.int .i64 nn.i)) (by kernel_rfl) ⟨xd yW nH,xd vC JJ⟩ (fun zZ=> ?_);refine utk 0 zZ ?_;refine utk 1 zZ ?_;refine utk 2 zZ ?_;refine utk 3 zZ ?_
     refine utk 4 zZ ?_;refine utk 5 zZ ?_;refine utk 6 zZ ?_;refine utk 7 zZ ?_;refine utk 8 zZ ?_;refine utk 9 zZ ?_;refine Qa (rs:= [10]) (by kernel_rfl) (by simp) ?_;refine Zj.cons rfl (fun K hK=> ?_) Zj.nil;go_simp;refine(Rn b lg base (Vq base (Jo f)) (ksK base k) (csK base k) (List.replicate m false) _ (Ux s) _ (nQ.out.next (Qz.drew)).eng uS.out (by rw [List.length_replicate,sN.out]) ((WT.out.ext oJ.out).ext (Qz.drew)) WX.out).mono ?_;rintro e w6 ⟨gh,rfl,yV,sL⟩;have uT:Ext W3 w6:=(Qz.drew).trans yV;have bM:=Qq (nQ.out.next uT);have Z7:=Qq ((nQ.out.next (Qz.drew)).fresh (w:=w6) sL)
     rw [Xb]at Z7;obtain⟨rs,lT,zP,uQ⟩:=bM.out.kn;have bA:=Qq lT;have yJ:=Qq zP;have L5:=Qq uQ;have wC:rs.length<=12:=by
      have h1:=Qpc base k;rw [<-lT,List.length_map]at h1;omega
     clear lT zP uQ sL yV;go_wp2_with fail;refine hK.out _ _ ⟨xd yW nH,xd vC JJ⟩ (fun zZ=> ?_);clear hK K;refine Qb ?_;refine utk 11 zZ ?_;refine Qa (rs:= [12]) (by kernel_rfl) (by simp) ?_;refine Zj.cons rfl (fun K hK=> ?_) Zj.nil;go_simp;refine hK.out _ _ ⟨xd yW nH,xd vC JJ⟩ (fun zZ=> ?_);clear hK K;refine Qb ?_;refine Qa (rs:= [13]) (by kernel_rfl) (by simp) ?_;refine Zj.cons rfl (fun K hK=> ?_) Zj.nil;refine Gq rfl (.tmp 67) (.tmp 75) 90 rfl w1.heap.size 136 iK (.agg #[.int .i64 0,.int .i64 0,.slice none 0 0]) 3 40 Tryz.underlying90 hiK AY AX AW rfl (by decide) vk rs.length (rs.flatMap knV) (by simp [Act.eval]) (Zf yJ.out xv) ⟨w6.heap.size,0,none⟩ 1 1 (knV (⟨nn.i,k,Vq base (Ux s)⟩,.slice (some ⟨gh,0,none⟩) (2^base.length) (2^base.length))) (by simp [Act.eval]) rfl (by exact Zm _ _ _ rfl) (Zyp rfl) (by unfold maxLen;omega) (by omega) (Qx bM.out.ext.size (by simp)) ?_
     intro v7 w7 zW zX zF;obtain⟨A7,c7,qZ⟩:=Qs zW;subst qZ;have OG:=zF;have fZ:=Qq (bM.out.grown_b zX);have tI:=Qq (Rp (p:=⟨w2.heap.size,1,none⟩) zX (fun e=>absurd (ID.out _ e) (Nat.lt_irrefl _)) (by have:=uT.size;omega:w2.heap.size < w6.heap.size) ((uT.cell (p:=⟨w2.heap.size,1,none⟩) vC).trans JJ));obtain⟨_,_,aL⟩:=fZ.out;obtain⟨⟨_,_,_,z3,_,_⟩,zfr,zlt⟩:=Vm aL;have zfr3:=zfr 3;have fM:=Qq zW;have lF:=Qq zX;have lP:=Qq zF;clear zW zX zF OG aL zfr;refine hK.out _ _ ⟨z3,tI.out⟩ (fun zZ=> ?_);clear hK K;refine Qb ?_
     refine Qa (rs:= [14]) (by kernel_rfl) (by simp) ?_;refine Zj.cons rfl (fun K hK=> ?_) Zj.nil;go_simp;refine hK.out _ _ ⟨z3,tI.out⟩ (fun zZ=> ?_);clear hK K;refine Qb ?_;refine utk 15 zZ ?_;refine Yt (by kernel_rfl) rfl (fun K hK=> ?_);go_simp;refine hK.out _ _ ?_;clear hK K;refine Qb ?_;refine Ys (by kernel_rfl) ?_ _;go_wp2_with fail;go_roundw
     case rel=>exact⟨k+1,by go_num,by omega,.slice A7 (rs.length+1) c7,vc,Qq (by rw [iY.out,pA.out];exact bM.out.know bA.out L5.out Z7.out fM.out lF.out lP.out)⟩
     case measure=>simp [intOf];omega
    by_cases ho13:nn.op=13
    ·have xU:=Qq ho13;have WX:=Qq (show check (Ux s)=0/\check (Dx s)=0 by obtain⟨t,ht,hc,_⟩:=jN.out;rw [hc];exact Ql1 ht (by rw [<-hc,<-tW.out];exact ho13));have iY:=Qq (show ksK base (k+1)=ksK base k by rw [Qjk,<-YO.out,Qwo (by rw [<-tW.out];exact eD),List.append_nil]);have pA:=Qq (show csK base (k+1)=csK base k++ [⟨k,nn.g,Vq base (Ux s),Vq base (Dx s),Rv base s⟩] by rw [Qz5,<-YO.out,Zzr (by rw [<-tW.out];exact ho13),<-tW.out]);go_upto_region 16 with(fail);obtain⟨W3,gT⟩:∃W,W=w2.alloc (.cells #[.int .i64 13,.int .i64 nn.i,.int .i64 nn.e,.int .i64 nn.g,.int .i64 nn.x,.int .i64 nn.y] 71):=⟨_,rfl⟩
     have kH:Ext w2 W3:=by rw [gT];exact Qz.alloc _
     obtain⟨_,_,_,dL,_,_,vC⟩:=Qrm (w:=W3) (b:=w2.heap.size) (by rw [gT];exact heap_alloc_new _ _);have nQ:=Qq (QD.out.next kH);have oJ:=Qq kH;rw [<-gT];clear kH gT eD ho13;refine Eo (X16 W3 k nn.g (Vq base (Ux s)) (Vq base (Dx s))) ?_ ?_
     ·skip
      refine Yd 11 (fun w'=>w'.cell? (⟨w2.heap.size,3,none⟩)=some (.int .i64 nn.g)) (by kernel_rfl) (xd vC dL) (fun zZ=> ?_);refine utk 0 zZ ?_;refine utk 1 zZ ?_;refine utk 2 zZ ?_;refine utk 3 zZ ?_;refine utk 4 zZ ?_;refine utk 6 zZ ?_;refine utk 7 zZ ?_;refine Qa (rs:= [5,10]) (by kernel_rfl) (by simp) ?_;refine Zj.cons rfl (fun K hK=> ?_) (Zj.cons rfl (fun K hK=> ?_) Zj.nil)
      ·skip
       go_simp;refine(Rn b lg base (Vq base (Jo f)) (ksK base k) (csK base k) (List.replicate m false) _ (Ux s) _ (nQ.out.next xv).eng uS.out (by rw [List.length_replicate,sN.out]) ((WT.out.ext oJ.out).ext xv) WX.out.1).mono ?_;rintro e w6 ⟨gx,rfl,yV,sL⟩;have ZJ:Ext W3 w6:=Ext.trans xv yV;have lgx:=sL.lt
       (try simp at lgx)
       have Hgx:=Qq (sL.base_ (b':=W3.heap.size) (Ext.size (a:=W3) xv));have SV:=yV;clear sL yV;go_wp2_with fail;refine hK.out _ _ (xd vC dL) (fun zZ=> ?_);clear hK K;refine Qb ?_;refine Qa (rs:= [8,10]) (by kernel_rfl) (by simp) ?_;refine Zj.cons rfl (fun K hK=> ?_) (Zj.cons rfl (fun K hK=> ?_) Zj.nil)
       ·skip
        go_simp;refine(Rn b lg base (Vq base (Jo f)) (ksK base k) (csK base k) (List.replicate m false) _ (Dx s) _ (nQ.out.next xv).eng uS.out (by rw [List.length_replicate,sN.out]) ((QP.out.ext oJ.out).ext xv) WX.out.2).mono ?_;rintro e w7 ⟨gy,rfl,yV,sL⟩;have qC:Ext W3 w7:=Ext.trans xv yV;have lgy:=sL.lt
        (try simp at lgy)
        have Hgy:=Qq (sL.base_ (b':=W3.heap.size) (Ext.size (a:=W3) xv));have LH:=yV;have qD:Ext w6 w7:=Ext.trans xv yV;clear sL yV;go_wp2_with fail;refine hK.out _ _ (xd vC dL) (fun zZ=> ?_);clear hK K;refine Qb ?_;refine utk 9 zZ ?_;refine Qa (rs:= [10]) (by kernel_rfl) (by simp) ?_;refine Zj.cons rfl (fun K hK=> ?_) Zj.nil;go_simp;refine hK.out _ _ (xd vC dL) (fun zZ=> ?_);clear hK K;refine Qb ?_;refine Yt (by kernel_rfl) rfl (fun K hK=> ?_)
        first
        |have rU:Hid (w7.heap[w6.heap.size]?=some (.cells #[.int .i64 0,.int .i64 0,.slice none 0 0,.slice none 0 0,.int .u64 0] 138 (0,0))):=Qq ((LH.block (k:=w6.heap.size) (by simp)).trans (heap_alloc_new w6 (.cells #[.int .i64 0,.int .i64 0,.slice none 0 0,.slice none 0 0,.int .u64 0] 138)))
         obtain⟨⟨e0,e1,e2,e3,e4⟩,ef,el⟩:=Sa rU.out;have ef0:=ef 0;have ef1:=ef 1;have ef2:=ef 2;have ef3:=ef 3;have ef4:=ef 4;clear ef
        |have rU:Hid (w7.heap[W3.heap.size]?=some (.cells #[.int .i64 0,.int .i64 0,.slice none 0 0,.slice none 0 0,.int .u64 0] 138 (0,0))):=Qq ((qD.block (k:=W3.heap.size) (Qy (by simp) SV.size)).trans ((SV.block (k:=W3.heap.size) (by simp)).trans (heap_alloc_new W3.drew (.cells #[.int .i64 0,.int .i64 0,.slice none 0 0,.slice none 0 0,.int .u64 0] 138))))
         obtain⟨⟨e0,e1,e2,e3,e4⟩,ef,el⟩:=Sa rU.out;have ef0:=ef 0;have ef1:=ef 1;have ef2:=ef 2;have ef3:=ef 3;have ef4:=ef 4;clear ef
        |skip
        go_simp;refine hK.out _ _ ?_;clear hK K;refine Qb ?_;refine Ys (by kernel_rfl) ?_ _;apply Qbj (gx:=gx) (gy:=gy)
        ·simp only [Act.put,List.setIfInBounds_toArray,List.set_cons_zero,List.set_cons_succ];exact rfl
        first
        |exact⟨qC.alloc _,qC.size,by rw [Xb,Xb];exact heap_alloc_new _ _,(Hgx.out.ext qD).ext (Qz.alloc _),Hgy.out.ext (Qz.alloc _),by omega,by omega⟩
        |(have h:=CmI.fill (place:=k) (grp:=nn.g) qC (by have:=ZJ.size;omega) rU.out (Hgx.out.ext qD) Hgy.out (by omega) (by omega)
          rw [Xb,Xb]at h;exact h)
       skip
       go_simp;refine hK.out _ _ (xd vC dL) (fun zZ=> ?_);clear hK K;refine Qb ?_;refine Qa (rs:= [8]) (by kernel_rfl) (by simp) ?_;refine Zj.cons rfl (fun K hK=> ?_) Zj.nil;go_simp;refine(Rn b lg base (Vq base (Jo f)) (ksK base k) (csK base k) (List.replicate m false) _ (Dx s) _ (nQ.out.next xv).eng uS.out (by rw [List.length_replicate,sN.out]) ((QP.out.ext oJ.out).ext xv) WX.out.2).mono ?_;rintro e w7 ⟨gy,rfl,yV,sL⟩;have qC:Ext W3 w7:=Ext.trans xv yV;have lgy:=sL.lt
       (try simp at lgy)
       have Hgy:=Qq (sL.base_ (b':=W3.heap.size) (Ext.size (a:=W3) xv));have LH:=yV;have qD:Ext w6 w7:=Ext.trans xv yV;clear sL yV;go_wp2_with fail;refine hK.out _ _ (xd vC dL) (fun zZ=> ?_);clear hK K;refine Qb ?_;refine utk 9 zZ ?_;refine Yt (by kernel_rfl) rfl (fun K hK=> ?_)
       first
       |have rU:Hid (w7.heap[w6.heap.size]?=some (.cells #[.int .i64 0,.int .i64 0,.slice none 0 0,.slice none 0 0,.int .u64 0] 138 (0,0))):=Qq ((LH.block (k:=w6.heap.size) (by simp)).trans (heap_alloc_new w6 (.cells #[.int .i64 0,.int .i64 0,.slice none 0 0,.slice none 0 0,.int .u64 0] 138)))
        obtain⟨⟨e0,e1,e2,e3,e4⟩,ef,el⟩:=Sa rU.out;have ef0:=ef 0;have ef1:=ef 1;have ef2:=ef 2;have ef3:=ef 3;have ef4:=ef 4;clear ef
       |have rU:Hid (w7.heap[W3.heap.size]?=some (.cells #[.int .i64 0,.int .i64 0,.slice none 0 0,.slice none 0 0,.int .u64 0] 138 (0,0))):=Qq ((qD.block (k:=W3.heap.size) (Qy (by simp) SV.size)).trans ((SV.block (k:=W3.heap.size) (by simp)).trans (heap_alloc_new W3.drew (.cells #[.int .i64 0,.int .i64 0,.slice none 0 0,.slice none 0 0,.int .u64 0] 138))))
        obtain⟨⟨e0,e1,e2,e3,e4⟩,ef,el⟩:=Sa rU.out;have ef0:=ef 0;have ef1:=ef 1;have ef2:=ef 2;have ef3:=ef 3;have ef4:=ef 4;clear ef
       |skip
       go_simp;refine hK.out _ _ ?_;clear hK K;refine Qb ?_;refine Ys (by kernel_rfl) ?_ _;apply Qbj (gx:=gx) (gy:=gy)
       ·simp only [Act.put,List.setIfInBounds_toArray,List.set_cons_zero,List.set_cons_succ];exact rfl
       first
       |exact⟨qC.alloc _,qC.size,by rw [Xb,Xb];exact heap_alloc_new _ _,(Hgx.out.ext qD).ext (Qz.alloc _),Hgy.out.ext (Qz.alloc _),by omega,by omega⟩
       |(have h:=CmI.fill (place:=k) (grp:=nn.g) qC (by have:=ZJ.size;omega) rU.out (Hgx.out.ext qD) Hgy.out (by omega) (by omega)
         rw [Xb,Xb]at h;exact h)
      skip
      go_simp;refine hK.out _ _ (xd vC dL) (fun zZ=> ?_);clear hK K;refine Qb ?_;refine Qa (rs:= [5]) (by kernel_rfl) (by simp) ?_;refine Zj.cons rfl (fun K hK=> ?_) Zj.nil;go_simp;refine(Rn b lg base (Vq base (Jo f)) (ksK base k) (csK base k) (List.replicate m false) _ (Ux s) _ (nQ.out.next xv).eng uS.out (by rw [List.length_replicate,sN.out]) ((WT.out.ext oJ.out).ext xv) WX.out.1).mono ?_;rintro e w6 ⟨gx,rfl,yV,sL⟩;have ZJ:Ext W3 w6:=Ext.trans xv yV;have lgx:=sL.lt
      (try simp at lgx)
      have Hgx:=Qq (sL.base_ (b':=W3.heap.size) (Ext.size (a:=W3) xv));have SV:=yV;clear sL yV;go_wp2_with fail;refine hK.out _ _ (xd vC dL) (fun zZ=> ?_);clear hK K;refine Qb ?_;refine Qa (rs:= [8]) (by kernel_rfl) (by simp) ?_;refine Zj.cons rfl (fun K hK=> ?_) Zj.nil;go_simp;refine(Rn b lg base (Vq base (Jo f)) (ksK base k) (csK base k) (List.replicate m false) _ (Dx s) _ (nQ.out.next xv).eng uS.out (by rw [List.length_replicate,sN.out]) ((QP.out.ext oJ.out).ext xv) WX.out.2).mono ?_;rintro e w7 ⟨gy,rfl,yV,sL⟩;have qC:Ext W3 w7:=Ext.trans xv yV;have lgy:=sL.lt
      (try simp at lgy)
      have Hgy:=Qq (sL.base_ (b':=W3.heap.size) (Ext.size (a:=W3) xv));have LH:=yV;have qD:Ext w6 w7:=Ext.trans xv yV;clear sL yV;go_wp2_with fail;refine hK.out _ _ (xd vC dL) (fun zZ=> ?_);clear hK K;refine Qb ?_;refine utk 9 zZ ?_;refine Yt (by kernel_rfl) rfl (fun K hK=> ?_)
      first
      |have rU:Hid (w7.heap[w6.heap.size]?=some (.cells #[.int .i64 0,.int .i64 0,.slice none 0 0,.slice none 0 0,.int .u64 0] 138 (0,0))):=Qq ((LH.block (k:=w6.heap.size) (by simp)).trans (heap_alloc_new w6 (.cells #[.int .i64 0,.int .i64 0,.slice none 0 0,.slice none 0 0,.int .u64 0] 138)))
       obtain⟨⟨e0,e1,e2,e3,e4⟩,ef,el⟩:=Sa rU.out;have ef0:=ef 0;have ef1:=ef 1;have ef2:=ef 2;have ef3:=ef 3;have ef4:=ef 4;clear ef
      |have rU:Hid (w7.heap[W3.heap.size]?=some (.cells #[.int .i64 0,.int .i64 0,.slice none 0 0,.slice none 0 0,.int .u64 0] 138 (0,0))):=Qq ((qD.block (k:=W3.heap.size) (Qy (by simp) SV.size)).trans ((SV.block (k:=W3.heap.size) (by simp)).trans (heap_alloc_new W3.drew (.cells #[.int .i64 0,.int .i64 0,.slice none 0 0,.slice none 0 0,.int .u64 0] 138))))
       obtain⟨⟨e0,e1,e2,e3,e4⟩,ef,el⟩:=Sa rU.out;have ef0:=ef 0;have ef1:=ef 1;have ef2:=ef 2;have ef3:=ef 3;have ef4:=ef 4;clear ef
      |skip
      go_simp;refine hK.out _ _ ?_;clear hK K;refine Qb ?_;refine Ys (by kernel_rfl) ?_ _;apply Qbj (gx:=gx) (gy:=gy)
      ·simp only [Act.put,List.setIfInBounds_toArray,List.set_cons_zero,List.set_cons_succ];exact rfl
      first
      |exact⟨qC.alloc _,qC.size,by rw [Xb,Xb];exact heap_alloc_new _ _,(Hgx.out.ext qD).ext (Qz.alloc _),Hgy.out.ext (Qz.alloc _),by omega,by omega⟩
      |(have h:=CmI.fill (place:=k) (grp:=nn.g) qC (by have:=ZJ.size;omega) rU.out (Hgx.out.ext qD) Hgy.out (by omega) (by omega)
        rw [Xb,Xb]at h;exact h)
     rintro a' W4 ⟨B,gx,gy,xI,v81,v82,v83,v84,v85,v86,v87,v88,v89,v90,rfl⟩;have tS:=Qq xI;clear xI;simp only [Act.put,List.setIfInBounds_toArray,List.set_cons_zero,List.set_cons_succ];obtain⟨gn,vY,T1⟩:∃gn:Nat,nn.g=(gn:Int)/\gn < 16:=by obtain⟨t,ht,hc,_⟩:=jN.out;rw [tW.out,hc];exact Qgd ht (by rw [<-hc,<-tW.out];exact xU.out)
     have mZ:=Qq vY;have bS:=Qq (AK.out.ext (zR.out.trans oJ.out));have pR:=Qq (show s∈(Qm f).1 by rw [<-SQ.out];exact List.mem_of_getElem? nN.out);rw [vY]at dL tS;clear vY;obtain⟨wq,vD⟩:∃v,v=wr:=⟨_,rfl⟩;subst vD;go_wp2_with fail;go_loopw [91] (fun v wr=>∃q:Nat,v=.int .i64 (q:Int)/\q<=4/\Hid (CmI W3 wr B gx gy k (gn:Int) (Vq base (Ux s)) (Vq base (Dx s)) (pQ base s q))) (fun v _=>4 - (intOf v).toNat)
     case atStart=>exact⟨0,rfl,by omega,tS⟩
     case round =>
      obtain⟨q,rfl,hq,HC⟩:=hrel;have dl3:=(HC.out.ext.cell (p:=⟨w2.heap.size,3,none⟩) vC).trans dL;have DZ:w2.heap.size < wr.heap.size:=Qy vC HC.out.ext.size;by_cases RM:q < 4
      ·have RN:(q:Int) < 4:=by omega
       have tP:=Pq gn q (by omega);cases uE:gn.testBit q
       case true =>
        rw [uE]at tP;have lG:=Qq (show Vy (Zz s).g q=true by rw [<-tW.out,mZ.out];exact uE);have KT:=Qq (Zjq (base:=base) lG.out);obtain⟨j,hj,lU⟩:=Zjt zD.out.b pR.out (by rw [<-tW.out];exact xU.out) RM lG.out;rw [<-SQ.out]at lU;have SH:=Qq lU;have RO:=Zyo uS.out s q;obtain⟨pq,TL⟩:∃p,p=pQ base s q:=⟨_,rfl⟩;have HPE:=Qq TL;rw [<-TL]at HC KT RO;obtain⟨⟨_,_,_,_,z4⟩,zf,zl⟩:=Sa HC.out.cells;have zf4:=zf 4;have BX:=Zy1 (k:=j) (by omega);have MX:min j 64=j:=by omega
        have QX:=Qq (show bits .or .u64 (pq:Int) ((2:Int)^j)=((pq|||2^j:Nat):Int) by rw [show((2:Int)^j)=((2^j:Nat):Int) by simp];exact bits_or_u64_nat pq (2^j) RO (Qgo (by omega)));clear uE zf lU TL;go_upto_region 21 with(fail);refine Yd 10 (fun w'=>w'.cell? (⟨B,4,none⟩)=some (.int .u64 (pq:Int))) (by kernel_rfl) (xd zl z4) (fun zZ=> ?_);refine utk 0 zZ ?_;refine utk 1 zZ ?_;refine utk 2 zZ ?_;refine utk 3 zZ ?_;refine utk 4 zZ ?_;refine Qa (rs:= [5]) (by kernel_rfl) (by simp) ?_;refine Zj.cons rfl (fun K hK=> ?_) Zj.nil;go_simp;refine(Qzc (q:Int) ⟨by omega,by omega⟩ _ s _ (bS.out.ext (Ext.trans HC.out.ext xv)) rA).mono ?_
        rintro e w6 ⟨u6,rfl,JV⟩;have dD:=Qq JV;have uT:Ext wr w6:=Ext.trans xv JV.ext;obtain⟨A6,c6,rfl,_⟩:=Qh JV.fml;clear JV;go_wp2_with fail;refine hK.out _ _ (xd zl z4) (fun zZ=> ?_);clear hK K;refine Qb ?_;refine Qa (rs:= [6]) (by kernel_rfl) (by simp) ?_;refine Zj.cons rfl (fun K hK=> ?_) Zj.nil;go_simp;refine(Qq0 _ _ base (Ql2 (q:Int) s) _ (WR.out.ext (nQ.out.ext.trans (HC.out.ext.trans uT))) dD.out.fml).mono ?_;rintro e w7 ⟨rfl,yV⟩;have kG:Ext wr w7:=uT.trans yV;rw [Qfy (by rw [<-tW.out];exact xU.out),SH.out];have rS:=Qq kG;have y4:=(kG.cell (p:=⟨B,4,none⟩) zl).trans z4
        have yf:=(kG.frozen (p:=⟨B,4,none⟩) zl).trans zf4;have yl:B < w7.heap.size:=Qy zl kG.size;clear yV;go_wp2_with fail;refine hK.out _ _ (xd zl z4) (fun zZ=> ?_);clear hK K;refine Qb ?_;refine utk 7 zZ ?_;refine utk 8 zZ ?_;refine utk 9 zZ ?_;refine Yt (by kernel_rfl) rfl (fun K hK=> ?_);go_simp;refine hK.out _ _ ?_;clear hK K;refine Qb ?_;refine Ys (by kernel_rfl) ?_ _;go_wp2_with fail;go_roundw
        case rel=>exact⟨q+1,by go_num,by omega,Qq (by rw [QX.out,KT.out,SH.out,Int.toNat_natCast];exact(HC.out.next rS.out).set _)⟩
        case measure=>simp [intOf];omega
       case false =>
        rw [uE]at tP;have KT:=Qq (Zyi (base:=base) (show Vy (Zz s).g q=false by rw [<-tW.out,mZ.out];exact uE));clear uE;go_wp2_with fail;go_roundw
        case rel=>exact⟨q+1,by go_num,by omega,by rw [KT.out];exact HC⟩
        case measure=>simp [intOf];omega
      obtain rfl:q=4:=by omega
      have tY:=Qq (nQ.out.next HC.out.ext);obtain⟨⟨z0,z1,z2,z3,z4⟩,_,zl⟩:=Sa HC.out.cells;rw [Xb]at z2 z3;have cG:∀q,vc.ownBlock=some q->q < w2.heap.size:=fun q e=>by obtain⟨_,_,h1,_⟩:=QD.out.cm;exact(h1.lt q e).2
      have aU:=Qq (show vc.ownBlock≠some B from fun e=>by have h1:=cG B e;have h2:=HC.out.lo;have h3:=oJ.out.size;omega);clear cG;obtain⟨_,RR,_,_,yW⟩:=tY.out.reads;obtain⟨rs,lT,zP,xI⟩:=tY.out.cm;have bA:=Qq lT;have yJ:=Qq zP;have QS:=Qq xI;have wC:rs.length<=12:=by
       have h1:=Qml base k;rw [<-lT,List.length_map]at h1;omega
      clear lT zP xI;go_upto_region 23 with(fail);refine Yd 10 (fun w'=>w'.cell? (⟨b,4,none⟩)=some (vc)/\w'.cell? (⟨B,0,none⟩)=some (.int .i64 (k:Int))/\w'.cell? (⟨B,1,none⟩)=some (.int .i64 (gn:Int))/\w'.cell? (⟨B,2,none⟩)=some (.slice (some ⟨gx,0,none⟩) (2^base.length) (2^base.length))/\w'.cell? (⟨B,3,none⟩)=some (.slice (some ⟨gy,0,none⟩) (2^base.length) (2^base.length))/\w'.cell? (⟨B,4,none⟩)=some (.int .u64 ((pQ base s 4:Nat):Int))) (by kernel_rfl) ⟨xd yW RR,xd zl z0,xd zl z1,xd zl z2,xd zl z3,xd zl z4⟩ (fun zZ=> ?_);refine utk 0 zZ ?_;refine utk 1 zZ ?_;refine utk 2 zZ ?_
      refine utk 3 zZ ?_;refine utk 4 zZ ?_;refine utk 5 zZ ?_;refine Qa (rs:= [6]) (by kernel_rfl) (by simp) ?_;refine Zj.cons rfl (fun K hK=> ?_) Zj.nil;go_simp;refine hK.out _ _ ⟨xd yW RR,xd zl z0,xd zl z1,xd zl z2,xd zl z3,xd zl z4⟩ (fun zZ=> ?_);clear hK K;refine Qb ?_;refine Qa (rs:= [7]) (by kernel_rfl) (by simp) ?_;refine Zj.cons rfl (fun K hK=> ?_) Zj.nil;refine Gq rfl (.tmp 115) (.tmp 117) 91 rfl w1.heap.size 138 iC (.agg #[.int .i64 0,.int .i64 0,.slice none 0 0,.slice none 0 0,.int .u64 0]) 5 72 Tryz.underlying91 hiC BB BA AZ rfl (by decide) vc rs.length (rs.flatMap cmV) (by simp [Act.eval]) (Zf yJ.out xv) ⟨wr.heap.size,0,none⟩ 1 1 (cmV (⟨k,(gn:Int),Vq base (Ux s),Vq base (Dx s),pQ base s 4⟩,.slice (some ⟨gx,0,none⟩) (2^base.length) (2^base.length),.slice (some ⟨gy,0,none⟩) (2^base.length) (2^base.length))) (by simp [Act.eval]) rfl (by exact Zm _ _ _ rfl) (Zyy rfl rfl) (by unfold maxLen;omega) (by omega) (Qx tY.out.ext.size (by simp)) ?_
      intro v7 w7 zW zX zF;obtain⟨A7,c7,qZ⟩:=Qs zW;subst qZ;obtain⟨_,_,aL⟩:=Xd.grown_c (w:=wr.drew) (tY.out.next Qz.drew) zX;have X0:=Rp (w:=wr.drew) (p:=⟨B,0,none⟩) zX aU.out zl z0;have X1:=Rp (w:=wr.drew) (p:=⟨B,1,none⟩) zX aU.out zl z1;have X2:=Rp (w:=wr.drew) (p:=⟨B,2,none⟩) zX aU.out zl z2;have X3:=Rp (w:=wr.drew) (p:=⟨B,3,none⟩) zX aU.out zl z3;have X4:=Rp (w:=wr.drew) (p:=⟨B,4,none⟩) zX aU.out zl z4;obtain⟨⟨_,_,_,_,y4,_⟩,zfr,zlt⟩:=Vm aL;have zfr4:=zfr 4;have fM:=Qq zW;have lF:=Qq zX
      have lP:=Qq zF;clear zW zX zF aL zfr;refine hK.out _ _ ⟨y4,X0,X1,X2,X3,X4⟩ (fun zZ=> ?_);clear hK K;refine Qb ?_;refine Qa (rs:= [8]) (by kernel_rfl) (by simp) ?_;refine Zj.cons rfl (fun K hK=> ?_) Zj.nil;go_simp;refine hK.out _ _ ⟨y4,X0,X1,X2,X3,X4⟩ (fun zZ=> ?_);clear hK K;refine Qb ?_;refine utk 9 zZ ?_;refine Yt (by kernel_rfl) rfl (fun K hK=> ?_);go_simp;refine hK.out _ _ ?_;clear hK K;refine Qb ?_;refine Ys (by kernel_rfl) ?_ _;go_wp2_with fail;go_roundw
      case rel=>exact⟨k+1,by go_num,by omega,vk,.slice A7 (rs.length+1) c7,Qq (by
       rw [iY.out,pA.out,mZ.out];have hx:=nQ.out.fresh (w:=wr.drew) HC.out.rx;have hy:=nQ.out.fresh (w:=wr.drew) HC.out.ry;rw [Xb]at hx hy;exact Xd.comm (w:=wr.drew) (tY.out.next Qz.drew) bA.out QS.out hx hy fM.out lF.out lP.out)⟩
      case measure=>simp [intOf];omega
    have iY:=Qq (show ksK base (k+1)=ksK base k by rw [Qjk,<-YO.out,Qwo (by rw [<-tW.out];exact eD),List.append_nil]);have pA:=Qq (show csK base (k+1)=csK base k by rw [Qz5,<-YO.out,Qwc (by rw [<-tW.out];exact ho13),List.append_nil]);go_wp2_with fail;go_roundw
    case rel=>exact⟨k+1,by go_num,by omega,vk,vc,Qq (by rw [iY.out,pA.out];exact QD.out.next (Qz.alloc _))⟩
    case measure=>simp [intOf];omega
   obtain rfl:base.length=k:=by omega
   have IX:=Qq (show Fe wr b g lg base (Vq base (Jo f)) (Zl base) (Jl base) ((List.range 0).map (Vz lg (Zl base) (Jl base))++List.replicate (m - 0) false)from HI.out.engX);have oV:=Qq HI.out.ext;obtain⟨_,_,_,_,_,_,_,x5,xl⟩:=HI.out.engX.cells;rw [List.length_replicate]at x5;go_wp2_with fail;clear x5 xl;have tL:=Qq (show ∀k∈Zl base,k.place < 64/\k.holds.length=m from fun k hk=>by have:=Qr4 hk;rw [sN.out];have:=uS.out;omega);have lL:=Qq (show ∀c∈Jl base,c.place < 64/\c.parts < 18446744073709551616 from fun c hc=>by have:=Qor uS.out hc;have:=uS.out;omega)
   go_loopw [127] (fun v wr2=>∃t:Nat,v=.int .i64 (t:Int)/\t<=m/\Hid (Ext w1 wr2/\Fe wr2 b g lg base (Vq base (Jo f)) (Zl base) (Jl base) ((List.range t).map (Vz lg (Zl base) (Jl base))++List.replicate (m - t) false))) (fun v _=>m - (intOf v).toNat)
   case atStart=>exact⟨0,rfl,Nat.zero_le _,Qq ⟨oV.out,IX.out⟩⟩
   case round =>
    obtain⟨t,rfl,ht,HR⟩:=hrel;have pL:=Qq HR.out.1;have rL:=Qq HR.out.2;clear HR;have nT:=Qq (show((List.range t).map (Vz lg (Zl base) (Jl base))++List.replicate (m - t) false).length=m by rw [List.length_append,List.length_map,List.length_range,List.length_replicate];omega);by_cases yK:t < m
    ·have nH:(t:Int) < (m:Int):=by omega
     obtain⟨_,_,_,_,_,_,_,x5,xl⟩:=rL.out.cells;rw [nT.out]at x5;go_upto_region 28 with(fail);refine Yd 10 (fun w'=>w'.cell? (⟨b,5,none⟩)=some (.slice (some ⟨g,0,none⟩) m m)) (by kernel_rfl) (xd xl x5) (fun zZ=> ?_);refine utk 0 zZ ?_;refine utk 1 zZ ?_;refine utk 2 zZ ?_;refine utk 3 zZ ?_;refine utk 4 zZ ?_;refine utk 5 zZ ?_;refine utk 6 zZ ?_;refine utk 7 zZ ?_;refine Qa (rs:= [8]) (by kernel_rfl) (by simp) ?_;refine Zj.cons rfl (fun K hK=> ?_) Zj.nil;go_simp;have hwt:IntKind.u64.wrap (t:Int)=(t:Int):=by rw [IntKind.wrap_u64];omega
     rw [hwt];refine(Qbl b lg base (Vq base (Jo f)) (Zl base) (Jl base) _ t _ (rL.out.ext (Qz.drew)).eng (by omega) (fun k hk=>by have:=tL.out k hk;omega) (fun c hc=>by have:=lL.out c hc;omega)).mono ?_;rintro e w3 ⟨rfl,yV⟩;have hx:Ext wr w3:=(Qz.drew).trans yV;have zC:=Qq hx;have gfr:=(rL.out.ext hx).row.frozen t;have gc:w3.cell? ⟨g,t,none⟩=some (.bool false):=(rL.out.ext hx).row.cell (by rw [List.getElem?_append_right (by simp),List.length_map,List.length_range,Nat.sub_self,List.getElem?_replicate,if_pos (by omega)]);have gl:g < w3.heap.size:=(rL.out.ext hx).row.lt.2
     go_wp2_with fail;refine hK.out _ _ (xd xl x5) (fun zZ=> ?_);clear hK K;refine Qb ?_;refine utk 9 zZ ?_;refine Yt (by kernel_rfl) rfl (fun K hK=> ?_);go_simp;refine hK.out _ _ ?_;clear hK K;refine Qb ?_;refine Ys (by kernel_rfl) ?_ _;go_wp2_with fail;go_roundw
     case rel=>exact⟨t+1,by go_num,by omega,Qq ⟨(pL.out.trans zC.out).setCell (p:=⟨g,t,none⟩) JF.out.2 _,by
      have h1:=(rL.out.ext zC.out).set t (Vz lg (Zl base) (Jl base) t);rw [show m - t=(m - (t+1))+1 by omega,Qxw (by simp),<-Wd]at h1;exact h1⟩⟩
     case measure=>simp [intOf];omega
    obtain rfl:m=t:=by omega
    go_wp2_with fail;go_ret2;refine⟨zL.out.trans pL.out,.inr ⟨by rw [HE.out,<-wU.out],b,g,rfl,?_,?_,?_⟩⟩
    ·exact Qx zL.out.size JF.out.1
    ·exact Qx zL.out.size JF.out.2
    have h1:=rL.out;rw [Nat.sub_self,List.replicate_zero,List.append_nil]at h1;have e:(List.range m).map (Vz lg (Zl base) (Jl base))=Km lg base:=by unfold Km;rw [sN.out]
    rw [e]at h1;unfold Nx;rw [<-SQ.out];exact h1
 clear KH;have HZ:=Qq hz;go_enter Tryz.func59,Tryz.ntmps59;go_wp2_with fail;refine(Qbg _ f _ H.out).mono ?_;rintro e w1 ⟨u,rfl,zN,yF⟩;rw [<-vG];have zL:=Qq zN;have rL:=Qq vG;clear zN yF vG;go_wp2_with fail;go_ret2;exact⟨zL.out,.inl ⟨by rw [HE.out,<-rL.out];exact HZ.out,by rw [HE.out,<-rL.out] <;> rfl⟩⟩
end Go.Proofs.YtkmclcmnoicagaaGreatDoor
