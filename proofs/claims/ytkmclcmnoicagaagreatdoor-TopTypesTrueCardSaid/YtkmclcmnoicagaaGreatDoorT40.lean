/- types' newEngine: the walk. -/
import Derived.Test.YtkmclcmnoicagaaGreatDoorT37
import Derived.Test.YtkmclcmnoicagaaGreatDoorT39
namespace Go.Proofs.YtkmclcmnoicagaaGreatDoor
set_option maxRecDepth 100000
set_option maxHeartbeats 128000000
open Go.RowKit
def Qco(X:Act->World->Prop):Exit->Act->World->Prop
 |.normal,a,w=>X a w
 |_,_,_=>False
theorem Qzk {P:Program} {id:Nat} {ops:Array Oper} {md:Bool} {Q:Exit->Act->World->Prop} {a:Act} {w:World}(X:Act->Act->World->Prop)(h1:(Code.region id ops md).wp P (Qco (X a)) a w)(h2:∀a' w',X a a' w'->Q .normal a' w'):(Code.region id ops md).wp P Q a w :=
 wp_mono h1 fun e a w q=>by
  cases e <;> first|exact h2 _ _ q|exact q.elim
theorem Kw {bs:Nat} {wr:World} {g' B j:Nat} {u:Value} {l:List Bool}(hr:Vr bs wr g' l)(hne:g'≠B):Vr bs (wr.setCell ⟨B,j,none⟩ u) g' l:=Zi hr fun k hk=>by
 have e:k=g':=by injection hk with hk;exact hk.symm
 rw [e];exact Below.heap_setCell _ _ _ _ hne
structure CmI (w2 wr:World) (B gx gy:Nat) (place:Nat) (grp:Int) (lx ly:List Bool) (p:Nat):Prop where
 ext:Ext w2 wr
 lo:w2.heap.size<=B
 cells:wr.heap[B]?=some (.cells #[.int .i64 (place:Int),.int .i64 grp,.slice (some ⟨gx,0,none⟩) lx.length lx.length,.slice (some ⟨gy,0,none⟩) ly.length ly.length,.int .u64 (p:Int)] 138 (0,0))
 rx:Vr w2.heap.size wr gx lx
 ry:Vr w2.heap.size wr gy ly
 nx:gx≠B
 ny:gy≠B
section
variable {w2 wr W:World} {B gx gy place p:Nat} {grp:Int} {lx ly:List Bool}
theorem CmI.next(h:CmI w2 wr B gx gy place grp lx ly p)(he:Ext wr W):CmI w2 W B gx gy place grp lx ly p :=
 ⟨h.ext.trans he,h.lo,(he.block (Qm h.cells)).trans h.cells,h.rx.ext he,h.ry.ext he,h.nx,h.ny⟩
theorem CmI.set(h:CmI w2 wr B gx gy place grp lx ly p)(q:Nat):CmI w2 (wr.setCell ⟨B,4,none⟩ (.int .u64 (q:Int))) B gx gy place grp lx ly q:=by
 refine⟨h.ext.setCell (p:=⟨B,4,none⟩) h.lo _,h.lo,?_,Kw h.rx h.nx,Kw h.ry h.ny,h.nx,h.ny⟩;simp only [World.setCell,Array.getElem?_modify,h.cells,if_true,Option.map_some];simp
end
theorem CmI.fill {w2 wr:World} {B gx gy place:Nat} {grp:Int} {lx ly:List Bool} {a0 a1 a2 a3 a4:Value}(he:Ext w2 wr)(hlo:w2.heap.size<=B)(hb:wr.heap[B]?=some (.cells #[a0,a1,a2,a3,a4] 138 (0,0)))(hx:Vr w2.heap.size wr gx lx)(hy:Vr w2.heap.size wr gy ly)(nx:gx≠B)(ny:gy≠B):
 CmI w2 (((((wr.setCell ⟨B,0,none⟩ (.int .i64 (place:Int))).setCell ⟨B,1,none⟩ (.int .i64 grp)).setCell ⟨B,2,none⟩ (.slice (some ⟨gx,0,none⟩) lx.length lx.length)).setCell ⟨B,3,none⟩ (.slice (some ⟨gy,0,none⟩) ly.length ly.length)).setCell ⟨B,4,none⟩ (.int .u64 0)) B gx gy place grp lx ly 0:=by
 refine⟨((((he.setCell (p:=⟨B,0,none⟩) hlo _).setCell (p:=⟨B,1,none⟩) hlo _).setCell (p:=⟨B,2,none⟩) hlo _).setCell (p:=⟨B,3,none⟩) hlo _).setCell (p:=⟨B,4,none⟩) hlo _,hlo,?_,Kw (Kw (Kw (Kw (Kw hx nx) nx) nx) nx) nx,Kw (Kw (Kw (Kw (Kw hy ny) ny) ny) ny) ny,nx,ny⟩;simp only [World.setCell,Array.getElem?_modify,hb,if_true,Option.map_some];simp
theorem Rz {w:World} {b:Nat} {a0 a1 a2 a3 a4:Value} {t:TypeId}(h:w.heap[b]?=some (.cells #[a0,a1,a2,a3,a4] t (0,0))):
 (w.cell? ⟨b,0,none⟩=some a0/\w.cell? ⟨b,1,none⟩=some a1/\w.cell? ⟨b,2,none⟩=some a2/\w.cell? ⟨b,3,none⟩=some a3/\w.cell? ⟨b,4,none⟩=some a4)/\(∀j,w.frozen? ⟨b,j,none⟩=false)/\b < w.heap.size:=by
 refine⟨⟨by simp [World.cell?,h],by simp [World.cell?,h],by simp [World.cell?,h],by simp [World.cell?,h],by simp [World.cell?,h]⟩,fun j=> ?_,Qm h⟩;simp [World.frozen?,h]
def X16(W3:World)(k:Nat)(grp:Int)(lx ly:List Bool)(a a':Act)(w':World):Prop :=
 ∃B gx gy,CmI W3 w' B gx gy k grp lx ly 0/\∃v81 v82 v83 v84 v85 v86 v87 v88 v89 v90,a'=((((((((((a.put (some 81) v81).put (some 82) v82).put (some 83) v83).put (some 84) v84).put (some 85) v85).put (some 86) v86).put (some 87) v87).put (some 88) v88).put (some 89) v89).put (some 90) v90).put (some 14) (.pointer (some ⟨B,0,none⟩))
def Qos(w:World)(lg:Int)(f:List Nd)(e:Ending)(w':World):Prop :=
 Ext w w'/\((Zd lg f≠0/\e=.returned (.tuple #[.pointer none,.int .i64 (Zd lg f)]))\/(Zd lg f=0/\∃b g,e=.returned (.tuple #[.pointer (some ⟨b,0,none⟩),.int .i64 0])/\w.heap.size<=b/\w.heap.size<=g/\Uf w' b g lg (Qn f).1 (Xo f) (Zg (Qn f).1) (Zc (Qn f).1) (Yf lg (Qn f).1)))
theorem Qv3 {lg:Int} {f:List Nd}(h:Uo lg f):(Qn f).1.length<=12/\check (Jd f)=0:=⟨h.b.len,by rw [h.e];exact h.x.check⟩
def ksK(base:List (List Nd))(k:Nat):List Kn:=(List.range k).flatMap fun i=>Lz base (base.getD i []) i
def csK(base:List (List Nd))(k:Nat):List Cm:=(List.range k).flatMap fun i=>Sn base (base.getD i []) i
theorem Qqy(base:List (List Nd))(k:Nat):ksK base (k+1)=ksK base k++Lz base (base.getD k []) k:=by
 unfold ksK;rw [List.range_succ,List.flatMap_append,List.flatMap_singleton]
theorem Im(base:List (List Nd))(k:Nat):csK base (k+1)=csK base k++Sn base (base.getD k []) k:=by
 unfold csK;rw [List.range_succ,List.flatMap_append,List.flatMap_singleton]
theorem Qav {base:List (List Nd)} {g:List Nd} {i:Nat}(h:(Qi g).op≠9):Lz base g i= []:=by
 unfold Lz;rw [beq_eq_false_iff_ne.2 h];rfl
theorem Qaq {base:List (List Nd)} {g:List Nd} {i:Nat}(h:(Qi g).op≠13):Sn base g i= []:=by
 unfold Sn;rw [beq_eq_false_iff_ne.2 h];rfl
theorem Qde {base:List (List Nd)} {k:Kn}(h:k∈Zg base):k.place < base.length/\k.holds.length=2^base.length:=by
 obtain⟨i,hi,hk⟩:=List.mem_flatMap.1 h;have:=List.mem_range.1 hi;unfold Lz at hk;cases ho:(Qi (base.getD i [])).op==9
 ·rw [ho]at hk;cases hk
 rw [ho]at hk;rw [List.mem_singleton.1 hk];exact⟨this,by unfold Yr;rw [List.length_map,List.length_range]⟩
theorem Qvb(e:Nat->Nat)(he:∀x,e x < 64):∀(L:List Nat) (p:Nat),p < 18446744073709551616->L.foldl (fun p i=>p|||2^e i) p < 18446744073709551616
 |[],_,h=>h
 |x :: r,p,h=>Qvb e he r _ (by
  have h1:p < 2^64:=h;have h2:2^e x < 2^64:=Nat.pow_lt_pow_right (by decide) (he x);exact Nat.or_lt_two_pow h1 h2)
theorem Qa2 {base:List (List Nd)}(hl:base.length<=12) {c:Cm}(h:c∈Zc base):c.place < base.length/\c.parts < 18446744073709551616:=by
 obtain⟨i,hi,hk⟩:=List.mem_flatMap.1 h;have:=List.mem_range.1 hi;unfold Sn at hk;cases ho:(Qi (base.getD i [])).op==13
 ·rw [ho]at hk;cases hk
 rw [ho]at hk;rw [List.mem_singleton.1 hk];exact⟨this,Qvb (fun x=>(Yq base (Gl x (base.getD i []))).toNat) (fun x=>by have:=Ex hl (Gl x (base.getD i []));omega) _ _ (by decide)⟩
theorem Qiq {base:List (List Nd)} {g:List Nd} {i:Nat}(h:(Qi g).op=9):Lz base g i= [⟨(Qi g).i,i,Yr base (Gx g)⟩]:=by
 unfold Lz Gx;rw [h];rfl
theorem Qm2 {t:Tr}(ht:Xf t)(h:(Qi (Qf t)).op=9):check (Gx (Qf t))=0:=by
 have ho:=ht.last;rw [h]at ho;cases t with
 |leaf n =>
  have h1:=ht.xp.1.1.1;rw [show n.op=9 from ho.symm]at h1;cases h1
 |one n a =>
  obtain⟨_,_,_,e1,_⟩:=Qz6 ht.check ht.tree;unfold Gx;rw [h];show check (Jb _ _)=0;rw [e1];exact ht.of_one.check
 |two n a b =>
  have h1:=ht.xp.1.1.2.1;rw [show n.op=9 from ho.symm]at h1;cases h1
theorem Qo0 {base:List (List Nd)} {g:List Nd} {i:Nat}(h:(Qi g).op=13):Sn base g i= [⟨i,(Qi g).g,Yr base (Gx g),Yr base (Fi g),Ds base g⟩]:=by
 unfold Sn Gx Fi;rw [h];rfl
theorem Qso {t:Tr}(ht:Xf t)(h:(Qi (Qf t)).op=13):check (Gx (Qf t))=0/\check (Fi (Qf t))=0:=by
 have ho:=ht.last;rw [h]at ho;cases t with
 |leaf n =>
  have h1:=ht.xp.1.1.1;rw [show n.op=13 from ho.symm]at h1;cases h1
 |one n a =>
  have h1:=ht.xp.1.1.2.1;rw [show n.op=13 from ho.symm]at h1;cases h1
 |two n a b =>
  obtain⟨_,_,e1,e2⟩:=Nh ht.check ht.tree;unfold Gx Fi;rw [h];show check (Jb _ _)=0/\check (Jb _ _)=0;rw [e1,e2];exact⟨ht.of_two.1.check,ht.of_two.2.check⟩
theorem Qkr {k:Nat}(h:k < 64):2^k < 18446744073709551616:=Nat.pow_lt_pow_right (a:=2) (n:=64) (by decide) h
theorem Zq5 {k:Nat}(h:k < 64):IntKind.u64.wrap ((2:Int)^k)=((2^k:Nat):Int):=by
 rw [IntKind.wrap_u64,show((2:Int)^k)=((2^k:Nat):Int) by simp];have:=Qkr h;generalize 2^k=a at *;omega
def pQ(base:List (List Nd))(s:List Nd)(q:Nat):Nat:=((List.range q).filter fun i=>Yl (Qi s).g i).foldl (fun p i=>p|||2^(Yq base (Gl i s)).toNat) 0
theorem Qif {base:List (List Nd)} {s:List Nd} {q:Nat}(h:Yl (Qi s).g q=true):pQ base s (q+1)=pQ base s q|||2^(Yq base (Gl q s)).toNat:=by
 unfold pQ;rw [List.range_succ,List.filter_append,List.filter_cons,h,List.foldl_append];rfl
theorem Zq3 {base:List (List Nd)} {s:List Nd} {q:Nat}(h:Yl (Qi s).g q=false):pQ base s (q+1)=pQ base s q:=by
 unfold pQ;rw [List.range_succ,List.filter_append,List.filter_cons,h];simp
theorem Zq2 {base:List (List Nd)}(hl:base.length<=12)(s:List Nd)(q:Nat):pQ base s q < 18446744073709551616 :=
 Qvb (fun x=>(Yq base (Gl x s)).toNat) (fun x=>by have:=Ex hl (Gl x s);omega) _ _ (by decide)
theorem Qio {l:List (List Nd)} {t:Tr}(hB:Rl l t) {s:List Nd}(hs:s∈l)(ho:(Qi s).op=13) {i:Nat}(hi:i < 4)(hg:Yl (Qi s).g i=true):∃j:Nat,j < 12/\Yq l (Gl i s)=(j:Int):=by
 obtain⟨u,hu,rfl,_⟩:=hB.can s hs;have hop:=hu.last;rw [ho]at hop;obtain⟨n,a,b,rfl,_⟩:=Ce hu hop.symm;have hm:Tr.two n a b∈l.map Ql:=(Yt hB.can).2 ⟨hu,hs⟩;obtain⟨_,e2,_,_⟩:=Nh hu.check hu.tree;rw [e2]at hg;obtain⟨hx,hin⟩:=(Yt hB.can).1 ((hB.closed.com n a b hm).2.2.2.2.2 i hi hg);obtain⟨j,hj⟩:=List.getElem?_of_mem hin;refine⟨j,?_,?_⟩
 ·have:=(List.getElem?_eq_some_iff.1 hj).1;have:=hB.len;omega
 rw [hu.unf hi,hx.short];exact Xv hB.nodup hj
theorem Qv9 {t:Tr}(ht:Xf t)(h:(Qi (Qf t)).op=13):∃gn:Nat,(Qi (Qf t)).g=(gn:Int)/\gn < 16:=by
 have h1:=Dx ht.check (Qi (Qf t)) (List.mem_of_getElem? (Rb (Gv ht.xp.1.1)));obtain⟨a,b⟩:=Qz3 h1 (.inr h);exact⟨(Qi (Qf t)).g.toNat,by omega,by omega⟩
theorem Qtt(base:List (List Nd)):∀k,(csK base k).length<=k
 |0=>Nat.le_refl _
 |k+1=>by
  rw [Im,List.length_append];have h1:=Qtt base k;have h2:(Sn base (base.getD k []) k).length<=1:=by
   unfold Sn;cases(Qi (base.getD k [])).op==13
   ·exact Nat.zero_le _
   exact Nat.le_refl _
  omega
theorem Zqr {r:Cm×Value×Value}(h1:r.2.1.oneCell'=true)(h2:r.2.2.oneCell'=true):∀u∈cmV r,u.oneCell'=true:=by
 intro u hu;simp only [cmV,List.mem_cons,List.not_mem_nil,or_false]at hu;rcases hu with rfl|rfl|rfl|rfl|rfl
 ·rfl
 ·rfl
 ·exact h1
 ·exact h2
 rfl
theorem Qil:(Tryz.prog.info? 138).map (fun i=>(i.zero,i.size,i.bytes))=some (some (.agg #[.int .i64 0,.int .i64 0,.slice none 0 0,.slice none 0 0,.int .u64 0]),5,72):=by kernel_rfl
theorem Kp.grown_c {w1 w w4:World} {b g:Nat} {lg:Int} {base:List (List Nd)} {root:List Bool} {ks:List Kn} {cs:List Cm} {alive:List Bool} {vk vc:Value} {c:Obj}(h:Kp w1 w b g lg base root ks cs alive vk vc)(hg:(w.alloc c).grownBy w4 vc.ownBlock):
 ∃vb vr,w4.heap[b]?=some (.cells #[.int .i64 lg,vb,vr,vk,vc,.slice (some ⟨g,0,none⟩) alive.length alive.length] 93 (0,0)):=by
 obtain⟨vb,vr,hb,_⟩:=h.cells;exact⟨vb,vr,((hg.block b (by have:=h.blt;simp;omega) (fun e=>h.dc.1 e.symm)).trans (((Ext.refl w).alloc c).block h.blt)).trans hb⟩
theorem Qx2 {W3:World} {k:Nat} {grp:Int} {lx ly:List Bool} {a a':Act} {w':World} {B gx gy:Nat} {v81 v82 v83 v84 v85 v86 v87 v88 v89 v90:Value}
 (e:a'=((((((((((a.put (some 81) v81).put (some 82) v82).put (some 83) v83).put (some 84) v84).put (some 85) v85).put (some 86) v86).put (some 87) v87).put (some 88) v88).put (some 89) v89).put (some 90) v90).put (some 14) (.pointer (some ⟨B,0,none⟩)))(h:CmI W3 w' B gx gy k grp lx ly 0):X16 W3 k grp lx ly a a' w' :=
 ⟨B,gx,gy,h,v81,v82,v83,v84,v85,v86,v87,v88,v89,v90,e⟩
theorem Qll(base:List (List Nd)):∀k,(ksK base k).length<=k
 |0=>Nat.le_refl _
 |k+1=>by
  rw [Qqy,List.length_append];have h1:=Qll base k;have h2:(Lz base (base.getD k []) k).length<=1:=by
   unfold Lz;cases(Qi (base.getD k [])).op==9
   ·exact Nat.zero_le _
   exact Nat.le_refl _
  omega
theorem Zqi {r:Kn×Value}(hr:r.2.oneCell'=true):∀u∈knV r,u.oneCell'=true:=by
 intro u hu;simp only [knV,List.mem_cons,List.not_mem_nil,or_false]at hu;rcases hu with rfl|rfl|rfl
 ·rfl
 ·rfl
 exact hr
theorem Qip:(Tryz.prog.info? 136).map (fun i=>(i.zero,i.size,i.bytes))=some (some (.agg #[.int .i64 0,.int .i64 0,.slice none 0 0]),3,40):=by kernel_rfl
theorem Qdy {w:World} {b:Nat} {a0 a1 a2 a3 a4 a5:Value} {t:TypeId}(h:w.heap[b]?=some (.cells #[a0,a1,a2,a3,a4,a5] t (0,0))):
 w.cell? ⟨b,0,none⟩=some a0/\w.cell? ⟨b,1,none⟩=some a1/\w.cell? ⟨b,2,none⟩=some a2/\w.cell? ⟨b,3,none⟩=some a3/\w.cell? ⟨b,4,none⟩=some a4/\w.cell? ⟨b,5,none⟩=some a5/\b < w.heap.size :=
 ⟨by simp [World.cell?,h],by simp [World.cell?,h],by simp [World.cell?,h],by simp [World.cell?,h],by simp [World.cell?,h],by simp [World.cell?,h],Qm h⟩
theorem Dw {w w4:World} {c:Obj} {r:Option Nat} {p:Addr} {u:Value}(hg:(w.alloc c).grownBy w4 r)(hr:r≠some p.block)(hp:p.block < w.heap.size)(h:w.cell? p=some u):w4.cell? p=some u:=by
 have h1:w4.heap[p.block]?=w.heap[p.block]?:=(hg.block p.block (by simp;omega) (fun e=>hr e.symm)).trans (((Ext.refl w).alloc c).block hp);unfold World.cell? at h⊢;rw [h1];exact h
theorem Kp.grown_b {w1 w w4:World} {b g:Nat} {lg:Int} {base:List (List Nd)} {root:List Bool} {ks:List Kn} {cs:List Cm} {alive:List Bool} {vk vc:Value} {c:Obj}(h:Kp w1 w b g lg base root ks cs alive vk vc)(hg:(w.alloc c).grownBy w4 vk.ownBlock):
 ∃vb vr,w4.heap[b]?=some (.cells #[.int .i64 lg,vb,vr,vk,vc,.slice (some ⟨g,0,none⟩) alive.length alive.length] 93 (0,0)):=by
 obtain⟨vb,vr,hb,_⟩:=h.cells;exact⟨vb,vr,((hg.block b (by have:=h.blt;simp;omega) (fun e=>h.dk.1 e.symm)).trans (((Ext.refl w).alloc c).block h.blt)).trans hb⟩
theorem Gr(lg:Int)(v:Value)(f:List Nd)(w:World)(h:Fml w v f):
 Calls Tryz.prog 59 #[.int .i64 lg,v] w (Qos w lg f):=by
 have H:=Qq h;obtain⟨Af,cf,rfl,_⟩:=Qa h;obtain⟨iB,hiB,hzB0,hzB1,hzB2⟩:=info_parts Qfi;obtain⟨iK,hiK,hzK0,hzK1,hzK2⟩:=info_parts Qip;obtain⟨iC,hiC,hzC0,hzC1,hzC2⟩:=info_parts Qil;clear h;by_cases hlo:lg < 0
 ·have HE:=Qq (show Zd lg f=1 by unfold Zd;rw [decide_eq_true hlo];rfl);go_enter Tryz.func59,Tryz.ntmps59;go_wp2_with fail;go_ret2;exact⟨Qz,.inl ⟨by rw [HE.out];decide,by rw [HE.out] <;> rfl⟩⟩
 by_cases hhi:6 < lg
 ·have HE:=Qq (show Zd lg f=1 by unfold Zd;rw [decide_eq_true hhi,Bool.or_true];rfl);go_enter Tryz.func59,Tryz.ntmps59;go_wp2_with fail;go_ret2;exact⟨Qz,.inl ⟨by rw [HE.out];decide,by rw [HE.out] <;> rfl⟩⟩
 have HE:=Qq (show Zd lg f=(Qn f).2 by unfold Zd;rw [decide_eq_false hlo,decide_eq_false hhi];rfl);obtain⟨er,her⟩:∃er,er=(Qn f).2:=⟨_,rfl⟩;have HER:=Qq her;obtain⟨base,hbd⟩:∃x,x=(Qn f).1:=⟨_,rfl⟩;have HBD:=Qq hbd;by_cases hz:er=0
 ·subst hz;have HOK:=Qq (Sy (lg:=lg) (f:=f) (by rw [HE.out,<-her]));have HLEN:=Qq (show base.length<=12 by rw [HBD.out];exact(Qv3 HOK.out).1);have hp2:=Qxl HLEN.out;have hblen:=HLEN.out;obtain⟨m,hmm⟩:∃m,m=2^base.length:=⟨_,rfl⟩;have HMM:=Qq hmm;rw [<-hmm]at hp2;clear her hbd hmm;go_enter Tryz.func59,Tryz.ntmps59;go_wp2_with fail;refine(Qzt _ f _ H.out).mono ?_;rintro e w1 ⟨u,rfl,hx1,hfr⟩;rw [<-HER.out];rw [<-HBD.out]at hfr;have HX1:=Qq hx1;have HFR:=Qq hfr;have HFMS:=Qq hfr.fmls;obtain⟨Ab,cb,rfl,_⟩:=HFMS.out;clear hx1 hfr;have hwr:wrap64 ((2:Int)^base.length)=(m:Int):=by
   have e:((2:Int)^base.length)=(m:Int):=by rw [HMM.out,Int.natCast_pow];rfl
   rw [e];unfold wrap64;omega
  have HWR:=Qq hwr;clear hwr;go_wp2_with(refine wpList_make_full _ rfl _ _ 89 rfl w1.heap.size 4 iB (.bool false) 1 Tryz.underlying89 hiB hzB0 hzB1 .i64 .i64 _ _ m rfl rfl HWR.out HWR.out (by rw [hzB2];omega) (by unfold maxLen;omega) (by simp) ?_);intro W1 hrow1 hgr1;have HT:=Qq (show Vr w1.heap.size W1 w1.heap.size (List.replicate m false) by
   have h1:=hrow1;rw [Cy]at h1;unfold Vr;simp only [List.length_replicate];exact h1)
  have HXW:=Qq (show Ext w1 W1 from(Ext.refl w1).grown hgr1 (fun k e=>by cases e));clear hrow1 hgr1;have HNI:=Qq (Kp.start (w1:=w1) (lg:=lg) (vk:=.slice Ab base.length cb) (base:=base) (alive:=List.replicate m false) (b:=W1.heap.size) (g:=w1.heap.size) (HXW.out.alloc (.cells #[.int .i64 lg,.slice Ab base.length cb,.slice none 0 0,.slice none 0 0,.slice none 0 0,.slice (some ⟨w1.heap.size,0,none⟩) m m] 93)) ⟨HXW.out.size,by have:=HT.out.lt.2;omega⟩ (by rw [List.length_replicate];exact heap_alloc_new _ _) HFMS.out (HT.out.ext (Qz.alloc _)));have HCK:=Qq (Qv3 HOK.out).2;have HLG:=Qq (Ra (f:=f) HER.out.symm)
  have hbs:W1.heap.size < (W1.alloc (.cells #[.int .i64 lg,.slice Ab base.length cb,.slice none 0 0,.slice none 0 0,.slice none 0 0,.slice (some ⟨w1.heap.size,0,none⟩) m m] 93)).heap.size:=by simp
  go_upto_region 7 with(fail);obtain⟨W2,hW2⟩:∃W2,W2=(W1.alloc (.cells #[.int .i64 lg,.slice Ab base.length cb,.slice none 0 0,.slice none 0 0,.slice none 0 0,.slice (some ⟨w1.heap.size,0,none⟩) m m] 93)):=⟨_,rfl⟩;rw [<-hW2]at HNI hbs⊢;clear hW2;go_wp2_with fail;refine(Ht _ f _ (H.out.ext (HX1.out.trans HNI.out.ext)) HLG.out.1 (Nc HLG.out.1 HLG.out.2.1)).mono ?_;rintro e w3 ⟨ue,rfl,hfe,hx3⟩;have HFE:=Qq hfe;have HNI3:=Qq (HNI.out.next hx3);have HX3:=Qq hx3;obtain⟨Ae,ce,rfl,_⟩:=Qa hfe;clear hx3 hfe;go_wp2_with fail;refine(Dp _ lg base [] [] [] (List.replicate m false) _ (Jd f) _ HNI3.out.eng HLEN.out (by rw [List.length_replicate,HMM.out]) HFE.out HCK.out).mono ?_
  rintro e w4 ⟨gt,rfl,hx4,hbr⟩;have HNI4:=Qq (HNI3.out.next hx4);have HRT:=Qq (HNI3.out.fresh hbr);have HTL:=Qq (show(Yr base (Jd f)).length=2^base.length by unfold Yr;rw [List.length_map,List.length_range]);rw [HTL.out]at HRT;have HNI5:=Qq (HNI4.out.root_ HRT.out);clear hx4 hbr;obtain⟨_,_,hbb,_⟩:=HNI4.out.cells;obtain⟨⟨_,_,d2,_,_,_⟩,dfr,dlt⟩:=Yx hbb;have dfr2:=dfr 2;clear hbb dfr;go_upto_region 8 with(fail);obtain⟨w5,hw5⟩:∃w5,w5=w4.setCell ⟨W1.heap.size,2,none⟩ (.slice (some ⟨gt,0,none⟩) (2^base.length) (2^base.length)):=⟨_,rfl⟩;rw [<-hw5]at HNI5⊢;clear hw5 d2 dfr2 dlt;clear hbs;obtain⟨b,hb⟩:∃b,b=W1.heap.size:=⟨_,rfl⟩
  obtain⟨g,hg⟩:∃g,g=w1.heap.size:=⟨_,rfl⟩;have HBG:=Qq (show w1.heap.size<=b/\w1.heap.size<=g by rw [hb,hg];exact⟨HXW.out.size,Nat.le_refl _⟩);rw [<-hb,<-hg]at HNI5⊢;clear hb hg HNI HNI3 HNI4 HRT HT HXW HX3 HFE;go_wp2_with fail;go_loopw [48] (fun v wr=>∃k:Nat,v=.int .i64 (k:Int)/\k<=base.length/\∃vk vc,Hid (Kp w1 wr b g lg base (Yr base (Jd f)) (ksK base k) (csK base k) (List.replicate m false) vk vc)) (fun v _=>base.length - (intOf v).toNat)
  case atStart=>exact⟨0,rfl,Nat.zero_le _,_,_,HNI5⟩
  case round =>
   obtain⟨k,rfl,hk,vk,vc,HI⟩:=hrel;by_cases hlt2:k < base.length
   ·have hk1:(k:Int) < (base.length:Int):=by omega
    obtain⟨gB,cB,hsl,hcb1,hcb2⟩:=HFR.out.slice (by omega);injection hsl with e1 _ e3;subst e1;subst e3;obtain⟨s,hsd⟩:∃s,s=base.getD k []:=⟨_,rfl⟩;have hsk:base[k]?=some s:=by rw [hsd,Qk,Qv hlt2];rfl
    obtain⟨uk,hcell,hfk,hglt⟩:=HFR.out.get hsk;have hcellr:=(HI.out.ext.cell (p:=⟨gB,k,none⟩) hglt).trans hcell;have hglr:gB < wr.heap.size:=Qy hglt HI.out.ext.size;have HFK:=Qq (hfk.ext HI.out.ext);have HSD:=Qq hsd;have HSK:=Qq hsk;clear hcell hfk hsd hsk;have HXS:=Qq (show ∃t,Xf t/\s=Qf t/\Jm t.top=true from(by rw [HBD.out]at HSK;exact HOK.out.b.can s (List.mem_of_getElem? HSK.out)));have hs0:0 < s.length:=by
     obtain⟨t,ht,rfl,_⟩:=HXS.out;exact Gv ht.xp.1.1
    go_wp2_with fail;refine(Ca _ s _ HFK.out hs0).mono ?_;rintro e w2 ⟨u1,u2,rfl,hx2,hf1,hf2⟩;have HI2:=Qq (HI.out.next hx2);have HX2:=Qq hx2;have HF1:=Qq hf1;have HF2:=Qq hf2;obtain⟨nn,hnn⟩:∃nn,nn=Qi s:=⟨_,rfl⟩;have HNN:=Qq hnn;rw [<-hnn];unfold Nd.val;obtain⟨A1,c1,rfl,_⟩:=Qa hf1;obtain⟨A2,c2,rfl,_⟩:=Qa hf2;clear hx2 hf1 hf2 hnn;by_cases ho9:nn.op=9
    ·have HOP:=Qq ho9;have HCA:=Qq (show check (Gx s)=0 by obtain⟨t,ht,hc,_⟩:=HXS.out;rw [hc];exact Qm2 ht (by rw [<-hc,<-HNN.out];exact ho9));have HK1:=Qq (show ksK base (k+1)=ksK base k++ [⟨nn.i,k,Yr base (Gx s)⟩] by rw [Qqy,<-HSD.out,Qiq (by rw [<-HNN.out];exact ho9),<-HNN.out]);have HC1:=Qq (show csK base (k+1)=csK base k by rw [Im,<-HSD.out,Qaq (by rw [<-HNN.out,ho9];decide),List.append_nil]);go_upto_region 14 with(fail);obtain⟨W3,hW3⟩:∃W,W=w2.alloc (.cells #[.int .i64 9,.int .i64 nn.i,.int .i64 nn.e,.int .i64 nn.g,.int .i64 nn.x,.int .i64 nn.y] 71):=⟨_,rfl⟩;have hx23:Ext w2 W3:=by rw [hW3];exact Qz.alloc _
     obtain⟨_,hxn,_,_,_,_,hxl⟩:=Qdy (w:=W3) (b:=w2.heap.size) (by rw [hW3];exact heap_alloc_new _ _);have HI3:=Qq (HI2.out.next hx23);have HX23:=Qq hx23;have HLOK:=Qq (show ∀q,vk.ownBlock=some q->q < w2.heap.size from fun q e=>by obtain⟨_,_,h1,_⟩:=HI2.out.kn;exact(h1.lt q e).2);obtain⟨hk3,_,_,_,hbl⟩:=HI3.out.reads;rw [<-hW3];clear hx23 hW3 ho9;refine Vb 16 (fun w'=>w'.cell? (⟨b,3,none⟩)=some (vk)/\w'.cell? (⟨w2.heap.size,1,none⟩)=some (.int .i64 nn.i)) (by kernel_rfl) ⟨xd hbl hk3,xd hxl hxn⟩ (fun hHeld=> ?_);refine utk 0 hHeld ?_;refine utk 1 hHeld ?_;refine utk 2 hHeld ?_;refine utk 3 hHeld ?_
     refine utk 4 hHeld ?_;refine utk 5 hHeld ?_;refine utk 6 hHeld ?_;refine utk 7 hHeld ?_;refine utk 8 hHeld ?_;refine utk 9 hHeld ?_;refine Zs (rs:= [10]) (by kernel_rfl) (by simp) ?_;refine Za.cons rfl (fun K hK=> ?_) Za.nil;go_simp;refine(Dp b lg base (Yr base (Jd f)) (ksK base k) (csK base k) (List.replicate m false) _ (Gx s) _ (HI3.out.next (Qz.drew)).eng HLEN.out (by rw [List.length_replicate,HMM.out]) ((HF1.out.ext HX23.out).ext (Qz.drew)) HCA.out).mono ?_;rintro e w6 ⟨gh,rfl,hx0,hbr⟩;have hx6:Ext W3 w6:=(Qz.drew).trans hx0;have HNI6:=Qq (HI3.out.next hx6);have HRH:=Qq ((HI3.out.next (Qz.drew)).fresh (w:=w6) hbr)
     rw [Km]at HRH;obtain⟨rs,hrs,hrow,hkn⟩:=HNI6.out.kn;have HRS:=Qq hrs;have HROW:=Qq hrow;have HKN:=Qq hkn;have hrl:rs.length<=12:=by
      have h1:=Qll base k;rw [<-hrs,List.length_map]at h1;omega
     clear hrs hrow hkn hbr hx0;go_wp2_with fail;refine hK.out _ _ ⟨xd hbl hk3,xd hxl hxn⟩ (fun hHeld=> ?_);clear hK K;refine Qb ?_;refine utk 11 hHeld ?_;refine Zs (rs:= [12]) (by kernel_rfl) (by simp) ?_;refine Za.cons rfl (fun K hK=> ?_) Za.nil;go_simp;refine hK.out _ _ ⟨xd hbl hk3,xd hxl hxn⟩ (fun hHeld=> ?_);clear hK K;refine Qb ?_;refine Zs (rs:= [13]) (by kernel_rfl) (by simp) ?_;refine Za.cons rfl (fun K hK=> ?_) Za.nil;refine Tq rfl (.tmp 67) (.tmp 75) 90 rfl w1.heap.size 136 iK (.agg #[.int .i64 0,.int .i64 0,.slice none 0 0]) 3 40 Tryz.underlying90 hiK hzK0 hzK1 hzK2 rfl (by decide) vk rs.length (rs.flatMap knV) (by simp [Act.eval]) (Zf HROW.out xv) ⟨w6.heap.size,0,none⟩ 1 1 (knV (⟨nn.i,k,Yr base (Gx s)⟩,.slice (some ⟨gh,0,none⟩) (2^base.length) (2^base.length))) (by simp [Act.eval]) rfl (by exact Jq _ _ _ rfl) (Zqi rfl) (by unfold maxLen;omega) (by omega) (Qx HNI6.out.ext.size (by simp)) ?_
     intro v7 w7 hown7 hgrow7 hat7;obtain⟨A7,c7,hv7⟩:=Qt hown7;subst hv7;have hat7':=hat7;have HEB:=Qq (HNI6.out.grown_b hgrow7);have HXB:=Qq (Dw (p:=⟨w2.heap.size,1,none⟩) hgrow7 (fun e=>absurd (HLOK.out _ e) (Nat.lt_irrefl _)) (by have:=hx6.size;omega:w2.heap.size < w6.heap.size) ((hx6.cell (p:=⟨w2.heap.size,1,none⟩) hxl).trans hxn));obtain⟨_,_,hb7⟩:=HEB.out;obtain⟨⟨_,_,_,z3,_,_⟩,zfr,zlt⟩:=Yx hb7;have zfr3:=zfr 3;have HOWN7:=Qq hown7;have HGROW7:=Qq hgrow7;have HAT7:=Qq hat7;clear hown7 hgrow7 hat7 hat7' hb7 zfr;refine hK.out _ _ ⟨z3,HXB.out⟩ (fun hHeld=> ?_);clear hK K;refine Qb ?_
     refine Zs (rs:= [14]) (by kernel_rfl) (by simp) ?_;refine Za.cons rfl (fun K hK=> ?_) Za.nil;go_simp;refine hK.out _ _ ⟨z3,HXB.out⟩ (fun hHeld=> ?_);clear hK K;refine Qb ?_;refine utk 15 hHeld ?_;refine Vk (by kernel_rfl) rfl (fun K hK=> ?_);go_simp;refine hK.out _ _ ?_;clear hK K;refine Qb ?_;refine Vv (by kernel_rfl) ?_ _;go_wp2_with fail;go_roundw
     case rel=>exact⟨k+1,by go_num,by omega,.slice A7 (rs.length+1) c7,vc,Qq (by rw [HK1.out,HC1.out];exact HNI6.out.know HRS.out HKN.out HRH.out HOWN7.out HGROW7.out HAT7.out)⟩
     case measure=>simp [intOf];omega
    by_cases ho13:nn.op=13
    ·have HOP:=Qq ho13;have HCA:=Qq (show check (Gx s)=0/\check (Fi s)=0 by obtain⟨t,ht,hc,_⟩:=HXS.out;rw [hc];exact Qso ht (by rw [<-hc,<-HNN.out];exact ho13));have HK1:=Qq (show ksK base (k+1)=ksK base k by rw [Qqy,<-HSD.out,Qav (by rw [<-HNN.out];exact ho9),List.append_nil]);have HC1:=Qq (show csK base (k+1)=csK base k++ [⟨k,nn.g,Yr base (Gx s),Yr base (Fi s),Ds base s⟩] by rw [Im,<-HSD.out,Qo0 (by rw [<-HNN.out];exact ho13),<-HNN.out]);go_upto_region 16 with(fail);obtain⟨W3,hW3⟩:∃W,W=w2.alloc (.cells #[.int .i64 13,.int .i64 nn.i,.int .i64 nn.e,.int .i64 nn.g,.int .i64 nn.x,.int .i64 nn.y] 71):=⟨_,rfl⟩
     have hx23:Ext w2 W3:=by rw [hW3];exact Qz.alloc _
     obtain⟨_,_,_,hxg,_,_,hxl⟩:=Qdy (w:=W3) (b:=w2.heap.size) (by rw [hW3];exact heap_alloc_new _ _);have HI3:=Qq (HI2.out.next hx23);have HX23:=Qq hx23;rw [<-hW3];clear hx23 hW3 ho9 ho13;refine Qzk (X16 W3 k nn.g (Yr base (Gx s)) (Yr base (Fi s))) ?_ ?_
     ·skip
      refine Vb 11 (fun w'=>w'.cell? (⟨w2.heap.size,3,none⟩)=some (.int .i64 nn.g)) (by kernel_rfl) (xd hxl hxg) (fun hHeld=> ?_);refine utk 0 hHeld ?_;refine utk 1 hHeld ?_;refine utk 2 hHeld ?_;refine utk 3 hHeld ?_;refine utk 4 hHeld ?_;refine utk 6 hHeld ?_;refine utk 7 hHeld ?_;refine Zs (rs:= [5,10]) (by kernel_rfl) (by simp) ?_;refine Za.cons rfl (fun K hK=> ?_) (Za.cons rfl (fun K hK=> ?_) Za.nil)
      ·skip
       go_simp;refine(Dp b lg base (Yr base (Jd f)) (ksK base k) (csK base k) (List.replicate m false) _ (Gx s) _ (HI3.out.next xv).eng HLEN.out (by rw [List.length_replicate,HMM.out]) ((HF1.out.ext HX23.out).ext xv) HCA.out.1).mono ?_;rintro e w6 ⟨gx,rfl,hx0,hbr⟩;have hxw6:Ext W3 w6:=Ext.trans xv hx0;have lgx:=hbr.lt
       (try simp at lgx)
       have Hgx:=Qq (hbr.base_ (b':=W3.heap.size) (Ext.size (a:=W3) xv));have hxA:=hx0;clear hbr hx0;go_wp2_with fail;refine hK.out _ _ (xd hxl hxg) (fun hHeld=> ?_);clear hK K;refine Qb ?_;refine Zs (rs:= [8,10]) (by kernel_rfl) (by simp) ?_;refine Za.cons rfl (fun K hK=> ?_) (Za.cons rfl (fun K hK=> ?_) Za.nil)
       ·skip
        go_simp;refine(Dp b lg base (Yr base (Jd f)) (ksK base k) (csK base k) (List.replicate m false) _ (Fi s) _ (HI3.out.next xv).eng HLEN.out (by rw [List.length_replicate,HMM.out]) ((HF2.out.ext HX23.out).ext xv) HCA.out.2).mono ?_;rintro e w7 ⟨gy,rfl,hx0,hbr⟩;have hxw7:Ext W3 w7:=Ext.trans xv hx0;have lgy:=hbr.lt
        (try simp at lgy)
        have Hgy:=Qq (hbr.base_ (b':=W3.heap.size) (Ext.size (a:=W3) xv));have hxB:=hx0;have hx67:Ext w6 w7:=Ext.trans xv hx0;clear hbr hx0;go_wp2_with fail;refine hK.out _ _ (xd hxl hxg) (fun hHeld=> ?_);clear hK K;refine Qb ?_;refine utk 9 hHeld ?_;refine Zs (rs:= [10]) (by kernel_rfl) (by simp) ?_;refine Za.cons rfl (fun K hK=> ?_) Za.nil;go_simp;refine hK.out _ _ (xd hxl hxg) (fun hHeld=> ?_);clear hK K;refine Qb ?_;refine Vk (by kernel_rfl) rfl (fun K hK=> ?_)
        first
        |have HBB:Hid (w7.heap[w6.heap.size]?=some (.cells #[.int .i64 0,.int .i64 0,.slice none 0 0,.slice none 0 0,.int .u64 0] 138 (0,0))):=Qq ((hxB.block (k:=w6.heap.size) (by simp)).trans (heap_alloc_new w6 (.cells #[.int .i64 0,.int .i64 0,.slice none 0 0,.slice none 0 0,.int .u64 0] 138)))
         obtain⟨⟨e0,e1,e2,e3,e4⟩,ef,el⟩:=Rz HBB.out;have ef0:=ef 0;have ef1:=ef 1;have ef2:=ef 2;have ef3:=ef 3;have ef4:=ef 4;clear ef
        |have HBB:Hid (w7.heap[W3.heap.size]?=some (.cells #[.int .i64 0,.int .i64 0,.slice none 0 0,.slice none 0 0,.int .u64 0] 138 (0,0))):=Qq ((hx67.block (k:=W3.heap.size) (Qy (by simp) hxA.size)).trans ((hxA.block (k:=W3.heap.size) (by simp)).trans (heap_alloc_new W3.drew (.cells #[.int .i64 0,.int .i64 0,.slice none 0 0,.slice none 0 0,.int .u64 0] 138))))
         obtain⟨⟨e0,e1,e2,e3,e4⟩,ef,el⟩:=Rz HBB.out;have ef0:=ef 0;have ef1:=ef 1;have ef2:=ef 2;have ef3:=ef 3;have ef4:=ef 4;clear ef
        |skip
        go_simp;refine hK.out _ _ ?_;clear hK K;refine Qb ?_;refine Vv (by kernel_rfl) ?_ _;apply Qx2 (gx:=gx) (gy:=gy)
        ·simp only [Act.put,List.setIfInBounds_toArray,List.set_cons_zero,List.set_cons_succ];exact rfl
        first
        |exact⟨hxw7.alloc _,hxw7.size,by rw [Km,Km];exact heap_alloc_new _ _,(Hgx.out.ext hx67).ext (Qz.alloc _),Hgy.out.ext (Qz.alloc _),by omega,by omega⟩
        |(have h:=CmI.fill (place:=k) (grp:=nn.g) hxw7 (by have:=hxw6.size;omega) HBB.out (Hgx.out.ext hx67) Hgy.out (by omega) (by omega)
          rw [Km,Km]at h;exact h)
       skip
       go_simp;refine hK.out _ _ (xd hxl hxg) (fun hHeld=> ?_);clear hK K;refine Qb ?_;refine Zs (rs:= [8]) (by kernel_rfl) (by simp) ?_;refine Za.cons rfl (fun K hK=> ?_) Za.nil;go_simp;refine(Dp b lg base (Yr base (Jd f)) (ksK base k) (csK base k) (List.replicate m false) _ (Fi s) _ (HI3.out.next xv).eng HLEN.out (by rw [List.length_replicate,HMM.out]) ((HF2.out.ext HX23.out).ext xv) HCA.out.2).mono ?_;rintro e w7 ⟨gy,rfl,hx0,hbr⟩;have hxw7:Ext W3 w7:=Ext.trans xv hx0;have lgy:=hbr.lt
       (try simp at lgy)
       have Hgy:=Qq (hbr.base_ (b':=W3.heap.size) (Ext.size (a:=W3) xv));have hxB:=hx0;have hx67:Ext w6 w7:=Ext.trans xv hx0;clear hbr hx0;go_wp2_with fail;refine hK.out _ _ (xd hxl hxg) (fun hHeld=> ?_);clear hK K;refine Qb ?_;refine utk 9 hHeld ?_;refine Vk (by kernel_rfl) rfl (fun K hK=> ?_)
       first
       |have HBB:Hid (w7.heap[w6.heap.size]?=some (.cells #[.int .i64 0,.int .i64 0,.slice none 0 0,.slice none 0 0,.int .u64 0] 138 (0,0))):=Qq ((hxB.block (k:=w6.heap.size) (by simp)).trans (heap_alloc_new w6 (.cells #[.int .i64 0,.int .i64 0,.slice none 0 0,.slice none 0 0,.int .u64 0] 138)))
        obtain⟨⟨e0,e1,e2,e3,e4⟩,ef,el⟩:=Rz HBB.out;have ef0:=ef 0;have ef1:=ef 1;have ef2:=ef 2;have ef3:=ef 3;have ef4:=ef 4;clear ef
       |have HBB:Hid (w7.heap[W3.heap.size]?=some (.cells #[.int .i64 0,.int .i64 0,.slice none 0 0,.slice none 0 0,.int .u64 0] 138 (0,0))):=Qq ((hx67.block (k:=W3.heap.size) (Qy (by simp) hxA.size)).trans ((hxA.block (k:=W3.heap.size) (by simp)).trans (heap_alloc_new W3.drew (.cells #[.int .i64 0,.int .i64 0,.slice none 0 0,.slice none 0 0,.int .u64 0] 138))))
        obtain⟨⟨e0,e1,e2,e3,e4⟩,ef,el⟩:=Rz HBB.out;have ef0:=ef 0;have ef1:=ef 1;have ef2:=ef 2;have ef3:=ef 3;have ef4:=ef 4;clear ef
       |skip
       go_simp;refine hK.out _ _ ?_;clear hK K;refine Qb ?_;refine Vv (by kernel_rfl) ?_ _;apply Qx2 (gx:=gx) (gy:=gy)
       ·simp only [Act.put,List.setIfInBounds_toArray,List.set_cons_zero,List.set_cons_succ];exact rfl
       first
       |exact⟨hxw7.alloc _,hxw7.size,by rw [Km,Km];exact heap_alloc_new _ _,(Hgx.out.ext hx67).ext (Qz.alloc _),Hgy.out.ext (Qz.alloc _),by omega,by omega⟩
       |(have h:=CmI.fill (place:=k) (grp:=nn.g) hxw7 (by have:=hxw6.size;omega) HBB.out (Hgx.out.ext hx67) Hgy.out (by omega) (by omega)
         rw [Km,Km]at h;exact h)
      skip
      go_simp;refine hK.out _ _ (xd hxl hxg) (fun hHeld=> ?_);clear hK K;refine Qb ?_;refine Zs (rs:= [5]) (by kernel_rfl) (by simp) ?_;refine Za.cons rfl (fun K hK=> ?_) Za.nil;go_simp;refine(Dp b lg base (Yr base (Jd f)) (ksK base k) (csK base k) (List.replicate m false) _ (Gx s) _ (HI3.out.next xv).eng HLEN.out (by rw [List.length_replicate,HMM.out]) ((HF1.out.ext HX23.out).ext xv) HCA.out.1).mono ?_;rintro e w6 ⟨gx,rfl,hx0,hbr⟩;have hxw6:Ext W3 w6:=Ext.trans xv hx0;have lgx:=hbr.lt
      (try simp at lgx)
      have Hgx:=Qq (hbr.base_ (b':=W3.heap.size) (Ext.size (a:=W3) xv));have hxA:=hx0;clear hbr hx0;go_wp2_with fail;refine hK.out _ _ (xd hxl hxg) (fun hHeld=> ?_);clear hK K;refine Qb ?_;refine Zs (rs:= [8]) (by kernel_rfl) (by simp) ?_;refine Za.cons rfl (fun K hK=> ?_) Za.nil;go_simp;refine(Dp b lg base (Yr base (Jd f)) (ksK base k) (csK base k) (List.replicate m false) _ (Fi s) _ (HI3.out.next xv).eng HLEN.out (by rw [List.length_replicate,HMM.out]) ((HF2.out.ext HX23.out).ext xv) HCA.out.2).mono ?_;rintro e w7 ⟨gy,rfl,hx0,hbr⟩;have hxw7:Ext W3 w7:=Ext.trans xv hx0;have lgy:=hbr.lt
      (try simp at lgy)
      have Hgy:=Qq (hbr.base_ (b':=W3.heap.size) (Ext.size (a:=W3) xv));have hxB:=hx0;have hx67:Ext w6 w7:=Ext.trans xv hx0;clear hbr hx0;go_wp2_with fail;refine hK.out _ _ (xd hxl hxg) (fun hHeld=> ?_);clear hK K;refine Qb ?_;refine utk 9 hHeld ?_;refine Vk (by kernel_rfl) rfl (fun K hK=> ?_)
      first
      |have HBB:Hid (w7.heap[w6.heap.size]?=some (.cells #[.int .i64 0,.int .i64 0,.slice none 0 0,.slice none 0 0,.int .u64 0] 138 (0,0))):=Qq ((hxB.block (k:=w6.heap.size) (by simp)).trans (heap_alloc_new w6 (.cells #[.int .i64 0,.int .i64 0,.slice none 0 0,.slice none 0 0,.int .u64 0] 138)))
       obtain⟨⟨e0,e1,e2,e3,e4⟩,ef,el⟩:=Rz HBB.out;have ef0:=ef 0;have ef1:=ef 1;have ef2:=ef 2;have ef3:=ef 3;have ef4:=ef 4;clear ef
      |have HBB:Hid (w7.heap[W3.heap.size]?=some (.cells #[.int .i64 0,.int .i64 0,.slice none 0 0,.slice none 0 0,.int .u64 0] 138 (0,0))):=Qq ((hx67.block (k:=W3.heap.size) (Qy (by simp) hxA.size)).trans ((hxA.block (k:=W3.heap.size) (by simp)).trans (heap_alloc_new W3.drew (.cells #[.int .i64 0,.int .i64 0,.slice none 0 0,.slice none 0 0,.int .u64 0] 138))))
       obtain⟨⟨e0,e1,e2,e3,e4⟩,ef,el⟩:=Rz HBB.out;have ef0:=ef 0;have ef1:=ef 1;have ef2:=ef 2;have ef3:=ef 3;have ef4:=ef 4;clear ef
      |skip
      go_simp;refine hK.out _ _ ?_;clear hK K;refine Qb ?_;refine Vv (by kernel_rfl) ?_ _;apply Qx2 (gx:=gx) (gy:=gy)
      ·simp only [Act.put,List.setIfInBounds_toArray,List.set_cons_zero,List.set_cons_succ];exact rfl
      first
      |exact⟨hxw7.alloc _,hxw7.size,by rw [Km,Km];exact heap_alloc_new _ _,(Hgx.out.ext hx67).ext (Qz.alloc _),Hgy.out.ext (Qz.alloc _),by omega,by omega⟩
      |(have h:=CmI.fill (place:=k) (grp:=nn.g) hxw7 (by have:=hxw6.size;omega) HBB.out (Hgx.out.ext hx67) Hgy.out (by omega) (by omega)
        rw [Km,Km]at h;exact h)
     rintro a' W4 ⟨B,gx,gy,hcm,v81,v82,v83,v84,v85,v86,v87,v88,v89,v90,rfl⟩;have HCM:=Qq hcm;clear hcm;simp only [Act.put,List.setIfInBounds_toArray,List.set_cons_zero,List.set_cons_succ];obtain⟨gn,hgn,hgn16⟩:∃gn:Nat,nn.g=(gn:Int)/\gn < 16:=by obtain⟨t,ht,hc,_⟩:=HXS.out;rw [HNN.out,hc];exact Qv9 ht (by rw [<-hc,<-HNN.out];exact HOP.out)
     have HGN:=Qq hgn;have HFS:=Qq (HFK.out.ext (HX2.out.trans HX23.out));have HMEM:=Qq (show s∈(Qn f).1 by rw [<-HBD.out];exact List.mem_of_getElem? HSK.out);rw [hgn]at hxg HCM;clear hgn;obtain⟨wq,hwq⟩:∃v,v=wr:=⟨_,rfl⟩;subst hwq;go_wp2_with fail;go_loopw [91] (fun v wr=>∃q:Nat,v=.int .i64 (q:Int)/\q<=4/\Hid (CmI W3 wr B gx gy k (gn:Int) (Yr base (Gx s)) (Yr base (Fi s)) (pQ base s q))) (fun v _=>4 - (intOf v).toNat)
     case atStart=>exact⟨0,rfl,by omega,HCM⟩
     case round =>
      obtain⟨q,rfl,hq,HC⟩:=hrel;have dl3:=(HC.out.ext.cell (p:=⟨w2.heap.size,3,none⟩) hxl).trans hxg;have hdlt:w2.heap.size < wr.heap.size:=Qy hxl HC.out.ext.size;by_cases hq4:q < 4
      ·have hq1:(q:Int) < 4:=by omega
       have hbt:=Lj gn q (by omega);cases hgb:gn.testBit q
       case true =>
        rw [hgb]at hbt;have HGB:=Qq (show Yl (Qi s).g q=true by rw [<-HNN.out,HGN.out];exact hgb);have HPQ:=Qq (Qif (base:=base) HGB.out);obtain⟨j,hj,hpl⟩:=Qio HOK.out.b HMEM.out (by rw [<-HNN.out];exact HOP.out) hq4 HGB.out;rw [<-HBD.out]at hpl;have HPL:=Qq hpl;have hpq:=Zq2 HLEN.out s q;obtain⟨pq,hpqe⟩:∃p,p=pQ base s q:=⟨_,rfl⟩;have HPE:=Qq hpqe;rw [<-hpqe]at HC HPQ hpq;obtain⟨⟨_,_,_,_,z4⟩,zf,zl⟩:=Rz HC.out.cells;have zf4:=zf 4;have BX:=Zq5 (k:=j) (by omega);have MX:min j 64=j:=by omega
        have HBO:=Qq (show bits .or .u64 (pq:Int) ((2:Int)^j)=((pq|||2^j:Nat):Int) by rw [show((2:Int)^j)=((2^j:Nat):Int) by simp];exact bits_or_u64_nat pq (2^j) hpq (Qkr (by omega)));clear hgb zf hpl hpqe;go_upto_region 21 with(fail);refine Vb 10 (fun w'=>w'.cell? (⟨B,4,none⟩)=some (.int .u64 (pq:Int))) (by kernel_rfl) (xd zl z4) (fun hHeld=> ?_);refine utk 0 hHeld ?_;refine utk 1 hHeld ?_;refine utk 2 hHeld ?_;refine utk 3 hHeld ?_;refine utk 4 hHeld ?_;refine Zs (rs:= [5]) (by kernel_rfl) (by simp) ?_;refine Za.cons rfl (fun K hK=> ?_) Za.nil;go_simp;refine(Ik (q:Int) ⟨by omega,by omega⟩ _ s _ (HFS.out.ext (Ext.trans HC.out.ext xv)) hs0).mono ?_
        rintro e w6 ⟨u6,rfl,hm6⟩;have HM6:=Qq hm6;have hx6:Ext wr w6:=Ext.trans xv hm6.ext;obtain⟨A6,c6,rfl,_⟩:=Qa hm6.fml;clear hm6;go_wp2_with fail;refine hK.out _ _ (xd zl z4) (fun hHeld=> ?_);clear hK K;refine Qb ?_;refine Zs (rs:= [6]) (by kernel_rfl) (by simp) ?_;refine Za.cons rfl (fun K hK=> ?_) Za.nil;go_simp;refine(We _ _ base (Qsi (q:Int) s) _ (HFMS.out.ext (HI3.out.ext.trans (HC.out.ext.trans hx6))) HM6.out.fml).mono ?_;rintro e w7 ⟨rfl,hx0⟩;have hx7:Ext wr w7:=hx6.trans hx0;rw [Qk0 (by rw [<-HNN.out];exact HOP.out),HPL.out];have HX7:=Qq hx7;have y4:=(hx7.cell (p:=⟨B,4,none⟩) zl).trans z4
        have yf:=(hx7.frozen (p:=⟨B,4,none⟩) zl).trans zf4;have yl:B < w7.heap.size:=Qy zl hx7.size;clear hx0;go_wp2_with fail;refine hK.out _ _ (xd zl z4) (fun hHeld=> ?_);clear hK K;refine Qb ?_;refine utk 7 hHeld ?_;refine utk 8 hHeld ?_;refine utk 9 hHeld ?_;refine Vk (by kernel_rfl) rfl (fun K hK=> ?_);go_simp;refine hK.out _ _ ?_;clear hK K;refine Qb ?_;refine Vv (by kernel_rfl) ?_ _;go_wp2_with fail;go_roundw
        case rel=>exact⟨q+1,by go_num,by omega,Qq (by rw [HBO.out,HPQ.out,HPL.out,Int.toNat_natCast];exact(HC.out.next HX7.out).set _)⟩
        case measure=>simp [intOf];omega
       case false =>
        rw [hgb]at hbt;have HPQ:=Qq (Zq3 (base:=base) (show Yl (Qi s).g q=false by rw [<-HNN.out,HGN.out];exact hgb));clear hgb;go_wp2_with fail;go_roundw
        case rel=>exact⟨q+1,by go_num,by omega,by rw [HPQ.out];exact HC⟩
        case measure=>simp [intOf];omega
      obtain rfl:q=4:=by omega
      have HNI:=Qq (HI3.out.next HC.out.ext);obtain⟨⟨z0,z1,z2,z3,z4⟩,_,zl⟩:=Rz HC.out.cells;rw [Km]at z2 z3;have hvc:∀q,vc.ownBlock=some q->q < w2.heap.size:=fun q e=>by obtain⟨_,_,h1,_⟩:=HI2.out.cm;exact(h1.lt q e).2
      have HVB:=Qq (show vc.ownBlock≠some B from fun e=>by have h1:=hvc B e;have h2:=HC.out.lo;have h3:=HX23.out.size;omega);clear hvc;obtain⟨_,hk4,_,_,hbl⟩:=HNI.out.reads;obtain⟨rs,hrs,hrow,hcm⟩:=HNI.out.cm;have HRS:=Qq hrs;have HROW:=Qq hrow;have HCR:=Qq hcm;have hrl:rs.length<=12:=by
       have h1:=Qtt base k;rw [<-hrs,List.length_map]at h1;omega
      clear hrs hrow hcm;go_upto_region 23 with(fail);refine Vb 10 (fun w'=>w'.cell? (⟨b,4,none⟩)=some (vc)/\w'.cell? (⟨B,0,none⟩)=some (.int .i64 (k:Int))/\w'.cell? (⟨B,1,none⟩)=some (.int .i64 (gn:Int))/\w'.cell? (⟨B,2,none⟩)=some (.slice (some ⟨gx,0,none⟩) (2^base.length) (2^base.length))/\w'.cell? (⟨B,3,none⟩)=some (.slice (some ⟨gy,0,none⟩) (2^base.length) (2^base.length))/\w'.cell? (⟨B,4,none⟩)=some (.int .u64 ((pQ base s 4:Nat):Int))) (by kernel_rfl) ⟨xd hbl hk4,xd zl z0,xd zl z1,xd zl z2,xd zl z3,xd zl z4⟩ (fun hHeld=> ?_);refine utk 0 hHeld ?_;refine utk 1 hHeld ?_;refine utk 2 hHeld ?_
      refine utk 3 hHeld ?_;refine utk 4 hHeld ?_;refine utk 5 hHeld ?_;refine Zs (rs:= [6]) (by kernel_rfl) (by simp) ?_;refine Za.cons rfl (fun K hK=> ?_) Za.nil;go_simp;refine hK.out _ _ ⟨xd hbl hk4,xd zl z0,xd zl z1,xd zl z2,xd zl z3,xd zl z4⟩ (fun hHeld=> ?_);clear hK K;refine Qb ?_;refine Zs (rs:= [7]) (by kernel_rfl) (by simp) ?_;refine Za.cons rfl (fun K hK=> ?_) Za.nil;refine Tq rfl (.tmp 115) (.tmp 117) 91 rfl w1.heap.size 138 iC (.agg #[.int .i64 0,.int .i64 0,.slice none 0 0,.slice none 0 0,.int .u64 0]) 5 72 Tryz.underlying91 hiC hzC0 hzC1 hzC2 rfl (by decide) vc rs.length (rs.flatMap cmV) (by simp [Act.eval]) (Zf HROW.out xv) ⟨wr.heap.size,0,none⟩ 1 1 (cmV (⟨k,(gn:Int),Yr base (Gx s),Yr base (Fi s),pQ base s 4⟩,.slice (some ⟨gx,0,none⟩) (2^base.length) (2^base.length),.slice (some ⟨gy,0,none⟩) (2^base.length) (2^base.length))) (by simp [Act.eval]) rfl (by exact Jq _ _ _ rfl) (Zqr rfl rfl) (by unfold maxLen;omega) (by omega) (Qx HNI.out.ext.size (by simp)) ?_
      intro v7 w7 hown7 hgrow7 hat7;obtain⟨A7,c7,hv7⟩:=Qt hown7;subst hv7;obtain⟨_,_,hb7⟩:=Kp.grown_c (w:=wr.drew) (HNI.out.next Qz.drew) hgrow7;have X0:=Dw (w:=wr.drew) (p:=⟨B,0,none⟩) hgrow7 HVB.out zl z0;have X1:=Dw (w:=wr.drew) (p:=⟨B,1,none⟩) hgrow7 HVB.out zl z1;have X2:=Dw (w:=wr.drew) (p:=⟨B,2,none⟩) hgrow7 HVB.out zl z2;have X3:=Dw (w:=wr.drew) (p:=⟨B,3,none⟩) hgrow7 HVB.out zl z3;have X4:=Dw (w:=wr.drew) (p:=⟨B,4,none⟩) hgrow7 HVB.out zl z4;obtain⟨⟨_,_,_,_,y4,_⟩,zfr,zlt⟩:=Yx hb7;have zfr4:=zfr 4;have HOWN7:=Qq hown7;have HGROW7:=Qq hgrow7
      have HAT7:=Qq hat7;clear hown7 hgrow7 hat7 hb7 zfr;refine hK.out _ _ ⟨y4,X0,X1,X2,X3,X4⟩ (fun hHeld=> ?_);clear hK K;refine Qb ?_;refine Zs (rs:= [8]) (by kernel_rfl) (by simp) ?_;refine Za.cons rfl (fun K hK=> ?_) Za.nil;go_simp;refine hK.out _ _ ⟨y4,X0,X1,X2,X3,X4⟩ (fun hHeld=> ?_);clear hK K;refine Qb ?_;refine utk 9 hHeld ?_;refine Vk (by kernel_rfl) rfl (fun K hK=> ?_);go_simp;refine hK.out _ _ ?_;clear hK K;refine Qb ?_;refine Vv (by kernel_rfl) ?_ _;go_wp2_with fail;go_roundw
      case rel=>exact⟨k+1,by go_num,by omega,vk,.slice A7 (rs.length+1) c7,Qq (by
       rw [HK1.out,HC1.out,HGN.out];have hx:=HI3.out.fresh (w:=wr.drew) HC.out.rx;have hy:=HI3.out.fresh (w:=wr.drew) HC.out.ry;rw [Km]at hx hy;exact Kp.comm (w:=wr.drew) (HNI.out.next Qz.drew) HRS.out HCR.out hx hy HOWN7.out HGROW7.out HAT7.out)⟩
      case measure=>simp [intOf];omega
    have HK1:=Qq (show ksK base (k+1)=ksK base k by rw [Qqy,<-HSD.out,Qav (by rw [<-HNN.out];exact ho9),List.append_nil]);have HC1:=Qq (show csK base (k+1)=csK base k by rw [Im,<-HSD.out,Qaq (by rw [<-HNN.out];exact ho13),List.append_nil]);go_wp2_with fail;go_roundw
    case rel=>exact⟨k+1,by go_num,by omega,vk,vc,Qq (by rw [HK1.out,HC1.out];exact HI2.out.next (Qz.alloc _))⟩
    case measure=>simp [intOf];omega
   obtain rfl:base.length=k:=by omega
   have HENG:=Qq (show Uf wr b g lg base (Yr base (Jd f)) (Zg base) (Zc base) ((List.range 0).map (Ys lg (Zg base) (Zc base))++List.replicate (m - 0) false)from HI.out.engX);have HXE:=Qq HI.out.ext;obtain⟨_,_,_,_,_,_,_,x5,xl⟩:=HI.out.engX.cells;rw [List.length_replicate]at x5;go_wp2_with fail;clear x5 xl;have HKS:=Qq (show ∀k∈Zg base,k.place < 64/\k.holds.length=m from fun k hk=>by have:=Qde hk;rw [HMM.out];have:=HLEN.out;omega);have HCS:=Qq (show ∀c∈Zc base,c.place < 64/\c.parts < 18446744073709551616 from fun c hc=>by have:=Qa2 HLEN.out hc;have:=HLEN.out;omega)
   go_loopw [127] (fun v wr2=>∃t:Nat,v=.int .i64 (t:Int)/\t<=m/\Hid (Ext w1 wr2/\Uf wr2 b g lg base (Yr base (Jd f)) (Zg base) (Zc base) ((List.range t).map (Ys lg (Zg base) (Zc base))++List.replicate (m - t) false))) (fun v _=>m - (intOf v).toNat)
   case atStart=>exact⟨0,rfl,Nat.zero_le _,Qq ⟨HXE.out,HENG.out⟩⟩
   case round =>
    obtain⟨t,rfl,ht,HR⟩:=hrel;have HXR:=Qq HR.out.1;have HER2:=Qq HR.out.2;clear HR;have HAL:=Qq (show((List.range t).map (Ys lg (Zg base) (Zc base))++List.replicate (m - t) false).length=m by rw [List.length_append,List.length_map,List.length_range,List.length_replicate];omega);by_cases hlt3:t < m
    ·have hk3:(t:Int) < (m:Int):=by omega
     obtain⟨_,_,_,_,_,_,_,x5,xl⟩:=HER2.out.cells;rw [HAL.out]at x5;go_upto_region 28 with(fail);refine Vb 10 (fun w'=>w'.cell? (⟨b,5,none⟩)=some (.slice (some ⟨g,0,none⟩) m m)) (by kernel_rfl) (xd xl x5) (fun hHeld=> ?_);refine utk 0 hHeld ?_;refine utk 1 hHeld ?_;refine utk 2 hHeld ?_;refine utk 3 hHeld ?_;refine utk 4 hHeld ?_;refine utk 5 hHeld ?_;refine utk 6 hHeld ?_;refine utk 7 hHeld ?_;refine Zs (rs:= [8]) (by kernel_rfl) (by simp) ?_;refine Za.cons rfl (fun K hK=> ?_) Za.nil;go_simp;have hwt:IntKind.u64.wrap (t:Int)=(t:Int):=by rw [IntKind.wrap_u64];omega
     rw [hwt];refine(Qgy b lg base (Yr base (Jd f)) (Zg base) (Zc base) _ t _ (HER2.out.ext (Qz.drew)).eng (by omega) (fun k hk=>by have:=HKS.out k hk;omega) (fun c hc=>by have:=HCS.out c hc;omega)).mono ?_;rintro e w3 ⟨rfl,hx0⟩;have hx:Ext wr w3:=(Qz.drew).trans hx0;have HX3:=Qq hx;have gfr:=(HER2.out.ext hx).row.frozen t;have gc:w3.cell? ⟨g,t,none⟩=some (.bool false):=(HER2.out.ext hx).row.cell (by rw [List.getElem?_append_right (by simp),List.length_map,List.length_range,Nat.sub_self,List.getElem?_replicate,if_pos (by omega)]);have gl:g < w3.heap.size:=(HER2.out.ext hx).row.lt.2
     go_wp2_with fail;refine hK.out _ _ (xd xl x5) (fun hHeld=> ?_);clear hK K;refine Qb ?_;refine utk 9 hHeld ?_;refine Vk (by kernel_rfl) rfl (fun K hK=> ?_);go_simp;refine hK.out _ _ ?_;clear hK K;refine Qb ?_;refine Vv (by kernel_rfl) ?_ _;go_wp2_with fail;go_roundw
     case rel=>exact⟨t+1,by go_num,by omega,Qq ⟨(HXR.out.trans HX3.out).setCell (p:=⟨g,t,none⟩) HBG.out.2 _,by
      have h1:=(HER2.out.ext HX3.out).set t (Ys lg (Zg base) (Zc base) t);rw [show m - t=(m - (t+1))+1 by omega,Qvt (by simp),<-Cs]at h1;exact h1⟩⟩
     case measure=>simp [intOf];omega
    obtain rfl:m=t:=by omega
    go_wp2_with fail;go_ret2;refine⟨HX1.out.trans HXR.out,.inr ⟨by rw [HE.out,<-HER.out],b,g,rfl,?_,?_,?_⟩⟩
    ·exact Qx HX1.out.size HBG.out.1
    ·exact Qx HX1.out.size HBG.out.2
    have h1:=HER2.out;rw [Nat.sub_self,List.replicate_zero,List.append_nil]at h1;have e:(List.range m).map (Ys lg (Zg base) (Zc base))=Yf lg base:=by unfold Yf;rw [HMM.out]
    rw [e]at h1;unfold Xo;rw [<-HBD.out];exact h1
 clear hbd;have HZ:=Qq hz;go_enter Tryz.func59,Tryz.ntmps59;go_wp2_with fail;refine(Qzt _ f _ H.out).mono ?_;rintro e w1 ⟨u,rfl,hx1,hfr⟩;rw [<-her];have HX1:=Qq hx1;have HER2:=Qq her;clear hx1 hfr her;go_wp2_with fail;go_ret2;exact⟨HX1.out,.inl ⟨by rw [HE.out,<-HER2.out];exact HZ.out,by rw [HE.out,<-HER2.out] <;> rfl⟩⟩
end Go.Proofs.YtkmclcmnoicagaaGreatDoor
