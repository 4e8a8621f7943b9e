/- The program's numbered. -/
import Derived.Test.YtkmclcmnoicagaaGreatDoorM01
import Derived.Test.YtkmclcmnoicagaaGreatDoorM39
import Derived.Test.YtkmclcmnoicagaaGreatDoorM17
import Derived.Test.YtkmclcmnoicagaaGreatDoorM14
import Derived.Test.YtkmclcmnoicagaaGreatDoorM15
namespace Go.Proofs.YtkmclcmnoicagaaGreatDoor
set_option maxRecDepth 100000
set_option maxHeartbeats 128000000
open Go.RowKit
theorem Qn7 {w:World} {b:Nat} {a v:Value} {t:TypeId}(h:w.heap[b]?=some (.cells #[a] t (0,0))):(w.setCell ⟨b,0,none⟩ v).heap[b]?=some (.cells #[v] t (0,0)):=by
 simp only [World.setCell,Array.getElem?_modify,h,if_true,Option.map_some];simp
theorem Qng(k n j:Nat):k / 2^(n*j) / 2^n=k / 2^(n*(j+1)):=by
 rw [Nat.div_div_eq_div_mul,<-Nat.pow_add,Nat.mul_add,Nat.mul_one]
structure Fb (w0 wr:World) (b n k j:Nat) (vv:Value) (vals:List Nat) (vr:Value) (rows:List (List Nat)):Prop where
 ar:ArI w0 wr (b+2) (b+4) (n:Int) vv vals vr rows
 rest:wr.heap[b+3]?=some (.cells #[.int .u64 ((k / 2^(n*j):Nat):Int)] 41 (0,0))
 box:wr.cell? ⟨b,0,none⟩=some (.int .i64 (n:Int))
 res:wr.heap[b+1]?=some (.cells #[.int .i64 0,.slice none 0 0,.slice none 0 0] 26 (0,0))
section
variable {w0 wr W:World} {b n k j:Nat} {vv vr:Value} {vals:List Nat} {rows:List (List Nat)}
theorem Fb.next(h:Fb w0 wr b n k j vv vals vr rows)(he:Ext wr W):Fb w0 W b n k j vv vals vr rows :=
 ⟨h.ar.next he,(he.block (Qf h.rest)).trans h.rest,(he.cell (p:=⟨b,0,none⟩) (by have:=Qf h.rest;show b < _;omega)).trans h.box,(he.block (Qf h.res)).trans h.res⟩
theorem Fb.take(h:Fb w0 wr b n k j vv vals vr rows)(h0:w0.heap.size<=b+2):Fb w0 (wr.setCell ⟨b+3,0,none⟩ (.int .u64 ((k / 2^(n*(j+1)):Nat):Int))) b n k (j+1) vv vals vr rows:=by
 have hset:∀q,q≠b+3->(wr.setCell ⟨b+3,0,none⟩ (.int .u64 ((k / 2^(n*(j+1)):Nat):Int))).heap[q]?=wr.heap[q]?:=fun q e=>Below.heap_setCell _ _ _ _ e
 refine⟨h.ar.other (by omega) (by omega) (by omega) _,Qn7 h.rest,?_,(hset (b+1) (by omega)).trans h.res⟩;have:=h.box;unfold World.cell? at this⊢;rw [hset b (by omega)];exact this
structure La (w0 wa wr:World) (b n k j:Nat):Prop where
 ext:Ext w0 wr
 same:Yr (fun q=>q < b+4) wa wr
 cell:wr.heap[b+2]?=wa.heap[b+2]?
 rest:wr.heap[b+3]?=some (.cells #[.int .u64 ((k / 2^(n*j):Nat):Int)] 41 (0,0))
 box:wr.cell? ⟨b,0,none⟩=some (.int .i64 (n:Int))
 res:wr.heap[b+1]?=some (.cells #[.int .i64 0,.slice none 0 0,.slice none 0 0] 26 (0,0))
theorem Fb.mid(h:Fb w0 wr b n k j vv vals vr rows):La w0 wr wr b n k j:=⟨h.ar.ext,⟨Nat.le_refl _,fun _ _ _=>rfl⟩,rfl,h.rest,h.box,h.res⟩
theorem Fb.of_mid {j0:Nat} {wa:World}(h:Fb w0 wa b n k j0 vv vals vr rows)(m:La w0 wa wr b n k j):Fb w0 wr b n k j vv vals vr rows:=by
 obtain⟨us,e,h10,h20⟩:=h.ar.rel
 refine⟨⟨m.ext,h.ar.lo,h.ar.lt,Qx h.ar.top m.same.1,m.cell.trans h.ar.cell,Zs h.ar.val fun q hk=>m.same.2 q (by have:=(World.ownsRow.lt h.ar.val q hk).1;omega) (World.ownsRow.lt h.ar.val q hk).2,
  ⟨us,e,Zs h10 fun q hk=>m.same.2 q (by have:=(h10.lt q hk).1;omega) (h10.lt q hk).2,fun i u y hu hy=>(h20 i u y hu hy).next (X':=spa (b+4) vr) ⟨m.same.1,fun q hq hl=>m.same.2 q (fun e=>hq (.inl e)) hl⟩ (fun _ _ h=>h)⟩,h.ar.dr⟩,m.rest,m.box,m.res⟩
section
variable {wa:World}
theorem La.next(h:La w0 wa wr b n k j)(hl:b+4<=wa.heap.size)(he:Ext wr W):La w0 wa W b n k j:=by
 have hs:=h.same.1;exact⟨h.ext.trans he,⟨Qx hs he.size,fun q h1 h2=>(he.block (Qy h2 hs)).trans (h.same.2 q h1 h2)⟩,(he.block (by omega)).trans h.cell,(he.block (by omega)).trans h.rest,(he.cell (p:=⟨b,0,none⟩) (show b < _ by omega)).trans h.box,(he.block (by omega)).trans h.res⟩
theorem La.take(h:La w0 wa wr b n k j)(h0:w0.heap.size<=b+3):La w0 wa (wr.setCell ⟨b+3,0,none⟩ (.int .u64 ((k / 2^(n*(j+1)):Nat):Int))) b n k (j+1):=by
 have hset:∀q,q≠b+3->(wr.setCell ⟨b+3,0,none⟩ (.int .u64 ((k / 2^(n*(j+1)):Nat):Int))).heap[q]?=wr.heap[q]?:=fun q e=>Below.heap_setCell _ _ _ _ e
 refine⟨h.ext.setCell (p:=⟨b+3,0,none⟩) h0 _,⟨Qx h.same.1 (by simp [World.setCell]),fun q h1 h2=>(hset q (by omega)).trans (h.same.2 q h1 h2)⟩,(hset _ (by omega)).trans h.cell,Qn7 h.rest,?_,(hset _ (by omega)).trans h.res⟩;have:=h.box;unfold World.cell? at this⊢;rw [hset b (by omega)];exact this
theorem La.grow(h:La w0 wa wr b n k j)(hl:b+4<=wa.heap.size)(hw:w0.heap.size<=b+3) {g:Option Nat}(hg:wr.grownBy W g)(hq:∀q,g=some q->wa.heap.size<=q):La w0 wa W b n k j:=by
 have hblk:∀q,q < wa.heap.size->W.heap[q]?=wr.heap[q]?:=fun q h1=>hg.block q (Qy h1 h.same.1) (fun e=>by have:=hq q e.symm;omega)
 refine⟨h.ext.grown hg (fun q e=>by have:=hq q e;omega),⟨Qx h.same.1 hg.size,fun q h1 h2=>(hblk q h2).trans (h.same.2 q h1 h2)⟩,(hblk _ (by omega)).trans h.cell,(hblk _ (by omega)).trans h.rest,?_,(hblk _ (by omega)).trans h.res⟩;have:=h.box;unfold World.cell? at this⊢;rw [hblk b (by omega)];exact this
end
theorem Fb.pushVal {w7 W6:World} {v7:Value} {s:Nat}(h:Fb w0 wr b n k j vv vals (.slice none 0 0) [])(hx6:Ext wr W6)
 (ho:w7.ownsRow (b+4) 41 1 v7 (vals.length+1) (uV vals++ [.int .u64 (s:Int)]))(hg7:W6.grownBy w7 vv.ownBlock):
 Fb w0 (w7.setCell ⟨b+2,1,none⟩ v7) b n k j v7 (vals++ [s]) (.slice none 0 0) []:=by
 have h6:=h.next hx6;have hvl:=fun q hk=>(World.ownsRow.lt h6.ar.val q hk)
 have hblk:∀q,q < b+4->q < W6.heap.size->q≠b+2->(w7.setCell ⟨b+2,1,none⟩ v7).heap[q]?=W6.heap[q]?:=fun q h1 h2 h3 =>
  (Below.heap_setCell _ _ _ _ h3).trans (hg7.block q h2 (fun e=>by have:=(hvl q e.symm).1;omega))
 have hl:=Qf h6.rest;refine⟨h.ar.pushVal hx6 ho hg7,(hblk _ (by omega) hl (by omega)).trans h6.rest,?_,(hblk _ (by omega) (Qf h6.res) (by omega)).trans h6.res⟩;have:=h6.box;unfold World.cell? at this⊢;rw [hblk b (by omega) (by omega) (by omega)];exact this
theorem Fb.pushRow {w7 W6:World} {v7 u:Value} {r:List Nat} {us:List Value}(h:Fb w0 wr b n k j vv vals vr rows)(e:us.length=rows.length)(h10:wr.ownsRow (b+4) 23 1 vr us.length us)
 (h20:∀(k:Nat) u r,us[k]?=some u->rows[k]?=some r->Frz (spa (b+4) vr) wr (fun w'=>Jv w' u r))(hxe:Ext wr W6)(hu:Jn (b+4) wr u r)(hne:∀g,u.ownBlock=some g->vr.ownBlock≠some g)
 (ho:w7.ownsRow (b+4) 23 1 v7 (us.length+1) (us++ [u]))(hg7:W6.grownBy w7 vr.ownBlock)(ha7:v7.ownBlock=vr.ownBlock\/v7.ownBlock=some W6.heap.size):
 Fb w0 (w7.setCell ⟨b+2,2,none⟩ v7) b n k j vv vals v7 (rows++ [r]):=by
 have h6:=h.next hxe;have hblk:∀q,q < b+4->q < W6.heap.size->q≠b+2->(w7.setCell ⟨b+2,2,none⟩ v7).heap[q]?=W6.heap[q]?:=fun q h1 h2 h3 =>
  (Below.heap_setCell _ _ _ _ h3).trans (hg7.block q h2 (fun e=>by have:=(h10.lt q e.symm).1;omega))
 have hl:=Qf h6.rest;refine⟨h.ar.pushRow e h10 h20 hxe hu hne ho hg7 ha7,(hblk _ (by omega) hl (by omega)).trans h6.rest,?_,(hblk _ (by omega) (Qf h6.res) (by omega)).trans h6.res⟩;have:=h6.box;unfold World.cell? at this⊢;rw [hblk b (by omega) (by omega) (by omega)];exact this
end
theorem Ie(n a v k:Nat)(w:World)(hn0:1<=n)(hn:n<=64)(ha:a<=4)(hv:v<=8)(hl:Jo n a v<=12)(hk:k < 2^Jo n a v):
 Calls Tryz.prog 89 #[.int .i64 (n:Int),.int .i64 (a:Int),.int .i64 (v:Int),.int .i64 (k:Int)] w fun e w'=>∃u,e=.returned u/\Frz (fun q=>q < w.heap.size) w' (fun W=>MdV W u (Ur n a v k))/\Ext w w':=by
 have hk12:k < 4096:=Qy hk (show 2^Jo n a v<=2^12 from Nat.pow_le_pow_right (by decide) hl);have HNS:=Qq (show v≠0\/a≠0->n < 64 from fun h=>by
  unfold Jo at hl;rcases h with h|h
  ·have:n*1<=n*v:=Nat.mul_le_mul_left n (by omega);omega
  have h1:n*n*1<=n*n*a:=Nat.mul_le_mul_left _ (by omega);have h2:n*1<=n*n:=Nat.mul_le_mul_left n hn0
  omega)
 have HKW:=Qq (fun j:Nat=>show Qw (k / 2^(n*j))from Nat.lt_of_le_of_lt (Nat.div_le_self _ _) (by show k < _;omega));obtain⟨iU,hiU,hzU0,hzU1,hzU2⟩:=info_parts Ej;obtain⟨iS,hiS,hzS0,hzS1,hzS2⟩:=info_parts Qbh;have hkw:IntKind.u64.wrap (k:Int)=(k:Int):=by rw [IntKind.wrap_u64];omega
 obtain⟨b,hb⟩:∃b,b=w.heap.size:=⟨_,rfl⟩;have HLO:=Qq (show w.heap.size<=b by omega);have HLO2:=Qq (show w.heap.size<=b+2 by omega);clear hk hl;go_enter Tryz.func89,Tryz.ntmps89;go_upto_region 3 with(fail);rw [<-hb,show b+1+1+1=b+3 from rfl,show b+1+1=b+2 from rfl];obtain⟨w1,hw1⟩:∃z,z=w.alloc (.cells #[.int .i64 (n:Int)] 3):=⟨_,rfl⟩;obtain⟨w2,hw2⟩:∃z,z=w1.alloc (.cells #[.int .i64 0,.slice none 0 0,.slice none 0 0] 26):=⟨_,rfl⟩;obtain⟨w3,hw3⟩:∃z,z=w2.alloc (.cells #[.int .i64 (n:Int),.slice none 0 0,.slice none 0 0] 26):=⟨_,rfl⟩;obtain⟨W1,hW1⟩:∃z,z=w3.alloc (.cells #[.int .u64 (k:Int)] 41):=⟨_,rfl⟩
 have s1:w1.heap.size=b+1:=by rw [hw1,hb];simp
 have s2:w2.heap.size=b+2:=by rw [hw2,World.size_alloc,s1]
 have s3:w3.heap.size=b+3:=by rw [hw3,World.size_alloc,s2]
 have s4:W1.heap.size=b+4:=by rw [hW1,World.size_alloc,s3]
 have x1:Ext w w1:=by rw [hw1];exact Qz.alloc _
 have x2:Ext w1 w2:=by rw [hw2];exact Qz.alloc _
 have x3:Ext w2 w3:=by rw [hw3];exact Qz.alloc _
 have x4:Ext w3 W1:=by rw [hW1];exact Qz.alloc _
 have c1:w1.heap[b]?=some (.cells #[.int .i64 (n:Int)] 3 (0,0)):=by rw [hw1,hb];exact heap_alloc_new _ _
 have c2:w2.heap[b+1]?=some (.cells #[.int .i64 0,.slice none 0 0,.slice none 0 0] 26 (0,0)):=by rw [hw2,<-s1];exact heap_alloc_new _ _
 have c3:w3.heap[b+2]?=some (.cells #[.int .i64 (n:Int),.slice none 0 0,.slice none 0 0] 26 (0,0)):=by rw [hw3,<-s2];exact heap_alloc_new _ _
 have c4:W1.heap[b+3]?=some (.cells #[.int .u64 (k:Int)] 41 (0,0)):=by rw [hW1,<-s3];exact heap_alloc_new _ _
 have HI0:=Qq (show Fb w W1 b n k 0 (.slice none 0 0) ((List.range 0).map fun i=>Xl n k i) (.slice none 0 0) []from
  ⟨ArI.start (x1.trans (x2.trans (x3.trans x4))) (by omega) (by omega) (by omega) ((x4.block (by omega)).trans c3),by rw [Nat.mul_zero,Nat.pow_zero,Nat.div_one];exact c4,by
   have h:=((x2.trans (x3.trans x4)).block (k:=b) (by omega)).trans c1;simp [World.cell?,h],((x3.trans x4).block (by omega)).trans c2⟩)
 rw [<-hw1,<-hw2,<-hw3,<-hW1];clear hw1 hw2 hw3 hW1 s1 s2 s3 s4 x1 x2 x3 x4 c1 c2 c3 c4 hb;go_wp2_with fail;go_loopw [19] (fun v' wr=>∃j:Nat,v'=.int .i64 (j:Int)/\j<=v/\Hid (∃vx,Fb w wr b n k j vx ((List.range j).map fun i=>Xl n k i) (.slice none 0 0) [])) (fun v' _=>v - (intOf v').toNat)
 case atStart=>exact⟨0,rfl,Nat.zero_le _,Qq ⟨_,HI0.out⟩⟩
 case round =>
  clear HI0;obtain⟨j,rfl,hj,HREL⟩:=hrel;obtain⟨vx,hni⟩:=HREL.out;have HI:=Qq hni;clear HREL;by_cases hlt2:j < v
  ·have hk1:(j:Int) < (v:Int):=by omega
   have HN6:=Qq (HNS.out (.inl (by omega)));have HNX:=Qq (show(List.range (j+1)).map (fun i=>Xl n k i)=(List.range j).map (fun i=>Xl n k i)++ [Xl n k j]from by rw [List.range_succ,List.map_append];rfl);obtain⟨vs,hvs⟩:∃z,z=(List.range j).map (fun i=>Xl n k i):=⟨_,rfl⟩;have hvl:vs.length<=8:=by rw [hvs,List.length_map,List.length_range];omega
   rw [<-hvs]at HI HNX;obtain⟨Ax,cx,rfl⟩:=Qt HI.out.ar.val;obtain⟨pz,hpz⟩:∃z,z=Xl n k j:=⟨_,rfl⟩;have HPZ:=Qq (show k / 2^(n*j) % 2^n=pz from hpz.symm);rw [<-hpz]at HNX;obtain⟨⟨m0,m1,m2⟩,⟨mf0,mf1,mf2⟩,ml⟩:=HI.out.ar.cells;have hc3:vs.length+1<=maxLen:=by unfold maxLen;omega
   have hc4:(vs.length+1)*8<=140737488355328:=by omega
   have hbl:b < wr.heap.size:=by omega
   clear hni hvs hpz m0 m2 mf0 mf2;go_upto_region 6 with(fail);refine Vx 7 (fun w'=>w'.cell? (⟨b+2,1,none⟩)=some (.slice Ax vs.length cx)) (by kernel_rfl) (xd ml m1) (fun hHeld=> ?_);refine utk 0 hHeld ?_;refine utk 1 hHeld ?_;refine utk 2 hHeld ?_;refine Qs (rs:= [3]) (by kernel_rfl) (by simp) ?_;refine Ql.cons rfl (fun K hK=> ?_) Ql.nil;go_simp;refine(Qba (b+3) b n _ _ HN6.out (HKW.out j) (HI.out.next (W:=wr.drew) xv).rest (HI.out.next (W:=wr.drew) xv).box (by first|exact hbl|(simp;omega))).mono ?_;rintro e w6 ⟨rfl,W,hxW,hhW,hw6⟩;subst hw6;rw [HPZ.out,Qng];have HI6:=Qq ((HI.out.next (Ext.trans xv hxW)).take HLO2.out)
   obtain⟨w6,hw6⟩:∃z,z=W.setCell ⟨b+3,0,none⟩ (.int .u64 ((k / 2^(n*(j+1)):Nat):Int)):=⟨_,rfl⟩;rw [<-hw6]at HI6⊢;obtain⟨⟨_,m61,_⟩,_,ml6⟩:=HI6.out.ar.cells;have HS6:=Qq (show b+4<=w6.heap.size from HI6.out.ar.top);clear hw6 hxW hhW;go_wp2_with fail;refine hK.out _ _ m61 (fun hHeld=> ?_);clear hK K;refine Qb ?_;refine Qs (rs:= [4]) (by kernel_rfl) (by simp) ?_;refine Ql.cons rfl (fun K hK=> ?_) Ql.nil;go_simp;refine hK.out _ _ (xd ml6 m61) (fun hHeld=> ?_);clear hK K;refine Qb ?_;refine Qs (rs:= [5]) (by kernel_rfl) (by simp) ?_;refine Ql.cons rfl (fun K hK=> ?_) Ql.nil;refine Di rfl (.tmp 22) (.tmp 25) 23 rfl (b+4) 41 iU (.int .u64 0) 1 8 Tryz.underlying23 hiU hzU0 hzU1 hzU2 rfl (by decide) (.slice Ax vs.length cx) vs.length (uV vs) (by simp [Act.eval]) (Zf HI6.out.ar.val xv) ⟨w6.heap.size,0,none⟩ 1 1 [.int .u64 (pz:Int)] (by simp [Act.eval]) rfl (by exact Jk _ _ _ (by simp)) (fun u hu=>by rw [List.mem_singleton.1 hu];rfl) hc3 hc4 (Qx HS6.out (Ext.size (a:=w6) xv)) ?_
   intro v7 w7 hown7 hgrow7 hat7;have HP7:=Qq (HI6.out.pushVal (show Ext w6 _ from xv) hown7 hgrow7);have HB7:=Qq ((hgrow7.block (b+2) (Qy ml6 (Ext.size (a:=w6) xv)) (fun e=>absurd (World.ownsRow.lt HI6.out.ar.val (b+2) e.symm).1 (by omega))).trans ((Ext.block (a:=w6) (k:=b+2) xv ml6).trans HI6.out.ar.cell));obtain⟨⟨_,p1,_⟩,⟨_,pf1,_⟩,pl⟩:=Zt HB7.out;obtain⟨A7,c7,hv7⟩:=Qt hown7;subst hv7;clear hown7 hgrow7 hat7;refine hK.out _ _ p1 (fun hHeld=> ?_);clear hK K;refine Qb ?_;refine utk 6 hHeld ?_;refine Jm (by kernel_rfl) rfl (fun K hK=> ?_);go_simp;refine hK.out _ _ ?_;clear hK K
   refine Qb ?_;refine Jl (by kernel_rfl) ?_ _;go_wp2_with fail;go_roundw
   case rel=>exact⟨j+1,by go_num,by omega,Qq ⟨_,by rw [HNX.out];exact HP7.out⟩⟩
   case measure=>simp [intOf] <;> omega
  obtain rfl:v=j:=by omega
  obtain⟨vals,hvals⟩:∃z,z=(List.range v).map (fun i=>Xl n k i):=⟨_,rfl⟩;have HVALS:=Qq hvals;rw [<-hvals]at HI;clear hni hvals;go_wp2_with fail;go_loopw [30] (fun v' wr=>∃i:Nat,v'=.int .i64 (i:Int)/\i<=a/\Hid (∃vy,Fb w wr b n k (v+n*i) vx vals vy ((List.range i).map fun q=>(List.range n).map fun u=>Xl n k (v+(n*q+u))))) (fun v' _=>a - (intOf v').toNat)
  case atStart=>exact⟨0,rfl,Nat.zero_le _,Qq ⟨_,by rw [Nat.mul_zero,Nat.add_zero];exact HI.out⟩⟩
  case round =>
   clear HI;obtain⟨i,rfl,hi,HREL⟩:=hrel;obtain⟨vy,hni⟩:=HREL.out;have HI:=Qq hni;clear HREL;by_cases hlt2:i < a
   ·have hk1:(i:Int) < (a:Int):=by omega
    have HN6:=Qq (HNS.out (.inr (by omega)));have HNX:=Qq (show(List.range (i+1)).map (fun q=>(List.range n).map fun u=>Xl n k (v+(n*q+u)))=(List.range i).map (fun q=>(List.range n).map fun u=>Xl n k (v+(n*q+u)))++ [(List.range n).map fun u=>Xl n k (v+(n*i+u))]from by rw [List.range_succ,List.map_append];rfl);obtain⟨rows,hrows⟩:∃z,z=(List.range i).map (fun q=>(List.range n).map fun u=>Xl n k (v+(n*q+u))):=⟨_,rfl⟩;have hrowl:rows.length<=4:=by rw [hrows,List.length_map,List.length_range];omega
    rw [<-hrows]at HI HNX;have HVB:=Qq (show ∀g,vy.ownBlock=some g->g < wr.heap.size from fun g hg=>by obtain⟨us2,_,h10,_⟩:=HI.out.ar.rel;exact(h10.lt g hg).2);have HBX:=Qq HI.out.box;have c0:=HBX.out;have hbl:b < wr.heap.size:=by have:=HI.out.ar.mlt;omega
    have HTOP:=Qq HI.out.ar.top;obtain⟨wa,hwa⟩:∃v,v=wr:=⟨_,rfl⟩;subst hwa;clear hni hrows;go_wp2_with fail;clear c0;go_loopw [12,33] (fun v12 vi wr=>∃u:Nat,vi=.int .i64 (u:Int)/\u<=n/\Hid (La w wa wr b n k (v+(n*i+u))/\Jn wa.heap.size wr v12 ((List.range u).map fun u=>Xl n k (v+(n*i+u))))) (fun _ vi _=>n - (intOf vi).toNat)
    case atStart=>exact⟨0,rfl,Nat.zero_le _,Qq ⟨HI.out.mid,Jn.nil _ _⟩⟩
    case round =>
     obtain⟨u,rfl,hu,HREL⟩:=hrel;obtain⟨hni,hmd⟩:=HREL.out;have HMI:=Qq hni;have HSZ:=Qq hni.same.1;have HMD:=Qq hmd;clear HREL;by_cases hlt3:u < n
     ·have hk2:(u:Int) < (n:Int):=by omega
      have HN2:=Qq (show(List.range (u+1)).map (fun u=>Xl n k (v+(n*i+u)))=(List.range u).map (fun u=>Xl n k (v+(n*i+u)))++ [Xl n k (v+(n*i+u))]from by rw [List.range_succ,List.map_append];rfl);obtain⟨out,hout⟩:∃z,z=(List.range u).map (fun u=>Xl n k (v+(n*i+u))):=⟨_,rfl⟩;have hol:out.length<=64:=by rw [hout,List.length_map,List.length_range];omega
      rw [<-hout]at HMD HN2;obtain⟨pz,hpz⟩:∃z,z=Xl n k (v+(n*i+u)):=⟨_,rfl⟩;have HPZ:=Qq (show k / 2^(n*(v+(n*i+u))) % 2^n=pz from hpz.symm);rw [<-hpz]at HN2;have hc3:out.length+1<=maxLen:=by unfold maxLen;omega
      have hc4:(out.length+1)*8<=140737488355328:=by omega
      obtain⟨A1,c1,rfl⟩:=Qt HMD.out;have hbl2:b < wr.heap.size:=by have:=Qf hni.rest;omega
      clear hni hmd hout hpz;go_wp2_with fail;refine(Qba (b+3) b n _ _ HN6.out (HKW.out (v+(n*i+u))) HMI.out.rest HMI.out.box hbl2).mono ?_;rintro e w6 ⟨rfl,W,hxW,hhW,rfl⟩;rw [HPZ.out,Qng];have HI6:=Qq ((HMI.out.next HTOP.out hxW).take (Nat.le_succ_of_le HLO2.out));have HM6:=Qq (show Jn wa.heap.size (W.setCell ⟨b+3,0,none⟩ (.int .u64 ((k / 2^(n*(v+(n*i+u)+1)):Nat):Int))) (.slice A1 out.length c1) out from Zs (HMD.out.ext hxW) fun q hq=>Below.heap_setCell _ _ _ _ (show q≠b+3 by have:=(World.ownsRow.lt HMD.out q hq).1;have:=HTOP.out;omega));obtain⟨w6,hw6⟩:∃z,z=W.setCell ⟨b+3,0,none⟩ (.int .u64 ((k / 2^(n*(v+(n*i+u)+1)):Nat):Int)):=⟨_,rfl⟩
      have HS6:=Qq (show wr.heap.size<=w6.heap.size by rw [hw6];simp only [World.setCell,Array.size_modify];exact hxW.size);rw [<-hw6]at HI6 HM6⊢;clear hw6 hxW hhW;go_wp2_with(at_builtin;refine wpList_append_own_at _ rfl _ _ 23 rfl wa.heap.size 41 iU (.int .u64 0) 1 8 Tryz.underlying23 hiU hzU0 hzU1 hzU2 rfl (by decide) _ out.length (uV out) rfl (Zf HM6.out (Qz.alloc _)) ⟨_,0,none⟩ 1 1 [.int .u64 (pz:Int)] rfl rfl (Jk _ _ _ (by simp)) (fun u hu=>by rw [List.mem_singleton.1 hu];rfl) hc3 hc4 (Qx (Qx HSZ.out HS6.out) (by simp)) ?_);intro v7 w7 hown7 hgrow7 _ _;have HM7:=Qq (Jn.snoc hown7)
      have HI7:=Qq ((HI6.out.next HTOP.out (Qz.alloc (.cells #[.int .u64 (pz:Int)] 41))).grow HTOP.out (Nat.le_succ_of_le HLO2.out) hgrow7 (fun q hq=>(World.ownsRow.lt HM6.out q hq).1));obtain⟨A7,c7,rfl⟩:=Qt hown7;clear hown7 hgrow7;go_wp2_with fail;go_roundw
      case rel=>exact⟨u+1,by go_num,by omega,Qq ⟨HI7.out,by rw [HN2.out];exact HM7.out⟩⟩
      case measure=>simp [intOf] <;> omega
     obtain rfl:n=u:=by omega
     obtain⟨rw1,hrw1⟩:∃z,z=(List.range n).map (fun u=>Xl n k (v+(n*i+u))):=⟨_,rfl⟩;rw [<-hrw1]at HMD HNX;have HIA:=Qq (HI.out.of_mid HMI.out);obtain⟨us,hus,hrow,hfz⟩:=HIA.out.ar.rel;have HUS:=Qq hus;have HROW:=Qq hrow;have HFZ:=Qq hfz;have hul4:us.length<=4:=by rw [hus];exact hrowl
     obtain⟨⟨m0,m1,m2⟩,⟨mf0,mf1,mf2⟩,ml⟩:=HIA.out.ar.cells;obtain⟨Av2,cv2,rfl⟩:=Qt hrow;obtain⟨A1,c1,rfl⟩:=Qt HMD.out;have hc3:us.length+1<=maxLen:=by unfold maxLen;omega
     have hc4:(us.length+1)*24<=140737488355328:=by omega
     have HSB:=Qq (show b+4<=wr.heap.size from HIA.out.ar.top);clear hus hrow hfz m0 m1 hrw1 hrowl hni hmd;go_wp2_with(at_builtin;refine wpList_append_own_at _ rfl _ _ 24 rfl (b+4) 23 iS (.slice none 0 0) 1 24 Tryz.underlying24 hiS hzS0 hzS1 hzS2 rfl (by decide) _ us.length us rfl (Zf HROW.out (Qz.alloc _)) ⟨_,0,none⟩ 1 1 [.slice A1 rw1.length c1] rfl rfl (Jk _ _ _ (by simp)) (fun u hu=>by rw [List.mem_singleton.1 hu];rfl) hc3 hc4 (Qx HSB.out (by simp)) ?_);intro v7 w7 hown7 hgrow7 hnew7 hat7;have HP7:=Qq (HIA.out.pushRow HUS.out HROW.out HFZ.out (Qz.alloc _) (HMD.out.low HTOP.out) (fun g hg hv=>absurd (HVB.out g hv) (by have:=(World.ownsRow.lt HMD.out g hg).1;omega)) hown7 hgrow7 (hat7.imp_right fun h=>by rw [h];simp))
     obtain⟨⟨p0,p1,p2⟩,⟨pf0,pf1,pf2⟩,pl⟩:=Zt ((hgrow7.block (b+2) (Qy ml ((Ext.refl wr).alloc (.cells #[.slice A1 rw1.length c1] 23)).size) (fun e=>absurd (World.ownsRow.lt HROW.out (b+2) e.symm).1 (by omega))).trans ((((Ext.refl wr).alloc (.cells #[.slice A1 rw1.length c1] 23)).block ml).trans HIA.out.ar.cell));obtain⟨A7,c7,rfl⟩:=Qt hown7;clear hown7 hgrow7 hnew7 hat7 m2 mf0 mf1 mf2 p0 p1 pf0 pf1;go_wp2_with fail;go_roundw
     case rel=>exact⟨i+1,by go_num,by omega,Qq ⟨_,by rw [HNX.out,Nat.mul_add,Nat.mul_one];exact HP7.out⟩⟩
     case measure=>simp [intOf] <;> omega
   obtain rfl:a=i:=by omega
   obtain⟨us,-,hrow,-⟩:=HI.out.ar.rel;obtain⟨Az,cz,rfl⟩:=Qt HI.out.ar.val;obtain⟨Ay,cy,rfl⟩:=Qt hrow;obtain⟨⟨m0,m1,m2⟩,⟨mf0,mf1,mf2⟩,ml⟩:=HI.out.ar.cells;obtain⟨⟨q0,q1,q2⟩,⟨f0,f1,f2⟩,ql⟩:=Zt HI.out.res;have HE:=Qq (show Ur n a v k=⟨(n:Int),vals,(List.range a).map fun q=>(List.range n).map fun u=>Xl n k (v+(n*q+u))⟩ by rw [HVALS.out];rfl);clear hni hrow;go_wp2_with fail
   (try simp only [Exit.inBlock,Exit.then])
   refine bodyPost_ret (Pa Tryz.results89 _ _ rfl (Zl (Jh HI.out.res _ _ _)) Tryz.underlying26 rfl (by kernel_rfl)) rfl ?_;refine⟨_,rfl,fun W hW=> ?_,Jc HI.out.ar.ext (by have:=HLO.out;omega) _ _ _⟩;rw [HE.out];have h1:=HLO.out;exact HI.out.ar.mdv ⟨Qx (by simp [World.setCell]) hW.1,fun k hk hl=>(hW.2 k (by omega) (by simpa [World.setCell]using hl)).trans (Vd (by omega) _ _ _)⟩
def Bc(md:Md)(s:Nat):Int:=if Zj md≠0 then Zj md else if Ym s (Zx md.n.toNat)=false then 2 else if s=0 then 6 else 0
def Mq(md:Md)(s:Nat):Md:=if Bc md s=0 then Jp md (Zc s)else⟨0,[],[]⟩
def Hc(md:Md)(s:Nat):List Nat:=if Bc md s=0 then Zc s else []
theorem Gk(w:World):MdV w (.agg #[.int .i64 0,.slice none 0 0,.slice none 0 0]) ⟨0,[],[]⟩:=
 ⟨_,_,rfl,Oz w,⟨none,0,rfl,Nat.le_refl _,by unfold maxLen;omega,fun h=>absurd rfl h⟩⟩
theorem Qqy(vm:Value)(md:Md)(s:Nat)(w:World)(hs:Qw s)(hT:Vf w)(hm:MdV w vm md)(hok:md.ok):
 Calls Tryz.prog 36 #[vm,.int .u64 (s:Int)] w fun e w'=>∃vr vl,e=.returned (.tuple #[vr,vl,.int .i64 (Bc md s)])/\Ext w w'/\Frz (fun k=>k < w.heap.size) w' (fun W=>MdV W vr (Mq md s)/\Nts W vl (Hc md s)):=by
 have HM:=Qq hm;have HS:=Qq hs;have HT:=Qq hT;have HOK:=Qq hok;obtain⟨vv,vr,rfl,⟨Av,cv,rfl,_⟩,⟨Ar,cr,rfl,_⟩⟩:=hm;obtain⟨n,hn⟩:∃n,n=md.n:=⟨_,rfl⟩;have HN:=Qq hn;rw [<-hn]at HM⊢;obtain⟨rE,hrE⟩:∃z,z=Bc md s:=⟨_,rfl⟩;have HRE:=Qq hrE;rw [<-hrE];obtain⟨ck,hck⟩:∃z,z=Zj md:=⟨_,rfl⟩;have HCK:=Qq hck;obtain⟨W0,hW0⟩:∃W,W=(w.alloc (.cells #[.int .i64 n,.slice Av md.val.length cv,.slice Ar md.rel.length cr] 26)).alloc (.cells #[.int .i64 0,.slice none 0 0,.slice none 0 0] 26):=⟨_,rfl⟩;have X0:=Qq (show Ext w W0 by rw [hW0];exact(Qz.alloc _).alloc _);obtain⟨b,hb⟩:∃b,b=w.heap.size:=⟨_,rfl⟩;have B0:=Qq (show W0.heap[b]?=some (.cells #[.int .i64 n,.slice Av md.val.length cv,.slice Ar md.rel.length cr] 26 (0,0)) by rw [hW0,hb];exact((Qz.alloc _).block (by simp)).trans (heap_alloc_new _ _))
 have B1:=Qq (show W0.heap[b+1]?=some (.cells #[.int .i64 0,.slice none 0 0,.slice none 0 0] 26 (0,0)) by
  have h1:=heap_alloc_new (w.alloc (.cells #[.int .i64 n,.slice Av md.val.length cv,.slice Ar md.rel.length cr] 26)) (.cells #[.int .i64 0,.slice none 0 0,.slice none 0 0] 26);rw [hW0,hb]
  simpa using h1)
 have HLO:=Qq (show w.heap.size<=b+1 by omega);clear hs hT hok hn hrE hck;obtain⟨e0,e1,e2,el⟩:=Zd B0.out;go_enter Tryz.func36,Tryz.ntmps36;go_upto_region 1 with(fail);rw [<-hW0,<-hb];clear hW0 hb;go_wp2_with fail;refine(Ki _ md _ (HM.out.ext X0.out) HOK.out).mono ?_;rintro e w1 ⟨rfl,hx⟩;rw [<-HCK.out];have HX1:=Qq hx;have HBR:=Qq ((hx.block (Qf B1.out)).trans B1.out);obtain⟨⟨q0,q1,q2⟩,⟨f0,f1,f2⟩,ql⟩:=Zt HBR.out;clear hx e0 e1 e2 el;by_cases hz:ck=0
 case neg =>
  have hne:(ck !=0)=true:=by simpa using hz
  have HE:=Qq (show rE=ck by rw [HRE.out,HCK.out];unfold Bc;rw [if_pos (by rw [<-HCK.out];exact hz)]);have HZ:=Qq (show Bc md s≠0 by rw [<-HRE.out,HE.out];exact hz);clear hz;go_wp2_with fail
  (try simp only [Exit.inBlock,Exit.then])
  refine bodyPost_ret (Yt Tryz.results36 _ _ rfl (Zl (Jh HBR.out _ _ _)) Tryz.underlying26 rfl (by kernel_rfl)) rfl ?_;exact⟨_,_,by rw [HE.out] <;> rfl,Jc (X0.out.trans HX1.out) HLO.out _ _ _,fun W _=>by unfold Mq Hc;rw [if_neg HZ.out,if_neg HZ.out];exact⟨Gk _,Qq9 _⟩⟩
 subst hz;have hck:=HCK.out.symm;obtain⟨hn1,hn64,_⟩:=Zv hck;obtain⟨N,hNN⟩:=Int.eq_ofNat_of_zero_le (show 0<=n by rw [HN.out];omega);have HNT:=Qq (show md.n.toNat=N by rw [<-HN.out,hNN];exact Int.toNat_natCast N);have hN64:N<=64:=by have:=HN.out;omega
 have HRN:=Qq (show rE=if Ym s (Zx N)=false then 2 else if s=0 then 6 else 0 by rw [HRE.out];unfold Bc;rw [if_neg (by rw [hck];simp),HNT.out]);subst hNN;have hand:=Vi HS.out (Xo hN64);have hdz:=Tq (a:=s) (b:=Zx N);obtain⟨d,hd⟩:∃d,d=Jz s (Zx N):=⟨_,rfl⟩;rw [<-hd]at hand hdz;obtain⟨e0,e1,e2,el⟩:=Zd ((HX1.out.block (Qf B0.out)).trans B0.out);clear hck hn1 hn64 hd;go_wp2_with fail;refine(Wl N hN64 _).mono ?_;rintro e w2 ⟨rfl,rfl⟩;cases hsb:Ym s (Zx N)
 ·rw [hsb]at hdz HRN;have hne:((d:Int) !=0)=true:=by
   have:d≠0:=by intro e;rw [e]at hdz;cases hdz
   simp;omega
  have HE:=Qq (show rE=2 by rw [HRN.out,if_pos rfl]);have HZ:=Qq (show Bc md s≠0 by rw [<-HRE.out,HE.out];decide);clear hdz hsb;go_wp2_with fail
  (try simp only [Exit.inBlock,Exit.then])
  refine bodyPost_ret (Yt Tryz.results36 _ _ rfl (Zl (Jh HBR.out _ _ _)) Tryz.underlying26 rfl (by kernel_rfl)) rfl ?_;exact⟨_,_,by rw [HE.out] <;> rfl,Jc (X0.out.trans HX1.out) HLO.out _ _ _,fun W _=>by unfold Mq Hc;rw [if_neg HZ.out,if_neg HZ.out];exact⟨Gk _,Qq9 _⟩⟩
 rw [hsb]at hdz HRN;rw [if_neg (by simp)]at HRN;have hd0:d=0:=by simpa using hdz
 subst hd0;have HSB:=Qq hsb;clear hdz hsb;by_cases hs0:s=0
 ·have hne:((s:Int)==0)=true:=by rw [hs0];rfl
  have HE:=Qq (show rE=6 by rw [HRN.out,if_pos hs0]);have HZ:=Qq (show Bc md s≠0 by rw [<-HRE.out,HE.out];decide);clear hs0;go_wp2_with fail
  (try simp only [Exit.inBlock,Exit.then])
  refine bodyPost_ret (Yt Tryz.results36 _ _ rfl (Zl (Jh HBR.out _ _ _)) Tryz.underlying26 rfl (by kernel_rfl)) rfl ?_;exact⟨_,_,by rw [HE.out] <;> rfl,Jc (X0.out.trans HX1.out) HLO.out _ _ _,fun W _=>by unfold Mq Hc;rw [if_neg HZ.out,if_neg HZ.out];exact⟨Gk _,Qq9 _⟩⟩
 have hne:((s:Int)==0)=false:=by rw [beq_eq_false_iff_ne];omega
 have HE:=Qq (show rE=0 by rw [HRN.out,if_neg hs0]);have HZ:=Qq (show Bc md s=0 by rw [<-HRE.out,HE.out]);clear hs0 e0 e1 e2 el q0 q1 q2 f0 f1 f2 ql;go_wp2_with fail;refine(Qds s HS.out _ (HT.out.ext (X0.out.trans HX1.out))).mono ?_;rintro e w2 ⟨vl,rfl,hml,hx⟩;have HMR:=Qq hml;have HML:=Qq hml.nts;obtain⟨Al,cl,hvl,_⟩:=hml.nts;subst hvl;have HX2:=Qq hx;have X2:=Qq (HX1.out.trans hx);obtain⟨e0,e1,e2,el⟩:=Zd ((X2.out.block (Qf B0.out)).trans B0.out);clear hml hx;go_wp2_with fail;refine(Qb5 _ _ md (Zc s) _ (HM.out.ext (X0.out.trans X2.out)) HOK.out HCK.out.symm HML.out (fun u hu=> ?_) (Qqz s)).mono ?_
 ·have h1:=Yd.1 HSB.out u (Bd.1 hu).2;rw [Vl,decide_eq_true_iff]at h1;rw [HNT.out];exact h1
 rintro e w3 ⟨u,rfl,hmd,hx⟩;have HMD:=Qq hmd;have HX3:=Qq hx;have X3:=Qq (X2.out.trans hx);have HBR:=Qq ((X3.out.block (Qf B1.out)).trans B1.out);obtain⟨u0,u1,hu,⟨A1,c1,rfl,_⟩,⟨A2,c2,rfl,_⟩⟩:=hmd.here;subst hu;obtain⟨l1,hl1⟩:∃z,z=(Jp md (Zc s)).n:=⟨_,rfl⟩;obtain⟨l2,hl2⟩:∃z,z=(Jp md (Zc s)).val.length:=⟨_,rfl⟩;obtain⟨l3,hl3⟩:∃z,z=(Jp md (Zc s)).rel.length:=⟨_,rfl⟩;rw [<-hl1,<-hl2,<-hl3]at HMD⊢;obtain⟨⟨q0,q1,q2⟩,⟨f0,f1,f2⟩,ql⟩:=Zt HBR.out;have HL1:=Qq (show b+1 < w1.heap.size from Qy (Qf B1.out) HX1.out.size);have HL2:=Qq X2.out.size;clear hmd hx e0 e1 e2 el hl1 hl2 hl3;go_wp2_with fail
 (try simp only [Exit.inBlock,Exit.then])
 refine bodyPost_ret (Yt Tryz.results36 _ _ rfl (Zl (Jh HBR.out _ _ _)) Tryz.underlying26 rfl (by kernel_rfl)) rfl ?_;refine⟨_,_,by rw [HE.out] <;> rfl,Jc (X0.out.trans X3.out) HLO.out _ _ _,fun W hW=> ?_⟩;have h1:=HL1.out;have h2:=HX1.out.size;have h3:=X0.out.size;have h4:=HX3.out.size;have h5:=HLO.out;unfold Mq Hc;rw [if_pos HZ.out,if_pos HZ.out];have hset:(((w3.setCell ⟨b+1,0,none⟩ (.int .i64 l1)).setCell ⟨b+1,1,none⟩ (.slice A1 l2 c1)).setCell ⟨b+1,2,none⟩ (.slice A2 l3 c2)).heap.size=w3.heap.size:=by simp [World.setCell]
 have hold:∀k,w1.heap.size<=k->k < w3.heap.size->W.heap[k]?=w3.heap[k]?:=fun k hk hl=>(hW.2 k (by omega) (by omega)).trans (Vd (by omega) _ _ _)
 have h6:=hW.1;have h7:w1.heap.size<=w2.heap.size:=HX2.out.size;have hrow:Fm w1.heap.size W (.slice Al (Zc s).length cl) (Zc s):=Zs HMR.out fun k hk=>by
  have hk1:=World.ownsRow.lt HMR.out k hk;rw [hold k hk1.1 (by omega),HX3.out.block hk1.2]
 exact⟨HMD.out W ⟨by omega,fun k hk hl=>hold k (by omega) hl⟩,hrow.nts⟩
theorem Qaz {a b:Nat}(h:a+b < 18446744073709551616):IntKind.u64.wrap ((a:Int)+(b:Int))=((a+b:Nat):Int):=by
 rw [IntKind.wrap_u64];omega
theorem Qyh(a M:Nat)(ha:a < 18446744073709551616)(hM:M < 18446744073709551616):bits .and .u64 (a:Int) (M:Int)=((a&&&M:Nat):Int):=Ud ha hM
theorem Qap {y c:Nat}(h:y < 9223372036854775808)(e:y % 128=c):bits .and .i64 (y:Int) 127=(c:Int):=by
 have h1:=Lj y 127 h (by omega);have h2:=Nat.and_two_pow_sub_one_eq_mod y 7;simp only [Nat.reducePow,Nat.reduceSub]at h2;rw [h2,e,show((127:Nat):Int)=127 from rfl]at h1;exact h1
theorem bd4 {a:Nat}(h:a<=1085102592571150095):a+a / 256<=1100000000000000000:=by omega
theorem bd5 {a:Nat}(h:a<=1100000000000000000):a+a / 65536<=1110000000000000000:=by omega
theorem bd6 {a:Nat}(h:a<=1110000000000000000):a+a / 4294967296<=1120000000000000000:=by omega
theorem ad4 {a:Nat}(h:a<=1085102592571150095):IntKind.u64.wrap ((a:Int)+(a:Int) / 256)=((a+a / 256:Nat):Int):=by rw [IntKind.wrap_u64];omega
theorem ad5 {a:Nat}(h:a<=1100000000000000000):IntKind.u64.wrap ((a:Int)+(a:Int) / 65536)=((a+a / 65536:Nat):Int):=by rw [IntKind.wrap_u64];omega
theorem ad6 {a:Nat}(h:a<=1110000000000000000):IntKind.u64.wrap ((a:Int)+(a:Int) / 4294967296)=((a+a / 4294967296:Nat):Int):=by rw [IntKind.wrap_u64];omega
theorem ad3 {a:Nat}(h:a<=7378697629483820646):IntKind.u64.wrap ((a:Int) / 16+(a:Int))=((a / 16+a:Nat):Int):=by rw [IntKind.wrap_u64];omega
theorem wr6 {a:Nat}(h:a<=1120000000000000000):wrap64 (a:Int)=(a:Int):=by unfold wrap64;omega
theorem an1 {a:Nat}(h:a < 18446744073709551616):bits .and .u64 ((a:Int) / 2) 6148914691236517205=((a / 2&&&6148914691236517205:Nat):Int):=by
 rw [show(a:Int) / 2=((a / 2:Nat):Int) by omega];exact Qyh (a / 2) 6148914691236517205 (by omega) (by decide)
theorem an3 {a:Nat}(h:a < 18446744073709551616):bits .and .u64 ((a:Int) / 4) 3689348814741910323=((a / 4&&&3689348814741910323:Nat):Int):=by
 rw [show(a:Int) / 4=((a / 4:Nat):Int) by omega];exact Qyh (a / 4) 3689348814741910323 (by omega) (by decide)
theorem Qc9(x:Nat)(hx:Qw x)(w:World):Calls Tryz.prog 81 #[.int .u64 (x:Int)] w fun e w'=>e=.returned (.int .i64 ((Xx x 64:Nat):Int))/\w=w':=by
 obtain⟨x1,hx1⟩:∃z,z=st1 6148914691236517205 x:=⟨_,rfl⟩;obtain⟨x2,hx2⟩:∃z,z=st2 3689348814741910323 x1:=⟨_,rfl⟩;obtain⟨x3,hx3⟩:∃z,z=st3 1085102592571150095 x2:=⟨_,rfl⟩;obtain⟨x4,hx4⟩:∃z,z=st4 x3:=⟨_,rfl⟩;obtain⟨x5,hx5⟩:∃z,z=st5 x4:=⟨_,rfl⟩;obtain⟨x6,hx6⟩:∃z,z=st6 x5:=⟨_,rfl⟩;have HR:=Qq (show x6 % 128=Xx x 64 by
  rw [hx6,hx5,hx4,hx3,hx2,hx1];exact Qe9 hx)
 have hw:x < 18446744073709551616:=hx;obtain⟨p1,hp1⟩:∃z,z=x / 2&&&6148914691236517205:=⟨_,rfl⟩;obtain⟨p2,hp2⟩:∃z,z=x&&&6148914691236517205:=⟨_,rfl⟩;obtain⟨p3,hp3⟩:∃z,z=x1 / 4&&&3689348814741910323:=⟨_,rfl⟩;obtain⟨p4,hp4⟩:∃z,z=x1&&&3689348814741910323:=⟨_,rfl⟩;obtain⟨p5,hp5⟩:∃z,z=x2 / 16+x2:=⟨_,rfl⟩;have k1:p1<=6148914691236517205:=by rw [hp1];exact Nat.and_le_right
 have k2:p2<=6148914691236517205:=by rw [hp2];exact Nat.and_le_right
 have k3:p3<=3689348814741910323:=by rw [hp3];exact Nat.and_le_right
 have k4:p4<=3689348814741910323:=by rw [hp4];exact Nat.and_le_right
 have e1:x1=p1+p2:=by rw [hx1,hp1,hp2];rfl
 have e2:x2=p3+p4:=by rw [hx2,hp3,hp4];rfl
 have b1:x1 < 18446744073709551616:=by rw [e1];omega
 have b2:x2<=7378697629483820646:=by rw [e2];omega
 have b5:p5 < 18446744073709551616:=by rw [hp5];omega
 have e3:x3=p5&&&1085102592571150095:=by rw [hx3,hp5];rfl
 have b3:x3<=1085102592571150095:=by rw [e3];exact Nat.and_le_right
 have b4:x4<=1100000000000000000:=by rw [hx4];exact bd4 b3
 have c5:x5<=1110000000000000000:=by rw [hx5];exact bd5 b4
 have c6:x6<=1120000000000000000:=by rw [hx6];exact bd6 c5
 have b6:x6 < 9223372036854775808:=Nat.lt_of_le_of_lt c6 (by decide);obtain⟨cn,hcn⟩:∃z,z=Xx x 64:=⟨_,rfl⟩;have HF:=Qq (Qap b6 (HR.out.trans hcn.symm));rw [<-hcn];have f1:bits .and .u64 ((x:Int) / 2) 6148914691236517205=(p1:Int):=by rw [hp1];exact an1 hw
 have f2:bits .and .u64 (x:Int) 6148914691236517205=(p2:Int):=by rw [hp2];exact Qyh x 6148914691236517205 hw (by decide)
 have f3:IntKind.u64.wrap ((p1:Int)+(p2:Int))=(x1:Int):=by rw [Qaz (e1▸b1),e1]
 have f4:bits .and .u64 ((x1:Int) / 4) 3689348814741910323=(p3:Int):=by rw [hp3];exact an3 b1
 have f5:bits .and .u64 (x1:Int) 3689348814741910323=(p4:Int):=by rw [hp4];exact Qyh x1 3689348814741910323 b1 (by decide)
 have f6:IntKind.u64.wrap ((p3:Int)+(p4:Int))=(x2:Int):=by rw [Qaz (Nat.lt_of_le_of_lt (e2▸b2) (by decide)),e2]
 have f7:IntKind.u64.wrap ((x2:Int) / 16+(x2:Int))=(p5:Int):=by rw [hp5];exact ad3 b2
 have f8:bits .and .u64 (p5:Int) 1085102592571150095=(x3:Int):=by rw [e3];exact Qyh p5 1085102592571150095 b5 (by decide)
 have f9:IntKind.u64.wrap ((x3:Int)+(x3:Int) / 256)=(x4:Int):=by rw [hx4];exact ad4 b3
 have f10:IntKind.u64.wrap ((x4:Int)+(x4:Int) / 65536)=(x5:Int):=by rw [hx5];exact ad5 b4
 have f11:IntKind.u64.wrap ((x5:Int)+(x5:Int) / 4294967296)=(x6:Int):=by rw [hx6];exact ad6 c5
 have f12:wrap64 (x6:Int)=(x6:Int):=wr6 c6;clear hcn b6 hx hw hx1 hx2 hx3 hx4 hx5 hx6 HR hp1 hp2 hp3 hp4 hp5 e1 e2 e3 k1 k2 k3 k4 b1 b2 b3 b4 b5 c5 c6;go_enter Tryz.func81,Tryz.ntmps81;go_wp2_with fail;go_ret;exact⟨by rw [<-HF.out] <;> rfl,rfl⟩
theorem Lh.lowB {md:Md} {fr todo out:Nat}(h:Lh md fr todo out)(hck:Zj md=0)(hfr:Ym fr (Zx md.n.toNat)=true):∀i,out.testBit i=true->i < md.n.toNat :=
 h.least (fun i=>i < md.n.toNat) (fun i hi=>by
  have:=Yd.1 hfr i hi;rw [Vl,decide_eq_true_iff]at this;exact this) (fun a _ u _ v hv=>(Fo hck a u v hv).2)
theorem Qgj(vm:Value)(md:Md)(fr:Nat)(w:World)(hT:Vf w)(hm:MdV w vm md)(hok:md.ok)(hck:Zj md=0)(hfr:Ym fr (Zx md.n.toNat)=true)(hw:Qw fr):
 Calls Tryz.prog 80 #[vm,.int .u64 (fr:Int)] w fun e w'=>∃out:Nat,e=.returned (.tuple #[.int .u64 (out:Int),.int .i64 0])/\Sa md fr out/\Qw out/\Ext w w':=by
 have HM:=Qq hm;have HOK:=Qq hok;have HCK:=Qq hck;have HFR:=Qq hfr;have HW:=Qq hw;have HT:=Qq hT;obtain⟨hn1,hn64,hr4,_,hrl0,_,_⟩:=Zv hck;have HRL:=Qq (show ∀r∈md.rel,r.length=md.n.toNat from fun r hr=>by have:=hrl0 r hr;omega);obtain⟨vv,vr,rfl,⟨Av,cv,rfl,_⟩,hr⟩:=hm;obtain⟨Ar,cr,rfl,hrc,hrm,HR⟩:=Bq hr;obtain⟨N,hNN⟩:=Int.eq_ofNat_of_zero_le (show 0<=md.n by omega);have hNt:md.n.toNat=N:=by rw [hNN];exact Int.toNat_natCast N
 have hN64:N<=64:=by omega
 have HNT:=Qq hNt;rw [hNN]at HM⊢;have hdz:Jz fr (Zx N)=0:=by
  have:=Tq (a:=fr) (b:=Zx N);rw [<-hNt,hfr]at this;rw [<-hNt]
  simpa using this
 have hand:=Vi hw (Xo hN64);rw [hdz]at hand;obtain⟨nr,hnr⟩:∃z,z=md.rel.length:=⟨_,rfl⟩;have HNR:=Qq hnr;have hnr4:nr<=4:=by rw [hnr];exact hr4
 obtain⟨W0,hW0⟩:∃W,W=w.alloc (.cells #[.int .i64 (N:Int),.slice Av md.val.length cv,.slice Ar md.rel.length cr] 26):=⟨_,rfl⟩;have X0:=Qq (show Ext w W0 by rw [hW0];exact Qz.alloc _);obtain⟨b,hb⟩:∃b,b=w.heap.size:=⟨_,rfl⟩;have B0:=Qq (show W0.heap[b]?=some (.cells #[.int .i64 (N:Int),.slice Av md.val.length cv,.slice Ar md.rel.length cr] 26 (0,0)) by rw [hW0,hb];exact heap_alloc_new _ _);rw [<-hnr]at B0;clear hT hok hck hfr hw hn1 hn64 hr hNN hNt hdz hrl0;go_enter Tryz.func80,Tryz.ntmps80;go_upto_region 1 with(fail);rw [<-hW0,<-hb,<-hnr];clear hW0 hb hnr;obtain⟨e0,e1,e2,el⟩:=Zd B0.out;go_wp2_with fail
 refine(Ki _ md _ (by have:=HM.out.ext X0.out;rw [<-HNR.out]at this;exact this) HOK.out).mono ?_;rintro e w1 ⟨rfl,hx⟩;rw [HCK.out];have HX1:=Qq hx;obtain⟨e0,e1,e2,el⟩:=Zd ((hx.block (Qf B0.out)).trans B0.out);clear hx;go_wp2_with fail;refine(Wl N hN64 _).mono ?_;rintro e w2 ⟨rfl,rfl⟩;go_wp2_with fail;clear e0 e1 e2 el hand;go_loopw [7,8] (fun vo vt wr=>∃out todo:Nat,vo=.int .u64 (out:Int)/\vt=.int .u64 (todo:Int)/\Hid (Lh md fr todo out/\Qw out/\Qw todo/\Ext w1 wr)) (fun vo vt _=>Wq (intOf vt).toNat (intOf vo).toNat)
 case atStart=>exact⟨fr,fr,rfl,rfl,Qq ⟨Lh.start _ _,HW.out,HW.out,Qz⟩⟩
 case round =>
  obtain⟨out,todo,rfl,rfl,HREL⟩:=hrel;obtain⟨hgi,how,htw,hx⟩:=HREL.out;have HGI:=Qq hgi;have HOW:=Qq how;have HTW:=Qq htw;have HXA:=Qq hx;clear HREL hgi how htw hx;by_cases h0:todo=0
  ·subst h0;have hne:(((0:Nat):Int) !=0)=false:=by simp
   have HX:=Qq (X0.out.trans (HX1.out.trans HXA.out));go_wp2_with fail;go_ret2;exact⟨out,rfl,HGI.out.done,HOW.out,HX.out⟩
  have hne:((todo:Int) !=0)=true:=by simpa using h0
  have H0:=Qq h0;have HEN:=Qq (HGI.out.enter HTW.out h0);have HMS:=Qq (Qls HTW.out h0 HGI.out.tod);have hcb:=HGI.out.lowB HCK.out HFR.out _ HEN.out.here;obtain⟨u,hu⟩:∃u,u=Fp todo:=⟨_,rfl⟩;rw [<-hu,HNT.out]at hcb;rw [<-hu]at HEN;have HUU:=Qq hu;have hw1:IntKind.u64.wrap ((todo:Int) - 1)=((todo - 1:Nat):Int):=by
   have:=HTW.out;unfold Qw at this;rw [IntKind.wrap_u64];omega
  have hand:bits .and .u64 (todo:Int) ((todo - 1:Nat):Int)=((todo&&&(todo - 1):Nat):Int):=Ud HTW.out (Nat.lt_of_le_of_lt (Nat.sub_le _ _) HTW.out);obtain⟨td,htd⟩:∃z,z=todo&&&(todo - 1):=⟨_,rfl⟩;have HTDW:=Qq (show Qw td by rw [htd];exact Nat.lt_of_le_of_lt Nat.and_le_left HTW.out);rw [<-htd]at hand HEN HMS;clear h0 hu htd;go_wp2_with fail;refine(Qbw todo HTW.out H0.out _ (HT.out.ext (X0.out.trans (HX1.out.trans HXA.out)))).mono ?_;rintro e w3 ⟨rfl,rfl⟩;rw [<-HUU.out];obtain⟨e0,e1,e2,el⟩:=Zd (((HX1.out.trans HXA.out).block (Qf B0.out)).trans B0.out);obtain⟨wa,hwa⟩:∃v,v=w3:=⟨_,rfl⟩
  subst hwa;go_wp2_with fail;clear e0 e1 e2 el hw1 hand hne;go_loopw [7,8,36] (fun vo vt vi wr=>∃o2 t2 i:Nat,vo=.int .u64 (o2:Int)/\vt=.int .u64 (t2:Int)/\vi=.int .i64 (i:Int)/\i<=nr/\Hid (Qz8 md fr u i t2 o2/\Qw o2/\Qw t2/\Ext wa wr/\Wq t2 o2 < Wq todo out)) (fun _ _ vi _=>nr - (intOf vi).toNat)
  case atStart=>exact⟨out,td,0,rfl,rfl,rfl,Nat.zero_le _,Qq ⟨HEN.out,HOW.out,HTDW.out,Qz,HMS.out⟩⟩
  case round =>
   clear HEN HMS HTDW;obtain⟨o2,t2,i,rfl,rfl,rfl,hi,HREL⟩:=hrel;obtain⟨hgj,how,htw,hx,hmm⟩:=HREL.out;have HGJ:=Qq hgj;have HOW2:=Qq how;have HTW2:=Qq htw;have HXB:=Qq hx;have HMM:=Qq hmm;clear HREL hgj how htw hx hmm;by_cases hlt3:i < nr
   ·have hk2:(i:Int) < (nr:Int):=by omega
    obtain⟨ad,ur,rfl,hadl,hcl,hur⟩:=HR.out i (by rw [<-HNR.out];exact hlt3);have hrm:md.rel.getD i []∈md.rel:=by rw [Qk,List.getElem?_eq_getElem (by rw [<-HNR.out];exact hlt3)];exact List.getElem_mem _
    have hrl:(md.rel.getD i []).length=N:=by rw [<-HNT.out];exact HRL.out _ hrm
    obtain⟨Au,cu,rfl,_,_,HU⟩:=Gy hur;rw [hrl]at hcl HU;obtain⟨ud,rfl,hudl,huc⟩:=HU.out u hcb;have hcb2:(u:Int) < (N:Int):=by omega
    have HXT:=Qq (X0.out.trans (HX1.out.trans (HXA.out.trans HXB.out)));have a0:=(HXT.out.cell (p:=ad.add i) (Qj hadl)).trans hcl;have al:(ad.add i).block < wr.heap.size:=by rw [Qc];exact Qy hadl HXT.out.size
    have u0:=(HXT.out.cell (p:=ud.add u) (Qj hudl)).trans huc;have ul:(ud.add u).block < wr.heap.size:=by rw [Qc];exact Qy hudl HXT.out.size
    have HST:=Qq (HGJ.out.step (by rw [<-HNR.out];exact hlt3));have HSM:=Qq (Nat.lt_of_le_of_lt (Qcr (todo:=t2) (out:=o2) (r:=(md.rel.getD i []).getD u 0)) HMM.out);have HXW:=Qq (show Qw ((md.rel.getD i []).getD u 0)from Rg (HOK.out.rel _ hrm) u);obtain⟨x,hx⟩:∃x,x=(md.rel.getD i []).getD u 0:=⟨_,rfl⟩;rw [<-hx]at u0 HST HSM HXW;have hop1:=Vi HXW.out HOW2.out;have HDW:=Qq (Si (b:=o2) HXW.out);obtain⟨dx,hdx⟩:∃z,z=Jz x o2:=⟨_,rfl⟩;rw [<-hdx]at hop1 HST HSM HDW;have hop2:=Bk HTW2.out HDW.out;have hop3:=Bk HOW2.out HXW.out;have HT3:=Qq (Qyz HTW2.out HDW.out);have HO3:=Qq (Qyz HOW2.out HXW.out)
    obtain⟨t3,ht3⟩:∃z,z=t2|||dx:=⟨_,rfl⟩;obtain⟨o3,ho3⟩:∃z,z=o2|||x:=⟨_,rfl⟩;rw [<-ht3]at hop2 HST HSM HT3;rw [<-ho3]at hop3 HST HSM HO3;clear hcl huc hx hrl hur hrm hadl hudl hdx ht3 ho3;go_wp2_with fail;go_roundw
    case rel=>exact⟨o3,t3,i+1,rfl,rfl,by go_num,by omega,Qq ⟨HST.out,HO3.out,HT3.out,HXB.out,HSM.out⟩⟩
    case measure=>simp [intOf];omega
   obtain rfl:nr=i:=by omega
   have HLV:=Qq (show Lh md fr t2 o2 by have:=HGJ.out;rw [HNR.out]at this;exact this.leave);go_wp2_with fail;go_roundw
   case rel=>exact⟨o2,t2,rfl,rfl,Qq ⟨HLV.out,HOW2.out,HTW2.out,HXA.out.trans HXB.out⟩⟩
   case measure =>
    show Wq ((t2:Nat):Int).toNat ((o2:Nat):Int).toNat < Wq ((todo:Nat):Int).toNat ((out:Nat):Int).toNat;simp only [Int.toNat_natCast];exact HMM.out
end Go.Proofs.YtkmclcmnoicagaaGreatDoor
