/- A selection of types in memory: its list and its map. -/
import Derived.Test.YtkmclcmnoicagaaGreatDoorT33
namespace Go.Proofs.YtkmclcmnoicagaaGreatDoor
set_option maxRecDepth 100000
set_option maxHeartbeats 128000000
open Go.RowKit
open Go.Maps (Keyed IsMap Tidy has has_put_same has_put_other atKey_put_same atKey_put_other)
def Gp(w:World)(b:Nat)(l:List Nat):Prop :=
 ∃(D:D0) (n:Nat),w.ownsMap Tryz.prog 3 (plainElem Tryz.prog 4) b n D/\n<=l.length/\∀(u:Nat) (z:D0),D.atKey (.int .i64 (u:Int)) z=if u∈l then .lit (.bool true)else z
theorem Qh7(w:World):(zeroValue 4).run Tryz.prog w=.ok (.bool false) w:=by kernel_rfl
theorem Qv2(b:Bool):(plainElem Tryz.prog 4 (.bool b):Option (D0×List MemPlace))=some (.lit (.bool b),[]):=plainElem_bool Tryz.underlying4 b
theorem Qvi {v:Value} {b:Bool} {ps:List MemPlace}(h:(plainElem Tryz.prog 4 v:Option (D0×List MemPlace))=some (.lit (.bool b),ps)):v=.bool b:=by
 unfold plainElem at h;rw [Tryz.underlying4]at h;cases v <;> simp at h;rw [h.1]
section
variable {w w':World} {b:Nat} {l:List Nat}
theorem Gp.made(w:World):Gp (w.alloc (.map #[] 0)) w.heap.size []:=
 ⟨.map [],0,World.ownsMap_made w _ _ _,Nat.zero_le _,fun _u _z=>rfl⟩
theorem Gp.lt(h:Gp w b l):b < w.heap.size:=by
 obtain⟨D,n,h1,_⟩:=h;exact h1.lt
theorem Gp.kept(h:Gp w b l)(hb:w'.heap[b]?=w.heap[b]?):Gp w' b l:=by
 obtain⟨D,n,h1,h2⟩:=h;exact⟨D,n,Ee h1 hb,h2⟩
theorem Gp.look(h:Gp w b l) {t:Nat}(ht:t<=1000000):(Instr.lookup 96 (.map (some b)) (.int .i64 (t:Int)) false).run Tryz.prog w=.ok (.bool (decide (t∈l))) w:=by
 obtain⟨D,n,h1,_,h3⟩:=h;obtain⟨v,ps,hrun,hv⟩:=h1.lookup Gn Tryz.underlying96 (Qh7 _) (Qv2 false) (Dg (Lo ht));rw [h3]at hv;rw [hrun];by_cases hm:t∈l
 ·rw [if_pos hm]at hv;rw [Qvi hv,decide_eq_true hm]
 rw [if_neg hm]at hv;rw [Qvi hv,decide_eq_false hm]
theorem Gp.put {D:D0} {n t:Nat}(hD:IsMap D)(hn:n<=l.length)(ha:∀(u:Nat) (z:D0),D.atKey (.int .i64 (u:Int)) z=if u∈l then .lit (.bool true)else z)
 (h:w'.ownsMap Tryz.prog 3 (plainElem Tryz.prog 4) b (n+1) (D.put (.int .i64 (t:Int)) (.lit (.bool true)))):Gp w' b (l++ [t]):=by
 have hkey:WideAt.IsKeyLit (.int .i64 (t:Int)):=trivial;refine⟨_,_,h,by simp;omega,fun u z=> ?_⟩;by_cases e:u=t
 ·subst e;rw [atKey_put_same hD hkey,if_pos (by simp)]
 have hne:(Lit.int .i64 (u:Int))≠.int .i64 (t:Int):=fun k=>e (by injection k with _ k;omega)
 rw [atKey_put_other hne,ha u z];by_cases hm:u∈l
 ·rw [if_pos hm,if_pos (List.mem_append_left _ hm)]
 rw [if_neg hm,if_neg (by simp [hm,e])]
end
theorem Qtv {w w4:World} {p:Addr}(h:w4.heap[p.block]?=w.heap[p.block]?):w4.cell? p=w.cell? p:=by
 unfold World.cell?;rw [h]
structure Xa (w0 wr:World) (v:Value) (l:List Nat):Prop where
 ext:Ext w0 wr
 map:Gp wr w0.heap.size l
 box:wr.heap[w0.heap.size+1]?=some (.cells #[v,.map (some w0.heap.size)] 98 (0,0))
 row:wr.ownsRow (w0.heap.size+2) 3 1 v l.length (Gk l)
section
variable {w0 wr W:World} {v:Value} {l:List Nat}
theorem Xa.start(w0:World):Xa w0 ((w0.alloc (.map #[] 0)).alloc (.cells #[.slice none 0 0,.map (some w0.heap.size)] 98)) (.slice none 0 0) []:=
 ⟨(Qz.alloc _).alloc _,(Gp.made w0).kept ((Qz.alloc _).block (by simp)),by
   have:=heap_alloc_new (w0.alloc (.map #[] 0)) (.cells #[.slice none 0 0,.map (some w0.heap.size)] 98)
   simpa using this,World.ownsRow_nil _ _ _ _⟩
theorem Xa.next(h:Xa w0 wr v l)(he:Ext wr W):Xa w0 W v l :=
 ⟨h.ext.trans he,h.map.kept (he.block h.map.lt),(he.block (Qm h.box)).trans h.box,Zf h.row he⟩
theorem Xa.cells(h:Xa w0 wr v l):wr.cell? ⟨w0.heap.size+1,0,none⟩=some v/\wr.cell? ⟨w0.heap.size+1,1,none⟩=some (.map (some w0.heap.size))/\w0.heap.size+1 < wr.heap.size :=
 ⟨by simp [World.cell?,h.box],by simp [World.cell?,h.box],Qm h.box⟩
structure Rp (w0 w:World) (v:Value) (w':World) (v':Value):Prop where
 size:w.heap.size<=w'.heap.size
 blk:∀k,k < w.heap.size->k≠w0.heap.size->k≠w0.heap.size+1->v.ownBlock≠some k->w'.heap[k]?=w.heap[k]?
 own:v'.ownBlock=v.ownBlock\/∃k,v'.ownBlock=some k/\w.heap.size<=k
theorem Rp.of {w w':World}(he:Ext w w'):Rp w0 w v w' v:=⟨he.size,fun _ hk _ _ _=>he.block hk,.inl rfl⟩
theorem Rp.trans {w w' w'':World} {v' v'':Value}(h:Rp w0 w v w' v')(h2:Rp w0 w' v' w'' v''):Rp w0 w v w'' v'':=by
 have s1:=h.size;have s2:=h2.size;refine⟨Qx s1 s2,fun k hk h0 h1 ho=> ?_,?_⟩
 ·rw [h2.blk k (by omega) h0 h1 (fun e=> ?_),h.blk k hk h0 h1 ho];rcases h.own with e2|⟨k2,e2,hk2⟩
  ·exact ho (e2▸e)
  rw [e2]at e;injection e with e;omega
 rcases h2.own with e|⟨k,e,hk⟩
 ·rcases h.own with e2|⟨k2,e2,hk2⟩
  ·exact .inl (e.trans e2)
  exact .inr ⟨k2,e.trans e2,hk2⟩
 exact .inr ⟨k,e,by omega⟩
theorem Xa.box7 {w6 W6 w7:World}(h:Xa w0 wr v l)(hg6:wr.grownBy w6 (some w0.heap.size))(he:Ext w6 W6)(hg7:W6.grownBy w7 v.ownBlock):
 w7.cell? ⟨w0.heap.size+1,0,none⟩=some v/\w7.frozen? ⟨w0.heap.size+1,0,none⟩=false/\w0.heap.size+1 < w7.heap.size:=by
 have hvq:∀g,v.ownBlock=some g->w0.heap.size+2<=g:=fun g hg=>(h.row.lt g hg).1
 have hb6:=Qm h.box;have s6:wr.heap.size<=w6.heap.size:=hg6.size;have hbox7:w7.heap[w0.heap.size+1]?=some (.cells #[v,.map (some w0.heap.size)] 98 (0,0)):=by
  rw [hg7.block _ (Qy hb6 (Qx s6 he.size)) (fun e=>by have:=hvq _ e.symm;omega),he.block (Qy hb6 s6),hg6.block _ hb6 (fun e=>by injection e with e;omega)];exact h.box
 exact⟨by simp [World.cell?,hbox7],by simp [World.frozen?,hbox7],Qm hbox7⟩
theorem Xa.push {w6 W6 w7:World} {v7:Value} {t:Nat}(h:Xa w0 wr v l)(hg6:wr.grownBy w6 (some w0.heap.size))(hmap:Gp w6 w0.heap.size (l++ [t]))(he:Ext w6 W6)
 (hown:w7.ownsRow (w0.heap.size+2) 3 1 v7 (l.length+1) (Gk l++ [.int .i64 (t:Int)]))(hg7:W6.grownBy w7 v.ownBlock)(ha7:v7.ownBlock=v.ownBlock\/v7.ownBlock=some W6.heap.size):
 Xa w0 (w7.setCell ⟨w0.heap.size+1,0,none⟩ v7) v7 (l++ [t])/\Rp w0 wr v (w7.setCell ⟨w0.heap.size+1,0,none⟩ v7) v7:=by
 have hvq:∀g,v.ownBlock=some g->w0.heap.size+2<=g:=fun g hg=>(h.row.lt g hg).1
 have hv7:∀g,v7.ownBlock=some g->w0.heap.size+2<=g:=fun g hg=>(hown.lt g hg).1
 have hb6:=Qm h.box;have s6:wr.heap.size<=w6.heap.size:=hg6.size;have hx7:Ext w0 w7:=((h.ext.grown hg6 (fun k hk=>by injection hk with hk;omega)).trans he).grown hg7 (fun g hg=>by have:=hvq g hg;omega);have hset:∀k,k≠w0.heap.size+1->(w7.setCell ⟨w0.heap.size+1,0,none⟩ v7).heap[k]?=w7.heap[k]?:=fun k e=>Below.heap_setCell _ _ _ _ e
 have hbox7:w7.heap[w0.heap.size+1]?=some (.cells #[v,.map (some w0.heap.size)] 98 (0,0)):=by
  rw [hg7.block _ (Qy hb6 (Qx s6 he.size)) (fun e=>by have:=hvq _ e.symm;omega),he.block (Qy hb6 s6),hg6.block _ hb6 (fun e=>by injection e with e;omega)];exact h.box
 have s7:=hg7.size;have se:=he.size;have ss:(w7.setCell ⟨w0.heap.size+1,0,none⟩ v7).heap.size=w7.heap.size:=by simp [World.setCell]
 refine⟨⟨hx7.setCell (p:=⟨w0.heap.size+1,0,none⟩) (by show w0.heap.size<=w0.heap.size+1;omega) _,?_,?_,?_⟩,⟨by omega,fun k hk h0 h1 ho=> ?_,?_⟩⟩
 ·refine hmap.kept ?_;rw [hset _ (by omega),hg7.block _ (Qy hmap.lt he.size) (fun e=>by have:=hvq _ e.symm;omega),he.block hmap.lt]
 ·simp only [World.setCell,Array.getElem?_modify,hbox7,if_true,Option.map_some];simp
 ·have e:Gk (l++ [t])=Gk l++ [.int .i64 (t:Int)]:=Qg9 l t;rw [e,List.length_append,List.length_singleton];exact Zi hown fun g hg=>hset g (by have:=hv7 g hg;omega)
 ·rw [hset k h1,hg7.block k (by omega) (fun e=>ho e.symm),he.block (by omega),hg6.block k hk (fun e=>h0 (by injection e))]
 rcases ha7 with e|e
 ·exact .inl e
 exact .inr ⟨_,e,by omega⟩
theorem Xa.row6 {w6:World}(h:Xa w0 wr v l)(hg6:wr.grownBy w6 (some w0.heap.size)):w6.ownsRow (w0.heap.size+2) 3 1 v l.length (Gk l):=
 Zi h.row fun g hg=>hg6.block g (h.row.lt g hg).2 (fun e=>by injection e with e;have:=(h.row.lt g hg).1;omega)
end
def Qom(w0 w:World)(v:Value)(l:List Nat)(e:Ending)(w':World):Prop:=(∃r,e=.returned r)/\∃v',Xa w0 w' v' l/\Rp w0 w v w' v'
theorem Qvz(w0 w:World)(v:Value)(l:List Nat)(t:Int)(h:Xa w0 w v l)(ht:t<=4096)(hl:l.length<=4096):
 Calls Tryz.prog 64 #[.pointer (some ⟨w0.heap.size+1,0,none⟩),.int .i64 t] w (Qom w0 w v (Bp l t)):=by
 have H:=Qq h;obtain⟨e0,e1,el⟩:=h.cells;by_cases h0:0<=t
 ·obtain⟨k,rfl⟩:=Int.eq_ofNat_of_zero_le h0;have hlook:=h.map.look (t:=k) (by omega);by_cases hm:k∈l
  ·have HA:=Qq (show Bp l (k:Int)=l from Qb8 (fun e=>e.2 (by rwa [Int.toNat_natCast])));rw [decide_eq_true hm]at hlook;clear h hm;go_enter Tryz.func64,Tryz.ntmps64;go_wp2_with fail;refine bodyPost_end (v:=.tuple #[]) (results_none rfl _ _ _) rfl ?_;exact⟨⟨_,rfl⟩,_,by rw [HA.out];exact H.out,Rp.of Qz⟩
  have HA:=Qq (show Bp l (k:Int)=l++ [k]from Qpx h0 (by rwa [Int.toNat_natCast]));rw [decide_eq_false hm]at hlook;obtain⟨D,n,hown,hn,hat⟩:=h.map;have HAT:=Qq hat;have HOWN:=Qq hown;have hkey:=Dg (Lo (a:=k) (by omega));obtain⟨iI,hiI,hzI0,hzI1,hzI2⟩:=info_parts Iq;clear h hm hat;go_enter Tryz.func64,Tryz.ntmps64;go_upto_region 2 with(at_mapUpdate;refine wpList_mapUpdate_own _ rfl _ _ _ 96 rfl 3 4 Gn Tryz.underlying96 _ w0.heap.size n D rfl hown (by unfold maxLen;omega) _ _ _ rfl rfl hkey _ [] (Qv2 true) ?_;intro w6 hown6 hgrow6);have HG6:=Qq hgrow6;have HM6:=Qq (show Gp w6 w0.heap.size (l++ [k])from Gp.put HOWN.out.isMap hn HAT.out hown6)
  have HR6:=Qq (H.out.row6 hgrow6);have hs6:w0.heap.size+1 < w6.heap.size:=Qy el hgrow6.size;have e06:w6.cell? ⟨w0.heap.size+1,0,none⟩=some v:=(Qtv (p:=⟨w0.heap.size+1,0,none⟩) (hgrow6.block _ el (by simp))).trans e0;obtain⟨A,c,rfl⟩:=Qt H.out.row;clear hown hown6 hgrow6 hkey e0 e1 hlook hn;have hc3:l.length+1<=maxLen:=by unfold maxLen;omega
  have hc4:(l.length+1)*8<=140737488355328:=by omega
  go_wp2_with(at_builtin;refine wpList_append_own_at _ rfl _ _ 36 rfl (w0.heap.size+2) 3 iI (.int .i64 0) 1 8 Tryz.underlying36 hiI hzI0 hzI1 hzI2 rfl (by decide) _ l.length (Gk l) rfl (Zf HR6.out (Qz.alloc _)) ⟨_,0,none⟩ 1 1 [.int .i64 (k:Int)] rfl rfl (Jq _ _ _ (by simp)) (fun u hu=>by rw [List.mem_singleton.1 hu];rfl) hc3 hc4 (by simp;omega) ?_);intro v7 w7 hown7 hgrow7 hnew7 hat7;have HP7:=Qq (Xa.push H.out HG6.out HM6.out (Qz.alloc _) hown7 hgrow7 (hat7.imp_right fun h=>by rw [h];simp));obtain⟨f0,f1,f2⟩:=H.out.box7 HG6.out (Qz.alloc _) hgrow7;obtain⟨A7,c7,rfl⟩:=Qt hown7
  clear hat7 hown7 hgrow7 hnew7;go_wp2_with fail;refine bodyPost_end (v:=.tuple #[]) (results_none rfl _ _ _) rfl ?_;exact⟨⟨_,rfl⟩,_,by rw [HA.out];exact HP7.out.1,HP7.out.2⟩
 have HA:=Qq (show Bp l t=l from Qb8 (fun e=>h0 e.1));clear h;go_enter Tryz.func64,Tryz.ntmps64;go_wp2_with fail;refine bodyPost_end (v:=.tuple #[]) (results_none rfl _ _ _) rfl ?_;exact⟨⟨_,rfl⟩,_,by rw [HA.out];exact H.out,Rp.of Qz⟩
def Pm(lg:Int)(ks:List Kn)(a:Int)(t:Nat)(wanted:Nat->Bool)(u:Nat):Bool:=wanted u&&Ze lg ks a t u
theorem Qox {lg:Int} {ks:List Kn} {al:List Bool} {a:Int} {t k:Nat} {wanted:Nat->Bool} {l:List Nat}(hk:k < l.length)(h:Pm lg ks a t wanted (l.getD k 0)=true):Ma lg ks al a t wanted l=l:=by
 unfold Ma;rw [if_pos];rw [List.any_eq_true];exact⟨l.getD k 0,by rw [Qk,Qv hk];exact List.getElem_mem _,h⟩
theorem Qh2 {lg:Int} {ks:List Kn} {al:List Bool} {a:Int} {t:Nat} {wanted:Nat->Bool} {l:List Nat}(h:∀k,k < l.length->Pm lg ks a t wanted (l.getD k 0)=false):Ma lg ks al a t wanted l=Bp l (Xq lg ks al a t wanted):=by
 unfold Ma;rw [if_neg];rw [Bool.not_eq_true,List.any_eq_false];intro u hu;obtain⟨k,hk,e⟩:=List.getElem_of_mem hu;have:=h k hk;rw [Qk,Qv hk,Option.getD_some,e]at this;show ¬Pm lg ks a t wanted u=true;rw [this];simp
theorem Qeh {lg:Int} {ks:List Kn} {al:List Bool} {a:Int} {t:Nat} {wanted:Nat->Bool}(h:al.length<=4096):Xq lg ks al a t wanted<=4096:=by
 unfold Xq;cases e:(List.range al.length).find? (Xz lg ks al a t wanted)with
 |none=>show(-1:Int)<=4096;omega
 |some k =>
  obtain⟨_,h2,_⟩:=List.find?_range_eq_some.1 e;have:=List.mem_range.1 h2;show(k:Int)<=4096;omega
theorem Qzg(b:Nat)(lg:Int)(base:List (List Nd))(root:List Bool)(ks:List Kn)(cs:List Cm)(alive:List Bool)(a:Int)(t:Nat)(wanted:Nat->Bool)(g:Nat)(lb:Array Value)(eg:∀args w,(callFunc g args).run Tryz.prog w=.ok (.enter g args) w)(w0 w:World)(v:Value)(l:List Nat)
 (hE:Eng w b lg base root ks cs alive)(hlg:0<=lg/\lg<=6)(ht:t < 18446744073709551616)(hm:alive.length<=4096)(hks:∀k∈ks,k.place < 64/\alive.length<=k.holds.length)
 (hS:Xa w0 w v l)(hl:l.length<=4096)(hlt:∀u∈l,u < alive.length)
 (hw:∀(W:World) (u:Nat),u < alive.length->Ext w W->Calls Tryz.prog g (#[.int .i64 (u:Int)]++lb) W fun e w'=>e=.returned (.bool (wanted u))/\Ext W w'):
 Calls Tryz.prog 144 #[.pointer (some ⟨b,0,none⟩),.pointer (some ⟨w0.heap.size+1,0,none⟩),.int .i64 a,.int .u64 (t:Int),.func (.func g) #[] lb] w (Qom w0 w v (Ma lg ks alive a t wanted l)):=by
 have HE:=Qq hE;have HKS:=Qq hks;have HW:=Qq hw;have HS:=Qq hS;have HLT:=Qq hlt;obtain⟨e0,e1,el⟩:=hS.cells;obtain⟨A,c,rfl⟩:=Qt hS.row;clear hE hks hw hS hlt e1;go_enter Tryz.func144,Tryz.ntmps144;go_wp2_with fail;clear e0;go_loopw [17] (fun v wr=>∃k:Nat,v=.int .i64 (k:Int)/\k<=l.length/\Hid (Ext w wr/\∀j,j < k->Pm lg ks a t wanted (l.getD j 0)=false)) (fun v _=>l.length - (intOf v).toNat)
 case atStart=>exact⟨0,rfl,Nat.zero_le _,Qq ⟨Qz,fun j hj=>absurd hj (by omega)⟩⟩
 case round =>
  obtain⟨k,rfl,hk,HREL⟩:=hrel;have HX:=Qq HREL.out.1;have HJ:=Qq HREL.out.2;clear HREL;by_cases hlt2:k < l.length
  ·have hk1:(k:Int) < (l.length:Int):=by omega
   have HS2:=Qq (HS.out.next HX.out);obtain⟨g2,cap2,hsl2,hgl2,_,hs12,hs22,a0⟩:=Uk HS2.out.row hlt2 rfl;injection hsl2 with hsl2a _ hsl2b;subst hsl2a hsl2b;unfold maxLen at hs22;have HNEXT:=Qq (show Pm lg ks a t wanted (l.getD k 0)=false->∀j,j < k+1->Pm lg ks a t wanted (l.getD j 0)=false from fun h j hj=>by
    by_cases e:j < k
    ·exact HJ.out j e
    have:j=k:=by omega
    subst this;exact h)
   have hum:l.getD k 0∈l:=by rw [Qk,Qv hlt2];exact List.getElem_mem _
   have hul:=HLT.out _ hum;have HHIT:=Qq (fun(h:Pm lg ks a t wanted (l.getD k 0)=true)=>Qox (al:=alive) hlt2 h);clear hum;obtain⟨u,hu⟩:∃u,u=l.getD k 0:=⟨_,rfl⟩;rw [<-hu]at a0 hul HNEXT HHIT;have HP:=Qq (show Pm lg ks a t wanted u=(wanted u&&Ze lg ks a t u)from rfl);have HWK:=Qq (fun W hW=>HW.out W u hul hW);have HPO:=Qq (fun W (hW:Ext w W)=>Sk b lg base root ks cs alive a t u W (HE.out.ext hW) hlg ht (by omega) (fun n hn=>⟨(HKS.out n hn).1,Qy hul (HKS.out n hn).2⟩));have hwr:IntKind.u64.wrap (u:Int)=(u:Int):=by rw [IntKind.wrap_u64];omega
   obtain⟨wk,hwk⟩:∃x,x=wanted u:=⟨_,rfl⟩;obtain⟨pk,hpk⟩:∃x,x=Ze lg ks a t u:=⟨_,rfl⟩;rw [<-hwk,<-hpk]at HP;rw [<-hwk]at HWK;rw [<-hpk]at HPO;clear hwk hpk hu;cases wk
   ·go_wp2_with fail;refine(HWK.out _ HX.out).mono ?_;rintro e w2 ⟨rfl,hx⟩;have HX2:=Qq hx;clear hx;go_wp2_with fail;go_roundw
    case rel=>exact⟨k+1,by go_num,by omega,Qq ⟨HX.out.trans HX2.out,HNEXT.out (by rw [HP.out];rfl)⟩⟩
    case measure=>simp [intOf];omega
   go_wp2_with fail;refine(HWK.out _ HX.out).mono ?_;rintro e w2 ⟨rfl,hx⟩;have HX2:=Qq hx;clear hx;go_wp2_with fail;refine(HPO.out _ (HX.out.trans HX2.out)).mono ?_;rintro e w3 ⟨rfl,hx⟩;have HX3:=Qq hx;clear hx;cases pk
   ·go_wp2_with fail;go_roundw
    case rel=>exact⟨k+1,by go_num,by omega,Qq ⟨HX.out.trans (HX2.out.trans HX3.out),HNEXT.out (by rw [HP.out];rfl)⟩⟩
    case measure=>simp [intOf];omega
   have HR:=Qq (HHIT.out (by rw [HP.out];rfl));go_wp2_with fail;exact bodyPost_ret (v:=.tuple #[]) (results_none rfl _ _ _) rfl ⟨⟨_,rfl⟩,_,by rw [HR.out];exact HS.out.next (HX.out.trans (HX2.out.trans HX3.out)),Rp.of (HX.out.trans (HX2.out.trans HX3.out))⟩
  obtain rfl:l.length=k:=by omega
  have HR:=Qq (Qh2 (al:=alive) HJ.out);have HS2:=Qq (HS.out.next HX.out);go_wp2_with fail;refine(Qjq b lg base root ks cs alive a t wanted g lb eg _ (HE.out.ext HX.out) hlg ht hm HKS.out (fun W u hu hW=>HW.out W u hu (HX.out.trans hW))).mono ?_;rintro e w2 ⟨rfl,hx⟩;have HS3:=Qq (HS2.out.next hx);have HX3:=Qq (HX.out.trans hx);have hnl:=Qeh (lg:=lg) (ks:=ks) (a:=a) (t:=t) (wanted:=wanted) hm;clear hx;obtain⟨z,hz⟩:∃z,z=Xq lg ks alive a t wanted:=⟨_,rfl⟩;rw [<-hz]at HR hnl⊢;clear hz;go_wp2_with fail;refine(Qvz w0 _ _ l z HS3.out hnl hl).mono ?_;rintro e w3 ⟨⟨r,rfl⟩,v',hs,hsx⟩;have HS4:=Qq hs
  have HX4:=Qq ((Rp.of HX3.out).trans hsx);clear hs hsx;go_wp2_with fail;exact bodyPost_end (v:=.tuple #[]) (results_none rfl _ _ _) rfl ⟨⟨_,rfl⟩,_,by rw [HR.out];exact HS4.out,HX4.out⟩
theorem Qas {ks:List Kn} {p:Kn->Bool} {k:Nat} {n:Kn}(hn:ks[k]?=some n)(h:p n=true):ks.any p=true:=by
 rw [List.any_eq_true];exact⟨n,List.mem_of_getElem? hn,h⟩
theorem Qpf {ks:List Kn} {p:Kn->Bool}(h:∀(j:Nat) (n:Kn),j < ks.length->ks[j]?=some n->p n=false):ks.any p=false:=by
 rw [List.any_eq_false];intro n hn;obtain⟨j,hj,e⟩:=List.getElem_of_mem hn;rw [h j n hj (by rw [Qv hj,e])];simp
def Qon(ks:List Kn)(p:Kn->Bool)(w:World)(e:Ending)(w':World):Prop:=∃z:Int,e=.returned (.int .i64 z)/\Ext w w'/\decide (0<=z)=ks.any p
theorem Qri(B:Nat)(n:Kn)(z:Int)(Ah:Option Addr)(ch:Nat)(w:World)(hB:w.cell? ⟨B,0,none⟩=some (.int .i64 z))(hBl:B < w.heap.size):
 Calls Tryz.prog 135 (#[.agg #[.int .i64 n.agent,.int .i64 (n.place:Int),.slice Ah n.holds.length ch]]++ #[.pointer (some ⟨B,0,none⟩)]) w fun e w'=>e=.returned (.bool (n.agent==z))/\Ext w w':=by
 show Calls Tryz.prog 135 #[.agg #[.int .i64 n.agent,.int .i64 (n.place:Int),.slice Ah n.holds.length ch],.pointer (some ⟨B,0,none⟩)] w _;go_enter Tryz.func135,Tryz.ntmps135;go_wp2_with fail;go_ret;exact⟨rfl,Qz.alloc _⟩
theorem Qrh(v:Value)(ks:List Kn)(z:Int)(B:Nat)(w:World)(hk:Kns w v ks)(hB:w.cell? ⟨B,0,none⟩=some (.int .i64 z))(hBl:B < w.heap.size):
 Calls Tryz.prog 191 #[v,.func (.func 135) #[] #[.pointer (some ⟨B,0,none⟩)]] w (Qon ks (fun k=>k.agent==z) w):=by
 obtain⟨A,c,rfl,hkn⟩:=hk;have HK:=Qq hkn;have hkc:=hkn.1;have hck:=hkn.2.1;unfold maxLen at hck;have D0:=Qq hB;clear hkn hB;go_enter Tryz.func191,Tryz.ntmps191;go_wp2_with fail;go_loopw [8] (fun v wr=>∃k:Nat,v=.int .i64 (k:Int)/\k<=ks.length/\Hid (Ext w wr/\∀(j:Nat) (n:Kn),j < k->ks[j]?=some n->(n.agent==z)=false)) (fun v _=>ks.length - (intOf v).toNat)
 case atStart=>exact⟨0,rfl,Nat.zero_le _,Qq ⟨Qz,fun j n hj=>absurd hj (by omega)⟩⟩
 case round =>
  obtain⟨k,rfl,hk,HREL⟩:=hrel;have HX:=Qq HREL.out.1;have HJ:=Qq HREL.out.2;clear HREL;by_cases hlt2:k < ks.length
  ·have hk1:(k:Int) < (ks.length:Int):=by omega
   obtain⟨n,hn⟩:∃n,ks[k]?=some n:=⟨_,Qv hlt2⟩;obtain⟨ad,rfl,hblk,hat⟩:=Wo HK.out hn;obtain⟨vh,c0,c1,c2,hbo⟩:=hat.ext HX.out (Qj hblk);obtain⟨Ah,ch,rfl,_⟩:=hbo;have HN:=Qq hn;have HL:=Qq (Qri B n z Ah ch wr ((HX.out.cell (p:=⟨B,0,none⟩) hBl).trans D0.out) (Qy hBl HX.out.size));have HNEXT:=Qq (show(n.agent==z)=false->∀(j:Nat) (m:Kn),j < k+1->ks[j]?=some m->(m.agent==z)=false from fun hc j m hj hm=>by
    by_cases e:j < k
    ·exact HJ.out j m e hm
    have:j=k:=by omega
    subst this;rw [hn]at hm;injection hm with hm;rw [<-hm];exact hc)
   clear hn hat;cases hag:n.agent==z
   ·have HAG:=Qq hag;rw [hag]at HL;clear hag;go_wp2_with fail;refine HL.out.mono ?_;rintro e w2 ⟨rfl,hx⟩;have HX2:=Qq hx;clear hx;go_wp2_with fail;go_roundw
    case rel=>exact⟨k+1,by go_num,by omega,Qq ⟨HX.out.trans HX2.out,HNEXT.out HAG.out⟩⟩
    case measure=>simp [intOf];omega
   have HE:=Qq (Qas (p:=fun k=>k.agent==z) HN.out hag);rw [hag]at HL;clear hag;go_wp2_with fail;refine HL.out.mono ?_;rintro e w2 ⟨rfl,hx⟩;have HX2:=Qq hx;clear hx;go_wp2_with fail;go_ret;exact⟨(k:Int),rfl,HX.out.trans HX2.out,by rw [HE.out];simp⟩
  obtain rfl:ks.length=k:=by omega
  have HE:=Qq (Qpf (p:=fun k=>k.agent==z) HJ.out);go_wp2_with fail;go_ret;exact⟨-1,rfl,HX.out,by rw [HE.out];rfl⟩
theorem Qk8(v:Value)(ks:List Kn)(z:Int)(B:Nat)(w:World)(hk:Kns w v ks)(hB:w.cell? ⟨B,0,none⟩=some (.int .i64 z))(hBl:B < w.heap.size):
 Calls Tryz.prog 134 #[v,.func (.func 135) #[] #[.pointer (some ⟨B,0,none⟩)]] w fun e w'=>e=.returned (.bool (ks.any fun k=>k.agent==z))/\Ext w w':=by
 have HK:=Qq hk;have D0:=Qq hB;obtain⟨A,c,rfl,_⟩:=hk;clear hB;go_enter Tryz.func134,Tryz.ntmps134;go_wp2_with fail;refine(Qrh _ ks z B _ HK.out D0.out hBl).mono ?_;rintro e w2 ⟨y,rfl,hx,hy⟩;have HX:=Qq hx;have HY:=Qq hy;clear hx;cases hyy:decide (0<=y)
 ·rw [hyy]at hy;have hlt:y < 0:=by have:=of_decide_eq_false hyy;omega
  clear hy hyy;go_wp2_with fail;go_ret;exact⟨by rw [<-HY.out,decide_eq_false (by omega)] <;> rfl,HX.out⟩
 have hlt:0<=y:=of_decide_eq_true hyy;clear hy hyy;go_wp2_with fail;go_ret;exact⟨by rw [<-HY.out,decide_eq_true hlt] <;> rfl,HX.out⟩
theorem Sg(s k:Nat)(hs:s < 18446744073709551616):(bits .and .u64 ((s:Int) / 2^k) 1==0)= !s.testBit k:=by
 have hlt:s / 2^k < 18446744073709551616:=Nat.lt_of_le_of_lt (Nat.div_le_self _ _) hs;rw [Si,show(1:Int)=((1:Nat):Int)from rfl,bits_and_u64_nat _ 1 hlt (by decide),Nat.and_one_is_mod,Ng];rcases Nat.mod_two_eq_zero_or_one (s / 2^k)with h|h <;> rw [h] <;> rfl
theorem Qt5 {ks:List Kn} {z:Int} {k:Nat} {n:Kn}(hn:ks[k]?=some n)(h:((n.place:Int)==z)=true)(hj:∀(j:Nat) (m:Kn),j < k->ks[j]?=some m->((m.place:Int)==z)=false):ks.find? (fun k=>(k.place:Int)==z)=some n:=by
 rw [List.find?_eq_some_iff_getElem];obtain⟨hk,e⟩:=List.getElem?_eq_some_iff.1 hn;refine⟨h,k,hk,e,fun j hjk=> ?_⟩;have:=hj j ks[j] hjk (List.getElem?_eq_getElem (by omega));rw [this];rfl
theorem Qrg {ks:List Kn} {z:Int}(hj:∀(j:Nat) (m:Kn),j < ks.length->ks[j]?=some m->((m.place:Int)==z)=false):ks.find? (fun k=>(k.place:Int)==z)=none:=by
 rw [List.find?_eq_none];intro n hn;obtain⟨j,hjl,e⟩:=List.getElem_of_mem hn;rw [hj j n hjl (by rw [Qv hjl,e])];simp
theorem Qt4 {ks:List Cm} {z:Int} {k:Nat} {n:Cm}(hn:ks[k]?=some n)(h:((n.place:Int)==z)=true)(hj:∀(j:Nat) (m:Cm),j < k->ks[j]?=some m->((m.place:Int)==z)=false):ks.find? (fun k=>(k.place:Int)==z)=some n:=by
 rw [List.find?_eq_some_iff_getElem];obtain⟨hk,e⟩:=List.getElem?_eq_some_iff.1 hn;refine⟨h,k,hk,e,fun j hjk=> ?_⟩;have:=hj j ks[j] hjk (List.getElem?_eq_getElem (by omega));rw [this];rfl
theorem Qrx {ks:List Cm} {z:Int}(hj:∀(j:Nat) (m:Cm),j < ks.length->ks[j]?=some m->((m.place:Int)==z)=false):ks.find? (fun k=>(k.place:Int)==z)=none:=by
 rw [List.find?_eq_none];intro n hn;obtain⟨j,hjl,e⟩:=List.getElem_of_mem hn;rw [hj j n hjl (by rw [Qv hjl,e])];simp
theorem Qr0(u:Int)(w:World):Calls Tryz.prog 137 (#[.int .i64 u]++ #[]) w fun e w'=>e=.returned (.bool true)/\Ext w w':=by
 show Calls Tryz.prog 137 #[.int .i64 u] w _;go_enter Tryz.func137,Tryz.ntmps137;go_wp2_with fail;go_ret;exact⟨rfl,Qz⟩
theorem Qr1(B u:Nat)(Ah:Option Addr)(ch:Nat)(hs:List Bool)(w:World)(hB:w.cell? ⟨B,2,none⟩=some (.slice Ah hs.length ch))(hb:Dh w Ah ch hs)(hu:u < hs.length):
 Calls Tryz.prog 138 (#[.int .i64 (u:Int)]++ #[.pointer (some ⟨B,0,none⟩)]) w fun e w'=>e=.returned (.bool (!hs.getD u false))/\Ext w w':=by
 show Calls Tryz.prog 138 #[.int .i64 (u:Int),.pointer (some ⟨B,0,none⟩)] w _;obtain⟨ah,rfl,_,hc⟩:=Vh hb hu;have h1:=hb.1;have h2:=hb.2.1;unfold maxLen at h2;have hui:(u:Int) < (hs.length:Int):=by omega
 obtain⟨x,hx⟩:∃x,x=hs.getD u false:=⟨_,rfl⟩;rw [<-hx]at hc⊢;clear hx;go_enter Tryz.func138,Tryz.ntmps138;go_wp2_with fail;go_ret;exact⟨rfl,Qz⟩
theorem Qkz(b:Nat)(lg:Int)(base:List (List Nd))(root:List Bool)(ks:List Kn)(cs:List Cm)(alive:List Bool)(t:Nat)(num:Int)(w:World)
 (hE:Eng w b lg base root ks cs alive)(hlg:0<=lg/\lg<=6)(ht:t < alive.length)(hm:alive.length<=4096)(hnum:Yj num)(hks:∀k∈ks,k.place < 64/\alive.length<=k.holds.length)(hcs:∀c∈cs,c.place < 64/\c.x.length=alive.length/\c.y.length=alive.length/\0<=c.group/\c.group < 16):
 Calls Tryz.prog 63 #[.pointer (some ⟨b,0,none⟩),.int .u64 (t:Int),.int .i64 num] w fun e w'=>e=.returned (.bool (Yy lg ks cs alive t num))/\Ext w w':=by
 obtain⟨Ab,cb,Ar,cr,Ak,ck,Ac,cc,Aa,ca,d0,d1,d2,d3,d4,d5,hbl,_,_,hkn,hcm,_⟩:=hE.cells;have HE:=Qq hE;have HKS:=Qq hks;have HCS:=Qq hcs;have HK:=Qq hkn;have HC:=Qq hcm;have hkc:=hkn.1;have hck:=hkn.2.1;have hcc:=hcm.1;have hccm:=hcm.2.1;unfold maxLen at hck hccm;have D3:=Qq d3;have D4:=Qq d4;unfold Yj at hnum;by_cases hn0:num < 0
 ·have HN0:=Qq (show Yy lg ks cs alive t num=((lg==1||lg==5)&&(ks.any (fun k=>k.agent== -1 - num)&&decide (Xq lg ks alive (-1 - num) t (fun _=>true) < 0))) by unfold Yy;rw [decide_eq_true hn0];rfl);have HCF:=Qq (fun(W:World) (hW:Ext w W) (hB:W.cell? ⟨w.heap.size,0,none⟩=some (.int .i64 (-1 - num))) (hl:w.heap.size < W.heap.size)=>Qk8 (.slice Ak ks.length ck) ks (-1 - num) w.heap.size W ⟨_,_,rfl,HK.out.ext hW⟩ hB hl);have HNX:=Qq (fun(W:World) (hW:Ext w W)=>Qjq b lg base root ks cs alive (-1 - num) t (fun _=>true) 137 #[] (fun _ _=>rfl) W (HE.out.ext hW) hlg (by omega) hm HKS.out (fun W u _ _=>Qr0 (u:Int) W))
  clear hE hkn hcm hks hcs d1 d2 d4 d5 HC D4 D3 hcc hccm;obtain⟨an,han⟩:∃x,x=ks.any (fun k=>k.agent== -1 - num):=⟨_,rfl⟩;obtain⟨nx,hnx⟩:∃x,x=Xq lg ks alive (-1 - num) t (fun _=>true):=⟨_,rfl⟩;rw [<-han,<-hnx]at HN0;rw [<-han]at HCF;rw [<-hnx]at HNX;clear han hnx;cases h1:lg==1
  ·cases h5:lg==5
   ·skip
    have HS:=Qq (show(lg==1||lg==5)=false by rw [h1,h5];rfl);go_enter Tryz.func63,Tryz.ntmps63;go_wp2_with fail;refine(HCF.out _ ((Ext.refl w).alloc (.cells #[.int .i64 (-1 - num)] 3)) (by simp) (by simp)).mono ?_;rintro e w2 ⟨rfl,hx2⟩;have HX2:=Qq (((Ext.refl w).alloc (.cells #[.int .i64 (-1 - num)] 3)).trans hx2);have hbx:=(hx2.cell (p:=⟨w.heap.size,0,none⟩) (by simp)).trans (show(w.alloc (.cells #[.int .i64 (-1 - num)] 3)).cell? ⟨w.heap.size,0,none⟩=some (.int .i64 (-1 - num)) by simp);clear hx2;go_wp2_with fail;go_ret;exact⟨by rw [HN0.out,HS.out] <;> rfl,HX2.out⟩
   skip
   have HS:=Qq (show(lg==1||lg==5)=true by rw [h1,h5];rfl);go_enter Tryz.func63,Tryz.ntmps63;go_wp2_with fail;refine(HCF.out _ ((Ext.refl w).alloc (.cells #[.int .i64 (-1 - num)] 3)) (by simp) (by simp)).mono ?_;rintro e w2 ⟨rfl,hx2⟩;have HX2:=Qq (((Ext.refl w).alloc (.cells #[.int .i64 (-1 - num)] 3)).trans hx2);have hbx:=(hx2.cell (p:=⟨w.heap.size,0,none⟩) (by simp)).trans (show(w.alloc (.cells #[.int .i64 (-1 - num)] 3)).cell? ⟨w.heap.size,0,none⟩=some (.int .i64 (-1 - num)) by simp);clear hx2;cases an
   ·go_wp2_with fail;go_ret;exact⟨by rw [HN0.out,HS.out] <;> rfl,HX2.out⟩
   go_wp2_with fail;refine(HNX.out _ HX2.out).mono ?_;rintro e w3 ⟨rfl,hx3⟩;have HX3:=Qq (HX2.out.trans hx3);clear hx3;by_cases hnx:nx < 0
   ·have HD:=Qq (decide_eq_true hnx);go_wp2_with fail;go_ret;exact⟨by rw [HN0.out,HS.out,HD.out] <;> rfl,HX3.out⟩
   have HD:=Qq (decide_eq_false hnx);go_wp2_with fail;go_ret;exact⟨by rw [HN0.out,HS.out,HD.out] <;> rfl,HX3.out⟩
  skip
  have HS:=Qq (show(lg==1||lg==5)=true by rw [h1];rfl);go_enter Tryz.func63,Tryz.ntmps63;go_wp2_with fail;refine(HCF.out _ ((Ext.refl w).alloc (.cells #[.int .i64 (-1 - num)] 3)) (by simp) (by simp)).mono ?_;rintro e w2 ⟨rfl,hx2⟩;have HX2:=Qq (((Ext.refl w).alloc (.cells #[.int .i64 (-1 - num)] 3)).trans hx2);have hbx:=(hx2.cell (p:=⟨w.heap.size,0,none⟩) (by simp)).trans (show(w.alloc (.cells #[.int .i64 (-1 - num)] 3)).cell? ⟨w.heap.size,0,none⟩=some (.int .i64 (-1 - num)) by simp);clear hx2;cases an
  ·go_wp2_with fail;go_ret;exact⟨by rw [HN0.out,HS.out] <;> rfl,HX2.out⟩
  go_wp2_with fail;refine(HNX.out _ HX2.out).mono ?_;rintro e w3 ⟨rfl,hx3⟩;have HX3:=Qq (HX2.out.trans hx3);clear hx3;by_cases hnx:nx < 0
  ·have HD:=Qq (decide_eq_true hnx);go_wp2_with fail;go_ret;exact⟨by rw [HN0.out,HS.out,HD.out] <;> rfl,HX3.out⟩
  have HD:=Qq (decide_eq_false hnx);go_wp2_with fail;go_ret;exact⟨by rw [HN0.out,HS.out,HD.out] <;> rfl,HX3.out⟩
 obtain⟨nn,hnn⟩:=Int.eq_ofNat_of_zero_le (show 0<=num by omega);subst hnn;have HN0:=Qq (decide_eq_false hn0);clear hE hkn hcm hks hcs d0 d1 d2 d5 hn0;go_enter Tryz.func63,Tryz.ntmps63;go_wp2_with fail;clear d3 d4;go_loopw [52] (fun v wr=>∃k:Nat,v=.int .i64 (k:Int)/\k<=ks.length/\Hid (Ext w wr/\∀(j:Nat) (m:Kn),j < k->ks[j]?=some m->((m.place:Int)==(nn:Int))=false)) (fun v _=>ks.length - (intOf v).toNat)
 case atStart=>exact⟨0,rfl,Nat.zero_le _,Qq ⟨Qz,fun j m hj=>absurd hj (by omega)⟩⟩
 case round =>
  obtain⟨k,rfl,hk,HREL⟩:=hrel;have HX:=Qq HREL.out.1;have HJ:=Qq HREL.out.2;clear HREL;by_cases hlt2:k < ks.length
  ·have hk1:(k:Int) < (ks.length:Int):=by omega
   obtain⟨n,hn⟩:∃n,ks[k]?=some n:=⟨_,Qv hlt2⟩;obtain⟨hpl,hhl⟩:=HKS.out n (List.mem_of_getElem? hn);obtain⟨ad,rfl,hblk,hat⟩:=Wo HK.out hn;obtain⟨vh,c0,c1,c2,hbo⟩:=hat.ext HX.out (Qj hblk);obtain⟨Ah,ch,rfl,hbo⟩:=hbo;have HBO:=Qq hbo;have hblk2:(ad.add (k*3)).block < wr.heap.size:=by rw [Qp];exact Qy hblk HX.out.size
   have HN:=Qq hn;have HNEXT:=Qq (show((n.place:Int)==(nn:Int))=false->∀(j:Nat) (m:Kn),j < k+1->ks[j]?=some m->((m.place:Int)==(nn:Int))=false from fun hc j m hj hm=>by
    by_cases e:j < k
    ·exact HJ.out j m e hm
    have:j=k:=by omega
    subst this;rw [hn]at hm;injection hm with hm;rw [<-hm];exact hc)
   clear hn hat hbo;obtain⟨wq,hwq⟩:∃v,v=wr:=⟨_,rfl⟩;subst hwq;by_cases hpe:n.place=nn
   ·have hpi:((n.place:Int)==(nn:Int))=true:=by rw [hpe];simp
    have HFD:=Qq (Qt5 HN.out hpi HJ.out);have HLN:=Qq (show Yy lg ks cs alive t (nn:Int)=(!t.testBit nn&&decide (Xq lg ks alive n.agent t (fun u=> !n.holds.getD u false) < 0)) by
     unfold Yy;rw [HN0.out,cond_false,HFD.out]
     rfl)
    have hb1:=Sg t nn (by omega);have HX0:=Qq (show Ext w (wq.alloc (.cells #[.int .i64 n.agent,.int .i64 (n.place:Int),.slice Ah n.holds.length ch] 136))from HX.out.alloc _);have HBXX:=Qq (Qvy (show(wq.alloc (.cells #[.int .i64 n.agent,.int .i64 (n.place:Int),.slice Ah n.holds.length ch] 136)).heap[wq.heap.size]?=some (.cells #[.int .i64 n.agent,.int .i64 (n.place:Int),.slice Ah n.holds.length ch] 136 (0,0))from heap_alloc_new _ _));have HNX:=Qq (Qjq b lg base root ks cs alive n.agent t (fun u=> !n.holds.getD u false) 138 #[.pointer (some ⟨wq.heap.size,0,none⟩)] (fun _ _=>rfl) _ (HE.out.ext HX0.out) hlg (by omega) hm HKS.out (fun W u hu hW=>Qr1 wq.heap.size u Ah ch n.holds W ((hW.cell (p:=⟨wq.heap.size,2,none⟩) (by simp)).trans HBXX.out.2.2.1) ((HBO.out.ext (Qz.alloc _)).ext hW) (Qy hu hhl)))
    obtain⟨nx,hnx⟩:∃x,x=Xq lg ks alive n.agent t (fun u=> !n.holds.getD u false):=⟨_,rfl⟩;rw [<-hnx]at HLN HNX;obtain⟨tb,htb⟩:∃x,x=t.testBit nn:=⟨_,rfl⟩;rw [<-htb]at HLN hb1;have hmf:∀(fn:Fn) (first cap:Array Value) (w:World),(Instr.makeFunc fn first cap).run Tryz.prog w=.ok (.func fn first cap) w:=fun _ _ _ _=>rfl
    clear hnx htb hpe;cases tb
    ·simp only [Bool.not_false]at hb1;go_wp2_with fail;refine HNX.out.mono ?_;rintro e w3 ⟨rfl,hx3⟩;have HX3:=Qq (HX0.out.trans hx3);clear hx3;by_cases hnx:nx < 0
     ·have HD:=Qq (decide_eq_true hnx);go_wp2_with fail;go_ret;exact⟨by rw [HLN.out,HD.out] <;> rfl,HX3.out⟩
     have HD:=Qq (decide_eq_false hnx);go_wp2_with fail;go_ret;exact⟨by rw [HLN.out,HD.out] <;> rfl,HX3.out⟩
    simp only [Bool.not_true]at hb1;go_wp2_with fail;go_ret;exact⟨by rw [HLN.out] <;> rfl,HX0.out⟩
   have hpi:((n.place:Int)==(nn:Int))=false:=by rw [beq_eq_false_iff_ne];omega
   clear hpe;go_wp2_with fail;go_roundw
   case rel=>exact⟨k+1,by go_num,by omega,Qq ⟨HX.out.alloc _,HNEXT.out hpi⟩⟩
   case measure=>simp [intOf];omega
  obtain rfl:ks.length=k:=by omega
  have HFN:=Qq (Qrg HJ.out);have HXC:=Qq HX.out;have dw4:=(HX.out.cell (p:=⟨b,4,none⟩) hbl).trans D4.out;clear HJ HX;obtain⟨w1,hw1⟩:∃v,v=wr:=⟨_,rfl⟩;subst hw1;go_wp2_with fail;clear dw4;go_loopw [80] (fun v wr=>∃k:Nat,v=.int .i64 (k:Int)/\k<=cs.length/\Hid (Ext w wr/\∀(j:Nat) (m:Cm),j < k->cs[j]?=some m->((m.place:Int)==(nn:Int))=false)) (fun v _=>cs.length - (intOf v).toNat)
  case atStart=>exact⟨0,rfl,Nat.zero_le _,Qq ⟨HXC.out,fun j m hj=>absurd hj (by omega)⟩⟩
  case round =>
   obtain⟨k,rfl,hk,HREL⟩:=hrel;have HX:=Qq HREL.out.1;have HJ:=Qq HREL.out.2;clear HREL;by_cases hlt2:k < cs.length
   ·have hk1:(k:Int) < (cs.length:Int):=by omega
    obtain⟨n,hn⟩:∃n,cs[k]?=some n:=⟨_,Qv hlt2⟩;obtain⟨hpl,hxl,hyl,hg0,hg1⟩:=HCS.out n (List.mem_of_getElem? hn);obtain⟨ad,rfl,hblk,hat⟩:=Qgz HC.out hn;obtain⟨vx,vy,c0,c1,c2,c3,c4,hbx,hby⟩:=hat.ext HX.out (Qj hblk);have HBX:=Qq hbx;have HBY:=Qq hby;obtain⟨Ax,cx,rfl,_⟩:=hbx;obtain⟨Ay,cy,rfl,_⟩:=hby;have hblk2:(ad.add (k*5)).block < wr.heap.size:=by rw [Qp];exact Qy hblk HX.out.size
    have HN:=Qq hn;have HNEXT:=Qq (show((n.place:Int)==(nn:Int))=false->∀(j:Nat) (m:Cm),j < k+1->cs[j]?=some m->((m.place:Int)==(nn:Int))=false from fun hc j m hj hm=>by
     by_cases e:j < k
     ·exact HJ.out j m e hm
     have:j=k:=by omega
     subst this;rw [hn]at hm;injection hm with hm;rw [<-hm];exact hc)
    clear hn hat;obtain⟨wq,hwq⟩:∃v,v=wr:=⟨_,rfl⟩;subst hwq;by_cases hpe:n.place=nn
    ·have hpi:((n.place:Int)==(nn:Int))=true:=by rw [hpe];simp
     have hn64:nn < 64:=by omega
     have HFD:=Qq (Qt4 HN.out hpi HJ.out);have HLN:=Qq (show Yy lg ks cs alive t (nn:Int)=(!t.testBit nn&& !Ld lg ks alive n t) by
      unfold Yy;rw [HN0.out,cond_false,HFN.out,HFD.out]
      rfl)
     have hb1:=Sg t nn (by omega);have HX0:=Qq (show Ext w (wq.alloc (.cells #[.int .i64 (n.place:Int),.int .i64 n.group,.slice Ax n.x.length cx,.slice Ay n.y.length cy,.int .u64 (n.parts:Int)] 138))from HX.out.alloc _);have HPT:=Qq (Qfb b lg base root ks cs alive n t (.slice Ax n.x.length cx) (.slice Ay n.y.length cy) _ (HE.out.ext HX0.out) hlg (by omega) hm HKS.out (HBX.out.ext (Qz.alloc _)) (HBY.out.ext (Qz.alloc _)) hxl hyl ⟨hg0,hg1⟩ (by omega));have hq:=fun(w:World) (a:Option Addr) (n c:Nat)=>Lib.run_eql_slice_nil (P:=Tryz.prog) w 36 3 a n c 0 0 Tryz.underlying36
     obtain⟨tb,htb⟩:∃x,x=t.testBit nn:=⟨_,rfl⟩;rw [<-htb]at HLN hb1;clear htb hpe hxl hyl hg0 hg1;cases tb
     ·simp only [Bool.not_false]at hb1;go_wp2_with fail;refine HPT.out.mono ?_;rintro e w3 hres;rcases hres with⟨rfl,hx3,hno⟩|⟨ad3,c3',ls,rfl,hx3,_,_,_,_,hyes⟩
      ·have HX3:=Qq (HX0.out.trans hx3);have HD:=Qq (show Ld lg ks alive n t=false by
        cases h:Ld lg ks alive n t
        ·rfl
        exact absurd (Ml.1 h) hno)
       clear hx3 hno;go_wp2_with fail;go_ret;exact⟨by rw [HLN.out,HD.out] <;> rfl,HX3.out⟩
      have HX3:=Qq (HX0.out.trans hx3);have HD:=Qq (show Ld lg ks alive n t=true from Ml.2 hyes);clear hx3 hyes;go_wp2_with fail;go_ret;exact⟨by rw [HLN.out,HD.out] <;> rfl,HX3.out⟩
     simp only [Bool.not_true]at hb1;go_wp2_with fail;go_ret;exact⟨by rw [HLN.out] <;> rfl,HX0.out⟩
    have hpi:((n.place:Int)==(nn:Int))=false:=by rw [beq_eq_false_iff_ne];omega
    clear hpe hxl hyl hg0 hg1;go_wp2_with fail;go_roundw
    case rel=>exact⟨k+1,by go_num,by omega,Qq ⟨HX.out.alloc _,HNEXT.out hpi⟩⟩
    case measure=>simp [intOf];omega
   obtain rfl:cs.length=k:=by omega
   have HFM:=Qq (Qrx HJ.out);have HLN:=Qq (show Yy lg ks cs alive t (nn:Int)=false by
    unfold Yy;rw [HN0.out,cond_false,HFN.out,HFM.out])
   go_wp2_with fail;go_ret;exact⟨by rw [HLN.out] <;> rfl,HX.out⟩
end Go.Proofs.YtkmclcmnoicagaaGreatDoor
