/- slices.Clone at int; natural's push. -/
import Derived.Test.YtmidgcldljfkcaaGreatDoorM01
import Derived.Test.YtmidgcldljfkcaaGreatDoorM17
import Derived.Test.YtmidgcldljfkcaaGreatDoorM13
import Derived.Lib.SliceRun
import Derived.Deep.RegionLaw
namespace Go.Proofs.YtmidgcldljfkcaaGreatDoor
set_option maxRecDepth 100000
set_option maxHeartbeats 128000000
open Go.RowKit
theorem Qx5(w:World)(t:TypeId):(w.alloc (.cells #[] t)).ownsRow w.heap.size t 1 (.slice (some ⟨w.heap.size,0,none⟩) 0 0) 0 []:=
 ⟨rfl,.inr ⟨w.heap.size,0,#[],rfl,Nat.le_refl _,heap_alloc_new _ _,Nat.le_refl _,Nat.zero_le _,rfl,rfl⟩⟩
theorem Qfe {w:World} {ad:Addr} {l:List Int}(hc:∀k z,l[k]?=some z->w.cell? (ad.add k)=some (.int .i64 z)):∀j u,(l.map (Value.int .i64))[j]?=some u->w.cell? (ad.add j)=some u:=by
 intro j u hj;rw [List.getElem?_map]at hj;obtain⟨z,hz,rfl⟩:=Option.map_eq_some_iff.1 hj;exact hc j z hz
theorem Qyp(v:Value)(l:List Int)(w:World)(h:Zi w v l)(hlen:l.length<=1000):
 Calls Tryz.prog 68 #[v] w fun e w'=>∃u,e=.returned u/\Hn w w' u l:=by
 obtain⟨A,c,rfl,hcap,hmax,hr⟩:=h;have HR:=Qq hr;obtain⟨i3,hi3,hz30,hz31,hz32⟩:=info_parts Qq8;have q:∀(w:World) (a:Option Addr) (n c n' c':Nat),(binOp .eql 60 (.slice a n c) (.slice none n' c')).run Tryz.prog w=.ok (.bool a.isNone) w:=fun w a n c n' c'=>Lib.run_eql_slice_nil w _ _ a n c n' c' Tryz.underlying60
 clear hr;cases A with
 |none =>
  have e:l= []:=Classical.byContradiction fun hne=>by
   obtain⟨ad,h,_⟩:=HR.out hne;cases h
  subst e;go_enter Tryz.func68,Tryz.ntmps68;go_wp2_with fail;go_ret;exact⟨_,rfl,World.ownsRow_nil _ _ _ _,Qz⟩
 |some ad =>
  have hcells:∀k z,l[k]?=some z->w.cell? (ad.add k)=some (.int .i64 z)/\ad.block < w.heap.size:=fun k z hk=>by
   obtain⟨ad',h,hlt,hc⟩:=HR.out (by intro e;rw [e]at hk;simp at hk);injection h with h;subst h;exact⟨hc k z hk,hlt⟩
  have HC:=Qq hcells;have hc3:0+l.length<=maxLen:=by unfold maxLen;omega
  have hc4:(0+l.length)*8<=140737488355328:=by omega
  clear hcells;go_enter Tryz.func68,Tryz.ntmps68;go_wp2_with(at_builtin;refine wpList_append_own_at _ rfl _ _ 60 rfl w.heap.size 3 i3 (.int .i64 0) 1 8 Tryz.underlying60 hi3 hz30 hz31 hz32 rfl (by decide) _ _ _ rfl (Qx5 w _) ad l.length c (l.map (Value.int .i64)) rfl (by simp) (Qfe (fun k z hk=>((Ext.refl w).alloc _).cell (p:=ad.add k) (by rw [Qn];exact(HC.out k z hk).2)▸ (HC.out k z hk).1)) (fun u hu=>by obtain⟨z,_,rfl⟩:=List.mem_map.1 hu;rfl) hc3 hc4 (by simp) ?_);intro v' w4 hown4 hgrow4 _ hat4;have HROW4:=Qq hown4;have HX4:=Qq (((Ext.refl w).alloc _).grown hgrow4 (fun g hg=>Nat.le_of_eq (by simpa [Value.ownBlock]using hg)))
  clear hown4 hgrow4 hat4;go_wp2_with fail;go_ret;exact⟨_,rfl,by simpa using HROW4.out,HX4.out⟩
theorem Qsi:(Tryz.prog.info? 60).map (fun i=>(i.zero,i.size,i.bytes))=some (some (.slice none 0 0),1,24):=by kernel_rfl
theorem Qh7:(Tryz.prog.info? 31).map (fun i=>(i.zero,i.size,i.bytes))=some (some (.slice none 0 0),1,24):=by kernel_rfl
def Yx(st:List (List Int)):List Int:=st.getLastD []
def Bv(st:List (List Int))(n:Ln):Option (List Int):=
 bif Kk n then(bif decide (n.depth < 1)||decide (((Yx st).length:Int)+1 < n.depth)then none else some ((Yx st).take (n.depth - 1).toNat++ [(st.length:Int)]))
 else(bif decide (n.depth < 0)||decide (((Yx st).length:Int) < n.depth)then none else some ((Yx st).take n.depth.toNat))
inductive Kc (w0 w:World) (bw:Nat) (lg:Int) (vl vf vs:Value) (ls:List Ln) (fs:List (List Nd)) (st:List (List Int)) (n:Ln) (e:Ending) (w':World):Prop where
 |no (hp:Bv st n=none) (he:e=.returned (.bool false)) (hx:Ext w w')
 |yes {s:List Int} {vs':Value} (hp:Bv st n=some s) (he:e=.returned (.bool true)) (hx:Kf w0 w' bw lg vl vf vs' ls fs (st++ [s])) (hk:∀g,g < w.heap.size->g≠bw->vs.ownBlock≠some g->w'.heap[g]?=w.heap[g]?) (hz:w.heap.size<=w'.heap.size)
theorem He {st:List (List Int)} {n:Ln}(ho:Kk n=true)(h:n.depth < 1\/((Yx st).length:Int)+1 < n.depth):Bv st n=none:=by
 unfold Bv;rw [ho,cond_true];have:(decide (n.depth < 1)||decide (((Yx st).length:Int)+1 < n.depth))=true:=by simpa using h
 rw [this];rfl
theorem Qj8 {st:List (List Int)} {n:Ln} {d:Nat}(ho:Kk n=true)(hd:n.depth=(d:Int)+1)(h:d<=(Yx st).length):Bv st n=some ((Yx st).take d++ [(st.length:Int)]):=by
 unfold Bv;rw [ho,cond_true,hd];have:(decide ((d:Int)+1 < 1)||decide (((Yx st).length:Int)+1 < (d:Int)+1))=false:=by simp;omega
 rw [this,show((d:Int)+1 - 1).toNat=d by omega];rfl
theorem Cb {st:List (List Int)} {n:Ln}(ho:Kk n=false)(h:n.depth < 0\/((Yx st).length:Int) < n.depth):Bv st n=none:=by
 unfold Bv;rw [ho,cond_false];have:(decide (n.depth < 0)||decide (((Yx st).length:Int) < n.depth))=true:=by simpa using h
 rw [this];rfl
theorem Qzk {st:List (List Int)} {n:Ln} {d:Nat}(ho:Kk n=false)(hd:n.depth=(d:Int))(h:d<=(Yx st).length):Bv st n=some ((Yx st).take d):=by
 unfold Bv;rw [ho,cond_false,hd];have:(decide ((d:Int) < 0)||decide (((Yx st).length:Int) < (d:Int)))=false:=by simp;omega
 rw [this,Int.toNat_natCast];rfl
theorem Qfh {st:List (List Int)}(h:0 < st.length):st[st.length - 1]?=some (Yx st):=by
 unfold Yx;rw [<-List.getLast?_eq_getElem?];cases st with
 |nil=>simp at h
 |cons a t=>simp [List.getLast?_cons]
theorem Gq.of_ints {w:World} {bw:Nat} {vf vs:Value} {A:Option Addr} {n c n' c':Nat}(h:Gq w bw vf vs (.slice A n c)):Gq w bw vf vs (.slice A n' c'):=by
 cases A with
 |none=>exact fun g hg=>by cases hg
 |some a=>exact fun g hg=>h g hg
theorem Gq.none_(w:World)(bw:Nat)(vf vs:Value):Gq w bw vf vs (.slice none 0 0):=fun g hg=>by cases hg
theorem Kf.free_new {w0 w w':World} {bw:Nat} {lg:Int} {vl vf vs u:Value} {ls:List Ln} {fs:List (List Nd)} {st:List (List Int)}(h:Kf w0 w bw lg vl vf vs ls fs st)(hu:∀g,u.ownBlock=some g->w.heap.size<=g/\g < w'.heap.size):Gq w' bw vf vs u:=fun g hg=>by
 obtain⟨us,hr,_⟩:=h.frow;obtain⟨ss,hs,_⟩:=h.srow;obtain⟨h1,h2⟩:=hu g hg;have hb:=Qm h.blk;exact⟨h2,by omega,fun e=>by have:=(hr.lt g e).2;omega,fun e=>by have:=(hs.lt g e).2;omega⟩
theorem Rf {w W w4:World} {bw:Nat} {v:Value} {X:Obj}(hb:w.heap[bw]?=some X)(hne:v.ownBlock≠some bw)(he:Ext w W)(hg:W.grownBy w4 v.ownBlock):w4.heap[bw]?=some X :=
 ((hg.block bw (Qy (Qm hb) he.size) (fun e=>hne e.symm)).trans (he.block (Qm hb))).trans hb
theorem Kf.pushS2 {w0 w W w4:World} {bw:Nat} {lg:Int} {vl vf vs v' x:Value} {ls:List Ln} {fs:List (List Nd)} {st:List (List Int)} {s:List Int} {ss:List Value}(h:Kf w0 w bw lg vl vf vs ls fs st)(he:Ext w W)(hs:w.ownsRow w0.heap.size 60 1 vs st.length ss)(hv:∀(k:Nat) (s:List Int),st[k]?=some s->∃u,ss[k]?=some u/\Zi w u s/\Gq w bw vf vs u)
 (hrow:w4.ownsRow w0.heap.size 60 1 v' (st.length+1) (ss++ [x]))(hg:W.grownBy w4 vs.ownBlock)(hat:v'.ownBlock=vs.ownBlock\/v'.ownBlock=some W.heap.size)(hx:Zi W x s)(hxf:Gq W bw vf vs x):
 Kf w0 (w4.setCell ⟨bw,3,none⟩ v') bw lg vl vf v' ls fs (st++ [s])/\(∀g,g < w.heap.size->g≠bw->vs.ownBlock≠some g->(w4.setCell ⟨bw,3,none⟩ v').heap[g]?=w.heap[g]?)/\w.heap.size<=(w4.setCell ⟨bw,3,none⟩ v').heap.size :=
 ⟨(h.ext_ he).pushS (Jt hs he) (fun k s hk=>by
   obtain⟨u,a,b,c⟩:=hv k s hk;exact⟨u,a,b.ext he,c.ext he⟩) hrow hg hat hx hxf,fun g h1 h2 h3=>(Qjh rfl hg (Qy h1 he.size) h2 h3).trans (he.block h1),by rw [Qqe];exact Qx he.size hg.size⟩
theorem Zi.take3 {w:World} {A:Option Addr} {c n:Nat} {l:List Int}(h:Dw w A c l)(hn:n<=l.length):Zi w (.slice A n n) (l.take n):=by
 have e:(l.take n).length=n:=by simp;omega
 have h1:=h.1;have h2:=h.2.1;refine⟨A,n,by rw [e],by rw [e];exact Nat.le_refl _,by omega,fun hne=> ?_⟩;obtain⟨ad,ea,hb,hc⟩:=h.2.2 (by intro e;rw [e]at hne;simp at hne);refine⟨ad,ea,hb,fun k z hk=>hc k z ?_⟩;rw [List.getElem?_take]at hk
 split at hk
 ·exact hk
 cases hk
theorem Qsg {w0 w:World} {bw:Nat} {lg:Int} {vl vf vs:Value} {ls:List Ln} {fs:List (List Nd)} {st:List (List Int)}(h:Kf w0 w bw lg vl vf vs ls fs st)(n:Ln)(hi:ls[st.length]?=some n)(hpos:0 < st.length)(hlen:st.length<=400)(hbl:(Yx st).length<=400):
 Calls Tryz.prog 41 #[.pointer (some ⟨bw,0,none⟩)] w (Kc w0 w bw lg vl vf vs ls fs st n):=by
 obtain⟨ss,hs,hv⟩:=h.srow;have hlast:=Qfh hpos;obtain⟨ads,cs0,vl2,vf2,A0,A1,c0,c1,t1,t2,t3,t4,t5,t6,t7,t8,t9,tI,_⟩:=h.chk.stack hlast hlast;obtain⟨k0,k1,k2,k3,kfr,klt⟩:=Bn h.blk;have hvs:=Option.some.inj (k3.symm.trans t7);subst hvs;have hfree:Gq w bw vf (.slice (some ads) st.length cs0) (.slice A0 (Yx st).length c0):=by
  obtain⟨u,hu,_,hfu⟩:=hv _ _ hlast;obtain⟨g,cap,e,hg,_,_,hcell⟩:=Cm hs hpos;injection e with e1 _ e2;injection e1 with e1;subst e1;have:=hcell _ _ hu;rw [Xs]at t8;rw [t8]at this;injection this with this;rw [this];exact hfu
 have HI:=Qq tI;have hci:=tI.1;have hcm:=tI.2.1;unfold maxLen at hcm;have HFREE:=Qq hfree;have hi1:((st.length:Int) - 1).toNat=st.length - 1:=by omega
 have hi2:(0:Int)<=(st.length:Int) - 1:=by omega
 have hi3:((st.length:Int) - 1) < (st.length:Int):=by omega
 have hi4:(0:Int) < (st.length:Int):=by omega
 generalize hbb:Yx st=bl at *;have HBL:=Qq hbb;clear hlast t1 t2 t4 t5 t6 t9 tI hfree hbb k0 k1 k2 t7;obtain⟨ad,c,vf',vs',uf,ur,hc1,hc2,hlt,d0,d1,d2,d3,q0,q1,q2,q3,q4,_,_⟩:=h.chk.line hi;have hil:st.length < ls.length:=(List.getElem?_eq_some_iff.1 hi).1;have H:=Qq h;have HOP:=Qq (Mp h.chk st.length n hi);have HROW:=Qq hs;have HV:=Qq hv;obtain⟨iI,hiI,hzI0,hzI1,hzI2⟩:=info_parts Qsi;obtain⟨i3,hi3',hz30,hz31,hz32⟩:=info_parts Qq8;have hbase:w0.heap.size<=w.heap.size:=h.ext.size;have hc3:st.length+1<=maxLen:=by unfold maxLen;omega
 have hc4:(st.length+1)*24<=140737488355328:=by omega
 clear h hs hv hi d0 d2 d3;cases ho:Kk n
 case false =>
  have HO:=Qq ho;by_cases hbad:n.depth < 0\/(bl.length:Int) < n.depth
  ·have HP:=Qq (Cb (st:=st) ho (by rw [HBL.out];exact hbad));by_cases hb1:n.depth < 0
   ·clear hbad ho;go_enter Tryz.func41,Tryz.ntmps41;go_wp2_with fail;refine HOP.out.mono ?_;rintro e w1 ⟨rfl,hx⟩;rw [HO.out];have HX:=Qq hx;have k3w:=(hx.cell (p:=⟨bw,3,none⟩) klt).trans k3;have kfw:=(hx.frozen (p:=⟨bw,3,none⟩) klt).trans (kfr 3);have kltw:bw < w1.heap.size:=Qy klt hx.size;clear hx;go_wp2_with fail;go_ret;exact Kc.no HP.out rfl HX.out
   have hb2:(bl.length:Int) < n.depth:=by omega
   clear hbad ho;go_enter Tryz.func41,Tryz.ntmps41;go_wp2_with fail;refine HOP.out.mono ?_;rintro e w1 ⟨rfl,hx⟩;rw [HO.out];have HX:=Qq hx;have k3w:=(hx.cell (p:=⟨bw,3,none⟩) klt).trans k3;have kfw:=(hx.frozen (p:=⟨bw,3,none⟩) klt).trans (kfr 3);have kltw:bw < w1.heap.size:=Qy klt hx.size;clear hx;go_wp2_with fail;go_ret;exact Kc.no HP.out rfl HX.out
  obtain⟨d,hd⟩:∃d:Nat,n.depth=(d:Int):=⟨n.depth.toNat,by omega⟩;have hdl:d<=bl.length:=by omega
  have HP:=Qq (Qzk (st:=st) ho hd (by rw [HBL.out];exact hdl));have HT:=Qq (Zi.take3 HI.out (n:=d) (by exact hdl));rw [hd]at q0;have hn0:¬(d:Int) < 0:=by omega
  have hn1:(d:Int)<=(bl.length:Int):=by omega
  have hn2:d<=c0:=by omega
  have hn3:(d:Int)<=(c0:Int):=by omega
  clear hbad ho hd;go_enter Tryz.func41,Tryz.ntmps41;go_wp2_with fail;refine HOP.out.mono ?_;rintro e w1 ⟨rfl,hx⟩;rw [HO.out];have HX:=Qq hx;have k3w:=(hx.cell (p:=⟨bw,3,none⟩) klt).trans k3;have kfw:=(hx.frozen (p:=⟨bw,3,none⟩) klt).trans (kfr 3);have kltw:bw < w1.heap.size:=Qy klt hx.size;clear hx;go_wp2_with fail;go_region_law (refine Ka rfl (.tmp 71) (.tmp 76) 91 rfl w0.heap.size 60 iI (.slice none 0 0) 1 24 Tryz.underlying91 hiI hzI0 hzI1 hzI2 rfl (by decide) (.slice (some ads) st.length cs0) st.length ss (by simp [Act.eval]) (Jt HROW.out (Ext.trans HX.out (by repeat(first|exact Qz|assumption|apply Ext.alloc|apply Ext.drew)))) ⟨_,0,none⟩ 1 1 [.slice A0 d d] (by simp [Act.eval];rfl) rfl (Yv _ _ _ (by simp)) (fun u hu=>by rw [List.mem_singleton.1 hu];rfl) hc3 hc4 (Qx hbase (Ext.size (a:=w) (Ext.trans HX.out (by repeat(first|exact Qz|assumption|apply Ext.alloc|apply Ext.drew))))) ?_;intro v' w4 hown4 hgrow4 hat4;have HPS:=Qq (Kf.pushS2 H.out (Ext.trans HX.out (by repeat(first|exact Qz|assumption|apply Ext.alloc|apply Ext.drew))) HROW.out HV.out hown4 hgrow4 hat4 (HT.out.ext (Ext.trans HX.out (by repeat(first|exact Qz|assumption|apply Ext.alloc|apply Ext.drew)))) ((HFREE.out.of_ints).ext (Ext.trans HX.out (by repeat(first|exact Qz|assumption|apply Ext.alloc|apply Ext.drew)))));have kb:=Rf (H.out.ext_ HX.out).blk H.out.sne (by repeat(first|exact Qz|assumption|apply Ext.alloc|apply Ext.drew)) hgrow4;obtain⟨z0,z1,z2,z3,zfr,zlt⟩:=Bn kb;obtain⟨A4,c4,hv4⟩:=Zq hown4;subst hv4;clear hown4 hgrow4 hat4 kb)
  all_goals
   go_wp2_with fail;go_ret;exact Kc.yes (by rw [HP.out,HBL.out] <;> rfl) rfl HPS.out.1 HPS.out.2.1 HPS.out.2.2
 case true =>
  have HO:=Qq ho;by_cases hbad:n.depth < 1\/(bl.length:Int)+1 < n.depth
  ·have HP:=Qq (He (st:=st) ho (by rw [HBL.out];exact hbad));by_cases hb1:n.depth < 1
   ·clear hbad ho;go_enter Tryz.func41,Tryz.ntmps41;go_wp2_with fail;refine HOP.out.mono ?_;rintro e w1 ⟨rfl,hx⟩;rw [HO.out];have HX:=Qq hx;have k3w:=(hx.cell (p:=⟨bw,3,none⟩) klt).trans k3;have kfw:=(hx.frozen (p:=⟨bw,3,none⟩) klt).trans (kfr 3);have kltw:bw < w1.heap.size:=Qy klt hx.size;clear hx;go_wp2_with fail;go_ret;exact Kc.no HP.out rfl HX.out
   have hb2:(bl.length:Int)+1 < n.depth:=by omega
   clear hbad ho;go_enter Tryz.func41,Tryz.ntmps41;go_wp2_with fail;refine HOP.out.mono ?_;rintro e w1 ⟨rfl,hx⟩;rw [HO.out];have HX:=Qq hx;have k3w:=(hx.cell (p:=⟨bw,3,none⟩) klt).trans k3;have kfw:=(hx.frozen (p:=⟨bw,3,none⟩) klt).trans (kfr 3);have kltw:bw < w1.heap.size:=Qy klt hx.size;clear hx;go_wp2_with fail;go_ret;exact Kc.no HP.out rfl HX.out
  obtain⟨d,hd⟩:∃d:Nat,n.depth=(d:Int)+1:=⟨(n.depth - 1).toNat,by omega⟩;have hdl:d<=bl.length:=by omega
  have HP:=Qq (Qj8 (st:=st) ho hd (by rw [HBL.out];exact hdl));have HT:=Qq (Zi.take_ HI.out (n:=d) (by exact hdl));have HTL:=Qq (show(bl.take d).length=d by simp;omega);rw [hd]at q0;have hn0:¬(d:Int)+1 < 1:=by omega
  have hn1:(d:Int)+1<=(bl.length:Int)+1:=by omega
  have hn2:d<=c0:=by omega
  have hn3:(d:Int)<=(c0:Int):=by omega
  have hn4:((d:Int)+1 - 1)=(d:Int):=by omega
  have hwr:IntKind.i64.wrap (d:Int)=(d:Int):=by rw [IntKind.wrap_i64];omega
  have hdb:d+1<=maxLen:=by unfold maxLen;omega
  have hdc:(d+1)*8<=140737488355328:=by omega
  clear hbad ho hd;go_enter Tryz.func41,Tryz.ntmps41;go_wp2_with fail;refine HOP.out.mono ?_;rintro e w1 ⟨rfl,hx⟩;rw [HO.out];have HX:=Qq hx;have k3w:=(hx.cell (p:=⟨bw,3,none⟩) klt).trans k3;have kfw:=(hx.frozen (p:=⟨bw,3,none⟩) klt).trans (kfr 3);have kltw:bw < w1.heap.size:=Qy klt hx.size;clear hx;go_wp2_with fail;go_region_law (first|(go_simp;go_at_call 68;refine(Qyp _ (bl.take d) _ (by exact HT.out.ext (Ext.trans HX.out (by repeat(first|exact Qz|assumption|apply Ext.alloc|apply Ext.drew)))) (by rw [HTL.out];omega)).mono ?_;rintro e wc ⟨uc,rfl,hmc⟩;obtain⟨Ac,cc,huc⟩:=Zq hmc.1;rw [HTL.out]at huc;subst huc;have MC:=Qq hmc;have hxc:Ext w1 wc:=Ext.trans (by repeat(first|exact Qz|assumption|apply Ext.alloc|apply Ext.drew)) hmc.2;have k3c:=(hxc.cell (p:=⟨bw,3,none⟩) kltw).trans k3w;have kltc:bw < wc.heap.size:=Qy kltw hxc.size;clear hmc)|(refine Ka rfl (.tmp 51) (.tmp 53) 60 rfl _ 3 i3 (.int .i64 0) 1 8 Tryz.underlying60 hi3' hz30 hz31 hz32 rfl (by decide) (.slice Ac d cc) d ((bl.take d).map (Value.int .i64)) (by simp [Act.eval]) (Jt (by have h:=MC.out.1;rw [HTL.out]at h;exact h) (by repeat(first|exact Qz|assumption|apply Ext.alloc|apply Ext.drew))) ⟨_,0,none⟩ 1 1 [.int .i64 (st.length:Int)] (by simp [Act.eval];rfl) rfl (by first|exact Yv _ _ _ (by simp)|exact fun j u hu=>(MC.out.2.cell (by rw [Qn];simp)).trans (Yv w1 #[.int .i64 (st.length:Int)] 3 rfl j u hu)) (fun u hu=>by rw [List.mem_singleton.1 hu];rfl) hdb hdc (Qx MC.out.2.size (Ext.size (by repeat(first|exact Qz|assumption|apply Ext.alloc|apply Ext.drew)))) ?_;intro v5 w5 hown5 hgrow5 hat5;obtain⟨A5,c5,hv5⟩:=Zq hown5;subst hv5;have hx5:Ext w1 w5:=Ext.grown (Ext.trans hxc (by repeat(first|exact Qz|assumption|apply Ext.alloc|apply Ext.drew))) hgrow5 (fun g hg=>Qx (Ext.size (by repeat(first|exact Qz|assumption|apply Ext.alloc|apply Ext.drew))) (MC.out.1.lt g hg).1);have HR5:=Qq hown5;have k3d:=(hx5.cell (p:=⟨bw,3,none⟩) kltw).trans k3w;have kltd:bw < w5.heap.size:=Qy kltw hx5.size;clear hown5 hgrow5 hat5)|(refine Ka rfl (.tmp 46) (.tmp 55) 91 rfl w0.heap.size 60 iI (.slice none 0 0) 1 24 Tryz.underlying91 hiI hzI0 hzI1 hzI2 rfl (by decide) (.slice (some ads) st.length cs0) st.length ss (by simp [Act.eval]) (Jt HROW.out (Ext.trans HX.out (by repeat(first|exact Qz|assumption|apply Ext.alloc|apply Ext.drew)))) ⟨_,0,none⟩ 1 1 [.slice A5 (d+1) c5] (by simp [Act.eval];rfl) rfl (Yv _ _ _ (by simp)) (fun u hu=>by rw [List.mem_singleton.1 hu];rfl) hc3 hc4 (Qx hbase (Ext.size (a:=w) (Ext.trans HX.out (by repeat(first|exact Qz|assumption|apply Ext.alloc|apply Ext.drew))))) ?_;intro v' w4 hown4 hgrow4 hat4;have HPS:=Qq (Kf.pushS2 H.out (Ext.trans HX.out (by repeat(first|exact Qz|assumption|apply Ext.alloc|apply Ext.drew))) HROW.out HV.out hown4 hgrow4 hat4 ((Tq (l:=bl.take d++ [(st.length:Int)]) (by have h:=HR5.out;simpa [HTL.out]using h)).ext (by repeat(first|exact Qz|assumption|apply Ext.alloc|apply Ext.drew))) ((Kf.free_new (w':=w5) (H.out.ext_ HX.out) (fun g hg=>⟨Qx (Ext.size (by repeat(first|exact Qz|assumption|apply Ext.alloc|apply Ext.drew))) (HR5.out.lt g hg).1,(HR5.out.lt g hg).2⟩)).ext (by repeat(first|exact Qz|assumption|apply Ext.alloc|apply Ext.drew))));have kb:=Rf (H.out.ext_ HX.out).blk H.out.sne (by repeat(first|exact Qz|assumption|apply Ext.alloc|apply Ext.drew)) hgrow4;obtain⟨z0,z1,z2,z3,zfr,zlt⟩:=Bn kb;obtain⟨A4,c4,hv4⟩:=Zq hown4;subst hv4;clear hown4 hgrow4 hat4 kb))
  all_goals
   go_wp2_with fail;go_ret;exact Kc.yes (by rw [HP.out,HBL.out] <;> rfl) rfl HPS.out.1 HPS.out.2.1 HPS.out.2.2
end Go.Proofs.YtmidgcldljfkcaaGreatDoor
