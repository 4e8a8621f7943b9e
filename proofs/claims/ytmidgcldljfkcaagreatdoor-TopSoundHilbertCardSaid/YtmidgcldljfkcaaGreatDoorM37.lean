/- rewrite.Nnf, and the negation normal form of a negation. -/
import Derived.Test.YtmidgcldljfkcaaGreatDoorM01
import Derived.Test.YtmidgcldljfkcaaGreatDoorM36
import Derived.Test.YtmidgcldljfkcaaGreatDoorM13
namespace Go.Proofs.YtmidgcldljfkcaaGreatDoor
set_option maxRecDepth 100000
set_option maxHeartbeats 128000000
open Go.RowKit
inductive Lc (W0 w:World) (bn:Nat) (A:Option Addr) (cp:Nat) (c:List Nd):Nat->Prop where
 |none_ (hx:Ext W0 w) (hb:w.heap[bn]?=some (.cells #[.slice A c.length cp,.map none,.map none] 155 (0,0))):Lc W0 w bn A cp c 0
 |one (m0:Nat) (hx:Ext W0 w) (hb:w.heap[bn]?=some (.cells #[.slice A c.length cp,.map (some m0),.map none] 155 (0,0))) (h0:W0.heap.size<=m0) (hm:w.ownsMap Tryz.prog 3 Vg m0 0 (.map [])):Lc W0 w bn A cp c 1
 |both (m0 m1:Nat) (he:Jg W0 w bn m0 m1 A cp c):Lc W0 w bn A cp c 2
theorem Xp.empty {w:World} {b:Nat}(c:List Nd)(no:Bool)(h:w.ownsMap Tryz.prog 3 Vg b 0 (.map [])):Xp w b c no :=
 ⟨.map [],0,h,Nat.zero_le _,fun i hi=>by simp [Go.Maps.has]at hi⟩
theorem Qfm {w:World} {b:Nat} {a0 a1 a2:Value} {t:TypeId}(h:w.heap[b]?=some (.cells #[a0,a1,a2] t (0,0))):∀j,w.frozen? ⟨b,j,none⟩=false:=fun j=>by simp [World.frozen?,h]
theorem Qat {w:World} {b:Nat} {a0 a1 a2:Value} {t:TypeId}(h:w.heap[b]?=some (.cells #[a0,a1,a2] t (0,0)))(u:Value):(w.setCell ⟨b,1,none⟩ u).heap[b]?=some (.cells #[a0,u,a2] t (0,0)):=by
 simp only [World.setCell,Array.getElem?_modify,h,if_true,Option.map_some];simp
theorem Qhp {w:World} {b:Nat} {a0 a1 a2:Value} {t:TypeId}(h:w.heap[b]?=some (.cells #[a0,a1,a2] t (0,0)))(u:Value):(w.setCell ⟨b,2,none⟩ u).heap[b]?=some (.cells #[a0,a1,u] t (0,0)):=by
 simp only [World.setCell,Array.getElem?_modify,h,if_true,Option.map_some];simp
section
variable {W0 w:World} {bn cp:Nat} {A:Option Addr} {c:List Nd}
theorem Qvp(w:World)(p:Addr)(u:Value)(hp:w.heap.size≠p.block):((w.alloc (.map #[] 0)).setCell p u).ownsMap Tryz.prog 3 Vg w.heap.size 0 (.map []):=
 Dc (World.ownsMap_made w _ _ _) (Below.heap_setCell _ _ _ _ hp)
theorem Lc.first(hx:Ext W0 w)(hb:w.heap[bn]?=some (.cells #[.slice A c.length cp,.map none,.map none] 155 (0,0)))(hl:W0.heap.size<=bn):
 Lc W0 ((w.setCell ⟨bn,1,none⟩ (.map (some w.heap.size))).alloc (.map #[] 0)) bn A cp c 1:=by
 have hlt:=Qm hb;rw [<-World.setCell_alloc_past _ _ _ _ hlt];have hb2:=(((Ext.refl w).alloc (.map #[] 0)).block hlt).trans hb;exact .one w.heap.size ((hx.alloc _).setCell hl _) (Qat hb2 _) hx.size (Qvp w _ _ (by show w.heap.size≠bn;omega))
theorem Lc.second {m0:Nat}(hx:Ext W0 w)(hb:w.heap[bn]?=some (.cells #[.slice A c.length cp,.map (some m0),.map none] 155 (0,0)))(h0:W0.heap.size<=m0)(hm:w.ownsMap Tryz.prog 3 Vg m0 0 (.map []))(hl:W0.heap.size<=bn)(hc:Fml W0 (.slice A c.length cp) c):
 Lc W0 ((w.setCell ⟨bn,2,none⟩ (.map (some w.heap.size))).alloc (.map #[] 0)) bn A cp c 2:=by
 have hlt:=Qm hb;rw [<-World.setCell_alloc_past _ _ _ _ hlt];have hb2:=(((Ext.refl w).alloc (.map #[] 0)).block hlt).trans hb;have hne:m0≠bn:=fun e=>by
  obtain⟨es,k,h1,_⟩:=hm;rw [e,hb]at h1;cases h1
 have hm0:=hm.lt;have hk:((w.alloc (.map #[] 0)).setCell ⟨bn,2,none⟩ (.map (some w.heap.size))).heap[m0]?=w.heap[m0]?:=(Below.heap_setCell _ _ _ _ hne).trans (((Ext.refl w).alloc (.map #[] 0)).block hm0);exact .both m0 w.heap.size ⟨(hx.alloc _).setCell hl _,hc,Qhp hb2 _,.empty c false (Dc hm hk),.empty c true (Qvp w _ _ (by show w.heap.size≠bn;omega)),⟨h0,hx.size⟩,by omega⟩
end
def Wl(l:List Nd):Int:=bif decide (l.length=0)then 8 else 0
theorem Ql3(v:Value)(l:List Nd)(w:World)(h:Fml w v l):
 Calls Tryz.prog 105 #[v] w fun e w'=>∃u,e=.returned (.tuple #[u,.int .i64 (Wl l)])/\Ext w w'/\Fml w' u l:=by
 have H:=Qq h;obtain⟨A,c,rfl,_⟩:=Qg h;clear h;by_cases h0:l.length=0
 ·have hn:l= []:=List.length_eq_zero_iff.1 h0;subst hn;go_enter Tryz.func105,Tryz.ntmps105;go_wp2_with fail;go_ret2;exact⟨_,rfl,Qz,Fx _⟩
 have hd:((l.length:Int)==0)=false:=by rw [beq_eq_false_iff_ne];omega
 have HD:=Qq (show Wl l=0 by unfold Wl;rw [decide_eq_false h0];rfl);clear h0;go_enter Tryz.func105,Tryz.ntmps105;go_wp2_with fail;go_ret2;rw [HD.out];exact⟨_,rfl,Qz,H.out⟩
theorem Qpt(v:Value)(f:List Nd)(w:World)(h:Fml w v f)(hF:Qs f=0->Tc (Qf f)):
 Calls Tryz.prog 82 #[v] w fun e w'=>∃u,e=.returned (.tuple #[u,.int .i64 (Eo f)])/\Ext w w'/\Fml w' u (Tn f):=by
 have H:=Qq h;have HFW:=Qq hF;have hmm:= @run_makeMap Tryz.prog;obtain⟨A,c,rfl,_⟩:=Qg h;clear h hF;go_enter Tryz.func82,Tryz.ntmps82;go_wp2_with fail;refine(Je _ f _ H.out.1).mono ?_;rintro e w1 ⟨rfl,hx⟩;have X1:=Qq hx;clear hx;cases hc:Qs f !=0
 case true =>
  have HE:=Qq (show Eo f=Qs f/\Tn f= [] by unfold Eo Tn;rw [hc];exact⟨rfl,rfl⟩);go_wp2_with fail;go_ret2;rw [HE.out.1,HE.out.2];exact⟨_,rfl,X1.out,Fx _⟩
 case false =>
  have hc0:Qs f=0:=by simpa using hc
  have HE:=Qq (show Eo f=Wl (Tn f)/\Tn f=Zv (Qf f) false ((Qf f).length - 1) by
   unfold Eo;rw [hc];refine⟨rfl,?_⟩;unfold Tn;rw [hc]
   rfl)
  obtain⟨cw,cl,cpos,_⟩:=Vz hc0;have hl200:=(Zk hc0).2.1;have CW:=Qq cw;have HF10:=Qq (HFW.out hc0);generalize hcc:Qf f=cc at HE CW HF10 cl cpos;have HCC:=Qq hcc;have HC:=Qq hc;clear cw hcc hc0;go_wp2_with fail;refine(Vy _ f _ (H.out.ext X1.out)).mono ?_;rintro e w2 ⟨u,rfl,hm⟩;rw [HCC.out]at hm;have X2:=Qq (X1.out.trans hm.2.2);have HF:=Qq hm.fml;obtain⟨Au,cu,rfl,_⟩:=Qg hm.fml;have hcap:cc.length<=cu:=by
   obtain⟨A',c',e,h1,_⟩:=HF.out.1;injection e with _ _ e3;subst e3;exact h1
  clear hm hc;have hbx:(w2.alloc (.cells #[.slice Au cc.length cu,.map none,.map none] 155)).heap[w2.heap.size]?=some (.cells #[.slice Au cc.length cu,.map none,.map none] 155 (0,0)):=heap_alloc_new _ _;have HB:=Qq (Lc.none_ (W0:=w2) ((Ext.refl w2).alloc (.cells #[.slice Au cc.length cu,.map none,.map none] 155)) hbx);clear hbx;go_wp2_with fail;go_loopw [16] (fun v wr=>∃k:Nat,v=.int .i64 (k:Int)/\k<=2/\Hid (Lc w2 wr w2.heap.size Au cu cc k)) (fun v _=>2 - (intOf v).toNat)
  case atStart=>exact⟨0,rfl,by omega,HB⟩
  case round =>
   obtain⟨k,rfl,hk,HP⟩:=hrel;cases hp:HP.out with
   |none_ hx hb =>
    have N1:=Qq (Lc.first hx hb (Nat.le_refl _));have hfz:=Qfm hb;obtain⟨d0,d1,d2,dlt⟩:=Rw hb;clear hp hb hx HP;go_wp2_with fail;go_roundw
    case rel=>exact⟨1,rfl,by omega,N1⟩
    case measure=>simp [intOf]
   |one m0 hx hb h0 hm =>
    have N1:=Qq (Lc.second hx hb h0 hm (Nat.le_refl _) HF.out);have hfz:=Qfm hb;obtain⟨d0,d1,d2,dlt⟩:=Rw hb;clear hp hb hx hm HP;go_wp2_with fail;go_roundw
    case rel=>exact⟨2,rfl,by omega,N1⟩
    case measure=>simp [intOf]
   |both m0 m1 he =>
    have E0:=Qq he;obtain⟨d0,d1,d2,dlt⟩:=Rw he.blk;have hlen0:(0:Int)<=(cc.length:Int) - 1:=by omega
    have hof:=Qap (W0:=w2) (bn:=w2.heap.size) (m0:=m0) (m1:=m1) (A:=Au) (cp:=cu) CW.out (by omega) HF10.out HF.out.2 (cc.length - 1) (by omega);rw [show(((cc.length - 1:Nat):Int))=(cc.length:Int) - 1 by omega]at hof;have HOF:=Qq hof;have hT:((cc.length:Int) - 1).toNat=cc.length - 1:=by omega
    clear hp he hof HP;go_wp2_with fail;refine(HOF.out false _ E0.out).mono ?_;rintro e w4 ⟨u4,rfl,he4,hs4,hu4⟩;rw [hT]at hu4;have F4:=Qq hu4;have X4:=Qq (X2.out.trans he4.ext);clear he4 hs4 d0 d1 d2 dlt;obtain⟨A4,c4,rfl,_⟩:=Qg hu4;clear hu4;go_wp2_with fail;refine(Ql3 _ _ _ F4.out).mono ?_;rintro e w5 ⟨u5,rfl,hx5,hu5⟩;have X5:=Qq (X4.out.trans hx5);have F5:=Qq hu5;clear hx5 hu5;go_wp2_with fail;go_ret2;rw [HE.out.1,HE.out.2];exact⟨_,rfl,X5.out,F5.out⟩
theorem Qv6(v:Value)(f:List Nd)(w:World)(h:Fml w v f)(hF:Qs (Vt f)=0->Tc (Qf (Vt f))):
 Calls Tryz.prog 53 #[v] w fun e w'=>∃u,e=.returned u/\Ext w w'/\Fml w' u (Ns f):=by
 have H:=Qq h;have HF:=Qq hF;obtain⟨A,c,rfl,_⟩:=Qg h;clear h hF;go_enter Tryz.func53,Tryz.ntmps53;go_wp2_with fail;refine(Gg _ f _ H.out).mono ?_;rintro e w1 ⟨u,rfl,hm⟩;have HM:=Qq hm;clear hm;go_wp2_with fail;refine(Qpt _ (Vt f) _ HM.out.fml HF.out).mono ?_;rintro e w2 ⟨u2,rfl,hx,hu⟩;have X2:=Qq (HM.out.2.2.trans hx);have F2:=Qq hu;clear hx hu;go_wp2_with fail;go_ret;exact⟨_,rfl,X2.out,F2.out⟩
theorem Tl(lg:Int)(w:World):Calls Tryz.prog 51 #[.int .i64 lg] w fun e w'=>e=.returned (.bool (Bf lg))/\Ext w w':=by
 by_cases h0:0<=lg
 ·by_cases h6:lg<=6
  ·have HE:=Qq (show Bf lg=true by unfold Bf;rw [decide_eq_true h0,decide_eq_true h6];rfl);go_enter Tryz.func51,Tryz.ntmps51;go_wp2_with fail;go_ret;exact⟨by rw [HE.out] <;> rfl,Qz⟩
  have HE:=Qq (show Bf lg=false by unfold Bf;rw [decide_eq_true h0,decide_eq_false h6];rfl);go_enter Tryz.func51,Tryz.ntmps51;go_wp2_with fail;go_ret;exact⟨by rw [HE.out] <;> rfl,Qz⟩
 have HE:=Qq (show Bf lg=false by unfold Bf;rw [decide_eq_false h0];rfl);go_enter Tryz.func51,Tryz.ntmps51;go_wp2_with fail;go_ret;exact⟨by rw [HE.out] <;> rfl,Qz⟩
theorem Ji(s:Nat)(hs:s < 18446744073709551616)(node:Int)(w:World):Calls Tryz.prog 31 #[.int .u64 (s:Int),.int .i64 node] w fun e w'=>e=.returned (.bool (inS s node))/\Ext w w':=by
 by_cases h0:0<=node
 ·by_cases h6:node < 64
  ·obtain⟨k,rfl⟩:=Int.eq_ofNat_of_zero_le h0;have hk:min k 64=k:=by omega
   have HE:=Qq (show inS s (k:Int)=s.testBit k by unfold inS;rw [decide_eq_true h0,decide_eq_true h6,Int.toNat_natCast];rfl);have hb:=Fq s k hs;go_enter Tryz.func31,Tryz.ntmps31;go_wp2_with fail;go_ret;exact⟨by rw [HE.out] <;> rfl,Qz⟩
  have HE:=Qq (show inS s node=false by unfold inS;rw [decide_eq_true h0,decide_eq_false h6];rfl);have h6d:decide (node < 64)=false:=decide_eq_false h6;go_enter Tryz.func31,Tryz.ntmps31;go_wp2_with fail;go_ret;exact⟨by rw [HE.out] <;> rfl,Qz⟩
 have HE:=Qq (show inS s node=false by unfold inS;rw [decide_eq_false h0];rfl);have h0d:decide (0<=node)=false:=decide_eq_false h0;go_enter Tryz.func31,Tryz.ntmps31;go_wp2_with fail;go_ret;exact⟨by rw [HE.out] <;> rfl,Qz⟩
theorem Qgm {base:List Nd} {n:Nd}(h:n.op=1\/n.op=2\/n.op=3\/n.op=5\/n.op=6\/n.op=9\/n.op=10):Vj base n=true:=by
 unfold Vj;rcases h with h|h|h|h|h|h|h <;> rw [h] <;> rfl
theorem Qb1 {base:List Nd} {n:Nd}(h1:(n.op==1)=false)(h2:(n.op==2)=false)(h3:(n.op==3)=false)(h4:(n.op==4)=false)(h5:(n.op==5)=false)(h6:(n.op==6)=false)(h9:(n.op==9)=false)(h10:(n.op==10)=false):Vj base n=false:=by
 unfold Vj;rw [h1,h2,h3,h4,h5,h6,h9,h10];rfl
theorem Qfc(v:Value)(base:List Nd)(n:Nd)(w:World)(h:Nds w v base)(hx:n.op=4->0<=n.x/\n.x < base.length):
 Calls Tryz.prog 81 #[v,n.val] w fun e w'=>e=.returned (.bool (Vj base n))/\Ext w w':=by
 obtain⟨A,c,rfl,hcap,hmax,hread⟩:=h;unfold maxLen at hmax;obtain⟨o,i,e,k,x,y⟩:=n;have HA:=Qq (show Ext w (w.alloc (.cells #[.int .i64 o,.int .i64 i,.int .i64 e,.int .i64 k,.int .i64 x,.int .i64 y] 64))from Qz.alloc _);by_cases hy:o=1\/o=2\/o=3\/o=5\/o=6\/o=9\/o=10
 ·have HE:=Qq (Qgm (base:=base) (n:=⟨o,i,e,k,x,y⟩) hy);clear hread hx;unfold Nd.val
  rcases hy with rfl|rfl|rfl|rfl|rfl|rfl|rfl <;>
   (go_enter Tryz.func81,Tryz.ntmps81
    go_wp2_with fail;go_ret;exact⟨by rw [HE.out] <;> rfl,HA.out⟩)
 by_cases h4:o=4
 ·subst h4;obtain⟨hx0,hx1⟩:=hx rfl;simp only at hx0 hx1;obtain⟨ad,rfl,hblk,hcells⟩:=hread (by intro e;rw [e]at hx1;simp at hx1;omega);obtain⟨j,rfl⟩:=Int.eq_ofNat_of_zero_le hx0;obtain⟨m,hm⟩:∃m,base[j]?=some m:=⟨_,List.getElem?_eq_getElem (show j < base.length by omega)⟩;have c0:=(HA.out.cell (Qj hblk)).trans (hcells j m hm).1;have HE:=Qq (show Vj base ⟨4,i,e,k,(j:Int),y⟩=(m.op==3) by
   unfold Vj;simp only [Int.toNat_natCast];rw [Nm hm]
   rfl)
  clear hcells hread hm hy hx;unfold Nd.val;cases h3:m.op==3
  ·have HE2:=Qq (HE.out.trans h3);go_enter Tryz.func81,Tryz.ntmps81;go_wp2_with fail;go_ret;exact⟨by rw [HE2.out] <;> rfl,HA.out⟩
  have HE2:=Qq (HE.out.trans h3);go_enter Tryz.func81,Tryz.ntmps81;go_wp2_with fail;go_ret;exact⟨by rw [HE2.out] <;> rfl,HA.out⟩
 have b1:(o==1)=false:=by rw [beq_eq_false_iff_ne];omega
 have b2:(o==2)=false:=by clear b1;rw [beq_eq_false_iff_ne];omega
 have b3:(o==3)=false:=by clear b1 b2;rw [beq_eq_false_iff_ne];omega
 have b4:(o==4)=false:=by clear b1 b2 b3;rw [beq_eq_false_iff_ne];omega
 have b5:(o==5)=false:=by clear b1 b2 b3 b4;rw [beq_eq_false_iff_ne];omega
 have b6:(o==6)=false:=by clear b1 b2 b3 b4 b5;rw [beq_eq_false_iff_ne];omega
 have b9:(o==9)=false:=by clear b1 b2 b3 b4 b5 b6;rw [beq_eq_false_iff_ne];omega
 have b10:(o==10)=false:=by clear b1 b2 b3 b4 b5 b6 b9;rw [beq_eq_false_iff_ne];omega
 have HE:=Qq (Qb1 (base:=base) (n:=⟨o,i,e,k,x,y⟩) b1 b2 b3 b4 b5 b6 b9 b10);clear hread hx hy h4;unfold Nd.val;go_enter Tryz.func81,Tryz.ntmps81;go_wp2_with fail;go_ret;exact⟨by rw [HE.out] <;> rfl,HA.out⟩
theorem Qlr {base l:List Nd} {k:Nat} {n:Nd}(h:l[k]?=some n):(l.take (k+1)).all (Vj base)=((l.take k).all (Vj base)&&Vj base n):=by
 rw [Yr h,List.all_append];simp
theorem Nv(v:Value)(base:List Nd)(w:World)(h:Nds w v base):
 Calls Tryz.prog 52 #[v] w fun e w'=>e=.returned (.int .i64 (Zt base))/\Ext w w':=by
 have H:=Qq h;obtain⟨A,c,rfl,hcap,hmax,hread⟩:=h;unfold maxLen at hmax;have HR:=Qq hread;clear hread;go_enter Tryz.func52,Tryz.ntmps52;go_wp2_with fail;refine(Je _ base _ H.out).mono ?_;rintro e w1 ⟨rfl,hx⟩;have X1:=Qq hx;clear hx;cases hc:Qs base !=0
 case true =>
  have HE:=Qq (show Zt base=Qs base by unfold Zt;rw [hc];rfl);go_wp2_with fail;go_ret;exact⟨by rw [HE.out] <;> rfl,X1.out⟩
 case false =>
  have hc0:Qs base=0:=by simpa using hc
  by_cases hl:64 < base.length
  ·have hl1:(64:Int) < (base.length:Int):=by omega
   have HE:=Qq (show Zt base=8 by unfold Zt;rw [hc,decide_eq_true hl];rfl);clear hc0;go_wp2_with fail;go_ret;exact⟨by rw [HE.out] <;> rfl,X1.out⟩
  have hl1:¬(64:Int) < (base.length:Int):=by omega
  have HE:=Qq (show Zt base=bif base.all (Vj base)then 0 else 10 by unfold Zt;rw [hc,decide_eq_false hl];rfl);have CW:=Qq (Jq hc0);clear hc0;go_wp2_with fail;go_loopw [16] (fun v wr=>∃k:Nat,v=.int .i64 (k:Int)/\k<=base.length/\Hid ((base.take k).all (Vj base)=true)/\Hid (Ext w wr)) (fun v _=>base.length - (intOf v).toNat)
  case atStart=>exact⟨0,rfl,Nat.zero_le _,Qq rfl,X1⟩
  case round =>
   obtain⟨k,rfl,hk,HT,HX⟩:=hrel;by_cases hlt2:k < base.length
   ·obtain⟨n,hn⟩:∃n,base[k]?=some n:=⟨_,Qv hlt2⟩;obtain⟨ad,rfl,hblk,hcells⟩:=HR.out (by intro e;rw [e]at hlt2;simp at hlt2);obtain⟨q0,q1,q2,q3,q4,q5⟩:=hcells k n hn;have hkk:∀p:Addr,p.block=ad.block->wr.cell? p=w.cell? p:=fun p hp=>HX.out.cell (by rw [hp];exact hblk)
    have q0:=(hkk _ (by rw [Qn])).trans q0;have q1:=(hkk _ (by show(ad.add _).block=_;rw [Qn])).trans q1;have q2:=(hkk _ (by show(ad.add _).block=_;rw [Qn])).trans q2;have q3:=(hkk _ (by show(ad.add _).block=_;rw [Qn])).trans q3;have q4:=(hkk _ (by show(ad.add _).block=_;rw [Qn])).trans q4;have q5:=(hkk _ (by show(ad.add _).block=_;rw [Qn])).trans q5;have hk0:(0:Int)<=(k:Int):=by omega
    have hk1:(k:Int) < (base.length:Int):=by omega
    have X2:=Qq (HX.out.alloc (.cells #[.int .i64 n.op,.int .i64 n.i,.int .i64 n.e,.int .i64 n.g,.int .i64 n.x,.int .i64 n.y] 64));obtain⟨⟨z0,z1,z2,z3,z4,z5⟩,_,zlt⟩:=Zg (heap_alloc_new wr (.cells #[.int .i64 n.op,.int .i64 n.i,.int .i64 n.e,.int .i64 n.g,.int .i64 n.x,.int .i64 n.y] 64));have hxr:n.op=4->0<=n.x/\n.x < base.length:=fun h4=>by
     have:=(CW.out k n hn).1 (by rw [h4];rfl);omega
    have HXR:=Qq hxr;have HAT:=Qq (Qlr (base:=base) hn);have HM:=Qq (List.mem_of_getElem? hn);clear hkk hcells hxr hn;go_wp2_with fail;refine(Qfc _ base n _ (H.out.ext X2.out) HXR.out).mono ?_;rintro e w3 ⟨rfl,hx⟩;have X3:=Qq (X2.out.trans hx);clear hx z0 z1 z2 z3 z4 z5 zlt q0 q1 q2 q3 q4 q5;cases hnn:Vj base n
    ·have HE2:=Qq (show Zt base=10 by
      rw [HE.out,show base.all (Vj base)=false from by
       rw [List.all_eq_false];exact⟨n,HM.out,by rw [hnn];simp⟩]
      rfl)
     go_wp2_with fail;go_ret;exact⟨by rw [HE2.out] <;> rfl,X3.out⟩
    have HT2:=Qq (show(base.take (k+1)).all (Vj base)=true by rw [HAT.out,HT.out,hnn];rfl);go_wp2_with fail;go_roundw
    case rel=>exact⟨k+1,by go_num,by omega,HT2,X3⟩
    case measure=>simp [intOf];omega
   obtain rfl:base.length=k:=by omega
   have HE2:=Qq (show Zt base=0 by
    have:=HT.out;rw [List.take_of_length_le (Nat.le_refl _)]at this;rw [HE.out,this]
    rfl)
   go_wp2_with fail;go_ret;exact⟨by rw [HE2.out] <;> rfl,HX.out⟩
theorem Qbt(base:List Nd)(k:Nat):(List.range (k+1)).map (fun(i:Nat)=>Zh base i)=(List.range k).map (fun(i:Nat)=>Zh base i)++ [Zh base k]:=by
 rw [List.range_succ,List.map_append];rfl
theorem Qkr(v:Value)(base:List Nd)(w:World)(h:Fml w v base)(hlen:base.length<=1000):
 Calls Tryz.prog 30 #[v] w fun e w'=>∃u,e=.returned u/\Ud w w' u (Kn base):=by
 have H:=Qq h;obtain⟨iI,hiI,hzI0,hzI1,hzI2⟩:=info_parts Qfr;obtain⟨A,c,rfl,_⟩:=Qg h;clear h;go_enter Tryz.func30,Tryz.ntmps30;go_wp2_with fail;go_loopw [3,7] (fun vo vi wr=>∃k:Nat,vi=.int .i64 (k:Int)/\k<=base.length/\Hid (∃out,out=(List.range k).map (fun(i:Nat)=>Zh base i)/\Ud w wr vo out)) (fun _ v _=>base.length - (intOf v).toNat)
 case atStart=>exact⟨0,rfl,Nat.zero_le _,Qq ⟨[],rfl,Ud.nil _⟩⟩
 case round =>
  obtain⟨k,rfl,hk,HREL⟩:=hrel;obtain⟨out,ho,hfr⟩:=HREL.out;obtain⟨us,hrow,hus⟩:=hfr.row;obtain⟨Ao,co,rfl⟩:=Zq hrow;have HO:=Qq ho;have HFR:=Qq hfr;have HROW:=Qq hrow;have HUS:=Qq hus;have hol:out.length<=1000:=by rw [ho];simp;omega
  clear HREL ho hfr hrow hus;by_cases hlt2:k < base.length
  ·have hk1:(k:Int) < (base.length:Int):=by omega
   have hc3:out.length+1<=maxLen:=by unfold maxLen;omega
   have hc4:(out.length+1)*24<=140737488355328:=by omega
   go_wp2_with fail;refine(Ut _ base (k:Int) _ (H.out.ext HFR.out.ext)).mono ?_;rintro e w1 ⟨u,rfl,hm⟩;have X1:=Qq (HFR.out.ext.trans hm.2.2);have Y1:=Qq hm.2.2;have HM:=Qq hm;obtain⟨Au,cu,rfl,_⟩:=Qg hm.fml;clear hm;go_wp2_with(at_builtin;refine wpList_append_own_at _ rfl _ _ 40 rfl w.heap.size 31 iI (.slice none 0 0) 1 24 Tryz.underlying40 hiI hzI0 hzI1 hzI2 rfl (by decide) _ out.length us rfl (Jt HROW.out (Y1.out.alloc _)) ⟨_,0,none⟩ 1 1 [.slice Au (Zh base (k:Int)).length cu] rfl rfl (Yv _ _ _ (by simp)) (fun u hu=>by rw [List.mem_singleton.1 hu];rfl) hc3 hc4 (Qx HFR.out.ext.size (Y1.out.alloc _).size) ?_)
   intro v7 w7 hown7 hgrow7 _ hat7;have HPS:=Qq (Ud.push (s:=Zh base (k:Int)) (X1.out.alloc _) (Jt HROW.out (Y1.out.alloc _)) (fun k s hk=>by
    obtain⟨u,a,b,c⟩:=HUS.out k s hk;exact⟨u,a,b.ext (Y1.out.alloc _),c.ext (Y1.out.alloc _)⟩) hown7 hgrow7 (hat7.imp id (fun e=>e.trans (by simp))) (HM.out.fml.ext (Qz.alloc _)) (Qym (Nat.le_refl _) (Jt HM.out.1 (Qz.alloc _)) HROW.out HFR.out.ext.size))
   obtain⟨A7,c7,rfl⟩:=Zq hown7;clear hown7 hgrow7 hat7;go_wp2_with fail;go_roundw
   case rel=>exact⟨k+1,by go_num,by omega,Qq ⟨_,by rw [Qbt,<-HO.out],HPS.out⟩⟩
   case measure=>simp [intOf];omega
  obtain rfl:base.length=k:=by omega
  go_wp2_with fail;go_ret;exact⟨_,rfl,by rw [show Kn base=out from HO.out.symm];exact HFR.out⟩
theorem Qar {w:World} {b:Nat} {a0:Value} {t:TypeId}(h:w.heap[b]?=some (.cells #[a0] t (0,0))):w.cell? ⟨b,0,none⟩=some a0/\b < w.heap.size :=
 ⟨by simp [World.cell?,h],Qm h⟩
theorem Qgf(B:Nat)(u gv:Value)(s g:List Nd)(w:World)(hs:Nds w u s)(hB:w.cell? ⟨B,0,none⟩=some gv)(hg:Nds w gv g):
 Calls Tryz.prog 55 (#[u]++ #[.pointer (some ⟨B,0,none⟩)]) w fun e w'=>e=.returned (.bool (decide (s=g)))/\Ext w w':=by
 have HS:=Qq hs;have HG:=Qq hg;obtain⟨A,c,rfl,_⟩:=hs;obtain⟨A2,c2,rfl,_⟩:=hg;have HE:=Qq (show decide (s=g)=decide (g=s) by rw [decide_eq_decide];exact eq_comm);show Calls Tryz.prog 55 #[.slice A s.length c,.pointer (some ⟨B,0,none⟩)] w _;go_enter Tryz.func55,Tryz.ntmps55;go_wp2_with(go_at_call 39;refine(Hb _ _ g s _ (by exact HG.out.ext (by repeat(first|exact Qz|assumption|apply Ext.alloc|apply Ext.drew))) (by exact HS.out.ext (by repeat(first|exact Qz|assumption|apply Ext.alloc|apply Ext.drew)))).mono ?_;rintro e w1 ⟨rfl,hx⟩);go_ret;exact⟨by rw [HE.out] <;> rfl,by first|exact hx|exact Ext.trans (by repeat(first|exact Qz|assumption|apply Ext.alloc|apply Ext.drew)) hx⟩
end Go.Proofs.YtmidgcldljfkcaaGreatDoor
