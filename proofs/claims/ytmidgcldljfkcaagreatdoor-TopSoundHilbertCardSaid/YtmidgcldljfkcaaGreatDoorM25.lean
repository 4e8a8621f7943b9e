/- boolean's value and Tautology: what they return. -/
import Derived.Test.YtmidgcldljfkcaaGreatDoorM01
import Derived.Test.YtmidgcldljfkcaaGreatDoorM24
import Derived.Test.YtmidgcldljfkcaaGreatDoorM13
import Derived.Deep.QuietTactic
import Derived.BigQuiet
import Derived.Test.YtmidgcldljfkcaaGreatDoorM02
namespace Go.Proofs.YtmidgcldljfkcaaGreatDoor
set_option maxRecDepth 100000
set_option maxHeartbeats 128000000
open Go.RowKit
theorem Qvi {w:World} {b:Nat} {a0:Value} {t:TypeId}(h:w.heap[b]?=some (.cells #[a0] t (0,0))):w.cell? ⟨b,0,none⟩=some a0/\w.frozen? ⟨b,0,none⟩=false/\b < w.heap.size :=
 ⟨by simp [World.cell?,h],by simp [World.frozen?,h],Qm h⟩
def Dp(base:Nat)(w:World)(g:Nat)(l:List Nat):Prop:=w.ownsRow base 3 1 (.slice (some ⟨g,0,none⟩) l.length l.length) l.length (l.map fun(i:Nat)=>Value.int .i64 (i:Int))
section
variable {base:Nat} {w w':World} {g:Nat} {l:List Nat}
theorem Dp.cell(h:Dp base w g l) {j:Nat}(hj:j < l.length):w.cell? ⟨g,j,none⟩=some (.int .i64 ((l.getD j 0:Nat):Int)):=by
 rw [World.ownsRow.cellAt h j (by omega),List.getElem?_map,Qk,Qv hj];rfl
theorem Dp.frozen(h:Dp base w g l)(j:Nat):w.frozen? ⟨g,j,none⟩=false:=World.ownsRow.frozenAt h j
theorem Dp.lt(h:Dp base w g l):base<=g/\g < w.heap.size:=World.ownsRow.lt h g rfl
theorem Dp.set(h:Dp base w g l)(j s:Nat):Dp base (w.setCell ⟨g,j,none⟩ (.int .i64 (s:Int))) g (l.set j s):=by
 have h1:=(World.ownsRow.stored h j (.int .i64 (s:Int))).1;unfold Dp;rw [List.length_set,List.map_set];exact h1
theorem Dp.ext(h:Dp base w g l)(he:Ext w w'):Dp base w' g l:=Jt h he
theorem Qf6(n:Nat):(madeCells (Value.cells (.int .i64 0)) (n*1)).toList=(List.replicate n 0).map fun(i:Nat)=>Value.int .i64 (i:Int):=by
 simp only [madeCells,Value.cells,Nat.mul_one,Array.toList_map,Array.toList_range,List.map_replicate];refine List.ext_getElem (by simp) fun i h1 h2=> ?_
 simp [Nat.mod_one]
theorem Qx1(n:Nat):(madeCells #[.int .i64 0] n).toList=(List.replicate n 0).map fun(i:Nat)=>Value.int .i64 (i:Int):=by
 have:=Qf6 n;rw [Nat.mul_one]at this;exact this
end
def Di(v:Nat)(nums:List Nat)(i:Nat):Bool:=v.testBit (nums.getD i 0)
structure Qjk (w:World) (b1 b2 g:Nat) (v:Nat) (nums:List Nat):Prop where
 c1:w.cell? ⟨b1,0,none⟩=some (.int .i64 (v:Int))
 c2:w.cell? ⟨b2,0,none⟩=some (.slice (some ⟨g,0,none⟩) nums.length nums.length)
 row:∀j,j < nums.length->w.cell? ⟨g,j,none⟩=some (.int .i64 ((nums.getD j 0:Nat):Int))
theorem Qjk.ext {w w':World} {b1 b2 g v:Nat} {nums:List Nat}(h:Qjk w b1 b2 g v nums)(he:Ext w w'):Qjk w' b1 b2 g v nums :=
 ⟨(he.cell (p:=⟨b1,0,none⟩) (World.block_lt_of_cell? _ _ h.c1)).trans h.c1,(he.cell (p:=⟨b2,0,none⟩) (World.block_lt_of_cell? _ _ h.c2)).trans h.c2,fun j hj=>(he.cell (p:=⟨g,j,none⟩) (World.block_lt_of_cell? _ _ (h.row j hj))).trans (h.row j hj)⟩
theorem Qk5 {w:World} {b1 b2 g v:Nat} {nums:List Nat}(h:Qjk w b1 b2 g v nums)(hv:v < 9223372036854775808)(hn:∀j,nums.getD j 0 < 64)(i:Nat)(hi:i < nums.length):
 Calls Tryz.prog 171 #[.int .i64 (i:Int),.pointer (some ⟨b1,0,none⟩),.pointer (some ⟨b2,0,none⟩)] w fun e w'=>e=.returned (.bool (Di v nums i))/\Ext w w':=by
 obtain⟨c1,c2,hrow⟩:=h;have c3:=hrow i hi;have hk:=hn i;have hi1:(i:Int) < (nums.length:Int):=by omega
 obtain⟨q,hq⟩:∃q,q=nums.getD i 0:=⟨_,rfl⟩;have HQ:=Qq (show Di v nums i=v.testBit q by unfold Di;rw [hq]);rw [<-hq]at c3 hk;have hbt:=Hh v q hv;have hq1:(q:Int) < 64:=by omega
 clear hq hrow hn;go_enter Tryz.func171,Tryz.ntmps171;go_wp2_with fail;go_quiet (fail);go_wp2_with fail;go_ret;exact⟨by rw [HQ.out] <;> rfl,Qz.drewN _⟩
theorem Qfs:(Tryz.prog.info? 4).map (fun i=>(i.zero,i.size,i.bytes))=some (some (.bool false),1,1):=by kernel_rfl
theorem Qqb {l:List Bool} {m j:Nat} :(l++List.replicate m false).getD j false=l.getD j false:=by
 rw [Qk,Qk];by_cases h:j < l.length
 ·rw [List.getElem?_append_left h]
 rw [List.getElem?_append_right (by omega),List.getElem?_eq_none (l:=l) (by omega),List.getElem?_replicate]
 split <;> rfl
theorem Qme {l:List Bool} {m:Nat} {b:Bool} :(l++List.replicate (m+1) false).set l.length b=(l++ [b])++List.replicate m false:=by
 rw [List.set_append_right _ _ (Nat.le_refl _),Nat.sub_self,List.replicate_succ,List.set_cons_zero,List.append_assoc];rfl
structure VlS (w wr:World) (leaf:Nat->Bool) (c:List Nd) (k:Nat) (vs:List Bool):Prop where
 len:vs.length=k
 rest:Xc leaf (c.drop k) vs=Xc leaf c []
 ext:Ext w wr
 row:Xg w.heap.size wr w.heap.size (vs++List.replicate (c.length - k) false)
theorem VlS.next {w wr W:World} {leaf:Nat->Bool} {c:List Nd} {k:Nat} {vs:List Bool} {n:Nd} {b:Bool}(h:VlS w wr leaf c k vs)(hn:c[k]?=some n)(hb:b=Um leaf vs n)(he:Ext wr W):VlS w (W.setCell ⟨w.heap.size,k,none⟩ (.bool b)) leaf c (k+1) (vs++ [b]):=by
 have hk:=(List.getElem?_eq_some_iff.1 hn).1;refine⟨by rw [List.length_append,h.len];rfl,?_,(h.ext.trans he).setCell (Nat.le_refl _) _,?_⟩
 ·have e:c.drop k=n :: c.drop (k+1):=by
   rw [List.drop_eq_getElem_cons hk];rw [Qv hk]at hn;injection hn with hn;rw [hn]
  have h2:=h.rest;rw [e]at h2;change Xc leaf (c.drop (k+1)) (vs++ [Um leaf vs n])=_ at h2;rw [<-hb]at h2;exact h2
 have h1:=((h.row.ext he).set k b).1;have e:c.length - k=(c.length - (k+1))+1:=by omega
 rw [e,<-h.len,Qme]at h1;rw [h.len]at h1;exact h1
theorem Qcv {w:World} {b:Nat} {a0 a1 a2 a3 a4 a5:Value} {t:TypeId}(h:w.heap[b]?=some (.cells #[a0,a1,a2,a3,a4,a5] t (0,0))):w.cell? ⟨b,0,none⟩=some a0/\w.cell? ⟨b,4,none⟩=some a4/\w.cell? ⟨b,5,none⟩=some a5/\b < w.heap.size :=
 ⟨by simp [World.cell?,h],by simp [World.cell?,h],by simp [World.cell?,h],Qm h⟩
theorem Qn0 {w:World} {Ac:Option Addr} {cc:Nat} {c:List Nd}(hc:Fml w (.slice Ac c.length cc) c)(hk:Qs c=0) {b1 b2 g v:Nat} {nums:List Nat}(hL:Qjk w b1 b2 g v nums)(hv:v < 9223372036854775808)(hn:∀j,nums.getD j 0 < 64)(hnl:nums.length=c.length):
 Calls Tryz.prog 170 #[.slice Ac c.length cc,.func (.func 171) #[] #[.pointer (some ⟨b1,0,none⟩),.pointer (some ⟨b2,0,none⟩)]] w fun e w'=>e=.returned (.bool (Qqt (Di v nums) c))/\Ext w w':=by
 have HL:=Qq hL;have HC:=Qq hk;have HVN:=Qq (And.intro hv hn);have HNL:=Qq hnl;obtain⟨iB,hiB,hzB0,hzB1,hzB2⟩:=info_parts Qfs;obtain⟨hpos,hlen,_⟩:=Zk hk;obtain⟨⟨_,_,he,hcap,hcm,hrd⟩,_⟩:=id hc;injection he with he1 _ he2;subst he1 he2;unfold maxLen at hcm;obtain⟨ad,rfl,hb,hcell⟩:=hrd (by intro e;rw [e]at hpos;simp at hpos);have HCEL:=Qq hcell;obtain⟨leaf,hlf⟩:∃z,z=Di v nums:=⟨_,rfl⟩;have HLF:=Qq hlf;rw [<-hlf];clear hL hk hv hn hnl hrd hcell hc hlf;go_enter Tryz.func170,Tryz.ntmps170;go_wp2_with(refine wpList_make_full _ rfl _ _ 103 rfl w.heap.size 4 iB (.bool false) 1 Tryz.underlying103 hiB hzB0 hzB1 .i64 .i64 _ _ c.length rfl rfl rfl rfl (by rw [hzB2];omega) (by unfold maxLen;omega) (by simp) ?_)
 intro W1 hrow1 hgr1;have HS0:=Qq (show VlS w W1 leaf c 0 []from⟨rfl,rfl,(Ext.refl w).grown hgr1 (fun k e=>by cases e),by
  have h1:=hrow1;rw [Mf]at h1;unfold Xg;rw [List.nil_append,Nat.sub_zero,List.length_replicate];exact h1⟩)
 clear hrow1 hgr1;obtain⟨q,hq⟩:∃q,q=w.heap.size:=⟨_,rfl⟩;have HQ:=Qq hq;rw [<-hq];clear hq;go_wp2_with fail;go_loopw [6,7,13] (fun _ _ vi wr=>∃k:Nat,vi=.int .i64 (k:Int)/\k<=c.length/\Hid (∃vs,VlS w wr leaf c k vs)) (fun _ _ v _=>c.length - (intOf v).toNat)
 case atStart=>exact⟨0,rfl,Nat.zero_le _,Qq ⟨[],HS0.out⟩⟩
 case round =>
  obtain⟨k,rfl,hk,HREL⟩:=hrel;obtain⟨vs,hvs⟩:=HREL.out;have HV:=Qq hvs;have HE:=Qq hvs.ext;have hqr:=hvs.row;rw [<-HQ.out]at hqr;have HR:=Qq hqr;have HVL:=Qq hvs.len;have HRL:=Qq (show(vs++List.replicate (c.length - k) false).length=c.length by rw [List.length_append,List.length_replicate,hvs.len];omega);clear HREL hvs;by_cases hlt2:k < c.length
  ·have hk1:(k:Int) < (c.length:Int):=by omega
   obtain⟨n,hn⟩:∃n,c[k]?=some n:=⟨_,Qv hlt2⟩;have HN:=Qq hn;have HWF:=Qq (Jq HC.out k n hn);have HHD:=Qq (Fz HC.out n (List.mem_of_getElem? hn));obtain⟨p0,p1,p2,p3,p4,p5⟩:=(HCEL.out k n hn).keep fun p hp=>HE.out.cell (p:=p) (by rw [hp,Qn];exact hb)
   have hbl:(ad.add (k*6)).block < wr.heap.size:=by rw [Qn];exact Qy hb HE.out.size
   obtain⟨ix,hix,hxl⟩:∃ix:Nat,n.x=(ix:Int)/\ix < c.length:=Qz3 hlt2 HWF.out.1 HHD.out.2.2.2.1;obtain⟨iy,hiy,hyl⟩:∃iy:Nat,n.y=(iy:Int)/\iy < c.length:=Qz3 hlt2 HWF.out.2 HHD.out.2.2.2.2;have HIX:=Qq (show n.x.toNat=ix by omega);have HIY:=Qq (show n.y.toNat=iy by omega);rw [hix]at p4;rw [hiy]at p5;have hxl1:(ix:Int) < (c.length:Int):=by omega
   have hyl1:(iy:Int) < (c.length:Int):=by omega
   have hfz:=hqr.frozen k;obtain⟨bk,hbk⟩:∃z,z=(vs++List.replicate (c.length - k) false).getD k false:=⟨_,rfl⟩;have rk:=hqr.cell (j:=k) (by rw [HRL.out];exact hlt2);rw [<-hbk]at rk;obtain⟨bx,hbx⟩:∃z,z=vs.getD ix false:=⟨_,rfl⟩;obtain⟨by_,hby⟩:∃z,z=vs.getD iy false:=⟨_,rfl⟩;have r0:wr.cell? ⟨q,ix,none⟩=some (.bool bx):=by rw [hqr.cell (by rw [HRL.out];exact hxl),Qqb,hbx]
   have r1:wr.cell? ⟨q,iy,none⟩=some (.bool by_):=by rw [hqr.cell (by rw [HRL.out];exact hyl),Qqb,hby]
   have hql:=hqr.lt.2;have HVA:Hid (∀b,Xv n.op=b->Um leaf vs n=bif b then leaf k else Fb n.op bx by_):=Qq (fun b e=>by unfold Um;rw [e,HIX.out,HIY.out,<-hbx,<-hby,HVL.out]);clear hn hix hiy hqr hbx hby hbk;have X1:=Qq ((Ext.refl wr).alloc (.cells #[.int .i64 n.op,.int .i64 n.i,.int .i64 n.e,.int .i64 n.g,.int .i64 (ix:Int),.int .i64 (iy:Int)] 64));have B1:=Qq (heap_alloc_new wr (.cells #[.int .i64 n.op,.int .i64 n.i,.int .i64 n.e,.int .i64 n.g,.int .i64 (ix:Int),.int .i64 (iy:Int)] 64));by_cases h3:n.op=3
   ·have HB:=Qq (show Di v nums k=Um leaf vs n by rw [HVA.out true (by rw [h3];rfl),HLF.out];rfl);have b3:(n.op==3)=true:=by simpa using h3
    clear h3 r0 r1;go_wp2_with fail;refine(Qk5 (HL.out.ext (HE.out.trans X1.out)) HVN.out.1 HVN.out.2 k (by rw [HNL.out];exact hlt2)).mono ?_;rintro e w3 ⟨rfl,hx⟩;rw [HB.out];have X3:=Qq (X1.out.trans hx);have hfz3:=(X3.out.frozen (p:=⟨q,k,none⟩) hql).trans hfz;have rk3:=(X3.out.cell (p:=⟨q,k,none⟩) hql).trans rk;have hql3:=Qy hql X3.out.size;have HV3:=Qq (HV.out.next HN.out rfl X3.out);rw [<-HQ.out]at HV3;clear hx;go_wp2_with fail;go_roundw
    case rel=>exact⟨k+1,by go_num,by omega,Qq ⟨_,HV3.out⟩⟩
    case measure=>simp [intOf];omega
   have b3:(n.op==3)=false:=by simpa using h3
   by_cases h8:8 < n.op
   ·have HB:=Qq (show Di v nums k=Um leaf vs n by rw [HVA.out true (by unfold Xv;rw [decide_eq_true h8,Bool.or_true]),HLF.out];rfl);have h8i:¬n.op<=8:=by omega
    have h8b:decide (n.op<=8)=false:=decide_eq_false h8i;clear h3 r0 r1;go_wp2_with fail;refine(Lk n.op _).mono ?_;rintro e w2 ⟨rfl,hx⟩;have X2:=Qq (X1.out.trans hx);have B2:=Qq ((hx.block (Qm B1.out)).trans B1.out);clear hx;go_wp2_with fail;refine(Qk5 (HL.out.ext (HE.out.trans X2.out)) HVN.out.1 HVN.out.2 k (by rw [HNL.out];exact hlt2)).mono ?_;rintro e w3 ⟨rfl,hx⟩;rw [HB.out];have X3:=Qq (X2.out.trans hx);have hfz3:=(X3.out.frozen (p:=⟨q,k,none⟩) hql).trans hfz;have rk3:=(X3.out.cell (p:=⟨q,k,none⟩) hql).trans rk;have hql3:=Qy hql X3.out.size;have HV3:=Qq (HV.out.next HN.out rfl X3.out)
    rw [<-HQ.out]at HV3;clear hx;go_wp2_with fail;go_roundw
    case rel=>exact⟨k+1,by go_num,by omega,Qq ⟨_,HV3.out⟩⟩
    case measure=>simp [intOf];omega
   have HB:=Qq (show Um leaf vs n=Fb n.op bx by_ from HVA.out false (by unfold Xv;rw [b3,decide_eq_false h8];rfl));have h8n:n.op<=8:=by omega
   have h8b:decide (n.op<=8)=true:=decide_eq_true h8n;clear h3 h8;go_wp2_with fail;refine(Lk n.op _).mono ?_;rintro e w2 ⟨rfl,hx⟩;have X2:=Qq (X1.out.trans hx);have B2:=Qq ((hx.block (Qm B1.out)).trans B1.out);clear hx;obtain⟨z0,z4,z5,zl⟩:=Qcv B2.out;have y0:=(X2.out.cell (p:=⟨q,ix,none⟩) hql).trans r0;have y1:=(X2.out.cell (p:=⟨q,iy,none⟩) hql).trans r1;have ql2:=Qy hql X2.out.size;have fz2:=(X2.out.frozen (p:=⟨q,k,none⟩) hql).trans hfz;have rk2:=(X2.out.cell (p:=⟨q,k,none⟩) hql).trans rk;clear r0 r1 p0 p1 p2 p3 p4 p5;go_wp2_with fail;refine Pb 16 (fun w'=>w'.cell? (⟨wr.heap.size,0,none⟩)=some (.int .i64 n.op)/\w'.cell? (⟨wr.heap.size,4,none⟩)=some (.int .i64 (ix:Int))/\w'.cell? (⟨wr.heap.size,5,none⟩)=some (.int .i64 (iy:Int))/\w'.cell? (⟨q,ix,none⟩)=some (.bool bx)/\w'.cell? (⟨q,iy,none⟩)=some (.bool by_)) (by kernel_rfl) ⟨xd zl z0,xd zl z4,xd zl z5,xd ql2 y0,xd ql2 y1⟩ (fun hHeld=> ?_)
   refine utk 0 hHeld ?_;refine utk 1 hHeld ?_;refine utk 2 hHeld ?_;refine utk 3 hHeld ?_;refine utk 4 hHeld ?_;refine utk 5 hHeld ?_;refine utk 6 hHeld ?_;refine utk 7 hHeld ?_;refine utk 8 hHeld ?_;refine utk 9 hHeld ?_;refine utk 10 hHeld ?_;refine utk 11 hHeld ?_;refine utk 12 hHeld ?_;refine utk 13 hHeld ?_;refine Gm (rs:= [14]) (by kernel_rfl) (by simp) ?_;refine Gt.cons rfl (fun K hK=> ?_) Gt.nil;go_simp;refine(Qs1 n.op bx by_ _).mono ?_;rintro e w3 ⟨rfl,hv⟩;have hx3:Ext w2 w3:=Ext.trans (by repeat(first|exact Qz|assumption|apply Ext.alloc|apply Ext.drew)) hv;clear hv;have X3:=Qq (X2.out.trans hx3)
   have fz3:=(hx3.frozen (p:=⟨q,k,none⟩) ql2).trans fz2;have rk3:=(hx3.cell (p:=⟨q,k,none⟩) ql2).trans rk2;have ql3:=Qy ql2 hx3.size;have HV3:=Qq (HV.out.next HN.out HB.out.symm X3.out);rw [<-HQ.out]at HV3;go_wp2_with fail;refine hK.out _ _ ⟨xd zl z0,xd zl z4,xd zl z5,xd ql2 y0,xd ql2 y1⟩ (fun hHeld=> ?_);clear hK K;refine Qb ?_;refine utk 15 hHeld ?_;refine Pv (by kernel_rfl) rfl (fun K hK=> ?_);go_simp;refine hK.out _ _ ?_;clear hK K;refine Qb ?_;refine Ms (by kernel_rfl) ?_ _;go_wp2_with fail;go_roundw
   case rel=>exact⟨k+1,by go_num,by omega,Qq ⟨_,HV3.out⟩⟩
   case measure=>simp [intOf];omega
  obtain rfl:c.length=k:=by omega
  have HVV:=Qq (show(vs++List.replicate (c.length - c.length) false).getD (c.length - 1) false=Qqt leaf c by
   have h:=HV.out.rest;rw [List.drop_of_length_le (Nat.le_refl _)]at h;rw [Qqb];unfold Qqt;rw [<-h];rfl)
  have r0:=hqr.cell (j:=c.length - 1) (by rw [HRL.out];omega);rw [HVV.out]at r0;have e1:((c.length:Int) - 1).toNat=c.length - 1:=by omega
  have e2:(0:Int)<=(c.length:Int) - 1:=by omega
  have e3:(c.length:Int) - 1 < (c.length:Int):=by omega
  clear hqr;go_wp2_with fail;go_ret;exact⟨Qr rfl,HE.out⟩
theorem Cg {op:Int}(h:4<=op/\op<=8):Qw op=true:=by
 unfold Qw;rw [decide_eq_true h.1,decide_eq_true (show op<=21 by omega)];rfl
theorem Qjb {op:Int}(h:5<=op/\op<=8):Qa op=true:=by
 unfold Qa;rw [decide_eq_true h.1,decide_eq_true h.2];rfl
theorem Qsc(leaf:Nat->Bool)(n:Nd)(r:List Nd)(v:List Bool):Xc leaf (n :: r) v=Xc leaf r (v++ [Um leaf v n]):=rfl
theorem Wd {op:Int}(h:Xv op=false):op≠3/\op<=8:=by
 unfold Xv at h;rw [Bool.or_eq_false_iff]at h;have h1:=of_decide_eq_false h.2;exact⟨by simpa using h.1,by omega⟩
theorem Qjs {α:Type} {l:List α} {i:Nat} {x d:α}(h:i < l.length):(l.set i x).getD i d=x:=by
 rw [Qk,List.getElem?_set_self h];rfl
theorem Oz {α:Type} {l:List α} {i j:Nat} {x d:α}(h:i≠j):(l.set i x).getD j d=l.getD j d:=by
 rw [Qk,Qk,List.getElem?_set_ne h]
def ClL(c:List Nd)(s:List Bool×List Nat)(j:Nat):Prop :=
 (Xv (c.getD j Nd.zero).op=true->j∈s.2)/\(Xv (c.getD j Nd.zero).op=false->(4<=(c.getD j Nd.zero).op->s.1.getD (c.getD j Nd.zero).x.toNat false=true)/\(5<=(c.getD j Nd.zero).op->s.1.getD (c.getD j Nd.zero).y.toNat false=true))
structure Qmp (c:List Nd) (s s':List Bool×List Nat) (i:Nat):Prop where
 len:s'.1.length=s.1.length
 mono:∀j,s.1.getD j false=true->s'.1.getD j false=true
 at_:s'.1.getD i false=true
 new:∀j,s'.1.getD j false=true->s.1.getD j false=true\/ClL c s' j
 out:∀j∈s.2,j∈s'.2
 ok:(s.2.Nodup/\∀j∈s.2,j < c.length/\s.1.getD j false=true)->(s'.2.Nodup/\∀j∈s'.2,j < c.length/\s'.1.getD j false=true)
theorem ClL.mono {c:List Nd} {s s':List Bool×List Nat} {i j:Nat}(h:ClL c s j)(p:Qmp c s s' i):ClL c s' j :=
 ⟨fun a=>p.out j (h.1 a),fun a=>⟨fun b=>p.mono _ ((h.2 a).1 b),fun b=>p.mono _ ((h.2 a).2 b)⟩⟩
theorem Nz {c:List Nd}(hw:Wf c):∀(k i:Nat) (s:List Bool×List Nat),i < k->i < c.length->s.1.length=c.length->Qmp c s (Jn c k i s) i
 |0,i,s,h,_,_=>absurd h (Nat.not_lt_zero _)
 |k+1,i,s,hk,hi,hl=>by
  have hn:c[i]?=some (c.getD i Nd.zero):=by rw [Qk,Qv hi];rfl
  obtain⟨wx,wy⟩:=hw i _ hn;unfold Jn;cases hs:s.1.getD i false
  ·rw [cond_false];have m0:∀j,s.1.getD j false=true->(s.1.set i true).getD j false=true:=fun j hj=>by
    by_cases e:i=j
    ·subst e;rw [hs]at hj;cases hj
    rw [Oz e];exact hj
   have mi:(s.1.set i true).getD i false=true:=Qjs (by omega);have mn:∀j,(s.1.set i true).getD j false=true->s.1.getD j false=true\/j=i:=fun j hj=>by
    by_cases e:i=j
    ·exact .inr e.symm
    rw [Oz e]at hj;exact .inl hj
   have ml:(s.1.set i true).length=c.length:=by rw [List.length_set];exact hl
   cases ha:Xv (c.getD i Nd.zero).op
   ·rw [cond_false];by_cases h5:5<=(c.getD i Nd.zero).op
    ·have h8:=(Wd ha).2;rw [decide_eq_true h5,cond_true];have hx:=wx (Cg (by omega));have hy:=wy (Qjb (by omega));have p1:=Nz hw k (c.getD i Nd.zero).x.toNat (s.1.set i true,s.2) (by omega) (by omega) ml;have p2:=Nz hw k (c.getD i Nd.zero).y.toNat (Jn c k (c.getD i Nd.zero).x.toNat (s.1.set i true,s.2)) (by omega) (by omega) (p1.len.trans ml);refine⟨p2.len.trans (p1.len.trans (by rw [List.length_set])),fun j hj=>p2.mono j (p1.mono j (m0 j hj)),p2.mono i (p1.mono i mi),fun j hj=> ?_,fun j hj=>p2.out j (p1.out j hj),fun hok=>p2.ok (p1.ok ⟨hok.1,fun j hj=>⟨(hok.2 j hj).1,m0 j (hok.2 j hj).2⟩⟩)⟩
     rcases p2.new j hj with h|h
     ·rcases p1.new j h with h|h
      ·rcases mn j h with h|h
       ·exact .inl h
       subst h;exact .inr ⟨fun a=>(by rw [ha]at a;cases a),fun _=>⟨fun _=>p2.mono _ p1.at_,fun _=>p2.at_⟩⟩
      exact .inr (h.mono p2)
     exact .inr h
    rw [decide_eq_false h5,cond_false];have h8:=(Wd ha).2;by_cases h4:4<=(c.getD i Nd.zero).op
    ·rw [decide_eq_true h4,cond_true];have hx:=wx (Cg (by omega));have p1:=Nz hw k (c.getD i Nd.zero).x.toNat (s.1.set i true,s.2) (by omega) (by omega) ml;refine⟨p1.len.trans (by rw [List.length_set]),fun j hj=>p1.mono j (m0 j hj),p1.mono i mi,fun j hj=> ?_,fun j hj=>p1.out j hj,fun hok=>p1.ok ⟨hok.1,fun j hj=>⟨(hok.2 j hj).1,m0 j (hok.2 j hj).2⟩⟩⟩;rcases p1.new j hj with h|h
     ·rcases mn j h with h|h
      ·exact .inl h
      subst h;exact .inr ⟨fun a=>(by rw [ha]at a;cases a),fun _=>⟨fun _=>p1.at_,fun a=>absurd a h5⟩⟩
     exact .inr h
    rw [decide_eq_false h4,cond_false];refine⟨by rw [List.length_set],m0,mi,fun j hj=> ?_,fun j hj=>hj,fun hok=>⟨hok.1,fun j hj=>⟨(hok.2 j hj).1,m0 j (hok.2 j hj).2⟩⟩⟩;rcases mn j hj with h|h
    ·exact .inl h
    subst h;exact .inr ⟨fun a=>(by rw [ha]at a;cases a),fun _=>⟨fun a=>absurd a h4,fun a=>absurd a h5⟩⟩
   rw [cond_true];refine⟨by rw [List.length_set],m0,mi,fun j hj=> ?_,fun j hj=>List.mem_append_left _ hj,fun hok=>⟨?_,fun j hj=> ?_⟩⟩
   ·rcases mn j hj with h|h
    ·exact .inl h
    subst h;exact .inr ⟨fun _=>List.mem_append_right _ (List.mem_singleton_self _),fun a=>(by rw [ha]at a;cases a)⟩
   ·rw [List.nodup_append];refine⟨hok.1,List.nodup_cons.2 ⟨List.not_mem_nil,List.nodup_nil⟩,fun a h b hb e=> ?_⟩;rw [List.mem_singleton]at hb;subst hb e;have:=(hok.2 _ h).2;rw [hs]at this;cases this
   rcases List.mem_append.1 hj with h|h
   ·exact⟨(hok.2 j h).1,m0 j (hok.2 j h).2⟩
   rw [List.mem_singleton]at h;subst h;exact⟨hi,mi⟩
  rw [cond_true];exact⟨rfl,fun j hj=>hj,hs,fun j hj=> .inl hj,fun j hj=>hj,fun hok=>hok⟩
theorem Qxb:∀(l:List Nat) (k:Nat) (a:List Nat),(Nf l k a).length=a.length
 |[],_,_=>rfl
 |i :: r,k,a=>by
  unfold Nf;rw [Qxb r,List.length_set]
theorem Qg8:∀(l:List Nat) (k:Nat) (a:List Nat) (B:Nat),(∀j,a.getD j 0 < B)->k+l.length<=B->∀j,(Nf l k a).getD j 0 < B
 |[],_,_,_,h,_,j=>h j
 |i :: r,k,a,B,h,hb,j=>by
  unfold Nf;refine Qg8 r (k+1) _ B (fun m=> ?_) (by simp at hb;omega) j;by_cases e:i=m
  ·subst e;by_cases hi:i < a.length
   ·rw [Qjs hi];simp at hb;omega
   rw [List.set_eq_of_length_le (by omega)];exact h i
  rw [Oz e];exact h m
theorem Qr8 {c:List Nd}(hc:Qs c=0):∀j∈Gb c,j < c.length:=by
 have hpos:=(Zk hc).1;have P:=Nz (Jq hc) c.length (c.length - 1) (List.replicate c.length false,[]) (by omega) (by omega) (by simp);obtain⟨_,hout⟩:=P.ok ⟨List.nodup_nil,fun j hj=>(List.not_mem_nil hj).elim⟩;exact fun j hj=>(hout j hj).1
theorem Qg2 {w:World} {base:Nat} {A:Option Addr} {n c:Nat} {l:List Nat}(h:w.ownsRow base 3 1 (.slice A n c) l.length (l.map fun(i:Nat)=>Value.int .i64 (i:Int))):n=l.length/\l.length<=c/\c<=9223372036854775807/\(l≠ []->∃ad,A=some ad/\ad.block < w.heap.size/\∀k z:Nat,l[k]?=some z->w.cell? (ad.add k)=some (.int .i64 (z:Int))):=by
 rcases h.2 with⟨e,h0⟩|⟨g,cap,cur,e,_,hg,hnc,hm,hs,ht⟩
 ·injection e with e1 e2 e3;subst e1 e2 e3;refine⟨h0.symm,by omega,by omega,fun hne=>absurd (List.length_eq_zero_iff.1 h0) hne⟩
 injection e with e1 e2 e3;subst e1 e2 e3;unfold maxLen at hm;refine⟨rfl,hnc,by omega,fun _=>⟨_,rfl,Qm hg,fun k z hk=> ?_⟩⟩;rw [Xs];have h1:(l.map fun(i:Nat)=>Value.int .i64 (i:Int))[k]?=some (.int .i64 (z:Int)):=by rw [List.getElem?_map,hk];rfl
 rw [<-ht,List.getElem?_take]at h1
 split at h1
 ·have h2:cur[k]?=some (.int .i64 (z:Int)):=by simpa using h1
  simp [World.cell?,hg,h2]
 cases h1
theorem Qmi:(Tryz.prog.info? 3).map (fun i=>(i.zero,i.size,i.bytes))=some (some (.int .i64 0),1,8):=by kernel_rfl
structure NbS (w wr:World) (b g:Nat) (nums:List Nat):Prop where
 ext:Ext w wr
 box:wr.heap[b]?=some (.cells #[.slice (some ⟨g,0,none⟩) nums.length nums.length] 60 (0,0))
 row:Dp w.heap.size wr g nums
 ne:b≠g
 lo:w.heap.size<=b
theorem NbS.set {w wr:World} {b g:Nat} {nums:List Nat}(h:NbS w wr b g nums)(j s:Nat):NbS w (wr.setCell ⟨g,j,none⟩ (.int .i64 (s:Int))) b g (nums.set j s):=
 ⟨h.ext.setCell h.row.lt.1 _,by rw [List.length_set];exact(Below.heap_setCell _ _ _ _ h.ne).trans h.box,h.row.set j s,h.ne,h.lo⟩
theorem NbS.ext_ {w wr w':World} {b g:Nat} {nums:List Nat}(h:NbS w wr b g nums)(he:Ext wr w'):NbS w w' b g nums :=
 ⟨h.ext.trans he,(he.block (Qm h.box)).trans h.box,h.row.ext he,h.ne,h.lo⟩
theorem Qhs {l:List Nat} {k i:Nat}(h:l[k]?=some i)(a:List Nat):Nf (l.drop k) k a=Nf (l.drop (k+1)) (k+1) (a.set i k):=by
 have hk:=(List.getElem?_eq_some_iff.1 h).1;rw [List.drop_eq_getElem_cons hk];rw [Qv hk]at h;injection h with h;rw [h];rfl
theorem Qt4(n:Nat)(h:n<=10):wrap64 ((2:Int)^n)=((2^n:Nat):Int):=by
 have e:∀k:Fin 11,wrap64 ((2:Int)^k.val)=((2^k.val:Nat):Int):=by decide+kernel
 exact e ⟨n,by omega⟩
def Mc(f:List Nd):Int:=bif decide (10 < (Gb (Qf f)).length)then 8 else 0
theorem Qmx {w:World} {v:Value} {f:List Nd}(h:Fml w v f)(hck:Qs f=0):
 Calls Tryz.prog 166 #[v] w fun e w'=>e=.returned (.tuple #[.bool (Bj (Qf f)),.int .i64 (Mc f)])/\Ext w w':=by
 have H:=Qq h;have HCK:=Qq hck;obtain⟨A,c0,rfl,_⟩:=Qg h;obtain⟨i3,hi3,hz30,hz31,hz32⟩:=info_parts Qmi;obtain⟨iB,hiB,hzB0,hzB1,hzB2⟩:=info_parts Qfs;have hcc:=Ke hck;obtain⟨c,hcl⟩:∃z,z=Qf f:=⟨_,rfl⟩;have HCL:=Qq hcl;rw [<-hcl]at hcc⊢;have hpos:=(Zk hcc).1;have hlen:=(Zk hcc).2.1;have HCC:=Qq hcc;clear h hck hcc;have HT:=Qq (show Mc f=bif decide (10 < (Gb c).length)then 8 else 0 by unfold Mc;rw [hcl]);clear hcl;go_enter Tryz.func166,Tryz.ntmps166;go_wp2_with fail;refine(Je _ f _ H.out.1).mono ?_;rintro e w1 ⟨rfl,hx⟩;rw [HCK.out];have S1:=Qq hx
 clear hx;go_wp2_with fail;refine(Vy _ f _ (H.out.ext S1.out)).mono ?_;rintro e w2 ⟨u,rfl,hm⟩;rw [<-HCL.out]at hm;have S2:=Qq (S1.out.trans hm.ext);have HC:=Qq hm.fml;obtain⟨Ac,cc,rfl,_⟩:=Qg hm.fml;have e1:((c.length:Int) - 1)=((c.length - 1:Nat):Int):=by omega
 clear hm;go_wp2_with(refine wpList_make_full _ rfl _ _ 103 rfl w2.heap.size 4 iB (.bool false) 1 Tryz.underlying103 hiB hzB0 hzB1 .i64 .i64 _ _ c.length rfl rfl rfl rfl (by rw [hzB2];omega) (by unfold maxLen;omega) (by simp) ?_);intro W1 hrow1 hgr1;have HR1:=Qq (show LvR w2 W1 w2.heap.size (.slice none 0 0) (List.replicate c.length false,[])from⟨(Ext.refl w2).grown hgr1 (fun k e=>by cases e),by
  have h1:=hrow1;rw [Mf]at h1;unfold Xg;rw [List.length_replicate];exact h1,World.ownsRow_nil _ _ _ _,fun e=>by cases e⟩)
 clear hrow1 hgr1;obtain⟨q,hq⟩:∃q,q=w2.heap.size:=⟨_,rfl⟩;rw [<-hq]at HR1⊢;clear hq;have HLV:=Qq (Qz2 HC.out HCC.out c.length (c.length - 1) (List.replicate c.length false,[]) W1 q (.slice none 0 0) (by omega) (by omega) (by simp) (Nat.zero_le _) HR1.out);go_wp2_with fail;refine HLV.out.mono ?_;rintro e w3 ⟨vo,rfl,hR3,-,-,-⟩;have S3:=Qq (S2.out.trans hR3.ext);have E3:=Qq hR3.ext;have hrow:=hR3.out;obtain⟨l,hl⟩:∃z,z=Gb c:=⟨_,rfl⟩;have HL:=Qq hl;have hlt:=Qr8 HCC.out;rw [show(Jn c c.length (c.length - 1) (List.replicate c.length false,[])).2=l from hl.symm]at hrow;rw [<-hl]at hlt HT
 have HLT:=Qq hlt;obtain⟨Al,cl,rfl⟩:=Zq hrow;obtain⟨-,hl1,hl2,hl3⟩:=Qg2 hrow;have HLR:=Qq hl3;clear hR3 hrow hl hlt hl3 HLV HR1;by_cases h10:10 < l.length
 ·have h10i:(10:Int) < (l.length:Int):=by omega
  have HN:=Qq (show Bj c=false by unfold Bj;rw [<-HL.out,decide_eq_true h10];rfl);have HE:=Qq (show Mc f=8 by rw [HT.out,decide_eq_true h10];rfl);clear h10;go_wp2_with fail;go_ret2;exact⟨by rw [HN.out,HE.out] <;> rfl,S3.out⟩
 have h10i:¬(10:Int) < (l.length:Int):=by omega
 have hl10:l.length<=10:=by omega
 have HTN:=Qq (show Bj c=(List.range (2^l.length)).all fun v=>Qqt (Di v (Dh c)) c by unfold Bj;rw [<-HL.out,decide_eq_false h10];rfl);have HE:=Qq (show Mc f=0 by rw [HT.out,decide_eq_false h10];rfl);have HN64:=Qq (show ∀j,(Dh c).getD j 0 < 64 by
  unfold Dh;refine Qg8 _ _ _ 64 (fun j=> ?_) (by rw [<-HL.out];omega);rw [Qk,List.getElem?_replicate]
  split <;> simp)
 have HNL:=Qq (show(Dh c).length=c.length by unfold Dh;rw [Qxb];simp);have HN0:=Qq (show Dh c=Nf l 0 (List.replicate c.length 0) by unfold Dh;rw [<-HL.out]);obtain⟨nn,hnn⟩:∃z,z=Dh c:=⟨_,rfl⟩;rw [<-hnn]at HTN HN64 HNL HN0;clear h10 hnn;go_wp2_with(refine wpList_make_full _ rfl _ _ 60 rfl w3.heap.size 3 i3 (.int .i64 0) 1 Tryz.underlying60 hi3 hz30 hz31 .i64 .i64 _ _ c.length rfl rfl rfl rfl (by rw [hz32];omega) (by unfold maxLen;omega) (by simp) ?_);intro W2 hrow2 hgr2;have hW2:Ext w3 W2:=(Ext.refl w3).grown hgr2 (fun k e=>by cases e);have hNR:Dp w3.heap.size W2 w3.heap.size (List.replicate c.length 0):=by
  have h1:=hrow2;rw [Qx1]at h1;unfold Dp;rw [List.length_replicate];exact h1
 have HB0:=Qq (show NbS w3 (W2.alloc (.cells #[.slice (some ⟨w3.heap.size,0,none⟩) c.length c.length] 60)) W2.heap.size w3.heap.size (List.replicate c.length 0)from
  ⟨hW2.alloc _,by rw [List.length_replicate];exact heap_alloc_new W2 _,hNR.ext (Qz.alloc _),by have:=hNR.lt.2;omega,hW2.size⟩)
 clear hrow2 hgr2 hW2 hNR;obtain⟨b,hb⟩:∃b,b=W2.heap.size:=⟨_,rfl⟩;obtain⟨g,hg⟩:∃g,g=w3.heap.size:=⟨_,rfl⟩;rw [<-hg]at HB0⊢;rw [<-hb]at HB0;go_wp2_with fail;rw [<-hb,<-hg];clear hb hg;go_loopw [8,9,34] (fun _ _ vi wr=>∃k:Nat,vi=.int .i64 (k:Int)/\k<=l.length/\Hid (∃a:List Nat,a.length=c.length/\Nf (l.drop k) k a=nn/\NbS w3 wr b g a)) (fun _ _ v _=>l.length - (intOf v).toNat)
 case atStart=>exact⟨0,rfl,Nat.zero_le _,Qq ⟨_,by simp,HN0.out.symm,HB0.out⟩⟩
 case round =>
  obtain⟨k,rfl,hk,HREL⟩:=hrel;obtain⟨a,hal,hag,hbs⟩:=HREL.out;have HB:=Qq hbs;have HAL:=Qq hal;have HAG:=Qq hag;obtain⟨z0,zfr,zlt⟩:=Qvi hbs.box;rw [hal]at z0;clear HREL hal hag;by_cases hlt2:k < l.length
  ·have hk1:(k:Int) < (l.length:Int):=by omega
   obtain⟨ad,rfl,hdl,hda⟩:=HLR.out (by intro e;rw [e]at hlt2;simp at hlt2);obtain⟨x,hx⟩:∃x,l[k]?=some x:=⟨_,Qv hlt2⟩;have hxc:=HLT.out x (List.mem_of_getElem? hx);have hu:=(hbs.ext.cell (p:=ad.add k) (Qj hdl)).trans (hda k x hx);have hxi:(x:Int) < (c.length:Int):=by omega
   have rk:=hbs.row.cell (j:=x) (by rw [HAL.out];exact hxc);have rf:=hbs.row.frozen x;have HG:=Qq ((Qhs hx a).symm.trans HAG.out);have HB2:=Qq (hbs.set x k);clear hda hx hbs;go_wp2_with fail;go_roundw
   case rel=>exact⟨k+1,by go_num,by omega,Qq ⟨_,by rw [List.length_set];exact HAL.out,HG.out,HB2.out⟩⟩
   case measure=>simp [intOf];omega
  obtain rfl:l.length=k:=by omega
  obtain rfl:a=nn:=by
   have h:=HAG.out;rw [List.drop_of_length_le (Nat.le_refl _)]at h;exact h
  have hp10:(2:Nat)^l.length<=1024:=Nat.pow_le_pow_right (by decide) hl10;have hw:=Qt4 l.length hl10;obtain⟨pn,hpn⟩:∃z:Nat,z=2^l.length:=⟨_,rfl⟩;rw [<-hpn]at hw hp10 HTN;clear hbs z0 zfr zlt hpn;go_wp2_with fail;rw [hw];clear hw;obtain⟨wo,hwo⟩:∃v,v=wr:=⟨_,rfl⟩;subst hwo;go_loopw [10,47] (fun _ vi wr=>∃k:Nat,vi=.int .i64 (k:Int)/\k<=pn/\Hid (Ext wo wr)/\Hid (∀v,v < k->Qqt (Di v a) c=true)) (fun _ v _=>pn - (intOf v).toNat)
  case atStart=>exact⟨0,rfl,Nat.zero_le _,Qq Qz,Qq (fun v hv=>absurd hv (Nat.not_lt_zero _))⟩
  case round =>
   obtain⟨k,rfl,hk,HX,HA⟩:=hrel;have SR:=Qq (S3.out.trans (HB.out.ext.trans HX.out));by_cases hlt2:k < pn
   ·have hk1:(k:Int) < (pn:Int):=by omega
    have HBR:=Qq (HB.out.ext_ HX.out);have X1:=Qq ((Ext.refl wr).alloc (.cells #[.int .i64 (k:Int)] 3))
    have HLF:=Qq (show Qjk (wr.alloc (.cells #[.int .i64 (k:Int)] 3)) wr.heap.size b g k a from
     ⟨(Qvi (heap_alloc_new wr (.cells #[.int .i64 (k:Int)] 3))).1,(Qvi (HBR.out.ext_ X1.out).box).1,fun j hj=>(HBR.out.ext_ X1.out).row.cell hj⟩)
    obtain⟨rv,hrv⟩:∃z,z=Qqt (Di k a) c:=⟨_,rfl⟩;have HRV:=Qq hrv;clear hrv;go_wp2_with fail;refine(Qn0 (HC.out.ext ((E3.out.trans (HB.out.ext.trans HX.out)).trans X1.out)) HCC.out HLF.out (by omega) HN64.out HNL.out).mono ?_;rintro e w5 ⟨rfl,hx⟩;rw [<-HRV.out];have HX5:=Qq (HX.out.trans (X1.out.trans hx));have S5:=Qq (SR.out.trans (X1.out.trans hx));clear hx;cases rv
    ·have HN:=Qq (show Bj c=false by
      rw [HTN.out,List.all_eq_false];exact⟨k,List.mem_range.2 hlt2,by rw [<-HRV.out];decide⟩)
     go_wp2_with fail;go_ret2;exact⟨by rw [HN.out,HE.out] <;> rfl,S5.out⟩
    go_wp2_with fail;go_roundw
    case rel=>exact⟨k+1,by go_num,by omega,HX5,Qq (fun v hv=>by
     by_cases e:v < k
     ·exact HA.out v e
     obtain rfl:v=k:=by omega
     exact HRV.out.symm)⟩
    case measure=>simp [intOf];omega
   obtain rfl:pn=k:=by omega
   have HN:=Qq (show Bj c=true by
    rw [HTN.out,List.all_eq_true];exact fun v hv=>HA.out v (List.mem_range.1 hv))
   go_wp2_with fail;go_ret2;exact⟨by rw [HN.out,HE.out] <;> rfl,SR.out⟩
theorem Qbh {P:Program} {fn:Func} {a b c:Tmp}(h:fn.results=#[.tmp a,.tmp b,.tmp c])(tmps:Array Value)(w:World):(results fn tmps).run P w=.ok (.tuple #[tmps.getD a undef,tmps.getD b undef,tmps.getD c undef]) w:=by
 simp [results,h]
theorem Rm {w:World} {v:Value} {f:List Nd}(h:Fml w v f):
 Calls Tryz.prog 167 #[v] w fun e w'=>∃u,e=.returned (.tuple #[.int .i64 (Qt f).i,u,.bool ((Qt f).op==9)])/\Ext w w'/\Fml w' u (Ql f):=by
 have HF:=Qq h;obtain⟨A,c,rfl,_⟩:=Qg h;clear h;go_enter Tryz.func167,Tryz.ntmps167;go_wp2_with fail;refine(Vl (HF.out.ext (xw))).mono ?_;rintro e w1 ⟨ua,ub,rfl,hx,h1,h2⟩;have S1:=Qq (show Ext w w1 from xt hx);have HA:=Qq h1;have HB:=Qq h2;obtain⟨AHA,cHA,rfl,_⟩:=Qg h1;obtain⟨AHB,cHB,rfl,_⟩:=Qg h2;clear hx h1 h2;unfold Nd.val;go_wp2_with fail;go_quiet (fail);go_wp2_with fail;refine bodyPost_ret (Qbh Tryz.results167 _ _) rfl ?_;exact⟨_,rfl,S1.out.trans ((Qz.alloc _).drewN _),HA.out.ext ((Qz.alloc _).drewN _)⟩
theorem Qcf(i:Int)(w:World)(v:Value)(f:List Nd)(_:Jc i)(h:Fml w v f):Calls Tryz.prog 157 #[.int .i64 i,v] w fun e w'=>∃u,e=.returned u/\Ext w w'/\Fml w' u (toT i f):=by
 have HF:=Qq h;obtain⟨A,c,rfl,_⟩:=Qg h;clear h;go_enter Tryz.func157,Tryz.ntmps157;go_wp2_with fail;go_ret;exact⟨_,rfl,Qz,HF.out⟩
theorem Qm5(i:Int)(w:World)(v:Value)(f:List Nd)(hi:Jc i)(h:Fml w v f):Calls Tryz.prog 159 #[.int .i64 i,v] w fun e w'=>∃u,e=.returned u/\Ext w w'/\Fml w' u (to4 i f):=by
 have HF:=Qq h;obtain⟨A,c,rfl,_⟩:=Qg h;clear h;go_enter Tryz.func159,Tryz.ntmps159;go_wp2_with fail;refine(Xn i hi _ _ _ (HF.out.ext (xw))).mono ?_;rintro e w1 ⟨u,rfl,hm⟩;have S1:=Qq (show Ext w w1 from xt hm.ext);have HK:=Qq hm.fml;obtain⟨AHK,cHK,rfl,_⟩:=Qg hm.fml;clear hm;go_wp2_with fail;refine(Xn i hi _ _ _ (HK.out.ext (xw))).mono ?_;rintro e w2 ⟨u,rfl,hm⟩;have S2:=Qq (show Ext w1 w2 from xt hm.ext);have HL:=Qq hm.fml;obtain⟨AHL,cHL,rfl,_⟩:=Qg hm.fml;clear hm;go_wp2_with fail;go_ret;exact⟨_,rfl,S1.out.trans S2.out,HL.out⟩
theorem Qck(i:Int)(w:World)(v:Value)(f:List Nd)(hi:Jc i)(h:Fml w v f):Calls Tryz.prog 162 #[.int .i64 i,v] w fun e w'=>∃u,e=.returned u/\Ext w w'/\Fml w' u (toD i f):=by
 have HF:=Qq h;obtain⟨A,c,rfl,_⟩:=Qg h;clear h;go_enter Tryz.func162,Tryz.ntmps162;go_wp2_with fail;refine(Gg _ _ _ (HF.out.ext (xw))).mono ?_;rintro e w1 ⟨u,rfl,hm⟩;have S1:=Qq (show Ext w w1 from xt hm.ext);have HK:=Qq hm.fml;obtain⟨AHK,cHK,rfl,_⟩:=Qg hm.fml;clear hm;go_wp2_with fail;refine(Xn i hi _ _ _ (HK.out.ext (xw))).mono ?_;rintro e w2 ⟨u,rfl,hm⟩;have S2:=Qq (show Ext w1 w2 from xt hm.ext);have HL:=Qq hm.fml;obtain⟨AHL,cHL,rfl,_⟩:=Qg hm.fml;clear hm;go_wp2_with fail;refine(Gg _ _ _ (HL.out.ext (xw))).mono ?_;rintro e w3 ⟨u,rfl,hm⟩;have S3:=Qq (show Ext w2 w3 from xt hm.ext)
 have HM:=Qq hm.fml;obtain⟨AHM,cHM,rfl,_⟩:=Qg hm.fml;clear hm;go_wp2_with fail;go_ret;exact⟨_,rfl,S1.out.trans (S2.out.trans S3.out),HM.out⟩
theorem Qke {w:World} {v:Value} {f:List Nd}(h:Fml w v f):
 Calls Tryz.prog 156 #[v,.func (.func 157) #[] #[]] w fun e w'=>e=.returned (.bool (Jr toT f))/\Ext w w':=by
 have HF:=Qq h;obtain⟨A,c,rfl,_⟩:=Qg h;clear h;go_enter Tryz.func156,Tryz.ntmps156;go_wp2_with fail;refine(Vl (HF.out.ext (xw))).mono ?_;rintro e w1 ⟨ua,ub,rfl,hx,h1,h2⟩;have S1:=Qq (show Ext w w1 from xt hx);have HA:=Qq h1;have HB:=Qq h2;obtain⟨AHA,cHA,rfl,_⟩:=Qg h1;obtain⟨AHB,cHB,rfl,_⟩:=Qg h2;clear hx h1 h2;unfold Nd.val;go_wp2_with fail;refine(Rm (HA.out.ext (xw))).mono ?_;rintro e w2 ⟨ua,rfl,hx,h1⟩;have S2:=Qq (show Ext w1 w2 from xt hx);have HX:=Qq h1;obtain⟨AHX,cHX,rfl,_⟩:=Qg h1;clear hx h1;cases hop:((Qt (Ql f)).op==9)
 ·have HE:=Qq (show Jr toT f=false by unfold Jr;rw [hop];rfl);go_wp2_with fail;go_ret;exact⟨Qr HE.out.symm,S1.out.trans S2.out⟩
 have HE:=Qq (show Jr toT f=Yb f (Ya (Ql f) (toT (Qt (Ql f)).i (Ql (Ql f)))) by unfold Jr;rw [hop];rfl);have HI:=Qq (Rq HA.out).2.1;go_wp2_with fail;refine(Qcf _ _ _ _ HI.out (HX.out.ext (xw))).mono ?_;rintro e w3 ⟨ut,rfl,hx,h1⟩;have S3:=Qq (show Ext w2 w3 from xt hx);have HTO:=Qq h1;obtain⟨AHTO,cHTO,rfl,_⟩:=Qg h1;clear hx h1;go_wp2_with fail;refine(Kq _ _ _ _ _ (HA.out.ext (S2.out.trans (S3.out.trans xw))) (HTO.out.ext (xw))).mono ?_;rintro e w4 ⟨u,rfl,hm⟩;have S4:=Qq (show Ext w3 w4 from xt hm.ext);have HM:=Qq hm.fml;obtain⟨AHM,cHM,rfl,_⟩:=Qg hm.fml
 clear hm;go_wp2_with fail;refine(Xz _ _ _ _ _ (HF.out.ext (S1.out.trans (S2.out.trans (S3.out.trans (S4.out.trans xw))))) (HM.out.ext (xw))).mono ?_;rintro e w5 ⟨rfl,hx⟩;have S5:=Qq (show Ext w4 w5 from xt hx);clear hx;go_wp2_with fail;go_ret;exact⟨Qr HE.out.symm,S1.out.trans (S2.out.trans (S3.out.trans (S4.out.trans S5.out)))⟩
theorem Qfn {w:World} {v:Value} {f:List Nd}(h:Fml w v f):
 Calls Tryz.prog 155 #[v] w fun e w'=>e=.returned (.bool (Jr toT f))/\Ext w w':=by
 have HF:=Qq h;obtain⟨A,c,rfl,_⟩:=Qg h;clear h;go_enter Tryz.func155,Tryz.ntmps155;go_wp2_with fail;refine(Qke (HF.out.ext (xw))).mono ?_;rintro e w1 ⟨rfl,hx⟩;have S1:=Qq (show Ext w w1 from xt hx);clear hx;go_wp2_with fail;go_ret;exact⟨rfl,S1.out⟩
theorem Qxv {w:World} {v:Value} {f:List Nd}(h:Fml w v f):
 Calls Tryz.prog 156 #[v,.func (.func 159) #[] #[]] w fun e w'=>e=.returned (.bool (Jr to4 f))/\Ext w w':=by
 have HF:=Qq h;obtain⟨A,c,rfl,_⟩:=Qg h;clear h;go_enter Tryz.func156,Tryz.ntmps156;go_wp2_with fail;refine(Vl (HF.out.ext (xw))).mono ?_;rintro e w1 ⟨ua,ub,rfl,hx,h1,h2⟩;have S1:=Qq (show Ext w w1 from xt hx);have HA:=Qq h1;have HB:=Qq h2;obtain⟨AHA,cHA,rfl,_⟩:=Qg h1;obtain⟨AHB,cHB,rfl,_⟩:=Qg h2;clear hx h1 h2;unfold Nd.val;go_wp2_with fail;refine(Rm (HA.out.ext (xw))).mono ?_;rintro e w2 ⟨ua,rfl,hx,h1⟩;have S2:=Qq (show Ext w1 w2 from xt hx);have HX:=Qq h1;obtain⟨AHX,cHX,rfl,_⟩:=Qg h1;clear hx h1;cases hop:((Qt (Ql f)).op==9)
 ·have HE:=Qq (show Jr to4 f=false by unfold Jr;rw [hop];rfl);go_wp2_with fail;go_ret;exact⟨Qr HE.out.symm,S1.out.trans S2.out⟩
 have HE:=Qq (show Jr to4 f=Yb f (Ya (Ql f) (to4 (Qt (Ql f)).i (Ql (Ql f)))) by unfold Jr;rw [hop];rfl);have HI:=Qq (Rq HA.out).2.1;go_wp2_with fail;refine(Qm5 _ _ _ _ HI.out (HX.out.ext (xw))).mono ?_;rintro e w3 ⟨ut,rfl,hx,h1⟩;have S3:=Qq (show Ext w2 w3 from xt hx);have HTO:=Qq h1;obtain⟨AHTO,cHTO,rfl,_⟩:=Qg h1;clear hx h1;go_wp2_with fail;refine(Kq _ _ _ _ _ (HA.out.ext (S2.out.trans (S3.out.trans xw))) (HTO.out.ext (xw))).mono ?_;rintro e w4 ⟨u,rfl,hm⟩;have S4:=Qq (show Ext w3 w4 from xt hm.ext);have HM:=Qq hm.fml;obtain⟨AHM,cHM,rfl,_⟩:=Qg hm.fml
 clear hm;go_wp2_with fail;refine(Xz _ _ _ _ _ (HF.out.ext (S1.out.trans (S2.out.trans (S3.out.trans (S4.out.trans xw))))) (HM.out.ext (xw))).mono ?_;rintro e w5 ⟨rfl,hx⟩;have S5:=Qq (show Ext w4 w5 from xt hx);clear hx;go_wp2_with fail;go_ret;exact⟨Qr HE.out.symm,S1.out.trans (S2.out.trans (S3.out.trans (S4.out.trans S5.out)))⟩
theorem Qfv {w:World} {v:Value} {f:List Nd}(h:Fml w v f):
 Calls Tryz.prog 158 #[v] w fun e w'=>e=.returned (.bool (Jr to4 f))/\Ext w w':=by
 have HF:=Qq h;obtain⟨A,c,rfl,_⟩:=Qg h;clear h;go_enter Tryz.func158,Tryz.ntmps158;go_wp2_with fail;refine(Qxv (HF.out.ext (xw))).mono ?_;rintro e w1 ⟨rfl,hx⟩;have S1:=Qq (show Ext w w1 from xt hx);clear hx;go_wp2_with fail;go_ret;exact⟨rfl,S1.out⟩
theorem Qvc {w:World} {v:Value} {f:List Nd}(h:Fml w v f):
 Calls Tryz.prog 156 #[v,.func (.func 162) #[] #[]] w fun e w'=>e=.returned (.bool (Jr toD f))/\Ext w w':=by
 have HF:=Qq h;obtain⟨A,c,rfl,_⟩:=Qg h;clear h;go_enter Tryz.func156,Tryz.ntmps156;go_wp2_with fail;refine(Vl (HF.out.ext (xw))).mono ?_;rintro e w1 ⟨ua,ub,rfl,hx,h1,h2⟩;have S1:=Qq (show Ext w w1 from xt hx);have HA:=Qq h1;have HB:=Qq h2;obtain⟨AHA,cHA,rfl,_⟩:=Qg h1;obtain⟨AHB,cHB,rfl,_⟩:=Qg h2;clear hx h1 h2;unfold Nd.val;go_wp2_with fail;refine(Rm (HA.out.ext (xw))).mono ?_;rintro e w2 ⟨ua,rfl,hx,h1⟩;have S2:=Qq (show Ext w1 w2 from xt hx);have HX:=Qq h1;obtain⟨AHX,cHX,rfl,_⟩:=Qg h1;clear hx h1;cases hop:((Qt (Ql f)).op==9)
 ·have HE:=Qq (show Jr toD f=false by unfold Jr;rw [hop];rfl);go_wp2_with fail;go_ret;exact⟨Qr HE.out.symm,S1.out.trans S2.out⟩
 have HE:=Qq (show Jr toD f=Yb f (Ya (Ql f) (toD (Qt (Ql f)).i (Ql (Ql f)))) by unfold Jr;rw [hop];rfl);have HI:=Qq (Rq HA.out).2.1;go_wp2_with fail;refine(Qck _ _ _ _ HI.out (HX.out.ext (xw))).mono ?_;rintro e w3 ⟨ut,rfl,hx,h1⟩;have S3:=Qq (show Ext w2 w3 from xt hx);have HTO:=Qq h1;obtain⟨AHTO,cHTO,rfl,_⟩:=Qg h1;clear hx h1;go_wp2_with fail;refine(Kq _ _ _ _ _ (HA.out.ext (S2.out.trans (S3.out.trans xw))) (HTO.out.ext (xw))).mono ?_;rintro e w4 ⟨u,rfl,hm⟩;have S4:=Qq (show Ext w3 w4 from xt hm.ext);have HM:=Qq hm.fml;obtain⟨AHM,cHM,rfl,_⟩:=Qg hm.fml
 clear hm;go_wp2_with fail;refine(Xz _ _ _ _ _ (HF.out.ext (S1.out.trans (S2.out.trans (S3.out.trans (S4.out.trans xw))))) (HM.out.ext (xw))).mono ?_;rintro e w5 ⟨rfl,hx⟩;have S5:=Qq (show Ext w4 w5 from xt hx);clear hx;go_wp2_with fail;go_ret;exact⟨Qr HE.out.symm,S1.out.trans (S2.out.trans (S3.out.trans (S4.out.trans S5.out)))⟩
theorem Qg7 {w:World} {v:Value} {f:List Nd}(h:Fml w v f):
 Calls Tryz.prog 161 #[v] w fun e w'=>e=.returned (.bool (Jr toD f))/\Ext w w':=by
 have HF:=Qq h;obtain⟨A,c,rfl,_⟩:=Qg h;clear h;go_enter Tryz.func161,Tryz.ntmps161;go_wp2_with fail;refine(Qvc (HF.out.ext (xw))).mono ?_;rintro e w1 ⟨rfl,hx⟩;have S1:=Qq (show Ext w w1 from xt hx);clear hx;go_wp2_with fail;go_ret;exact⟨rfl,S1.out⟩
theorem Qk0 {w:World} {v:Value} {f:List Nd}(h:Fml w v f):
 Calls Tryz.prog 154 #[v] w fun e w'=>e=.returned (.bool (Rb f))/\Ext w w':=by
 have HF:=Qq h;obtain⟨A,c,rfl,_⟩:=Qg h;clear h;go_enter Tryz.func154,Tryz.ntmps154;go_wp2_with fail;refine(Vl (HF.out.ext (xw))).mono ?_;rintro e w1 ⟨ua,ub,rfl,hx,h1,h2⟩;have S1:=Qq (show Ext w w1 from xt hx);have HA:=Qq h1;have HB:=Qq h2;obtain⟨AHA,cHA,rfl,_⟩:=Qg h1;obtain⟨AHB,cHB,rfl,_⟩:=Qg h2;clear hx h1 h2;unfold Nd.val;go_wp2_with fail;refine(Rm (HA.out.ext (xw))).mono ?_;rintro e w2 ⟨ua,rfl,hx,h1⟩;have S2:=Qq (show Ext w1 w2 from xt hx);have HG:=Qq h1;obtain⟨AHG,cHG,rfl,_⟩:=Qg h1;clear hx h1;cases hop:((Qt (Ql f)).op==9)
 ·have HE:=Qq (show Rb f=false by unfold Rb;rw [hop];rfl);go_wp2_with fail;go_ret;exact⟨Qr HE.out.symm,S1.out.trans S2.out⟩
 have HI:=Qq (Rq HA.out).2.1;go_wp2_with fail;refine(Vl (HG.out.ext (xw))).mono ?_;rintro e w3 ⟨ua,ub,rfl,hx,h1,h2⟩;have S3:=Qq (show Ext w2 w3 from xt hx);have HP:=Qq h1;have HQ:=Qq h2;obtain⟨AHP,cHP,rfl,_⟩:=Qg h1;obtain⟨AHQ,cHQ,rfl,_⟩:=Qg h2;clear hx h1 h2;unfold Nd.val;cases hoq:((Qt (Ql (Ql f))).op==7)
 ·have HE:=Qq (show Rb f=false by unfold Rb;rw [hop,hoq];rfl);go_wp2_with fail;go_ret;exact⟨Qr HE.out.symm,(S1.out.trans (S2.out.trans S3.out)).trans xw⟩
 have HE:=Qq (show Rb f=Yb f (Ya (Ql f) (Ya (Yy (Qt (Ql f)).i (Ql (Ql (Ql f)))) (Yy (Qt (Ql f)).i (Jf (Ql (Ql f)))))) by unfold Rb;rw [hop,hoq];rfl);clear hop;go_wp2_with fail;refine(Xn _ HI.out _ _ _ (HP.out.ext (xw))).mono ?_;rintro e w4 ⟨u,rfl,hm⟩;have S4:=Qq (show Ext w3 w4 from xt hm.ext);have HK:=Qq hm.fml;obtain⟨AHK,cHK,rfl,_⟩:=Qg hm.fml;clear hm;go_wp2_with fail;refine(Xn _ HI.out _ _ _ (HQ.out.ext (S4.out.trans xw))).mono ?_;rintro e w5 ⟨u,rfl,hm⟩;have S5:=Qq (show Ext w4 w5 from xt hm.ext);have HL:=Qq hm.fml;obtain⟨AHL,cHL,rfl,_⟩:=Qg hm.fml
 clear hm;go_wp2_with fail;refine(Kq _ _ _ _ _ (HK.out.ext (S5.out.trans xw)) (HL.out.ext (xw))).mono ?_;rintro e w6 ⟨u,rfl,hm⟩;have S6:=Qq (show Ext w5 w6 from xt hm.ext);have HM:=Qq hm.fml;obtain⟨AHM,cHM,rfl,_⟩:=Qg hm.fml;clear hm;go_wp2_with fail;refine(Kq _ _ _ _ _ (HA.out.ext (S2.out.trans (S3.out.trans (S4.out.trans (S5.out.trans (S6.out.trans xw)))))) (HM.out.ext (xw))).mono ?_;rintro e w7 ⟨u,rfl,hm⟩;have S7:=Qq (show Ext w6 w7 from xt hm.ext);have HN:=Qq hm.fml;obtain⟨AHN,cHN,rfl,_⟩:=Qg hm.fml;clear hm;go_wp2_with fail;refine(Xz _ _ _ _ _ (HF.out.ext (S1.out.trans (S2.out.trans (S3.out.trans (S4.out.trans (S5.out.trans (S6.out.trans (S7.out.trans xw)))))))) (HN.out.ext (xw))).mono ?_
 rintro e w8 ⟨rfl,hx⟩;have S8:=Qq (show Ext w7 w8 from xt hx);clear hx;go_wp2_with fail;go_ret;exact⟨Qr HE.out.symm,S1.out.trans (S2.out.trans (S3.out.trans (S4.out.trans (S5.out.trans (S6.out.trans (S7.out.trans S8.out))))))⟩
theorem Qyv {w:World} {v:Value} {f:List Nd}(h:Fml w v f):
 Calls Tryz.prog 160 #[v] w fun e w'=>e=.returned (.bool (Rr f))/\Ext w w':=by
 have HF:=Qq h;obtain⟨A,c,rfl,_⟩:=Qg h;clear h;go_enter Tryz.func160,Tryz.ntmps160;go_wp2_with fail;refine(Vl (HF.out.ext (xw))).mono ?_;rintro e w1 ⟨ua,ub,rfl,hx,h1,h2⟩;have S1:=Qq (show Ext w w1 from xt hx);have HA:=Qq h1;have HB:=Qq h2;obtain⟨AHA,cHA,rfl,_⟩:=Qg h1;obtain⟨AHB,cHB,rfl,_⟩:=Qg h2;clear hx h1 h2;unfold Nd.val;go_wp2_with fail;refine(Vl (HA.out.ext (xw))).mono ?_;rintro e w2 ⟨ua,ub,rfl,hx,h1,h2⟩;have S2:=Qq (show Ext w1 w2 from xt hx);have HK:=Qq h1;have HC:=Qq h2;obtain⟨AHK,cHK,rfl,_⟩:=Qg h1;obtain⟨AHC,cHC,rfl,_⟩:=Qg h2;clear hx h1 h2
 unfold Nd.val;go_wp2_with fail;refine(Rm (HK.out.ext (xw))).mono ?_;rintro e w3 ⟨ua,rfl,hx,h1⟩;have S3:=Qq (show Ext w2 w3 from xt hx);have HX:=Qq h1;obtain⟨AHX,cHX,rfl,_⟩:=Qg h1;clear hx h1;cases hop:((Qt (Ql (Ql f))).op==9)
 ·have HE:=Qq (show Rr f=false by unfold Rr;rw [hop];rfl);go_wp2_with fail;go_ret;exact⟨Qr HE.out.symm,S1.out.trans (S2.out.trans S3.out)⟩
 have HE:=Qq (show Rr f=Yb f (Ya (Vt (Ql (Ql f))) (Yy (Qt (Ql (Ql f))).i (Vt (Ql (Ql f))))) by unfold Rr;rw [hop];rfl);have HI:=Qq (Rq HK.out).2.1;clear hop;go_wp2_with fail;refine(Gg _ _ _ (HK.out.ext (S3.out.trans xw))).mono ?_;rintro e w4 ⟨u,rfl,hm⟩;have S4:=Qq (show Ext w3 w4 from xt hm.ext);have HL:=Qq hm.fml;obtain⟨AHL,cHL,rfl,_⟩:=Qg hm.fml;clear hm;go_wp2_with fail;refine(Gg _ _ _ (HK.out.ext (S3.out.trans (S4.out.trans xw)))).mono ?_;rintro e w5 ⟨u,rfl,hm⟩;have S5:=Qq (show Ext w4 w5 from xt hm.ext);have HM:=Qq hm.fml;obtain⟨AHM,cHM,rfl,_⟩:=Qg hm.fml
 clear hm;go_wp2_with fail;refine(Xn _ HI.out _ _ _ (HM.out.ext (xw))).mono ?_;rintro e w6 ⟨u,rfl,hm⟩;have S6:=Qq (show Ext w5 w6 from xt hm.ext);have HN:=Qq hm.fml;obtain⟨AHN,cHN,rfl,_⟩:=Qg hm.fml;clear hm;go_wp2_with fail;refine(Kq _ _ _ _ _ (HL.out.ext (S5.out.trans (S6.out.trans xw))) (HN.out.ext (xw))).mono ?_;rintro e w7 ⟨u,rfl,hm⟩;have S7:=Qq (show Ext w6 w7 from xt hm.ext);have HO:=Qq hm.fml;obtain⟨AHO,cHO,rfl,_⟩:=Qg hm.fml;clear hm;go_wp2_with fail;refine(Xz _ _ _ _ _ (HF.out.ext (S1.out.trans (S2.out.trans (S3.out.trans (S4.out.trans (S5.out.trans (S6.out.trans (S7.out.trans xw)))))))) (HO.out.ext (xw))).mono ?_
 rintro e w8 ⟨rfl,hx⟩;have S8:=Qq (show Ext w7 w8 from xt hx);clear hx;go_wp2_with fail;go_ret;exact⟨Qr HE.out.symm,S1.out.trans (S2.out.trans (S3.out.trans (S4.out.trans (S5.out.trans (S6.out.trans (S7.out.trans S8.out))))))⟩
theorem Qj7 {w:World} {v:Value} {f:List Nd}(h:Fml w v f)(hc:Qs f=0):Calls Tryz.prog 153 #[v] w fun e w'=>e=.returned (.bool (Bj (Qf f)))/\Ext w w':=by
 have HF:=Qq h;have HC:=Qq hc;obtain⟨A,c,rfl,_⟩:=Qg h;have HE:Hid (Mc f≠0->Bj (Qf f)=false):=Qq (fun h=>by
  unfold Mc at h;unfold Bj;cases e:decide (10 < (Gb (Qf f)).length)
  ·rw [e]at h;exact absurd rfl h
  rfl)
 obtain⟨tv,htv⟩:∃z,z=Mc f:=⟨_,rfl⟩;have HV:=Qq htv;rw [<-htv]at HE;clear h hc htv;go_enter Tryz.func153,Tryz.ntmps153;go_wp2_with fail;refine(Qmx HF.out HC.out).mono ?_;rintro e w1 ⟨rfl,hx⟩;rw [<-HV.out];obtain⟨tb,htb⟩:∃z,z=Bj (Qf f):=⟨_,rfl⟩;rw [<-htb]at HE⊢;have HTB:=Qq htb;have S1:=Qq hx;clear hx htb;cases tb
 ·go_wp2_with fail;go_ret;exact⟨Qr HTB.out,S1.out⟩
 have h0:tv=0:=Classical.byContradiction fun h=>by have:=HE.out h;cases this
 subst h0;go_wp2_with fail;go_ret;exact⟨Qr HTB.out,S1.out⟩
end Go.Proofs.YtmidgcldljfkcaaGreatDoor
