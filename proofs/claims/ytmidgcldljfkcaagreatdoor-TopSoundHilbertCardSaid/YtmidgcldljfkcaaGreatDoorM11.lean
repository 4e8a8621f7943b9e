/- natural's follows: the table of rules. -/
import Derived.Test.YtmidgcldljfkcaaGreatDoorM01
import Derived.Test.YtmidgcldljfkcaaGreatDoorM05
import Derived.Test.YtmidgcldljfkcaaGreatDoorM06
import Derived.Test.YtmidgcldljfkcaaGreatDoorM07
import Derived.Test.YtmidgcldljfkcaaGreatDoorM09
import Derived.Test.YtmidgcldljfkcaaGreatDoorM10
import Derived.Deep.MidRow
import Derived.Deep.RegionHeld3
namespace Go.Proofs.YtmidgcldljfkcaaGreatDoor
set_option maxRecDepth 100000
set_option maxHeartbeats 128000000
open Go.RowKit
def Yw:List Value:= [.int .i64 3,.func (.func 175) #[] #[],.int .i64 4,.func (.func 176) #[] #[],.int .i64 5,.func (.func 177) #[] #[],.int .i64 6,.func (.func 178) #[] #[],.int .i64 7,.func (.func 179) #[] #[],.int .i64 8,.func (.func 180) #[] #[],.int .i64 9,.func (.func 181) #[] #[],.int .i64 10,.func (.func 182) #[] #[],.int .i64 11,.func (.func 183) #[] #[],.int .i64 12,.func (.func 184) #[] #[],.int .i64 13,.func (.func 185) #[] #[],.int .i64 14,.func (.func 186) #[] #[],.int .i64 15,.func (.func 187) #[] #[],.int .i64 16,.func (.func 188) #[] #[],.int .i64 17,.func (.func 189) #[] #[],.int .i64 18,.func (.func 190) #[] #[],.int .i64 19,.func (.func 191) #[] #[],.int .i64 20,.func (.func 192) #[] #[]]
structure Tab (w:World):Prop where
 at_:w.rangeAt 1 0 Yw
 pos:1 < w.heap.size
theorem Tab.ext {w w':World}(h:Tab w)(he:Ext w w'):Tab w' :=
 ⟨fun j v hj=>(he.cell (p:=⟨1,0+j,none⟩) h.pos).trans (h.at_ j v hj),Qy h.pos he.size⟩
theorem Cq {w:World} {b:Nat} {a0 a1 a2 a3 a4:Value} {t:TypeId}(h:w.heap[b]?=some (.cells #[a0,a1,a2,a3,a4] t (0,0))):
 w.cell? ⟨b,0,none⟩=some a0/\w.cell? ⟨b,1,none⟩=some a1/\w.cell? ⟨b,2,none⟩=some a2/\w.cell? ⟨b,3,none⟩=some a3/\w.cell? ⟨b,4,none⟩=some a4/\b < w.heap.size :=
 ⟨by simp [World.cell?,h],by simp [World.cell?,h],by simp [World.cell?,h],by simp [World.cell?,h],by simp [World.cell?,h],Qm h⟩
def Qms(k:Nat)(lg:Int)(ls:List Ln)(fs:List (List Nd))(st:List (List Int))(i:Nat)(n:Ln)(fi:List Nd):Bool :=
 match k with
 |0=>Cz lg ls fs st i n fi
 |1=>Qzr lg ls fs st i n fi
 |2=>Lf lg ls fs st i n fi
 |3=>Oy lg ls fs st i n fi
 |4=>Dx lg ls fs st i n fi
 |5=>Az lg ls fs st i n fi
 |6=>Wt lg ls fs st i n fi
 |7=>Qzj lg ls fs st i n fi
 |8=>Pi lg ls fs st i n fi
 |9=>Oq lg ls fs st i n fi
 |10=>To lg ls fs st i n fi
 |11=>Wn lg ls fs st i n fi
 |12=>Cp lg ls fs st i n fi
 |13=>Lt lg ls fs st i n fi
 |14=>Ex lg ls fs st i n fi
 |15=>Cf lg ls fs st i n fi
 |16=>Qzz lg ls fs st i n fi
 |17=>Ls lg ls fs st i n fi
 |_=>false
def Cd(lg:Int)(ls:List Ln)(fs:List (List Nd))(st:List (List Int))(i:Nat)(n:Ln)(fi:List Nd):Bool :=
 bif decide (3<=n.rule)&&decide (n.rule<=20)then Qms (n.rule - 3).toNat lg ls fs st i n fi else false
def Mv(lg:Int)(ls:List Ln)(fs:List (List Nd))(st:List (List Int))(i:Nat)(n:Ln)(fi:List Nd):Bool :=
 bif n.rule==2 then decide (n.from_.length=0)&&eqN fi Db
 else bif n.agent !=0 then false
 else bif n.rule==1 then decide (n.from_.length=0)
 else Cd lg ls fs st i n fi
theorem Yo {lg:Int} {ls:List Ln} {fs:List (List Nd)} {st:List (List Int)} {i:Nat} {n:Ln} {fi:List Nd} {k:Nat}(hr:n.rule=(k:Int)+3)(hk:k < 18):Cd lg ls fs st i n fi=Qms k lg ls fs st i n fi:=by
 unfold Cd;have e:(decide (3<=n.rule)&&decide (n.rule<=20))=true:=by simp;omega
 rw [e,cond_true,show(n.rule - 3).toNat=k by omega]
theorem Qgn {lg:Int} {ls:List Ln} {fs:List (List Nd)} {st:List (List Int)} {i:Nat} {n:Ln} {fi:List Nd}(h:∀j:Nat,j < 18->n.rule≠(j:Int)+3):Cd lg ls fs st i n fi=false:=by
 unfold Cd;have e:(decide (3<=n.rule)&&decide (n.rule<=20))=false:=by
  by_cases h3:3<=n.rule/\n.rule<=20
  ·exact absurd (show n.rule=(((n.rule - 3).toNat:Nat):Int)+3 by omega) (h (n.rule - 3).toNat (by omega))
  simp;omega
 rw [e,cond_false]
theorem Qy8 {w:World} {b:Nat} {lg:Int} {ls:List Ln} {fs:List (List Nd)} {st:List (List Int)} {i:Nat} {n:Ln} {fi:List Nd}(h:Chk w b lg ls fs st)(ok:Vb ls fs st i n fi)(hT:Tab w)(h2:n.rule≠2)(ha:n.agent=0)(h1:n.rule≠1):
 Calls Tryz.prog 42 #[.pointer (some ⟨b,0,none⟩),.int .i64 i] w fun e w'=>e=.returned (.bool (Cd lg ls fs st i n fi))/\Ext w w':=by
 obtain⟨ad,c,vf,vs,uf,ur,hc1,hc2,hlt,d0,d1,d2,d3,q0,q1,q2,q3,q4,hff,⟨Ar,cr,rfl,hir⟩⟩:=h.line ok.n_at;obtain⟨Af,cf,rfl,_⟩:=Qg hff;have hil:i < ls.length:=(List.getElem?_eq_some_iff.1 ok.n_at).1;have hrc:=hir.1;have hrm:=hir.2.1;unfold maxLen at hrm;have H:=Qq h;have OK:=Qq ok;have HT:=Qq hT;have b2:(n.rule==2)=false:=by simpa using h2
 have b1:(n.rule==1)=false:=by simpa using h1
 have ba:(n.agent !=0)=false:=by simp [ha]
 clear h ok hT hir hff h1 h2 ha;have x0:Hid (∀w:World,(Instr.index 120 (.agg Yw.toArray) (.int .i64 0)).run Tryz.prog w=.ok (.agg #[.int .i64 3,.func (.func 175) #[] #[]]) w):=Qq fun _=>by kernel_rfl
 have x1:Hid (∀w:World,(Instr.index 120 (.agg Yw.toArray) (.int .i64 1)).run Tryz.prog w=.ok (.agg #[.int .i64 4,.func (.func 176) #[] #[]]) w):=Qq fun _=>by kernel_rfl
 have x2:Hid (∀w:World,(Instr.index 120 (.agg Yw.toArray) (.int .i64 2)).run Tryz.prog w=.ok (.agg #[.int .i64 5,.func (.func 177) #[] #[]]) w):=Qq fun _=>by kernel_rfl
 have x3:Hid (∀w:World,(Instr.index 120 (.agg Yw.toArray) (.int .i64 3)).run Tryz.prog w=.ok (.agg #[.int .i64 6,.func (.func 178) #[] #[]]) w):=Qq fun _=>by kernel_rfl
 have x4:Hid (∀w:World,(Instr.index 120 (.agg Yw.toArray) (.int .i64 4)).run Tryz.prog w=.ok (.agg #[.int .i64 7,.func (.func 179) #[] #[]]) w):=Qq fun _=>by kernel_rfl
 have x5:Hid (∀w:World,(Instr.index 120 (.agg Yw.toArray) (.int .i64 5)).run Tryz.prog w=.ok (.agg #[.int .i64 8,.func (.func 180) #[] #[]]) w):=Qq fun _=>by kernel_rfl
 have x6:Hid (∀w:World,(Instr.index 120 (.agg Yw.toArray) (.int .i64 6)).run Tryz.prog w=.ok (.agg #[.int .i64 9,.func (.func 181) #[] #[]]) w):=Qq fun _=>by kernel_rfl
 have x7:Hid (∀w:World,(Instr.index 120 (.agg Yw.toArray) (.int .i64 7)).run Tryz.prog w=.ok (.agg #[.int .i64 10,.func (.func 182) #[] #[]]) w):=Qq fun _=>by kernel_rfl
 have x8:Hid (∀w:World,(Instr.index 120 (.agg Yw.toArray) (.int .i64 8)).run Tryz.prog w=.ok (.agg #[.int .i64 11,.func (.func 183) #[] #[]]) w):=Qq fun _=>by kernel_rfl
 have x9:Hid (∀w:World,(Instr.index 120 (.agg Yw.toArray) (.int .i64 9)).run Tryz.prog w=.ok (.agg #[.int .i64 12,.func (.func 184) #[] #[]]) w):=Qq fun _=>by kernel_rfl
 have x10:Hid (∀w:World,(Instr.index 120 (.agg Yw.toArray) (.int .i64 10)).run Tryz.prog w=.ok (.agg #[.int .i64 13,.func (.func 185) #[] #[]]) w):=Qq fun _=>by kernel_rfl
 have x11:Hid (∀w:World,(Instr.index 120 (.agg Yw.toArray) (.int .i64 11)).run Tryz.prog w=.ok (.agg #[.int .i64 14,.func (.func 186) #[] #[]]) w):=Qq fun _=>by kernel_rfl
 have x12:Hid (∀w:World,(Instr.index 120 (.agg Yw.toArray) (.int .i64 12)).run Tryz.prog w=.ok (.agg #[.int .i64 15,.func (.func 187) #[] #[]]) w):=Qq fun _=>by kernel_rfl
 have x13:Hid (∀w:World,(Instr.index 120 (.agg Yw.toArray) (.int .i64 13)).run Tryz.prog w=.ok (.agg #[.int .i64 16,.func (.func 188) #[] #[]]) w):=Qq fun _=>by kernel_rfl
 have x14:Hid (∀w:World,(Instr.index 120 (.agg Yw.toArray) (.int .i64 14)).run Tryz.prog w=.ok (.agg #[.int .i64 17,.func (.func 189) #[] #[]]) w):=Qq fun _=>by kernel_rfl
 have x15:Hid (∀w:World,(Instr.index 120 (.agg Yw.toArray) (.int .i64 15)).run Tryz.prog w=.ok (.agg #[.int .i64 18,.func (.func 190) #[] #[]]) w):=Qq fun _=>by kernel_rfl
 have x16:Hid (∀w:World,(Instr.index 120 (.agg Yw.toArray) (.int .i64 16)).run Tryz.prog w=.ok (.agg #[.int .i64 19,.func (.func 191) #[] #[]]) w):=Qq fun _=>by kernel_rfl
 have x17:Hid (∀w:World,(Instr.index 120 (.agg Yw.toArray) (.int .i64 17)).run Tryz.prog w=.ok (.agg #[.int .i64 20,.func (.func 192) #[] #[]]) w):=Qq fun _=>by kernel_rfl
 go_enter Tryz.func42,Tryz.ntmps42;go_wp2_with(refine wpList_load_mid rfl 120 _ rfl 1 0 rfl Yw _ (HT.out.ext (Qz.alloc _)).at_ Tryz.underlying120 rfl (by kernel_rfl) ?_);go_loopw [48] (fun v wr=>∃k:Nat,v=.int .i64 k/\k<=18/\Hid (∀j:Nat,j < k->n.rule≠(j:Int)+3)/\Hid (Ext (w.alloc (.cells #[.int .i64 n.depth,.int .i64 n.rule,(.slice Af n.f.length cf),.int .i64 n.agent,.slice Ar n.from_.length cr] 62)) wr)) (fun v _=>18 - (intOf v).toNat)
 case atStart=>exact⟨0,rfl,Nat.zero_le _,Qq (fun j hj=>absurd hj (Nat.not_lt_zero _)),Qq Qz⟩
 case round =>
  obtain⟨k,rfl,hk,HN,HXR⟩:=hrel;obtain⟨s0,s1,s2,s3,s4,slt⟩:=Cq ((HXR.out.block (by simp)).trans (heap_alloc_new w (.cells #[.int .i64 n.depth,.int .i64 n.rule,(.slice Af n.f.length cf),.int .i64 n.agent,.slice Ar n.from_.length cr] 62)));have HW:=Qq (((Ext.refl w).alloc (.cells #[.int .i64 n.depth,.int .i64 n.rule,(.slice Af n.f.length cf),.int .i64 n.agent,.slice Ar n.from_.length cr] 62)).trans HXR.out);rcases(show k=0\/k=1\/k=2\/k=3\/k=4\/k=5\/k=6\/k=7\/k=8\/k=9\/k=10\/k=11\/k=12\/k=13\/k=14\/k=15\/k=16\/k=17\/k=18 from by omega)with rfl|rfl|rfl|rfl|rfl|rfl|rfl|rfl|rfl|rfl|rfl|rfl|rfl|rfl|rfl|rfl|rfl|rfl|rfl
  ·have xx:=x0.out;by_cases hr:n.rule=3
   ·have hb:((3:Int)==n.rule)=true:=by simp [hr]
    have HS:=Qq (Yo (lg:=lg) (ls:=ls) (fs:=fs) (st:=st) (i:=i) (n:=n) (fi:=fi) (k:=0) (by rw [hr];rfl) (by decide));clear hr;go_wp2_with fail;refine(Qd6 (H.out.ext (Ext.trans HW.out (by repeat(first|exact Qz|assumption|apply Ext.alloc|apply Ext.drew)))) OK.out).mono ?_;rintro e w9 ⟨rfl,hx⟩;have HX:=Qq (Ext.trans (show Ext w _ from(Ext.trans HW.out ((Ext.refl wr).alloc _))) hx);clear hx;go_wp2_with fail;go_ret;exact⟨Qr (by rw [HS.out];rfl),HX.out⟩
   have hb:((3:Int)==n.rule)=false:=by simpa using fun e=>hr e.symm
   have HN':Hid (∀j:Nat,j < 1->n.rule≠(j:Int)+3):=Qq (fun j hj=>by
    by_cases e:j=0
    ·rw [e];exact hr
    exact HN.out j (by omega))
   clear hr;go_wp2_with fail;go_roundw
   case rel=>exact⟨1,rfl,by omega,HN',Qq (HXR.out.alloc _)⟩
   case measure=>simp [intOf]
  ·have xx:=x1.out;by_cases hr:n.rule=4
   ·have hb:((4:Int)==n.rule)=true:=by simp [hr]
    have HS:=Qq (Yo (lg:=lg) (ls:=ls) (fs:=fs) (st:=st) (i:=i) (n:=n) (fi:=fi) (k:=1) (by rw [hr];rfl) (by decide));clear hr;go_wp2_with fail;refine(Qrz (H.out.ext (Ext.trans HW.out (by repeat(first|exact Qz|assumption|apply Ext.alloc|apply Ext.drew)))) OK.out).mono ?_;rintro e w9 ⟨rfl,hx⟩;have HX:=Qq (Ext.trans (show Ext w _ from(Ext.trans HW.out ((Ext.refl wr).alloc _))) hx);clear hx;go_wp2_with fail;go_ret;exact⟨Qr (by rw [HS.out];rfl),HX.out⟩
   have hb:((4:Int)==n.rule)=false:=by simpa using fun e=>hr e.symm
   have HN':Hid (∀j:Nat,j < 2->n.rule≠(j:Int)+3):=Qq (fun j hj=>by
    by_cases e:j=1
    ·rw [e];exact hr
    exact HN.out j (by omega))
   clear hr;go_wp2_with fail;go_roundw
   case rel=>exact⟨2,rfl,by omega,HN',Qq (HXR.out.alloc _)⟩
   case measure=>simp [intOf]
  ·have xx:=x2.out;by_cases hr:n.rule=5
   ·have hb:((5:Int)==n.rule)=true:=by simp [hr]
    have HS:=Qq (Yo (lg:=lg) (ls:=ls) (fs:=fs) (st:=st) (i:=i) (n:=n) (fi:=fi) (k:=2) (by rw [hr];rfl) (by decide));clear hr;go_wp2_with fail;refine(Qbl (H.out.ext (Ext.trans HW.out (by repeat(first|exact Qz|assumption|apply Ext.alloc|apply Ext.drew)))) OK.out).mono ?_;rintro e w9 ⟨rfl,hx⟩;have HX:=Qq (Ext.trans (show Ext w _ from(Ext.trans HW.out ((Ext.refl wr).alloc _))) hx);clear hx;go_wp2_with fail;go_ret;exact⟨Qr (by rw [HS.out];rfl),HX.out⟩
   have hb:((5:Int)==n.rule)=false:=by simpa using fun e=>hr e.symm
   have HN':Hid (∀j:Nat,j < 3->n.rule≠(j:Int)+3):=Qq (fun j hj=>by
    by_cases e:j=2
    ·rw [e];exact hr
    exact HN.out j (by omega))
   clear hr;go_wp2_with fail;go_roundw
   case rel=>exact⟨3,rfl,by omega,HN',Qq (HXR.out.alloc _)⟩
   case measure=>simp [intOf]
  ·have xx:=x3.out;by_cases hr:n.rule=6
   ·have hb:((6:Int)==n.rule)=true:=by simp [hr]
    have HS:=Qq (Yo (lg:=lg) (ls:=ls) (fs:=fs) (st:=st) (i:=i) (n:=n) (fi:=fi) (k:=3) (by rw [hr];rfl) (by decide));clear hr;go_wp2_with fail;refine(Qta (H.out.ext (Ext.trans HW.out (by repeat(first|exact Qz|assumption|apply Ext.alloc|apply Ext.drew)))) OK.out).mono ?_;rintro e w9 ⟨rfl,hx⟩;have HX:=Qq (Ext.trans (show Ext w _ from(Ext.trans HW.out ((Ext.refl wr).alloc _))) hx);clear hx;go_wp2_with fail;go_ret;exact⟨Qr (by rw [HS.out];rfl),HX.out⟩
   have hb:((6:Int)==n.rule)=false:=by simpa using fun e=>hr e.symm
   have HN':Hid (∀j:Nat,j < 4->n.rule≠(j:Int)+3):=Qq (fun j hj=>by
    by_cases e:j=3
    ·rw [e];exact hr
    exact HN.out j (by omega))
   clear hr;go_wp2_with fail;go_roundw
   case rel=>exact⟨4,rfl,by omega,HN',Qq (HXR.out.alloc _)⟩
   case measure=>simp [intOf]
  ·have xx:=x4.out;by_cases hr:n.rule=7
   ·have hb:((7:Int)==n.rule)=true:=by simp [hr]
    have HS:=Qq (Yo (lg:=lg) (ls:=ls) (fs:=fs) (st:=st) (i:=i) (n:=n) (fi:=fi) (k:=4) (by rw [hr];rfl) (by decide));clear hr;go_wp2_with fail;refine(Qrp (H.out.ext (Ext.trans HW.out (by repeat(first|exact Qz|assumption|apply Ext.alloc|apply Ext.drew)))) OK.out).mono ?_;rintro e w9 ⟨rfl,hx⟩;have HX:=Qq (Ext.trans (show Ext w _ from(Ext.trans HW.out ((Ext.refl wr).alloc _))) hx);clear hx;go_wp2_with fail;go_ret;exact⟨Qr (by rw [HS.out];rfl),HX.out⟩
   have hb:((7:Int)==n.rule)=false:=by simpa using fun e=>hr e.symm
   have HN':Hid (∀j:Nat,j < 5->n.rule≠(j:Int)+3):=Qq (fun j hj=>by
    by_cases e:j=4
    ·rw [e];exact hr
    exact HN.out j (by omega))
   clear hr;go_wp2_with fail;go_roundw
   case rel=>exact⟨5,rfl,by omega,HN',Qq (HXR.out.alloc _)⟩
   case measure=>simp [intOf]
  ·have xx:=x5.out;by_cases hr:n.rule=8
   ·have hb:((8:Int)==n.rule)=true:=by simp [hr]
    have HS:=Qq (Yo (lg:=lg) (ls:=ls) (fs:=fs) (st:=st) (i:=i) (n:=n) (fi:=fi) (k:=5) (by rw [hr];rfl) (by decide));clear hr;go_wp2_with fail;refine(Qnc (H.out.ext (Ext.trans HW.out (by repeat(first|exact Qz|assumption|apply Ext.alloc|apply Ext.drew)))) OK.out).mono ?_;rintro e w9 ⟨rfl,hx⟩;have HX:=Qq (Ext.trans (show Ext w _ from(Ext.trans HW.out ((Ext.refl wr).alloc _))) hx);clear hx;go_wp2_with fail;go_ret;exact⟨Qr (by rw [HS.out];rfl),HX.out⟩
   have hb:((8:Int)==n.rule)=false:=by simpa using fun e=>hr e.symm
   have HN':Hid (∀j:Nat,j < 6->n.rule≠(j:Int)+3):=Qq (fun j hj=>by
    by_cases e:j=5
    ·rw [e];exact hr
    exact HN.out j (by omega))
   clear hr;go_wp2_with fail;go_roundw
   case rel=>exact⟨6,rfl,by omega,HN',Qq (HXR.out.alloc _)⟩
   case measure=>simp [intOf]
  ·have xx:=x6.out;by_cases hr:n.rule=9
   ·have hb:((9:Int)==n.rule)=true:=by simp [hr]
    have HS:=Qq (Yo (lg:=lg) (ls:=ls) (fs:=fs) (st:=st) (i:=i) (n:=n) (fi:=fi) (k:=6) (by rw [hr];rfl) (by decide));clear hr;go_wp2_with fail;refine(Qb0 (H.out.ext (Ext.trans HW.out (by repeat(first|exact Qz|assumption|apply Ext.alloc|apply Ext.drew)))) OK.out).mono ?_;rintro e w9 ⟨rfl,hx⟩;have HX:=Qq (Ext.trans (show Ext w _ from(Ext.trans HW.out ((Ext.refl wr).alloc _))) hx);clear hx;go_wp2_with fail;go_ret;exact⟨Qr (by rw [HS.out];rfl),HX.out⟩
   have hb:((9:Int)==n.rule)=false:=by simpa using fun e=>hr e.symm
   have HN':Hid (∀j:Nat,j < 7->n.rule≠(j:Int)+3):=Qq (fun j hj=>by
    by_cases e:j=6
    ·rw [e];exact hr
    exact HN.out j (by omega))
   clear hr;go_wp2_with fail;go_roundw
   case rel=>exact⟨7,rfl,by omega,HN',Qq (HXR.out.alloc _)⟩
   case measure=>simp [intOf]
  ·have xx:=x7.out;by_cases hr:n.rule=10
   ·have hb:((10:Int)==n.rule)=true:=by simp [hr]
    have HS:=Qq (Yo (lg:=lg) (ls:=ls) (fs:=fs) (st:=st) (i:=i) (n:=n) (fi:=fi) (k:=7) (by rw [hr];rfl) (by decide));clear hr;go_wp2_with fail;refine(Qn2 (H.out.ext (Ext.trans HW.out (by repeat(first|exact Qz|assumption|apply Ext.alloc|apply Ext.drew)))) OK.out).mono ?_;rintro e w9 ⟨rfl,hx⟩;have HX:=Qq (Ext.trans (show Ext w _ from(Ext.trans HW.out ((Ext.refl wr).alloc _))) hx);clear hx;go_wp2_with fail;go_ret;exact⟨Qr (by rw [HS.out];rfl),HX.out⟩
   have hb:((10:Int)==n.rule)=false:=by simpa using fun e=>hr e.symm
   have HN':Hid (∀j:Nat,j < 8->n.rule≠(j:Int)+3):=Qq (fun j hj=>by
    by_cases e:j=7
    ·rw [e];exact hr
    exact HN.out j (by omega))
   clear hr;go_wp2_with fail;go_roundw
   case rel=>exact⟨8,rfl,by omega,HN',Qq (HXR.out.alloc _)⟩
   case measure=>simp [intOf]
  ·have xx:=x8.out;by_cases hr:n.rule=11
   ·have hb:((11:Int)==n.rule)=true:=by simp [hr]
    have HS:=Qq (Yo (lg:=lg) (ls:=ls) (fs:=fs) (st:=st) (i:=i) (n:=n) (fi:=fi) (k:=8) (by rw [hr];rfl) (by decide));clear hr;go_wp2_with fail;refine(Qfi (H.out.ext (Ext.trans HW.out (by repeat(first|exact Qz|assumption|apply Ext.alloc|apply Ext.drew)))) OK.out).mono ?_;rintro e w9 ⟨rfl,hx⟩;have HX:=Qq (Ext.trans (show Ext w _ from(Ext.trans HW.out ((Ext.refl wr).alloc _))) hx);clear hx;go_wp2_with fail;go_ret;exact⟨Qr (by rw [HS.out];rfl),HX.out⟩
   have hb:((11:Int)==n.rule)=false:=by simpa using fun e=>hr e.symm
   have HN':Hid (∀j:Nat,j < 9->n.rule≠(j:Int)+3):=Qq (fun j hj=>by
    by_cases e:j=8
    ·rw [e];exact hr
    exact HN.out j (by omega))
   clear hr;go_wp2_with fail;go_roundw
   case rel=>exact⟨9,rfl,by omega,HN',Qq (HXR.out.alloc _)⟩
   case measure=>simp [intOf]
  ·have xx:=x9.out;by_cases hr:n.rule=12
   ·have hb:((12:Int)==n.rule)=true:=by simp [hr]
    have HS:=Qq (Yo (lg:=lg) (ls:=ls) (fs:=fs) (st:=st) (i:=i) (n:=n) (fi:=fi) (k:=9) (by rw [hr];rfl) (by decide));clear hr;go_wp2_with fail;refine(Qdl (H.out.ext (Ext.trans HW.out (by repeat(first|exact Qz|assumption|apply Ext.alloc|apply Ext.drew)))) OK.out).mono ?_;rintro e w9 ⟨rfl,hx⟩;have HX:=Qq (Ext.trans (show Ext w _ from(Ext.trans HW.out ((Ext.refl wr).alloc _))) hx);clear hx;go_wp2_with fail;go_ret;exact⟨Qr (by rw [HS.out];rfl),HX.out⟩
   have hb:((12:Int)==n.rule)=false:=by simpa using fun e=>hr e.symm
   have HN':Hid (∀j:Nat,j < 10->n.rule≠(j:Int)+3):=Qq (fun j hj=>by
    by_cases e:j=9
    ·rw [e];exact hr
    exact HN.out j (by omega))
   clear hr;go_wp2_with fail;go_roundw
   case rel=>exact⟨10,rfl,by omega,HN',Qq (HXR.out.alloc _)⟩
   case measure=>simp [intOf]
  ·have xx:=x10.out;by_cases hr:n.rule=13
   ·have hb:((13:Int)==n.rule)=true:=by simp [hr]
    have HS:=Qq (Yo (lg:=lg) (ls:=ls) (fs:=fs) (st:=st) (i:=i) (n:=n) (fi:=fi) (k:=10) (by rw [hr];rfl) (by decide));clear hr;go_wp2_with fail;refine(Qy0 (H.out.ext (Ext.trans HW.out (by repeat(first|exact Qz|assumption|apply Ext.alloc|apply Ext.drew)))) OK.out).mono ?_;rintro e w9 ⟨rfl,hx⟩;have HX:=Qq (Ext.trans (show Ext w _ from(Ext.trans HW.out ((Ext.refl wr).alloc _))) hx);clear hx;go_wp2_with fail;go_ret;exact⟨Qr (by rw [HS.out];rfl),HX.out⟩
   have hb:((13:Int)==n.rule)=false:=by simpa using fun e=>hr e.symm
   have HN':Hid (∀j:Nat,j < 11->n.rule≠(j:Int)+3):=Qq (fun j hj=>by
    by_cases e:j=10
    ·rw [e];exact hr
    exact HN.out j (by omega))
   clear hr;go_wp2_with fail;go_roundw
   case rel=>exact⟨11,rfl,by omega,HN',Qq (HXR.out.alloc _)⟩
   case measure=>simp [intOf]
  ·have xx:=x11.out;by_cases hr:n.rule=14
   ·have hb:((14:Int)==n.rule)=true:=by simp [hr]
    have HS:=Qq (Yo (lg:=lg) (ls:=ls) (fs:=fs) (st:=st) (i:=i) (n:=n) (fi:=fi) (k:=11) (by rw [hr];rfl) (by decide));clear hr;go_wp2_with fail;refine(Qdk (H.out.ext (Ext.trans HW.out (by repeat(first|exact Qz|assumption|apply Ext.alloc|apply Ext.drew)))) OK.out).mono ?_;rintro e w9 ⟨rfl,hx⟩;have HX:=Qq (Ext.trans (show Ext w _ from(Ext.trans HW.out ((Ext.refl wr).alloc _))) hx);clear hx;go_wp2_with fail;go_ret;exact⟨Qr (by rw [HS.out];rfl),HX.out⟩
   have hb:((14:Int)==n.rule)=false:=by simpa using fun e=>hr e.symm
   have HN':Hid (∀j:Nat,j < 12->n.rule≠(j:Int)+3):=Qq (fun j hj=>by
    by_cases e:j=11
    ·rw [e];exact hr
    exact HN.out j (by omega))
   clear hr;go_wp2_with fail;go_roundw
   case rel=>exact⟨12,rfl,by omega,HN',Qq (HXR.out.alloc _)⟩
   case measure=>simp [intOf]
  ·have xx:=x12.out;by_cases hr:n.rule=15
   ·have hb:((15:Int)==n.rule)=true:=by simp [hr]
    have HS:=Qq (Yo (lg:=lg) (ls:=ls) (fs:=fs) (st:=st) (i:=i) (n:=n) (fi:=fi) (k:=12) (by rw [hr];rfl) (by decide));clear hr;go_wp2_with fail;refine(Qcd (H.out.ext (Ext.trans HW.out (by repeat(first|exact Qz|assumption|apply Ext.alloc|apply Ext.drew)))) OK.out).mono ?_;rintro e w9 ⟨rfl,hx⟩;have HX:=Qq (Ext.trans (show Ext w _ from(Ext.trans HW.out ((Ext.refl wr).alloc _))) hx);clear hx;go_wp2_with fail;go_ret;exact⟨Qr (by rw [HS.out];rfl),HX.out⟩
   have hb:((15:Int)==n.rule)=false:=by simpa using fun e=>hr e.symm
   have HN':Hid (∀j:Nat,j < 13->n.rule≠(j:Int)+3):=Qq (fun j hj=>by
    by_cases e:j=12
    ·rw [e];exact hr
    exact HN.out j (by omega))
   clear hr;go_wp2_with fail;go_roundw
   case rel=>exact⟨13,rfl,by omega,HN',Qq (HXR.out.alloc _)⟩
   case measure=>simp [intOf]
  ·have xx:=x13.out;by_cases hr:n.rule=16
   ·have hb:((16:Int)==n.rule)=true:=by simp [hr]
    have HS:=Qq (Yo (lg:=lg) (ls:=ls) (fs:=fs) (st:=st) (i:=i) (n:=n) (fi:=fi) (k:=13) (by rw [hr];rfl) (by decide));clear hr;go_wp2_with fail;refine(Qbr (H.out.ext (Ext.trans HW.out (by repeat(first|exact Qz|assumption|apply Ext.alloc|apply Ext.drew)))) OK.out).mono ?_;rintro e w9 ⟨rfl,hx⟩;have HX:=Qq (Ext.trans (show Ext w _ from(Ext.trans HW.out ((Ext.refl wr).alloc _))) hx);clear hx;go_wp2_with fail;go_ret;exact⟨Qr (by rw [HS.out];rfl),HX.out⟩
   have hb:((16:Int)==n.rule)=false:=by simpa using fun e=>hr e.symm
   have HN':Hid (∀j:Nat,j < 14->n.rule≠(j:Int)+3):=Qq (fun j hj=>by
    by_cases e:j=13
    ·rw [e];exact hr
    exact HN.out j (by omega))
   clear hr;go_wp2_with fail;go_roundw
   case rel=>exact⟨14,rfl,by omega,HN',Qq (HXR.out.alloc _)⟩
   case measure=>simp [intOf]
  ·have xx:=x14.out;by_cases hr:n.rule=17
   ·have hb:((17:Int)==n.rule)=true:=by simp [hr]
    have HS:=Qq (Yo (lg:=lg) (ls:=ls) (fs:=fs) (st:=st) (i:=i) (n:=n) (fi:=fi) (k:=14) (by rw [hr];rfl) (by decide));clear hr;go_wp2_with fail;refine(Qxd (H.out.ext (Ext.trans HW.out (by repeat(first|exact Qz|assumption|apply Ext.alloc|apply Ext.drew)))) OK.out).mono ?_;rintro e w9 ⟨rfl,hx⟩;have HX:=Qq (Ext.trans (show Ext w _ from(Ext.trans HW.out ((Ext.refl wr).alloc _))) hx);clear hx;go_wp2_with fail;go_ret;exact⟨Qr (by rw [HS.out];rfl),HX.out⟩
   have hb:((17:Int)==n.rule)=false:=by simpa using fun e=>hr e.symm
   have HN':Hid (∀j:Nat,j < 15->n.rule≠(j:Int)+3):=Qq (fun j hj=>by
    by_cases e:j=14
    ·rw [e];exact hr
    exact HN.out j (by omega))
   clear hr;go_wp2_with fail;go_roundw
   case rel=>exact⟨15,rfl,by omega,HN',Qq (HXR.out.alloc _)⟩
   case measure=>simp [intOf]
  ·have xx:=x15.out;by_cases hr:n.rule=18
   ·have hb:((18:Int)==n.rule)=true:=by simp [hr]
    have HS:=Qq (Yo (lg:=lg) (ls:=ls) (fs:=fs) (st:=st) (i:=i) (n:=n) (fi:=fi) (k:=15) (by rw [hr];rfl) (by decide));clear hr;go_wp2_with fail;refine(Qss (H.out.ext (Ext.trans HW.out (by repeat(first|exact Qz|assumption|apply Ext.alloc|apply Ext.drew)))) OK.out).mono ?_;rintro e w9 ⟨rfl,hx⟩;have HX:=Qq (Ext.trans (show Ext w _ from(Ext.trans HW.out ((Ext.refl wr).alloc _))) hx);clear hx;go_wp2_with fail;go_ret;exact⟨Qr (by rw [HS.out];rfl),HX.out⟩
   have hb:((18:Int)==n.rule)=false:=by simpa using fun e=>hr e.symm
   have HN':Hid (∀j:Nat,j < 16->n.rule≠(j:Int)+3):=Qq (fun j hj=>by
    by_cases e:j=15
    ·rw [e];exact hr
    exact HN.out j (by omega))
   clear hr;go_wp2_with fail;go_roundw
   case rel=>exact⟨16,rfl,by omega,HN',Qq (HXR.out.alloc _)⟩
   case measure=>simp [intOf]
  ·have xx:=x16.out;by_cases hr:n.rule=19
   ·have hb:((19:Int)==n.rule)=true:=by simp [hr]
    have HS:=Qq (Yo (lg:=lg) (ls:=ls) (fs:=fs) (st:=st) (i:=i) (n:=n) (fi:=fi) (k:=16) (by rw [hr];rfl) (by decide));clear hr;go_wp2_with fail;refine(Ql6 (H.out.ext (Ext.trans HW.out (by repeat(first|exact Qz|assumption|apply Ext.alloc|apply Ext.drew)))) OK.out).mono ?_;rintro e w9 ⟨rfl,hx⟩;have HX:=Qq (Ext.trans (show Ext w _ from(Ext.trans HW.out ((Ext.refl wr).alloc _))) hx);clear hx;go_wp2_with fail;go_ret;exact⟨Qr (by rw [HS.out];rfl),HX.out⟩
   have hb:((19:Int)==n.rule)=false:=by simpa using fun e=>hr e.symm
   have HN':Hid (∀j:Nat,j < 17->n.rule≠(j:Int)+3):=Qq (fun j hj=>by
    by_cases e:j=16
    ·rw [e];exact hr
    exact HN.out j (by omega))
   clear hr;go_wp2_with fail;go_roundw
   case rel=>exact⟨17,rfl,by omega,HN',Qq (HXR.out.alloc _)⟩
   case measure=>simp [intOf]
  ·have xx:=x17.out;by_cases hr:n.rule=20
   ·have hb:((20:Int)==n.rule)=true:=by simp [hr]
    have HS:=Qq (Yo (lg:=lg) (ls:=ls) (fs:=fs) (st:=st) (i:=i) (n:=n) (fi:=fi) (k:=17) (by rw [hr];rfl) (by decide));clear hr;go_wp2_with fail;refine(Qd4 (H.out.ext (Ext.trans HW.out (by repeat(first|exact Qz|assumption|apply Ext.alloc|apply Ext.drew)))) OK.out).mono ?_;rintro e w9 ⟨rfl,hx⟩;have HX:=Qq (Ext.trans (show Ext w _ from(Ext.trans HW.out ((Ext.refl wr).alloc _))) hx);clear hx;go_wp2_with fail;go_ret;exact⟨Qr (by rw [HS.out];rfl),HX.out⟩
   have hb:((20:Int)==n.rule)=false:=by simpa using fun e=>hr e.symm
   have HN':Hid (∀j:Nat,j < 18->n.rule≠(j:Int)+3):=Qq (fun j hj=>by
    by_cases e:j=17
    ·rw [e];exact hr
    exact HN.out j (by omega))
   clear hr;go_wp2_with fail;go_roundw
   case rel=>exact⟨18,rfl,by omega,HN',Qq (HXR.out.alloc _)⟩
   case measure=>simp [intOf]
  have HS:=Qq (Qgn (lg:=lg) (ls:=ls) (fs:=fs) (st:=st) (i:=i) (n:=n) (fi:=fi) HN.out);go_wp2_with fail;go_ret;exact⟨Qr HS.out.symm,HW.out⟩
theorem Qyo {w:World} {b:Nat} {lg:Int} {ls:List Ln} {fs:List (List Nd)} {st:List (List Int)} {i:Nat} {n:Ln} {fi:List Nd}(h:Chk w b lg ls fs st)(ok:Vb ls fs st i n fi)(h2:n.rule≠2)(ha:n.agent≠0):
 Calls Tryz.prog 42 #[.pointer (some ⟨b,0,none⟩),.int .i64 i] w fun e w'=>e=.returned (.bool (false))/\Ext w w':=by
 obtain⟨ad,c,vf,vs,uf,ur,hc1,hc2,hlt,d0,d1,d2,d3,q0,q1,q2,q3,q4,hff,⟨Ar,cr,rfl,hir⟩⟩:=h.line ok.n_at;obtain⟨Af,cf,rfl,_⟩:=Qg hff;have hil:i < ls.length:=(List.getElem?_eq_some_iff.1 ok.n_at).1;have hrc:=hir.1;have hrm:=hir.2.1;unfold maxLen at hrm;have H:=Qq h;have OK:=Qq ok;have b2:(n.rule==2)=false:=by simpa using h2
 have ba:(n.agent !=0)=true:=by simpa using ha
 clear h2 ha;clear h ok hir hff;go_enter Tryz.func42,Tryz.ntmps42;go_wp2_with fail;go_ret;exact⟨Qr (rfl),Qz.alloc _⟩
theorem Qjl {w:World} {b:Nat} {lg:Int} {ls:List Ln} {fs:List (List Nd)} {st:List (List Int)} {i:Nat} {n:Ln} {fi:List Nd}(h:Chk w b lg ls fs st)(ok:Vb ls fs st i n fi)(h1:n.rule=1)(ha:n.agent=0):
 Calls Tryz.prog 42 #[.pointer (some ⟨b,0,none⟩),.int .i64 i] w fun e w'=>e=.returned (.bool (decide (n.from_.length=0)))/\Ext w w':=by
 obtain⟨ad,c,vf,vs,uf,ur,hc1,hc2,hlt,d0,d1,d2,d3,q0,q1,q2,q3,q4,hff,⟨Ar,cr,rfl,hir⟩⟩:=h.line ok.n_at;obtain⟨Af,cf,rfl,_⟩:=Qg hff;have hil:i < ls.length:=(List.getElem?_eq_some_iff.1 ok.n_at).1;have hrc:=hir.1;have hrm:=hir.2.1;unfold maxLen at hrm;have H:=Qq h;have OK:=Qq ok;have b2:(n.rule==2)=false:=by rw [h1];rfl
 have b1:(n.rule==1)=true:=by rw [h1];rfl
 have ba:(n.agent !=0)=false:=by rw [ha];rfl
 have HB:=Qq (show((n.from_.length:Int)==0)=decide (n.from_.length=0) by
  by_cases e:n.from_.length=0
  ·simp [e]
  rw [decide_eq_false e,beq_eq_false_iff_ne];omega)
 clear h1 ha;clear h ok hir hff;go_enter Tryz.func42,Tryz.ntmps42;go_wp2_with fail;go_ret;exact⟨Qr (HB.out),Qz.alloc _⟩
theorem Qxh {w:World} {b:Nat} {lg:Int} {ls:List Ln} {fs:List (List Nd)} {st:List (List Int)} {i:Nat} {n:Ln} {fi:List Nd}(h:Chk w b lg ls fs st)(ok:Vb ls fs st i n fi)(h2:n.rule=2):
 Calls Tryz.prog 42 #[.pointer (some ⟨b,0,none⟩),.int .i64 i] w fun e w'=>e=.returned (.bool (decide (n.from_.length=0)&&eqN fi Db))/\Ext w w':=by
 obtain⟨ad,c,vf,vs,uf,ur,hc1,hc2,hlt,d0,d1,d2,d3,q0,q1,q2,q3,q4,hff,⟨Ar,cr,rfl,hir⟩⟩:=h.line ok.n_at;obtain⟨Af,cf,rfl,_⟩:=Qg hff;have hil:i < ls.length:=(List.getElem?_eq_some_iff.1 ok.n_at).1;have hrc:=hir.1;have hrm:=hir.2.1;unfold maxLen at hrm;have H:=Qq h;have OK:=Qq ok;have b2:(n.rule==2)=true:=by rw [h2];rfl
 clear h ok hir hff h2;by_cases h0:n.from_.length=0
 ·have HD:=Qq (decide_eq_true h0);rw [h0]at q4 hrc;go_enter Tryz.func42,Tryz.ntmps42;go_wp2_with fail;generalize hW:World.alloc w _=W;have hW0:Ext w W:=by rw [<-hW];exact Qz.alloc _
  obtain⟨s0,s1,s2,s3,s4,slt⟩:=Cq (show W.heap[w.heap.size]?=some (.cells #[.int .i64 n.depth,.int .i64 n.rule,(.slice Af n.f.length cf),.int .i64 n.agent,.slice Ar 0 cr] 62 (0,0)) by rw [<-hW];exact heap_alloc_new _ _);clear hW;obtain⟨ad2,c2,vl2,vs2,Ai,ci,g1,g2,g3,g4,g5,g6,g7,g8,g9⟩:=(H.out.ext hW0).form OK.out.f_at;have GB:=(H.out.ext hW0).blt;have GI:i < fs.length:=(List.getElem?_eq_some_iff.1 OK.out.f_at).1;have GF:=Qq g9;clear g4 g5 g7 g9;go_region_held3 (fun w'=>w'.cell? ⟨b,2,none⟩=some (.slice (some ad2) fs.length c2)/\w'.cell? (ad2.add i)=some (.slice Ai fi.length ci)/\w'.cell? ⟨w.heap.size,4,none⟩=some (.slice Ar 0 cr)) (first|exact⟨g6,g8,s4⟩|exact⟨g6a,g8a,s4a⟩|exact⟨g6d,g8d,s4d⟩|go_keep) (first|(go_at_call 70;refine(Li _).mono ?_;rintro e wa ⟨ua,rfl,hma⟩;have MA:=Qq hma;have hxa:Ext W wa:=Ext.trans (by repeat(first|exact Qz|assumption|apply Ext.alloc|apply Ext.drew)) hma.2.2;have g6a:=(hxa.cell (p:=⟨b,2,none⟩) GB).trans g6;have g8a:=(hxa.cell (p:=(ad2.add i)) (Qj g3)).trans g8;have s4a:=(hxa.cell (p:=⟨w.heap.size,4,none⟩) slt).trans s4;clear hma)|(go_at_call 69;refine(Zs _ _ fi Db _ (by exact(GF.out.ext (by repeat(first|exact Qz|assumption|apply Ext.alloc|apply Ext.drew))).1) (by exact(MA.out.fml.ext (by repeat(first|exact Qz|assumption|apply Ext.alloc|apply Ext.drew))).1)).mono ?_;rintro e wd ⟨rfl,hvd⟩;have hxd:Ext W wd:=Ext.trans (by repeat(first|exact Qz|assumption|apply Ext.alloc|apply Ext.drew)) hvd;have g6d:=(hxd.cell (p:=⟨b,2,none⟩) GB).trans g6;have g8d:=(hxd.cell (p:=(ad2.add i)) (Qj g3)).trans g8;have s4d:=(hxd.cell (p:=⟨w.heap.size,4,none⟩) slt).trans s4;clear hvd))
  all_goals
   go_wp2_with fail;go_ret;exact⟨Qr (by rw [HD.out];rfl),hW0.trans hxd⟩
 have HD:=Qq (decide_eq_false h0);have hd:((n.from_.length:Int)==0)=false:=by rw [beq_eq_false_iff_ne];omega
 have hd2:decide (n.from_.length=0)=false:=HD.out;clear h0;go_enter Tryz.func42,Tryz.ntmps42;go_wp2_with fail;go_quiet (fail);go_wp2_with fail;go_ret;exact⟨Qr (by rw [HD.out];rfl),(Qz.alloc _).drewN _⟩
theorem Qgr {w:World} {b:Nat} {lg:Int} {ls:List Ln} {fs:List (List Nd)} {st:List (List Int)} {i:Nat} {n:Ln} {fi:List Nd}(h:Chk w b lg ls fs st)(ok:Vb ls fs st i n fi)(hT:Tab w):
 Calls Tryz.prog 42 #[.pointer (some ⟨b,0,none⟩),.int .i64 i] w fun e w'=>e=.returned (.bool (Mv lg ls fs st i n fi))/\Ext w w':=by
 unfold Mv;by_cases h2:n.rule=2
 ·rw [show(n.rule==2)=true by rw [h2];rfl];exact Qxh h ok h2
 rw [show(n.rule==2)=false by simpa using h2];by_cases ha:n.agent=0
 ·rw [show(n.agent !=0)=false by rw [ha];rfl];by_cases h1:n.rule=1
  ·rw [show(n.rule==1)=true by rw [h1];rfl];exact Qjl h ok h1 ha
  rw [show(n.rule==1)=false by simpa using h1];exact Qy8 h ok hT h2 ha h1
 rw [show(n.agent !=0)=true by simpa using ha];exact Qyo h ok h2 ha
end Go.Proofs.YtmidgcldljfkcaaGreatDoor
