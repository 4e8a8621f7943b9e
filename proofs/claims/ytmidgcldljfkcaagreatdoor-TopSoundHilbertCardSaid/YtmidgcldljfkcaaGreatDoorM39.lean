/- Refutations in memory: steps, sets, the checker behind a pointer. -/
import Derived.Test.YtmidgcldljfkcaaGreatDoorM01
import Derived.Test.YtmidgcldljfkcaaGreatDoorM04
import Derived.Test.YtmidgcldljfkcaaGreatDoorM12
import Derived.Test.YtmidgcldljfkcaaGreatDoorM38
import Derived.Test.YtmidgcldljfkcaaGreatDoorM13
import Derived.Test.YtmidgcldljfkcaaGreatDoorM37
namespace Go.Proofs.YtmidgcldljfkcaaGreatDoor
set_option maxRecDepth 100000
set_option maxHeartbeats 128000000
open Go.RowKit
def Qk3(w:World)(a:Addr)(n:Stp):Prop :=
 ∃ur,w.cell? a=some (.int .u64 (n.set:Int))/\w.cell? ⟨a.block,a.off+1,none⟩=some (.int .i64 n.rule)/\w.cell? ⟨a.block,a.off+2,none⟩=some (.int .i64 n.on)/\w.cell? ⟨a.block,a.off+3,none⟩=some (.int .i64 n.e)/\
  w.cell? ⟨a.block,a.off+4,none⟩=some ur/\Zi w ur n.from_/\n.set < 18446744073709551616
def Qvq(w:World)(A:Option Addr)(c:Nat)(l:List Stp):Prop :=
 l.length<=c/\c<=maxLen/\(l≠ []->∃ad,A=some ad/\ad.block < w.heap.size/\∀k n,l[k]?=some n->Qk3 w (ad.add (k*5)) n)
def Sps(w:World)(v:Value)(l:List Stp):Prop:=∃A c,v=.slice A l.length c/\Qvq w A c l
def Qzb(w:World)(A:Option Addr)(c:Nat)(l:List Nat):Prop :=
 l.length<=c/\c<=maxLen/\(l≠ []->∃ad,A=some ad/\ad.block < w.heap.size/\∀k (z:Nat),l[k]?=some z->w.cell? (ad.add k)=some (.int .u64 (z:Int))/\z < 18446744073709551616)
def Sy(w:World)(v:Value)(l:List Nat):Prop:=∃A c,v=.slice A l.length c/\Qzb w A c l
section
variable {w w':World} {a:Addr} {n:Stp} {v:Value}
theorem Qk3.ext(h:Qk3 w a n)(he:Ext w w')(ha:a.block < w.heap.size):Qk3 w' a n:=by
 obtain⟨ur,h0,h1,h2,h3,h4,h5,h6⟩:=h;have hk:∀o s,w'.cell? ⟨a.block,o,s⟩=w.cell? ⟨a.block,o,s⟩:=fun o s=>he.cell (p:=⟨a.block,o,s⟩) ha
 exact⟨ur,(hk _ _).trans h0,(hk _ _).trans h1,(hk _ _).trans h2,(hk _ _).trans h3,(hk _ _).trans h4,h5.ext he,h6⟩
theorem Qvq.ext {A:Option Addr} {c:Nat} {l:List Stp}(h:Qvq w A c l)(he:Ext w w'):Qvq w' A c l :=
 ⟨h.1,h.2.1,fun hn=>by
  obtain⟨ad,e,hlt,hc⟩:=h.2.2 hn;exact⟨ad,e,Qy hlt he.size,fun k n hk=>(hc k n hk).ext he (Qj hlt)⟩⟩
theorem Sps.ext {l:List Stp}(h:Sps w v l)(he:Ext w w'):Sps w' v l:=by
 obtain⟨A,c,e,h⟩:=h;exact⟨A,c,e,h.ext he⟩
theorem Qzb.ext {A:Option Addr} {c:Nat} {l:List Nat}(h:Qzb w A c l)(he:Ext w w'):Qzb w' A c l :=
 ⟨h.1,h.2.1,fun hn=>by
  obtain⟨ad,e,hlt,hc⟩:=h.2.2 hn;exact⟨ad,e,Qy hlt he.size,fun k z hk=>⟨(he.cell (Qj hlt)).trans (hc k z hk).1,(hc k z hk).2⟩⟩⟩
theorem Sy.ext {l:List Nat}(h:Sy w v l)(he:Ext w w'):Sy w' v l:=by
 obtain⟨A,c,e,h⟩:=h;exact⟨A,c,e,h.ext he⟩
theorem Sy.none_(w:World):Sy w (.slice none 0 0) []:=⟨none,0,rfl,Nat.le_refl _,by unfold maxLen;omega,fun h=>absurd rfl h⟩
end
structure Xy (w:World) (b:Nat) (lg:Int) (base:List Nd) (steps:List Stp) (opps:List Int):Prop where
 all:∃vb vs vo,w.heap[b]?=some (.cells #[.int .i64 lg,vb,vs,vo] 100 (0,0))/\Fml w vb base/\Sps w vs steps/\Zi w vo opps
theorem Xy.ext {w w':World} {b:Nat} {lg:Int} {base:List Nd} {steps:List Stp} {opps:List Int}(h:Xy w b lg base steps opps)(he:Ext w w'):Xy w' b lg base steps opps:=by
 obtain⟨vb,vs,vo,hb,h1,h2,h3⟩:=h.all;exact⟨vb,vs,vo,(he.block (Qm hb)).trans hb,h1.ext he,h2.ext he,h3.ext he⟩
theorem Cj {w:World} {b:Nat} {a0 a1 a2 a3:Value} {t:TypeId}(h:w.heap[b]?=some (.cells #[a0,a1,a2,a3] t (0,0))):
 w.cell? ⟨b,0,none⟩=some a0/\w.cell? ⟨b,1,none⟩=some a1/\w.cell? ⟨b,2,none⟩=some a2/\w.cell? ⟨b,3,none⟩=some a3/\(∀j,w.frozen? ⟨b,j,none⟩=false)/\b < w.heap.size :=
 ⟨by simp [World.cell?,h],by simp [World.cell?,h],by simp [World.cell?,h],by simp [World.cell?,h],fun j=>by simp [World.frozen?,h],Qm h⟩
theorem Jp {w:World} {b:Nat} {a0 a1 a2 a3 a4:Value} {t:TypeId}(h:w.heap[b]?=some (.cells #[a0,a1,a2,a3,a4] t (0,0))):
 w.cell? ⟨b,0,none⟩=some a0/\w.cell? ⟨b,1,none⟩=some a1/\w.cell? ⟨b,2,none⟩=some a2/\w.cell? ⟨b,3,none⟩=some a3/\w.cell? ⟨b,4,none⟩=some a4/\(∀j,w.frozen? ⟨b,j,none⟩=false)/\b < w.heap.size :=
 ⟨by simp [World.cell?,h],by simp [World.cell?,h],by simp [World.cell?,h],by simp [World.cell?,h],by simp [World.cell?,h],fun j=>by simp [World.frozen?,h],Qm h⟩
theorem Xy.blt {w:World} {b:Nat} {lg:Int} {base:List Nd} {steps:List Stp} {opps:List Int}(h:Xy w b lg base steps opps):b < w.heap.size:=by
 obtain⟨vb,vs,vo,hb,_⟩:=h.all;exact Qm hb
theorem Xy.cells {w:World} {b:Nat} {lg:Int} {base:List Nd} {steps:List Stp} {opps:List Int}(h:Xy w b lg base steps opps):
 ∃Ab cb As cs Ao co,w.cell? ⟨b,0,none⟩=some (.int .i64 lg)/\w.cell? ⟨b,1,none⟩=some (.slice Ab base.length cb)/\w.cell? ⟨b,2,none⟩=some (.slice As steps.length cs)/\w.cell? ⟨b,3,none⟩=some (.slice Ao opps.length co)/\
  Fml w (.slice Ab base.length cb) base/\Sps w (.slice As steps.length cs) steps/\Zi w (.slice Ao opps.length co) opps:=by
 obtain⟨vb,vs,vo,hb,h1,⟨As,cs,rfl,h2⟩,⟨Ao,co,rfl,h3⟩⟩:=h.all;obtain⟨d0,d1,d2,d3,_,_⟩:=Cj hb;obtain⟨Ab,cb,rfl,_⟩:=Qg h1;exact⟨Ab,cb,As,cs,Ao,co,d0,d1,d2,d3,h1,⟨_,_,rfl,h2⟩,⟨_,_,rfl,h3⟩⟩
theorem Xy.step {w:World} {b:Nat} {lg:Int} {base:List Nd} {steps:List Stp} {opps:List Int}(h:Xy w b lg base steps opps) {i:Nat} {n:Stp}(hi:steps[i]?=some n):
 ∃(ad:Addr) (c:Nat) (ur:Value),steps.length<=c/\c<=9223372036854775807/\ad.block < w.heap.size/\w.cell? ⟨b,2,none⟩=some (.slice (some ad) steps.length c)/\
  w.cell? (ad.add (i*5))=some (.int .u64 (n.set:Int))/\w.cell? ⟨(ad.add (i*5)).block,(ad.add (i*5)).off+1,none⟩=some (.int .i64 n.rule)/\w.cell? ⟨(ad.add (i*5)).block,(ad.add (i*5)).off+2,none⟩=some (.int .i64 n.on)/\
  w.cell? ⟨(ad.add (i*5)).block,(ad.add (i*5)).off+3,none⟩=some (.int .i64 n.e)/\w.cell? ⟨(ad.add (i*5)).block,(ad.add (i*5)).off+4,none⟩=some ur/\Zi w ur n.from_/\n.set < 18446744073709551616:=by
 obtain⟨vb,vs,vo,hb,_,⟨A,c,rfl,h1,h2,h3⟩,_⟩:=h.all;obtain⟨d0,d1,d2,d3,_,_⟩:=Cj hb;obtain⟨ad,rfl,hlt,hc⟩:=h3 (by intro e;rw [e]at hi;simp at hi);obtain⟨ur,q0,q1,q2,q3,q4,q5,q6⟩:=hc i n hi;unfold maxLen at h2;exact⟨ad,c,ur,h1,by omega,hlt,d2,q0,q1,q2,q3,q4,q5,q6⟩
theorem Qv3 {w:World} {b:Nat} {a0 a1 a2:Value} {t:TypeId}(h:w.heap[b]?=some (.cells #[a0,a1,a2] t (0,0))):
 w.cell? ⟨b,0,none⟩=some a0/\w.cell? ⟨b,1,none⟩=some a1/\w.cell? ⟨b,2,none⟩=some a2/\(∀j,w.frozen? ⟨b,j,none⟩=false)/\b < w.heap.size :=
 ⟨by simp [World.cell?,h],by simp [World.cell?,h],by simp [World.cell?,h],fun j=>by simp [World.frozen?,h],Qm h⟩
theorem Le {w:World} {lg:Int} {vb vs:Value} {base:List Nd} {steps:List Stp}(hb:Fml w vb base)(hs:Sps w vs steps):
 Calls Tryz.prog 28 #[.agg #[.int .i64 lg,vb,vs]] w fun e w'=>e=.returned (.int .i64 (Xh lg base steps))/\Ext w w':=by
 have H:=Qq hb;obtain⟨Ab,cb,rfl,_⟩:=Qg hb;obtain⟨As,cs,rfl,hs1,hs2,_⟩:=hs;unfold maxLen at hs2;clear hb;obtain⟨z0,z1,z2,_,zlt⟩:=Qv3 (heap_alloc_new w (.cells #[.int .i64 lg,.slice Ab base.length cb,.slice As steps.length cs] 38));have Z:=Qq (And.intro z1 z2);have ZLT:=Qq zlt;have X0:=Qq ((Ext.refl w).alloc (.cells #[.int .i64 lg,.slice Ab base.length cb,.slice As steps.length cs] 38));clear z0 z1 z2 zlt;cases hk:Bf lg
 ·have HK:=Qq hk;have HE:=Qq (show Xh lg base steps=2 by unfold Xh;rw [hk];rfl);clear hk;go_enter Tryz.func28,Tryz.ntmps28;go_wp2_with fail;refine(Tl lg _).mono ?_;rintro e w1 ⟨rfl,hx⟩;rw [HK.out];go_wp2_with fail;go_ret;exact⟨by rw [HE.out] <;> rfl,X0.out.trans hx⟩
 have HK:=Qq hk;have HE:=Qq (show Xh lg base steps=bif Zt base !=0 then Zt base else bif decide (steps.length=0)||decide (4096 < steps.length)then 3 else 0 by unfold Xh;rw [hk];rfl);clear hk;by_cases hb0:Zt base=0
 ·have HB:=Qq hb0;clear hb0;by_cases hl0:steps.length=0
  ·have hnil:steps= []:=List.length_eq_zero_iff.1 hl0;subst hnil;have HE2:=Qq (show Xh lg base []=3 by rw [HE.out,HB.out,decide_eq_true (show([]:List Stp).length=0 from rfl)];rfl);go_enter Tryz.func28,Tryz.ntmps28;go_wp2_with fail;refine(Tl lg _).mono ?_;rintro e w1 ⟨rfl,hx⟩;rw [HK.out];have X1:=Qq (X0.out.trans hx);have XX:=Qq hx;have y1:=(hx.cell (p:=⟨w.heap.size,1,none⟩) ZLT.out).trans Z.out.1;clear hx;go_wp2_with fail;refine(Nv _ base _ (H.out.ext X1.out).1).mono ?_;rintro e w2 ⟨rfl,hx⟩;rw [HB.out];have X2:=Qq (X1.out.trans hx);have x2:=(hx.cell (p:=⟨w.heap.size,2,none⟩) (Qy ZLT.out XX.out.size)).trans ((XX.out.cell (p:=⟨w.heap.size,2,none⟩) ZLT.out).trans Z.out.2)
   clear hx;go_wp2_with fail;go_ret;exact⟨by rw [HE2.out] <;> rfl,X2.out⟩
  have hl1:((steps.length:Int)==0)=false:=beq_eq_false_iff_ne.2 (by omega);by_cases hl4:4096 < steps.length
  ·have hl5:(4096:Int) < (steps.length:Int):=by omega
   have HE2:=Qq (show Xh lg base steps=3 by rw [HE.out,HB.out,decide_eq_false hl0,decide_eq_true hl4];rfl);clear hl0;go_enter Tryz.func28,Tryz.ntmps28;go_wp2_with fail;refine(Tl lg _).mono ?_;rintro e w1 ⟨rfl,hx⟩;rw [HK.out];have X1:=Qq (X0.out.trans hx);have XX:=Qq hx;have y1:=(hx.cell (p:=⟨w.heap.size,1,none⟩) ZLT.out).trans Z.out.1;clear hx;go_wp2_with fail;refine(Nv _ base _ (H.out.ext X1.out).1).mono ?_;rintro e w2 ⟨rfl,hx⟩;rw [HB.out];have X2:=Qq (X1.out.trans hx);have x2:=(hx.cell (p:=⟨w.heap.size,2,none⟩) (Qy ZLT.out XX.out.size)).trans ((XX.out.cell (p:=⟨w.heap.size,2,none⟩) ZLT.out).trans Z.out.2)
   clear hx;go_wp2_with fail;go_ret;exact⟨by rw [HE2.out] <;> rfl,X2.out⟩
  have hl5:¬(4096:Int) < (steps.length:Int):=by omega
  have HE2:=Qq (show Xh lg base steps=0 by rw [HE.out,HB.out,decide_eq_false hl0,decide_eq_false hl4];rfl);clear hl0;go_enter Tryz.func28,Tryz.ntmps28;go_wp2_with fail;refine(Tl lg _).mono ?_;rintro e w1 ⟨rfl,hx⟩;rw [HK.out];have X1:=Qq (X0.out.trans hx);have XX:=Qq hx;have y1:=(hx.cell (p:=⟨w.heap.size,1,none⟩) ZLT.out).trans Z.out.1;clear hx;go_wp2_with fail;refine(Nv _ base _ (H.out.ext X1.out).1).mono ?_;rintro e w2 ⟨rfl,hx⟩;rw [HB.out];have X2:=Qq (X1.out.trans hx);have x2:=(hx.cell (p:=⟨w.heap.size,2,none⟩) (Qy ZLT.out XX.out.size)).trans ((XX.out.cell (p:=⟨w.heap.size,2,none⟩) ZLT.out).trans Z.out.2)
  clear hx;go_wp2_with fail;go_ret;exact⟨by rw [HE2.out] <;> rfl,X2.out⟩
 have HB1:=Qq (show(Zt base !=0)=true by simpa using hb0);have hb2:(Zt base==0)=false:=by simpa using hb0
 clear hb0;have hb1:=HB1.out;go_enter Tryz.func28,Tryz.ntmps28;go_wp2_with fail;refine(Tl lg _).mono ?_;rintro e w1 ⟨rfl,hx⟩;rw [HK.out];have X1:=Qq (X0.out.trans hx);have XX:=Qq hx;have y1:=(hx.cell (p:=⟨w.heap.size,1,none⟩) ZLT.out).trans Z.out.1;clear hx;go_wp2_with fail;refine(Nv _ base _ (H.out.ext X1.out).1).mono ?_;rintro e w2 ⟨rfl,hx⟩;have X2:=Qq (X1.out.trans hx);have x2:=(hx.cell (p:=⟨w.heap.size,2,none⟩) (Qy ZLT.out XX.out.size)).trans ((XX.out.cell (p:=⟨w.heap.size,2,none⟩) ZLT.out).trans Z.out.2);clear hx;go_wp2_with fail;go_ret;exact⟨by rw [HE.out,HB1.out] <;> rfl,X2.out⟩
section
variable {w:World} {b:Nat} {lg:Int} {base:List Nd} {steps:List Stp} {opps:List Int}
theorem Bt(h:Xy w b lg base steps opps)(node other:Int):
 Calls Tryz.prog 86 #[.pointer (some ⟨b,0,none⟩),.int .i64 node,.int .i64 other] w fun e w'=>e=.returned (.bool (Vc opps node other))/\Ext w w':=by
 obtain⟨Ab,cb,As,cs,Ao,co,d0,d1,d2,d3,_,_,A',c',e',hcap,hmax,hr⟩:=h.cells;injection e' with e1 _ e2;subst e1 e2;unfold maxLen at hmax;clear h;by_cases h0:0<=node
 ·by_cases h1:node < (opps.length:Int)
  ·by_cases h2:0<=other
   ·obtain⟨k,rfl⟩:=Int.eq_ofNat_of_zero_le h0;obtain⟨z,hz⟩:∃z,opps[k]?=some z:=⟨_,List.getElem?_eq_getElem (show k < opps.length by omega)⟩;obtain⟨ad,rfl,hb1,hc⟩:=hr (by intro e;rw [e]at h1;simp at h1;omega);have q:=hc k z hz;have HE:=Qq (show Vc opps (k:Int) other=(z==other) by
     unfold Vc;rw [decide_eq_true h0,decide_eq_true h1,decide_eq_true h2,Int.toNat_natCast,Qk,hz]
     rfl)
    clear hc hr hz;cases hq:z==other
    ·have HE2:=Qq (HE.out.trans hq);go_enter Tryz.func86,Tryz.ntmps86;go_wp2_with fail;go_ret;exact⟨by rw [HE2.out] <;> rfl,Qz⟩
    have HE2:=Qq (HE.out.trans hq);go_enter Tryz.func86,Tryz.ntmps86;go_wp2_with fail;go_ret;exact⟨by rw [HE2.out] <;> rfl,Qz⟩
   have HE:=Qq (show Vc opps node other=false by unfold Vc;rw [decide_eq_false h2];simp);clear hr;go_enter Tryz.func86,Tryz.ntmps86;go_wp2_with fail;go_ret;exact⟨by rw [HE.out] <;> rfl,Qz⟩
  have HE:=Qq (show Vc opps node other=false by unfold Vc;rw [decide_eq_false h1];simp);clear hr;go_enter Tryz.func86,Tryz.ntmps86;go_wp2_with fail;go_ret;exact⟨by rw [HE.out] <;> rfl,Qz⟩
 have HE:=Qq (show Vc opps node other=false by unfold Vc;rw [decide_eq_false h0];rfl);clear hr;go_enter Tryz.func86,Tryz.ntmps86;go_wp2_with fail;go_ret;exact⟨by rw [HE.out] <;> rfl,Qz⟩
end
theorem Qdg(s:Nat)(hs:s < 18446744073709551616)(node:Int)(w:World):Calls Tryz.prog 31 #[.int .u64 (s:Int),.int .i64 node] w fun e w'=>e=.returned (.bool (inS s node))/\w'=w:=by
 by_cases h0:0<=node
 ·by_cases h6:node < 64
  ·obtain⟨k,rfl⟩:=Int.eq_ofNat_of_zero_le h0;have hk:min k 64=k:=by omega
   have HE:=Qq (show inS s (k:Int)=s.testBit k by unfold inS;rw [decide_eq_true h0,decide_eq_true h6,Int.toNat_natCast];rfl);have hb:=Fq s k hs;go_enter Tryz.func31,Tryz.ntmps31;go_wp2_with fail;go_ret;exact⟨by rw [HE.out] <;> rfl,rfl⟩
  have HE:=Qq (show inS s node=false by unfold inS;rw [decide_eq_true h0,decide_eq_false h6];rfl);have h6d:decide (node < 64)=false:=decide_eq_false h6;go_enter Tryz.func31,Tryz.ntmps31;go_wp2_with fail;go_ret;exact⟨by rw [HE.out] <;> rfl,rfl⟩
 have HE:=Qq (show inS s node=false by unfold inS;rw [decide_eq_false h0];rfl);have h0d:decide (0<=node)=false:=decide_eq_false h0;go_enter Tryz.func31,Tryz.ntmps31;go_wp2_with fail;go_ret;exact⟨by rw [HE.out] <;> rfl,rfl⟩
theorem Jy(A:Option Addr)(c:Nat)(base:List Nd)(s:Nat)(hs:s < 18446744073709551616)(hn:1<=base.length/\base.length<=64)(w:World):
 Calls Tryz.prog 84 #[.slice A base.length c,.int .u64 (s:Int)] w fun e w'=>e=.returned (.bool (Kw base s))/\w'=w:=by
 have HE:=Qq (show Kw base s=decide (s < 2^base.length)from rfl);have hb:=Qx8 s base.length hs hn;have hw:IntKind.i64.wrap (64 - (base.length:Int))=64 - (base.length:Int):=by rw [IntKind.wrap_i64];omega
 have h0:¬(64 - (base.length:Int) < 0):=by omega
 have h1:min (64 - (base.length:Int)).toNat 64=64 - base.length:=by omega
 go_enter Tryz.func84,Tryz.ntmps84;go_wp2_with fail;go_ret;exact⟨by rw [HE.out] <;> rfl,rfl⟩
section
variable {w:World} {b:Nat} {lg:Int} {base:List Nd} {steps:List Stp} {opps:List Int}
def Stp.val(x:Stp)(ur:Value):Value:=.agg #[.int .u64 (x.set:Int),.int .i64 x.rule,.int .i64 x.on,.int .i64 x.e,ur]
def onV(base:List Nd)(x:Stp)(op:Int):Nd:=bif onN base x op then Kh base x else Nd.zero
theorem Qyl {s:Nat} {i:Int}(h:inS s i=true):0<=i/\i < 64:=by
 unfold inS at h;simp only [Bool.and_eq_true,decide_eq_true_eq]at h;exact⟨h.1,h.2.1⟩
theorem Uh(h:Xy w b lg base steps opps)(x:Stp)(hx:x.set < 18446744073709551616)(ur:Value)(op:Int):
 Calls Tryz.prog 88 #[.pointer (some ⟨b,0,none⟩),x.val ur,.int .i64 op] w fun e w'=>e=.returned (.tuple #[(onV base x op).val,.bool (onN base x op)])/\Ext w w':=by
 obtain⟨Ab,cb,As,cs,Ao,co,d0,d1,d2,d3,⟨⟨A',c',e',hcap,hmax,hr⟩,_⟩,_,_⟩:=h.cells;injection e' with e1 _ e2;subst e1 e2;unfold maxLen at hmax;have hb:=h.blt;have HR:=Qq hr;clear h hr;obtain⟨s,ru,on,e,fr⟩:=x;unfold Stp.val;simp only at hx⊢;obtain⟨z0,z1,z2,z3,z4,zfr,zlt⟩:=Jp (heap_alloc_new w (.cells #[.int .u64 (s:Int),.int .i64 ru,.int .i64 on,.int .i64 e,ur] 66));by_cases h1:(base.length:Int)<=on
 ·have HE:=Qq (show onN base ⟨s,ru,on,e,fr⟩ op=false by unfold onN;rw [decide_eq_true h1];rfl);have HV:=Qq (show onV base ⟨s,ru,on,e,fr⟩ op=Nd.zero by unfold onV;rw [HE.out];rfl);go_enter Tryz.func88,Tryz.ntmps88;go_wp2_with fail;refine wp_region_held_drew (S:=fun w'=>w'.cell? (⟨b,1,none⟩)=some (.slice Ab base.length cb)/\w'.cell? (⟨w.heap.size,0,none⟩)=some (.int .u64 (s:Int))/\w'.cell? (⟨w.heap.size,2,none⟩)=some (.int .i64 on)) (by kernel_rfl) ⟨xc hb d1,xc zlt z0,xc zlt z2⟩ (fun hHeld=> ?_);refine tk 0 hHeld ?_;refine tk 1 hHeld ?_;refine tk 2 hHeld ?_;refine tk 3 hHeld ?_;refine tk 4 hHeld ?_
  refine tk 5 hHeld ?_;refine tk 6 hHeld ?_;refine tk 7 hHeld ?_;refine tk 8 hHeld ?_;refine tk 9 hHeld ?_;refine un 10 hHeld ?_;refine un 11 hHeld ?_;refine un 12 hHeld ?_;refine un 13 hHeld ?_;refine un 14 hHeld ?_;refine un 15 hHeld ?_;refine tk 16 hHeld ?_;refine tk 17 hHeld ?_;refine un 18 hHeld ?_;refine un 19 hHeld ?_;refine un 20 hHeld ?_;refine un 21 hHeld ?_;refine un 22 hHeld ?_;refine un 23 hHeld ?_;refine un 24 hHeld ?_;refine un 25 hHeld ?_;refine un 26 hHeld ?_;refine un 27 hHeld ?_;refine un 28 hHeld ?_;refine un 29 hHeld ?_;refine tk 30 hHeld ?_;refine wpAnyH_done (by kernel_rfl) ?_ _
  go_wp2_with fail;exact bodyPost_ret (v:=.tuple #[Nd.zero.val,.bool false]) (by simp [results,Tryz.results88,go_sem];rfl) rfl ⟨by rw [HE.out,HV.out],by repeat(first|exact Qz|assumption|apply Ext.alloc|apply Ext.drew)⟩
 have h1d:decide ((base.length:Int)<=on)=false:=decide_eq_false h1;cases hin:inS s on
 ·have HIN:=Qq hin;have HE:=Qq (show onN base ⟨s,ru,on,e,fr⟩ op=false by unfold onN;rw [decide_eq_false h1];simp only [hin];rfl);have HV:=Qq (show onV base ⟨s,ru,on,e,fr⟩ op=Nd.zero by unfold onV;rw [HE.out];rfl);clear hin;go_enter Tryz.func88,Tryz.ntmps88;go_wp2_with fail;refine wp_region_held_drew (S:=fun w'=>w'.cell? (⟨b,1,none⟩)=some (.slice Ab base.length cb)/\w'.cell? (⟨w.heap.size,0,none⟩)=some (.int .u64 (s:Int))/\w'.cell? (⟨w.heap.size,2,none⟩)=some (.int .i64 on)) (by kernel_rfl) ⟨xc hb d1,xc zlt z0,xc zlt z2⟩ (fun hHeld=> ?_);refine tk 0 hHeld ?_;refine tk 1 hHeld ?_;refine tk 2 hHeld ?_
  refine tk 3 hHeld ?_;refine tk 4 hHeld ?_;refine tk 5 hHeld ?_;refine tk 6 hHeld ?_;refine tk 7 hHeld ?_;refine tk 8 hHeld ?_;refine tk 9 hHeld ?_;refine tk 10 hHeld ?_;refine tk 11 hHeld ?_;refine tk 12 hHeld ?_;refine tk 13 hHeld ?_;refine wpAnyH_ready (rs:= [14]) (by kernel_rfl) (by simp) ?_;refine AllReadyH.cons rfl (fun K hK=> ?_) AllReadyH.nil;go_simp
  (go_at_call 31;refine(Qdg s hx on _).mono ?_;rintro e w3 ⟨rfl,rfl⟩;rw [HIN.out])
  go_wp2_with fail;refine hK.out _ _ ⟨xc hb d1,xc zlt z0,xc zlt z2⟩ (fun hHeld=> ?_);clear hK K;refine Qd ?_;refine tk 15 hHeld ?_;refine tk 16 hHeld ?_;refine tk 17 hHeld ?_;refine un 18 hHeld ?_;refine un 19 hHeld ?_;refine un 20 hHeld ?_;refine un 21 hHeld ?_;refine un 22 hHeld ?_;refine un 23 hHeld ?_;refine un 24 hHeld ?_;refine un 25 hHeld ?_;refine un 26 hHeld ?_;refine un 27 hHeld ?_;refine un 28 hHeld ?_;refine un 29 hHeld ?_;refine tk 30 hHeld ?_;refine wpAnyH_done (by kernel_rfl) ?_ _;go_wp2_with fail;exact bodyPost_ret (v:=.tuple #[Nd.zero.val,.bool false]) (by simp [results,Tryz.results88,go_sem];rfl) rfl ⟨by rw [HE.out,HV.out],by repeat(first|exact Qz|assumption|apply Ext.alloc|apply Ext.drew)⟩
 obtain⟨h00,h64⟩:=Qyl hin;obtain⟨k,rfl⟩:=Int.eq_ofNat_of_zero_le h00;obtain⟨n,hn⟩:∃n,base[k]?=some n:=⟨_,List.getElem?_eq_getElem (by omega)⟩;obtain⟨ad,rfl,hblk,hcells⟩:=HR.out (by intro e;rw [e]at hn;simp at hn);obtain⟨q0,q1,q2,q3,q4,q5⟩:=hcells k n hn;have HIN:=Qq hin;have HN:=Qq (show base.getD (k:Int).toNat Nd.zero=n by rw [Int.toNat_natCast,Qk,hn];rfl);have hk1:(k:Int) < (base.length:Int):=by omega
 have hk2:decide (base.length<=k)=false:=decide_eq_false (by omega);have hqb:(ad.add (k*6)).block < w.heap.size:=by rw [Qn];exact hblk
 clear hin hcells hn;cases hop:n.op !=op
 ·have HE:=Qq (show onN base ⟨s,ru,k,e,fr⟩ op=true by unfold onN;rw [decide_eq_false h1];simp only [HIN.out,HN.out,hop];rfl);have HV:=Qq (show onV base ⟨s,ru,k,e,fr⟩ op=n by unfold onV;rw [HE.out];exact HN.out);go_enter Tryz.func88,Tryz.ntmps88;go_wp2_with fail;refine wp_region_held_drew (S:=fun w'=>w'.cell? (⟨b,1,none⟩)=some (.slice (some ad) base.length cb)/\w'.cell? (⟨w.heap.size,0,none⟩)=some (.int .u64 (s:Int))/\w'.cell? (⟨w.heap.size,2,none⟩)=some (.int .i64 (k:Int))/\w'.cell? (ad.add (k*6))=some (.int .i64 n.op)) (by kernel_rfl) ⟨xc hb d1,xc zlt z0,xc zlt z2,xc hqb q0⟩ (fun hHeld=> ?_);refine tk 0 hHeld ?_
  refine tk 1 hHeld ?_;refine tk 2 hHeld ?_;refine tk 3 hHeld ?_;refine tk 4 hHeld ?_;refine tk 5 hHeld ?_;refine tk 6 hHeld ?_;refine tk 7 hHeld ?_;refine tk 8 hHeld ?_;refine tk 9 hHeld ?_;refine tk 10 hHeld ?_;refine tk 11 hHeld ?_;refine tk 12 hHeld ?_;refine tk 13 hHeld ?_;refine wpAnyH_ready (rs:= [14]) (by kernel_rfl) (by simp) ?_;refine AllReadyH.cons rfl (fun K hK=> ?_) AllReadyH.nil;go_simp
  (go_at_call 31;refine(Qdg s hx (k:Int) _).mono ?_;rintro e w3 ⟨rfl,rfl⟩;rw [HIN.out])
  go_wp2_with fail;refine hK.out _ _ ⟨xc hb d1,xc zlt z0,xc zlt z2,xc hqb q0⟩ (fun hHeld=> ?_);clear hK K;refine Qd ?_;refine tk 15 hHeld ?_;refine tk 16 hHeld ?_;refine tk 17 hHeld ?_;refine tk 18 hHeld ?_;refine tk 19 hHeld ?_;refine tk 20 hHeld ?_;refine tk 21 hHeld ?_;refine tk 22 hHeld ?_;refine tk 23 hHeld ?_;refine tk 24 hHeld ?_;refine tk 25 hHeld ?_;refine tk 26 hHeld ?_;refine tk 27 hHeld ?_;refine tk 28 hHeld ?_;refine tk 29 hHeld ?_;refine tk 30 hHeld ?_;refine wpAnyH_done (by kernel_rfl) ?_ _;go_wp2_with fail;refine wp_region_held_drew (S:=fun w'=>w'.cell? (⟨b,1,none⟩)=some (.slice (some ad) base.length cb)/\w'.cell? (⟨w.heap.size,0,none⟩)=some (.int .u64 (s:Int))/\w'.cell? (⟨w.heap.size,2,none⟩)=some (.int .i64 (k:Int))/\w'.cell? (ad.add (k*6))=some (.int .i64 n.op)/\w'.cell? (⟨(ad.add (k*6)).block,(ad.add (k*6)).off+1,none⟩)=some (.int .i64 n.i)/\w'.cell? (⟨(ad.add (k*6)).block,(ad.add (k*6)).off+2,none⟩)=some (.int .i64 n.e)/\w'.cell? (⟨(ad.add (k*6)).block,(ad.add (k*6)).off+3,none⟩)=some (.int .i64 n.g)/\w'.cell? (⟨(ad.add (k*6)).block,(ad.add (k*6)).off+4,none⟩)=some (.int .i64 n.x)/\w'.cell? (⟨(ad.add (k*6)).block,(ad.add (k*6)).off+5,none⟩)=some (.int .i64 n.y)) (by kernel_rfl) ⟨xc hb d1,xc zlt z0,xc zlt z2,xc hqb q0,xc hqb q1,xc hqb q2,xc hqb q3,xc hqb q4,xc hqb q5⟩ (fun hHeld=> ?_)
  refine tk 0 hHeld ?_;refine tk 1 hHeld ?_;refine tk 2 hHeld ?_;refine tk 3 hHeld ?_;refine tk 4 hHeld ?_;refine tk 5 hHeld ?_;refine tk 6 hHeld ?_;refine tk 7 hHeld ?_;refine tk 8 hHeld ?_;refine wpAnyH_ready (rs:= [9]) (by kernel_rfl) (by simp) ?_;refine AllReadyH.cons rfl (fun K hK=> ?_) AllReadyH.nil;go_simp;refine hK.out _ _ ⟨xc hb d1,xc zlt z0,xc zlt z2,xc hqb q0,xc hqb q1,xc hqb q2,xc hqb q3,xc hqb q4,xc hqb q5⟩ (fun hHeld=> ?_);clear hK K;refine Qd ?_;refine tk 10 hHeld ?_;refine wpAnyH_done (by kernel_rfl) ?_ _;go_wp2_with fail;exact bodyPost_ret (v:=.tuple #[n.val,.bool true]) (by simp [results,Tryz.results88,go_sem];rfl) rfl ⟨by rw [HE.out,HV.out],by repeat(first|exact Qz|assumption|apply Ext.alloc|apply Ext.drew)⟩
 have HE:=Qq (show onN base ⟨s,ru,k,e,fr⟩ op=false by unfold onN;rw [decide_eq_false h1];simp only [HIN.out,HN.out,hop];rfl);have HV:=Qq (show onV base ⟨s,ru,k,e,fr⟩ op=Nd.zero by unfold onV;rw [HE.out];rfl);go_enter Tryz.func88,Tryz.ntmps88;go_wp2_with fail;refine wp_region_held_drew (S:=fun w'=>w'.cell? (⟨b,1,none⟩)=some (.slice (some ad) base.length cb)/\w'.cell? (⟨w.heap.size,0,none⟩)=some (.int .u64 (s:Int))/\w'.cell? (⟨w.heap.size,2,none⟩)=some (.int .i64 (k:Int))/\w'.cell? (ad.add (k*6))=some (.int .i64 n.op)) (by kernel_rfl) ⟨xc hb d1,xc zlt z0,xc zlt z2,xc hqb q0⟩ (fun hHeld=> ?_);refine tk 0 hHeld ?_
 refine tk 1 hHeld ?_;refine tk 2 hHeld ?_;refine tk 3 hHeld ?_;refine tk 4 hHeld ?_;refine tk 5 hHeld ?_;refine tk 6 hHeld ?_;refine tk 7 hHeld ?_;refine tk 8 hHeld ?_;refine tk 9 hHeld ?_;refine tk 10 hHeld ?_;refine tk 11 hHeld ?_;refine tk 12 hHeld ?_;refine tk 13 hHeld ?_;refine wpAnyH_ready (rs:= [14]) (by kernel_rfl) (by simp) ?_;refine AllReadyH.cons rfl (fun K hK=> ?_) AllReadyH.nil;go_simp
 (go_at_call 31;refine(Qdg s hx (k:Int) _).mono ?_;rintro e w3 ⟨rfl,rfl⟩;rw [HIN.out])
 go_wp2_with fail;refine hK.out _ _ ⟨xc hb d1,xc zlt z0,xc zlt z2,xc hqb q0⟩ (fun hHeld=> ?_);clear hK K;refine Qd ?_;refine tk 15 hHeld ?_;refine tk 16 hHeld ?_;refine tk 17 hHeld ?_;refine tk 18 hHeld ?_;refine tk 19 hHeld ?_;refine tk 20 hHeld ?_;refine tk 21 hHeld ?_;refine tk 22 hHeld ?_;refine tk 23 hHeld ?_;refine tk 24 hHeld ?_;refine tk 25 hHeld ?_;refine tk 26 hHeld ?_;refine tk 27 hHeld ?_;refine tk 28 hHeld ?_;refine tk 29 hHeld ?_;refine tk 30 hHeld ?_;refine wpAnyH_done (by kernel_rfl) ?_ _;go_wp2_with fail;exact bodyPost_ret (v:=.tuple #[Nd.zero.val,.bool false]) (by simp [results,Tryz.results88,go_sem];rfl) rfl ⟨by rw [HE.out,HV.out],by repeat(first|exact Qz|assumption|apply Ext.alloc|apply Ext.drew)⟩
end
def Qwz(lg:Int):List Int:=bif lg==0 then [1,2,3,4,5,6]else bif lg==1 then [5]else bif lg==2 then [4,6]else bif lg==3 then [4,5,6]else bif lg==4 then [6]else []
def Qw1(a b:Int):Bool:=(!Bk a||Bk b)&&((!Nj a||Nj b)&&((!(a==2||(a==4||a==6))||(b==2||(b==4||b==6)))&&(!(a==1||a==5)||(b==1||b==5))))
theorem Km {l:List Stp} {j:Nat} {x:Stp}(h:l[j]?=some x):l.getD j Stp.zero=x:=by rw [Qk,h];rfl
theorem Xy.rows {w:World} {b:Nat} {lg:Int} {base:List Nd} {steps:List Stp} {opps:List Int}(h:Xy w b lg base steps opps)(hn:steps≠ []):
 ∃(ad:Addr) (c:Nat),steps.length<=c/\c<=9223372036854775807/\ad.block < w.heap.size/\w.cell? ⟨b,2,none⟩=some (.slice (some ad) steps.length c)/\∀(i:Nat) (n:Stp),steps[i]?=some n->Qk3 w (ad.add (i*5)) n:=by
 obtain⟨vb,vs,vo,hb,_,⟨A,c,rfl,h1,h2,h3⟩,_⟩:=h.all;obtain⟨d0,d1,d2,d3,_,_⟩:=Cj hb;obtain⟨ad,rfl,hlt,hc⟩:=h3 hn;unfold maxLen at h2;exact⟨ad,c,h1,by omega,hlt,d2,hc⟩
theorem Qyf {α:Type} {l:List α} {k:Nat} {a:α}(h:l[k]?=some a):l.drop k=a :: l.drop (k+1):=by
 obtain⟨hk,e⟩:=List.getElem?_eq_some_iff.1 h;rw [List.drop_eq_getElem_cons hk,e]
theorem Qr4 {steps:List Stp} {at_:Nat} {fr:List Int} {sets:List Nat} {k:Nat} {j:Int} {s:Nat}(hj:fr[k]?=some j)(hs:sets[k]?=some s):
 Nq steps at_ (fr.drop k) (sets.drop k)=bif decide (j < 0)||(decide ((at_:Int)<=j)|| !Yd (steps.getD j.toNat Stp.zero).set s)then false else Nq steps at_ (fr.drop (k+1)) (sets.drop (k+1)):=by
 rw [Qyf hj,Qyf hs,Nq]
theorem Vd {w:World} {b:Nat} {lg:Int} {base:List Nd} {steps:List Stp} {opps:List Int}(h:Xy w b lg base steps opps)(at_:Nat)(hat:at_ < steps.length)(u:Value)(sets:List Nat)(hs:Sy w u sets):
 Calls Tryz.prog 87 #[.pointer (some ⟨b,0,none⟩),.int .i64 (at_:Int),u] w fun e w'=>e=.returned (.bool (Ja steps at_ sets))/\Ext w w':=by
 obtain⟨x,hx⟩:∃x,steps[at_]?=some x:=⟨_,Qv hat⟩;obtain⟨ad,c,h1,h2,hblk,d2,hrow⟩:=h.rows (by intro e;rw [e]at hat;simp at hat);obtain⟨ur,q0,q1,q2,q3,q4,⟨Af,cf,rfl,hcapf,hmaxf,hrf⟩,hset⟩:=hrow at_ x hx;obtain⟨Au,cu,rfl,hcapu,hmaxu,hru⟩:=hs;unfold maxLen at hmaxf hmaxu;have hblt:=h.blt;have HROW:=Qq hrow;have HRF:=Qq hrf;have HRU:=Qq hru;have HP:=Qq (show Ja steps at_ sets=(x.from_.length==sets.length&&Nq steps at_ x.from_ sets) by unfold Ja;rw [Km hx]);have ha1:(at_:Int) < (steps.length:Int):=by omega
 have ha0:(0:Int)<=(at_:Int):=by omega
 clear h hx hrf hru hrow hset q0 q1 q2 q3;by_cases hl:x.from_.length=sets.length
 ·have HP2:=Qq (show Ja steps at_ sets=Nq steps at_ x.from_ sets by rw [HP.out,hl];simp);go_enter Tryz.func87,Tryz.ntmps87;go_wp2_with fail;go_loopw [26] (fun vi wr=>∃k:Nat,vi=.int .i64 (k:Int)/\k<=sets.length/\Hid (Ja steps at_ sets=Nq steps at_ (x.from_.drop k) (sets.drop k))/\Hid (Ext w wr)) (fun vi _=>sets.length - (intOf vi).toNat)
  case atStart=>exact⟨0,rfl,Nat.zero_le _,Qq (by rw [HP2.out];rfl),Qq Qz⟩
  case round =>
   obtain⟨k,rfl,hk,HO,HX⟩:=hrel;by_cases hlt2:k < sets.length
   ·obtain⟨s,hs⟩:∃s,sets[k]?=some s:=⟨_,Qv hlt2⟩;obtain⟨j,hj⟩:∃j,x.from_[k]?=some j:=⟨_,List.getElem?_eq_getElem (by omega)⟩;obtain⟨adf,rfl,hbf,hcf⟩:=HRF.out (by intro e;rw [e]at hj;simp at hj);obtain⟨adu,rfl,hbu,hcu⟩:=HRU.out (by intro e;rw [e]at hs;simp at hs);obtain⟨hu0,hs64⟩:=hcu k s hs;have a0:=(HX.out.cell (p:=adf.add k) (Qj hbf)).trans (hcf k j hj);have b0:=(HX.out.cell (p:=adu.add k) (Qj hbu)).trans hu0;have c2:=(HX.out.cell (p:=⟨b,2,none⟩) hblt).trans d2;have HST:=Qq (Qr4 (steps:=steps) (at_:=at_) hj hs);have hk0:(0:Int)<=(k:Int):=by omega
    have hk1:(k:Int) < (sets.length:Int):=by omega
    have hk2:(k:Int) < (x.from_.length:Int):=by omega
    clear hcf hcu hu0 hs hj;by_cases hj0:j < 0
    ·have HE:=Qq (show Ja steps at_ sets=false by rw [HO.out,HST.out,decide_eq_true hj0];rfl);go_wp2_with fail;go_quiet (fail);go_wp2_with fail;go_ret;exact⟨by rw [HE.out] <;> rfl,HX.out.drewN _⟩
    obtain⟨jn,rfl⟩:=Int.eq_ofNat_of_zero_le (show 0<=j by omega);have hjl0:(0:Int)<=(jn:Int):=by omega
    have haf:(adf.add k).block < wr.heap.size:=by rw [Qn];exact Qy hbf HX.out.size
    by_cases hja:at_<=jn
    ·have HE:=Qq (show Ja steps at_ sets=false by rw [HO.out,HST.out,decide_eq_false hj0,decide_eq_true (show(at_:Int)<=(jn:Int) by omega)];rfl);have hja1:(at_:Int)<=(jn:Int):=by omega
     have hja2:decide (at_<=jn)=true:=decide_eq_true hja;go_wp2_with fail;refine wp_region_held_drew (S:=fun w'=>w'.cell? (adf.add k)=some (.int .i64 (jn:Int))) (by kernel_rfl) ((Ext.cell xw haf).trans a0) (fun hHeld=> ?_);refine tk 0 hHeld ?_;refine tk 1 hHeld ?_;refine tk 2 hHeld ?_;refine tk 3 hHeld ?_;refine tk 4 hHeld ?_;refine tk 5 hHeld ?_;refine tk 6 hHeld ?_;refine tk 7 hHeld ?_;refine tk 8 hHeld ?_;refine tk 9 hHeld ?_;refine tk 10 hHeld ?_;refine tk 11 hHeld ?_;refine tk 12 hHeld ?_;refine tk 13 hHeld ?_;refine un 14 hHeld ?_;refine un 15 hHeld ?_;refine un 16 hHeld ?_;refine un 17 hHeld ?_
     refine un 18 hHeld ?_;refine un 19 hHeld ?_;refine un 20 hHeld ?_;refine un 21 hHeld ?_;refine un 22 hHeld ?_;refine un 23 hHeld ?_;refine un 24 hHeld ?_;refine un 25 hHeld ?_;refine un 26 hHeld ?_;refine un 27 hHeld ?_;refine un 28 hHeld ?_;refine tk 29 hHeld ?_;refine wpAnyH_done (by kernel_rfl) ?_ _;go_wp2_with fail;go_ret;exact⟨by rw [HE.out] <;> rfl,HX.out.trans xw⟩
    have hja1:¬(at_:Int)<=(jn:Int):=by omega
    have hja2:decide (at_<=jn)=false:=decide_eq_false hja;have hjl:jn < steps.length:=by omega
    obtain⟨y,hy⟩:∃y,steps[jn]?=some y:=⟨_,Qv hjl⟩;obtain⟨_,r0,_,_,_,_,_,hy64⟩:=HROW.out jn y hy;have r0:=(HX.out.cell (p:=ad.add (jn*5)) (Qj hblk)).trans r0;have hjl1:(jn:Int) < (steps.length:Int):=by omega
    have HJ:=Qq (show Ja steps at_ sets=bif !Yd y.set s then false else Nq steps at_ (x.from_.drop (k+1)) (sets.drop (k+1)) by
     rw [HO.out,HST.out,decide_eq_false hj0,decide_eq_false hja1,Int.toNat_natCast,Km hy];rfl)
    have hb2w:b < wr.heap.size:=Qy hblt HX.out.size;have hadw:(ad.add (jn*5)).block < wr.heap.size:=by rw [Qn];exact Qy hblk HX.out.size
    have hb:=Qz7 y.set s hy64 hs64;clear hy;cases hsub:Yd y.set s
    ·have HE:=Qq (show Ja steps at_ sets=false by rw [HJ.out,hsub];rfl);rw [hsub]at hb;have hb2:(bits .andNot .u64 (y.set:Int) (s:Int) !=0)=true:=by rw [bne,hb];rfl
     go_wp2_with fail;refine wp_region_held_drew (S:=fun w'=>w'.cell? (adf.add k)=some (.int .i64 (jn:Int))/\w'.cell? (⟨b,2,none⟩)=some (.slice (some ad) steps.length c)/\w'.cell? (ad.add (jn*5))=some (.int .u64 (y.set:Int))) (by kernel_rfl) ⟨(Ext.cell xw haf).trans a0,(Ext.cell xw hb2w).trans c2,(Ext.cell xw hadw).trans r0⟩ (fun hHeld=> ?_);refine tk 0 hHeld ?_;refine tk 1 hHeld ?_;refine tk 2 hHeld ?_;refine tk 3 hHeld ?_;refine tk 4 hHeld ?_;refine tk 5 hHeld ?_;refine tk 6 hHeld ?_;refine tk 7 hHeld ?_;refine tk 8 hHeld ?_;refine tk 9 hHeld ?_;refine tk 10 hHeld ?_;refine tk 11 hHeld ?_;refine tk 12 hHeld ?_
     refine tk 13 hHeld ?_;refine tk 14 hHeld ?_;refine tk 15 hHeld ?_;refine tk 16 hHeld ?_;refine tk 17 hHeld ?_;refine tk 18 hHeld ?_;refine tk 19 hHeld ?_;refine tk 20 hHeld ?_;refine tk 21 hHeld ?_;refine tk 22 hHeld ?_;refine tk 23 hHeld ?_;refine tk 24 hHeld ?_;refine tk 25 hHeld ?_;refine tk 26 hHeld ?_;refine tk 27 hHeld ?_;refine tk 28 hHeld ?_;refine tk 29 hHeld ?_;refine wpAnyH_done (by kernel_rfl) ?_ _;go_wp2_with fail;go_ret;exact⟨by rw [HE.out] <;> rfl,HX.out.trans xw⟩
    have HE:=Qq (show Ja steps at_ sets=Nq steps at_ (x.from_.drop (k+1)) (sets.drop (k+1)) by rw [HJ.out,hsub];rfl);rw [hsub]at hb;have hb2:(bits .andNot .u64 (y.set:Int) (s:Int) !=0)=false:=by rw [bne,hb];rfl
    go_wp2_with fail;refine wp_region_held_drew (S:=fun w'=>w'.cell? (adf.add k)=some (.int .i64 (jn:Int))/\w'.cell? (⟨b,2,none⟩)=some (.slice (some ad) steps.length c)/\w'.cell? (ad.add (jn*5))=some (.int .u64 (y.set:Int))) (by kernel_rfl) ⟨(Ext.cell xw haf).trans a0,(Ext.cell xw hb2w).trans c2,(Ext.cell xw hadw).trans r0⟩ (fun hHeld=> ?_);refine tk 0 hHeld ?_;refine tk 1 hHeld ?_;refine tk 2 hHeld ?_;refine tk 3 hHeld ?_;refine tk 4 hHeld ?_;refine tk 5 hHeld ?_;refine tk 6 hHeld ?_;refine tk 7 hHeld ?_;refine tk 8 hHeld ?_;refine tk 9 hHeld ?_;refine tk 10 hHeld ?_;refine tk 11 hHeld ?_;refine tk 12 hHeld ?_
    refine tk 13 hHeld ?_;refine tk 14 hHeld ?_;refine tk 15 hHeld ?_;refine tk 16 hHeld ?_;refine tk 17 hHeld ?_;refine tk 18 hHeld ?_;refine tk 19 hHeld ?_;refine tk 20 hHeld ?_;refine tk 21 hHeld ?_;refine tk 22 hHeld ?_;refine tk 23 hHeld ?_;refine tk 24 hHeld ?_;refine tk 25 hHeld ?_;refine tk 26 hHeld ?_;refine tk 27 hHeld ?_;refine tk 28 hHeld ?_;refine tk 29 hHeld ?_;refine wpAnyH_done (by kernel_rfl) ?_ _;go_wp2_with fail;go_roundw
    case rel=>exact⟨k+1,by go_num,by omega,HE,Qq (HX.out.trans xw)⟩
    case measure=>simp [intOf];omega
   obtain rfl:sets.length=k:=by omega
   have HE:=Qq (show Ja steps at_ sets=true by rw [HO.out,List.drop_length,<-hl,List.drop_length];rfl);go_wp2_with fail;go_ret;exact⟨by rw [HE.out] <;> rfl,HX.out⟩
 have HE:=Qq (show Ja steps at_ sets=false by
  rw [HP.out];have:(x.from_.length==sets.length)=false:=beq_eq_false_iff_ne.2 hl;rw [this];rfl)
 go_enter Tryz.func87,Tryz.ntmps87;go_wp2_with fail;go_ret;exact⟨by rw [HE.out] <;> rfl,Qz⟩
theorem Qdw {w:World} {b:Nat} {lg:Int} {base:List Nd} {steps:List Stp} {opps:List Int}(h:Xy w b lg base steps opps)(at_:Nat)(hat:at_ < steps.length):
 Calls Tryz.prog 85 #[.pointer (some ⟨b,0,none⟩),.int .i64 (at_:Int)] w fun e w'=>e=.returned (.bool (Gf base opps steps at_))/\Ext w w':=by
 obtain⟨x,hx⟩:∃x,steps[at_]?=some x:=⟨_,Qv hat⟩;obtain⟨ad,c,h1,h2,hblk,d2,hrow⟩:=h.rows (by intro e;rw [e]at hat;simp at hat);obtain⟨ur,q0,q1,q2,q3,q4,⟨Af,cf,rfl,_⟩,hset⟩:=hrow at_ x hx;have H:=Qq h;have HAT:=Qq hat;have HC:=Qq (show Gf base opps steps at_=bif onN base x 2&&x.e==0 then Ja steps at_ []else inS x.set x.on&&(inS x.set x.e&&(Vc opps x.on x.e&&Ja steps at_ [])) by unfold Gf;rw [Km hx]);have ha1:(at_:Int) < (steps.length:Int):=by omega
 have ha0:(0:Int)<=(at_:Int):=by omega
 obtain⟨s,ru,on,e,fr⟩:=x;simp only at q0 q1 q2 q3 q4 hset HC;obtain⟨z0,z1,z2,z3,z4,zfr,zlt⟩:=Jp (heap_alloc_new w (.cells #[.int .u64 (s:Int),.int .i64 ru,.int .i64 on,.int .i64 e,.slice Af fr.length cf] 66));have Z:=Qq (And.intro z0 (And.intro z2 z3));have ZLT:=Qq zlt;have X0:=Qq ((Ext.refl w).alloc (.cells #[.int .u64 (s:Int),.int .i64 ru,.int .i64 on,.int .i64 e,.slice Af fr.length cf] 66));obtain⟨n,hn⟩:∃n,n=onV base ⟨s,ru,on,e,fr⟩ 2:=⟨_,rfl⟩;have HNV:=Qq hn.symm;clear hn;clear h hx hrow hat z0 z1 z2 z3 z4 zfr zlt;cases hon:onN base ⟨s,ru,on,e,fr⟩ 2
 ·have HON:=Qq hon;clear hon;go_enter Tryz.func85,Tryz.ntmps85;go_wp2_with fail;refine(Uh (H.out.ext (X0.out.trans xw)) ⟨s,ru,on,e,fr⟩ hset (.slice Af fr.length cf) 2).mono ?_;rintro e2 w1 ⟨rfl,hx⟩;rw [HNV.out,HON.out];unfold Nd.val;have X1:=Qq ((Ext.trans (show Ext (w.alloc (.cells #[.int .u64 (s:Int),.int .i64 ru,.int .i64 on,.int .i64 e,.slice Af fr.length cf] 66)) _ by repeat(first|exact Qz|assumption|apply Ext.alloc|apply Ext.drew)) hx).alloc (.cells #[.int .i64 n.op,.int .i64 n.i,.int .i64 n.e,.int .i64 n.g,.int .i64 n.x,.int .i64 n.y] 64));have z0a:=(X1.out.cell (p:=⟨w.heap.size,0,none⟩) ZLT.out).trans Z.out.1
  have z2a:=(X1.out.cell (p:=⟨w.heap.size,2,none⟩) ZLT.out).trans Z.out.2.1;have z3a:=(X1.out.cell (p:=⟨w.heap.size,3,none⟩) ZLT.out).trans Z.out.2.2;clear hx;cases h1:inS s on
  ·have H1:=Qq h1;go_wp2_with fail;refine(Ji s hset on _).mono ?_;rintro e2 w2 ⟨rfl,hx⟩;rw [H1.out];have X2:=Qq (X1.out.trans (Ext.trans xw hx));have z0b:=(X2.out.cell (p:=⟨w.heap.size,0,none⟩) ZLT.out).trans Z.out.1;have z2b:=(X2.out.cell (p:=⟨w.heap.size,2,none⟩) ZLT.out).trans Z.out.2.1;have z3b:=(X2.out.cell (p:=⟨w.heap.size,3,none⟩) ZLT.out).trans Z.out.2.2;clear hx;have HE:=Qq (show Gf base opps steps at_=false by rw [HC.out,HON.out,H1.out];rfl);go_wp2_with fail;go_ret;exact⟨by rw [HE.out] <;> rfl,X0.out.trans (X2.out.trans xw)⟩
  have H1:=Qq h1;go_wp2_with fail;refine(Ji s hset on _).mono ?_;rintro e2 w2 ⟨rfl,hx⟩;rw [H1.out];have X2:=Qq (X1.out.trans (Ext.trans xw hx));have z0b:=(X2.out.cell (p:=⟨w.heap.size,0,none⟩) ZLT.out).trans Z.out.1;have z2b:=(X2.out.cell (p:=⟨w.heap.size,2,none⟩) ZLT.out).trans Z.out.2.1;have z3b:=(X2.out.cell (p:=⟨w.heap.size,3,none⟩) ZLT.out).trans Z.out.2.2;clear hx;cases h2:inS s e
  ·have H2:=Qq h2;go_wp2_with fail;refine(Ji s hset e _).mono ?_;rintro e2 w3 ⟨rfl,hx⟩;rw [H2.out];have X3:=Qq (X2.out.trans (Ext.trans xw hx));have z0c:=(X3.out.cell (p:=⟨w.heap.size,0,none⟩) ZLT.out).trans Z.out.1;have z2c:=(X3.out.cell (p:=⟨w.heap.size,2,none⟩) ZLT.out).trans Z.out.2.1;have z3c:=(X3.out.cell (p:=⟨w.heap.size,3,none⟩) ZLT.out).trans Z.out.2.2;clear hx;have HE:=Qq (show Gf base opps steps at_=false by rw [HC.out,HON.out,H1.out,H2.out];rfl);go_wp2_with fail;go_ret;exact⟨by rw [HE.out] <;> rfl,X0.out.trans (X3.out.trans xw)⟩
  have H2:=Qq h2;go_wp2_with fail;refine(Ji s hset e _).mono ?_;rintro e2 w3 ⟨rfl,hx⟩;rw [H2.out];have X3:=Qq (X2.out.trans (Ext.trans xw hx));have z0c:=(X3.out.cell (p:=⟨w.heap.size,0,none⟩) ZLT.out).trans Z.out.1;have z2c:=(X3.out.cell (p:=⟨w.heap.size,2,none⟩) ZLT.out).trans Z.out.2.1;have z3c:=(X3.out.cell (p:=⟨w.heap.size,3,none⟩) ZLT.out).trans Z.out.2.2;clear hx;cases h3:Vc opps on e
  ·have H3:=Qq h3;go_wp2_with fail;refine(Bt (H.out.ext (X0.out.trans (X3.out.trans xw))) on e).mono ?_;rintro e2 w4 ⟨rfl,hx⟩;rw [H3.out];have X4:=Qq (X3.out.trans (Ext.trans xw hx));clear hx;have HE:=Qq (show Gf base opps steps at_=false by rw [HC.out,HON.out,H1.out,H2.out,H3.out];rfl);go_wp2_with fail;go_ret;exact⟨by rw [HE.out] <;> rfl,X0.out.trans (X4.out.trans xw)⟩
  have H3:=Qq h3;go_wp2_with fail;refine(Bt (H.out.ext (X0.out.trans (X3.out.trans xw))) on e).mono ?_;rintro e2 w4 ⟨rfl,hx⟩;rw [H3.out];have X4:=Qq (X3.out.trans (Ext.trans xw hx));clear hx;go_wp2_with fail;refine(Vd (H.out.ext (X0.out.trans (X4.out.trans xw))) at_ HAT.out _ [] (Sy.none_ _)).mono ?_;rintro e2 w9 ⟨rfl,hx⟩;have HE:=Qq (show Gf base opps steps at_=Ja steps at_ [] by rw [HC.out,HON.out,H1.out,H2.out,H3.out];rfl);go_wp2_with fail;go_ret;exact⟨by rw [HE.out] <;> rfl,X0.out.trans (X4.out.trans (Ext.trans xw hx))⟩
 have HON:=Qq hon;clear hon;cases he:e==0
 ·have HEE:=Qq he;go_enter Tryz.func85,Tryz.ntmps85;go_wp2_with fail;refine(Uh (H.out.ext (X0.out.trans xw)) ⟨s,ru,on,e,fr⟩ hset (.slice Af fr.length cf) 2).mono ?_;rintro e2 w1 ⟨rfl,hx⟩;rw [HNV.out,HON.out];unfold Nd.val;have X1:=Qq ((Ext.trans (show Ext (w.alloc (.cells #[.int .u64 (s:Int),.int .i64 ru,.int .i64 on,.int .i64 e,.slice Af fr.length cf] 66)) _ by repeat(first|exact Qz|assumption|apply Ext.alloc|apply Ext.drew)) hx).alloc (.cells #[.int .i64 n.op,.int .i64 n.i,.int .i64 n.e,.int .i64 n.g,.int .i64 n.x,.int .i64 n.y] 64));have z0a:=(X1.out.cell (p:=⟨w.heap.size,0,none⟩) ZLT.out).trans Z.out.1
  have z2a:=(X1.out.cell (p:=⟨w.heap.size,2,none⟩) ZLT.out).trans Z.out.2.1;have z3a:=(X1.out.cell (p:=⟨w.heap.size,3,none⟩) ZLT.out).trans Z.out.2.2;clear hx;cases h1:inS s on
  ·have H1:=Qq h1;go_wp2_with fail;refine(Ji s hset on _).mono ?_;rintro e2 w2 ⟨rfl,hx⟩;rw [H1.out];have X2:=Qq (X1.out.trans (Ext.trans xw hx));have z0b:=(X2.out.cell (p:=⟨w.heap.size,0,none⟩) ZLT.out).trans Z.out.1;have z2b:=(X2.out.cell (p:=⟨w.heap.size,2,none⟩) ZLT.out).trans Z.out.2.1;have z3b:=(X2.out.cell (p:=⟨w.heap.size,3,none⟩) ZLT.out).trans Z.out.2.2;clear hx;have HE:=Qq (show Gf base opps steps at_=false by rw [HC.out,HON.out,HEE.out,H1.out];rfl);go_wp2_with fail;go_ret;exact⟨by rw [HE.out] <;> rfl,X0.out.trans (X2.out.trans xw)⟩
  have H1:=Qq h1;go_wp2_with fail;refine(Ji s hset on _).mono ?_;rintro e2 w2 ⟨rfl,hx⟩;rw [H1.out];have X2:=Qq (X1.out.trans (Ext.trans xw hx));have z0b:=(X2.out.cell (p:=⟨w.heap.size,0,none⟩) ZLT.out).trans Z.out.1;have z2b:=(X2.out.cell (p:=⟨w.heap.size,2,none⟩) ZLT.out).trans Z.out.2.1;have z3b:=(X2.out.cell (p:=⟨w.heap.size,3,none⟩) ZLT.out).trans Z.out.2.2;clear hx;cases h2:inS s e
  ·have H2:=Qq h2;go_wp2_with fail;refine(Ji s hset e _).mono ?_;rintro e2 w3 ⟨rfl,hx⟩;rw [H2.out];have X3:=Qq (X2.out.trans (Ext.trans xw hx));have z0c:=(X3.out.cell (p:=⟨w.heap.size,0,none⟩) ZLT.out).trans Z.out.1;have z2c:=(X3.out.cell (p:=⟨w.heap.size,2,none⟩) ZLT.out).trans Z.out.2.1;have z3c:=(X3.out.cell (p:=⟨w.heap.size,3,none⟩) ZLT.out).trans Z.out.2.2;clear hx;have HE:=Qq (show Gf base opps steps at_=false by rw [HC.out,HON.out,HEE.out,H1.out,H2.out];rfl);go_wp2_with fail;go_ret;exact⟨by rw [HE.out] <;> rfl,X0.out.trans (X3.out.trans xw)⟩
  have H2:=Qq h2;go_wp2_with fail;refine(Ji s hset e _).mono ?_;rintro e2 w3 ⟨rfl,hx⟩;rw [H2.out];have X3:=Qq (X2.out.trans (Ext.trans xw hx));have z0c:=(X3.out.cell (p:=⟨w.heap.size,0,none⟩) ZLT.out).trans Z.out.1;have z2c:=(X3.out.cell (p:=⟨w.heap.size,2,none⟩) ZLT.out).trans Z.out.2.1;have z3c:=(X3.out.cell (p:=⟨w.heap.size,3,none⟩) ZLT.out).trans Z.out.2.2;clear hx;cases h3:Vc opps on e
  ·have H3:=Qq h3;go_wp2_with fail;refine(Bt (H.out.ext (X0.out.trans (X3.out.trans xw))) on e).mono ?_;rintro e2 w4 ⟨rfl,hx⟩;rw [H3.out];have X4:=Qq (X3.out.trans (Ext.trans xw hx));clear hx;have HE:=Qq (show Gf base opps steps at_=false by rw [HC.out,HON.out,HEE.out,H1.out,H2.out,H3.out];rfl);go_wp2_with fail;go_ret;exact⟨by rw [HE.out] <;> rfl,X0.out.trans (X4.out.trans xw)⟩
  have H3:=Qq h3;go_wp2_with fail;refine(Bt (H.out.ext (X0.out.trans (X3.out.trans xw))) on e).mono ?_;rintro e2 w4 ⟨rfl,hx⟩;rw [H3.out];have X4:=Qq (X3.out.trans (Ext.trans xw hx));clear hx;go_wp2_with fail;refine(Vd (H.out.ext (X0.out.trans (X4.out.trans xw))) at_ HAT.out _ [] (Sy.none_ _)).mono ?_;rintro e2 w9 ⟨rfl,hx⟩;have HE:=Qq (show Gf base opps steps at_=Ja steps at_ [] by rw [HC.out,HON.out,HEE.out,H1.out,H2.out,H3.out];rfl);go_wp2_with fail;go_ret;exact⟨by rw [HE.out] <;> rfl,X0.out.trans (X4.out.trans (Ext.trans xw hx))⟩
 have HEE:=Qq he;go_enter Tryz.func85,Tryz.ntmps85;go_wp2_with fail;refine(Uh (H.out.ext (X0.out.trans xw)) ⟨s,ru,on,e,fr⟩ hset (.slice Af fr.length cf) 2).mono ?_;rintro e2 w1 ⟨rfl,hx⟩;rw [HNV.out,HON.out];unfold Nd.val;have X1:=Qq ((Ext.trans (show Ext (w.alloc (.cells #[.int .u64 (s:Int),.int .i64 ru,.int .i64 on,.int .i64 e,.slice Af fr.length cf] 66)) _ by repeat(first|exact Qz|assumption|apply Ext.alloc|apply Ext.drew)) hx).alloc (.cells #[.int .i64 n.op,.int .i64 n.i,.int .i64 n.e,.int .i64 n.g,.int .i64 n.x,.int .i64 n.y] 64));have z0a:=(X1.out.cell (p:=⟨w.heap.size,0,none⟩) ZLT.out).trans Z.out.1
 have z2a:=(X1.out.cell (p:=⟨w.heap.size,2,none⟩) ZLT.out).trans Z.out.2.1;have z3a:=(X1.out.cell (p:=⟨w.heap.size,3,none⟩) ZLT.out).trans Z.out.2.2;clear hx;go_wp2_with fail;refine(Vd (H.out.ext (X0.out.trans (X1.out.trans xw))) at_ HAT.out _ [] (Sy.none_ _)).mono ?_;rintro e2 w9 ⟨rfl,hx⟩;have HE:=Qq (show Gf base opps steps at_=Ja steps at_ [] by rw [HC.out,HON.out,HEE.out];rfl);go_wp2_with fail;go_ret;exact⟨by rw [HE.out] <;> rfl,X0.out.trans (X1.out.trans (Ext.trans xw hx))⟩
theorem Nn {w:World} {a:Int} {A B:Nat}(h:a=(A:Int))(hA:A < 18446744073709551616)(hB:B=w.heap.size):Sy (w.alloc (.cells #[.int .u64 a] 43)) (.slice (some ⟨B,0,none⟩) 1 1) [A]:=by
 subst h hB;refine⟨_,_,rfl,Nat.le_refl _,by unfold maxLen;omega,fun _=>⟨_,rfl,by simp,fun k z hk=> ?_⟩⟩
 match k,hk with
 |0,hk=>simp at hk;subst hk;exact⟨Bm w _ _ 0 _ (by simp),hA⟩
theorem Qka {w:World} {a b:Int} {A B C:Nat}(h:a=(A:Int))(hA:A < 18446744073709551616)(g:b=(B:Int))(hB:B < 18446744073709551616)(hC:C=w.heap.size):
 Sy (w.alloc (.cells #[.int .u64 a,.int .u64 b] 43)) (.slice (some ⟨C,0,none⟩) 2 2) [A,B]:=by
 subst h g hC;refine⟨_,_,rfl,Nat.le_refl _,by unfold maxLen;omega,fun _=>⟨_,rfl,by simp,fun k z hk=> ?_⟩⟩
 match k,hk with
 |0,hk=>simp at hk;subst hk;exact⟨Bm w _ _ 0 _ (by simp),hA⟩
 |1,hk=>simp at hk;subst hk;exact⟨Bm w _ _ 1 _ (by simp),hB⟩
theorem Wi {base:List Nd} {x:Stp} {op:Int}(h:onN base x op=true):∃(k:Nat) (n:Nd),x.on=(k:Int)/\base[k]?=some n/\n.op=op/\onV base x op=n/\Kh base x=n:=by
 have h':=h;unfold onN at h;simp only [Bool.not_eq_true',Bool.or_eq_false_iff,decide_eq_false_iff_not]at h;obtain⟨h1,h2,h3⟩:=h;have h2:inS x.set x.on=true:=by simpa using h2
 obtain⟨h4,h5⟩:=Qyl h2;obtain⟨k,hk⟩:=Int.eq_ofNat_of_zero_le h4;have hl:k < base.length:=by omega
 have hn:base[k]?=some base[k]:=Qv hl;have he:base.getD x.on.toNat Nd.zero=base[k]:=by rw [hk,Int.toNat_natCast,Qk,hn];rfl
 refine⟨k,base[k],hk,hn,?_,?_,he⟩
 ·rw [he]at h3
  simpa using h3
 unfold onV Kh;rw [h',he];rfl
theorem Qkx {opps:List Int} {on e:Int}(h:Vc opps on e=true)(hl:opps.length<=64)(hz:∀z∈opps,z < 64):∃k j:Nat,on=(k:Int)/\e=(j:Int)/\k < 64/\j < 64:=by
 unfold Vc at h;simp only [Bool.and_eq_true,decide_eq_true_eq,beq_iff_eq]at h;obtain⟨h1,h2,h3,h4⟩:=h;obtain⟨k,rfl⟩:=Int.eq_ofNat_of_zero_le h1;obtain⟨j,rfl⟩:=Int.eq_ofNat_of_zero_le h3;have hk:k < opps.length:=by omega
 have hm:=hz _ (List.getElem_mem hk);rw [Int.toNat_natCast,Qk,Qv hk]at h4;simp only [Option.getD_some]at h4;exact⟨k,j,rfl,rfl,by omega,by omega⟩
theorem Qa1 {c x:Nat}(hc:c < 18446744073709551616)(hx:x < 64):bits .or .u64 ((2:Int)^x) (c:Int)=((2^x|||c:Nat):Int):=by
 rw [show((2:Int)^x)=((2^x:Nat):Int) by simp];exact bits_or_u64_nat _ _ (Zf hx) hc
end Go.Proofs.YtmidgcldljfkcaaGreatDoor
