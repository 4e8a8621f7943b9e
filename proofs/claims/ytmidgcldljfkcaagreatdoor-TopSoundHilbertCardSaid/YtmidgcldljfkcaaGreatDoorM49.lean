/- The lines of a proof in the style of Hilbert in memory; hilbert's numbers: what it returns. -/
import Derived.Test.YtmidgcldljfkcaaGreatDoorM01
import Derived.Test.YtmidgcldljfkcaaGreatDoorM27
import Derived.Test.YtmidgcldljfkcaaGreatDoorM13
import Derived.Test.YtmidgcldljfkcaaGreatDoorM25
import Derived.Test.YtmidgcldljfkcaaGreatDoorM47
import Derived.Test.YtmidgcldljfkcaaGreatDoorM45
namespace Go.Proofs.YtmidgcldljfkcaaGreatDoor
set_option maxRecDepth 100000
set_option maxHeartbeats 128000000
open Go.RowKit
def Qzx(w:World)(a:Addr)(n:HLn):Prop :=
 ∃uf,w.cell? a=some uf/\w.cell? ⟨a.block,a.off+1,none⟩=some (.int .i64 n.rule)/\w.cell? ⟨a.block,a.off+2,none⟩=some (.int .i64 n.a)/\w.cell? ⟨a.block,a.off+3,none⟩=some (.int .i64 n.b)/\w.cell? ⟨a.block,a.off+4,none⟩=some (.int .i64 n.agent)/\Fml w uf n.f
def Qzw(w:World)(A:Option Addr)(c:Nat)(l:List HLn):Prop :=
 l.length<=c/\c<=maxLen/\(l≠ []->∃ad,A=some ad/\ad.block < w.heap.size/\∀k n,l[k]?=some n->Qzx w (ad.add (k*5)) n)
def HLs(w:World)(v:Value)(l:List HLn):Prop:=∃A c,v=.slice A l.length c/\Qzw w A c l
theorem Qzx.ext {w w':World} {a:Addr} {n:HLn}(h:Qzx w a n)(he:Ext w w')(ha:a.block < w.heap.size):Qzx w' a n:=by
 obtain⟨uf,h0,h1,h2,h3,h4,h5⟩:=h;have hk:∀o s,w'.cell? ⟨a.block,o,s⟩=w.cell? ⟨a.block,o,s⟩:=fun o s=>he.cell (p:=⟨a.block,o,s⟩) ha
 exact⟨uf,(hk _ _).trans h0,(hk _ _).trans h1,(hk _ _).trans h2,(hk _ _).trans h3,(hk _ _).trans h4,h5.ext he⟩
theorem Qzw.ext {w w':World} {A:Option Addr} {c:Nat} {l:List HLn}(h:Qzw w A c l)(he:Ext w w'):Qzw w' A c l :=
 ⟨h.1,h.2.1,fun hn=>by
  obtain⟨ad,e,hlt,hc⟩:=h.2.2 hn;exact⟨ad,e,Qy hlt he.size,fun k n hk=>(hc k n hk).ext he (Qj hlt)⟩⟩
theorem HLs.ext {w w':World} {v:Value} {l:List HLn}(h:HLs w v l)(he:Ext w w'):HLs w' v l:=by
 obtain⟨A,c,e,h⟩:=h;exact⟨A,c,e,h.ext he⟩
structure HPf (w:World) (b:Nat) (lg:Int) (ls:List HLn):Prop where
 all:∃A c,w.heap[b]?=some (.cells #[.int .i64 lg,.slice A ls.length c] 83 (0,0))/\Qzw w A c ls
theorem HPf.ext {w w':World} {b:Nat} {lg:Int} {ls:List HLn}(h:HPf w b lg ls)(he:Ext w w'):HPf w' b lg ls:=by
 obtain⟨A,c,hb,h1⟩:=h.all;exact⟨A,c,(he.block (Qm hb)).trans hb,h1.ext he⟩
theorem HPf.line {w:World} {b:Nat} {lg:Int} {ls:List HLn}(h:HPf w b lg ls) {i:Nat} {n:HLn}(hi:ls[i]?=some n):
 ∃(ad:Addr) (c:Nat) (Af:Option Addr) (cf:Nat),ls.length<=c/\c<=9223372036854775807/\ad.block < w.heap.size/\(∀k,(ad.add k).block < w.heap.size)/\b < w.heap.size/\w.cell? ⟨b,0,none⟩=some (.int .i64 lg)/\w.cell? ⟨b,1,none⟩=some (.slice (some ad) ls.length c)/\
  w.cell? (ad.add (i*5))=some (.slice Af n.f.length cf)/\w.cell? ⟨(ad.add (i*5)).block,(ad.add (i*5)).off+1,none⟩=some (.int .i64 n.rule)/\w.cell? ⟨(ad.add (i*5)).block,(ad.add (i*5)).off+2,none⟩=some (.int .i64 n.a)/\
  w.cell? ⟨(ad.add (i*5)).block,(ad.add (i*5)).off+3,none⟩=some (.int .i64 n.b)/\w.cell? ⟨(ad.add (i*5)).block,(ad.add (i*5)).off+4,none⟩=some (.int .i64 n.agent)/\Fml w (.slice Af n.f.length cf) n.f:=by
 obtain⟨A,c,hb,h1,h2,h3⟩:=h.all;obtain⟨ad,rfl,hlt,hc⟩:=h3 (by intro e;rw [e]at hi;simp at hi);obtain⟨uf,q0,q1,q2,q3,q4,q5⟩:=hc i n hi;obtain⟨Af,cf,rfl,_⟩:=Qg q5;unfold maxLen at h2;exact⟨ad,c,Af,cf,h1,by omega,hlt,fun k=>by rw [Qn];exact hlt,Qm hb,by simp [World.cell?,hb],by simp [World.cell?,hb],q0,q1,q2,q3,q4,q5⟩
theorem Qdt(r:Int):Bi r=0\/Bi r=1\/Bi r=2:=by
 unfold Bi;cases r==10
 ·cases r==11||r==12
  ·exact .inl rfl
  exact .inr (.inl rfl)
 exact .inr (.inr rfl)
theorem Vq {w:World} {b:Nat} {a0 a1 a2 a3 a4:Value} {t:TypeId}(h:w.heap[b]?=some (.cells #[a0,a1,a2,a3,a4] t (0,0))):w.cell? ⟨b,0,none⟩=some a0/\w.cell? ⟨b,1,none⟩=some a1/\w.cell? ⟨b,2,none⟩=some a2/\w.cell? ⟨b,3,none⟩=some a3/\w.cell? ⟨b,4,none⟩=some a4/\b < w.heap.size :=
 ⟨by simp [World.cell?,h],by simp [World.cell?,h],by simp [World.cell?,h],by simp [World.cell?,h],by simp [World.cell?,h],Qm h⟩
theorem Oa {w:World} {b:Nat} {lg:Int} {ls:List HLn}(h:HPf w b lg ls)(i:Nat)(x:HLn)(hi:ls[i]?=some x):
 Calls Tryz.prog 59 #[.pointer (some ⟨b,0,none⟩),.int .i64 (i:Int)] w fun e w'=>e=.returned (.int .i64 (Jo x i))/\Ext w w':=by
 obtain⟨ad,c,Af,cf,hc1,hc2,hlt,hadl,hbl,d0,d1,q0,q1,q2,q3,q4,hff⟩:=h.line hi;have hil:i < ls.length:=(List.getElem?_eq_some_iff.1 hi).1;have hil1:(i:Int) < (ls.length:Int):=by omega
 have hbk:=hadl (i*5);obtain⟨f,r,a,bb,g⟩:=x;obtain⟨pv,hpv⟩:∃z,z=Bi r:=⟨_,rfl⟩;have HPV:=Qq hpv;have hp3:pv=0\/pv=1\/pv=2:=by rw [hpv];exact Qdt r
 have HN:Hid (Jo ⟨f,r,a,bb,g⟩ i=bif Yg 0 pv a i then 3 else bif Yg 1 pv bb i then 3 else bif r !=11 then(bif g !=0 then 3 else 0)else bif decide (g < 0)||decide (4<=g)then 2 else 0):=Qq (by unfold Jo;rw [hpv]);have B0:=Qq (heap_alloc_new w (.cells #[.slice Af f.length cf,.int .i64 r,.int .i64 a,.int .i64 bb,.int .i64 g] 51));have X0:=Qq ((Ext.refl w).alloc (.cells #[.slice Af f.length cf,.int .i64 r,.int .i64 a,.int .i64 bb,.int .i64 g] 51));simp only at q0 q1 q2 q3 q4;have I0:Hid (∀w:World,(Instr.index 142 (.agg #[.int .i64 a,.int .i64 bb]) (.int .i64 0)).run Tryz.prog w=.ok (.int .i64 a) w):=Qq fun _=>rfl
 have I1:Hid (∀w:World,(Instr.index 142 (.agg #[.int .i64 a,.int .i64 bb]) (.int .i64 1)).run Tryz.prog w=.ok (.int .i64 bb) w):=Qq fun _=>rfl
 clear h hi hff hadl hpv d0;go_enter Tryz.func59,Tryz.ntmps59;go_wp2_with fail;go_loopw [6,7,20] (fun _ _ vi wr=>∃k:Nat,vi=.int .i64 (k:Int)/\k<=2/\Hid (Ext w wr/\wr.heap[w.heap.size]?=some (.cells #[.slice Af f.length cf,.int .i64 r,.int .i64 a,.int .i64 bb,.int .i64 g] 51 (0,0)))/\Hid (1<=k->Yg 0 pv a i=false)/\Hid (2<=k->Yg 1 pv bb i=false)) (fun _ _ v _=>2 - (intOf v).toNat)
 case atStart=>exact⟨0,rfl,by omega,Qq ⟨X0.out,B0.out⟩,Qq (fun h=>absurd h (by omega)),Qq (fun h=>absurd h (by omega))⟩
 case round =>
  obtain⟨k,rfl,hk,HX,HK0,HK1⟩:=hrel;obtain⟨z0,z1,z2,z3,z4,zl⟩:=Vq HX.out.2;rcases(show k=0\/k=1\/k=2 by omega)with rfl|rfl|rfl
  ·have hI:=I0.out;by_cases hkp:pv<=0
   ·have hnp:¬0 < pv:=by omega
    by_cases hn:a=0
    ·have hnb:(a !=0)=false:=by simpa using hn
     have HE:=Qq (show Yg 0 pv a i=false by unfold Yg;simp;omega);clear hn;have X9:=Qq HX.out.1;have B9:=Qq HX.out.2;go_wp2_with fail;refine(Vp r _).mono ?_;rintro e w10 ⟨rfl,hx⟩;rw [<-HPV.out];have X10:=Qq (X9.out.trans hx);have B10:=Qq ((hx.block (Qm B9.out)).trans B9.out);clear hx z0 z1 z2 z3 z4 zl;obtain⟨z0,z1,z2,z3,z4,zl⟩:=Vq B10.out;go_wp2_with fail;refine(Vp r _).mono ?_;rintro e w11 ⟨rfl,hx⟩;rw [<-HPV.out];have X11:=Qq (X10.out.trans hx);have B11:=Qq ((hx.block (Qm B10.out)).trans B10.out);clear hx z0 z1 z2 z3 z4 zl;obtain⟨z0,z1,z2,z3,z4,zl⟩:=Vq B11.out
     go_wp2_with fail;go_roundw
     case rel=>exact⟨1,rfl,by omega,Qq ⟨X11.out,B11.out⟩,Qq (fun _=>HE.out),Qq (fun h=>absurd h (by omega))⟩
     case measure=>simp [intOf]
    have hnb:(a !=0)=true:=by simpa using hn
    have HE:=Qq (show Jo ⟨f,r,a,bb,g⟩ i=3 by
     have hb:Yg 0 pv a i=true:=by unfold Yg;simp;omega
     rw [HN.out,hb];rfl)
    have X9:=Qq HX.out.1;have B9:=Qq HX.out.2;go_wp2_with fail;refine(Vp r _).mono ?_;rintro e w10 ⟨rfl,hx⟩;rw [<-HPV.out];have X10:=Qq (X9.out.trans hx);have B10:=Qq ((hx.block (Qm B9.out)).trans B9.out);clear hx z0 z1 z2 z3 z4 zl;obtain⟨z0,z1,z2,z3,z4,zl⟩:=Vq B10.out;go_wp2_with fail;go_ret;exact⟨by rw [HE.out] <;> rfl,X10.out⟩
   have hnp:0 < pv:=by omega
   by_cases h0:a < 0
   ·skip
    have HE:=Qq (show Jo ⟨f,r,a,bb,g⟩ i=3 by
     have hb:Yg 0 pv a i=true:=by unfold Yg;simp;omega
     rw [HN.out,hb];rfl)
    have X9:=Qq HX.out.1;have B9:=Qq HX.out.2;go_wp2_with fail;refine(Vp r _).mono ?_;rintro e w10 ⟨rfl,hx⟩;rw [<-HPV.out];have X10:=Qq (X9.out.trans hx);have B10:=Qq ((hx.block (Qm B9.out)).trans B9.out);clear hx z0 z1 z2 z3 z4 zl;obtain⟨z0,z1,z2,z3,z4,zl⟩:=Vq B10.out;go_wp2_with fail;refine(Vp r _).mono ?_;rintro e w11 ⟨rfl,hx⟩;rw [<-HPV.out];have X11:=Qq (X10.out.trans hx);have B11:=Qq ((hx.block (Qm B10.out)).trans B10.out);clear hx z0 z1 z2 z3 z4 zl;obtain⟨z0,z1,z2,z3,z4,zl⟩:=Vq B11.out;go_wp2_with fail;go_ret;exact⟨by rw [HE.out] <;> rfl,X11.out⟩
   by_cases h1:(i:Int)<=a
   ·skip
    have HE:=Qq (show Jo ⟨f,r,a,bb,g⟩ i=3 by
     have hb:Yg 0 pv a i=true:=by unfold Yg;simp;omega
     rw [HN.out,hb];rfl)
    have X9:=Qq HX.out.1;have B9:=Qq HX.out.2;go_wp2_with fail;refine(Vp r _).mono ?_;rintro e w10 ⟨rfl,hx⟩;rw [<-HPV.out];have X10:=Qq (X9.out.trans hx);have B10:=Qq ((hx.block (Qm B9.out)).trans B9.out);clear hx z0 z1 z2 z3 z4 zl;obtain⟨z0,z1,z2,z3,z4,zl⟩:=Vq B10.out;go_wp2_with fail;refine(Vp r _).mono ?_;rintro e w11 ⟨rfl,hx⟩;rw [<-HPV.out];have X11:=Qq (X10.out.trans hx);have B11:=Qq ((hx.block (Qm B10.out)).trans B10.out);clear hx z0 z1 z2 z3 z4 zl;obtain⟨z0,z1,z2,z3,z4,zl⟩:=Vq B11.out;go_wp2_with fail;go_ret;exact⟨by rw [HE.out] <;> rfl,X11.out⟩
   skip
   have HE:=Qq (show Yg 0 pv a i=false by unfold Yg;simp;omega);have X9:=Qq HX.out.1;have B9:=Qq HX.out.2;go_wp2_with fail;refine(Vp r _).mono ?_;rintro e w10 ⟨rfl,hx⟩;rw [<-HPV.out];have X10:=Qq (X9.out.trans hx);have B10:=Qq ((hx.block (Qm B9.out)).trans B9.out);clear hx z0 z1 z2 z3 z4 zl;obtain⟨z0,z1,z2,z3,z4,zl⟩:=Vq B10.out;go_wp2_with fail;refine(Vp r _).mono ?_;rintro e w11 ⟨rfl,hx⟩;rw [<-HPV.out];have X11:=Qq (X10.out.trans hx);have B11:=Qq ((hx.block (Qm B10.out)).trans B10.out);clear hx z0 z1 z2 z3 z4 zl;obtain⟨z0,z1,z2,z3,z4,zl⟩:=Vq B11.out;go_wp2_with fail
   go_roundw
   case rel=>exact⟨1,rfl,by omega,Qq ⟨X11.out,B11.out⟩,Qq (fun _=>HE.out),Qq (fun h=>absurd h (by omega))⟩
   case measure=>simp [intOf]
  ·have hI:=I1.out;by_cases hkp:pv<=1
   ·have hnp:¬1 < pv:=by omega
    by_cases hn:bb=0
    ·have hnb:(bb !=0)=false:=by simpa using hn
     have HE:=Qq (show Yg 1 pv bb i=false by unfold Yg;simp;omega);clear hn;have X9:=Qq HX.out.1;have B9:=Qq HX.out.2;go_wp2_with fail;refine(Vp r _).mono ?_;rintro e w10 ⟨rfl,hx⟩;rw [<-HPV.out];have X10:=Qq (X9.out.trans hx);have B10:=Qq ((hx.block (Qm B9.out)).trans B9.out);clear hx z0 z1 z2 z3 z4 zl;obtain⟨z0,z1,z2,z3,z4,zl⟩:=Vq B10.out;go_wp2_with fail;refine(Vp r _).mono ?_;rintro e w11 ⟨rfl,hx⟩;rw [<-HPV.out];have X11:=Qq (X10.out.trans hx);have B11:=Qq ((hx.block (Qm B10.out)).trans B10.out);clear hx z0 z1 z2 z3 z4 zl;obtain⟨z0,z1,z2,z3,z4,zl⟩:=Vq B11.out
     go_wp2_with fail;go_roundw
     case rel=>exact⟨2,rfl,by omega,Qq ⟨X11.out,B11.out⟩,Qq (fun _=>HK0.out (by omega)),Qq (fun h=>HE.out)⟩
     case measure=>simp [intOf]
    have hnb:(bb !=0)=true:=by simpa using hn
    have HE:=Qq (show Jo ⟨f,r,a,bb,g⟩ i=3 by
     have hb:Yg 1 pv bb i=true:=by unfold Yg;simp;omega
     rw [HN.out,HK0.out (by omega),hb];rfl)
    have X9:=Qq HX.out.1;have B9:=Qq HX.out.2;go_wp2_with fail;refine(Vp r _).mono ?_;rintro e w10 ⟨rfl,hx⟩;rw [<-HPV.out];have X10:=Qq (X9.out.trans hx);have B10:=Qq ((hx.block (Qm B9.out)).trans B9.out);clear hx z0 z1 z2 z3 z4 zl;obtain⟨z0,z1,z2,z3,z4,zl⟩:=Vq B10.out;go_wp2_with fail;go_ret;exact⟨by rw [HE.out] <;> rfl,X10.out⟩
   have hnp:1 < pv:=by omega
   by_cases h0:bb < 0
   ·skip
    have HE:=Qq (show Jo ⟨f,r,a,bb,g⟩ i=3 by
     have hb:Yg 1 pv bb i=true:=by unfold Yg;simp;omega
     rw [HN.out,HK0.out (by omega),hb];rfl)
    have X9:=Qq HX.out.1;have B9:=Qq HX.out.2;go_wp2_with fail;refine(Vp r _).mono ?_;rintro e w10 ⟨rfl,hx⟩;rw [<-HPV.out];have X10:=Qq (X9.out.trans hx);have B10:=Qq ((hx.block (Qm B9.out)).trans B9.out);clear hx z0 z1 z2 z3 z4 zl;obtain⟨z0,z1,z2,z3,z4,zl⟩:=Vq B10.out;go_wp2_with fail;refine(Vp r _).mono ?_;rintro e w11 ⟨rfl,hx⟩;rw [<-HPV.out];have X11:=Qq (X10.out.trans hx);have B11:=Qq ((hx.block (Qm B10.out)).trans B10.out);clear hx z0 z1 z2 z3 z4 zl;obtain⟨z0,z1,z2,z3,z4,zl⟩:=Vq B11.out;go_wp2_with fail;go_ret;exact⟨by rw [HE.out] <;> rfl,X11.out⟩
   by_cases h1:(i:Int)<=bb
   ·skip
    have HE:=Qq (show Jo ⟨f,r,a,bb,g⟩ i=3 by
     have hb:Yg 1 pv bb i=true:=by unfold Yg;simp;omega
     rw [HN.out,HK0.out (by omega),hb];rfl)
    have X9:=Qq HX.out.1;have B9:=Qq HX.out.2;go_wp2_with fail;refine(Vp r _).mono ?_;rintro e w10 ⟨rfl,hx⟩;rw [<-HPV.out];have X10:=Qq (X9.out.trans hx);have B10:=Qq ((hx.block (Qm B9.out)).trans B9.out);clear hx z0 z1 z2 z3 z4 zl;obtain⟨z0,z1,z2,z3,z4,zl⟩:=Vq B10.out;go_wp2_with fail;refine(Vp r _).mono ?_;rintro e w11 ⟨rfl,hx⟩;rw [<-HPV.out];have X11:=Qq (X10.out.trans hx);have B11:=Qq ((hx.block (Qm B10.out)).trans B10.out);clear hx z0 z1 z2 z3 z4 zl;obtain⟨z0,z1,z2,z3,z4,zl⟩:=Vq B11.out;go_wp2_with fail;go_ret;exact⟨by rw [HE.out] <;> rfl,X11.out⟩
   skip
   have HE:=Qq (show Yg 1 pv bb i=false by unfold Yg;simp;omega);have X9:=Qq HX.out.1;have B9:=Qq HX.out.2;go_wp2_with fail;refine(Vp r _).mono ?_;rintro e w10 ⟨rfl,hx⟩;rw [<-HPV.out];have X10:=Qq (X9.out.trans hx);have B10:=Qq ((hx.block (Qm B9.out)).trans B9.out);clear hx z0 z1 z2 z3 z4 zl;obtain⟨z0,z1,z2,z3,z4,zl⟩:=Vq B10.out;go_wp2_with fail;refine(Vp r _).mono ?_;rintro e w11 ⟨rfl,hx⟩;rw [<-HPV.out];have X11:=Qq (X10.out.trans hx);have B11:=Qq ((hx.block (Qm B10.out)).trans B10.out);clear hx z0 z1 z2 z3 z4 zl;obtain⟨z0,z1,z2,z3,z4,zl⟩:=Vq B11.out;go_wp2_with fail
   go_roundw
   case rel=>exact⟨2,rfl,by omega,Qq ⟨X11.out,B11.out⟩,Qq (fun _=>HK0.out (by omega)),Qq (fun h=>HE.out)⟩
   case measure=>simp [intOf]
  have HE:=Qq (show Jo ⟨f,r,a,bb,g⟩ i=bif r !=11 then(bif g !=0 then 3 else 0)else bif decide (g < 0)||decide (4<=g)then 2 else 0 by rw [HN.out,HK0.out (by omega),HK1.out (by omega)];rfl);have XR:=Qq HX.out.1;cases hr:(r !=11)
  ·by_cases h0:g < 0
   ·have HE2:=Qq (show Jo ⟨f,r,a,bb,g⟩ i=2 by rw [HE.out,hr,decide_eq_true h0];rfl);go_wp2_with fail;go_ret;exact⟨by rw [HE2.out] <;> rfl,XR.out⟩
   by_cases h4:4<=g
   ·have HE2:=Qq (show Jo ⟨f,r,a,bb,g⟩ i=2 by rw [HE.out,hr,decide_eq_true h4,Bool.or_true];rfl);go_wp2_with fail;go_ret;exact⟨by rw [HE2.out] <;> rfl,XR.out⟩
   have HE2:=Qq (show Jo ⟨f,r,a,bb,g⟩ i=0 by rw [HE.out,hr,decide_eq_false h0,decide_eq_false h4];rfl);go_wp2_with fail;go_ret;exact⟨by rw [HE2.out] <;> rfl,XR.out⟩
  cases hg:(g !=0)
  ·have HE2:=Qq (show Jo ⟨f,r,a,bb,g⟩ i=0 by rw [HE.out,hr,hg];rfl);go_wp2_with fail;go_ret;exact⟨by rw [HE2.out] <;> rfl,XR.out⟩
  have HE2:=Qq (show Jo ⟨f,r,a,bb,g⟩ i=3 by rw [HE.out,hr,hg];rfl);go_wp2_with fail;go_ret;exact⟨by rw [HE2.out] <;> rfl,XR.out⟩
def Qvz(ls:List HLn)(k:Int):Prop:=0<=k/\k < ls.length
theorem Wh {ls:List HLn} {k:Nat}(h:k < ls.length):ls[k]?=some (lnH ls (k:Int)):=by
 unfold lnH;rw [Int.toNat_natCast,Qk,Qv h];rfl
theorem Qkp {w:World} {b:Nat} {lg:Int} {ls:List HLn}(h:HPf w b lg ls)(hT:Pn w) {Af:Option Addr} {cf:Nat} {f:List Nd}(r a bb g:Int)(hf:Fml w (.slice Af f.length cf) f)(hck:Qs f=0)(hr:1<=r/\r<=12)
 (hA:r=10\/r=11\/r=12->Qvz ls a)(hB:r=10->Qvz ls bb)(hG:r=11->0<=g/\g < 4):
 Calls Tryz.prog 60 #[.pointer (some ⟨b,0,none⟩),.agg #[.slice Af f.length cf,.int .i64 r,.int .i64 a,.int .i64 bb,.int .i64 g]] w fun e w'=>e=.returned (.bool (Xk ls ⟨f,r,a,bb,g⟩))/\Ext w w':=by
 have H:=Qq h;have HT:=Qq hT;have HF:=Qq hf;have HCK:=Qq (Ke hck);have HC2:=Qq (Oo hck);have HFH:Hid (Xk ls ⟨f,r,a,bb,g⟩=bif r==10 then Yb (lnH ls bb).f (Ya (lnH ls a).f (Qf f))else bif r==11 then Yb (Qf f) (Yy g (lnH ls a).f)else bif r==12 then Gn (Qf f) (lnH ls a).f else Vn r (Qf f)):=Qq rfl;obtain⟨c,hc⟩:∃z,z=Qf f:=⟨_,rfl⟩;have HC:=Qq hc;rw [<-hc]at HCK HC2 HFH;have X0:=Qq ((Ext.refl w).alloc (.cells #[.slice Af f.length cf,.int .i64 r,.int .i64 a,.int .i64 bb,.int .i64 g] 51));have B0:=Qq (heap_alloc_new w (.cells #[.slice Af f.length cf,.int .i64 r,.int .i64 a,.int .i64 bb,.int .i64 g] 51))
 clear h hT hf hck hc;go_enter Tryz.func60,Tryz.ntmps60;go_wp2_with fail;refine(Vy _ f _ (HF.out.ext X0.out)).mono ?_;rintro e w1 ⟨u,rfl,hm⟩;have X1:=Qq (X0.out.trans hm.ext);have HCF:=Qq (show Fml w1 u c by rw [HC.out];exact hm.fml);obtain⟨Ac,cc,rfl,_⟩:=Qg HCF.out;obtain⟨z0,z1,z2,z3,z4,zl⟩:=Vq ((hm.ext.block (Qm B0.out)).trans B0.out);have H1:=Qq (H.out.ext X1.out);clear hm;by_cases h10:r=10\/r=11\/r=12
 case neg =>
  have b10:(r==10)=false:=by simp;omega
  have b11:(r==11)=false:=by simp;omega
  have b12:(r==12)=false:=by simp;omega
  have HE:=Qq (show Xk ls ⟨f,r,a,bb,g⟩=Vn r c by rw [HFH.out,b10,b11,b12];rfl);clear hA hB hG;rcases(show r=1\/r=2\/r=3\/r=4\/r=5\/r=6\/r=7\/r=8\/r=9 by omega)with rfl|rfl|rfl|rfl|rfl|rfl|rfl|rfl|rfl
  ·have g1:=(HT.out.ext X1.out).at_ 0 _ rfl;go_wp2_with fail;refine(Qj7 HCF.out HCK.out).mono ?_;rintro e w2 ⟨rfl,hx⟩;have X2:=Qq (X1.out.trans hx);clear hx;go_wp2_with fail;go_ret;exact⟨Qr (by rw [HE.out,HC2.out] <;> rfl),X2.out⟩
  ·have g1:=(HT.out.ext X1.out).at_ 1 _ rfl;go_wp2_with fail;refine(Qk0 HCF.out).mono ?_;rintro e w2 ⟨rfl,hx⟩;have X2:=Qq (X1.out.trans hx);clear hx;go_wp2_with fail;go_ret;exact⟨Qr (by rw [HE.out] <;> rfl),X2.out⟩
  ·have g1:=(HT.out.ext X1.out).at_ 2 _ rfl;go_wp2_with fail;refine(Qfn HCF.out).mono ?_;rintro e w2 ⟨rfl,hx⟩;have X2:=Qq (X1.out.trans hx);clear hx;go_wp2_with fail;go_ret;exact⟨Qr (by rw [HE.out] <;> rfl),X2.out⟩
  ·have g1:=(HT.out.ext X1.out).at_ 3 _ rfl;go_wp2_with fail;refine(Qfv HCF.out).mono ?_;rintro e w2 ⟨rfl,hx⟩;have X2:=Qq (X1.out.trans hx);clear hx;go_wp2_with fail;go_ret;exact⟨Qr (by rw [HE.out] <;> rfl),X2.out⟩
  ·have g1:=(HT.out.ext X1.out).at_ 4 _ rfl;go_wp2_with fail;refine(Qyv HCF.out).mono ?_;rintro e w2 ⟨rfl,hx⟩;have X2:=Qq (X1.out.trans hx);clear hx;go_wp2_with fail;go_ret;exact⟨Qr (by rw [HE.out] <;> rfl),X2.out⟩
  ·have g1:=(HT.out.ext X1.out).at_ 5 _ rfl;go_wp2_with fail;refine(Qg7 HCF.out).mono ?_;rintro e w2 ⟨rfl,hx⟩;have X2:=Qq (X1.out.trans hx);clear hx;go_wp2_with fail;go_ret;exact⟨Qr (by rw [HE.out] <;> rfl),X2.out⟩
  ·have g1:=(HT.out.ext X1.out).at_ 6 _ rfl;go_wp2_with fail;refine(Qyj HCF.out).mono ?_;rintro e w2 ⟨rfl,hx⟩;have X2:=Qq (X1.out.trans hx);clear hx;go_wp2_with fail;go_ret;exact⟨Qr (by rw [HE.out] <;> rfl),X2.out⟩
  ·have g1:=(HT.out.ext X1.out).at_ 7 _ rfl;go_wp2_with fail;refine(Qjz HCF.out HCK.out).mono ?_;rintro e w2 ⟨rfl,hx⟩;have X2:=Qq (X1.out.trans hx);clear hx;go_wp2_with fail;go_ret;exact⟨Qr (by rw [HE.out] <;> rfl),X2.out⟩
  have g1:=(HT.out.ext X1.out).at_ 8 _ rfl;go_wp2_with fail;refine(Qj6 HCF.out).mono ?_;rintro e w2 ⟨rfl,hx⟩;have X2:=Qq (X1.out.trans hx);clear hx;go_wp2_with fail;go_ret;exact⟨Qr (by rw [HE.out] <;> rfl),X2.out⟩
 have hla:=hA h10;obtain⟨ja,hja⟩:=Int.eq_ofNat_of_zero_le hla.1;have hja1:ja < ls.length:=by have:=hla.2;omega
 have hai:(ja:Int) < (ls.length:Int):=by omega
 obtain⟨ad,cl,Aa,ca,hc1,hc2,hlt,hadl,hbl,d0,d1,q0,_,_,_,_,hfa⟩:=H1.out.line (Wh hja1);have HFA:=Qq hfa;have hal:=hadl (ja*5);rw [hja]at z2;obtain⟨la,hla2⟩:∃z,z=(lnH ls (ja:Int)).f:=⟨_,rfl⟩;have HLA:=Qq (show(lnH ls a).f=la by rw [hja,hla2]);rw [<-hla2]at q0 HFA;clear hA hla hfa hla2;rcases h10 with rfl|rfl|rfl
 ·have hlb:=hB rfl;obtain⟨jb,hjb⟩:=Int.eq_ofNat_of_zero_le hlb.1;have hjb1:jb < ls.length:=by have:=hlb.2;omega
  have hbi:(jb:Int) < (ls.length:Int):=by omega
  obtain⟨ad2,cl2,Ab,cb,_,_,_,_,_,_,d12,q02,_,_,_,_,hfb⟩:=H1.out.line (Wh hjb1);obtain⟨rfl,rfl⟩:ad=ad2/\cl=cl2:=by
   have:=Option.some.inj (d1.symm.trans d12);injection this with e1 _ e3;injection e1 with e1;exact⟨e1,e3⟩
  have HFB:=Qq hfb;have hbl2:=hadl (jb*5);rw [hjb]at z3;obtain⟨lb,hlb2⟩:∃z,z=(lnH ls (jb:Int)).f:=⟨_,rfl⟩;have HLB:=Qq (show(lnH ls bb).f=lb by rw [hjb,hlb2]);rw [<-hlb2]at q02 HFB;have HE:=Qq (show Xk ls ⟨f,10,a,bb,g⟩=Yb lb (Ya la c) by rw [HFH.out,HLA.out,HLB.out];rfl);clear hB hG hlb hlb2 hfb d12 hadl hja hjb;go_wp2_with fail;refine wp_region_held_drew (S:=fun w'=>w'.cell? (⟨b,1,none⟩)=some (.slice (some ad) ls.length cl)/\w'.cell? (⟨w.heap.size,3,none⟩)=some (.int .i64 (jb:Int))/\w'.cell? (ad.add (jb*5))=some (.slice Ab lb.length cb)/\w'.cell? (⟨w.heap.size,2,none⟩)=some (.int .i64 (ja:Int))/\w'.cell? (ad.add (ja*5))=some (.slice Aa la.length ca)) (by kernel_rfl) ⟨xc hbl d1,xc zl z3,xc hbl2 q02,xc zl z2,xc hal q0⟩ (fun hHeld=> ?_)
  refine tk 0 hHeld ?_;refine tk 1 hHeld ?_;refine tk 2 hHeld ?_;refine tk 3 hHeld ?_;refine tk 4 hHeld ?_;refine tk 5 hHeld ?_;refine tk 6 hHeld ?_;refine tk 7 hHeld ?_;refine tk 8 hHeld ?_;refine tk 9 hHeld ?_;refine tk 10 hHeld ?_;refine tk 11 hHeld ?_;refine tk 12 hHeld ?_;refine tk 13 hHeld ?_;refine tk 14 hHeld ?_;refine tk 15 hHeld ?_;refine tk 16 hHeld ?_;refine tk 17 hHeld ?_;refine tk 18 hHeld ?_;refine wpAnyH_ready (rs:= [19]) (by kernel_rfl) (by simp) ?_;refine AllReadyH.cons rfl (fun K hK=> ?_) AllReadyH.nil;go_simp;refine(Kq _ _ _ _ _ (HFA.out.ext xw) (HCF.out.ext xw)).mono ?_
  rintro e wa ⟨u,rfl,hm⟩;have hv:=hm.ext;have hxwa:Ext w1 wa:=xt hv;clear hv;have K1:=Qq hm.fml;obtain⟨AK1,cK1,rfl,_⟩:=Qg hm.fml;clear hm;go_wp2_with fail;refine hK.out _ _ ⟨xc hbl d1,xc zl z3,xc hbl2 q02,xc zl z2,xc hal q0⟩ (fun hHeld=> ?_);clear hK K;refine Qd ?_;refine wpAnyH_ready (rs:= [20]) (by kernel_rfl) (by simp) ?_;refine AllReadyH.cons rfl (fun K hK=> ?_) AllReadyH.nil;go_simp;refine(Xz _ _ _ _ _ (HFB.out.ext xw) (K1.out.ext xw)).mono ?_;rintro e wb ⟨rfl,hv⟩;have hxwb:Ext w1 wb:=xt hv;clear hv;go_wp2_with fail;refine hK.out _ _ ⟨xc hbl d1,xc zl z3,xc hbl2 q02,xc zl z2,xc hal q0⟩ (fun hHeld=> ?_)
  clear hK K;refine Qd ?_;refine tk 21 hHeld ?_;refine wpAnyH_done (by kernel_rfl) ?_ _;go_wp2_with fail;go_ret;exact⟨Qr HE.out.symm,X1.out.trans xw⟩
 ·have hg4:=hG rfl;have hgk:Jc g:=⟨by omega,by omega⟩;have HE:=Qq (show Xk ls ⟨f,11,a,bb,g⟩=Yb c (Yy g la) by rw [HFH.out,HLA.out];rfl);clear hB hG hg4 hadl hja;go_wp2_with fail;refine wp_region_held_drew (S:=fun w'=>w'.cell? (⟨b,1,none⟩)=some (.slice (some ad) ls.length cl)/\w'.cell? (⟨w.heap.size,4,none⟩)=some (.int .i64 g)/\w'.cell? (⟨w.heap.size,2,none⟩)=some (.int .i64 (ja:Int))/\w'.cell? (ad.add (ja*5))=some (.slice Aa la.length ca)) (by kernel_rfl) ⟨xc hbl d1,xc zl z4,xc zl z2,xc hal q0⟩ (fun hHeld=> ?_);refine tk 0 hHeld ?_;refine tk 1 hHeld ?_;refine tk 2 hHeld ?_;refine tk 3 hHeld ?_
  refine tk 4 hHeld ?_;refine tk 5 hHeld ?_;refine tk 6 hHeld ?_;refine tk 7 hHeld ?_;refine tk 8 hHeld ?_;refine tk 9 hHeld ?_;refine tk 10 hHeld ?_;refine tk 11 hHeld ?_;refine wpAnyH_ready (rs:= [12]) (by kernel_rfl) (by simp) ?_;refine AllReadyH.cons rfl (fun K hK=> ?_) AllReadyH.nil;go_simp;refine(Xn _ hgk _ _ _ (HFA.out.ext xw)).mono ?_;rintro e wa ⟨u,rfl,hm⟩;have hv:=hm.ext;have hxwa:Ext w1 wa:=xt hv;clear hv;have K1:=Qq hm.fml;obtain⟨AK1,cK1,rfl,_⟩:=Qg hm.fml;clear hm;go_wp2_with fail;refine hK.out _ _ ⟨xc hbl d1,xc zl z4,xc zl z2,xc hal q0⟩ (fun hHeld=> ?_);clear hK K;refine Qd ?_
  refine wpAnyH_ready (rs:= [13]) (by kernel_rfl) (by simp) ?_;refine AllReadyH.cons rfl (fun K hK=> ?_) AllReadyH.nil;go_simp;refine(Xz _ _ _ _ _ (HCF.out.ext xw) (K1.out.ext xw)).mono ?_;rintro e wb ⟨rfl,hv⟩;have hxwb:Ext w1 wb:=xt hv;clear hv;go_wp2_with fail;refine hK.out _ _ ⟨xc hbl d1,xc zl z4,xc zl z2,xc hal q0⟩ (fun hHeld=> ?_);clear hK K;refine Qd ?_;refine tk 14 hHeld ?_;refine wpAnyH_done (by kernel_rfl) ?_ _;go_wp2_with fail;go_ret;exact⟨Qr HE.out.symm,X1.out.trans xw⟩
 have HE:=Qq (show Xk ls ⟨f,12,a,bb,g⟩=Gn c la by rw [HFH.out,HLA.out];rfl);clear hB hG hadl hja;go_wp2_with fail;refine wp_region_held_drew (S:=fun w'=>w'.cell? (⟨b,1,none⟩)=some (.slice (some ad) ls.length cl)/\w'.cell? (⟨w.heap.size,2,none⟩)=some (.int .i64 (ja:Int))/\w'.cell? (ad.add (ja*5))=some (.slice Aa la.length ca)) (by kernel_rfl) ⟨xc hbl d1,xc zl z2,xc hal q0⟩ (fun hHeld=> ?_);refine tk 0 hHeld ?_;refine tk 1 hHeld ?_;refine tk 2 hHeld ?_;refine tk 3 hHeld ?_;refine tk 4 hHeld ?_;refine tk 5 hHeld ?_;refine tk 6 hHeld ?_;refine tk 7 hHeld ?_;refine tk 8 hHeld ?_;refine tk 9 hHeld ?_
 refine wpAnyH_ready (rs:= [10]) (by kernel_rfl) (by simp) ?_;refine AllReadyH.cons rfl (fun K hK=> ?_) AllReadyH.nil;go_simp;refine(Qge (HCF.out.ext xw) (HFA.out.ext xw)).mono ?_;rintro e wa ⟨rfl,hv⟩;have hxwa:Ext w1 wa:=xt hv;clear hv;go_wp2_with fail;refine hK.out _ _ ⟨xc hbl d1,xc zl z2,xc hal q0⟩ (fun hHeld=> ?_);clear hK K;refine Qd ?_;refine tk 11 hHeld ?_;refine wpAnyH_done (by kernel_rfl) ?_ _;go_wp2_with fail;go_ret;exact⟨Qr HE.out.symm,X1.out.trans xw⟩
theorem Qxx:∀(l:List Nat) (k:Nat) (a:List Nat) (i:Nat),i∉l->(Nf l k a).getD i 0=a.getD i 0
 |[],_,_,_,_=>rfl
 |j :: r,k,a,i,h=>by
  unfold Nf;rw [Qxx r _ _ i (fun e=>h (List.mem_cons_of_mem _ e)),Oz (fun e=>h (by rw [<-e];exact List.mem_cons_self ..))]
theorem Qft:∀(l:List Nat) (k:Nat) (a:List Nat) (m i:Nat),l.Nodup->l[m]?=some i->i < a.length->(Nf l k a).getD i 0=k+m
 |[],_,_,m,i,_,h,_=>by simp at h
 |j :: r,k,a,0,i,hn,h,hi=>by
  simp only [List.getElem?_cons_zero,Option.some.injEq]at h;subst h;unfold Nf;rw [Qxx r _ _ j (List.nodup_cons.1 hn).1,Qjs hi,Nat.add_zero]
 |j :: r,k,a,m+1,i,hn,h,hi=>by
  simp only [List.getElem?_cons_succ]at h;unfold Nf;rw [Qft r (k+1) _ m i (List.nodup_cons.1 hn).2 h (by rw [List.length_set];exact hi)];omega
theorem Qk1(b:Nat->Bool):∀m:Nat,∃v,v < 2^m/\∀k,k < m->v.testBit k=b k
 |0=>⟨0,by decide,fun k h=>absurd h (Nat.not_lt_zero _)⟩
 |m+1=>by
  obtain⟨v,h1,h2⟩:=Qk1 b m;cases hb:b m
  ·refine⟨v,Nat.lt_trans h1 (Nat.pow_lt_pow_right (by decide) (Nat.lt_succ_self m)),fun k hk=> ?_⟩;by_cases e:k=m
   ·subst e;rw [hb,Nat.testBit_lt_two_pow h1]
   exact h2 k (by omega)
  refine⟨2^m+v,by rw [Nat.pow_succ];omega,fun k hk=> ?_⟩;by_cases e:k=m
  ·subst e;rw [hb,Nat.testBit_two_pow_add_eq,Nat.testBit_lt_two_pow h1];rfl
  rw [Nat.testBit_two_pow_add_gt (by omega)];exact h2 k (by omega)
theorem Qkj(leaf:Nat->Bool):∀(l:List Nd) (v:List Bool) (j:Nat),j < v.length->(Xc leaf l v).getD j false=v.getD j false
 |[],v,j,_=>rfl
 |n :: r,v,j,h=>by
  unfold Xc;rw [Qkj leaf r _ j (by rw [List.length_append];omega),Qk,List.getElem?_append_left h,<-Qk]
theorem Qfk(leaf:Nat->Bool) {c:List Nd}(hw:Wf c):∀(m i:Nat) (v:List Bool),v.length+m=c.length->(∀j,j < v.length->v.getD j false=(Xc leaf c []).getD j false)->Xc leaf (c.drop v.length) v=Xc leaf c []->v.length<=i->i < c.length->
 (Xc leaf c []).getD i false=(bif Xv (c.getD i Nd.zero).op then leaf i else Fb (c.getD i Nd.zero).op ((Xc leaf c []).getD (c.getD i Nd.zero).x.toNat false) ((Xc leaf c []).getD (c.getD i Nd.zero).y.toNat false))
 |0,i,v,hm,_,_,h1,h2=>absurd h2 (by omega)
 |m+1,i,v,hm,hv,he,h1,h2=>by
  have hl:v.length < c.length:=by omega
  have hn:c[v.length]?=some c[v.length]:=Qv hl;have hg:c.getD v.length Nd.zero=c[v.length]:=by rw [Qk,hn];rfl
  rw [List.drop_eq_getElem_cons hl,Qsc]at he;have hl2:(v++ [Um leaf v c[v.length]]).length=v.length+1:=by simp
  have hlast:(Xc leaf c []).getD v.length false=Um leaf v c[v.length]:=by
   have e:=Qkj leaf (c.drop (v.length+1)) (v++ [Um leaf v c[v.length]]) v.length (by rw [hl2];omega);rw [show Xc leaf (c.drop (v.length+1)) (v++ [Um leaf v c[v.length]])=Xc leaf c []from he]at e;rw [e,Qk,List.getElem?_append_right (Nat.le_refl _),Nat.sub_self];rfl
  have hv2:∀j,j < (v++ [Um leaf v c[v.length]]).length->(v++ [Um leaf v c[v.length]]).getD j false=(Xc leaf c []).getD j false:=fun j hj=>by
   by_cases e:j < v.length
   ·rw [<-hv j e,Qk,List.getElem?_append_left e,<-Qk]
   obtain rfl:j=v.length:=by omega
   rw [hlast,Qk,List.getElem?_append_right (Nat.le_refl _),Nat.sub_self];rfl
  by_cases e:i=v.length
  ·subst e;rw [hlast,hg];unfold Um;cases ha:Xv c[v.length].op
   ·rw [cond_false,cond_false];obtain⟨wx,wy⟩:=hw _ _ hn;have h8:=(Wd ha).2;by_cases h5:5<=c[v.length].op
    ·have hx:=wx (Cg (by omega));have hy:=wy (Qjb (by omega));rw [hv _ (by omega),hv _ (by omega)]
    by_cases h4:4<=c[v.length].op
    ·have hx:=wx (Cg (by omega));have h4':c[v.length].op=4:=by omega
     rw [hv _ (by omega),h4'];rfl
    unfold Fb;rw [show(c[v.length].op==4)=false by simp;omega,show(c[v.length].op==5)=false by simp;omega,show(c[v.length].op==6)=false by simp;omega,show(c[v.length].op==7)=false by simp;omega,show(c[v.length].op==8)=false by simp;omega];rfl
   rfl
  exact Qfk leaf hw m i (v++ [Um leaf v c[v.length]]) (by rw [hl2];omega) hv2 (by rw [hl2];exact he) (by rw [hl2];omega) h2
theorem Qah(leaf:Nat->Bool) {c:List Nd}(hw:Wf c) {i:Nat}(hi:i < c.length):
 (Xc leaf c []).getD i false=(bif Xv (c.getD i Nd.zero).op then leaf i else Fb (c.getD i Nd.zero).op ((Xc leaf c []).getD (c.getD i Nd.zero).x.toNat false) ((Xc leaf c []).getD (c.getD i Nd.zero).y.toNat false)):=
 Qfk leaf hw c.length i [] (Nat.zero_add _) (fun _ h=>absurd h (Nat.not_lt_zero _)) rfl (Nat.zero_le _) hi
theorem Qny {M:KM} {w:M.W} {c:List Nd}(hc:Qs c=0)(h:Bj c=true):M.sat (Qp c) w:=by
 have hw:=Jq hc;have hpos:=(Zk hc).1;unfold Bj at h;cases h10:decide (10 < (Gb c).length)
 ·rw [h10,cond_false]at h;have P:=Nz hw c.length (c.length - 1) (List.replicate c.length false,[]) (by omega) (by omega) (by simp);obtain⟨hnd,hout⟩:=P.ok ⟨List.nodup_nil,fun j hj=>(List.not_mem_nil hj).elim⟩;have hcl:∀j,(Jn c c.length (c.length - 1) (List.replicate c.length false,[])).1.getD j false=true->ClL c (Jn c c.length (c.length - 1) (List.replicate c.length false,[])) j:=fun j hj=>by
   rcases P.new j hj with h|h
   ·exfalso
    rw [Qk]at h;by_cases hj2:j < c.length
    ·rw [List.getElem?_replicate_of_lt hj2]at h;cases h
    rw [List.getElem?_eq_none (by simp;omega)]at h;cases h
   exact h
  obtain⟨v,hv1,hv2⟩:=Qk1 (fun k=> @decide (M.sat (tr c ((Gb c).getD k 0)) w) (Classical.propDecidable _)) (Gb c).length;have hval:=List.all_eq_true.1 h v (List.mem_range.2 hv1);have key:∀n j,j < n->j < c.length->(Jn c c.length (c.length - 1) (List.replicate c.length false,[])).1.getD j false=true->((Xc (fun i=>v.testBit ((Dh c).getD i 0)) c []).getD j false=true↔M.sat (tr c j) w):=by
   intro n
   induction n with
   |zero=>intro j hj;exact absurd hj (Nat.not_lt_zero _)
   |succ n ih =>
    intro j hj hjl hs;obtain⟨k1,k2⟩:=hcl j hs;rw [Qah _ hw hjl];have hn:c[j]?=some (c.getD j Nd.zero):=by rw [Qk,Qv hjl];rfl
    obtain⟨wx,wy⟩:=hw j _ hn;cases ha:Xv (c.getD j Nd.zero).op
    ·rw [cond_false];obtain⟨kx,ky⟩:=k2 ha;have hop:=(Fz hc _ (List.mem_of_getElem? hn)).1;rw [Xb hw hn];generalize c.getD j Nd.zero=nd at *;obtain⟨op,a,e,g,x,y⟩:=nd;simp only at kx ky wx wy ha hop⊢;obtain⟨h3,h8⟩:=Wd ha;simp only [Jl,Bool.and_eq_true,decide_eq_true_iff]at hop;have hx:4<=op->((Xc (fun i=>v.testBit ((Dh c).getD i 0)) c []).getD x.toNat false=true↔M.sat (tr c x.toNat) w):=fun h4=>by
      have:=wx (Cg (by omega));exact ih x.toNat (by omega) (by omega) (kx h4)
     have hy:5<=op->((Xc (fun i=>v.testBit ((Dh c).getD i 0)) c []).getD y.toNat false=true↔M.sat (tr c y.toNat) w):=fun h5=>by
      have:=wy (Qjb (by omega));exact ih y.toNat (by omega) (by omega) (ky h5)
     generalize (Xc (fun i=>v.testBit ((Dh c).getD i 0)) c []).getD x.toNat false=bx at hx⊢;generalize (Xc (fun i=>v.testBit ((Dh c).getD i 0)) c []).getD y.toNat false=bY at hy⊢;rcases(show op=1\/op=2\/op=4\/op=5\/op=6\/op=7\/op=8 by omega)with rfl|rfl|rfl|rfl|rfl|rfl|rfl
     ·simp [Ve,Qw,Qa,KM.sat,Fb]
     ·simp [Ve,Qw,Qa,KM.sat,Fb]
     ·have hx:=hx (by decide);simp [Ve,Qw,Qa,KM.sat,Fb,Nd.head,Nd.with_,<-hx]
     ·have hx:=hx (by decide);have hy:=hy (by decide);simp [Ve,Qw,Qa,KM.sat,Fb,Nd.head,Nd.with_,<-hx,<-hy]
     ·have hx:=hx (by decide);have hy:=hy (by decide);simp [Ve,Qw,Qa,KM.sat,Fb,Nd.head,Nd.with_,<-hx,<-hy]
     ·have hx:=hx (by decide);have hy:=hy (by decide);simp [Ve,Qw,Qa,KM.sat,Fb,Nd.head,Nd.with_,<-hx,<-hy]
      all_goals(cases bx <;> cases bY <;> simp)
     have hx:=hx (by decide);have hy:=hy (by decide);simp [Ve,Qw,Qa,KM.sat,Fb,Nd.head,Nd.with_,<-hx,<-hy]
     all_goals(cases bx <;> cases bY <;> simp)
    rw [cond_true];have hm:=k1 ha;obtain⟨k,hk⟩:=List.getElem?_of_mem hm;have hkl:=(List.getElem?_eq_some_iff.1 hk).1;have e1:(Dh c).getD j 0=k:=by
     unfold Dh;have e:=Qft (Gb c) 0 (List.replicate c.length 0) k j hnd hk (by rw [List.length_replicate];exact hjl);rw [e,Nat.zero_add]
    rw [e1,hv2 k hkl,@decide_eq_true_iff,show(Gb c).getD k 0=j by rw [Qk];unfold Gb;rw [hk];rfl]
  exact(key c.length (c.length - 1) (by omega) (by omega) P.at_).1 hval
 rw [h10]at h;cases h
theorem Pm {f:List Nd}(h:Vv f=0):Qs f=0/\Yd (Jh f) 11=true:=by
 unfold Vv at h;cases e:Qs f !=0
 ·rw [e,cond_false]at h;cases e2:Yd (Jh f) 11
  ·rw [e2]at h;cases h
  exact⟨by simpa using e,rfl⟩
 rw [e,cond_true]at h;rw [h]at e;cases e
theorem Qzv {lg:Int} {ls:List HLn} :∀m i,Lj lg ls m i=0->∀j,i<=j->j < i+m->Xw lg ls j=0
 |0,i,_,j,h1,h2=>absurd h2 (by omega)
 |m+1,i,h,j,h1,h2=>by
  unfold Lj at h;cases e:Xw lg ls i !=0
  ·rw [e,cond_false]at h;by_cases ej:j=i
   ·subst ej;simpa using e
   exact Qzv m (i+1) h j (by omega) (by omega)
  rw [e,cond_true]at h;rw [h]at e;cases e
theorem Qxa {lg:Int} {ls:List HLn}(h:Gy lg ls=0):(0<=lg/\lg<=6)/\∀j,j < ls.length->Xw lg ls j=0:=by
 unfold Gy at h;cases e1:decide (lg < 0)||decide (6 < lg)
 ·rw [e1,cond_false]at h;cases e2:decide (ls.length=0)
  ·rw [e2,cond_false]at h;cases e3:decide (400 < ls.length)
   ·rw [e3,cond_false]at h;rw [Bool.or_eq_false_iff]at e1;have a1:=of_decide_eq_false e1.1;have a2:=of_decide_eq_false e1.2;exact⟨⟨by omega,by omega⟩,fun j hj=>Qzv _ _ h j (Nat.zero_le _) (by omega)⟩
   rw [e3]at h;cases h
  rw [e2]at h;cases h
 rw [e1]at h;cases h
theorem Qx7 {M:KM} {lg r:Int}(hM:M.In lg)(hr:1<=r/\r<=9)(hh:Vo lg r=true) {c:List Nd}(hc:Qs c=0)(h:Vn r c=true)(w:M.W):M.sat (Qp c) w:=by
 unfold Vn at h;unfold Vo at hh;rcases(show r=1\/r=2\/r=3\/r=4\/r=5\/r=6\/r=7\/r=8\/r=9 by omega)with rfl|rfl|rfl|rfl|rfl|rfl|rfl|rfl|rfl
 ·exact Qny hc h
 ·exact Qb8 h
 ·have:=of_decide_eq_true hh;exact Qcz hM (by simpa using this) h
 ·have:=of_decide_eq_true hh;simp at this;exact Qc3 hM (by omega) h
 ·have:=of_decide_eq_true hh;exact Qbb hM (by simpa using this) h
 ·have:=of_decide_eq_true hh;exact Qcb hM (by simpa using this) h
 ·exact Qf1 h
 ·exact Qgl h
 exact Qgd h
theorem Po {k p n i:Int}(h:Yg k p n i=false)(hk:k < p):0<=n/\n < i:=by
 unfold Yg at h;rw [Bool.or_eq_false_iff]at h;have h2:=h.2;rw [decide_eq_true hk,Bool.true_and,Bool.or_eq_false_iff]at h2;have a1:=of_decide_eq_false h2.1;have a2:=of_decide_eq_false h2.2;omega
theorem Qrb {M:KM} {lg:Int}(hM:M.In lg) {ls:List HLn}(h:Gy lg ls=0):∀(i:Nat),i < ls.length->Vv (lnH ls i).f=0/\∀w:M.W,M.sat (Qp (lnH ls i).f) w:=by
 obtain⟨_,hl⟩:=Qxa h;intro i
 induction i using Nat.strongRecOn with
 |_ i ih =>
  intro hi;have h0:=hl i hi;unfold Xw at h0;generalize hx:lnH ls i=x at h0⊢;cases e1:Vv x.f !=0
  ·rw [e1,cond_false]at h0;cases e2:decide (x.rule < 1)||decide (12 < x.rule)
   ·rw [e2,cond_false]at h0;cases e3:Jo x i !=0
    ·rw [e3,cond_false]at h0;cases e4:Vo lg x.rule
     ·rw [e4]at h0;cases h0
     rw [e4,cond_true]at h0;cases e5:Xk ls x
     ·rw [e5]at h0;cases h0
     have hf:Vv x.f=0:=by simpa using e1
     have hn:Jo x i=0:=by simpa using e3
     refine⟨hf,fun w=> ?_⟩;have hc:=(Pm hf).1;rw [Bool.or_eq_false_iff]at e2;have r1:=of_decide_eq_false e2.1;have r2:=of_decide_eq_false e2.2;rw [<-Ky hc];unfold Jo at hn;cases n1:Yg 0 (Bi x.rule) x.a i
     ·rw [n1,cond_false]at hn;cases n2:Yg 1 (Bi x.rule) x.b i
      ·rw [n2,cond_false]at hn;unfold Xk at e5;have prev:∀k:Int,0<=k->k < i->∀v:M.W,M.sat (Qp (lnH ls k).f) v:=fun k k0 k1 v=>by
        obtain⟨q,rfl⟩:=Int.eq_ofNat_of_zero_le k0;exact(ih q (by omega) (by omega)).2 v
       by_cases h10:x.rule=10
       ·rw [h10]at e5 n1 n2;obtain⟨a0,a1⟩:=Po n1 (by decide);obtain⟨b0,b1⟩:=Po n2 (by decide);exact Qmj e5 (prev _ a0 a1 w) (prev _ b0 b1 w)
       by_cases h11:x.rule=11
       ·rw [h11]at e5 n1 hn;obtain⟨a0,a1⟩:=Po n1 (by decide);cases g1:decide (x.agent < 0)||decide (4<=x.agent)
        ·rw [Bool.or_eq_false_iff]at g1;have g2:=of_decide_eq_false g1.1;have g3:=of_decide_eq_false g1.2;exact Qrr (by omega) e5 (prev _ a0 a1)
        rw [g1]at hn;cases hn
       by_cases h12:x.rule=12
       ·rw [h12]at e5 n1;obtain⟨a0,a1⟩:=Po n1 (by decide);exact Qrn e5 (prev _ a0 a1)
       rw [show(x.rule==10)=false by simpa using h10,show(x.rule==11)=false by simpa using h11,show(x.rule==12)=false by simpa using h12]at e5;exact Qx7 hM (by omega) e4 (Ke hc) e5 w
      rw [n2]at hn;cases hn
     rw [n1]at hn;cases hn
    rw [e3,cond_true]at h0;rw [h0]at e3;cases e3
   rw [e2]at h0;cases h0
  rw [e1,cond_true]at h0;rw [h0]at e1;cases e1
theorem Qsb {f:List Nd}(h:Yd (Jh f) 11=true):∀n∈Qf f,n.op≠12:=by
 intro n hn e;rw [Kb]at h;have:(Kp (Qf f)).testBit 2=true:=by
  obtain⟨l1,l2,hl⟩:=List.append_of_mem hn;unfold Kp;rw [hl,List.foldl_append,List.foldl_cons,e];have key:∀(l:List Nd) (m:Nat),m.testBit 2=true->(l.foldl (fun m n=>m|||(Kv n.op).toNat) m).testBit 2=true:=by
   intro l
   induction l with
   |nil=>exact fun m hm=>hm
   |cons a r ih=>exact fun m hm=>ih _ (by rw [Nat.testBit_or,hm];rfl)
  exact key _ _ (by rw [Nat.testBit_or,show((Kv 12).toNat).testBit 2=true by decide,Bool.or_true])
 exact absurd (h 2 this) (by decide)
theorem Qma {md:Md} {lg:Int}(hg:Qze md lg) {ls:List HLn}(h:Gy lg ls=0) {i:Nat}(hi:i < ls.length)(hc:Yh md (lnH ls i).f=0):Df md (lnH ls i).f=Zo md.n.toNat:=by
 obtain⟨hf,hs⟩:=Qrb (M:=Bz md) (Qhy hg) h i hi;have hck:=(Dn hc).1;refine Qh3 (Qsa hck _) fun k hk=> ?_
 exact(Qr6 hc (Qsb (Pm hf).2) ⟨k,hk⟩).2 (hs (⟨k,hk⟩:Fin md.n.toNat))
end Go.Proofs.YtmidgcldljfkcaaGreatDoor
