/- The constructors of formulas. -/
import Derived.Test.YtkmclcmnoicagaaGreatDoorM01
import Derived.Test.YtkmclcmnoicagaaGreatDoorM06
namespace Go.Proofs.YtkmclcmnoicagaaGreatDoor
set_option maxRecDepth 100000
set_option maxHeartbeats 128000000
open Go.RowKit
theorem Qjt(w:World):Fl w (.slice none 0 0) []:=⟨none,0,rfl,Nat.le_refl _,by unfold maxLen;omega,fun h=>absurd rfl h⟩
theorem Qfr {w:World} {v:Value} {f:List Nd}(h:Fml w v f):Fl (w.alloc (.cells #[v] 22)) (.slice (some ⟨w.heap.size,0,none⟩) 1 1) [f]:=by
 refine⟨_,_,rfl,Nat.le_refl _,by unfold maxLen;simp,fun _=>⟨_,rfl,by simp,fun k l hk=> ?_⟩⟩
 match k,hk with
 |0,hk =>
  simp only [List.getElem?_cons_zero,Option.some.injEq]at hk;subst hk;exact⟨v,Ap w #[v] 22 0 v rfl,h.ext (Qz.alloc _)⟩
theorem Pt {w:World} {v1 v2:Value} {f g:List Nd}(h1:Fml w v1 f)(h2:Fml w v2 g):Fl (w.alloc (.cells #[v1,v2] 22)) (.slice (some ⟨w.heap.size,0,none⟩) 2 2) [f,g]:=by
 refine⟨_,_,rfl,Nat.le_refl _,by unfold maxLen;simp,fun _=>⟨_,rfl,by simp,fun k l hk=> ?_⟩⟩
 match k,hk with
 |0,hk =>
  simp only [List.getElem?_cons_zero,Option.some.injEq]at hk;subst hk;exact⟨v1,Ap w #[v1,v2] 22 0 v1 rfl,h1.ext (Qz.alloc _)⟩
 |1,hk =>
  simp only [List.getElem?_cons_succ,List.getElem?_cons_zero,Option.some.injEq]at hk;subst hk;exact⟨v2,Ap w #[v1,v2] 22 1 v2 rfl,h2.ext (Qz.alloc _)⟩
theorem Us {a b c d e g:Int}(ha:Yo a)(hb:Yo b)(hc:Yo c)(hd:Yo d)(he:Yo e)(hg:Yo g):(Nd.mk a b c d e g).ok:=⟨ha,hb,hc,hd,he,hg⟩
theorem Qi {a:Int}(h0:0<=a)(h1:a<=1000):Yo a:=⟨by omega,by omega⟩
def Oq:List Nd:=Yp ⟨1,0,0,0,0,0⟩ []
theorem Qbe(w:World):
 Calls Tryz.prog 119 #[] w fun e w'=>∃u,e=.returned u/\Vg w w' u (Oq):=by
 go_enter Tryz.func119,Tryz.ntmps119;go_wp2_with fail;refine(Uv ⟨1,0,0,0,0,0⟩ _ [] _ (Us (Qi (by omega) (by omega)) (Qi (by omega) (by omega)) (Qi (by omega) (by omega)) (Qi (by omega) (by omega)) (Qi (by omega) (by omega)) (Qi (by omega) (by omega))) (Qjt _) (by simp)).mono ?_;rintro e w1 ⟨u,rfl,hm⟩;have HM:=Qq hm;clear hm;go_wp2_with fail;go_ret;exact⟨_,rfl,HM.out⟩
def Ag:List Nd:=Yp ⟨2,0,0,0,0,0⟩ []
theorem Qlz(w:World):
 Calls Tryz.prog 120 #[] w fun e w'=>∃u,e=.returned u/\Vg w w' u (Ag):=by
 go_enter Tryz.func120,Tryz.ntmps120;go_wp2_with fail;refine(Uv ⟨2,0,0,0,0,0⟩ _ [] _ (Us (Qi (by omega) (by omega)) (Qi (by omega) (by omega)) (Qi (by omega) (by omega)) (Qi (by omega) (by omega)) (Qi (by omega) (by omega)) (Qi (by omega) (by omega))) (Qjt _) (by simp)).mono ?_;rintro e w1 ⟨u,rfl,hm⟩;have HM:=Qq hm;clear hm;go_wp2_with fail;go_ret;exact⟨_,rfl,HM.out⟩
def Qy6(a:Int):List Nd:=Yp ⟨3,a,0,0,0,0⟩ []
theorem Qcz(a:Int)(ha:Yo a)(w:World):
 Calls Tryz.prog 121 #[.int .i64 a] w fun e w'=>∃u,e=.returned u/\Vg w w' u (Qy6 a):=by
 go_enter Tryz.func121,Tryz.ntmps121;go_wp2_with fail;refine(Uv ⟨3,a,0,0,0,0⟩ _ [] _ (Us (Qi (by omega) (by omega)) ha (Qi (by omega) (by omega)) (Qi (by omega) (by omega)) (Qi (by omega) (by omega)) (Qi (by omega) (by omega))) (Qjt _) (by simp)).mono ?_;rintro e w1 ⟨u,rfl,hm⟩;have HM:=Qq hm;clear hm;go_wp2_with fail;go_ret;exact⟨_,rfl,HM.out⟩
def Jj(f:List Nd):List Nd:=Yp ⟨4,0,0,0,0,0⟩ [f]
theorem Xw(v1:Value)(f:List Nd)(w:World)(h1:Fml w v1 f):
 Calls Tryz.prog 38 #[v1] w fun e w'=>∃u,e=.returned u/\Vg w w' u (Jj f):=by
 have H1:=Qq h1;obtain⟨A1,c1,rfl,_⟩:=Qm h1;clear h1;go_enter Tryz.func38,Tryz.ntmps38;go_wp2_with fail;refine(Uv ⟨4,0,0,0,0,0⟩ _ [f] _ (Us (Qi (by omega) (by omega)) (Qi (by omega) (by omega)) (Qi (by omega) (by omega)) (Qi (by omega) (by omega)) (Qi (by omega) (by omega)) (Qi (by omega) (by omega))) (Qfr H1.out) (by simp)).mono ?_;rintro e w1 ⟨u,rfl,hm⟩;have HM:=Qq hm;clear hm;go_wp2_with fail;go_ret;exact⟨_,rfl,(HM.out.before (Qz.alloc _))⟩
def Uo(f g:List Nd):List Nd:=Yp ⟨5,0,0,0,0,0⟩ [f,g]
theorem Qqt(v1 v2:Value)(f g:List Nd)(w:World)(h1:Fml w v1 f)(h2:Fml w v2 g):
 Calls Tryz.prog 71 #[v1,v2] w fun e w'=>∃u,e=.returned u/\Vg w w' u (Uo f g):=by
 have H1:=Qq h1;have H2:=Qq h2;obtain⟨A1,c1,rfl,_⟩:=Qm h1;obtain⟨A2,c2,rfl,_⟩:=Qm h2;clear h1 h2;go_enter Tryz.func71,Tryz.ntmps71;go_wp2_with fail;refine(Uv ⟨5,0,0,0,0,0⟩ _ [f,g] _ (Us (Qi (by omega) (by omega)) (Qi (by omega) (by omega)) (Qi (by omega) (by omega)) (Qi (by omega) (by omega)) (Qi (by omega) (by omega)) (Qi (by omega) (by omega))) (Pt H1.out H2.out) (by simp)).mono ?_;rintro e w1 ⟨u,rfl,hm⟩;have HM:=Qq hm;clear hm;go_wp2_with fail;go_ret;exact⟨_,rfl,(HM.out.before (Qz.alloc _))⟩
def Qje(f g:List Nd):List Nd:=Yp ⟨7,0,0,0,0,0⟩ [f,g]
theorem Qkv(v1 v2:Value)(f g:List Nd)(w:World)(h1:Fml w v1 f)(h2:Fml w v2 g):
 Calls Tryz.prog 74 #[v1,v2] w fun e w'=>∃u,e=.returned u/\Vg w w' u (Qje f g):=by
 have H1:=Qq h1;have H2:=Qq h2;obtain⟨A1,c1,rfl,_⟩:=Qm h1;obtain⟨A2,c2,rfl,_⟩:=Qm h2;clear h1 h2;go_enter Tryz.func74,Tryz.ntmps74;go_wp2_with fail;refine(Uv ⟨7,0,0,0,0,0⟩ _ [f,g] _ (Us (Qi (by omega) (by omega)) (Qi (by omega) (by omega)) (Qi (by omega) (by omega)) (Qi (by omega) (by omega)) (Qi (by omega) (by omega)) (Qi (by omega) (by omega))) (Pt H1.out H2.out) (by simp)).mono ?_;rintro e w1 ⟨u,rfl,hm⟩;have HM:=Qq hm;clear hm;go_wp2_with fail;go_ret;exact⟨_,rfl,(HM.out.before (Qz.alloc _))⟩
def Gj(a:Int)(f:List Nd):List Nd:=Yp ⟨9,a,0,0,0,0⟩ [f]
theorem Tb(a:Int)(ha:Yo a)(v1:Value)(f:List Nd)(w:World)(h1:Fml w v1 f):
 Calls Tryz.prog 72 #[.int .i64 a,v1] w fun e w'=>∃u,e=.returned u/\Vg w w' u (Gj a f):=by
 have H1:=Qq h1;obtain⟨A1,c1,rfl,_⟩:=Qm h1;clear h1;go_enter Tryz.func72,Tryz.ntmps72;go_wp2_with fail;refine(Uv ⟨9,a,0,0,0,0⟩ _ [f] _ (Us (Qi (by omega) (by omega)) ha (Qi (by omega) (by omega)) (Qi (by omega) (by omega)) (Qi (by omega) (by omega)) (Qi (by omega) (by omega))) (Qfr H1.out) (by simp)).mono ?_;rintro e w1 ⟨u,rfl,hm⟩;have HM:=Qq hm;clear hm;go_wp2_with fail;go_ret;exact⟨_,rfl,(HM.out.before (Qz.alloc _))⟩
def Qad(a:Int)(f:List Nd):List Nd:=Yp ⟨10,a,0,0,0,0⟩ [f]
theorem Qri {w:World} {base n:Nat} {vd:Value} {d:List Int}(h:w.ownsRow base 3 1 vd n (d.map (Value.int .i64)))(hn:0 < n):
 ∃g cap,vd=.slice (some ⟨g,0,none⟩) n cap/\g < w.heap.size/\n<=cap/\cap<=maxLen/\∀i z,d[i]?=some z->w.cell? ⟨g,i,none⟩=some (.int .i64 z)/\w.frozen? ⟨g,i,none⟩=false:=by
 rcases h.2 with⟨_,h0⟩|⟨g,cap,cur,rfl,_,hg,hnc,hm,hs,ht⟩
 ·omega
 refine⟨g,cap,rfl,Qf hg,hnc,hm,fun i z hz=>⟨?_,by simp [World.frozen?,hg]⟩⟩;have h1:(d.map (Value.int .i64))[i]?=some (.int .i64 z):=by rw [List.getElem?_map,hz];rfl
 rw [<-ht,List.getElem?_take]at h1
 split at h1
 ·have h2:cur[i]?=some (.int .i64 z):=by simpa using h1
  simp [World.cell?,hg,h2]
 cases h1
theorem Fs(g i:Nat):((⟨g,0,none⟩:Addr).add i)=⟨g,i,none⟩:=by
 unfold Addr.add
 split
 ·rename_i h;rw [h]
 simp
def Qyl(w:World)(A:Option Addr)(c:Nat)(l:List Int):Prop :=
 l.length<=c/\c<=maxLen/\(l≠ []->∃ad,A=some ad/\ad.block < w.heap.size/\∀k z,l[k]?=some z->w.cell? (ad.add k)=some (.int .i64 z))
def Bs(w:World)(v:Value)(l:List Int):Prop:=∃A c,v=.slice A l.length c/\Qyl w A c l
theorem Qyl.ext {w w':World} {A:Option Addr} {c:Nat} {l:List Int}(h:Qyl w A c l)(he:Ext w w'):Qyl w' A c l :=
 ⟨h.1,h.2.1,fun hn=>by
  obtain⟨ad,e,hlt,hc⟩:=h.2.2 hn;exact⟨ad,e,Qy hlt he.size,fun k z hk=>(he.cell (Qj hlt)).trans (hc k z hk)⟩⟩
theorem Bs.ext {w w':World} {v:Value} {l:List Int}(h:Bs w v l)(he:Ext w w'):Bs w' v l:=by
 obtain⟨A,c,e,h⟩:=h;exact⟨A,c,e,h.ext he⟩
theorem Bs.none_(w:World):Bs w (.slice none 0 0) []:=⟨none,0,rfl,Nat.le_refl _,by unfold maxLen;omega,fun h=>absurd rfl h⟩
theorem Qz1 {w:World} {base:Nat} {v:Value} {l:List Int}(h:w.ownsRow base 3 1 v l.length (l.map (Value.int .i64))):Bs w v l:=by
 by_cases h0:0 < l.length
 ·obtain⟨g,cap,rfl,hg,hc,hm,hcell⟩:=Qri h h0;exact⟨_,_,rfl,hc,hm,fun _=>⟨_,rfl,hg,fun k z hk=>by rw [Fs];exact(hcell k z hk).1⟩⟩
 have e:l= []:=List.length_eq_zero_iff.1 (by omega);subst e;rcases h.2 with⟨rfl,_⟩|⟨g,cap,cur,rfl,_,_,hn,hm,_⟩
 ·exact Bs.none_ w
 exact⟨_,cap,rfl,Nat.zero_le _,hm,fun h=>absurd rfl h⟩
def Zjj(w w':World)(v:Value)(l:List Int):Prop:=w'.ownsRow w.heap.size 3 1 v l.length (l.map (Value.int .i64))/\Ext w w'
def orN(f g:List Nd):List Nd:=Yp ⟨6,0,0,0,0,0⟩ [f,g]
def Qce(f g:List Nd):List Nd:=Yp ⟨8,0,0,0,0,0⟩ [f,g]
end Go.Proofs.YtkmclcmnoicagaaGreatDoor
