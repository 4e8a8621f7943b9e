/- The constructors of formulas. -/
import Derived.Test.YtmidgcldljfkcaaGreatDoorM01
import Derived.Test.YtmidgcldljfkcaaGreatDoorM03
namespace Go.Proofs.YtmidgcldljfkcaaGreatDoor
set_option maxRecDepth 100000
set_option maxHeartbeats 128000000
open Go.RowKit
theorem Ic(w:World):Rl w (.slice none 0 0) []:=⟨none,0,rfl,Nat.le_refl _,by unfold maxLen;omega,fun h=>absurd rfl h⟩
theorem Ci {w:World} {v:Value} {f:List Nd}(h:Fml w v f):Rl (w.alloc (.cells #[v] 31)) (.slice (some ⟨w.heap.size,0,none⟩) 1 1) [f]:=by
 refine⟨_,_,rfl,Nat.le_refl _,by unfold maxLen;simp,fun _=>⟨_,rfl,by simp,fun k l hk=> ?_⟩⟩
 match k,hk with
 |0,hk =>
  simp only [List.getElem?_cons_zero,Option.some.injEq]at hk;subst hk;exact⟨v,Bm w #[v] 31 0 v rfl,h.ext (Qz.alloc _)⟩
theorem Cl {w:World} {v1 v2:Value} {f g:List Nd}(h1:Fml w v1 f)(h2:Fml w v2 g):Rl (w.alloc (.cells #[v1,v2] 31)) (.slice (some ⟨w.heap.size,0,none⟩) 2 2) [f,g]:=by
 refine⟨_,_,rfl,Nat.le_refl _,by unfold maxLen;simp,fun _=>⟨_,rfl,by simp,fun k l hk=> ?_⟩⟩
 match k,hk with
 |0,hk =>
  simp only [List.getElem?_cons_zero,Option.some.injEq]at hk;subst hk;exact⟨v1,Bm w #[v1,v2] 31 0 v1 rfl,h1.ext (Qz.alloc _)⟩
 |1,hk =>
  simp only [List.getElem?_cons_succ,List.getElem?_cons_zero,Option.some.injEq]at hk;subst hk;exact⟨v2,Bm w #[v1,v2] 31 1 v2 rfl,h2.ext (Qz.alloc _)⟩
theorem Ux {a b c d e g:Int}(ha:Jc a)(hb:Jc b)(hc:Jc c)(hd:Jc d)(he:Jc e)(hg:Jc g):(Nd.mk a b c d e g).ok:=⟨ha,hb,hc,hd,he,hg⟩
theorem Qe {a:Int}(h0:0<=a)(h1:a<=1000):Jc a:=⟨by omega,by omega⟩
def Db:List Nd:=Yp ⟨1,0,0,0,0,0⟩ []
theorem Li(w:World):
 Calls Tryz.prog 70 #[] w fun e w'=>∃u,e=.returned u/\Ye w w' u (Db):=by
 go_enter Tryz.func70,Tryz.ntmps70;go_wp2_with fail;refine(Gz ⟨1,0,0,0,0,0⟩ _ [] _ (Ux (Qe (by omega) (by omega)) (Qe (by omega) (by omega)) (Qe (by omega) (by omega)) (Qe (by omega) (by omega)) (Qe (by omega) (by omega)) (Qe (by omega) (by omega))) (Ic _) (by simp)).mono ?_;rintro e w1 ⟨u,rfl,hm⟩;have HM:=Qq hm;clear hm;go_wp2_with fail;go_ret;exact⟨_,rfl,HM.out⟩
def Dv:List Nd:=Yp ⟨2,0,0,0,0,0⟩ []
theorem Td(w:World):
 Calls Tryz.prog 121 #[] w fun e w'=>∃u,e=.returned u/\Ye w w' u (Dv):=by
 go_enter Tryz.func121,Tryz.ntmps121;go_wp2_with fail;refine(Gz ⟨2,0,0,0,0,0⟩ _ [] _ (Ux (Qe (by omega) (by omega)) (Qe (by omega) (by omega)) (Qe (by omega) (by omega)) (Qe (by omega) (by omega)) (Qe (by omega) (by omega)) (Qe (by omega) (by omega))) (Ic _) (by simp)).mono ?_;rintro e w1 ⟨u,rfl,hm⟩;have HM:=Qq hm;clear hm;go_wp2_with fail;go_ret;exact⟨_,rfl,HM.out⟩
def Qy9(a:Int):List Nd:=Yp ⟨3,a,0,0,0,0⟩ []
theorem Qvt(a:Int)(ha:Jc a)(w:World):
 Calls Tryz.prog 15 #[.int .i64 a] w fun e w'=>∃u,e=.returned u/\Ye w w' u (Qy9 a):=by
 go_enter Tryz.func15,Tryz.ntmps15;go_wp2_with fail;refine(Gz ⟨3,a,0,0,0,0⟩ _ [] _ (Ux (Qe (by omega) (by omega)) ha (Qe (by omega) (by omega)) (Qe (by omega) (by omega)) (Qe (by omega) (by omega)) (Qe (by omega) (by omega))) (Ic _) (by simp)).mono ?_;rintro e w1 ⟨u,rfl,hm⟩;have HM:=Qq hm;clear hm;go_wp2_with fail;go_ret;exact⟨_,rfl,HM.out⟩
def Vt(f:List Nd):List Nd:=Yp ⟨4,0,0,0,0,0⟩ [f]
theorem Gg(v1:Value)(f:List Nd)(w:World)(h1:Fml w v1 f):
 Calls Tryz.prog 83 #[v1] w fun e w'=>∃u,e=.returned u/\Ye w w' u (Vt f):=by
 have H1:=Qq h1;obtain⟨A1,c1,rfl,_⟩:=Qg h1;clear h1;go_enter Tryz.func83,Tryz.ntmps83;go_wp2_with fail;refine(Gz ⟨4,0,0,0,0,0⟩ _ [f] _ (Ux (Qe (by omega) (by omega)) (Qe (by omega) (by omega)) (Qe (by omega) (by omega)) (Qe (by omega) (by omega)) (Qe (by omega) (by omega)) (Qe (by omega) (by omega))) (Ci H1.out) (by simp)).mono ?_;rintro e w1 ⟨u,rfl,hm⟩;have HM:=Qq hm;clear hm;go_wp2_with fail;go_ret;exact⟨_,rfl,(HM.out.before (Qz.alloc _))⟩
def Vi(f g:List Nd):List Nd:=Yp ⟨5,0,0,0,0,0⟩ [f,g]
theorem Bc(v1 v2:Value)(f g:List Nd)(w:World)(h1:Fml w v1 f)(h2:Fml w v2 g):
 Calls Tryz.prog 115 #[v1,v2] w fun e w'=>∃u,e=.returned u/\Ye w w' u (Vi f g):=by
 have H1:=Qq h1;have H2:=Qq h2;obtain⟨A1,c1,rfl,_⟩:=Qg h1;obtain⟨A2,c2,rfl,_⟩:=Qg h2;clear h1 h2;go_enter Tryz.func115,Tryz.ntmps115;go_wp2_with fail;refine(Gz ⟨5,0,0,0,0,0⟩ _ [f,g] _ (Ux (Qe (by omega) (by omega)) (Qe (by omega) (by omega)) (Qe (by omega) (by omega)) (Qe (by omega) (by omega)) (Qe (by omega) (by omega)) (Qe (by omega) (by omega))) (Cl H1.out H2.out) (by simp)).mono ?_;rintro e w1 ⟨u,rfl,hm⟩;have HM:=Qq hm;clear hm;go_wp2_with fail;go_ret;exact⟨_,rfl,(HM.out.before (Qz.alloc _))⟩
def Ya(f g:List Nd):List Nd:=Yp ⟨7,0,0,0,0,0⟩ [f,g]
theorem Kq(v1 v2:Value)(f g:List Nd)(w:World)(h1:Fml w v1 f)(h2:Fml w v2 g):
 Calls Tryz.prog 17 #[v1,v2] w fun e w'=>∃u,e=.returned u/\Ye w w' u (Ya f g):=by
 have H1:=Qq h1;have H2:=Qq h2;obtain⟨A1,c1,rfl,_⟩:=Qg h1;obtain⟨A2,c2,rfl,_⟩:=Qg h2;clear h1 h2;go_enter Tryz.func17,Tryz.ntmps17;go_wp2_with fail;refine(Gz ⟨7,0,0,0,0,0⟩ _ [f,g] _ (Ux (Qe (by omega) (by omega)) (Qe (by omega) (by omega)) (Qe (by omega) (by omega)) (Qe (by omega) (by omega)) (Qe (by omega) (by omega)) (Qe (by omega) (by omega))) (Cl H1.out H2.out) (by simp)).mono ?_;rintro e w1 ⟨u,rfl,hm⟩;have HM:=Qq hm;clear hm;go_wp2_with fail;go_ret;exact⟨_,rfl,(HM.out.before (Qz.alloc _))⟩
def Yy(a:Int)(f:List Nd):List Nd:=Yp ⟨9,a,0,0,0,0⟩ [f]
theorem Xn(a:Int)(ha:Jc a)(v1:Value)(f:List Nd)(w:World)(h1:Fml w v1 f):
 Calls Tryz.prog 16 #[.int .i64 a,v1] w fun e w'=>∃u,e=.returned u/\Ye w w' u (Yy a f):=by
 have H1:=Qq h1;obtain⟨A1,c1,rfl,_⟩:=Qg h1;clear h1;go_enter Tryz.func16,Tryz.ntmps16;go_wp2_with fail;refine(Gz ⟨9,a,0,0,0,0⟩ _ [f] _ (Ux (Qe (by omega) (by omega)) ha (Qe (by omega) (by omega)) (Qe (by omega) (by omega)) (Qe (by omega) (by omega)) (Qe (by omega) (by omega))) (Ci H1.out) (by simp)).mono ?_;rintro e w1 ⟨u,rfl,hm⟩;have HM:=Qq hm;clear hm;go_wp2_with fail;go_ret;exact⟨_,rfl,(HM.out.before (Qz.alloc _))⟩
def Cr(a:Int)(f:List Nd):List Nd:=Yp ⟨10,a,0,0,0,0⟩ [f]
theorem Qbq {w:World} {base n:Nat} {vd:Value} {d:List Int}(h:w.ownsRow base 3 1 vd n (d.map (Value.int .i64)))(hn:0 < n):
 ∃g cap,vd=.slice (some ⟨g,0,none⟩) n cap/\g < w.heap.size/\n<=cap/\cap<=maxLen/\∀i z,d[i]?=some z->w.cell? ⟨g,i,none⟩=some (.int .i64 z)/\w.frozen? ⟨g,i,none⟩=false:=by
 rcases h.2 with⟨_,h0⟩|⟨g,cap,cur,rfl,_,hg,hnc,hm,hs,ht⟩
 ·omega
 refine⟨g,cap,rfl,Qm hg,hnc,hm,fun i z hz=>⟨?_,by simp [World.frozen?,hg]⟩⟩;have h1:(d.map (Value.int .i64))[i]?=some (.int .i64 z):=by rw [List.getElem?_map,hz];rfl
 rw [<-ht,List.getElem?_take]at h1
 split at h1
 ·have h2:cur[i]?=some (.int .i64 z):=by simpa using h1
  simp [World.cell?,hg,h2]
 cases h1
theorem Xs(g i:Nat):((⟨g,0,none⟩:Addr).add i)=⟨g,i,none⟩:=by
 unfold Addr.add
 split
 ·rename_i h;rw [h]
 simp
def Dw(w:World)(A:Option Addr)(c:Nat)(l:List Int):Prop :=
 l.length<=c/\c<=maxLen/\(l≠ []->∃ad,A=some ad/\ad.block < w.heap.size/\∀k z,l[k]?=some z->w.cell? (ad.add k)=some (.int .i64 z))
def Zi(w:World)(v:Value)(l:List Int):Prop:=∃A c,v=.slice A l.length c/\Dw w A c l
theorem Dw.ext {w w':World} {A:Option Addr} {c:Nat} {l:List Int}(h:Dw w A c l)(he:Ext w w'):Dw w' A c l :=
 ⟨h.1,h.2.1,fun hn=>by
  obtain⟨ad,e,hlt,hc⟩:=h.2.2 hn;exact⟨ad,e,Qy hlt he.size,fun k z hk=>(he.cell (Qj hlt)).trans (hc k z hk)⟩⟩
theorem Zi.ext {w w':World} {v:Value} {l:List Int}(h:Zi w v l)(he:Ext w w'):Zi w' v l:=by
 obtain⟨A,c,e,h⟩:=h;exact⟨A,c,e,h.ext he⟩
theorem Zi.none_(w:World):Zi w (.slice none 0 0) []:=⟨none,0,rfl,Nat.le_refl _,by unfold maxLen;omega,fun h=>absurd rfl h⟩
theorem Tq {w:World} {base:Nat} {v:Value} {l:List Int}(h:w.ownsRow base 3 1 v l.length (l.map (Value.int .i64))):Zi w v l:=by
 by_cases h0:0 < l.length
 ·obtain⟨g,cap,rfl,hg,hc,hm,hcell⟩:=Qbq h h0;exact⟨_,_,rfl,hc,hm,fun _=>⟨_,rfl,hg,fun k z hk=>by rw [Xs];exact(hcell k z hk).1⟩⟩
 have e:l= []:=List.length_eq_zero_iff.1 (by omega);subst e;rcases h.2 with⟨rfl,_⟩|⟨g,cap,cur,rfl,_,_,hn,hm,_⟩
 ·exact Zi.none_ w
 exact⟨_,cap,rfl,Nat.zero_le _,hm,fun h=>absurd rfl h⟩
def Hn(w w':World)(v:Value)(l:List Int):Prop:=w'.ownsRow w.heap.size 3 1 v l.length (l.map (Value.int .i64))/\Ext w w'
theorem Hn.ints {w w':World} {v:Value} {l:List Int}(h:Hn w w' v l):Zi w' v l:=Tq h.1
theorem Qq0 {w wr:World}(h:∃m,wr=w.drewN m)(n:Nat):∃m,wr.drewN n=w.drewN m:=by
 obtain⟨m,e⟩:=h;exact⟨m+n,by rw [e,World.drewN_drewN]⟩
theorem Qkg(v1 v2:Value)(l1 l2:List Int)(w:World)(h1:Zi w v1 l1)(h2:Zi w v2 l2):
 Calls Tryz.prog 205 #[v1,v2] w fun e w'=>e=.returned (.bool (decide (l1=l2)))/\∃m,w'=w.drewN m:=by
 obtain⟨A1,c1,rfl,hcap1,hmax1,hr1⟩:=h1;obtain⟨A2,c2,rfl,hcap2,hmax2,hr2⟩:=h2;unfold maxLen at hmax1 hmax2;by_cases hl:l1.length=l2.length
 ·have HR1:=Qq hr1;have HR2:=Qq hr2;have HL:=Qq hl;have eb:((l1.length:Int) !=(l2.length:Int))=false:=by simp [hl]
  clear hr1 hr2 hl;go_enter Tryz.func205,Tryz.ntmps205;go_wp2_with fail;go_loopw [13] (fun i wr=>∃k:Nat,k<=l1.length/\i=.int .i64 k/\Hid (l1.take k=l2.take k)/\Hid (∃m,wr=w.drewN m)) (fun i _=>l1.length - (intOf i).toNat)
  case atStart=>exact⟨0,Nat.zero_le _,rfl,Qq rfl,Qq ⟨0,rfl⟩⟩
  case round =>
   obtain⟨k,hk,rfl,htk,HQ⟩:=hrel;have hext:Ext w wr:=(by obtain⟨m,e⟩:=HQ.out;rw [e];exact Qz.drewN _);by_cases hlt2:k < l1.length
   ·have hlt3:k < l2.length:=by have:=HL.out;omega
    obtain⟨a,ha⟩:∃a,l1[k]?=some a:=⟨_,Qv hlt2⟩;obtain⟨b,hb⟩:∃b,l2[k]?=some b:=⟨_,Qv hlt3⟩;obtain⟨ad1,rfl,hb1,hc1⟩:=HR1.out (by intro e;rw [e]at hlt2;simp at hlt2);obtain⟨ad2,rfl,hb2,hc2⟩:=HR2.out (by intro e;rw [e]at hlt3;simp at hlt3);have a0:=(hext.cell (p:=ad1.add k) (Qj hb1)).trans (hc1 k a ha);have b0:=(hext.cell (p:=ad2.add k) (Qj hb2)).trans (hc2 k b hb);have hi0:(0:Int)<=(k:Int):=by omega
    have hi1:(k:Int) < (l1.length:Int):=by omega
    have hi2:(k:Int) < (l2.length:Int):=by omega
    have HA:=Qq ha;have HB:=Qq hb;clear ha hb hc1 hc2;by_cases hab:a=b
    ·have hd:(a !=b)=false:=by simpa using hab
     have HT:Hid (l1.take (k+1)=l2.take (k+1)):=Qq (by rw [Yr HA.out,Yr HB.out,htk.out,hab]);clear hab;go_wp2_with fail;go_quiet (fail);go_wp2_with fail;go_roundw
     case rel=>exact⟨k+1,by omega,by go_num,HT,Qq (Qq0 HQ.out _)⟩
     case measure=>simp [intOf];omega
    have hd:(a !=b)=true:=by simpa using hab
    have HR:Hid (decide (l1=l2)=false):=Qq (decide_eq_false (Ez HA.out HB.out hab));clear hab;go_wp2_with fail;go_quiet (fail);go_wp2_with fail;go_ret;exact⟨by rw [HR.out];rfl,Qq0 HQ.out _⟩
   obtain rfl:l1.length=k:=by omega
   have HR:Hid (decide (l1=l2)=true):=Qq (decide_eq_true (by
    have h:=htk.out;rw [List.take_of_length_le (Nat.le_refl _),HL.out,List.take_of_length_le (Nat.le_refl _)]at h;exact h))
   go_wp2_with fail;go_ret;exact⟨by rw [HR.out];rfl,HQ.out⟩
 have eb:((l1.length:Int) !=(l2.length:Int))=true:=by simp;omega
 have HR:Hid (decide (l1=l2)=false):=Qq (decide_eq_false fun e=>hl (by rw [e]));clear hl hr1 hr2;go_enter Tryz.func205,Tryz.ntmps205;go_wp2_with fail;go_ret;exact⟨by rw [HR.out];rfl,0,rfl⟩
theorem Qza(v1 v2:Value)(l1 l2:List Int)(w:World)(h1:Zi w v1 l1)(h2:Zi w v2 l2):
 Calls Tryz.prog 205 #[v1,v2] w fun e w'=>e=.returned (.bool (decide (l1=l2)))/\Ext w w' :=
 (Qkg v1 v2 l1 l2 w h1 h2).mono fun _ _ ⟨he,m,hm⟩=>⟨he,by rw [hm];exact Qz.drewN _⟩
def Tv(l:List Int)(x:Int):Int:=bif decide (x∈l)then(l.idxOf x:Nat)else -1
theorem At:∀{o:List Int} {k:Nat} {a x:Int},o[k]?=some a->a=x->x∉o.take k->o.idxOf x=k
 |[],k,a,x,h,_,_=>by simp at h
 |b :: r,0,a,x,h,hab,_=>by
  simp only [List.getElem?_cons_zero,Option.some.injEq]at h;subst h hab;simp
 |b :: r,k+1,a,x,h,hab,hn=>by
  simp only [List.take_succ_cons,List.mem_cons,not_or]at hn;have ih:=At (o:=r) (k:=k) (a:=a) (x:=x) (by simpa using h) hab hn.2;have hb:(b==x)=false:=by rw [beq_eq_false_iff_ne];exact fun e=>hn.1 e.symm
  rw [List.idxOf_cons,hb,ih];rfl
theorem Qf3(v:Value)(l:List Int)(x:Int)(w:World)(h:Zi w v l):
 Calls Tryz.prog 207 #[v,.int .i64 x] w fun e w'=>e=.returned (.int .i64 (Tv l x))/\Ext w w':=by
 obtain⟨A,c,rfl,hcap,hmax,hr⟩:=h;unfold maxLen at hmax;have HR:=Qq hr;clear hr;go_enter Tryz.func207,Tryz.ntmps207;go_wp2_with fail;go_loopw [8] (fun i wr=>∃k:Nat,k<=l.length/\i=.int .i64 k/\Hid (x∉l.take k)/\Ext w wr) (fun i _=>l.length - (intOf i).toNat)
 case atStart=>exact⟨0,Nat.zero_le _,rfl,Qq (by simp),Qz⟩
 case round =>
  obtain⟨k,hk,rfl,HNI,hext⟩:=hrel;by_cases hlt2:k < l.length
  ·obtain⟨a,ha⟩:∃a,l[k]?=some a:=⟨_,Qv hlt2⟩;obtain⟨ad,rfl,hb1,hc1⟩:=HR.out (by intro e;rw [e]at hlt2;simp at hlt2);have a0:=(hext.cell (p:=ad.add k) (Qj hb1)).trans (hc1 k a ha);have HA:=Qq ha;clear ha hc1;by_cases hab:x=a
   ·have hd:(x==a)=true:=by simpa using hab
    have HIX:Hid (Tv l x=k):=Qq (by
     have hm:x∈l:=by rw [hab];exact List.mem_of_getElem? HA.out
     simp [Tv,hm,At HA.out hab.symm HNI.out])
    clear hab;go_wp2_with fail;go_ret;exact⟨Nw (by rw [HIX.out]),hext⟩
   have hd:(x==a)=false:=by simpa using hab
   have HT:Hid (x∉l.take (k+1)):=Qq (by rw [Yr HA.out];simp [HNI.out,hab]);clear hab;go_wp2_with fail;go_roundw
   case rel=>exact⟨k+1,by omega,by go_num,HT,hext⟩
   case measure=>simp [intOf];omega
  obtain rfl:l.length=k:=by omega
  have HIX:Hid (Tv l x= -1):=Qq (by
   have hm:=HNI.out;rw [List.take_of_length_le (Nat.le_refl _)]at hm;simp [Tv,hm])
  go_wp2_with fail;go_ret;exact⟨Nw (by rw [HIX.out]),hext⟩
theorem Bb(v:Value)(l:List Int)(x:Int)(w:World)(h:Zi w v l):
 Calls Tryz.prog 206 #[v,.int .i64 x] w fun e w'=>e=.returned (.bool (decide (x∈l)))/\Ext w w':=by
 have H:=Qq h;clear h;have HX:Hid (decide (0<=Tv l x)=decide (x∈l)):=Qq (by
  by_cases hm:x∈l
  ·simp [Tv,hm]
  simp [Tv,hm])
 go_enter Tryz.func206,Tryz.ntmps206;go_wp2_with(go_at_call 207;refine(Qf3 _ l x _ H.out).mono ?_;rintro e w3 ⟨rfl,hb3⟩);go_ret;exact⟨Qr HX.out,hb3⟩
theorem Qqq(a:Int)(ha:Jc a)(v1:Value)(f:List Nd)(w:World)(h1:Fml w v1 f):
 Calls Tryz.prog 123 #[.int .i64 a,v1] w fun e w'=>∃u,e=.returned u/\Ye w w' u (Cr a f):=by
 have H1:=Qq h1;obtain⟨A1,c1,rfl,_⟩:=Qg h1;clear h1;go_enter Tryz.func123,Tryz.ntmps123;go_wp2_with fail;refine(Gz ⟨10,a,0,0,0,0⟩ _ [f] _ (Ux (Qe (by omega) (by omega)) ha (Qe (by omega) (by omega)) (Qe (by omega) (by omega)) (Qe (by omega) (by omega)) (Qe (by omega) (by omega))) (Ci H1.out) (by simp)).mono ?_;rintro e w1 ⟨u,rfl,hm⟩;have HM:=Qq hm;clear hm;go_wp2_with fail;go_ret;exact⟨_,rfl,(HM.out.before (Qz.alloc _))⟩
def orN(f g:List Nd):List Nd:=Yp ⟨6,0,0,0,0,0⟩ [f,g]
def Lo(f g:List Nd):List Nd:=Yp ⟨8,0,0,0,0,0⟩ [f,g]
end Go.Proofs.YtmidgcldljfkcaaGreatDoor
