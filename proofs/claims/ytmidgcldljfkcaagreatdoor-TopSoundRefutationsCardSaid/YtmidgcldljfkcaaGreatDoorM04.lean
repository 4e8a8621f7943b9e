/- The constructors of formulas. -/
import Derived.Test.YtmidgcldljfkcaaGreatDoorM01
import Derived.Test.YtmidgcldljfkcaaGreatDoorM03
import Derived.Deep.DeepCutAuto
namespace Go.Proofs.YtmidgcldljfkcaaGreatDoor
set_option maxRecDepth 100000
set_option maxHeartbeats 128000000
open Go.RowKit
theorem fmls_nil(w:World):Fmls w (.slice none 0 0) []:=⟨none,0,rfl,Nat.le_refl _,by unfold maxLen;omega,fun h=>absurd rfl h⟩
theorem fmls_one {w:World} {v:Value} {f:List Nd}(h:Fml w v f):Fmls (w.alloc (.cells #[v] 31)) (.slice (some ⟨w.heap.size,0,none⟩) 1 1) [f]:=by
 refine⟨_,_,rfl,Nat.le_refl _,by unfold maxLen;simp,fun _=>⟨_,rfl,by simp,fun k l hk=> ?_⟩⟩
 match k,hk with
 |0,hk =>
  simp only [List.getElem?_cons_zero,Option.some.injEq]at hk;subst hk;exact⟨v,row_new w #[v] 31 0 v rfl,h.ext (Qz.alloc _)⟩
theorem fmls_two {w:World} {v1 v2:Value} {f g:List Nd}(h1:Fml w v1 f)(h2:Fml w v2 g):Fmls (w.alloc (.cells #[v1,v2] 31)) (.slice (some ⟨w.heap.size,0,none⟩) 2 2) [f,g]:=by
 refine⟨_,_,rfl,Nat.le_refl _,by unfold maxLen;simp,fun _=>⟨_,rfl,by simp,fun k l hk=> ?_⟩⟩
 match k,hk with
 |0,hk =>
  simp only [List.getElem?_cons_zero,Option.some.injEq]at hk;subst hk;exact⟨v1,row_new w #[v1,v2] 31 0 v1 rfl,h1.ext (Qz.alloc _)⟩
 |1,hk =>
  simp only [List.getElem?_cons_succ,List.getElem?_cons_zero,Option.some.injEq]at hk;subst hk;exact⟨v2,row_new w #[v1,v2] 31 1 v2 rfl,h2.ext (Qz.alloc _)⟩
theorem small_ok {a b c d e g:Int}(ha:i64ok a)(hb:i64ok b)(hc:i64ok c)(hd:i64ok d)(he:i64ok e)(hg:i64ok g):(Nd.mk a b c d e g).ok:=⟨ha,hb,hc,hd,he,hg⟩
theorem i64_small {a:Int}(h0:0<=a)(h1:a<=1000):i64ok a:=⟨by omega,by omega⟩
def trueN:List Nd:=buildN ⟨1,0,0,0,0,0⟩ []
theorem true_any(w:World):
 Calls Tryz.prog 70 #[] w fun e w'=>∃u,e=.returned u/\Made w w' u (trueN):=by
 go_enter Tryz.func70,Tryz.ntmps70;go_wp2_with fail;refine(build_any ⟨1,0,0,0,0,0⟩ _ [] _ (small_ok (i64_small (by omega) (by omega)) (i64_small (by omega) (by omega)) (i64_small (by omega) (by omega)) (i64_small (by omega) (by omega)) (i64_small (by omega) (by omega)) (i64_small (by omega) (by omega))) (fmls_nil _) (by simp)).mono ?_;rintro e w1 ⟨u,rfl,hm⟩;have HM:=Qq hm;clear hm;go_wp2_with fail;go_ret;exact⟨_,rfl,HM.out⟩
def falseN:List Nd:=buildN ⟨2,0,0,0,0,0⟩ []
theorem false_any(w:World):
 Calls Tryz.prog 121 #[] w fun e w'=>∃u,e=.returned u/\Made w w' u (falseN):=by
 go_enter Tryz.func121,Tryz.ntmps121;go_wp2_with fail;refine(build_any ⟨2,0,0,0,0,0⟩ _ [] _ (small_ok (i64_small (by omega) (by omega)) (i64_small (by omega) (by omega)) (i64_small (by omega) (by omega)) (i64_small (by omega) (by omega)) (i64_small (by omega) (by omega)) (i64_small (by omega) (by omega))) (fmls_nil _) (by simp)).mono ?_;rintro e w1 ⟨u,rfl,hm⟩;have HM:=Qq hm;clear hm;go_wp2_with fail;go_ret;exact⟨_,rfl,HM.out⟩
def factN(a:Int):List Nd:=buildN ⟨3,a,0,0,0,0⟩ []
theorem fact_any(a:Int)(ha:i64ok a)(w:World):
 Calls Tryz.prog 15 #[.int .i64 a] w fun e w'=>∃u,e=.returned u/\Made w w' u (factN a):=by
 go_enter Tryz.func15,Tryz.ntmps15;go_wp2_with fail;refine(build_any ⟨3,a,0,0,0,0⟩ _ [] _ (small_ok (i64_small (by omega) (by omega)) ha (i64_small (by omega) (by omega)) (i64_small (by omega) (by omega)) (i64_small (by omega) (by omega)) (i64_small (by omega) (by omega))) (fmls_nil _) (by simp)).mono ?_;rintro e w1 ⟨u,rfl,hm⟩;have HM:=Qq hm;clear hm;go_wp2_with fail;go_ret;exact⟨_,rfl,HM.out⟩
def notN(f:List Nd):List Nd:=buildN ⟨4,0,0,0,0,0⟩ [f]
theorem not_any(v1:Value)(f:List Nd)(w:World)(h1:Fml w v1 f):
 Calls Tryz.prog 83 #[v1] w fun e w'=>∃u,e=.returned u/\Made w w' u (notN f):=by
 have H1:=Qq h1;obtain⟨A1,c1,rfl,_⟩:=fml_slice h1;clear h1;go_enter Tryz.func83,Tryz.ntmps83;go_wp2_with fail;refine(build_any ⟨4,0,0,0,0,0⟩ _ [f] _ (small_ok (i64_small (by omega) (by omega)) (i64_small (by omega) (by omega)) (i64_small (by omega) (by omega)) (i64_small (by omega) (by omega)) (i64_small (by omega) (by omega)) (i64_small (by omega) (by omega))) (fmls_one H1.out) (by simp)).mono ?_;rintro e w1 ⟨u,rfl,hm⟩;have HM:=Qq hm;clear hm;go_wp2_with fail;go_ret;exact⟨_,rfl,(HM.out.before (Qz.alloc _))⟩
def andN(f g:List Nd):List Nd:=buildN ⟨5,0,0,0,0,0⟩ [f,g]
theorem and_any(v1 v2:Value)(f g:List Nd)(w:World)(h1:Fml w v1 f)(h2:Fml w v2 g):
 Calls Tryz.prog 115 #[v1,v2] w fun e w'=>∃u,e=.returned u/\Made w w' u (andN f g):=by
 have H1:=Qq h1;have H2:=Qq h2;obtain⟨A1,c1,rfl,_⟩:=fml_slice h1;obtain⟨A2,c2,rfl,_⟩:=fml_slice h2;clear h1 h2;go_enter Tryz.func115,Tryz.ntmps115;go_wp2_with fail;refine(build_any ⟨5,0,0,0,0,0⟩ _ [f,g] _ (small_ok (i64_small (by omega) (by omega)) (i64_small (by omega) (by omega)) (i64_small (by omega) (by omega)) (i64_small (by omega) (by omega)) (i64_small (by omega) (by omega)) (i64_small (by omega) (by omega))) (fmls_two H1.out H2.out) (by simp)).mono ?_;rintro e w1 ⟨u,rfl,hm⟩;have HM:=Qq hm;clear hm;go_wp2_with fail;go_ret;exact⟨_,rfl,(HM.out.before (Qz.alloc _))⟩
def impN(f g:List Nd):List Nd:=buildN ⟨7,0,0,0,0,0⟩ [f,g]
theorem imp_any(v1 v2:Value)(f g:List Nd)(w:World)(h1:Fml w v1 f)(h2:Fml w v2 g):
 Calls Tryz.prog 17 #[v1,v2] w fun e w'=>∃u,e=.returned u/\Made w w' u (impN f g):=by
 have H1:=Qq h1;have H2:=Qq h2;obtain⟨A1,c1,rfl,_⟩:=fml_slice h1;obtain⟨A2,c2,rfl,_⟩:=fml_slice h2;clear h1 h2;go_enter Tryz.func17,Tryz.ntmps17;go_wp2_with fail;refine(build_any ⟨7,0,0,0,0,0⟩ _ [f,g] _ (small_ok (i64_small (by omega) (by omega)) (i64_small (by omega) (by omega)) (i64_small (by omega) (by omega)) (i64_small (by omega) (by omega)) (i64_small (by omega) (by omega)) (i64_small (by omega) (by omega))) (fmls_two H1.out H2.out) (by simp)).mono ?_;rintro e w1 ⟨u,rfl,hm⟩;have HM:=Qq hm;clear hm;go_wp2_with fail;go_ret;exact⟨_,rfl,(HM.out.before (Qz.alloc _))⟩
def knowN(a:Int)(f:List Nd):List Nd:=buildN ⟨9,a,0,0,0,0⟩ [f]
theorem know_any(a:Int)(ha:i64ok a)(v1:Value)(f:List Nd)(w:World)(h1:Fml w v1 f):
 Calls Tryz.prog 16 #[.int .i64 a,v1] w fun e w'=>∃u,e=.returned u/\Made w w' u (knowN a f):=by
 have H1:=Qq h1;obtain⟨A1,c1,rfl,_⟩:=fml_slice h1;clear h1;go_enter Tryz.func16,Tryz.ntmps16;go_wp2_with fail;refine(build_any ⟨9,a,0,0,0,0⟩ _ [f] _ (small_ok (i64_small (by omega) (by omega)) ha (i64_small (by omega) (by omega)) (i64_small (by omega) (by omega)) (i64_small (by omega) (by omega)) (i64_small (by omega) (by omega))) (fmls_one H1.out) (by simp)).mono ?_;rintro e w1 ⟨u,rfl,hm⟩;have HM:=Qq hm;clear hm;go_wp2_with fail;go_ret;exact⟨_,rfl,(HM.out.before (Qz.alloc _))⟩
def possN(a:Int)(f:List Nd):List Nd:=buildN ⟨10,a,0,0,0,0⟩ [f]
theorem done_cells {w:World} {base n:Nat} {vd:Value} {d:List Int}(h:w.ownsRow base 3 1 vd n (d.map (Value.int .i64)))(hn:0 < n):
 ∃g cap,vd=.slice (some ⟨g,0,none⟩) n cap/\g < w.heap.size/\n<=cap/\cap<=maxLen/\∀i z,d[i]?=some z->w.cell? ⟨g,i,none⟩=some (.int .i64 z)/\w.frozen? ⟨g,i,none⟩=false:=by
 rcases h.2 with⟨_,h0⟩|⟨g,cap,cur,rfl,_,hg,hnc,hm,hs,ht⟩
 ·omega
 refine⟨g,cap,rfl,lt_heap hg,hnc,hm,fun i z hz=>⟨?_,by simp [World.frozen?,hg]⟩⟩;have h1:(d.map (Value.int .i64))[i]?=some (.int .i64 z):=by rw [List.getElem?_map,hz];rfl
 rw [<-ht,List.getElem?_take]at h1
 split at h1
 ·have h2:cur[i]?=some (.int .i64 z):=by simpa using h1
  simp [World.cell?,hg,h2]
 cases h1
theorem addr_zero(g i:Nat):((⟨g,0,none⟩:Addr).add i)=⟨g,i,none⟩:=by
 unfold Addr.add
 split
 ·rename_i h;rw [h]
 simp
def IntsAt(w:World)(A:Option Addr)(c:Nat)(l:List Int):Prop :=
 l.length<=c/\c<=maxLen/\(l≠ []->∃ad,A=some ad/\ad.block < w.heap.size/\∀k z,l[k]?=some z->w.cell? (ad.add k)=some (.int .i64 z))
def Ints(w:World)(v:Value)(l:List Int):Prop:=∃A c,v=.slice A l.length c/\IntsAt w A c l
theorem IntsAt.ext {w w':World} {A:Option Addr} {c:Nat} {l:List Int}(h:IntsAt w A c l)(he:Ext w w'):IntsAt w' A c l :=
 ⟨h.1,h.2.1,fun hn=>by
  obtain⟨ad,e,hlt,hc⟩:=h.2.2 hn;exact⟨ad,e,Qy hlt he.size,fun k z hk=>(he.cell (Qj hlt)).trans (hc k z hk)⟩⟩
theorem Ints.ext {w w':World} {v:Value} {l:List Int}(h:Ints w v l)(he:Ext w w'):Ints w' v l:=by
 obtain⟨A,c,e,h⟩:=h;exact⟨A,c,e,h.ext he⟩
theorem Ints.none_(w:World):Ints w (.slice none 0 0) []:=⟨none,0,rfl,Nat.le_refl _,by unfold maxLen;omega,fun h=>absurd rfl h⟩
theorem ints_of_row {w:World} {base:Nat} {v:Value} {l:List Int}(h:w.ownsRow base 3 1 v l.length (l.map (Value.int .i64))):Ints w v l:=by
 by_cases h0:0 < l.length
 ·obtain⟨g,cap,rfl,hg,hc,hm,hcell⟩:=done_cells h h0;exact⟨_,_,rfl,hc,hm,fun _=>⟨_,rfl,hg,fun k z hk=>by rw [addr_zero];exact(hcell k z hk).1⟩⟩
 have e:l= []:=List.length_eq_zero_iff.1 (by omega);subst e;rcases h.2 with⟨rfl,_⟩|⟨g,cap,cur,rfl,_,_,hn,hm,_⟩
 ·exact Ints.none_ w
 exact⟨_,cap,rfl,Nat.zero_le _,hm,fun h=>absurd rfl h⟩
def MadeInts(w w':World)(v:Value)(l:List Int):Prop:=w'.ownsRow w.heap.size 3 1 v l.length (l.map (Value.int .i64))/\Ext w w'
theorem MadeInts.ints {w w':World} {v:Value} {l:List Int}(h:MadeInts w w' v l):Ints w' v l:=ints_of_row h.1
theorem drewN_more {w wr:World}(h:∃m,wr=w.drewN m)(n:Nat):∃m,wr.drewN n=w.drewN m:=by
 obtain⟨m,e⟩:=h;exact⟨m+n,by rw [e,World.drewN_drewN]⟩
theorem equalI_q(v1 v2:Value)(l1 l2:List Int)(w:World)(h1:Ints w v1 l1)(h2:Ints w v2 l2):
 Calls Tryz.prog 205 #[v1,v2] w fun e w'=>e=.returned (.bool (decide (l1=l2)))/\∃m,w'=w.drewN m:=by
 obtain⟨A1,c1,rfl,hcap1,hmax1,hr1⟩:=h1;obtain⟨A2,c2,rfl,hcap2,hmax2,hr2⟩:=h2;unfold maxLen at hmax1 hmax2;by_cases hl:l1.length=l2.length
 ·have HR1:=Qq hr1;have HR2:=Qq hr2;have HL:=Qq hl;have eb:((l1.length:Int) !=(l2.length:Int))=false:=by simp [hl]
  clear hr1 hr2 hl;go_enter Tryz.func205,Tryz.ntmps205;go_wp2_with fail;go_loopw [13] (fun i wr=>∃k:Nat,k<=l1.length/\i=.int .i64 k/\Hid (l1.take k=l2.take k)/\Hid (∃m,wr=w.drewN m)) (fun i _=>l1.length - (intOf i).toNat)
  case atStart=>exact⟨0,Nat.zero_le _,rfl,Qq rfl,Qq ⟨0,rfl⟩⟩
  case round =>
   obtain⟨k,hk,rfl,htk,HQ⟩:=hrel;have hext:Ext w wr:=(by obtain⟨m,e⟩:=HQ.out;rw [e];exact Qz.drewN _);by_cases hlt2:k < l1.length
   ·have hlt3:k < l2.length:=by have:=HL.out;omega
    obtain⟨a,ha⟩:∃a,l1[k]?=some a:=⟨_,Qv hlt2⟩;obtain⟨b,hb⟩:∃b,l2[k]?=some b:=⟨_,Qv hlt3⟩;obtain⟨ad1,rfl,hb1,hc1⟩:=HR1.out (by intro e;rw [e]at hlt2;simp at hlt2);obtain⟨ad2,rfl,hb2,hc2⟩:=HR2.out (by intro e;rw [e]at hlt3;simp at hlt3);have a0:=(hext.cell (p:=ad1.add k) (Qj hb1)).trans (hc1 k a ha);have b0:=(hext.cell (p:=ad2.add k) (Qj hb2)).trans (hc2 k b hb);have hi0:(0:Int)<=(k:Int):=by omega
    have hi1:(k:Int) < (l1.length:Int):=by omega
    have hi2:(k:Int) < (l2.length:Int):=by omega
    have HA:=Qq ha;have HB:=Qq hb;clear ha hb hc1 hc2;by_cases hab:a=b
    ·have hd:(a !=b)=false:=by simpa using hab
     have HT:Hid (l1.take (k+1)=l2.take (k+1)):=Qq (by rw [take_succ_eq HA.out,take_succ_eq HB.out,htk.out,hab]);clear hab;go_wp2_with fail;go_quiet (fail);go_wp2_with fail;go_roundw
     case rel=>exact⟨k+1,by omega,by go_num,HT,Qq (drewN_more HQ.out _)⟩
     case measure=>simp [intOf];omega
    have hd:(a !=b)=true:=by simpa using hab
    have HR:Hid (decide (l1=l2)=false):=Qq (decide_eq_false (lists_differ HA.out HB.out hab));clear hab;go_wp2_with fail;go_quiet (fail);go_wp2_with fail;go_ret;exact⟨by rw [HR.out];rfl,drewN_more HQ.out _⟩
   obtain rfl:l1.length=k:=by omega
   have HR:Hid (decide (l1=l2)=true):=Qq (decide_eq_true (by
    have h:=htk.out;rw [List.take_of_length_le (Nat.le_refl _),HL.out,List.take_of_length_le (Nat.le_refl _)]at h;exact h))
   go_wp2_with fail;go_ret;exact⟨by rw [HR.out];rfl,HQ.out⟩
 have eb:((l1.length:Int) !=(l2.length:Int))=true:=by simp;omega
 have HR:Hid (decide (l1=l2)=false):=Qq (decide_eq_false fun e=>hl (by rw [e]));clear hl hr1 hr2;go_enter Tryz.func205,Tryz.ntmps205;go_wp2_with fail;go_ret;exact⟨by rw [HR.out];rfl,0,rfl⟩
theorem equalI_any(v1 v2:Value)(l1 l2:List Int)(w:World)(h1:Ints w v1 l1)(h2:Ints w v2 l2):
 Calls Tryz.prog 205 #[v1,v2] w fun e w'=>e=.returned (.bool (decide (l1=l2)))/\Ext w w' :=
 (equalI_q v1 v2 l1 l2 w h1 h2).mono fun _ _ ⟨he,m,hm⟩=>⟨he,by rw [hm];exact Qz.drewN _⟩
def indexI(l:List Int)(x:Int):Int:=bif decide (x∈l)then(l.idxOf x:Nat)else -1
theorem idxOf_firstI:∀{o:List Int} {k:Nat} {a x:Int},o[k]?=some a->a=x->x∉o.take k->o.idxOf x=k
 |[],k,a,x,h,_,_=>by simp at h
 |b :: r,0,a,x,h,hab,_=>by
  simp only [List.getElem?_cons_zero,Option.some.injEq]at h;subst h hab;simp
 |b :: r,k+1,a,x,h,hab,hn=>by
  simp only [List.take_succ_cons,List.mem_cons,not_or]at hn;have ih:=idxOf_firstI (o:=r) (k:=k) (a:=a) (x:=x) (by simpa using h) hab hn.2;have hb:(b==x)=false:=by rw [beq_eq_false_iff_ne];exact fun e=>hn.1 e.symm
  rw [List.idxOf_cons,hb,ih];rfl
theorem indexI_any(v:Value)(l:List Int)(x:Int)(w:World)(h:Ints w v l):
 Calls Tryz.prog 207 #[v,.int .i64 x] w fun e w'=>e=.returned (.int .i64 (indexI l x))/\Ext w w':=by
 obtain⟨A,c,rfl,hcap,hmax,hr⟩:=h;unfold maxLen at hmax;have HR:=Qq hr;clear hr;go_enter Tryz.func207,Tryz.ntmps207;go_wp2_with fail;go_loopw [8] (fun i wr=>∃k:Nat,k<=l.length/\i=.int .i64 k/\Hid (x∉l.take k)/\Ext w wr) (fun i _=>l.length - (intOf i).toNat)
 case atStart=>exact⟨0,Nat.zero_le _,rfl,Qq (by simp),Qz⟩
 case round =>
  obtain⟨k,hk,rfl,HNI,hext⟩:=hrel;by_cases hlt2:k < l.length
  ·obtain⟨a,ha⟩:∃a,l[k]?=some a:=⟨_,Qv hlt2⟩;obtain⟨ad,rfl,hb1,hc1⟩:=HR.out (by intro e;rw [e]at hlt2;simp at hlt2);have a0:=(hext.cell (p:=ad.add k) (Qj hb1)).trans (hc1 k a ha);have HA:=Qq ha;clear ha hc1;by_cases hab:x=a
   ·have hd:(x==a)=true:=by simpa using hab
    have HIX:Hid (indexI l x=k):=Qq (by
     have hm:x∈l:=by rw [hab];exact List.mem_of_getElem? HA.out
     simp [indexI,hm,idxOf_firstI HA.out hab.symm HNI.out])
    clear hab;go_wp2_with fail;go_ret;exact⟨ret_int (by rw [HIX.out]),hext⟩
   have hd:(x==a)=false:=by simpa using hab
   have HT:Hid (x∉l.take (k+1)):=Qq (by rw [take_succ_eq HA.out];simp [HNI.out,hab]);clear hab;go_wp2_with fail;go_roundw
   case rel=>exact⟨k+1,by omega,by go_num,HT,hext⟩
   case measure=>simp [intOf];omega
  obtain rfl:l.length=k:=by omega
  have HIX:Hid (indexI l x= -1):=Qq (by
   have hm:=HNI.out;rw [List.take_of_length_le (Nat.le_refl _)]at hm;simp [indexI,hm])
  go_wp2_with fail;go_ret;exact⟨ret_int (by rw [HIX.out]),hext⟩
theorem containsI_any(v:Value)(l:List Int)(x:Int)(w:World)(h:Ints w v l):
 Calls Tryz.prog 206 #[v,.int .i64 x] w fun e w'=>e=.returned (.bool (decide (x∈l)))/\Ext w w':=by
 have H:=Qq h;clear h;have HX:Hid (decide (0<=indexI l x)=decide (x∈l)):=Qq (by
  by_cases hm:x∈l
  ·simp [indexI,hm]
  simp [indexI,hm])
 go_enter Tryz.func206,Tryz.ntmps206;go_wp2_with(go_at_call 207;refine(indexI_any _ l x _ H.out).mono ?_;rintro e w3 ⟨rfl,hb3⟩);go_ret;exact⟨same_of HX.out,hb3⟩
structure Ln where
 depth:Int
 rule:Int
 f:List Nd
 agent:Int
 from_:List Int
def LnAt(w:World)(a:Addr)(n:Ln):Prop :=
 ∃uf ur,w.cell? a=some (.int .i64 n.depth)/\w.cell? ⟨a.block,a.off+1,none⟩=some (.int .i64 n.rule)/\w.cell? ⟨a.block,a.off+2,none⟩=some uf/\w.cell? ⟨a.block,a.off+3,none⟩=some (.int .i64 n.agent)/\
  w.cell? ⟨a.block,a.off+4,none⟩=some ur/\Fml w uf n.f/\Ints w ur n.from_
def LnsAt(w:World)(A:Option Addr)(c:Nat)(l:List Ln):Prop :=
 l.length<=c/\c<=maxLen/\(l≠ []->∃ad,A=some ad/\ad.block < w.heap.size/\∀k n,l[k]?=some n->LnAt w (ad.add (k*5)) n)
def Lns(w:World)(v:Value)(l:List Ln):Prop:=∃A c,v=.slice A l.length c/\LnsAt w A c l
def IntsLAt(w:World)(A:Option Addr)(c:Nat)(ls:List (List Int)):Prop :=
 ls.length<=c/\c<=maxLen/\(ls≠ []->∃ad,A=some ad/\ad.block < w.heap.size/\∀k l,ls[k]?=some l->∃u,w.cell? (ad.add k)=some u/\Ints w u l)
def IntsL(w:World)(v:Value)(ls:List (List Int)):Prop:=∃A c,v=.slice A ls.length c/\IntsLAt w A c ls
section
variable {w w':World} {a:Addr} {n:Ln} {v:Value}
theorem LnAt.ext(h:LnAt w a n)(he:Ext w w')(ha:a.block < w.heap.size):LnAt w' a n:=by
 obtain⟨uf,ur,h0,h1,h2,h3,h4,h5,h6⟩:=h;have hk:∀o s,w'.cell? ⟨a.block,o,s⟩=w.cell? ⟨a.block,o,s⟩:=fun o s=>he.cell (p:=⟨a.block,o,s⟩) ha
 exact⟨uf,ur,(hk _ _).trans h0,(hk _ _).trans h1,(hk _ _).trans h2,(hk _ _).trans h3,(hk _ _).trans h4,h5.ext he,h6.ext he⟩
theorem LnsAt.ext {A:Option Addr} {c:Nat} {l:List Ln}(h:LnsAt w A c l)(he:Ext w w'):LnsAt w' A c l :=
 ⟨h.1,h.2.1,fun hn=>by
  obtain⟨ad,e,hlt,hc⟩:=h.2.2 hn;exact⟨ad,e,Qy hlt he.size,fun k n hk=>(hc k n hk).ext he (Qj hlt)⟩⟩
theorem Lns.ext {l:List Ln}(h:Lns w v l)(he:Ext w w'):Lns w' v l:=by
 obtain⟨A,c,e,h⟩:=h;exact⟨A,c,e,h.ext he⟩
theorem IntsLAt.ext {A:Option Addr} {c:Nat} {ls:List (List Int)}(h:IntsLAt w A c ls)(he:Ext w w'):IntsLAt w' A c ls :=
 ⟨h.1,h.2.1,fun hn=>by
  obtain⟨ad,e,hlt,hc⟩:=h.2.2 hn;refine⟨ad,e,Qy hlt he.size,fun k l hk=> ?_⟩;obtain⟨u,hu,hf⟩:=hc k l hk;exact⟨u,(he.cell (Qj hlt)).trans hu,hf.ext he⟩⟩
theorem IntsL.ext {ls:List (List Int)}(h:IntsL w v ls)(he:Ext w w'):IntsL w' v ls:=by
 obtain⟨A,c,e,h⟩:=h;exact⟨A,c,e,h.ext he⟩
end
structure Chk (w:World) (b:Nat) (lg:Int) (ls:List Ln) (fs:List (List Nd)) (st:List (List Int)):Prop where
 all:∃vl vf vs,w.heap[b]?=some (.cells #[.int .i64 lg,vl,vf,vs] 93 (0,0))/\Lns w vl ls/\Fmls w vf fs/\IntsL w vs st
theorem Chk.ext {w w':World} {b:Nat} {lg:Int} {ls:List Ln} {fs:List (List Nd)} {st:List (List Int)}(h:Chk w b lg ls fs st)(he:Ext w w'):Chk w' b lg ls fs st:=by
 obtain⟨vl,vf,vs,hb,h1,h2,h3⟩:=h.all;exact⟨vl,vf,vs,(he.block (lt_heap hb)).trans hb,h1.ext he,h2.ext he,h3.ext he⟩
theorem cells4 {w:World} {b:Nat} {a0 a1 a2 a3:Value} {t:TypeId}(h:w.heap[b]?=some (.cells #[a0,a1,a2,a3] t (0,0))):
 w.cell? ⟨b,0,none⟩=some a0/\w.cell? ⟨b,1,none⟩=some a1/\w.cell? ⟨b,2,none⟩=some a2/\w.cell? ⟨b,3,none⟩=some a3/\(∀j,w.frozen? ⟨b,j,none⟩=false)/\b < w.heap.size :=
 ⟨by simp [World.cell?,h],by simp [World.cell?,h],by simp [World.cell?,h],by simp [World.cell?,h],fun j=>by simp [World.frozen?,h],lt_heap h⟩
theorem Chk.line {w:World} {b:Nat} {lg:Int} {ls:List Ln} {fs:List (List Nd)} {st:List (List Int)}(h:Chk w b lg ls fs st) {i:Nat} {n:Ln}(hi:ls[i]?=some n):
 ∃(ad:Addr) (c:Nat) (vf vs uf ur:Value),ls.length<=c/\c<=9223372036854775807/\ad.block < w.heap.size/\w.cell? ⟨b,0,none⟩=some (.int .i64 lg)/\w.cell? ⟨b,1,none⟩=some (.slice (some ad) ls.length c)/\w.cell? ⟨b,2,none⟩=some vf/\w.cell? ⟨b,3,none⟩=some vs/\
  w.cell? (ad.add (i*5))=some (.int .i64 n.depth)/\w.cell? ⟨(ad.add (i*5)).block,(ad.add (i*5)).off+1,none⟩=some (.int .i64 n.rule)/\w.cell? ⟨(ad.add (i*5)).block,(ad.add (i*5)).off+2,none⟩=some uf/\
  w.cell? ⟨(ad.add (i*5)).block,(ad.add (i*5)).off+3,none⟩=some (.int .i64 n.agent)/\w.cell? ⟨(ad.add (i*5)).block,(ad.add (i*5)).off+4,none⟩=some ur/\Fml w uf n.f/\Ints w ur n.from_:=by
 obtain⟨vl,vf,vs,hb,⟨A,c,rfl,h1,h2,h3⟩,_,_⟩:=h.all;obtain⟨d0,d1,d2,d3,_,_⟩:=cells4 hb;obtain⟨ad,rfl,hlt,hc⟩:=h3 (by intro e;rw [e]at hi;simp at hi);obtain⟨uf,ur,q0,q1,q2,q3,q4,q5,q6⟩:=hc i n hi;unfold maxLen at h2;exact⟨ad,c,vf,vs,uf,ur,h1,by omega,hlt,d0,d1,d2,d3,q0,q1,q2,q3,q4,q5,q6⟩
def opensL(n:Ln):Bool:=n.rule==1||n.rule==2
theorem opens_any {w:World} {b:Nat} {lg:Int} {ls:List Ln} {fs:List (List Nd)} {st:List (List Int)}(h:Chk w b lg ls fs st)(i:Nat)(n:Ln)(hi:ls[i]?=some n):
 Calls Tryz.prog 67 #[.pointer (some ⟨b,0,none⟩),.int .i64 i] w fun e w'=>e=.returned (.bool (opensL n))/\Ext w w':=by
 obtain⟨ad,c,vf,vs,uf,ur,hc1,hc2,hlt,d0,d1,d2,d3,q0,q1,q2,q3,q4,_,_⟩:=h.line hi;have hil:i < ls.length:=(List.getElem?_eq_some_iff.1 hi).1;clear h hi;by_cases h1:n.rule=1
 ·have e1:(n.rule==1)=true:=by simp [h1]
  clear h1;go_enter Tryz.func67,Tryz.ntmps67;go_wp2_with fail;go_ret;exact⟨same_of (by simp [opensL,e1]),Qz⟩
 have e1:(n.rule==1)=false:=by simpa using h1
 clear h1;go_enter Tryz.func67,Tryz.ntmps67;go_wp2_with fail;go_ret;exact⟨same_of (by simp [opensL,e1]),Qz⟩
def Ln.zero:Ln:=⟨0,0,[],0,[]⟩
def lineAt(ls:List Ln)(o:Int):Ln:=ls.getD o.toNat Ln.zero
theorem lineAt_of {ls:List Ln} {o:Int}(h0:0<=o)(h1:o < ls.length):ls[o.toNat]?=some (lineAt ls o):=by
 unfold lineAt;rw [Qk,List.getElem?_eq_getElem (by omega)];simp
def isBox(ls:List Ln)(o:Int):Bool:=(lineAt ls o).rule==2
def boxesL(ls:List Ln)(l:List Int):List Int:=l.filter (isBox ls)
theorem boxesL_snoc(ls:List Ln)(l:List Int)(o:Int):boxesL ls (l++ [o])=boxesL ls l++(if isBox ls o then [o]else []):=by
 unfold boxesL;rw [List.filter_append];cases h:isBox ls o <;> simp [h]
theorem boxes_any {w:World} {b:Nat} {lg:Int} {ls:List Ln} {fs:List (List Nd)} {st:List (List Int)}(h:Chk w b lg ls fs st)(v:Value)(l:List Int)(hv:Ints w v l)(hl:∀o∈l,0<=o/\o < ls.length)(hlen:l.length<=1000):
 Calls Tryz.prog 202 #[.pointer (some ⟨b,0,none⟩),v] w fun e w'=>∃u,e=.returned u/\MadeInts w w' u (boxesL ls l):=by
 obtain⟨A,c,rfl,hcap,hmax,hr⟩:=hv;unfold maxLen at hmax;have HR:=Qq hr;have H:=Qq h;have HL:=Qq hl;obtain⟨i3,hi3,hz30,hz31,hz32⟩:=info_parts tInfo3;clear hr h hl;go_enter Tryz.func202,Tryz.ntmps202;go_wp2_with fail;go_loopw [5,10] (fun v5 i wr=>∃k:Nat,k<=l.length/\i=.int .i64 k/\Hid (wr.ownsRow w.heap.size 3 1 v5 (boxesL ls (l.take k)).length ((boxesL ls (l.take k)).map (Value.int .i64)))/\Ext w wr) (fun _ i _=>l.length - (intOf i).toNat)
 case atStart=>exact⟨0,Nat.zero_le _,rfl,Qq (World.ownsRow_nil _ _ _ _),Qz⟩
 case round =>
  obtain⟨k,hk,rfl,HROW,hext⟩:=hrel;obtain⟨A5,c5,rfl⟩:=slice_of_row HROW.out;by_cases hlt2:k < l.length
  ·obtain⟨o,ho⟩:∃o,l[k]?=some o:=⟨_,Qv hlt2⟩;obtain⟨ad,rfl,hb1,hc1⟩:=HR.out (by intro e;rw [e]at hlt2;simp at hlt2);have a0:=(hext.cell (p:=ad.add k) (Qj hb1)).trans (hc1 k o ho);obtain⟨ho0,ho1⟩:=HL.out o (List.mem_of_getElem? ho);obtain⟨on,rfl⟩:=Int.eq_ofNat_of_zero_le ho0;have hline:=lineAt_of ho0 ho1;rw [Int.toNat_natCast]at hline;have HS:Hid (boxesL ls (l.take (k+1))=boxesL ls (l.take k)++(if isBox ls (on:Int)then [(on:Int)]else [])):=Qq (by rw [take_succ_eq ho,boxesL_snoc]);obtain⟨adl,cl,vf,vs,uf,ur,hcl1,hcl2,hltl,d0,d1,d2,d3,q0,q1,q2,q3,q4,_,_⟩:=(H.out.ext hext).line hline;have hbl:(boxesL ls (l.take k)).length<=1000:=Qx (List.length_filter_le _ _) (Qx (List.length_take_le' _ _) hlen)
   clear ho hc1 hline;by_cases hbx:(lineAt ls (on:Int)).rule=2
   ·have e1:((lineAt ls (on:Int)).rule==2)=true:=by simp [hbx]
    have HN:Hid (boxesL ls (l.take (k+1))=boxesL ls (l.take k)++ [(on:Int)]):=Qq (by rw [HS.out];simp [isBox,e1]);clear hbx;generalize boxesL ls (l.take k)=bs at HROW HN hbl;obtain⟨xs,hxs⟩:∃xs,xs=bs.map (Value.int .i64):=⟨_,rfl⟩;rw [<-hxs]at HROW;have HXS:=Qq hxs;have hc3:bs.length+1<=maxLen:=by unfold maxLen;omega
    have hc4:(bs.length+1)*8<=140737488355328:=by omega
    have hc5:∀X,w.heap.size<=(wr.alloc X).heap.size:=fun X=>Qx hext.size (by simp)
    clear hxs;go_wp2_with(at_builtin;refine wpList_append_own_at _ rfl _ _ 60 rfl w.heap.size 3 i3 (.int .i64 0) 1 8 Tryz.underlying60 hi3 hz30 hz31 hz32 rfl (by decide) _ _ _ rfl (row_ext HROW.out (Qz.alloc _)) _ 1 1 [.int .i64 (on:Int)] rfl rfl (row_new_at _ _ _ (by simp)) (fun u hu=>by rw [List.mem_singleton.1 hu];rfl) hc3 hc4 (hc5 _) ?_);intro v' w4 hown4 hgrow4 _ hat4;obtain⟨A4,c4,rfl⟩:=slice_of_row hown4;have HROW4:=Qq hown4;have HX4:=Qq ((Ext.alloc hext _).grown hgrow4 (fun g hg=>(HROW.out.lt g hg).1));clear hown4 hgrow4 hat4;go_wp2_with fail;go_roundw
    case rel=>exact⟨k+1,by omega,by go_num,Qq (by have h4:=HROW4.out;rw [HXS.out]at h4;rw [HN.out];simpa using h4),HX4.out⟩
    case measure=>simp [intOf];omega
   have e1:((lineAt ls (on:Int)).rule==2)=false:=by simpa using hbx
   have HN:Hid (boxesL ls (l.take (k+1))=boxesL ls (l.take k)):=Qq (by rw [HS.out];simp [isBox,e1]);clear hbx;go_wp2_with fail;go_roundw
   case rel=>exact⟨k+1,by omega,by go_num,Qq (by rw [HN.out];exact HROW.out),hext⟩
   case measure=>simp [intOf];omega
  obtain rfl:l.length=k:=by omega
  have HN:Hid (boxesL ls l=boxesL ls (l.take l.length)):=Qq (by rw [List.take_of_length_le (Nat.le_refl _)]);go_wp2_with fail;go_ret;exact⟨_,rfl,by rw [HN.out];exact⟨HROW.out,hext⟩⟩
theorem Ints.take_ {w:World} {A:Option Addr} {c n:Nat} {l:List Int}(h:IntsAt w A c l)(hn:n<=l.length):Ints w (.slice A n c) (l.take n):=by
 have e:(l.take n).length=n:=by simp;omega
 refine⟨A,c,by rw [e],by rw [e];exact Qx hn h.1,h.2.1,fun hne=> ?_⟩;obtain⟨ad,ea,hb,hc⟩:=h.2.2 (by intro e;rw [e]at hne;simp at hne);refine⟨ad,ea,hb,fun k z hk=>hc k z ?_⟩;rw [List.getElem?_take]at hk
 split at hk
 ·exact hk
 cases hk
theorem Ints.drop_ {w:World} {A:Option Addr} {c n:Nat} {l:List Int}(h:IntsAt w A c l)(hn:n<=l.length):Ints w (.slice (if c=n then A else A.map (·.add n)) (l.length - n) (c - n)) (l.drop n):=by
 have e:(l.drop n).length=l.length - n:=by simp
 refine⟨_,c - n,by rw [e],by rw [e];have:=h.1;omega,by have:=h.2.1;omega,fun hne=> ?_⟩;have hlt:n < l.length:=by
  by_cases h0:n < l.length
  ·exact h0
  exact absurd (List.drop_eq_nil_of_le (by omega)) hne
 obtain⟨ad,rfl,hb,hc⟩:=h.2.2 (by intro e;rw [e]at hlt;simp at hlt);rw [if_neg (by have:=h.1;omega)];refine⟨_,rfl,by rw [block_of_add];exact hb,fun k z hk=> ?_⟩;rw [add_of_add];exact hc _ z (by rw [<-hk,List.getElem?_drop])
def withinL(st:List (List Int))(i:Nat)(j:Int):Option (List Int):=
 if j < 0\/(i:Int)<=j then none else if(st.getD i []).take (st.getD j.toNat []).length=st.getD j.toNat []then some ((st.getD i []).drop (st.getD j.toNat []).length)else none
theorem Chk.stack {w:World} {b:Nat} {lg:Int} {ls:List Ln} {fs:List (List Nd)} {st:List (List Int)}(h:Chk w b lg ls fs st) {i j:Nat} {si sj:List Int}(hi:st[i]?=some si)(hj:st[j]?=some sj):
 ∃(ad:Addr) (c:Nat) (vl vf:Value) (Ai Aj:Option Addr) (ci cj:Nat),st.length<=c/\c<=9223372036854775807/\ad.block < w.heap.size/\w.cell? ⟨b,0,none⟩=some (.int .i64 lg)/\w.cell? ⟨b,1,none⟩=some vl/\w.cell? ⟨b,2,none⟩=some vf/\w.cell? ⟨b,3,none⟩=some (.slice (some ad) st.length c)/\
  w.cell? (ad.add i)=some (.slice Ai si.length ci)/\w.cell? (ad.add j)=some (.slice Aj sj.length cj)/\IntsAt w Ai ci si/\IntsAt w Aj cj sj:=by
 obtain⟨vl,vf,vs,hb,_,_,⟨A,c,rfl,h1,h2,h3⟩⟩:=h.all;obtain⟨d0,d1,d2,d3,_,_⟩:=cells4 hb;obtain⟨ad,rfl,hlt,hc⟩:=h3 (by intro e;rw [e]at hi;simp at hi);obtain⟨ui,hui,Ai,ci,rfl,hIi⟩:=hc i si hi;obtain⟨uj,huj,Aj,cj,rfl,hIj⟩:=hc j sj hj;unfold maxLen at h2;exact⟨ad,c,vl,vf,Ai,Aj,ci,cj,h1,by omega,hlt,d0,d1,d2,d3,hui,huj,hIi,hIj⟩
theorem within_out {w:World} {b:Nat}(i:Nat)(j:Int)(hj:j < 0\/(i:Int)<=j):
 Calls Tryz.prog 201 #[.pointer (some ⟨b,0,none⟩),.int .i64 i,.int .i64 j] w fun e w'=>e=.returned (.tuple #[.slice none 0 0,.bool false])/\Ext w w':=by
 by_cases h0:j < 0
 ·clear hj;go_enter Tryz.func201,Tryz.ntmps201;go_wp2_with fail;go_ret2;exact⟨rfl,Qz⟩
 have h1:(i:Int)<=j:=by omega
 clear hj;go_enter Tryz.func201,Tryz.ntmps201;go_wp2_with fail;go_ret2;exact⟨rfl,Qz⟩
theorem within_in {w:World} {b:Nat} {lg:Int} {ls:List Ln} {fs:List (List Nd)} {st:List (List Int)}(h:Chk w b lg ls fs st)(i j:Nat)(si sj:List Int)(hi:st[i]?=some si)(hj:st[j]?=some sj)(hji:j < i):
 Calls Tryz.prog 201 #[.pointer (some ⟨b,0,none⟩),.int .i64 i,.int .i64 (j:Int)] w fun e w'=>∃u,e=.returned (.tuple #[u,.bool (decide (si.take sj.length=sj))])/\Ext w w'/\(si.take sj.length=sj->Ints w' u (si.drop sj.length)):=by
 obtain⟨ad,c,vl,vf,Ai,Aj,ci,cj,hc1,hc2,hlt,d0,d1,d2,d3,hui,huj,hIi,hIj⟩:=h.stack hi hj;have hil:i < st.length:=(List.getElem?_eq_some_iff.1 hi).1;have hjl:j < st.length:=(List.getElem?_eq_some_iff.1 hj).1;have HI:=Qq hIi;have HJ:=Qq hIj;have hci:=hIi.1;have hcim:=hIi.2.1;have hcjm:=hIj.2.1;have hcj:=hIj.1;unfold maxLen at hcim hcjm;have hn0:¬(j:Int) < 0:=by omega
 clear h hi hj hIi hIj;by_cases hle:sj.length<=si.length
 ·have hEQ:=Qq (fun(nq:Nat)=>equalI_q (.slice Ai sj.length ci) (.slice Aj sj.length cj) (si.take sj.length) sj (w.drewN nq) ((Ints.take_ HI.out hle).ext (Qz.drewN nq)) ⟨_,_,rfl,HJ.out.ext (Qz.drewN nq)⟩);have hg:decide (si.length < sj.length)=false:=by simp;omega
  have hsl:(sj.length:Int)<=(ci:Int):=by omega
  by_cases heq:si.take sj.length=sj
  ·have hd:decide (si.take sj.length=sj)=true:=by simpa using heq
   have HQ:=Qq heq;rw [hd]at hEQ⊢;clear heq hd;by_cases hcn:ci=sj.length
   ·have HD:=Qq (Ints.drop_ HI.out hle);rw [if_pos hcn,hcn,Nat.sub_self]at HD;subst hcn;go_enter Tryz.func201,Tryz.ntmps201;go_wp2_with fail;go_quiet ((go_at_call 205;exact Calls.quiet_of (hEQ.out _)));go_wp2_with fail;go_ret2;refine⟨.slice Ai (si.length - sj.length) 0,?_,Qz.drewN _,fun _=>HD.out.ext (Qz.drewN _)⟩;simp;omega
   have HD:=Qq (Ints.drop_ HI.out hle);rw [if_neg hcn]at HD;go_enter Tryz.func201,Tryz.ntmps201;go_wp2_with fail;go_quiet ((go_at_call 205;exact Calls.quiet_of (hEQ.out _)));go_wp2_with fail;go_ret2;exact⟨_,rfl,Qz.drewN _,fun _=>HD.out.ext (Qz.drewN _)⟩
  have hd:decide (si.take sj.length=sj)=false:=by simpa using heq
  have HQ:=Qq heq;rw [hd]at hEQ⊢;clear heq hd;go_enter Tryz.func201,Tryz.ntmps201;go_wp2_with fail;go_quiet ((go_at_call 205;exact Calls.quiet_of (hEQ.out _)));go_wp2_with fail;go_ret2;exact⟨_,rfl,Qz.drewN _,fun e=>absurd e HQ.out⟩
 have hg:decide (si.length < sj.length)=true:=by simp;omega
 have HQ:=Qq (show ¬si.take sj.length=sj from fun e=>by
  have:=congrArg List.length e;simp at this
  omega)
 have hd:decide (si.take sj.length=sj)=false:=by simpa using HQ.out
 rw [hd];clear hd;go_enter Tryz.func201,Tryz.ntmps201;go_wp2_with fail;go_quiet (fail);go_wp2_with fail;go_ret2;exact⟨_,rfl,Qz.drewN _,fun e=>absurd e HQ.out⟩
theorem within_any {w:World} {b:Nat} {lg:Int} {ls:List Ln} {fs:List (List Nd)} {st:List (List Int)}(h:Chk w b lg ls fs st)(i:Nat)(j:Int)(hi:i < st.length):
 Calls Tryz.prog 201 #[.pointer (some ⟨b,0,none⟩),.int .i64 i,.int .i64 j] w fun e w'=>∃u,e=.returned (.tuple #[u,.bool (withinL st i j).isSome])/\Ext w w'/\∀r,withinL st i j=some r->Ints w' u r:=by
 by_cases hj:j < 0\/(i:Int)<=j
 ·refine(within_out (b:=b) i j hj).mono ?_;rintro e w' ⟨rfl,hx⟩;have hw:withinL st i j=none:=by unfold withinL;rw [if_pos hj]
  exact⟨_,by rw [hw];rfl,hx,fun r hr=>by rw [hw]at hr;cases hr⟩
 obtain⟨jn,rfl⟩:=Int.eq_ofNat_of_zero_le (show 0<=j by omega);have hji:jn < i:=by omega
 have e1:st[i]?=some (st.getD i []):=by rw [Qk,Qv hi];rfl
 have e2:st[jn]?=some (st.getD jn []):=by rw [Qk,List.getElem?_eq_getElem (show jn < st.length by omega)];rfl
 refine(within_in h i jn _ _ e1 e2 hji).mono ?_;rintro e w' ⟨u,rfl,hx,hr⟩;have hw:withinL st i (jn:Int)=if(st.getD i []).take (st.getD jn []).length=st.getD jn []then some ((st.getD i []).drop (st.getD jn []).length)else none:=by
  unfold withinL;rw [if_neg hj,Int.toNat_natCast]
 by_cases hq:(st.getD i []).take (st.getD jn []).length=st.getD jn []
 ·rw [if_pos hq]at hw;refine⟨u,by rw [hw,decide_eq_true hq];rfl,hx,fun r hr'=> ?_⟩;rw [hw]at hr';injection hr' with hr';subst hr';exact hr hq
 rw [if_neg hq]at hw;exact⟨u,by rw [hw,decide_eq_false hq];rfl,hx,fun r hr'=>by rw [hw]at hr';cases hr'⟩
def StOk(ls:List Ln)(st:List (List Int)):Prop:=∀s∈st,s.length<=1000/\∀o∈s,0<=o/\o < ls.length
theorem withinL_ok {ls:List Ln} {st:List (List Int)}(h:StOk ls st) {i:Nat} {j:Int} {r:List Int}(hr:withinL st i j=some r)(hi:i < st.length):r.length<=1000/\∀o∈r,0<=o/\o < ls.length:=by
 unfold withinL at hr
 split at hr
 ·cases hr
 split at hr
 ·injection hr with hr;subst hr;have hm:st.getD i []∈st:=by
   rw [Qk,Qv hi];exact List.getElem_mem hi
  obtain⟨h1,h2⟩:=h _ hm;exact⟨by rw [List.length_drop];omega,fun o ho=>h2 o (List.mem_of_mem_drop ho)⟩
 cases hr
def lineL(ls:List Ln)(fs:List (List Nd))(st:List (List Int))(i:Nat)(j:Int):Option (List Nd):=
 match withinL st i j with
 |none=>none
 |some r=>bif (boxesL ls r).isEmpty then some (fs.getD j.toNat [])else none
theorem Chk.form {w:World} {b:Nat} {lg:Int} {ls:List Ln} {fs:List (List Nd)} {st:List (List Int)}(h:Chk w b lg ls fs st) {i:Nat} {f:List Nd}(hi:fs[i]?=some f):
 ∃(ad:Addr) (c:Nat) (vl vs:Value) (Ai:Option Addr) (ci:Nat),fs.length<=c/\c<=9223372036854775807/\ad.block < w.heap.size/\w.cell? ⟨b,0,none⟩=some (.int .i64 lg)/\w.cell? ⟨b,1,none⟩=some vl/\w.cell? ⟨b,2,none⟩=some (.slice (some ad) fs.length c)/\w.cell? ⟨b,3,none⟩=some vs/\
  w.cell? (ad.add i)=some (.slice Ai f.length ci)/\Fml w (.slice Ai f.length ci) f:=by
 obtain⟨vl,vf,vs,hb,_,⟨A,c,rfl,h1,h2,h3⟩,_⟩:=h.all;obtain⟨d0,d1,d2,d3,_,_⟩:=cells4 hb;obtain⟨ad,rfl,hlt,hc⟩:=h3 (by intro e;rw [e]at hi;simp at hi);obtain⟨ui,hui,hf⟩:=hc i f hi;obtain⟨Ai,ci,rfl,_⟩:=fml_slice hf;unfold maxLen at h2;exact⟨ad,c,vl,vs,Ai,ci,h1,by omega,hlt,d0,d1,d2,d3,hui,hf⟩
theorem line_any {w:World} {b:Nat} {lg:Int} {ls:List Ln} {fs:List (List Nd)} {st:List (List Int)}(h:Chk w b lg ls fs st)(hst:StOk ls st)(i k:Nat)(n:Ln)(j:Int)(hi:ls[i]?=some n)(hk:n.from_[k]?=some j)(his:i < st.length)(hif:i<=fs.length):
 Calls Tryz.prog 194 #[.pointer (some ⟨b,0,none⟩),.int .i64 i,.int .i64 (k:Int)] w fun e w'=>∃u,e=.returned (.tuple #[u,.bool (lineL ls fs st i j).isSome])/\Ext w w'/\∀f,lineL ls fs st i j=some f->Fml w' u f:=by
 obtain⟨ad,c,vf,vs,uf,ur,hc1,hc2,hlt,d0,d1,d2,d3,q0,q1,q2,q3,q4,_,⟨Ar,cr,rfl,hir⟩⟩:=h.line hi;obtain⟨adr,rfl,hbr,hcr⟩:=hir.2.2 (by intro e;rw [e]at hk;simp at hk);have r0:=hcr k j hk;have hkl:k < n.from_.length:=(List.getElem?_eq_some_iff.1 hk).1;have hrc:=hir.1;have hrm:=hir.2.1;unfold maxLen at hrm;have hil:i < ls.length:=(List.getElem?_eq_some_iff.1 hi).1;have H:=Qq h;have HST:=Qq hst;clear h hi hk hir hcr hst;go_enter Tryz.func194,Tryz.ntmps194;go_wp2_with fail;refine(within_any H.out i j his).mono ?_;rintro e w1 ⟨u,rfl,hx1,hr1⟩;have HX1:=Qq hx1;have HR1:=Qq hr1;clear hx1 hr1;cases hw:withinL st i j with
 |none =>
  have HL:Hid (lineL ls fs st i j=none):=Qq (by unfold lineL;rw [hw]);clear HR1 hw;go_wp2_with fail;go_ret2;exact⟨_,by rw [HL.out];rfl,HX1.out,fun f hf=>by rw [HL.out]at hf;cases hf⟩
 |some r =>
  have HI:=Qq (HR1.out r hw);obtain⟨hr1,hr2⟩:=withinL_ok HST.out hw his;have HR2:=Qq hr2;have HW:=Qq hw;clear HR1 hw hr2;go_wp2_with fail;refine(boxes_any (H.out.ext HX1.out) u r HI.out HR2.out hr1).mono ?_;rintro e w2 ⟨ub,rfl,hmb⟩;obtain⟨Ab,cb,rfl,_⟩:=hmb.ints;have HX2:=Qq (HX1.out.trans hmb.2);clear hmb;by_cases hbx:(boxesL ls r).length=0
  ·have hemp:boxesL ls r= []:=List.length_eq_zero_iff.1 hbx;have hj:¬(j < 0\/(i:Int)<=j):=fun e=>by
    have:=HW.out;unfold withinL at this;rw [if_pos e]at this;cases this
   obtain⟨jn,rfl⟩:=Int.eq_ofNat_of_zero_le (show 0<=j by omega);have hjf:jn < fs.length:=by omega
   have HL:Hid (lineL ls fs st i (jn:Int)=some (fs.getD jn [])):=Qq (by unfold lineL;rw [HW.out];simp [hemp]);have ef:fs[jn]?=some (fs.getD jn []):=by rw [Qk,Qv hjf];rfl
   obtain⟨ad2,c2,vl2,vs2,Ai,ci,g1,g2,g3,g4,g5,g6,g7,g8,g9⟩:=(H.out.ext HX2.out).form ef;have HF:=Qq g9;rw [hbx];clear hemp hj ef g9 hbx;generalize fs.getD jn []=fj at HL HF g8;go_wp2_with fail;go_ret2;exact⟨_,by rw [HL.out];rfl,HX2.out,fun f hf=>by rw [HL.out]at hf;injection hf with hf;subst hf;exact HF.out⟩
  have hpos0:0 < (boxesL ls r).length:=by omega
  have HL:Hid (lineL ls fs st i j=none):=Qq (by
   unfold lineL;rw [HW.out];cases e:boxesL ls r with
   |nil=>rw [e]at hbx;simp at hbx
   |cons a t=>simp [e])
  clear hbx;go_wp2_with fail;go_ret2;exact⟨_,by rw [HL.out];rfl,HX2.out,fun f hf=>by rw [HL.out]at hf;cases hf⟩
theorem named_any {w:World} {b:Nat} {lg:Int} {ls:List Ln} {fs:List (List Nd)} {st:List (List Int)}(h:Chk w b lg ls fs st)(i:Nat)(n:Ln)(m:Nat)(hi:ls[i]?=some n):
 Calls Tryz.prog 193 #[.pointer (some ⟨b,0,none⟩),.int .i64 i,.int .i64 (m:Int)] w fun e w'=>e=.returned (.bool (decide (n.from_.length=m)))/\Ext w w':=by
 obtain⟨ad,c,vf,vs,uf,ur,hc1,hc2,hlt,d0,d1,d2,d3,q0,q1,q2,q3,q4,_,⟨Ar,cr,rfl,hir⟩⟩:=h.line hi;have hil:i < ls.length:=(List.getElem?_eq_some_iff.1 hi).1;have hr1:=hir.1;have hr2:=hir.2.1;unfold maxLen at hr2;have HB:=Qq (show((n.from_.length:Int)==(m:Int))=decide (n.from_.length=m) by
  by_cases e:n.from_.length=m
  ·simp [e]
  rw [decide_eq_false e,beq_eq_false_iff_ne];omega)
 clear h hi hir;go_enter Tryz.func193,Tryz.ntmps193;go_wp2_with fail;go_ret;exact⟨same_of HB.out,Qz⟩
def eqN(a b:List Nd):Bool:=decide (0 < a.length)&&decide (a=b)
theorem equal_any(v1 v2:Value)(l1 l2:List Nd)(w:World)(h1:Nds w v1 l1)(h2:Nds w v2 l2):
 Calls Tryz.prog 69 #[v1,v2] w fun e w'=>e=.returned (.bool (eqN l1 l2))/\Ext w w':=by
 have H1:=Qq h1;have H2:=Qq h2;obtain⟨A1,c1,rfl,hcap1,hmax1,_⟩:=h1;unfold maxLen at hmax1;clear h2;by_cases h0:l1.length=0
 ·have HE:=Qq (show eqN l1 l2=false by simp [eqN,h0]);rw [h0];rw [h0]at H1;clear h0;go_enter Tryz.func69,Tryz.ntmps69;go_wp2_with fail;go_ret;exact⟨same_of HE.out.symm,Qz⟩
 have hp:0 < l1.length:=by omega
 have HE:=Qq (show eqN l1 l2=decide (l1=l2) by simp [eqN,hp]);clear h0;go_enter Tryz.func69,Tryz.ntmps69;go_wp2_with(go_at_call 39;refine(equalN_any _ _ l1 l2 _ H1.out H2.out).mono ?_;rintro e w3 ⟨rfl,hb3⟩);go_ret;exact⟨same_of HE.out.symm,hb3⟩
def partL(f:List Nd)(op:Int):Option (List Nd×List Nd):=bif (lastN f).op==op then some (subN f (lastN f).x,subN f (lastN f).y)else none
theorem part_any(v:Value)(f:List Nd)(op:Int)(w:World)(h:Fml w v f)(h0:0 < f.length):
 Calls Tryz.prog 197 #[v,.int .i64 op] w fun e w'=>∃u1 u2,e=.returned (.tuple #[u1,u2,.bool (partL f op).isSome])/\Ext w w'/\∀r,partL f op=some r->Fml w' u1 r.1/\Fml w' u2 r.2:=by
 have H:=Qq h;obtain⟨⟨A,c,rfl,hcap,hmax,hread⟩,hok⟩:=h;unfold maxLen at hmax;obtain⟨ad,rfl,hlt,hcells⟩:=hread (by intro e;rw [e]at h0;simp at h0);have hlast:=lastN_get h0;obtain⟨c0,c1,c2,c3,c4,c5⟩:=hcells _ _ hlast;have hi1:((f.length:Int) - 1) < (f.length:Int):=by omega
 have hi0:(0:Int)<=(f.length:Int) - 1:=by omega
 have e1:((f.length:Int) - 1).toNat=f.length - 1:=by omega
 clear hread hok hcells hlast;obtain⟨nn,hnn⟩:∃nn,nn=lastN f:=⟨_,rfl⟩;rw [<-hnn]at c0 c1 c2 c3 c4 c5;have HNN:=Qq hnn;clear hnn;by_cases hop:nn.op=op
 ·have eb:(nn.op !=op)=false:=by simp [hop]
  have HP:=Qq (show partL f op=some (subN f nn.x,subN f nn.y) by unfold partL;rw [<-HNN.out];simp [hop]);clear hop;go_enter Tryz.func197,Tryz.ntmps197;go_wp2_with fail;go_region_with (first|(go_at_call_of 43 (Value.int IntKind.i64 nn.x);refine(sub_any _ f nn.x _ (by exact H.out.ext (by repeat(first|exact Qz|assumption|apply Ext.alloc|apply Ext.drew)))).mono ?_;rintro e wa ⟨ua,rfl,hma⟩;have MA:=Qq hma;have hxa:Ext w wa:=Ext.trans (by repeat(first|exact Qz|assumption|apply Ext.alloc|apply Ext.drew)) hma.2.2;obtain⟨hca,_,hza0⟩:=hma.2.2.facts;have hza:w.heap.size < wa.heap.size:=(by first|omega|(simp at hza0;omega));clear hma hza0)|(go_at_call_of 43 (Value.int IntKind.i64 nn.y);refine(sub_any _ f nn.y _ (by exact H.out.ext (by repeat(first|exact Qz|assumption|apply Ext.alloc|apply Ext.drew)))).mono ?_;rintro e wb ⟨ub,rfl,hmb⟩;have MB:=Qq hmb;have hxb:Ext w wb:=Ext.trans (by repeat(first|exact Qz|assumption|apply Ext.alloc|apply Ext.drew)) hmb.2.2;obtain⟨hcb,_,hzb0⟩:=hmb.2.2.facts;have hzb:w.heap.size < wb.heap.size:=(by first|omega|(simp at hzb0;omega));clear hmb hzb0))
  all_goals
   go_wp2_with fail;go_ret3;refine⟨_,_,by rw [HP.out];rfl,by assumption,fun r hr=> ?_⟩;rw [HP.out]at hr;injection hr with hr;subst hr
   first|exact⟨(MA.out.after MB.out.2.2).fml,MB.out.fml⟩|exact⟨MA.out.fml,(MB.out.after MA.out.2.2).fml⟩
 have eb:(nn.op !=op)=true:=by simpa using hop
 have eb2:(nn.op==op)=false:=by simpa using hop
 have HP:=Qq (show partL f op=none by unfold partL;rw [<-HNN.out,eb2];rfl);clear hop;go_enter Tryz.func197,Tryz.ntmps197;go_wp2_with fail;go_ret3;exact⟨_,_,by rw [HP.out];rfl,Qz.alloc _,fun r hr=>by rw [HP.out]at hr;cases hr⟩
def oneL(ls:List Ln)(fs:List (List Nd))(st:List (List Int))(i:Nat)(n:Ln):Option (List Nd):=
 bif decide (n.from_.length=1)then lineL ls fs st i (n.from_.getD 0 0)else none
def twoL(ls:List Ln)(fs:List (List Nd))(st:List (List Int))(i:Nat)(n:Ln):Option (List Nd×List Nd):=
 bif decide (n.from_.length=2)then
  match lineL ls fs st i (n.from_.getD 0 0),lineL ls fs st i (n.from_.getD 1 0)with
  |some x,some y=>some (x,y)
  |_,_=>none
 else none
theorem from_get {n:Ln} {k:Nat}(h:k < n.from_.length):n.from_[k]?=some (n.from_.getD k 0):=by
 rw [Qk,Qv h];rfl
theorem one_any {w:World} {b:Nat} {lg:Int} {ls:List Ln} {fs:List (List Nd)} {st:List (List Int)}(h:Chk w b lg ls fs st)(hst:StOk ls st)(i:Nat)(n:Ln)(hi:ls[i]?=some n)(his:i < st.length)(hif:i<=fs.length):
 Calls Tryz.prog 196 #[.pointer (some ⟨b,0,none⟩),.int .i64 i] w fun e w'=>∃u,e=.returned (.tuple #[u,.bool (oneL ls fs st i n).isSome])/\Ext w w'/\∀f,oneL ls fs st i n=some f->Fml w' u f:=by
 have H:=Qq h;have HST:=Qq hst;have HI:=Qq hi;clear h hst hi;have HN:=Qq (fun w (h:Chk w b lg ls fs st)=>named_any h i n 1 HI.out);cases hd:decide (n.from_.length=1)
 ·have HO:=Qq (show oneL ls fs st i n=none by unfold oneL;rw [hd];rfl);have HD:=Qq hd;clear hd;go_enter Tryz.func196,Tryz.ntmps196;go_wp2_with fail;refine(HN.out _ H.out).mono ?_;rintro e w1 ⟨rfl,hx⟩;rw [HD.out];go_wp2_with fail;go_ret2;exact⟨_,by rw [HO.out];rfl,hx,fun f hf=>by rw [HO.out]at hf;cases hf⟩
 obtain⟨j,hj,ho⟩:∃j,n.from_[0]?=some j/\oneL ls fs st i n=lineL ls fs st i j:=⟨_,from_get (n:=n) (k:=0) (by have:=of_decide_eq_true hd;omega),by unfold oneL;rw [hd];rfl⟩;have HO:=Qq ho;have HK:=Qq hj;clear ho hj;have HD:=Qq hd;clear hd;go_enter Tryz.func196,Tryz.ntmps196;go_wp2_with fail;refine(HN.out _ H.out).mono ?_;rintro e w1 ⟨rfl,hx⟩;rw [HD.out];have HX:=Qq hx;clear hx;go_wp2_with fail;refine(line_any (H.out.ext HX.out) HST.out i 0 n _ HI.out HK.out his hif).mono ?_;rintro e w2 ⟨u,rfl,hx2,hf2⟩;have HX2:=Qq (HX.out.trans hx2);have HF2:=Qq hf2;clear hx2 hf2;go_wp2_with fail;go_ret2;exact⟨u,by rw [HO.out];rfl,HX2.out,fun f hf=>HF2.out f (by rw [<-HO.out];exact hf)⟩
structure CkOk (ls:List Ln) (fs:List (List Nd)) (st:List (List Int)) (i:Nat) (n:Ln) (fi:List Nd):Prop where
 st_ok:StOk ls st
 n_at:ls[i]?=some n
 f_at:fs[i]?=some fi
 st_lt:i < st.length
 fs_ok:∀f∈fs,0 < f.length/\Wf f
 ag:∀(k:Nat) (m:Ln),k < fs.length->ls[k]?=some m->i64ok m.agent
 op:∀(k:Nat) (m:Ln) (s:List Int),ls[k]?=some m->st[k]?=some s->opensL m=true->0 < s.length
theorem CkOk.fs_le {ls:List Ln} {fs:List (List Nd)} {st:List (List Int)} {i:Nat} {n:Ln} {fi:List Nd}(h:CkOk ls fs st i n fi):i<=fs.length:=Nat.le_of_lt (List.getElem?_eq_some_iff.1 h.f_at).1
theorem two_any {w:World} {b:Nat} {lg:Int} {ls:List Ln} {fs:List (List Nd)} {st:List (List Int)} {i:Nat} {n:Ln} {fi:List Nd}(h:Chk w b lg ls fs st)(ok:CkOk ls fs st i n fi):
 Calls Tryz.prog 195 #[.pointer (some ⟨b,0,none⟩),.int .i64 i] w fun e w'=>∃u1 u2,e=.returned (.tuple #[u1,u2,.bool (twoL ls fs st i n).isSome])/\Ext w w'/\∀r,twoL ls fs st i n=some r->Fml w' u1 r.1/\Fml w' u2 r.2:=by
 have H:=Qq h;have OK:=Qq ok;clear h ok;cases hd:decide (n.from_.length=2)
 ·have HO:=Qq (show twoL ls fs st i n=none by unfold twoL;rw [hd];rfl);have HD:=Qq hd;clear hd;go_enter Tryz.func195,Tryz.ntmps195;go_wp2_with fail;refine(named_any H.out i n 2 OK.out.n_at).mono ?_;rintro e w1 ⟨rfl,hx⟩;rw [HD.out];go_wp2_with fail;go_ret3;exact⟨.slice none 0 0,.slice none 0 0,by rw [HO.out];rfl,hx,fun f hf=>by rw [HO.out]at hf;cases hf⟩
 obtain⟨j1,j2,hj1,hj2,ho⟩:∃j1 j2,n.from_[0]?=some j1/\n.from_[1]?=some j2/\twoL ls fs st i n=(match lineL ls fs st i j1,lineL ls fs st i j2 with
  |some x,some y=>some (x,y)
  |_,_=>none):=⟨_,_,from_get (n:=n) (k:=0) (by have:=of_decide_eq_true hd;omega),from_get (n:=n) (k:=1) (by have:=of_decide_eq_true hd;omega),by unfold twoL;rw [hd];rfl⟩
 have HO:=Qq ho;have HK1:=Qq hj1;have HK2:=Qq hj2;have HD:=Qq hd;clear ho hj1 hj2 hd;go_enter Tryz.func195,Tryz.ntmps195;go_wp2_with fail;refine(named_any H.out i n 2 OK.out.n_at).mono ?_;rintro e w1 ⟨rfl,hx⟩;rw [HD.out];have HX:=Qq hx;clear hx;go_wp2_with fail;refine(line_any (H.out.ext HX.out) OK.out.st_ok i 0 n _ OK.out.n_at HK1.out OK.out.st_lt OK.out.fs_le).mono ?_;rintro e w2 ⟨u1,rfl,hx2,hf2⟩;have HX2:=Qq (HX.out.trans hx2);have HF2:=Qq hf2;clear hx2 hf2;go_wp2_with fail;refine(line_any (H.out.ext HX2.out) OK.out.st_ok i 1 n _ OK.out.n_at HK2.out OK.out.st_lt OK.out.fs_le).mono ?_;rintro e w3 ⟨u2,rfl,hx3,hf3⟩
 have HX3:=Qq (HX2.out.trans hx3);have HX23:=Qq hx3;have HF3:=Qq hf3;clear hx3 hf3;cases e1:lineL ls fs st i j1 with
 |none =>
  have HN:Hid (twoL ls fs st i n=none):=Qq (by rw [HO.out,e1]);clear HF2;clear e1;go_wp2_with fail;go_ret3;exact⟨u1,u2,by rw [HN.out];rfl,HX3.out,fun f hf=>by rw [HN.out]at hf;cases hf⟩
 |some x =>
  have HFx:=Qq (HF2.out x e1);cases e2:lineL ls fs st i j2 with
  |none =>
   have HN:Hid (twoL ls fs st i n=none):=Qq (by rw [HO.out,e1,e2]);clear HF2 HF3 e1 e2;go_wp2_with fail;go_ret3;exact⟨u1,u2,by rw [HN.out];rfl,HX3.out,fun f hf=>by rw [HN.out]at hf;cases hf⟩
  |some y =>
   have HFy:=Qq (HF3.out y e2);have HN:Hid (twoL ls fs st i n=some (x,y)):=Qq (by rw [HO.out,e1,e2]);clear HF2 HF3 e1 e2;go_wp2_with fail;go_ret3;exact⟨u1,u2,by rw [HN.out];rfl,HX3.out,fun f hf=>by rw [HN.out]at hf;injection hf with hf;subst hf;exact⟨HFx.out.ext HX23.out,HFy.out⟩⟩
def lastF(st:List (List Int))(o:Int)(i:Nat):Nat->Nat->Nat
 |0,l=>l
 |k+1,l=>bif decide (l+1 < i)&&decide (o∈st.getD (l+1) [])then lastF st o i k (l+1)else l
def lastL(st:List (List Int))(o:Nat)(i:Nat):Nat:=lastF st o i i o
def subOk(ls:List Ln)(st:List (List Int))(i o:Nat):Bool :=
 decide ((st.getD i []).take ((st.getD o []).length - 1)=(st.getD o []).take ((st.getD o []).length - 1))&&(!decide ((o:Int)∈st.getD i [])&&((boxesL ls ((st.getD i []).drop ((st.getD o []).length - 1))).isEmpty &&
  decide ((st.getD (lastL st o i) []).length=(st.getD o []).length)))
def subprL(ls:List Ln)(fs:List (List Nd))(st:List (List Int))(i:Nat)(o:Int):Option (Int×List Nd):=
 if o < 0\/(i:Int)<=o then none else bif opensL (lineAt ls o)&&subOk ls st i o.toNat then some (o,fs.getD (lastL st o.toNat i) [])else none
def assumedL(ls:List Ln)(fs:List (List Nd))(st:List (List Int))(i:Nat)(o:Int):Option (List Nd×List Nd):=
 match subprL ls fs st i o with
 |none=>none
 |some r=>bif (lineAt ls r.1).rule==1 then some (fs.getD r.1.toNat [],r.2)else none
def fromAt(n:Ln)(k:Nat):Int:=n.from_.getD k 0
def asmL(ls:List Ln)(fs:List (List Nd))(st:List (List Int))(i:Nat)(n:Ln):Option (List Nd×List Nd):=bif decide (n.from_.length=1)then assumedL ls fs st i (fromAt n 0)else none
def refutesL(ls:List Ln)(fs:List (List Nd))(st:List (List Int))(i:Nat)(n:Ln):Option (List Nd):=
 match asmL ls fs st i n with
 |none=>none
 |some r=>bif eqN r.2 falseN then some r.1 else none
def inL(l:List Int)(lg:Int):Bool:=decide (lg∈l)
def copiedL(_lg:Int)(ls:List Ln)(fs:List (List Nd))(st:List (List Int))(i:Nat)(n:Ln)(fi:List Nd):Bool :=
 match oneL ls fs st i n with|none=>false|some x=>eqN x fi
def andInL(_lg:Int)(ls:List Ln)(fs:List (List Nd))(st:List (List Int))(i:Nat)(n:Ln)(fi:List Nd):Bool :=
 match twoL ls fs st i n with|none=>false|some r=>eqN (andN r.1 r.2) fi
def andOutL(_lg:Int)(ls:List Ln)(fs:List (List Nd))(st:List (List Int))(i:Nat)(n:Ln)(fi:List Nd):Bool :=
 match oneL ls fs st i n with|none=>false|some f=>(match partL f 5 with|none=>false|some r=>eqN r.1 fi||eqN r.2 fi)
def orInL(_lg:Int)(ls:List Ln)(fs:List (List Nd))(st:List (List Int))(i:Nat)(n:Ln)(fi:List Nd):Bool :=
 match oneL ls fs st i n with|none=>false|some f=>(match partL fi 6 with|none=>false|some r=>eqN r.1 f||eqN r.2 f)
def orOutL(_lg:Int)(ls:List Ln)(fs:List (List Nd))(st:List (List Int))(i:Nat)(n:Ln)(fi:List Nd):Bool :=
 bif decide (n.from_.length=3)then
  match lineL ls fs st i (fromAt n 0)with
  |none=>false
  |some f=>match partL f 6,assumedL ls fs st i (fromAt n 1),assumedL ls fs st i (fromAt n 2)with
   |some r,some a,some b=>eqN a.1 r.1&&(eqN b.1 r.2&&(eqN a.2 fi&&eqN b.2 fi))
   |_,_,_=>false
 else false
def impInL(_lg:Int)(ls:List Ln)(fs:List (List Nd))(st:List (List Int))(i:Nat)(n:Ln)(fi:List Nd):Bool :=
 match asmL ls fs st i n with|none=>false|some r=>eqN (impN r.1 r.2) fi
def impOutL(_lg:Int)(ls:List Ln)(fs:List (List Nd))(st:List (List Int))(i:Nat)(n:Ln)(fi:List Nd):Bool :=
 match twoL ls fs st i n with|none=>false|some r=>eqN (impN r.1 fi) r.2
def notInL(_lg:Int)(ls:List Ln)(fs:List (List Nd))(st:List (List Int))(i:Nat)(n:Ln)(fi:List Nd):Bool :=
 match refutesL ls fs st i n with|none=>false|some x=>eqN (notN x) fi
def notOutL(_lg:Int)(ls:List Ln)(fs:List (List Nd))(st:List (List Int))(i:Nat)(n:Ln)(fi:List Nd):Bool :=
 match twoL ls fs st i n with|none=>false|some r=>eqN (notN r.1) r.2&&eqN fi falseN
def absurdL(_lg:Int)(ls:List Ln)(fs:List (List Nd))(st:List (List Int))(i:Nat)(n:Ln)(fi:List Nd):Bool :=
 match refutesL ls fs st i n with|none=>false|some x=>eqN (notN fi) x
def fromFalseL(_lg:Int)(ls:List Ln)(fs:List (List Nd))(st:List (List Int))(i:Nat)(n:Ln)(_fi:List Nd):Bool :=
 match oneL ls fs st i n with|none=>false|some x=>eqN x falseN
def isTrueL(_lg:Int)(_ls:List Ln)(_fs:List (List Nd))(_st:List (List Int))(_i:Nat)(n:Ln)(fi:List Nd):Bool :=
 decide (n.from_.length=0)&&eqN fi trueN
def iffL(_lg:Int)(ls:List Ln)(fs:List (List Nd))(st:List (List Int))(i:Nat)(n:Ln)(fi:List Nd):Bool :=
 match twoL ls fs st i n with
 |some r=>(match partL fi 8 with|none=>false|some s=>eqN (impN s.1 s.2) r.1&&eqN (impN s.2 s.1) r.2)
 |none=>match oneL ls fs st i n with
  |none=>false
  |some f=>match partL f 8 with|none=>false|some s=>eqN (impN s.1 s.2) fi||eqN (impN s.2 s.1) fi
def knowInL(_lg:Int)(ls:List Ln)(fs:List (List Nd))(st:List (List Int))(i:Nat)(n:Ln)(fi:List Nd):Bool :=
 bif decide (n.from_.length=1)then
  match subprL ls fs st i (fromAt n 0)with
  |none=>false
  |some r=>(lineAt ls r.1).rule==2&&eqN (knowN (lineAt ls r.1).agent r.2) fi
 else false
def innerN(f:List Nd):Nd:=bif (lastN f).op==4 then f.getD (lastN f).x.toNat Nd.zero else lastN f
def impAt(lg:Int)(f:List Nd)(a:Int)(fi:List Nd):Bool :=
 bif (lastN f).op==9&&(lastN f).i==a then eqN (subN f (lastN f).x) fi||(inL [3,4,5,6] lg&&eqN f fi)
 else bif ((lastN f).op==10&&(lastN f).i==a)||((lastN f).op==4&&((innerN f).op==9&&(innerN f).i==a))then inL [5,6] lg&&eqN f fi else false
def importedL(lg:Int)(ls:List Ln)(fs:List (List Nd))(st:List (List Int))(i:Nat)(n:Ln)(fi:List Nd):Bool :=
 bif decide (n.from_.length=1)then
  match withinL st i (fromAt n 0)with
  |none=>false
  |some r=>match boxesL ls r with
   |[o]=>impAt lg (fs.getD (fromAt n 0).toNat []) (lineAt ls o).agent fi
   |_=>false
 else false
def knowTL(lg:Int)(ls:List Ln)(fs:List (List Nd))(st:List (List Int))(i:Nat)(n:Ln)(fi:List Nd):Bool :=
 match oneL ls fs st i n with|none=>false|some f=>bif inL [2,4,6] lg then(match partL f 9 with|none=>false|some r=>eqN r.1 fi)else false
def isDualL(f g:List Nd):Bool:=bif (lastN f).op==10 then eqN (notN (knowN (lastN f).i (notN (subN f (lastN f).x)))) g else false
def dualL(_lg:Int)(ls:List Ln)(fs:List (List Nd))(st:List (List Int))(i:Nat)(n:Ln)(fi:List Nd):Bool :=
 match oneL ls fs st i n with|none=>false|some f=>isDualL f fi||isDualL fi f
def serialL(lg:Int)(ls:List Ln)(fs:List (List Nd))(st:List (List Int))(i:Nat)(n:Ln)(fi:List Nd):Bool :=
 match oneL ls fs st i n with|none=>false|some f=>bif inL [1,5] lg then(lastN f).op==9&&eqN (possN (lastN f).i (subN f (lastN f).x)) fi else false
theorem Chk.blt {w:World} {b:Nat} {lg:Int} {ls:List Ln} {fs:List (List Nd)} {st:List (List Int)}(h:Chk w b lg ls fs st):b < w.heap.size:=by
 obtain⟨_,_,_,hb,_⟩:=h.all;exact lt_heap hb
theorem oneL_no {ls:List Ln} {fs:List (List Nd)} {st:List (List Int)} {i:Nat} {n:Ln}(h:decide (n.from_.length=1)=false):oneL ls fs st i n=none:=by unfold oneL;rw [h];rfl
theorem oneL_yes {ls:List Ln} {fs:List (List Nd)} {st:List (List Int)} {i:Nat} {n:Ln}(h:decide (n.from_.length=1)=true):n.from_[0]?=some (fromAt n 0)/\oneL ls fs st i n=lineL ls fs st i (fromAt n 0):=
 ⟨from_get (by have:=of_decide_eq_true h;omega),by unfold oneL fromAt;rw [h];rfl⟩
theorem asmL_no {ls:List Ln} {fs:List (List Nd)} {st:List (List Int)} {i:Nat} {n:Ln}(h:decide (n.from_.length=1)=false):asmL ls fs st i n=none:=by unfold asmL;rw [h];rfl
theorem asmL_yes {ls:List Ln} {fs:List (List Nd)} {st:List (List Int)} {i:Nat} {n:Ln}(h:decide (n.from_.length=1)=true):n.from_[0]?=some (fromAt n 0)/\asmL ls fs st i n=assumedL ls fs st i (fromAt n 0):=
 ⟨from_get (by have:=of_decide_eq_true h;omega),by unfold asmL;rw [h];rfl⟩
theorem from_at {n:Ln} {k m:Nat}(h:decide (n.from_.length=m)=true)(hk:k < m):n.from_[k]?=some (fromAt n k):=from_get (by have:=of_decide_eq_true h;omega)
theorem lineL_mem {ls:List Ln} {fs:List (List Nd)} {st:List (List Int)} {i:Nat} {j:Int} {f:List Nd}(h:lineL ls fs st i j=some f)(hif:i<=fs.length):f∈fs:=by
 unfold lineL at h
 split at h
 ·cases h
 rename_i r hr;have hj:¬(j < 0\/(i:Int)<=j):=fun e=>by unfold withinL at hr;rw [if_pos e]at hr;cases hr
 cases hb:(boxesL ls r).isEmpty
 ·rw [hb]at h;cases h
 rw [hb]at h;injection h with h;subst h;rw [Qk,List.getElem?_eq_getElem (show j.toNat < fs.length by omega)];exact List.getElem_mem _
theorem oneL_mem {ls:List Ln} {fs:List (List Nd)} {st:List (List Int)} {i:Nat} {n:Ln} {f:List Nd}(h:oneL ls fs st i n=some f)(hif:i<=fs.length):f∈fs:=by
 unfold oneL at h;cases hd:decide (n.from_.length=1)
 ·rw [hd]at h;cases h
 rw [hd]at h;exact lineL_mem h hif
end Go.Proofs.YtmidgcldljfkcaaGreatDoor
