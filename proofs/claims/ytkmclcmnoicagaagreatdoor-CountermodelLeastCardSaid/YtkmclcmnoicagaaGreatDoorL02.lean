/- formula.nodeError returns the error of a node at a place, for every node and place. -/
import Derived.Test.YtkmclcmnoicagaaGreatDoorL01
import Derived.Maps.OwnSet
import Derived.DeepKeys4
import Derived.OneCell
import Derived.Deep.DeepCutAuto
import Derived.Deep.RegionWith
import Derived.Laws.EntriesVeiled
namespace Go.Proofs.YtkmclcmnoicagaaGreatDoor
set_option maxRecDepth 100000
set_option maxHeartbeats 128000000
open Go.RowKit
theorem Qrl(n:Nd)(at_:Int)(w:World)(ho:Yr n.op=true)(hx:Zy (Qi n.op) n.x at_=false):
 Calls Tryz.prog 102 #[n.val,.int .i64 at_] w fun e w'=>e=.returned (.int .i64 3)/\Qg w w':=by
 unfold Nd.val;have HO:=Qq ho;have HX:=Qq hx;clear ho hx;go_enter Tryz.func102,Tryz.ntmps102;go_wp2_with(first|(go_at_call 161;refine(Nm _ _ _ _ _ _ _ _ rfl rfl rfl rfl rfl rfl HO.out _).mono ?_;rintro e w1 ⟨rfl,hb⟩;obtain⟨hc,xJ,wZ⟩:=hb.facts;have hz:w.heap.size < w1.heap.size:=by { simp at wZ;omega };clear wZ)|(go_at_call 167;(with_reducible refine(Lo _ _ _ false HX.out _).mono ?_);rintro e w' ⟨rfl,rfl⟩));go_ret;exact⟨rfl,((Qz.alloc _).trans hb).alloc _⟩
theorem Qrm(n:Nd)(at_:Int)(w:World)(ho:Yr n.op=true)(hx:Zy (Qi n.op) n.x at_=true)(hy:Zy (Qe n.op) n.y at_=false):
 Calls Tryz.prog 102 #[n.val,.int .i64 at_] w fun e w'=>e=.returned (.int .i64 3)/\Qg w w':=by
 unfold Nd.val;have HO:=Qq ho;have HX:=Qq hx;have HY:=Qq hy;clear ho hx hy;go_enter Tryz.func102,Tryz.ntmps102;go_wp2_with(first|(go_at_call 161;refine(Nm _ _ _ _ _ _ _ _ rfl rfl rfl rfl rfl rfl HO.out _).mono ?_;rintro e w1 ⟨rfl,hb⟩;obtain⟨hc,xJ,wZ⟩:=hb.facts;have hz:w.heap.size < w1.heap.size:=by { simp at wZ;omega };clear wZ)|(go_at_call 167;(with_reducible refine(Lo _ _ _ true HX.out _).mono ?_);rintro e w' ⟨rfl,rfl⟩)|(go_at_call 167;(with_reducible refine(Lo _ _ _ false HY.out _).mono ?_);rintro e w' ⟨rfl,rfl⟩));go_ret;exact⟨rfl,((Qz.alloc _).trans hb).alloc _⟩
theorem Qql {n:Nd} {at_:Int} {w:World}(r:Int)(h:Zd n at_=r)(hc:Calls Tryz.prog 102 #[n.val,.int .i64 at_] w fun e w'=>e=.returned (.int .i64 r)/\Qg w w'):Calls Tryz.prog 102 #[n.val,.int .i64 at_] w fun e w'=>e=.returned (.int .i64 (Zd n at_))/\Qg w w':=by
 rw [h];exact hc
theorem Tg(n:Nd)(at_:Int)(w:World):
 Calls Tryz.prog 102 #[n.val,.int .i64 at_] w fun e w'=>e=.returned (.int .i64 (Zd n at_))/\Qg w w':=by
 cases ho:Yr n.op
 ·rw [show Zd n at_=10 by simp [Zd,ho]];exact Qxf n at_ w ho
 cases hx:Zy (Qi n.op) n.x at_
 ·rw [show Zd n at_=3 by simp [Zd,ho,hx]];exact Qrl n at_ w ho hx
 cases hy:Zy (Qe n.op) n.y at_
 ·rw [show Zd n at_=3 by simp [Zd,ho,hx,hy]];exact Qrm n at_ w ho hx hy
 have ob:∀v a b,Ql false v a b=false:=fun _ _ _=>rfl
 rcases Qyg n.op with⟨hf,ha,hg,he⟩|⟨hf,ha,hg,he⟩|⟨hf,ha,hg,he⟩|⟨hf,ha,hg,he⟩|⟨hf,ha,hg,he⟩;cases bi:n.i !=0;cases be:n.e !=0;cases bg:n.g !=0
 rotate_left 4
 cases be:n.e !=0;cases bg:n.g !=0;cases r0:Ql true n.i 0 7
 rotate_left 4
 cases be:n.e !=0;cases bg:n.g !=0;cases r0:Ql true n.i 0 3
 rotate_left 4
 cases bi:n.i !=0;cases be:n.e !=0;cases r0:Ql true n.g 1 15
 rotate_left 4
 cases bg:n.g !=0;cases r0:Ql true n.i 0 7;cases r1:Ql true n.e 0 7
 all_goals
  first
  |refine Qql 3 ?_ ?_
   ·simp only [Zd,Zc, *];simp
    done
  |refine Qql 2 ?_ ?_
   ·simp only [Zd,Zc,Ys, *];simp
    done
  |refine Qql 0 ?_ ?_
   ·simp only [Zd,Zc,Ys, *];simp
    done
  clear ob
  as_aux_lemma =>
   unfold Nd.val
   try
    have zi:n.i=0:=by simpa using bi
    rw [zi];clear bi zi
   try
    have ze:n.e=0:=by simpa using be
    rw [ze];clear be ze
   try
    have zg:n.g=0:=by simpa using bg
    rw [zg];clear bg zg
   try
    have R0:=Qq r0;clear r0
   try
    have R1:=Qq r1;clear r1
   have HO:=Qq ho;have HF:=Qq hf;have HA:=Qq ha;have HG:=Qq hg;have HE:=Qq he;have HX:=Qq hx;have HY:=Qq hy;clear ho hf ha hg he hx hy;go_enter Tryz.func102,Tryz.ntmps102;go_wp2_with(first|(go_at_call 161;refine(Nm _ _ _ _ _ _ _ _ rfl rfl HF.out HA.out HG.out HE.out HO.out _).mono ?_;rintro e w1 ⟨rfl,hb⟩;obtain⟨hc,xJ,wZ⟩:=hb.facts;have hz:w.heap.size < w1.heap.size:=by { simp at wZ;omega };clear wZ)|(go_at_call 167;(with_reducible refine(Lo _ _ _ true HX.out _).mono ?_);rintro e w' ⟨rfl,rfl⟩)|(go_at_call 167;(with_reducible refine(Lo _ _ _ true HY.out _).mono ?_);rintro e w' ⟨rfl,rfl⟩)|(go_at_call 168;(with_reducible refine(Qqh true _ _ _ _ R0.out _).mono ?_);rintro e w' ⟨rfl,rfl⟩)|(go_at_call 168;(with_reducible refine(Qqh true _ _ _ _ R1.out _).mono ?_);rintro e w' ⟨rfl,rfl⟩)|(go_at_call 168;(with_reducible refine(Qqh false _ _ _ false rfl _).mono ?_);rintro e w' ⟨rfl,rfl⟩))
   go_ret;exact⟨rfl,((Qz.alloc _).trans hb).alloc _⟩
theorem Qt(a:Addr)(n:Nat):(a.add n).block=a.block:=by unfold Addr.add;split <;> rfl
theorem Qtn(a:Addr)(i j:Nat):(a.add i).add j=a.add (i+j):=by
 unfold Addr.add;by_cases hi:i=0 <;> by_cases hj:j=0 <;> simp [hi,hj,Nat.add_assoc]
def Qbc(w:World)(a:Addr)(n:Nd):Prop :=
 w.cell? a=some (.int .i64 n.op)/\w.cell? ⟨a.block,a.off+1,none⟩=some (.int .i64 n.i)/\w.cell? ⟨a.block,a.off+2,none⟩=some (.int .i64 n.e)/\w.cell? ⟨a.block,a.off+3,none⟩=some (.int .i64 n.g)/\
  w.cell? ⟨a.block,a.off+4,none⟩=some (.int .i64 n.x)/\w.cell? ⟨a.block,a.off+5,none⟩=some (.int .i64 n.y)
def Mi(w:World)(A:Option Addr)(c:Nat)(l:List Nd):Prop :=
 l.length<=c/\c<=maxLen/\(l≠ []->∃ad,A=some ad/\ad.block < w.heap.size/\∀k n,l[k]?=some n->Qbc w (ad.add (k*6)) n)
def Ew(w:World)(v:Value)(l:List Nd):Prop:=∃A c,v=.slice A l.length c/\Mi w A c l
section
variable {w w':World} {a:Addr} {n:Nd} {l:List Nd} {A:Option Addr} {c:Nat} {v:Value}
theorem Qbc.keep(h:Qbc w a n)(hk:∀p:Addr,p.block=a.block->w'.cell? p=w.cell? p):Qbc w' a n:=by
 obtain⟨h0,h1,h2,h3,h4,h5⟩:=h;have rH:∀o s,w'.cell? ⟨a.block,o,s⟩=w.cell? ⟨a.block,o,s⟩:=fun o s=>hk ⟨a.block,o,s⟩ rfl
 exact⟨(hk _ rfl).trans h0,(rH _ _).trans h1,(rH _ _).trans h2,(rH _ _).trans h3,(rH _ _).trans h4,(rH _ _).trans h5⟩
theorem Mi.ext(h:Mi w A c l)(hb:Qg w w'):Mi w' A c l :=
 ⟨h.1,h.2.1,fun hn=>by
  obtain⟨ad,e,zI,hc⟩:=h.2.2 hn;exact⟨ad,e,Qy zI hb.size,fun k n hk=>(hc k n hk).keep fun p hp=>hb.cell (by rw [hp,Qt];exact zI)⟩⟩
theorem Ew.ext(h:Ew w v l)(hb:Qg w w'):Ew w' v l:=by
 obtain⟨A,c,e,h⟩:=h;exact⟨A,c,e,h.ext hb⟩
end
theorem Qj {a:Addr} {k n:Nat}(h:a.block < n):(a.add k).block < n:=by rw [Qt];exact h
theorem Ke {k:IntKind} {a b:Int}(h:a=b):Ending.returned (.int k a)=.returned (.int k b):=by rw [h]
theorem Vh(v:Value)(l:List Nd)(w:World)(h:Ew w v l):
 Calls Tryz.prog 41 #[v] w fun e w'=>e=.returned (.int .i64 (check l))/\Qg w w':=by
 obtain⟨A,c,rfl,xU,yP,zN⟩:=h;unfold maxLen at yP;by_cases h0:l.length=0
 ·have wK:check l=3:=by simp [check,h0]
  rw [h0,wK];clear wK zN;go_enter Tryz.func41,Tryz.ntmps41;go_wp2_with fail;go_ret;exact⟨rfl,Qz⟩
 have e0:((l.length:Int)==0)=false:=by rw [beq_eq_false_iff_ne];omega
 by_cases h1:200 < l.length
 ·have wK:check l=8:=by simp [check,h0,h1]
  rw [wK];clear wK zN;go_enter Tryz.func41,Tryz.ntmps41;go_wp2_with fail;go_ret;exact⟨rfl,Qz⟩
 have zQ:l≠ []:=fun e=>h0 (by simp [e])
 obtain⟨ad,rfl,zI,zJ⟩:=zN zQ;have HC:=Qq zJ;clear zJ;have HK:=Qq (show check l=Jc l 0 by simp [check,h0,h1]);have hl:l.length<=200:=by omega
 clear h0 h1 zN;go_enter Tryz.func41,Tryz.ntmps41;go_wp2_with fail;go_loopw [14] (fun i wr=>∃k:Nat,k<=l.length/\i=.int .i64 k/\Hid (Jc l 0=Jc (l.drop k) k)/\Qg w wr) (fun i _=>l.length - (intOf i).toNat)
 case atStart=>exact⟨0,Nat.zero_le _,rfl,Qq rfl,Qz⟩
 case round =>
  obtain⟨k,hk,rfl,uA,yX⟩:=hrel;by_cases hlt2:k < l.length
  ·obtain⟨n,hn⟩:∃n,l[k]?=some n:=⟨_,Qv hlt2⟩;have xM:=Wq l k n hn;obtain⟨c0,c1,c2,c3,c4,c5⟩:=(HC.out k n hn).keep fun p hp=>yX.cell (p:=p) (by rw [hp,Qt];exact zI)
   by_cases he:Zd n k=0
   ·have kT:Hid (Jc l 0=Jc (l.drop (k+1)) ((k+1:Nat):Int)):=Qq (by rw [uA.out,xM,he];rfl);have hh:=Qq he;clear xM he hn uA;go_wp2_with(go_at_call 102;refine(Tg n _ _).mono ?_;rintro e w1 ⟨rfl,hb⟩;rw [hh.out]);go_roundw
    case rel=>exact⟨k+1,by omega,by go_num,kT,(yX.alloc _).trans hb⟩
    case measure=>simp [intOf];omega
   have hh:(Zd n k !=0)=true:=by simpa using he
   have kT:Hid (Jc l 0=Zd n k):=Qq (by rw [uA.out,xM,hh];rfl);clear xM he hn uA;go_wp2_with(go_at_call 102;refine(Tg n _ _).mono ?_;rintro e w1 ⟨rfl,hb⟩);go_ret;exact⟨Ke (by rw [HK.out,kT.out]),(yX.alloc _).trans hb⟩
  obtain rfl:l.length=k:=by omega
  go_wp2_with fail;go_ret;refine⟨Ke ?_,yX⟩;rw [HK.out,uA.out];simp [Jc]
def Nd.zero:Nd:=⟨0,0,0,0,0,0⟩
def Wf(f:List Nd):Prop:=∀(i:Nat) (n:Nd),f[i]?=some n->(Qi n.op=true->0<=n.x/\n.x < i)/\(Qe n.op=true->0<=n.y/\n.y < i)
def Nd.with_(n:Nd)(kx ky:Nat):Nd:= { n with x:=bif Qi n.op then(kx:Int)else n.x,y:=bif Qe n.op then(ky:Int)else n.y }
def Zi(o:List Nd)(m:Nd):List Nd:=if m∈o then o else o++ [m]
def La(f:List Nd):Nat->Nat->List Nd->List Nd×Nat
 |0,_,o=>(o,0)
 |fuel+1,i,o =>
  let n:Nd:=f.getD i Nd.zero
  let r1:=if Qi n.op then La f fuel n.x.toNat o else(o,0)
  let r2:=if Qe n.op then La f fuel n.y.toNat r1.1 else(r1.1,0)
  (Zi r2.1 (n.with_ r1.2 r2.2),r2.1.idxOf (n.with_ r1.2 r2.2))
def Ze(f:List Nd)(i:Nat)(o:List Nd):List Nd×Nat:=La f (i+1) i o
def Qw(f:List Nd):Nd:=f.getLastD Nd.zero
theorem Lx {f:List Nd}(h:0 < f.length):f[f.length - 1]?=some (Qw f):=by
 unfold Qw;rw [<-List.getLast?_eq_getElem?];cases f with
 |nil=>simp at h
 |cons a t=>simp [List.getLast?_cons]
theorem Hs {f:List Nd} {i:Nat} {n:Nd}(h:f[i]?=some n):f.getD i Nd.zero=n:=by simp [List.getD,h]
theorem Qdb {f:List Nd}(hf:Wf f):∀(fuel i:Nat) (o:List Nd),i < fuel->i < f.length->La f fuel i o=Ze f i o:=by
 intro fuel
 induction fuel using Nat.strongRecOn with
 |_ fuel ih =>
  intro i o h hi;cases fuel with
  |zero=>omega
  |succ fuel =>
   obtain⟨n,hn⟩:∃n,f[i]?=some n:=⟨_,Qv hi⟩;obtain⟨hx,hy⟩:=hf i n hn;have e:∀(b:Nat) (k:Nat),b < i->i<=k->k<=fuel->∀o,La f k b o=Ze f b o:=fun b k hb hk hkf o=>ih k (by omega) b o (by omega) (by omega)
   unfold Ze;simp only [La,Hs hn];have e1:∀o:List Nd,(if Qi n.op=true then La f fuel n.x.toNat o else(o,0))=(if Qi n.op=true then La f i n.x.toNat o else(o,0)):=by
    intro o
    split
    ·rename_i h1;have:=hx h1;rw [e n.x.toNat fuel (by omega) (by omega) (by omega),e n.x.toNat i (by omega) (by omega) (by omega)]
    rfl
   have e2:∀o:List Nd,(if Qe n.op=true then La f fuel n.y.toNat o else(o,0))=(if Qe n.op=true then La f i n.y.toNat o else(o,0)):=by
    intro o
    split
    ·rename_i h1;have:=hy h1;rw [e n.y.toNat fuel (by omega) (by omega) (by omega),e n.y.toNat i (by omega) (by omega) (by omega)]
    rfl
   simp only [e1,e2]
def Yv(f:List Nd)(n:Nd)(o:List Nd):List Nd×Nat:=if Qi n.op then Ze f n.x.toNat o else(o,0)
def Vt(f:List Nd)(n:Nd)(o:List Nd):List Nd×Nat:=if Qe n.op then Ze f n.y.toNat o else(o,0)
theorem Fs {f:List Nd}(hf:Wf f) {i:Nat} {n:Nd}(hn:f[i]?=some n)(o:List Nd):
 Ze f i o=(Zi (Vt f n (Yv f n o).1).1 (n.with_ (Yv f n o).2 (Vt f n (Yv f n o).1).2),(Vt f n (Yv f n o).1).1.idxOf (n.with_ (Yv f n o).2 (Vt f n (Yv f n o).1).2)):=by
 have hi:i < f.length:=(List.getElem?_eq_some_iff.1 hn).1;obtain⟨hx,hy⟩:=hf i n hn;have e1:∀o:List Nd,(if Qi n.op=true then La f i n.x.toNat o else(o,0))=Yv f n o:=by
  intro o;unfold Yv
  split
  ·rename_i h1;have:=hx h1;exact Qdb hf _ _ _ (by omega) (by omega)
  rfl
 have e2:∀o:List Nd,(if Qe n.op=true then La f i n.y.toNat o else(o,0))=Vt f n o:=by
  intro o;unfold Vt
  split
  ·rename_i h1;have:=hy h1;exact Qdb hf _ _ _ (by omega) (by omega)
  rfl
 conv=>lhs;unfold Ze La
 simp only [Hs hn,e1,e2]
theorem Xt(o:List Nd)(m:Nd):o <+: Zi o m:=by
 unfold Zi
 split
 ·exact List.prefix_refl _
 exact List.prefix_append _ _
theorem Qv5(o:List Nd)(m:Nd):m∈Zi o m:=by
 unfold Zi
 split
 ·assumption
 simp
theorem Qdh {o o':List Nd} {m:Nd}(h:o <+: o')(hm:m∈o):o'.idxOf m=o.idxOf m:=by
 obtain⟨t,rfl⟩:=h;rw [List.idxOf_append,if_pos hm]
theorem Qqd(o:List Nd)(m:Nd):(Zi o m).idxOf m=o.idxOf m:=by
 unfold Zi
 split
 ·rfl
 rename_i h;rw [List.idxOf_append,if_neg h,List.idxOf_eq_length h];simp
theorem Nj(o:List Nd)(m:Nd):o.idxOf m < (Zi o m).length:=by
 rw [<-Qqd];exact List.idxOf_lt_length_of_mem (Qv5 o m)
section
variable {f:List Nd} (hf:Wf f)
include hf
theorem Qy2:∀(i:Nat) (o:List Nd),i < f.length->o <+:(Ze f i o).1:=by
 intro i
 induction i using Nat.strongRecOn with
 |_ i ih =>
  intro o hi;obtain⟨n,hn⟩:∃n,f[i]?=some n:=⟨_,Qv hi⟩;obtain⟨hx,hy⟩:=hf i n hn;have p1:o <+:(Yv f n o).1:=by
   unfold Yv
   split
   ·rename_i h1;have:=hx h1;exact ih _ (by omega) _ (by omega)
   exact List.prefix_refl _
  have p2:∀o,o <+:(Vt f n o).1:=by
   intro o;unfold Vt
   split
   ·rename_i h1;have:=hy h1;exact ih _ (by omega) _ (by omega)
   exact List.prefix_refl _
  rw [Fs hf hn];exact(p1.trans (p2 _)).trans (Xt _ _)
theorem Qqc {i:Nat} {n:Nd}(hn:f[i]?=some n)(o:List Nd):o <+:(Vt f n o).1:=by
 have hi:i < f.length:=(List.getElem?_eq_some_iff.1 hn).1;unfold Vt
 split
 ·rename_i h1;have:=(hf i n hn).2 h1;exact Qy2 hf _ _ (by omega)
 exact List.prefix_refl _
theorem Fc:∀(i:Nat) (o o':List Nd),i < f.length->(Ze f i o).1 <+: o'->Ze f i o'=(o',(Ze f i o).2):=by
 intro i
 induction i using Nat.strongRecOn with
 |_ i ih =>
  intro o o' hi hp;obtain⟨n,hn⟩:∃n,f[i]?=some n:=⟨_,Qv hi⟩;obtain⟨hx,hy⟩:=hf i n hn;have hm:=Qv5 (Vt f n (Yv f n o).1).1 (n.with_ (Yv f n o).2 (Vt f n (Yv f n o).1).2);have mO:=Qqd (Vt f n (Yv f n o).1).1 (n.with_ (Yv f n o).2 (Vt f n (Yv f n o).1).2);have KH:=Xt (Vt f n (Yv f n o).1).1 (n.with_ (Yv f n o).2 (Vt f n (Yv f n o).1).2);have pY:(Vt f n (Yv f n o).1).1 <+: o':=by
   rw [Fs hf hn]at hp;exact KH.trans hp
  have pX:(Yv f n o).1 <+: o':=(Qqc hf hn _).trans pY;have eX:Yv f n o'=(o',(Yv f n o).2):=by
   unfold Yv at pX⊢
   split
   ·rename_i h1;rw [if_pos h1]at pX;have:=hx h1;exact ih _ (by omega) _ _ (by omega) pX
   rfl
  have eY:Vt f n o'=(o',(Vt f n (Yv f n o).1).2):=by
   unfold Vt at pY⊢
   split
   ·rename_i h1;rw [if_pos h1]at pY;have:=hy h1;exact ih _ (by omega) _ _ (by omega) pY
   rfl
  rw [Fs hf hn]at hp;rw [Fs hf hn o',Fs hf hn o,eX];simp only [eY];have oS:n.with_ (Yv f n o).2 (Vt f n (Yv f n o).1).2∈o':=hp.subset hm;rw [show Zi o' (n.with_ (Yv f n o).2 (Vt f n (Yv f n o).1).2)=o' from by unfold Zi;rw [if_pos oS]];rw [Qdh hp hm,mO]
theorem Hr(i:Nat)(o:List Nd)(hi:i < f.length):(Ze f i o).2 < (Ze f i o).1.length:=by
 obtain⟨n,hn⟩:∃n,f[i]?=some n:=⟨_,Qv hi⟩;rw [Fs hf hn];exact Nj _ _
end
def Bi(f o:List Nd):Nat:=o.length+(List.range f.length).countP fun j=>(Ze f j o).1.length !=o.length
theorem Qza {α:Type} {p q:α->Bool} :∀{l:List α},(∀x∈l,p x=true->q x=true)->(∃x∈l,p x=false/\q x=true)->l.countP p < l.countP q
 |[],_,h=>by obtain⟨x,hx,_⟩:=h;cases hx
 |a :: l,RR,h=>by
  have ih:(∃x∈l,p x=false/\q x=true)->l.countP p < l.countP q:=fun h=>Qza (fun x hx=>RR x (by simp [hx])) h
  have gK:l.countP p<=l.countP q:=List.countP_mono_left fun x hx=>RR x (by simp [hx])
  rw [List.countP_cons,List.countP_cons];obtain⟨x,hx,h1,h2⟩:=h;rcases List.mem_cons.1 hx with rfl|hx
  ·simp only [h1,h2];simp;omega
  have h3:=ih ⟨x,hx,h1,h2⟩;have h4:=RR a (by simp);cases hp:p a
  ·cases hq:q a <;> simp <;> omega
  rw [h4 hp];simp;omega
section
variable {f:List Nd} (hf:Wf f)
include hf
theorem Qpk {j:Nat} {o o':List Nd}(hj:j < f.length)(hp:o <+: o')(h:(Ze f j o).1.length=o.length):(Ze f j o').1.length=o'.length:=by
 have rB:=Qy2 hf j o hj;have e:(Ze f j o).1=o:=(rB.eq_of_length h.symm).symm;rw [Fc hf j o o' hj (by rw [e];exact hp)]
theorem Qjd:∀(i:Nat) (o:List Nd),i < f.length->Bi f (Ze f i o).1<=Bi f o:=by
 intro i
 induction i using Nat.strongRecOn with
 |_ i ih =>
  intro o hi;obtain⟨n,hn⟩:∃n,f[i]?=some n:=⟨_,Qv hi⟩;obtain⟨hx,hy⟩:=hf i n hn;have p1:Bi f (Yv f n o).1<=Bi f o:=by
   unfold Yv
   split
   ·rename_i h1;have:=hx h1;exact ih _ (by omega) _ (by omega)
   exact Nat.le_refl _
  have p2:∀o,Bi f (Vt f n o).1<=Bi f o:=by
   intro o;unfold Vt
   split
   ·rename_i h1;have:=hy h1;exact ih _ (by omega) _ (by omega)
   exact Nat.le_refl _
  refine Qx ?_ (Qx (p2 _) p1);have oL:=Fc hf i o (Ze f i o).1 hi (List.prefix_refl _);rw [Fs hf hn o]at oL⊢;have eX:Yv f n (Vt f n (Yv f n o).1).1=((Vt f n (Yv f n o).1).1,(Yv f n o).2):=by
   have hp:=Qqc hf hn (Yv f n o).1;unfold Yv at hp⊢
   split
   ·rename_i h1;rw [if_pos h1]at hp;have:=hx h1;exact Fc hf _ _ _ (by omega) hp
   rfl
  have eY:Vt f n (Vt f n (Yv f n o).1).1=((Vt f n (Yv f n o).1).1,(Vt f n (Yv f n o).1).2):=by
   unfold Vt
   split
   ·rename_i h1;have:=hy h1;exact Fc hf _ _ _ (by omega) (List.prefix_refl _)
   rfl
  have xB:=Fs hf hn (Vt f n (Yv f n o).1).1;rw [eX]at xB;simp only [eY]at xB;generalize (Vt f n (Yv f n o).1).1=o2 at xB oL⊢;generalize n.with_ (Yv f n o).2 (Vt f n (Yv f n o).1).2=m at xB oL⊢;by_cases hm:m∈o2
  ·have:Zi o2 m=o2:=by unfold Zi;rw [if_pos hm]
   rw [this];exact Nat.le_refl _
  have ha:Zi o2 m=o2++ [m]:=by unfold Zi;rw [if_neg hm]
  have hc:=Qza (l:=List.range f.length) (p:=fun j=>(Ze f j (Zi o2 m)).1.length !=(Zi o2 m).length) (q:=fun j=>(Ze f j o2).1.length !=o2.length)
   (fun j hj zQ=>by
    have hj':=List.mem_range.1 hj;simp only [bne_iff_ne,ne_eq]at zQ⊢;exact fun h=>zQ (Qpk hf hj' (Xt _ _) h))
   ⟨i,List.mem_range.2 hi,by simp only [bne_eq_false_iff_eq];rw [oL],by simp only [bne_iff_ne,ne_eq];rw [xB,ha];simp⟩
  have hl:(Zi o2 m).length=o2.length+1:=by rw [ha];simp
  show Bi f (Zi o2 m)<=Bi f o2;unfold Bi;omega
end
theorem Iz(f:List Nd):Bi f []<=f.length:=by
 unfold Bi;have:=List.countP_le_length (p:=fun j=>(Ze f j []).1.length !=([]:List Nd).length) (l:=List.range f.length);simp only [List.length_range,List.length_nil]at this⊢;omega
theorem Gr(f o:List Nd):o.length<=Bi f o:=Nat.le_add_right _ _
open Go.Maps (Keyed IsMap Tidy has has_put_same has_put_other atKey_put_same atKey_put_other)
def Vm(a:Int):Prop:= -9223372036854775808<=a/\a<=9223372036854775807
def Nd.ok(n:Nd):Prop:=Vm n.op/\Vm n.i/\Vm n.e/\Vm n.g/\Vm n.x/\Vm n.y
theorem We {a:Int}(h:Vm a):(Lit.int .i64 a).wf=true:=by
 unfold Vm at h;have h1:IntKind.i64.min= -9223372036854775808:=by decide
 have h2:IntKind.i64.max=9223372036854775807:=by decide
 simp only [Lit.wf,h1,h2,Bool.and_eq_true,decide_eq_true_eq];exact h
theorem Qwe:laidOutB Tryz.prog=true:=by kernel_rfl
theorem Zv4:(71:TypeId) < Tryz.prog.types.size:=of_decide_eq_true (by kernel_rfl)
theorem Zvl:(match Tryz.prog.underlying 71 with|some (.array _ _)|some (.struct _)=>true|_=>false)=true:=by kernel_rfl
theorem Zj6:Tryz.prog.keyTypeAt 2 71=true:=by kernel_rfl
theorem Qwa:Tryz.prog.keyType 71=true:=by kernel_rfl
theorem Qjv:Keyed Tryz.prog 71:=Keyed.of_law (deep_law_laid Qwe (m:=2) (by omega) Zv4 Zj6 Zvl)
theorem Qh1:Tryz.prog.cellsOf 71=6:=by kernel_rfl
theorem Zq1:Tryz.prog.cellsOf 3=1:=by kernel_rfl
theorem Zvs:∃m,Tryz.prog.types.size=m+1:=by
 have h:0 < Tryz.prog.types.size:=of_decide_eq_true (by kernel_rfl);exact⟨Tryz.prog.types.size - 1,by omega⟩
def Nw(n:Nd):Lit:=.string (keyBytes [.int .i64 n.op,.int .i64 n.i,.int .i64 n.e,.int .i64 n.g,.int .i64 n.x,.int .i64 n.y])
theorem Qqn {n:Nd}(h:n.ok):keyOf Tryz.prog 71 n.val=some (Nw n):=by
 obtain⟨h0,h1,h2,h3,h4,h5⟩:=h;obtain⟨m,hm⟩:=Zvs;have hf:n.val.formed Tryz.prog 71=true:=by simp [Nd.val,Value.formed,Tryz.underlying71,Qh1]
 unfold keyOf;rw [Tryz.underlying71];simp only [Qwa,hf,Bool.and_true,if_true];rw [hm];simp [Program.keyLits,Tryz.underlying71,Tryz.underlying3,Qh1,Zq1,Nd.val,Value.cells,We h0,We h1,We h2,We h3,We h4,We h5,Nw]
theorem Ro {a:Int}(h:Vm a):keyOf Tryz.prog 3 (.int .i64 a)=some (.int .i64 a):=Go.Maps.keyOf_int_mk Tryz.underlying3 (We h)
theorem Ud:Keyed Tryz.prog 3:=Go.Maps.int_keyed Tryz.underlying3
theorem Qd4 {n:Nd} :WideAt.IsKeyLit (Nw n):=trivial
theorem Qee {n m:Nd}(hn:n.ok)(hm:m.ok)(h:Nw n=Nw m):n=m:=by
 have e:n.val=m.val:=Qjv.inj (Qqn hn) (by rw [h];exact Qqn hm);cases n;cases m
 simpa [Nd.val]using e
abbrev D0:=DataW Unit
theorem Qvl {a:Int}(h:Vm a):(plainElem Tryz.prog 3 (.int .i64 a):Option (D0×List MemPlace))=some (.lit (.int .i64 a),[]):=plainElem_int Tryz.underlying3 (We h)
theorem Ln(w:World):(zeroValue 3).run Tryz.prog w=.ok (.int .i64 0) w:=by kernel_rfl
def Rx(w:World)(b:Nat)(o:List Nd):Prop :=
 ∃(D:D0) (m:Nat),w.ownsMap Tryz.prog 71 (plainElem Tryz.prog 3) b m D/\m<=o.length/\∀n:Nd,n.ok->has D (Nw n)=decide (n∈o)/\(n∈o->∀z,D.atKey (Nw n) z=.lit (.int .i64 (o.idxOf n)))
def Pn(D:D0)(f o:List Nd):Prop :=
 ∀i:Nat,has D (.int .i64 i)=true->i < f.length/\Ze f i o=(o,(Ze f i o).2)/\∀z,D.atKey (.int .i64 i) z=.lit (.int .i64 (Ze f i o).2)
def Pp(D:D0)(f:List Nd):Nat:=(List.range f.length).countP fun i:Nat=>has D (.int .i64 i)
def Gb(w:World)(b:Nat)(f o:List Nd):Prop :=
 ∃(D:D0) (m:Nat),w.ownsMap Tryz.prog 3 (plainElem Tryz.prog 3) b m D/\m<=Pp D f/\Pn D f o
theorem Rx.made(w:World):Rx (w.alloc (.map #[] 0)) w.heap.size []:=
 ⟨.map [],0,World.ownsMap_made w _ _ _,Nat.le_refl _,fun n _=>⟨by simp [has],fun h=>by cases h⟩⟩
theorem Gb.made(w:World)(f:List Nd):Gb (w.alloc (.map #[] 0)) w.heap.size f []:=
 ⟨.map [],0,World.ownsMap_made w _ _ _,Nat.zero_le _,fun i h=>by simp [has]at h⟩
theorem Rx.kept {w w':World} {b:Nat} {o:List Nd}(h:Rx w b o)(hb:w'.heap[b]?=w.heap[b]?):Rx w' b o:=by
 obtain⟨D,m,⟨es,clock,h1,h2⟩,h3,h4⟩:=h;exact⟨D,m,⟨es,clock,hb.trans h1,h2⟩,h3,h4⟩
theorem Gb.kept {w w':World} {b:Nat} {f o:List Nd}(h:Gb w b f o)(hb:w'.heap[b]?=w.heap[b]?):Gb w' b f o:=by
 obtain⟨D,m,⟨es,clock,h1,h2⟩,h4⟩:=h;exact⟨D,m,⟨es,clock,hb.trans h1,h2⟩,h4⟩
theorem Rx.lt {w:World} {b:Nat} {o:List Nd}(h:Rx w b o):b < w.heap.size:=by
 obtain⟨D,m,h1,_⟩:=h;exact h1.lt
theorem Gb.lt {w:World} {b:Nat} {f o:List Nd}(h:Gb w b f o):b < w.heap.size:=by
 obtain⟨D,m,h1,_⟩:=h;exact h1.lt
theorem Pn.grow {D:D0} {f o o':List Nd}(hf:Wf f)(h:Pn D f o)(hp:o <+: o'):Pn D f o':=by
 intro i hi;obtain⟨a,e,c⟩:=h i hi;have hg:=Fc hf i o o' a (by rw [e];exact hp);exact⟨a,by rw [hg],by rw [hg];exact c⟩
theorem Gb.grow {w:World} {b:Nat} {f o o':List Nd}(hf:Wf f)(h:Gb w b f o)(hp:o <+: o'):Gb w b f o':=by
 obtain⟨D,m,h1,h2,h3⟩:=h;exact⟨D,m,h1,h2,h3.grow hf hp⟩
theorem Qdv(D:D0)(f:List Nd):Pp D f<=f.length:=by
 have:=List.countP_le_length (p:=fun i:Nat=>has D (.int .i64 i)) (l:=List.range f.length)
 simpa [Pp]using this
theorem Rx.put {w w':World} {b:Nat} {o:List Nd} {n:Nd} {D:D0} {m:Nat}(hk:n.ok)(hn:n∉o)(h:w.ownsMap Tryz.prog 71 (plainElem Tryz.prog 3) b m D)(hm:m<=o.length)
 (hD:∀n:Nd,n.ok->has D (Nw n)=decide (n∈o)/\(n∈o->∀z,D.atKey (Nw n) z=.lit (.int .i64 (o.idxOf n))))
 (h':w'.ownsMap Tryz.prog 71 (plainElem Tryz.prog 3) b (m+1) (D.put (Nw n) (.lit (.int .i64 o.length)))):Rx w' b (o++ [n]):=by
 refine⟨_,_,h',by simp;omega,fun n' rH=> ?_⟩;by_cases e:n'=n
 ·subst e;refine⟨by rw [has_put_same h.isMap Qd4];simp,fun _ z=> ?_⟩;rw [atKey_put_same h.isMap Qd4,List.idxOf_append,if_neg hn];simp
 have zQ:Nw n'≠Nw n:=fun e'=>e (Qee rH hk e')
 refine⟨?_,fun sB z=> ?_⟩
 ·rw [has_put_other zQ,(hD n' rH).1];simp [e]
 have NC:n'∈o:=by simpa [e]using sB
 rw [atKey_put_other zQ,(hD n' rH).2 NC,List.idxOf_append,if_pos NC]
theorem Qbx {w:World} {k:TypeId} {R:Value->Option (D0×List MemPlace)} {b n:Nat} {D:D0}(h:w.ownsMap Tryz.prog k R b n D):w.ownsMap Tryz.prog k R b (Go.Maps.size D) D:=by
 obtain⟨es,clock,hb,F,hs,rfl⟩:=h;exact⟨es,clock,hb,F,by simp [Go.Maps.size,length_sorted],rfl⟩
theorem Gb.put {w w':World} {b:Nat} {f o:List Nd} {i m:Nat} {D:D0}(h:w.ownsMap Tryz.prog 3 (plainElem Tryz.prog 3) b m D)(hm:m<=Pp D f)(hD:Pn D f o)
 (hi:i < f.length)(xB:Ze f i o=(o,(Ze f i o).2))
 (h':w'.ownsMap Tryz.prog 3 (plainElem Tryz.prog 3) b (m+1) (D.put (.int .i64 i) (.lit (.int .i64 (Ze f i o).2)))):Gb w' b f o:=by
 have wJ:WideAt.IsKeyLit (.int .i64 (i:Int)):=trivial;have other:∀j:Nat,j≠i->(Lit.int .i64 (j:Int))≠.int .i64 (i:Int):=fun j e e'=>e (by injection e' with _ e';omega)
 have LN:=h.tidy Ud;have lX:=h.size_le;have mono:∀j:Nat,has D (.int .i64 j)=true->has (D.put (.int .i64 i) (.lit (.int .i64 (Ze f i o).2))) (.int .i64 j)=true:=by
  intro j hj;by_cases e:j=i
  ·subst e;exact has_put_same h.isMap wJ _
  rw [has_put_other (other j e)];exact hj
 refine⟨_,_,Qbx h',?_,fun j hj=> ?_⟩
 ·rw [Go.Maps.size_put LN]
  split
  ·exact Qx (Qx lX hm) (List.countP_mono_left fun j _=>mono j)
  rename_i nH;refine Nat.succ_le_of_lt (Nat.lt_of_le_of_lt (Qx lX hm) ?_);exact Qza (fun j _=>mono j) ⟨i,List.mem_range.2 hi,by simpa using nH,has_put_same h.isMap wJ _⟩
 by_cases e:j=i
 ·subst e;exact⟨hi,xB,fun z=>atKey_put_same h.isMap wJ _ z⟩
 rw [has_put_other (other j e)]at hj;obtain⟨a,c,d⟩:=hD j hj;exact⟨a,c,fun z=>by rw [atKey_put_other (other j e)];exact d z⟩
open Go.Maps (has)
structure Kh where
 f:Nat
 out:Nat
 done:Nat
 num:Nat
 fin_:Nat
 mn:Nat
 md:Nat
def Kh.caps(K:Kh):Array Value:=#[.pointer (some ⟨K.done,0,none⟩),.pointer (some ⟨K.f,0,none⟩),.pointer (some ⟨K.fin_,0,none⟩),.pointer (some ⟨K.num,0,none⟩),.pointer (some ⟨K.out,0,none⟩)]
structure Fy (K:Kh) (W0 w:World) (A:Option Addr) (c:Nat) (f o:List Nd) (vo:Value):Prop where
 below:Below W0.heap.size W0 w
 nds:Mi W0 A c f
 blk_f:w.heap[K.f]?=some (.cells #[.slice A f.length c] 22 (0,0))
 blk_out:w.heap[K.out]?=some (.cells #[vo] 22 (0,0))
 blk_done:w.heap[K.done]?=some (.cells #[.map (some K.md)] 178 (0,0))
 blk_num:w.heap[K.num]?=some (.cells #[.map (some K.mn)] 184 (0,0))
 blk_fin:w.heap[K.fin_]?=some (.cells #[.func (Fn.func 197) #[] K.caps] 109 (0,0))
 row:w.ownsRow W0.heap.size 71 6 vo o.length (o.flatMap Nd.cells)
 nums:Rx w K.mn o
 dones:Gb w K.md f o
 low:W0.heap.size<=K.out/\W0.heap.size<=K.mn/\W0.heap.size<=K.md
 apart:K.f≠K.out
 oks:∀n∈o,n.ok
structure Dg (K:Kh) (w w':World) (vo vo':Value):Prop where
 os:w'.os=w.os
 tape:w'.tape=w.tape
 output:w'.output=w.output
 size:w.heap.size<=w'.heap.size
 block:∀k,k < w.heap.size->k≠K.out->k≠K.mn->k≠K.md->vo.ownBlock≠some k->w'.heap[k]?=w.heap[k]?
 row:∀g,vo'.ownBlock=some g->vo.ownBlock=some g\/w.heap.size<=g
theorem Dg.refl(K:Kh)(w:World)(vo:Value):Dg K w w vo vo:=⟨rfl,rfl,rfl,Nat.le_refl _,fun _ _ _ _ _ _=>rfl,fun _ h=> .inl h⟩
theorem Dg.trans {K:Kh} {a b c:World} {va vb vc:Value}(h:Dg K a b va vb)(k:Dg K b c vb vc):Dg K a c va vc :=
 ⟨k.os.trans h.os,k.tape.trans h.tape,k.output.trans h.output,Qx h.size k.size,
  fun i hi h1 h2 h3 h4=>(k.block i (Qy hi h.size) h1 h2 h3 (fun e=>by
   rcases h.row i e with e'|e'
   ·exact h4 e'
   omega)).trans (h.block i hi h1 h2 h3 h4),
  fun g hg=>by
   rcases k.row g hg with e|e
   ·exact h.row g e
   exact .inr (Qx h.size e)⟩
theorem Dg.of_ext {K:Kh} {a b:World} {vo:Value}(h:Qg a b):Dg K a b vo vo:=⟨h.os,h.tape,h.output,h.size,fun _ hk _ _ _ _=>h.block hk,fun _ h=> .inl h⟩
theorem Qrk {K:Kh} {W0 w:World} {A:Option Addr} {c:Nat} {f o:List Nd} {vo:Value}(h:Fy K W0 w A c f o vo)(zG:f.length<=1000)(i:Nat)(hi:i < f.length)(D:D0)(m:Nat)
 (xN:w.ownsMap Tryz.prog 3 (plainElem Tryz.prog 3) K.md m D)(hD:Pn D f o)(hh:has D (.int .i64 i)=true):
 Calls Tryz.prog 197 (#[.int .i64 i]++K.caps) w fun e w'=>e=.returned (.int .i64 (Ze f i o).2)/\w=w':=by
 have cd:=cell_of_one h.blk_done;have wJ:=Ro (a:=(i:Int)) ⟨by omega,by omega⟩;have sM:=Qq (hD i hh).2.2;clear hD h;unfold Kh.caps;go_enter Tryz.func197,Tryz.ntmps197;go_wp2_with(at_lookup;refine wpList_lookup_own_ok_int _ rfl _ _ 178 rfl 3 3 .i64 Ud Tryz.underlying178 Tryz.underlying3 (Ln _) K.md m D rfl xN _ _ rfl wJ ?_;intro cc yL sL);go_ret;have e1:=(sM.out (.lit (.int .i64 0))).symm.trans yL;injection e1 with e2;injection e2 with _ e3;exact⟨Ke e3.symm,rfl⟩
section
variable {K:Kh} {W0 w w':World} {A:Option Addr} {c:Nat} {f o:List Nd} {vo:Value}
theorem Qn {w:World} {b:Nat} {x:Obj}(h:w.heap[b]?=some x):b < w.heap.size:=(Array.getElem?_eq_some_iff.1 h).1
theorem Fy.lts(h:Fy K W0 w A c f o vo):K.f < w.heap.size/\K.out < w.heap.size/\K.done < w.heap.size/\K.num < w.heap.size/\K.fin_ < w.heap.size/\K.mn < w.heap.size/\K.md < w.heap.size :=
 ⟨Qn h.blk_f,Qn h.blk_out,Qn h.blk_done,Qn h.blk_num,Qn h.blk_fin,h.nums.lt,h.dones.lt⟩
theorem Zm {base:Nat} {e:TypeId} {size n:Nat} {xs:List Value}(h:w.ownsRow base e size vo n xs)(hk:∀g,vo.ownBlock=some g->w'.heap[g]?=w.heap[g]?):w'.ownsRow base e size vo n xs:=by
 obtain⟨h1,h2⟩:=h;refine⟨h1,?_⟩;rcases h2 with h2|⟨g,cap,cur,rfl,hb,hc,hr⟩
 ·exact .inl h2
 exact .inr ⟨g,cap,cur,rfl,hb,(hk g rfl).trans hc,hr⟩
theorem Fy.keep(h:Fy K W0 w A c f o vo)(hb:Below W0.heap.size W0 w')(hk:∀k,k < w.heap.size->(k=K.f\/k=K.out\/k=K.done\/k=K.num\/k=K.fin_\/k=K.mn\/k=K.md\/vo.ownBlock=some k)->w'.heap[k]?=w.heap[k]?):
 Fy K W0 w' A c f o vo:=by
 obtain⟨l1,l2,l3,l4,l5,l6,l7⟩:=h.lts
 exact⟨hb,h.nds,(hk _ l1 (by simp)).trans h.blk_f,(hk _ l2 (by simp)).trans h.blk_out,(hk _ l3 (by simp)).trans h.blk_done,(hk _ l4 (by simp)).trans h.blk_num,(hk _ l5 (by simp)).trans h.blk_fin,
  Zm h.row fun g hg=>hk g (h.row.lt g hg).2 (by simp [hg]),h.nums.kept (hk _ l6 (by simp)),h.dones.kept (hk _ l7 (by simp)),h.low,h.apart,h.oks⟩
theorem Fy.ext(h:Fy K W0 w A c f o vo)(he:Qg w w'):Fy K W0 w' A c f o vo :=
 h.keep (h.below.trans (Below.mono he h.below.size)) fun _ hk _=>he.block hk
end
structure Bh (K:Kh) (W0 we w:World) (A:Option Addr) (c:Nat) (f o:List Nd) (voe vo:Value) (bx bu:Nat) (m:Nd) (ux uy:Bool):Prop where
 env:Fy K W0 w A c f o vo
 step:Dg K we w voe vo
 envlt:K.f < we.heap.size/\K.out < we.heap.size/\K.done < we.heap.size/\K.num < we.heap.size/\K.fin_ < we.heap.size/\K.mn < we.heap.size/\K.md < we.heap.size
 box:w.heap[bx]?=some (.cells #[.int .i64 m.op,.int .i64 m.i,.int .i64 m.e,.int .i64 m.g,.int .i64 m.x,.int .i64 m.y] 71 (0,0))
 use:∃u2 u3 u4 u5 u6,w.heap[bu]?=some (.cells #[.bool ux,.bool uy,u2,u3,u4,u5,u6] 129 (0,0))
 fresh:we.heap.size<=bx/\we.heap.size<=bu/\bx≠bu/\vo.ownBlock≠some bx/\vo.ownBlock≠some bu
section
variable {K:Kh} {W0 we w w':World} {A:Option Addr} {c:Nat} {f o:List Nd} {voe vo:Value} {bx bu:Nat} {m:Nd} {ux uy:Bool}
theorem Vs {b:Nat} {a0 a1 a2 a3 a4 a5:Value} {t:TypeId}(h:w.heap[b]?=some (.cells #[a0,a1,a2,a3,a4,a5] t (0,0))):
 (w.cell? ⟨b,0,none⟩=some a0/\w.cell? ⟨b,1,none⟩=some a1/\w.cell? ⟨b,2,none⟩=some a2/\w.cell? ⟨b,3,none⟩=some a3/\w.cell? ⟨b,4,none⟩=some a4/\w.cell? ⟨b,5,none⟩=some a5)/\(∀j,w.frozen? ⟨b,j,none⟩=false)/\b < w.heap.size :=
 ⟨⟨by simp [World.cell?,h],by simp [World.cell?,h],by simp [World.cell?,h],by simp [World.cell?,h],by simp [World.cell?,h],by simp [World.cell?,h]⟩,fun j=>by simp [World.frozen?,h],Qn h⟩
theorem Zyq {b:Nat} {a0 a1 a2 a3 a4 a5 a6:Value} {t:TypeId}(h:w.heap[b]?=some (.cells #[a0,a1,a2,a3,a4,a5,a6] t (0,0))):w.cell? ⟨b,0,none⟩=some a0/\w.cell? ⟨b,1,none⟩=some a1/\b < w.heap.size :=
 ⟨by simp [World.cell?,h],by simp [World.cell?,h],Qn h⟩
theorem Bh.start(h:Fy K W0 we A c f o vo) {w1:World}(n:Nd)(u2 u3 u4 u5 u6:Value)
 (he:Qg (we.alloc (.cells #[.int .i64 n.op,.int .i64 n.i,.int .i64 n.e,.int .i64 n.g,.int .i64 n.x,.int .i64 n.y] 71)) w1):
 Bh K W0 we (w1.alloc (.cells #[.bool ux,.bool uy,u2,u3,u4,u5,u6] 129)) A c f o vo vo we.heap.size w1.heap.size n ux uy:=by
 have e0:Qg we w1:=(Qz.alloc _).trans he;have zI:we.heap.size < w1.heap.size:=Qy (by simp) he.size;refine⟨h.ext (e0.alloc _),Dg.of_ext (e0.alloc _),h.lts,?_,⟨u2,u3,u4,u5,u6,heap_alloc_new _ _⟩,Nat.le_refl _,e0.size,Nat.ne_of_lt zI,?_,?_⟩
 ·rw [((Qg.refl w1).alloc _).block zI,he.block (by simp)];exact heap_alloc_new _ _
 ·intro e;exact absurd (h.row.lt _ e).2 (by omega)
 intro e;exact absurd (h.row.lt _ e).2 (by omega)
theorem Bh.call {o':List Nd} {vo':Value}(h:Bh K W0 we w A c f o voe vo bx bu m ux uy)(he:Fy K W0 w' A c f o' vo')(hs:Dg K w w' vo vo'):Bh K W0 we w' A c f o' voe vo' bx bu m ux uy:=by
 obtain⟨l1,l2,l3,l4,l5,l6,l7⟩:=h.envlt;obtain⟨f1,f2,f3,f4,f5⟩:=h.fresh;obtain⟨u2,u3,u4,u5,u6,hu⟩:=h.use;have vL:=Qn h.box;have EF:=Qn hu;refine⟨he,h.step.trans hs,h.envlt,(hs.block _ vL (by omega) (by omega) (by omega) f4).trans h.box,⟨u2,u3,u4,u5,u6,(hs.block _ EF (by omega) (by omega) (by omega) f5).trans hu⟩,f1,f2,f3,?_,?_⟩
 ·intro e;rcases hs.row _ e with e|e
  ·exact f4 e
  omega
 intro e;rcases hs.row _ e with e|e
 ·exact f5 e
 omega
theorem Bh.store(h:Bh K W0 we w A c f o voe vo bx bu m ux uy)(j:Nat)(u:Value)(m':Nd)
 (hm:(#[.int .i64 m.op,.int .i64 m.i,.int .i64 m.e,.int .i64 m.g,.int .i64 m.x,.int .i64 m.y]:Array Value).setIfInBounds j u=#[.int .i64 m'.op,.int .i64 m'.i,.int .i64 m'.e,.int .i64 m'.g,.int .i64 m'.x,.int .i64 m'.y]):
 Bh K W0 we (w.setCell ⟨bx,j,none⟩ u) A c f o voe vo bx bu m' ux uy:=by
 obtain⟨l1,l2,l3,l4,l5,l6,l7⟩:=h.envlt;obtain⟨f1,f2,f3,f4,f5⟩:=h.fresh;obtain⟨u2,u3,u4,u5,u6,hu⟩:=h.use;have vL:=Qn h.box;have zB:W0.heap.size<=we.heap.size:=Qx h.env.low.1 (Nat.le_of_lt l2);have hZ:∀k,k≠bx->(w.setCell ⟨bx,j,none⟩ u).heap[k]?=w.heap[k]?:=fun k hk=>Below.heap_setCell _ _ _ _ hk
 have lX:(w.setCell ⟨bx,j,none⟩ u).heap.size=w.heap.size:=by simp [World.setCell]
 refine⟨h.env.keep (h.env.below.setCell (by show W0.heap.size<=bx;omega) _) fun k _ hk=>hZ k ?_,?_,h.envlt,?_,⟨u2,u3,u4,u5,u6,(hZ _ (Ne.symm f3)).trans hu⟩,f1,f2,f3,f4,f5⟩
 ·rcases hk with hk|hk|hk|hk|hk|hk|hk|hk
  ·omega
  ·omega
  ·omega
  ·omega
  ·omega
  ·omega
  ·omega
  exact fun e=>f4 (by rw [hk,e])
 ·exact⟨h.step.os,h.step.tape,h.step.output,by rw [lX];exact h.step.size,fun k hk h1 h2 h3 h4=>(hZ k (by omega)).trans (h.step.block k hk h1 h2 h3 h4),h.step.row⟩
 have hb:=h.box;simp only [World.setCell,Array.getElem?_modify,hb,if_true,Option.map_some];simp [hm]
theorem Fy.row_apart(h:Fy K W0 w A c f o vo):∀g,vo.ownBlock=some g->g≠K.f/\g≠K.out/\g≠K.done/\g≠K.num/\g≠K.fin_/\g≠K.mn/\g≠K.md:=by
 intro g hg;obtain⟨_,h2⟩:=h.row;rcases h2 with⟨rfl,_⟩|⟨g',cap,cur,rfl,_,hb,_⟩
 ·cases hg
 obtain rfl:g'=g:=by simpa [Value.ownBlock]using hg
 have no:∀{k:Nat} {cs:Array Value} {t:TypeId},w.heap[k]?=some (.cells cs t (0,0))->t≠71->g'≠k:=by
  intro k cs t hk ht e;subst e;rw [hb]at hk;injection hk with hk;injection hk with _ hk;exact ht hk.symm
 have nomap:∀{k:Nat} {es:Array MapEntry} {n:Nat},w.heap[k]?=some (.map es n)->g'≠k:=by
  intro k es n hk e;subst e;rw [hb]at hk;cases hk
 obtain⟨_,_,⟨_,_,hn,_⟩,_⟩:=h.nums;obtain⟨_,_,⟨_,_,hd,_⟩,_⟩:=h.dones;exact⟨no h.blk_f (by decide),no h.blk_out (by decide),no h.blk_done (by decide),no h.blk_num (by decide),no h.blk_fin (by decide),nomap hn,nomap hd⟩
theorem Fy.blks_apart(h:Fy K W0 w A c f o vo):K.out≠K.f/\K.out≠K.done/\K.out≠K.num/\K.out≠K.fin_/\K.out≠K.mn/\K.out≠K.md/\K.mn≠K.f/\K.mn≠K.done/\K.mn≠K.num/\K.mn≠K.fin_/\K.md≠K.f/\K.md≠K.done/\K.md≠K.num/\K.md≠K.fin_:=by
 obtain⟨_,_,⟨_,_,hn,_⟩,_⟩:=h.nums;obtain⟨_,_,⟨_,_,hd,_⟩,_⟩:=h.dones;have no:∀{k k':Nat} {cs cs':Array Value} {t t':TypeId},w.heap[k]?=some (.cells cs t (0,0))->w.heap[k']?=some (.cells cs' t' (0,0))->t≠t'->k≠k':=by
  intro k k' cs cs' t t' hk rH ht e;subst e;rw [hk]at rH;injection rH with rH;injection rH with _ rH;exact ht rH
 have nomap:∀{k k':Nat} {es:Array MapEntry} {n:Nat} {cs:Array Value} {t:TypeId},w.heap[k]?=some (.map es n)->w.heap[k']?=some (.cells cs t (0,0))->k≠k':=by
  intro k k' es n cs t hk rH e;subst e;rw [hk]at rH;cases rH
 exact⟨h.apart.symm,no h.blk_out h.blk_done (by decide),no h.blk_out h.blk_num (by decide),no h.blk_out h.blk_fin (by decide),(nomap hn h.blk_out).symm,(nomap hd h.blk_out).symm,
  nomap hn h.blk_f,nomap hn h.blk_done,nomap hn h.blk_num,nomap hn h.blk_fin,nomap hd h.blk_f,nomap hd h.blk_done,nomap hd h.blk_num,nomap hd h.blk_fin⟩
theorem Bh.added(h:Bh K W0 we w A c f o voe vo bx bu m ux uy)(hf:Wf f)(hm:m∉o)(zO:m.ok) {w4 w6:World} {v':Value} {X:Obj}(zQ:K.mn≠K.md)
 (zR:w4.ownsRow W0.heap.size 71 6 v' (o.length+1) (o.flatMap Nd.cells++m.cells))(hg:(w.alloc X).grownBy w4 vo.ownBlock)(yL:v'.ownBlock=vo.ownBlock\/v'.ownBlock=some (w.alloc X).heap.size)
 {D:D0} {k:Nat}(xN:w.ownsMap Tryz.prog 71 (plainElem Tryz.prog 3) K.mn k D)(hk:k<=o.length)
 (hD:∀n:Nd,n.ok->has D (Nw n)=decide (n∈o)/\(n∈o->∀z,D.atKey (Nw n) z=.lit (.int .i64 (o.idxOf n))))
 (dN:w6.ownsMap Tryz.prog 71 (plainElem Tryz.prog 3) K.mn (k+1) (D.put (Nw m) (.lit (.int .i64 o.length))))(uP:(w4.setCell ⟨K.out,0,none⟩ v').grownBy w6 (some K.mn)):
 Bh K W0 we w6 A c f (o++ [m]) voe v' bx bu m ux uy:=by
 obtain⟨l1,l2,l3,l4,l5,l6,l7⟩:=h.env.lts;obtain⟨e1,e2,e3,e4,e5,e6,e7⟩:=h.envlt;obtain⟨f1,f2,f3,f4,f5⟩:=h.fresh;obtain⟨u2,u3,u4,u5,u6,hu⟩:=h.use;have nG:=h.env.row_apart;obtain⟨b1,b2,b3,b4,b5,b6,b7,b8,b9,b10,b11,b12,b13,b14⟩:=h.env.blks_apart;have ea:Qg w (w.alloc X):=Qz.alloc _;have wQ:w.heap.size<=w4.heap.size:=Qx ea.size hg.size;have ZV:(w4.setCell ⟨K.out,0,none⟩ v').heap.size=w4.heap.size:=by simp [World.setCell]
 have k4:∀b,b < w.heap.size->some b≠vo.ownBlock->w4.heap[b]?=w.heap[b]?:=fun b hb zQ=>(hg.block b (Qy hb ea.size) zQ).trans (ea.block hb)
 have k6:∀b,b < w4.heap.size->b≠K.out->b≠K.mn->w6.heap[b]?=w4.heap[b]?:=fun b hb h1 h2 =>
  (uP.block b (by rw [ZV];exact hb) (by simpa using h2)).trans (Below.heap_setCell _ _ _ _ h1)
 have k7:∀b,b < w.heap.size->some b≠vo.ownBlock->b≠K.out->b≠K.mn->w6.heap[b]?=w.heap[b]?:=fun b hb h0 h1 h2=>(k6 b (by omega) h1 h2).trans (k4 b hb h0)
 have ro:∀b,(∀g,vo.ownBlock=some g->g≠b)->some b≠vo.ownBlock:=fun b hb e=>hb b e.symm rfl
 have LW:w4.heap[K.out]?=some (.cells #[vo] 22 (0,0)):=(k4 _ l2 (ro _ fun g hg=>(nG g hg).2.1)).trans h.env.blk_out;have MF:∀g,v'.ownBlock=some g->g≠K.out/\g≠K.mn:=by
  intro g hg;rcases yL with e|e
  ·rw [e]at hg;exact⟨(nG g hg).2.1,(nG g hg).2.2.2.2.2.1⟩
  rw [e]at hg;have:w.heap.size+1=g:=by simpa using hg
  omega
 have vL:=Qn h.box;have EF:=Qn hu;have lH:Below W0.heap.size W0 w6:=by
  refine⟨uP.os.trans (hg.os.trans h.env.below.os),uP.tape.trans (hg.tape.trans h.env.below.tape),uP.output.trans (hg.output.trans h.env.below.output),?_,?_⟩
  ·have:=h.env.below.size;have:=uP.size;rw [ZV]at this;omega
  intro b hb;have vY:=h.env.low;have:=h.env.below.size;refine(k7 b (by omega) (ro _ fun g hg=> ?_) (by omega) (by omega)).trans (h.env.below.block b hb);have:=(h.env.row.lt g hg).1;omega
 have P0:w.heap.size<=w6.heap.size:=by
  have:=uP.size;rw [ZV]at this;omega
 have uE:Fy K W0 w6 A c f (o++ [m]) v':=by
  refine⟨lH,h.env.nds,(k7 _ l1 (ro _ fun g hg=>(nG g hg).1) (Ne.symm b1) (Ne.symm b7)).trans h.env.blk_f,?_,(k7 _ l3 (ro _ fun g hg=>(nG g hg).2.2.1) (Ne.symm b2) (Ne.symm b8)).trans h.env.blk_done,
   (k7 _ l4 (ro _ fun g hg=>(nG g hg).2.2.2.1) (Ne.symm b3) (Ne.symm b9)).trans h.env.blk_num,(k7 _ l5 (ro _ fun g hg=>(nG g hg).2.2.2.2.1) (Ne.symm b4) (Ne.symm b10)).trans h.env.blk_fin,
   ?_,?_,?_,h.env.low,h.env.apart,?_⟩
  ·exact(uP.block _ (by rw [ZV];omega) (by simpa using b5)).trans (one_setCell LW)
  ·have:=Zm (w':=w6) zR fun g hg=>k6 g (zR.lt g hg).2 (MF g hg).1 (MF g hg).2
   simpa using this
  ·exact Rx.put zO hm xN hk hD dN
  ·exact(h.env.dones.grow hf (List.prefix_append _ _)).kept (k7 _ l7 (ro _ fun g hg=>(nG g hg).2.2.2.2.2.2) (Ne.symm b6) (Ne.symm zQ))
  intro n hn;rcases List.mem_append.1 hn with hn|hn
  ·exact h.env.oks n hn
  rw [List.mem_singleton.1 hn];exact zO
 refine⟨uE,h.step.trans ⟨uP.os.trans hg.os,uP.tape.trans hg.tape,uP.output.trans hg.output,P0,fun b hb h1 h2 _ h4=>k7 b hb (Ne.symm h4) h1 h2,fun g hg=> ?_⟩,h.envlt,
  (k7 _ vL (Ne.symm f4) (by omega) (by omega)).trans h.box,⟨u2,u3,u4,u5,u6,(k7 _ EF (Ne.symm f5) (by omega) (by omega)).trans hu⟩,f1,f2,f3,?_,?_⟩
 ·rcases yL with e|e
  ·exact .inl (by rw [<-e];exact hg)
  rw [e]at hg;have:w.heap.size+1=g:=by simpa using hg
  exact .inr (by omega)
 ·intro e;rcases yL with e'|e'
  ·exact f4 (by rw [<-e'];exact e)
  rw [e']at e;have:w.heap.size+1=bx:=by simpa using e
  omega
 intro e;rcases yL with e'|e'
 ·exact f5 (by rw [<-e'];exact e)
 rw [e']at e;have:w.heap.size+1=bu:=by simpa using e
 omega
theorem Bh.finish(h:Bh K W0 we w A c f o voe vo bx bu m ux uy) {w7:World}(hg:w.grownBy w7 (some K.md))(hd:Gb w7 K.md f o)(zQ:K.mn≠K.md):Fy K W0 w7 A c f o vo/\Dg K we w7 voe vo:=by
 obtain⟨l1,l2,l3,l4,l5,l6,l7⟩:=h.env.lts;have nG:=h.env.row_apart;obtain⟨b1,b2,b3,b4,b5,b6,b7,b8,b9,b10,b11,b12,b13,b14⟩:=h.env.blks_apart;have k7:∀b,b < w.heap.size->b≠K.md->w7.heap[b]?=w.heap[b]?:=fun b hb h1=>hg.block b hb (by simpa using h1)
 have vY:=h.env.low
 have lH:Below W0.heap.size W0 w7:=⟨hg.os.trans h.env.below.os,hg.tape.trans h.env.below.tape,hg.output.trans h.env.below.output,Qx h.env.below.size hg.size,
  fun b hb=>(k7 b (Qy hb h.env.below.size) (by omega)).trans (h.env.below.block b hb)⟩
 refine⟨⟨lH,h.env.nds,(k7 _ l1 (Ne.symm b11)).trans h.env.blk_f,(k7 _ l2 b6).trans h.env.blk_out,(k7 _ l3 (Ne.symm b12)).trans h.env.blk_done,(k7 _ l4 (Ne.symm b13)).trans h.env.blk_num,
  (k7 _ l5 (Ne.symm b14)).trans h.env.blk_fin,Zm h.env.row fun g hg=>k7 g (h.env.row.lt g hg).2 (nG g hg).2.2.2.2.2.2,h.env.nums.kept (k7 _ l6 zQ),hd,h.env.low,h.env.apart,h.env.oks⟩,?_⟩
 exact h.step.trans ⟨hg.os,hg.tape,hg.output,hg.size,fun b hb _ _ h3 _=>k7 b hb h3,fun _ h=> .inl h⟩
end
open Go.Maps (has)
def Qks(K:Kh)(W0:World)(A:Option Addr)(c:Nat)(f:List Nd)(z:Int):Prop :=
 ∀(w:World) (o:List Nd) (vo:Value),Fy K W0 w A c f o vo->Bi f o<=f.length->
  Calls Tryz.prog 197 #[.int .i64 z,.pointer (some ⟨K.done,0,none⟩),.pointer (some ⟨K.f,0,none⟩),.pointer (some ⟨K.fin_,0,none⟩),.pointer (some ⟨K.num,0,none⟩),.pointer (some ⟨K.out,0,none⟩)] w
   fun e w'=>∃vo',e=.returned (.int .i64 (Ze f z.toNat o).2)/\Fy K W0 w' A c f (Ze f z.toNat o).1 vo'/\Dg K w w' vo vo'
theorem Qc4 {f:List Nd} {n:Nd} {o:List Nd}(h:Qi n.op=false):Yv f n o=(o,0):=by simp [Yv,h]
theorem Qc5 {f:List Nd} {n:Nd} {o:List Nd}(h:Qe n.op=false):Vt f n o=(o,0):=by simp [Vt,h]
theorem Qse {f:List Nd} {n:Nd} {o:List Nd}(h:Qi n.op=true):Yv f n o=Ze f n.x.toNat o:=by simp [Yv,h]
theorem Qsw {f:List Nd} {n:Nd} {o:List Nd}(h:Qe n.op=true):Vt f n o=Ze f n.y.toNat o:=by simp [Vt,h]
theorem Qh8 {n:Nd} {k:Nat}(h:Qi n.op=false)(hy:Qe n.op=true->0<=n.y):n.with_ k n.y.toNat=n:=by
 unfold Nd.with_;rw [h];cases e:Qe n.op
 ·rfl
 have:=hy e;cases n;simp only [cond_true,cond_false,Nd.mk.injEq,true_and];simp only at this;omega
theorem Zyd(n:Nd)(h:Qe n.op=true->0<=n.y):(bif Qe n.op then((n.y.toNat:Nat):Int)else n.y)=n.y:=by
 cases e:Qe n.op
 ·rfl
 have:=h e;simp only [cond_true];omega
theorem Qtq {n:Nd} {k:Nat}(h:Qi n.op=true)(hy:Qe n.op=true->0<=n.y):
 (#[.int .i64 n.op,.int .i64 n.i,.int .i64 n.e,.int .i64 n.g,.int .i64 n.x,.int .i64 n.y]:Array Value).setIfInBounds 4 (.int .i64 (k:Int))=
  #[.int .i64 (n.with_ k n.y.toNat).op,.int .i64 (n.with_ k n.y.toNat).i,.int .i64 (n.with_ k n.y.toNat).e,.int .i64 (n.with_ k n.y.toNat).g,.int .i64 (n.with_ k n.y.toNat).x,.int .i64 (n.with_ k n.y.toNat).y]:=by
 simp only [Nd.with_,h,cond_true,Zyd n hy];rfl
theorem Qtz {n:Nd} {k1 k2:Nat}(h:Qe n.op=true)(m:Nd)(hm:m=n.with_ k1 n.y.toNat):
 (#[.int .i64 m.op,.int .i64 m.i,.int .i64 m.e,.int .i64 m.g,.int .i64 m.x,.int .i64 m.y]:Array Value).setIfInBounds 5 (.int .i64 (k2:Int))=
  #[.int .i64 (n.with_ k1 k2).op,.int .i64 (n.with_ k1 k2).i,.int .i64 (n.with_ k1 k2).e,.int .i64 (n.with_ k1 k2).g,.int .i64 (n.with_ k1 k2).x,.int .i64 (n.with_ k1 k2).y]:=by
 subst hm;simp only [Nd.with_,h,cond_true];rfl
theorem Qtg {n:Nd} {k1 k2:Nat}(h:Qe n.op=false):n.with_ k1 k2=n.with_ k1 n.y.toNat:=by simp [Nd.with_,h]
theorem Qmp {n:Nd} {k1:Nat}(h:Qe n.op=true)(hy:0<=n.y):(n.with_ k1 n.y.toNat).y=n.y:=by simp only [Nd.with_,h,cond_true];omega
theorem Qs0 {f:List Nd}(hf:Wf f) {i:Nat} {n:Nd}(hn:f[i]?=some n)(o:List Nd):Bi f (Yv f n o).1<=Bi f o:=by
 have hi:i < f.length:=(List.getElem?_eq_some_iff.1 hn).1;unfold Yv
 split
 ·rename_i h1;have:=(hf i n hn).1 h1;exact Qjd hf _ _ (by omega)
 exact Nat.le_refl _
theorem Qs1 {f:List Nd}(hf:Wf f) {i:Nat} {n:Nd}(hn:f[i]?=some n)(o:List Nd):Bi f (Vt f n o).1<=Bi f o:=by
 have hi:i < f.length:=(List.getElem?_eq_some_iff.1 hn).1;unfold Vt
 split
 ·rename_i h1;have:=(hf i n hn).2 h1;exact Qjd hf _ _ (by omega)
 exact Nat.le_refl _
theorem Qof {f:List Nd}(hf:Wf f) {i:Nat} {n:Nd}(hn:f[i]?=some n) {o o1:List Nd} {k1:Nat}(h:Yv f n o=(o1,k1))(zG:f.length<=1000)(hp:Bi f o1<=f.length):k1<=1000:=by
 have hi:i < f.length:=(List.getElem?_eq_some_iff.1 hn).1;unfold Yv at h
 split at h
 ·rename_i h1;have h2:=(hf i n hn).1 h1;have h3:=Hr hf n.x.toNat o (by omega);rw [h]at h3;have:=Gr f o1;simp only at h3;omega
 injection h with _ h;omega
theorem Qob {f:List Nd}(hf:Wf f) {i:Nat} {n:Nd}(hn:f[i]?=some n) {o o1:List Nd} {k1:Nat}(h:Vt f n o=(o1,k1))(zG:f.length<=1000)(hp:Bi f o1<=f.length):k1<=1000:=by
 have hi:i < f.length:=(List.getElem?_eq_some_iff.1 hn).1;unfold Vt at h
 split at h
 ·rename_i h1;have h2:=(hf i n hn).2 h1;have h3:=Hr hf n.y.toNat o (by omega);rw [h]at h3;have:=Gr f o1;simp only at h3;omega
 injection h with _ h;omega
theorem Qtx {n:Nd} {k1 k2:Nat}(h:n.ok)(h1:k1<=1000)(h2:k2<=1000):(n.with_ k1 k2).ok:=by
 obtain⟨a,b,c,d,e,g⟩:=h;refine⟨a,b,c,d,?_,?_⟩
 ·show Vm (bif Qi n.op then(k1:Int)else n.x);cases Qi n.op
  ·exact e
  exact⟨by simp only [cond_true];omega,by simp only [cond_true];omega⟩
 show Vm (bif Qe n.op then(k2:Int)else n.y);cases Qe n.op
 ·exact g
 exact⟨by simp only [cond_true];omega,by simp only [cond_true];omega⟩
theorem Qpm {f:List Nd}(hf:Wf f) {i:Nat} {n:Nd}(hn:f[i]?=some n) {o o1 o2:List Nd} {k1 k2:Nat}(h1:Yv f n o=(o1,k1))(h2:Vt f n o1=(o2,k2)):
 Ze f i o=(Zi o2 (n.with_ k1 k2),o2.idxOf (n.with_ k1 k2)):=by
 rw [Fs hf hn,h1];simp only [h2]
theorem Qs {w:World} {base:Nat} {e:TypeId} {size n:Nat} {v:Value} {xs:List Value}(h:w.ownsRow base e size v n xs):∃A c,v=.slice A n c:=by
 rcases h.2 with⟨rfl,rfl⟩|⟨g,cap,cur,rfl,_⟩
 ·exact⟨_,_,rfl⟩
 exact⟨_,_,rfl⟩
theorem Qmr:(Tryz.prog.info? 71).map (fun i=>(i.zero,i.size,i.bytes))=some (some Nd.zero.val,6,48):=by kernel_rfl
theorem Qap {f o o2:List Nd} {mm:Nd} {i:Nat}(hf:Wf f)(hi:i < f.length)(xB:Ze f i o=(Zi o2 mm,o2.idxOf mm)) {w w':World} {b m:Nat} {D:D0}
 (h:w.ownsMap Tryz.prog 3 (plainElem Tryz.prog 3) b m D)(hm:m<=Pp D f)(hD:Pn D f (Zi o2 mm))
 (h':w'.ownsMap Tryz.prog 3 (plainElem Tryz.prog 3) b (m+1) (D.put (.int .i64 i) (.lit (.int .i64 (o2.idxOf mm:Nat))))):Gb w' b f (Zi o2 mm):=by
 have vZ:=Fc hf i o (Zi o2 mm) hi (by rw [xB];exact List.prefix_refl _);rw [xB]at vZ;refine Gb.put h hm hD hi ?_ ?_
 ·rw [vZ]
 rw [vZ];exact h'
theorem Qeo(w:World)(m:Nd):∀j u,m.cells[j]?=some u->
 (w.alloc (.cells #[.int .i64 m.op,.int .i64 m.i,.int .i64 m.e,.int .i64 m.g,.int .i64 m.x,.int .i64 m.y] 71)).cell? ((⟨w.heap.size,0,none⟩:Addr).add j)=some u:=by
 intro j u hj;have h:=heap_alloc_new w (.cells #[.int .i64 m.op,.int .i64 m.i,.int .i64 m.e,.int .i64 m.g,.int .i64 m.x,.int .i64 m.y] 71);have e:((⟨w.heap.size,0,none⟩:Addr).add j)=⟨w.heap.size,j,none⟩:=by
  unfold Addr.add
  split
  ·rename_i h0;rw [h0]
  simp
 rw [e];simp only [World.cell?,h];rw [<-hj];simp [Nd.cells]
theorem Qqp(m:Nd):∀u∈m.cells,u.oneCell'=true:=by
 intro u hu;simp only [Nd.cells,List.mem_cons,List.mem_nil_iff,or_false]at hu;rcases hu with rfl|rfl|rfl|rfl|rfl|rfl <;> rfl
theorem Qv9 {w w':World} {P:Program} {k:TypeId} {R:Value->Option (D0×List MemPlace)} {b n:Nat} {D:D0}(h:w.ownsMap P k R b n D)(hb:w'.heap[b]?=w.heap[b]?):w'.ownsMap P k R b n D:=by
 obtain⟨es,clock,h1,h2⟩:=h;exact⟨es,clock,hb.trans h1,h2⟩
theorem Qb0 {K:Kh} {W0 we w w4:World} {A:Option Addr} {c:Nat} {f o:List Nd} {voe vo:Value} {bx bu:Nat} {m:Nd} {ux uy:Bool} {X:Obj}(h:Bh K W0 we w A c f o voe vo bx bu m ux uy)
 (hg:(w.alloc X).grownBy w4 vo.ownBlock):w.heap.size<=w4.heap.size/\w4.heap[K.out]?=some (.cells #[vo] 22 (0,0))/\
  w4.heap[bx]?=some (.cells #[.int .i64 m.op,.int .i64 m.i,.int .i64 m.e,.int .i64 m.g,.int .i64 m.x,.int .i64 m.y] 71 (0,0))/\
  w4.heap[K.num]?=some (.cells #[.map (some K.mn)] 184 (0,0))/\w4.heap[K.mn]?=w.heap[K.mn]?/\K.num≠K.out/\K.out≠K.num/\bx≠K.out/\K.mn≠K.out:=by
 obtain⟨l1,l2,l3,l4,l5,l6,l7⟩:=h.env.lts;obtain⟨e1,e2,e3,e4,e5,e6,e7⟩:=h.envlt;obtain⟨f1,f2,f3,f4,f5⟩:=h.fresh;have nG:=h.env.row_apart;obtain⟨b1,b2,b3,b4,b5,b6,b7,b8,b9,b10,b11,b12,b13,b14⟩:=h.env.blks_apart;have ea:Qg w (w.alloc X):=Qz.alloc _;have k4:∀b,b < w.heap.size->some b≠vo.ownBlock->w4.heap[b]?=w.heap[b]?:=fun b hb zQ=>(hg.block b (Qy hb ea.size) zQ).trans (ea.block hb)
 have ro:∀b,(∀g,vo.ownBlock=some g->g≠b)->some b≠vo.ownBlock:=fun b hb e=>hb b e.symm rfl
 exact⟨Qx ea.size hg.size,(k4 _ l2 (ro _ fun g hg=>(nG g hg).2.1)).trans h.env.blk_out,(k4 _ (Qn h.box) (Ne.symm f4)).trans h.box,
  (k4 _ l4 (ro _ fun g hg=>(nG g hg).2.2.2.1)).trans h.env.blk_num,k4 _ l6 (ro _ fun g hg=>(nG g hg).2.2.2.2.2.1),Ne.symm b3,b3,by omega,Ne.symm b5⟩
theorem Zjf {K:Kh} {W0 we w:World} {A:Option Addr} {c:Nat} {f o2:List Nd} {voe vo:Value} {bx bu:Nat} {m:Nd} {ux uy:Bool}(_h:Bh K W0 we w A c f (Zi o2 m) voe vo bx bu m ux uy)(hp:Bi f o2<=f.length)(zG:f.length<=1000):
 o2.idxOf m < 2000:=by
 have h1:=Nj o2 m;have h2:=Gr f o2;have h3:(Zi o2 m).length<=o2.length+1:=by
  unfold Zi
  split
  ·omega
  simp
 omega
theorem Qlk {K:Kh} {W0 w:World} {A:Option Addr} {c:Nat} {f o:List Nd} {vo:Value}(hf:Wf f)(zO:∀n∈f,n.ok)(h:Fy K W0 w A c f o vo)(zG:f.length<=1000)(i:Nat)(n:Nd)(hn:f[i]?=some n)(D:D0)(m:Nat)
 (xN:w.ownsMap Tryz.prog 3 (plainElem Tryz.prog 3) K.md m D)(hD:Pn D f o)(nH:has D (.int .i64 i)=false)(zQ:K.mn≠K.md)(oF:Bi f o<=f.length)
 (ih:∀z:Int,0<=z->z < i->Qks K W0 A c f z)(ux uy:Bool)(qB:Qi n.op=ux)(sN:Qe n.op=uy):
 Calls Tryz.prog 197 #[.int .i64 i,.pointer (some ⟨K.done,0,none⟩),.pointer (some ⟨K.f,0,none⟩),.pointer (some ⟨K.fin_,0,none⟩),.pointer (some ⟨K.num,0,none⟩),.pointer (some ⟨K.out,0,none⟩)] w
  fun e w'=>∃vo',e=.returned (.int .i64 (Ze f i o).2)/\Fy K W0 w' A c f (Ze f i o).1 vo'/\Dg K w w' vo vo':=by
 have hi:i < f.length:=(List.getElem?_eq_some_iff.1 hn).1;have cd:=cell_of_one h.blk_done;have cf:=cell_of_one h.blk_f;obtain⟨l1,l2,l3,l4,l5,l6,l7⟩:=h.lts;have wJ:=Ro (a:=(i:Int)) ⟨by omega,by omega⟩;obtain⟨ad,rfl,zI,zJ⟩:=h.nds.2.2 (by intro e;rw [e]at hi;simp at hi);have OA:=h.nds.1;have eJ:=h.nds.2.1;unfold maxLen at eJ;obtain⟨c0,c1,c2,c3,c4,c5⟩:=(zJ i n hn).keep fun p hp=>h.below.cell (p:=p) (by rw [hp,Qt];exact zI)
 have H:=Qq h;have HN:=Qq hn;have oN:=Qq qB;have oY:=Qq sN;have IH:=Qq ih;have HD:=Qq hD;have HF:=Qq hf;have zC:=Qq zO;clear h hn qB sN ih hD zJ hf zO;go_enter Tryz.func197,Tryz.ntmps197;go_upto_region 6 with(first|(at_lookup;refine wpList_lookup_own_ok_int _ rfl _ _ 178 rfl 3 3 .i64 Ud Tryz.underlying178 Tryz.underlying3 (Ln _) K.md m D rfl xN _ _ rfl wJ ?_;intro cc yL sL;clear yL sL)|(go_at_call 161;refine(Nm _ _ _ _ _ _ _ _ oN.out oY.out rfl rfl rfl rfl rfl _).mono ?_;rintro e w1 ⟨rfl,hb⟩));have oG:=Bh.start (ux:=ux) (uy:=uy) H.out n (.bool (Zw n.op)) (.bool (Zx n.op)) (.bool (Zl n.op)) (.bool (Zg n.op)) (.int .i64 (Vk n.op)) hb
 go_cut [34] (fun s34 wx=>s34=.bool ux/\Bh K W0 w wx (some ad) c f o vo vo w.heap.size w1.heap.size n ux uy)
 case first =>
  obtain⟨u2,u3,u4,u5,u6,hu⟩:=oG.use;obtain⟨d0,d1,d2⟩:=Zyq hu;go_wp2_with fail;go_meet;exact⟨rfl,oG⟩
 case rest =>
  obtain⟨rfl,oG⟩:=hcut;have HP:=Qq oF;clear oF;go_upto_if 34 with(fail);go_cut [] (fun wx=>∃vo1,Bh K W0 w wx (some ad) c f (Yv f n o).1 vo vo1 w.heap.size w1.heap.size (n.with_ (Yv f n o).2 n.y.toNat) ux uy)
  case first =>
   cases ux
   ·go_wp2_with fail;go_meet;exact⟨vo,by rw [Qc4 oN.out,Qh8 oN.out (fun e=>((HF.out i n HN.out).2 e).1)];exact oG⟩
   obtain⟨⟨d0,d1,d2,d3,d4,d5⟩,dfr,dlt⟩:=Vs oG.box;have dfin:=cell_of_one oG.env.blk_fin;unfold Kh.caps at dfin;obtain⟨yK,zP⟩:=(HF.out i n HN.out).1 oN.out;have HM:=Qq oG;clear oG;go_wp2_with fail;refine(IH.out n.x yK zP _ _ _ HM.out.env HP.out).mono ?_;rintro e w2 ⟨vo1,rfl,uE,vU⟩;have vV:=Qq (HM.out.call uE vU);clear uE vU d0 d1 d2 d3 d4 d5 dfr dlt dfin;obtain⟨⟨d0,d1,d2,d3,d4,d5⟩,dfr,dlt⟩:=Vs vV.out.box;go_wp2_with fail;go_meet;refine⟨vo1,?_⟩;rw [Qse oN.out];exact vV.out.store 4 _ _ (Qtq oN.out (fun e=>((HF.out i n HN.out).2 e).1))
  case rest =>
   obtain⟨vo1,uY⟩:=hcut;have iT:Hid (Bi f (Yv f n o).1<=f.length):=Qq (Qx (Qs0 HF.out HN.out o) HP.out);obtain⟨o1,k1,TV⟩:∃o1 k1,Yv f n o=(o1,k1):=⟨_,_,rfl⟩;have vC:=Qq TV;rw [TV]at uY iT;simp only at uY iT;clear TV oG cd cf c0 c1 c2 c3 c4 c5 wJ xN nH hb;obtain⟨u2,u3,u4,u5,u6,hu⟩:=uY.use;obtain⟨d0,d1,d2⟩:=Zyq hu;have HM:=Qq uY;clear uY hu;go_upto_if 41 with(fail);go_cut [] (fun wx=>∃vo2,Bh K W0 w wx (some ad) c f (Vt f n o1).1 vo vo2 w.heap.size w1.heap.size (n.with_ k1 (Vt f n o1).2) ux uy)
   case first =>
    clear d0 d1 d2;cases uy
    ·go_wp2_with fail;go_meet;exact⟨vo1,by rw [Qc5 oY.out,Qtg oY.out];exact HM.out⟩
    have hy:=(HF.out i n HN.out).2 oY.out;obtain⟨ZJ,JG⟩:=hy;obtain⟨⟨d0,d1,d2,d3,d4,d5⟩,dfr,dlt⟩:=Vs HM.out.box;rw [Qmp oY.out ZJ]at d5;have dfin:=cell_of_one HM.out.env.blk_fin;unfold Kh.caps at dfin;go_wp2_with fail;refine(IH.out n.y ZJ JG _ _ _ HM.out.env iT.out).mono ?_;rintro e w2 ⟨vo2,rfl,uE,vU⟩;have vV:=Qq (HM.out.call uE vU);clear uE vU d0 d1 d2 d3 d4 d5 dfr dlt dfin;obtain⟨⟨d0,d1,d2,d3,d4,d5⟩,dfr,dlt⟩:=Vs vV.out.box;go_wp2_with fail;go_meet;refine⟨vo2,?_⟩;rw [Qsw oY.out];exact vV.out.store 5 _ _ (Qtz oY.out _ rfl)
   case rest =>
    clear d0 d1 d2;obtain⟨vo2,wT⟩:=hcut;have iR:Hid (Bi f (Vt f n o1).1<=f.length):=Qq (Qx (Qs1 HF.out HN.out o1) iT.out);obtain⟨o2,k2,gI⟩:∃o2 k2,Vt f n o1=(o2,k2):=⟨_,_,rfl⟩;have YX:=Qq gI;rw [gI]at wT iR;simp only at wT iR;clear gI;have yT:k1<=1000:=Qof HF.out HN.out vC.out zG iT.out;have wW:k2<=1000:=Qob HF.out HN.out YX.out zG iR.out;have oP:=Qq (Qtx (zC.out n (List.mem_of_getElem? HN.out)) yT wW);have vT:=Qq (Qpm HF.out HN.out vC.out YX.out);clear yT wW;generalize n.with_ k1 k2=mm at wT oP vT;obtain⟨D2,q2,rQ,TK,U7⟩:=wT.env.nums
    obtain⟨⟨d0,d1,d2,d3,d4,d5⟩,dfr,dlt⟩:=Vs wT.box;have dnum:=cell_of_one wT.env.blk_num;have eC:keyOf Tryz.prog 71 (.agg #[.int .i64 mm.op,.int .i64 mm.i,.int .i64 mm.e,.int .i64 mm.g,.int .i64 mm.x,.int .i64 mm.y])=some (Nw mm):=Qqn oP.out;have bM:=Qq U7;have HM:=Qq wT;clear U7 wT;go_upto_if 54 with(at_lookup;refine wpList_lookup_own_ok_int _ rfl _ _ 184 rfl 71 3 .i64 Qjv Tryz.underlying184 Tryz.underlying3 (Ln _) K.mn q2 D2 rfl rQ _ _ rfl eC ?_;intro c2 yL sL);have kE:=Qq yL;clear yL sL;go_cut [13,14] (fun s13 _ wx=>s13=.int .i64 (o2.idxOf mm:Nat)/\∃vo3,Bh K W0 w wx (some ad) c f (Zi o2 mm) vo vo3 w.heap.size w1.heap.size mm ux uy)
    case first =>
     by_cases sB:mm∈o2
     ·have hh:has D2 (Nw mm)=true:=by rw [(bM.out mm oP.out).1];simpa using sB
      have XM:=Qq (show Zi o2 mm=o2 by unfold Zi;rw [if_pos sB]);have VS:=Qq (((bM.out mm oP.out).2 sB (.lit (.int .i64 0))).symm.trans kE.out);clear sB;rw [hh];go_wp2_with fail;go_meet;have e1:=VS.out;injection e1 with e1;injection e1 with _ e1;exact⟨by rw [e1],vo2,by rw [XM.out];exact HM.out⟩
     have hh:has D2 (Nw mm)=false:=by rw [(bM.out mm oP.out).1];simpa using sB
     have WT:=Qq sB;have XM:=Qq (show Zi o2 mm=o2++ [mm] by unfold Zi;rw [if_neg sB]);have bK:=Qq (List.idxOf_eq_length sB);clear sB;rw [hh];have zR:=HM.out.env.row;obtain⟨Ao,co,rfl⟩:∃Ao co,vo2=.slice Ao o2.length co:=Qs zR;have dout:=cell_of_one HM.out.env.blk_out;obtain⟨i0,jL,wZ,oA,kM⟩:=info_parts Qmr;have MQ:o2.length<=1000:=Qx (Gr f o2) (Qx iR.out zG);have xS:o2.length+1<=maxLen:=by unfold maxLen;omega
     have xR:(o2.length+1)*48<=140737488355328:=by omega
     have OB:∀X,W0.heap.size<=(wc.alloc X).heap.size:=fun X=>by
      have:=HM.out.env.below.size;simp;omega
     go_wp2_with(at_builtin;refine wpList_append_own_at _ rfl _ _ 22 rfl W0.heap.size 71 i0 Nd.zero.val 6 48 Tryz.underlying22 jL wZ oA kM rfl (by decide) _ _ _ rfl (zR.alloc _) ⟨wc.heap.size,0,none⟩ 1 1 mm.cells rfl rfl (Qeo wc mm) (Qqp mm) xS xR (OB _) ?_);intro v' w4 yG yM _ uF;obtain⟨A',c',rfl⟩:=Qs yG;obtain⟨hsz4,kout,kbox,knum,kmap,ke1,ke2,ke3,ke4⟩:=Qb0 HM.out yM;clear d0 d1 d2 d3 d4 d5 dfr dlt dnum dout;obtain⟨⟨d0,d1,d2,d3,d4,d5⟩,dfr,dlt⟩:=Vs kbox;have dout:=cell_of_one kout;have dfree:=free_of_one kout;have dnum:=cell_of_one knum;have SA:(plainElem Tryz.prog 3 (.int .i64 ((o2.length:Nat):Int)):Option (D0×List MemPlace))=some (.lit (.int .i64 ((o2.length:Nat):Int)),[]):=Qvl ⟨by omega,by omega⟩
     have LV:=(Qv9 rQ kmap).setCell (a:=⟨K.out,0,none⟩) ke4 (.slice A' (o2.length+1) c');go_wp2_with(at_mapUpdate;refine wpList_mapUpdate_own _ rfl _ _ _ 184 rfl 71 3 Qjv Tryz.underlying184 _ K.mn q2 D2 rfl LV (by unfold maxLen;omega) _ _ _ rfl rfl eC _ [] SA ?_;intro w6 qK wV);go_meet;refine⟨by rw [bK.out],.slice A' (o2.length+1) c',?_⟩;rw [XM.out];exact HM.out.added HF.out WT.out oP.out zQ yG yM (uF.imp id fun e=>by rw [e];simp) rQ TK bM.out qK wV
    case rest =>
     clear d0 d1 d2 d3 d4 d5 dfr dlt dnum rQ eC;obtain⟨rfl,vo3,jG⟩:=hcut;obtain⟨D3,q3,xZ,hq3,U6⟩:=jG.env.dones;have ddone:=cell_of_one jG.env.blk_done;have RQ:=Qdv D3 f;have MW:=Ro (a:=(i:Int)) ⟨by omega,by omega⟩;have JB:=Qq U6;have mY:=Qq jG;have mO:o2.idxOf mm < 2000:=Zjf mY.out iR.out zG;have SA:(plainElem Tryz.prog 3 (.int .i64 ((o2.idxOf mm:Nat):Int)):Option (D0×List MemPlace))=some (.lit (.int .i64 ((o2.idxOf mm:Nat):Int)),[]):=Qvl ⟨by omega,by omega⟩;clear U6 jG;go_wp2_with(at_mapUpdate;refine wpList_mapUpdate_own _ rfl _ _ _ 178 rfl 3 3 Ud Tryz.underlying178 _ K.md q3 D3 rfl xZ (by unfold maxLen;omega) _ _ _ rfl rfl MW _ [] SA ?_;intro w7 zW zX)
     have QS:=Qq (Qap HF.out hi vT.out xZ hq3 JB.out zW);have QR:=Qq (mY.out.finish zX QS.out zQ);go_ret;refine⟨vo3,Ke ?_,?_,QR.out.2⟩
     ·rw [vT.out]
     rw [vT.out];exact QR.out.1
open Go.Maps (has)
theorem Qlv {K:Kh} {W0:World} {A:Option Addr} {c:Nat} {f:List Nd}(hf:Wf f)(zO:∀n∈f,n.ok)(zG:f.length<=1000)(zQ:K.mn≠K.md):
 ∀i:Nat,i < f.length->Qks K W0 A c f i:=by
 intro i
 induction i using Nat.strongRecOn with
 |_ i ih =>
  intro hi w o vo uE oF;obtain⟨n,hn⟩:∃n,f[i]?=some n:=⟨_,Qv hi⟩;obtain⟨D,m,xN,_,hD⟩:=uE.dones;rw [Int.toNat_natCast];cases hh:has D (.int .i64 i)
  ·refine Qlk hf zO uE zG i n hn D m xN hD hh zQ oF (fun z h0 h1=> ?_) _ _ rfl rfl;obtain⟨j,rfl⟩:=Int.eq_ofNat_of_zero_le h0;exact ih j (by omega) (by omega)
  refine(Qrk uE zG i hi D m xN hD hh).mono ?_;rintro e w' ⟨rfl,rfl⟩;refine⟨vo,rfl,?_,Dg.refl _ _ _⟩;have:=(hD i hh).2.1;rw [this];exact uE
def Kh.at_(s:Nat):Kh:=⟨s,s+1,s+1+1+1+1+1,s+1+1+1,s+1+1+1+1+1+1,s+1+1,s+1+1+1+1⟩
def Hx(w:World)(A:Option Addr)(c n:Nat):World :=
 ((((((w.alloc (Obj.cells #[Value.slice A n c] 22)).alloc (Obj.cells #[Value.slice none 0 0] 22)).alloc (Obj.map #[] 0)).alloc (Obj.cells #[Value.map (some (w.heap.size+1+1))] 184)).alloc
   (Obj.map #[] 0)).alloc (Obj.cells #[Value.map (some (w.heap.size+1+1+1+1))] 178)).alloc
   (Obj.cells #[Value.func (Fn.func 197) #[] (Kh.at_ w.heap.size).caps] 109)
theorem Mm {w w':World} {o:Obj} {k:Nat}(h:Qg (w.alloc o) w')(hk:k=w.heap.size):w'.heap[k]?=some o:=by
 subst hk;exact(h.block (by simp)).trans (heap_alloc_new w o)
theorem Qho(w:World)(A:Option Addr)(c:Nat)(f:List Nd)(h:Mi w A c f):Fy (Kh.at_ w.heap.size) w (Hx w A c f.length) A c f [] (.slice none 0 0):=by
 have hb:Below w.heap.size w (Hx w A c f.length):=((((((((Qg.refl w).alloc _).alloc _).alloc _).alloc _).alloc _).alloc _).alloc _);refine⟨hb,h,Mm ((((((Qz.alloc _).alloc _).alloc _).alloc _).alloc _).alloc _) rfl,Mm (((((Qz.alloc _).alloc _).alloc _).alloc _).alloc _) (by simp [Kh.at_]),Mm (Qz.alloc _) (by simp [Kh.at_]),Mm (((Qz.alloc _).alloc _).alloc _) (by simp [Kh.at_]),Mm Qz (by simp [Kh.at_]),World.ownsRow_nil _ _ _ _,?_,?_,?_,?_,by simp⟩
 ·have h2:(Hx w A c f.length).heap[(Kh.at_ w.heap.size).mn]?=some (.map #[] 0):=Mm ((((Qz.alloc _).alloc _).alloc _).alloc _) (by simp [Kh.at_]);exact⟨.map [],0,⟨#[],0,h2,⟨by simp,MapKept.stamped_empty 0,by simp⟩,Nat.le_refl _,rfl⟩,Nat.le_refl _,fun n _=>⟨by simp [has],fun h=>by cases h⟩⟩
 ·have h2:(Hx w A c f.length).heap[(Kh.at_ w.heap.size).md]?=some (.map #[] 0):=Mm ((Qz.alloc _).alloc _) (by simp [Kh.at_]);exact⟨.map [],0,⟨#[],0,h2,⟨by simp,MapKept.stamped_empty 0,by simp⟩,Nat.le_refl _,rfl⟩,Nat.zero_le _,fun i h=>by simp [has]at h⟩
 ·simp only [Kh.at_];omega
 simp only [Kh.at_];omega
theorem Oj(f:List Nd)(A:Option Addr)(c r:Nat)(w:World)(hf:Wf f)(zO:∀n∈f,n.ok)(zG:f.length<=1000)(hr:r < f.length)(h:Mi w A c f):
 Calls Tryz.prog 162 #[.slice A f.length c,.int .i64 r] w fun e w'=>∃v,e=.returned v/\w'.ownsRow w.heap.size 71 6 v (Ze f r []).1.length ((Ze f r []).1.flatMap Nd.cells)/\(∀n∈(Ze f r []).1,n.ok)/\Qg w w':=by
 have rD:= @run_makeMap Tryz.prog;have cA:∀(fn:Fn) (first cap:Array Value) (w:World),(Instr.makeFunc fn first cap).run Tryz.prog w=.ok (.func fn first cap) w:=fun _ _ _ _=>rfl
 have HE:=Qq (Qho w A c f h);have HF:=Qq (Qlv (K:=Kh.at_ w.heap.size) (W0:=w) (A:=A) (c:=c) hf zO zG (by simp only [Kh.at_];omega) r hr _ _ _ HE.out (Iz f));clear hf zO h;go_enter Tryz.func162,Tryz.ntmps162;go_wp2_with fail;refine HF.out.mono ?_;rw [Int.toNat_natCast];rintro e w1 ⟨vo',rfl,uE,_⟩;have XD:=Qq uE;have yH:=cell_of_one uE.blk_out;simp only [Kh.at_]at yH;obtain⟨Ao,co,rfl⟩:=Qs uE.row;clear uE;go_wp2_with fail;go_ret;exact⟨_,rfl,XD.out.row,XD.out.oks,XD.out.below⟩
end Go.Proofs.YtkmclcmnoicagaaGreatDoor
