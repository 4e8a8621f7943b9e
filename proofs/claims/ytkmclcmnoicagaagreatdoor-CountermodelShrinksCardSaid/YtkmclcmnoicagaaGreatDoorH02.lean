/- formula.nodeError returns the error of a node at a place, for every node and place. -/
import Derived.Test.YtkmclcmnoicagaaGreatDoorH01
import Derived.Maps.OwnSet
import Derived.DeepKeys4
import Derived.OneCell
import Derived.Deep.DeepCutAuto
import Derived.Deep.RegionWith
import Derived.Laws.EntriesVeiled
namespace Go.Proofs.YtkmclcmnoicagaaGreatDoor
set_option maxRecDepth 100000
set_option maxHeartbeats 128000000
open Go.RowKit
theorem Qr7(n:Nd)(at_:Int)(w:World)(ho:Yp n.op=true)(hx:Zx (Zq n.op) n.x at_=false):
 Calls Tryz.prog 102 #[n.val,.int .i64 at_] w fun e w'=>e=.returned (.int .i64 3)/\Qg w w':=by
 unfold Nd.val;have HO:=Qq ho;have HX:=Qq hx;clear ho hx;go_enter Tryz.func102,Tryz.ntmps102;go_wp2_with(first|(go_at_call 161;refine(Nn _ _ _ _ _ _ _ _ rfl rfl rfl rfl rfl rfl HO.out _).mono ?_;rintro e w1 ⟨rfl,hb⟩;obtain⟨hc,xM,xH⟩:=hb.facts;have hz:w.heap.size < w1.heap.size:=by { simp at xH;omega };clear xH)|(go_at_call 167;(with_reducible refine(Mq _ _ _ false HX.out _).mono ?_);rintro e w' ⟨rfl,rfl⟩));go_ret;exact⟨rfl,((Qz.alloc _).trans hb).alloc _⟩
theorem Qr8(n:Nd)(at_:Int)(w:World)(ho:Yp n.op=true)(hx:Zx (Zq n.op) n.x at_=true)(hy:Zx (Qw n.op) n.y at_=false):
 Calls Tryz.prog 102 #[n.val,.int .i64 at_] w fun e w'=>e=.returned (.int .i64 3)/\Qg w w':=by
 unfold Nd.val;have HO:=Qq ho;have HX:=Qq hx;have HY:=Qq hy;clear ho hx hy;go_enter Tryz.func102,Tryz.ntmps102;go_wp2_with(first|(go_at_call 161;refine(Nn _ _ _ _ _ _ _ _ rfl rfl rfl rfl rfl rfl HO.out _).mono ?_;rintro e w1 ⟨rfl,hb⟩;obtain⟨hc,xM,xH⟩:=hb.facts;have hz:w.heap.size < w1.heap.size:=by { simp at xH;omega };clear xH)|(go_at_call 167;(with_reducible refine(Mq _ _ _ true HX.out _).mono ?_);rintro e w' ⟨rfl,rfl⟩)|(go_at_call 167;(with_reducible refine(Mq _ _ _ false HY.out _).mono ?_);rintro e w' ⟨rfl,rfl⟩));go_ret;exact⟨rfl,((Qz.alloc _).trans hb).alloc _⟩
theorem Qq0 {n:Nd} {at_:Int} {w:World}(r:Int)(h:Zr n at_=r)(hc:Calls Tryz.prog 102 #[n.val,.int .i64 at_] w fun e w'=>e=.returned (.int .i64 r)/\Qg w w'):Calls Tryz.prog 102 #[n.val,.int .i64 at_] w fun e w'=>e=.returned (.int .i64 (Zr n at_))/\Qg w w':=by
 rw [h];exact hc
theorem Tx(n:Nd)(at_:Int)(w:World):
 Calls Tryz.prog 102 #[n.val,.int .i64 at_] w fun e w'=>e=.returned (.int .i64 (Zr n at_))/\Qg w w':=by
 cases ho:Yp n.op
 ·rw [show Zr n at_=10 by simp [Zr,ho]];exact Qxo n at_ w ho
 cases hx:Zx (Zq n.op) n.x at_
 ·rw [show Zr n at_=3 by simp [Zr,ho,hx]];exact Qr7 n at_ w ho hx
 cases hy:Zx (Qw n.op) n.y at_
 ·rw [show Zr n at_=3 by simp [Zr,ho,hx,hy]];exact Qr8 n at_ w ho hx hy
 have ob:∀v a b,Ql false v a b=false:=fun _ _ _=>rfl
 rcases Qye n.op with⟨hf,ha,hg,he⟩|⟨hf,ha,hg,he⟩|⟨hf,ha,hg,he⟩|⟨hf,ha,hg,he⟩|⟨hf,ha,hg,he⟩;cases bi:n.i !=0;cases be:n.e !=0;cases bg:n.g !=0
 rotate_left 4
 cases be:n.e !=0;cases bg:n.g !=0;cases r0:Ql true n.i 0 7
 rotate_left 4
 cases be:n.e !=0;cases bg:n.g !=0;cases r0:Ql true n.i 0 3
 rotate_left 4
 cases bi:n.i !=0;cases be:n.e !=0;cases r0:Ql true n.g 1 15
 rotate_left 4
 cases bg:n.g !=0;cases r0:Ql true n.i 0 7;cases r1:Ql true n.e 0 7
 all_goals
  first
  |refine Qq0 3 ?_ ?_
   ·simp only [Zr,Zh, *];simp
    done
  |refine Qq0 2 ?_ ?_
   ·simp only [Zr,Zh,Ya, *];simp
    done
  |refine Qq0 0 ?_ ?_
   ·simp only [Zr,Zh,Ya, *];simp
    done
  clear ob
  as_aux_lemma =>
   unfold Nd.val
   try
    have zi:n.i=0:=by simpa using bi
    rw [zi];clear bi zi
   try
    have ze:n.e=0:=by simpa using be
    rw [ze];clear be ze
   try
    have zg:n.g=0:=by simpa using bg
    rw [zg];clear bg zg
   try
    have R0:=Qq r0;clear r0
   try
    have R1:=Qq r1;clear r1
   have HO:=Qq ho;have HF:=Qq hf;have HA:=Qq ha;have HG:=Qq hg;have HE:=Qq he;have HX:=Qq hx;have HY:=Qq hy;clear ho hf ha hg he hx hy;go_enter Tryz.func102,Tryz.ntmps102;go_wp2_with(first|(go_at_call 161;refine(Nn _ _ _ _ _ _ _ _ rfl rfl HF.out HA.out HG.out HE.out HO.out _).mono ?_;rintro e w1 ⟨rfl,hb⟩;obtain⟨hc,xM,xH⟩:=hb.facts;have hz:w.heap.size < w1.heap.size:=by { simp at xH;omega };clear xH)|(go_at_call 167;(with_reducible refine(Mq _ _ _ true HX.out _).mono ?_);rintro e w' ⟨rfl,rfl⟩)|(go_at_call 167;(with_reducible refine(Mq _ _ _ true HY.out _).mono ?_);rintro e w' ⟨rfl,rfl⟩)|(go_at_call 168;(with_reducible refine(Qq5 true _ _ _ _ R0.out _).mono ?_);rintro e w' ⟨rfl,rfl⟩)|(go_at_call 168;(with_reducible refine(Qq5 true _ _ _ _ R1.out _).mono ?_);rintro e w' ⟨rfl,rfl⟩)|(go_at_call 168;(with_reducible refine(Qq5 false _ _ _ false rfl _).mono ?_);rintro e w' ⟨rfl,rfl⟩))
   go_ret;exact⟨rfl,((Qz.alloc _).trans hb).alloc _⟩
theorem Qr(a:Addr)(n:Nat):(a.add n).block=a.block:=by unfold Addr.add;split <;> rfl
theorem Qt1(a:Addr)(i j:Nat):(a.add i).add j=a.add (i+j):=by
 unfold Addr.add;by_cases hi:i=0 <;> by_cases hj:j=0 <;> simp [hi,hj,Nat.add_assoc]
def Qdz(w:World)(a:Addr)(n:Nd):Prop :=
 w.cell? a=some (.int .i64 n.op)/\w.cell? ⟨a.block,a.off+1,none⟩=some (.int .i64 n.i)/\w.cell? ⟨a.block,a.off+2,none⟩=some (.int .i64 n.e)/\w.cell? ⟨a.block,a.off+3,none⟩=some (.int .i64 n.g)/\
  w.cell? ⟨a.block,a.off+4,none⟩=some (.int .i64 n.x)/\w.cell? ⟨a.block,a.off+5,none⟩=some (.int .i64 n.y)
def Py(w:World)(A:Option Addr)(c:Nat)(l:List Nd):Prop :=
 l.length<=c/\c<=maxLen/\(l≠ []->∃ad,A=some ad/\ad.block < w.heap.size/\∀k n,l[k]?=some n->Qdz w (ad.add (k*6)) n)
def Wn(w:World)(v:Value)(l:List Nd):Prop:=∃A c,v=.slice A l.length c/\Py w A c l
section
variable {w w':World} {a:Addr} {n:Nd} {l:List Nd} {A:Option Addr} {c:Nat} {v:Value}
theorem Qdz.keep(h:Qdz w a n)(hk:∀p:Addr,p.block=a.block->w'.cell? p=w.cell? p):Qdz w' a n:=by
 obtain⟨h0,h1,h2,h3,h4,h5⟩:=h;have rJ:∀o s,w'.cell? ⟨a.block,o,s⟩=w.cell? ⟨a.block,o,s⟩:=fun o s=>hk ⟨a.block,o,s⟩ rfl
 exact⟨(hk _ rfl).trans h0,(rJ _ _).trans h1,(rJ _ _).trans h2,(rJ _ _).trans h3,(rJ _ _).trans h4,(rJ _ _).trans h5⟩
theorem Py.ext(h:Py w A c l)(hb:Qg w w'):Py w' A c l :=
 ⟨h.1,h.2.1,fun hn=>by
  obtain⟨ad,e,zJ,hc⟩:=h.2.2 hn;exact⟨ad,e,Qy zJ hb.size,fun k n hk=>(hc k n hk).keep fun p hp=>hb.cell (by rw [hp,Qr];exact zJ)⟩⟩
theorem Wn.ext(h:Wn w v l)(hb:Qg w w'):Wn w' v l:=by
 obtain⟨A,c,e,h⟩:=h;exact⟨A,c,e,h.ext hb⟩
end
theorem Qj {a:Addr} {k n:Nat}(h:a.block < n):(a.add k).block < n:=by rw [Qr];exact h
theorem Ko {k:IntKind} {a b:Int}(h:a=b):Ending.returned (.int k a)=.returned (.int k b):=by rw [h]
theorem Vw(v:Value)(l:List Nd)(w:World)(h:Wn w v l):
 Calls Tryz.prog 41 #[v] w fun e w'=>e=.returned (.int .i64 (check l))/\Qg w w':=by
 obtain⟨A,c,rfl,xR,yN,zM⟩:=h;unfold maxLen at yN;by_cases h0:l.length=0
 ·have vX:check l=3:=by simp [check,h0]
  rw [h0,vX];clear vX zM;go_enter Tryz.func41,Tryz.ntmps41;go_wp2_with fail;go_ret;exact⟨rfl,Qz⟩
 have e0:((l.length:Int)==0)=false:=by rw [beq_eq_false_iff_ne];omega
 by_cases h1:200 < l.length
 ·have vX:check l=8:=by simp [check,h0,h1]
  rw [vX];clear vX zM;go_enter Tryz.func41,Tryz.ntmps41;go_wp2_with fail;go_ret;exact⟨rfl,Qz⟩
 have zQ:l≠ []:=fun e=>h0 (by simp [e])
 obtain⟨ad,rfl,zJ,zH⟩:=zM zQ;have HC:=Qq zH;clear zH;have HK:=Qq (show check l=Jw l 0 by simp [check,h0,h1]);have hl:l.length<=200:=by omega
 clear h0 h1 zM;go_enter Tryz.func41,Tryz.ntmps41;go_wp2_with fail;go_loopw [14] (fun i wr=>∃k:Nat,k<=l.length/\i=.int .i64 k/\Hid (Jw l 0=Jw (l.drop k) k)/\Qg w wr) (fun i _=>l.length - (intOf i).toNat)
 case atStart=>exact⟨0,Nat.zero_le _,rfl,Qq rfl,Qz⟩
 case round =>
  obtain⟨k,hk,rfl,tT,yT⟩:=hrel;by_cases hlt2:k < l.length
  ·obtain⟨n,hn⟩:∃n,l[k]?=some n:=⟨_,Qv hlt2⟩;have wZ:=Wt l k n hn;obtain⟨c0,c1,c2,c3,c4,c5⟩:=(HC.out k n hn).keep fun p hp=>yT.cell (p:=p) (by rw [hp,Qr];exact zJ)
   by_cases he:Zr n k=0
   ·have jX:Hid (Jw l 0=Jw (l.drop (k+1)) ((k+1:Nat):Int)):=Qq (by rw [tT.out,wZ,he];rfl);have hh:=Qq he;clear wZ he hn tT;go_wp2_with(go_at_call 102;refine(Tx n _ _).mono ?_;rintro e w1 ⟨rfl,hb⟩;rw [hh.out]);go_roundw
    case rel=>exact⟨k+1,by omega,by go_num,jX,(yT.alloc _).trans hb⟩
    case measure=>simp [intOf];omega
   have hh:(Zr n k !=0)=true:=by simpa using he
   have jX:Hid (Jw l 0=Zr n k):=Qq (by rw [tT.out,wZ,hh];rfl);clear wZ he hn tT;go_wp2_with(go_at_call 102;refine(Tx n _ _).mono ?_;rintro e w1 ⟨rfl,hb⟩);go_ret;exact⟨Ko (by rw [HK.out,jX.out]),(yT.alloc _).trans hb⟩
  obtain rfl:l.length=k:=by omega
  go_wp2_with fail;go_ret;refine⟨Ko ?_,yT⟩;rw [HK.out,tT.out];simp [Jw]
def Nd.zero:Nd:=⟨0,0,0,0,0,0⟩
def Wf(f:List Nd):Prop:=∀(i:Nat) (n:Nd),f[i]?=some n->(Zq n.op=true->0<=n.x/\n.x < i)/\(Qw n.op=true->0<=n.y/\n.y < i)
def Nd.with_(n:Nd)(kx ky:Nat):Nd:= { n with x:=bif Zq n.op then(kx:Int)else n.x,y:=bif Qw n.op then(ky:Int)else n.y }
def Jq(o:List Nd)(m:Nd):List Nd:=if m∈o then o else o++ [m]
def Lw(f:List Nd):Nat->Nat->List Nd->List Nd×Nat
 |0,_,o=>(o,0)
 |fuel+1,i,o =>
  let n:Nd:=f.getD i Nd.zero
  let r1:=if Zq n.op then Lw f fuel n.x.toNat o else(o,0)
  let r2:=if Qw n.op then Lw f fuel n.y.toNat r1.1 else(r1.1,0)
  (Jq r2.1 (n.with_ r1.2 r2.2),r2.1.idxOf (n.with_ r1.2 r2.2))
def Zw(f:List Nd)(i:Nat)(o:List Nd):List Nd×Nat:=Lw f (i+1) i o
def Qi(f:List Nd):Nd:=f.getLastD Nd.zero
theorem Lx {f:List Nd}(h:0 < f.length):f[f.length - 1]?=some (Qi f):=by
 unfold Qi;rw [<-List.getLast?_eq_getElem?];cases f with
 |nil=>simp at h
 |cons a t=>simp [List.getLast?_cons]
theorem Aj {f:List Nd} {i:Nat} {n:Nd}(h:f[i]?=some n):f.getD i Nd.zero=n:=by simp [List.getD,h]
theorem Qd1 {f:List Nd}(hf:Wf f):∀(fuel i:Nat) (o:List Nd),i < fuel->i < f.length->Lw f fuel i o=Zw f i o:=by
 intro fuel
 induction fuel using Nat.strongRecOn with
 |_ fuel ih =>
  intro i o h hi;cases fuel with
  |zero=>omega
  |succ fuel =>
   obtain⟨n,hn⟩:∃n,f[i]?=some n:=⟨_,Qv hi⟩;obtain⟨hx,hy⟩:=hf i n hn;have e:∀(b:Nat) (k:Nat),b < i->i<=k->k<=fuel->∀o,Lw f k b o=Zw f b o:=fun b k hb hk hkf o=>ih k (by omega) b o (by omega) (by omega)
   unfold Zw;simp only [Lw,Aj hn];have e1:∀o:List Nd,(if Zq n.op=true then Lw f fuel n.x.toNat o else(o,0))=(if Zq n.op=true then Lw f i n.x.toNat o else(o,0)):=by
    intro o
    split
    ·rename_i h1;have:=hx h1;rw [e n.x.toNat fuel (by omega) (by omega) (by omega),e n.x.toNat i (by omega) (by omega) (by omega)]
    rfl
   have e2:∀o:List Nd,(if Qw n.op=true then Lw f fuel n.y.toNat o else(o,0))=(if Qw n.op=true then Lw f i n.y.toNat o else(o,0)):=by
    intro o
    split
    ·rename_i h1;have:=hy h1;rw [e n.y.toNat fuel (by omega) (by omega) (by omega),e n.y.toNat i (by omega) (by omega) (by omega)]
    rfl
   simp only [e1,e2]
def Yf(f:List Nd)(n:Nd)(o:List Nd):List Nd×Nat:=if Zq n.op then Zw f n.x.toNat o else(o,0)
def Vh(f:List Nd)(n:Nd)(o:List Nd):List Nd×Nat:=if Qw n.op then Zw f n.y.toNat o else(o,0)
theorem Fh {f:List Nd}(hf:Wf f) {i:Nat} {n:Nd}(hn:f[i]?=some n)(o:List Nd):
 Zw f i o=(Jq (Vh f n (Yf f n o).1).1 (n.with_ (Yf f n o).2 (Vh f n (Yf f n o).1).2),(Vh f n (Yf f n o).1).1.idxOf (n.with_ (Yf f n o).2 (Vh f n (Yf f n o).1).2)):=by
 have hi:i < f.length:=(List.getElem?_eq_some_iff.1 hn).1;obtain⟨hx,hy⟩:=hf i n hn;have e1:∀o:List Nd,(if Zq n.op=true then Lw f i n.x.toNat o else(o,0))=Yf f n o:=by
  intro o;unfold Yf
  split
  ·rename_i h1;have:=hx h1;exact Qd1 hf _ _ _ (by omega) (by omega)
  rfl
 have e2:∀o:List Nd,(if Qw n.op=true then Lw f i n.y.toNat o else(o,0))=Vh f n o:=by
  intro o;unfold Vh
  split
  ·rename_i h1;have:=hy h1;exact Qd1 hf _ _ _ (by omega) (by omega)
  rfl
 conv=>lhs;unfold Zw Lw
 simp only [Aj hn,e1,e2]
theorem Xl(o:List Nd)(m:Nd):o <+: Jq o m:=by
 unfold Jq
 split
 ·exact List.prefix_refl _
 exact List.prefix_append _ _
theorem Qkb(o:List Nd)(m:Nd):m∈Jq o m:=by
 unfold Jq
 split
 ·assumption
 simp
theorem Qnz {o o':List Nd} {m:Nd}(h:o <+: o')(hm:m∈o):o'.idxOf m=o.idxOf m:=by
 obtain⟨t,rfl⟩:=h;rw [List.idxOf_append,if_pos hm]
theorem Qqa(o:List Nd)(m:Nd):(Jq o m).idxOf m=o.idxOf m:=by
 unfold Jq
 split
 ·rfl
 rename_i h;rw [List.idxOf_append,if_neg h,List.idxOf_eq_length h];simp
theorem Nj(o:List Nd)(m:Nd):o.idxOf m < (Jq o m).length:=by
 rw [<-Qqa];exact List.idxOf_lt_length_of_mem (Qkb o m)
section
variable {f:List Nd} (hf:Wf f)
include hf
theorem Qvk:∀(i:Nat) (o:List Nd),i < f.length->o <+:(Zw f i o).1:=by
 intro i
 induction i using Nat.strongRecOn with
 |_ i ih =>
  intro o hi;obtain⟨n,hn⟩:∃n,f[i]?=some n:=⟨_,Qv hi⟩;obtain⟨hx,hy⟩:=hf i n hn;have p1:o <+:(Yf f n o).1:=by
   unfold Yf
   split
   ·rename_i h1;have:=hx h1;exact ih _ (by omega) _ (by omega)
   exact List.prefix_refl _
  have p2:∀o,o <+:(Vh f n o).1:=by
   intro o;unfold Vh
   split
   ·rename_i h1;have:=hy h1;exact ih _ (by omega) _ (by omega)
   exact List.prefix_refl _
  rw [Fh hf hn];exact(p1.trans (p2 _)).trans (Xl _ _)
theorem Qq3 {i:Nat} {n:Nd}(hn:f[i]?=some n)(o:List Nd):o <+:(Vh f n o).1:=by
 have hi:i < f.length:=(List.getElem?_eq_some_iff.1 hn).1;unfold Vh
 split
 ·rename_i h1;have:=(hf i n hn).2 h1;exact Qvk hf _ _ (by omega)
 exact List.prefix_refl _
theorem Bq:∀(i:Nat) (o o':List Nd),i < f.length->(Zw f i o).1 <+: o'->Zw f i o'=(o',(Zw f i o).2):=by
 intro i
 induction i using Nat.strongRecOn with
 |_ i ih =>
  intro o o' hi hp;obtain⟨n,hn⟩:∃n,f[i]?=some n:=⟨_,Qv hi⟩;obtain⟨hx,hy⟩:=hf i n hn;have hm:=Qkb (Vh f n (Yf f n o).1).1 (n.with_ (Yf f n o).2 (Vh f n (Yf f n o).1).2);have lT:=Qqa (Vh f n (Yf f n o).1).1 (n.with_ (Yf f n o).2 (Vh f n (Yf f n o).1).2);have IX:=Xl (Vh f n (Yf f n o).1).1 (n.with_ (Yf f n o).2 (Vh f n (Yf f n o).1).2);have pY:(Vh f n (Yf f n o).1).1 <+: o':=by
   rw [Fh hf hn]at hp;exact IX.trans hp
  have pX:(Yf f n o).1 <+: o':=(Qq3 hf hn _).trans pY;have eX:Yf f n o'=(o',(Yf f n o).2):=by
   unfold Yf at pX⊢
   split
   ·rename_i h1;rw [if_pos h1]at pX;have:=hx h1;exact ih _ (by omega) _ _ (by omega) pX
   rfl
  have eY:Vh f n o'=(o',(Vh f n (Yf f n o).1).2):=by
   unfold Vh at pY⊢
   split
   ·rename_i h1;rw [if_pos h1]at pY;have:=hy h1;exact ih _ (by omega) _ _ (by omega) pY
   rfl
  rw [Fh hf hn]at hp;rw [Fh hf hn o',Fh hf hn o,eX];simp only [eY];have oJ:n.with_ (Yf f n o).2 (Vh f n (Yf f n o).1).2∈o':=hp.subset hm;rw [show Jq o' (n.with_ (Yf f n o).2 (Vh f n (Yf f n o).1).2)=o' from by unfold Jq;rw [if_pos oJ]];rw [Qnz hp hm,lT]
theorem Hi(i:Nat)(o:List Nd)(hi:i < f.length):(Zw f i o).2 < (Zw f i o).1.length:=by
 obtain⟨n,hn⟩:∃n,f[i]?=some n:=⟨_,Qv hi⟩;rw [Fh hf hn];exact Nj _ _
end
def Dk(f o:List Nd):Nat:=o.length+(List.range f.length).countP fun j=>(Zw f j o).1.length !=o.length
theorem Qz8 {α:Type} {p q:α->Bool} :∀{l:List α},(∀x∈l,p x=true->q x=true)->(∃x∈l,p x=false/\q x=true)->l.countP p < l.countP q
 |[],_,h=>by obtain⟨x,hx,_⟩:=h;cases hx
 |a :: l,QA,h=>by
  have ih:(∃x∈l,p x=false/\q x=true)->l.countP p < l.countP q:=fun h=>Qz8 (fun x hx=>QA x (by simp [hx])) h
  have iN:l.countP p<=l.countP q:=List.countP_mono_left fun x hx=>QA x (by simp [hx])
  rw [List.countP_cons,List.countP_cons];obtain⟨x,hx,h1,h2⟩:=h;rcases List.mem_cons.1 hx with rfl|hx
  ·simp only [h1,h2];simp;omega
  have h3:=ih ⟨x,hx,h1,h2⟩;have h4:=QA a (by simp);cases hp:p a
  ·cases hq:q a <;> simp <;> omega
  rw [h4 hp];simp;omega
section
variable {f:List Nd} (hf:Wf f)
include hf
theorem Qpw {j:Nat} {o o':List Nd}(hj:j < f.length)(hp:o <+: o')(h:(Zw f j o).1.length=o.length):(Zw f j o').1.length=o'.length:=by
 have sS:=Qvk hf j o hj;have e:(Zw f j o).1=o:=(sS.eq_of_length h.symm).symm;rw [Bq hf j o o' hj (by rw [e];exact hp)]
theorem Qjw:∀(i:Nat) (o:List Nd),i < f.length->Dk f (Zw f i o).1<=Dk f o:=by
 intro i
 induction i using Nat.strongRecOn with
 |_ i ih =>
  intro o hi;obtain⟨n,hn⟩:∃n,f[i]?=some n:=⟨_,Qv hi⟩;obtain⟨hx,hy⟩:=hf i n hn;have p1:Dk f (Yf f n o).1<=Dk f o:=by
   unfold Yf
   split
   ·rename_i h1;have:=hx h1;exact ih _ (by omega) _ (by omega)
   exact Nat.le_refl _
  have p2:∀o,Dk f (Vh f n o).1<=Dk f o:=by
   intro o;unfold Vh
   split
   ·rename_i h1;have:=hy h1;exact ih _ (by omega) _ (by omega)
   exact Nat.le_refl _
  refine Qx ?_ (Qx (p2 _) p1);have nT:=Bq hf i o (Zw f i o).1 hi (List.prefix_refl _);rw [Fh hf hn o]at nT⊢;have eX:Yf f n (Vh f n (Yf f n o).1).1=((Vh f n (Yf f n o).1).1,(Yf f n o).2):=by
   have hp:=Qq3 hf hn (Yf f n o).1;unfold Yf at hp⊢
   split
   ·rename_i h1;rw [if_pos h1]at hp;have:=hx h1;exact Bq hf _ _ _ (by omega) hp
   rfl
  have eY:Vh f n (Vh f n (Yf f n o).1).1=((Vh f n (Yf f n o).1).1,(Vh f n (Yf f n o).1).2):=by
   unfold Vh
   split
   ·rename_i h1;have:=hy h1;exact Bq hf _ _ _ (by omega) (List.prefix_refl _)
   rfl
  have wX:=Fh hf hn (Vh f n (Yf f n o).1).1;rw [eX]at wX;simp only [eY]at wX;generalize (Vh f n (Yf f n o).1).1=o2 at wX nT⊢;generalize n.with_ (Yf f n o).2 (Vh f n (Yf f n o).1).2=m at wX nT⊢;by_cases hm:m∈o2
  ·have:Jq o2 m=o2:=by unfold Jq;rw [if_pos hm]
   rw [this];exact Nat.le_refl _
  have ha:Jq o2 m=o2++ [m]:=by unfold Jq;rw [if_neg hm]
  have hc:=Qz8 (l:=List.range f.length) (p:=fun j=>(Zw f j (Jq o2 m)).1.length !=(Jq o2 m).length) (q:=fun j=>(Zw f j o2).1.length !=o2.length)
   (fun j hj zQ=>by
    have hj':=List.mem_range.1 hj;simp only [bne_iff_ne,ne_eq]at zQ⊢;exact fun h=>zQ (Qpw hf hj' (Xl _ _) h))
   ⟨i,List.mem_range.2 hi,by simp only [bne_eq_false_iff_eq];rw [nT],by simp only [bne_iff_ne,ne_eq];rw [wX,ha];simp⟩
  have hl:(Jq o2 m).length=o2.length+1:=by rw [ha];simp
  show Dk f (Jq o2 m)<=Dk f o2;unfold Dk;omega
end
theorem It(f:List Nd):Dk f []<=f.length:=by
 unfold Dk;have:=List.countP_le_length (p:=fun j=>(Zw f j []).1.length !=([]:List Nd).length) (l:=List.range f.length);simp only [List.length_range,List.length_nil]at this⊢;omega
theorem Gp(f o:List Nd):o.length<=Dk f o:=Nat.le_add_right _ _
open Go.Maps (Keyed IsMap Tidy has has_put_same has_put_other atKey_put_same atKey_put_other)
def Vp(a:Int):Prop:= -9223372036854775808<=a/\a<=9223372036854775807
def Nd.ok(n:Nd):Prop:=Vp n.op/\Vp n.i/\Vp n.e/\Vp n.g/\Vp n.x/\Vp n.y
theorem Ob {a:Int}(h:Vp a):(Lit.int .i64 a).wf=true:=by
 unfold Vp at h;have h1:IntKind.i64.min= -9223372036854775808:=by decide
 have h2:IntKind.i64.max=9223372036854775807:=by decide
 simp only [Lit.wf,h1,h2,Bool.and_eq_true,decide_eq_true_eq];exact h
theorem Qol:laidOutB Tryz.prog=true:=by kernel_rfl
theorem Zk1:(71:TypeId) < Tryz.prog.types.size:=of_decide_eq_true (by kernel_rfl)
theorem Zkr:(match Tryz.prog.underlying 71 with|some (.array _ _)|some (.struct _)=>true|_=>false)=true:=by kernel_rfl
theorem Zy3:Tryz.prog.keyTypeAt 2 71=true:=by kernel_rfl
theorem Qot:Tryz.prog.keyType 71=true:=by kernel_rfl
theorem Qjm:Keyed Tryz.prog 71:=Keyed.of_law (deep_law_laid Qol (m:=2) (by omega) Zk1 Zy3 Zkr)
theorem Qar:Tryz.prog.cellsOf 71=6:=by kernel_rfl
theorem Zze:Tryz.prog.cellsOf 3=1:=by kernel_rfl
theorem Zkd:∃m,Tryz.prog.types.size=m+1:=by
 have h:0 < Tryz.prog.types.size:=of_decide_eq_true (by kernel_rfl);exact⟨Tryz.prog.types.size - 1,by omega⟩
def Nm(n:Nd):Lit:=.string (keyBytes [.int .i64 n.op,.int .i64 n.i,.int .i64 n.e,.int .i64 n.g,.int .i64 n.x,.int .i64 n.y])
theorem Qqe {n:Nd}(h:n.ok):keyOf Tryz.prog 71 n.val=some (Nm n):=by
 obtain⟨h0,h1,h2,h3,h4,h5⟩:=h;obtain⟨m,hm⟩:=Zkd;have hf:n.val.formed Tryz.prog 71=true:=by simp [Nd.val,Value.formed,Tryz.underlying71,Qar]
 unfold keyOf;rw [Tryz.underlying71];simp only [Qot,hf,Bool.and_true,if_true];rw [hm];simp [Program.keyLits,Tryz.underlying71,Tryz.underlying3,Qar,Zze,Nd.val,Value.cells,Ob h0,Ob h1,Ob h2,Ob h3,Ob h4,Ob h5,Nm]
theorem Re {a:Int}(h:Vp a):keyOf Tryz.prog 3 (.int .i64 a)=some (.int .i64 a):=Go.Maps.keyOf_int_mk Tryz.underlying3 (Ob h)
theorem Um:Keyed Tryz.prog 3:=Go.Maps.int_keyed Tryz.underlying3
theorem Qnd {n:Nd} :WideAt.IsKeyLit (Nm n):=trivial
theorem Qws {n m:Nd}(hn:n.ok)(hm:m.ok)(h:Nm n=Nm m):n=m:=by
 have e:n.val=m.val:=Qjm.inj (Qqe hn) (by rw [h];exact Qqe hm);cases n;cases m
 simpa [Nd.val]using e
abbrev D0:=DataW Unit
theorem Qv5 {a:Int}(h:Vp a):(plainElem Tryz.prog 3 (.int .i64 a):Option (D0×List MemPlace))=some (.lit (.int .i64 a),[]):=plainElem_int Tryz.underlying3 (Ob h)
theorem Lr(w:World):(zeroValue 3).run Tryz.prog w=.ok (.int .i64 0) w:=by kernel_rfl
def Rz(w:World)(b:Nat)(o:List Nd):Prop :=
 ∃(D:D0) (m:Nat),w.ownsMap Tryz.prog 71 (plainElem Tryz.prog 3) b m D/\m<=o.length/\∀n:Nd,n.ok->has D (Nm n)=decide (n∈o)/\(n∈o->∀z,D.atKey (Nm n) z=.lit (.int .i64 (o.idxOf n)))
def Pc(D:D0)(f o:List Nd):Prop :=
 ∀i:Nat,has D (.int .i64 i)=true->i < f.length/\Zw f i o=(o,(Zw f i o).2)/\∀z,D.atKey (.int .i64 i) z=.lit (.int .i64 (Zw f i o).2)
def Po(D:D0)(f:List Nd):Nat:=(List.range f.length).countP fun i:Nat=>has D (.int .i64 i)
def Gt(w:World)(b:Nat)(f o:List Nd):Prop :=
 ∃(D:D0) (m:Nat),w.ownsMap Tryz.prog 3 (plainElem Tryz.prog 3) b m D/\m<=Po D f/\Pc D f o
theorem Rz.made(w:World):Rz (w.alloc (.map #[] 0)) w.heap.size []:=
 ⟨.map [],0,World.ownsMap_made w _ _ _,Nat.le_refl _,fun n _=>⟨by simp [has],fun h=>by cases h⟩⟩
theorem Gt.made(w:World)(f:List Nd):Gt (w.alloc (.map #[] 0)) w.heap.size f []:=
 ⟨.map [],0,World.ownsMap_made w _ _ _,Nat.zero_le _,fun i h=>by simp [has]at h⟩
theorem Rz.kept {w w':World} {b:Nat} {o:List Nd}(h:Rz w b o)(hb:w'.heap[b]?=w.heap[b]?):Rz w' b o:=by
 obtain⟨D,m,⟨es,clock,h1,h2⟩,h3,h4⟩:=h;exact⟨D,m,⟨es,clock,hb.trans h1,h2⟩,h3,h4⟩
theorem Gt.kept {w w':World} {b:Nat} {f o:List Nd}(h:Gt w b f o)(hb:w'.heap[b]?=w.heap[b]?):Gt w' b f o:=by
 obtain⟨D,m,⟨es,clock,h1,h2⟩,h4⟩:=h;exact⟨D,m,⟨es,clock,hb.trans h1,h2⟩,h4⟩
theorem Rz.lt {w:World} {b:Nat} {o:List Nd}(h:Rz w b o):b < w.heap.size:=by
 obtain⟨D,m,h1,_⟩:=h;exact h1.lt
theorem Gt.lt {w:World} {b:Nat} {f o:List Nd}(h:Gt w b f o):b < w.heap.size:=by
 obtain⟨D,m,h1,_⟩:=h;exact h1.lt
theorem Pc.grow {D:D0} {f o o':List Nd}(hf:Wf f)(h:Pc D f o)(hp:o <+: o'):Pc D f o':=by
 intro i hi;obtain⟨a,e,c⟩:=h i hi;have hg:=Bq hf i o o' a (by rw [e];exact hp);exact⟨a,by rw [hg],by rw [hg];exact c⟩
theorem Gt.grow {w:World} {b:Nat} {f o o':List Nd}(hf:Wf f)(h:Gt w b f o)(hp:o <+: o'):Gt w b f o':=by
 obtain⟨D,m,h1,h2,h3⟩:=h;exact⟨D,m,h1,h2,h3.grow hf hp⟩
theorem Qdw(D:D0)(f:List Nd):Po D f<=f.length:=by
 have:=List.countP_le_length (p:=fun i:Nat=>has D (.int .i64 i)) (l:=List.range f.length)
 simpa [Po]using this
theorem Rz.put {w w':World} {b:Nat} {o:List Nd} {n:Nd} {D:D0} {m:Nat}(hk:n.ok)(hn:n∉o)(h:w.ownsMap Tryz.prog 71 (plainElem Tryz.prog 3) b m D)(hm:m<=o.length)
 (hD:∀n:Nd,n.ok->has D (Nm n)=decide (n∈o)/\(n∈o->∀z,D.atKey (Nm n) z=.lit (.int .i64 (o.idxOf n))))
 (h':w'.ownsMap Tryz.prog 71 (plainElem Tryz.prog 3) b (m+1) (D.put (Nm n) (.lit (.int .i64 o.length)))):Rz w' b (o++ [n]):=by
 refine⟨_,_,h',by simp;omega,fun n' rJ=> ?_⟩;by_cases e:n'=n
 ·subst e;refine⟨by rw [has_put_same h.isMap Qnd];simp,fun _ z=> ?_⟩;rw [atKey_put_same h.isMap Qnd,List.idxOf_append,if_neg hn];simp
 have zQ:Nm n'≠Nm n:=fun e'=>e (Qws rJ hk e')
 refine⟨?_,fun rK z=> ?_⟩
 ·rw [has_put_other zQ,(hD n' rJ).1];simp [e]
 have LU:n'∈o:=by simpa [e]using rK
 rw [atKey_put_other zQ,(hD n' rJ).2 LU,List.idxOf_append,if_pos LU]
theorem Qbw {w:World} {k:TypeId} {R:Value->Option (D0×List MemPlace)} {b n:Nat} {D:D0}(h:w.ownsMap Tryz.prog k R b n D):w.ownsMap Tryz.prog k R b (Go.Maps.size D) D:=by
 obtain⟨es,clock,hb,F,hs,rfl⟩:=h;exact⟨es,clock,hb,F,by simp [Go.Maps.size,length_sorted],rfl⟩
theorem Gt.put {w w':World} {b:Nat} {f o:List Nd} {i m:Nat} {D:D0}(h:w.ownsMap Tryz.prog 3 (plainElem Tryz.prog 3) b m D)(hm:m<=Po D f)(hD:Pc D f o)
 (hi:i < f.length)(wX:Zw f i o=(o,(Zw f i o).2))
 (h':w'.ownsMap Tryz.prog 3 (plainElem Tryz.prog 3) b (m+1) (D.put (.int .i64 i) (.lit (.int .i64 (Zw f i o).2)))):Gt w' b f o:=by
 have vW:WideAt.IsKeyLit (.int .i64 (i:Int)):=trivial;have other:∀j:Nat,j≠i->(Lit.int .i64 (j:Int))≠.int .i64 (i:Int):=fun j e e'=>e (by injection e' with _ e';omega)
 have KE:=h.tidy Um;have mP:=h.size_le;have mono:∀j:Nat,has D (.int .i64 j)=true->has (D.put (.int .i64 i) (.lit (.int .i64 (Zw f i o).2))) (.int .i64 j)=true:=by
  intro j hj;by_cases e:j=i
  ·subst e;exact has_put_same h.isMap vW _
  rw [has_put_other (other j e)];exact hj
 refine⟨_,_,Qbw h',?_,fun j hj=> ?_⟩
 ·rw [Go.Maps.size_put KE]
  split
  ·exact Qx (Qx mP hm) (List.countP_mono_left fun j _=>mono j)
  rename_i oI;refine Nat.succ_le_of_lt (Nat.lt_of_le_of_lt (Qx mP hm) ?_);exact Qz8 (fun j _=>mono j) ⟨i,List.mem_range.2 hi,by simpa using oI,has_put_same h.isMap vW _⟩
 by_cases e:j=i
 ·subst e;exact⟨hi,wX,fun z=>atKey_put_same h.isMap vW _ z⟩
 rw [has_put_other (other j e)]at hj;obtain⟨a,c,d⟩:=hD j hj;exact⟨a,c,fun z=>by rw [atKey_put_other (other j e)];exact d z⟩
open Go.Maps (has)
structure Ke where
 f:Nat
 out:Nat
 done:Nat
 num:Nat
 fin_:Nat
 mn:Nat
 md:Nat
def Ke.caps(K:Ke):Array Value:=#[.pointer (some ⟨K.done,0,none⟩),.pointer (some ⟨K.f,0,none⟩),.pointer (some ⟨K.fin_,0,none⟩),.pointer (some ⟨K.num,0,none⟩),.pointer (some ⟨K.out,0,none⟩)]
structure Fd (K:Ke) (W0 w:World) (A:Option Addr) (c:Nat) (f o:List Nd) (vo:Value):Prop where
 below:Below W0.heap.size W0 w
 nds:Py W0 A c f
 blk_f:w.heap[K.f]?=some (.cells #[.slice A f.length c] 22 (0,0))
 blk_out:w.heap[K.out]?=some (.cells #[vo] 22 (0,0))
 blk_done:w.heap[K.done]?=some (.cells #[.map (some K.md)] 178 (0,0))
 blk_num:w.heap[K.num]?=some (.cells #[.map (some K.mn)] 184 (0,0))
 blk_fin:w.heap[K.fin_]?=some (.cells #[.func (Fn.func 197) #[] K.caps] 109 (0,0))
 row:w.ownsRow W0.heap.size 71 6 vo o.length (o.flatMap Nd.cells)
 nums:Rz w K.mn o
 dones:Gt w K.md f o
 low:W0.heap.size<=K.out/\W0.heap.size<=K.mn/\W0.heap.size<=K.md
 apart:K.f≠K.out
 oks:∀n∈o,n.ok
structure Db (K:Ke) (w w':World) (vo vo':Value):Prop where
 os:w'.os=w.os
 tape:w'.tape=w.tape
 output:w'.output=w.output
 size:w.heap.size<=w'.heap.size
 block:∀k,k < w.heap.size->k≠K.out->k≠K.mn->k≠K.md->vo.ownBlock≠some k->w'.heap[k]?=w.heap[k]?
 row:∀g,vo'.ownBlock=some g->vo.ownBlock=some g\/w.heap.size<=g
theorem Db.refl(K:Ke)(w:World)(vo:Value):Db K w w vo vo:=⟨rfl,rfl,rfl,Nat.le_refl _,fun _ _ _ _ _ _=>rfl,fun _ h=> .inl h⟩
theorem Db.trans {K:Ke} {a b c:World} {va vb vc:Value}(h:Db K a b va vb)(k:Db K b c vb vc):Db K a c va vc :=
 ⟨k.os.trans h.os,k.tape.trans h.tape,k.output.trans h.output,Qx h.size k.size,
  fun i hi h1 h2 h3 h4=>(k.block i (Qy hi h.size) h1 h2 h3 (fun e=>by
   rcases h.row i e with e'|e'
   ·exact h4 e'
   omega)).trans (h.block i hi h1 h2 h3 h4),
  fun g hg=>by
   rcases k.row g hg with e|e
   ·exact h.row g e
   exact .inr (Qx h.size e)⟩
theorem Db.of_ext {K:Ke} {a b:World} {vo:Value}(h:Qg a b):Db K a b vo vo:=⟨h.os,h.tape,h.output,h.size,fun _ hk _ _ _ _=>h.block hk,fun _ h=> .inl h⟩
theorem Qrw {K:Ke} {W0 w:World} {A:Option Addr} {c:Nat} {f o:List Nd} {vo:Value}(h:Fd K W0 w A c f o vo)(zG:f.length<=1000)(i:Nat)(hi:i < f.length)(D:D0)(m:Nat)
 (xJ:w.ownsMap Tryz.prog 3 (plainElem Tryz.prog 3) K.md m D)(hD:Pc D f o)(hh:has D (.int .i64 i)=true):
 Calls Tryz.prog 197 (#[.int .i64 i]++K.caps) w fun e w'=>e=.returned (.int .i64 (Zw f i o).2)/\w=w':=by
 have cd:=cell_of_one h.blk_done;have vW:=Re (a:=(i:Int)) ⟨by omega,by omega⟩;have uJ:=Qq (hD i hh).2.2;clear hD h;unfold Ke.caps;go_enter Tryz.func197,Tryz.ntmps197;go_wp2_with(at_lookup;refine wpList_lookup_own_ok_int _ rfl _ _ 178 rfl 3 3 .i64 Um Tryz.underlying178 Tryz.underlying3 (Lr _) K.md m D rfl xJ _ _ rfl vW ?_;intro cc yM tH);go_ret;have e1:=(uJ.out (.lit (.int .i64 0))).symm.trans yM;injection e1 with e2;injection e2 with _ e3;exact⟨Ko e3.symm,rfl⟩
section
variable {K:Ke} {W0 w w':World} {A:Option Addr} {c:Nat} {f o:List Nd} {vo:Value}
theorem Qn {w:World} {b:Nat} {x:Obj}(h:w.heap[b]?=some x):b < w.heap.size:=(Array.getElem?_eq_some_iff.1 h).1
theorem Fd.lts(h:Fd K W0 w A c f o vo):K.f < w.heap.size/\K.out < w.heap.size/\K.done < w.heap.size/\K.num < w.heap.size/\K.fin_ < w.heap.size/\K.mn < w.heap.size/\K.md < w.heap.size :=
 ⟨Qn h.blk_f,Qn h.blk_out,Qn h.blk_done,Qn h.blk_num,Qn h.blk_fin,h.nums.lt,h.dones.lt⟩
theorem Zp {base:Nat} {e:TypeId} {size n:Nat} {xs:List Value}(h:w.ownsRow base e size vo n xs)(hk:∀g,vo.ownBlock=some g->w'.heap[g]?=w.heap[g]?):w'.ownsRow base e size vo n xs:=by
 obtain⟨h1,h2⟩:=h;refine⟨h1,?_⟩;rcases h2 with h2|⟨g,cap,cur,rfl,hb,hc,hr⟩
 ·exact .inl h2
 exact .inr ⟨g,cap,cur,rfl,hb,(hk g rfl).trans hc,hr⟩
theorem Fd.keep(h:Fd K W0 w A c f o vo)(hb:Below W0.heap.size W0 w')(hk:∀k,k < w.heap.size->(k=K.f\/k=K.out\/k=K.done\/k=K.num\/k=K.fin_\/k=K.mn\/k=K.md\/vo.ownBlock=some k)->w'.heap[k]?=w.heap[k]?):
 Fd K W0 w' A c f o vo:=by
 obtain⟨l1,l2,l3,l4,l5,l6,l7⟩:=h.lts
 exact⟨hb,h.nds,(hk _ l1 (by simp)).trans h.blk_f,(hk _ l2 (by simp)).trans h.blk_out,(hk _ l3 (by simp)).trans h.blk_done,(hk _ l4 (by simp)).trans h.blk_num,(hk _ l5 (by simp)).trans h.blk_fin,
  Zp h.row fun g hg=>hk g (h.row.lt g hg).2 (by simp [hg]),h.nums.kept (hk _ l6 (by simp)),h.dones.kept (hk _ l7 (by simp)),h.low,h.apart,h.oks⟩
theorem Fd.ext(h:Fd K W0 w A c f o vo)(he:Qg w w'):Fd K W0 w' A c f o vo :=
 h.keep (h.below.trans (Below.mono he h.below.size)) fun _ hk _=>he.block hk
end
structure Bi (K:Ke) (W0 we w:World) (A:Option Addr) (c:Nat) (f o:List Nd) (voe vo:Value) (bx bu:Nat) (m:Nd) (ux uy:Bool):Prop where
 env:Fd K W0 w A c f o vo
 step:Db K we w voe vo
 envlt:K.f < we.heap.size/\K.out < we.heap.size/\K.done < we.heap.size/\K.num < we.heap.size/\K.fin_ < we.heap.size/\K.mn < we.heap.size/\K.md < we.heap.size
 box:w.heap[bx]?=some (.cells #[.int .i64 m.op,.int .i64 m.i,.int .i64 m.e,.int .i64 m.g,.int .i64 m.x,.int .i64 m.y] 71 (0,0))
 use:∃u2 u3 u4 u5 u6,w.heap[bu]?=some (.cells #[.bool ux,.bool uy,u2,u3,u4,u5,u6] 129 (0,0))
 fresh:we.heap.size<=bx/\we.heap.size<=bu/\bx≠bu/\vo.ownBlock≠some bx/\vo.ownBlock≠some bu
section
variable {K:Ke} {W0 we w w':World} {A:Option Addr} {c:Nat} {f o:List Nd} {voe vo:Value} {bx bu:Nat} {m:Nd} {ux uy:Bool}
theorem Vc {b:Nat} {a0 a1 a2 a3 a4 a5:Value} {t:TypeId}(h:w.heap[b]?=some (.cells #[a0,a1,a2,a3,a4,a5] t (0,0))):
 (w.cell? ⟨b,0,none⟩=some a0/\w.cell? ⟨b,1,none⟩=some a1/\w.cell? ⟨b,2,none⟩=some a2/\w.cell? ⟨b,3,none⟩=some a3/\w.cell? ⟨b,4,none⟩=some a4/\w.cell? ⟨b,5,none⟩=some a5)/\(∀j,w.frozen? ⟨b,j,none⟩=false)/\b < w.heap.size :=
 ⟨⟨by simp [World.cell?,h],by simp [World.cell?,h],by simp [World.cell?,h],by simp [World.cell?,h],by simp [World.cell?,h],by simp [World.cell?,h]⟩,fun j=>by simp [World.frozen?,h],Qn h⟩
theorem Zy7 {b:Nat} {a0 a1 a2 a3 a4 a5 a6:Value} {t:TypeId}(h:w.heap[b]?=some (.cells #[a0,a1,a2,a3,a4,a5,a6] t (0,0))):w.cell? ⟨b,0,none⟩=some a0/\w.cell? ⟨b,1,none⟩=some a1/\b < w.heap.size :=
 ⟨by simp [World.cell?,h],by simp [World.cell?,h],Qn h⟩
theorem Bi.start(h:Fd K W0 we A c f o vo) {w1:World}(n:Nd)(u2 u3 u4 u5 u6:Value)
 (he:Qg (we.alloc (.cells #[.int .i64 n.op,.int .i64 n.i,.int .i64 n.e,.int .i64 n.g,.int .i64 n.x,.int .i64 n.y] 71)) w1):
 Bi K W0 we (w1.alloc (.cells #[.bool ux,.bool uy,u2,u3,u4,u5,u6] 129)) A c f o vo vo we.heap.size w1.heap.size n ux uy:=by
 have e0:Qg we w1:=(Qz.alloc _).trans he;have zJ:we.heap.size < w1.heap.size:=Qy (by simp) he.size;refine⟨h.ext (e0.alloc _),Db.of_ext (e0.alloc _),h.lts,?_,⟨u2,u3,u4,u5,u6,heap_alloc_new _ _⟩,Nat.le_refl _,e0.size,Nat.ne_of_lt zJ,?_,?_⟩
 ·rw [((Qg.refl w1).alloc _).block zJ,he.block (by simp)];exact heap_alloc_new _ _
 ·intro e;exact absurd (h.row.lt _ e).2 (by omega)
 intro e;exact absurd (h.row.lt _ e).2 (by omega)
theorem Bi.call {o':List Nd} {vo':Value}(h:Bi K W0 we w A c f o voe vo bx bu m ux uy)(he:Fd K W0 w' A c f o' vo')(hs:Db K w w' vo vo'):Bi K W0 we w' A c f o' voe vo' bx bu m ux uy:=by
 obtain⟨l1,l2,l3,l4,l5,l6,l7⟩:=h.envlt;obtain⟨f1,f2,f3,f4,f5⟩:=h.fresh;obtain⟨u2,u3,u4,u5,u6,hu⟩:=h.use;have vE:=Qn h.box;have CW:=Qn hu;refine⟨he,h.step.trans hs,h.envlt,(hs.block _ vE (by omega) (by omega) (by omega) f4).trans h.box,⟨u2,u3,u4,u5,u6,(hs.block _ CW (by omega) (by omega) (by omega) f5).trans hu⟩,f1,f2,f3,?_,?_⟩
 ·intro e;rcases hs.row _ e with e|e
  ·exact f4 e
  omega
 intro e;rcases hs.row _ e with e|e
 ·exact f5 e
 omega
theorem Bi.store(h:Bi K W0 we w A c f o voe vo bx bu m ux uy)(j:Nat)(u:Value)(m':Nd)
 (hm:(#[.int .i64 m.op,.int .i64 m.i,.int .i64 m.e,.int .i64 m.g,.int .i64 m.x,.int .i64 m.y]:Array Value).setIfInBounds j u=#[.int .i64 m'.op,.int .i64 m'.i,.int .i64 m'.e,.int .i64 m'.g,.int .i64 m'.x,.int .i64 m'.y]):
 Bi K W0 we (w.setCell ⟨bx,j,none⟩ u) A c f o voe vo bx bu m' ux uy:=by
 obtain⟨l1,l2,l3,l4,l5,l6,l7⟩:=h.envlt;obtain⟨f1,f2,f3,f4,f5⟩:=h.fresh;obtain⟨u2,u3,u4,u5,u6,hu⟩:=h.use;have vE:=Qn h.box;have zK:W0.heap.size<=we.heap.size:=Qx h.env.low.1 (Nat.le_of_lt l2);have gJ:∀k,k≠bx->(w.setCell ⟨bx,j,none⟩ u).heap[k]?=w.heap[k]?:=fun k hk=>Below.heap_setCell _ _ _ _ hk
 have mP:(w.setCell ⟨bx,j,none⟩ u).heap.size=w.heap.size:=by simp [World.setCell]
 refine⟨h.env.keep (h.env.below.setCell (by show W0.heap.size<=bx;omega) _) fun k _ hk=>gJ k ?_,?_,h.envlt,?_,⟨u2,u3,u4,u5,u6,(gJ _ (Ne.symm f3)).trans hu⟩,f1,f2,f3,f4,f5⟩
 ·rcases hk with hk|hk|hk|hk|hk|hk|hk|hk
  ·omega
  ·omega
  ·omega
  ·omega
  ·omega
  ·omega
  ·omega
  exact fun e=>f4 (by rw [hk,e])
 ·exact⟨h.step.os,h.step.tape,h.step.output,by rw [mP];exact h.step.size,fun k hk h1 h2 h3 h4=>(gJ k (by omega)).trans (h.step.block k hk h1 h2 h3 h4),h.step.row⟩
 have hb:=h.box;simp only [World.setCell,Array.getElem?_modify,hb,if_true,Option.map_some];simp [hm]
theorem Fd.row_apart(h:Fd K W0 w A c f o vo):∀g,vo.ownBlock=some g->g≠K.f/\g≠K.out/\g≠K.done/\g≠K.num/\g≠K.fin_/\g≠K.mn/\g≠K.md:=by
 intro g hg;obtain⟨_,h2⟩:=h.row;rcases h2 with⟨rfl,_⟩|⟨g',cap,cur,rfl,_,hb,_⟩
 ·cases hg
 obtain rfl:g'=g:=by simpa [Value.ownBlock]using hg
 have no:∀{k:Nat} {cs:Array Value} {t:TypeId},w.heap[k]?=some (.cells cs t (0,0))->t≠71->g'≠k:=by
  intro k cs t hk ht e;subst e;rw [hb]at hk;injection hk with hk;injection hk with _ hk;exact ht hk.symm
 have nomap:∀{k:Nat} {es:Array MapEntry} {n:Nat},w.heap[k]?=some (.map es n)->g'≠k:=by
  intro k es n hk e;subst e;rw [hb]at hk;cases hk
 obtain⟨_,_,⟨_,_,hn,_⟩,_⟩:=h.nums;obtain⟨_,_,⟨_,_,hd,_⟩,_⟩:=h.dones;exact⟨no h.blk_f (by decide),no h.blk_out (by decide),no h.blk_done (by decide),no h.blk_num (by decide),no h.blk_fin (by decide),nomap hn,nomap hd⟩
theorem Fd.blks_apart(h:Fd K W0 w A c f o vo):K.out≠K.f/\K.out≠K.done/\K.out≠K.num/\K.out≠K.fin_/\K.out≠K.mn/\K.out≠K.md/\K.mn≠K.f/\K.mn≠K.done/\K.mn≠K.num/\K.mn≠K.fin_/\K.md≠K.f/\K.md≠K.done/\K.md≠K.num/\K.md≠K.fin_:=by
 obtain⟨_,_,⟨_,_,hn,_⟩,_⟩:=h.nums;obtain⟨_,_,⟨_,_,hd,_⟩,_⟩:=h.dones;have no:∀{k k':Nat} {cs cs':Array Value} {t t':TypeId},w.heap[k]?=some (.cells cs t (0,0))->w.heap[k']?=some (.cells cs' t' (0,0))->t≠t'->k≠k':=by
  intro k k' cs cs' t t' hk rJ ht e;subst e;rw [hk]at rJ;injection rJ with rJ;injection rJ with _ rJ;exact ht rJ
 have nomap:∀{k k':Nat} {es:Array MapEntry} {n:Nat} {cs:Array Value} {t:TypeId},w.heap[k]?=some (.map es n)->w.heap[k']?=some (.cells cs t (0,0))->k≠k':=by
  intro k k' es n cs t hk rJ e;subst e;rw [hk]at rJ;cases rJ
 exact⟨h.apart.symm,no h.blk_out h.blk_done (by decide),no h.blk_out h.blk_num (by decide),no h.blk_out h.blk_fin (by decide),(nomap hn h.blk_out).symm,(nomap hd h.blk_out).symm,
  nomap hn h.blk_f,nomap hn h.blk_done,nomap hn h.blk_num,nomap hn h.blk_fin,nomap hd h.blk_f,nomap hd h.blk_done,nomap hd h.blk_num,nomap hd h.blk_fin⟩
theorem Bi.added(h:Bi K W0 we w A c f o voe vo bx bu m ux uy)(hf:Wf f)(hm:m∉o)(zP:m.ok) {w4 w6:World} {v':Value} {X:Obj}(zQ:K.mn≠K.md)
 (zR:w4.ownsRow W0.heap.size 71 6 v' (o.length+1) (o.flatMap Nd.cells++m.cells))(hg:(w.alloc X).grownBy w4 vo.ownBlock)(yM:v'.ownBlock=vo.ownBlock\/v'.ownBlock=some (w.alloc X).heap.size)
 {D:D0} {k:Nat}(xJ:w.ownsMap Tryz.prog 71 (plainElem Tryz.prog 3) K.mn k D)(hk:k<=o.length)
 (hD:∀n:Nd,n.ok->has D (Nm n)=decide (n∈o)/\(n∈o->∀z,D.atKey (Nm n) z=.lit (.int .i64 (o.idxOf n))))
 (cJ:w6.ownsMap Tryz.prog 71 (plainElem Tryz.prog 3) K.mn (k+1) (D.put (Nm m) (.lit (.int .i64 o.length))))(uF:(w4.setCell ⟨K.out,0,none⟩ v').grownBy w6 (some K.mn)):
 Bi K W0 we w6 A c f (o++ [m]) voe v' bx bu m ux uy:=by
 obtain⟨l1,l2,l3,l4,l5,l6,l7⟩:=h.env.lts;obtain⟨e1,e2,e3,e4,e5,e6,e7⟩:=h.envlt;obtain⟨f1,f2,f3,f4,f5⟩:=h.fresh;obtain⟨u2,u3,u4,u5,u6,hu⟩:=h.use;have mR:=h.env.row_apart;obtain⟨b1,b2,b3,b4,b5,b6,b7,b8,b9,b10,b11,b12,b13,b14⟩:=h.env.blks_apart;have ea:Qg w (w.alloc X):=Qz.alloc _;have vS:w.heap.size<=w4.heap.size:=Qx ea.size hg.size;have YM:(w4.setCell ⟨K.out,0,none⟩ v').heap.size=w4.heap.size:=by simp [World.setCell]
 have k4:∀b,b < w.heap.size->some b≠vo.ownBlock->w4.heap[b]?=w.heap[b]?:=fun b hb zQ=>(hg.block b (Qy hb ea.size) zQ).trans (ea.block hb)
 have k6:∀b,b < w4.heap.size->b≠K.out->b≠K.mn->w6.heap[b]?=w4.heap[b]?:=fun b hb h1 h2 =>
  (uF.block b (by rw [YM];exact hb) (by simpa using h2)).trans (Below.heap_setCell _ _ _ _ h1)
 have k7:∀b,b < w.heap.size->some b≠vo.ownBlock->b≠K.out->b≠K.mn->w6.heap[b]?=w.heap[b]?:=fun b hb h0 h1 h2=>(k6 b (by omega) h1 h2).trans (k4 b hb h0)
 have ro:∀b,(∀g,vo.ownBlock=some g->g≠b)->some b≠vo.ownBlock:=fun b hb e=>hb b e.symm rfl
 have KO:w4.heap[K.out]?=some (.cells #[vo] 22 (0,0)):=(k4 _ l2 (ro _ fun g hg=>(mR g hg).2.1)).trans h.env.blk_out;have KV:∀g,v'.ownBlock=some g->g≠K.out/\g≠K.mn:=by
  intro g hg;rcases yM with e|e
  ·rw [e]at hg;exact⟨(mR g hg).2.1,(mR g hg).2.2.2.2.2.1⟩
  rw [e]at hg;have:w.heap.size+1=g:=by simpa using hg
  omega
 have vE:=Qn h.box;have CW:=Qn hu;have kI:Below W0.heap.size W0 w6:=by
  refine⟨uF.os.trans (hg.os.trans h.env.below.os),uF.tape.trans (hg.tape.trans h.env.below.tape),uF.output.trans (hg.output.trans h.env.below.output),?_,?_⟩
  ·have:=h.env.below.size;have:=uF.size;rw [YM]at this;omega
  intro b hb;have wQ:=h.env.low;have:=h.env.below.size;refine(k7 b (by omega) (ro _ fun g hg=> ?_) (by omega) (by omega)).trans (h.env.below.block b hb);have:=(h.env.row.lt g hg).1;omega
 have L1:w.heap.size<=w6.heap.size:=by
  have:=uF.size;rw [YM]at this;omega
 have tX:Fd K W0 w6 A c f (o++ [m]) v':=by
  refine⟨kI,h.env.nds,(k7 _ l1 (ro _ fun g hg=>(mR g hg).1) (Ne.symm b1) (Ne.symm b7)).trans h.env.blk_f,?_,(k7 _ l3 (ro _ fun g hg=>(mR g hg).2.2.1) (Ne.symm b2) (Ne.symm b8)).trans h.env.blk_done,
   (k7 _ l4 (ro _ fun g hg=>(mR g hg).2.2.2.1) (Ne.symm b3) (Ne.symm b9)).trans h.env.blk_num,(k7 _ l5 (ro _ fun g hg=>(mR g hg).2.2.2.2.1) (Ne.symm b4) (Ne.symm b10)).trans h.env.blk_fin,
   ?_,?_,?_,h.env.low,h.env.apart,?_⟩
  ·exact(uF.block _ (by rw [YM];omega) (by simpa using b5)).trans (one_setCell KO)
  ·have:=Zp (w':=w6) zR fun g hg=>k6 g (zR.lt g hg).2 (KV g hg).1 (KV g hg).2
   simpa using this
  ·exact Rz.put zP hm xJ hk hD cJ
  ·exact(h.env.dones.grow hf (List.prefix_append _ _)).kept (k7 _ l7 (ro _ fun g hg=>(mR g hg).2.2.2.2.2.2) (Ne.symm b6) (Ne.symm zQ))
  intro n hn;rcases List.mem_append.1 hn with hn|hn
  ·exact h.env.oks n hn
  rw [List.mem_singleton.1 hn];exact zP
 refine⟨tX,h.step.trans ⟨uF.os.trans hg.os,uF.tape.trans hg.tape,uF.output.trans hg.output,L1,fun b hb h1 h2 _ h4=>k7 b hb (Ne.symm h4) h1 h2,fun g hg=> ?_⟩,h.envlt,
  (k7 _ vE (Ne.symm f4) (by omega) (by omega)).trans h.box,⟨u2,u3,u4,u5,u6,(k7 _ CW (Ne.symm f5) (by omega) (by omega)).trans hu⟩,f1,f2,f3,?_,?_⟩
 ·rcases yM with e|e
  ·exact .inl (by rw [<-e];exact hg)
  rw [e]at hg;have:w.heap.size+1=g:=by simpa using hg
  exact .inr (by omega)
 ·intro e;rcases yM with e'|e'
  ·exact f4 (by rw [<-e'];exact e)
  rw [e']at e;have:w.heap.size+1=bx:=by simpa using e
  omega
 intro e;rcases yM with e'|e'
 ·exact f5 (by rw [<-e'];exact e)
 rw [e']at e;have:w.heap.size+1=bu:=by simpa using e
 omega
theorem Bi.finish(h:Bi K W0 we w A c f o voe vo bx bu m ux uy) {w7:World}(hg:w.grownBy w7 (some K.md))(hd:Gt w7 K.md f o)(zQ:K.mn≠K.md):Fd K W0 w7 A c f o vo/\Db K we w7 voe vo:=by
 obtain⟨l1,l2,l3,l4,l5,l6,l7⟩:=h.env.lts;have mR:=h.env.row_apart;obtain⟨b1,b2,b3,b4,b5,b6,b7,b8,b9,b10,b11,b12,b13,b14⟩:=h.env.blks_apart;have k7:∀b,b < w.heap.size->b≠K.md->w7.heap[b]?=w.heap[b]?:=fun b hb h1=>hg.block b hb (by simpa using h1)
 have wQ:=h.env.low
 have kI:Below W0.heap.size W0 w7:=⟨hg.os.trans h.env.below.os,hg.tape.trans h.env.below.tape,hg.output.trans h.env.below.output,Qx h.env.below.size hg.size,
  fun b hb=>(k7 b (Qy hb h.env.below.size) (by omega)).trans (h.env.below.block b hb)⟩
 refine⟨⟨kI,h.env.nds,(k7 _ l1 (Ne.symm b11)).trans h.env.blk_f,(k7 _ l2 b6).trans h.env.blk_out,(k7 _ l3 (Ne.symm b12)).trans h.env.blk_done,(k7 _ l4 (Ne.symm b13)).trans h.env.blk_num,
  (k7 _ l5 (Ne.symm b14)).trans h.env.blk_fin,Zp h.env.row fun g hg=>k7 g (h.env.row.lt g hg).2 (mR g hg).2.2.2.2.2.2,h.env.nums.kept (k7 _ l6 zQ),hd,h.env.low,h.env.apart,h.env.oks⟩,?_⟩
 exact h.step.trans ⟨hg.os,hg.tape,hg.output,hg.size,fun b hb _ _ h3 _=>k7 b hb h3,fun _ h=> .inl h⟩
end
open Go.Maps (has)
def Qk2(K:Ke)(W0:World)(A:Option Addr)(c:Nat)(f:List Nd)(z:Int):Prop :=
 ∀(w:World) (o:List Nd) (vo:Value),Fd K W0 w A c f o vo->Dk f o<=f.length->
  Calls Tryz.prog 197 #[.int .i64 z,.pointer (some ⟨K.done,0,none⟩),.pointer (some ⟨K.f,0,none⟩),.pointer (some ⟨K.fin_,0,none⟩),.pointer (some ⟨K.num,0,none⟩),.pointer (some ⟨K.out,0,none⟩)] w
   fun e w'=>∃vo',e=.returned (.int .i64 (Zw f z.toNat o).2)/\Fd K W0 w' A c f (Zw f z.toNat o).1 vo'/\Db K w w' vo vo'
theorem Qht {f:List Nd} {n:Nd} {o:List Nd}(h:Zq n.op=false):Yf f n o=(o,0):=by simp [Yf,h]
theorem Qhl {f:List Nd} {n:Nd} {o:List Nd}(h:Qw n.op=false):Vh f n o=(o,0):=by simp [Vh,h]
theorem Qtj {f:List Nd} {n:Nd} {o:List Nd}(h:Zq n.op=true):Yf f n o=Zw f n.x.toNat o:=by simp [Yf,h]
theorem Qty {f:List Nd} {n:Nd} {o:List Nd}(h:Qw n.op=true):Vh f n o=Zw f n.y.toNat o:=by simp [Vh,h]
theorem Qah {n:Nd} {k:Nat}(h:Zq n.op=false)(hy:Qw n.op=true->0<=n.y):n.with_ k n.y.toNat=n:=by
 unfold Nd.with_;rw [h];cases e:Qw n.op
 ·rfl
 have:=hy e;cases n;simp only [cond_true,cond_false,Nd.mk.injEq,true_and];simp only at this;omega
theorem Zvg(n:Nd)(h:Qw n.op=true->0<=n.y):(bif Qw n.op then((n.y.toNat:Nat):Int)else n.y)=n.y:=by
 cases e:Qw n.op
 ·rfl
 have:=h e;simp only [cond_true];omega
theorem Qtl {n:Nd} {k:Nat}(h:Zq n.op=true)(hy:Qw n.op=true->0<=n.y):
 (#[.int .i64 n.op,.int .i64 n.i,.int .i64 n.e,.int .i64 n.g,.int .i64 n.x,.int .i64 n.y]:Array Value).setIfInBounds 4 (.int .i64 (k:Int))=
  #[.int .i64 (n.with_ k n.y.toNat).op,.int .i64 (n.with_ k n.y.toNat).i,.int .i64 (n.with_ k n.y.toNat).e,.int .i64 (n.with_ k n.y.toNat).g,.int .i64 (n.with_ k n.y.toNat).x,.int .i64 (n.with_ k n.y.toNat).y]:=by
 simp only [Nd.with_,h,cond_true,Zvg n hy];rfl
theorem Qtm {n:Nd} {k1 k2:Nat}(h:Qw n.op=true)(m:Nd)(hm:m=n.with_ k1 n.y.toNat):
 (#[.int .i64 m.op,.int .i64 m.i,.int .i64 m.e,.int .i64 m.g,.int .i64 m.x,.int .i64 m.y]:Array Value).setIfInBounds 5 (.int .i64 (k2:Int))=
  #[.int .i64 (n.with_ k1 k2).op,.int .i64 (n.with_ k1 k2).i,.int .i64 (n.with_ k1 k2).e,.int .i64 (n.with_ k1 k2).g,.int .i64 (n.with_ k1 k2).x,.int .i64 (n.with_ k1 k2).y]:=by
 subst hm;simp only [Nd.with_,h,cond_true];rfl
theorem Qtw {n:Nd} {k1 k2:Nat}(h:Qw n.op=false):n.with_ k1 k2=n.with_ k1 n.y.toNat:=by simp [Nd.with_,h]
theorem Qm7 {n:Nd} {k1:Nat}(h:Qw n.op=true)(hy:0<=n.y):(n.with_ k1 n.y.toNat).y=n.y:=by simp only [Nd.with_,h,cond_true];omega
theorem Qtx {f:List Nd}(hf:Wf f) {i:Nat} {n:Nd}(hn:f[i]?=some n)(o:List Nd):Dk f (Yf f n o).1<=Dk f o:=by
 have hi:i < f.length:=(List.getElem?_eq_some_iff.1 hn).1;unfold Yf
 split
 ·rename_i h1;have:=(hf i n hn).1 h1;exact Qjw hf _ _ (by omega)
 exact Nat.le_refl _
theorem Qtg {f:List Nd}(hf:Wf f) {i:Nat} {n:Nd}(hn:f[i]?=some n)(o:List Nd):Dk f (Vh f n o).1<=Dk f o:=by
 have hi:i < f.length:=(List.getElem?_eq_some_iff.1 hn).1;unfold Vh
 split
 ·rename_i h1;have:=(hf i n hn).2 h1;exact Qjw hf _ _ (by omega)
 exact Nat.le_refl _
theorem Qij {f:List Nd}(hf:Wf f) {i:Nat} {n:Nd}(hn:f[i]?=some n) {o o1:List Nd} {k1:Nat}(h:Yf f n o=(o1,k1))(zG:f.length<=1000)(hp:Dk f o1<=f.length):k1<=1000:=by
 have hi:i < f.length:=(List.getElem?_eq_some_iff.1 hn).1;unfold Yf at h
 split at h
 ·rename_i h1;have h2:=(hf i n hn).1 h1;have h3:=Hi hf n.x.toNat o (by omega);rw [h]at h3;have:=Gp f o1;simp only at h3;omega
 injection h with _ h;omega
theorem Qiy {f:List Nd}(hf:Wf f) {i:Nat} {n:Nd}(hn:f[i]?=some n) {o o1:List Nd} {k1:Nat}(h:Vh f n o=(o1,k1))(zG:f.length<=1000)(hp:Dk f o1<=f.length):k1<=1000:=by
 have hi:i < f.length:=(List.getElem?_eq_some_iff.1 hn).1;unfold Vh at h
 split at h
 ·rename_i h1;have h2:=(hf i n hn).2 h1;have h3:=Hi hf n.y.toNat o (by omega);rw [h]at h3;have:=Gp f o1;simp only at h3;omega
 injection h with _ h;omega
theorem Qte {n:Nd} {k1 k2:Nat}(h:n.ok)(h1:k1<=1000)(h2:k2<=1000):(n.with_ k1 k2).ok:=by
 obtain⟨a,b,c,d,e,g⟩:=h;refine⟨a,b,c,d,?_,?_⟩
 ·show Vp (bif Zq n.op then(k1:Int)else n.x);cases Zq n.op
  ·exact e
  exact⟨by simp only [cond_true];omega,by simp only [cond_true];omega⟩
 show Vp (bif Qw n.op then(k2:Int)else n.y);cases Qw n.op
 ·exact g
 exact⟨by simp only [cond_true];omega,by simp only [cond_true];omega⟩
theorem Qcq {f:List Nd}(hf:Wf f) {i:Nat} {n:Nd}(hn:f[i]?=some n) {o o1 o2:List Nd} {k1 k2:Nat}(h1:Yf f n o=(o1,k1))(h2:Vh f n o1=(o2,k2)):
 Zw f i o=(Jq o2 (n.with_ k1 k2),o2.idxOf (n.with_ k1 k2)):=by
 rw [Fh hf hn,h1];simp only [h2]
theorem Qt {w:World} {base:Nat} {e:TypeId} {size n:Nat} {v:Value} {xs:List Value}(h:w.ownsRow base e size v n xs):∃A c,v=.slice A n c:=by
 rcases h.2 with⟨rfl,rfl⟩|⟨g,cap,cur,rfl,_⟩
 ·exact⟨_,_,rfl⟩
 exact⟨_,_,rfl⟩
theorem Qm1:(Tryz.prog.info? 71).map (fun i=>(i.zero,i.size,i.bytes))=some (some Nd.zero.val,6,48):=by kernel_rfl
theorem Qek {f o o2:List Nd} {mm:Nd} {i:Nat}(hf:Wf f)(hi:i < f.length)(wX:Zw f i o=(Jq o2 mm,o2.idxOf mm)) {w w':World} {b m:Nat} {D:D0}
 (h:w.ownsMap Tryz.prog 3 (plainElem Tryz.prog 3) b m D)(hm:m<=Po D f)(hD:Pc D f (Jq o2 mm))
 (h':w'.ownsMap Tryz.prog 3 (plainElem Tryz.prog 3) b (m+1) (D.put (.int .i64 i) (.lit (.int .i64 (o2.idxOf mm:Nat))))):Gt w' b f (Jq o2 mm):=by
 have uZ:=Bq hf i o (Jq o2 mm) hi (by rw [wX];exact List.prefix_refl _);rw [wX]at uZ;refine Gt.put h hm hD hi ?_ ?_
 ·rw [uZ]
 rw [uZ];exact h'
theorem Qwl(w:World)(m:Nd):∀j u,m.cells[j]?=some u->
 (w.alloc (.cells #[.int .i64 m.op,.int .i64 m.i,.int .i64 m.e,.int .i64 m.g,.int .i64 m.x,.int .i64 m.y] 71)).cell? ((⟨w.heap.size,0,none⟩:Addr).add j)=some u:=by
 intro j u hj;have h:=heap_alloc_new w (.cells #[.int .i64 m.op,.int .i64 m.i,.int .i64 m.e,.int .i64 m.g,.int .i64 m.x,.int .i64 m.y] 71);have e:((⟨w.heap.size,0,none⟩:Addr).add j)=⟨w.heap.size,j,none⟩:=by
  unfold Addr.add
  split
  ·rename_i h0;rw [h0]
  simp
 rw [e];simp only [World.cell?,h];rw [<-hj];simp [Nd.cells]
theorem Qq2(m:Nd):∀u∈m.cells,u.oneCell'=true:=by
 intro u hu;simp only [Nd.cells,List.mem_cons,List.mem_nil_iff,or_false]at hu;rcases hu with rfl|rfl|rfl|rfl|rfl|rfl <;> rfl
theorem Qkr {w w':World} {P:Program} {k:TypeId} {R:Value->Option (D0×List MemPlace)} {b n:Nat} {D:D0}(h:w.ownsMap P k R b n D)(hb:w'.heap[b]?=w.heap[b]?):w'.ownsMap P k R b n D:=by
 obtain⟨es,clock,h1,h2⟩:=h;exact⟨es,clock,hb.trans h1,h2⟩
theorem Qdf {K:Ke} {W0 we w w4:World} {A:Option Addr} {c:Nat} {f o:List Nd} {voe vo:Value} {bx bu:Nat} {m:Nd} {ux uy:Bool} {X:Obj}(h:Bi K W0 we w A c f o voe vo bx bu m ux uy)
 (hg:(w.alloc X).grownBy w4 vo.ownBlock):w.heap.size<=w4.heap.size/\w4.heap[K.out]?=some (.cells #[vo] 22 (0,0))/\
  w4.heap[bx]?=some (.cells #[.int .i64 m.op,.int .i64 m.i,.int .i64 m.e,.int .i64 m.g,.int .i64 m.x,.int .i64 m.y] 71 (0,0))/\
  w4.heap[K.num]?=some (.cells #[.map (some K.mn)] 184 (0,0))/\w4.heap[K.mn]?=w.heap[K.mn]?/\K.num≠K.out/\K.out≠K.num/\bx≠K.out/\K.mn≠K.out:=by
 obtain⟨l1,l2,l3,l4,l5,l6,l7⟩:=h.env.lts;obtain⟨e1,e2,e3,e4,e5,e6,e7⟩:=h.envlt;obtain⟨f1,f2,f3,f4,f5⟩:=h.fresh;have mR:=h.env.row_apart;obtain⟨b1,b2,b3,b4,b5,b6,b7,b8,b9,b10,b11,b12,b13,b14⟩:=h.env.blks_apart;have ea:Qg w (w.alloc X):=Qz.alloc _;have k4:∀b,b < w.heap.size->some b≠vo.ownBlock->w4.heap[b]?=w.heap[b]?:=fun b hb zQ=>(hg.block b (Qy hb ea.size) zQ).trans (ea.block hb)
 have ro:∀b,(∀g,vo.ownBlock=some g->g≠b)->some b≠vo.ownBlock:=fun b hb e=>hb b e.symm rfl
 exact⟨Qx ea.size hg.size,(k4 _ l2 (ro _ fun g hg=>(mR g hg).2.1)).trans h.env.blk_out,(k4 _ (Qn h.box) (Ne.symm f4)).trans h.box,
  (k4 _ l4 (ro _ fun g hg=>(mR g hg).2.2.2.1)).trans h.env.blk_num,k4 _ l6 (ro _ fun g hg=>(mR g hg).2.2.2.2.2.1),Ne.symm b3,b3,by omega,Ne.symm b5⟩
theorem Zyy {K:Ke} {W0 we w:World} {A:Option Addr} {c:Nat} {f o2:List Nd} {voe vo:Value} {bx bu:Nat} {m:Nd} {ux uy:Bool}(_h:Bi K W0 we w A c f (Jq o2 m) voe vo bx bu m ux uy)(hp:Dk f o2<=f.length)(zG:f.length<=1000):
 o2.idxOf m < 2000:=by
 have h1:=Nj o2 m;have h2:=Gp f o2;have h3:(Jq o2 m).length<=o2.length+1:=by
  unfold Jq
  split
  ·omega
  simp
 omega
theorem Qle {K:Ke} {W0 w:World} {A:Option Addr} {c:Nat} {f o:List Nd} {vo:Value}(hf:Wf f)(zP:∀n∈f,n.ok)(h:Fd K W0 w A c f o vo)(zG:f.length<=1000)(i:Nat)(n:Nd)(hn:f[i]?=some n)(D:D0)(m:Nat)
 (xJ:w.ownsMap Tryz.prog 3 (plainElem Tryz.prog 3) K.md m D)(hD:Pc D f o)(oI:has D (.int .i64 i)=false)(zQ:K.mn≠K.md)(nI:Dk f o<=f.length)
 (ih:∀z:Int,0<=z->z < i->Qk2 K W0 A c f z)(ux uy:Bool)(pJ:Zq n.op=ux)(sA:Qw n.op=uy):
 Calls Tryz.prog 197 #[.int .i64 i,.pointer (some ⟨K.done,0,none⟩),.pointer (some ⟨K.f,0,none⟩),.pointer (some ⟨K.fin_,0,none⟩),.pointer (some ⟨K.num,0,none⟩),.pointer (some ⟨K.out,0,none⟩)] w
  fun e w'=>∃vo',e=.returned (.int .i64 (Zw f i o).2)/\Fd K W0 w' A c f (Zw f i o).1 vo'/\Db K w w' vo vo':=by
 have hi:i < f.length:=(List.getElem?_eq_some_iff.1 hn).1;have cd:=cell_of_one h.blk_done;have cf:=cell_of_one h.blk_f;obtain⟨l1,l2,l3,l4,l5,l6,l7⟩:=h.lts;have vW:=Re (a:=(i:Int)) ⟨by omega,by omega⟩;obtain⟨ad,rfl,zJ,zH⟩:=h.nds.2.2 (by intro e;rw [e]at hi;simp at hi);have MR:=h.nds.1;have dJ:=h.nds.2.1;unfold maxLen at dJ;obtain⟨c0,c1,c2,c3,c4,c5⟩:=(zH i n hn).keep fun p hp=>h.below.cell (p:=p) (by rw [hp,Qr];exact zJ)
 have H:=Qq h;have HN:=Qq hn;have nW:=Qq pJ;have oP:=Qq sA;have IH:=Qq ih;have HD:=Qq hD;have HF:=Qq hf;have zE:=Qq zP;clear h hn pJ sA ih hD zH hf zP;go_enter Tryz.func197,Tryz.ntmps197;go_upto_region 6 with(first|(at_lookup;refine wpList_lookup_own_ok_int _ rfl _ _ 178 rfl 3 3 .i64 Um Tryz.underlying178 Tryz.underlying3 (Lr _) K.md m D rfl xJ _ _ rfl vW ?_;intro cc yM tH;clear yM tH)|(go_at_call 161;refine(Nn _ _ _ _ _ _ _ _ nW.out oP.out rfl rfl rfl rfl rfl _).mono ?_;rintro e w1 ⟨rfl,hb⟩));have nK:=Bi.start (ux:=ux) (uy:=uy) H.out n (.bool (Zo n.op)) (.bool (Zb n.op)) (.bool (Zm n.op)) (.bool (Zd n.op)) (.int .i64 (Vn n.op)) hb
 go_cut [34] (fun s34 wx=>s34=.bool ux/\Bi K W0 w wx (some ad) c f o vo vo w.heap.size w1.heap.size n ux uy)
 case first =>
  obtain⟨u2,u3,u4,u5,u6,hu⟩:=nK.use;obtain⟨d0,d1,d2⟩:=Zy7 hu;go_wp2_with fail;go_meet;exact⟨rfl,nK⟩
 case rest =>
  obtain⟨rfl,nK⟩:=hcut;have HP:=Qq nI;clear nI;go_upto_if 34 with(fail);go_cut [] (fun wx=>∃vo1,Bi K W0 w wx (some ad) c f (Yf f n o).1 vo vo1 w.heap.size w1.heap.size (n.with_ (Yf f n o).2 n.y.toNat) ux uy)
  case first =>
   cases ux
   ·go_wp2_with fail;go_meet;exact⟨vo,by rw [Qht nW.out,Qah nW.out (fun e=>((HF.out i n HN.out).2 e).1)];exact nK⟩
   obtain⟨⟨d0,d1,d2,d3,d4,d5⟩,dfr,dlt⟩:=Vc nK.box;have dfin:=cell_of_one nK.env.blk_fin;unfold Ke.caps at dfin;obtain⟨yI,zN⟩:=(HF.out i n HN.out).1 nW.out;have HM:=Qq nK;clear nK;go_wp2_with fail;refine(IH.out n.x yI zN _ _ _ HM.out.env HP.out).mono ?_;rintro e w2 ⟨vo1,rfl,tX,vI⟩;have wE:=Qq (HM.out.call tX vI);clear tX vI d0 d1 d2 d3 d4 d5 dfr dlt dfin;obtain⟨⟨d0,d1,d2,d3,d4,d5⟩,dfr,dlt⟩:=Vc wE.out.box;go_wp2_with fail;go_meet;refine⟨vo1,?_⟩;rw [Qtj nW.out];exact wE.out.store 4 _ _ (Qtl nW.out (fun e=>((HF.out i n HN.out).2 e).1))
  case rest =>
   obtain⟨vo1,uQ⟩:=hcut;have gZ:Hid (Dk f (Yf f n o).1<=f.length):=Qq (Qx (Qtx HF.out HN.out o) HP.out);obtain⟨o1,k1,SG⟩:∃o1 k1,Yf f n o=(o1,k1):=⟨_,_,rfl⟩;have uT:=Qq SG;rw [SG]at uQ gZ;simp only at uQ gZ;clear SG nK cd cf c0 c1 c2 c3 c4 c5 vW xJ oI hb;obtain⟨u2,u3,u4,u5,u6,hu⟩:=uQ.use;obtain⟨d0,d1,d2⟩:=Zy7 hu;have HM:=Qq uQ;clear uQ hu;go_upto_if 41 with(fail);go_cut [] (fun wx=>∃vo2,Bi K W0 w wx (some ad) c f (Vh f n o1).1 vo vo2 w.heap.size w1.heap.size (n.with_ k1 (Vh f n o1).2) ux uy)
   case first =>
    clear d0 d1 d2;cases uy
    ·go_wp2_with fail;go_meet;exact⟨vo1,by rw [Qhl oP.out,Qtw oP.out];exact HM.out⟩
    have hy:=(HF.out i n HN.out).2 oP.out;obtain⟨YB,GW⟩:=hy;obtain⟨⟨d0,d1,d2,d3,d4,d5⟩,dfr,dlt⟩:=Vc HM.out.box;rw [Qm7 oP.out YB]at d5;have dfin:=cell_of_one HM.out.env.blk_fin;unfold Ke.caps at dfin;go_wp2_with fail;refine(IH.out n.y YB GW _ _ _ HM.out.env gZ.out).mono ?_;rintro e w2 ⟨vo2,rfl,tX,vI⟩;have wE:=Qq (HM.out.call tX vI);clear tX vI d0 d1 d2 d3 d4 d5 dfr dlt dfin;obtain⟨⟨d0,d1,d2,d3,d4,d5⟩,dfr,dlt⟩:=Vc wE.out.box;go_wp2_with fail;go_meet;refine⟨vo2,?_⟩;rw [Qty oP.out];exact wE.out.store 5 _ _ (Qtm oP.out _ rfl)
   case rest =>
    clear d0 d1 d2;obtain⟨vo2,wM⟩:=hcut;have gY:Hid (Dk f (Vh f n o1).1<=f.length):=Qq (Qx (Qtg HF.out HN.out o1) gZ.out);obtain⟨o2,k2,fL⟩:∃o2 k2,Vh f n o1=(o2,k2):=⟨_,_,rfl⟩;have XN:=Qq fL;rw [fL]at wM gY;simp only at wM gY;clear fL;have yV:k1<=1000:=Qij HF.out HN.out uT.out zG gZ.out;have wV:k2<=1000:=Qiy HF.out HN.out XN.out zG gY.out;have oA:=Qq (Qte (zE.out n (List.mem_of_getElem? HN.out)) yV wV);have wB:=Qq (Qcq HF.out HN.out uT.out XN.out);clear yV wV;generalize n.with_ k1 k2=mm at wM oA wB;obtain⟨D2,q2,rB,RV,R2⟩:=wM.env.nums
    obtain⟨⟨d0,d1,d2,d3,d4,d5⟩,dfr,dlt⟩:=Vc wM.box;have dnum:=cell_of_one wM.env.blk_num;have dD:keyOf Tryz.prog 71 (.agg #[.int .i64 mm.op,.int .i64 mm.i,.int .i64 mm.e,.int .i64 mm.g,.int .i64 mm.x,.int .i64 mm.y])=some (Nm mm):=Qqe oA.out;have aO:=Qq R2;have HM:=Qq wM;clear R2 wM;go_upto_if 54 with(at_lookup;refine wpList_lookup_own_ok_int _ rfl _ _ 184 rfl 71 3 .i64 Qjm Tryz.underlying184 Tryz.underlying3 (Lr _) K.mn q2 D2 rfl rB _ _ rfl dD ?_;intro c2 yM tH);have jK:=Qq yM;clear yM tH;go_cut [13,14] (fun s13 _ wx=>s13=.int .i64 (o2.idxOf mm:Nat)/\∃vo3,Bi K W0 w wx (some ad) c f (Jq o2 mm) vo vo3 w.heap.size w1.heap.size mm ux uy)
    case first =>
     by_cases rK:mm∈o2
     ·have hh:has D2 (Nm mm)=true:=by rw [(aO.out mm oA.out).1];simpa using rK
      have VY:=Qq (show Jq o2 mm=o2 by unfold Jq;rw [if_pos rK]);have dV:=Qq (((aO.out mm oA.out).2 rK (.lit (.int .i64 0))).symm.trans jK.out);clear rK;rw [hh];go_wp2_with fail;go_meet;have e1:=dV.out;injection e1 with e1;injection e1 with _ e1;exact⟨by rw [e1],vo2,by rw [VY.out];exact HM.out⟩
     have hh:has D2 (Nm mm)=false:=by rw [(aO.out mm oA.out).1];simpa using rK
     have VD:=Qq rK;have VY:=Qq (show Jq o2 mm=o2++ [mm] by unfold Jq;rw [if_neg rK]);have aK:=Qq (List.idxOf_eq_length rK);clear rK;rw [hh];have zR:=HM.out.env.row;obtain⟨Ao,co,rfl⟩:∃Ao co,vo2=.slice Ao o2.length co:=Qt zR;have dout:=cell_of_one HM.out.env.blk_out;obtain⟨i0,iO,xH,oE,jR⟩:=info_parts Qm1;have LI:o2.length<=1000:=Qx (Gp f o2) (Qx gY.out zG);have xS:o2.length+1<=maxLen:=by unfold maxLen;omega
     have xP:(o2.length+1)*48<=140737488355328:=by omega
     have MS:∀X,W0.heap.size<=(wc.alloc X).heap.size:=fun X=>by
      have:=HM.out.env.below.size;simp;omega
     go_wp2_with(at_builtin;refine wpList_append_own_at _ rfl _ _ 22 rfl W0.heap.size 71 i0 Nd.zero.val 6 48 Tryz.underlying22 iO xH oE jR rfl (by decide) _ _ _ rfl (zR.alloc _) ⟨wc.heap.size,0,none⟩ 1 1 mm.cells rfl rfl (Qwl wc mm) (Qq2 mm) xS xP (MS _) ?_);intro v' w4 yE yL _ tY;obtain⟨A',c',rfl⟩:=Qt yE;obtain⟨hsz4,kout,kbox,knum,kmap,ke1,ke2,ke3,ke4⟩:=Qdf HM.out yL;clear d0 d1 d2 d3 d4 d5 dfr dlt dnum dout;obtain⟨⟨d0,d1,d2,d3,d4,d5⟩,dfr,dlt⟩:=Vc kbox;have dout:=cell_of_one kout;have dfree:=free_of_one kout;have dnum:=cell_of_one knum;have QM:(plainElem Tryz.prog 3 (.int .i64 ((o2.length:Nat):Int)):Option (D0×List MemPlace))=some (.lit (.int .i64 ((o2.length:Nat):Int)),[]):=Qv5 ⟨by omega,by omega⟩
     have KN:=(Qkr rB kmap).setCell (a:=⟨K.out,0,none⟩) ke4 (.slice A' (o2.length+1) c');go_wp2_with(at_mapUpdate;refine wpList_mapUpdate_own _ rfl _ _ _ 184 rfl 71 3 Qjm Tryz.underlying184 _ K.mn q2 D2 rfl KN (by unfold maxLen;omega) _ _ _ rfl rfl dD _ [] QM ?_;intro w6 pS wS);go_meet;refine⟨by rw [aK.out],.slice A' (o2.length+1) c',?_⟩;rw [VY.out];exact HM.out.added HF.out VD.out oA.out zQ yE yL (tY.imp id fun e=>by rw [e];simp) rB RV aO.out pS wS
    case rest =>
     clear d0 d1 d2 d3 d4 d5 dfr dlt dnum rB dD;obtain⟨rfl,vo3,iM⟩:=hcut;obtain⟨D3,q3,xW,hq3,Q9⟩:=iM.env.dones;have ddone:=cell_of_one iM.env.blk_done;have PY:=Qdw D3 f;have LO:=Re (a:=(i:Int)) ⟨by omega,by omega⟩;have GP:=Qq Q9;have mH:=Qq iM;have lT:o2.idxOf mm < 2000:=Zyy mH.out gY.out zG;have QM:(plainElem Tryz.prog 3 (.int .i64 ((o2.idxOf mm:Nat):Int)):Option (D0×List MemPlace))=some (.lit (.int .i64 ((o2.idxOf mm:Nat):Int)),[]):=Qv5 ⟨by omega,by omega⟩;clear Q9 iM;go_wp2_with(at_mapUpdate;refine wpList_mapUpdate_own _ rfl _ _ _ 178 rfl 3 3 Um Tryz.underlying178 _ K.md q3 D3 rfl xW (by unfold maxLen;omega) _ _ _ rfl rfl LO _ [] QM ?_;intro w7 zW zX)
     have PA:=Qq (Qek HF.out hi wB.out xW hq3 GP.out zW);have OY:=Qq (mH.out.finish zX PA.out zQ);go_ret;refine⟨vo3,Ko ?_,?_,OY.out.2⟩
     ·rw [wB.out]
     rw [wB.out];exact OY.out.1
open Go.Maps (has)
theorem Qla {K:Ke} {W0:World} {A:Option Addr} {c:Nat} {f:List Nd}(hf:Wf f)(zP:∀n∈f,n.ok)(zG:f.length<=1000)(zQ:K.mn≠K.md):
 ∀i:Nat,i < f.length->Qk2 K W0 A c f i:=by
 intro i
 induction i using Nat.strongRecOn with
 |_ i ih =>
  intro hi w o vo tX nI;obtain⟨n,hn⟩:∃n,f[i]?=some n:=⟨_,Qv hi⟩;obtain⟨D,m,xJ,_,hD⟩:=tX.dones;rw [Int.toNat_natCast];cases hh:has D (.int .i64 i)
  ·refine Qle hf zP tX zG i n hn D m xJ hD hh zQ nI (fun z h0 h1=> ?_) _ _ rfl rfl;obtain⟨j,rfl⟩:=Int.eq_ofNat_of_zero_le h0;exact ih j (by omega) (by omega)
  refine(Qrw tX zG i hi D m xJ hD hh).mono ?_;rintro e w' ⟨rfl,rfl⟩;refine⟨vo,rfl,?_,Db.refl _ _ _⟩;have:=(hD i hh).2.1;rw [this];exact tX
def Ke.at_(s:Nat):Ke:=⟨s,s+1,s+1+1+1+1+1,s+1+1+1,s+1+1+1+1+1+1,s+1+1,s+1+1+1+1⟩
def Hh(w:World)(A:Option Addr)(c n:Nat):World :=
 ((((((w.alloc (Obj.cells #[Value.slice A n c] 22)).alloc (Obj.cells #[Value.slice none 0 0] 22)).alloc (Obj.map #[] 0)).alloc (Obj.cells #[Value.map (some (w.heap.size+1+1))] 184)).alloc
   (Obj.map #[] 0)).alloc (Obj.cells #[Value.map (some (w.heap.size+1+1+1+1))] 178)).alloc
   (Obj.cells #[Value.func (Fn.func 197) #[] (Ke.at_ w.heap.size).caps] 109)
theorem Mh {w w':World} {o:Obj} {k:Nat}(h:Qg (w.alloc o) w')(hk:k=w.heap.size):w'.heap[k]?=some o:=by
 subst hk;exact(h.block (by simp)).trans (heap_alloc_new w o)
theorem Qad(w:World)(A:Option Addr)(c:Nat)(f:List Nd)(h:Py w A c f):Fd (Ke.at_ w.heap.size) w (Hh w A c f.length) A c f [] (.slice none 0 0):=by
 have hb:Below w.heap.size w (Hh w A c f.length):=((((((((Qg.refl w).alloc _).alloc _).alloc _).alloc _).alloc _).alloc _).alloc _);refine⟨hb,h,Mh ((((((Qz.alloc _).alloc _).alloc _).alloc _).alloc _).alloc _) rfl,Mh (((((Qz.alloc _).alloc _).alloc _).alloc _).alloc _) (by simp [Ke.at_]),Mh (Qz.alloc _) (by simp [Ke.at_]),Mh (((Qz.alloc _).alloc _).alloc _) (by simp [Ke.at_]),Mh Qz (by simp [Ke.at_]),World.ownsRow_nil _ _ _ _,?_,?_,?_,?_,by simp⟩
 ·have h2:(Hh w A c f.length).heap[(Ke.at_ w.heap.size).mn]?=some (.map #[] 0):=Mh ((((Qz.alloc _).alloc _).alloc _).alloc _) (by simp [Ke.at_]);exact⟨.map [],0,⟨#[],0,h2,⟨by simp,MapKept.stamped_empty 0,by simp⟩,Nat.le_refl _,rfl⟩,Nat.le_refl _,fun n _=>⟨by simp [has],fun h=>by cases h⟩⟩
 ·have h2:(Hh w A c f.length).heap[(Ke.at_ w.heap.size).md]?=some (.map #[] 0):=Mh ((Qz.alloc _).alloc _) (by simp [Ke.at_]);exact⟨.map [],0,⟨#[],0,h2,⟨by simp,MapKept.stamped_empty 0,by simp⟩,Nat.le_refl _,rfl⟩,Nat.zero_le _,fun i h=>by simp [has]at h⟩
 ·simp only [Ke.at_];omega
 simp only [Ke.at_];omega
theorem Oh(f:List Nd)(A:Option Addr)(c r:Nat)(w:World)(hf:Wf f)(zP:∀n∈f,n.ok)(zG:f.length<=1000)(hr:r < f.length)(h:Py w A c f):
 Calls Tryz.prog 162 #[.slice A f.length c,.int .i64 r] w fun e w'=>∃v,e=.returned v/\w'.ownsRow w.heap.size 71 6 v (Zw f r []).1.length ((Zw f r []).1.flatMap Nd.cells)/\(∀n∈(Zw f r []).1,n.ok)/\Qg w w':=by
 have rH:= @run_makeMap Tryz.prog;have aW:∀(fn:Fn) (first cap:Array Value) (w:World),(Instr.makeFunc fn first cap).run Tryz.prog w=.ok (.func fn first cap) w:=fun _ _ _ _=>rfl
 have HE:=Qq (Qad w A c f h);have HF:=Qq (Qla (K:=Ke.at_ w.heap.size) (W0:=w) (A:=A) (c:=c) hf zP zG (by simp only [Ke.at_];omega) r hr _ _ _ HE.out (It f));clear hf zP h;go_enter Tryz.func162,Tryz.ntmps162;go_wp2_with fail;refine HF.out.mono ?_;rw [Int.toNat_natCast];rintro e w1 ⟨vo',rfl,tX,_⟩;have VN:=Qq tX;have yF:=cell_of_one tX.blk_out;simp only [Ke.at_]at yF;obtain⟨Ao,co,rfl⟩:=Qt tX.row;clear tX;go_wp2_with fail;go_ret;exact⟨_,rfl,VN.out.row,VN.out.oks,VN.out.below⟩
end Go.Proofs.YtkmclcmnoicagaaGreatDoor
