/- formula.nodeError returns the error of a node at a place, for every node and place. -/
import Derived.Test.YtkmclcmnoicagaaGreatDoorK02
import Derived.Maps.OwnSet
import Derived.DeepKeys4
import Derived.OneCell
import Derived.Deep.DeepCutAuto
import Derived.Deep.RegionWith
import Derived.Laws.EntriesVeiled
namespace Go.Proofs.YtkmclcmnoicagaaGreatDoor
set_option maxRecDepth 100000
set_option maxHeartbeats 128000000
open Go.RowKit
theorem Sk(n:Nd)(at_:Int)(w:World):
 Calls Tryz.prog 102 #[n.val,.int .i64 at_] w fun e w'=>e=.returned (.int .i64 (Zv n at_))/\Ext w w':=by
 have key:∀r:Int,Zv n at_=r->(Calls Tryz.prog 102 #[n.val,.int .i64 at_] w fun e w'=>e=.returned (.int .i64 r)/\Ext w w')->
  Calls Tryz.prog 102 #[n.val,.int .i64 at_] w fun e w'=>e=.returned (.int .i64 (Zv n at_))/\Ext w w':=by
  intro r h hc;rw [h];exact hc
 cases ho:Jd n.op
 ·exact key 10 (by simp [Zv,ho]) (Qkw n at_ w ho)
 cases hx:Ql (Qw n.op) n.x at_
 ·exact key 3 (by simp [Zv,ho,hx]) (Qn4 n at_ w ho hx)
 cases hy:Ql (Qc n.op) n.y at_
 ·exact key 3 (by simp [Zv,ho,hx,hy]) (Qn5 n at_ w ho hx hy)
 have ob:∀v a b,Qt false v a b=false:=fun _ _ _=>rfl
 rcases Qjv n.op with⟨hf,ha,hg,he⟩|⟨hf,ha,hg,he⟩|⟨hf,ha,hg,he⟩|⟨hf,ha,hg,he⟩|⟨hf,ha,hg,he⟩
 ·by_cases hi:n.i=0
  ·by_cases sU:n.e=0
   ·by_cases hgg:n.g=0
    ·exact key 0 (by simp [Zv,ho,hx,hy,Zd,Jt,hf,ha,hg,he,hi,sU,hgg,ob]) (Qj1 n at_ w ho hf ha hg he hx hy hi sU hgg)
    exact key 3 (by have hb:(n.g !=0)=true:=by { simpa using hgg };simp only [Zv,ho,hx,hy,Zd,hf,ha,hg,he,hb];simp) (Qvd n at_ w ho hf ha hg he hx hy hi sU (by simpa using hgg))
   exact key 3 (by have hb:(n.e !=0)=true:=by { simpa using sU };simp only [Zv,ho,hx,hy,Zd,hf,ha,hg,he,hb];simp) (Qvb n at_ w ho hf ha hg he hx hy hi (by simpa using sU))
  exact key 3 (by have hb:(n.i !=0)=true:=by { simpa using hi };simp only [Zv,ho,hx,hy,Zd,hf,ha,hg,he,hb];simp) (Qvn n at_ w ho hf ha hg he hx hy (by simpa using hi))
 ·by_cases sU:n.e=0
  ·by_cases hgg:n.g=0
   ·cases hr:Qt true n.i 0 7
    ·exact key 0 (by simp [Zv,ho,hx,hy,Zd,Jt,hf,ha,hg,he,sU,hgg,ob,hr]) (Qjw n at_ w ho hf ha hg he hx hy sU hgg hr)
    exact key 2 (by simp [Zv,ho,hx,hy,Zd,Jt,hf,ha,hg,he,sU,hgg,hr]) (Qvf n at_ w ho hf ha hg he hx hy sU hgg hr)
   exact key 3 (by have hb:(n.g !=0)=true:=by { simpa using hgg };simp only [Zv,ho,hx,hy,Zd,hf,ha,hg,he,hb];simp) (Qvg n at_ w ho hf ha hg he hx hy sU (by simpa using hgg))
  exact key 3 (by have hb:(n.e !=0)=true:=by { simpa using sU };simp only [Zv,ho,hx,hy,Zd,hf,ha,hg,he,hb];simp) (Qvx n at_ w ho hf ha hg he hx hy (by simpa using sU))
 ·by_cases sU:n.e=0
  ·by_cases hgg:n.g=0
   ·cases hr:Qt true n.i 0 3
    ·exact key 0 (by simp [Zv,ho,hx,hy,Zd,Jt,hf,ha,hg,he,sU,hgg,ob,hr]) (Qq7 n at_ w ho hf ha hg he hx hy sU hgg hr)
    exact key 2 (by simp [Zv,ho,hx,hy,Zd,Jt,hf,ha,hg,he,sU,hgg,hr]) (Qjc n at_ w ho hf ha hg he hx hy sU hgg hr)
   exact key 3 (by have hb:(n.g !=0)=true:=by { simpa using hgg };simp only [Zv,ho,hx,hy,Zd,hf,ha,hg,he,hb];simp) (Qjp n at_ w ho hf ha hg he hx hy sU (by simpa using hgg))
  exact key 3 (by have hb:(n.e !=0)=true:=by { simpa using sU };simp only [Zv,ho,hx,hy,Zd,hf,ha,hg,he,hb];simp) (Qjm n at_ w ho hf ha hg he hx hy (by simpa using sU))
 ·by_cases hi:n.i=0
  ·by_cases sU:n.e=0
   ·cases hr:Qt true n.g 1 15
    ·exact key 0 (by simp [Zv,ho,hx,hy,Zd,Jt,hf,ha,hg,he,hi,sU,ob,hr]) (Qq9 n at_ w ho hf ha hg he hx hy hi sU hr)
    exact key 2 (by simp [Zv,ho,hx,hy,Zd,Jt,hf,ha,hg,he,hi,sU,hr]) (Qj0 n at_ w ho hf ha hg he hx hy hi sU hr)
   exact key 3 (by have hb:(n.e !=0)=true:=by { simpa using sU };simp only [Zv,ho,hx,hy,Zd,hf,ha,hg,he,hb];simp) (Qjo n at_ w ho hf ha hg he hx hy hi (by simpa using sU))
  exact key 3 (by have hb:(n.i !=0)=true:=by { simpa using hi };simp only [Zv,ho,hx,hy,Zd,hf,ha,hg,he,hb];simp) (Qji n at_ w ho hf ha hg he hx hy (by simpa using hi))
 by_cases hgg:n.g=0
 ·cases hr:Qt true n.i 0 7
  ·cases hs:Qt true n.e 0 7
   ·exact key 0 (by simp [Zv,ho,hx,hy,Zd,Jt,hf,ha,hg,he,hgg,ob,hr,hs]) (Qq8 n at_ w ho hf ha hg he hx hy hgg hr hs)
   exact key 2 (by simp [Zv,ho,hx,hy,Zd,Jt,hf,ha,hg,he,hgg,hr,hs]) (Qjh n at_ w ho hf ha hg he hx hy hgg hr hs)
  exact key 2 (by simp [Zv,ho,hx,hy,Zd,Jt,hf,ha,hg,he,hgg,hr]) (Qje n at_ w ho hf ha hg he hx hy hgg hr)
 exact key 3 (by have hb:(n.g !=0)=true:=by { simpa using hgg };simp only [Zv,ho,hx,hy,Zd,hf,ha,hg,he,hb];simp) (Qja n at_ w ho hf ha hg he hx hy (by simpa using hgg))
theorem Qr(a:Addr)(n:Nat):(a.add n).block=a.block:=by unfold Addr.add;split <;> rfl
theorem Qso(a:Addr)(i j:Nat):(a.add i).add j=a.add (i+j):=by
 unfold Addr.add;by_cases hi:i=0 <;> by_cases hj:j=0 <;> simp [hi,hj,Nat.add_assoc]
def Qf6(w:World)(a:Addr)(n:Nd):Prop :=
 w.cell? a=some (.int .i64 n.op)/\w.cell? ⟨a.block,a.off+1,none⟩=some (.int .i64 n.i)/\w.cell? ⟨a.block,a.off+2,none⟩=some (.int .i64 n.e)/\w.cell? ⟨a.block,a.off+3,none⟩=some (.int .i64 n.g)/\
  w.cell? ⟨a.block,a.off+4,none⟩=some (.int .i64 n.x)/\w.cell? ⟨a.block,a.off+5,none⟩=some (.int .i64 n.y)
def Le(w:World)(A:Option Addr)(c:Nat)(l:List Nd):Prop :=
 l.length<=c/\c<=maxLen/\(l≠ []->∃ad,A=some ad/\ad.block < w.heap.size/\∀k n,l[k]?=some n->Qf6 w (ad.add (k*6)) n)
def Nds(w:World)(v:Value)(l:List Nd):Prop:=∃A c,v=.slice A l.length c/\Le w A c l
section
variable {w w':World} {a:Addr} {n:Nd} {l:List Nd} {A:Option Addr} {c:Nat} {v:Value}
theorem Qf6.keep(h:Qf6 w a n)(hk:∀p:Addr,p.block=a.block->w'.cell? p=w.cell? p):Qf6 w' a n:=by
 obtain⟨h0,h1,h2,h3,h4,h5⟩:=h;have sA:∀o s,w'.cell? ⟨a.block,o,s⟩=w.cell? ⟨a.block,o,s⟩:=fun o s=>hk ⟨a.block,o,s⟩ rfl
 exact⟨(hk _ rfl).trans h0,(sA _ _).trans h1,(sA _ _).trans h2,(sA _ _).trans h3,(sA _ _).trans h4,(sA _ _).trans h5⟩
theorem Le.ext(h:Le w A c l)(hb:Ext w w'):Le w' A c l :=
 ⟨h.1,h.2.1,fun hn=>by
  obtain⟨ad,e,zG,hc⟩:=h.2.2 hn;exact⟨ad,e,Qy zG hb.size,fun k n hk=>(hc k n hk).keep fun p hp=>hb.cell (by rw [hp,Qr];exact zG)⟩⟩
theorem Nds.ext(h:Nds w v l)(hb:Ext w w'):Nds w' v l:=by
 obtain⟨A,c,e,h⟩:=h;exact⟨A,c,e,h.ext hb⟩
end
theorem Qj {a:Addr} {k n:Nat}(h:a.block < n):(a.add k).block < n:=by rw [Qr];exact h
theorem Kh {k:IntKind} {a b:Int}(h:a=b):Ending.returned (.int k a)=.returned (.int k b):=by rw [h]
theorem Vh(v:Value)(l:List Nd)(w:World)(h:Nds w v l):
 Calls Tryz.prog 41 #[v] w fun e w'=>e=.returned (.int .i64 (check l))/\Ext w w':=by
 obtain⟨A,c,rfl,xR,yO,zM⟩:=h;unfold maxLen at yO;by_cases h0:l.length=0
 ·have wF:check l=3:=by simp [check,h0]
  rw [h0,wF];clear wF zM;go_enter Tryz.func41,Tryz.ntmps41;go_wp2_with fail;go_ret;exact⟨rfl,Qz⟩
 have e0:((l.length:Int)==0)=false:=by rw [beq_eq_false_iff_ne];omega
 by_cases h1:200 < l.length
 ·have wF:check l=8:=by simp [check,h0,h1]
  rw [wF];clear wF zM;go_enter Tryz.func41,Tryz.ntmps41;go_wp2_with fail;go_ret;exact⟨rfl,Qz⟩
 have zQ:l≠ []:=fun e=>h0 (by simp [e])
 obtain⟨ad,rfl,zG,zJ⟩:=zM zQ;have HC:=Qq zJ;clear zJ;have HK:=Qq (show check l=Je l 0 by simp [check,h0,h1]);have hl:l.length<=200:=by omega
 clear h0 h1 zM;go_enter Tryz.func41,Tryz.ntmps41;go_wp2_with fail;go_loopw [14] (fun i wr=>∃k:Nat,k<=l.length/\i=.int .i64 k/\Hid (Je l 0=Je (l.drop k) k)/\Ext w wr) (fun i _=>l.length - (intOf i).toNat)
 case atStart=>exact⟨0,Nat.zero_le _,rfl,Qq rfl,Qz⟩
 case round =>
  obtain⟨k,hk,rfl,uB,yU⟩:=hrel;by_cases hlt2:k < l.length
  ·obtain⟨n,hn⟩:∃n,l[k]?=some n:=⟨_,Qv hlt2⟩;have wX:=Ht l k n hn;obtain⟨c0,c1,c2,c3,c4,c5⟩:=(HC.out k n hn).keep fun p hp=>yU.cell (p:=p) (by rw [hp,Qr];exact zG)
   by_cases he:Zv n k=0
   ·have kK:Hid (Je l 0=Je (l.drop (k+1)) ((k+1:Nat):Int)):=Qq (by rw [uB.out,wX,he];rfl);have hh:=Qq he;clear wX he hn uB;go_wp2_with(go_at_call 102;refine(Sk n _ _).mono ?_;rintro e w1 ⟨rfl,hb⟩;rw [hh.out]);go_roundw
    case rel=>exact⟨k+1,by omega,by go_num,kK,(yU.alloc _).trans hb⟩
    case measure=>simp [intOf];omega
   have hh:(Zv n k !=0)=true:=by simpa using he
   have kK:Hid (Je l 0=Zv n k):=Qq (by rw [uB.out,wX,hh];rfl);clear wX he hn uB;go_wp2_with(go_at_call 102;refine(Sk n _ _).mono ?_;rintro e w1 ⟨rfl,hb⟩);go_ret;exact⟨Kh (by rw [HK.out,kK.out]),(yU.alloc _).trans hb⟩
  obtain rfl:l.length=k:=by omega
  go_wp2_with fail;go_ret;refine⟨Kh ?_,yU⟩;rw [HK.out,uB.out];simp [Je]
def Nd.zero:Nd:=⟨0,0,0,0,0,0⟩
def Wf(f:List Nd):Prop:=∀(i:Nat) (n:Nd),f[i]?=some n->(Qw n.op=true->0<=n.x/\n.x < i)/\(Qc n.op=true->0<=n.y/\n.y < i)
def Nd.with_(n:Nd)(kx ky:Nat):Nd:= { n with x:=bif Qw n.op then(kx:Int)else n.x,y:=bif Qc n.op then(ky:Int)else n.y }
def Zo(o:List Nd)(m:Nd):List Nd:=if m∈o then o else o++ [m]
def fin(f:List Nd):Nat->Nat->List Nd->List Nd×Nat
 |0,_,o=>(o,0)
 |fuel+1,i,o =>
  let n:Nd:=f.getD i Nd.zero
  let r1:=if Qw n.op then fin f fuel n.x.toNat o else(o,0)
  let r2:=if Qc n.op then fin f fuel n.y.toNat r1.1 else(r1.1,0)
  (Zo r2.1 (n.with_ r1.2 r2.2),r2.1.idxOf (n.with_ r1.2 r2.2))
def Za(f:List Nd)(i:Nat)(o:List Nd):List Nd×Nat:=fin f (i+1) i o
def Zz(f:List Nd):Nd:=f.getLastD Nd.zero
theorem Ty {f:List Nd}(h:0 < f.length):f[f.length - 1]?=some (Zz f):=by
 unfold Zz;rw [<-List.getLast?_eq_getElem?];cases f with
 |nil=>simp at h
 |cons a t=>simp [List.getLast?_cons]
theorem Cq {f:List Nd} {i:Nat} {n:Nd}(h:f[i]?=some n):f.getD i Nd.zero=n:=by simp [List.getD,h]
theorem Qbi {f:List Nd}(hf:Wf f):∀(fuel i:Nat) (o:List Nd),i < fuel->i < f.length->fin f fuel i o=Za f i o:=by
 intro fuel
 induction fuel using Nat.strongRecOn with
 |_ fuel ih =>
  intro i o h hi;cases fuel with
  |zero=>omega
  |succ fuel =>
   obtain⟨n,hn⟩:∃n,f[i]?=some n:=⟨_,Qv hi⟩;obtain⟨hx,hy⟩:=hf i n hn;have e:∀(b:Nat) (k:Nat),b < i->i<=k->k<=fuel->∀o,fin f k b o=Za f b o:=fun b k hb hk hkf o=>ih k (by omega) b o (by omega) (by omega)
   unfold Za;simp only [fin,Cq hn];have e1:∀o:List Nd,(if Qw n.op=true then fin f fuel n.x.toNat o else(o,0))=(if Qw n.op=true then fin f i n.x.toNat o else(o,0)):=by
    intro o
    split
    ·rename_i h1;have:=hx h1;rw [e n.x.toNat fuel (by omega) (by omega) (by omega),e n.x.toNat i (by omega) (by omega) (by omega)]
    rfl
   have e2:∀o:List Nd,(if Qc n.op=true then fin f fuel n.y.toNat o else(o,0))=(if Qc n.op=true then fin f i n.y.toNat o else(o,0)):=by
    intro o
    split
    ·rename_i h1;have:=hy h1;rw [e n.y.toNat fuel (by omega) (by omega) (by omega),e n.y.toNat i (by omega) (by omega) (by omega)]
    rfl
   simp only [e1,e2]
def opX(f:List Nd)(n:Nd)(o:List Nd):List Nd×Nat:=if Qw n.op then Za f n.x.toNat o else(o,0)
def opY(f:List Nd)(n:Nd)(o:List Nd):List Nd×Nat:=if Qc n.op then Za f n.y.toNat o else(o,0)
theorem Ff {f:List Nd}(hf:Wf f) {i:Nat} {n:Nd}(hn:f[i]?=some n)(o:List Nd):
 Za f i o=(Zo (opY f n (opX f n o).1).1 (n.with_ (opX f n o).2 (opY f n (opX f n o).1).2),(opY f n (opX f n o).1).1.idxOf (n.with_ (opX f n o).2 (opY f n (opX f n o).1).2)):=by
 have hi:i < f.length:=(List.getElem?_eq_some_iff.1 hn).1;obtain⟨hx,hy⟩:=hf i n hn;have e1:∀o:List Nd,(if Qw n.op=true then fin f i n.x.toNat o else(o,0))=opX f n o:=by
  intro o;unfold opX
  split
  ·rename_i h1;have:=hx h1;exact Qbi hf _ _ _ (by omega) (by omega)
  rfl
 have e2:∀o:List Nd,(if Qc n.op=true then fin f i n.y.toNat o else(o,0))=opY f n o:=by
  intro o;unfold opY
  split
  ·rename_i h1;have:=hy h1;exact Qbi hf _ _ _ (by omega) (by omega)
  rfl
 conv=>lhs;unfold Za fin
 simp only [Cq hn,e1,e2]
theorem Xn(o:List Nd)(m:Nd):o <+: Zo o m:=by
 unfold Zo
 split
 ·exact List.prefix_refl _
 exact List.prefix_append _ _
theorem Qvy(o:List Nd)(m:Nd):m∈Zo o m:=by
 unfold Zo
 split
 ·assumption
 simp
theorem Qb9 {o o':List Nd} {m:Nd}(h:o <+: o')(hm:m∈o):o'.idxOf m=o.idxOf m:=by
 obtain⟨t,rfl⟩:=h;rw [List.idxOf_append,if_pos hm]
theorem Oc(o:List Nd)(m:Nd):(Zo o m).idxOf m=o.idxOf m:=by
 unfold Zo
 split
 ·rfl
 rename_i h;rw [List.idxOf_append,if_neg h,List.idxOf_eq_length h];simp
theorem Dd(o:List Nd)(m:Nd):o.idxOf m < (Zo o m).length:=by
 rw [<-Oc];exact List.idxOf_lt_length_of_mem (Qvy o m)
section
variable {f:List Nd} (hf:Wf f)
include hf
theorem Qyz:∀(i:Nat) (o:List Nd),i < f.length->o <+:(Za f i o).1:=by
 intro i
 induction i using Nat.strongRecOn with
 |_ i ih =>
  intro o hi;obtain⟨n,hn⟩:∃n,f[i]?=some n:=⟨_,Qv hi⟩;obtain⟨hx,hy⟩:=hf i n hn;have p1:o <+:(opX f n o).1:=by
   unfold opX
   split
   ·rename_i h1;have:=hx h1;exact ih _ (by omega) _ (by omega)
   exact List.prefix_refl _
  have p2:∀o,o <+:(opY f n o).1:=by
   intro o;unfold opY
   split
   ·rename_i h1;have:=hy h1;exact ih _ (by omega) _ (by omega)
   exact List.prefix_refl _
  rw [Ff hf hn];exact(p1.trans (p2 _)).trans (Xn _ _)
theorem Iq {i:Nat} {n:Nd}(hn:f[i]?=some n)(o:List Nd):o <+:(opY f n o).1:=by
 have hi:i < f.length:=(List.getElem?_eq_some_iff.1 hn).1;unfold opY
 split
 ·rename_i h1;have:=(hf i n hn).2 h1;exact Qyz hf _ _ (by omega)
 exact List.prefix_refl _
theorem Fs:∀(i:Nat) (o o':List Nd),i < f.length->(Za f i o).1 <+: o'->Za f i o'=(o',(Za f i o).2):=by
 intro i
 induction i using Nat.strongRecOn with
 |_ i ih =>
  intro o o' hi hp;obtain⟨n,hn⟩:∃n,f[i]?=some n:=⟨_,Qv hi⟩;obtain⟨hx,hy⟩:=hf i n hn;have hm:=Qvy (opY f n (opX f n o).1).1 (n.with_ (opX f n o).2 (opY f n (opX f n o).1).2);have mL:=Oc (opY f n (opX f n o).1).1 (n.with_ (opX f n o).2 (opY f n (opX f n o).1).2);have KK:=Xn (opY f n (opX f n o).1).1 (n.with_ (opX f n o).2 (opY f n (opX f n o).1).2);have pY:(opY f n (opX f n o).1).1 <+: o':=by
   rw [Ff hf hn]at hp;exact KK.trans hp
  have pX:(opX f n o).1 <+: o':=(Iq hf hn _).trans pY;have eX:opX f n o'=(o',(opX f n o).2):=by
   unfold opX at pX⊢
   split
   ·rename_i h1;rw [if_pos h1]at pX;have:=hx h1;exact ih _ (by omega) _ _ (by omega) pX
   rfl
  have eY:opY f n o'=(o',(opY f n (opX f n o).1).2):=by
   unfold opY at pY⊢
   split
   ·rename_i h1;rw [if_pos h1]at pY;have:=hy h1;exact ih _ (by omega) _ _ (by omega) pY
   rfl
  rw [Ff hf hn]at hp;rw [Ff hf hn o',Ff hf hn o,eX];simp only [eY];have oR:n.with_ (opX f n o).2 (opY f n (opX f n o).1).2∈o':=hp.subset hm;rw [show Zo o' (n.with_ (opX f n o).2 (opY f n (opX f n o).1).2)=o' from by unfold Zo;rw [if_pos oR]];rw [Qb9 hp hm,mL]
theorem Pi(i:Nat)(o:List Nd)(hi:i < f.length):(Za f i o).2 < (Za f i o).1.length:=by
 obtain⟨n,hn⟩:∃n,f[i]?=some n:=⟨_,Qv hi⟩;rw [Ff hf hn];exact Dd _ _
end
def pot(f o:List Nd):Nat:=o.length+(List.range f.length).countP fun j=>(Za f j o).1.length !=o.length
theorem Qqs {α:Type} {p q:α->Bool} :∀{l:List α},(∀x∈l,p x=true->q x=true)->(∃x∈l,p x=false/\q x=true)->l.countP p < l.countP q
 |[],_,h=>by obtain⟨x,hx,_⟩:=h;cases hx
 |a :: l,RO,h=>by
  have ih:(∃x∈l,p x=false/\q x=true)->l.countP p < l.countP q:=fun h=>Qqs (fun x hx=>RO x (by simp [hx])) h
  have gP:l.countP p<=l.countP q:=List.countP_mono_left fun x hx=>RO x (by simp [hx])
  rw [List.countP_cons,List.countP_cons];obtain⟨x,hx,h1,h2⟩:=h;rcases List.mem_cons.1 hx with rfl|hx
  ·simp only [h1,h2];simp;omega
  have h3:=ih ⟨x,hx,h1,h2⟩;have h4:=RO a (by simp);cases hp:p a
  ·cases hq:q a <;> simp <;> omega
  rw [h4 hp];simp;omega
section
variable {f:List Nd} (hf:Wf f)
include hf
theorem Qmp {j:Nat} {o o':List Nd}(hj:j < f.length)(hp:o <+: o')(h:(Za f j o).1.length=o.length):(Za f j o').1.length=o'.length:=by
 have rF:=Qyz hf j o hj;have e:(Za f j o).1=o:=(rF.eq_of_length h.symm).symm;rw [Fs hf j o o' hj (by rw [e];exact hp)]
theorem Qzg:∀(i:Nat) (o:List Nd),i < f.length->pot f (Za f i o).1<=pot f o:=by
 intro i
 induction i using Nat.strongRecOn with
 |_ i ih =>
  intro o hi;obtain⟨n,hn⟩:∃n,f[i]?=some n:=⟨_,Qv hi⟩;obtain⟨hx,hy⟩:=hf i n hn;have p1:pot f (opX f n o).1<=pot f o:=by
   unfold opX
   split
   ·rename_i h1;have:=hx h1;exact ih _ (by omega) _ (by omega)
   exact Nat.le_refl _
  have p2:∀o,pot f (opY f n o).1<=pot f o:=by
   intro o;unfold opY
   split
   ·rename_i h1;have:=hy h1;exact ih _ (by omega) _ (by omega)
   exact Nat.le_refl _
  refine Qx ?_ (Qx (p2 _) p1);have oI:=Fs hf i o (Za f i o).1 hi (List.prefix_refl _);rw [Ff hf hn o]at oI⊢;have eX:opX f n (opY f n (opX f n o).1).1=((opY f n (opX f n o).1).1,(opX f n o).2):=by
   have hp:=Iq hf hn (opX f n o).1;unfold opX at hp⊢
   split
   ·rename_i h1;rw [if_pos h1]at hp;have:=hx h1;exact Fs hf _ _ _ (by omega) hp
   rfl
  have eY:opY f n (opY f n (opX f n o).1).1=((opY f n (opX f n o).1).1,(opY f n (opX f n o).1).2):=by
   unfold opY
   split
   ·rename_i h1;have:=hy h1;exact Fs hf _ _ _ (by omega) (List.prefix_refl _)
   rfl
  have wW:=Ff hf hn (opY f n (opX f n o).1).1;rw [eX]at wW;simp only [eY]at wW;generalize (opY f n (opX f n o).1).1=o2 at wW oI⊢;generalize n.with_ (opX f n o).2 (opY f n (opX f n o).1).2=m at wW oI⊢;by_cases hm:m∈o2
  ·have:Zo o2 m=o2:=by unfold Zo;rw [if_pos hm]
   rw [this];exact Nat.le_refl _
  have ha:Zo o2 m=o2++ [m]:=by unfold Zo;rw [if_neg hm]
  have hc:=Qqs (l:=List.range f.length) (p:=fun j=>(Za f j (Zo o2 m)).1.length !=(Zo o2 m).length) (q:=fun j=>(Za f j o2).1.length !=o2.length)
   (fun j hj zQ=>by
    have hj':=List.mem_range.1 hj;simp only [bne_iff_ne,ne_eq]at zQ⊢;exact fun h=>zQ (Qmp hf hj' (Xn _ _) h))
   ⟨i,List.mem_range.2 hi,by simp only [bne_eq_false_iff_eq];rw [oI],by simp only [bne_iff_ne,ne_eq];rw [wW,ha];simp⟩
  have hl:(Zo o2 m).length=o2.length+1:=by rw [ha];simp
  show pot f (Zo o2 m)<=pot f o2;unfold pot;omega
end
theorem Wb(f:List Nd):pot f []<=f.length:=by
 unfold pot;have:=List.countP_le_length (p:=fun j=>(Za f j []).1.length !=([]:List Nd).length) (l:=List.range f.length);simp only [List.length_range,List.length_nil]at this⊢;omega
theorem Gs(f o:List Nd):o.length<=pot f o:=Nat.le_add_right _ _
open Go.Maps (Keyed IsMap Tidy has has_put_same has_put_other atKey_put_same atKey_put_other)
def Vs(a:Int):Prop:= -9223372036854775808<=a/\a<=9223372036854775807
def Nd.ok(n:Nd):Prop:=Vs n.op/\Vs n.i/\Vs n.e/\Vs n.g/\Vs n.x/\Vs n.y
theorem Ef {a:Int}(h:Vs a):(Lit.int .i64 a).wf=true:=by
 unfold Vs at h;have h1:IntKind.i64.min= -9223372036854775808:=by decide
 have h2:IntKind.i64.max=9223372036854775807:=by decide
 simp only [Lit.wf,h1,h2,Bool.and_eq_true,decide_eq_true_eq];exact h
theorem Qe9:laidOutB Tryz.prog=true:=by kernel_rfl
theorem Zvd:(71:TypeId) < Tryz.prog.types.size:=of_decide_eq_true (by kernel_rfl)
theorem Zy6:(match Tryz.prog.underlying 71 with|some (.array _ _)|some (.struct _)=>true|_=>false)=true:=by kernel_rfl
theorem Zjn:Tryz.prog.keyTypeAt 2 71=true:=by kernel_rfl
theorem Qe8:Tryz.prog.keyType 71=true:=by kernel_rfl
theorem Qzq:Keyed Tryz.prog 71:=Keyed.of_law (deep_law_laid Qe9 (m:=2) (by omega) Zvd Zjn Zy6)
theorem Qhk:Tryz.prog.cellsOf 71=6:=by kernel_rfl
theorem Zqv:Tryz.prog.cellsOf 3=1:=by kernel_rfl
theorem Zy4:∃m,Tryz.prog.types.size=m+1:=by
 have h:0 < Tryz.prog.types.size:=of_decide_eq_true (by kernel_rfl);exact⟨Tryz.prog.types.size - 1,by omega⟩
def Nz(n:Nd):Lit:=.string (keyBytes [.int .i64 n.op,.int .i64 n.i,.int .i64 n.e,.int .i64 n.g,.int .i64 n.x,.int .i64 n.y])
theorem Oh {n:Nd}(h:n.ok):keyOf Tryz.prog 71 n.val=some (Nz n):=by
 obtain⟨h0,h1,h2,h3,h4,h5⟩:=h;obtain⟨m,hm⟩:=Zy4;have hf:n.val.formed Tryz.prog 71=true:=by simp [Nd.val,Value.formed,Tryz.underlying71,Qhk]
 unfold keyOf;rw [Tryz.underlying71];simp only [Qe8,hf,Bool.and_true,if_true];rw [hm];simp [Program.keyLits,Tryz.underlying71,Tryz.underlying3,Qhk,Zqv,Nd.val,Value.cells,Ef h0,Ef h1,Ef h2,Ef h3,Ef h4,Ef h5,Nz]
theorem Rq {a:Int}(h:Vs a):keyOf Tryz.prog 3 (.int .i64 a)=some (.int .i64 a):=Go.Maps.keyOf_int_mk Tryz.underlying3 (Ef h)
theorem Ur:Keyed Tryz.prog 3:=Go.Maps.int_keyed Tryz.underlying3
theorem Qdf {n:Nd} :WideAt.IsKeyLit (Nz n):=trivial
theorem Qa9 {n m:Nd}(hn:n.ok)(hm:m.ok)(h:Nz n=Nz m):n=m:=by
 have e:n.val=m.val:=Qzq.inj (Oh hn) (by rw [h];exact Oh hm);cases n;cases m
 simpa [Nd.val]using e
abbrev D0:=DataW Unit
theorem Qyo {a:Int}(h:Vs a):(plainElem Tryz.prog 3 (.int .i64 a):Option (D0×List MemPlace))=some (.lit (.int .i64 a),[]):=plainElem_int Tryz.underlying3 (Ef h)
theorem Tb(w:World):(zeroValue 3).run Tryz.prog w=.ok (.int .i64 0) w:=by kernel_rfl
def Nf(w:World)(b:Nat)(o:List Nd):Prop :=
 ∃(D:D0) (m:Nat),w.ownsMap Tryz.prog 71 (plainElem Tryz.prog 3) b m D/\m<=o.length/\∀n:Nd,n.ok->has D (Nz n)=decide (n∈o)/\(n∈o->∀z,D.atKey (Nz n) z=.lit (.int .i64 (o.idxOf n)))
def Mg(D:D0)(f o:List Nd):Prop :=
 ∀i:Nat,has D (.int .i64 i)=true->i < f.length/\Za f i o=(o,(Za f i o).2)/\∀z,D.atKey (.int .i64 i) z=.lit (.int .i64 (Za f i o).2)
def Mn(D:D0)(f:List Nd):Nat:=(List.range f.length).countP fun i:Nat=>has D (.int .i64 i)
def Gd(w:World)(b:Nat)(f o:List Nd):Prop :=
 ∃(D:D0) (m:Nat),w.ownsMap Tryz.prog 3 (plainElem Tryz.prog 3) b m D/\m<=Mn D f/\Mg D f o
theorem Nf.made(w:World):Nf (w.alloc (.map #[] 0)) w.heap.size []:=
 ⟨.map [],0,World.ownsMap_made w _ _ _,Nat.le_refl _,fun n _=>⟨by simp [has],fun h=>by cases h⟩⟩
theorem Gd.made(w:World)(f:List Nd):Gd (w.alloc (.map #[] 0)) w.heap.size f []:=
 ⟨.map [],0,World.ownsMap_made w _ _ _,Nat.zero_le _,fun i h=>by simp [has]at h⟩
theorem Nf.kept {w w':World} {b:Nat} {o:List Nd}(h:Nf w b o)(hb:w'.heap[b]?=w.heap[b]?):Nf w' b o:=by
 obtain⟨D,m,⟨es,clock,h1,h2⟩,h3,h4⟩:=h;exact⟨D,m,⟨es,clock,hb.trans h1,h2⟩,h3,h4⟩
theorem Gd.kept {w w':World} {b:Nat} {f o:List Nd}(h:Gd w b f o)(hb:w'.heap[b]?=w.heap[b]?):Gd w' b f o:=by
 obtain⟨D,m,⟨es,clock,h1,h2⟩,h4⟩:=h;exact⟨D,m,⟨es,clock,hb.trans h1,h2⟩,h4⟩
theorem Nf.lt {w:World} {b:Nat} {o:List Nd}(h:Nf w b o):b < w.heap.size:=by
 obtain⟨D,m,h1,_⟩:=h;exact h1.lt
theorem Gd.lt {w:World} {b:Nat} {f o:List Nd}(h:Gd w b f o):b < w.heap.size:=by
 obtain⟨D,m,h1,_⟩:=h;exact h1.lt
theorem Mg.grow {D:D0} {f o o':List Nd}(hf:Wf f)(h:Mg D f o)(hp:o <+: o'):Mg D f o':=by
 intro i hi;obtain⟨a,e,c⟩:=h i hi;have hg:=Fs hf i o o' a (by rw [e];exact hp);exact⟨a,by rw [hg],by rw [hg];exact c⟩
theorem Gd.grow {w:World} {b:Nat} {f o o':List Nd}(hf:Wf f)(h:Gd w b f o)(hp:o <+: o'):Gd w b f o':=by
 obtain⟨D,m,h1,h2,h3⟩:=h;exact⟨D,m,h1,h2,h3.grow hf hp⟩
theorem Qbh(D:D0)(f:List Nd):Mn D f<=f.length:=by
 have:=List.countP_le_length (p:=fun i:Nat=>has D (.int .i64 i)) (l:=List.range f.length)
 simpa [Mn]using this
theorem Nf.put {w w':World} {b:Nat} {o:List Nd} {n:Nd} {D:D0} {m:Nat}(hk:n.ok)(hn:n∉o)(h:w.ownsMap Tryz.prog 71 (plainElem Tryz.prog 3) b m D)(hm:m<=o.length)
 (hD:∀n:Nd,n.ok->has D (Nz n)=decide (n∈o)/\(n∈o->∀z,D.atKey (Nz n) z=.lit (.int .i64 (o.idxOf n))))
 (h':w'.ownsMap Tryz.prog 71 (plainElem Tryz.prog 3) b (m+1) (D.put (Nz n) (.lit (.int .i64 o.length)))):Nf w' b (o++ [n]):=by
 refine⟨_,_,h',by simp;omega,fun n' sA=> ?_⟩;by_cases e:n'=n
 ·subst e;refine⟨by rw [has_put_same h.isMap Qdf];simp,fun _ z=> ?_⟩;rw [atKey_put_same h.isMap Qdf,List.idxOf_append,if_neg hn];simp
 have zQ:Nz n'≠Nz n:=fun e'=>e (Qa9 sA hk e')
 refine⟨?_,fun sB z=> ?_⟩
 ·rw [has_put_other zQ,(hD n' sA).1];simp [e]
 have ND:n'∈o:=by simpa [e]using sB
 rw [atKey_put_other zQ,(hD n' sA).2 ND,List.idxOf_append,if_pos ND]
theorem Qfc {w:World} {k:TypeId} {R:Value->Option (D0×List MemPlace)} {b n:Nat} {D:D0}(h:w.ownsMap Tryz.prog k R b n D):w.ownsMap Tryz.prog k R b (Go.Maps.size D) D:=by
 obtain⟨es,clock,hb,F,hs,rfl⟩:=h;exact⟨es,clock,hb,F,by simp [Go.Maps.size,length_sorted],rfl⟩
theorem Gd.put {w w':World} {b:Nat} {f o:List Nd} {i m:Nat} {D:D0}(h:w.ownsMap Tryz.prog 3 (plainElem Tryz.prog 3) b m D)(hm:m<=Mn D f)(hD:Mg D f o)
 (hi:i < f.length)(wW:Za f i o=(o,(Za f i o).2))
 (h':w'.ownsMap Tryz.prog 3 (plainElem Tryz.prog 3) b (m+1) (D.put (.int .i64 i) (.lit (.int .i64 (Za f i o).2)))):Gd w' b f o:=by
 have wE:WideAt.IsKeyLit (.int .i64 (i:Int)):=trivial;have other:∀j:Nat,j≠i->(Lit.int .i64 (j:Int))≠.int .i64 (i:Int):=fun j e e'=>e (by injection e' with _ e';omega)
 have LO:=h.tidy Ur;have pC:=h.size_le;have mono:∀j:Nat,has D (.int .i64 j)=true->has (D.put (.int .i64 i) (.lit (.int .i64 (Za f i o).2))) (.int .i64 j)=true:=by
  intro j hj;by_cases e:j=i
  ·subst e;exact has_put_same h.isMap wE _
  rw [has_put_other (other j e)];exact hj
 refine⟨_,_,Qfc h',?_,fun j hj=> ?_⟩
 ·rw [Go.Maps.size_put LO]
  split
  ·exact Qx (Qx pC hm) (List.countP_mono_left fun j _=>mono j)
  rename_i nF;refine Nat.succ_le_of_lt (Nat.lt_of_le_of_lt (Qx pC hm) ?_);exact Qqs (fun j _=>mono j) ⟨i,List.mem_range.2 hi,by simpa using nF,has_put_same h.isMap wE _⟩
 by_cases e:j=i
 ·subst e;exact⟨hi,wW,fun z=>atKey_put_same h.isMap wE _ z⟩
 rw [has_put_other (other j e)]at hj;obtain⟨a,c,d⟩:=hD j hj;exact⟨a,c,fun z=>by rw [atKey_put_other (other j e)];exact d z⟩
open Go.Maps (has)
structure Kp where
 f:Nat
 out:Nat
 done:Nat
 num:Nat
 fin_:Nat
 mn:Nat
 md:Nat
def Kp.caps(K:Kp):Array Value:=#[.pointer (some ⟨K.done,0,none⟩),.pointer (some ⟨K.f,0,none⟩),.pointer (some ⟨K.fin_,0,none⟩),.pointer (some ⟨K.num,0,none⟩),.pointer (some ⟨K.out,0,none⟩)]
structure Fj (K:Kp) (W0 w:World) (A:Option Addr) (c:Nat) (f o:List Nd) (vo:Value):Prop where
 below:Below W0.heap.size W0 w
 nds:Le W0 A c f
 blk_f:w.heap[K.f]?=some (.cells #[.slice A f.length c] 22 (0,0))
 blk_out:w.heap[K.out]?=some (.cells #[vo] 22 (0,0))
 blk_done:w.heap[K.done]?=some (.cells #[.map (some K.md)] 178 (0,0))
 blk_num:w.heap[K.num]?=some (.cells #[.map (some K.mn)] 184 (0,0))
 blk_fin:w.heap[K.fin_]?=some (.cells #[.func (Fn.func 197) #[] K.caps] 109 (0,0))
 row:w.ownsRow W0.heap.size 71 6 vo o.length (o.flatMap Nd.cells)
 nums:Nf w K.mn o
 dones:Gd w K.md f o
 low:W0.heap.size<=K.out/\W0.heap.size<=K.mn/\W0.heap.size<=K.md
 apart:K.f≠K.out
 oks:∀n∈o,n.ok
structure Bm (K:Kp) (w w':World) (vo vo':Value):Prop where
 os:w'.os=w.os
 tape:w'.tape=w.tape
 output:w'.output=w.output
 size:w.heap.size<=w'.heap.size
 block:∀k,k < w.heap.size->k≠K.out->k≠K.mn->k≠K.md->vo.ownBlock≠some k->w'.heap[k]?=w.heap[k]?
 row:∀g,vo'.ownBlock=some g->vo.ownBlock=some g\/w.heap.size<=g
theorem Bm.refl(K:Kp)(w:World)(vo:Value):Bm K w w vo vo:=⟨rfl,rfl,rfl,Nat.le_refl _,fun _ _ _ _ _ _=>rfl,fun _ h=> .inl h⟩
theorem Bm.trans {K:Kp} {a b c:World} {va vb vc:Value}(h:Bm K a b va vb)(k:Bm K b c vb vc):Bm K a c va vc :=
 ⟨k.os.trans h.os,k.tape.trans h.tape,k.output.trans h.output,Qx h.size k.size,
  fun i hi h1 h2 h3 h4=>(k.block i (Qy hi h.size) h1 h2 h3 (fun e=>by
   rcases h.row i e with e'|e'
   ·exact h4 e'
   omega)).trans (h.block i hi h1 h2 h3 h4),
  fun g hg=>by
   rcases k.row g hg with e|e
   ·exact h.row g e
   exact .inr (Qx h.size e)⟩
theorem Bm.of_ext {K:Kp} {a b:World} {vo:Value}(h:Ext a b):Bm K a b vo vo:=⟨h.os,h.tape,h.output,h.size,fun _ hk _ _ _ _=>h.block hk,fun _ h=> .inl h⟩
theorem Qnh {K:Kp} {W0 w:World} {A:Option Addr} {c:Nat} {f o:List Nd} {vo:Value}(h:Fj K W0 w A c f o vo)(zH:f.length<=1000)(i:Nat)(hi:i < f.length)(D:D0)(m:Nat)
 (xL:w.ownsMap Tryz.prog 3 (plainElem Tryz.prog 3) K.md m D)(hD:Mg D f o)(hh:has D (.int .i64 i)=true):
 Calls Tryz.prog 197 (#[.int .i64 i]++K.caps) w fun e w'=>e=.returned (.int .i64 (Za f i o).2)/\w=w':=by
 have cd:=cell_of_one h.blk_done;have wE:=Rq (a:=(i:Int)) ⟨by omega,by omega⟩;have rW:=Qq (hD i hh).2.2;clear hD h;unfold Kp.caps;go_enter Tryz.func197,Tryz.ntmps197;go_wp2_with(at_lookup;refine wpList_lookup_own_ok_int _ rfl _ _ 178 rfl 3 3 .i64 Ur Tryz.underlying178 Tryz.underlying3 (Tb _) K.md m D rfl xL _ _ rfl wE ?_;intro cc yM sP);go_ret;have e1:=(rW.out (.lit (.int .i64 0))).symm.trans yM;injection e1 with e2;injection e2 with _ e3;exact⟨Kh e3.symm,rfl⟩
section
variable {K:Kp} {W0 w w':World} {A:Option Addr} {c:Nat} {f o:List Nd} {vo:Value}
theorem Qf {w:World} {b:Nat} {x:Obj}(h:w.heap[b]?=some x):b < w.heap.size:=(Array.getElem?_eq_some_iff.1 h).1
theorem Fj.lts(h:Fj K W0 w A c f o vo):K.f < w.heap.size/\K.out < w.heap.size/\K.done < w.heap.size/\K.num < w.heap.size/\K.fin_ < w.heap.size/\K.mn < w.heap.size/\K.md < w.heap.size :=
 ⟨Qf h.blk_f,Qf h.blk_out,Qf h.blk_done,Qf h.blk_num,Qf h.blk_fin,h.nums.lt,h.dones.lt⟩
theorem Zp {base:Nat} {e:TypeId} {size n:Nat} {xs:List Value}(h:w.ownsRow base e size vo n xs)(hk:∀g,vo.ownBlock=some g->w'.heap[g]?=w.heap[g]?):w'.ownsRow base e size vo n xs:=by
 obtain⟨h1,h2⟩:=h;refine⟨h1,?_⟩;rcases h2 with h2|⟨g,cap,cur,rfl,hb,hc,hr⟩
 ·exact .inl h2
 exact .inr ⟨g,cap,cur,rfl,hb,(hk g rfl).trans hc,hr⟩
theorem Fj.keep(h:Fj K W0 w A c f o vo)(hb:Below W0.heap.size W0 w')(hk:∀k,k < w.heap.size->(k=K.f\/k=K.out\/k=K.done\/k=K.num\/k=K.fin_\/k=K.mn\/k=K.md\/vo.ownBlock=some k)->w'.heap[k]?=w.heap[k]?):
 Fj K W0 w' A c f o vo:=by
 obtain⟨l1,l2,l3,l4,l5,l6,l7⟩:=h.lts
 exact⟨hb,h.nds,(hk _ l1 (by simp)).trans h.blk_f,(hk _ l2 (by simp)).trans h.blk_out,(hk _ l3 (by simp)).trans h.blk_done,(hk _ l4 (by simp)).trans h.blk_num,(hk _ l5 (by simp)).trans h.blk_fin,
  Zp h.row fun g hg=>hk g (h.row.lt g hg).2 (by simp [hg]),h.nums.kept (hk _ l6 (by simp)),h.dones.kept (hk _ l7 (by simp)),h.low,h.apart,h.oks⟩
theorem Fj.ext(h:Fj K W0 w A c f o vo)(he:Ext w w'):Fj K W0 w' A c f o vo :=
 h.keep (h.below.trans (Below.mono he h.below.size)) fun _ hk _=>he.block hk
end
structure Bf (K:Kp) (W0 we w:World) (A:Option Addr) (c:Nat) (f o:List Nd) (voe vo:Value) (bx bu:Nat) (m:Nd) (ux uy:Bool):Prop where
 env:Fj K W0 w A c f o vo
 step:Bm K we w voe vo
 envlt:K.f < we.heap.size/\K.out < we.heap.size/\K.done < we.heap.size/\K.num < we.heap.size/\K.fin_ < we.heap.size/\K.mn < we.heap.size/\K.md < we.heap.size
 box:w.heap[bx]?=some (.cells #[.int .i64 m.op,.int .i64 m.i,.int .i64 m.e,.int .i64 m.g,.int .i64 m.x,.int .i64 m.y] 71 (0,0))
 use:∃u2 u3 u4 u5 u6,w.heap[bu]?=some (.cells #[.bool ux,.bool uy,u2,u3,u4,u5,u6] 129 (0,0))
 fresh:we.heap.size<=bx/\we.heap.size<=bu/\bx≠bu/\vo.ownBlock≠some bx/\vo.ownBlock≠some bu
section
variable {K:Kp} {W0 we w w':World} {A:Option Addr} {c:Nat} {f o:List Nd} {voe vo:Value} {bx bu:Nat} {m:Nd} {ux uy:Bool}
theorem Vm {b:Nat} {a0 a1 a2 a3 a4 a5:Value} {t:TypeId}(h:w.heap[b]?=some (.cells #[a0,a1,a2,a3,a4,a5] t (0,0))):
 (w.cell? ⟨b,0,none⟩=some a0/\w.cell? ⟨b,1,none⟩=some a1/\w.cell? ⟨b,2,none⟩=some a2/\w.cell? ⟨b,3,none⟩=some a3/\w.cell? ⟨b,4,none⟩=some a4/\w.cell? ⟨b,5,none⟩=some a5)/\(∀j,w.frozen? ⟨b,j,none⟩=false)/\b < w.heap.size :=
 ⟨⟨by simp [World.cell?,h],by simp [World.cell?,h],by simp [World.cell?,h],by simp [World.cell?,h],by simp [World.cell?,h],by simp [World.cell?,h]⟩,fun j=>by simp [World.frozen?,h],Qf h⟩
theorem Zjl {b:Nat} {a0 a1 a2 a3 a4 a5 a6:Value} {t:TypeId}(h:w.heap[b]?=some (.cells #[a0,a1,a2,a3,a4,a5,a6] t (0,0))):w.cell? ⟨b,0,none⟩=some a0/\w.cell? ⟨b,1,none⟩=some a1/\b < w.heap.size :=
 ⟨by simp [World.cell?,h],by simp [World.cell?,h],Qf h⟩
theorem Bf.start(h:Fj K W0 we A c f o vo) {w1:World}(n:Nd)(u2 u3 u4 u5 u6:Value)
 (he:Ext (we.alloc (.cells #[.int .i64 n.op,.int .i64 n.i,.int .i64 n.e,.int .i64 n.g,.int .i64 n.x,.int .i64 n.y] 71)) w1):
 Bf K W0 we (w1.alloc (.cells #[.bool ux,.bool uy,u2,u3,u4,u5,u6] 129)) A c f o vo vo we.heap.size w1.heap.size n ux uy:=by
 have e0:Ext we w1:=(Qz.alloc _).trans he;have zG:we.heap.size < w1.heap.size:=Qy (by simp) he.size;refine⟨h.ext (e0.alloc _),Bm.of_ext (e0.alloc _),h.lts,?_,⟨u2,u3,u4,u5,u6,heap_alloc_new _ _⟩,Nat.le_refl _,e0.size,Nat.ne_of_lt zG,?_,?_⟩
 ·rw [((Ext.refl w1).alloc _).block zG,he.block (by simp)];exact heap_alloc_new _ _
 ·intro e;exact absurd (h.row.lt _ e).2 (by omega)
 intro e;exact absurd (h.row.lt _ e).2 (by omega)
theorem Bf.call {o':List Nd} {vo':Value}(h:Bf K W0 we w A c f o voe vo bx bu m ux uy)(he:Fj K W0 w' A c f o' vo')(hs:Bm K w w' vo vo'):Bf K W0 we w' A c f o' voe vo' bx bu m ux uy:=by
 obtain⟨l1,l2,l3,l4,l5,l6,l7⟩:=h.envlt;obtain⟨f1,f2,f3,f4,f5⟩:=h.fresh;obtain⟨u2,u3,u4,u5,u6,hu⟩:=h.use;have wT:=Qf h.box;have EJ:=Qf hu;refine⟨he,h.step.trans hs,h.envlt,(hs.block _ wT (by omega) (by omega) (by omega) f4).trans h.box,⟨u2,u3,u4,u5,u6,(hs.block _ EJ (by omega) (by omega) (by omega) f5).trans hu⟩,f1,f2,f3,?_,?_⟩
 ·intro e;rcases hs.row _ e with e|e
  ·exact f4 e
  omega
 intro e;rcases hs.row _ e with e|e
 ·exact f5 e
 omega
theorem Bf.store(h:Bf K W0 we w A c f o voe vo bx bu m ux uy)(j:Nat)(u:Value)(m':Nd)
 (hm:(#[.int .i64 m.op,.int .i64 m.i,.int .i64 m.e,.int .i64 m.g,.int .i64 m.x,.int .i64 m.y]:Array Value).setIfInBounds j u=#[.int .i64 m'.op,.int .i64 m'.i,.int .i64 m'.e,.int .i64 m'.g,.int .i64 m'.x,.int .i64 m'.y]):
 Bf K W0 we (w.setCell ⟨bx,j,none⟩ u) A c f o voe vo bx bu m' ux uy:=by
 obtain⟨l1,l2,l3,l4,l5,l6,l7⟩:=h.envlt;obtain⟨f1,f2,f3,f4,f5⟩:=h.fresh;obtain⟨u2,u3,u4,u5,u6,hu⟩:=h.use;have wT:=Qf h.box;have zE:W0.heap.size<=we.heap.size:=Qx h.env.low.1 (Nat.le_of_lt l2);have iD:∀k,k≠bx->(w.setCell ⟨bx,j,none⟩ u).heap[k]?=w.heap[k]?:=fun k hk=>Below.heap_setCell _ _ _ _ hk
 have pC:(w.setCell ⟨bx,j,none⟩ u).heap.size=w.heap.size:=by simp [World.setCell]
 refine⟨h.env.keep (h.env.below.setCell (by show W0.heap.size<=bx;omega) _) fun k _ hk=>iD k ?_,?_,h.envlt,?_,⟨u2,u3,u4,u5,u6,(iD _ (Ne.symm f3)).trans hu⟩,f1,f2,f3,f4,f5⟩
 ·rcases hk with hk|hk|hk|hk|hk|hk|hk|hk
  ·omega
  ·omega
  ·omega
  ·omega
  ·omega
  ·omega
  ·omega
  exact fun e=>f4 (by rw [hk,e])
 ·exact⟨h.step.os,h.step.tape,h.step.output,by rw [pC];exact h.step.size,fun k hk h1 h2 h3 h4=>(iD k (by omega)).trans (h.step.block k hk h1 h2 h3 h4),h.step.row⟩
 have hb:=h.box;simp only [World.setCell,Array.getElem?_modify,hb,if_true,Option.map_some];simp [hm]
theorem Fj.row_apart(h:Fj K W0 w A c f o vo):∀g,vo.ownBlock=some g->g≠K.f/\g≠K.out/\g≠K.done/\g≠K.num/\g≠K.fin_/\g≠K.mn/\g≠K.md:=by
 intro g hg;obtain⟨_,h2⟩:=h.row;rcases h2 with⟨rfl,_⟩|⟨g',cap,cur,rfl,_,hb,_⟩
 ·cases hg
 obtain rfl:g'=g:=by simpa [Value.ownBlock]using hg
 have no:∀{k:Nat} {cs:Array Value} {t:TypeId},w.heap[k]?=some (.cells cs t (0,0))->t≠71->g'≠k:=by
  intro k cs t hk ht e;subst e;rw [hb]at hk;injection hk with hk;injection hk with _ hk;exact ht hk.symm
 have nomap:∀{k:Nat} {es:Array MapEntry} {n:Nat},w.heap[k]?=some (.map es n)->g'≠k:=by
  intro k es n hk e;subst e;rw [hb]at hk;cases hk
 obtain⟨_,_,⟨_,_,hn,_⟩,_⟩:=h.nums;obtain⟨_,_,⟨_,_,hd,_⟩,_⟩:=h.dones;exact⟨no h.blk_f (by decide),no h.blk_out (by decide),no h.blk_done (by decide),no h.blk_num (by decide),no h.blk_fin (by decide),nomap hn,nomap hd⟩
theorem Fj.blks_apart(h:Fj K W0 w A c f o vo):K.out≠K.f/\K.out≠K.done/\K.out≠K.num/\K.out≠K.fin_/\K.out≠K.mn/\K.out≠K.md/\K.mn≠K.f/\K.mn≠K.done/\K.mn≠K.num/\K.mn≠K.fin_/\K.md≠K.f/\K.md≠K.done/\K.md≠K.num/\K.md≠K.fin_:=by
 obtain⟨_,_,⟨_,_,hn,_⟩,_⟩:=h.nums;obtain⟨_,_,⟨_,_,hd,_⟩,_⟩:=h.dones;have no:∀{k k':Nat} {cs cs':Array Value} {t t':TypeId},w.heap[k]?=some (.cells cs t (0,0))->w.heap[k']?=some (.cells cs' t' (0,0))->t≠t'->k≠k':=by
  intro k k' cs cs' t t' hk sA ht e;subst e;rw [hk]at sA;injection sA with sA;injection sA with _ sA;exact ht sA
 have nomap:∀{k k':Nat} {es:Array MapEntry} {n:Nat} {cs:Array Value} {t:TypeId},w.heap[k]?=some (.map es n)->w.heap[k']?=some (.cells cs t (0,0))->k≠k':=by
  intro k k' es n cs t hk sA e;subst e;rw [hk]at sA;cases sA
 exact⟨h.apart.symm,no h.blk_out h.blk_done (by decide),no h.blk_out h.blk_num (by decide),no h.blk_out h.blk_fin (by decide),(nomap hn h.blk_out).symm,(nomap hd h.blk_out).symm,
  nomap hn h.blk_f,nomap hn h.blk_done,nomap hn h.blk_num,nomap hn h.blk_fin,nomap hd h.blk_f,nomap hd h.blk_done,nomap hd h.blk_num,nomap hd h.blk_fin⟩
theorem Bf.added(h:Bf K W0 we w A c f o voe vo bx bu m ux uy)(hf:Wf f)(hm:m∉o)(zO:m.ok) {w4 w6:World} {v':Value} {X:Obj}(zQ:K.mn≠K.md)
 (zP:w4.ownsRow W0.heap.size 71 6 v' (o.length+1) (o.flatMap Nd.cells++m.cells))(hg:(w.alloc X).grownBy w4 vo.ownBlock)(yM:v'.ownBlock=vo.ownBlock\/v'.ownBlock=some (w.alloc X).heap.size)
 {D:D0} {k:Nat}(xL:w.ownsMap Tryz.prog 71 (plainElem Tryz.prog 3) K.mn k D)(hk:k<=o.length)
 (hD:∀n:Nd,n.ok->has D (Nz n)=decide (n∈o)/\(n∈o->∀z,D.atKey (Nz n) z=.lit (.int .i64 (o.idxOf n))))
 (dY:w6.ownsMap Tryz.prog 71 (plainElem Tryz.prog 3) K.mn (k+1) (D.put (Nz m) (.lit (.int .i64 o.length))))(uO:(w4.setCell ⟨K.out,0,none⟩ v').grownBy w6 (some K.mn)):
 Bf K W0 we w6 A c f (o++ [m]) voe v' bx bu m ux uy:=by
 obtain⟨l1,l2,l3,l4,l5,l6,l7⟩:=h.env.lts;obtain⟨e1,e2,e3,e4,e5,e6,e7⟩:=h.envlt;obtain⟨f1,f2,f3,f4,f5⟩:=h.fresh;obtain⟨u2,u3,u4,u5,u6,hu⟩:=h.use;have nE:=h.env.row_apart;obtain⟨b1,b2,b3,b4,b5,b6,b7,b8,b9,b10,b11,b12,b13,b14⟩:=h.env.blks_apart;have ea:Ext w (w.alloc X):=Qz.alloc _;have wB:w.heap.size<=w4.heap.size:=Qx ea.size hg.size;have ZW:(w4.setCell ⟨K.out,0,none⟩ v').heap.size=w4.heap.size:=by simp [World.setCell]
 have k4:∀b,b < w.heap.size->some b≠vo.ownBlock->w4.heap[b]?=w.heap[b]?:=fun b hb zQ=>(hg.block b (Qy hb ea.size) zQ).trans (ea.block hb)
 have k6:∀b,b < w4.heap.size->b≠K.out->b≠K.mn->w6.heap[b]?=w4.heap[b]?:=fun b hb h1 h2 =>
  (uO.block b (by rw [ZW];exact hb) (by simpa using h2)).trans (Below.heap_setCell _ _ _ _ h1)
 have k7:∀b,b < w.heap.size->some b≠vo.ownBlock->b≠K.out->b≠K.mn->w6.heap[b]?=w.heap[b]?:=fun b hb h0 h1 h2=>(k6 b (by omega) h1 h2).trans (k4 b hb h0)
 have ro:∀b,(∀g,vo.ownBlock=some g->g≠b)->some b≠vo.ownBlock:=fun b hb e=>hb b e.symm rfl
 have LW:w4.heap[K.out]?=some (.cells #[vo] 22 (0,0)):=(k4 _ l2 (ro _ fun g hg=>(nE g hg).2.1)).trans h.env.blk_out;have MF:∀g,v'.ownBlock=some g->g≠K.out/\g≠K.mn:=by
  intro g hg;rcases yM with e|e
  ·rw [e]at hg;exact⟨(nE g hg).2.1,(nE g hg).2.2.2.2.2.1⟩
  rw [e]at hg;have:w.heap.size+1=g:=by simpa using hg
  omega
 have wT:=Qf h.box;have EJ:=Qf hu;have lA:Below W0.heap.size W0 w6:=by
  refine⟨uO.os.trans (hg.os.trans h.env.below.os),uO.tape.trans (hg.tape.trans h.env.below.tape),uO.output.trans (hg.output.trans h.env.below.output),?_,?_⟩
  ·have:=h.env.below.size;have:=uO.size;rw [ZW]at this;omega
  intro b hb;have vW:=h.env.low;have:=h.env.below.size;refine(k7 b (by omega) (ro _ fun g hg=> ?_) (by omega) (by omega)).trans (h.env.below.block b hb);have:=(h.env.row.lt g hg).1;omega
 have Q1:w.heap.size<=w6.heap.size:=by
  have:=uO.size;rw [ZW]at this;omega
 have uG:Fj K W0 w6 A c f (o++ [m]) v':=by
  refine⟨lA,h.env.nds,(k7 _ l1 (ro _ fun g hg=>(nE g hg).1) (Ne.symm b1) (Ne.symm b7)).trans h.env.blk_f,?_,(k7 _ l3 (ro _ fun g hg=>(nE g hg).2.2.1) (Ne.symm b2) (Ne.symm b8)).trans h.env.blk_done,
   (k7 _ l4 (ro _ fun g hg=>(nE g hg).2.2.2.1) (Ne.symm b3) (Ne.symm b9)).trans h.env.blk_num,(k7 _ l5 (ro _ fun g hg=>(nE g hg).2.2.2.2.1) (Ne.symm b4) (Ne.symm b10)).trans h.env.blk_fin,
   ?_,?_,?_,h.env.low,h.env.apart,?_⟩
  ·exact(uO.block _ (by rw [ZW];omega) (by simpa using b5)).trans (one_setCell LW)
  ·have:=Zp (w':=w6) zP fun g hg=>k6 g (zP.lt g hg).2 (MF g hg).1 (MF g hg).2
   simpa using this
  ·exact Nf.put zO hm xL hk hD dY
  ·exact(h.env.dones.grow hf (List.prefix_append _ _)).kept (k7 _ l7 (ro _ fun g hg=>(nE g hg).2.2.2.2.2.2) (Ne.symm b6) (Ne.symm zQ))
  intro n hn;rcases List.mem_append.1 hn with hn|hn
  ·exact h.env.oks n hn
  rw [List.mem_singleton.1 hn];exact zO
 refine⟨uG,h.step.trans ⟨uO.os.trans hg.os,uO.tape.trans hg.tape,uO.output.trans hg.output,Q1,fun b hb h1 h2 _ h4=>k7 b hb (Ne.symm h4) h1 h2,fun g hg=> ?_⟩,h.envlt,
  (k7 _ wT (Ne.symm f4) (by omega) (by omega)).trans h.box,⟨u2,u3,u4,u5,u6,(k7 _ EJ (Ne.symm f5) (by omega) (by omega)).trans hu⟩,f1,f2,f3,?_,?_⟩
 ·rcases yM with e|e
  ·exact .inl (by rw [<-e];exact hg)
  rw [e]at hg;have:w.heap.size+1=g:=by simpa using hg
  exact .inr (by omega)
 ·intro e;rcases yM with e'|e'
  ·exact f4 (by rw [<-e'];exact e)
  rw [e']at e;have:w.heap.size+1=bx:=by simpa using e
  omega
 intro e;rcases yM with e'|e'
 ·exact f5 (by rw [<-e'];exact e)
 rw [e']at e;have:w.heap.size+1=bu:=by simpa using e
 omega
theorem Bf.finish(h:Bf K W0 we w A c f o voe vo bx bu m ux uy) {w7:World}(hg:w.grownBy w7 (some K.md))(hd:Gd w7 K.md f o)(zQ:K.mn≠K.md):Fj K W0 w7 A c f o vo/\Bm K we w7 voe vo:=by
 obtain⟨l1,l2,l3,l4,l5,l6,l7⟩:=h.env.lts;have nE:=h.env.row_apart;obtain⟨b1,b2,b3,b4,b5,b6,b7,b8,b9,b10,b11,b12,b13,b14⟩:=h.env.blks_apart;have k7:∀b,b < w.heap.size->b≠K.md->w7.heap[b]?=w.heap[b]?:=fun b hb h1=>hg.block b hb (by simpa using h1)
 have vW:=h.env.low
 have lA:Below W0.heap.size W0 w7:=⟨hg.os.trans h.env.below.os,hg.tape.trans h.env.below.tape,hg.output.trans h.env.below.output,Qx h.env.below.size hg.size,
  fun b hb=>(k7 b (Qy hb h.env.below.size) (by omega)).trans (h.env.below.block b hb)⟩
 refine⟨⟨lA,h.env.nds,(k7 _ l1 (Ne.symm b11)).trans h.env.blk_f,(k7 _ l2 b6).trans h.env.blk_out,(k7 _ l3 (Ne.symm b12)).trans h.env.blk_done,(k7 _ l4 (Ne.symm b13)).trans h.env.blk_num,
  (k7 _ l5 (Ne.symm b14)).trans h.env.blk_fin,Zp h.env.row fun g hg=>k7 g (h.env.row.lt g hg).2 (nE g hg).2.2.2.2.2.2,h.env.nums.kept (k7 _ l6 zQ),hd,h.env.low,h.env.apart,h.env.oks⟩,?_⟩
 exact h.step.trans ⟨hg.os,hg.tape,hg.output,hg.size,fun b hb _ _ h3 _=>k7 b hb h3,fun _ h=> .inl h⟩
end
open Go.Maps (has)
def Qv3(K:Kp)(W0:World)(A:Option Addr)(c:Nat)(f:List Nd)(z:Int):Prop :=
 ∀(w:World) (o:List Nd) (vo:Value),Fj K W0 w A c f o vo->pot f o<=f.length->
  Calls Tryz.prog 197 #[.int .i64 z,.pointer (some ⟨K.done,0,none⟩),.pointer (some ⟨K.f,0,none⟩),.pointer (some ⟨K.fin_,0,none⟩),.pointer (some ⟨K.num,0,none⟩),.pointer (some ⟨K.out,0,none⟩)] w
   fun e w'=>∃vo',e=.returned (.int .i64 (Za f z.toNat o).2)/\Fj K W0 w' A c f (Za f z.toNat o).1 vo'/\Bm K w w' vo vo'
theorem Qcf {f:List Nd} {n:Nd} {o:List Nd}(h:Qw n.op=false):opX f n o=(o,0):=by simp [opX,h]
theorem Qcb {f:List Nd} {n:Nd} {o:List Nd}(h:Qc n.op=false):opY f n o=(o,0):=by simp [opY,h]
theorem Qr9 {f:List Nd} {n:Nd} {o:List Nd}(h:Qw n.op=true):opX f n o=Za f n.x.toNat o:=by simp [opX,h]
theorem Qsq {f:List Nd} {n:Nd} {o:List Nd}(h:Qc n.op=true):opY f n o=Za f n.y.toNat o:=by simp [opY,h]
theorem Qhr {n:Nd} {k:Nat}(h:Qw n.op=false)(hy:Qc n.op=true->0<=n.y):n.with_ k n.y.toNat=n:=by
 unfold Nd.with_;rw [h];cases e:Qc n.op
 ·rfl
 have:=hy e;cases n;simp only [cond_true,cond_false,Nd.mk.injEq,true_and];simp only at this;omega
theorem Zj0(n:Nd)(h:Qc n.op=true->0<=n.y):(bif Qc n.op then((n.y.toNat:Nat):Int)else n.y)=n.y:=by
 cases e:Qc n.op
 ·rfl
 have:=h e;simp only [cond_true];omega
theorem Qsr {n:Nd} {k:Nat}(h:Qw n.op=true)(hy:Qc n.op=true->0<=n.y):
 (#[.int .i64 n.op,.int .i64 n.i,.int .i64 n.e,.int .i64 n.g,.int .i64 n.x,.int .i64 n.y]:Array Value).setIfInBounds 4 (.int .i64 (k:Int))=
  #[.int .i64 (n.with_ k n.y.toNat).op,.int .i64 (n.with_ k n.y.toNat).i,.int .i64 (n.with_ k n.y.toNat).e,.int .i64 (n.with_ k n.y.toNat).g,.int .i64 (n.with_ k n.y.toNat).x,.int .i64 (n.with_ k n.y.toNat).y]:=by
 simp only [Nd.with_,h,cond_true,Zj0 n hy];rfl
theorem Qss {n:Nd} {k1 k2:Nat}(h:Qc n.op=true)(m:Nd)(hm:m=n.with_ k1 n.y.toNat):
 (#[.int .i64 m.op,.int .i64 m.i,.int .i64 m.e,.int .i64 m.g,.int .i64 m.x,.int .i64 m.y]:Array Value).setIfInBounds 5 (.int .i64 (k2:Int))=
  #[.int .i64 (n.with_ k1 k2).op,.int .i64 (n.with_ k1 k2).i,.int .i64 (n.with_ k1 k2).e,.int .i64 (n.with_ k1 k2).g,.int .i64 (n.with_ k1 k2).x,.int .i64 (n.with_ k1 k2).y]:=by
 subst hm;simp only [Nd.with_,h,cond_true];rfl
theorem Qsh {n:Nd} {k1 k2:Nat}(h:Qc n.op=false):n.with_ k1 k2=n.with_ k1 n.y.toNat:=by simp [Nd.with_,h]
theorem Ql4 {n:Nd} {k1:Nat}(h:Qc n.op=true)(hy:0<=n.y):(n.with_ k1 n.y.toNat).y=n.y:=by simp only [Nd.with_,h,cond_true];omega
theorem Qsy {f:List Nd}(hf:Wf f) {i:Nat} {n:Nd}(hn:f[i]?=some n)(o:List Nd):pot f (opX f n o).1<=pot f o:=by
 have hi:i < f.length:=(List.getElem?_eq_some_iff.1 hn).1;unfold opX
 split
 ·rename_i h1;have:=(hf i n hn).1 h1;exact Qzg hf _ _ (by omega)
 exact Nat.le_refl _
theorem Qsv {f:List Nd}(hf:Wf f) {i:Nat} {n:Nd}(hn:f[i]?=some n)(o:List Nd):pot f (opY f n o).1<=pot f o:=by
 have hi:i < f.length:=(List.getElem?_eq_some_iff.1 hn).1;unfold opY
 split
 ·rename_i h1;have:=(hf i n hn).2 h1;exact Qzg hf _ _ (by omega)
 exact Nat.le_refl _
theorem Qwe {f:List Nd}(hf:Wf f) {i:Nat} {n:Nd}(hn:f[i]?=some n) {o o1:List Nd} {k1:Nat}(h:opX f n o=(o1,k1))(zH:f.length<=1000)(hp:pot f o1<=f.length):k1<=1000:=by
 have hi:i < f.length:=(List.getElem?_eq_some_iff.1 hn).1;unfold opX at h
 split at h
 ·rename_i h1;have h2:=(hf i n hn).1 h1;have h3:=Pi hf n.x.toNat o (by omega);rw [h]at h3;have:=Gs f o1;simp only at h3;omega
 injection h with _ h;omega
theorem Qww {f:List Nd}(hf:Wf f) {i:Nat} {n:Nd}(hn:f[i]?=some n) {o o1:List Nd} {k1:Nat}(h:opY f n o=(o1,k1))(zH:f.length<=1000)(hp:pot f o1<=f.length):k1<=1000:=by
 have hi:i < f.length:=(List.getElem?_eq_some_iff.1 hn).1;unfold opY at h
 split at h
 ·rename_i h1;have h2:=(hf i n hn).2 h1;have h3:=Pi hf n.y.toNat o (by omega);rw [h]at h3;have:=Gs f o1;simp only at h3;omega
 injection h with _ h;omega
theorem Qsc {n:Nd} {k1 k2:Nat}(h:n.ok)(h1:k1<=1000)(h2:k2<=1000):(n.with_ k1 k2).ok:=by
 obtain⟨a,b,c,d,e,g⟩:=h;refine⟨a,b,c,d,?_,?_⟩
 ·show Vs (bif Qw n.op then(k1:Int)else n.x);cases Qw n.op
  ·exact e
  exact⟨by simp only [cond_true];omega,by simp only [cond_true];omega⟩
 show Vs (bif Qc n.op then(k2:Int)else n.y);cases Qc n.op
 ·exact g
 exact⟨by simp only [cond_true];omega,by simp only [cond_true];omega⟩
theorem Qm4 {f:List Nd}(hf:Wf f) {i:Nat} {n:Nd}(hn:f[i]?=some n) {o o1 o2:List Nd} {k1 k2:Nat}(h1:opX f n o=(o1,k1))(h2:opY f n o1=(o2,k2)):
 Za f i o=(Zo o2 (n.with_ k1 k2),o2.idxOf (n.with_ k1 k2)):=by
 rw [Ff hf hn,h1];simp only [h2]
theorem Qs {w:World} {base:Nat} {e:TypeId} {size n:Nat} {v:Value} {xs:List Value}(h:w.ownsRow base e size v n xs):∃A c,v=.slice A n c:=by
 rcases h.2 with⟨rfl,rfl⟩|⟨g,cap,cur,rfl,_⟩
 ·exact⟨_,_,rfl⟩
 exact⟨_,_,rfl⟩
theorem Qli:(Tryz.prog.info? 71).map (fun i=>(i.zero,i.size,i.bytes))=some (some Nd.zero.val,6,48):=by kernel_rfl
theorem Qh5 {f o o2:List Nd} {mm:Nd} {i:Nat}(hf:Wf f)(hi:i < f.length)(wW:Za f i o=(Zo o2 mm,o2.idxOf mm)) {w w':World} {b m:Nat} {D:D0}
 (h:w.ownsMap Tryz.prog 3 (plainElem Tryz.prog 3) b m D)(hm:m<=Mn D f)(hD:Mg D f (Zo o2 mm))
 (h':w'.ownsMap Tryz.prog 3 (plainElem Tryz.prog 3) b (m+1) (D.put (.int .i64 i) (.lit (.int .i64 (o2.idxOf mm:Nat))))):Gd w' b f (Zo o2 mm):=by
 have vH:=Fs hf i o (Zo o2 mm) hi (by rw [wW];exact List.prefix_refl _);rw [wW]at vH;refine Gd.put h hm hD hi ?_ ?_
 ·rw [vH]
 rw [vH];exact h'
theorem Qez(w:World)(m:Nd):∀j u,m.cells[j]?=some u->
 (w.alloc (.cells #[.int .i64 m.op,.int .i64 m.i,.int .i64 m.e,.int .i64 m.g,.int .i64 m.x,.int .i64 m.y] 71)).cell? ((⟨w.heap.size,0,none⟩:Addr).add j)=some u:=by
 intro j u hj;have h:=heap_alloc_new w (.cells #[.int .i64 m.op,.int .i64 m.i,.int .i64 m.e,.int .i64 m.g,.int .i64 m.x,.int .i64 m.y] 71);have e:((⟨w.heap.size,0,none⟩:Addr).add j)=⟨w.heap.size,j,none⟩:=by
  unfold Addr.add
  split
  ·rename_i h0;rw [h0]
  simp
 rw [e];simp only [World.cell?,h];rw [<-hj];simp [Nd.cells]
theorem Oi(m:Nd):∀u∈m.cells,u.oneCell'=true:=by
 intro u hu;simp only [Nd.cells,List.mem_cons,List.mem_nil_iff,or_false]at hu;rcases hu with rfl|rfl|rfl|rfl|rfl|rfl <;> rfl
theorem Qvs {w w':World} {P:Program} {k:TypeId} {R:Value->Option (D0×List MemPlace)} {b n:Nat} {D:D0}(h:w.ownsMap P k R b n D)(hb:w'.heap[b]?=w.heap[b]?):w'.ownsMap P k R b n D:=by
 obtain⟨es,clock,h1,h2⟩:=h;exact⟨es,clock,hb.trans h1,h2⟩
theorem Qbv {K:Kp} {W0 we w w4:World} {A:Option Addr} {c:Nat} {f o:List Nd} {voe vo:Value} {bx bu:Nat} {m:Nd} {ux uy:Bool} {X:Obj}(h:Bf K W0 we w A c f o voe vo bx bu m ux uy)
 (hg:(w.alloc X).grownBy w4 vo.ownBlock):w.heap.size<=w4.heap.size/\w4.heap[K.out]?=some (.cells #[vo] 22 (0,0))/\
  w4.heap[bx]?=some (.cells #[.int .i64 m.op,.int .i64 m.i,.int .i64 m.e,.int .i64 m.g,.int .i64 m.x,.int .i64 m.y] 71 (0,0))/\
  w4.heap[K.num]?=some (.cells #[.map (some K.mn)] 184 (0,0))/\w4.heap[K.mn]?=w.heap[K.mn]?/\K.num≠K.out/\K.out≠K.num/\bx≠K.out/\K.mn≠K.out:=by
 obtain⟨l1,l2,l3,l4,l5,l6,l7⟩:=h.env.lts;obtain⟨e1,e2,e3,e4,e5,e6,e7⟩:=h.envlt;obtain⟨f1,f2,f3,f4,f5⟩:=h.fresh;have nE:=h.env.row_apart;obtain⟨b1,b2,b3,b4,b5,b6,b7,b8,b9,b10,b11,b12,b13,b14⟩:=h.env.blks_apart;have ea:Ext w (w.alloc X):=Qz.alloc _;have k4:∀b,b < w.heap.size->some b≠vo.ownBlock->w4.heap[b]?=w.heap[b]?:=fun b hb zQ=>(hg.block b (Qy hb ea.size) zQ).trans (ea.block hb)
 have ro:∀b,(∀g,vo.ownBlock=some g->g≠b)->some b≠vo.ownBlock:=fun b hb e=>hb b e.symm rfl
 exact⟨Qx ea.size hg.size,(k4 _ l2 (ro _ fun g hg=>(nE g hg).2.1)).trans h.env.blk_out,(k4 _ (Qf h.box) (Ne.symm f4)).trans h.box,
  (k4 _ l4 (ro _ fun g hg=>(nE g hg).2.2.2.1)).trans h.env.blk_num,k4 _ l6 (ro _ fun g hg=>(nE g hg).2.2.2.2.2.1),Ne.symm b3,b3,by omega,Ne.symm b5⟩
theorem Zze {K:Kp} {W0 we w:World} {A:Option Addr} {c:Nat} {f o2:List Nd} {voe vo:Value} {bx bu:Nat} {m:Nd} {ux uy:Bool}(_h:Bf K W0 we w A c f (Zo o2 m) voe vo bx bu m ux uy)(hp:pot f o2<=f.length)(zH:f.length<=1000):
 o2.idxOf m < 2000:=by
 have h1:=Dd o2 m;have h2:=Gs f o2;have h3:(Zo o2 m).length<=o2.length+1:=by
  unfold Zo
  split
  ·omega
  simp
 omega
theorem Qtc {K:Kp} {W0 w:World} {A:Option Addr} {c:Nat} {f o:List Nd} {vo:Value}(hf:Wf f)(zO:∀n∈f,n.ok)(h:Fj K W0 w A c f o vo)(zH:f.length<=1000)(i:Nat)(n:Nd)(hn:f[i]?=some n)(D:D0)(m:Nat)
 (xL:w.ownsMap Tryz.prog 3 (plainElem Tryz.prog 3) K.md m D)(hD:Mg D f o)(nF:has D (.int .i64 i)=false)(zQ:K.mn≠K.md)(oA:pot f o<=f.length)
 (ih:∀z:Int,0<=z->z < i->Qv3 K W0 A c f z)(ux uy:Bool)(pU:Qw n.op=ux)(sQ:Qc n.op=uy):
 Calls Tryz.prog 197 #[.int .i64 i,.pointer (some ⟨K.done,0,none⟩),.pointer (some ⟨K.f,0,none⟩),.pointer (some ⟨K.fin_,0,none⟩),.pointer (some ⟨K.num,0,none⟩),.pointer (some ⟨K.out,0,none⟩)] w
  fun e w'=>∃vo',e=.returned (.int .i64 (Za f i o).2)/\Fj K W0 w' A c f (Za f i o).1 vo'/\Bm K w w' vo vo':=by
 have hi:i < f.length:=(List.getElem?_eq_some_iff.1 hn).1;have cd:=cell_of_one h.blk_done;have cf:=cell_of_one h.blk_f;obtain⟨l1,l2,l3,l4,l5,l6,l7⟩:=h.lts;have wE:=Rq (a:=(i:Int)) ⟨by omega,by omega⟩;obtain⟨ad,rfl,zG,zJ⟩:=h.nds.2.2 (by intro e;rw [e]at hi;simp at hi);have OB:=h.nds.1;have eS:=h.nds.2.1;unfold maxLen at eS;obtain⟨c0,c1,c2,c3,c4,c5⟩:=(zJ i n hn).keep fun p hp=>h.below.cell (p:=p) (by rw [hp,Qr];exact zG)
 have H:=Qq h;have HN:=Qq hn;have oK:=Qq pU;have oW:=Qq sQ;have IH:=Qq ih;have HD:=Qq hD;have HF:=Qq hf;have zD:=Qq zO;clear h hn pU sQ ih hD zJ hf zO;go_enter Tryz.func197,Tryz.ntmps197;go_upto_region 6 with(first|(at_lookup;refine wpList_lookup_own_ok_int _ rfl _ _ 178 rfl 3 3 .i64 Ur Tryz.underlying178 Tryz.underlying3 (Tb _) K.md m D rfl xL _ _ rfl wE ?_;intro cc yM sP;clear yM sP)|(go_at_call 161;refine(Yw _ _ _ _ _ _ _ _ oK.out oW.out rfl rfl rfl rfl rfl _).mono ?_;rintro e w1 ⟨rfl,hb⟩));have oC:=Bf.start (ux:=ux) (uy:=uy) H.out n (.bool (Zg n.op)) (.bool (Qo n.op)) (.bool (Zk n.op)) (.bool (Qi n.op)) (.int .i64 (Vf n.op)) hb
 go_cut [34] (fun s34 wx=>s34=.bool ux/\Bf K W0 w wx (some ad) c f o vo vo w.heap.size w1.heap.size n ux uy)
 case first =>
  obtain⟨u2,u3,u4,u5,u6,hu⟩:=oC.use;obtain⟨d0,d1,d2⟩:=Zjl hu;go_wp2_with fail;go_meet;exact⟨rfl,oC⟩
 case rest =>
  obtain⟨rfl,oC⟩:=hcut;have HP:=Qq oA;clear oA;go_upto_if 34 with(fail);go_cut [] (fun wx=>∃vo1,Bf K W0 w wx (some ad) c f (opX f n o).1 vo vo1 w.heap.size w1.heap.size (n.with_ (opX f n o).2 n.y.toNat) ux uy)
  case first =>
   cases ux
   ·go_wp2_with fail;go_meet;exact⟨vo,by rw [Qcf oK.out,Qhr oK.out (fun e=>((HF.out i n HN.out).2 e).1)];exact oC⟩
   obtain⟨⟨d0,d1,d2,d3,d4,d5⟩,dfr,dlt⟩:=Vm oC.box;have dfin:=cell_of_one oC.env.blk_fin;unfold Kp.caps at dfin;obtain⟨yV,zN⟩:=(HF.out i n HN.out).1 oK.out;have HM:=Qq oC;clear oC;go_wp2_with fail;refine(IH.out n.x yV zN _ _ _ HM.out.env HP.out).mono ?_;rintro e w2 ⟨vo1,rfl,uG,vT⟩;have vU:=Qq (HM.out.call uG vT);clear uG vT d0 d1 d2 d3 d4 d5 dfr dlt dfin;obtain⟨⟨d0,d1,d2,d3,d4,d5⟩,dfr,dlt⟩:=Vm vU.out.box;go_wp2_with fail;go_meet;refine⟨vo1,?_⟩;rw [Qr9 oK.out];exact vU.out.store 4 _ _ (Qsr oK.out (fun e=>((HF.out i n HN.out).2 e).1))
  case rest =>
   obtain⟨vo1,uW⟩:=hcut;have iV:Hid (pot f (opX f n o).1<=f.length):=Qq (Qx (Qsy HF.out HN.out o) HP.out);obtain⟨o1,k1,TV⟩:∃o1 k1,opX f n o=(o1,k1):=⟨_,_,rfl⟩;have vA:=Qq TV;rw [TV]at uW iV;simp only at uW iV;clear TV oC cd cf c0 c1 c2 c3 c4 c5 wE xL nF hb;obtain⟨u2,u3,u4,u5,u6,hu⟩:=uW.use;obtain⟨d0,d1,d2⟩:=Zjl hu;have HM:=Qq uW;clear uW hu;go_upto_if 41 with(fail);go_cut [] (fun wx=>∃vo2,Bf K W0 w wx (some ad) c f (opY f n o1).1 vo vo2 w.heap.size w1.heap.size (n.with_ k1 (opY f n o1).2) ux uy)
   case first =>
    clear d0 d1 d2;cases uy
    ·go_wp2_with fail;go_meet;exact⟨vo1,by rw [Qcb oW.out,Qsh oW.out];exact HM.out⟩
    have hy:=(HF.out i n HN.out).2 oW.out;obtain⟨ZI,JI⟩:=hy;obtain⟨⟨d0,d1,d2,d3,d4,d5⟩,dfr,dlt⟩:=Vm HM.out.box;rw [Ql4 oW.out ZI]at d5;have dfin:=cell_of_one HM.out.env.blk_fin;unfold Kp.caps at dfin;go_wp2_with fail;refine(IH.out n.y ZI JI _ _ _ HM.out.env iV.out).mono ?_;rintro e w2 ⟨vo2,rfl,uG,vT⟩;have vU:=Qq (HM.out.call uG vT);clear uG vT d0 d1 d2 d3 d4 d5 dfr dlt dfin;obtain⟨⟨d0,d1,d2,d3,d4,d5⟩,dfr,dlt⟩:=Vm vU.out.box;go_wp2_with fail;go_meet;refine⟨vo2,?_⟩;rw [Qsq oW.out];exact vU.out.store 5 _ _ (Qss oW.out _ rfl)
   case rest =>
    clear d0 d1 d2;obtain⟨vo2,wL⟩:=hcut;have iT:Hid (pot f (opY f n o1).1<=f.length):=Qq (Qx (Qsv HF.out HN.out o1) iV.out);obtain⟨o2,k2,gN⟩:∃o2 k2,opY f n o1=(o2,k2):=⟨_,_,rfl⟩;have YS:=Qq gN;rw [gN]at wL iT;simp only at wL iT;clear gN;have yP:k1<=1000:=Qwe HF.out HN.out vA.out zH iV.out;have wM:k2<=1000:=Qww HF.out HN.out YS.out zH iT.out;have oM:=Qq (Qsc (zD.out n (List.mem_of_getElem? HN.out)) yP wM);have vB:=Qq (Qm4 HF.out HN.out vA.out YS.out);clear yP wM;generalize n.with_ k1 k2=mm at wL oM vB;obtain⟨D2,q2,rN,TK,Y0⟩:=wL.env.nums
    obtain⟨⟨d0,d1,d2,d3,d4,d5⟩,dfr,dlt⟩:=Vm wL.box;have dnum:=cell_of_one wL.env.blk_num;have eM:keyOf Tryz.prog 71 (.agg #[.int .i64 mm.op,.int .i64 mm.i,.int .i64 mm.e,.int .i64 mm.g,.int .i64 mm.x,.int .i64 mm.y])=some (Nz mm):=Oh oM.out;have bW:=Qq Y0;have HM:=Qq wL;clear Y0 wL;go_upto_if 54 with(at_lookup;refine wpList_lookup_own_ok_int _ rfl _ _ 184 rfl 71 3 .i64 Qzq Tryz.underlying184 Tryz.underlying3 (Tb _) K.mn q2 D2 rfl rN _ _ rfl eM ?_;intro c2 yM sP);have kA:=Qq yM;clear yM sP;go_cut [13,14] (fun s13 _ wx=>s13=.int .i64 (o2.idxOf mm:Nat)/\∃vo3,Bf K W0 w wx (some ad) c f (Zo o2 mm) vo vo3 w.heap.size w1.heap.size mm ux uy)
    case first =>
     by_cases sB:mm∈o2
     ·have hh:has D2 (Nz mm)=true:=by rw [(bW.out mm oM.out).1];simpa using sB
      have XD:=Qq (show Zo o2 mm=o2 by unfold Zo;rw [if_pos sB]);have VO:=Qq (((bW.out mm oM.out).2 sB (.lit (.int .i64 0))).symm.trans kA.out);clear sB;rw [hh];go_wp2_with fail;go_meet;have e1:=VO.out;injection e1 with e1;injection e1 with _ e1;exact⟨by rw [e1],vo2,by rw [XD.out];exact HM.out⟩
     have hh:has D2 (Nz mm)=false:=by rw [(bW.out mm oM.out).1];simpa using sB
     have WN:=Qq sB;have XD:=Qq (show Zo o2 mm=o2++ [mm] by unfold Zo;rw [if_neg sB]);have bQ:=Qq (List.idxOf_eq_length sB);clear sB;rw [hh];have zP:=HM.out.env.row;obtain⟨Ao,co,rfl⟩:∃Ao co,vo2=.slice Ao o2.length co:=Qs zP;have dout:=cell_of_one HM.out.env.blk_out;obtain⟨i0,jI,zB,nU,kE⟩:=info_parts Qli;have MR:o2.length<=1000:=Qx (Gs f o2) (Qx iT.out zH);have xN:o2.length+1<=maxLen:=by unfold maxLen;omega
     have xJ:(o2.length+1)*48<=140737488355328:=by omega
     have OC:∀X,W0.heap.size<=(wc.alloc X).heap.size:=fun X=>by
      have:=HM.out.env.below.size;simp;omega
     go_wp2_with(at_builtin;refine wpList_append_own_at _ rfl _ _ 22 rfl W0.heap.size 71 i0 Nd.zero.val 6 48 Tryz.underlying22 jI zB nU kE rfl (by decide) _ _ _ rfl (zP.alloc _) ⟨wc.heap.size,0,none⟩ 1 1 mm.cells rfl rfl (Qez wc mm) (Oi mm) xN xJ (OC _) ?_);intro v' w4 yG yL _ uH;obtain⟨A',c',rfl⟩:=Qs yG;obtain⟨hsz4,kout,kbox,knum,kmap,ke1,ke2,ke3,ke4⟩:=Qbv HM.out yL;clear d0 d1 d2 d3 d4 d5 dfr dlt dnum dout;obtain⟨⟨d0,d1,d2,d3,d4,d5⟩,dfr,dlt⟩:=Vm kbox;have dout:=cell_of_one kout;have dfree:=free_of_one kout;have dnum:=cell_of_one knum;have RX:(plainElem Tryz.prog 3 (.int .i64 ((o2.length:Nat):Int)):Option (D0×List MemPlace))=some (.lit (.int .i64 ((o2.length:Nat):Int)),[]):=Qyo ⟨by omega,by omega⟩
     have LV:=(Qvs rN kmap).setCell (a:=⟨K.out,0,none⟩) ke4 (.slice A' (o2.length+1) c');go_wp2_with(at_mapUpdate;refine wpList_mapUpdate_own _ rfl _ _ _ 184 rfl 71 3 Qzq Tryz.underlying184 _ K.mn q2 D2 rfl LV (by unfold maxLen;omega) _ _ _ rfl rfl eM _ [] RX ?_;intro w6 qJ wP);go_meet;refine⟨by rw [bQ.out],.slice A' (o2.length+1) c',?_⟩;rw [XD.out];exact HM.out.added HF.out WN.out oM.out zQ yG yL (uH.imp id fun e=>by rw [e];simp) rN TK bW.out qJ wP
    case rest =>
     clear d0 d1 d2 d3 d4 d5 dfr dlt dnum rN eM;obtain⟨rfl,vo3,jF⟩:=hcut;obtain⟨D3,q3,xX,hq3,V9⟩:=jF.env.dones;have ddone:=cell_of_one jF.env.blk_done;have RM:=Qbh D3 f;have MY:=Rq (a:=(i:Int)) ⟨by omega,by omega⟩;have JD:=Qq V9;have mX:=Qq jF;have mL:o2.idxOf mm < 2000:=Zze mX.out iT.out zH;have RX:(plainElem Tryz.prog 3 (.int .i64 ((o2.idxOf mm:Nat):Int)):Option (D0×List MemPlace))=some (.lit (.int .i64 ((o2.idxOf mm:Nat):Int)),[]):=Qyo ⟨by omega,by omega⟩;clear V9 jF;go_wp2_with(at_mapUpdate;refine wpList_mapUpdate_own _ rfl _ _ _ 178 rfl 3 3 Ur Tryz.underlying178 _ K.md q3 D3 rfl xX (by unfold maxLen;omega) _ _ _ rfl rfl MY _ [] RX ?_;intro w7 zW zX)
     have QR:=Qq (Qh5 HF.out hi vB.out xX hq3 JD.out zW);have QQ:=Qq (mX.out.finish zX QR.out zQ);go_ret;refine⟨vo3,Kh ?_,?_,QQ.out.2⟩
     ·rw [vB.out]
     rw [vB.out];exact QQ.out.1
open Go.Maps (has)
theorem Qtp {K:Kp} {W0:World} {A:Option Addr} {c:Nat} {f:List Nd}(hf:Wf f)(zO:∀n∈f,n.ok)(zH:f.length<=1000)(zQ:K.mn≠K.md):
 ∀i:Nat,i < f.length->Qv3 K W0 A c f i:=by
 intro i
 induction i using Nat.strongRecOn with
 |_ i ih =>
  intro hi w o vo uG oA;obtain⟨n,hn⟩:∃n,f[i]?=some n:=⟨_,Qv hi⟩;obtain⟨D,m,xL,_,hD⟩:=uG.dones;rw [Int.toNat_natCast];cases hh:has D (.int .i64 i)
  ·refine Qtc hf zO uG zH i n hn D m xL hD hh zQ oA (fun z h0 h1=> ?_) _ _ rfl rfl;obtain⟨j,rfl⟩:=Int.eq_ofNat_of_zero_le h0;exact ih j (by omega) (by omega)
  refine(Qnh uG zH i hi D m xL hD hh).mono ?_;rintro e w' ⟨rfl,rfl⟩;refine⟨vo,rfl,?_,Bm.refl _ _ _⟩;have:=(hD i hh).2.1;rw [this];exact uG
def Kp.at_(s:Nat):Kp:=⟨s,s+1,s+1+1+1+1+1,s+1+1+1,s+1+1+1+1+1+1,s+1+1,s+1+1+1+1⟩
def Ph(w:World)(A:Option Addr)(c n:Nat):World :=
 ((((((w.alloc (Obj.cells #[Value.slice A n c] 22)).alloc (Obj.cells #[Value.slice none 0 0] 22)).alloc (Obj.map #[] 0)).alloc (Obj.cells #[Value.map (some (w.heap.size+1+1))] 184)).alloc
   (Obj.map #[] 0)).alloc (Obj.cells #[Value.map (some (w.heap.size+1+1+1+1))] 178)).alloc
   (Obj.cells #[Value.func (Fn.func 197) #[] (Kp.at_ w.heap.size).caps] 109)
theorem Ls {w w':World} {o:Obj} {k:Nat}(h:Ext (w.alloc o) w')(hk:k=w.heap.size):w'.heap[k]?=some o:=by
 subst hk;exact(h.block (by simp)).trans (heap_alloc_new w o)
theorem Qhj(w:World)(A:Option Addr)(c:Nat)(f:List Nd)(h:Le w A c f):Fj (Kp.at_ w.heap.size) w (Ph w A c f.length) A c f [] (.slice none 0 0):=by
 have hb:Below w.heap.size w (Ph w A c f.length):=((((((((Ext.refl w).alloc _).alloc _).alloc _).alloc _).alloc _).alloc _).alloc _);refine⟨hb,h,Ls ((((((Qz.alloc _).alloc _).alloc _).alloc _).alloc _).alloc _) rfl,Ls (((((Qz.alloc _).alloc _).alloc _).alloc _).alloc _) (by simp [Kp.at_]),Ls (Qz.alloc _) (by simp [Kp.at_]),Ls (((Qz.alloc _).alloc _).alloc _) (by simp [Kp.at_]),Ls Qz (by simp [Kp.at_]),World.ownsRow_nil _ _ _ _,?_,?_,?_,?_,by simp⟩
 ·have h2:(Ph w A c f.length).heap[(Kp.at_ w.heap.size).mn]?=some (.map #[] 0):=Ls ((((Qz.alloc _).alloc _).alloc _).alloc _) (by simp [Kp.at_]);exact⟨.map [],0,⟨#[],0,h2,⟨by simp,MapKept.stamped_empty 0,by simp⟩,Nat.le_refl _,rfl⟩,Nat.le_refl _,fun n _=>⟨by simp [has],fun h=>by cases h⟩⟩
 ·have h2:(Ph w A c f.length).heap[(Kp.at_ w.heap.size).md]?=some (.map #[] 0):=Ls ((Qz.alloc _).alloc _) (by simp [Kp.at_]);exact⟨.map [],0,⟨#[],0,h2,⟨by simp,MapKept.stamped_empty 0,by simp⟩,Nat.le_refl _,rfl⟩,Nat.zero_le _,fun i h=>by simp [has]at h⟩
 ·simp only [Kp.at_];omega
 simp only [Kp.at_];omega
theorem El(f:List Nd)(A:Option Addr)(c r:Nat)(w:World)(hf:Wf f)(zO:∀n∈f,n.ok)(zH:f.length<=1000)(hr:r < f.length)(h:Le w A c f):
 Calls Tryz.prog 162 #[.slice A f.length c,.int .i64 r] w fun e w'=>∃v,e=.returned v/\w'.ownsRow w.heap.size 71 6 v (Za f r []).1.length ((Za f r []).1.flatMap Nd.cells)/\(∀n∈(Za f r []).1,n.ok)/\Ext w w':=by
 have rY:= @run_makeMap Tryz.prog;have cM:∀(fn:Fn) (first cap:Array Value) (w:World),(Instr.makeFunc fn first cap).run Tryz.prog w=.ok (.func fn first cap) w:=fun _ _ _ _=>rfl
 have HE:=Qq (Qhj w A c f h);have HF:=Qq (Qtp (K:=Kp.at_ w.heap.size) (W0:=w) (A:=A) (c:=c) hf zO zH (by simp only [Kp.at_];omega) r hr _ _ _ HE.out (Wb f));clear hf zO h;go_enter Tryz.func162,Tryz.ntmps162;go_wp2_with fail;refine HF.out.mono ?_;rw [Int.toNat_natCast];rintro e w1 ⟨vo',rfl,uG,_⟩;have WV:=Qq uG;have yC:=cell_of_one uG.blk_out;simp only [Kp.at_]at yC;obtain⟨Ao,co,rfl⟩:=Qs uG.row;clear uG;go_wp2_with fail;go_ret;exact⟨_,rfl,WV.out.row,WV.out.oks,WV.out.below⟩
end Go.Proofs.YtkmclcmnoicagaaGreatDoor
