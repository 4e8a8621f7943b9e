/- Canonical lists: the walk from a node, without a memory of what is done; it is monotone and may be repeated. -/
import Derived.Test.YtkmclcmnoicagaaGreatDoorT04
import Derived.Maps.OwnSet
import Derived.DeepKeys4
import Derived.OneCell
import Derived.Deep.DeepCutAuto
import Derived.Deep.RegionWith
import Derived.Laws.EntriesVeiled
namespace Go.Proofs.YtkmclcmnoicagaaGreatDoor
set_option maxRecDepth 100000
set_option maxHeartbeats 128000000
def Nd.zero:Nd:=⟨0,0,0,0,0,0⟩
def Wf(f:List Nd):Prop:=∀(i:Nat) (n:Nd),f[i]?=some n->(Qh n.op=true->0<=n.x/\n.x < i)/\(Qc n.op=true->0<=n.y/\n.y < i)
def Nd.with_(n:Nd)(kx ky:Nat):Nd:= { n with x:=bif Qh n.op then(kx:Int)else n.x,y:=bif Qc n.op then(ky:Int)else n.y }
def Zh(o:List Nd)(m:Nd):List Nd:=if m∈o then o else o++ [m]
def fin(f:List Nd):Nat->Nat->List Nd->List Nd×Nat
 |0,_,o=>(o,0)
 |fuel+1,i,o =>
  let n:Nd:=f.getD i Nd.zero
  let r1:=if Qh n.op then fin f fuel n.x.toNat o else(o,0)
  let r2:=if Qc n.op then fin f fuel n.y.toNat r1.1 else(r1.1,0)
  (Zh r2.1 (n.with_ r1.2 r2.2),r2.1.idxOf (n.with_ r1.2 r2.2))
def Zt(f:List Nd)(i:Nat)(o:List Nd):List Nd×Nat:=fin f (i+1) i o
def Qi(f:List Nd):Nd:=f.getLastD Nd.zero
theorem Rb {f:List Nd}(h:0 < f.length):f[f.length - 1]?=some (Qi f):=by
 unfold Qi;rw [<-List.getLast?_eq_getElem?];cases f with
 |nil=>simp at h
 |cons a t=>simp [List.getLast?_cons]
theorem Cr {f:List Nd} {i:Nat} {n:Nd}(h:f[i]?=some n):f.getD i Nd.zero=n:=by simp [List.getD,h]
theorem Qgl {f:List Nd}(hf:Wf f):∀(fuel i:Nat) (o:List Nd),i < fuel->i < f.length->fin f fuel i o=Zt f i o:=by
 intro fuel
 induction fuel using Nat.strongRecOn with
 |_ fuel ih =>
  intro i o h hi;cases fuel with
  |zero=>omega
  |succ fuel =>
   obtain⟨n,hn⟩:∃n,f[i]?=some n:=⟨_,Qv hi⟩;obtain⟨hx,hy⟩:=hf i n hn;have e:∀(b:Nat) (k:Nat),b < i->i<=k->k<=fuel->∀o,fin f k b o=Zt f b o:=fun b k hb hk hkf o=>ih k (by omega) b o (by omega) (by omega)
   unfold Zt;simp only [fin,Cr hn];have e1:∀o:List Nd,(if Qh n.op=true then fin f fuel n.x.toNat o else(o,0))=(if Qh n.op=true then fin f i n.x.toNat o else(o,0)):=by
    intro o
    split
    ·rename_i h1;have:=hx h1;rw [e n.x.toNat fuel (by omega) (by omega) (by omega),e n.x.toNat i (by omega) (by omega) (by omega)]
    rfl
   have e2:∀o:List Nd,(if Qc n.op=true then fin f fuel n.y.toNat o else(o,0))=(if Qc n.op=true then fin f i n.y.toNat o else(o,0)):=by
    intro o
    split
    ·rename_i h1;have:=hy h1;rw [e n.y.toNat fuel (by omega) (by omega) (by omega),e n.y.toNat i (by omega) (by omega) (by omega)]
    rfl
   simp only [e1,e2]
def opX(f:List Nd)(n:Nd)(o:List Nd):List Nd×Nat:=if Qh n.op then Zt f n.x.toNat o else(o,0)
def opY(f:List Nd)(n:Nd)(o:List Nd):List Nd×Nat:=if Qc n.op then Zt f n.y.toNat o else(o,0)
theorem Ub {f:List Nd}(hf:Wf f) {i:Nat} {n:Nd}(hn:f[i]?=some n)(o:List Nd):
 Zt f i o=(Zh (opY f n (opX f n o).1).1 (n.with_ (opX f n o).2 (opY f n (opX f n o).1).2),(opY f n (opX f n o).1).1.idxOf (n.with_ (opX f n o).2 (opY f n (opX f n o).1).2)):=by
 have hi:i < f.length:=(List.getElem?_eq_some_iff.1 hn).1;obtain⟨hx,hy⟩:=hf i n hn;have e1:∀o:List Nd,(if Qh n.op=true then fin f i n.x.toNat o else(o,0))=opX f n o:=by
  intro o;unfold opX
  split
  ·rename_i h1;have:=hx h1;exact Qgl hf _ _ _ (by omega) (by omega)
  rfl
 have e2:∀o:List Nd,(if Qc n.op=true then fin f i n.y.toNat o else(o,0))=opY f n o:=by
  intro o;unfold opY
  split
  ·rename_i h1;have:=hy h1;exact Qgl hf _ _ _ (by omega) (by omega)
  rfl
 conv=>lhs;unfold Zt fin
 simp only [Cr hn,e1,e2]
theorem Kc(o:List Nd)(m:Nd):o <+: Zh o m:=by
 unfold Zh
 split
 ·exact List.prefix_refl _
 exact List.prefix_append _ _
theorem Qz8(o:List Nd)(m:Nd):m∈Zh o m:=by
 unfold Zh
 split
 ·assumption
 simp
theorem Qg0 {o o':List Nd} {m:Nd}(h:o <+: o')(hm:m∈o):o'.idxOf m=o.idxOf m:=by
 obtain⟨t,rfl⟩:=h;rw [List.idxOf_append,if_pos hm]
theorem Az(o:List Nd)(m:Nd):(Zh o m).idxOf m=o.idxOf m:=by
 unfold Zh
 split
 ·rfl
 rename_i h;rw [List.idxOf_append,if_neg h,List.idxOf_eq_length h];simp
theorem Bx(o:List Nd)(m:Nd):o.idxOf m < (Zh o m).length:=by
 rw [<-Az];exact List.idxOf_lt_length_of_mem (Qz8 o m)
section
variable {f:List Nd} (hf:Wf f)
include hf
theorem Qq6:∀(i:Nat) (o:List Nd),i < f.length->o <+:(Zt f i o).1:=by
 intro i
 induction i using Nat.strongRecOn with
 |_ i ih =>
  intro o hi;obtain⟨n,hn⟩:∃n,f[i]?=some n:=⟨_,Qv hi⟩;obtain⟨hx,hy⟩:=hf i n hn;have p1:o <+:(opX f n o).1:=by
   unfold opX
   split
   ·rename_i h1;have:=hx h1;exact ih _ (by omega) _ (by omega)
   exact List.prefix_refl _
  have p2:∀o,o <+:(opY f n o).1:=by
   intro o;unfold opY
   split
   ·rename_i h1;have:=hy h1;exact ih _ (by omega) _ (by omega)
   exact List.prefix_refl _
  rw [Ub hf hn];exact(p1.trans (p2 _)).trans (Kc _ _)
theorem Ej {i:Nat} {n:Nd}(hn:f[i]?=some n)(o:List Nd):o <+:(opY f n o).1:=by
 have hi:i < f.length:=(List.getElem?_eq_some_iff.1 hn).1;unfold opY
 split
 ·rename_i h1;have:=(hf i n hn).2 h1;exact Qq6 hf _ _ (by omega)
 exact List.prefix_refl _
theorem Us:∀(i:Nat) (o o':List Nd),i < f.length->(Zt f i o).1 <+: o'->Zt f i o'=(o',(Zt f i o).2):=by
 intro i
 induction i using Nat.strongRecOn with
 |_ i ih =>
  intro o o' hi hp;obtain⟨n,hn⟩:∃n,f[i]?=some n:=⟨_,Qv hi⟩;obtain⟨hx,hy⟩:=hf i n hn;have hm:=Qz8 (opY f n (opX f n o).1).1 (n.with_ (opX f n o).2 (opY f n (opX f n o).1).2);have hix:=Az (opY f n (opX f n o).1).1 (n.with_ (opX f n o).2 (opY f n (opX f n o).1).2);have hap:=Kc (opY f n (opX f n o).1).1 (n.with_ (opX f n o).2 (opY f n (opX f n o).1).2);have pY:(opY f n (opX f n o).1).1 <+: o':=by
   rw [Ub hf hn]at hp;exact hap.trans hp
  have pX:(opX f n o).1 <+: o':=(Ej hf hn _).trans pY;have eX:opX f n o'=(o',(opX f n o).2):=by
   unfold opX at pX⊢
   split
   ·rename_i h1;rw [if_pos h1]at pX;have:=hx h1;exact ih _ (by omega) _ _ (by omega) pX
   rfl
  have eY:opY f n o'=(o',(opY f n (opX f n o).1).2):=by
   unfold opY at pY⊢
   split
   ·rename_i h1;rw [if_pos h1]at pY;have:=hy h1;exact ih _ (by omega) _ _ (by omega) pY
   rfl
  rw [Ub hf hn]at hp;rw [Ub hf hn o',Ub hf hn o,eX];simp only [eY];have hm':n.with_ (opX f n o).2 (opY f n (opX f n o).1).2∈o':=hp.subset hm;rw [show Zh o' (n.with_ (opX f n o).2 (opY f n (opX f n o).1).2)=o' from by unfold Zh;rw [if_pos hm']];rw [Qg0 hp hm,hix]
theorem Lw(i:Nat)(o:List Nd)(hi:i < f.length):(Zt f i o).2 < (Zt f i o).1.length:=by
 obtain⟨n,hn⟩:∃n,f[i]?=some n:=⟨_,Qv hi⟩;rw [Ub hf hn];exact Bx _ _
end
def pot(f o:List Nd):Nat:=o.length+(List.range f.length).countP fun j=>(Zt f j o).1.length !=o.length
theorem Wd {α:Type} {p q:α->Bool} :∀{l:List α},(∀x∈l,p x=true->q x=true)->(∃x∈l,p x=false/\q x=true)->l.countP p < l.countP q
 |[],_,h=>by obtain⟨x,hx,_⟩:=h;cases hx
 |a :: l,hpq,h=>by
  have ih:(∃x∈l,p x=false/\q x=true)->l.countP p < l.countP q:=fun h=>Wd (fun x hx=>hpq x (by simp [hx])) h
  have hle:l.countP p<=l.countP q:=List.countP_mono_left fun x hx=>hpq x (by simp [hx])
  rw [List.countP_cons,List.countP_cons];obtain⟨x,hx,h1,h2⟩:=h;rcases List.mem_cons.1 hx with rfl|hx
  ·simp only [h1,h2];simp;omega
  have h3:=ih ⟨x,hx,h1,h2⟩;have h4:=hpq a (by simp);cases hp:p a
  ·cases hq:q a <;> simp <;> omega
  rw [h4 hp];simp;omega
section
variable {f:List Nd} (hf:Wf f)
include hf
theorem Qtl {j:Nat} {o o':List Nd}(hj:j < f.length)(hp:o <+: o')(h:(Zt f j o).1.length=o.length):(Zt f j o').1.length=o'.length:=by
 have hpre:=Qq6 hf j o hj;have e:(Zt f j o).1=o:=(hpre.eq_of_length h.symm).symm;rw [Us hf j o o' hj (by rw [e];exact hp)]
theorem Oc:∀(i:Nat) (o:List Nd),i < f.length->pot f (Zt f i o).1<=pot f o:=by
 intro i
 induction i using Nat.strongRecOn with
 |_ i ih =>
  intro o hi;obtain⟨n,hn⟩:∃n,f[i]?=some n:=⟨_,Qv hi⟩;obtain⟨hx,hy⟩:=hf i n hn;have p1:pot f (opX f n o).1<=pot f o:=by
   unfold opX
   split
   ·rename_i h1;have:=hx h1;exact ih _ (by omega) _ (by omega)
   exact Nat.le_refl _
  have p2:∀o,pot f (opY f n o).1<=pot f o:=by
   intro o;unfold opY
   split
   ·rename_i h1;have:=hy h1;exact ih _ (by omega) _ (by omega)
   exact Nat.le_refl _
  refine Qx ?_ (Qx (p2 _) p1);have hagain:=Us hf i o (Zt f i o).1 hi (List.prefix_refl _);rw [Ub hf hn o]at hagain⊢;have eX:opX f n (opY f n (opX f n o).1).1=((opY f n (opX f n o).1).1,(opX f n o).2):=by
   have hp:=Ej hf hn (opX f n o).1;unfold opX at hp⊢
   split
   ·rename_i h1;rw [if_pos h1]at hp;have:=hx h1;exact Us hf _ _ _ (by omega) hp
   rfl
  have eY:opY f n (opY f n (opX f n o).1).1=((opY f n (opX f n o).1).1,(opY f n (opX f n o).1).2):=by
   unfold opY
   split
   ·rename_i h1;have:=hy h1;exact Us hf _ _ _ (by omega) (List.prefix_refl _)
   rfl
  have hfin:=Ub hf hn (opY f n (opX f n o).1).1;rw [eX]at hfin;simp only [eY]at hfin;generalize (opY f n (opX f n o).1).1=o2 at hfin hagain⊢;generalize n.with_ (opX f n o).2 (opY f n (opX f n o).1).2=m at hfin hagain⊢;by_cases hm:m∈o2
  ·have:Zh o2 m=o2:=by unfold Zh;rw [if_pos hm]
   rw [this];exact Nat.le_refl _
  have ha:Zh o2 m=o2++ [m]:=by unfold Zh;rw [if_neg hm]
  have hc:=Wd (l:=List.range f.length) (p:=fun j=>(Zt f j (Zh o2 m)).1.length !=(Zh o2 m).length) (q:=fun j=>(Zt f j o2).1.length !=o2.length)
   (fun j hj hne=>by
    have hj':=List.mem_range.1 hj;simp only [bne_iff_ne,ne_eq]at hne⊢;exact fun h=>hne (Qtl hf hj' (Kc _ _) h))
   ⟨i,List.mem_range.2 hi,by simp only [bne_eq_false_iff_eq];rw [hagain],by simp only [bne_iff_ne,ne_eq];rw [hfin,ha];simp⟩
  have hl:(Zh o2 m).length=o2.length+1:=by rw [ha];simp
  show pot f (Zh o2 m)<=pot f o2;unfold pot;omega
end
theorem Mz(f:List Nd):pot f []<=f.length:=by
 unfold pot;have:=List.countP_le_length (p:=fun j=>(Zt f j []).1.length !=([]:List Nd).length) (l:=List.range f.length);simp only [List.length_range,List.length_nil]at this⊢;omega
theorem Xh(f o:List Nd):o.length<=pot f o:=Nat.le_add_right _ _
open Go.RowKit
open Go.Maps (Keyed IsMap Tidy has has_put_same has_put_other atKey_put_same atKey_put_other)
def Yj(a:Int):Prop:= -9223372036854775808<=a/\a<=9223372036854775807
def Nd.ok(n:Nd):Prop:=Yj n.op/\Yj n.i/\Yj n.e/\Yj n.g/\Yj n.x/\Yj n.y
theorem Pp {a:Int}(h:Yj a):(Lit.int .i64 a).wf=true:=by
 unfold Yj at h;have h1:IntKind.i64.min= -9223372036854775808:=by decide
 have h2:IntKind.i64.max=9223372036854775807:=by decide
 simp only [Lit.wf,h1,h2,Bool.and_eq_true,decide_eq_true_eq];exact h
theorem Qhm:laidOutB Tryz.prog=true:=by kernel_rfl
theorem Zzd:(71:TypeId) < Tryz.prog.types.size:=of_decide_eq_true (by kernel_rfl)
theorem Zzq:(match Tryz.prog.underlying 71 with|some (.array _ _)|some (.struct _)=>true|_=>false)=true:=by kernel_rfl
theorem Qia:Tryz.prog.keyTypeAt 2 71=true:=by kernel_rfl
theorem Qhl:Tryz.prog.keyType 71=true:=by kernel_rfl
theorem Ox:Keyed Tryz.prog 71:=Keyed.of_law (deep_law_laid Qhm (m:=2) (by omega) Zzd Qia Zzq)
theorem Qm1:Tryz.prog.cellsOf 71=6:=by kernel_rfl
theorem Qwl:Tryz.prog.cellsOf 3=1:=by kernel_rfl
theorem Zq8:∃m,Tryz.prog.types.size=m+1:=by
 have h:0 < Tryz.prog.types.size:=of_decide_eq_true (by kernel_rfl);exact⟨Tryz.prog.types.size - 1,by omega⟩
def Bh(n:Nd):Lit:=.string (keyBytes [.int .i64 n.op,.int .i64 n.i,.int .i64 n.e,.int .i64 n.g,.int .i64 n.x,.int .i64 n.y])
theorem Aj {n:Nd}(h:n.ok):keyOf Tryz.prog 71 n.val=some (Bh n):=by
 obtain⟨h0,h1,h2,h3,h4,h5⟩:=h;obtain⟨m,hm⟩:=Zq8;have hf:n.val.formed Tryz.prog 71=true:=by simp [Nd.val,Value.formed,Tryz.underlying71,Qm1]
 unfold keyOf;rw [Tryz.underlying71];simp only [Qhl,hf,Bool.and_true,if_true];rw [hm];simp [Program.keyLits,Tryz.underlying71,Tryz.underlying3,Qm1,Qwl,Nd.val,Value.cells,Pp h0,Pp h1,Pp h2,Pp h3,Pp h4,Pp h5,Bh]
theorem Dg {a:Int}(h:Yj a):keyOf Tryz.prog 3 (.int .i64 a)=some (.int .i64 a):=Go.Maps.keyOf_int_mk Tryz.underlying3 (Pp h)
theorem Gn:Keyed Tryz.prog 3:=Go.Maps.int_keyed Tryz.underlying3
theorem Qfz {n:Nd} :WideAt.IsKeyLit (Bh n):=trivial
theorem Qch {n m:Nd}(hn:n.ok)(hm:m.ok)(h:Bh n=Bh m):n=m:=by
 have e:n.val=m.val:=Ox.inj (Aj hn) (by rw [h];exact Aj hm);cases n;cases m
 simpa [Nd.val]using e
abbrev D0:=DataW Unit
theorem Qzw {a:Int}(h:Yj a):(plainElem Tryz.prog 3 (.int .i64 a):Option (D0×List MemPlace))=some (.lit (.int .i64 a),[]):=plainElem_int Tryz.underlying3 (Pp h)
theorem Rt(w:World):(zeroValue 3).run Tryz.prog w=.ok (.int .i64 0) w:=by kernel_rfl
def Bo(w:World)(b:Nat)(o:List Nd):Prop :=
 ∃(D:D0) (m:Nat),w.ownsMap Tryz.prog 71 (plainElem Tryz.prog 3) b m D/\m<=o.length/\∀n:Nd,n.ok->has D (Bh n)=decide (n∈o)/\(n∈o->∀z,D.atKey (Bh n) z=.lit (.int .i64 (o.idxOf n)))
def Td(D:D0)(f o:List Nd):Prop :=
 ∀i:Nat,has D (.int .i64 i)=true->i < f.length/\Zt f i o=(o,(Zt f i o).2)/\∀z,D.atKey (.int .i64 i) z=.lit (.int .i64 (Zt f i o).2)
def Tl(D:D0)(f:List Nd):Nat:=(List.range f.length).countP fun i:Nat=>has D (.int .i64 i)
def Xl(w:World)(b:Nat)(f o:List Nd):Prop :=
 ∃(D:D0) (m:Nat),w.ownsMap Tryz.prog 3 (plainElem Tryz.prog 3) b m D/\m<=Tl D f/\Td D f o
theorem Bo.made(w:World):Bo (w.alloc (.map #[] 0)) w.heap.size []:=
 ⟨.map [],0,World.ownsMap_made w _ _ _,Nat.le_refl _,fun n _=>⟨by simp [has],fun h=>by cases h⟩⟩
theorem Xl.made(w:World)(f:List Nd):Xl (w.alloc (.map #[] 0)) w.heap.size f []:=
 ⟨.map [],0,World.ownsMap_made w _ _ _,Nat.zero_le _,fun i h=>by simp [has]at h⟩
theorem Bo.kept {w w':World} {b:Nat} {o:List Nd}(h:Bo w b o)(hb:w'.heap[b]?=w.heap[b]?):Bo w' b o:=by
 obtain⟨D,m,⟨es,clock,h1,h2⟩,h3,h4⟩:=h;exact⟨D,m,⟨es,clock,hb.trans h1,h2⟩,h3,h4⟩
theorem Xl.kept {w w':World} {b:Nat} {f o:List Nd}(h:Xl w b f o)(hb:w'.heap[b]?=w.heap[b]?):Xl w' b f o:=by
 obtain⟨D,m,⟨es,clock,h1,h2⟩,h4⟩:=h;exact⟨D,m,⟨es,clock,hb.trans h1,h2⟩,h4⟩
theorem Bo.lt {w:World} {b:Nat} {o:List Nd}(h:Bo w b o):b < w.heap.size:=by
 obtain⟨D,m,h1,_⟩:=h;exact h1.lt
theorem Xl.lt {w:World} {b:Nat} {f o:List Nd}(h:Xl w b f o):b < w.heap.size:=by
 obtain⟨D,m,h1,_⟩:=h;exact h1.lt
theorem Td.grow {D:D0} {f o o':List Nd}(hf:Wf f)(h:Td D f o)(hp:o <+: o'):Td D f o':=by
 intro i hi;obtain⟨a,e,c⟩:=h i hi;have hg:=Us hf i o o' a (by rw [e];exact hp);exact⟨a,by rw [hg],by rw [hg];exact c⟩
theorem Xl.grow {w:World} {b:Nat} {f o o':List Nd}(hf:Wf f)(h:Xl w b f o)(hp:o <+: o'):Xl w b f o':=by
 obtain⟨D,m,h1,h2,h3⟩:=h;exact⟨D,m,h1,h2,h3.grow hf hp⟩
theorem Qgf(D:D0)(f:List Nd):Tl D f<=f.length:=by
 have:=List.countP_le_length (p:=fun i:Nat=>has D (.int .i64 i)) (l:=List.range f.length)
 simpa [Tl]using this
theorem Bo.put {w w':World} {b:Nat} {o:List Nd} {n:Nd} {D:D0} {m:Nat}(hk:n.ok)(hn:n∉o)(h:w.ownsMap Tryz.prog 71 (plainElem Tryz.prog 3) b m D)(hm:m<=o.length)
 (hD:∀n:Nd,n.ok->has D (Bh n)=decide (n∈o)/\(n∈o->∀z,D.atKey (Bh n) z=.lit (.int .i64 (o.idxOf n))))
 (h':w'.ownsMap Tryz.prog 71 (plainElem Tryz.prog 3) b (m+1) (D.put (Bh n) (.lit (.int .i64 o.length)))):Bo w' b (o++ [n]):=by
 refine⟨_,_,h',by simp;omega,fun n' hk'=> ?_⟩;by_cases e:n'=n
 ·subst e;refine⟨by rw [has_put_same h.isMap Qfz];simp,fun _ z=> ?_⟩;rw [atKey_put_same h.isMap Qfz,List.idxOf_append,if_neg hn];simp
 have hne:Bh n'≠Bh n:=fun e'=>e (Qch hk' hk e')
 refine⟨?_,fun hin z=> ?_⟩
 ·rw [has_put_other hne,(hD n' hk').1];simp [e]
 have hin':n'∈o:=by simpa [e]using hin
 rw [atKey_put_other hne,(hD n' hk').2 hin',List.idxOf_append,if_pos hin']
theorem Qxx {w:World} {k:TypeId} {R:Value->Option (D0×List MemPlace)} {b n:Nat} {D:D0}(h:w.ownsMap Tryz.prog k R b n D):w.ownsMap Tryz.prog k R b (Go.Maps.size D) D:=by
 obtain⟨es,clock,hb,F,hs,rfl⟩:=h;exact⟨es,clock,hb,F,by simp [Go.Maps.size,length_sorted],rfl⟩
theorem Xl.put {w w':World} {b:Nat} {f o:List Nd} {i m:Nat} {D:D0}(h:w.ownsMap Tryz.prog 3 (plainElem Tryz.prog 3) b m D)(hm:m<=Tl D f)(hD:Td D f o)
 (hi:i < f.length)(hfin:Zt f i o=(o,(Zt f i o).2))
 (h':w'.ownsMap Tryz.prog 3 (plainElem Tryz.prog 3) b (m+1) (D.put (.int .i64 i) (.lit (.int .i64 (Zt f i o).2)))):Xl w' b f o:=by
 have hkey:WideAt.IsKeyLit (.int .i64 (i:Int)):=trivial;have other:∀j:Nat,j≠i->(Lit.int .i64 (j:Int))≠.int .i64 (i:Int):=fun j e e'=>e (by injection e' with _ e';omega)
 have htidy:=h.tidy Gn;have hsz:=h.size_le;have mono:∀j:Nat,has D (.int .i64 j)=true->has (D.put (.int .i64 i) (.lit (.int .i64 (Zt f i o).2))) (.int .i64 j)=true:=by
  intro j hj;by_cases e:j=i
  ·subst e;exact has_put_same h.isMap hkey _
  rw [has_put_other (other j e)];exact hj
 refine⟨_,_,Qxx h',?_,fun j hj=> ?_⟩
 ·rw [Go.Maps.size_put htidy]
  split
  ·exact Qx (Qx hsz hm) (List.countP_mono_left fun j _=>mono j)
  rename_i hno;refine Nat.succ_le_of_lt (Nat.lt_of_le_of_lt (Qx hsz hm) ?_);exact Wd (fun j _=>mono j) ⟨i,List.mem_range.2 hi,by simpa using hno,has_put_same h.isMap hkey _⟩
 by_cases e:j=i
 ·subst e;exact⟨hi,hfin,fun z=>atKey_put_same h.isMap hkey _ z⟩
 rw [has_put_other (other j e)]at hj;obtain⟨a,c,d⟩:=hD j hj;exact⟨a,c,fun z=>by rw [atKey_put_other (other j e)];exact d z⟩
open Go.Maps (has)
structure Vw where
 f:Nat
 out:Nat
 done:Nat
 num:Nat
 fin_:Nat
 mn:Nat
 md:Nat
def Vw.caps(K:Vw):Array Value:=#[.pointer (some ⟨K.done,0,none⟩),.pointer (some ⟨K.f,0,none⟩),.pointer (some ⟨K.fin_,0,none⟩),.pointer (some ⟨K.num,0,none⟩),.pointer (some ⟨K.out,0,none⟩)]
structure Uq (K:Vw) (W0 w:World) (A:Option Addr) (c:Nat) (f o:List Nd) (vo:Value):Prop where
 below:Below W0.heap.size W0 w
 nds:Tj W0 A c f
 blk_f:w.heap[K.f]?=some (.cells #[.slice A f.length c] 22 (0,0))
 blk_out:w.heap[K.out]?=some (.cells #[vo] 22 (0,0))
 blk_done:w.heap[K.done]?=some (.cells #[.map (some K.md)] 178 (0,0))
 blk_num:w.heap[K.num]?=some (.cells #[.map (some K.mn)] 184 (0,0))
 blk_fin:w.heap[K.fin_]?=some (.cells #[.func (Fn.func 197) #[] K.caps] 109 (0,0))
 row:w.ownsRow W0.heap.size 71 6 vo o.length (o.flatMap Nd.cells)
 nums:Bo w K.mn o
 dones:Xl w K.md f o
 low:W0.heap.size<=K.out/\W0.heap.size<=K.mn/\W0.heap.size<=K.md
 apart:K.f≠K.out
 oks:∀n∈o,n.ok
structure Ft (K:Vw) (w w':World) (vo vo':Value):Prop where
 os:w'.os=w.os
 tape:w'.tape=w.tape
 output:w'.output=w.output
 size:w.heap.size<=w'.heap.size
 block:∀k,k < w.heap.size->k≠K.out->k≠K.mn->k≠K.md->vo.ownBlock≠some k->w'.heap[k]?=w.heap[k]?
 row:∀g,vo'.ownBlock=some g->vo.ownBlock=some g\/w.heap.size<=g
theorem Ft.refl(K:Vw)(w:World)(vo:Value):Ft K w w vo vo:=⟨rfl,rfl,rfl,Nat.le_refl _,fun _ _ _ _ _ _=>rfl,fun _ h=> .inl h⟩
theorem Ft.trans {K:Vw} {a b c:World} {va vb vc:Value}(h:Ft K a b va vb)(k:Ft K b c vb vc):Ft K a c va vc :=
 ⟨k.os.trans h.os,k.tape.trans h.tape,k.output.trans h.output,Qx h.size k.size,
  fun i hi h1 h2 h3 h4=>(k.block i (Qy hi h.size) h1 h2 h3 (fun e=>by
   rcases h.row i e with e'|e'
   ·exact h4 e'
   omega)).trans (h.block i hi h1 h2 h3 h4),
  fun g hg=>by
   rcases k.row g hg with e|e
   ·exact h.row g e
   exact .inr (Qx h.size e)⟩
theorem Ft.of_ext {K:Vw} {a b:World} {vo:Value}(h:Ext a b):Ft K a b vo vo:=⟨h.os,h.tape,h.output,h.size,fun _ hk _ _ _ _=>h.block hk,fun _ h=> .inl h⟩
theorem Qbr {K:Vw} {W0 w:World} {A:Option Addr} {c:Nat} {f o:List Nd} {vo:Value}(h:Uq K W0 w A c f o vo)(hlen:f.length<=1000)(i:Nat)(hi:i < f.length)(D:D0)(m:Nat)
 (hown:w.ownsMap Tryz.prog 3 (plainElem Tryz.prog 3) K.md m D)(hD:Td D f o)(hh:has D (.int .i64 i)=true):
 Calls Tryz.prog 197 (#[.int .i64 i]++K.caps) w fun e w'=>e=.returned (.int .i64 (Zt f i o).2)/\w=w':=by
 have cd:=cell_of_one h.blk_done;have hkey:=Dg (a:=(i:Int)) ⟨by omega,by omega⟩;have hval:=Qq (hD i hh).2.2;clear hD h;unfold Vw.caps;go_enter Tryz.func197,Tryz.ntmps197;go_wp2_with(at_lookup;refine wpList_lookup_own_ok_int _ rfl _ _ 178 rfl 3 3 .i64 Gn Tryz.underlying178 Tryz.underlying3 (Rt _) K.md m D rfl hown _ _ rfl hkey ?_;intro cc hat hwc);go_ret;have e1:=(hval.out (.lit (.int .i64 0))).symm.trans hat;injection e1 with e2;injection e2 with _ e3;exact⟨Kx e3.symm,rfl⟩
section
variable {K:Vw} {W0 w w':World} {A:Option Addr} {c:Nat} {f o:List Nd} {vo:Value}
theorem Qm {w:World} {b:Nat} {x:Obj}(h:w.heap[b]?=some x):b < w.heap.size:=(Array.getElem?_eq_some_iff.1 h).1
theorem Uq.lts(h:Uq K W0 w A c f o vo):K.f < w.heap.size/\K.out < w.heap.size/\K.done < w.heap.size/\K.num < w.heap.size/\K.fin_ < w.heap.size/\K.mn < w.heap.size/\K.md < w.heap.size :=
 ⟨Qm h.blk_f,Qm h.blk_out,Qm h.blk_done,Qm h.blk_num,Qm h.blk_fin,h.nums.lt,h.dones.lt⟩
theorem Zi {base:Nat} {e:TypeId} {size n:Nat} {xs:List Value}(h:w.ownsRow base e size vo n xs)(hk:∀g,vo.ownBlock=some g->w'.heap[g]?=w.heap[g]?):w'.ownsRow base e size vo n xs:=by
 obtain⟨h1,h2⟩:=h;refine⟨h1,?_⟩;rcases h2 with h2|⟨g,cap,cur,rfl,hb,hc,hr⟩
 ·exact .inl h2
 exact .inr ⟨g,cap,cur,rfl,hb,(hk g rfl).trans hc,hr⟩
theorem Uq.keep(h:Uq K W0 w A c f o vo)(hb:Below W0.heap.size W0 w')(hk:∀k,k < w.heap.size->(k=K.f\/k=K.out\/k=K.done\/k=K.num\/k=K.fin_\/k=K.mn\/k=K.md\/vo.ownBlock=some k)->w'.heap[k]?=w.heap[k]?):
 Uq K W0 w' A c f o vo:=by
 obtain⟨l1,l2,l3,l4,l5,l6,l7⟩:=h.lts
 exact⟨hb,h.nds,(hk _ l1 (by simp)).trans h.blk_f,(hk _ l2 (by simp)).trans h.blk_out,(hk _ l3 (by simp)).trans h.blk_done,(hk _ l4 (by simp)).trans h.blk_num,(hk _ l5 (by simp)).trans h.blk_fin,
  Zi h.row fun g hg=>hk g (h.row.lt g hg).2 (by simp [hg]),h.nums.kept (hk _ l6 (by simp)),h.dones.kept (hk _ l7 (by simp)),h.low,h.apart,h.oks⟩
theorem Uq.ext(h:Uq K W0 w A c f o vo)(he:Ext w w'):Uq K W0 w' A c f o vo :=
 h.keep (h.below.trans (Below.mono he h.below.size)) fun _ hk _=>he.block hk
end
structure Fy (K:Vw) (W0 we w:World) (A:Option Addr) (c:Nat) (f o:List Nd) (voe vo:Value) (bx bu:Nat) (m:Nd) (ux uy:Bool):Prop where
 env:Uq K W0 w A c f o vo
 step:Ft K we w voe vo
 envlt:K.f < we.heap.size/\K.out < we.heap.size/\K.done < we.heap.size/\K.num < we.heap.size/\K.fin_ < we.heap.size/\K.mn < we.heap.size/\K.md < we.heap.size
 box:w.heap[bx]?=some (.cells #[.int .i64 m.op,.int .i64 m.i,.int .i64 m.e,.int .i64 m.g,.int .i64 m.x,.int .i64 m.y] 71 (0,0))
 use:∃u2 u3 u4 u5 u6,w.heap[bu]?=some (.cells #[.bool ux,.bool uy,u2,u3,u4,u5,u6] 129 (0,0))
 fresh:we.heap.size<=bx/\we.heap.size<=bu/\bx≠bu/\vo.ownBlock≠some bx/\vo.ownBlock≠some bu
section
variable {K:Vw} {W0 we w w':World} {A:Option Addr} {c:Nat} {f o:List Nd} {voe vo:Value} {bx bu:Nat} {m:Nd} {ux uy:Bool}
theorem Yx {b:Nat} {a0 a1 a2 a3 a4 a5:Value} {t:TypeId}(h:w.heap[b]?=some (.cells #[a0,a1,a2,a3,a4,a5] t (0,0))):
 (w.cell? ⟨b,0,none⟩=some a0/\w.cell? ⟨b,1,none⟩=some a1/\w.cell? ⟨b,2,none⟩=some a2/\w.cell? ⟨b,3,none⟩=some a3/\w.cell? ⟨b,4,none⟩=some a4/\w.cell? ⟨b,5,none⟩=some a5)/\(∀j,w.frozen? ⟨b,j,none⟩=false)/\b < w.heap.size :=
 ⟨⟨by simp [World.cell?,h],by simp [World.cell?,h],by simp [World.cell?,h],by simp [World.cell?,h],by simp [World.cell?,h],by simp [World.cell?,h]⟩,fun j=>by simp [World.frozen?,h],Qm h⟩
theorem Qii {b:Nat} {a0 a1 a2 a3 a4 a5 a6:Value} {t:TypeId}(h:w.heap[b]?=some (.cells #[a0,a1,a2,a3,a4,a5,a6] t (0,0))):w.cell? ⟨b,0,none⟩=some a0/\w.cell? ⟨b,1,none⟩=some a1/\b < w.heap.size :=
 ⟨by simp [World.cell?,h],by simp [World.cell?,h],Qm h⟩
theorem Fy.start(h:Uq K W0 we A c f o vo) {w1:World}(n:Nd)(u2 u3 u4 u5 u6:Value)
 (he:Ext (we.alloc (.cells #[.int .i64 n.op,.int .i64 n.i,.int .i64 n.e,.int .i64 n.g,.int .i64 n.x,.int .i64 n.y] 71)) w1):
 Fy K W0 we (w1.alloc (.cells #[.bool ux,.bool uy,u2,u3,u4,u5,u6] 129)) A c f o vo vo we.heap.size w1.heap.size n ux uy:=by
 have e0:Ext we w1:=(Qz.alloc _).trans he;have hlt:we.heap.size < w1.heap.size:=Qy (by simp) he.size;refine⟨h.ext (e0.alloc _),Ft.of_ext (e0.alloc _),h.lts,?_,⟨u2,u3,u4,u5,u6,heap_alloc_new _ _⟩,Nat.le_refl _,e0.size,Nat.ne_of_lt hlt,?_,?_⟩
 ·rw [((Ext.refl w1).alloc _).block hlt,he.block (by simp)];exact heap_alloc_new _ _
 ·intro e;exact absurd (h.row.lt _ e).2 (by omega)
 intro e;exact absurd (h.row.lt _ e).2 (by omega)
theorem Fy.call {o':List Nd} {vo':Value}(h:Fy K W0 we w A c f o voe vo bx bu m ux uy)(he:Uq K W0 w' A c f o' vo')(hs:Ft K w w' vo vo'):Fy K W0 we w' A c f o' voe vo' bx bu m ux uy:=by
 obtain⟨l1,l2,l3,l4,l5,l6,l7⟩:=h.envlt;obtain⟨f1,f2,f3,f4,f5⟩:=h.fresh;obtain⟨u2,u3,u4,u5,u6,hu⟩:=h.use;have hbx:=Qm h.box;have hbu:=Qm hu;refine⟨he,h.step.trans hs,h.envlt,(hs.block _ hbx (by omega) (by omega) (by omega) f4).trans h.box,⟨u2,u3,u4,u5,u6,(hs.block _ hbu (by omega) (by omega) (by omega) f5).trans hu⟩,f1,f2,f3,?_,?_⟩
 ·intro e;rcases hs.row _ e with e|e
  ·exact f4 e
  omega
 intro e;rcases hs.row _ e with e|e
 ·exact f5 e
 omega
theorem Fy.store(h:Fy K W0 we w A c f o voe vo bx bu m ux uy)(j:Nat)(u:Value)(m':Nd)
 (hm:(#[.int .i64 m.op,.int .i64 m.i,.int .i64 m.e,.int .i64 m.g,.int .i64 m.x,.int .i64 m.y]:Array Value).setIfInBounds j u=#[.int .i64 m'.op,.int .i64 m'.i,.int .i64 m'.e,.int .i64 m'.g,.int .i64 m'.x,.int .i64 m'.y]):
 Fy K W0 we (w.setCell ⟨bx,j,none⟩ u) A c f o voe vo bx bu m' ux uy:=by
 obtain⟨l1,l2,l3,l4,l5,l6,l7⟩:=h.envlt;obtain⟨f1,f2,f3,f4,f5⟩:=h.fresh;obtain⟨u2,u3,u4,u5,u6,hu⟩:=h.use;have hbx:=Qm h.box;have hW0:W0.heap.size<=we.heap.size:=Qx h.env.low.1 (Nat.le_of_lt l2);have hoth:∀k,k≠bx->(w.setCell ⟨bx,j,none⟩ u).heap[k]?=w.heap[k]?:=fun k hk=>Below.heap_setCell _ _ _ _ hk
 have hsz:(w.setCell ⟨bx,j,none⟩ u).heap.size=w.heap.size:=by simp [World.setCell]
 refine⟨h.env.keep (h.env.below.setCell (by show W0.heap.size<=bx;omega) _) fun k _ hk=>hoth k ?_,?_,h.envlt,?_,⟨u2,u3,u4,u5,u6,(hoth _ (Ne.symm f3)).trans hu⟩,f1,f2,f3,f4,f5⟩
 ·rcases hk with hk|hk|hk|hk|hk|hk|hk|hk
  ·omega
  ·omega
  ·omega
  ·omega
  ·omega
  ·omega
  ·omega
  exact fun e=>f4 (by rw [hk,e])
 ·exact⟨h.step.os,h.step.tape,h.step.output,by rw [hsz];exact h.step.size,fun k hk h1 h2 h3 h4=>(hoth k (by omega)).trans (h.step.block k hk h1 h2 h3 h4),h.step.row⟩
 have hb:=h.box;simp only [World.setCell,Array.getElem?_modify,hb,if_true,Option.map_some];simp [hm]
theorem Uq.row_apart(h:Uq K W0 w A c f o vo):∀g,vo.ownBlock=some g->g≠K.f/\g≠K.out/\g≠K.done/\g≠K.num/\g≠K.fin_/\g≠K.mn/\g≠K.md:=by
 intro g hg;obtain⟨_,h2⟩:=h.row;rcases h2 with⟨rfl,_⟩|⟨g',cap,cur,rfl,_,hb,_⟩
 ·cases hg
 obtain rfl:g'=g:=by simpa [Value.ownBlock]using hg
 have no:∀{k:Nat} {cs:Array Value} {t:TypeId},w.heap[k]?=some (.cells cs t (0,0))->t≠71->g'≠k:=by
  intro k cs t hk ht e;subst e;rw [hb]at hk;injection hk with hk;injection hk with _ hk;exact ht hk.symm
 have nomap:∀{k:Nat} {es:Array MapEntry} {n:Nat},w.heap[k]?=some (.map es n)->g'≠k:=by
  intro k es n hk e;subst e;rw [hb]at hk;cases hk
 obtain⟨_,_,⟨_,_,hn,_⟩,_⟩:=h.nums;obtain⟨_,_,⟨_,_,hd,_⟩,_⟩:=h.dones;exact⟨no h.blk_f (by decide),no h.blk_out (by decide),no h.blk_done (by decide),no h.blk_num (by decide),no h.blk_fin (by decide),nomap hn,nomap hd⟩
theorem Uq.blks_apart(h:Uq K W0 w A c f o vo):K.out≠K.f/\K.out≠K.done/\K.out≠K.num/\K.out≠K.fin_/\K.out≠K.mn/\K.out≠K.md/\K.mn≠K.f/\K.mn≠K.done/\K.mn≠K.num/\K.mn≠K.fin_/\K.md≠K.f/\K.md≠K.done/\K.md≠K.num/\K.md≠K.fin_:=by
 obtain⟨_,_,⟨_,_,hn,_⟩,_⟩:=h.nums;obtain⟨_,_,⟨_,_,hd,_⟩,_⟩:=h.dones;have no:∀{k k':Nat} {cs cs':Array Value} {t t':TypeId},w.heap[k]?=some (.cells cs t (0,0))->w.heap[k']?=some (.cells cs' t' (0,0))->t≠t'->k≠k':=by
  intro k k' cs cs' t t' hk hk' ht e;subst e;rw [hk]at hk';injection hk' with hk';injection hk' with _ hk';exact ht hk'
 have nomap:∀{k k':Nat} {es:Array MapEntry} {n:Nat} {cs:Array Value} {t:TypeId},w.heap[k]?=some (.map es n)->w.heap[k']?=some (.cells cs t (0,0))->k≠k':=by
  intro k k' es n cs t hk hk' e;subst e;rw [hk]at hk';cases hk'
 exact⟨h.apart.symm,no h.blk_out h.blk_done (by decide),no h.blk_out h.blk_num (by decide),no h.blk_out h.blk_fin (by decide),(nomap hn h.blk_out).symm,(nomap hd h.blk_out).symm,
  nomap hn h.blk_f,nomap hn h.blk_done,nomap hn h.blk_num,nomap hn h.blk_fin,nomap hd h.blk_f,nomap hd h.blk_done,nomap hd h.blk_num,nomap hd h.blk_fin⟩
theorem Fy.added(h:Fy K W0 we w A c f o voe vo bx bu m ux uy)(hf:Wf f)(hm:m∉o)(hok:m.ok) {w4 w6:World} {v':Value} {X:Obj}(hne:K.mn≠K.md)
 (hrow:w4.ownsRow W0.heap.size 71 6 v' (o.length+1) (o.flatMap Nd.cells++m.cells))(hg:(w.alloc X).grownBy w4 vo.ownBlock)(hat:v'.ownBlock=vo.ownBlock\/v'.ownBlock=some (w.alloc X).heap.size)
 {D:D0} {k:Nat}(hown:w.ownsMap Tryz.prog 71 (plainElem Tryz.prog 3) K.mn k D)(hk:k<=o.length)
 (hD:∀n:Nd,n.ok->has D (Bh n)=decide (n∈o)/\(n∈o->∀z,D.atKey (Bh n) z=.lit (.int .i64 (o.idxOf n))))
 (hput:w6.ownsMap Tryz.prog 71 (plainElem Tryz.prog 3) K.mn (k+1) (D.put (Bh m) (.lit (.int .i64 o.length))))(hg2:(w4.setCell ⟨K.out,0,none⟩ v').grownBy w6 (some K.mn)):
 Fy K W0 we w6 A c f (o++ [m]) voe v' bx bu m ux uy:=by
 obtain⟨l1,l2,l3,l4,l5,l6,l7⟩:=h.env.lts;obtain⟨e1,e2,e3,e4,e5,e6,e7⟩:=h.envlt;obtain⟨f1,f2,f3,f4,f5⟩:=h.fresh;obtain⟨u2,u3,u4,u5,u6,hu⟩:=h.use;have hra:=h.env.row_apart;obtain⟨b1,b2,b3,b4,b5,b6,b7,b8,b9,b10,b11,b12,b13,b14⟩:=h.env.blks_apart;have ea:Ext w (w.alloc X):=Qz.alloc _;have hs1:w.heap.size<=w4.heap.size:=Qx ea.size hg.size;have hsz5:(w4.setCell ⟨K.out,0,none⟩ v').heap.size=w4.heap.size:=by simp [World.setCell]
 have k4:∀b,b < w.heap.size->some b≠vo.ownBlock->w4.heap[b]?=w.heap[b]?:=fun b hb hne=>(hg.block b (Qy hb ea.size) hne).trans (ea.block hb)
 have k6:∀b,b < w4.heap.size->b≠K.out->b≠K.mn->w6.heap[b]?=w4.heap[b]?:=fun b hb h1 h2 =>
  (hg2.block b (by rw [hsz5];exact hb) (by simpa using h2)).trans (Below.heap_setCell _ _ _ _ h1)
 have k7:∀b,b < w.heap.size->some b≠vo.ownBlock->b≠K.out->b≠K.mn->w6.heap[b]?=w.heap[b]?:=fun b hb h0 h1 h2=>(k6 b (by omega) h1 h2).trans (k4 b hb h0)
 have ro:∀b,(∀g,vo.ownBlock=some g->g≠b)->some b≠vo.ownBlock:=fun b hb e=>hb b e.symm rfl
 have hout4:w4.heap[K.out]?=some (.cells #[vo] 22 (0,0)):=(k4 _ l2 (ro _ fun g hg=>(hra g hg).2.1)).trans h.env.blk_out;have hnew:∀g,v'.ownBlock=some g->g≠K.out/\g≠K.mn:=by
  intro g hg;rcases hat with e|e
  ·rw [e]at hg;exact⟨(hra g hg).2.1,(hra g hg).2.2.2.2.2.1⟩
  rw [e]at hg;have:w.heap.size+1=g:=by simpa using hg
  omega
 have hbx:=Qm h.box;have hbu:=Qm hu;have hbelow:Below W0.heap.size W0 w6:=by
  refine⟨hg2.os.trans (hg.os.trans h.env.below.os),hg2.tape.trans (hg.tape.trans h.env.below.tape),hg2.output.trans (hg.output.trans h.env.below.output),?_,?_⟩
  ·have:=h.env.below.size;have:=hg2.size;rw [hsz5]at this;omega
  intro b hb;have hlow:=h.env.low;have:=h.env.below.size;refine(k7 b (by omega) (ro _ fun g hg=> ?_) (by omega) (by omega)).trans (h.env.below.block b hb);have:=(h.env.row.lt g hg).1;omega
 have hs6:w.heap.size<=w6.heap.size:=by
  have:=hg2.size;rw [hsz5]at this;omega
 have henv:Uq K W0 w6 A c f (o++ [m]) v':=by
  refine⟨hbelow,h.env.nds,(k7 _ l1 (ro _ fun g hg=>(hra g hg).1) (Ne.symm b1) (Ne.symm b7)).trans h.env.blk_f,?_,(k7 _ l3 (ro _ fun g hg=>(hra g hg).2.2.1) (Ne.symm b2) (Ne.symm b8)).trans h.env.blk_done,
   (k7 _ l4 (ro _ fun g hg=>(hra g hg).2.2.2.1) (Ne.symm b3) (Ne.symm b9)).trans h.env.blk_num,(k7 _ l5 (ro _ fun g hg=>(hra g hg).2.2.2.2.1) (Ne.symm b4) (Ne.symm b10)).trans h.env.blk_fin,
   ?_,?_,?_,h.env.low,h.env.apart,?_⟩
  ·exact(hg2.block _ (by rw [hsz5];omega) (by simpa using b5)).trans (one_setCell hout4)
  ·have:=Zi (w':=w6) hrow fun g hg=>k6 g (hrow.lt g hg).2 (hnew g hg).1 (hnew g hg).2
   simpa using this
  ·exact Bo.put hok hm hown hk hD hput
  ·exact(h.env.dones.grow hf (List.prefix_append _ _)).kept (k7 _ l7 (ro _ fun g hg=>(hra g hg).2.2.2.2.2.2) (Ne.symm b6) (Ne.symm hne))
  intro n hn;rcases List.mem_append.1 hn with hn|hn
  ·exact h.env.oks n hn
  rw [List.mem_singleton.1 hn];exact hok
 refine⟨henv,h.step.trans ⟨hg2.os.trans hg.os,hg2.tape.trans hg.tape,hg2.output.trans hg.output,hs6,fun b hb h1 h2 _ h4=>k7 b hb (Ne.symm h4) h1 h2,fun g hg=> ?_⟩,h.envlt,
  (k7 _ hbx (Ne.symm f4) (by omega) (by omega)).trans h.box,⟨u2,u3,u4,u5,u6,(k7 _ hbu (Ne.symm f5) (by omega) (by omega)).trans hu⟩,f1,f2,f3,?_,?_⟩
 ·rcases hat with e|e
  ·exact .inl (by rw [<-e];exact hg)
  rw [e]at hg;have:w.heap.size+1=g:=by simpa using hg
  exact .inr (by omega)
 ·intro e;rcases hat with e'|e'
  ·exact f4 (by rw [<-e'];exact e)
  rw [e']at e;have:w.heap.size+1=bx:=by simpa using e
  omega
 intro e;rcases hat with e'|e'
 ·exact f5 (by rw [<-e'];exact e)
 rw [e']at e;have:w.heap.size+1=bu:=by simpa using e
 omega
theorem Fy.finish(h:Fy K W0 we w A c f o voe vo bx bu m ux uy) {w7:World}(hg:w.grownBy w7 (some K.md))(hd:Xl w7 K.md f o)(hne:K.mn≠K.md):Uq K W0 w7 A c f o vo/\Ft K we w7 voe vo:=by
 obtain⟨l1,l2,l3,l4,l5,l6,l7⟩:=h.env.lts;have hra:=h.env.row_apart;obtain⟨b1,b2,b3,b4,b5,b6,b7,b8,b9,b10,b11,b12,b13,b14⟩:=h.env.blks_apart;have k7:∀b,b < w.heap.size->b≠K.md->w7.heap[b]?=w.heap[b]?:=fun b hb h1=>hg.block b hb (by simpa using h1)
 have hlow:=h.env.low
 have hbelow:Below W0.heap.size W0 w7:=⟨hg.os.trans h.env.below.os,hg.tape.trans h.env.below.tape,hg.output.trans h.env.below.output,Qx h.env.below.size hg.size,
  fun b hb=>(k7 b (Qy hb h.env.below.size) (by omega)).trans (h.env.below.block b hb)⟩
 refine⟨⟨hbelow,h.env.nds,(k7 _ l1 (Ne.symm b11)).trans h.env.blk_f,(k7 _ l2 b6).trans h.env.blk_out,(k7 _ l3 (Ne.symm b12)).trans h.env.blk_done,(k7 _ l4 (Ne.symm b13)).trans h.env.blk_num,
  (k7 _ l5 (Ne.symm b14)).trans h.env.blk_fin,Zi h.env.row fun g hg=>k7 g (h.env.row.lt g hg).2 (hra g hg).2.2.2.2.2.2,h.env.nums.kept (k7 _ l6 hne),hd,h.env.low,h.env.apart,h.env.oks⟩,?_⟩
 exact h.step.trans ⟨hg.os,hg.tape,hg.output,hg.size,fun b hb _ _ h3 _=>k7 b hb h3,fun _ h=> .inl h⟩
end
open Go.Maps (has)
def Qje(K:Vw)(W0:World)(A:Option Addr)(c:Nat)(f:List Nd)(z:Int):Prop :=
 ∀(w:World) (o:List Nd) (vo:Value),Uq K W0 w A c f o vo->pot f o<=f.length->
  Calls Tryz.prog 197 #[.int .i64 z,.pointer (some ⟨K.done,0,none⟩),.pointer (some ⟨K.f,0,none⟩),.pointer (some ⟨K.fin_,0,none⟩),.pointer (some ⟨K.num,0,none⟩),.pointer (some ⟨K.out,0,none⟩)] w
   fun e w'=>∃vo',e=.returned (.int .i64 (Zt f z.toNat o).2)/\Uq K W0 w' A c f (Zt f z.toNat o).1 vo'/\Ft K w w' vo vo'
theorem Qmj {f:List Nd} {n:Nd} {o:List Nd}(h:Qh n.op=false):opX f n o=(o,0):=by simp [opX,h]
theorem Qmy {f:List Nd} {n:Nd} {o:List Nd}(h:Qc n.op=false):opY f n o=(o,0):=by simp [opY,h]
theorem Qd1 {f:List Nd} {n:Nd} {o:List Nd}(h:Qh n.op=true):opX f n o=Zt f n.x.toNat o:=by simp [opX,h]
theorem Qd2 {f:List Nd} {n:Nd} {o:List Nd}(h:Qc n.op=true):opY f n o=Zt f n.y.toNat o:=by simp [opY,h]
theorem Qm9 {n:Nd} {k:Nat}(h:Qh n.op=false)(hy:Qc n.op=true->0<=n.y):n.with_ k n.y.toNat=n:=by
 unfold Nd.with_;rw [h];cases e:Qc n.op
 ·rfl
 have:=hy e;cases n;simp only [cond_true,cond_false,Nd.mk.injEq,true_and];simp only at this;omega
theorem Qi9(n:Nd)(h:Qc n.op=true->0<=n.y):(bif Qc n.op then((n.y.toNat:Nat):Int)else n.y)=n.y:=by
 cases e:Qc n.op
 ·rfl
 have:=h e;simp only [cond_true];omega
theorem Qnv {n:Nd} {k:Nat}(h:Qh n.op=true)(hy:Qc n.op=true->0<=n.y):
 (#[.int .i64 n.op,.int .i64 n.i,.int .i64 n.e,.int .i64 n.g,.int .i64 n.x,.int .i64 n.y]:Array Value).setIfInBounds 4 (.int .i64 (k:Int))=
  #[.int .i64 (n.with_ k n.y.toNat).op,.int .i64 (n.with_ k n.y.toNat).i,.int .i64 (n.with_ k n.y.toNat).e,.int .i64 (n.with_ k n.y.toNat).g,.int .i64 (n.with_ k n.y.toNat).x,.int .i64 (n.with_ k n.y.toNat).y]:=by
 simp only [Nd.with_,h,cond_true,Qi9 n hy];rfl
theorem Qnk {n:Nd} {k1 k2:Nat}(h:Qc n.op=true)(m:Nd)(hm:m=n.with_ k1 n.y.toNat):
 (#[.int .i64 m.op,.int .i64 m.i,.int .i64 m.e,.int .i64 m.g,.int .i64 m.x,.int .i64 m.y]:Array Value).setIfInBounds 5 (.int .i64 (k2:Int))=
  #[.int .i64 (n.with_ k1 k2).op,.int .i64 (n.with_ k1 k2).i,.int .i64 (n.with_ k1 k2).e,.int .i64 (n.with_ k1 k2).g,.int .i64 (n.with_ k1 k2).x,.int .i64 (n.with_ k1 k2).y]:=by
 subst hm;simp only [Nd.with_,h,cond_true];rfl
theorem Qnd {n:Nd} {k1 k2:Nat}(h:Qc n.op=false):n.with_ k1 k2=n.with_ k1 n.y.toNat:=by simp [Nd.with_,h]
theorem Qs1 {n:Nd} {k1:Nat}(h:Qc n.op=true)(hy:0<=n.y):(n.with_ k1 n.y.toNat).y=n.y:=by simp only [Nd.with_,h,cond_true];omega
theorem Qd6 {f:List Nd}(hf:Wf f) {i:Nat} {n:Nd}(hn:f[i]?=some n)(o:List Nd):pot f (opX f n o).1<=pot f o:=by
 have hi:i < f.length:=(List.getElem?_eq_some_iff.1 hn).1;unfold opX
 split
 ·rename_i h1;have:=(hf i n hn).1 h1;exact Oc hf _ _ (by omega)
 exact Nat.le_refl _
theorem Qd7 {f:List Nd}(hf:Wf f) {i:Nat} {n:Nd}(hn:f[i]?=some n)(o:List Nd):pot f (opY f n o).1<=pot f o:=by
 have hi:i < f.length:=(List.getElem?_eq_some_iff.1 hn).1;unfold opY
 split
 ·rename_i h1;have:=(hf i n hn).2 h1;exact Oc hf _ _ (by omega)
 exact Nat.le_refl _
theorem Qaj {f:List Nd}(hf:Wf f) {i:Nat} {n:Nd}(hn:f[i]?=some n) {o o1:List Nd} {k1:Nat}(h:opX f n o=(o1,k1))(hlen:f.length<=1000)(hp:pot f o1<=f.length):k1<=1000:=by
 have hi:i < f.length:=(List.getElem?_eq_some_iff.1 hn).1;unfold opX at h
 split at h
 ·rename_i h1;have h2:=(hf i n hn).1 h1;have h3:=Lw hf n.x.toNat o (by omega);rw [h]at h3;have:=Xh f o1;simp only at h3;omega
 injection h with _ h;omega
theorem Qay {f:List Nd}(hf:Wf f) {i:Nat} {n:Nd}(hn:f[i]?=some n) {o o1:List Nd} {k1:Nat}(h:opY f n o=(o1,k1))(hlen:f.length<=1000)(hp:pot f o1<=f.length):k1<=1000:=by
 have hi:i < f.length:=(List.getElem?_eq_some_iff.1 hn).1;unfold opY at h
 split at h
 ·rename_i h1;have h2:=(hf i n hn).2 h1;have h3:=Lw hf n.y.toNat o (by omega);rw [h]at h3;have:=Xh f o1;simp only at h3;omega
 injection h with _ h;omega
theorem Qnb {n:Nd} {k1 k2:Nat}(h:n.ok)(h1:k1<=1000)(h2:k2<=1000):(n.with_ k1 k2).ok:=by
 obtain⟨a,b,c,d,e,g⟩:=h;refine⟨a,b,c,d,?_,?_⟩
 ·show Yj (bif Qh n.op then(k1:Int)else n.x);cases Qh n.op
  ·exact e
  exact⟨by simp only [cond_true];omega,by simp only [cond_true];omega⟩
 show Yj (bif Qc n.op then(k2:Int)else n.y);cases Qc n.op
 ·exact g
 exact⟨by simp only [cond_true];omega,by simp only [cond_true];omega⟩
theorem Qt2 {f:List Nd}(hf:Wf f) {i:Nat} {n:Nd}(hn:f[i]?=some n) {o o1 o2:List Nd} {k1 k2:Nat}(h1:opX f n o=(o1,k1))(h2:opY f n o1=(o2,k2)):
 Zt f i o=(Zh o2 (n.with_ k1 k2),o2.idxOf (n.with_ k1 k2)):=by
 rw [Ub hf hn,h1];simp only [h2]
theorem Qt {w:World} {base:Nat} {e:TypeId} {size n:Nat} {v:Value} {xs:List Value}(h:w.ownsRow base e size v n xs):∃A c,v=.slice A n c:=by
 rcases h.2 with⟨rfl,rfl⟩|⟨g,cap,cur,rfl,_⟩
 ·exact⟨_,_,rfl⟩
 exact⟨_,_,rfl⟩
theorem Qy2:(Tryz.prog.info? 71).map (fun i=>(i.zero,i.size,i.bytes))=some (some Nd.zero.val,6,48):=by kernel_rfl
theorem Qpc {f o o2:List Nd} {mm:Nd} {i:Nat}(hf:Wf f)(hi:i < f.length)(hfin:Zt f i o=(Zh o2 mm,o2.idxOf mm)) {w w':World} {b m:Nat} {D:D0}
 (h:w.ownsMap Tryz.prog 3 (plainElem Tryz.prog 3) b m D)(hm:m<=Tl D f)(hD:Td D f (Zh o2 mm))
 (h':w'.ownsMap Tryz.prog 3 (plainElem Tryz.prog 3) b (m+1) (D.put (.int .i64 i) (.lit (.int .i64 (o2.idxOf mm:Nat))))):Xl w' b f (Zh o2 mm):=by
 have hag:=Us hf i o (Zh o2 mm) hi (by rw [hfin];exact List.prefix_refl _);rw [hfin]at hag;refine Xl.put h hm hD hi ?_ ?_
 ·rw [hag]
 rw [hag];exact h'
theorem Qce(w:World)(m:Nd):∀j u,m.cells[j]?=some u->
 (w.alloc (.cells #[.int .i64 m.op,.int .i64 m.i,.int .i64 m.e,.int .i64 m.g,.int .i64 m.x,.int .i64 m.y] 71)).cell? ((⟨w.heap.size,0,none⟩:Addr).add j)=some u:=by
 intro j u hj;have h:=heap_alloc_new w (.cells #[.int .i64 m.op,.int .i64 m.i,.int .i64 m.e,.int .i64 m.g,.int .i64 m.x,.int .i64 m.y] 71);have e:((⟨w.heap.size,0,none⟩:Addr).add j)=⟨w.heap.size,j,none⟩:=by
  unfold Addr.add
  split
  ·rename_i h0;rw [h0]
  simp
 rw [e];simp only [World.cell?,h];rw [<-hj];simp [Nd.cells]
theorem Fw(m:Nd):∀u∈m.cells,u.oneCell'=true:=by
 intro u hu;simp only [Nd.cells,List.mem_cons,List.mem_nil_iff,or_false]at hu;rcases hu with rfl|rfl|rfl|rfl|rfl|rfl <;> rfl
theorem Qjb {w w':World} {P:Program} {k:TypeId} {R:Value->Option (D0×List MemPlace)} {b n:Nat} {D:D0}(h:w.ownsMap P k R b n D)(hb:w'.heap[b]?=w.heap[b]?):w'.ownsMap P k R b n D:=by
 obtain⟨es,clock,h1,h2⟩:=h;exact⟨es,clock,hb.trans h1,h2⟩
theorem Qx4 {K:Vw} {W0 we w w4:World} {A:Option Addr} {c:Nat} {f o:List Nd} {voe vo:Value} {bx bu:Nat} {m:Nd} {ux uy:Bool} {X:Obj}(h:Fy K W0 we w A c f o voe vo bx bu m ux uy)
 (hg:(w.alloc X).grownBy w4 vo.ownBlock):w.heap.size<=w4.heap.size/\w4.heap[K.out]?=some (.cells #[vo] 22 (0,0))/\
  w4.heap[bx]?=some (.cells #[.int .i64 m.op,.int .i64 m.i,.int .i64 m.e,.int .i64 m.g,.int .i64 m.x,.int .i64 m.y] 71 (0,0))/\
  w4.heap[K.num]?=some (.cells #[.map (some K.mn)] 184 (0,0))/\w4.heap[K.mn]?=w.heap[K.mn]?/\K.num≠K.out/\K.out≠K.num/\bx≠K.out/\K.mn≠K.out:=by
 obtain⟨l1,l2,l3,l4,l5,l6,l7⟩:=h.env.lts;obtain⟨e1,e2,e3,e4,e5,e6,e7⟩:=h.envlt;obtain⟨f1,f2,f3,f4,f5⟩:=h.fresh;have hra:=h.env.row_apart;obtain⟨b1,b2,b3,b4,b5,b6,b7,b8,b9,b10,b11,b12,b13,b14⟩:=h.env.blks_apart;have ea:Ext w (w.alloc X):=Qz.alloc _;have k4:∀b,b < w.heap.size->some b≠vo.ownBlock->w4.heap[b]?=w.heap[b]?:=fun b hb hne=>(hg.block b (Qy hb ea.size) hne).trans (ea.block hb)
 have ro:∀b,(∀g,vo.ownBlock=some g->g≠b)->some b≠vo.ownBlock:=fun b hb e=>hb b e.symm rfl
 exact⟨Qx ea.size hg.size,(k4 _ l2 (ro _ fun g hg=>(hra g hg).2.1)).trans h.env.blk_out,(k4 _ (Qm h.box) (Ne.symm f4)).trans h.box,
  (k4 _ l4 (ro _ fun g hg=>(hra g hg).2.2.2.1)).trans h.env.blk_num,k4 _ l6 (ro _ fun g hg=>(hra g hg).2.2.2.2.2.1),Ne.symm b3,b3,by omega,Ne.symm b5⟩
theorem Qo9 {K:Vw} {W0 we w:World} {A:Option Addr} {c:Nat} {f o2:List Nd} {voe vo:Value} {bx bu:Nat} {m:Nd} {ux uy:Bool}(_h:Fy K W0 we w A c f (Zh o2 m) voe vo bx bu m ux uy)(hp:pot f o2<=f.length)(hlen:f.length<=1000):
 o2.idxOf m < 2000:=by
 have h1:=Bx o2 m;have h2:=Xh f o2;have h3:(Zh o2 m).length<=o2.length+1:=by
  unfold Zh
  split
  ·omega
  simp
 omega
theorem Qrb {K:Vw} {W0 w:World} {A:Option Addr} {c:Nat} {f o:List Nd} {vo:Value}(hf:Wf f)(hok:∀n∈f,n.ok)(h:Uq K W0 w A c f o vo)(hlen:f.length<=1000)(i:Nat)(n:Nd)(hn:f[i]?=some n)(D:D0)(m:Nat)
 (hown:w.ownsMap Tryz.prog 3 (plainElem Tryz.prog 3) K.md m D)(hD:Td D f o)(hno:has D (.int .i64 i)=false)(hne:K.mn≠K.md)(hpot:pot f o<=f.length)
 (ih:∀z:Int,0<=z->z < i->Qje K W0 A c f z)(ux uy:Bool)(hux:Qh n.op=ux)(huy:Qc n.op=uy):
 Calls Tryz.prog 197 #[.int .i64 i,.pointer (some ⟨K.done,0,none⟩),.pointer (some ⟨K.f,0,none⟩),.pointer (some ⟨K.fin_,0,none⟩),.pointer (some ⟨K.num,0,none⟩),.pointer (some ⟨K.out,0,none⟩)] w
  fun e w'=>∃vo',e=.returned (.int .i64 (Zt f i o).2)/\Uq K W0 w' A c f (Zt f i o).1 vo'/\Ft K w w' vo vo':=by
 have hi:i < f.length:=(List.getElem?_eq_some_iff.1 hn).1;have cd:=cell_of_one h.blk_done;have cf:=cell_of_one h.blk_f;obtain⟨l1,l2,l3,l4,l5,l6,l7⟩:=h.lts;have hkey:=Dg (a:=(i:Int)) ⟨by omega,by omega⟩;obtain⟨ad,rfl,hlt,hcells⟩:=h.nds.2.2 (by intro e;rw [e]at hi;simp at hi);have hcapl:=h.nds.1;have hcapm:=h.nds.2.1;unfold maxLen at hcapm;obtain⟨c0,c1,c2,c3,c4,c5⟩:=(hcells i n hn).keep fun p hp=>h.below.cell (p:=p) (by rw [hp,Qp];exact hlt)
 have H:=Qq h;have HN:=Qq hn;have HUX:=Qq hux;have HUY:=Qq huy;have IH:=Qq ih;have HD:=Qq hD;have HF:=Qq hf;have HOK:=Qq hok;clear h hn hux huy ih hD hcells hf hok;go_enter Tryz.func197,Tryz.ntmps197;go_upto_region 6 with(first|(at_lookup;refine wpList_lookup_own_ok_int _ rfl _ _ 178 rfl 3 3 .i64 Gn Tryz.underlying178 Tryz.underlying3 (Rt _) K.md m D rfl hown _ _ rfl hkey ?_;intro cc hat hwc;clear hat hwc)|(go_at_call 161;refine(Yn _ _ _ _ _ _ _ _ HUX.out HUY.out rfl rfl rfl rfl rfl _).mono ?_;rintro e w1 ⟨rfl,hb⟩));have hmid:=Fy.start (ux:=ux) (uy:=uy) H.out n (.bool (Zk n.op)) (.bool (Qe n.op)) (.bool (Zz n.op)) (.bool (Qw n.op)) (.int .i64 (Yd n.op)) hb
 go_cut [34] (fun s34 wx=>s34=.bool ux/\Fy K W0 w wx (some ad) c f o vo vo w.heap.size w1.heap.size n ux uy)
 case first =>
  obtain⟨u2,u3,u4,u5,u6,hu⟩:=hmid.use;obtain⟨d0,d1,d2⟩:=Qii hu;go_wp2_with fail;go_meet;exact⟨rfl,hmid⟩
 case rest =>
  obtain⟨rfl,hmid⟩:=hcut;have HP:=Qq hpot;clear hpot;go_upto_if 34 with(fail);go_cut [] (fun wx=>∃vo1,Fy K W0 w wx (some ad) c f (opX f n o).1 vo vo1 w.heap.size w1.heap.size (n.with_ (opX f n o).2 n.y.toNat) ux uy)
  case first =>
   cases ux
   ·go_wp2_with fail;go_meet;exact⟨vo,by rw [Qmj HUX.out,Qm9 HUX.out (fun e=>((HF.out i n HN.out).2 e).1)];exact hmid⟩
   obtain⟨⟨d0,d1,d2,d3,d4,d5⟩,dfr,dlt⟩:=Yx hmid.box;have dfin:=cell_of_one hmid.env.blk_fin;unfold Vw.caps at dfin;obtain⟨hx0,hx1⟩:=(HF.out i n HN.out).1 HUX.out;have HM:=Qq hmid;clear hmid;go_wp2_with fail;refine(IH.out n.x hx0 hx1 _ _ _ HM.out.env HP.out).mono ?_;rintro e w2 ⟨vo1,rfl,henv,hstep⟩;have HM2:=Qq (HM.out.call henv hstep);clear henv hstep d0 d1 d2 d3 d4 d5 dfr dlt dfin;obtain⟨⟨d0,d1,d2,d3,d4,d5⟩,dfr,dlt⟩:=Yx HM2.out.box;go_wp2_with fail;go_meet;refine⟨vo1,?_⟩;rw [Qd1 HUX.out];exact HM2.out.store 4 _ _ (Qnv HUX.out (fun e=>((HF.out i n HN.out).2 e).1))
  case rest =>
   obtain⟨vo1,hmid1⟩:=hcut;have HP1:Hid (pot f (opX f n o).1<=f.length):=Qq (Qx (Qd6 HF.out HN.out o) HP.out);obtain⟨o1,k1,ho1⟩:∃o1 k1,opX f n o=(o1,k1):=⟨_,_,rfl⟩;have HO1:=Qq ho1;rw [ho1]at hmid1 HP1;simp only at hmid1 HP1;clear ho1 hmid cd cf c0 c1 c2 c3 c4 c5 hkey hown hno hb;obtain⟨u2,u3,u4,u5,u6,hu⟩:=hmid1.use;obtain⟨d0,d1,d2⟩:=Qii hu;have HM:=Qq hmid1;clear hmid1 hu;go_upto_if 41 with(fail);go_cut [] (fun wx=>∃vo2,Fy K W0 w wx (some ad) c f (opY f n o1).1 vo vo2 w.heap.size w1.heap.size (n.with_ k1 (opY f n o1).2) ux uy)
   case first =>
    clear d0 d1 d2;cases uy
    ·go_wp2_with fail;go_meet;exact⟨vo1,by rw [Qmy HUY.out,Qnd HUY.out];exact HM.out⟩
    have hy:=(HF.out i n HN.out).2 HUY.out;obtain⟨hy0,hy1⟩:=hy;obtain⟨⟨d0,d1,d2,d3,d4,d5⟩,dfr,dlt⟩:=Yx HM.out.box;rw [Qs1 HUY.out hy0]at d5;have dfin:=cell_of_one HM.out.env.blk_fin;unfold Vw.caps at dfin;go_wp2_with fail;refine(IH.out n.y hy0 hy1 _ _ _ HM.out.env HP1.out).mono ?_;rintro e w2 ⟨vo2,rfl,henv,hstep⟩;have HM2:=Qq (HM.out.call henv hstep);clear henv hstep d0 d1 d2 d3 d4 d5 dfr dlt dfin;obtain⟨⟨d0,d1,d2,d3,d4,d5⟩,dfr,dlt⟩:=Yx HM2.out.box;go_wp2_with fail;go_meet;refine⟨vo2,?_⟩;rw [Qd2 HUY.out];exact HM2.out.store 5 _ _ (Qnk HUY.out _ rfl)
   case rest =>
    clear d0 d1 d2;obtain⟨vo2,hmid2⟩:=hcut;have HP2:Hid (pot f (opY f n o1).1<=f.length):=Qq (Qx (Qd7 HF.out HN.out o1) HP1.out);obtain⟨o2,k2,ho2⟩:∃o2 k2,opY f n o1=(o2,k2):=⟨_,_,rfl⟩;have HO2:=Qq ho2;rw [ho2]at hmid2 HP2;simp only at hmid2 HP2;clear ho2;have hk1:k1<=1000:=Qaj HF.out HN.out HO1.out hlen HP1.out;have hk2:k2<=1000:=Qay HF.out HN.out HO2.out hlen HP2.out;have HMOK:=Qq (Qnb (HOK.out n (List.mem_of_getElem? HN.out)) hk1 hk2);have HFIN:=Qq (Qt2 HF.out HN.out HO1.out HO2.out);clear hk1 hk2;generalize n.with_ k1 k2=mm at hmid2 HMOK HFIN;obtain⟨D2,q2,hown2,hq2,hD2⟩:=hmid2.env.nums
    obtain⟨⟨d0,d1,d2,d3,d4,d5⟩,dfr,dlt⟩:=Yx hmid2.box;have dnum:=cell_of_one hmid2.env.blk_num;have hkey2:keyOf Tryz.prog 71 (.agg #[.int .i64 mm.op,.int .i64 mm.i,.int .i64 mm.e,.int .i64 mm.g,.int .i64 mm.x,.int .i64 mm.y])=some (Bh mm):=Aj HMOK.out;have HD2:=Qq hD2;have HM:=Qq hmid2;clear hD2 hmid2;go_upto_if 54 with(at_lookup;refine wpList_lookup_own_ok_int _ rfl _ _ 184 rfl 71 3 .i64 Ox Tryz.underlying184 Tryz.underlying3 (Rt _) K.mn q2 D2 rfl hown2 _ _ rfl hkey2 ?_;intro c2 hat hwc);have HAT:=Qq hat;clear hat hwc;go_cut [13,14] (fun s13 _ wx=>s13=.int .i64 (o2.idxOf mm:Nat)/\∃vo3,Fy K W0 w wx (some ad) c f (Zh o2 mm) vo vo3 w.heap.size w1.heap.size mm ux uy)
    case first =>
     by_cases hin:mm∈o2
     ·have hh:has D2 (Bh mm)=true:=by rw [(HD2.out mm HMOK.out).1];simpa using hin
      have HADD:=Qq (show Zh o2 mm=o2 by unfold Zh;rw [if_pos hin]);have HVAL:=Qq (((HD2.out mm HMOK.out).2 hin (.lit (.int .i64 0))).symm.trans HAT.out);clear hin;rw [hh];go_wp2_with fail;go_meet;have e1:=HVAL.out;injection e1 with e1;injection e1 with _ e1;exact⟨by rw [e1],vo2,by rw [HADD.out];exact HM.out⟩
     have hh:has D2 (Bh mm)=false:=by rw [(HD2.out mm HMOK.out).1];simpa using hin
     have HIN:=Qq hin;have HADD:=Qq (show Zh o2 mm=o2++ [mm] by unfold Zh;rw [if_neg hin]);have HIX:=Qq (List.idxOf_eq_length hin);clear hin;rw [hh];have hrow:=HM.out.env.row;obtain⟨Ao,co,rfl⟩:∃Ao co,vo2=.slice Ao o2.length co:=Qt hrow;have dout:=cell_of_one HM.out.env.blk_out;obtain⟨i0,hi0,hz0,hz1,hz2⟩:=info_parts Qy2;have hlen2:o2.length<=1000:=Qx (Xh f o2) (Qx HP2.out hlen);have hc3:o2.length+1<=maxLen:=by unfold maxLen;omega
     have hc4:(o2.length+1)*48<=140737488355328:=by omega
     have hc5:∀X,W0.heap.size<=(wc.alloc X).heap.size:=fun X=>by
      have:=HM.out.env.below.size;simp;omega
     go_wp2_with(at_builtin;refine wpList_append_own_at _ rfl _ _ 22 rfl W0.heap.size 71 i0 Nd.zero.val 6 48 Tryz.underlying22 hi0 hz0 hz1 hz2 rfl (by decide) _ _ _ rfl (hrow.alloc _) ⟨wc.heap.size,0,none⟩ 1 1 mm.cells rfl rfl (Qce wc mm) (Fw mm) hc3 hc4 (hc5 _) ?_);intro v' w4 hown4 hgrow4 _ hat4;obtain⟨A',c',rfl⟩:=Qt hown4;obtain⟨hsz4,kout,kbox,knum,kmap,ke1,ke2,ke3,ke4⟩:=Qx4 HM.out hgrow4;clear d0 d1 d2 d3 d4 d5 dfr dlt dnum dout;obtain⟨⟨d0,d1,d2,d3,d4,d5⟩,dfr,dlt⟩:=Yx kbox;have dout:=cell_of_one kout;have dfree:=free_of_one kout;have dnum:=cell_of_one knum;have hel:(plainElem Tryz.prog 3 (.int .i64 ((o2.length:Nat):Int)):Option (D0×List MemPlace))=some (.lit (.int .i64 ((o2.length:Nat):Int)),[]):=Qzw ⟨by omega,by omega⟩
     have hown5:=(Qjb hown2 kmap).setCell (a:=⟨K.out,0,none⟩) ke4 (.slice A' (o2.length+1) c');go_wp2_with(at_mapUpdate;refine wpList_mapUpdate_own _ rfl _ _ _ 184 rfl 71 3 Ox Tryz.underlying184 _ K.mn q2 D2 rfl hown5 (by unfold maxLen;omega) _ _ _ rfl rfl hkey2 _ [] hel ?_;intro w6 hown6 hgrow6);go_meet;refine⟨by rw [HIX.out],.slice A' (o2.length+1) c',?_⟩;rw [HADD.out];exact HM.out.added HF.out HIN.out HMOK.out hne hown4 hgrow4 (hat4.imp id fun e=>by rw [e];simp) hown2 hq2 HD2.out hown6 hgrow6
    case rest =>
     clear d0 d1 d2 d3 d4 d5 dfr dlt dnum hown2 hkey2;obtain⟨rfl,vo3,hmid3⟩:=hcut;obtain⟨D3,q3,hown3,hq3,hD3⟩:=hmid3.env.dones;have ddone:=cell_of_one hmid3.env.blk_done;have hq4:=Qgf D3 f;have hkey3:=Dg (a:=(i:Int)) ⟨by omega,by omega⟩;have HD3:=Qq hD3;have HM3:=Qq hmid3;have hix:o2.idxOf mm < 2000:=Qo9 HM3.out HP2.out hlen;have hel:(plainElem Tryz.prog 3 (.int .i64 ((o2.idxOf mm:Nat):Int)):Option (D0×List MemPlace))=some (.lit (.int .i64 ((o2.idxOf mm:Nat):Int)),[]):=Qzw ⟨by omega,by omega⟩;clear hD3 hmid3;go_wp2_with(at_mapUpdate;refine wpList_mapUpdate_own _ rfl _ _ _ 178 rfl 3 3 Gn Tryz.underlying178 _ K.md q3 D3 rfl hown3 (by unfold maxLen;omega) _ _ _ rfl rfl hkey3 _ [] hel ?_;intro w7 hown7 hgrow7)
     have HDONE:=Qq (Qpc HF.out hi HFIN.out hown3 hq3 HD3.out hown7);have HEND:=Qq (HM3.out.finish hgrow7 HDONE.out hne);go_ret;refine⟨vo3,Kx ?_,?_,HEND.out.2⟩
     ·rw [HFIN.out]
     rw [HFIN.out];exact HEND.out.1
open Go.Maps (has)
theorem Qrf {K:Vw} {W0:World} {A:Option Addr} {c:Nat} {f:List Nd}(hf:Wf f)(hok:∀n∈f,n.ok)(hlen:f.length<=1000)(hne:K.mn≠K.md):
 ∀i:Nat,i < f.length->Qje K W0 A c f i:=by
 intro i
 induction i using Nat.strongRecOn with
 |_ i ih =>
  intro hi w o vo henv hpot;obtain⟨n,hn⟩:∃n,f[i]?=some n:=⟨_,Qv hi⟩;obtain⟨D,m,hown,_,hD⟩:=henv.dones;rw [Int.toNat_natCast];cases hh:has D (.int .i64 i)
  ·refine Qrb hf hok henv hlen i n hn D m hown hD hh hne hpot (fun z h0 h1=> ?_) _ _ rfl rfl;obtain⟨j,rfl⟩:=Int.eq_ofNat_of_zero_le h0;exact ih j (by omega) (by omega)
  refine(Qbr henv hlen i hi D m hown hD hh).mono ?_;rintro e w' ⟨rfl,rfl⟩;refine⟨vo,rfl,?_,Ft.refl _ _ _⟩;have:=(hD i hh).2.1;rw [this];exact henv
def Vw.at_(s:Nat):Vw:=⟨s,s+1,s+1+1+1+1+1,s+1+1+1,s+1+1+1+1+1+1,s+1+1,s+1+1+1+1⟩
def Ll(w:World)(A:Option Addr)(c n:Nat):World :=
 ((((((w.alloc (Obj.cells #[Value.slice A n c] 22)).alloc (Obj.cells #[Value.slice none 0 0] 22)).alloc (Obj.map #[] 0)).alloc (Obj.cells #[Value.map (some (w.heap.size+1+1))] 184)).alloc
   (Obj.map #[] 0)).alloc (Obj.cells #[Value.map (some (w.heap.size+1+1+1+1))] 178)).alloc
   (Obj.cells #[Value.func (Fn.func 197) #[] (Vw.at_ w.heap.size).caps] 109)
theorem Sa {w w':World} {o:Obj} {k:Nat}(h:Ext (w.alloc o) w')(hk:k=w.heap.size):w'.heap[k]?=some o:=by
 subst hk;exact(h.block (by simp)).trans (heap_alloc_new w o)
theorem Qmi(w:World)(A:Option Addr)(c:Nat)(f:List Nd)(h:Tj w A c f):Uq (Vw.at_ w.heap.size) w (Ll w A c f.length) A c f [] (.slice none 0 0):=by
 have hb:Below w.heap.size w (Ll w A c f.length):=((((((((Ext.refl w).alloc _).alloc _).alloc _).alloc _).alloc _).alloc _).alloc _);refine⟨hb,h,Sa ((((((Qz.alloc _).alloc _).alloc _).alloc _).alloc _).alloc _) rfl,Sa (((((Qz.alloc _).alloc _).alloc _).alloc _).alloc _) (by simp [Vw.at_]),Sa (Qz.alloc _) (by simp [Vw.at_]),Sa (((Qz.alloc _).alloc _).alloc _) (by simp [Vw.at_]),Sa Qz (by simp [Vw.at_]),World.ownsRow_nil _ _ _ _,?_,?_,?_,?_,by simp⟩
 ·have h2:(Ll w A c f.length).heap[(Vw.at_ w.heap.size).mn]?=some (.map #[] 0):=Sa ((((Qz.alloc _).alloc _).alloc _).alloc _) (by simp [Vw.at_]);exact⟨.map [],0,⟨#[],0,h2,⟨by simp,MapKept.stamped_empty 0,by simp⟩,Nat.le_refl _,rfl⟩,Nat.le_refl _,fun n _=>⟨by simp [has],fun h=>by cases h⟩⟩
 ·have h2:(Ll w A c f.length).heap[(Vw.at_ w.heap.size).md]?=some (.map #[] 0):=Sa ((Qz.alloc _).alloc _) (by simp [Vw.at_]);exact⟨.map [],0,⟨#[],0,h2,⟨by simp,MapKept.stamped_empty 0,by simp⟩,Nat.le_refl _,rfl⟩,Nat.zero_le _,fun i h=>by simp [has]at h⟩
 ·simp only [Vw.at_];omega
 simp only [Vw.at_];omega
theorem Pi(f:List Nd)(A:Option Addr)(c r:Nat)(w:World)(hf:Wf f)(hok:∀n∈f,n.ok)(hlen:f.length<=1000)(hr:r < f.length)(h:Tj w A c f):
 Calls Tryz.prog 162 #[.slice A f.length c,.int .i64 r] w fun e w'=>∃v,e=.returned v/\w'.ownsRow w.heap.size 71 6 v (Zt f r []).1.length ((Zt f r []).1.flatMap Nd.cells)/\(∀n∈(Zt f r []).1,n.ok)/\Ext w w':=by
 have hmm:= @run_makeMap Tryz.prog;have hmf:∀(fn:Fn) (first cap:Array Value) (w:World),(Instr.makeFunc fn first cap).run Tryz.prog w=.ok (.func fn first cap) w:=fun _ _ _ _=>rfl
 have HE:=Qq (Qmi w A c f h);have HF:=Qq (Qrf (K:=Vw.at_ w.heap.size) (W0:=w) (A:=A) (c:=c) hf hok hlen (by simp only [Vw.at_];omega) r hr _ _ _ HE.out (Mz f));clear hf hok h;go_enter Tryz.func162,Tryz.ntmps162;go_wp2_with fail;refine HF.out.mono ?_;rw [Int.toNat_natCast];rintro e w1 ⟨vo',rfl,henv,_⟩;have HENV:=Qq henv;have hout:=cell_of_one henv.blk_out;simp only [Vw.at_]at hout;obtain⟨Ao,co,rfl⟩:=Qt henv.row;clear henv;go_wp2_with fail;go_ret;exact⟨_,rfl,HENV.out.row,HENV.out.oks,HENV.out.below⟩
end Go.Proofs.YtkmclcmnoicagaaGreatDoor
