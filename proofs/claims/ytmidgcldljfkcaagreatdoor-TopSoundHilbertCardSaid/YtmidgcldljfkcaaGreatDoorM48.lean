/- wittingtop's cAwake25 and cValid: what they return. -/
import Derived.Test.YtmidgcldljfkcaaGreatDoorM01
import Derived.Test.YtmidgcldljfkcaaGreatDoorM34
import Derived.Test.YtmidgcldljfkcaaGreatDoorM27
import Derived.Test.YtmidgcldljfkcaaGreatDoorM42
import Derived.Test.YtmidgcldljfkcaaGreatDoorM46
import Derived.Test.YtmidgcldljfkcaaGreatDoorM47
import Derived.Test.YtmidgcldljfkcaaGreatDoorM29
namespace Go.Proofs.YtmidgcldljfkcaaGreatDoor
set_option maxRecDepth 100000
set_option maxHeartbeats 128000000
open Go.RowKit
theorem Br {w:World} {cs:List Value} {T:TypeId} {B:Nat}(hB:B=w.heap.size) {k:Nat} {z:Value}(h:cs[k]?=some z):(w.alloc (.cells cs.toArray T)).cell? ⟨B,k,none⟩=some z:=by
 subst hB;have:=Bm w cs.toArray T k z (by simpa using h)
 rwa [Xs]at this
theorem Qvl {w:World} {B:Nat}(hB:B=w.heap.size)(l:List Nat)(h:l.length<=100):Yi (w.alloc (.cells (l.map fun(z:Nat)=>Value.int .u64 (z:Int)).toArray 43)) (.slice (some ⟨B,0,none⟩) l.length l.length) l :=
 ⟨_,_,rfl,Nat.le_refl _,by unfold maxLen;omega,fun _=>⟨_,rfl,by rw [hB];simp,fun k z hk=>by
  rw [Xs];exact Br hB (by rw [List.getElem?_map,hk];rfl)⟩⟩
theorem Am {w:World} {B:Nat}(hB:B=w.heap.size):Zi (w.alloc (.cells #[.int .i64 0] 3)) (.slice (some ⟨B,0,none⟩) 1 1) [0]:=by
 subst hB;exact Mg [0] (by decide)
theorem Qhl {w:World} {B:Nat}(hB:B=w.heap.size)(l:List Nd)(h:l.length<=100)(hk:∀n∈l,n.ok):Fml (w.alloc (.cells (l.flatMap Nd.cells).toArray 64)) (.slice (some ⟨B,0,none⟩) l.length l.length) l:=by
 subst hB;have hl:(l.flatMap Nd.cells).length=l.length*6:=by
  clear h hk
  induction l with
  |nil=>rfl
  |cons a r ih=>rw [List.flatMap_cons,List.length_append,ih];show 6+_=_;simp;omega
 exact⟨Hl (base:=0) ⟨hl,.inr ⟨w.heap.size,l.length,(l.flatMap Nd.cells).toArray,rfl,Nat.zero_le _,heap_alloc_new _ _,Nat.le_refl _,by unfold maxLen;omega,by simpa using hl,by rw [List.take_of_length_le (by simp [hl])]⟩⟩,hk⟩
theorem Qhz {w:World} {ls:List Ln} {cs:List Value} {B:Nat}(hB:B=w.heap.size)(hl:ls.length<=100)(h:∀(k:Nat) (n:Ln),ls[k]?=some n->∃uf ur,cs[k*5]?=some (.int .i64 n.depth)/\cs[k*5+1]?=some (.int .i64 n.rule)/\cs[k*5+2]?=some uf/\cs[k*5+3]?=some (.int .i64 n.agent)/\cs[k*5+4]?=some ur/\Fml w uf n.f/\Zi w ur n.from_):
 Lns (w.alloc (.cells cs.toArray 62)) (.slice (some ⟨B,0,none⟩) ls.length ls.length) ls :=
 ⟨_,_,rfl,Nat.le_refl _,by unfold maxLen;omega,fun _=>⟨_,rfl,by rw [hB];simp,fun k n hk=>by
  obtain⟨uf,ur,q0,q1,q2,q3,q4,q5,q6⟩:=h k n hk;rw [Xs];exact⟨uf,ur,Br hB q0,Br hB q1,Br hB q2,Br hB q3,Br hB q4,q5.ext (Qz.alloc _),q6.ext (Qz.alloc _)⟩⟩⟩
theorem Qhg {w:World} {ls:List Stp} {cs:List Value} {B:Nat}(hB:B=w.heap.size)(hl:ls.length<=100)(h:∀(k:Nat) (n:Stp),ls[k]?=some n->∃ur,cs[k*5]?=some (.int .u64 (n.set:Int))/\cs[k*5+1]?=some (.int .i64 n.rule)/\cs[k*5+2]?=some (.int .i64 n.on)/\cs[k*5+3]?=some (.int .i64 n.e)/\cs[k*5+4]?=some ur/\Zi w ur n.from_/\n.set < 18446744073709551616):
 Sps (w.alloc (.cells cs.toArray 66)) (.slice (some ⟨B,0,none⟩) ls.length ls.length) ls :=
 ⟨_,_,rfl,Nat.le_refl _,by unfold maxLen;omega,fun _=>⟨_,rfl,by rw [hB];simp,fun k n hk=>by
  obtain⟨ur,q0,q1,q2,q3,q4,q5,q6⟩:=h k n hk;rw [Xs];exact⟨ur,Br hB q0,Br hB q1,Br hB q2,Br hB q3,Br hB q4,q5.ext (Qz.alloc _),q6⟩⟩⟩
theorem Qc9(w:World):MdV (((w.alloc (.cells #[.int .u64 1] 43)).alloc (.cells #[.int .u64 1,.int .u64 3] 43)).alloc (.cells #[.slice (some ⟨w.heap.size+1,0,none⟩) 2 2] 25)) (.agg #[.int .i64 2,.slice (some ⟨w.heap.size,0,none⟩) 1 1,.slice (some ⟨w.heap.size+1+1,0,none⟩) 1 1]) tpM :=
 ⟨_,_,rfl,(Qvl rfl [1] (by decide)).ext ((Qz.alloc _).alloc _),_,1,rfl,Nat.le_refl _,by decide,fun _=>⟨_,rfl,by simp,fun k s hk=>by
  obtain⟨rfl,rfl⟩:k=0/\s= [1,3]:=by
   cases k with
   |zero=>exact⟨rfl,by simpa [tpM]using hk.symm⟩
   |succ k=>simp [tpM]at hk
  exact⟨_,Br (cs:= [.slice (some ⟨w.heap.size+1,0,none⟩) 2 2]) (k:=0) (by simp) rfl,(Qvl (w:=w.alloc (.cells #[.int .u64 1] 43)) (by simp) [1,3] (by decide)).ext (Qz.alloc _)⟩⟩⟩
theorem Qs0:tpM.ok:=⟨⟨by decide,by decide⟩,fun s hs=>by
 obtain rfl:s=1:=by simpa [tpM]using hs
 show(1:Nat) < 18446744073709551616
 decide,fun r hr s hs=>by
 obtain rfl:r= [1,3]:=by simpa [tpM]using hr
 have h:s=1\/s=3:=by simpa using hs
 rcases h with rfl|rfl
 ·show(1:Nat) < 18446744073709551616;decide
 show(3:Nat) < 18446744073709551616
 decide⟩
theorem Qaw:∀n∈tpB,n.ok:=fun n hn=>by
 have h:n=⟨3,0,0,0,0,0⟩\/n=⟨4,0,0,0,0,0⟩\/n=⟨9,0,0,0,0,0⟩:=by simpa [tpB]using hn
 rcases h with rfl|rfl|rfl <;> exact⟨⟨by decide,by decide⟩,⟨by decide,by decide⟩,⟨by decide,by decide⟩,⟨by decide,by decide⟩,⟨by decide,by decide⟩,⟨by decide,by decide⟩⟩
theorem Ld {w:World} {b:Nat} {a0 a1 a2:Value} {t:TypeId}(h:w.heap[b]?=some (.cells #[a0,a1,a2] t (0,0))):w.cell? ⟨b,0,none⟩=some a0/\w.cell? ⟨b,1,none⟩=some a1/\w.cell? ⟨b,2,none⟩=some a2/\(∀j,w.frozen? ⟨b,j,none⟩=false)/\b < w.heap.size :=
 ⟨by simp [World.cell?,h],by simp [World.cell?,h],by simp [World.cell?,h],fun j=>by simp [World.frozen?,h],Qm h⟩
theorem Pr {w:World}(hT:Tab w)(hZ:Kx w)(hH:Pn w):
 Calls Tryz.prog 6 #[] w fun e w'=>e=.returned (.bool true)/\Ext w w':=by
 have HT:=Qq hT;have HZ:=Qq hZ;have HH:=Qq hH;clear hT hZ hH;go_enter Tryz.func6,Tryz.ntmps6;go_wp2_with fail;refine(Qvt 0 (Qe (by omega) (by omega)) _).mono ?_;rintro e w1 ⟨u,rfl,hm⟩;have S1:=Qq (show Ext w w1 from xt hm.ext);have HP:=Qq (show Fml w1 u tpP from hm.fml);obtain⟨AHP,cHP,rfl,_⟩:=Qg HP.out;clear hm;go_wp2_with fail;refine(Xn 0 (Qe (by omega) (by omega)) _ _ _ (HP.out.ext (xw))).mono ?_;rintro e w2 ⟨u,rfl,hm⟩;have S2:=Qq (show Ext w1 w2 from xt hm.ext);have HK:=Qq (show Fml w2 u tpK from hm.fml);obtain⟨AHK,cHK,rfl,_⟩:=Qg HK.out;clear hm;go_wp2_with fail
 refine(Kq _ _ _ _ _ (HK.out.ext (xw)) (HP.out.ext (S2.out.trans xw))).mono ?_;rintro e w3 ⟨u,rfl,hm⟩;have S3:=Qq (show Ext w2 w3 from xt hm.ext);have HX:=Qq (show Fml w3 u tpX from hm.fml);obtain⟨AHX,cHX,rfl,_⟩:=Qg HX.out;clear hm;go_wp2_with fail;have HM:=Qq (show MdV ((((w3.alloc (.cells #[.int .u64 1] 43)).alloc (.cells #[.int .u64 1,.int .u64 3] 43)).alloc (.cells #[.slice (some ⟨w3.heap.size+1,0,none⟩) 2 2] 25)).alloc (.cells #[.int .i64 2,.slice (some ⟨w3.heap.size,0,none⟩) 1 1,.slice (some ⟨w3.heap.size+1+1,0,none⟩) 1 1] 28)) (.agg #[.int .i64 2,.slice (some ⟨w3.heap.size,0,none⟩) 1 1,.slice (some ⟨w3.heap.size+1+1,0,none⟩) 1 1]) tpM from(Qc9 w3).ext (Qz.alloc _))
 have B4:=Qq (heap_alloc_new (((w3.alloc (.cells #[.int .u64 1] 43)).alloc (.cells #[.int .u64 1,.int .u64 3] 43)).alloc (.cells #[.slice (some ⟨w3.heap.size+1,0,none⟩) 2 2] 25)) (.cells #[.int .i64 2,.slice (some ⟨w3.heap.size,0,none⟩) 1 1,.slice (some ⟨w3.heap.size+1+1,0,none⟩) 1 1] 28));obtain⟨W4,hW4⟩:∃z,z=(((w3.alloc (.cells #[.int .u64 1] 43)).alloc (.cells #[.int .u64 1,.int .u64 3] 43)).alloc (.cells #[.slice (some ⟨w3.heap.size+1,0,none⟩) 2 2] 25)).alloc (.cells #[.int .i64 2,.slice (some ⟨w3.heap.size,0,none⟩) 1 1,.slice (some ⟨w3.heap.size+1+1,0,none⟩) 1 1] 28):=⟨_,rfl⟩;have E4:=Qq (show Ext w3 W4 from by rw [hW4];exact(((Qz.alloc _).alloc _).alloc _).alloc _)
 have HS4:=Qq (show(((w3.alloc (.cells #[.int .u64 1] 43)).alloc (.cells #[.int .u64 1,.int .u64 3] 43)).alloc (.cells #[.slice (some ⟨w3.heap.size+1,0,none⟩) 2 2] 25)).heap.size=w3.heap.size+1+1+1 by simp);rw [<-hW4]at HM B4;rw [<-hW4];rw [HS4.out]at B4;clear hW4;refine(Qj9 Qyq _ _ tpM tpX _ HM.out Qs0 (HX.out.ext E4.out)).mono ?_;rintro e w4 ⟨rfl,hx⟩;have S4:=Qq (show Ext w3 w4 from E4.out.trans hx);rw [Qsv.1,Qsv.2,show(decide ((0:Int)=0)&&(((3:Nat):Int)==((Zo tpM.n.toNat:Nat):Int)))=true by decide+kernel];have T4:=Qq hx;have F4:=Qq (E4.out.trans hx);clear hx;go_wp2_with fail
 refine(Qn1 (lg:=2) (HX.out.ext F4.out) (HH.out.ext (S1.out.trans (S2.out.trans (S3.out.trans S4.out))))).mono ?_;rintro e w5 ⟨rfl,hx⟩;have S5:=Qq (show Ext w4 w5 from xt hx);rw [Qwx];clear hx;go_wp2_with fail;have HKP:=Qq (And.intro (HK.out.ext (S3.out.trans (S4.out.trans S5.out))) (And.intro (HP.out.ext (S2.out.trans (S3.out.trans (S4.out.trans S5.out)))) (HX.out.ext (S4.out.trans S5.out))))
 have HL:=Qq (show Lns ((((w5.alloc (.cells #[.int .i64 0] 3)).alloc (.cells #[.int .i64 0] 3)).alloc (.cells ([.int .i64 1,.int .i64 1,.slice AHK tpK.length cHK,.int .i64 0,.slice none 0 0,.int .i64 1,.int .i64 18,.slice AHP tpP.length cHP,.int .i64 0,.slice (some ⟨w5.heap.size,0,none⟩) 1 1,.int .i64 0,.int .i64 8,.slice AHX tpX.length cHX,.int .i64 0,.slice (some ⟨w5.heap.size+1,0,none⟩) 1 1]).toArray 62)).alloc (.cells #[.int .i64 2,.slice (some ⟨w5.heap.size+1+1,0,none⟩) 3 3] 24)) (.slice (some ⟨w5.heap.size+1+1,0,none⟩) 3 3) tpL from
  (Qhz (w:=(w5.alloc (.cells #[.int .i64 0] 3)).alloc (.cells #[.int .i64 0] 3)) (ls:=tpL) (by simp) (by decide) (fun k n hk=>by
   have e2:Ext w5 ((w5.alloc (.cells #[.int .i64 0] 3)).alloc (.cells #[.int .i64 0] 3)):=(Qz.alloc _).alloc _;rcases(show k=0\/k=1\/k=2 by have:=(List.getElem?_eq_some_iff.1 hk).1;have h3:tpL.length=3:=rfl;omega)with rfl|rfl|rfl
   ·obtain rfl:n=⟨1,1,tpK,0,[]⟩:=(Option.some.inj hk).symm;exact⟨_,_,rfl,rfl,rfl,rfl,rfl,HKP.out.1.ext e2,Zi.none_ _⟩
   ·obtain rfl:n=⟨1,18,tpP,0,[0]⟩:=(Option.some.inj hk).symm;exact⟨_,_,rfl,rfl,rfl,rfl,rfl,HKP.out.2.1.ext e2,(Am (w:=w5) rfl).ext (Qz.alloc _)⟩
   obtain rfl:n=⟨0,8,tpX,0,[0]⟩:=(Option.some.inj hk).symm;exact⟨_,_,rfl,rfl,rfl,rfl,rfl,HKP.out.2.2.ext e2,Am (w:=w5.alloc (.cells #[.int .i64 0] 3)) (by simp)⟩)).ext (Qz.alloc _))
 obtain⟨W5,hW5⟩:∃z,z=(((w5.alloc (.cells #[.int .i64 0] 3)).alloc (.cells #[.int .i64 0] 3)).alloc (.cells ([.int .i64 1,.int .i64 1,.slice AHK tpK.length cHK,.int .i64 0,.slice none 0 0,.int .i64 1,.int .i64 18,.slice AHP tpP.length cHP,.int .i64 0,.slice (some ⟨w5.heap.size,0,none⟩) 1 1,.int .i64 0,.int .i64 8,.slice AHX tpX.length cHX,.int .i64 0,.slice (some ⟨w5.heap.size+1,0,none⟩) 1 1]).toArray 62)).alloc (.cells #[.int .i64 2,.slice (some ⟨w5.heap.size+1+1,0,none⟩) 3 3] 24):=⟨_,rfl⟩;have E5:=Qq (show Ext w5 W5 from by rw [hW5];exact(((Qz.alloc _).alloc _).alloc _).alloc _);rw [<-hW5]at HL
 rw [<-hW5];clear hW5;refine(Qjf (lg:=2) HL.out (HT.out.ext ((S1.out.trans (S2.out.trans (S3.out.trans (S4.out.trans S5.out)))).trans E5.out))).mono ?_;rintro e w6 ⟨u,rfl,hx,hfm⟩;have S6:=Qq (show Ext w5 w6 from E5.out.trans hx);rw [Qnr.1];have HG:=Qq hfm;obtain⟨Ag,cg,rfl,_⟩:=Qg hfm;clear hx hfm;go_wp2_with fail;have HB:=Qq (show Fml ((((w6.alloc (.cells ([.int .i64 3,.int .i64 0,.int .i64 0,.int .i64 0,.int .i64 0,.int .i64 0,.int .i64 4,.int .i64 0,.int .i64 0,.int .i64 0,.int .i64 0,.int .i64 0,.int .i64 9,.int .i64 0,.int .i64 0,.int .i64 0,.int .i64 0,.int .i64 0]).toArray 64)).alloc (.cells #[.int .i64 0] 3)).alloc (.cells ([.int .u64 7,.int .i64 1,.int .i64 1,.int .i64 0,.slice none 0 0,.int .u64 6,.int .i64 5,.int .i64 2,.int .i64 0,.slice (some ⟨w6.heap.size+1,0,none⟩) 1 1]).toArray 66)).alloc (.cells #[.int .i64 2,.slice (some ⟨w6.heap.size,0,none⟩) 3 3,.slice (some ⟨w6.heap.size+1+1,0,none⟩) 2 2] 38)) (.slice (some ⟨w6.heap.size,0,none⟩) 3 3) tpB from(Qhl (w:=w6) rfl tpB (by decide) Qaw).ext (((Qz.alloc _).alloc _).alloc _))
 have HSS:=Qq (show Sps ((((w6.alloc (.cells ([.int .i64 3,.int .i64 0,.int .i64 0,.int .i64 0,.int .i64 0,.int .i64 0,.int .i64 4,.int .i64 0,.int .i64 0,.int .i64 0,.int .i64 0,.int .i64 0,.int .i64 9,.int .i64 0,.int .i64 0,.int .i64 0,.int .i64 0,.int .i64 0]).toArray 64)).alloc (.cells #[.int .i64 0] 3)).alloc (.cells ([.int .u64 7,.int .i64 1,.int .i64 1,.int .i64 0,.slice none 0 0,.int .u64 6,.int .i64 5,.int .i64 2,.int .i64 0,.slice (some ⟨w6.heap.size+1,0,none⟩) 1 1]).toArray 66)).alloc (.cells #[.int .i64 2,.slice (some ⟨w6.heap.size,0,none⟩) 3 3,.slice (some ⟨w6.heap.size+1+1,0,none⟩) 2 2] 38)) (.slice (some ⟨w6.heap.size+1+1,0,none⟩) 2 2) tpS from
  (Qhg (w:=((w6.alloc (.cells ([.int .i64 3,.int .i64 0,.int .i64 0,.int .i64 0,.int .i64 0,.int .i64 0,.int .i64 4,.int .i64 0,.int .i64 0,.int .i64 0,.int .i64 0,.int .i64 0,.int .i64 9,.int .i64 0,.int .i64 0,.int .i64 0,.int .i64 0,.int .i64 0]).toArray 64)).alloc (.cells #[.int .i64 0] 3))) (ls:=tpS) (by simp) (by decide) (fun k n hk=>by
   rcases(show k=0\/k=1 by have:=(List.getElem?_eq_some_iff.1 hk).1;have h3:tpS.length=2:=rfl;omega)with rfl|rfl
   ·obtain rfl:n=⟨7,1,1,0,[]⟩:=(Option.some.inj hk).symm;exact⟨_,rfl,rfl,rfl,rfl,rfl,Zi.none_ _,by decide⟩
   obtain rfl:n=⟨6,5,2,0,[0]⟩:=(Option.some.inj hk).symm;exact⟨_,rfl,rfl,rfl,rfl,rfl,Am (w:=(w6.alloc (.cells ([.int .i64 3,.int .i64 0,.int .i64 0,.int .i64 0,.int .i64 0,.int .i64 0,.int .i64 4,.int .i64 0,.int .i64 0,.int .i64 0,.int .i64 0,.int .i64 0,.int .i64 9,.int .i64 0,.int .i64 0,.int .i64 0,.int .i64 0,.int .i64 0]).toArray 64))) (by simp),by decide⟩)).ext (Qz.alloc _))
 have B6:=Qq (heap_alloc_new (((w6.alloc (.cells ([.int .i64 3,.int .i64 0,.int .i64 0,.int .i64 0,.int .i64 0,.int .i64 0,.int .i64 4,.int .i64 0,.int .i64 0,.int .i64 0,.int .i64 0,.int .i64 0,.int .i64 9,.int .i64 0,.int .i64 0,.int .i64 0,.int .i64 0,.int .i64 0]).toArray 64)).alloc (.cells #[.int .i64 0] 3)).alloc (.cells ([.int .u64 7,.int .i64 1,.int .i64 1,.int .i64 0,.slice none 0 0,.int .u64 6,.int .i64 5,.int .i64 2,.int .i64 0,.slice (some ⟨w6.heap.size+1,0,none⟩) 1 1]).toArray 66)) (.cells #[.int .i64 2,.slice (some ⟨w6.heap.size,0,none⟩) 3 3,.slice (some ⟨w6.heap.size+1+1,0,none⟩) 2 2] 38))
 obtain⟨W6,hW6⟩:∃z,z=(((w6.alloc (.cells ([.int .i64 3,.int .i64 0,.int .i64 0,.int .i64 0,.int .i64 0,.int .i64 0,.int .i64 4,.int .i64 0,.int .i64 0,.int .i64 0,.int .i64 0,.int .i64 0,.int .i64 9,.int .i64 0,.int .i64 0,.int .i64 0,.int .i64 0,.int .i64 0]).toArray 64)).alloc (.cells #[.int .i64 0] 3)).alloc (.cells ([.int .u64 7,.int .i64 1,.int .i64 1,.int .i64 0,.slice none 0 0,.int .u64 6,.int .i64 5,.int .i64 2,.int .i64 0,.slice (some ⟨w6.heap.size+1,0,none⟩) 1 1]).toArray 66)).alloc (.cells #[.int .i64 2,.slice (some ⟨w6.heap.size,0,none⟩) 3 3,.slice (some ⟨w6.heap.size+1+1,0,none⟩) 2 2] 38):=⟨_,rfl⟩
 have E6:=Qq (show Ext w6 W6 from by rw [hW6];exact(((Qz.alloc _).alloc _).alloc _).alloc _);have HS6:=Qq (show(((w6.alloc (.cells ([.int .i64 3,.int .i64 0,.int .i64 0,.int .i64 0,.int .i64 0,.int .i64 0,.int .i64 4,.int .i64 0,.int .i64 0,.int .i64 0,.int .i64 0,.int .i64 0,.int .i64 9,.int .i64 0,.int .i64 0,.int .i64 0,.int .i64 0,.int .i64 0]).toArray 64)).alloc (.cells #[.int .i64 0] 3)).alloc (.cells ([.int .u64 7,.int .i64 1,.int .i64 1,.int .i64 0,.slice none 0 0,.int .u64 6,.int .i64 5,.int .i64 2,.int .i64 0,.slice (some ⟨w6.heap.size+1,0,none⟩) 1 1]).toArray 66)).heap.size=w6.heap.size+1+1+1 by simp)
 rw [<-hW6]at HB HSS B6;rw [<-hW6];rw [HS6.out]at B6;clear hW6;refine(Xz _ _ _ _ _ (HG.out.ext E6.out) (HX.out.ext ((S4.out.trans (S5.out.trans S6.out)).trans E6.out))).mono ?_;rintro e w7 ⟨rfl,hx⟩;have S7:=Qq (show Ext w6 w7 from E6.out.trans hx);rw [Qnr.2];have T7:=Qq hx;obtain⟨y0,y1,y2,_,yl⟩:=Ld ((hx.block (Qm B6.out)).trans B6.out);have YB:=Qq ((hx.block (Qm B6.out)).trans B6.out);clear hx;go_wp2_with fail;refine(Qb9 (lg:=2) (HB.out.ext T7.out) (HSS.out.ext T7.out)).mono ?_;rintro e w8 ⟨rfl,hx⟩;have S8:=Qq (show Ext w7 w8 from xt hx);rw [Qai];have M8:=Qq (T4.out.trans (S5.out.trans (S6.out.trans (S7.out.trans hx))))
 obtain⟨x0,x1,x2,_,xl⟩:=Ld ((M8.out.block (Qm B4.out)).trans B4.out);clear hx;go_wp2_with fail;refine(Qfd _ tpM 2 _ (HZ.out.ext (S1.out.trans (S2.out.trans (S3.out.trans (S4.out.trans (S5.out.trans (S6.out.trans (S7.out.trans S8.out)))))))) (HM.out.ext M8.out) Qs0).mono ?_;rintro e w9 ⟨rfl,hx⟩;have S9:=Qq (show Ext w8 w9 from xt hx);rw [Qei];clear hx;go_wp2_with fail;go_ret;exact⟨rfl,S1.out.trans (S2.out.trans (S3.out.trans (S4.out.trans (S5.out.trans (S6.out.trans (S7.out.trans (S8.out.trans S9.out)))))))⟩
end Go.Proofs.YtmidgcldljfkcaaGreatDoor
