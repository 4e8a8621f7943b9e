/- The program's Valid, from what Sets says. -/
import Derived.Test.YtmidgcldljfkcaaGreatDoorM01
import Derived.Test.YtmidgcldljfkcaaGreatDoorM45
import Derived.Test.YtmidgcldljfkcaaGreatDoorM22
import Derived.Test.YtmidgcldljfkcaaGreatDoorM16
import Derived.Test.YtmidgcldljfkcaaGreatDoorM13
namespace Go.Proofs.YtmidgcldljfkcaaGreatDoor
set_option maxRecDepth 100000
set_option maxHeartbeats 128000000
open Go.RowKit
theorem Qj9(HSS:Ip)(vm v:Value)(md:Md)(f:List Nd)(w:World)(hm:MdV w vm md)(hok:md.ok)(h:Fml w v f):
 Calls Tryz.prog 18 #[vm,v] w fun e w'=>e=.returned (.tuple #[.bool (decide (Yh md f=0)&&(((Df md f:Nat):Int)==((Zo md.n.toNat:Nat):Int))),.int .i64 (Yh md f)])/\Ext w w':=by
 have HM:=Qq hm;have HF:=Qq h;have HS:=Qq (fun w hm h=>Qr2 HSS vm v md f w hm hok h);obtain⟨vv,vr,rfl,hv,hr⟩:=hm;obtain⟨c1,hc1⟩:∃z,z=Yh md f:=⟨_,rfl⟩;have HC1:=Qq hc1;rw [<-hc1]at HS⊢;clear h hok HSS hv hr hc1;by_cases h1:c1=0
 ·subst h1;obtain⟨hck,_,_,_⟩:=Dn HC1.out.symm;obtain⟨hn1,hn64,_⟩:=Vk hck;obtain⟨N,hNN⟩:=Int.eq_ofNat_of_zero_le (show 0<=md.n by omega);have hNt:md.n.toNat=N:=by rw [hNN];exact Int.toNat_natCast N
  have hN64:N<=64:=by omega
  have HALL:=Qq (Qff hN64);rw [hNt];rw [hNN]at HS HM⊢;obtain⟨s,hs⟩:∃s,s=Df md f:=⟨_,rfl⟩;rw [<-hs]at HS⊢;clear hck hn1 hn64 hNN hNt hs;go_enter Tryz.func18,Tryz.ntmps18;go_wp2_with fail;refine(HS.out _ (HM.out.ext ((Ext.refl w).alloc _)) (HF.out.ext ((Ext.refl w).alloc _))).mono ?_;rintro e w2 ⟨rfl,hx⟩;have HX:=Qq (((Ext.refl w).alloc _).trans hx);have c0:w2.cell? ⟨w.heap.size,0,none⟩=some (.int .i64 (N:Int)):=(hx.cell (p:=⟨w.heap.size,0,none⟩) (by simp)).trans (by simp);clear hx;go_wp2_with fail;go_ret2;exact⟨by rw [<-HALL.out] <;> rfl,HX.out⟩
 have hne:(c1==0)=false:=by simpa using h1
 have hdc:=decide_eq_false h1;obtain⟨q,hq⟩:∃q,q=(if c1=0 then Df md f else 0):=⟨_,rfl⟩;rw [<-hq]at HS;rw [hdc,Bool.false_and];clear h1 hq hdc;go_enter Tryz.func18,Tryz.ntmps18;go_wp2_with fail;refine(HS.out _ (HM.out.ext ((Ext.refl w).alloc _)) (HF.out.ext ((Ext.refl w).alloc _))).mono ?_;rintro e w2 ⟨rfl,hx⟩;have HX:=Qq (((Ext.refl w).alloc _).trans hx);clear hx;go_wp2_with fail;go_ret2;exact⟨rfl,HX.out⟩
def Qw0(md:Md)(l:List (List Nd))(s:Nat):Nat:=l.foldl (fun s f=>s&&&Df md f) s
theorem Qp8 {w:World} {b:Nat} {a0 a1 a2:Value} {t:TypeId}(h:w.heap[b]?=some (.cells #[a0,a1,a2] t (0,0))):w.cell? ⟨b,0,none⟩=some a0/\w.cell? ⟨b,1,none⟩=some a1/\w.cell? ⟨b,2,none⟩=some a2/\b < w.heap.size :=
 ⟨by simp [World.cell?,h],by simp [World.cell?,h],by simp [World.cell?,h],Qm h⟩
theorem Qrc(v:Value)(md:Md)(z:Int)(w:World)(h:MdV w v md):
 Calls Tryz.prog 7 #[v,.int .i64 z] w fun e w'=>∃b,e=.returned (.bool b)/\Ext w w':=by
 obtain⟨vv,vr,rfl,hv,hr⟩:=h;obtain⟨Av,cv,rfl,_⟩:=hv;obtain⟨Ar,cr,rfl,_,_,HR⟩:=Mk hr;obtain⟨n,hn⟩:∃n,n=md.n:=⟨_,rfl⟩;rw [<-hn];clear hr hn;by_cases h1:z < n/\n<=64
 ·obtain⟨h2,h3⟩:=h1;go_enter Tryz.func7,Tryz.ntmps7;go_wp2_with fail;go_ret
  first|exact⟨_,rfl,Qz.alloc _⟩|exact⟨.inl rfl,Qz.alloc _⟩|exact⟨.inr rfl,Qz.alloc _⟩
 obtain⟨t,ht⟩:∃t,t=decide (z < n):=⟨_,rfl⟩;by_cases hz:z < n
 all_goals
  (try have h64:¬n<=64:=fun e=>h1 ⟨hz,e⟩)
  clear h1 ht;by_cases hv20:20 < md.val.length
  ·have hi:(20:Int) < (md.val.length:Int):=by omega
   go_enter Tryz.func7,Tryz.ntmps7;go_wp2_with fail;go_ret
   first|exact⟨_,rfl,Qz.alloc _⟩|exact⟨.inl rfl,Qz.alloc _⟩|exact⟨.inr rfl,Qz.alloc _⟩
  have hi20:¬(20:Int) < (md.val.length:Int):=by omega
  by_cases hr10:10 < md.rel.length
  ·have hi:(10:Int) < (md.rel.length:Int):=by omega
   go_enter Tryz.func7,Tryz.ntmps7;go_wp2_with fail;go_ret
   first|exact⟨_,rfl,Qz.alloc _⟩|exact⟨.inl rfl,Qz.alloc _⟩|exact⟨.inr rfl,Qz.alloc _⟩
  have hi10:¬(10:Int) < (md.rel.length:Int):=by omega
  generalize md.rel=rl at *;generalize md.val.length=vl at *;go_enter Tryz.func7,Tryz.ntmps7;go_upto_region 3 with(fail);obtain⟨W0,hW0⟩:∃W,W=w.alloc (.cells #[.int .i64 n,.slice Av vl cv,.slice Ar rl.length cr] 28):=⟨_,rfl⟩;have HX0:=Qq (show Ext w W0 by rw [hW0];exact Qz.alloc _);have HB:=Qq (show W0.heap[w.heap.size]?=some (.cells #[.int .i64 n,.slice Av vl cv,.slice Ar rl.length cr] 28 (0,0)) by rw [hW0];exact heap_alloc_new _ _);rw [<-hW0];clear hW0;obtain⟨b,hb⟩:∃b,b=w.heap.size:=⟨_,rfl⟩;rw [<-hb]at HB⊢;clear hb;go_wp2_with fail;go_loopw [5] (fun v wr=>∃k:Nat,v=.int .i64 (k:Int)/\k<=rl.length/\Hid (Ext W0 wr)) (fun v _=>rl.length - (intOf v).toNat)
  case atStart=>exact⟨0,rfl,Nat.zero_le _,Qq Qz⟩
  case round =>
   obtain⟨k,rfl,hk,HX⟩:=hrel;obtain⟨e0,e1,e2,eb⟩:=Qp8 ((HX.out.block (Qm HB.out)).trans HB.out);by_cases hlt2:k < rl.length
   ·have hk1:(k:Int) < (rl.length:Int):=by omega
    obtain⟨ad,u,rfl,hadl,hc,hu⟩:=HR.out k hlt2;obtain⟨Au,cu,rfl,_⟩:=hu;have a0:=((HX0.out.trans HX.out).cell (p:=ad.add k) (Qj hadl)).trans hc;have al:(ad.add k).block < wr.heap.size:=by rw [Qn];exact Qy hadl (HX0.out.trans HX.out).size
    generalize (rl.getD k []).length=q at a0;clear hc;by_cases hq:70 < q
    ·have hq1:(70:Int) < (q:Int):=by omega
     go_wp2_with fail;go_ret
     first|exact⟨_,rfl,HX0.out.trans HX.out⟩|exact⟨.inl rfl,HX0.out.trans HX.out⟩|exact⟨.inr rfl,HX0.out.trans HX.out⟩
    have hq1:¬(70:Int) < (q:Int):=by omega
    go_wp2_with fail;go_roundw
    case rel=>exact⟨k+1,by go_num,by omega,HX⟩
    case measure=>simp [intOf];omega
   obtain rfl:rl.length=k:=by omega
   go_wp2_with fail;go_ret
   first|exact⟨_,rfl,HX0.out.trans HX.out⟩|exact⟨.inl rfl,HX0.out.trans HX.out⟩|exact⟨.inr rfl,HX0.out.trans HX.out⟩
theorem Qhd {P:Nd->Prop}(hP:∀n:Nd,P n.head->P n) {n:Nd} {a b:Tr}(h:(Ve n a b).all P):P n/\(Qw n.op=true->a.all P)/\(Qa n.op=true->b.all P):=by
 unfold Ve at h;cases hy:Qa n.op
 ·cases hx:Qw n.op
  ·rw [hy,hx]at h;exact⟨h,fun e=>(by cases e),fun e=>(by cases e)⟩
  rw [hy,hx]at h;exact⟨hP n h.1,fun _=>h.2,fun e=>(by cases e)⟩
 rw [hy]at h;exact⟨hP n h.1,fun _=>h.2.1,fun _=>h.2.2⟩
theorem Qrd {n:Nd}(h:Jm n)(h1:11<=n.op)(h2:n.op<=13):1<=n.g:=by
 obtain⟨_,_,h3,_,_⟩:=h;unfold Yk at h3;rcases(show n.op=11\/n.op=12\/n.op=13 by omega)with ho|ho|ho <;>(rw [ho]at h3;simp [Jz,Zw,Zy,Zl,Zb]at h3;omega)
theorem Qt0 {md:Md} {f:List Nd}(hck:Zd md=0)(hc:Qs f=0):∀k,k < f.length->(tr f k).all (fun n=>n.op≠12)->
 (atP md f (Ze md f k).1 (Ze md f k).2 k).2=true->IsW md (atP md f (Ze md f k).1 (Ze md f k).2 k).1 (tr f k):=by
 intro k
 induction k using Nat.strongRecOn with
 |_ k ih =>
  intro hk hall hfi;obtain⟨n,hn⟩:∃n,f[k]?=some n:=⟨_,Qv hk⟩;have hm:=List.mem_of_getElem? hn;have hh:=Fz hc n hm;obtain⟨hx,hy⟩:=Jq hc k n hn;unfold atP at hfi⊢;rw [Is hn]at hfi⊢;by_cases ho:okP n (Ze md f k).2=true
  ·rw [if_pos ho]at hfi⊢;have hfi2:Zc md n=true:=hfi;have h13:=Qvd hfi2;rw [Xb (Jq hc) hn];show IsW md (Yz md n _ _) _;unfold Yz;rw [if_pos hfi2];rw [Xb (Jq hc) hn]at hall;obtain⟨h12,hax,hay⟩:=Qhd (P:=fun n=>n.op≠12) (fun n h=>h) hall;unfold okP at ho;rw [Bool.and_eq_true]at ho;refine Qtz hck (Qmd hh hfi2 (fun h h'=>Qrd hh h h')) h12 (fun h=> ?_) (fun h=> ?_)
   ·have hb:=hx h;have h4:4<=n.op:=by unfold Qw at h;rw [Bool.and_eq_true]at h;exact of_decide_eq_true h.1
    have h5:=ho.1;rw [decide_eq_true h4,Bool.not_true,Bool.false_or]at h5;rw [(Dy md f k _ (by omega)).1];rw [(Dy md f k _ (by omega)).2]at h5;exact ih _ (by omega) (by omega) (hax h) h5
   have hb:=hy h;have h58:((decide (5<=n.op)&&decide (n.op<=8))||n.op==13)=true:=by
    unfold Qa at h;simp only [Bool.or_eq_true,Bool.and_eq_true,decide_eq_true_eq,beq_iff_eq]at h⊢;omega
   have h5:=ho.2;rw [h58,Bool.not_true,Bool.false_or]at h5;rw [(Dy md f k _ (by omega)).1];rw [(Dy md f k _ (by omega)).2]at h5;exact ih _ (by omega) (by omega) (hay h) h5
  rw [if_neg ho]at hfi;cases hfi
theorem Qr6 {md:Md} {f:List Nd}(h:Yh md f=0)(hF:∀n∈Qf f,n.op≠12):IsW md (Df md f) (Qp f):=by
 obtain⟨hck,hc,_,_⟩:=Dn h;have hp:=(Zk hc).1;have hcc:=Ke hc;have hall:(Qp f).all (fun n=>n.op≠12):=by
  rw [<-Ky hc];exact Qv5 (P:=fun n=>n.op≠12) (fun n k1 k2 h=>h) (Jq hcc) hF _ (by have:=(Zk hcc).1;omega)
 unfold Df;rw [(Dy md f f.length (f.length - 1) (by omega)).1];refine Qt0 hck hc (f.length - 1) (by omega) hall ?_;rw [Qr9 hc _ (by omega)];exact Qll h
end Go.Proofs.YtmidgcldljfkcaaGreatDoor
