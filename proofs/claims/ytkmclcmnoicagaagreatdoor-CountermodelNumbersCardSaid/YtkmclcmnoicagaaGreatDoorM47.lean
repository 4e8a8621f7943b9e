/- The program's Numbered. -/
import Derived.Test.YtkmclcmnoicagaaGreatDoorM01
import Derived.Test.YtkmclcmnoicagaaGreatDoorM40
import Derived.Test.YtkmclcmnoicagaaGreatDoorM46
import Derived.Test.YtkmclcmnoicagaaGreatDoorM37
import Derived.Test.YtkmclcmnoicagaaGreatDoorM06
import Derived.Test.YtkmclcmnoicagaaGreatDoorM23
import Derived.Test.YtkmclcmnoicagaaGreatDoorM39
import Derived.Test.YtkmclcmnoicagaaGreatDoorM07
import Derived.Test.YtkmclcmnoicagaaGreatDoorM44
namespace Go.Proofs.YtkmclcmnoicagaaGreatDoor
set_option maxRecDepth 100000
set_option maxHeartbeats 128000000
open Go.RowKit
def nbE(n a v k:Int):Int:=if n < 1\/64 < n\/a < 0\/4 < a\/v < 0\/8 < v then 2 else if 12 < Jo n.toNat a.toNat v.toNat then 8 else if k < 0\/((2^Jo n.toNat a.toNat v.toNat:Nat):Int)<=k then 2 else 0
def nbN(n a v k:Int):Md:=if nbE n a v k=0 then Ur n.toNat a.toNat v.toNat k.toNat else⟨0,[],[]⟩
theorem Qb0 {k:Nat}(h:k<=12):IntKind.i64.wrap ((2:Int)^k)=((2^k:Nat):Int):=by
 have e:∀k:Fin 13,IntKind.i64.wrap ((2:Int)^k.val)=((2^k.val:Nat):Int):=by decide+kernel
 exact e ⟨k,by omega⟩
theorem Qgv(n a v k:Int)(w:World):
 Calls Tryz.prog 34 #[.int .i64 n,.int .i64 a,.int .i64 v,.int .i64 k] w fun e w'=>∃u,e=.returned (.tuple #[u,.int .i64 (nbE n a v k)])/\Ext w w'/\Frz (fun q=>q < w.heap.size) w' (fun W=>MdV W u (nbN n a v k)):=by
 obtain⟨er,her⟩:∃z,z=nbE n a v k:=⟨_,rfl⟩;have HER:=Qq her;rw [<-her];obtain⟨W0,hW0⟩:∃W,W=w.alloc (.cells #[.int .i64 0,.slice none 0 0,.slice none 0 0] 26):=⟨_,rfl⟩;have X0:=Qq (show Ext w W0 by rw [hW0];exact Qz.alloc _);obtain⟨b,hb⟩:∃b,b=w.heap.size:=⟨_,rfl⟩;have B0:=Qq (show W0.heap[b]?=some (.cells #[.int .i64 0,.slice none 0 0,.slice none 0 0] 26 (0,0)) by rw [hW0,hb];exact heap_alloc_new _ _);have HLO:=Qq (show w.heap.size<=b by omega);have HZN:=Qq (fun(h:er≠0)=>show nbN n a v k=⟨0,[],[]⟩from if_neg (by rw [<-HER.out];exact h));obtain⟨⟨r0,r1,r2⟩,⟨g0,g1,g2⟩,rl⟩:=Zt B0.out;clear her;by_cases hrange:n < 1\/64 < n\/a < 0\/4 < a\/v < 0\/8 < v
 ·have HE:=Qq (show er=2 by rw [HER.out];unfold nbE;rw [if_pos hrange]);have HZ:=Qq (HZN.out (by rw [HE.out];decide))
  have key:∀e w',e=.returned (.tuple #[.agg #[.int .i64 0,.slice none 0 0,.slice none 0 0],.int .i64 2])->Ext w w'->(∃u,e=Ending.returned (.tuple #[u,.int .i64 er])/\Ext w w'/\Frz (fun q=>q < w.heap.size) w' (fun W=>MdV W u (nbN n a v k))):=
   fun e w' h1 h2=>⟨.agg #[.int .i64 0,.slice none 0 0,.slice none 0 0],by rw [HE.out];exact h1,h2,fun W _=>by rw [HZ.out];exact Gk _⟩
  have KEY:=Qq key;clear key;have hsplit:n < 1\/(¬n < 1/\64 < n)\/(¬n < 1/\¬64 < n/\a < 0)\/(¬n < 1/\¬64 < n/\¬a < 0/\4 < a)\/(¬n < 1/\¬64 < n/\¬a < 0/\¬4 < a/\v < 0)\/(¬n < 1/\¬64 < n/\¬a < 0/\¬4 < a/\¬v < 0/\8 < v):=by omega
  clear hrange;rcases hsplit with h1|⟨h1,h2⟩|⟨h1,h2,h3⟩|⟨h1,h2,h3,h4⟩|⟨h1,h2,h3,h4,h5⟩|⟨h1,h2,h3,h4,h5,h6⟩ <;>
  ·go_enter Tryz.func34,Tryz.ntmps34;go_upto_region 1 with(fail);rw [<-hW0,<-hb];clear hW0 hb;go_wp2_with fail
   (try simp only [Exit.inBlock,Exit.then])
   refine bodyPost_ret (Yv Tryz.results34 _ _ rfl (Zl (Jh B0.out _ _ _)) Tryz.underlying26 rfl (by kernel_rfl)) rfl ?_;exact KEY.out _ _ rfl (Jc X0.out HLO.out _ _ _)
 have HERN:=Qq (show er=if 12 < Jo n.toNat a.toNat v.toNat then 8 else if k < 0\/((2^Jo n.toNat a.toNat v.toNat:Nat):Int)<=k then 2 else 0 by rw [HER.out];unfold nbE;rw [if_neg hrange]);obtain⟨N,rfl⟩:=Int.eq_ofNat_of_zero_le (show 0<=n by omega);obtain⟨A,rfl⟩:=Int.eq_ofNat_of_zero_le (show 0<=a by omega);obtain⟨V,rfl⟩:=Int.eq_ofNat_of_zero_le (show 0<=v by omega);rw [Int.toNat_natCast,Int.toNat_natCast,Int.toNat_natCast]at HERN;have h1:¬(N:Int) < 1:=fun h=>hrange (.inl h)
 have h2:¬(64:Int) < (N:Int):=fun h=>hrange (.inr (.inl h))
 have h3:¬(A:Int) < 0:=by omega
 have h4:¬(4:Int) < (A:Int):=fun h=>hrange (.inr (.inr (.inr (.inl h))))
 have h5:¬(V:Int) < 0:=by omega
 have h6:¬(8:Int) < (V:Int):=fun h=>hrange (.inr (.inr (.inr (.inr (.inr h)))))
 have hN1:1<=N:=by omega
 have hN:N<=64:=by omega
 have hA:A<=4:=by omega
 have hV:V<=8:=by omega
 have HLA:=Qq (Wg N A V hN hA hV);have HNA:=Qq (fun k W h1 h2=>Ie N A V k W hN1 hN hA hV h1 h2);obtain⟨L,hL⟩:∃z,z=Jo N A V:=⟨_,rfl⟩;rw [<-hL]at HLA HERN HNA;have HLL:=Qq hL;clear hrange hL;by_cases h12:12 < L
 ·have hq:(12:Int) < (L:Int):=by omega
  have HE:=Qq (show er=8 by rw [HERN.out,if_pos h12]);have HZ:=Qq (HZN.out (by rw [HE.out];decide));clear h12;go_enter Tryz.func34,Tryz.ntmps34;go_upto_region 1 with(fail);rw [<-hW0,<-hb];clear hW0 hb;go_wp2_with fail;refine(HLA.out _).mono ?_;rintro e w1 ⟨rfl,rfl⟩;go_wp2_with fail
  (try simp only [Exit.inBlock,Exit.then])
  refine bodyPost_ret (Yv Tryz.results34 _ _ rfl (Zl (Jh B0.out _ _ _)) Tryz.underlying26 rfl (by kernel_rfl)) rfl ?_;exact⟨_,by rw [HE.out] <;> rfl,Jc X0.out HLO.out _ _ _,fun W _=>by rw [HZ.out];exact Gk _⟩
 have hq:¬(12:Int) < (L:Int):=by omega
 have hL12:L<=12:=by omega
 have hml:min L 64=L:=by omega
 have hp2:2^L<=4096:=show 2^L<=2^12 from Nat.pow_le_pow_right (by decide) hL12
 have hs1:wrap64 ((2:Int)^L)=((2^L:Nat):Int):=by
  rw [show(2:Int)^L=((2^L:Nat):Int) by simp];exact Tc (by omega)
 have hs2:IntKind.i64.wrap ((2:Int)^L)=((2^L:Nat):Int):=Qb0 hL12;rw [if_neg (by omega)]at HERN;have HPL:=Qq (show ∀K:Nat,K < 2^L->K < 2^Jo N A V from fun K h=>by rw [<-HLL.out];exact h);obtain⟨P,hP⟩:∃z,z=2^L:=⟨_,rfl⟩;rw [<-hP]at hs1 hs2 HERN HNA hp2 HPL;clear hP;by_cases hk:k < 0\/((P:Nat):Int)<=k
 ·have HE:=Qq (show er=2 by rw [HERN.out,if_pos hk]);have HZ:=Qq (HZN.out (by rw [HE.out];decide));have hsplit:k < 0\/(¬k < 0/\(P:Int)<=k):=(Classical.em (k < 0)).elim Or.inl (fun h=> .inr ⟨h,hk.resolve_left h⟩);clear hk;rcases hsplit with k1|⟨k1,k2⟩ <;>
  ·go_enter Tryz.func34,Tryz.ntmps34;go_upto_region 1 with(fail);rw [<-hW0,<-hb];clear hW0 hb;go_wp2_with fail;refine(HLA.out _).mono ?_;rintro e w1 ⟨rfl,rfl⟩;go_wp2_with fail
   (try simp only [Exit.inBlock,Exit.then])
   refine bodyPost_ret (Yv Tryz.results34 _ _ rfl (Zl (Jh B0.out _ _ _)) Tryz.underlying26 rfl (by kernel_rfl)) rfl ?_;exact⟨_,by rw [HE.out] <;> rfl,Jc X0.out HLO.out _ _ _,fun W _=>by rw [HZ.out];exact Gk _⟩
 have k1:¬k < 0:=fun h=>hk (.inl h)
 have k2:¬(P:Int)<=k:=fun h=>hk (.inr h)
 have HE:=Qq (show er=0 by rw [HERN.out,if_neg hk]);obtain⟨K,rfl⟩:=Int.eq_ofNat_of_zero_le (Int.not_lt.1 k1);have HKP:=Qq (show K < P from Int.ofNat_lt.1 (Int.not_le.1 k2));have HZ:=Qq (show nbN (N:Int) (A:Int) (V:Int) (K:Int)=Ur N A V K by
  have h:=HER.out;unfold nbN;rw [if_pos (by rw [<-h];exact HE.out),Int.toNat_natCast,Int.toNat_natCast,Int.toNat_natCast,Int.toNat_natCast])
 have HL12:=Qq hL12;clear hk;go_enter Tryz.func34,Tryz.ntmps34;go_upto_region 1 with(fail);rw [<-hW0,<-hb];clear hW0 hb r0 r1 r2 g0 g1 g2 rl;go_wp2_with fail;refine(HLA.out _).mono ?_;rintro e w1 ⟨rfl,rfl⟩;go_wp2_with fail;refine(HNA.out K _ HL12.out HKP.out).mono ?_;rintro e w2 ⟨u,rfl,hf,hx⟩;have HF:=Qq hf;have HX:=Qq hx;obtain⟨_,_,hu,⟨A1,c1,hv1,_⟩,⟨A2,c2,hv2,_⟩⟩:=hf.here;subst hu hv1 hv2;obtain⟨d1,hd1⟩:∃z,z=(Ur N A V K).val.length:=⟨_,rfl⟩;obtain⟨d2,hd2⟩:∃z,z=(Ur N A V K).rel.length:=⟨_,rfl⟩;obtain⟨d0,hd0⟩:∃z,z=(Ur N A V K).n:=⟨_,rfl⟩;rw [<-hd0,<-hd1,<-hd2]at HF⊢;have HB2:=Qq ((hx.block (Qf B0.out)).trans B0.out)
 obtain⟨⟨q0,q1,q2⟩,⟨f0,f1,f2⟩,ql⟩:=Zt HB2.out;have HBL:=Qq (Qf B0.out)
 have HFIN:=Qq (show Frz (fun q=>q < w.heap.size) (((w2.setCell ⟨b,0,none⟩ (.int .i64 d0)).setCell ⟨b,1,none⟩ (.slice A1 d1 c1)).setCell ⟨b,2,none⟩ (.slice A2 d2 c2)) (fun W=>MdV W (.agg #[.int .i64 d0,.slice A1 d1 c1,.slice A2 d2 c2]) (Ur N A V K))from
  HF.out.keep X0.out.size (by simp [World.setCell]) (fun k h1 _=>Vd (by have:=HBL.out;omega) _ _ _))
 clear hf hx hd0 hd1 hd2;go_wp2_with fail
 (try simp only [Exit.inBlock,Exit.then])
 refine bodyPost_ret (Yv Tryz.results34 _ _ rfl (Zl (Jh HB2.out _ _ _)) Tryz.underlying26 rfl (by kernel_rfl)) rfl ?_;exact⟨_,by rw [HE.out] <;> rfl,Jc (X0.out.trans HX.out) HLO.out _ _ _,by rw [HZ.out];exact HFIN.out⟩
def lsA(f:List Nd):Nat:=Yk (Je (Qg f))
def lsF(f:List Nd):Nat:=Yk (Yl (Qg f))
def Sy(lg:Int)(f:List Nd)(n k:Nat):Prop:=(∀m j,1<=m->m < n->j < 2^Jo m (lsA f) (lsF f)->cmN lg f (Ur m (lsA f) (lsF f) j) 0≠0)/\∀j,j < k->cmN lg f (Ur n (lsA f) (lsF f) j) 0≠0
def Sj(lg:Int)(f:List Nd)(most:Int)(md:Md)(er:Int):Prop :=
 (er≠0/\md=⟨0,[],[]⟩/\(((lg < 0\/6 < lg)/\er=1)\/((0<=lg/\lg<=6)/\((check f≠0/\er=check f)\/(check f=0/\((Ym (Yn f) 15=false/\er=10)\/(Ym (Yn f) 15=true/\(((most < 1\/64 < most)/\er=2)\/
  ((1<=most/\most<=64)/\((12 < Jo most.toNat (lsA f) (lsF f)/\er=8)\/(Jo most.toNat (lsA f) (lsF f)<=12/\er=6/\Sy lg f (most.toNat+1) 0)))))))))))\/
 (er=0/\(0<=lg/\lg<=6)/\check f=0/\Ym (Yn f) 15=true/\(1<=most/\most<=64)/\Jo most.toNat (lsA f) (lsF f)<=12/\
  ∃n k,1<=n/\n<=most.toNat/\k < 2^Jo n (lsA f) (lsF f)/\md=Ur n (lsA f) (lsF f) k/\cmN lg f md 0=0/\Sy lg f n k)
theorem Qc0 {n m a v:Nat}(h:n<=m):Jo n a v<=Jo m a v:=Nat.add_le_add (Nat.mul_le_mul_right _ h) (Nat.mul_le_mul_right _ (Nat.mul_le_mul h h))
theorem Sy.step {lg:Int} {f:List Nd} {n k:Nat}(h:Sy lg f n k)(hc:cmN lg f (Ur n (lsA f) (lsF f) k) 0≠0):Sy lg f n (k+1):=
 ⟨h.1,fun j hj=>by
  by_cases e:j=k
  ·rw [e];exact hc
  exact h.2 j (by omega)⟩
theorem Sy.turn {lg:Int} {f:List Nd} {n:Nat}(h:Sy lg f n (2^Jo n (lsA f) (lsF f))):Sy lg f (n+1) 0 :=
 ⟨fun m j h1 h2 hj=>by
  by_cases e:m=n
  ·subst e;exact h.2 j hj
  exact h.1 m j h1 (by omega) hj,fun j hj=>absurd hj (by omega)⟩
theorem Th {w w':World} {er:Int} {lg most:Int} {f:List Nd} {md:Md} {e:Ending}(he:e=.returned (.tuple #[.agg #[.int .i64 0,.slice none 0 0,.slice none 0 0],.int .i64 er]))(hm:md=⟨0,[],[]⟩)(hx:Ext w w')(h:Sj lg f most md er):
 ∃u md er,e=.returned (.tuple #[u,.int .i64 er])/\Sj lg f most md er/\Ext w w'/\Frz (fun q=>q < w.heap.size) w' (fun W=>MdV W u md):=
 ⟨_,md,er,he,h,hx,fun W _=>by rw [hm];exact Gk _⟩
theorem Il(lg:Int)(v:Value)(f:List Nd)(most:Int)(w:World)(hT:Vf w)(h:Fml w v f):
 Calls Tryz.prog 32 #[.int .i64 lg,v,.int .i64 most] w fun e w'=>∃u md er,e=.returned (.tuple #[u,.int .i64 er])/\Sj lg f most md er/\Ext w w'/\Frz (fun q=>q < w.heap.size) w' (fun W=>MdV W u md):=by
 have HT:=Qq hT;have HF:=Qq h;obtain⟨Af,cf,rfl,_⟩:=Qm h;obtain⟨ck,hck⟩:∃z,z=check f:=⟨_,rfl⟩;have HCK:=Qq hck;obtain⟨W0,hW0⟩:∃W,W=w.alloc (.cells #[.int .i64 0,.slice none 0 0,.slice none 0 0] 26):=⟨_,rfl⟩;have X0:=Qq (show Ext w W0 by rw [hW0];exact Qz.alloc _);obtain⟨b,hb⟩:∃b,b=w.heap.size:=⟨_,rfl⟩;have B0:=Qq (show W0.heap[b]?=some (.cells #[.int .i64 0,.slice none 0 0,.slice none 0 0] 26 (0,0)) by rw [hW0,hb];exact heap_alloc_new _ _);have HLO:=Qq (show w.heap.size<=b by omega);obtain⟨lo,hlo⟩:∃z,z=decide (0<=lg/\lg<=6):=⟨_,rfl⟩;have HLG:=Qq hlo;clear hT h hck;go_enter Tryz.func32,Tryz.ntmps32
 go_upto_region 1 with(fail);rw [<-hW0,<-hb];clear hW0 hb;go_wp2_with fail;refine(Ht lg _).mono ?_;rintro e w1 ⟨rfl,rfl⟩;rw [<-hlo];clear hlo;obtain⟨⟨r0,r1,r2⟩,⟨g0,g1,g2⟩,rl⟩:=Zt B0.out;cases lo
 ·have HS:=Qq (show Sj lg f most ⟨0,[],[]⟩ 1 from .inl ⟨by decide,rfl,.inl ⟨by have:=of_decide_eq_false HLG.out.symm;omega,rfl⟩⟩);go_wp2_with fail
  (try simp only [Exit.inBlock,Exit.then])
  refine bodyPost_ret (Yv Tryz.results32 _ _ rfl (Zl (Jh B0.out _ _ _)) Tryz.underlying26 rfl (by kernel_rfl)) rfl ?_;exact Th rfl rfl (Jc X0.out HLO.out _ _ _) HS.out
 have HLR:=Qq (of_decide_eq_true HLG.out.symm);clear r0 r1 r2 g0 g1 g2 rl HLG;go_wp2_with fail;refine(Vk _ f _ (HF.out.ext X0.out).1).mono ?_;rintro e w2 ⟨rfl,hx⟩;rw [<-HCK.out];have S2:=Qq hx;have B2:=Qq ((hx.block (Qf B0.out)).trans B0.out);obtain⟨⟨r0,r1,r2⟩,⟨g0,g1,g2⟩,rl⟩:=Zt B2.out;clear hx;by_cases hz:ck=0
 case neg =>
  have hne:(ck !=0)=true:=by simpa using hz
  have HS:=Qq (show Sj lg f most ⟨0,[],[]⟩ ck from .inl ⟨hz,rfl,.inr ⟨HLR.out,.inl ⟨by rw [<-HCK.out];exact hz,HCK.out⟩⟩⟩);clear hz;go_wp2_with fail
  (try simp only [Exit.inBlock,Exit.then])
  refine bodyPost_ret (Yv Tryz.results32 _ _ rfl (Zl (Jh B2.out _ _ _)) Tryz.underlying26 rfl (by kernel_rfl)) rfl ?_;exact Th rfl rfl (Jc (X0.out.trans S2.out) HLO.out _ _ _) HS.out
 subst hz;clear r0 r1 r2 g0 g1 g2 rl;go_wp2_with fail;refine(Dy _ f _ (HF.out.ext (X0.out.trans S2.out))).mono ?_;rintro e w3 ⟨rfl,hx⟩;have S3:=Qq (S2.out.trans hx);have B3:=Qq ((S3.out.block (Qf B0.out)).trans B0.out);obtain⟨⟨r0,r1,r2⟩,⟨g0,g1,g2⟩,rl⟩:=Zt B3.out;obtain⟨hs1,hs2⟩:=Qz6 f;clear hx hs1;cases hsb:Ym (Yn f) 15
 ·rw [hsb]at hs2;have HS:=Qq (show Sj lg f most ⟨0,[],[]⟩ 10 from .inl ⟨by decide,rfl,.inr ⟨HLR.out,.inr ⟨HCK.out.symm,.inl ⟨hsb,rfl⟩⟩⟩⟩);clear hsb;go_wp2_with fail
  (try simp only [Exit.inBlock,Exit.then])
  refine bodyPost_ret (Yv Tryz.results32 _ _ rfl (Zl (Jh B3.out _ _ _)) Tryz.underlying26 rfl (by kernel_rfl)) rfl ?_;exact Th rfl rfl (Jc (X0.out.trans S3.out) HLO.out _ _ _) HS.out
 rw [hsb]at hs2;have HSB:=Qq hsb;clear hsb;by_cases hmo:most < 1\/64 < most
 ·have HS:=Qq (show Sj lg f most ⟨0,[],[]⟩ 2 from .inl ⟨by decide,rfl,.inr ⟨HLR.out,.inr ⟨HCK.out.symm,.inr ⟨HSB.out,.inl ⟨hmo,rfl⟩⟩⟩⟩⟩);have hsplit:most < 1\/(¬most < 1/\64 < most):=by omega
  clear hmo;rcases hsplit with m1|⟨m1,m2⟩ <;>
  ·go_wp2_with fail
   (try simp only [Exit.inBlock,Exit.then])
   refine bodyPost_ret (Yv Tryz.results32 _ _ rfl (Zl (Jh B3.out _ _ _)) Tryz.underlying26 rfl (by kernel_rfl)) rfl ?_;exact Th rfl rfl (Jc (X0.out.trans S3.out) HLO.out _ _ _) HS.out
 have m1:¬most < 1:=fun h=>hmo (.inl h)
 have m2:¬64 < most:=fun h=>hmo (.inr h)
 obtain⟨M,rfl⟩:=Int.eq_ofNat_of_zero_le (show 0<=most by omega);have hM1:1<=M:=by omega
 have hM64:M<=64:=by omega
 have HMM:=Qq (show 1<=((M:Nat):Int)/\((M:Nat):Int)<=64 by omega);have hh:=(Jw HCK.out.symm).2.2.2;have hag:=Rq (Qg f) 0 hh (by decide);have hfa:=Tj (Qg f) 0 hh (by decide);obtain⟨am,ham⟩:∃x,x=Je (Qg f):=⟨_,rfl⟩;obtain⟨fm,hfm⟩:∃x,x=Yl (Qg f):=⟨_,rfl⟩;rw [show(Qg f).foldl agS 0=am from ham.symm]at hag;rw [show(Qg f).foldl faS 0=fm from hfm.symm]at hfa;have HAM:=Qq ham;have HFM:=Qq hfm;have hwa:IntKind.u64.wrap (am:Int)=(am:Int):=by rw [IntKind.wrap_u64];omega
 have hwf:IntKind.u64.wrap (fm:Int)=(fm:Int):=by rw [IntKind.wrap_u64];omega
 have hag4:=Qq6 hag;have hfa8:=Qq6 hfa;have HAG:=Qq (show am < 256 by omega);have HFA:=Qq (show fm < 256 by omega);clear hmo hh ham hfm hag hfa r0 r1 r2 g0 g1 g2 rl;go_wp2_with fail;refine(Hg _ f _ (HF.out.ext (X0.out.trans S3.out)) HCK.out.symm).mono ?_;rintro e w5 ⟨rfl,hx⟩;rw [<-HAM.out];have S5:=Qq (S3.out.trans hx);clear hx;go_wp2_with fail;refine(Qq8 am HAG.out _).mono ?_;rintro e w6 ⟨rfl,rfl⟩;go_wp2_with fail;refine(Ee _ f _ (HF.out.ext (X0.out.trans S5.out)) HCK.out.symm).mono ?_;rintro e w7 ⟨rfl,hx⟩;rw [<-HFM.out];have S7:=Qq (S5.out.trans hx);clear hx;go_wp2_with fail
 refine(Qq8 fm HFA.out _).mono ?_;rintro e w8 ⟨rfl,rfl⟩;obtain⟨A,hA⟩:∃z,z=Yk am:=⟨_,rfl⟩;obtain⟨V,hV⟩:∃z,z=Yk fm:=⟨_,rfl⟩;have HAA:=Qq (show A=lsA f by rw [hA,HAM.out];rfl);have HVV:=Qq (show V=lsF f by rw [hV,HFM.out];rfl);rw [<-hA]at hag4⊢;rw [<-hV]at hfa8⊢;clear hA hV hwa hwf;go_wp2_with fail;refine(Wg M A V hM64 hag4 hfa8 _).mono ?_;rintro e w9 ⟨rfl,rfl⟩;have HL0:=Qq (show Jo M A V=Jo ((M:Nat):Int).toNat (lsA f) (lsF f) by rw [Int.toNat_natCast,HAA.out,HVV.out]);have HLM:=Qq (fun n (h:n<=M)=>Qc0 (a:=A) (v:=V) h);obtain⟨L,hL⟩:∃z,z=Jo M A V:=⟨_,rfl⟩;rw [<-hL]at HL0 HLM⊢
 clear hL;have B7:=Qq ((S7.out.block (Qf B0.out)).trans B0.out);by_cases h12:12 < L
 ·have hq:(12:Int) < (L:Int):=by omega
  have HS:=Qq (show Sj lg f ((M:Nat):Int) ⟨0,[],[]⟩ 8 from .inl ⟨by decide,rfl,.inr ⟨HLR.out,.inr ⟨HCK.out.symm,.inr ⟨HSB.out,.inr ⟨HMM.out,.inl ⟨by rw [<-HL0.out];exact h12,rfl⟩⟩⟩⟩⟩⟩);obtain⟨⟨r0,r1,r2⟩,⟨g0,g1,g2⟩,rl⟩:=Zt B7.out;clear h12;go_wp2_with fail
  (try simp only [Exit.inBlock,Exit.then])
  refine bodyPost_ret (Yv Tryz.results32 _ _ rfl (Zl (Jh B7.out _ _ _)) Tryz.underlying26 rfl (by kernel_rfl)) rfl ?_;exact Th rfl rfl (Jc (X0.out.trans S7.out) HLO.out _ _ _) HS.out
 have hq:¬(12:Int) < (L:Int):=by omega
 have HL12:=Qq (show L<=12 by omega);clear h12;go_wp2_with fail;have HRM:=Qq (show((M:Nat):Int).toNat=M from Int.toNat_natCast M);rw [HRM.out]at HL0;go_loopw [11] (fun v wr=>∃n:Nat,v=.int .i64 (n:Int)/\1<=n/\n<=M+1/\Hid (Ext W0 wr/\Sy lg f n 0)) (fun v _=>M+1 - (intOf v).toNat)
 case atStart=>exact⟨1,rfl,Nat.le_refl _,by omega,Qq ⟨S7.out,fun m j h1 h2=>by omega,fun j hj=>absurd hj (by omega)⟩⟩
 case round =>
  obtain⟨n,rfl,hn1,hnM,HREL⟩:=hrel;have HX:=Qq HREL.out.1;have HN:=Qq HREL.out.2;clear HREL;by_cases hlt:n<=M
  ·have hk1:(n:Int)<=(M:Int):=by omega
   have hn64:n<=64:=by omega
   have hl12:Jo n A V<=12:=Qx (HLM.out n hlt) HL12.out;have HNA:=Qq (fun k W h=>Ie n A V k W hn1 hn64 hag4 hfa8 hl12 h);have HLE:=Qq (show Jo n A V=Jo n (lsA f) (lsF f) by rw [HAA.out,HVV.out]);have hml:min (Jo n A V) 64=Jo n A V:=by omega
   have hp2:2^Jo n A V<=4096:=show 2^Jo n A V<=2^12 from Nat.pow_le_pow_right (by decide) hl12
   have hs2:IntKind.i64.wrap ((2:Int)^Jo n A V)=((2^Jo n A V:Nat):Int):=Qb0 hl12;have hs1:wrap64 ((2:Int)^Jo n A V)=((2^Jo n A V:Nat):Int):=by
    rw [show(2:Int)^Jo n A V=((2^Jo n A V:Nat):Int) by simp];exact Tc (Nat.lt_of_le_of_lt hp2 (by decide))
   have HLEN:=Qq (Wg n A V hn64 hag4 hfa8);obtain⟨ln,hln⟩:∃z,z=Jo n A V:=⟨_,rfl⟩;rw [<-hln]at HNA HLE hml hp2 hs1 hs2 HLEN hl12;obtain⟨P,hP⟩:∃z,z=2^ln:=⟨_,rfl⟩;rw [<-hP]at HNA hp2 hs1 hs2;have HP:=Qq (show P=2^Jo n (lsA f) (lsF f) by rw [hP,HLE.out]);clear hln hP;go_wp2_with fail;refine(HLEN.out _).mono ?_;rintro e w2 ⟨rfl,rfl⟩;go_wp2_with fail;go_loopw [60] (fun v wr=>∃k:Nat,v=.int .i64 (k:Int)/\k<=P/\Hid (Ext W0 wr/\Sy lg f n k)) (fun v _=>P - (intOf v).toNat)
   case atStart=>exact⟨0,rfl,Nat.zero_le _,Qq ⟨HX.out,HN.out⟩⟩
   case round =>
    clear HX HN;obtain⟨k,rfl,hkP,HREL⟩:=hrel;have HX:=Qq HREL.out.1;have HN:=Qq HREL.out.2;clear HREL;by_cases hkl:k < P
    ·have hk2:(k:Int) < (P:Int):=Int.ofNat_lt.2 hkl;go_wp2_with fail;refine(HNA.out k _ hkl).mono ?_;rintro e w3 ⟨u,rfl,hf,hx⟩;have HF3:=Qq hf;have HX3:=Qq hx;obtain⟨_,_,hu,⟨A1,c1,hv1,_⟩,⟨A2,c2,hv2,_⟩⟩:=hf.here;subst hu hv1 hv2;obtain⟨dr,hdr⟩:∃z,z=Ur n A V k:=⟨_,rfl⟩;have HDR:=Qq (show dr=Ur n (lsA f) (lsF f) k by rw [hdr,HAA.out,HVV.out]);have HDOK:=Qq (show dr.ok by rw [hdr];exact Ll (Qmr hn1 hn64 hag4 hfa8));rw [<-hdr]at HF3⊢;obtain⟨d1,hd1⟩:∃z,z=dr.val.length:=⟨_,rfl⟩;obtain⟨d2,hd2⟩:∃z,z=dr.rel.length:=⟨_,rfl⟩;obtain⟨d0,hd0⟩:∃z,z=dr.n:=⟨_,rfl⟩;rw [<-hd0,<-hd1,<-hd2]at HF3⊢;obtain⟨w5,hw5⟩:∃z,z=w3.alloc (.cells #[.int .i64 d0,.slice A1 d1 c1,.slice A2 d2 c2] 26):=⟨_,rfl⟩
     have HX5:=Qq (show Ext w3 w5 by rw [hw5];exact Qz.alloc _);have HB5:=Qq (show w5.heap[w3.heap.size]?=some (.cells #[.int .i64 d0,.slice A1 d1 c1,.slice A2 d2 c2] 26 (0,0)) by rw [hw5];exact heap_alloc_new _ _);clear hf hx hdr hd0 hd1 hd2;go_upto_region 20 with(fail);rw [<-hw5];obtain⟨xb,hxb⟩:∃z,z=w3.heap.size:=⟨_,rfl⟩;rw [<-hxb]at HB5⊢;clear hw5 hxb;obtain⟨e0,e1,e2,el⟩:=Zd HB5.out;go_wp2_with fail;refine(Ys lg _ _ f dr 0 _ (HT.out.ext (X0.out.trans (HX.out.trans (HX3.out.trans HX5.out)))) (HF.out.ext (X0.out.trans (HX.out.trans (HX3.out.trans HX5.out)))) (HF3.out _ (Yr.of_ext HX5.out)) HDOK.out).mono ?_
     rintro e w4 ⟨rfl,hx4⟩;have HX4:=Qq (HX.out.trans (HX3.out.trans (HX5.out.trans hx4)));have HB4:=Qq ((hx4.block (Qf HB5.out)).trans HB5.out);have HF4:=Qq (HF3.out.next (X':=fun q=>q < wr.heap.size) (Yr.of_ext (HX5.out.trans hx4)) (fun _ _ h=>h));clear hx4 e0 e1 e2 el;obtain⟨c0,hc0⟩:∃z,z=cmN lg f dr 0:=⟨_,rfl⟩;have HC0:=Qq hc0;rw [<-hc0];clear hc0;by_cases hcz:c0=0
     ·subst hcz;obtain⟨e0,e1,e2,el⟩:=Zd HB4.out;have HBR:=Qq ((HX4.out.block (Qf B0.out)).trans B0.out);obtain⟨⟨r0,r1,r2⟩,⟨g0,g1,g2⟩,rl⟩:=Zt HBR.out;have HS:=Qq (show Sj lg f ((M:Nat):Int) dr 0 from .inr ⟨rfl,HLR.out,HCK.out.symm,HSB.out,HMM.out,by rw [HRM.out,<-HL0.out];exact HL12.out,n,k,hn1,by rw [HRM.out];exact hlt,by rw [<-HP.out];exact hkl,HDR.out,HC0.out.symm,HN.out⟩);have HWS:=Qq (show b < wr.heap.size from Qy (Qf B0.out) HX.out.size);have HWW:=Qq (show w.heap.size<=wr.heap.size from Qx X0.out.size HX.out.size)
      have HFIN:=Qq (show Frz (fun q=>q < w.heap.size) (((w4.setCell ⟨b,0,none⟩ (.int .i64 d0)).setCell ⟨b,1,none⟩ (.slice A1 d1 c1)).setCell ⟨b,2,none⟩ (.slice A2 d2 c2)) (fun W=>MdV W (.agg #[.int .i64 d0,.slice A1 d1 c1,.slice A2 d2 c2]) dr)from
       HF4.out.keep HWW.out (by simp [World.setCell]) (fun q h1 _=>Vd (by have:=HWS.out;omega) _ _ _))
      go_wp2_with fail
      (try simp only [Exit.inBlock,Exit.then])
      refine bodyPost_ret (Yv Tryz.results32 _ _ rfl (Zl (Jh HBR.out _ _ _)) Tryz.underlying26 rfl (by kernel_rfl)) rfl ?_;exact⟨_,dr,0,rfl,HS.out,Jc (X0.out.trans HX4.out) HLO.out _ _ _,HFIN.out⟩
     have hne:(c0==0)=false:=by rw [beq_eq_false_iff_ne];exact hcz
     have HNX:=Qq (HN.out.step (by rw [<-HDR.out,<-HC0.out];exact hcz));clear hcz;go_wp2_with fail;go_roundw
     case rel=>exact⟨k+1,by go_num,hkl,Qq ⟨HX4.out,HNX.out⟩⟩
     case measure=>simp [intOf] <;> omega
    obtain rfl:P=k:=Nat.le_antisymm (Nat.le_of_not_lt hkl) hkP;have HNT:=Qq (show Sy lg f (n+1) 0 from by have:=HN.out;rw [HP.out]at this;exact this.turn);clear hkl;go_wp2_with fail;go_roundw
    case rel=>exact⟨n+1,by go_num,by omega,by omega,Qq ⟨HX.out,HNT.out⟩⟩
    case measure=>simp [intOf] <;> omega
  obtain rfl:n=M+1:=by omega
  have HS:=Qq (show Sj lg f ((M:Nat):Int) ⟨0,[],[]⟩ 6 from .inl ⟨by decide,rfl,.inr ⟨HLR.out,.inr ⟨HCK.out.symm,.inr ⟨HSB.out,.inr ⟨HMM.out,.inr ⟨by rw [HRM.out,<-HL0.out];exact HL12.out,rfl,by rw [HRM.out];exact HN.out⟩⟩⟩⟩⟩⟩);have HBR:=Qq ((HX.out.block (Qf B0.out)).trans B0.out);obtain⟨⟨r0,r1,r2⟩,⟨g0,g1,g2⟩,rl⟩:=Zt HBR.out;have hk1:¬(((M+1:Nat):Int)<=(M:Int)):=by omega
  go_wp2_with fail
  (try simp only [Exit.inBlock,Exit.then])
  refine bodyPost_ret (Yv Tryz.results32 _ _ rfl (Zl (Jh HBR.out _ _ _)) Tryz.underlying26 rfl (by kernel_rfl)) rfl ?_;exact Th rfl rfl (Jc (X0.out.trans HX.out) HLO.out _ _ _) HS.out
def pF:List Nd:=Qy6 0
def f1A:List Nd:=Uo (Gj 0 pF) (Jj pF)
def tA:List Nd:=Qje (Gj 0 pF) pF
theorem Qrl {lg:Int} {f:List Nd} {md:Md} {k:Nat}(h1:Yy md f=0)(hk:k < md.n.toNat)(hg:Nk md lg)(hb:(Gp md f).testBit k=true):Xk lg f md k :=
 ⟨h1,hk,hg,fun w hw=>(Cc h1 w).1 (by rw [hw];exact hb)⟩
theorem Qii:nbE 2 1 1 61=0:=by decide+kernel
theorem Zzo:nbN 2 1 1 61=⟨2,[1],[[3,3]]⟩:=by unfold nbN;rw [if_pos Qii];rfl
theorem Lc {i:Nat}(h:i < 2):i=0\/i=1:=by omega
theorem Qis:Nk ⟨2,[1],[[3,3]]⟩ 6:=⟨by decide,by decide+kernel,fun r hr=>by
 obtain rfl:r= [3,3]:=by simpa using hr
 intro q hq;have hq2:q=2\/q=4\/q=5:=by simpa [Uh]using hq
 rcases hq2 with rfl|rfl|rfl
 ·have h:Qgt [3,3]:=fun i hi=>by rcases Lc hi with rfl|rfl <;> decide
  exact h
 ·have h:Gl false [3,3]:=fun w u hw hu _=>by rcases Lc hw with rfl|rfl <;> rcases Lc hu with rfl|rfl <;> decide
  exact h
 have h:Gl true [3,3]:=fun w u hw hu _=>by rcases Lc hw with rfl|rfl <;> rcases Lc hu with rfl|rfl <;> decide
 exact h⟩
theorem Zzl:Nk ⟨1,[1],[[1]]⟩ 6:=⟨by decide,by decide+kernel,fun r hr=>by
 obtain rfl:r= [1]:=by simpa using hr
 intro q hq;have hq2:q=2\/q=4\/q=5:=by simpa [Uh]using hq
 have h0:∀i,i < [1].length->i=0:=fun i hi=>by simpa using hi
 rcases hq2 with rfl|rfl|rfl
 ·have h:Qgt [1]:=fun i hi=>by rw [h0 i hi];decide
  exact h
 ·have h:Gl false [1]:=fun w u hw hu _=>by rw [h0 w hw,h0 u hu];decide
  exact h
 have h:Gl true [1]:=fun w u hw hu _=>by rw [h0 w hw,h0 u hu];decide
 exact h⟩
theorem ok1:Xk 6 pF ⟨1,[1],[[1]]⟩ 0:=Qrl (by decide+kernel) (by decide) Zzl (by decide+kernel)
def Zq6(lg:Int)(f:List Nd)(md md':Md)(k':Nat):Prop:=∃out,Sa md (2^0) out/\Sx lg f (Jp md (Zc out)) (Xx out 0) md' k'
theorem Zjn:Xk 6 pF ⟨2,[1],[[3,3]]⟩ 0:=Qrl (by decide+kernel) (by decide) Qis (by decide+kernel)
theorem Qt3:Fy ⟨2,[1],[[3,3]]⟩ 1=⟨1,[1],[[1]]⟩:=by
 unfold Fy;rfl
theorem Qab:Ur 1 1 1 0=⟨1,[0],[[0]]⟩:=rfl
theorem okK:Xk 0 f1A ⟨1,[0],[[0]]⟩ 0:=Qrl (by decide+kernel) (by decide) ⟨by decide,by decide+kernel,fun r _ q hq=>by cases hq⟩ (by decide+kernel)
theorem Qsc:lsA f1A=1/\lsF f1A=1:=by decide+kernel
theorem Ep:check tA=0/\(Jj tA).length≠0/\Zr 0 (Jj tA)=0/\Zr 2 (Jj tA)=0/\(Qr (Jj tA)).1.length<=6:=by decide+kernel
theorem Zzt:Sa ⟨2,[1],[[3,3]]⟩ (2^0) 3:=by
 have hb:∀i,(3:Nat).testBit i=true->i=0\/i=1:=fun i hi=>by
  have:=Ky (show 3 < 2^2 by decide) hi;omega
 refine⟨fun i hi=> ?_,fun a ha u hu v hv=> ?_,fun c h1 h2 i hi=> ?_⟩
 ·rw [Nat.testBit_two_pow,decide_eq_true_iff]at hi;rw [<-hi];decide
 ·have ha0:a=0:=by have:a < 1:=ha;omega
  rw [ha0]at hv;rcases hb u hu with rfl|rfl <;> exact hv
 have h0:c 0:=h1 0 (by decide);rcases hb i hi with rfl|rfl
 ·exact h0
 exact h2 0 (by decide) 0 h0 1 (by decide)
theorem Zq8:Jp ⟨2,[1],[[3,3]]⟩ (Zc 3)=⟨2,[1],[[3,3]]⟩:=rfl
theorem Zz5:Sx 6 pF ⟨2,[1],[[3,3]]⟩ 0 ⟨1,[1],[[1]]⟩ 0:=by
 refine .step (w:=1) (by decide) (by decide) (Kc.2 ⟨0,rfl,by rw [Qt3];exact ok1⟩) (fun u h1 h2=> ?_) ?_
 ·have:u < 2:=h2;omega
 rw [Qt3];exact .done fun w hw hk=>absurd (show w=0 by have:w < 1:=hw;omega) hk
theorem Qht {md':Md} {k':Nat}(h:Zq6 6 pF ⟨2,[1],[[3,3]]⟩ md' k'):md'=⟨1,[1],[[1]]⟩/\k'=0:=by
 obtain⟨out,hg,hs⟩:=h;obtain rfl:out=3:=hg.uniq Zzt;rw [Zq8]at hs;exact hs.uniq Zz5
theorem Qn9:Qp (Jj tA)=.one ⟨4,0,0,0,0,0⟩ (.two ⟨7,0,0,0,0,0⟩ (.one ⟨9,0,0,0,0,0⟩ (.leaf ⟨3,0,0,0,0,0⟩)) (.leaf ⟨3,0,0,0,0,0⟩)):=rfl
theorem Ql4:Kt 2 (Jj tA)=false:=by
 cases h:Kt 2 (Jj tA)
 ·rfl
 obtain⟨M,hM,w,hw⟩:=(Qqk (Lr Ep.2.2.2.1)).1 h;rw [Qn9]at hw;simp [KM.sat]at hw;exact absurd (hw.1 w ((hM 0).refl (.inl rfl) w)) hw.2
theorem Qia:Kt 0 (Jj tA)=true:=by
 refine(Qqk (Lr Ep.2.2.1)).2 ⟨⟨Unit,fun _ _ _=>False,fun _ _=>False⟩,fun i=>⟨fun h=>(by rcases h with h|h <;> cases h),fun h=>(by rcases h with h|h|h <;> cases h),fun h=>absurd h.1 (by decide),fun h=>(by rcases h with h|h <;> cases h)⟩,(),?_⟩;rw [Qn9];simp [KM.sat]
theorem Qq7:Jo 1 (lsA f1A) (lsF f1A)=2/\Jo 2 (lsA f1A) (lsF f1A)=6/\check f1A=0/\Ym (Yn f1A) 15=true:=by decide+kernel
theorem cmK:cmN 0 f1A (Ur 1 (lsA f1A) (lsF f1A) 0) 0=0:=by
 rw [Qsc.1,Qsc.2,Qab];exact Kc.2 ⟨0,rfl,okK⟩
theorem Qic {md:Md} {er:Int}(h:Sj 0 f1A 2 md er):er=0/\md=⟨1,[0],[[0]]⟩:=by
 have h2:(0:Nat) < 2^Jo 1 (lsA f1A) (lsF f1A):=Nat.two_pow_pos _;have hl:Jo (2:Int).toNat (lsA f1A) (lsF f1A)=6:=Qq7.2.1;rcases h with⟨_,_,h⟩|⟨h,_,_,_,_,_,n,k,hn,_,hk,rfl,_,hN⟩
 ·rcases h with⟨h,_⟩|⟨_,⟨h,_⟩|⟨_,⟨h,_⟩|⟨_,⟨h,_⟩|⟨_,⟨h,_⟩|⟨_,_,h⟩⟩⟩⟩⟩
  ·omega
  ·exact absurd Qq7.2.2.1 h
  ·rw [Qq7.2.2.2]at h;cases h
  ·omega
  ·omega
  exact absurd cmK (h.1 1 0 (by decide) (by decide) h2)
 rcases Nat.lt_or_ge 1 n with h1|h1
 ·exact absurd cmK (hN.1 1 0 (by decide) h1 h2)
 obtain rfl:n=1:=by omega
 rcases Nat.eq_zero_or_pos k with rfl|h3
 ·refine⟨h,?_⟩;rw [Qsc.1,Qsc.2,Qab]
 exact absurd cmK (hN.2 0 h3)
theorem Zqn:Qp f1A=.two ⟨5,0,0,0,0,0⟩ (.one ⟨9,0,0,0,0,0⟩ (.leaf ⟨3,0,0,0,0,0⟩)) (.one ⟨4,0,0,0,0,0⟩ (.leaf ⟨3,0,0,0,0,0⟩)):=rfl
theorem Qih {md:Md} {er:Int}(h:Sj 2 f1A 2 md er):er=6:=by
 have hl:Jo (2:Int).toNat (lsA f1A) (lsF f1A)=6:=Qq7.2.1;rcases h with⟨_,_,h⟩|⟨_,_,_,_,_,_,n,k,_,_,_,_,hc,_⟩
 ·rcases h with⟨h,_⟩|⟨_,⟨h,_⟩|⟨_,⟨h,_⟩|⟨_,⟨h,_⟩|⟨_,⟨h,_⟩|⟨_,h,_⟩⟩⟩⟩⟩
  ·omega
  ·exact absurd Qq7.2.2.1 h
  ·rw [Qq7.2.2.2]at h;cases h
  ·omega
  ·omega
  exact h
 obtain⟨k0,_,hok⟩:=Kc.1 hc;have hs:=hok.sat ⟨k0,hok.lt⟩ rfl;have hr:=(Qkk hok.good 0).refl (.inl rfl);rw [Zqn]at hs;simp [KM.sat]at hs;exact absurd (hs.1 _ (hr _)) hs.2
theorem Qp4 {md:Md} {k:Nat} {er:Int}(h:Hk 2 tA md k er):er=14:=by
 rcases h with⟨_,_,_,h⟩|⟨_,_,_,_,h,_⟩
 ·rcases h with⟨h,_⟩|⟨_,h,_⟩|⟨_,_,h,_⟩|⟨_,_,_,h,_⟩|⟨_,_,_,_,_,h⟩|⟨_,_,_,_,h,_⟩
  ·omega
  ·exact absurd Ep.1 h
  ·exact absurd h Ep.2.1
  ·exact absurd Ep.2.2.2.1 h
  ·exact h
  rw [Ql4]at h;cases h
 rw [Ql4]at h;cases h
theorem Qp3 {md:Md} {k:Nat} {er:Int}(h:Hk 0 tA md k er):er=0/\cmN 0 (Jj tA) md (k:Int)=0:=by
 rcases h with⟨_,_,_,h⟩|⟨h0,_,_,_,_,h⟩
 ·rcases h with⟨h,_⟩|⟨_,h,_⟩|⟨_,_,h,_⟩|⟨_,_,_,h,_⟩|⟨_,_,_,_,h,_⟩|⟨_,_,_,_,_,h,_⟩
  ·omega
  ·exact absurd Ep.1 h
  ·exact absurd h Ep.2.1
  ·exact absurd Ep.2.2.1 h
  ·rw [Qia]at h;cases h
  have:=Ep.2.2.2.2;omega
 exact⟨h0,Kc.2 ⟨k,rfl,h⟩⟩
theorem Qn4 {w:World} {cs:List Value} {T:TypeId} {B:Nat}(hB:B=w.heap.size) {k:Nat} {z:Value}(h:cs[k]?=some z):(w.alloc (.cells cs.toArray T)).cell? ⟨B,k,none⟩=some z:=by
 subst hB;have:=Ap w cs.toArray T k z (by simpa using h)
 rwa [Fs]at this
theorem Vb {w:World} {B:Nat}(hB:B=w.heap.size)(l:List Nat)(h:l.length<=100):Jv (w.alloc (.cells (l.map fun(z:Nat)=>Value.int .u64 (z:Int)).toArray 41)) (.slice (some ⟨B,0,none⟩) l.length l.length) l :=
 ⟨_,_,rfl,Nat.le_refl _,by unfold maxLen;omega,fun _=>⟨_,rfl,by rw [hB];simp,fun k z hk=>by
  rw [Fs];exact Qn4 hB (by rw [List.getElem?_map,hk];rfl)⟩⟩
theorem Qed {w:World} {B:Nat}(hB:B=w.heap.size)(l:List Nd)(h:l.length<=100)(hk:∀n∈l,n.ok):Fml (w.alloc (.cells (l.flatMap Nd.cells).toArray 71)) (.slice (some ⟨B,0,none⟩) l.length l.length) l:=by
 subst hB;have hl:(l.flatMap Nd.cells).length=l.length*6:=by
  clear h hk
  induction l with
  |nil=>rfl
  |cons a r ih=>rw [List.flatMap_cons,List.length_append,ih];show 6+_=_;simp;omega
 exact⟨Wd (base:=0) ⟨hl,.inr ⟨w.heap.size,l.length,(l.flatMap Nd.cells).toArray,rfl,Nat.zero_le _,heap_alloc_new _ _,Nat.le_refl _,by unfold maxLen;omega,by simpa using hl,by rw [List.take_of_length_le (by simp [hl])]⟩⟩,hk⟩
theorem Qew(w:World)(n:Int)(v r:List Nat)(hv:v.length<=100)(hr:r.length<=100):MdV (((w.alloc (.cells (v.map fun(z:Nat)=>Value.int .u64 (z:Int)).toArray 41)).alloc (.cells (r.map fun(z:Nat)=>Value.int .u64 (z:Int)).toArray 41)).alloc (.cells #[.slice (some ⟨w.heap.size+1,0,none⟩) r.length r.length] 23)) (.agg #[.int .i64 n,.slice (some ⟨w.heap.size,0,none⟩) v.length v.length,.slice (some ⟨w.heap.size+1+1,0,none⟩) 1 1]) ⟨n,v,[r]⟩:=
 ⟨_,_,rfl,(Vb rfl v hv).ext ((Qz.alloc _).alloc _),_,1,rfl,Nat.le_refl _,by decide,fun _=>⟨_,rfl,by simp,fun k s hk=>by
  obtain⟨rfl,rfl⟩:k=0/\s=r:=by
   cases k with
   |zero=>exact⟨rfl,by simpa using hk.symm⟩
   |succ k=>simp at hk
  exact⟨_,Qn4 (cs:= [.slice (some ⟨w.heap.size+1,0,none⟩) s.length s.length]) (k:=0) (by simp) rfl,(Vb (w:=w.alloc (.cells (v.map fun(z:Nat)=>Value.int .u64 (z:Int)).toArray 41)) (by simp) s hr).ext (Qz.alloc _)⟩⟩⟩
theorem Zz0:pF= [⟨3,0,0,0,0,0⟩]:=by decide+kernel
theorem De(w:World):Calls Tryz.prog 73 #[] w fun e w'=>∃u,e=.returned u/\Fml w' u pF/\Ext w w':=by
 go_enter Tryz.func73,Tryz.ntmps73;go_wp2_with fail;go_ret;refine⟨_,rfl,?_,Qz.alloc _⟩;rw [Zz0];exact Qed rfl [⟨3,0,0,0,0,0⟩] (by decide) (fun n hn=>by
  obtain rfl:n=⟨3,0,0,0,0,0⟩:=by simpa using hn
  exact Us (Qi (by decide) (by decide)) (Qi (by decide) (by decide)) (Qi (by decide) (by decide)) (Qi (by decide) (by decide)) (Qi (by decide) (by decide)) (Qi (by decide) (by decide)))
theorem Lq(lg:Int)(v:Value)(f:List Nd)(w:World)(hT:Vf w)(h:Fml w v f):
 Calls Tryz.prog 37 #[.int .i64 lg,v] w fun e w'=>∃u md' k' er,e=.returned (.tuple #[u,.int .i64 ((k':Nat):Int),.int .i64 er])/\Hk lg f md' k' er/\Ext w w'/\Frz (fun k=>k < w.heap.size) w' (fun W=>MdV W u md'):=by
 have HT:=Qq hT;have HF:=Qq h;obtain⟨Af,cf,rfl,_⟩:=Qm h;obtain⟨ck,hck⟩:∃z,z=check f:=⟨_,rfl⟩;have HCK:=Qq hck;obtain⟨W0,hW0⟩:∃W,W=w.alloc (.cells #[.int .i64 0,.slice none 0 0,.slice none 0 0] 26):=⟨_,rfl⟩;have X0:=Qq (show Ext w W0 by rw [hW0];exact Qz.alloc _);obtain⟨b,hb⟩:∃b,b=w.heap.size:=⟨_,rfl⟩;have B0:=Qq (show W0.heap[b]?=some (.cells #[.int .i64 0,.slice none 0 0,.slice none 0 0] 26 (0,0)) by rw [hW0,hb];exact heap_alloc_new _ _);have HLO:=Qq (show w.heap.size<=b by omega);obtain⟨lo,hlo⟩:∃z,z=decide (0<=lg/\lg<=6):=⟨_,rfl⟩;have HLG:=Qq hlo;clear hT h hck;go_enter Tryz.func37,Tryz.ntmps37
 go_upto_region 1 with(fail);rw [<-hW0,<-hb];clear hW0 hb;go_wp2_with fail;refine(Ht lg _).mono ?_;rintro e w1 ⟨rfl,rfl⟩;rw [<-hlo];clear hlo;obtain⟨⟨r0,r1,r2⟩,⟨g0,g1,g2⟩,rl⟩:=Zt B0.out;cases lo
 ·have HS:=Qq (show Hk lg f ⟨0,[],[]⟩ 0 1 from .inl ⟨by decide,rfl,rfl,.inl ⟨by have:=of_decide_eq_false HLG.out.symm;omega,rfl⟩⟩);go_wp2_with fail
  (try simp only [Exit.inBlock,Exit.then])
  refine bodyPost_ret (Yt Tryz.results37 _ _ rfl (Zl (Jh B0.out _ _ _)) Tryz.underlying26 rfl (by kernel_rfl)) rfl ?_;exact⟨_,_,0,1,rfl,HS.out,Jc X0.out HLO.out _ _ _,fun W _=>Gk _⟩
 have HLR:=Qq (of_decide_eq_true HLG.out.symm);clear r0 r1 r2 g0 g1 g2 rl HLG;go_wp2_with fail;refine(Vk _ f _ (HF.out.ext X0.out).1).mono ?_;rintro e w2 ⟨rfl,hx⟩;rw [<-HCK.out];have X2:=Qq (X0.out.trans hx);have B2:=Qq ((hx.block (Qf B0.out)).trans B0.out);obtain⟨⟨r0,r1,r2⟩,⟨g0,g1,g2⟩,rl⟩:=Zt B2.out;have S2:=Qq hx;clear hx;by_cases hz:ck=0
 case neg =>
  have hne:(ck !=0)=true:=by simpa using hz
  have HS:=Qq (show Hk lg f ⟨0,[],[]⟩ 0 ck from .inl ⟨hz,rfl,rfl,.inr (.inl ⟨HLR.out,by rw [<-HCK.out];exact hz,HCK.out⟩)⟩);clear hz;go_wp2_with fail
  (try simp only [Exit.inBlock,Exit.then])
  refine bodyPost_ret (Yt Tryz.results37 _ _ rfl (Zl (Jh B2.out _ _ _)) Tryz.underlying26 rfl (by kernel_rfl)) rfl ?_;exact⟨_,_,0,ck,rfl,HS.out,Jc X2.out HLO.out _ _ _,fun W _=>Gk _⟩
 subst hz;clear r0 r1 r2 g0 g1 g2 rl;go_wp2_with fail;refine(Xw _ f _ (HF.out.ext X2.out)).mono ?_;rintro e w3 ⟨u,rfl,hmd⟩;have HNF:=Qq hmd.fml;obtain⟨An,cn,rfl,_⟩:=Qm hmd.fml;have X3:=Qq (X2.out.trans hmd.ext);have S3:=Qq (S2.out.trans hmd.ext);have B3:=Qq ((S3.out.block (Qf B0.out)).trans B0.out);obtain⟨nf,hnf⟩:∃z,z=Jj f:=⟨_,rfl⟩;have HNN:=Qq hnf;rw [<-hnf]at HNF⊢;clear hmd hnf;by_cases hl0:nf.length=0
 ·have hq:((nf.length:Int)==0)=true:=by rw [hl0];rfl
  have HS:=Qq (show Hk lg f ⟨0,[],[]⟩ 0 8 from .inl ⟨by decide,rfl,rfl,.inr (.inr (.inl ⟨HLR.out,HCK.out.symm,by rw [<-HNN.out];exact hl0,rfl⟩))⟩);obtain⟨⟨r0,r1,r2⟩,⟨g0,g1,g2⟩,rl⟩:=Zt B3.out;clear hl0;go_wp2_with fail
  (try simp only [Exit.inBlock,Exit.then])
  refine bodyPost_ret (Yt Tryz.results37 _ _ rfl (Zl (Jh B3.out _ _ _)) Tryz.underlying26 rfl (by kernel_rfl)) rfl ?_;exact⟨_,_,0,8,rfl,HS.out,Jc X3.out HLO.out _ _ _,fun W _=>Gk _⟩
 have hq:((nf.length:Int)==0)=false:=by rw [beq_eq_false_iff_ne];omega
 have HL0:=Qq (show(Jj f).length≠0 by rw [<-HNN.out];exact hl0);clear hl0;go_wp2_with fail;refine(Qmx lg _ nf _ HNF.out).mono ?_;rintro e w4 ⟨hx,hres⟩;have S4:=Qq (S3.out.trans hx);have X4:=Qq (X0.out.trans S4.out);have HN4:=Qq (HNF.out.ext hx);have B4:=Qq ((S4.out.block (Qf B0.out)).trans B0.out);obtain⟨er,her⟩:∃er,er=Zr lg nf:=⟨_,rfl⟩;have HER:=Qq (show er=Zr lg (Jj f) by rw [her,HNN.out]);have HER2:=Qq her;rw [<-her]at hres;clear hx her
 have hcase:(∃ev,ev≠0/\e=.returned (.tuple #[.agg #[.int .i64 0,.slice none 0 0,.slice none 0 0],.int .i64 0,.int .i64 ev])/\Hk lg f ⟨0,[],[]⟩ 0 (if ev=6 then 14 else ev))\/
  (er=0/\Kt lg nf=true/\∃vm md S,e=.returned (.tuple #[vm,.int .i64 0,.int .i64 0])/\MdV w4 vm md/\md.ok/\Qv1 lg nf S md):=by
  rcases hres with⟨h0,he⟩|⟨h0,hl,he⟩|⟨h0,hl,hm⟩|⟨h0,hl,h6,he⟩
  ·exact .inl ⟨er,h0,he,.inl ⟨by split <;> omega,rfl,rfl,.inr (.inr (.inr (.inl ⟨HLR.out,HCK.out.symm,HL0.out,by rw [<-HER.out];exact h0,by rw [<-HER.out]⟩)))⟩⟩
  ·exact .inl ⟨6,by decide,he,.inl ⟨by decide,rfl,rfl,.inr (.inr (.inr (.inr (.inl ⟨HLR.out,HCK.out.symm,HL0.out,by rw [<-HER.out];exact h0,by rw [<-HNN.out];exact hl,rfl⟩))))⟩⟩
  ·exact .inr ⟨h0,hl,hm⟩
  exact .inl ⟨8,by decide,he,.inl ⟨by decide,rfl,rfl,.inr (.inr (.inr (.inr (.inr ⟨HLR.out,HCK.out.symm,HL0.out,by rw [<-HER.out];exact h0,by rw [<-HNN.out];exact hl,by rw [<-HNN.out];exact h6,rfl⟩))))⟩⟩
 clear hres;rcases hcase with⟨ev,hev,rfl,hcs⟩|⟨h0,hl,vm,md,S,rfl,hmd,hok,hmo⟩
 ·have HCS:=Qq hcs;have HEV:=Qq hev;have X5:=Qq (X4.out.alloc (.cells #[.int .i64 0,.slice none 0 0,.slice none 0 0] 26));have B5:=Qq ((((Ext.refl w4).alloc (.cells #[.int .i64 0,.slice none 0 0,.slice none 0 0] 26)).block (Qf B4.out)).trans B4.out);obtain⟨w5,hw5⟩:∃z,z=w4.alloc (.cells #[.int .i64 0,.slice none 0 0,.slice none 0 0] 26):=⟨_,rfl⟩;clear hcs hev;go_upto_region 10 with(fail);rw [<-hw5]at X5 B5⊢;clear hw5;obtain⟨⟨r0,r1,r2⟩,⟨g0,g1,g2⟩,rl⟩:=Zt B5.out;by_cases h6:ev=6
  ·subst h6;go_wp2_with fail;go_loopw [10,11] (fun v10 v11 wr=>v10=.int .i64 0/\v11=.int .i64 14/\wr=w5) (fun _ _ _=>0)
   case atStart=>exact⟨rfl,rfl,rfl⟩
   case round =>
    obtain⟨rfl,rfl,rfl⟩:=hrel;go_wp2_with fail
    (try simp only [Exit.inBlock,Exit.then])
    refine bodyPost_ret (Yt Tryz.results37 _ _ rfl (Zl (Jh B5.out _ _ _)) Tryz.underlying26 rfl (by kernel_rfl)) rfl ?_;exact⟨_,_,0,14,rfl,HCS.out,Jc X5.out HLO.out _ _ _,fun W _=>Gk _⟩
  have hq6:(ev==6)=false:=by rw [beq_eq_false_iff_ne];exact h6
  have hq0:(ev==0)=false:=by rw [beq_eq_false_iff_ne];exact HEV.out
  rw [if_neg h6]at HCS;clear h6;go_wp2_with fail;go_loopw [10,11] (fun v10 v11 wr=>v10=.int .i64 0/\v11=.int .i64 ev/\wr=w5) (fun _ _ _=>0)
  case atStart=>exact⟨rfl,rfl,rfl⟩
  case round =>
   obtain⟨rfl,rfl,rfl⟩:=hrel;go_wp2_with fail
   (try simp only [Exit.inBlock,Exit.then])
   refine bodyPost_ret (Yt Tryz.results37 _ _ rfl (Zl (Jh B5.out _ _ _)) Tryz.underlying26 rfl (by kernel_rfl)) rfl ?_;exact⟨_,_,0,ev,rfl,HCS.out,Jc X5.out HLO.out _ _ _,fun W _=>Gk _⟩
 subst h0;have HL:=Qq hl;have HMD:=Qq hmd;have HCM:=Qq (Zzw HER2.out.symm hmo);obtain⟨vv,vr,rfl,⟨A,c,rfl,_⟩,⟨A',c',rfl,_⟩⟩:=hmd;obtain⟨m1,hm1⟩:∃z,z=md.val.length:=⟨_,rfl⟩;obtain⟨m2,hm2⟩:∃z,z=md.rel.length:=⟨_,rfl⟩;obtain⟨m0,hm0⟩:∃z,z=md.n:=⟨_,rfl⟩;have HM0:=Qq hm0;have HM1:=Qq hm1;have HM2:=Qq hm2;rw [<-hm0,<-hm1,<-hm2]at HMD⊢;obtain⟨w5,hw5⟩:∃z,z=w4.alloc (.cells #[.int .i64 m0,.slice A m1 c,.slice A' m2 c'] 26):=⟨_,rfl⟩;obtain⟨xb,hxb⟩:∃z,z=w4.heap.size:=⟨_,rfl⟩;have HX5:=Qq (show Ext w4 w5 by rw [hw5];exact Qz.alloc _);have HBX:=Qq (show w5.heap[xb]?=some (.cells #[.int .i64 m0,.slice A m1 c,.slice A' m2 c'] 26 (0,0)) by rw [hw5,hxb];exact heap_alloc_new _ _)
 have HBB:=Qq (show b < xb by rw [hxb];exact Qf B4.out);have HSX:=Qq (show xb < w5.heap.size from Qf HBX.out);have HX4B:=Qq (show w4.heap.size<=xb by rw [hxb];exact Nat.le_refl _);have HWX:=Qq (show w.heap.size<=xb by have:=HLO.out;have:=HBB.out;omega);clear hl hok hmo hm0 hm1 hm2;go_upto_region 10 with(fail);rw [<-hw5,<-hxb];clear hw5 hxb;go_wp2_with fail;go_loopw [10,11] (fun v10 v11 wr=>v11=.int .i64 0/\∃kc:Nat,v10=.int .i64 (kc:Int)/\Hid (Ext w4 wr/\∃mdc A c A' c',wr.heap[xb]?=some (.cells #[.int .i64 mdc.n,.slice A mdc.val.length c,.slice A' mdc.rel.length c'] 26 (0,0))/\MdV wr (.agg #[.int .i64 mdc.n,.slice A mdc.val.length c,.slice A' mdc.rel.length c']) mdc/\Xk lg nf mdc kc)) (fun _ _ wr=>(intOf ((wr.cell? ⟨xb,0,none⟩).getD undef)).toNat)
 case atStart=>exact⟨rfl,0,rfl,Qq ⟨HX5.out,md,A,c,A',c',by rw [<-HM0.out,<-HM1.out,<-HM2.out];exact HBX.out,by rw [<-HM0.out,<-HM1.out,<-HM2.out];exact HMD.out.ext HX5.out,HCM.out⟩⟩
 case round =>
  clear HX5 HBX HMD HCM HSX HM0 HM1 HM2;obtain⟨rfl,kc,rfl,HREL⟩:=hrel;obtain⟨hx,mdc,A,c,A',c',hbx,hmd,hcm⟩:=HREL.out;have HX:=Qq hx;have HBX:=Qq hbx;have HMD:=Qq hmd;have HCM:=Qq hcm;obtain⟨n,hn⟩:=Int.eq_ofNat_of_zero_le (show 0<=mdc.n by have:=(Zv hcm.good.ck).1;omega);have HN:=Qq hn;obtain⟨m1,hm1⟩:∃z,z=mdc.val.length:=⟨_,rfl⟩;obtain⟨m2,hm2⟩:∃z,z=mdc.rel.length:=⟨_,rfl⟩;rw [hn,<-hm1,<-hm2]at HBX HMD;clear HREL hx hbx hmd hcm hn hm1 hm2;obtain⟨e0,e1,e2,el⟩:=Zd HBX.out;go_wp2_with fail;refine(Do lg _ _ nf mdc (kc:Int) _ (HT.out.ext (X4.out.trans HX.out)) (HN4.out.ext HX.out) HMD.out (Ll HCM.out.good.ck)).mono ?_
  rintro e w6 ⟨u,md',k',rfl,hss,hx6,hf6⟩;have hcz:cmN lg nf mdc (kc:Int)=0:=Kc.2 ⟨kc,rfl,HCM.out⟩;rw [hcz];obtain⟨_,k0,out,hk0,hgs,hsr⟩:=hss.resolve_left (fun h=>h.1 hcz);obtain rfl:k0=kc:=by omega
  have hpt:=hgs.part HCM.out;obtain⟨hc2,hle,_,_⟩:=hsr.ok hpt.1;have HC2:=Qq hc2;have HLE:=Qq (show md'.n<=(n:Int) by
   have h1:=hpt.2.1;have h2:(Jp mdc (Zc out)).n=((Zc out).length:Int):=rfl;have h3:=HN.out
   omega)
  have HF6:=Qq hf6;have HX6:=Qq hx6;obtain⟨_,_,hu,⟨A1,c1,hv1,_⟩,⟨A2,c2,hv2,_⟩⟩:=hf6.here;subst hu hv1 hv2;obtain⟨d0,hd0⟩:∃z,z=md'.n:=⟨_,rfl⟩;obtain⟨d1,hd1⟩:∃z,z=md'.val.length:=⟨_,rfl⟩;obtain⟨d2,hd2⟩:∃z,z=md'.rel.length:=⟨_,rfl⟩;have HD0:=Qq hd0;have HD1:=Qq hd1;have HD2:=Qq hd2;rw [<-hd0,<-hd1,<-hd2]at HF6⊢;rw [<-hd0]at HLE;have HB6:=Qq ((hx6.block (Qf HBX.out)).trans HBX.out);have HB4:=Qq (((HX.out.trans hx6).block (Qf B4.out)).trans B4.out);obtain⟨⟨q0,q1,q2⟩,⟨f0,f1,f2⟩,ql⟩:=Zt HB6.out;obtain⟨w7,hw7⟩:∃z,z=((w6.setCell ⟨xb,0,none⟩ (.int .i64 d0)).setCell ⟨xb,1,none⟩ (.slice A1 d1 c1)).setCell ⟨xb,2,none⟩ (.slice A2 d2 c2):=⟨_,rfl⟩
  have HX7:=Qq (show Ext w4 w7 by rw [hw7];exact Jc (HX.out.trans hx6) HX4B.out _ _ _);have HB7:=Qq (show w7.heap[xb]?=some (.cells #[.int .i64 d0,.slice A1 d1 c1,.slice A2 d2 c2] 26 (0,0)) by rw [hw7];exact Jh HB6.out _ _ _);have HB9:=Qq (show w7.heap[b]?=some (.cells #[.int .i64 0,.slice none 0 0,.slice none 0 0] 26 (0,0)) by rw [hw7];exact(Vd (by have:=HBB.out;omega) _ _ _).trans HB4.out);have HF7:=Qq (show Frz (fun k=>k < wr.heap.size) w7 (fun W=>MdV W (.agg #[.int .i64 d0,.slice A1 d1 c1,.slice A2 d2 c2]) md') by
   rw [hw7];exact HF6.out.keep (Nat.le_refl _) (by simp [World.setCell]) (fun k h1 _=>Vd (by have:=Qf HBX.out;omega) _ _ _))
  clear hss hcz hk0 hgs hsr hpt hc2 hle hf6 hx6 hd0 hd1 hd2 e0 e1 e2 el;go_upto_region 15 with(fail);rw [<-hw7];clear hw7 q0 q1 q2 f0 f1 f2 ql;obtain⟨e0,e1,e2,el⟩:=Zd HB7.out;by_cases hdn:d0=(n:Int)
  ·subst hdn;have hqq:((n:Int)==(n:Int))=true:=by simp
   obtain⟨⟨q0,q1,q2⟩,⟨f0,f1,f2⟩,ql⟩:=Zt HB9.out;have HRS:=Qq (show Hk lg f md' k' 0 from .inr ⟨rfl,HCK.out.symm,HL0.out,HER.out.symm,by rw [<-HNN.out];exact HL.out,by rw [<-HNN.out];exact HC2.out⟩);have HWR:=Qq (show xb < wr.heap.size from Qf HBX.out)
   have HFIN:=Qq (show Frz (fun k=>k < w.heap.size) (((w7.setCell ⟨b,0,none⟩ (.int .i64 (n:Int))).setCell ⟨b,1,none⟩ (.slice A1 d1 c1)).setCell ⟨b,2,none⟩ (.slice A2 d2 c2)) (fun W=>MdV W (.agg #[.int .i64 (n:Int),.slice A1 d1 c1,.slice A2 d2 c2]) md')from
    HF7.out.keep (by have:=HWX.out;have:=HWR.out;omega) (by simp [World.setCell]) (fun k h1 _=>Vd (by have:=HBB.out;have:=HWR.out;omega) _ _ _))
   go_wp2_with fail
   (try simp only [Exit.inBlock,Exit.then])
   refine bodyPost_ret (Yt Tryz.results37 _ _ rfl (Zl (Jh HB9.out _ _ _)) Tryz.underlying26 rfl (by kernel_rfl)) rfl ?_;exact⟨_,md',k',0,rfl,HRS.out,Jc (X4.out.trans HX7.out) HLO.out _ _ _,HFIN.out⟩
  have hqq:(d0==(n:Int))=false:=by rw [beq_eq_false_iff_ne];exact hdn
  have HDN:=Qq hdn;have HM1:=Qq (Zd HB7.out).1;have HM2:=Qq (Zd HBX.out).1;have HPOS:=Qq (show 1<=d0 by rw [HD0.out];exact(Zv HC2.out.good.ck).1);clear hdn;go_wp2_with fail;go_roundw
  case rel=>exact⟨by first|rfl|trivial,k',rfl,Qq ⟨HX7.out,md',A1,c1,A2,c2,by rw [<-HD0.out,<-HD1.out,<-HD2.out];exact HB7.out,by rw [<-HD0.out,<-HD1.out,<-HD2.out];exact HF7.out.here,HC2.out⟩⟩
  case measure =>
   rw [HM1.out,HM2.out];show(d0:Int).toNat < ((n:Nat):Int).toNat;have:=HLE.out;have:=HDN.out;have:=HPOS.out;omega
end Go.Proofs.YtkmclcmnoicagaaGreatDoor
