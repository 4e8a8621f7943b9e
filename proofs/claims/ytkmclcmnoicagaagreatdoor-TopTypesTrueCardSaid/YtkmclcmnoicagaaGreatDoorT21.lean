/- slices.Index and Contains at words. -/
import Derived.Test.YtkmclcmnoicagaaGreatDoorT20
import Derived.Test.YtkmclcmnoicagaaGreatDoorT19
namespace Go.Proofs.YtkmclcmnoicagaaGreatDoor
set_option maxRecDepth 100000
set_option maxHeartbeats 128000000
open Go.RowKit
def Bc(r:List Nat)(s:Nat):Nat:=if Yb r.length r=0 then Kj r r.length s else 0
theorem Pw {r:List Nat}(h:Yb r.length r=0):r.length<=64:=by
 unfold Yb at h;split at h
 ·cases h
 omega
theorem So(v:Value)(r:List Nat)(s:Nat)(w:World)(h:Ji w v r)(hw:∀s∈r,Zj s)(hs:Zj s):
 Calls Tryz.prog 186 #[v,.int .u64 (s:Int)] w fun e w'=>e=.returned (.int .u64 ((Bc r s:Nat):Int))/\Ext w w':=by
 have H:=Qq h;obtain⟨A,c,rfl,_,_,HL⟩:=Gc h;have HWD:=Qq hw;have HS:=Qq hs;clear h hw hs;by_cases hck:Yb r.length r=0
 ·have hn:=Pw hck;have HC:=Qq hck;have HB:=Qq (show Bc r s=Kj r r.length s by unfold Bc;rw [if_pos HC.out]);clear hck;obtain⟨n,hne⟩:∃n,n=r.length:=⟨_,rfl⟩;have HN:=Qq hne;go_enter Tryz.func186,Tryz.ntmps186;clear hne;go_upto_region 1 with(fail);go_wp2_with(go_at_call 113;refine(Dr _ r _ H.out HWD.out).mono ?_;rintro e w1 ⟨rfl,hx1⟩;rw [HC.out];have HX1:=Qq hx1;clear hx1);rw [<-HN.out];go_loopw [5,14] (fun vo vi wr=>∃k:Nat,vi=.int .i64 (k:Int)/\k<=n/\vo=.int .u64 ((Kk k (fun i=>Yw (r.getD i 0) s):Nat):Int)/\Hid (Ext w wr)) (fun _ v _=>n - (intOf v).toNat)
  case atStart=>exact⟨0,rfl,Nat.zero_le _,rfl,Qq HX1.out⟩
  case round =>
   obtain⟨k,rfl,hk,rfl,HX⟩:=hrel;obtain⟨m,hm⟩:∃m,m=Kk k (fun i=>Yw (r.getD i 0) s):=⟨_,rfl⟩;have HM:=Qq hm;rw [<-hm];clear hm;by_cases hlt2:k < n
   ·have hk1:(k:Int) < (n:Int):=by omega
    have hk2:(k:Int) < (r.length:Int):=by rw [<-HN.out];exact hk1
    have hk64:k < 64:=by omega
    have hmin:min k 64=k:=by omega
    obtain⟨ad,rfl,hadl,hc⟩:=HL.out k (by rw [<-HN.out];exact hlt2);have a0:=(HX.out.cell (p:=ad.add k) (Qj hadl)).trans hc;have al:(ad.add k).block < wr.heap.size:=by rw [Qp];exact Qy hadl HX.out.size
    have hz:=Qbd (Fd HWD.out k) HS.out;have HSU:=Qq (Th k (fun i=>Yw (r.getD i 0) s));have HOR:=Qq (Qfv (s:=m) (k:=k) (by rw [HM.out];exact Pf (by omega) _) hk64);obtain⟨x,hx⟩:∃x,x=r.getD k 0:=⟨_,rfl⟩;rw [<-hx]at a0 hz;have HXE:=Qq hx;clear hc hx;cases hd:Yw x s
    ·rw [hd]at hz;have HP:=Qq (show Kk (k+1) (fun i=>Yw (r.getD i 0) s)=m by rw [HSU.out,<-HXE.out,hd,HM.out];rfl);clear hd;go_wp2_with fail;go_roundw
     case rel=>exact⟨k+1,by go_num,by omega,by rw [HP.out],HX⟩
     case measure=>simp [intOf];omega
    rw [hd]at hz;have HP:=Qq (show Kk (k+1) (fun i=>Yw (r.getD i 0) s)=m|||2^k by rw [HSU.out,<-HXE.out,hd,HM.out];rfl);have hor:=HOR.out;clear hd;obtain⟨m2,hm2⟩:∃m2,m2=m|||2^k:=⟨_,rfl⟩;rw [<-hm2]at HP hor;clear hm2;go_wp2_with fail;go_roundw
    case rel=>exact⟨k+1,by go_num,by omega,by rw [HP.out],HX⟩
    case measure=>simp [intOf];omega
   obtain rfl:n=k:=by omega
   go_wp2_with fail;go_ret;exact⟨by rw [HB.out,<-HN.out,show Kj r n s=m from HM.out.symm] <;> rfl,HX.out⟩
 have HC:=Qq hck;have HB:=Qq (show Bc r s=0 by unfold Bc;rw [if_neg HC.out]);obtain⟨ce,hce⟩:∃z,z=Yb r.length r:=⟨_,rfl⟩;rw [<-hce]at hck;have hne:(ce !=0)=true:=by simpa using hck
 have HCE:=Qq hce;clear hck hce;go_enter Tryz.func186,Tryz.ntmps186;go_wp2_with(go_at_call 113;refine(Dr _ r _ H.out HWD.out).mono ?_;rintro e w1 ⟨rfl,hx1⟩;rw [<-HCE.out];have HX1:=Qq hx1;clear hx1);go_ret;exact⟨by rw [HB.out] <;> rfl,HX1.out⟩
open Classical in
noncomputable def Qsk (q:Int) (l:List Nat):Bool:=decide (Ve q l)
def Zzn:Prop:=∀(v:Value) (l:List Nat) (q:Int) (w:World),Uj w->Ji w v l->(∀s∈l,Zj s)->Yb l.length l=0->0 < l.length->(q=1\/q=2\/q=4\/q=5)->
 Calls Tryz.prog 166 #[v,.int .i64 q] w fun e w'=>e=.returned (.bool (Qsk q l))/\Ext w w'
noncomputable def Qxs (lg:Int) (l:List Nat):Bool:= !((Bg lg).any fun q=> !Qsk q l)
theorem Qlj {lg:Int} {l:List Nat} :Qxs lg l=true↔Fh lg l:=by
 unfold Qxs Fh;rw [Bool.not_eq_true',List.any_eq_false];refine forall_congr' fun q=>imp_congr_right fun _=> ?_
 unfold Qsk;simp
noncomputable def inB (md:Md) (lg:Int):Bool:= !(md.rel.any fun r=> !Qxs lg r)
theorem Qg1 {md:Md} {lg:Int} :inB md lg=true↔∀r∈md.rel,Fh lg r:=by
 unfold inB;rw [Bool.not_eq_true',List.any_eq_false];refine forall_congr' fun r=>imp_congr_right fun _=> ?_
 rw [<-Qlj];cases Qxs lg r <;> simp
theorem Qcg {md:Md} {lg:Int}(hck:Zy md=0)(hlg:0<=lg/\lg<=6)(h:inB md lg=true):Fm md lg:=by
 exact⟨hlg,hck,Qg1.1 h⟩
end Go.Proofs.YtkmclcmnoicagaaGreatDoor
