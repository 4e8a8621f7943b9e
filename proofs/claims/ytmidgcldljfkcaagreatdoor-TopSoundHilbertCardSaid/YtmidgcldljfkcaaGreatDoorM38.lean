/- sequent's carry: the nodes that follow a set to a world that an agent considers possible. -/
import Derived.Test.YtmidgcldljfkcaaGreatDoorM01
import Derived.Test.YtmidgcldljfkcaaGreatDoorM37
import Derived.Test.YtmidgcldljfkcaaGreatDoorM13
namespace Go.Proofs.YtmidgcldljfkcaaGreatDoor
set_option maxRecDepth 100000
set_option maxHeartbeats 128000000
open Go.RowKit
theorem Ph(lg:Int)(set:Nat)(ag:Int)(n:Nd):∀(l:List Nd) (i out:Nat),Zm lg set ag (l++ [n]) i out=Ym lg set ag (i+l.length) n (Zm lg set ag l i out)
 |[],i,out=>rfl
 |a :: r,i,out=>by
  rw [List.cons_append,Zm,Zm,Ph lg set ag n r (i+1) _,List.length_cons,show i+1+r.length=i+(r.length+1) by omega]
theorem Dm(lg:Int)(set:Nat)(ag:Int) {base:List Nd} {k:Nat} {n:Nd}(h:base[k]?=some n):Zm lg set ag (base.take (k+1)) 0 0=Ym lg set ag k n (Zm lg set ag (base.take k) 0 0):=by
 have hk:k < base.length:=(List.getElem?_eq_some_iff.1 h).1;rw [Yr h,Ph,List.length_take,Nat.zero_add,Nat.min_eq_left (by omega)]
theorem Zf {k:Nat}(h:k < 64):2^k < 18446744073709551616:=Nat.pow_lt_pow_right (by decide) h
theorem Kj {a b:Nat}(ha:a < 18446744073709551616)(hb:b < 18446744073709551616):a|||b < 18446744073709551616:=Nat.or_lt_two_pow (n:=64) ha hb
theorem Qnl {lg:Int} {set:Nat} {ag:Int} {i:Nat} {n:Nd} {out:Nat}(ho:out < 18446744073709551616)(hi:i < 64)(hx:n.op=9->n.x.toNat < 64):Ym lg set ag i n out < 18446744073709551616:=by
 unfold Ym;cases h1: !inS set i||n.i !=ag
 ·cases h9:n.op==9
  ·cases h10:(n.op==10&&Nj lg)
   ·exact ho
   exact Kj ho (Zf hi)
  have hx':=hx (by simpa using h9);cases ht:Bk lg
  ·exact Kj ho (Zf hx')
  exact Kj ho (Kj (Zf hx') (Zf hi))
 exact ho
theorem Bq {lg:Int} {set:Nat} {ag:Int} {base:List Nd}(hl:base.length<=64)(hx:∀(k:Nat) (n:Nd),base[k]?=some n->n.op=9->n.x.toNat < 64):∀k,k<=base.length->Zm lg set ag (base.take k) 0 0 < 18446744073709551616
 |0,_=>by simp [Zm]
 |k+1,hk=>by
  have hn:base[k]?=some base[k]:=List.getElem?_eq_getElem (by omega);rw [Dm lg set ag hn];exact Qnl (Bq hl hx k (by omega)) (by omega) (hx k _ hn)
theorem Zx {base:List Nd}(h:Zt base=0):Qs base=0/\base.length<=64/\base.all (Vj base)=true:=by
 unfold Zt at h;cases hc:Qs base !=0
 ·rw [hc]at h;by_cases hl:64 < base.length
  ·rw [decide_eq_true hl]at h;simp at h
  rw [decide_eq_false hl]at h;cases ha:base.all (Vj base)
  ·rw [ha]at h;simp at h
  exact⟨by simpa using hc,by omega,rfl⟩
 rw [hc]at h;have:Qs base≠0:=by simpa using hc
 exact absurd h this
theorem Uq {base:List Nd}(h:Zt base=0) {k:Nat} {n:Nd}(hn:base[k]?=some n)(hx:Qw n.op=true):0<=n.x/\n.x < 64:=by
 obtain⟨hc,hl,_⟩:=Zx h;have hk:k < base.length:=(List.getElem?_eq_some_iff.1 hn).1;have:=(Jq hc k n hn).1 hx;omega
theorem Qrv {base:List Nd}(h:Zt base=0) {k:Nat} {n:Nd}(hn:base[k]?=some n)(hx:Qa n.op=true):0<=n.y/\n.y < 64:=by
 obtain⟨hc,hl,_⟩:=Zx h;have hk:k < base.length:=(List.getElem?_eq_some_iff.1 hn).1;have:=(Jq hc k n hn).2 hx;omega
theorem Ma {lg:Int} {set:Nat} {ag:Int} {base:List Nd}(h:Zt base=0):Yn lg base set ag < 18446744073709551616:=by
 have:=Bq (lg:=lg) (set:=set) (ag:=ag) (Zx h).2.1 (fun k n hn h9=>by have:=Uq h hn (by rw [h9];rfl);omega) base.length (Nat.le_refl _);rw [List.take_of_length_le (Nat.le_refl _)]at this;exact this
theorem Kz {k:Nat}(h:k < 64):IntKind.u64.wrap ((2:Int)^k)=((2^k:Nat):Int):=by
 rw [IntKind.wrap_u64,show((2:Int)^k)=((2^k:Nat):Int) by simp];have:=Zf h;generalize 2^k=a at *;omega
theorem Ft {o x:Nat}(ho:o < 18446744073709551616)(hx:x < 64):bits .or .u64 (o:Int) ((2:Int)^x)=((o|||2^x:Nat):Int):=by
 rw [show((2:Int)^x)=((2^x:Nat):Int) by simp];exact bits_or_u64_nat _ _ ho (Zf hx)
theorem Wp {x y:Nat}(hx:x < 64)(hy:y < 64):bits .or .u64 ((2:Int)^x) ((2:Int)^y)=((2^x|||2^y:Nat):Int):=by
 rw [show((2:Int)^x)=((2^x:Nat):Int) by simp];exact Ft (Zf hx) hy
theorem Qpd(lg:Int)(hlg:¬(lg=3\/lg=4\/lg=5\/lg=6))(v:Value)(base:List Nd)(set:Nat)(ag:Int)(w:World)(h:Nds w v base)(hb:Zt base=0)(hset:set < 18446744073709551616):
 Calls Tryz.prog 89 #[.int .i64 lg,v,.int .u64 (set:Int),.int .i64 ag] w fun e w'=>e=.returned (.int .u64 (Yn lg base set ag:Nat))/\Ext w w':=by
 obtain⟨A,c,rfl,hcap,hmax,hread⟩:=h;unfold maxLen at hmax;have HR:=Qq hread;have HB:=Qq hb;have hlen:=(Zx hb).2.1;have HN:=Qq (show Yn lg base set ag=Zm lg set ag (base.take base.length) 0 0 by rw [List.take_of_length_le (Nat.le_refl _)];rfl);have HOL:=Qq (Bq (lg:=lg) (set:=set) (ag:=ag) (Zx hb).2.1 (fun k n hn h9=>by have:=Uq hb hn (by rw [h9];rfl);omega));clear hread hb;have b3:(lg==3)=false:=by rw [beq_eq_false_iff_ne];omega
 have b4:(lg==4)=false:=by clear b3;rw [beq_eq_false_iff_ne];omega
 have b5:(lg==5)=false:=by clear b3 b4;rw [beq_eq_false_iff_ne];omega
 have b6:(lg==6)=false:=by clear b3 b4 b5;rw [beq_eq_false_iff_ne];omega
 have HT:=Qq (show Bk lg=false by unfold Bk;rw [b3,b4,b5,b6];rfl);have HU:=Qq (show Nj lg=false by unfold Nj;rw [b5,b6];rfl);clear hlg;go_enter Tryz.func89,Tryz.ntmps89;go_wp2_with fail;go_loopw [11,36] (fun vo v wr=>∃k out:Nat,v=.int .i64 (k:Int)/\vo=.int .u64 (out:Int)/\k<=base.length/\Hid (out=Zm lg set ag (base.take k) 0 0)/\Hid (Ext w wr)) (fun _ v _=>base.length - (intOf v).toNat)
 case atStart=>exact⟨0,0,rfl,rfl,Nat.zero_le _,Qq rfl,Qq Qz⟩
 case round =>
  obtain⟨k,out,rfl,rfl,hk,HO,HX⟩:=hrel;have hout:out < 18446744073709551616:=by rw [HO.out];exact HOL.out k hk
  by_cases hlt2:k < base.length
  ·obtain⟨n,hn⟩:∃n,base[k]?=some n:=⟨_,Qv hlt2⟩;obtain⟨ad,rfl,hblk,hcells⟩:=HR.out (by intro e;rw [e]at hlt2;simp at hlt2);obtain⟨q0,q1,q2,q3,q4,q5⟩:=hcells k n hn;have hkk:∀p:Addr,p.block=ad.block->wr.cell? p=w.cell? p:=fun p hp=>HX.out.cell (by rw [hp];exact hblk)
   have q0:=(hkk _ (by rw [Qn])).trans q0;have q1:=(hkk _ (by show(ad.add _).block=_;rw [Qn])).trans q1;have q2:=(hkk _ (by show(ad.add _).block=_;rw [Qn])).trans q2;have q3:=(hkk _ (by show(ad.add _).block=_;rw [Qn])).trans q3;have q4:=(hkk _ (by show(ad.add _).block=_;rw [Qn])).trans q4;have q5:=(hkk _ (by show(ad.add _).block=_;rw [Qn])).trans q5;have hk0:(0:Int)<=(k:Int):=by omega
   have hk1:(k:Int) < (base.length:Int):=by omega
   have X2:=Qq (HX.out.alloc (.cells #[.int .i64 n.op,.int .i64 n.i,.int .i64 n.e,.int .i64 n.g,.int .i64 n.x,.int .i64 n.y] 64));obtain⟨⟨z0,z1,z2,z3,z4,z5⟩,_,zlt⟩:=Zg (heap_alloc_new wr (.cells #[.int .i64 n.op,.int .i64 n.i,.int .i64 n.e,.int .i64 n.g,.int .i64 n.x,.int .i64 n.y] 64));have HSTEP:=Qq (Dm lg set ag hn);have HXB:=Qq (fun h9:n.op=9=>Uq HB.out hn (by rw [h9];rfl));clear hkk hcells hn;cases hin:inS set (k:Int)
   ·have HO2:=Qq (show out=Zm lg set ag (base.take (k+1)) 0 0 by rw [HSTEP.out,<-HO.out];unfold Ym;rw [hin];rfl);go_wp2_with(go_at_call 31;refine(Ji set hset (k:Int) _).mono ?_;rintro e w3 ⟨rfl,hx⟩;rw [hin];have hx3:=Qq (X2.out.trans (by first|exact hx|exact Ext.trans xw hx)));go_roundw
    case rel=>exact⟨k+1,out,by go_num,rfl,by omega,HO2,hx3⟩
    case measure=>simp [intOf];omega
   cases hag:n.i !=ag
   ·cases h9:n.op==9
    ·cases h10:n.op==10
     ·have HO2:=Qq (show out=Zm lg set ag (base.take (k+1)) 0 0 by rw [HSTEP.out,<-HO.out];unfold Ym;rw [hin,hag,h9,h10];rfl);go_wp2_with(go_at_call 31;refine(Ji set hset (k:Int) _).mono ?_;rintro e w3 ⟨rfl,hx⟩;rw [hin];have hx3:=Qq (X2.out.trans (by first|exact hx|exact Ext.trans xw hx));have y0:=(hx.cell (p:=⟨wr.heap.size,0,none⟩) (by exact zlt)).trans z0;have y1:=(hx.cell (p:=⟨wr.heap.size,1,none⟩) (by exact zlt)).trans z1;have y2:=(hx.cell (p:=⟨wr.heap.size,2,none⟩) (by exact zlt)).trans z2;have y3:=(hx.cell (p:=⟨wr.heap.size,3,none⟩) (by exact zlt)).trans z3;have y4:=(hx.cell (p:=⟨wr.heap.size,4,none⟩) (by exact zlt)).trans z4;have y5:=(hx.cell (p:=⟨wr.heap.size,5,none⟩) (by exact zlt)).trans z5;clear hx z0 z1 z2 z3 z4 z5)
      go_roundw
      case rel=>exact⟨k+1,out,by go_num,rfl,by omega,HO2,hx3⟩
      case measure=>simp [intOf];omega
     have HO2:=Qq (show out=Zm lg set ag (base.take (k+1)) 0 0 by rw [HSTEP.out,<-HO.out];unfold Ym;rw [hin,hag,h9,h10,HU.out];rfl);go_wp2_with(go_at_call 31;refine(Ji set hset (k:Int) _).mono ?_;rintro e w3 ⟨rfl,hx⟩;rw [hin];have hx3:=Qq (X2.out.trans (by first|exact hx|exact Ext.trans xw hx));have y0:=(hx.cell (p:=⟨wr.heap.size,0,none⟩) (by exact zlt)).trans z0;have y1:=(hx.cell (p:=⟨wr.heap.size,1,none⟩) (by exact zlt)).trans z1;have y2:=(hx.cell (p:=⟨wr.heap.size,2,none⟩) (by exact zlt)).trans z2;have y3:=(hx.cell (p:=⟨wr.heap.size,3,none⟩) (by exact zlt)).trans z3;have y4:=(hx.cell (p:=⟨wr.heap.size,4,none⟩) (by exact zlt)).trans z4;have y5:=(hx.cell (p:=⟨wr.heap.size,5,none⟩) (by exact zlt)).trans z5;clear hx z0 z1 z2 z3 z4 z5)
     go_roundw
     case rel=>exact⟨k+1,out,by go_num,rfl,by omega,HO2,hx3⟩
     case measure=>simp [intOf];omega
    obtain⟨hx0,hx1⟩:=HXB.out (by simpa using h9);obtain⟨xn,hxn⟩:=Int.eq_ofNat_of_zero_le hx0;have z4:=z4.trans (show some (Value.int .i64 n.x)=some (Value.int .i64 (xn:Int)) by rw [hxn]);rw [hxn]at hx0 hx1;have HXN:=Qq (show n.x.toNat=xn by rw [hxn,Int.toNat_natCast]);clear hxn;have hx6:xn < 64:=by omega
    have HX6:=Qq (Zf hx6);have BX:=Kz hx6;have MX:min xn 64=xn:=by omega
    have BO:=bits_or_u64_nat out (2^xn) hout HX6.out;have HO2:=Qq (show(out|||2^xn)=Zm lg set ag (base.take (k+1)) 0 0 by rw [HSTEP.out,<-HO.out];unfold Ym;rw [hin,hag,h9,HT.out,HXN.out];rfl);go_wp2_with(go_at_call 31;refine(Ji set hset (k:Int) _).mono ?_;rintro e w3 ⟨rfl,hx⟩;rw [hin];have hx3:=Qq (X2.out.trans (by first|exact hx|exact Ext.trans xw hx));have y0:=(hx.cell (p:=⟨wr.heap.size,0,none⟩) (by exact zlt)).trans z0;have y1:=(hx.cell (p:=⟨wr.heap.size,1,none⟩) (by exact zlt)).trans z1;have y2:=(hx.cell (p:=⟨wr.heap.size,2,none⟩) (by exact zlt)).trans z2;have y3:=(hx.cell (p:=⟨wr.heap.size,3,none⟩) (by exact zlt)).trans z3;have y4:=(hx.cell (p:=⟨wr.heap.size,4,none⟩) (by exact zlt)).trans z4;have y5:=(hx.cell (p:=⟨wr.heap.size,5,none⟩) (by exact zlt)).trans z5;clear hx z0 z1 z2 z3 z4 z5)
    go_roundw
    case rel=>exact⟨k+1,(out|||2^xn),by go_num,by rw [Ft hout hx6],by omega,HO2,hx3⟩
    case measure=>simp [intOf];omega
   have HO2:=Qq (show out=Zm lg set ag (base.take (k+1)) 0 0 by rw [HSTEP.out,<-HO.out];unfold Ym;rw [hin,hag];rfl);go_wp2_with(go_at_call 31;refine(Ji set hset (k:Int) _).mono ?_;rintro e w3 ⟨rfl,hx⟩;rw [hin];have hx3:=Qq (X2.out.trans (by first|exact hx|exact Ext.trans xw hx));have y0:=(hx.cell (p:=⟨wr.heap.size,0,none⟩) (by exact zlt)).trans z0;have y1:=(hx.cell (p:=⟨wr.heap.size,1,none⟩) (by exact zlt)).trans z1;have y2:=(hx.cell (p:=⟨wr.heap.size,2,none⟩) (by exact zlt)).trans z2;have y3:=(hx.cell (p:=⟨wr.heap.size,3,none⟩) (by exact zlt)).trans z3;have y4:=(hx.cell (p:=⟨wr.heap.size,4,none⟩) (by exact zlt)).trans z4;have y5:=(hx.cell (p:=⟨wr.heap.size,5,none⟩) (by exact zlt)).trans z5;clear hx z0 z1 z2 z3 z4 z5)
   go_roundw
   case rel=>exact⟨k+1,out,by go_num,rfl,by omega,HO2,hx3⟩
   case measure=>simp [intOf];omega
  obtain rfl:base.length=k:=by omega
  have HE:=Qq (show Yn lg base set ag=out by rw [HN.out,HO.out]);go_wp2_with fail;go_ret;exact⟨by rw [HE.out] <;> rfl,HX.out⟩
theorem Qcl(v:Value)(base:List Nd)(set:Nat)(ag:Int)(w:World)(h:Nds w v base)(hb:Zt base=0)(hset:set < 18446744073709551616):
 Calls Tryz.prog 89 #[.int .i64 3,v,.int .u64 (set:Int),.int .i64 ag] w fun e w'=>e=.returned (.int .u64 (Yn 3 base set ag:Nat))/\Ext w w':=by
 obtain⟨A,c,rfl,hcap,hmax,hread⟩:=h;unfold maxLen at hmax;have HR:=Qq hread;have HB:=Qq hb;have hlen:=(Zx hb).2.1;have HN:=Qq (show Yn 3 base set ag=Zm 3 set ag (base.take base.length) 0 0 by rw [List.take_of_length_le (Nat.le_refl _)];rfl);have HOL:=Qq (Bq (lg:=(3:Int)) (set:=set) (ag:=ag) (Zx hb).2.1 (fun k n hn h9=>by have:=Uq hb hn (by rw [h9];rfl);omega));clear hread hb;have HT:=Qq (show Bk 3=true from rfl);have HU:=Qq (show Nj 3=false from rfl);go_enter Tryz.func89,Tryz.ntmps89;go_wp2_with fail;go_loopw [11,36] (fun vo v wr=>∃k out:Nat,v=.int .i64 (k:Int)/\vo=.int .u64 (out:Int)/\k<=base.length/\Hid (out=Zm 3 set ag (base.take k) 0 0)/\Hid (Ext w wr)) (fun _ v _=>base.length - (intOf v).toNat)
 case atStart=>exact⟨0,0,rfl,rfl,Nat.zero_le _,Qq rfl,Qq Qz⟩
 case round =>
  obtain⟨k,out,rfl,rfl,hk,HO,HX⟩:=hrel;have hout:out < 18446744073709551616:=by rw [HO.out];exact HOL.out k hk
  by_cases hlt2:k < base.length
  ·obtain⟨n,hn⟩:∃n,base[k]?=some n:=⟨_,Qv hlt2⟩;obtain⟨ad,rfl,hblk,hcells⟩:=HR.out (by intro e;rw [e]at hlt2;simp at hlt2);obtain⟨q0,q1,q2,q3,q4,q5⟩:=hcells k n hn;have hkk:∀p:Addr,p.block=ad.block->wr.cell? p=w.cell? p:=fun p hp=>HX.out.cell (by rw [hp];exact hblk)
   have q0:=(hkk _ (by rw [Qn])).trans q0;have q1:=(hkk _ (by show(ad.add _).block=_;rw [Qn])).trans q1;have q2:=(hkk _ (by show(ad.add _).block=_;rw [Qn])).trans q2;have q3:=(hkk _ (by show(ad.add _).block=_;rw [Qn])).trans q3;have q4:=(hkk _ (by show(ad.add _).block=_;rw [Qn])).trans q4;have q5:=(hkk _ (by show(ad.add _).block=_;rw [Qn])).trans q5;have hk0:(0:Int)<=(k:Int):=by omega
   have hk1:(k:Int) < (base.length:Int):=by omega
   have X2:=Qq (HX.out.alloc (.cells #[.int .i64 n.op,.int .i64 n.i,.int .i64 n.e,.int .i64 n.g,.int .i64 n.x,.int .i64 n.y] 64));obtain⟨⟨z0,z1,z2,z3,z4,z5⟩,_,zlt⟩:=Zg (heap_alloc_new wr (.cells #[.int .i64 n.op,.int .i64 n.i,.int .i64 n.e,.int .i64 n.g,.int .i64 n.x,.int .i64 n.y] 64));have HSTEP:=Qq (Dm 3 set ag hn);have HXB:=Qq (fun h9:n.op=9=>Uq HB.out hn (by rw [h9];rfl));clear hkk hcells hn;cases hin:inS set (k:Int)
   ·have HO2:=Qq (show out=Zm 3 set ag (base.take (k+1)) 0 0 by rw [HSTEP.out,<-HO.out];unfold Ym;rw [hin];rfl);go_wp2_with(go_at_call 31;refine(Ji set hset (k:Int) _).mono ?_;rintro e w3 ⟨rfl,hx⟩;rw [hin];have hx3:=Qq (X2.out.trans (by first|exact hx|exact Ext.trans xw hx)));go_roundw
    case rel=>exact⟨k+1,out,by go_num,rfl,by omega,HO2,hx3⟩
    case measure=>simp [intOf];omega
   cases hag:n.i !=ag
   ·cases h9:n.op==9
    ·cases h10:n.op==10
     ·have HO2:=Qq (show out=Zm 3 set ag (base.take (k+1)) 0 0 by rw [HSTEP.out,<-HO.out];unfold Ym;rw [hin,hag,h9,h10];rfl);go_wp2_with(go_at_call 31;refine(Ji set hset (k:Int) _).mono ?_;rintro e w3 ⟨rfl,hx⟩;rw [hin];have hx3:=Qq (X2.out.trans (by first|exact hx|exact Ext.trans xw hx));have y0:=(hx.cell (p:=⟨wr.heap.size,0,none⟩) (by exact zlt)).trans z0;have y1:=(hx.cell (p:=⟨wr.heap.size,1,none⟩) (by exact zlt)).trans z1;have y2:=(hx.cell (p:=⟨wr.heap.size,2,none⟩) (by exact zlt)).trans z2;have y3:=(hx.cell (p:=⟨wr.heap.size,3,none⟩) (by exact zlt)).trans z3;have y4:=(hx.cell (p:=⟨wr.heap.size,4,none⟩) (by exact zlt)).trans z4;have y5:=(hx.cell (p:=⟨wr.heap.size,5,none⟩) (by exact zlt)).trans z5;clear hx z0 z1 z2 z3 z4 z5)
      go_roundw
      case rel=>exact⟨k+1,out,by go_num,rfl,by omega,HO2,hx3⟩
      case measure=>simp [intOf];omega
     have HO2:=Qq (show out=Zm 3 set ag (base.take (k+1)) 0 0 by rw [HSTEP.out,<-HO.out];unfold Ym;rw [hin,hag,h9,h10,HU.out];rfl);go_wp2_with(go_at_call 31;refine(Ji set hset (k:Int) _).mono ?_;rintro e w3 ⟨rfl,hx⟩;rw [hin];have hx3:=Qq (X2.out.trans (by first|exact hx|exact Ext.trans xw hx));have y0:=(hx.cell (p:=⟨wr.heap.size,0,none⟩) (by exact zlt)).trans z0;have y1:=(hx.cell (p:=⟨wr.heap.size,1,none⟩) (by exact zlt)).trans z1;have y2:=(hx.cell (p:=⟨wr.heap.size,2,none⟩) (by exact zlt)).trans z2;have y3:=(hx.cell (p:=⟨wr.heap.size,3,none⟩) (by exact zlt)).trans z3;have y4:=(hx.cell (p:=⟨wr.heap.size,4,none⟩) (by exact zlt)).trans z4;have y5:=(hx.cell (p:=⟨wr.heap.size,5,none⟩) (by exact zlt)).trans z5;clear hx z0 z1 z2 z3 z4 z5)
     go_roundw
     case rel=>exact⟨k+1,out,by go_num,rfl,by omega,HO2,hx3⟩
     case measure=>simp [intOf];omega
    have hk6:k < 64:=by omega
    have HI:=Qq (Zf hk6);have BI:=Kz hk6;have MI:min k 64=k:=by omega
    obtain⟨hx0,hx1⟩:=HXB.out (by simpa using h9);obtain⟨xn,hxn⟩:=Int.eq_ofNat_of_zero_le hx0;have z4:=z4.trans (show some (Value.int .i64 n.x)=some (Value.int .i64 (xn:Int)) by rw [hxn]);rw [hxn]at hx0 hx1;have HXN:=Qq (show n.x.toNat=xn by rw [hxn,Int.toNat_natCast]);clear hxn;have hx6:xn < 64:=by omega
    have HX6:=Qq (Zf hx6);have BX:=Kz hx6;have MX:min xn 64=xn:=by omega
    have BO1:=bits_or_u64_nat (2^xn) (2^k) HX6.out HI.out;have BO:=bits_or_u64_nat out (2^xn|||2^k) hout (Kj HX6.out HI.out);have HO2:=Qq (show(out|||(2^xn|||2^k))=Zm 3 set ag (base.take (k+1)) 0 0 by rw [HSTEP.out,<-HO.out];unfold Ym;rw [hin,hag,h9,HT.out,HXN.out];rfl);go_wp2_with(go_at_call 31;refine(Ji set hset (k:Int) _).mono ?_;rintro e w3 ⟨rfl,hx⟩;rw [hin];have hx3:=Qq (X2.out.trans (by first|exact hx|exact Ext.trans xw hx));have y0:=(hx.cell (p:=⟨wr.heap.size,0,none⟩) (by exact zlt)).trans z0;have y1:=(hx.cell (p:=⟨wr.heap.size,1,none⟩) (by exact zlt)).trans z1;have y2:=(hx.cell (p:=⟨wr.heap.size,2,none⟩) (by exact zlt)).trans z2;have y3:=(hx.cell (p:=⟨wr.heap.size,3,none⟩) (by exact zlt)).trans z3;have y4:=(hx.cell (p:=⟨wr.heap.size,4,none⟩) (by exact zlt)).trans z4;have y5:=(hx.cell (p:=⟨wr.heap.size,5,none⟩) (by exact zlt)).trans z5;clear hx z0 z1 z2 z3 z4 z5)
    go_quiet (fail);go_wp2_with fail;go_roundw
    case rel=>exact⟨k+1,(out|||(2^xn|||2^k)),by go_num,by rw [Wp hx6 hk6,BO],by omega,HO2,Qq (hx3.out.drewN _)⟩
    case measure=>simp [intOf];omega
   have HO2:=Qq (show out=Zm 3 set ag (base.take (k+1)) 0 0 by rw [HSTEP.out,<-HO.out];unfold Ym;rw [hin,hag];rfl);go_wp2_with(go_at_call 31;refine(Ji set hset (k:Int) _).mono ?_;rintro e w3 ⟨rfl,hx⟩;rw [hin];have hx3:=Qq (X2.out.trans (by first|exact hx|exact Ext.trans xw hx));have y0:=(hx.cell (p:=⟨wr.heap.size,0,none⟩) (by exact zlt)).trans z0;have y1:=(hx.cell (p:=⟨wr.heap.size,1,none⟩) (by exact zlt)).trans z1;have y2:=(hx.cell (p:=⟨wr.heap.size,2,none⟩) (by exact zlt)).trans z2;have y3:=(hx.cell (p:=⟨wr.heap.size,3,none⟩) (by exact zlt)).trans z3;have y4:=(hx.cell (p:=⟨wr.heap.size,4,none⟩) (by exact zlt)).trans z4;have y5:=(hx.cell (p:=⟨wr.heap.size,5,none⟩) (by exact zlt)).trans z5;clear hx z0 z1 z2 z3 z4 z5)
   go_roundw
   case rel=>exact⟨k+1,out,by go_num,rfl,by omega,HO2,hx3⟩
   case measure=>simp [intOf];omega
  obtain rfl:base.length=k:=by omega
  have HE:=Qq (show Yn 3 base set ag=out by rw [HN.out,HO.out]);go_wp2_with fail;go_ret;exact⟨by rw [HE.out] <;> rfl,HX.out⟩
theorem Qp6(v:Value)(base:List Nd)(set:Nat)(ag:Int)(w:World)(h:Nds w v base)(hb:Zt base=0)(hset:set < 18446744073709551616):
 Calls Tryz.prog 89 #[.int .i64 4,v,.int .u64 (set:Int),.int .i64 ag] w fun e w'=>e=.returned (.int .u64 (Yn 4 base set ag:Nat))/\Ext w w':=by
 obtain⟨A,c,rfl,hcap,hmax,hread⟩:=h;unfold maxLen at hmax;have HR:=Qq hread;have HB:=Qq hb;have hlen:=(Zx hb).2.1;have HN:=Qq (show Yn 4 base set ag=Zm 4 set ag (base.take base.length) 0 0 by rw [List.take_of_length_le (Nat.le_refl _)];rfl);have HOL:=Qq (Bq (lg:=(4:Int)) (set:=set) (ag:=ag) (Zx hb).2.1 (fun k n hn h9=>by have:=Uq hb hn (by rw [h9];rfl);omega));clear hread hb;have HT:=Qq (show Bk 4=true from rfl);have HU:=Qq (show Nj 4=false from rfl);go_enter Tryz.func89,Tryz.ntmps89;go_wp2_with fail;go_loopw [11,36] (fun vo v wr=>∃k out:Nat,v=.int .i64 (k:Int)/\vo=.int .u64 (out:Int)/\k<=base.length/\Hid (out=Zm 4 set ag (base.take k) 0 0)/\Hid (Ext w wr)) (fun _ v _=>base.length - (intOf v).toNat)
 case atStart=>exact⟨0,0,rfl,rfl,Nat.zero_le _,Qq rfl,Qq Qz⟩
 case round =>
  obtain⟨k,out,rfl,rfl,hk,HO,HX⟩:=hrel;have hout:out < 18446744073709551616:=by rw [HO.out];exact HOL.out k hk
  by_cases hlt2:k < base.length
  ·obtain⟨n,hn⟩:∃n,base[k]?=some n:=⟨_,Qv hlt2⟩;obtain⟨ad,rfl,hblk,hcells⟩:=HR.out (by intro e;rw [e]at hlt2;simp at hlt2);obtain⟨q0,q1,q2,q3,q4,q5⟩:=hcells k n hn;have hkk:∀p:Addr,p.block=ad.block->wr.cell? p=w.cell? p:=fun p hp=>HX.out.cell (by rw [hp];exact hblk)
   have q0:=(hkk _ (by rw [Qn])).trans q0;have q1:=(hkk _ (by show(ad.add _).block=_;rw [Qn])).trans q1;have q2:=(hkk _ (by show(ad.add _).block=_;rw [Qn])).trans q2;have q3:=(hkk _ (by show(ad.add _).block=_;rw [Qn])).trans q3;have q4:=(hkk _ (by show(ad.add _).block=_;rw [Qn])).trans q4;have q5:=(hkk _ (by show(ad.add _).block=_;rw [Qn])).trans q5;have hk0:(0:Int)<=(k:Int):=by omega
   have hk1:(k:Int) < (base.length:Int):=by omega
   have X2:=Qq (HX.out.alloc (.cells #[.int .i64 n.op,.int .i64 n.i,.int .i64 n.e,.int .i64 n.g,.int .i64 n.x,.int .i64 n.y] 64));obtain⟨⟨z0,z1,z2,z3,z4,z5⟩,_,zlt⟩:=Zg (heap_alloc_new wr (.cells #[.int .i64 n.op,.int .i64 n.i,.int .i64 n.e,.int .i64 n.g,.int .i64 n.x,.int .i64 n.y] 64));have HSTEP:=Qq (Dm 4 set ag hn);have HXB:=Qq (fun h9:n.op=9=>Uq HB.out hn (by rw [h9];rfl));clear hkk hcells hn;cases hin:inS set (k:Int)
   ·have HO2:=Qq (show out=Zm 4 set ag (base.take (k+1)) 0 0 by rw [HSTEP.out,<-HO.out];unfold Ym;rw [hin];rfl);go_wp2_with(go_at_call 31;refine(Ji set hset (k:Int) _).mono ?_;rintro e w3 ⟨rfl,hx⟩;rw [hin];have hx3:=Qq (X2.out.trans (by first|exact hx|exact Ext.trans xw hx)));go_roundw
    case rel=>exact⟨k+1,out,by go_num,rfl,by omega,HO2,hx3⟩
    case measure=>simp [intOf];omega
   cases hag:n.i !=ag
   ·cases h9:n.op==9
    ·cases h10:n.op==10
     ·have HO2:=Qq (show out=Zm 4 set ag (base.take (k+1)) 0 0 by rw [HSTEP.out,<-HO.out];unfold Ym;rw [hin,hag,h9,h10];rfl);go_wp2_with(go_at_call 31;refine(Ji set hset (k:Int) _).mono ?_;rintro e w3 ⟨rfl,hx⟩;rw [hin];have hx3:=Qq (X2.out.trans (by first|exact hx|exact Ext.trans xw hx));have y0:=(hx.cell (p:=⟨wr.heap.size,0,none⟩) (by exact zlt)).trans z0;have y1:=(hx.cell (p:=⟨wr.heap.size,1,none⟩) (by exact zlt)).trans z1;have y2:=(hx.cell (p:=⟨wr.heap.size,2,none⟩) (by exact zlt)).trans z2;have y3:=(hx.cell (p:=⟨wr.heap.size,3,none⟩) (by exact zlt)).trans z3;have y4:=(hx.cell (p:=⟨wr.heap.size,4,none⟩) (by exact zlt)).trans z4;have y5:=(hx.cell (p:=⟨wr.heap.size,5,none⟩) (by exact zlt)).trans z5;clear hx z0 z1 z2 z3 z4 z5)
      go_roundw
      case rel=>exact⟨k+1,out,by go_num,rfl,by omega,HO2,hx3⟩
      case measure=>simp [intOf];omega
     have HO2:=Qq (show out=Zm 4 set ag (base.take (k+1)) 0 0 by rw [HSTEP.out,<-HO.out];unfold Ym;rw [hin,hag,h9,h10,HU.out];rfl);go_wp2_with(go_at_call 31;refine(Ji set hset (k:Int) _).mono ?_;rintro e w3 ⟨rfl,hx⟩;rw [hin];have hx3:=Qq (X2.out.trans (by first|exact hx|exact Ext.trans xw hx));have y0:=(hx.cell (p:=⟨wr.heap.size,0,none⟩) (by exact zlt)).trans z0;have y1:=(hx.cell (p:=⟨wr.heap.size,1,none⟩) (by exact zlt)).trans z1;have y2:=(hx.cell (p:=⟨wr.heap.size,2,none⟩) (by exact zlt)).trans z2;have y3:=(hx.cell (p:=⟨wr.heap.size,3,none⟩) (by exact zlt)).trans z3;have y4:=(hx.cell (p:=⟨wr.heap.size,4,none⟩) (by exact zlt)).trans z4;have y5:=(hx.cell (p:=⟨wr.heap.size,5,none⟩) (by exact zlt)).trans z5;clear hx z0 z1 z2 z3 z4 z5)
     go_roundw
     case rel=>exact⟨k+1,out,by go_num,rfl,by omega,HO2,hx3⟩
     case measure=>simp [intOf];omega
    have hk6:k < 64:=by omega
    have HI:=Qq (Zf hk6);have BI:=Kz hk6;have MI:min k 64=k:=by omega
    obtain⟨hx0,hx1⟩:=HXB.out (by simpa using h9);obtain⟨xn,hxn⟩:=Int.eq_ofNat_of_zero_le hx0;have z4:=z4.trans (show some (Value.int .i64 n.x)=some (Value.int .i64 (xn:Int)) by rw [hxn]);rw [hxn]at hx0 hx1;have HXN:=Qq (show n.x.toNat=xn by rw [hxn,Int.toNat_natCast]);clear hxn;have hx6:xn < 64:=by omega
    have HX6:=Qq (Zf hx6);have BX:=Kz hx6;have MX:min xn 64=xn:=by omega
    have BO1:=bits_or_u64_nat (2^xn) (2^k) HX6.out HI.out;have BO:=bits_or_u64_nat out (2^xn|||2^k) hout (Kj HX6.out HI.out);have HO2:=Qq (show(out|||(2^xn|||2^k))=Zm 4 set ag (base.take (k+1)) 0 0 by rw [HSTEP.out,<-HO.out];unfold Ym;rw [hin,hag,h9,HT.out,HXN.out];rfl);go_wp2_with(go_at_call 31;refine(Ji set hset (k:Int) _).mono ?_;rintro e w3 ⟨rfl,hx⟩;rw [hin];have hx3:=Qq (X2.out.trans (by first|exact hx|exact Ext.trans xw hx));have y0:=(hx.cell (p:=⟨wr.heap.size,0,none⟩) (by exact zlt)).trans z0;have y1:=(hx.cell (p:=⟨wr.heap.size,1,none⟩) (by exact zlt)).trans z1;have y2:=(hx.cell (p:=⟨wr.heap.size,2,none⟩) (by exact zlt)).trans z2;have y3:=(hx.cell (p:=⟨wr.heap.size,3,none⟩) (by exact zlt)).trans z3;have y4:=(hx.cell (p:=⟨wr.heap.size,4,none⟩) (by exact zlt)).trans z4;have y5:=(hx.cell (p:=⟨wr.heap.size,5,none⟩) (by exact zlt)).trans z5;clear hx z0 z1 z2 z3 z4 z5)
    go_quiet (fail);go_wp2_with fail;go_roundw
    case rel=>exact⟨k+1,(out|||(2^xn|||2^k)),by go_num,by rw [Wp hx6 hk6,BO],by omega,HO2,Qq (hx3.out.drewN _)⟩
    case measure=>simp [intOf];omega
   have HO2:=Qq (show out=Zm 4 set ag (base.take (k+1)) 0 0 by rw [HSTEP.out,<-HO.out];unfold Ym;rw [hin,hag];rfl);go_wp2_with(go_at_call 31;refine(Ji set hset (k:Int) _).mono ?_;rintro e w3 ⟨rfl,hx⟩;rw [hin];have hx3:=Qq (X2.out.trans (by first|exact hx|exact Ext.trans xw hx));have y0:=(hx.cell (p:=⟨wr.heap.size,0,none⟩) (by exact zlt)).trans z0;have y1:=(hx.cell (p:=⟨wr.heap.size,1,none⟩) (by exact zlt)).trans z1;have y2:=(hx.cell (p:=⟨wr.heap.size,2,none⟩) (by exact zlt)).trans z2;have y3:=(hx.cell (p:=⟨wr.heap.size,3,none⟩) (by exact zlt)).trans z3;have y4:=(hx.cell (p:=⟨wr.heap.size,4,none⟩) (by exact zlt)).trans z4;have y5:=(hx.cell (p:=⟨wr.heap.size,5,none⟩) (by exact zlt)).trans z5;clear hx z0 z1 z2 z3 z4 z5)
   go_roundw
   case rel=>exact⟨k+1,out,by go_num,rfl,by omega,HO2,hx3⟩
   case measure=>simp [intOf];omega
  obtain rfl:base.length=k:=by omega
  have HE:=Qq (show Yn 4 base set ag=out by rw [HN.out,HO.out]);go_wp2_with fail;go_ret;exact⟨by rw [HE.out] <;> rfl,HX.out⟩
theorem Qcn(v:Value)(base:List Nd)(set:Nat)(ag:Int)(w:World)(h:Nds w v base)(hb:Zt base=0)(hset:set < 18446744073709551616):
 Calls Tryz.prog 89 #[.int .i64 5,v,.int .u64 (set:Int),.int .i64 ag] w fun e w'=>e=.returned (.int .u64 (Yn 5 base set ag:Nat))/\Ext w w':=by
 obtain⟨A,c,rfl,hcap,hmax,hread⟩:=h;unfold maxLen at hmax;have HR:=Qq hread;have HB:=Qq hb;have hlen:=(Zx hb).2.1;have HN:=Qq (show Yn 5 base set ag=Zm 5 set ag (base.take base.length) 0 0 by rw [List.take_of_length_le (Nat.le_refl _)];rfl);have HOL:=Qq (Bq (lg:=(5:Int)) (set:=set) (ag:=ag) (Zx hb).2.1 (fun k n hn h9=>by have:=Uq hb hn (by rw [h9];rfl);omega));clear hread hb;have HT:=Qq (show Bk 5=true from rfl);have HU:=Qq (show Nj 5=true from rfl);go_enter Tryz.func89,Tryz.ntmps89;go_wp2_with fail;go_loopw [11,36] (fun vo v wr=>∃k out:Nat,v=.int .i64 (k:Int)/\vo=.int .u64 (out:Int)/\k<=base.length/\Hid (out=Zm 5 set ag (base.take k) 0 0)/\Hid (Ext w wr)) (fun _ v _=>base.length - (intOf v).toNat)
 case atStart=>exact⟨0,0,rfl,rfl,Nat.zero_le _,Qq rfl,Qq Qz⟩
 case round =>
  obtain⟨k,out,rfl,rfl,hk,HO,HX⟩:=hrel;have hout:out < 18446744073709551616:=by rw [HO.out];exact HOL.out k hk
  by_cases hlt2:k < base.length
  ·obtain⟨n,hn⟩:∃n,base[k]?=some n:=⟨_,Qv hlt2⟩;obtain⟨ad,rfl,hblk,hcells⟩:=HR.out (by intro e;rw [e]at hlt2;simp at hlt2);obtain⟨q0,q1,q2,q3,q4,q5⟩:=hcells k n hn;have hkk:∀p:Addr,p.block=ad.block->wr.cell? p=w.cell? p:=fun p hp=>HX.out.cell (by rw [hp];exact hblk)
   have q0:=(hkk _ (by rw [Qn])).trans q0;have q1:=(hkk _ (by show(ad.add _).block=_;rw [Qn])).trans q1;have q2:=(hkk _ (by show(ad.add _).block=_;rw [Qn])).trans q2;have q3:=(hkk _ (by show(ad.add _).block=_;rw [Qn])).trans q3;have q4:=(hkk _ (by show(ad.add _).block=_;rw [Qn])).trans q4;have q5:=(hkk _ (by show(ad.add _).block=_;rw [Qn])).trans q5;have hk0:(0:Int)<=(k:Int):=by omega
   have hk1:(k:Int) < (base.length:Int):=by omega
   have X2:=Qq (HX.out.alloc (.cells #[.int .i64 n.op,.int .i64 n.i,.int .i64 n.e,.int .i64 n.g,.int .i64 n.x,.int .i64 n.y] 64));obtain⟨⟨z0,z1,z2,z3,z4,z5⟩,_,zlt⟩:=Zg (heap_alloc_new wr (.cells #[.int .i64 n.op,.int .i64 n.i,.int .i64 n.e,.int .i64 n.g,.int .i64 n.x,.int .i64 n.y] 64));have HSTEP:=Qq (Dm 5 set ag hn);have HXB:=Qq (fun h9:n.op=9=>Uq HB.out hn (by rw [h9];rfl));clear hkk hcells hn;cases hin:inS set (k:Int)
   ·have HO2:=Qq (show out=Zm 5 set ag (base.take (k+1)) 0 0 by rw [HSTEP.out,<-HO.out];unfold Ym;rw [hin];rfl);go_wp2_with(go_at_call 31;refine(Ji set hset (k:Int) _).mono ?_;rintro e w3 ⟨rfl,hx⟩;rw [hin];have hx3:=Qq (X2.out.trans (by first|exact hx|exact Ext.trans xw hx)));go_roundw
    case rel=>exact⟨k+1,out,by go_num,rfl,by omega,HO2,hx3⟩
    case measure=>simp [intOf];omega
   cases hag:n.i !=ag
   ·cases h9:n.op==9
    ·cases h10:n.op==10
     ·have HO2:=Qq (show out=Zm 5 set ag (base.take (k+1)) 0 0 by rw [HSTEP.out,<-HO.out];unfold Ym;rw [hin,hag,h9,h10];rfl);go_wp2_with(go_at_call 31;refine(Ji set hset (k:Int) _).mono ?_;rintro e w3 ⟨rfl,hx⟩;rw [hin];have hx3:=Qq (X2.out.trans (by first|exact hx|exact Ext.trans xw hx));have y0:=(hx.cell (p:=⟨wr.heap.size,0,none⟩) (by exact zlt)).trans z0;have y1:=(hx.cell (p:=⟨wr.heap.size,1,none⟩) (by exact zlt)).trans z1;have y2:=(hx.cell (p:=⟨wr.heap.size,2,none⟩) (by exact zlt)).trans z2;have y3:=(hx.cell (p:=⟨wr.heap.size,3,none⟩) (by exact zlt)).trans z3;have y4:=(hx.cell (p:=⟨wr.heap.size,4,none⟩) (by exact zlt)).trans z4;have y5:=(hx.cell (p:=⟨wr.heap.size,5,none⟩) (by exact zlt)).trans z5;clear hx z0 z1 z2 z3 z4 z5)
      go_roundw
      case rel=>exact⟨k+1,out,by go_num,rfl,by omega,HO2,hx3⟩
      case measure=>simp [intOf];omega
     have hk6:k < 64:=by omega
     have HI:=Qq (Zf hk6);have BI:=Kz hk6;have MI:min k 64=k:=by omega
     have BO:=bits_or_u64_nat out (2^k) hout HI.out;have HO2:=Qq (show(out|||2^k)=Zm 5 set ag (base.take (k+1)) 0 0 by rw [HSTEP.out,<-HO.out];unfold Ym;rw [hin,hag,h9,h10,HU.out];rfl);go_wp2_with(go_at_call 31;refine(Ji set hset (k:Int) _).mono ?_;rintro e w3 ⟨rfl,hx⟩;rw [hin];have hx3:=Qq (X2.out.trans (by first|exact hx|exact Ext.trans xw hx));have y0:=(hx.cell (p:=⟨wr.heap.size,0,none⟩) (by exact zlt)).trans z0;have y1:=(hx.cell (p:=⟨wr.heap.size,1,none⟩) (by exact zlt)).trans z1;have y2:=(hx.cell (p:=⟨wr.heap.size,2,none⟩) (by exact zlt)).trans z2;have y3:=(hx.cell (p:=⟨wr.heap.size,3,none⟩) (by exact zlt)).trans z3;have y4:=(hx.cell (p:=⟨wr.heap.size,4,none⟩) (by exact zlt)).trans z4;have y5:=(hx.cell (p:=⟨wr.heap.size,5,none⟩) (by exact zlt)).trans z5;clear hx z0 z1 z2 z3 z4 z5)
     go_roundw
     case rel=>exact⟨k+1,(out|||2^k),by go_num,by rw [Ft hout hk6],by omega,HO2,hx3⟩
     case measure=>simp [intOf];omega
    have hk6:k < 64:=by omega
    have HI:=Qq (Zf hk6);have BI:=Kz hk6;have MI:min k 64=k:=by omega
    obtain⟨hx0,hx1⟩:=HXB.out (by simpa using h9);obtain⟨xn,hxn⟩:=Int.eq_ofNat_of_zero_le hx0;have z4:=z4.trans (show some (Value.int .i64 n.x)=some (Value.int .i64 (xn:Int)) by rw [hxn]);rw [hxn]at hx0 hx1;have HXN:=Qq (show n.x.toNat=xn by rw [hxn,Int.toNat_natCast]);clear hxn;have hx6:xn < 64:=by omega
    have HX6:=Qq (Zf hx6);have BX:=Kz hx6;have MX:min xn 64=xn:=by omega
    have BO1:=bits_or_u64_nat (2^xn) (2^k) HX6.out HI.out;have BO:=bits_or_u64_nat out (2^xn|||2^k) hout (Kj HX6.out HI.out);have HO2:=Qq (show(out|||(2^xn|||2^k))=Zm 5 set ag (base.take (k+1)) 0 0 by rw [HSTEP.out,<-HO.out];unfold Ym;rw [hin,hag,h9,HT.out,HXN.out];rfl);go_wp2_with(go_at_call 31;refine(Ji set hset (k:Int) _).mono ?_;rintro e w3 ⟨rfl,hx⟩;rw [hin];have hx3:=Qq (X2.out.trans (by first|exact hx|exact Ext.trans xw hx));have y0:=(hx.cell (p:=⟨wr.heap.size,0,none⟩) (by exact zlt)).trans z0;have y1:=(hx.cell (p:=⟨wr.heap.size,1,none⟩) (by exact zlt)).trans z1;have y2:=(hx.cell (p:=⟨wr.heap.size,2,none⟩) (by exact zlt)).trans z2;have y3:=(hx.cell (p:=⟨wr.heap.size,3,none⟩) (by exact zlt)).trans z3;have y4:=(hx.cell (p:=⟨wr.heap.size,4,none⟩) (by exact zlt)).trans z4;have y5:=(hx.cell (p:=⟨wr.heap.size,5,none⟩) (by exact zlt)).trans z5;clear hx z0 z1 z2 z3 z4 z5)
    go_quiet (fail);go_wp2_with fail;go_roundw
    case rel=>exact⟨k+1,(out|||(2^xn|||2^k)),by go_num,by rw [Wp hx6 hk6,BO],by omega,HO2,Qq (hx3.out.drewN _)⟩
    case measure=>simp [intOf];omega
   have HO2:=Qq (show out=Zm 5 set ag (base.take (k+1)) 0 0 by rw [HSTEP.out,<-HO.out];unfold Ym;rw [hin,hag];rfl);go_wp2_with(go_at_call 31;refine(Ji set hset (k:Int) _).mono ?_;rintro e w3 ⟨rfl,hx⟩;rw [hin];have hx3:=Qq (X2.out.trans (by first|exact hx|exact Ext.trans xw hx));have y0:=(hx.cell (p:=⟨wr.heap.size,0,none⟩) (by exact zlt)).trans z0;have y1:=(hx.cell (p:=⟨wr.heap.size,1,none⟩) (by exact zlt)).trans z1;have y2:=(hx.cell (p:=⟨wr.heap.size,2,none⟩) (by exact zlt)).trans z2;have y3:=(hx.cell (p:=⟨wr.heap.size,3,none⟩) (by exact zlt)).trans z3;have y4:=(hx.cell (p:=⟨wr.heap.size,4,none⟩) (by exact zlt)).trans z4;have y5:=(hx.cell (p:=⟨wr.heap.size,5,none⟩) (by exact zlt)).trans z5;clear hx z0 z1 z2 z3 z4 z5)
   go_roundw
   case rel=>exact⟨k+1,out,by go_num,rfl,by omega,HO2,hx3⟩
   case measure=>simp [intOf];omega
  obtain rfl:base.length=k:=by omega
  have HE:=Qq (show Yn 5 base set ag=out by rw [HN.out,HO.out]);go_wp2_with fail;go_ret;exact⟨by rw [HE.out] <;> rfl,HX.out⟩
theorem Qp3(v:Value)(base:List Nd)(set:Nat)(ag:Int)(w:World)(h:Nds w v base)(hb:Zt base=0)(hset:set < 18446744073709551616):
 Calls Tryz.prog 89 #[.int .i64 6,v,.int .u64 (set:Int),.int .i64 ag] w fun e w'=>e=.returned (.int .u64 (Yn 6 base set ag:Nat))/\Ext w w':=by
 obtain⟨A,c,rfl,hcap,hmax,hread⟩:=h;unfold maxLen at hmax;have HR:=Qq hread;have HB:=Qq hb;have hlen:=(Zx hb).2.1;have HN:=Qq (show Yn 6 base set ag=Zm 6 set ag (base.take base.length) 0 0 by rw [List.take_of_length_le (Nat.le_refl _)];rfl);have HOL:=Qq (Bq (lg:=(6:Int)) (set:=set) (ag:=ag) (Zx hb).2.1 (fun k n hn h9=>by have:=Uq hb hn (by rw [h9];rfl);omega));clear hread hb;have HT:=Qq (show Bk 6=true from rfl);have HU:=Qq (show Nj 6=true from rfl);go_enter Tryz.func89,Tryz.ntmps89;go_wp2_with fail;go_loopw [11,36] (fun vo v wr=>∃k out:Nat,v=.int .i64 (k:Int)/\vo=.int .u64 (out:Int)/\k<=base.length/\Hid (out=Zm 6 set ag (base.take k) 0 0)/\Hid (Ext w wr)) (fun _ v _=>base.length - (intOf v).toNat)
 case atStart=>exact⟨0,0,rfl,rfl,Nat.zero_le _,Qq rfl,Qq Qz⟩
 case round =>
  obtain⟨k,out,rfl,rfl,hk,HO,HX⟩:=hrel;have hout:out < 18446744073709551616:=by rw [HO.out];exact HOL.out k hk
  by_cases hlt2:k < base.length
  ·obtain⟨n,hn⟩:∃n,base[k]?=some n:=⟨_,Qv hlt2⟩;obtain⟨ad,rfl,hblk,hcells⟩:=HR.out (by intro e;rw [e]at hlt2;simp at hlt2);obtain⟨q0,q1,q2,q3,q4,q5⟩:=hcells k n hn;have hkk:∀p:Addr,p.block=ad.block->wr.cell? p=w.cell? p:=fun p hp=>HX.out.cell (by rw [hp];exact hblk)
   have q0:=(hkk _ (by rw [Qn])).trans q0;have q1:=(hkk _ (by show(ad.add _).block=_;rw [Qn])).trans q1;have q2:=(hkk _ (by show(ad.add _).block=_;rw [Qn])).trans q2;have q3:=(hkk _ (by show(ad.add _).block=_;rw [Qn])).trans q3;have q4:=(hkk _ (by show(ad.add _).block=_;rw [Qn])).trans q4;have q5:=(hkk _ (by show(ad.add _).block=_;rw [Qn])).trans q5;have hk0:(0:Int)<=(k:Int):=by omega
   have hk1:(k:Int) < (base.length:Int):=by omega
   have X2:=Qq (HX.out.alloc (.cells #[.int .i64 n.op,.int .i64 n.i,.int .i64 n.e,.int .i64 n.g,.int .i64 n.x,.int .i64 n.y] 64));obtain⟨⟨z0,z1,z2,z3,z4,z5⟩,_,zlt⟩:=Zg (heap_alloc_new wr (.cells #[.int .i64 n.op,.int .i64 n.i,.int .i64 n.e,.int .i64 n.g,.int .i64 n.x,.int .i64 n.y] 64));have HSTEP:=Qq (Dm 6 set ag hn);have HXB:=Qq (fun h9:n.op=9=>Uq HB.out hn (by rw [h9];rfl));clear hkk hcells hn;cases hin:inS set (k:Int)
   ·have HO2:=Qq (show out=Zm 6 set ag (base.take (k+1)) 0 0 by rw [HSTEP.out,<-HO.out];unfold Ym;rw [hin];rfl);go_wp2_with(go_at_call 31;refine(Ji set hset (k:Int) _).mono ?_;rintro e w3 ⟨rfl,hx⟩;rw [hin];have hx3:=Qq (X2.out.trans (by first|exact hx|exact Ext.trans xw hx)));go_roundw
    case rel=>exact⟨k+1,out,by go_num,rfl,by omega,HO2,hx3⟩
    case measure=>simp [intOf];omega
   cases hag:n.i !=ag
   ·cases h9:n.op==9
    ·cases h10:n.op==10
     ·have HO2:=Qq (show out=Zm 6 set ag (base.take (k+1)) 0 0 by rw [HSTEP.out,<-HO.out];unfold Ym;rw [hin,hag,h9,h10];rfl);go_wp2_with(go_at_call 31;refine(Ji set hset (k:Int) _).mono ?_;rintro e w3 ⟨rfl,hx⟩;rw [hin];have hx3:=Qq (X2.out.trans (by first|exact hx|exact Ext.trans xw hx));have y0:=(hx.cell (p:=⟨wr.heap.size,0,none⟩) (by exact zlt)).trans z0;have y1:=(hx.cell (p:=⟨wr.heap.size,1,none⟩) (by exact zlt)).trans z1;have y2:=(hx.cell (p:=⟨wr.heap.size,2,none⟩) (by exact zlt)).trans z2;have y3:=(hx.cell (p:=⟨wr.heap.size,3,none⟩) (by exact zlt)).trans z3;have y4:=(hx.cell (p:=⟨wr.heap.size,4,none⟩) (by exact zlt)).trans z4;have y5:=(hx.cell (p:=⟨wr.heap.size,5,none⟩) (by exact zlt)).trans z5;clear hx z0 z1 z2 z3 z4 z5)
      go_roundw
      case rel=>exact⟨k+1,out,by go_num,rfl,by omega,HO2,hx3⟩
      case measure=>simp [intOf];omega
     have hk6:k < 64:=by omega
     have HI:=Qq (Zf hk6);have BI:=Kz hk6;have MI:min k 64=k:=by omega
     have BO:=bits_or_u64_nat out (2^k) hout HI.out;have HO2:=Qq (show(out|||2^k)=Zm 6 set ag (base.take (k+1)) 0 0 by rw [HSTEP.out,<-HO.out];unfold Ym;rw [hin,hag,h9,h10,HU.out];rfl);go_wp2_with(go_at_call 31;refine(Ji set hset (k:Int) _).mono ?_;rintro e w3 ⟨rfl,hx⟩;rw [hin];have hx3:=Qq (X2.out.trans (by first|exact hx|exact Ext.trans xw hx));have y0:=(hx.cell (p:=⟨wr.heap.size,0,none⟩) (by exact zlt)).trans z0;have y1:=(hx.cell (p:=⟨wr.heap.size,1,none⟩) (by exact zlt)).trans z1;have y2:=(hx.cell (p:=⟨wr.heap.size,2,none⟩) (by exact zlt)).trans z2;have y3:=(hx.cell (p:=⟨wr.heap.size,3,none⟩) (by exact zlt)).trans z3;have y4:=(hx.cell (p:=⟨wr.heap.size,4,none⟩) (by exact zlt)).trans z4;have y5:=(hx.cell (p:=⟨wr.heap.size,5,none⟩) (by exact zlt)).trans z5;clear hx z0 z1 z2 z3 z4 z5)
     go_roundw
     case rel=>exact⟨k+1,(out|||2^k),by go_num,by rw [Ft hout hk6],by omega,HO2,hx3⟩
     case measure=>simp [intOf];omega
    have hk6:k < 64:=by omega
    have HI:=Qq (Zf hk6);have BI:=Kz hk6;have MI:min k 64=k:=by omega
    obtain⟨hx0,hx1⟩:=HXB.out (by simpa using h9);obtain⟨xn,hxn⟩:=Int.eq_ofNat_of_zero_le hx0;have z4:=z4.trans (show some (Value.int .i64 n.x)=some (Value.int .i64 (xn:Int)) by rw [hxn]);rw [hxn]at hx0 hx1;have HXN:=Qq (show n.x.toNat=xn by rw [hxn,Int.toNat_natCast]);clear hxn;have hx6:xn < 64:=by omega
    have HX6:=Qq (Zf hx6);have BX:=Kz hx6;have MX:min xn 64=xn:=by omega
    have BO1:=bits_or_u64_nat (2^xn) (2^k) HX6.out HI.out;have BO:=bits_or_u64_nat out (2^xn|||2^k) hout (Kj HX6.out HI.out);have HO2:=Qq (show(out|||(2^xn|||2^k))=Zm 6 set ag (base.take (k+1)) 0 0 by rw [HSTEP.out,<-HO.out];unfold Ym;rw [hin,hag,h9,HT.out,HXN.out];rfl);go_wp2_with(go_at_call 31;refine(Ji set hset (k:Int) _).mono ?_;rintro e w3 ⟨rfl,hx⟩;rw [hin];have hx3:=Qq (X2.out.trans (by first|exact hx|exact Ext.trans xw hx));have y0:=(hx.cell (p:=⟨wr.heap.size,0,none⟩) (by exact zlt)).trans z0;have y1:=(hx.cell (p:=⟨wr.heap.size,1,none⟩) (by exact zlt)).trans z1;have y2:=(hx.cell (p:=⟨wr.heap.size,2,none⟩) (by exact zlt)).trans z2;have y3:=(hx.cell (p:=⟨wr.heap.size,3,none⟩) (by exact zlt)).trans z3;have y4:=(hx.cell (p:=⟨wr.heap.size,4,none⟩) (by exact zlt)).trans z4;have y5:=(hx.cell (p:=⟨wr.heap.size,5,none⟩) (by exact zlt)).trans z5;clear hx z0 z1 z2 z3 z4 z5)
    go_quiet (fail);go_wp2_with fail;go_roundw
    case rel=>exact⟨k+1,(out|||(2^xn|||2^k)),by go_num,by rw [Wp hx6 hk6,BO],by omega,HO2,Qq (hx3.out.drewN _)⟩
    case measure=>simp [intOf];omega
   have HO2:=Qq (show out=Zm 6 set ag (base.take (k+1)) 0 0 by rw [HSTEP.out,<-HO.out];unfold Ym;rw [hin,hag];rfl);go_wp2_with(go_at_call 31;refine(Ji set hset (k:Int) _).mono ?_;rintro e w3 ⟨rfl,hx⟩;rw [hin];have hx3:=Qq (X2.out.trans (by first|exact hx|exact Ext.trans xw hx));have y0:=(hx.cell (p:=⟨wr.heap.size,0,none⟩) (by exact zlt)).trans z0;have y1:=(hx.cell (p:=⟨wr.heap.size,1,none⟩) (by exact zlt)).trans z1;have y2:=(hx.cell (p:=⟨wr.heap.size,2,none⟩) (by exact zlt)).trans z2;have y3:=(hx.cell (p:=⟨wr.heap.size,3,none⟩) (by exact zlt)).trans z3;have y4:=(hx.cell (p:=⟨wr.heap.size,4,none⟩) (by exact zlt)).trans z4;have y5:=(hx.cell (p:=⟨wr.heap.size,5,none⟩) (by exact zlt)).trans z5;clear hx z0 z1 z2 z3 z4 z5)
   go_roundw
   case rel=>exact⟨k+1,out,by go_num,rfl,by omega,HO2,hx3⟩
   case measure=>simp [intOf];omega
  obtain rfl:base.length=k:=by omega
  have HE:=Qq (show Yn 6 base set ag=out by rw [HN.out,HO.out]);go_wp2_with fail;go_ret;exact⟨by rw [HE.out] <;> rfl,HX.out⟩
theorem Ei(lg:Int)(v:Value)(base:List Nd)(set:Nat)(ag:Int)(w:World)(h:Nds w v base)(hb:Zt base=0)(hset:set < 18446744073709551616):
 Calls Tryz.prog 89 #[.int .i64 lg,v,.int .u64 (set:Int),.int .i64 ag] w fun e w'=>e=.returned (.int .u64 (Yn lg base set ag:Nat))/\Ext w w':=by
 by_cases hlg:lg=3\/lg=4\/lg=5\/lg=6
 ·rcases hlg with rfl|rfl|rfl|rfl
  ·exact Qcl v base set ag w h hb hset
  ·exact Qp6 v base set ag w h hb hset
  ·exact Qcn v base set ag w h hb hset
  exact Qp3 v base set ag w h hb hset
 exact Qpd lg hlg v base set ag w h hb hset
end Go.Proofs.YtmidgcldljfkcaaGreatDoor
