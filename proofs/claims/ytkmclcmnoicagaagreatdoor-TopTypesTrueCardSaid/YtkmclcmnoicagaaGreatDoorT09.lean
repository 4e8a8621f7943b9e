/- Bits of words, as a walk shows them. -/
import Derived.Test.YtkmclcmnoicagaaGreatDoorT08
import Derived.Laws.Bits64b
namespace Go.Proofs.YtkmclcmnoicagaaGreatDoor
set_option maxRecDepth 100000
set_option maxHeartbeats 128000000
open Go.RowKit
theorem Ng(s k:Nat):s.testBit k=(s / 2^k % 2==1):=by
 rw [Nat.testBit_eq_decide_div_mod_eq];rfl
theorem Si(s k:Nat):(s:Int) / 2^k=((s / 2^k:Nat):Int):=by
 rw [show((2:Int)^k)=((2^k:Nat):Int) by simp];rfl
theorem Bt(s k:Nat)(hs:s < 18446744073709551616):(bits .and .u64 ((s:Int) / 2^k) 1==1)=s.testBit k:=by
 have hlt:s / 2^k < 18446744073709551616:=Nat.lt_of_le_of_lt (Nat.div_le_self _ _) hs;rw [Si,show(1:Int)=((1:Nat):Int)from rfl,bits_and_u64_nat _ 1 hlt (by decide),Nat.and_one_is_mod,Ng];generalize s / 2^k % 2=r;rw [Bool.eq_iff_iff,beq_iff_eq,beq_iff_eq];omega
theorem Cz(a b:Nat)(ha:a < 9223372036854775808)(hb:b < 9223372036854775808):bits .and .i64 (a:Int) (b:Int)=((a&&&b:Nat):Int):=by
 have hx:a&&&b < 2^63:=Nat.and_lt_two_pow _ (by omega);show IntKind.i64.wrap ((BitVec.ofInt 64 (a:Int)&&&BitVec.ofInt 64 (b:Int)).toNat:Int)=_;rw [BitVec.toNat_and,Pd a ha,Pd b hb,IntKind.wrap_i64];omega
theorem Lj(s k:Nat)(hs:s < 9223372036854775808):(bits .and .i64 ((s:Int) / 2^k) 1==1)=s.testBit k:=by
 have hlt:s / 2^k < 9223372036854775808:=Nat.lt_of_le_of_lt (Nat.div_le_self _ _) hs;rw [Si,show(1:Int)=((1:Nat):Int)from rfl,Cz _ 1 hlt (by decide),Nat.and_one_is_mod,Ng];generalize s / 2^k % 2=r;rw [Bool.eq_iff_iff,beq_iff_eq,beq_iff_eq];omega
theorem Cc(s k:Nat)(hs:s < 9223372036854775808):(bits .and .i64 ((s:Int) / 2^k) 1==0)= !s.testBit k:=by
 have hlt:s / 2^k < 9223372036854775808:=Nat.lt_of_le_of_lt (Nat.div_le_self _ _) hs;rw [Si,show(1:Int)=((1:Nat):Int)from rfl,Cz _ 1 hlt (by decide),Nat.and_one_is_mod,Ng];rcases Nat.mod_two_eq_zero_or_one (s / 2^k)with h|h <;> rw [h] <;> rfl
theorem Ta {op:Int}(h:op<=0\/22<=op):Qh op=false/\Qc op=false/\Qe op=false/\Zz op=false/\Zk op=false/\Qw op=false/\Yd op=0:=by
 have e:∀k:Int,1<=k->k<=21->(op==k)=false:=fun k h1 h2=>by rw [beq_eq_false_iff_ne];omega
 have a:(decide (4<=op)&&decide (op<=21))=false:=by simp;omega
 have b:(decide (5<=op)&&decide (op<=8))=false:=by simp;omega
 have c:(decide (11<=op)&&decide (op<=13))=false:=by simp;omega
 have d:(decide (18<=op)&&decide (op<=21))=false:=by simp;omega
 simp [Qh,Qc,Qe,Zz,Zk,Qw,Yd,a,b,c,d,e 3 (by omega) (by omega),e 9 (by omega) (by omega),e 10 (by omega) (by omega),e 11 (by omega) (by omega),e 12 (by omega) (by omega),e 13 (by omega) (by omega),e 14 (by omega) (by omega),e 15 (by omega) (by omega),e 16 (by omega) (by omega),e 17 (by omega) (by omega),e 19 (by omega) (by omega),e 21 (by omega) (by omega)]
theorem Qm6(op:Int)(w:World):Calls Tryz.prog 103 #[.int .i64 op] w fun e w'=>e=.returned (.bool (Qh op))/\w=w':=by
 rcases Dn op with h|h|h|h|h|h|h|h|h|h|h|h|h|h|h|h|h|h|h|h|h|h|h
 ·have hs:=Ta (.inl h);have HS:=Qq hs;clear hs;go_enter Tryz.func103,Tryz.ntmps103;go_wp2;go_ret;exact⟨by rw [HS.out.1];rfl,rfl⟩
 ·have hs:=Ta (.inr h);have d21:decide (op<=21)=false:=by simp;omega
  have HS:=Qq hs;clear hs;go_enter Tryz.func103,Tryz.ntmps103;go_wp2;go_ret;exact⟨by rw [HS.out.1];rfl,rfl⟩
 all_goals(subst h;go_enter Tryz.func103,Tryz.ntmps103;go_wp2;go_ret;exact⟨rfl,rfl⟩)
theorem Qm7(op:Int)(w:World):Calls Tryz.prog 104 #[.int .i64 op] w fun e w'=>e=.returned (.bool (Qc op))/\w=w':=by
 rcases Dn op with h|h|h|h|h|h|h|h|h|h|h|h|h|h|h|h|h|h|h|h|h|h|h
 ·have hs:=Ta (.inl h);have e13:(op==13)=false:=by rw [beq_eq_false_iff_ne];omega
  have e14:(op==14)=false:=by rw [beq_eq_false_iff_ne];omega
  have e16:(op==16)=false:=by rw [beq_eq_false_iff_ne];omega
  have e19:(op==19)=false:=by rw [beq_eq_false_iff_ne];omega
  have e21:(op==21)=false:=by rw [beq_eq_false_iff_ne];omega
  have HS:=Qq hs;clear hs;go_enter Tryz.func104,Tryz.ntmps104;go_wp2;go_ret;exact⟨by rw [HS.out.2.1];rfl,rfl⟩
 ·have hs:=Ta (.inr h);have e13:(op==13)=false:=by rw [beq_eq_false_iff_ne];omega
  have e14:(op==14)=false:=by rw [beq_eq_false_iff_ne];omega
  have e16:(op==16)=false:=by rw [beq_eq_false_iff_ne];omega
  have e19:(op==19)=false:=by rw [beq_eq_false_iff_ne];omega
  have e21:(op==21)=false:=by rw [beq_eq_false_iff_ne];omega
  have d8:decide (op<=8)=false:=by simp;omega
  have HS:=Qq hs;clear hs;go_enter Tryz.func104,Tryz.ntmps104;go_wp2;go_ret;exact⟨by rw [HS.out.2.1];rfl,rfl⟩
 all_goals(subst h;go_enter Tryz.func104,Tryz.ntmps104;go_wp2;go_ret;exact⟨rfl,rfl⟩)
theorem Mm(op:Int)(w:World):Calls Tryz.prog 105 #[.int .i64 op] w fun e w'=>e=.returned (.bool (Qe op))/\w=w':=by
 rcases Dn op with h|h|h|h|h|h|h|h|h|h|h|h|h|h|h|h|h|h|h|h|h|h|h
 ·have hs:=Ta (.inl h);have e9:(op==9)=false:=by rw [beq_eq_false_iff_ne];omega
  have e10:(op==10)=false:=by rw [beq_eq_false_iff_ne];omega
  have e14:(op==14)=false:=by rw [beq_eq_false_iff_ne];omega
  have e15:(op==15)=false:=by rw [beq_eq_false_iff_ne];omega
  have HS:=Qq hs;clear hs;go_enter Tryz.func105,Tryz.ntmps105;go_wp2;go_ret;exact⟨by rw [HS.out.2.2.1];rfl,rfl⟩
 ·have hs:=Ta (.inr h);have e9:(op==9)=false:=by rw [beq_eq_false_iff_ne];omega
  have e10:(op==10)=false:=by rw [beq_eq_false_iff_ne];omega
  have e14:(op==14)=false:=by rw [beq_eq_false_iff_ne];omega
  have e15:(op==15)=false:=by rw [beq_eq_false_iff_ne];omega
  have HS:=Qq hs;clear hs;go_enter Tryz.func105,Tryz.ntmps105;go_wp2;go_ret;exact⟨by rw [HS.out.2.2.1];rfl,rfl⟩
 all_goals(subst h;go_enter Tryz.func105,Tryz.ntmps105;go_wp2;go_ret;exact⟨rfl,rfl⟩)
theorem Qfr(op:Int)(w:World):Calls Tryz.prog 106 #[.int .i64 op] w fun e w'=>e=.returned (.bool (Zz op))/\w=w':=by
 rcases Dn op with h|h|h|h|h|h|h|h|h|h|h|h|h|h|h|h|h|h|h|h|h|h|h
 ·have hs:=Ta (.inl h);have HS:=Qq hs;clear hs;go_enter Tryz.func106,Tryz.ntmps106;go_wp2;go_ret;exact⟨by rw [HS.out.2.2.2.1];rfl,rfl⟩
 ·have hs:=Ta (.inr h);have d13:decide (op<=13)=false:=by simp;omega
  have HS:=Qq hs;clear hs;go_enter Tryz.func106,Tryz.ntmps106;go_wp2;go_ret;exact⟨by rw [HS.out.2.2.2.1];rfl,rfl⟩
 all_goals(subst h;go_enter Tryz.func106,Tryz.ntmps106;go_wp2;go_ret;exact⟨rfl,rfl⟩)
end Go.Proofs.YtkmclcmnoicagaaGreatDoor
