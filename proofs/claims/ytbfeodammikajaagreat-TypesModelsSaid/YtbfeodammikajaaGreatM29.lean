/- The reference's small functions on operators. -/
import Derived.Test.YtbfeodammikajaaGreatM01
import Derived.Test.YtbfeodammikajaaGreatM07
namespace Go.Proofs.YtbfeodammikajaaGreat
set_option maxRecDepth 100000
set_option maxHeartbeats 128000000
open Go.RowKit
theorem op_out {op:Int}(h:op<=0\/22<=op):hasX op=false/\hasY op=false/\hasAgent op=false/\hasGroup op=false/\hasFact op=false/\hasEvent op=false/\fragOf op=0:=by
 have e:∀k:Int,1<=k->k<=21->(op==k)=false:=fun k h1 h2=>by rw [beq_eq_false_iff_ne];omega
 have a:(decide (4<=op)&&decide (op<=21))=false:=by simp;omega
 have b:(decide (5<=op)&&decide (op<=8))=false:=by simp;omega
 have c:(decide (11<=op)&&decide (op<=13))=false:=by simp;omega
 have d:(decide (18<=op)&&decide (op<=21))=false:=by simp;omega
 simp [hasX,hasY,hasAgent,hasGroup,hasFact,hasEvent,fragOf,a,b,c,d,e 3 (by omega) (by omega),e 9 (by omega) (by omega),e 10 (by omega) (by omega),e 11 (by omega) (by omega),e 12 (by omega) (by omega),e 13 (by omega) (by omega),e 14 (by omega) (by omega),e 15 (by omega) (by omega),e 16 (by omega) (by omega),e 17 (by omega) (by omega),e 19 (by omega) (by omega),e 21 (by omega) (by omega)]
theorem usesX_any(op:Int)(w:World):Calls Tryz.prog 89 #[.int .i64 op] w fun e w'=>e=.returned (.bool (hasX op))/\w=w':=by
 rcases op_cases op with h|h|h|h|h|h|h|h|h|h|h|h|h|h|h|h|h|h|h|h|h|h|h
 ·have hs:=op_out (.inl h);have HS:=Qq hs;clear hs;go_enter Tryz.func89,Tryz.ntmps89;go_wp2;go_ret;exact⟨by rw [HS.out.1];rfl,rfl⟩
 ·have hs:=op_out (.inr h);have d21:decide (op<=21)=false:=by simp;omega
  have HS:=Qq hs;clear hs;go_enter Tryz.func89,Tryz.ntmps89;go_wp2;go_ret;exact⟨by rw [HS.out.1];rfl,rfl⟩
 all_goals(subst h;go_enter Tryz.func89,Tryz.ntmps89;go_wp2;go_ret;exact⟨rfl,rfl⟩)
theorem usesY_any(op:Int)(w:World):Calls Tryz.prog 90 #[.int .i64 op] w fun e w'=>e=.returned (.bool (hasY op))/\w=w':=by
 rcases op_cases op with h|h|h|h|h|h|h|h|h|h|h|h|h|h|h|h|h|h|h|h|h|h|h
 ·have hs:=op_out (.inl h);have e13:(op==13)=false:=by rw [beq_eq_false_iff_ne];omega
  have e14:(op==14)=false:=by rw [beq_eq_false_iff_ne];omega
  have e16:(op==16)=false:=by rw [beq_eq_false_iff_ne];omega
  have e19:(op==19)=false:=by rw [beq_eq_false_iff_ne];omega
  have e21:(op==21)=false:=by rw [beq_eq_false_iff_ne];omega
  have HS:=Qq hs;clear hs;go_enter Tryz.func90,Tryz.ntmps90;go_wp2;go_ret;exact⟨by rw [HS.out.2.1];rfl,rfl⟩
 ·have hs:=op_out (.inr h);have e13:(op==13)=false:=by rw [beq_eq_false_iff_ne];omega
  have e14:(op==14)=false:=by rw [beq_eq_false_iff_ne];omega
  have e16:(op==16)=false:=by rw [beq_eq_false_iff_ne];omega
  have e19:(op==19)=false:=by rw [beq_eq_false_iff_ne];omega
  have e21:(op==21)=false:=by rw [beq_eq_false_iff_ne];omega
  have d8:decide (op<=8)=false:=by simp;omega
  have HS:=Qq hs;clear hs;go_enter Tryz.func90,Tryz.ntmps90;go_wp2;go_ret;exact⟨by rw [HS.out.2.1];rfl,rfl⟩
 all_goals(subst h;go_enter Tryz.func90,Tryz.ntmps90;go_wp2;go_ret;exact⟨rfl,rfl⟩)
theorem refAgent_any(op:Int)(w:World):Calls Tryz.prog 104 #[.int .i64 op] w fun e w'=>e=.returned (.bool (hasAgent op))/\w=w':=by
 rcases op_cases op with h|h|h|h|h|h|h|h|h|h|h|h|h|h|h|h|h|h|h|h|h|h|h
 ·have hs:=op_out (.inl h);have e9:(op==9)=false:=by rw [beq_eq_false_iff_ne];omega
  have e10:(op==10)=false:=by rw [beq_eq_false_iff_ne];omega
  have e14:(op==14)=false:=by rw [beq_eq_false_iff_ne];omega
  have e15:(op==15)=false:=by rw [beq_eq_false_iff_ne];omega
  have HS:=Qq hs;clear hs;go_enter Tryz.func104,Tryz.ntmps104;go_wp2;go_ret;exact⟨by rw [HS.out.2.2.1];rfl,rfl⟩
 ·have hs:=op_out (.inr h);have e9:(op==9)=false:=by rw [beq_eq_false_iff_ne];omega
  have e10:(op==10)=false:=by rw [beq_eq_false_iff_ne];omega
  have e14:(op==14)=false:=by rw [beq_eq_false_iff_ne];omega
  have e15:(op==15)=false:=by rw [beq_eq_false_iff_ne];omega
  have HS:=Qq hs;clear hs;go_enter Tryz.func104,Tryz.ntmps104;go_wp2;go_ret;exact⟨by rw [HS.out.2.2.1];rfl,rfl⟩
 all_goals(subst h;go_enter Tryz.func104,Tryz.ntmps104;go_wp2;go_ret;exact⟨rfl,rfl⟩)
theorem refGroup_any(op:Int)(w:World):Calls Tryz.prog 151 #[.int .i64 op] w fun e w'=>e=.returned (.bool (hasGroup op))/\w=w':=by
 rcases op_cases op with h|h|h|h|h|h|h|h|h|h|h|h|h|h|h|h|h|h|h|h|h|h|h
 ·have hs:=op_out (.inl h);have HS:=Qq hs;clear hs;go_enter Tryz.func151,Tryz.ntmps151;go_wp2;go_ret;exact⟨by rw [HS.out.2.2.2.1];rfl,rfl⟩
 ·have hs:=op_out (.inr h);have d13:decide (op<=13)=false:=by simp;omega
  have HS:=Qq hs;clear hs;go_enter Tryz.func151,Tryz.ntmps151;go_wp2;go_ret;exact⟨by rw [HS.out.2.2.2.1];rfl,rfl⟩
 all_goals(subst h;go_enter Tryz.func151,Tryz.ntmps151;go_wp2;go_ret;exact⟨rfl,rfl⟩)
end Go.Proofs.YtbfeodammikajaaGreat
