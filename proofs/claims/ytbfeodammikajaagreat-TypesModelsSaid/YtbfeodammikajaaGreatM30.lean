/- The reference's node error. -/
import Derived.Test.YtbfeodammikajaaGreatM01
import Derived.Test.YtbfeodammikajaaGreatM29
import Derived.Deep.DeepCutAuto
namespace Go.Proofs.YtbfeodammikajaaGreat
set_option maxRecDepth 100000
set_option maxHeartbeats 128000000
open Go.RowKit
theorem usesX_as {op:Int} {b:Bool}(h:hasX op=b)(w:World):Calls Tryz.prog 89 #[.int .i64 op] w fun e w'=>e=.returned (.bool b)/\w=w':=by
 subst h;exact usesX_any op w
theorem usesY_as {op:Int} {b:Bool}(h:hasY op=b)(w:World):Calls Tryz.prog 90 #[.int .i64 op] w fun e w'=>e=.returned (.bool b)/\w=w':=by
 subst h;exact usesY_any op w
theorem agent_as {op:Int} {b:Bool}(h:hasAgent op=b)(w:World):Calls Tryz.prog 104 #[.int .i64 op] w fun e w'=>e=.returned (.bool b)/\w=w':=by
 subst h;exact refAgent_any op w
theorem group_as {op:Int} {b:Bool}(h:hasGroup op=b)(w:World):Calls Tryz.prog 151 #[.int .i64 op] w fun e w'=>e=.returned (.bool b)/\w=w':=by
 subst h;exact refGroup_any op w
theorem nodeErr_10 {n:Nd} {a:Int}(h:isOp n.op=false):nodeErr n a=10:=by simp [nodeErr,h]
theorem nodeErr_x {n:Nd} {a:Int}(h:isOp n.op=true)(hx:operandOk (hasX n.op) n.x a=false):nodeErr n a=3:=by simp [nodeErr,h,hx]
theorem nodeErr_y {n:Nd} {a:Int}(h:isOp n.op=true)(hx:operandOk (hasX n.op) n.x a=true)(hy:operandOk (hasY n.op) n.y a=false):nodeErr n a=3:=by simp [nodeErr,h,hx,hy]
theorem nodeErr_f {n:Nd} {a:Int}(h:isOp n.op=true)(hx:operandOk (hasX n.op) n.x a=true)(hy:operandOk (hasY n.op) n.y a=true)(hf:formBad n=true):nodeErr n a=3:=by simp [nodeErr,h,hx,hy,hf]
theorem nodeErr_r {n:Nd} {a:Int}(h:isOp n.op=true)(hx:operandOk (hasX n.op) n.x a=true)(hy:operandOk (hasY n.op) n.y a=true)(hf:formBad n=false)(hr:rangeBad n=true):nodeErr n a=2:=by simp [nodeErr,h,hx,hy,hf,hr]
theorem fact_bool {op:Int} {b:Bool}(h:hasFact op=b):(op==3)=b:=h
theorem event_bool {op:Int} {b:Bool}(h:hasEvent op=b):(op==17)=b:=h
theorem event_bne {op:Int} {b:Bool}(h:hasEvent op=b):(op !=17)= !b:=by rw [<-event_bool h];rfl
theorem range_ok {n:Nd}(h0:(outsideB (hasFact n.op) n.i 0 7||outsideB (hasAgent n.op) n.i 0 3)=false)(h1:(outsideB (hasEvent n.op) n.i 0 7||outsideB (hasEvent n.op) n.e 0 7)=false)(h2:(outsideB (hasGroup n.op) n.g 1 15)=false):rangeBad n=false:=by
 simp only [Bool.or_eq_false_iff]at h0 h1;simp [rangeBad,h0.1,h0.2,h1.1,h1.2,h2]
theorem range_bad0 {n:Nd}(h:(outsideB (hasFact n.op) n.i 0 7||outsideB (hasAgent n.op) n.i 0 3)=true):rangeBad n=true:=by
 unfold rangeBad;rw [h];rfl
theorem range_bad1 {n:Nd}(h:(outsideB (hasEvent n.op) n.i 0 7||outsideB (hasEvent n.op) n.e 0 7)=true):rangeBad n=true:=by
 unfold rangeBad;rw [Bool.or_assoc (_||_) (outsideB (hasEvent n.op) n.i 0 7),h];simp
theorem range_bad2 {n:Nd}(h:(outsideB (hasGroup n.op) n.g 1 15)=true):rangeBad n=true:=by
 unfold rangeBad;rw [h];simp
theorem refNode_any(n:Nd)(at_:Int)(w:World):
 Calls Tryz.prog 105 #[.agg #[.int .i64 n.op,.int .i64 n.i,.int .i64 n.e,.int .i64 n.g,.int .i64 n.x,.int .i64 n.y],.int .i64 at_] w fun e w'=>e=.returned (.int .i64 (nodeErr n at_))/\Ext w w':=by
 obtain⟨W,hW⟩:∃W,W=w.alloc (.cells #[.int .i64 n.op,.int .i64 n.i,.int .i64 n.e,.int .i64 n.g,.int .i64 n.x,.int .i64 n.y] 93):=⟨_,rfl⟩;have HW:=Qq hW;clear hW;go_enter Tryz.func105,Tryz.ntmps105;go_upto_region 1 with(fail);go_cut [13] (fun s wx=>s=.bool (!isOp n.op)/\wx=W)
 case first =>
  as_aux_lemma =>
   by_cases h1:n.op < 1
   ·have HO:=Qq (show isOp n.op=false by simp [isOp];omega);go_wp2_with fail;go_meet;exact⟨by rw [HO.out];rfl,HW.out.symm⟩
   by_cases h2:21 < n.op
   ·have HO:=Qq (show isOp n.op=false by simp [isOp];omega);go_wp2_with fail;go_meet;exact⟨by rw [HO.out];rfl,HW.out.symm⟩
   have HO:=Qq (show isOp n.op=true by simp [isOp];omega);go_wp2_with fail;go_meet;exact⟨by rw [HO.out];rfl,HW.out.symm⟩
 case rest =>
  obtain⟨rfl,rfl⟩:=hcut;cases ho:isOp n.op
  ·have HR:=Qq (nodeErr_10 (a:=at_) ho);go_wp2_with fail;go_ret;exact⟨ret_int HR.out.symm,by rw [HW.out];exact Qz.alloc _⟩
  have HO:=Qq ho;clear ho;obtain⟨⟨d0,d1,d2,d3,d4,d5⟩,dfr,dlt⟩:=cells6 (show wc.heap[w.heap.size]?=some (.cells #[.int .i64 n.op,.int .i64 n.i,.int .i64 n.e,.int .i64 n.g,.int .i64 n.x,.int .i64 n.y] 93 (0,0)) by rw [HW.out];exact heap_alloc_new _ _);go_upto_region 3 with(fail);go_cut [38] (fun s wx=>s=.bool (!operandOk (hasX n.op) n.x at_)/\wx=wc)
  case first =>
   as_aux_lemma =>
    cases hu:hasX n.op
    ·have HU:=Qq hu;clear hu;by_cases h:n.x=0
     ·have HS:=Qq (show operandOk false n.x at_=true by simp [operandOk,h]);have hb:(n.x !=0)=false:=by simp [h]
      clear h;go_wp2_with(go_at_call 89;refine(usesX_as HU.out _).mono ?_;rintro e w' ⟨rfl,rfl⟩);go_meet;exact⟨by rw [HU.out,HS.out];rfl,rfl⟩
     have HS:=Qq (show operandOk false n.x at_=false by simp [operandOk,h]);have hb:(n.x !=0)=true:=by simpa using h
     clear h;go_wp2_with(go_at_call 89;refine(usesX_as HU.out _).mono ?_;rintro e w' ⟨rfl,rfl⟩);go_meet;exact⟨by rw [HU.out,HS.out];rfl,rfl⟩
    have HU:=Qq hu;clear hu;by_cases h:n.x < 0
    ·have HS:=Qq (show operandOk true n.x at_=false by simp [operandOk];omega);have hd:decide (n.x < 0)=true:=by simp;omega
     go_wp2_with(go_at_call 89;refine(usesX_as HU.out _).mono ?_;rintro e w' ⟨rfl,rfl⟩);go_meet;exact⟨by rw [HU.out,HS.out];rfl,rfl⟩
    have hd:decide (n.x < 0)=false:=by simp;omega
    by_cases h2:n.x < at_
    ·have HS:=Qq (show operandOk true n.x at_=true by simp [operandOk];omega);have hb:decide (at_<=n.x)=false:=by simp;omega
     clear h h2;go_wp2_with(go_at_call 89;refine(usesX_as HU.out _).mono ?_;rintro e w' ⟨rfl,rfl⟩);go_meet;exact⟨by rw [HU.out,HS.out];rfl,rfl⟩
    have HS:=Qq (show operandOk true n.x at_=false by simp [operandOk];omega);have hb:decide (at_<=n.x)=true:=by simp;omega
    clear h h2;go_wp2_with(go_at_call 89;refine(usesX_as HU.out _).mono ?_;rintro e w' ⟨rfl,rfl⟩);go_meet;exact⟨by rw [HU.out,HS.out];rfl,rfl⟩
  case rest =>
   obtain⟨rfl,rfl⟩:=hcut;cases hx:operandOk (hasX n.op) n.x at_
   ·have HR:=Qq (nodeErr_x HO.out hx);go_wp2_with fail;go_ret;exact⟨ret_int HR.out.symm,by rw [HW.out];exact Qz.alloc _⟩
   have HX:=Qq hx;clear hx;go_upto_region 5 with(fail);go_cut [63] (fun s wx=>s=.bool (!operandOk (hasY n.op) n.y at_)/\wx=wc)
   case first =>
    as_aux_lemma =>
     cases hu:hasY n.op
     ·have HU:=Qq hu;clear hu;by_cases h:n.y=0
      ·have HS:=Qq (show operandOk false n.y at_=true by simp [operandOk,h]);have hb:(n.y !=0)=false:=by simp [h]
       clear h;go_wp2_with(go_at_call 90;refine(usesY_as HU.out _).mono ?_;rintro e w' ⟨rfl,rfl⟩);go_meet;exact⟨by rw [HU.out,HS.out];rfl,rfl⟩
      have HS:=Qq (show operandOk false n.y at_=false by simp [operandOk,h]);have hb:(n.y !=0)=true:=by simpa using h
      clear h;go_wp2_with(go_at_call 90;refine(usesY_as HU.out _).mono ?_;rintro e w' ⟨rfl,rfl⟩);go_meet;exact⟨by rw [HU.out,HS.out];rfl,rfl⟩
     have HU:=Qq hu;clear hu;by_cases h:n.y < 0
     ·have HS:=Qq (show operandOk true n.y at_=false by simp [operandOk];omega);have hd:decide (n.y < 0)=true:=by simp;omega
      go_wp2_with(go_at_call 90;refine(usesY_as HU.out _).mono ?_;rintro e w' ⟨rfl,rfl⟩);go_meet;exact⟨by rw [HU.out,HS.out];rfl,rfl⟩
     have hd:decide (n.y < 0)=false:=by simp;omega
     by_cases h2:n.y < at_
     ·have HS:=Qq (show operandOk true n.y at_=true by simp [operandOk];omega);have hb:decide (at_<=n.y)=false:=by simp;omega
      clear h h2;go_wp2_with(go_at_call 90;refine(usesY_as HU.out _).mono ?_;rintro e w' ⟨rfl,rfl⟩);go_meet;exact⟨by rw [HU.out,HS.out];rfl,rfl⟩
     have HS:=Qq (show operandOk true n.y at_=false by simp [operandOk];omega);have hb:decide (at_<=n.y)=true:=by simp;omega
     clear h h2;go_wp2_with(go_at_call 90;refine(usesY_as HU.out _).mono ?_;rintro e w' ⟨rfl,rfl⟩);go_meet;exact⟨by rw [HU.out,HS.out];rfl,rfl⟩
   case rest =>
    obtain⟨rfl,rfl⟩:=hcut;cases hy:operandOk (hasY n.op) n.y at_
    ·have HR:=Qq (nodeErr_y HO.out HX.out hy);go_wp2_with fail;go_ret;exact⟨ret_int HR.out.symm,by rw [HW.out];exact Qz.alloc _⟩
    have HY:=Qq hy;clear hy;go_upto_region 7 with(fail);go_cut [5] (fun s wx=>s=.bool (hasFact n.op||hasAgent n.op||hasEvent n.op)/\wx=wc)
    case first =>
     as_aux_lemma =>
      rcases kinds n.op with⟨hf,ha,hg,he⟩|⟨hf,ha,hg,he⟩|⟨hf,ha,hg,he⟩|⟨hf,ha,hg,he⟩|⟨hf,ha,hg,he⟩
      ·have e3:=fact_bool hf;have e17:=event_bool he;have n17:=event_bne he;have HF:=Qq hf;have HA:=Qq ha;have HG:=Qq hg;have HE:=Qq he;clear hf ha hg he n17;go_wp2_with(go_at_call 104;refine(agent_as HA.out _).mono ?_;rintro e w' ⟨rfl,rfl⟩);go_meet;exact⟨by rw [HF.out,HA.out,HE.out];rfl,rfl⟩
      ·have e3:=fact_bool hf;have e17:=event_bool he;have n17:=event_bne he;have HF:=Qq hf;have HA:=Qq ha;have HG:=Qq hg;have HE:=Qq he;clear hf ha hg he n17;go_wp2_with(go_at_call 104;refine(agent_as HA.out _).mono ?_;rintro e w' ⟨rfl,rfl⟩);go_meet;exact⟨by rw [HF.out,HA.out,HE.out];rfl,rfl⟩
      ·have e3:=fact_bool hf;have e17:=event_bool he;have n17:=event_bne he;have HF:=Qq hf;have HA:=Qq ha;have HG:=Qq hg;have HE:=Qq he;clear hf ha hg he n17;go_wp2_with(go_at_call 104;refine(agent_as HA.out _).mono ?_;rintro e w' ⟨rfl,rfl⟩);go_meet;exact⟨by rw [HF.out,HA.out,HE.out];rfl,rfl⟩
      ·have e3:=fact_bool hf;have e17:=event_bool he;have n17:=event_bne he;have HF:=Qq hf;have HA:=Qq ha;have HG:=Qq hg;have HE:=Qq he;clear hf ha hg he n17;go_wp2_with(go_at_call 104;refine(agent_as HA.out _).mono ?_;rintro e w' ⟨rfl,rfl⟩);go_meet;exact⟨by rw [HF.out,HA.out,HE.out];rfl,rfl⟩
      have e3:=fact_bool hf;have e17:=event_bool he;have n17:=event_bne he;have HF:=Qq hf;have HA:=Qq ha;have HG:=Qq hg;have HE:=Qq he;clear hf ha hg he n17;go_wp2_with(go_at_call 104;refine(agent_as HA.out _).mono ?_;rintro e w' ⟨rfl,rfl⟩);go_meet;exact⟨by rw [HF.out,HA.out,HE.out];rfl,rfl⟩
    case rest =>
     obtain⟨rfl,rfl⟩:=hcut;go_upto_region 8 with(fail);go_cut [5,104] (fun _ s wx=>s=.bool (formBad n)/\wx=wc)
     case first =>
      as_aux_lemma =>
       rcases kinds n.op with⟨hf,ha,hg,he⟩|⟨hf,ha,hg,he⟩|⟨hf,ha,hg,he⟩|⟨hf,ha,hg,he⟩|⟨hf,ha,hg,he⟩
       ·have e3:=fact_bool hf;have e17:=event_bool he;have n17:=event_bne he;have HF:=Qq hf;have HA:=Qq ha;have HG:=Qq hg;have HE:=Qq he;rw [hf,ha,he];clear hf ha hg he e3 e17;by_cases hi:n.i=0
        ·skip
         by_cases he:n.e=0
         ·skip
          by_cases hg:n.g=0
          ·skip
           have HS:=Qq (show formBad n=false by simp [formBad,HF.out,HA.out,HG.out,HE.out,hi,he,hg]);have zi:(n.i !=0)=false:=by simp [hi]
           have ze:(n.e !=0)=false:=by simp [he]
           have zg:(n.g !=0)=false:=by simp [hg]
           clear hi he hg;go_wp2_with(go_at_call 151;refine(group_as HG.out _).mono ?_;rintro e w' ⟨rfl,rfl⟩);go_meet;exact⟨by rw [HS.out],rfl⟩
          have zg:(n.g !=0)=true:=by simpa using hg
          have HS:=Qq (show formBad n=true by simp only [formBad,HF.out,HA.out,HG.out,HE.out,zg];simp);have zi:(n.i !=0)=false:=by simp [hi]
          have ze:(n.e !=0)=false:=by simp [he]
          clear hi he hg;go_wp2_with(go_at_call 151;refine(group_as HG.out _).mono ?_;rintro e w' ⟨rfl,rfl⟩);go_meet;exact⟨by rw [HS.out],rfl⟩
         have ze:(n.e !=0)=true:=by simpa using he
         have HS:=Qq (show formBad n=true by simp only [formBad,HF.out,HA.out,HG.out,HE.out,ze];simp);have zi:(n.i !=0)=false:=by simp [hi]
         clear hi he;go_wp2_with(go_at_call 151;refine(group_as HG.out _).mono ?_;rintro e w' ⟨rfl,rfl⟩);go_meet;exact⟨by rw [HS.out],rfl⟩
        have zi:(n.i !=0)=true:=by simpa using hi
        have HS:=Qq (show formBad n=true by simp only [formBad,HF.out,HA.out,HG.out,HE.out,zi];simp);clear hi;go_wp2_with(go_at_call 151;refine(group_as HG.out _).mono ?_;rintro e w' ⟨rfl,rfl⟩);go_meet;exact⟨by rw [HS.out],rfl⟩
       ·have e3:=fact_bool hf;have e17:=event_bool he;have n17:=event_bne he;have HF:=Qq hf;have HA:=Qq ha;have HG:=Qq hg;have HE:=Qq he;rw [hf,ha,he];clear hf ha hg he e3 e17;by_cases he:n.e=0
        ·skip
         by_cases hg:n.g=0
         ·skip
          have HS:=Qq (show formBad n=false by simp [formBad,HF.out,HA.out,HG.out,HE.out,he,hg]);have ze:(n.e !=0)=false:=by simp [he]
          have zg:(n.g !=0)=false:=by simp [hg]
          clear he hg;go_wp2_with(go_at_call 151;refine(group_as HG.out _).mono ?_;rintro e w' ⟨rfl,rfl⟩);go_meet;exact⟨by rw [HS.out],rfl⟩
         have zg:(n.g !=0)=true:=by simpa using hg
         have HS:=Qq (show formBad n=true by simp only [formBad,HF.out,HA.out,HG.out,HE.out,zg];simp);have ze:(n.e !=0)=false:=by simp [he]
         clear he hg;go_wp2_with(go_at_call 151;refine(group_as HG.out _).mono ?_;rintro e w' ⟨rfl,rfl⟩);go_meet;exact⟨by rw [HS.out],rfl⟩
        have ze:(n.e !=0)=true:=by simpa using he
        have HS:=Qq (show formBad n=true by simp only [formBad,HF.out,HA.out,HG.out,HE.out,ze];simp);clear he;go_wp2_with(go_at_call 151;refine(group_as HG.out _).mono ?_;rintro e w' ⟨rfl,rfl⟩);go_meet;exact⟨by rw [HS.out],rfl⟩
       ·have e3:=fact_bool hf;have e17:=event_bool he;have n17:=event_bne he;have HF:=Qq hf;have HA:=Qq ha;have HG:=Qq hg;have HE:=Qq he;rw [hf,ha,he];clear hf ha hg he e3 e17;by_cases he:n.e=0
        ·skip
         by_cases hg:n.g=0
         ·skip
          have HS:=Qq (show formBad n=false by simp [formBad,HF.out,HA.out,HG.out,HE.out,he,hg]);have ze:(n.e !=0)=false:=by simp [he]
          have zg:(n.g !=0)=false:=by simp [hg]
          clear he hg;go_wp2_with(go_at_call 151;refine(group_as HG.out _).mono ?_;rintro e w' ⟨rfl,rfl⟩);go_meet;exact⟨by rw [HS.out],rfl⟩
         have zg:(n.g !=0)=true:=by simpa using hg
         have HS:=Qq (show formBad n=true by simp only [formBad,HF.out,HA.out,HG.out,HE.out,zg];simp);have ze:(n.e !=0)=false:=by simp [he]
         clear he hg;go_wp2_with(go_at_call 151;refine(group_as HG.out _).mono ?_;rintro e w' ⟨rfl,rfl⟩);go_meet;exact⟨by rw [HS.out],rfl⟩
        have ze:(n.e !=0)=true:=by simpa using he
        have HS:=Qq (show formBad n=true by simp only [formBad,HF.out,HA.out,HG.out,HE.out,ze];simp);clear he;go_wp2_with(go_at_call 151;refine(group_as HG.out _).mono ?_;rintro e w' ⟨rfl,rfl⟩);go_meet;exact⟨by rw [HS.out],rfl⟩
       ·have e3:=fact_bool hf;have e17:=event_bool he;have n17:=event_bne he;have HF:=Qq hf;have HA:=Qq ha;have HG:=Qq hg;have HE:=Qq he;rw [hf,ha,he];clear hf ha hg he e3 e17;by_cases hi:n.i=0
        ·skip
         by_cases he:n.e=0
         ·skip
          have HS:=Qq (show formBad n=false by simp [formBad,HF.out,HA.out,HG.out,HE.out,hi,he]);have zi:(n.i !=0)=false:=by simp [hi]
          have ze:(n.e !=0)=false:=by simp [he]
          clear hi he;go_wp2_with(go_at_call 151;refine(group_as HG.out _).mono ?_;rintro e w' ⟨rfl,rfl⟩);go_meet;exact⟨by rw [HS.out],rfl⟩
         have ze:(n.e !=0)=true:=by simpa using he
         have HS:=Qq (show formBad n=true by simp only [formBad,HF.out,HA.out,HG.out,HE.out,ze];simp);have zi:(n.i !=0)=false:=by simp [hi]
         clear hi he;go_wp2_with(go_at_call 151;refine(group_as HG.out _).mono ?_;rintro e w' ⟨rfl,rfl⟩);go_meet;exact⟨by rw [HS.out],rfl⟩
        have zi:(n.i !=0)=true:=by simpa using hi
        have HS:=Qq (show formBad n=true by simp only [formBad,HF.out,HA.out,HG.out,HE.out,zi];simp);clear hi;go_wp2_with(go_at_call 151;refine(group_as HG.out _).mono ?_;rintro e w' ⟨rfl,rfl⟩);go_meet;exact⟨by rw [HS.out],rfl⟩
       have e3:=fact_bool hf;have e17:=event_bool he;have n17:=event_bne he;have HF:=Qq hf;have HA:=Qq ha;have HG:=Qq hg;have HE:=Qq he;rw [hf,ha,he];clear hf ha hg he e3 e17;by_cases hg:n.g=0
       ·skip
        have HS:=Qq (show formBad n=false by simp [formBad,HF.out,HA.out,HG.out,HE.out,hg]);have zg:(n.g !=0)=false:=by simp [hg]
        clear hg;go_wp2_with(go_at_call 151;refine(group_as HG.out _).mono ?_;rintro e w' ⟨rfl,rfl⟩);go_meet;exact⟨by rw [HS.out],rfl⟩
       have zg:(n.g !=0)=true:=by simpa using hg
       have HS:=Qq (show formBad n=true by simp only [formBad,HF.out,HA.out,HG.out,HE.out,zg];simp);clear hg;go_wp2_with(go_at_call 151;refine(group_as HG.out _).mono ?_;rintro e w' ⟨rfl,rfl⟩);go_meet;exact⟨by rw [HS.out],rfl⟩
     case rest =>
      obtain⟨rfl,rfl⟩:=hcut;cases hfb:formBad n
      ·have HFB:=Qq hfb;clear hfb;go_upto_region 10 with(fail);go_cut [132] (fun s wx=>s=.bool (outsideB (hasFact n.op) n.i 0 7||outsideB (hasAgent n.op) n.i 0 3)/\wx=wc)
       case first =>
        as_aux_lemma =>
         rcases kinds n.op with⟨hf,ha,hg,he⟩|⟨hf,ha,hg,he⟩|⟨hf,ha,hg,he⟩|⟨hf,ha,hg,he⟩|⟨hf,ha,hg,he⟩
         ·have e3:=fact_bool hf;have e17:=event_bool he;have n17:=event_bne he;have HF:=Qq hf;have HA:=Qq ha;have HG:=Qq hg;have HE:=Qq he;clear hf ha hg he n17;have HS:=Qq (show(outsideB (hasFact n.op) n.i 0 7||outsideB (hasAgent n.op) n.i 0 3)=false by simp [outsideB,HF.out,HA.out]);go_wp2_with(go_at_call 104;refine(agent_as HA.out _).mono ?_;rintro e w' ⟨rfl,rfl⟩);go_meet;exact⟨by rw [HS.out],rfl⟩
         ·have e3:=fact_bool hf;have e17:=event_bool he;have n17:=event_bne he;have HF:=Qq hf;have HA:=Qq ha;have HG:=Qq hg;have HE:=Qq he;clear hf ha hg he n17;by_cases l0:n.i < 0
          ·have d0:decide (n.i < 0)=true:=by simp;omega
           have HS:=Qq (show(outsideB (hasFact n.op) n.i 0 7||outsideB (hasAgent n.op) n.i 0 3)=true by simp [outsideB,HF.out,HA.out];omega);go_wp2_with(go_at_call 104;refine(agent_as HA.out _).mono ?_;rintro e w' ⟨rfl,rfl⟩);go_meet;exact⟨by rw [HS.out],rfl⟩
          have d0:decide (n.i < 0)=false:=by simp;omega
          by_cases u0:8<=n.i
          ·have v0:decide (8<=n.i)=true:=by simp;omega
           have HS:=Qq (show(outsideB (hasFact n.op) n.i 0 7||outsideB (hasAgent n.op) n.i 0 3)=true by simp [outsideB,HF.out,HA.out];omega);go_wp2_with(go_at_call 104;refine(agent_as HA.out _).mono ?_;rintro e w' ⟨rfl,rfl⟩);go_meet;exact⟨by rw [HS.out],rfl⟩
          have v0:decide (8<=n.i)=false:=by simp;omega
          have HS:=Qq (show(outsideB (hasFact n.op) n.i 0 7||outsideB (hasAgent n.op) n.i 0 3)=false by simp [outsideB,HF.out,HA.out];omega);go_wp2_with(go_at_call 104;refine(agent_as HA.out _).mono ?_;rintro e w' ⟨rfl,rfl⟩);go_meet;exact⟨by rw [HS.out],rfl⟩
         ·have e3:=fact_bool hf;have e17:=event_bool he;have n17:=event_bne he;have HF:=Qq hf;have HA:=Qq ha;have HG:=Qq hg;have HE:=Qq he;clear hf ha hg he n17;by_cases l0:n.i < 0
          ·have d0:decide (n.i < 0)=true:=by simp;omega
           have HS:=Qq (show(outsideB (hasFact n.op) n.i 0 7||outsideB (hasAgent n.op) n.i 0 3)=true by simp [outsideB,HF.out,HA.out];omega);go_wp2_with(go_at_call 104;refine(agent_as HA.out _).mono ?_;rintro e w' ⟨rfl,rfl⟩);go_meet;exact⟨by rw [HS.out],rfl⟩
          have d0:decide (n.i < 0)=false:=by simp;omega
          by_cases u0:4<=n.i
          ·have v0:decide (4<=n.i)=true:=by simp;omega
           have HS:=Qq (show(outsideB (hasFact n.op) n.i 0 7||outsideB (hasAgent n.op) n.i 0 3)=true by simp [outsideB,HF.out,HA.out];omega);go_wp2_with(go_at_call 104;refine(agent_as HA.out _).mono ?_;rintro e w' ⟨rfl,rfl⟩);go_meet;exact⟨by rw [HS.out],rfl⟩
          have v0:decide (4<=n.i)=false:=by simp;omega
          have HS:=Qq (show(outsideB (hasFact n.op) n.i 0 7||outsideB (hasAgent n.op) n.i 0 3)=false by simp [outsideB,HF.out,HA.out];omega);go_wp2_with(go_at_call 104;refine(agent_as HA.out _).mono ?_;rintro e w' ⟨rfl,rfl⟩);go_meet;exact⟨by rw [HS.out],rfl⟩
         ·have e3:=fact_bool hf;have e17:=event_bool he;have n17:=event_bne he;have HF:=Qq hf;have HA:=Qq ha;have HG:=Qq hg;have HE:=Qq he;clear hf ha hg he n17;have HS:=Qq (show(outsideB (hasFact n.op) n.i 0 7||outsideB (hasAgent n.op) n.i 0 3)=false by simp [outsideB,HF.out,HA.out]);go_wp2_with(go_at_call 104;refine(agent_as HA.out _).mono ?_;rintro e w' ⟨rfl,rfl⟩);go_meet;exact⟨by rw [HS.out],rfl⟩
         have e3:=fact_bool hf;have e17:=event_bool he;have n17:=event_bne he;have HF:=Qq hf;have HA:=Qq ha;have HG:=Qq hg;have HE:=Qq he;clear hf ha hg he n17;have HS:=Qq (show(outsideB (hasFact n.op) n.i 0 7||outsideB (hasAgent n.op) n.i 0 3)=false by simp [outsideB,HF.out,HA.out]);go_wp2_with(go_at_call 104;refine(agent_as HA.out _).mono ?_;rintro e w' ⟨rfl,rfl⟩);go_meet;exact⟨by rw [HS.out],rfl⟩
       case rest =>
        obtain⟨rfl,rfl⟩:=hcut;cases hr0:(outsideB (hasFact n.op) n.i 0 7||outsideB (hasAgent n.op) n.i 0 3)
        ·have HR0:=Qq hr0;clear hr0;go_upto_region 12 with(fail);go_cut [155] (fun s wx=>s=.bool (outsideB (hasEvent n.op) n.i 0 7||outsideB (hasEvent n.op) n.e 0 7)/\wx=wc)
         case first =>
          as_aux_lemma =>
           rcases kinds n.op with⟨hf,ha,hg,he⟩|⟨hf,ha,hg,he⟩|⟨hf,ha,hg,he⟩|⟨hf,ha,hg,he⟩|⟨hf,ha,hg,he⟩
           ·have e3:=fact_bool hf;have e17:=event_bool he;have n17:=event_bne he;have HF:=Qq hf;have HA:=Qq ha;have HG:=Qq hg;have HE:=Qq he;clear hf ha hg he n17;have HS:=Qq (show(outsideB (hasEvent n.op) n.i 0 7||outsideB (hasEvent n.op) n.e 0 7)=false by simp [outsideB,HE.out]);go_wp2_with(fail);go_meet;exact⟨by rw [HS.out],rfl⟩
           ·have e3:=fact_bool hf;have e17:=event_bool he;have n17:=event_bne he;have HF:=Qq hf;have HA:=Qq ha;have HG:=Qq hg;have HE:=Qq he;clear hf ha hg he n17;have HS:=Qq (show(outsideB (hasEvent n.op) n.i 0 7||outsideB (hasEvent n.op) n.e 0 7)=false by simp [outsideB,HE.out]);go_wp2_with(fail);go_meet;exact⟨by rw [HS.out],rfl⟩
           ·have e3:=fact_bool hf;have e17:=event_bool he;have n17:=event_bne he;have HF:=Qq hf;have HA:=Qq ha;have HG:=Qq hg;have HE:=Qq he;clear hf ha hg he n17;have HS:=Qq (show(outsideB (hasEvent n.op) n.i 0 7||outsideB (hasEvent n.op) n.e 0 7)=false by simp [outsideB,HE.out]);go_wp2_with(fail);go_meet;exact⟨by rw [HS.out],rfl⟩
           ·have e3:=fact_bool hf;have e17:=event_bool he;have n17:=event_bne he;have HF:=Qq hf;have HA:=Qq ha;have HG:=Qq hg;have HE:=Qq he;clear hf ha hg he n17;have HS:=Qq (show(outsideB (hasEvent n.op) n.i 0 7||outsideB (hasEvent n.op) n.e 0 7)=false by simp [outsideB,HE.out]);go_wp2_with(fail);go_meet;exact⟨by rw [HS.out],rfl⟩
           have e3:=fact_bool hf;have e17:=event_bool he;have n17:=event_bne he;have HF:=Qq hf;have HA:=Qq ha;have HG:=Qq hg;have HE:=Qq he;clear hf ha hg he n17;by_cases l0:n.i < 0
           ·have d0:decide (n.i < 0)=true:=by simp;omega
            have HS:=Qq (show(outsideB (hasEvent n.op) n.i 0 7||outsideB (hasEvent n.op) n.e 0 7)=true by simp [outsideB,HE.out];omega);go_wp2_with(fail);go_meet;exact⟨by rw [HS.out],rfl⟩
           have d0:decide (n.i < 0)=false:=by simp;omega
           by_cases u0:8<=n.i
           ·have v0:decide (8<=n.i)=true:=by simp;omega
            have HS:=Qq (show(outsideB (hasEvent n.op) n.i 0 7||outsideB (hasEvent n.op) n.e 0 7)=true by simp [outsideB,HE.out];omega);go_wp2_with(fail);go_meet;exact⟨by rw [HS.out],rfl⟩
           have v0:decide (8<=n.i)=false:=by simp;omega
           by_cases l1:n.e < 0
           ·have d1:decide (n.e < 0)=true:=by simp;omega
            have HS:=Qq (show(outsideB (hasEvent n.op) n.i 0 7||outsideB (hasEvent n.op) n.e 0 7)=true by simp [outsideB,HE.out];omega);go_wp2_with(fail);go_meet;exact⟨by rw [HS.out],rfl⟩
           have d1:decide (n.e < 0)=false:=by simp;omega
           by_cases u1:8<=n.e
           ·have v1:decide (8<=n.e)=true:=by simp;omega
            have HS:=Qq (show(outsideB (hasEvent n.op) n.i 0 7||outsideB (hasEvent n.op) n.e 0 7)=true by simp [outsideB,HE.out];omega);go_wp2_with(fail);go_meet;exact⟨by rw [HS.out],rfl⟩
           have v1:decide (8<=n.e)=false:=by simp;omega
           have HS:=Qq (show(outsideB (hasEvent n.op) n.i 0 7||outsideB (hasEvent n.op) n.e 0 7)=false by simp [outsideB,HE.out];omega);go_wp2_with(fail);go_meet;exact⟨by rw [HS.out],rfl⟩
         case rest =>
          obtain⟨rfl,rfl⟩:=hcut;cases hr1:(outsideB (hasEvent n.op) n.i 0 7||outsideB (hasEvent n.op) n.e 0 7)
          ·have HR1:=Qq hr1;clear hr1;go_upto_region 14 with(fail);go_cut [168] (fun s wx=>s=.bool (outsideB (hasGroup n.op) n.g 1 15)/\wx=wc)
           case first =>
            as_aux_lemma =>
             rcases kinds n.op with⟨hf,ha,hg,he⟩|⟨hf,ha,hg,he⟩|⟨hf,ha,hg,he⟩|⟨hf,ha,hg,he⟩|⟨hf,ha,hg,he⟩
             ·have e3:=fact_bool hf;have e17:=event_bool he;have n17:=event_bne he;have HF:=Qq hf;have HA:=Qq ha;have HG:=Qq hg;have HE:=Qq he;clear hf ha hg he n17;have HS:=Qq (show(outsideB (hasGroup n.op) n.g 1 15)=false by simp [outsideB,HG.out]);go_wp2_with(go_at_call 151;refine(group_as HG.out _).mono ?_;rintro e w' ⟨rfl,rfl⟩);go_meet;exact⟨by rw [HS.out],rfl⟩
             ·have e3:=fact_bool hf;have e17:=event_bool he;have n17:=event_bne he;have HF:=Qq hf;have HA:=Qq ha;have HG:=Qq hg;have HE:=Qq he;clear hf ha hg he n17;have HS:=Qq (show(outsideB (hasGroup n.op) n.g 1 15)=false by simp [outsideB,HG.out]);go_wp2_with(go_at_call 151;refine(group_as HG.out _).mono ?_;rintro e w' ⟨rfl,rfl⟩);go_meet;exact⟨by rw [HS.out],rfl⟩
             ·have e3:=fact_bool hf;have e17:=event_bool he;have n17:=event_bne he;have HF:=Qq hf;have HA:=Qq ha;have HG:=Qq hg;have HE:=Qq he;clear hf ha hg he n17;have HS:=Qq (show(outsideB (hasGroup n.op) n.g 1 15)=false by simp [outsideB,HG.out]);go_wp2_with(go_at_call 151;refine(group_as HG.out _).mono ?_;rintro e w' ⟨rfl,rfl⟩);go_meet;exact⟨by rw [HS.out],rfl⟩
             ·have e3:=fact_bool hf;have e17:=event_bool he;have n17:=event_bne he;have HF:=Qq hf;have HA:=Qq ha;have HG:=Qq hg;have HE:=Qq he;clear hf ha hg he n17;by_cases l0:n.g < 1
              ·have d0:decide (n.g < 1)=true:=by simp;omega
               have HS:=Qq (show(outsideB (hasGroup n.op) n.g 1 15)=true by simp [outsideB,HG.out];omega);go_wp2_with(go_at_call 151;refine(group_as HG.out _).mono ?_;rintro e w' ⟨rfl,rfl⟩);go_meet;exact⟨by rw [HS.out],rfl⟩
              have d0:decide (n.g < 1)=false:=by simp;omega
              by_cases u0:16<=n.g
              ·have v0:decide (16<=n.g)=true:=by simp;omega
               have HS:=Qq (show(outsideB (hasGroup n.op) n.g 1 15)=true by simp [outsideB,HG.out];omega);go_wp2_with(go_at_call 151;refine(group_as HG.out _).mono ?_;rintro e w' ⟨rfl,rfl⟩);go_meet;exact⟨by rw [HS.out],rfl⟩
              have v0:decide (16<=n.g)=false:=by simp;omega
              have HS:=Qq (show(outsideB (hasGroup n.op) n.g 1 15)=false by simp [outsideB,HG.out];omega);go_wp2_with(go_at_call 151;refine(group_as HG.out _).mono ?_;rintro e w' ⟨rfl,rfl⟩);go_meet;exact⟨by rw [HS.out],rfl⟩
             have e3:=fact_bool hf;have e17:=event_bool he;have n17:=event_bne he;have HF:=Qq hf;have HA:=Qq ha;have HG:=Qq hg;have HE:=Qq he;clear hf ha hg he n17;have HS:=Qq (show(outsideB (hasGroup n.op) n.g 1 15)=false by simp [outsideB,HG.out]);go_wp2_with(go_at_call 151;refine(group_as HG.out _).mono ?_;rintro e w' ⟨rfl,rfl⟩);go_meet;exact⟨by rw [HS.out],rfl⟩
           case rest =>
            obtain⟨rfl,rfl⟩:=hcut;cases hr2:(outsideB (hasGroup n.op) n.g 1 15)
            ·have HR2:=Qq hr2;clear hr2;have HR:=Qq (nodeErr_of HO.out HX.out HY.out HFB.out (range_ok HR0.out HR1.out HR2.out));go_wp2_with fail;go_ret;exact⟨ret_int HR.out.symm,by rw [HW.out];exact Qz.alloc _⟩
            have HR:=Qq (nodeErr_r HO.out HX.out HY.out HFB.out (range_bad2 hr2));clear hr2;go_wp2_with fail;go_ret;exact⟨ret_int HR.out.symm,by rw [HW.out];exact Qz.alloc _⟩
          have HR:=Qq (nodeErr_r HO.out HX.out HY.out HFB.out (range_bad1 hr1));clear hr1;go_wp2_with fail;go_ret;exact⟨ret_int HR.out.symm,by rw [HW.out];exact Qz.alloc _⟩
        have HR:=Qq (nodeErr_r HO.out HX.out HY.out HFB.out (range_bad0 hr0));clear hr0;go_wp2_with fail;go_ret;exact⟨ret_int HR.out.symm,by rw [HW.out];exact Qz.alloc _⟩
      have HR:=Qq (nodeErr_f HO.out HX.out HY.out hfb);clear hfb;go_wp2_with fail;go_ret;exact⟨ret_int HR.out.symm,by rw [HW.out];exact Qz.alloc _⟩
end Go.Proofs.YtbfeodammikajaaGreat
