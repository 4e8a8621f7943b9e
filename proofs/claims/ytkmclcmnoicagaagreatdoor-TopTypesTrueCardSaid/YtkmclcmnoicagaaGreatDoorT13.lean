/- The reference's node error. -/
import Derived.Test.YtkmclcmnoicagaaGreatDoorT09
namespace Go.Proofs.YtkmclcmnoicagaaGreatDoor
set_option maxRecDepth 100000
set_option maxHeartbeats 128000000
open Go.RowKit
theorem Bq {op:Int} {b:Bool}(h:Qh op=b)(w:World):Calls Tryz.prog 103 #[.int .i64 op] w fun e w'=>e=.returned (.bool b)/\w=w':=by
 subst h;exact Qm6 op w
theorem Bz {op:Int} {b:Bool}(h:Qc op=b)(w:World):Calls Tryz.prog 104 #[.int .i64 op] w fun e w'=>e=.returned (.bool b)/\w=w':=by
 subst h;exact Qm7 op w
theorem Xn {op:Int} {b:Bool}(h:Qe op=b)(w:World):Calls Tryz.prog 105 #[.int .i64 op] w fun e w'=>e=.returned (.bool b)/\w=w':=by
 subst h;exact Mm op w
theorem Yo {op:Int} {b:Bool}(h:Zz op=b)(w:World):Calls Tryz.prog 106 #[.int .i64 op] w fun e w'=>e=.returned (.bool b)/\w=w':=by
 subst h;exact Qfr op w
theorem Qsq {n:Nd} {a:Int}(h:Jk n.op=false):Qo n a=10:=by simp [Qo,h]
theorem Ql8 {n:Nd} {a:Int}(h:Jk n.op=true)(hx:Qs (Qh n.op) n.x a=false):Qo n a=3:=by simp [Qo,h,hx]
theorem Ql9 {n:Nd} {a:Int}(h:Jk n.op=true)(hx:Qs (Qh n.op) n.x a=true)(hy:Qs (Qc n.op) n.y a=false):Qo n a=3:=by simp [Qo,h,hx,hy]
theorem Ql7 {n:Nd} {a:Int}(h:Jk n.op=true)(hx:Qs (Qh n.op) n.x a=true)(hy:Qs (Qc n.op) n.y a=true)(hf:Zv n=true):Qo n a=3:=by simp [Qo,h,hx,hy,hf]
theorem Oj {n:Nd} {a:Int}(h:Jk n.op=true)(hx:Qs (Qh n.op) n.x a=true)(hy:Qs (Qc n.op) n.y a=true)(hf:Zv n=false)(hr:Jg n=true):Qo n a=2:=by simp [Qo,h,hx,hy,hf,hr]
theorem Jo {op:Int} {b:Bool}(h:Zk op=b):(op==3)=b:=h
theorem Jt {op:Int} {b:Bool}(h:Qw op=b):(op==17)=b:=h
theorem Jw {op:Int} {b:Bool}(h:Qw op=b):(op !=17)= !b:=by rw [<-Jt h];rfl
theorem Qhq {n:Nd}(h0:(Qr (Zk n.op) n.i 0 7||Qr (Qe n.op) n.i 0 3)=false)(h1:(Qr (Qw n.op) n.i 0 7||Qr (Qw n.op) n.e 0 7)=false)(h2:(Qr (Zz n.op) n.g 1 15)=false):Jg n=false:=by
 simp only [Bool.or_eq_false_iff]at h0 h1;simp [Jg,h0.1,h0.2,h1.1,h1.2,h2]
theorem Qsf {n:Nd}(h:(Qr (Zk n.op) n.i 0 7||Qr (Qe n.op) n.i 0 3)=true):Jg n=true:=by
 unfold Jg;rw [h];rfl
theorem Qsb {n:Nd}(h:(Qr (Qw n.op) n.i 0 7||Qr (Qw n.op) n.e 0 7)=true):Jg n=true:=by
 unfold Jg;rw [Bool.or_assoc (_||_) (Qr (Qw n.op) n.i 0 7),h];simp
theorem Qsd {n:Nd}(h:(Qr (Zz n.op) n.g 1 15)=true):Jg n=true:=by
 unfold Jg;rw [h];simp
theorem Nv(n:Nd)(at_:Int)(w:World):
 Calls Tryz.prog 43 #[.agg #[.int .i64 n.op,.int .i64 n.i,.int .i64 n.e,.int .i64 n.g,.int .i64 n.x,.int .i64 n.y],.int .i64 at_] w fun e w'=>e=.returned (.int .i64 (Qo n at_))/\Ext w w':=by
 obtain⟨W,hW⟩:∃W,W=w.alloc (.cells #[.int .i64 n.op,.int .i64 n.i,.int .i64 n.e,.int .i64 n.g,.int .i64 n.x,.int .i64 n.y] 71):=⟨_,rfl⟩;have HW:=Qq hW;clear hW;go_enter Tryz.func43,Tryz.ntmps43;go_upto_region 1 with(fail);go_cut [13] (fun s wx=>s=.bool (!Jk n.op)/\wx=W)
 case first =>
  as_aux_lemma =>
   by_cases h1:n.op < 1
   ·have HO:=Qq (show Jk n.op=false by simp [Jk];omega);go_wp2_with fail;go_meet;exact⟨by rw [HO.out];rfl,HW.out.symm⟩
   by_cases h2:21 < n.op
   ·have HO:=Qq (show Jk n.op=false by simp [Jk];omega);go_wp2_with fail;go_meet;exact⟨by rw [HO.out];rfl,HW.out.symm⟩
   have HO:=Qq (show Jk n.op=true by simp [Jk];omega);go_wp2_with fail;go_meet;exact⟨by rw [HO.out];rfl,HW.out.symm⟩
 case rest =>
  obtain⟨rfl,rfl⟩:=hcut;cases ho:Jk n.op
  ·have HR:=Qq (Qsq (a:=at_) ho);go_wp2_with fail;go_ret;exact⟨Kx HR.out.symm,by rw [HW.out];exact Qz.alloc _⟩
  have HO:=Qq ho;clear ho;obtain⟨⟨d0,d1,d2,d3,d4,d5⟩,dfr,dlt⟩:=Yx (show wc.heap[w.heap.size]?=some (.cells #[.int .i64 n.op,.int .i64 n.i,.int .i64 n.e,.int .i64 n.g,.int .i64 n.x,.int .i64 n.y] 71 (0,0)) by rw [HW.out];exact heap_alloc_new _ _);go_upto_region 3 with(fail);go_cut [38] (fun s wx=>s=.bool (!Qs (Qh n.op) n.x at_)/\wx=wc)
  case first =>
   as_aux_lemma =>
    cases hu:Qh n.op
    ·have HU:=Qq hu;clear hu;by_cases h:n.x=0
     ·have HS:=Qq (show Qs false n.x at_=true by simp [Qs,h]);have hb:(n.x !=0)=false:=by simp [h]
      clear h;go_wp2_with(go_at_call 103;refine(Bq HU.out _).mono ?_;rintro e w' ⟨rfl,rfl⟩);go_meet;exact⟨by rw [HU.out,HS.out];rfl,rfl⟩
     have HS:=Qq (show Qs false n.x at_=false by simp [Qs,h]);have hb:(n.x !=0)=true:=by simpa using h
     clear h;go_wp2_with(go_at_call 103;refine(Bq HU.out _).mono ?_;rintro e w' ⟨rfl,rfl⟩);go_meet;exact⟨by rw [HU.out,HS.out];rfl,rfl⟩
    have HU:=Qq hu;clear hu;by_cases h:n.x < 0
    ·have HS:=Qq (show Qs true n.x at_=false by simp [Qs];omega);have hd:decide (n.x < 0)=true:=by simp;omega
     go_wp2_with(go_at_call 103;refine(Bq HU.out _).mono ?_;rintro e w' ⟨rfl,rfl⟩);go_meet;exact⟨by rw [HU.out,HS.out];rfl,rfl⟩
    have hd:decide (n.x < 0)=false:=by simp;omega
    by_cases h2:n.x < at_
    ·have HS:=Qq (show Qs true n.x at_=true by simp [Qs];omega);have hb:decide (at_<=n.x)=false:=by simp;omega
     clear h h2;go_wp2_with(go_at_call 103;refine(Bq HU.out _).mono ?_;rintro e w' ⟨rfl,rfl⟩);go_meet;exact⟨by rw [HU.out,HS.out];rfl,rfl⟩
    have HS:=Qq (show Qs true n.x at_=false by simp [Qs];omega);have hb:decide (at_<=n.x)=true:=by simp;omega
    clear h h2;go_wp2_with(go_at_call 103;refine(Bq HU.out _).mono ?_;rintro e w' ⟨rfl,rfl⟩);go_meet;exact⟨by rw [HU.out,HS.out];rfl,rfl⟩
  case rest =>
   obtain⟨rfl,rfl⟩:=hcut;cases hx:Qs (Qh n.op) n.x at_
   ·have HR:=Qq (Ql8 HO.out hx);go_wp2_with fail;go_ret;exact⟨Kx HR.out.symm,by rw [HW.out];exact Qz.alloc _⟩
   have HX:=Qq hx;clear hx;go_upto_region 5 with(fail);go_cut [63] (fun s wx=>s=.bool (!Qs (Qc n.op) n.y at_)/\wx=wc)
   case first =>
    as_aux_lemma =>
     cases hu:Qc n.op
     ·have HU:=Qq hu;clear hu;by_cases h:n.y=0
      ·have HS:=Qq (show Qs false n.y at_=true by simp [Qs,h]);have hb:(n.y !=0)=false:=by simp [h]
       clear h;go_wp2_with(go_at_call 104;refine(Bz HU.out _).mono ?_;rintro e w' ⟨rfl,rfl⟩);go_meet;exact⟨by rw [HU.out,HS.out];rfl,rfl⟩
      have HS:=Qq (show Qs false n.y at_=false by simp [Qs,h]);have hb:(n.y !=0)=true:=by simpa using h
      clear h;go_wp2_with(go_at_call 104;refine(Bz HU.out _).mono ?_;rintro e w' ⟨rfl,rfl⟩);go_meet;exact⟨by rw [HU.out,HS.out];rfl,rfl⟩
     have HU:=Qq hu;clear hu;by_cases h:n.y < 0
     ·have HS:=Qq (show Qs true n.y at_=false by simp [Qs];omega);have hd:decide (n.y < 0)=true:=by simp;omega
      go_wp2_with(go_at_call 104;refine(Bz HU.out _).mono ?_;rintro e w' ⟨rfl,rfl⟩);go_meet;exact⟨by rw [HU.out,HS.out];rfl,rfl⟩
     have hd:decide (n.y < 0)=false:=by simp;omega
     by_cases h2:n.y < at_
     ·have HS:=Qq (show Qs true n.y at_=true by simp [Qs];omega);have hb:decide (at_<=n.y)=false:=by simp;omega
      clear h h2;go_wp2_with(go_at_call 104;refine(Bz HU.out _).mono ?_;rintro e w' ⟨rfl,rfl⟩);go_meet;exact⟨by rw [HU.out,HS.out];rfl,rfl⟩
     have HS:=Qq (show Qs true n.y at_=false by simp [Qs];omega);have hb:decide (at_<=n.y)=true:=by simp;omega
     clear h h2;go_wp2_with(go_at_call 104;refine(Bz HU.out _).mono ?_;rintro e w' ⟨rfl,rfl⟩);go_meet;exact⟨by rw [HU.out,HS.out];rfl,rfl⟩
   case rest =>
    obtain⟨rfl,rfl⟩:=hcut;cases hy:Qs (Qc n.op) n.y at_
    ·have HR:=Qq (Ql9 HO.out HX.out hy);go_wp2_with fail;go_ret;exact⟨Kx HR.out.symm,by rw [HW.out];exact Qz.alloc _⟩
    have HY:=Qq hy;clear hy;go_upto_region 7 with(fail);go_cut [5] (fun s wx=>s=.bool (Zk n.op||Qe n.op||Qw n.op)/\wx=wc)
    case first =>
     as_aux_lemma =>
      rcases Qqj n.op with⟨hf,ha,hg,he⟩|⟨hf,ha,hg,he⟩|⟨hf,ha,hg,he⟩|⟨hf,ha,hg,he⟩|⟨hf,ha,hg,he⟩
      ·have e3:=Jo hf;have e17:=Jt he;have n17:=Jw he;have HF:=Qq hf;have HA:=Qq ha;have HG:=Qq hg;have HE:=Qq he;clear hf ha hg he n17;go_wp2_with(go_at_call 105;refine(Xn HA.out _).mono ?_;rintro e w' ⟨rfl,rfl⟩);go_meet;exact⟨by rw [HF.out,HA.out,HE.out];rfl,rfl⟩
      ·have e3:=Jo hf;have e17:=Jt he;have n17:=Jw he;have HF:=Qq hf;have HA:=Qq ha;have HG:=Qq hg;have HE:=Qq he;clear hf ha hg he n17;go_wp2_with(go_at_call 105;refine(Xn HA.out _).mono ?_;rintro e w' ⟨rfl,rfl⟩);go_meet;exact⟨by rw [HF.out,HA.out,HE.out];rfl,rfl⟩
      ·have e3:=Jo hf;have e17:=Jt he;have n17:=Jw he;have HF:=Qq hf;have HA:=Qq ha;have HG:=Qq hg;have HE:=Qq he;clear hf ha hg he n17;go_wp2_with(go_at_call 105;refine(Xn HA.out _).mono ?_;rintro e w' ⟨rfl,rfl⟩);go_meet;exact⟨by rw [HF.out,HA.out,HE.out];rfl,rfl⟩
      ·have e3:=Jo hf;have e17:=Jt he;have n17:=Jw he;have HF:=Qq hf;have HA:=Qq ha;have HG:=Qq hg;have HE:=Qq he;clear hf ha hg he n17;go_wp2_with(go_at_call 105;refine(Xn HA.out _).mono ?_;rintro e w' ⟨rfl,rfl⟩);go_meet;exact⟨by rw [HF.out,HA.out,HE.out];rfl,rfl⟩
      have e3:=Jo hf;have e17:=Jt he;have n17:=Jw he;have HF:=Qq hf;have HA:=Qq ha;have HG:=Qq hg;have HE:=Qq he;clear hf ha hg he n17;go_wp2_with(go_at_call 105;refine(Xn HA.out _).mono ?_;rintro e w' ⟨rfl,rfl⟩);go_meet;exact⟨by rw [HF.out,HA.out,HE.out];rfl,rfl⟩
    case rest =>
     obtain⟨rfl,rfl⟩:=hcut;go_upto_region 8 with(fail);go_cut [5,104] (fun _ s wx=>s=.bool (Zv n)/\wx=wc)
     case first =>
      as_aux_lemma =>
       rcases Qqj n.op with⟨hf,ha,hg,he⟩|⟨hf,ha,hg,he⟩|⟨hf,ha,hg,he⟩|⟨hf,ha,hg,he⟩|⟨hf,ha,hg,he⟩
       ·have e3:=Jo hf;have e17:=Jt he;have n17:=Jw he;have HF:=Qq hf;have HA:=Qq ha;have HG:=Qq hg;have HE:=Qq he;rw [hf,ha,he];clear hf ha hg he e3 e17;by_cases hi:n.i=0
        ·skip
         by_cases he:n.e=0
         ·skip
          by_cases hg:n.g=0
          ·skip
           have HS:=Qq (show Zv n=false by simp [Zv,HF.out,HA.out,HG.out,HE.out,hi,he,hg]);have zi:(n.i !=0)=false:=by simp [hi]
           have ze:(n.e !=0)=false:=by simp [he]
           have zg:(n.g !=0)=false:=by simp [hg]
           clear hi he hg;go_wp2_with(go_at_call 106;refine(Yo HG.out _).mono ?_;rintro e w' ⟨rfl,rfl⟩);go_meet;exact⟨by rw [HS.out],rfl⟩
          have zg:(n.g !=0)=true:=by simpa using hg
          have HS:=Qq (show Zv n=true by simp only [Zv,HF.out,HA.out,HG.out,HE.out,zg];simp);have zi:(n.i !=0)=false:=by simp [hi]
          have ze:(n.e !=0)=false:=by simp [he]
          clear hi he hg;go_wp2_with(go_at_call 106;refine(Yo HG.out _).mono ?_;rintro e w' ⟨rfl,rfl⟩);go_meet;exact⟨by rw [HS.out],rfl⟩
         have ze:(n.e !=0)=true:=by simpa using he
         have HS:=Qq (show Zv n=true by simp only [Zv,HF.out,HA.out,HG.out,HE.out,ze];simp);have zi:(n.i !=0)=false:=by simp [hi]
         clear hi he;go_wp2_with(go_at_call 106;refine(Yo HG.out _).mono ?_;rintro e w' ⟨rfl,rfl⟩);go_meet;exact⟨by rw [HS.out],rfl⟩
        have zi:(n.i !=0)=true:=by simpa using hi
        have HS:=Qq (show Zv n=true by simp only [Zv,HF.out,HA.out,HG.out,HE.out,zi];simp);clear hi;go_wp2_with(go_at_call 106;refine(Yo HG.out _).mono ?_;rintro e w' ⟨rfl,rfl⟩);go_meet;exact⟨by rw [HS.out],rfl⟩
       ·have e3:=Jo hf;have e17:=Jt he;have n17:=Jw he;have HF:=Qq hf;have HA:=Qq ha;have HG:=Qq hg;have HE:=Qq he;rw [hf,ha,he];clear hf ha hg he e3 e17;by_cases he:n.e=0
        ·skip
         by_cases hg:n.g=0
         ·skip
          have HS:=Qq (show Zv n=false by simp [Zv,HF.out,HA.out,HG.out,HE.out,he,hg]);have ze:(n.e !=0)=false:=by simp [he]
          have zg:(n.g !=0)=false:=by simp [hg]
          clear he hg;go_wp2_with(go_at_call 106;refine(Yo HG.out _).mono ?_;rintro e w' ⟨rfl,rfl⟩);go_meet;exact⟨by rw [HS.out],rfl⟩
         have zg:(n.g !=0)=true:=by simpa using hg
         have HS:=Qq (show Zv n=true by simp only [Zv,HF.out,HA.out,HG.out,HE.out,zg];simp);have ze:(n.e !=0)=false:=by simp [he]
         clear he hg;go_wp2_with(go_at_call 106;refine(Yo HG.out _).mono ?_;rintro e w' ⟨rfl,rfl⟩);go_meet;exact⟨by rw [HS.out],rfl⟩
        have ze:(n.e !=0)=true:=by simpa using he
        have HS:=Qq (show Zv n=true by simp only [Zv,HF.out,HA.out,HG.out,HE.out,ze];simp);clear he;go_wp2_with(go_at_call 106;refine(Yo HG.out _).mono ?_;rintro e w' ⟨rfl,rfl⟩);go_meet;exact⟨by rw [HS.out],rfl⟩
       ·have e3:=Jo hf;have e17:=Jt he;have n17:=Jw he;have HF:=Qq hf;have HA:=Qq ha;have HG:=Qq hg;have HE:=Qq he;rw [hf,ha,he];clear hf ha hg he e3 e17;by_cases he:n.e=0
        ·skip
         by_cases hg:n.g=0
         ·skip
          have HS:=Qq (show Zv n=false by simp [Zv,HF.out,HA.out,HG.out,HE.out,he,hg]);have ze:(n.e !=0)=false:=by simp [he]
          have zg:(n.g !=0)=false:=by simp [hg]
          clear he hg;go_wp2_with(go_at_call 106;refine(Yo HG.out _).mono ?_;rintro e w' ⟨rfl,rfl⟩);go_meet;exact⟨by rw [HS.out],rfl⟩
         have zg:(n.g !=0)=true:=by simpa using hg
         have HS:=Qq (show Zv n=true by simp only [Zv,HF.out,HA.out,HG.out,HE.out,zg];simp);have ze:(n.e !=0)=false:=by simp [he]
         clear he hg;go_wp2_with(go_at_call 106;refine(Yo HG.out _).mono ?_;rintro e w' ⟨rfl,rfl⟩);go_meet;exact⟨by rw [HS.out],rfl⟩
        have ze:(n.e !=0)=true:=by simpa using he
        have HS:=Qq (show Zv n=true by simp only [Zv,HF.out,HA.out,HG.out,HE.out,ze];simp);clear he;go_wp2_with(go_at_call 106;refine(Yo HG.out _).mono ?_;rintro e w' ⟨rfl,rfl⟩);go_meet;exact⟨by rw [HS.out],rfl⟩
       ·have e3:=Jo hf;have e17:=Jt he;have n17:=Jw he;have HF:=Qq hf;have HA:=Qq ha;have HG:=Qq hg;have HE:=Qq he;rw [hf,ha,he];clear hf ha hg he e3 e17;by_cases hi:n.i=0
        ·skip
         by_cases he:n.e=0
         ·skip
          have HS:=Qq (show Zv n=false by simp [Zv,HF.out,HA.out,HG.out,HE.out,hi,he]);have zi:(n.i !=0)=false:=by simp [hi]
          have ze:(n.e !=0)=false:=by simp [he]
          clear hi he;go_wp2_with(go_at_call 106;refine(Yo HG.out _).mono ?_;rintro e w' ⟨rfl,rfl⟩);go_meet;exact⟨by rw [HS.out],rfl⟩
         have ze:(n.e !=0)=true:=by simpa using he
         have HS:=Qq (show Zv n=true by simp only [Zv,HF.out,HA.out,HG.out,HE.out,ze];simp);have zi:(n.i !=0)=false:=by simp [hi]
         clear hi he;go_wp2_with(go_at_call 106;refine(Yo HG.out _).mono ?_;rintro e w' ⟨rfl,rfl⟩);go_meet;exact⟨by rw [HS.out],rfl⟩
        have zi:(n.i !=0)=true:=by simpa using hi
        have HS:=Qq (show Zv n=true by simp only [Zv,HF.out,HA.out,HG.out,HE.out,zi];simp);clear hi;go_wp2_with(go_at_call 106;refine(Yo HG.out _).mono ?_;rintro e w' ⟨rfl,rfl⟩);go_meet;exact⟨by rw [HS.out],rfl⟩
       have e3:=Jo hf;have e17:=Jt he;have n17:=Jw he;have HF:=Qq hf;have HA:=Qq ha;have HG:=Qq hg;have HE:=Qq he;rw [hf,ha,he];clear hf ha hg he e3 e17;by_cases hg:n.g=0
       ·skip
        have HS:=Qq (show Zv n=false by simp [Zv,HF.out,HA.out,HG.out,HE.out,hg]);have zg:(n.g !=0)=false:=by simp [hg]
        clear hg;go_wp2_with(go_at_call 106;refine(Yo HG.out _).mono ?_;rintro e w' ⟨rfl,rfl⟩);go_meet;exact⟨by rw [HS.out],rfl⟩
       have zg:(n.g !=0)=true:=by simpa using hg
       have HS:=Qq (show Zv n=true by simp only [Zv,HF.out,HA.out,HG.out,HE.out,zg];simp);clear hg;go_wp2_with(go_at_call 106;refine(Yo HG.out _).mono ?_;rintro e w' ⟨rfl,rfl⟩);go_meet;exact⟨by rw [HS.out],rfl⟩
     case rest =>
      obtain⟨rfl,rfl⟩:=hcut;cases hfb:Zv n
      ·have HFB:=Qq hfb;clear hfb;go_upto_region 10 with(fail);go_cut [132] (fun s wx=>s=.bool (Qr (Zk n.op) n.i 0 7||Qr (Qe n.op) n.i 0 3)/\wx=wc)
       case first =>
        as_aux_lemma =>
         rcases Qqj n.op with⟨hf,ha,hg,he⟩|⟨hf,ha,hg,he⟩|⟨hf,ha,hg,he⟩|⟨hf,ha,hg,he⟩|⟨hf,ha,hg,he⟩
         ·have e3:=Jo hf;have e17:=Jt he;have n17:=Jw he;have HF:=Qq hf;have HA:=Qq ha;have HG:=Qq hg;have HE:=Qq he;clear hf ha hg he n17;have HS:=Qq (show(Qr (Zk n.op) n.i 0 7||Qr (Qe n.op) n.i 0 3)=false by simp [Qr,HF.out,HA.out]);go_wp2_with(go_at_call 105;refine(Xn HA.out _).mono ?_;rintro e w' ⟨rfl,rfl⟩);go_meet;exact⟨by rw [HS.out],rfl⟩
         ·have e3:=Jo hf;have e17:=Jt he;have n17:=Jw he;have HF:=Qq hf;have HA:=Qq ha;have HG:=Qq hg;have HE:=Qq he;clear hf ha hg he n17;by_cases l0:n.i < 0
          ·have d0:decide (n.i < 0)=true:=by simp;omega
           have HS:=Qq (show(Qr (Zk n.op) n.i 0 7||Qr (Qe n.op) n.i 0 3)=true by simp [Qr,HF.out,HA.out];omega);go_wp2_with(go_at_call 105;refine(Xn HA.out _).mono ?_;rintro e w' ⟨rfl,rfl⟩);go_meet;exact⟨by rw [HS.out],rfl⟩
          have d0:decide (n.i < 0)=false:=by simp;omega
          by_cases u0:8<=n.i
          ·have v0:decide (8<=n.i)=true:=by simp;omega
           have HS:=Qq (show(Qr (Zk n.op) n.i 0 7||Qr (Qe n.op) n.i 0 3)=true by simp [Qr,HF.out,HA.out];omega);go_wp2_with(go_at_call 105;refine(Xn HA.out _).mono ?_;rintro e w' ⟨rfl,rfl⟩);go_meet;exact⟨by rw [HS.out],rfl⟩
          have v0:decide (8<=n.i)=false:=by simp;omega
          have HS:=Qq (show(Qr (Zk n.op) n.i 0 7||Qr (Qe n.op) n.i 0 3)=false by simp [Qr,HF.out,HA.out];omega);go_wp2_with(go_at_call 105;refine(Xn HA.out _).mono ?_;rintro e w' ⟨rfl,rfl⟩);go_meet;exact⟨by rw [HS.out],rfl⟩
         ·have e3:=Jo hf;have e17:=Jt he;have n17:=Jw he;have HF:=Qq hf;have HA:=Qq ha;have HG:=Qq hg;have HE:=Qq he;clear hf ha hg he n17;by_cases l0:n.i < 0
          ·have d0:decide (n.i < 0)=true:=by simp;omega
           have HS:=Qq (show(Qr (Zk n.op) n.i 0 7||Qr (Qe n.op) n.i 0 3)=true by simp [Qr,HF.out,HA.out];omega);go_wp2_with(go_at_call 105;refine(Xn HA.out _).mono ?_;rintro e w' ⟨rfl,rfl⟩);go_meet;exact⟨by rw [HS.out],rfl⟩
          have d0:decide (n.i < 0)=false:=by simp;omega
          by_cases u0:4<=n.i
          ·have v0:decide (4<=n.i)=true:=by simp;omega
           have HS:=Qq (show(Qr (Zk n.op) n.i 0 7||Qr (Qe n.op) n.i 0 3)=true by simp [Qr,HF.out,HA.out];omega);go_wp2_with(go_at_call 105;refine(Xn HA.out _).mono ?_;rintro e w' ⟨rfl,rfl⟩);go_meet;exact⟨by rw [HS.out],rfl⟩
          have v0:decide (4<=n.i)=false:=by simp;omega
          have HS:=Qq (show(Qr (Zk n.op) n.i 0 7||Qr (Qe n.op) n.i 0 3)=false by simp [Qr,HF.out,HA.out];omega);go_wp2_with(go_at_call 105;refine(Xn HA.out _).mono ?_;rintro e w' ⟨rfl,rfl⟩);go_meet;exact⟨by rw [HS.out],rfl⟩
         ·have e3:=Jo hf;have e17:=Jt he;have n17:=Jw he;have HF:=Qq hf;have HA:=Qq ha;have HG:=Qq hg;have HE:=Qq he;clear hf ha hg he n17;have HS:=Qq (show(Qr (Zk n.op) n.i 0 7||Qr (Qe n.op) n.i 0 3)=false by simp [Qr,HF.out,HA.out]);go_wp2_with(go_at_call 105;refine(Xn HA.out _).mono ?_;rintro e w' ⟨rfl,rfl⟩);go_meet;exact⟨by rw [HS.out],rfl⟩
         have e3:=Jo hf;have e17:=Jt he;have n17:=Jw he;have HF:=Qq hf;have HA:=Qq ha;have HG:=Qq hg;have HE:=Qq he;clear hf ha hg he n17;have HS:=Qq (show(Qr (Zk n.op) n.i 0 7||Qr (Qe n.op) n.i 0 3)=false by simp [Qr,HF.out,HA.out]);go_wp2_with(go_at_call 105;refine(Xn HA.out _).mono ?_;rintro e w' ⟨rfl,rfl⟩);go_meet;exact⟨by rw [HS.out],rfl⟩
       case rest =>
        obtain⟨rfl,rfl⟩:=hcut;cases hr0:(Qr (Zk n.op) n.i 0 7||Qr (Qe n.op) n.i 0 3)
        ·have HR0:=Qq hr0;clear hr0;go_upto_region 12 with(fail);go_cut [155] (fun s wx=>s=.bool (Qr (Qw n.op) n.i 0 7||Qr (Qw n.op) n.e 0 7)/\wx=wc)
         case first =>
          as_aux_lemma =>
           rcases Qqj n.op with⟨hf,ha,hg,he⟩|⟨hf,ha,hg,he⟩|⟨hf,ha,hg,he⟩|⟨hf,ha,hg,he⟩|⟨hf,ha,hg,he⟩
           ·have e3:=Jo hf;have e17:=Jt he;have n17:=Jw he;have HF:=Qq hf;have HA:=Qq ha;have HG:=Qq hg;have HE:=Qq he;clear hf ha hg he n17;have HS:=Qq (show(Qr (Qw n.op) n.i 0 7||Qr (Qw n.op) n.e 0 7)=false by simp [Qr,HE.out]);go_wp2_with(fail);go_meet;exact⟨by rw [HS.out],rfl⟩
           ·have e3:=Jo hf;have e17:=Jt he;have n17:=Jw he;have HF:=Qq hf;have HA:=Qq ha;have HG:=Qq hg;have HE:=Qq he;clear hf ha hg he n17;have HS:=Qq (show(Qr (Qw n.op) n.i 0 7||Qr (Qw n.op) n.e 0 7)=false by simp [Qr,HE.out]);go_wp2_with(fail);go_meet;exact⟨by rw [HS.out],rfl⟩
           ·have e3:=Jo hf;have e17:=Jt he;have n17:=Jw he;have HF:=Qq hf;have HA:=Qq ha;have HG:=Qq hg;have HE:=Qq he;clear hf ha hg he n17;have HS:=Qq (show(Qr (Qw n.op) n.i 0 7||Qr (Qw n.op) n.e 0 7)=false by simp [Qr,HE.out]);go_wp2_with(fail);go_meet;exact⟨by rw [HS.out],rfl⟩
           ·have e3:=Jo hf;have e17:=Jt he;have n17:=Jw he;have HF:=Qq hf;have HA:=Qq ha;have HG:=Qq hg;have HE:=Qq he;clear hf ha hg he n17;have HS:=Qq (show(Qr (Qw n.op) n.i 0 7||Qr (Qw n.op) n.e 0 7)=false by simp [Qr,HE.out]);go_wp2_with(fail);go_meet;exact⟨by rw [HS.out],rfl⟩
           have e3:=Jo hf;have e17:=Jt he;have n17:=Jw he;have HF:=Qq hf;have HA:=Qq ha;have HG:=Qq hg;have HE:=Qq he;clear hf ha hg he n17;by_cases l0:n.i < 0
           ·have d0:decide (n.i < 0)=true:=by simp;omega
            have HS:=Qq (show(Qr (Qw n.op) n.i 0 7||Qr (Qw n.op) n.e 0 7)=true by simp [Qr,HE.out];omega);go_wp2_with(fail);go_meet;exact⟨by rw [HS.out],rfl⟩
           have d0:decide (n.i < 0)=false:=by simp;omega
           by_cases u0:8<=n.i
           ·have v0:decide (8<=n.i)=true:=by simp;omega
            have HS:=Qq (show(Qr (Qw n.op) n.i 0 7||Qr (Qw n.op) n.e 0 7)=true by simp [Qr,HE.out];omega);go_wp2_with(fail);go_meet;exact⟨by rw [HS.out],rfl⟩
           have v0:decide (8<=n.i)=false:=by simp;omega
           by_cases l1:n.e < 0
           ·have d1:decide (n.e < 0)=true:=by simp;omega
            have HS:=Qq (show(Qr (Qw n.op) n.i 0 7||Qr (Qw n.op) n.e 0 7)=true by simp [Qr,HE.out];omega);go_wp2_with(fail);go_meet;exact⟨by rw [HS.out],rfl⟩
           have d1:decide (n.e < 0)=false:=by simp;omega
           by_cases u1:8<=n.e
           ·have v1:decide (8<=n.e)=true:=by simp;omega
            have HS:=Qq (show(Qr (Qw n.op) n.i 0 7||Qr (Qw n.op) n.e 0 7)=true by simp [Qr,HE.out];omega);go_wp2_with(fail);go_meet;exact⟨by rw [HS.out],rfl⟩
           have v1:decide (8<=n.e)=false:=by simp;omega
           have HS:=Qq (show(Qr (Qw n.op) n.i 0 7||Qr (Qw n.op) n.e 0 7)=false by simp [Qr,HE.out];omega);go_wp2_with(fail);go_meet;exact⟨by rw [HS.out],rfl⟩
         case rest =>
          obtain⟨rfl,rfl⟩:=hcut;cases hr1:(Qr (Qw n.op) n.i 0 7||Qr (Qw n.op) n.e 0 7)
          ·have HR1:=Qq hr1;clear hr1;go_upto_region 14 with(fail);go_cut [168] (fun s wx=>s=.bool (Qr (Zz n.op) n.g 1 15)/\wx=wc)
           case first =>
            as_aux_lemma =>
             rcases Qqj n.op with⟨hf,ha,hg,he⟩|⟨hf,ha,hg,he⟩|⟨hf,ha,hg,he⟩|⟨hf,ha,hg,he⟩|⟨hf,ha,hg,he⟩
             ·have e3:=Jo hf;have e17:=Jt he;have n17:=Jw he;have HF:=Qq hf;have HA:=Qq ha;have HG:=Qq hg;have HE:=Qq he;clear hf ha hg he n17;have HS:=Qq (show(Qr (Zz n.op) n.g 1 15)=false by simp [Qr,HG.out]);go_wp2_with(go_at_call 106;refine(Yo HG.out _).mono ?_;rintro e w' ⟨rfl,rfl⟩);go_meet;exact⟨by rw [HS.out],rfl⟩
             ·have e3:=Jo hf;have e17:=Jt he;have n17:=Jw he;have HF:=Qq hf;have HA:=Qq ha;have HG:=Qq hg;have HE:=Qq he;clear hf ha hg he n17;have HS:=Qq (show(Qr (Zz n.op) n.g 1 15)=false by simp [Qr,HG.out]);go_wp2_with(go_at_call 106;refine(Yo HG.out _).mono ?_;rintro e w' ⟨rfl,rfl⟩);go_meet;exact⟨by rw [HS.out],rfl⟩
             ·have e3:=Jo hf;have e17:=Jt he;have n17:=Jw he;have HF:=Qq hf;have HA:=Qq ha;have HG:=Qq hg;have HE:=Qq he;clear hf ha hg he n17;have HS:=Qq (show(Qr (Zz n.op) n.g 1 15)=false by simp [Qr,HG.out]);go_wp2_with(go_at_call 106;refine(Yo HG.out _).mono ?_;rintro e w' ⟨rfl,rfl⟩);go_meet;exact⟨by rw [HS.out],rfl⟩
             ·have e3:=Jo hf;have e17:=Jt he;have n17:=Jw he;have HF:=Qq hf;have HA:=Qq ha;have HG:=Qq hg;have HE:=Qq he;clear hf ha hg he n17;by_cases l0:n.g < 1
              ·have d0:decide (n.g < 1)=true:=by simp;omega
               have HS:=Qq (show(Qr (Zz n.op) n.g 1 15)=true by simp [Qr,HG.out];omega);go_wp2_with(go_at_call 106;refine(Yo HG.out _).mono ?_;rintro e w' ⟨rfl,rfl⟩);go_meet;exact⟨by rw [HS.out],rfl⟩
              have d0:decide (n.g < 1)=false:=by simp;omega
              by_cases u0:16<=n.g
              ·have v0:decide (16<=n.g)=true:=by simp;omega
               have HS:=Qq (show(Qr (Zz n.op) n.g 1 15)=true by simp [Qr,HG.out];omega);go_wp2_with(go_at_call 106;refine(Yo HG.out _).mono ?_;rintro e w' ⟨rfl,rfl⟩);go_meet;exact⟨by rw [HS.out],rfl⟩
              have v0:decide (16<=n.g)=false:=by simp;omega
              have HS:=Qq (show(Qr (Zz n.op) n.g 1 15)=false by simp [Qr,HG.out];omega);go_wp2_with(go_at_call 106;refine(Yo HG.out _).mono ?_;rintro e w' ⟨rfl,rfl⟩);go_meet;exact⟨by rw [HS.out],rfl⟩
             have e3:=Jo hf;have e17:=Jt he;have n17:=Jw he;have HF:=Qq hf;have HA:=Qq ha;have HG:=Qq hg;have HE:=Qq he;clear hf ha hg he n17;have HS:=Qq (show(Qr (Zz n.op) n.g 1 15)=false by simp [Qr,HG.out]);go_wp2_with(go_at_call 106;refine(Yo HG.out _).mono ?_;rintro e w' ⟨rfl,rfl⟩);go_meet;exact⟨by rw [HS.out],rfl⟩
           case rest =>
            obtain⟨rfl,rfl⟩:=hcut;cases hr2:(Qr (Zz n.op) n.g 1 15)
            ·have HR2:=Qq hr2;clear hr2;have HR:=Qq (Qyt HO.out HX.out HY.out HFB.out (Qhq HR0.out HR1.out HR2.out));go_wp2_with fail;go_ret;exact⟨Kx HR.out.symm,by rw [HW.out];exact Qz.alloc _⟩
            have HR:=Qq (Oj HO.out HX.out HY.out HFB.out (Qsd hr2));clear hr2;go_wp2_with fail;go_ret;exact⟨Kx HR.out.symm,by rw [HW.out];exact Qz.alloc _⟩
          have HR:=Qq (Oj HO.out HX.out HY.out HFB.out (Qsb hr1));clear hr1;go_wp2_with fail;go_ret;exact⟨Kx HR.out.symm,by rw [HW.out];exact Qz.alloc _⟩
        have HR:=Qq (Oj HO.out HX.out HY.out HFB.out (Qsf hr0));clear hr0;go_wp2_with fail;go_ret;exact⟨Kx HR.out.symm,by rw [HW.out];exact Qz.alloc _⟩
      have HR:=Qq (Ql7 HO.out HX.out HY.out hfb);clear hfb;go_wp2_with fail;go_ret;exact⟨Kx HR.out.symm,by rw [HW.out];exact Qz.alloc _⟩
end Go.Proofs.YtkmclcmnoicagaaGreatDoor
