/- The constructor Poss. -/
import Derived.Test.YtmidgcldljfkcaaGreatDoorM01
import Derived.Test.YtmidgcldljfkcaaGreatDoorM04
namespace Go.Proofs.YtmidgcldljfkcaaGreatDoor
set_option maxRecDepth 100000
set_option maxHeartbeats 128000000
open Go.RowKit
theorem poss_any(a:Int)(ha:i64ok a)(v1:Value)(f:List Nd)(w:World)(h1:Fml w v1 f):
 Calls Tryz.prog 123 #[.int .i64 a,v1] w fun e w'=>∃u,e=.returned u/\Made w w' u (possN a f):=by
 have H1:=Qq h1;obtain⟨A1,c1,rfl,_⟩:=fml_slice h1;clear h1;go_enter Tryz.func123,Tryz.ntmps123;go_wp2_with fail;refine(build_any ⟨10,a,0,0,0,0⟩ _ [f] _ (small_ok (i64_small (by omega) (by omega)) ha (i64_small (by omega) (by omega)) (i64_small (by omega) (by omega)) (i64_small (by omega) (by omega)) (i64_small (by omega) (by omega))) (fmls_one H1.out) (by simp)).mono ?_;rintro e w1 ⟨u,rfl,hm⟩;have HM:=Qq hm;clear hm;go_wp2_with fail;go_ret;exact⟨_,rfl,(HM.out.before (Qz.alloc _))⟩
def orN(f g:List Nd):List Nd:=buildN ⟨6,0,0,0,0,0⟩ [f,g]
def iffN(f g:List Nd):List Nd:=buildN ⟨8,0,0,0,0,0⟩ [f,g]
end Go.Proofs.YtmidgcldljfkcaaGreatDoor
