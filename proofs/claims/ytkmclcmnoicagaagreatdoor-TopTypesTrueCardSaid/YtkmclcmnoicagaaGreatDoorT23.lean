/- relation.Has at transitivity. -/
import Derived.Test.YtkmclcmnoicagaaGreatDoorT22
import Derived.OrdersIn
namespace Go.Proofs.YtkmclcmnoicagaaGreatDoor
set_option maxRecDepth 100000
set_option maxHeartbeats 128000000
open Go.RowKit
def trB(l:List Nat)(k:Nat):Bool:=Yw (orL l (Kr (l.getD k 0))) (l.getD k 0)
section
variable {P:Program} {n l:Nat} {ops:Array Oper} {Q:Exit->Act->World->Prop} {md:Region.Mode}
def Zzr(ops:Array Oper):Bool:=ops.all fun o=>match o.op with| .defer _=>false|_=>true
end
end Go.Proofs.YtkmclcmnoicagaaGreatDoor
