/- relation.Has at euclidity. -/
import Derived.Test.YtkmclcmnoicagaaGreatDoorT23
namespace Go.Proofs.YtkmclcmnoicagaaGreatDoor
set_option maxRecDepth 100000
set_option maxHeartbeats 128000000
open Go.RowKit
attribute [local go_sem] Oper.semAt_some
def euB(l:List Nat)(k:Nat):Bool:=(Kr (l.getD k 0)).all fun x=>Yw (l.getD k 0) (l.getD x 0)
def EuI(b:Nat)(wr:World)(l:List Nat)(A:Option Addr)(c k:Nat)(pre:List Nat)(W:World):Prop :=
 Boxed W b 23 (.slice A l.length c)/\Boxed W wr.heap.size 3 (.int .i64 (k:Int))/\Boxed W (b+1) 4 (.bool false)/\Ext wr W/\∀x∈pre,Yw (l.getD k 0) (l.getD x 0)=true
def EuX(b z:Nat)(w:World)(l:List Nat)(k:Nat)(ds:List Deferred)(_:List Nat)(W:World):Prop :=
 Boxed W (b+1) 4 (.bool false)/\Ext w W/\Zqy z ds W/\euB l k=false
end Go.Proofs.YtkmclcmnoicagaaGreatDoor
