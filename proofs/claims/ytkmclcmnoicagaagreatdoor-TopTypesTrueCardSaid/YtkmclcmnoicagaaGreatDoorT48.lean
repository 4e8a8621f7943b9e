/- What a negation normal form says: the same as the formula, or the opposite. Plain. -/
import Derived.Test.YtkmclcmnoicagaaGreatDoorT17
namespace Go.Proofs.YtkmclcmnoicagaaGreatDoor
set_option maxRecDepth 100000
set_option maxHeartbeats 128000000
theorem unT {n:Nd} {f:List Nd}(h1:Qh n.op=true)(h2:Qc n.op=false)(hh:Zn n)(hn:n.head=n)(h:check (Jc n [f])=0):check f=0/\Ql (Jc n [f])=.one n (Ql f):=by
 by_cases hf:check f=0
 ·refine⟨hf,?_⟩;have e:=Hv hf h1 h2 hh;rw [hn]at e;have hd:(Tr.one n (Ql f)).ok:=⟨h1,h2,hn,Qkw hf⟩;by_cases hl:(Qf (.one n (Ql f))).length<=200
  ·rw [e,Xx hl];exact Vf hd
  rw [e,Kf (by omega)]at h;exact absurd h Da
 rw [Hy hf]at h;exact absurd h Da
section
variable {M:KM} {w:M.W} {f g:List Nd}
theorem Qnz(h:check (Jp f)=0):check f=0/\(M.sat (Ql (Jp f)) w↔¬M.sat (Ql f) w):=by
 obtain⟨h1,e⟩:=unT (n:=⟨4,0,0,0,0,0⟩) rfl rfl ⟨rfl,rfl,rfl,fun _=>rfl,fun _=>rfl⟩ rfl h;exact⟨h1,by rw [show Ql (Jp f)=_ from e];simp [KM.sat]⟩
end
end Go.Proofs.YtkmclcmnoicagaaGreatDoor
