/- A part of the proof. -/
import Derived.Test.YtolbjmaabghghaaGreatDoorJ7PAx16
namespace Go.Proofs.YtolbjmaabghghaaGreatDoor.PA
theorem awake_all (_hr : RunEx) (k : Nat) (hk : 60 ≤ k) : metrolablaw30_awake.f k = some true := by
 unfold metrolablaw30_awake.f
 rw [if_pos hk]
end Go.Proofs.YtolbjmaabghghaaGreatDoor.PA
