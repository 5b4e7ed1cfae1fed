/- A part of the proof. -/
import Derived.Test.YtolbjmaabghghaaGreatDoorG7QTouch
import Derived.Test.YtolbjmaabghghaaGreatDoorG7QAwake
import Derived.Test.YtolbjmaabghghaaGreatDoorG7PAx0
import Derived.Test.YtolbjmaabghghaaGreatDoorG7PAx3
import Derived.Test.YtolbjmaabghghaaGreatDoorG7PAx5
import Derived.Test.YtolbjmaabghghaaGreatDoorG7PAx14
import Derived.Test.YtolbjmaabghghaaGreatDoorG7PAx16
import Derived.Test.YtolbjmaabghghaaGreatDoorG7EWay3
import Derived.Test.YtolbjmaabghghaaGreatDoorG7PAx2
import Derived.Test.YtolbjmaabghghaaGreatDoorG7PAx9
import Derived.Test.YtolbjmaabghghaaGreatDoorG7PAx10
import Derived.Test.YtolbjmaabghghaaGreatDoorG7PAx13
import Derived.Test.YtolbjmaabghghaaGreatDoorG7PAx1
import Derived.Test.YtolbjmaabghghaaGreatDoorG7PAx6
import Derived.Test.YtolbjmaabghghaaGreatDoorG7PAx7
import Derived.Test.YtolbjmaabghghaaGreatDoorG7PAx4
namespace Go.Proofs.YtolbjmaabghghaaGreatDoor.PA
open Go.RowKit Go.PW Go.PL Go.PM
def itD (d : Int) : Nat → S23 → S23
 | 0, p => p
 | n + 1, p => itD d n (stepD d p)
theorem it_coord (d : Int) (h0 : 0 ≤ d) (h5 : d ≤ 5) : ∀ (j : Nat) (p : S23), itD d j p = (if d = 0 then ⟨p.f0 + j, p.f1, p.f2⟩ else if d = 1 then ⟨p.f0 - j, p.f1, p.f2⟩ else if d = 2 then ⟨p.f0, p.f1 + j, p.f2⟩ else if d = 3 then ⟨p.f0, p.f1 - j, p.f2⟩ else if d = 4 then ⟨p.f0, p.f1, p.f2 + j⟩ else ⟨p.f0, p.f1, p.f2 - j⟩) := by
 intro j
 induction j with
 | zero => intro p; rcases dcase h0 h5 with rfl | rfl | rfl | rfl | rfl | rfl <;> simp [itD]
 | succ j ih =>
  intro p
  unfold itD
  rw [ih]
  rcases dcase h0 h5 with rfl | rfl | rfl | rfl | rfl | rfl <;> simp [stepD] <;> omega
end Go.Proofs.YtolbjmaabghghaaGreatDoor.PA
