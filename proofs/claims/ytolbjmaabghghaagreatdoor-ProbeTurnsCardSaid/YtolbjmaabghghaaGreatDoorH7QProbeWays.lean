/- A part of the proof. -/
import Derived.Test.YtolbjmaabghghaaGreatDoorH7QWays
namespace Go.Proofs.YtolbjmaabghghaaGreatDoor.PA
open Go.RowKit Go.PW Go.PL Go.PM
theorem few_eq' (a0 a1 a2 a3 a4 a5 : Int) (l : List S84) : metrolabref30_Few.f a0 a1 a2 a3 a4 a5 (l.map toRef) = some (decide (l.length ≤ 32)) := by
 unfold metrolabref30_Few.f
 rw [List.length_map]
 congr 1
 apply decide_eq_decide.2
 omega
end Go.Proofs.YtolbjmaabghghaaGreatDoor.PA
