/- A part of the proof. -/
import Derived.Test.YtolbjmaabghghaaGreatDoorG7PAx0
import Derived.Test.YtolbjmaabghghaaGreatDoorG7EG
import Derived.Lib.SmallJoins
import Derived.Deep.Slices
import Derived.Deep.Strs
import Derived.Deep.DeepHandedRow
import Derived.ProofKit
import Derived.OpenShut
namespace Go.Proofs.YtolbjmaabghghaaGreatDoor.PA
open Go.RowKit Go.ChangeShapes Go.WideShapes Go.ChangeAt Go.Joins Go.Deep Go.PW Go.PL Go.PM
set_option maxRecDepth 100000
set_option linter.unusedVariables false
theorem list3 {α : Type} {l : List α} (h : l.length = 3) : ∃ a b c, l = [a, b, c] := by
 match l, h with
 | [a, b, c], _ => exact ⟨a, b, c, rfl⟩
end Go.Proofs.YtolbjmaabghghaaGreatDoor.PA
