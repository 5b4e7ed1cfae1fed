/- A part of the proof. -/
import Derived.Test.YtolbjmaabghghaaGreatDoorF7PAx0
import Derived.Test.YtolbjmaabghghaaGreatDoorF7EG
import Derived.Lib.SmallJoins
import Derived.Deep.Slices
import Derived.Deep.Strs
import Derived.Deep.DeepHandedRow
import Derived.ProofKit
import Derived.OpenShut
namespace Go.Proofs.YtolbjmaabghghaaGreatDoor.PA
open Go.RowKit Go.ChangeShapes Go.WideShapes Go.ChangeAt Go.Joins Go.Deep Go.PW Go.PL Go.PM
set_option maxRecDepth 100000
set_option linter.unusedVariables false
def ok64 (n : Int) : Prop := -9223372036854775808 ≤ n ∧ n ≤ 9223372036854775807
theorem ok64_of {n : Int} (h : (Lit.int .i64 n).wf = true) : ok64 n := by
 simp [Lit.wf] at h
 unfold ok64
 first | exact h | (constructor <;> omega)
theorem c3 : Tryz.prog.cellsOf 3 = 1 := by kernel_rfl
theorem c23 : Tryz.prog.cellsOf 23 = 3 := by kernel_rfl
theorem list3 {α : Type} {l : List α} (h : l.length = 3) : ∃ a b c, l = [a, b, c] := by
 match l, h with
 | [a, b, c], _ => exact ⟨a, b, c, rfl⟩
theorem list4 {α : Type} {l : List α} (h : l.length = 4) : ∃ a b c d, l = [a, b, c, d] := by
 match l, h with
 | [a, b, c, d], _ => exact ⟨a, b, c, d, rfl⟩
section
variable {H : Type} {enc : TypeId × Value → H} {w : World} {base : Nat} {spare : Nat → Bool} {held : Bool}
theorem trod_spot {fuel : Nat} {cs : List Value} {x : DataW H × List MemPlace} (h : DataW.trod enc Tryz.prog w base spare held fuel 23 cs = some x) : ∃ a b c : Int, cs = [.int .i64 a, .int .i64 b, .int .i64 c] ∧ ok64 a ∧ ok64 b ∧ ok64 c := by
 obtain ⟨y0, y1, y2, n, _, hl, h0, h1, h2⟩ := trod_struct3 Tryz.underlying23 h
 obtain ⟨v0, v1, v2, rfl⟩ := list3 (hl.trans c23)
 simp only [c3, List.drop_zero, List.drop_succ_cons, List.take_succ_cons, List.take_zero] at h0 h1 h2
 obtain ⟨a, e0, _, wa⟩ := DataW.trod_int Tryz.underlying3 h0
 obtain ⟨b, e1, _, wb⟩ := DataW.trod_int Tryz.underlying3 h1
 obtain ⟨c, e2, _, wc⟩ := DataW.trod_int Tryz.underlying3 h2
 simp only [List.cons.injEq, and_true] at e0 e1 e2
 subst e0 e1 e2
 exact ⟨a, b, c, rfl, ok64_of wa, ok64_of wb, ok64_of wc⟩
end
end Go.Proofs.YtolbjmaabghghaaGreatDoor.PA
