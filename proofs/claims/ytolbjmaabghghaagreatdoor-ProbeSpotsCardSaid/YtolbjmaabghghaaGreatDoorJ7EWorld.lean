/- A part of the proof. -/
import Derived.Test.YtolbjmaabghghaaGreatDoorCards
import Derived.Test.YtolbjmaabghghaaGreatDoorTie
import Derived.WalkKit
import Derived.ProofKit
import Derived.OpenShut
import Derived.Deep.DeepHandedRow
import Derived.Lib.LaidTab
namespace Go.Proofs.YtolbjmaabghghaaGreatDoor
open Go.ChangeShapes Go.WideShapes Go.ChangeAt Go.RowKit
set_option maxRecDepth 100000
theorem own : ownKnob Tryz.prog.godebug = none := by kernel_rfl
theorem laidOut : laidOutB Tryz.prog = true := by kernel_rfl
def nums (d : DataW Unit) : Array Value := match d with
 | .agg ds => (ds.flatMap fun x => match x with
  | .lit (.int k n) => [.int k n]
  | .agg es => es.flatMap fun y => match y with
   | .lit (.int k n) => [Value.int k n]
   | _ => []
  | _ => []).toArray
 | _ => #[]
def setC (cs : Array Value) : Obj → Obj
 | .cells _ t frozen => .cells cs t frozen
 | o => o
noncomputable def low : Nat := (World.holding Tryz.prog default ⟨#[], #[], []⟩).heap.size
noncomputable def laidWorld (os : Os) : World :=
 let w0 := World.holding Tryz.prog os ⟨#[.cells #[.string ⟨#[105, 110, 118, 97, 108, 105, 100, 32, 115, 121, 110, 116, 97, 120]⟩] 214, .cells #[.string ⟨#[118, 97, 108, 117, 101, 32, 111, 117, 116, 32, 111, 102, 32, 114, 97, 110, 103, 101]⟩] 214], #[], []⟩
 { w0 with heap := (((((((w0.heap.modify 0 (setC (nums Rows.laid_internal_strconv_uint64pow10))).modify 2 (setC #[.iface 212 (.pointer (some ⟨low, 0, none⟩))])).modify 3 (setC #[.iface 212 (.pointer (some ⟨low + 1, 0, none⟩))])).modify 4 (setC (nums Rows.laid_unicode_utf8_first))).modify 5 (setC (nums Rows.laid_unicode_utf8_acceptRanges))).modify 6 (setC (nums Rows.laid_math_bits_deBruijn32tab))).modify 7 (setC (nums Rows.laid_math_bits_deBruijn64tab))) }
theorem laid_met (os : Os) (args : Array Value) : laidMet Tryz.prog Rows.probeChecksRow.laid ((laidWorld os).forCall (fun _ _ => 0) ⟨#[], args, []⟩).memory :=
 laidMet_of_run' 8 (by kernel_rfl) (by kernel_rfl)
end Go.Proofs.YtolbjmaabghghaaGreatDoor
