/- A part of the proof. -/
import Derived.Test.YtolbjmaabghghaaGreatDoorH7ERow
namespace Go.Proofs.YtolbjmaabghghaaGreatDoor.PA
open Go.RowKit Go.ChangeShapes Go.WideShapes Go.ChangeAt Go.Joins Go.Deep
set_option maxRecDepth 100000
variable {H : Type} {enc : TypeId × Value → H} {w : World} {base : Nat} {spare : Nat → Bool} {held : Bool}
theorem c78 : Tryz.prog.cellsOf 78 = 1 := by kernel_rfl
theorem c90 : Tryz.prog.cellsOf 90 = 2 := by kernel_rfl
theorem i8_of {n : Int} (h : (Lit.int .i8 n).wf = true) : -128 ≤ n ∧ n ≤ 127 := bounds_i8 h
theorem open_by {r : Reach} {b0 : Nat} {v : Value} {d : DataW H} {p : List MemPlace} (hv : Value.okWide Tryz.prog w r b0 90 v) (h : DataW.Trod enc Tryz.prog w base spare held 90 v d p) :
  ∃ a b : Int, v = .agg #[.int .i8 a, .int .i8 b] ∧ (-128 ≤ a ∧ a ≤ 127) ∧ (-128 ≤ b ∧ b ≤ 127) := by
 obtain ⟨cs, rfl, hsz, _⟩ : ∃ cs, v = .agg cs ∧ cs.size = Tryz.prog.cellsOf 90 ∧ Row.okWide Tryz.prog w r b0 90 cs := by
  simpa [Value.okWide, Tryz.underlying90] using hv
 obtain ⟨fuel, hf⟩ := h
 have hf' : DataW.trod enc Tryz.prog w base spare held fuel 90 cs.toList = some (d, p) := hf
 obtain ⟨xs, m, _, _, hl, hn, hel⟩ := DataW.trod_array Tryz.underlying90 hf'
 obtain ⟨v0, v1, e⟩ := list2 (hl.trans c90)
 obtain ⟨y0, y1, ey⟩ := list2 hn
 have f0 := hel 0 (by decide)
 have f1 := hel 1 (by decide)
 rw [e, ey, c78] at f0 f1
 simp only [Nat.zero_mul, Nat.one_mul, List.drop_zero, List.drop_succ_cons, List.take_succ_cons, List.take_zero, List.getElem?_cons_zero, List.getElem?_cons_succ] at f0 f1
 obtain ⟨a, e0, _, w0⟩ := DataW.trod_int Tryz.underlying78 f0
 obtain ⟨b, e1, _, w1⟩ := DataW.trod_int Tryz.underlying78 f1
 simp only [List.cons.injEq, and_true] at e0 e1
 exact ⟨a, b, by rw [← Array.toArray_toList (xs := cs), e, e0, e1], i8_of w0, i8_of w1⟩
end Go.Proofs.YtolbjmaabghghaaGreatDoor.PA
