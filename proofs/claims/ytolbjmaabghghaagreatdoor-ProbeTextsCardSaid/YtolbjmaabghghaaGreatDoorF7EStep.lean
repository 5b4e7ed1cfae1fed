/- A part of the proof. -/
import Derived.Test.YtolbjmaabghghaaGreatDoorF7ERow
namespace Go.Proofs.YtolbjmaabghghaaGreatDoor.PA
open Go.RowKit Go.ChangeShapes Go.WideShapes Go.ChangeAt Go.Joins Go.Deep
set_option maxRecDepth 100000
variable {H : Type} {enc : TypeId × Value → H} {w : World} {base : Nat} {spare : Nat → Bool} {held : Bool}
theorem c47 : Tryz.prog.cellsOf 47 = 6 := by kernel_rfl
theorem c9 : Tryz.prog.cellsOf 9 = 1 := by kernel_rfl
theorem list6 {α : Type} {l : List α} (h : l.length = 6) : ∃ a b c d e f, l = [a, b, c, d, e, f] := by
 match l, h with
 | [a, b, c, d, e, f], _ => exact ⟨a, b, c, d, e, f, rfl⟩
theorem open_step {r : Reach} {b0 : Nat} {v : Value} {d : DataW H} {p : List MemPlace} (hv : Value.okWide Tryz.prog w r b0 47 v) (h : DataW.Trod enc Tryz.prog w base spare held 47 v d p) :
  ∃ (a0 a1 a2 a3 a4 : Int) (s : ByteArray), v = .agg #[.int .i64 a0, .int .i64 a1, .int .i64 a2, .int .i64 a3, .int .i64 a4, .string s] := by
 obtain ⟨cs, rfl, hsz⟩ := okWide_struct Tryz.underlying47 hv
 obtain ⟨fuel, hf⟩ := h
 have hf' : DataW.trod enc Tryz.prog w base spare held fuel 47 cs.toList = some (d, p) := hf
 obtain ⟨xs, n, _, _, hl, hn, hfs⟩ := DataW.trod_struct Tryz.underlying47 hf'
 obtain ⟨v0, v1, v2, v3, v4, v5, e⟩ := list6 (hl.trans c47)
 obtain ⟨y0, y1, y2, y3, ey⟩ := list4 hn
 have f0 : DataW.trod enc Tryz.prog w base spare held n 3 (List.take (Tryz.prog.cellsOf 3) (List.drop 0 cs.toList)) = xs[0]? := hfs 0 _ rfl
 have f1 : DataW.trod enc Tryz.prog w base spare held n 23 (List.take (Tryz.prog.cellsOf 23) (List.drop 1 cs.toList)) = xs[1]? := hfs 1 _ rfl
 have f2 : DataW.trod enc Tryz.prog w base spare held n 3 (List.take (Tryz.prog.cellsOf 3) (List.drop 4 cs.toList)) = xs[2]? := hfs 2 _ rfl
 have f3 : DataW.trod enc Tryz.prog w base spare held n 9 (List.take (Tryz.prog.cellsOf 9) (List.drop 5 cs.toList)) = xs[3]? := hfs 3 _ rfl
 rw [e, ey, c3] at f0
 rw [e, ey, c23] at f1
 rw [e, ey, c3] at f2
 rw [e, ey, c9] at f3
 simp only [List.drop_zero, List.drop_succ_cons, List.take_succ_cons, List.take_zero, List.getElem?_cons_zero, List.getElem?_cons_succ] at f0 f1 f2 f3
 obtain ⟨k, e0, _, _⟩ := DataW.trod_int Tryz.underlying3 f0
 obtain ⟨a, b, c, e1, _, _, _⟩ := trod_spot f1
 obtain ⟨q, e2, _, _⟩ := DataW.trod_int Tryz.underlying3 f2
 obtain ⟨s, e3, _, _⟩ := DataW.trod_string Tryz.underlying9 f3
 simp only [List.cons.injEq, and_true] at e0 e1 e2 e3
 obtain ⟨g1, g2, g3⟩ := e1
 exact ⟨k, a, b, c, q, s, by rw [← Array.toArray_toList (xs := cs), e, e0, g1, g2, g3, e2, e3]⟩
theorem open_str {r : Reach} {b0 : Nat} {v : Value} {d : DataW H} {p : List MemPlace} (hv : Value.okWide Tryz.prog w r b0 9 v) (_h : DataW.Trod enc Tryz.prog w base spare held 9 v d p) : ∃ s : ByteArray, v = .string s := by
 obtain ⟨s, rfl⟩ := okWide_string Tryz.underlying9 hv
 exact ⟨s, rfl⟩
end Go.Proofs.YtolbjmaabghghaaGreatDoor.PA
