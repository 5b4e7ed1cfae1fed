/- A part of the proof. -/
import Derived.Test.YtolbjmaabghghaaGreatDoorProg
import Derived.WalkSmall
import Derived.Lib.LaidTab
import Derived.Lib.ItoaNum
namespace Go.Proofs.YtolbjmaabghghaaGreatDoor
open Go.RowKit
theorem var_later {P : Program} {w W : World} {n : String} {cs : Array Value} (h : Below w.heap.size w W) (hv : w.var? P n = some cs) : W.var? P n = some cs := by
 unfold World.var? at hv ⊢
 cases hg : P.globalNamed n with
 | none => rw [hg] at hv; simp at hv
 | some g =>
  rw [hg] at hv
  simp only [Option.bind_some] at hv ⊢
  have hlt : g < w.heap.size := by
   cases ho : w.heap[g]? with
   | none => rw [ho] at hv; simp at hv
   | some o => exact (Array.getElem?_eq_some_iff.1 ho).1
  rw [h.block g hlt]
  exact hv
structure GW (w : World) : Prop where
 maxLen : ∃ m : Int, w.cell? ⟨1, 0, none⟩ = some (.int .i64 m)
 pow10 : Lib.TabIs Tryz.prog w "internal/strconv.uint64pow10" .u64 Lib.pow10Tab
 errSyntax : ∃ tp p, w.var? Tryz.prog "strconv.ErrSyntax" = some #[.iface tp p]
 errRange : ∃ tp p, w.var? Tryz.prog "strconv.ErrRange" = some #[.iface tp p]
theorem GW_below {w W : World} (h : GW w) (hb : Below w.heap.size w W) : GW W := by
 obtain ⟨⟨m, h1⟩, h2, ⟨tp, p, h3⟩, ⟨tq, q, h4⟩⟩ := h
 exact ⟨⟨m, (Below.cell hb (World.block_lt_of_cell? w _ h1)).trans h1⟩, var_later hb h2, ⟨tp, p, var_later hb h3⟩, ⟨tq, q, var_later hb h4⟩⟩
end Go.Proofs.YtolbjmaabghghaaGreatDoor
