/- A part of the proof. -/
import Derived.Test.YtolbjmaabghghaaGreatDoorRows
import Derived.Test.YtolbjmaabghghaaGreatDoorJ7EG
import Derived.Test.YtolbjmaabghghaaGreatDoorJ7Sh
import Derived.LaidSub
import Derived.ProofKit
import Derived.Lib.LaidTab
namespace Go.Proofs.YtolbjmaabghghaaGreatDoor
open Go.ChangeShapes Go.WideShapes Go.ChangeAt Go.RowKit
set_option maxRecDepth 100000
theorem var_iface {W : World} {name s : String} {d0 : DataW Unit} {rest : List (String × DataW Unit)} {g : Nat} {t : TypeId} {ms : Array (String × TypeId)}
  (hg : Tryz.prog.globalNamed name = some g) (hty : (Tryz.prog.globals[g]?).map (·.type) = some t) (ht : Tryz.prog.underlying t = some (.interface ms))
  (h : laidMet Tryz.prog ((name, .iface s d0) :: rest) W) : ∃ tp p, W.var? Tryz.prog name = some #[.iface tp p] := by
 obtain ⟨ps, ⟨g', t', cs, fuel, p, q, hg', ht', hvar, hd, _, _⟩, _⟩ := h
 obtain rfl := Option.some.inj (hg.symm.trans hg')
 obtain rfl := Option.some.inj (hty.symm.trans ht')
 cases fuel with
 | zero => simp [DataW.trod] at hd
 | succ n =>
  unfold DataW.trod at hd
  rw [ht] at hd
  split at hd
  all_goals first
   | (rename_i h1 h2; cases h1; done)
   | (simp at hd; done)
   | (rename_i h1 h2; exact ⟨_, _, by rw [hvar, ← Array.toArray_toList (xs := cs), h2]⟩)
theorem laid_of {W : World} (h : laidMetH Tryz.prog Rows.probeChecksRow.laid W) (hsh : W.ShapedOpen Tryz.prog) : GW W := by
 have hh : laidMet Tryz.prog Rows.probeChecksRow.laid W := h
 refine ⟨Tryz.laysM144.s1_3 W hsh, ?_, ?_, ?_⟩
 ·have := hh.filter (fun x => x.1 == "internal/strconv.uint64pow10")
  exact Lib.tabIs_of_head (rest := []) (g := 0) (t := 192) (e := 170) (n := 20) (by kernel_rfl) (by kernel_rfl) Tryz.underlying192 Tryz.underlying170 (by kernel_rfl) (by kernel_rfl) this
 ·have := hh.filter (fun x => x.1 == "strconv.ErrSyntax")
  exact var_iface (g := 2) (rest := []) (by kernel_rfl) (by kernel_rfl) Tryz.underlying136 this
 ·have := hh.filter (fun x => x.1 == "strconv.ErrRange")
  exact var_iface (g := 3) (rest := []) (by kernel_rfl) (by kernel_rfl) Tryz.underlying136 this
end Go.Proofs.YtolbjmaabghghaaGreatDoor
