/- A part of the proof. -/
import Derived.Test.YtolbjmaabghghaaGreatDoorJ7PAx0
import Derived.Test.YtolbjmaabghghaaGreatDoorJ7EG
import Derived.Lib.SmallJoins
import Derived.Deep.Slices
import Derived.Deep.Strs
import Derived.Deep.DeepHandedRow
import Derived.ProofKit
import Derived.OpenShut
namespace Go.Proofs.YtolbjmaabghghaaGreatDoor.PA
open Go.RowKit Go.ChangeShapes Go.WideShapes Go.ChangeAt Go.Joins Go.Deep Go.PW Go.PL Go.PM
set_option maxRecDepth 100000
set_option linter.unusedVariables false
def ok64 (n : Int) : Prop := -9223372036854775808 ≤ n ∧ n ≤ 9223372036854775807
theorem ok64_of {n : Int} (h : (Lit.int .i64 n).wf = true) : ok64 n := by
 simp [Lit.wf] at h
 unfold ok64
 first | exact h | (constructor <;> omega)
theorem c3 : Tryz.prog.cellsOf 3 = 1 := by kernel_rfl
theorem c23 : Tryz.prog.cellsOf 23 = 3 := by kernel_rfl
theorem c24 : Tryz.prog.cellsOf 24 = 1 := by kernel_rfl
theorem c26 : Tryz.prog.cellsOf 26 = 7 := by kernel_rfl
theorem c81 : Tryz.prog.cellsOf 81 = 2 := by kernel_rfl
theorem c84 : Tryz.prog.cellsOf 84 = 4 := by kernel_rfl
theorem list2 {α : Type} {l : List α} (h : l.length = 2) : ∃ a b, l = [a, b] := by
 match l, h with
 | [a, b], _ => exact ⟨a, b, rfl⟩
theorem list3 {α : Type} {l : List α} (h : l.length = 3) : ∃ a b c, l = [a, b, c] := by
 match l, h with
 | [a, b, c], _ => exact ⟨a, b, c, rfl⟩
theorem list4 {α : Type} {l : List α} (h : l.length = 4) : ∃ a b c d, l = [a, b, c, d] := by
 match l, h with
 | [a, b, c, d], _ => exact ⟨a, b, c, d, rfl⟩
theorem list7 {α : Type} {l : List α} (h : l.length = 7) : ∃ a b c d e f g, l = [a, b, c, d, e, f, g] := by
 match l, h with
 | [a, b, c, d, e, f, g], _ => exact ⟨a, b, c, d, e, f, g, rfl⟩
section
variable {H : Type} {enc : TypeId × Value → H} {w : World} {base : Nat} {spare : Nat → Bool} {held : Bool}
theorem trod_spot {fuel : Nat} {cs : List Value} {x : DataW H × List MemPlace} (h : DataW.trod enc Tryz.prog w base spare held fuel 23 cs = some x) : ∃ a b c : Int, cs = [.int .i64 a, .int .i64 b, .int .i64 c] ∧ ok64 a ∧ ok64 b ∧ ok64 c := by
 obtain ⟨y0, y1, y2, n, _, hl, h0, h1, h2⟩ := trod_struct3 Tryz.underlying23 h
 obtain ⟨v0, v1, v2, rfl⟩ := list3 (hl.trans c23)
 simp only [c3, List.drop_zero, List.drop_succ_cons, List.take_succ_cons, List.take_zero] at h0 h1 h2
 obtain ⟨a, e0, _, wa⟩ := DataW.trod_int Tryz.underlying3 h0
 obtain ⟨b, e1, _, wb⟩ := DataW.trod_int Tryz.underlying3 h1
 obtain ⟨c, e2, _, wc⟩ := DataW.trod_int Tryz.underlying3 h2
 simp only [List.cons.injEq, and_true] at e0 e1 e2
 subst e0 e1 e2
 exact ⟨a, b, c, rfl, ok64_of wa, ok64_of wb, ok64_of wc⟩
theorem trod_point {fuel : Nat} {cs : List Value} {x : DataW H × List MemPlace} (h : DataW.trod enc Tryz.prog w base spare held fuel 81 cs = some x) : ∃ a b : Int, cs = [.int .i64 a, .int .i64 b] ∧ ok64 a ∧ ok64 b := by
 obtain ⟨y0, y1, n, _, hl, h0, h1⟩ := trod_struct2 Tryz.underlying81 h
 obtain ⟨v0, v1, rfl⟩ := list2 (hl.trans c81)
 simp only [c3, List.drop_zero, List.drop_succ_cons, List.take_succ_cons, List.take_zero] at h0 h1
 obtain ⟨a, e0, _, wa⟩ := DataW.trod_int Tryz.underlying3 h0
 obtain ⟨b, e1, _, wb⟩ := DataW.trod_int Tryz.underlying3 h1
 simp only [List.cons.injEq, and_true] at e0 e1
 subst e0 e1
 exact ⟨a, b, rfl, ok64_of wa, ok64_of wb⟩
def okB (b : S84) : Prop := ok64 b.f0 ∧ ok64 b.f1.f0 ∧ ok64 b.f1.f1 ∧ ok64 b.f2
theorem trod_bore {fuel : Nat} {cs : List Value} {x : DataW H × List MemPlace} (h : DataW.trod enc Tryz.prog w base spare held fuel 84 cs = some x) : ∃ b : S84, cs = [.int .i64 b.f0, .int .i64 b.f1.f0, .int .i64 b.f1.f1, .int .i64 b.f2] ∧ okB b := by
 obtain ⟨y0, y1, y2, n, _, hl, h0, h1, h2⟩ := trod_struct3 Tryz.underlying84 h
 obtain ⟨v0, v1, v2, v3, rfl⟩ := list4 (hl.trans c84)
 simp only [c3, c81, List.drop_zero, List.drop_succ_cons, List.take_succ_cons, List.take_zero] at h0 h1 h2
 obtain ⟨a, e0, _, wa⟩ := DataW.trod_int Tryz.underlying3 h0
 obtain ⟨p, q, e1, wp, wq⟩ := trod_point h1
 obtain ⟨c, e2, _, wc⟩ := DataW.trod_int Tryz.underlying3 h2
 simp only [List.cons.injEq, and_true] at e0 e1 e2
 obtain ⟨e1, e1'⟩ := e1
 subst e0 e1 e1' e2
 exact ⟨⟨a, ⟨p, q⟩, c⟩, rfl, ok64_of wa, wp, wq, ok64_of wc⟩
theorem cells4 {W : World} {base : Nat} {a : Addr} {n : Nat} {cs : List Value} (h : W.cells? base a n = some cs) : ∀ i u, cs[i]? = some u → W.cell? (a.add i) = some u := by
 obtain ⟨hb, hl, hc⟩ := World.cells?_some h
 intro i u hi
 have : i < n := by rw [← hl]; exact (List.getElem?_eq_some_iff.1 hi).1
 exact (hc i this).trans hi
theorem trod_bores {fuel : Nat} {cs : List Value} {x : DataW H × List MemPlace} (h : DataW.trod enc Tryz.prog w base spare held fuel 24 cs = some x) : ∃ (A : Option Addr) (c : Nat) (l : List S84), cs = [.slice A l.length c] ∧ l.length ≤ c ∧ Kd.C k84 w A l.length l ∧ (∀ b ∈ l, okB b) ∧ (x.1 = .nil ∧ l = [] ∨ ∃ els sp, x.1 = .slice els sp ∧ els.length = l.length) := by
 rcases Deep.open_slice Tryz.underlying24 h with ⟨rfl, rfl⟩ | ⟨a, len, cap, m, n, D, Pl, rfl, hb, hl, hm, rfl, rfl, hi⟩
 ·exact ⟨none, 0, [], rfl, Nat.le_refl _, ⟨rfl, by decide, fun h => absurd h (by decide)⟩, by simp, .inl ⟨rfl, rfl⟩⟩
 ·have hlm : len ≤ (if spare a.block then cap else len) := by split <;> omega
  have key : ∀ i, ∃ b : S84, i < len → okB b ∧ ∃ cs', cs' = [Value.int .i64 b.f0, .int .i64 b.f1.f0, .int .i64 b.f1.f1, .int .i64 b.f2] ∧ w.cells? base (a.add (i * 4)) 4 = some cs' := by
   intro i
   by_cases hil : i < len
   ·obtain ⟨cs', h1, h2⟩ := hi i (by omega)
    obtain ⟨b, rfl, hok⟩ := trod_bore h2
    rw [c84] at h1
    exact ⟨b, fun _ => ⟨hok, _, rfl, h1⟩⟩
   ·exact ⟨z84, fun h => absurd h hil⟩
  obtain ⟨f, hf⟩ := Classical.axiomOfChoice key
  have hll : ((List.range len).map f).length = len := by simp
  refine ⟨some a, cap, (List.range len).map f, by rw [hll], by rw [hll]; exact hl, ?_, ?_, .inr ⟨_, _, rfl, by simp⟩⟩
  ·rw [hll]
   refine ⟨hll, by unfold maxLen at hm; omega, fun _ => ⟨a, rfl, fun j p hj => ?_⟩⟩
   have hjl : j < len := by have := (List.getElem?_eq_some_iff.1 hj).1; simpa using this
   have hp : f j = p := by simpa [List.getElem?_map, List.getElem?_range hjl] using hj
   obtain ⟨_, cs', e, hcs⟩ := hf j hjl
   rw [hp] at e
   refine ⟨cs', by rw [e]; rfl, by rw [e]; exact k84_mk w p, fun i u hu => ?_⟩
   have := cells4 hcs i u hu
   rwa [Addr.add_add] at this
  ·intro b hb
   obtain ⟨i, hi', rfl⟩ := List.mem_map.1 hb
   exact (hf i (List.mem_range.1 hi')).1
theorem open_solid {r : Reach} {b0 : Nat} {v : Value} {d : DataW H} {p : List MemPlace} (hv : Value.okWide Tryz.prog w r b0 26 v) (h : DataW.Trod enc Tryz.prog w base spare held 26 v d p) :
  ∃ (a0 a1 a2 a3 a4 a5 : Int) (A : Option Addr) (c : Nat) (l : List S84), v = .agg #[.int .i64 a0, .int .i64 a1, .int .i64 a2, .int .i64 a3, .int .i64 a4, .int .i64 a5, .slice A l.length c] ∧ l.length ≤ c ∧ Kd.C k84 w A l.length l ∧ (∀ b ∈ l, okB b) ∧ (ok64 a0 ∧ ok64 a1 ∧ ok64 a2 ∧ ok64 a3 ∧ ok64 a4 ∧ ok64 a5) ∧
   (∀ ts ds, (DataW.weightsEach Tryz.prog (26 :: ts) (d :: ds)).all (· ≤ reachBytes) = true → l.length < 4398046511104) := by
 obtain ⟨cs, rfl, hsz⟩ := okWide_struct Tryz.underlying26 hv
 obtain ⟨fuel, hf⟩ := h
 have hf' : DataW.trod enc Tryz.prog w base spare held fuel 26 cs.toList = some (d, p) := hf
 obtain ⟨y0, y1, y2, n, hx, hl, h0, h1, h2⟩ := trod_struct3 Tryz.underlying26 hf'
 obtain ⟨v0, v1, v2, v3, v4, v5, v6, hcs⟩ := list7 (hl.trans c26)
 rw [hcs] at h0 h1 h2
 simp only [c23, c24, List.drop_zero, List.drop_succ_cons, List.take_succ_cons, List.take_zero] at h0 h1 h2
 obtain ⟨a0, a1, a2, e0, w0, w1, w2⟩ := trod_spot h0
 obtain ⟨a3, a4, a5, e1, w3, w4, w5⟩ := trod_spot h1
 obtain ⟨A, c, l, e2, hlc, hC, hok, hw⟩ := trod_bores h2
 simp only [List.cons.injEq, and_true] at e0 e1 e2
 obtain ⟨e0, e0', e0''⟩ := e0
 obtain ⟨e1, e1', e1''⟩ := e1
 subst e0 e0' e0'' e1 e1' e1'' e2
 have hcs' : cs = #[.int .i64 a0, .int .i64 a1, .int .i64 a2, .int .i64 a3, .int .i64 a4, .int .i64 a5, .slice A l.length c] := by
  rw [← Array.toArray_toList (xs := cs), hcs]
 refine ⟨a0, a1, a2, a3, a4, a5, A, c, l, by rw [hcs'], hlc, hC, hok, ⟨w0, w1, w2, w3, w4, w5⟩, ?_⟩
 intro ts ds hall
 have hd : d = .agg [y0.1, y1.1, y2.1] := (Prod.ext_iff.1 hx).1
 rcases hw with ⟨_, rfl⟩ | ⟨els, sp, hel, hll⟩
 ·decide
 ·rw [hd] at hall
  have b84 : Tryz.prog.bytesOf 84 = 32 := by kernel_rfl
  simp only [DataW.weightsEach, DataW.weights, Tryz.underlying26, List.map_cons, List.map_nil, hel, Tryz.underlying24, b84, List.all_append, List.all_cons, Bool.and_eq_true, decide_eq_true_eq, reachBytes] at hall
  have := of_decide_eq_true hall.1.2.2.1.1
  omega
theorem open_spot {r : Reach} {b0 : Nat} {v : Value} {d : DataW H} {p : List MemPlace} (hv : Value.okWide Tryz.prog w r b0 23 v) (h : DataW.Trod enc Tryz.prog w base spare held 23 v d p) :
  ∃ a0 a1 a2 : Int, v = .agg #[.int .i64 a0, .int .i64 a1, .int .i64 a2] ∧ ok64 a0 ∧ ok64 a1 ∧ ok64 a2 := by
 obtain ⟨cs, rfl, hsz⟩ := okWide_struct Tryz.underlying23 hv
 obtain ⟨fuel, hf⟩ := h
 have hf' : DataW.trod enc Tryz.prog w base spare held fuel 23 cs.toList = some (d, p) := hf
 obtain ⟨a, b, c, e, wa, wb, wc⟩ := trod_spot hf'
 exact ⟨a, b, c, by rw [← Array.toArray_toList (xs := cs), e], wa, wb, wc⟩
end
end Go.Proofs.YtolbjmaabghghaaGreatDoor.PA
