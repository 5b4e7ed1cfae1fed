/- A part of the proof. -/
import Derived.Test.YtolbjmaabghghaaGreatDoorJ7ERow
namespace Go.Proofs.YtolbjmaabghghaaGreatDoor.PA
open Go.RowKit Go.ChangeShapes Go.WideShapes Go.ChangeAt Go.Joins Go.Deep
set_option maxRecDepth 100000
variable {H : Type} {enc : TypeId × Value → H} {w : World} {base : Nat} {spare : Nat → Bool} {held : Bool}
theorem c47 : Tryz.prog.cellsOf 47 = 6 := by kernel_rfl
theorem c9 : Tryz.prog.cellsOf 9 = 1 := by kernel_rfl
theorem list6 {α : Type} {l : List α} (h : l.length = 6) : ∃ a b c d e f, l = [a, b, c, d, e, f] := by
 match l, h with
 | [a, b, c, d, e, f], _ => exact ⟨a, b, c, d, e, f, rfl⟩
end Go.Proofs.YtolbjmaabghghaaGreatDoor.PA
namespace Go.Proofs.YtolbjmaabghghaaGreatDoor.PA
open Go.RowKit Go.ChangeShapes Go.WideShapes Go.ChangeAt Go.Joins Go.Deep Go.PW Go.PL Go.PM
set_option maxRecDepth 100000
variable {H : Type} {enc : TypeId × Value → H} {w : World} {base : Nat} {spare : Nat → Bool} {held : Bool}
theorem trod_step {fuel : Nat} {cs : List Value} {x : DataW H × List MemPlace} (hf' : DataW.trod enc Tryz.prog w base spare held fuel 47 cs = some x) :
  ∃ s : S47, cs = [.int .i64 s.f0, .int .i64 s.f1.f0, .int .i64 s.f1.f1, .int .i64 s.f1.f2, .int .i64 s.f2, .string s.f3] := by
 obtain ⟨xs, n, _, _, hl, hn, hfs⟩ := DataW.trod_struct Tryz.underlying47 hf'
 obtain ⟨v0, v1, v2, v3, v4, v5, e⟩ := list6 (hl.trans c47)
 obtain ⟨y0, y1, y2, y3, ey⟩ := list4 hn
 have f0 : DataW.trod enc Tryz.prog w base spare held n 3 (List.take (Tryz.prog.cellsOf 3) (List.drop 0 cs)) = xs[0]? := hfs 0 _ rfl
 have f1 : DataW.trod enc Tryz.prog w base spare held n 23 (List.take (Tryz.prog.cellsOf 23) (List.drop 1 cs)) = xs[1]? := hfs 1 _ rfl
 have f2 : DataW.trod enc Tryz.prog w base spare held n 3 (List.take (Tryz.prog.cellsOf 3) (List.drop 4 cs)) = xs[2]? := hfs 2 _ rfl
 have f3 : DataW.trod enc Tryz.prog w base spare held n 9 (List.take (Tryz.prog.cellsOf 9) (List.drop 5 cs)) = xs[3]? := hfs 3 _ rfl
 rw [e, ey, c3] at f0
 rw [e, ey, c23] at f1
 rw [e, ey, c3] at f2
 rw [e, ey, c9] at f3
 simp only [List.drop_zero, List.drop_succ_cons, List.take_succ_cons, List.take_zero, List.getElem?_cons_zero, List.getElem?_cons_succ] at f0 f1 f2 f3
 obtain ⟨k, e0, _, _⟩ := DataW.trod_int Tryz.underlying3 f0
 obtain ⟨a, b, c, e1, _, _, _⟩ := trod_spot f1
 obtain ⟨q, e2, _, _⟩ := DataW.trod_int Tryz.underlying3 f2
 obtain ⟨s, e3, _, _⟩ := DataW.trod_string Tryz.underlying9 f3
 simp only [List.cons.injEq, and_true] at e0 e1 e2 e3
 obtain ⟨g1, g2, g3⟩ := e1
 exact ⟨⟨k, ⟨a, b, c⟩, q, s⟩, by rw [e, e0, g1, g2, g3, e2, e3]⟩
theorem open_steps {r : Reach} {b0 : Nat} {v : Value} {d : DataW H} {p : List MemPlace} (hv : Value.okWide Tryz.prog w r b0 60 v) (h : DataW.Trod enc Tryz.prog w base spare held 60 v d p) :
  ∃ (A : Option Addr) (c : Nat) (l : List S47), v = .slice A l.length c ∧ l.length ≤ c ∧ Kd.C k47 w A l.length l ∧
   (∀ t0 t1 d0 d1 ts ds, (DataW.weightsEach Tryz.prog (t0 :: t1 :: 60 :: ts) (d0 :: d1 :: d :: ds)).all (· ≤ reachBytes) = true → l.length < 2513169434916) := by
 obtain ⟨A, n, c, rfl⟩ := okWide_slice Tryz.underlying60 hv
 obtain ⟨fuel, hf⟩ := h
 have hf' : DataW.trod enc Tryz.prog w base spare held fuel 60 [.slice A n c] = some (d, p) := hf
 have c47' : Tryz.prog.cellsOf 47 = 6 := c47
 rcases Deep.open_slice Tryz.underlying60 hf' with ⟨e, e2⟩ | ⟨a, len, cap, m, n', D, Pl, e, hb, hl, hm, rfl, e2, hi⟩
 ·simp only [List.cons.injEq, and_true] at e
  rw [e]
  exact ⟨none, 0, [], rfl, Nat.le_refl _, ⟨rfl, by decide, fun h => absurd h (by decide)⟩, fun _ _ _ _ _ _ _ => by decide⟩
 ·simp only [List.cons.injEq, and_true] at e
  rw [e]
  have hlm : len ≤ (if spare a.block then cap else len) := by split <;> omega
  have key : ∀ i, ∃ b : S47, i < len → ∃ cs', cs' = [Value.int .i64 b.f0, .int .i64 b.f1.f0, .int .i64 b.f1.f1, .int .i64 b.f1.f2, .int .i64 b.f2, .string b.f3] ∧ w.cells? base (a.add (i * 6)) 6 = some cs' := by
   intro i
   by_cases hil : i < len
   ·obtain ⟨cs', h1, h2⟩ := hi i (by omega)
    obtain ⟨b, rfl⟩ := trod_step h2
    rw [c47'] at h1
    exact ⟨b, fun _ => ⟨_, rfl, h1⟩⟩
   ·exact ⟨z47, fun h => absurd h hil⟩
  obtain ⟨f, hf⟩ := Classical.axiomOfChoice key
  have hll : ((List.range len).map f).length = len := by simp
  refine ⟨some a, cap, (List.range len).map f, by rw [hll], by rw [hll]; exact hl, ?_, ?_⟩
  ·rw [hll]
   refine ⟨hll, by unfold maxLen at hm; omega, fun _ => ⟨a, rfl, fun j p hj => ?_⟩⟩
   have hjl : j < len := by have := (List.getElem?_eq_some_iff.1 hj).1; simpa using this
   have hp : f j = p := by simpa [List.getElem?_map, List.getElem?_range hjl] using hj
   obtain ⟨cs', e, hcs⟩ := hf j hjl
   rw [hp] at e
   refine ⟨cs', by rw [e]; rfl, by rw [e]; exact k47_mk w p, fun i u hu => ?_⟩
   have := cells4 hcs i u hu
   rwa [Addr.add_add] at this
  ·intro t0 t1 d0 d1 ts ds hall
   have hd : d = _ := (Prod.ext_iff.1 e2).1
   rw [hll]
   rw [hd] at hall
   have b47 : Tryz.prog.bytesOf 47 = 56 := by kernel_rfl
   simp only [DataW.weightsEach, DataW.weights, Tryz.underlying60, b47, List.all_append, List.all_cons, Bool.and_eq_true, decide_eq_true_eq, reachBytes, List.length_map, List.length_range] at hall
   have := of_decide_eq_true hall.2.2.1.1
   omega
end Go.Proofs.YtolbjmaabghghaaGreatDoor.PA
