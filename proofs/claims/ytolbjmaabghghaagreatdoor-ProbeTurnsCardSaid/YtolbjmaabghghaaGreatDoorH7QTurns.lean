/- A part of the proof. -/
import Derived.Test.YtolbjmaabghghaaGreatDoorH7QProbeWays
import Derived.Test.YtolbjmaabghghaaGreatDoorH7PAx37
namespace Go.Proofs.YtolbjmaabghghaaGreatDoor.PA
open Go.RowKit Go.PW Go.PL Go.PM
theorem tw_self (a : Int) : tw a a = a := by unfold tw; simp
theorem way_any (F : S23 → Bool) (y z b : Int) : ∀ (n : Nat) (a : Int), dist a b ≤ n → (((wayL n ⟨a, y, z⟩ ⟨b, y, z⟩).any F = true) ↔ ∃ x, ((a ≤ x ∧ x ≤ b) ∨ (b ≤ x ∧ x ≤ a)) ∧ F ⟨x, y, z⟩ = true) := by
 intro n
 induction n with
 | zero =>
  intro a h
  have hab : a = b := by unfold dist at h; omega
  subst hab
  simp only [wayL, List.any_cons, List.any_nil, Bool.or_false]
  constructor
  ·intro h; exact ⟨a, .inl ⟨Int.le_refl _, Int.le_refl _⟩, h⟩
  ·rintro ⟨x, hx, hf⟩
   obtain rfl : x = a := by omega
   exact hf
 | succ n ih =>
  intro a h
  unfold wayL
  by_cases hab : a = b
  ·subst hab
   rw [if_pos ⟨rfl, rfl, rfl⟩]
   simp only [List.any_cons, List.any_nil, Bool.or_false]
   constructor
   ·intro h; exact ⟨a, .inl ⟨Int.le_refl _, Int.le_refl _⟩, h⟩
   ·rintro ⟨x, hx, hf⟩
    obtain rfl : x = a := by omega
    exact hf
  ·rw [if_neg (fun h => hab h.1)]
   have ht : twS ⟨a, y, z⟩ ⟨b, y, z⟩ = ⟨tw a b, y, z⟩ := by unfold twS; simp only [tw_self]
   have hd : dist (tw a b) b ≤ n := by rw [tw_dist]; omega
   rw [ht, List.any_cons, Bool.or_eq_true, ih (tw a b) hd]
   constructor
   ·rintro (h | ⟨x, hx, h⟩)
    ·exact ⟨a, by omega, h⟩
    ·refine ⟨x, ?_, h⟩
     unfold tw at hx
     split at hx
     ·omega
     ·split at hx <;> omega
   ·rintro ⟨x, hx, hf⟩
    by_cases hxa : x = a
    ·subst hxa; exact .inl hf
    ·refine .inr ⟨x, ?_, hf⟩
     unfold tw
     split
     ·omega
     ·split <;> omega
theorem openX (a0 a1 a2 a3 a4 a5 : Int) (l : List S84) (a b y z : Int) : openV a0 a1 a2 a3 a4 a5 l ⟨a, y, z⟩ ⟨b, y, z⟩ = false ↔ ∃ x, ((a ≤ x ∧ x ≤ b) ∨ (b ≤ x ∧ x ≤ a)) ∧ fullV a0 a1 a2 a3 a4 a5 l x y z = true := by
 unfold openV
 rw [Bool.not_eq_false']
 have hd : dist a b ≤ distS ⟨a, y, z⟩ ⟨b, y, z⟩ := by unfold distS; dsimp only; omega
 exact way_any (fun p => fullV a0 a1 a2 a3 a4 a5 l p.f0 p.f1 p.f2) y z b _ a hd
theorem openX_back (a0 a1 a2 a3 a4 a5 : Int) (l : List S84) (a b y z : Int) : openV a0 a1 a2 a3 a4 a5 l ⟨a, y, z⟩ ⟨b, y, z⟩ = openV a0 a1 a2 a3 a4 a5 l ⟨b, y, z⟩ ⟨a, y, z⟩ := by
 rw [← Bool.not_inj_iff, Bool.eq_iff_iff, Bool.not_eq_true', Bool.not_eq_true', openX, openX]
 constructor
 ·rintro ⟨x, hx, h⟩; exact ⟨x, by omega, h⟩
 ·rintro ⟨x, hx, h⟩; exact ⟨x, by omega, h⟩
theorem openX_half (a0 a1 a2 a3 a4 a5 : Int) (l : List S84) (a m b y z : Int) (h : (a ≤ m ∧ m ≤ b) ∨ (b ≤ m ∧ m ≤ a)) : openV a0 a1 a2 a3 a4 a5 l ⟨a, y, z⟩ ⟨b, y, z⟩ = (openV a0 a1 a2 a3 a4 a5 l ⟨a, y, z⟩ ⟨m, y, z⟩ && openV a0 a1 a2 a3 a4 a5 l ⟨m, y, z⟩ ⟨b, y, z⟩) := by
 rw [← Bool.not_inj_iff, Bool.eq_iff_iff, Bool.not_eq_true', Bool.not_eq_true', Bool.and_eq_false_iff, openX, openX, openX]
 constructor
 ·rintro ⟨x, hx, hf⟩
  by_cases hm : ((a ≤ x ∧ x ≤ m) ∨ (m ≤ x ∧ x ≤ a))
  ·exact .inl ⟨x, hm, hf⟩
  ·exact .inr ⟨x, by omega, hf⟩
 ·rintro (⟨x, hx, hf⟩ | ⟨x, hx, hf⟩)
  ·exact ⟨x, by omega, hf⟩
  ·exact ⟨x, by omega, hf⟩
theorem diffX (a b y z : Int) : diffN a y z b y z ≤ 1 := by
 unfold diffN; simp only [if_true]; split <;> omega
theorem freeX (a0 a1 a2 a3 a4 a5 : Int) (l : List S84) (a b y z : Int) (hc : checkV a0 a1 a2 a3 a4 a5 l = 0) (h1 : rightB a y z = true) (h2 : rightB b y z = true) : freeV a0 a1 a2 a3 a4 a5 l ⟨a, y, z⟩ ⟨b, y, z⟩ = (openV a0 a1 a2 a3 a4 a5 l ⟨a, y, z⟩ ⟨b, y, z⟩, 0) := by
 unfold freeV given2V
 dsimp only
 rw [if_pos hc, if_pos h1, if_pos h2, if_pos rfl, if_pos (diffX a b y z)]
theorem turnsJ1 (hr : RunEx) (a0 a1 a2 a3 a4 a5 : Int) (l : List S84) (x m b y z : Int) (hc : checkV a0 a1 a2 a3 a4 a5 l = 0) (hx : (-1000 ≤ x ∧ x ≤ 1000) ∧ (-2000 ≤ m ∧ m ≤ 2000) ∧ (-2000 ≤ b ∧ b ≤ 2000)) (hm : (x ≤ m ∧ m ≤ b) ∨ (b ≤ m ∧ m ≤ x)) (k : Nat) (hk : 200300 ≤ k) :
  metrolablaw30_ProbeTurns.j1 (k + 1) a0 a1 a2 a3 a4 a5 l x y z m y z b y z = some true := by
 have ha := awake_all hr k (by omega)
 have m1 := pfree_eq a0 a1 a2 a3 a4 a5 l x y z b y z k (by omega)
 have m2 := pfree_eq a0 a1 a2 a3 a4 a5 l b y z x y z k (by omega)
 have m3 := pfree_eq a0 a1 a2 a3 a4 a5 l x y z m y z k (by omega)
 have m4 := pfree_eq a0 a1 a2 a3 a4 a5 l m y z b y z k (by omega)
 rw [metrolablaw30_ProbeTurns.j1]
 simp only [ha, m1, m2, m3, m4, Option.bind_some]
 by_cases hyz : (inR y && inR z) = true
 ·have hR : ∀ t : Int, -2000 ≤ t ∧ t ≤ 2000 → rightB t y z = true := fun t ht => by
   simp only [Bool.and_eq_true] at hyz
   have : inR t = true := by unfold inR; simp only [Bool.and_eq_true, decide_eq_true_eq]; omega
   unfold rightB
   simp [this, hyz.1, hyz.2]
  have r1 := hR x (by omega)
  have r2 := hR m (by omega)
  have r3 := hR b (by omega)
  rw [freeX _ _ _ _ _ _ _ _ _ _ _ hc r1 r3, freeX _ _ _ _ _ _ _ _ _ _ _ hc r3 r1, freeX _ _ _ _ _ _ _ _ _ _ _ hc r1 r2, freeX _ _ _ _ _ _ _ _ _ _ _ hc r2 r3]
  rw [openX_back a0 a1 a2 a3 a4 a5 l b x y z]
  have hh := openX_half a0 a1 a2 a3 a4 a5 l x m b y z hm
  rw [hh]
  have hw : wrap64 (wrap64 ((0 : Int) + 0) + 0) = 0 := by decide +kernel
  dsimp only
  rw [hw]
  cases openV a0 a1 a2 a3 a4 a5 l ⟨x, y, z⟩ ⟨m, y, z⟩ <;> cases openV a0 a1 a2 a3 a4 a5 l ⟨m, y, z⟩ ⟨b, y, z⟩ <;> simp
 ·have hR : ∀ t : Int, rightB t y z = false := fun t => by
   cases h : rightB t y z with
   | false => rfl
   | true =>
    unfold rightB at h
    simp only [Bool.and_eq_true] at h hyz
    exact absurd ⟨by first | exact h.1.2 | exact h.2.1, by first | exact h.2 | exact h.2.2⟩ hyz
  have g : ∀ s t : Int, freeV a0 a1 a2 a3 a4 a5 l ⟨s, y, z⟩ ⟨t, y, z⟩ = (false, 2) := fun s t => by
   unfold freeV given2V
   dsimp only
   rw [if_pos hc, hR s]
   simp
  rw [g, g, g, g]
  simp
theorem wrap_by {n : Int} (h0 : -128 ≤ n) (h1 : n ≤ 127) : wrap64 n = n := by unfold wrap64; omega
theorem turnsJ0 (hr : RunEx) (a0 a1 a2 a3 a4 a5 : Int) (l : List S84) (x y z b0 b1 : Int) (hc : checkV a0 a1 a2 a3 a4 a5 l = 0) (hb : (-128 ≤ b0 ∧ b0 ≤ 127) ∧ (-128 ≤ b1 ∧ b1 ≤ 127)) (k : Nat) (hk : 200301 ≤ k) (c : Bool) (hx : c = false → -1000 ≤ x ∧ x ≤ 1000) :
  metrolablaw30_ProbeTurns.j0 (k + 1) c a0 a1 a2 a3 a4 a5 l x y z b0 b1 = some true := by
 obtain ⟨k, rfl⟩ : ∃ j, k = j + 1 := ⟨k - 1, by omega⟩
 have ha := awake_all hr (k + 1) (by omega)
 rw [metrolablaw30_ProbeTurns.j0]
 cases c with
 | true => simp only [ha, Option.bind_some, if_true]
 | false =>
  have hx := hx rfl
  have w0 : wrap64 b0 = b0 := wrap_by hb.1.1 hb.1.2
  have w1 : wrap64 b1 = b1 := wrap_by hb.2.1 hb.2.2
  have w2 : wrap64 (x + b0) = x + b0 := by unfold wrap64; omega
  have w3 : wrap64 (b0 + b1) = b0 + b1 := by unfold wrap64; omega
  have w4 : wrap64 (x + (b0 + b1)) = x + (b0 + b1) := by unfold wrap64; omega
  simp only [Bool.false_eq_true, if_false, w0, w1, w2, w3, w4]
  by_cases h0 : b0 < 0 <;> by_cases h1 : b1 < 0
  ·simp only [decide_eq_true h0, decide_eq_true h1, bne_self_eq_false, Bool.false_eq_true, if_false]
   exact turnsJ1 hr a0 a1 a2 a3 a4 a5 l x (x + b0) (x + (b0 + b1)) y z hc (by omega) (by omega) k (by omega)
  ·simp only [decide_eq_true h0, decide_eq_false h1, show ((true != false) = true) from rfl, if_true]
   exact turnsJ1 hr a0 a1 a2 a3 a4 a5 l x (x + b0) (x + b0) y z hc (by omega) (by omega) k (by omega)
  ·simp only [decide_eq_false h0, decide_eq_true h1, show ((false != true) = true) from rfl, if_true]
   exact turnsJ1 hr a0 a1 a2 a3 a4 a5 l x (x + b0) (x + b0) y z hc (by omega) (by omega) k (by omega)
  ·simp only [decide_eq_false h0, decide_eq_false h1, bne_self_eq_false, Bool.false_eq_true, if_false]
   exact turnsJ1 hr a0 a1 a2 a3 a4 a5 l x (x + b0) (x + (b0 + b1)) y z hc (by omega) (by omega) k (by omega)
theorem probeTurns_k (hr : RunEx) (a0 a1 a2 a3 a4 a5 : Int) (l : List S84) (x y z b0 b1 : Int) (hb : (-128 ≤ b0 ∧ b0 ≤ 127) ∧ (-128 ≤ b1 ∧ b1 ≤ 127)) (hl : l.length < 4398046511104) (k : Nat) (h60 : 200302 ≤ k) (hk : l.length + 1 ≤ k) : metrolablaw30_ProbeTurns.f k a0 a1 a2 a3 a4 a5 l x y z b0 b1 = some true := by
 obtain ⟨k, rfl⟩ : ∃ j, k = j + 1 := ⟨k - 1, by omega⟩
 have ho := own_eq a0 a1 a2 a3 a4 a5 l hl (k + 1) (by omega)
 have hf := few_eq' a0 a1 a2 a3 a4 a5 l
 have hcc := rcheck_eq a0 a1 a2 a3 a4 a5 l (k + 1) (by omega)
 obtain ⟨b, hb'⟩ := Near_some x y z x y z
 have ha := awake_all hr k (by omega)
 have T : metrolablaw30_ProbeTurns.j0 (k + 1) true a0 a1 a2 a3 a4 a5 l x y z b0 b1 = some true := by
  rw [metrolablaw30_ProbeTurns.j0]; simp only [ha, Option.bind_some, if_true]
 unfold metrolablaw30_ProbeTurns.f
 simp only [ho, Option.bind_some, hf, hcc, hb', T]
 split
 ·split
  ·rename_i hc
   split
   ·split
    ·rfl
    ·rename_i h1
     refine turnsJ0 hr a0 a1 a2 a3 a4 a5 l x y z b0 b1 hc hb k (by omega) _ (fun h => ?_)
     have := of_decide_eq_false h
     omega
   ·rfl
  ·rfl
 ·rfl
end Go.Proofs.YtolbjmaabghghaaGreatDoor.PA
