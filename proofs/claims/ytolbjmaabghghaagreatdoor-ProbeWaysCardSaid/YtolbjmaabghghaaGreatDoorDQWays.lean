/- A part of the proof. -/
import Derived.Test.YtolbjmaabghghaaGreatDoorDQAwake
import Derived.Test.YtolbjmaabghghaaGreatDoorDPAx35
namespace Go.Proofs.YtolbjmaabghghaaGreatDoor.PA
open Go.RowKit Go.PW Go.PL Go.PM
def diffN (a b c x y z : Int) : Int := (if a = x then 0 else 1) + (if b = y then 0 else 1) + (if c = z then 0 else 1)
theorem straight_eq (k : Nat) (hk : 5 ≤ k) (a b c x y z : Int) : probe_straight.f k a b c x y z = some (decide (diffN a b c x y z ≤ 1)) := by
 obtain ⟨k, rfl⟩ : ∃ j, k = j + 1 + 1 + 1 + 1 := ⟨k - 4, by omega⟩
 have w1 : wrap64 1 = 1 := by decide +kernel
 have w2 : wrap64 2 = 2 := by decide +kernel
 have w3 : wrap64 3 = 3 := by decide +kernel
 unfold probe_straight.f diffN
 simp only [probe_of.f, Option.bind_some]
 simp only [probe_straight.l0]
 by_cases h0 : a = x <;> by_cases h1 : b = y <;> by_cases h2 : c = z <;> simp [h0, h1, h2, w1, w2, w3]
theorem differ_eq (k : Nat) (hk : 5 ≤ k) (a b c x y z : Int) : metrolabref30_differ.f k a b c x y z = some (diffN a b c x y z) := by
 obtain ⟨k, rfl⟩ : ∃ j, k = j + 1 := ⟨k - 1, by omega⟩
 have w1 : wrap64 1 = 1 := by decide +kernel
 have w2 : wrap64 2 = 2 := by decide +kernel
 have w3 : wrap64 3 = 3 := by decide +kernel
 unfold metrolabref30_differ.f diffN
 simp only [metrolabref30_differ.j0]
 by_cases h0 : a = x <;> by_cases h1 : b = y <;> by_cases h2 : c = z <;> simp [h0, h1, h2, w1, w2, w3]
def given2V (a0 a1 a2 a3 a4 a5 : Int) (l : List S84) (p q : S23) : Int := if checkV a0 a1 a2 a3 a4 a5 l = 0 then (if rightB p.f0 p.f1 p.f2 = true then (if rightB q.f0 q.f1 q.f2 = true then 0 else 2) else 2) else checkV a0 a1 a2 a3 a4 a5 l
theorem given2_eq (a0 a1 a2 a3 a4 a5 : Int) (l : List S84) (p q : S23) (k : Nat) (hk : 50 ≤ k) : probe_given.f k a0 a1 a2 a3 a4 a5 l [p, q] = some (given2V a0 a1 a2 a3 a4 a5 l p q) := by
 unfold probe_given.f given2V
 rw [check_eq _ _ _ _ _ _ _ _ hk]
 simp only [Option.bind_some]
 by_cases h : checkV a0 a1 a2 a3 a4 a5 l = 0
 ·simp only [h, if_true]
  obtain ⟨k, rfl⟩ : ∃ k', k = k' + 1 + 1 + 1 := ⟨k - 3, by omega⟩
  have w1 : wrap64 (0 + 1) = 1 := wrap1 (by decide) (by decide)
  have w2 : wrap64 2 = 2 := by decide +kernel
  simp only [probe_given.l0, List.length_cons, List.length_nil, rd_T23, w1]
  simp [right_eq]
  cases rightB p.f0 p.f1 p.f2 <;> simp [right_eq]
  rw [w2]
  cases rightB q.f0 q.f1 q.f2 <;> simp
 ·rw [if_neg h, if_neg h]
theorem tw_toward (a b : Int) (ha : -1000000 < a ∧ a < 1000000) : metrolabref30_toward.f a b = some (tw a b) := by
 unfold metrolabref30_toward.f tw
 have h1 : wrap64 (a + 1) = a + 1 := by unfold wrap64; omega
 have h2 : wrap64 (a - 1) = a - 1 := by unfold wrap64; omega
 rw [h1, h2]
 split
 ·rfl
 ·split
  ·rfl
  ·rfl
def smallS (p : S23) : Prop := (-1000000 < p.f0 ∧ p.f0 < 1000000) ∧ (-1000000 < p.f1 ∧ p.f1 < 1000000) ∧ (-1000000 < p.f2 ∧ p.f2 < 1000000)
theorem tw_small {a b : Int} (ha : -1000000 < a ∧ a < 1000000) (hb : -1000000 < b ∧ b < 1000000) : -1000000 < tw a b ∧ tw a b < 1000000 := by
 unfold tw
 split
 ·omega
 ·split <;> omega
theorem dist_tw (p q : S23) (h : distS p q ≠ 0) : distS (twS p q) q + 1 ≤ distS p q := by
 unfold distS twS at *
 dsimp only
 rw [tw_dist, tw_dist, tw_dist]
 omega
theorem dist_zero (p q : S23) : distS p q = 0 ↔ (p.f0 = q.f0 ∧ p.f1 = q.f1 ∧ p.f2 = q.f2) := by
 unfold distS dist
 omega
theorem way_open (a0 a1 a2 a3 a4 a5 : Int) (l : List S84) (hl : l.length ≤ 16) (q : S23) (hq : smallS q) : ∀ (n : Nat) (p : S23) (m k : Nat), smallS p → distS p q ≤ n → n ≤ m → n + 60 ≤ k →
  metrolabref30_Open.l0 k a0 a1 a2 a3 a4 a5 (l.map toRef) q.f0 q.f1 q.f2 p.f0 p.f1 p.f2 = openL (fun x => some (fullV a0 a1 a2 a3 a4 a5 l x.f0 x.f1 x.f2)) (wayL m p q) := by
 have stop : ∀ (p : S23) (m k : Nat), p.f0 = q.f0 ∧ p.f1 = q.f1 ∧ p.f2 = q.f2 → 60 ≤ k → metrolabref30_Open.l0 k a0 a1 a2 a3 a4 a5 (l.map toRef) q.f0 q.f1 q.f2 p.f0 p.f1 p.f2 = openL (fun x => some (fullV a0 a1 a2 a3 a4 a5 l x.f0 x.f1 x.f2)) (wayL m p q) := by
  intro p m k he hk
  obtain ⟨k, rfl⟩ : ∃ j, k = j + 1 := ⟨k - 1, by omega⟩
  have hw : wayL m p q = [p] := by
   cases m with
   | zero => rfl
   | succ m => unfold wayL; rw [if_pos he]
  rw [hw, metrolabref30_Open.l0, rfull_eq _ _ _ _ _ _ _ _ _ _ _ (by omega) hl, he.1, he.2.1, he.2.2]
  simp only [openL, Option.bind_some, beq_self_eq_true, Bool.and_self, if_true]
  rw [he.1, he.2.1, he.2.2]
 intro n
 induction n with
 | zero =>
  intro p m k hp hd hm hk
  exact stop p m k ((dist_zero p q).1 (by omega)) (by omega)
 | succ n ih =>
  intro p m k hp hd hm hk
  by_cases he : p.f0 = q.f0 ∧ p.f1 = q.f1 ∧ p.f2 = q.f2
  ·exact stop p m k he (by omega)
  ·obtain ⟨k, rfl⟩ : ∃ j, k = j + 1 := ⟨k - 1, by omega⟩
   obtain ⟨m, rfl⟩ : ∃ j, m = j + 1 := ⟨m - 1, by omega⟩
   have hb : (p.f0 == q.f0 && (p.f1 == q.f1 && (p.f2 == q.f2))) = false := by
    cases h : (p.f0 == q.f0 && (p.f1 == q.f1 && (p.f2 == q.f2))) with
    | false => rfl
    | true =>
     simp only [Bool.and_eq_true, beq_iff_eq] at h
     exact absurd h he
   have h0 : distS p q ≠ 0 := fun h => he ((dist_zero p q).1 h)
   have hs := dist_tw p q h0
   rw [metrolabref30_Open.l0, rfull_eq _ _ _ _ _ _ _ _ _ _ _ (by omega) hl, hb]
   unfold wayL openL
   rw [if_neg he]
   simp only [Option.bind_some, Bool.false_eq_true, if_false]
   cases fullV a0 a1 a2 a3 a4 a5 l p.f0 p.f1 p.f2 with
   | true => rfl
   | false =>
    simp only [Bool.false_eq_true, if_false, tw_toward _ _ hp.1, tw_toward _ _ hp.2.1, tw_toward _ _ hp.2.2, Option.bind_some]
    exact ih (twS p q) m k ⟨tw_small hp.1 hq.1, tw_small hp.2.1 hq.2.1, tw_small hp.2.2 hq.2.2⟩ (by omega) (by omega) (by omega)
theorem openL_some (F : S23 → Bool) : ∀ l : List S23, openL (fun x => some (F x)) l = some (!(l.any F))
 | [] => rfl
 | p :: l => by
  unfold openL
  rw [openL_some F l]
  cases h : F p <;> simp [h]
def openV (a0 a1 a2 a3 a4 a5 : Int) (l : List S84) (p q : S23) : Bool := !((wayL (distS p q) p q).any fun x => fullV a0 a1 a2 a3 a4 a5 l x.f0 x.f1 x.f2)
def freeV (a0 a1 a2 a3 a4 a5 : Int) (l : List S84) (p q : S23) : Bool × Int :=
 if given2V a0 a1 a2 a3 a4 a5 l p q = 0 then (if diffN p.f0 p.f1 p.f2 q.f0 q.f1 q.f2 ≤ 1 then (openV a0 a1 a2 a3 a4 a5 l p q, 0) else (false, 3)) else (false, given2V a0 a1 a2 a3 a4 a5 l p q)
theorem given2_right {a0 a1 a2 a3 a4 a5 : Int} {l : List S84} {p q : S23} (h : given2V a0 a1 a2 a3 a4 a5 l p q = 0) : checkV a0 a1 a2 a3 a4 a5 l = 0 ∧ rightB p.f0 p.f1 p.f2 = true ∧ rightB q.f0 q.f1 q.f2 = true := by
 unfold given2V at h
 split at h
 ·rename_i hc
  split at h
  ·rename_i h1
   split at h
   ·rename_i h2; exact ⟨hc, h1, h2⟩
   ·cases h
  ·cases h
 ·contradiction
theorem right_small {p : S23} (h : rightB p.f0 p.f1 p.f2 = true) : smallS p ∧ (-100000 ≤ p.f0 ∧ p.f0 ≤ 100000) ∧ (-100000 ≤ p.f1 ∧ p.f1 ≤ 100000) ∧ (-100000 ≤ p.f2 ∧ p.f2 ≤ 100000) := by
 unfold rightB inR at h
 simp only [Bool.and_eq_true, decide_eq_true_eq] at h
 unfold smallS
 omega
theorem pfree_eq (a0 a1 a2 a3 a4 a5 : Int) (l : List S84) (x y z x' y' z' : Int) (k : Nat) (hk : 50 ≤ k) : probe_Free.f k a0 a1 a2 a3 a4 a5 l x y z x' y' z' = some (freeV a0 a1 a2 a3 a4 a5 l ⟨x, y, z⟩ ⟨x', y', z'⟩) := by
 unfold probe_Free.f freeV
 rw [given2_eq _ _ _ _ _ _ _ _ _ _ hk]
 simp only [Option.bind_some]
 by_cases hg : given2V a0 a1 a2 a3 a4 a5 l ⟨x, y, z⟩ ⟨x', y', z'⟩ = 0
 ·rw [if_pos hg, if_pos hg, straight_eq k (by omega)]
  simp only [Option.bind_some, decide_eq_true_eq]
  by_cases hs : diffN x y z x' y' z' ≤ 1
  ·rw [if_pos hs, if_pos hs]
   obtain ⟨hc, h1, h2⟩ := given2_right hg
   have r1 := right_small h1
   have r2 := right_small h2
   unfold probe_Solid_open.f
   rw [if_pos ⟨by unfold nearS near; dsimp only at *; omega, by unfold nearS near; dsimp only at *; omega⟩]
   have hF : fullS a0 a1 a2 a3 a4 a5 l = fun p => some (fullV a0 a1 a2 a3 a4 a5 l p.f0 p.f1 p.f2) := by
    funext p
    exact fullS_eq _ _ _ _ _ _ _ _ (check0 hc).1 (check0 hc).2
   rw [hF, openL_some (fun p => fullV a0 a1 a2 a3 a4 a5 l p.f0 p.f1 p.f2)]
   rfl
  ·rw [if_neg hs, if_neg hs]
 ·rw [if_neg hg, if_neg hg]
theorem rfree_eq (a0 a1 a2 a3 a4 a5 : Int) (l : List S84) (x y z x' y' z' : Int) (k : Nat) (hk : 700000 ≤ k) : metrolabref30_Free.f k a0 a1 a2 a3 a4 a5 (l.map toRef) x y z x' y' z' = some (freeV a0 a1 a2 a3 a4 a5 l ⟨x, y, z⟩ ⟨x', y', z'⟩) := by
 unfold metrolabref30_Free.f freeV
 rw [rgiven_eq _ _ _ _ _ _ _ _ _ _ _ (by omega), rgiven_eq _ _ _ _ _ _ _ _ _ _ _ (by omega)]
 simp only [Option.bind_some]
 by_cases hg : given2V a0 a1 a2 a3 a4 a5 l ⟨x, y, z⟩ ⟨x', y', z'⟩ = 0
 ·obtain ⟨hc, h1, h2⟩ := given2_right hg
  have g1 : givenV a0 a1 a2 a3 a4 a5 l x y z = 0 := by unfold givenV; rw [if_pos hc, if_pos h1]
  have g2 : givenV a0 a1 a2 a3 a4 a5 l x' y' z' = 0 := by unfold givenV; rw [if_pos hc, if_pos h2]
  have r1 := right_small h1
  have r2 := right_small h2
  rw [if_pos g1, if_pos g2, if_pos hg, differ_eq k (by omega)]
  simp only [Option.bind_some]
  by_cases hs : diffN x y z x' y' z' ≤ 1
  ·rw [if_neg (by omega), if_pos hs]
   unfold metrolabref30_Open.f
   have hd : distS ⟨x, y, z⟩ ⟨x', y', z'⟩ ≤ 600000 := by
    unfold distS dist
    dsimp only at *
    omega
   rw [way_open a0 a1 a2 a3 a4 a5 l (check0 hc).1 ⟨x', y', z'⟩ r2.1 (distS ⟨x, y, z⟩ ⟨x', y', z'⟩) ⟨x, y, z⟩ (distS ⟨x, y, z⟩ ⟨x', y', z'⟩) k r1.1 (Nat.le_refl _) (Nat.le_refl _) (by omega), openL_some (fun p => fullV a0 a1 a2 a3 a4 a5 l p.f0 p.f1 p.f2)]
   rfl
  ·rw [if_pos (by omega), if_neg hs]
 ·rw [if_neg hg]
  by_cases hc : checkV a0 a1 a2 a3 a4 a5 l = 0
  ·by_cases h1 : rightB x y z = true
   ·have g1 : givenV a0 a1 a2 a3 a4 a5 l x y z = 0 := by unfold givenV; rw [if_pos hc, if_pos h1]
    by_cases h2 : rightB x' y' z' = true
    ·exact absurd (by unfold given2V; rw [if_pos hc, if_pos h1, if_pos h2]) hg
    ·have g2 : givenV a0 a1 a2 a3 a4 a5 l x' y' z' = 2 := by unfold givenV; rw [if_pos hc, if_neg h2]
     have g3 : given2V a0 a1 a2 a3 a4 a5 l ⟨x, y, z⟩ ⟨x', y', z'⟩ = 2 := by unfold given2V; rw [if_pos hc, if_pos h1, if_neg h2]
     rw [if_pos g1, g2, g3]
     rfl
   ·have g1 : givenV a0 a1 a2 a3 a4 a5 l x y z = 2 := by unfold givenV; rw [if_pos hc, if_neg h1]
    have g3 : given2V a0 a1 a2 a3 a4 a5 l ⟨x, y, z⟩ ⟨x', y', z'⟩ = 2 := by unfold given2V; rw [if_pos hc, if_neg h1]
    rw [g1, g3]
    rfl
  ·have g1 : givenV a0 a1 a2 a3 a4 a5 l x y z = checkV a0 a1 a2 a3 a4 a5 l := by unfold givenV; rw [if_neg hc]
   have g3 : given2V a0 a1 a2 a3 a4 a5 l ⟨x, y, z⟩ ⟨x', y', z'⟩ = checkV a0 a1 a2 a3 a4 a5 l := by unfold given2V; rw [if_neg hc]
   rw [g1, g3, if_neg hc]
theorem near_some (x y z : Int) : ∃ b, metrolabref30_near.f x y z = some b := by
 unfold metrolabref30_near.f
 rw [rightSpot_eq]
 simp only [Option.bind_some]
 repeat' split
 all_goals exact ⟨_, rfl⟩
theorem Near_some (x y z x' y' z' : Int) : ∃ b, metrolabref30_Near.f x y z x' y' z' = some b := by
 obtain ⟨b, hb⟩ := near_some x y z
 obtain ⟨c, hc⟩ := near_some x' y' z'
 unfold metrolabref30_Near.f
 rw [hb, hc]
 simp only [Option.bind_some]
 split
 ·exact ⟨_, rfl⟩
 ·exact ⟨_, rfl⟩
end Go.Proofs.YtolbjmaabghghaaGreatDoor.PA
