/- A part of the proof. -/
import Derived.Test.YtolbjmaabghghaaGreatDoorH7QAwake
import Derived.Test.YtolbjmaabghghaaGreatDoorH7PAx35
namespace Go.Proofs.YtolbjmaabghghaaGreatDoor.PA
open Go.RowKit Go.PW Go.PL Go.PM
def diffN (a b c x y z : Int) : Int := (if a = x then 0 else 1) + (if b = y then 0 else 1) + (if c = z then 0 else 1)
theorem straight_eq (k : Nat) (hk : 5 ≤ k) (a b c x y z : Int) : probe_straight.f k a b c x y z = some (decide (diffN a b c x y z ≤ 1)) := by
 obtain ⟨k, rfl⟩ : ∃ j, k = j + 1 + 1 + 1 + 1 := ⟨k - 4, by omega⟩
 have w1 : wrap64 1 = 1 := by decide +kernel
 have w2 : wrap64 2 = 2 := by decide +kernel
 have w3 : wrap64 3 = 3 := by decide +kernel
 unfold probe_straight.f diffN
 simp only [probe_of.f, Option.bind_some]
 simp only [probe_straight.l0]
 by_cases h0 : a = x <;> by_cases h1 : b = y <;> by_cases h2 : c = z <;> simp [h0, h1, h2, w1, w2, w3]
def given2V (a0 a1 a2 a3 a4 a5 : Int) (l : List S84) (p q : S23) : Int := if checkV a0 a1 a2 a3 a4 a5 l = 0 then (if rightB p.f0 p.f1 p.f2 = true then (if rightB q.f0 q.f1 q.f2 = true then 0 else 2) else 2) else checkV a0 a1 a2 a3 a4 a5 l
theorem given2_eq (a0 a1 a2 a3 a4 a5 : Int) (l : List S84) (p q : S23) (k : Nat) (hk : 50 ≤ k) : probe_given.f k a0 a1 a2 a3 a4 a5 l [p, q] = some (given2V a0 a1 a2 a3 a4 a5 l p q) := by
 unfold probe_given.f given2V
 rw [check_eq _ _ _ _ _ _ _ _ hk]
 simp only [Option.bind_some]
 by_cases h : checkV a0 a1 a2 a3 a4 a5 l = 0
 ·simp only [h, if_true]
  obtain ⟨k, rfl⟩ : ∃ k', k = k' + 1 + 1 + 1 := ⟨k - 3, by omega⟩
  have w1 : wrap64 (0 + 1) = 1 := wrap1 (by decide) (by decide)
  have w2 : wrap64 2 = 2 := by decide +kernel
  simp only [probe_given.l0, List.length_cons, List.length_nil, rd_T23, w1]
  simp [right_eq]
  cases rightB p.f0 p.f1 p.f2 <;> simp [right_eq]
  rw [w2]
  cases rightB q.f0 q.f1 q.f2 <;> simp
 ·rw [if_neg h, if_neg h]
def smallS (p : S23) : Prop := (-1000000 < p.f0 ∧ p.f0 < 1000000) ∧ (-1000000 < p.f1 ∧ p.f1 < 1000000) ∧ (-1000000 < p.f2 ∧ p.f2 < 1000000)
theorem openL_some (F : S23 → Bool) : ∀ l : List S23, openL (fun x => some (F x)) l = some (!(l.any F))
 | [] => rfl
 | p :: l => by
  unfold openL
  rw [openL_some F l]
  cases h : F p <;> simp [h]
def openV (a0 a1 a2 a3 a4 a5 : Int) (l : List S84) (p q : S23) : Bool := !((wayL (distS p q) p q).any fun x => fullV a0 a1 a2 a3 a4 a5 l x.f0 x.f1 x.f2)
def freeV (a0 a1 a2 a3 a4 a5 : Int) (l : List S84) (p q : S23) : Bool × Int :=
 if given2V a0 a1 a2 a3 a4 a5 l p q = 0 then (if diffN p.f0 p.f1 p.f2 q.f0 q.f1 q.f2 ≤ 1 then (openV a0 a1 a2 a3 a4 a5 l p q, 0) else (false, 3)) else (false, given2V a0 a1 a2 a3 a4 a5 l p q)
theorem given2_right {a0 a1 a2 a3 a4 a5 : Int} {l : List S84} {p q : S23} (h : given2V a0 a1 a2 a3 a4 a5 l p q = 0) : checkV a0 a1 a2 a3 a4 a5 l = 0 ∧ rightB p.f0 p.f1 p.f2 = true ∧ rightB q.f0 q.f1 q.f2 = true := by
 unfold given2V at h
 split at h
 ·rename_i hc
  split at h
  ·rename_i h1
   split at h
   ·rename_i h2; exact ⟨hc, h1, h2⟩
   ·cases h
  ·cases h
 ·contradiction
theorem right_small {p : S23} (h : rightB p.f0 p.f1 p.f2 = true) : smallS p ∧ (-100000 ≤ p.f0 ∧ p.f0 ≤ 100000) ∧ (-100000 ≤ p.f1 ∧ p.f1 ≤ 100000) ∧ (-100000 ≤ p.f2 ∧ p.f2 ≤ 100000) := by
 unfold rightB inR at h
 simp only [Bool.and_eq_true, decide_eq_true_eq] at h
 unfold smallS
 omega
theorem pfree_eq (a0 a1 a2 a3 a4 a5 : Int) (l : List S84) (x y z x' y' z' : Int) (k : Nat) (hk : 50 ≤ k) : probe_Free.f k a0 a1 a2 a3 a4 a5 l x y z x' y' z' = some (freeV a0 a1 a2 a3 a4 a5 l ⟨x, y, z⟩ ⟨x', y', z'⟩) := by
 unfold probe_Free.f freeV
 rw [given2_eq _ _ _ _ _ _ _ _ _ _ hk]
 simp only [Option.bind_some]
 by_cases hg : given2V a0 a1 a2 a3 a4 a5 l ⟨x, y, z⟩ ⟨x', y', z'⟩ = 0
 ·rw [if_pos hg, if_pos hg, straight_eq k (by omega)]
  simp only [Option.bind_some, decide_eq_true_eq]
  by_cases hs : diffN x y z x' y' z' ≤ 1
  ·rw [if_pos hs, if_pos hs]
   obtain ⟨hc, h1, h2⟩ := given2_right hg
   have r1 := right_small h1
   have r2 := right_small h2
   unfold probe_Solid_open.f
   rw [if_pos ⟨by unfold nearS near; dsimp only at *; omega, by unfold nearS near; dsimp only at *; omega⟩]
   have hF : fullS a0 a1 a2 a3 a4 a5 l = fun p => some (fullV a0 a1 a2 a3 a4 a5 l p.f0 p.f1 p.f2) := by
    funext p
    exact fullS_eq _ _ _ _ _ _ _ _ (check0 hc).1 (check0 hc).2
   rw [hF, openL_some (fun p => fullV a0 a1 a2 a3 a4 a5 l p.f0 p.f1 p.f2)]
   rfl
  ·rw [if_neg hs, if_neg hs]
 ·rw [if_neg hg, if_neg hg]
theorem near_some (x y z : Int) : ∃ b, metrolabref30_near.f x y z = some b := by
 unfold metrolabref30_near.f
 rw [rightSpot_eq]
 simp only [Option.bind_some]
 repeat' split
 all_goals exact ⟨_, rfl⟩
theorem Near_some (x y z x' y' z' : Int) : ∃ b, metrolabref30_Near.f x y z x' y' z' = some b := by
 obtain ⟨b, hb⟩ := near_some x y z
 obtain ⟨c, hc⟩ := near_some x' y' z'
 unfold metrolabref30_Near.f
 rw [hb, hc]
 simp only [Option.bind_some]
 split
 ·exact ⟨_, rfl⟩
 ·exact ⟨_, rfl⟩
end Go.Proofs.YtolbjmaabghghaaGreatDoor.PA
