/- A part of the proof. -/
import Derived.Test.YtolbjmaabghghaaGreatDoorJ7PAx6
import Derived.Test.YtolbjmaabghghaaGreatDoorJ7PAx0
import Derived.Test.YtolbjmaabghghaaGreatDoorJ7PAx17
import Derived.Test.YtolbjmaabghghaaGreatDoorJ7ERow
namespace Go.Proofs.YtolbjmaabghghaaGreatDoor.PA
open Go.RowKit Go.PW Go.PL Go.PM
def inR (n : Int) : Bool := decide (-100000 ≤ n) && decide (n ≤ 100000)
def rightB (x y z : Int) : Bool := inR x && inR y && inR z
theorem within_eq (n : Int) : probe_within.f n = some (inR n) := by
 unfold probe_within.f inR
 by_cases h : -100000 ≤ n
 ·rw [if_pos h]; simp [h]
 ·rw [if_neg h]; simp [h]
theorem in_eq (n : Int) : metrolabref07_in.f n = some (inR n) := within_eq n
theorem right_eq (x y z : Int) : probe_right.f x y z = some (rightB x y z) := by
 unfold probe_right.f rightB
 simp only [within_eq, Option.bind_some]
 cases inR x <;> cases inR y <;> cases inR z <;> rfl
theorem rightSpot_eq (x y z : Int) : metrolabref07_RightSpot.f x y z = some (rightB x y z) := by
 unfold metrolabref07_RightSpot.f rightB
 simp only [in_eq, Option.bind_some]
 cases inR x <;> cases inR y <;> cases inR z <;> rfl
def toRef (b : S84) : S92 := ⟨b.f0, ⟨b.f1.f0, b.f1.f1⟩, b.f2⟩
def boreErr (b : S84) : Int := if b.f0 < 0 ∨ 3 ≤ b.f0 then 1 else if (inR b.f1.f0 && inR b.f1.f1) = true ∧ 1 ≤ b.f2 ∧ b.f2 ≤ 100000 then 0 else 2
def boresErr : List S84 → Int
 | [] => 0
 | b :: l => if boreErr b = 0 then boresErr l else boreErr b
def checkV (a0 a1 a2 a3 a4 a5 : Int) (l : List S84) : Int :=
 if (rightB a0 a1 a2 && rightB a3 a4 a5) = true then (if a0 > a3 ∨ a1 > a4 ∨ a2 > a5 then 9 else if l.length > 16 then 5 else boresErr l) else 2
theorem wrap1 {n : Int} (h0 : 0 ≤ n) (h1 : n < 1000000000000000) : wrap64 (n + 1) = n + 1 := by unfold wrap64; omega
theorem drop_cons84 (l : List S84) (i : Nat) (h : i < l.length) : l.drop i = rd_T84 l (i : Int) :: l.drop (i + 1) := by
 rw [List.drop_eq_getElem_cons h]
 simp [rd_T84, List.getD, List.getElem?_eq_getElem h]
theorem check_l1 (l : List S84) (hl : l.length ≤ 16) : ∀ (n i k : Nat), i + n = l.length → 2 * n + 1 ≤ k → probe_Check.l1 k l (l.length : Int) (i : Int) = some (boresErr (l.drop i))
 | 0, i, k, hi, hk => by
  obtain ⟨k, rfl⟩ : ∃ k', k = k' + 1 := ⟨k - 1, by omega⟩
  have : l.drop i = [] := List.drop_eq_nil_of_le (by omega)
  rw [this]
  unfold probe_Check.l1
  rw [if_neg (by omega)]; rfl
 | n + 1, i, k, hi, hk => by
  obtain ⟨k, rfl⟩ : ∃ k', k = k' + 1 + 1 := ⟨k - 2, by omega⟩
  have ih := check_l1 l hl n (i + 1) k (by omega) (by omega)
  rw [drop_cons84 l i (by omega)]
  unfold probe_Check.l1
  rw [if_pos (by omega), if_pos (by omega), if_pos (by omega)]
  generalize rd_T84 l (i : Int) = b
  have hj : ∀ x : Bool, probe_Check.j3 (k + 1) l (l.length : Int) (i : Int) x b.f0 b.f1.f0 b.f1.f1 b.f2 = if x = true then some 1 else if (inR b.f1.f0 && inR b.f1.f1) = true ∧ 1 ≤ b.f2 ∧ b.f2 ≤ 100000 then some (boresErr (l.drop (i + 1))) else some 2 := by
   intro x
   unfold probe_Check.j3
   cases x
   ·simp only [within_eq, Option.bind_some, Bool.false_eq_true, if_false]
    cases h1 : inR b.f1.f0 <;> cases h2 : inR b.f1.f1 <;> simp
    rw [wrap1 (by omega) (by omega), show (i : Int) + 1 = ((i + 1 : Nat) : Int) by omega, ih]
    by_cases h3 : b.f2 < 1
    ·rw [if_pos h3, if_neg (by omega)]
    ·rw [if_neg h3]
     by_cases h4 : 100000 < b.f2
     ·rw [if_pos h4, if_neg (by omega)]
     ·rw [if_neg h4, if_pos (by omega)]
   ·simp
  rw [hj, hj]
  simp only [boresErr, boreErr]
  by_cases h0 : b.f0 < 0
  ·simp [h0]
  ·rw [if_neg h0]
   by_cases h3 : 3 ≤ b.f0
   ·simp [h0, h3]
   ·have h3' : decide (b.f0 ≥ 3) = false := by simpa using h3
    rw [h3']
    simp only [Bool.false_eq_true, if_false, h0, h3, or_self]
    split <;> simp
theorem check_eq (a0 a1 a2 a3 a4 a5 : Int) (l : List S84) (k : Nat) (hk : 50 ≤ k) : probe_Check.f k a0 a1 a2 a3 a4 a5 l = some (checkV a0 a1 a2 a3 a4 a5 l) := by
 obtain ⟨k, rfl⟩ : ∃ k', k = k' + 1 + 1 + 1 + 1 + 1 := ⟨k - 5, by omega⟩
 have hj : ∀ x : Bool, probe_Check.j0 (k + 1 + 1 + 1 + 1 + 1) x a0 a1 a2 a3 a4 a5 l = if x = true then some 2 else (if a0 > a3 ∨ a1 > a4 ∨ a2 > a5 then some 9 else if l.length > 16 then some 5 else some (boresErr l)) := by
  intro x
  unfold probe_Check.j0
  cases x
  ·simp only [probe_of.f, Option.bind_some, Bool.false_eq_true, if_false]
   have w1 : wrap64 (0 + 1) = 1 := wrap1 (by decide) (by decide)
   have w2 : wrap64 (1 + 1) = 2 := wrap1 (by decide) (by decide)
   have w3 : wrap64 (2 + 1) = 3 := wrap1 (by decide) (by decide)
   simp only [probe_Check.l0, w1, w2, w3]
   simp only [show (0 : Int) < 3 by decide, show (1 : Int) < 3 by decide, show (2 : Int) < 3 by decide, show ¬ (3 : Int) < 3 by decide, show (0 : Int) ≤ 0 by decide, show (0 : Int) ≤ 1 by decide, show (0 : Int) ≤ 2 by decide, if_true, if_false, show ¬ (1 : Int) = 0 by decide, show ¬ (2 : Int) = 0 by decide, show ¬ (2 : Int) = 1 by decide]
   by_cases h0 : a0 > a3
   ·simp [h0]
   ·by_cases h1 : a1 > a4
    ·simp [h0, h1]
    ·by_cases h2 : a2 > a5
     ·simp [h0, h1, h2]
     ·simp only [h0, h1, h2, if_false, or_self]
      by_cases h16 : l.length > 16
      ·rw [if_pos (by omega), if_pos h16]
      ·rw [if_neg (by omega), if_neg h16]
       have := check_l1 l (by omega) l.length 0 k (by omega) (by omega)
       simpa using this
  ·simp
 unfold probe_Check.f checkV
 simp only [right_eq, Option.bind_some]
 cases rightB a0 a1 a2 <;> cases rightB a3 a4 a5 <;> simp [hj]
 repeat' split
 all_goals rfl
def givenV (a0 a1 a2 a3 a4 a5 : Int) (l : List S84) (x y z : Int) : Int := if checkV a0 a1 a2 a3 a4 a5 l = 0 then (if rightB x y z = true then 0 else 2) else checkV a0 a1 a2 a3 a4 a5 l
theorem given1_eq (a0 a1 a2 a3 a4 a5 : Int) (l : List S84) (x y z : Int) (k : Nat) (hk : 50 ≤ k) : probe_given.f k a0 a1 a2 a3 a4 a5 l [⟨x, y, z⟩] = some (givenV a0 a1 a2 a3 a4 a5 l x y z) := by
 unfold probe_given.f givenV
 rw [check_eq _ _ _ _ _ _ _ _ hk]
 simp only [Option.bind_some]
 by_cases h : checkV a0 a1 a2 a3 a4 a5 l = 0
 ·simp only [h, if_true]
  obtain ⟨k, rfl⟩ : ∃ k', k = k' + 1 + 1 := ⟨k - 2, by omega⟩
  have w1 : wrap64 (0 + 1) = 1 := wrap1 (by decide) (by decide)
  simp only [probe_given.l0, List.length_cons, List.length_nil, rd_T23, w1]
  simp [right_eq]
  cases rightB x y z <;> simp
 ·rw [if_neg h, if_neg h]
def inside (a0 a1 a2 a3 a4 a5 x y z : Int) : Bool := decide (a0 ≤ x ∧ x ≤ a3 ∧ a1 ≤ y ∧ y ≤ a4 ∧ a2 ≤ z ∧ z ≤ a5)
def fullV (a0 a1 a2 a3 a4 a5 : Int) (l : List S84) (x y z : Int) : Bool := inside a0 a1 a2 a3 a4 a5 x y z && !(l.any fun b => hasB b x y z)
def axesOk (l : List S84) : Prop := ∀ b ∈ l, 0 ≤ b.f0 ∧ b.f0 ≤ 2
theorem axes_of {l : List S84} (h : boresErr l = 0) : axesOk l := by
 induction l with
 | nil => intro b hb; simp at hb
 | cons c l ih =>
  simp only [boresErr] at h
  by_cases hc : boreErr c = 0
  ·rw [if_pos hc] at h
   intro b hb
   rcases List.mem_cons.1 hb with rfl | hb
   ·unfold boreErr at hc
    by_cases hx : b.f0 < 0 ∨ 3 ≤ b.f0
    ·rw [if_pos hx] at hc; omega
    ·omega
   ·exact ih h b hb
  ·rw [if_neg hc] at h; exact absurd h hc
theorem full_eq (a0 a1 a2 a3 a4 a5 : Int) (l : List S84) (x y z : Int) (k : Nat) (hk : 4 ≤ k) (hl : l.length ≤ 16) (hax : axesOk l) : probe_Solid_full.f k a0 a1 a2 a3 a4 a5 l x y z = some (fullV a0 a1 a2 a3 a4 a5 l x y z) := by
 obtain ⟨k, rfl⟩ : ∃ k', k = k' + 1 + 1 + 1 + 1 := ⟨k - 4, by omega⟩
 have w1 : wrap64 (0 + 1) = 1 := wrap1 (by decide) (by decide)
 have w2 : wrap64 (1 + 1) = 2 := wrap1 (by decide) (by decide)
 have w3 : wrap64 (2 + 1) = 3 := wrap1 (by decide) (by decide)
 have hc : contains_bore.f l x y z = some (l.any fun b => hasB b x y z) := by
  unfold contains_bore.f
  rw [if_pos ⟨by omega, List.all_eq_true.2 fun b hb => by simpa using hax b hb⟩]
 unfold probe_Solid_full.f
 simp only [probe_of.f, Option.bind_some, probe_Solid_full.l0, w1, w2, w3]
 simp only [show (0 : Int) < 3 by decide, show (1 : Int) < 3 by decide, show (2 : Int) < 3 by decide, show ¬ (3 : Int) < 3 by decide, show (0 : Int) ≤ 0 by decide, show (0 : Int) ≤ 1 by decide, show (0 : Int) ≤ 2 by decide, if_true, if_false]
 have r0 : ∀ a b c : Int, rd [a, b, c] 0 = a := fun a b c => rfl
 have r1 : ∀ a b c : Int, rd [a, b, c] 1 = b := fun a b c => rfl
 have r2 : ∀ a b c : Int, rd [a, b, c] 2 = c := fun a b c => rfl
 simp only [r0, r1, r2, hc, Option.bind_some]
 unfold fullV inside
 repeat' split
 all_goals first
  | (congr 1; rw [decide_eq_true (by omega)]; simp)
  | (congr 1; rw [decide_eq_false (by omega)]; simp)
theorem check0 {a0 a1 a2 a3 a4 a5 : Int} {l : List S84} (h : checkV a0 a1 a2 a3 a4 a5 l = 0) : l.length ≤ 16 ∧ axesOk l := by
 unfold checkV at h
 split at h
 ·split at h
  ·omega
  ·split at h
   ·omega
   ·exact ⟨by omega, axes_of h⟩
 ·omega
def materialV (a0 a1 a2 a3 a4 a5 : Int) (l : List S84) (x y z : Int) : Bool × Int := if givenV a0 a1 a2 a3 a4 a5 l x y z = 0 then (fullV a0 a1 a2 a3 a4 a5 l x y z, 0) else (false, givenV a0 a1 a2 a3 a4 a5 l x y z)
theorem given0 {a0 a1 a2 a3 a4 a5 : Int} {l : List S84} {x y z : Int} (h : givenV a0 a1 a2 a3 a4 a5 l x y z = 0) : checkV a0 a1 a2 a3 a4 a5 l = 0 := by
 unfold givenV at h
 by_cases hc : checkV a0 a1 a2 a3 a4 a5 l = 0
 ·exact hc
 ·rw [if_neg hc] at h; exact h
theorem material_eq (a0 a1 a2 a3 a4 a5 : Int) (l : List S84) (x y z : Int) (k : Nat) (hk : 50 ≤ k) : probe_Material.f k a0 a1 a2 a3 a4 a5 l x y z = some (materialV a0 a1 a2 a3 a4 a5 l x y z) := by
 unfold probe_Material.f materialV
 rw [given1_eq _ _ _ _ _ _ _ _ _ _ _ hk]
 simp only [Option.bind_some]
 by_cases h : givenV a0 a1 a2 a3 a4 a5 l x y z = 0
 ·rw [if_pos h, if_pos h, full_eq _ _ _ _ _ _ _ _ _ _ _ (by omega) (check0 (given0 h)).1 (check0 (given0 h)).2]; rfl
 ·rw [if_neg h, if_neg h]
theorem own_l0 (a0 a1 a2 a3 a4 a5 : Int) (l : List S84) (hl : l.length < 4398046511104) : ∀ (n i k : Nat), i + n = l.length → n + 1 ≤ k → metrolablaw30_own.l0 k l (l.length : Int) (i : Int) a0 a1 a2 a3 a4 a5 ((l.take i).map toRef) = some (a0, a1, a2, a3, a4, a5, l.map toRef)
 | 0, i, k, hi, hk => by
  obtain ⟨k, rfl⟩ : ∃ k', k = k' + 1 := ⟨k - 1, by omega⟩
  unfold metrolablaw30_own.l0
  rw [if_neg (by omega), List.take_of_length_le (by omega)]
 | n + 1, i, k, hi, hk => by
  obtain ⟨k, rfl⟩ : ∃ k', k = k' + 1 := ⟨k - 1, by omega⟩
  have ih := own_l0 a0 a1 a2 a3 a4 a5 l hl n (i + 1) k (by omega) (by omega)
  unfold metrolablaw30_own.l0
  rw [if_pos (by omega), if_pos (by omega), if_pos (by omega), if_pos (by simp; omega), wrap1 (by omega) (by omega), show (i : Int) + 1 = ((i + 1 : Nat) : Int) by omega]
  rw [← ih]
  congr 1
  rw [List.take_add_one, List.map_append]
  congr 1
  rw [List.getElem?_eq_getElem (by omega)]
  simp [rd_T84, List.getD, List.getElem?_eq_getElem (show i < l.length by omega), toRef]
theorem own_eq (a0 a1 a2 a3 a4 a5 : Int) (l : List S84) (hl : l.length < 4398046511104) (k : Nat) (hk : l.length + 1 ≤ k) : metrolablaw30_own.f k a0 a1 a2 a3 a4 a5 l = some (a0, a1, a2, a3, a4, a5, l.map toRef) := by
 have := own_l0 a0 a1 a2 a3 a4 a5 l hl l.length 0 k (by omega) hk
 simpa [metrolablaw30_own.f] using this
end Go.Proofs.YtolbjmaabghghaaGreatDoor.PA
