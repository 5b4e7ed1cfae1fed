/- A part of the proof. -/
import Derived.Test.YtolbjmaabghghaaGreatDoorJ7QAwake
import Derived.Test.YtolbjmaabghghaaGreatDoorJ7PAx0
import Derived.Test.YtolbjmaabghghaaGreatDoorJ7PAx17
import Derived.Test.YtolbjmaabghghaaGreatDoorJ7PAx20
import Derived.Test.YtolbjmaabghghaaGreatDoorJ7EWay3
import Derived.Test.YtolbjmaabghghaaGreatDoorJ7PAx3
import Derived.Test.YtolbjmaabghghaaGreatDoorJ7PAx5
import Derived.Test.YtolbjmaabghghaaGreatDoorJ7PAx14
import Derived.Test.YtolbjmaabghghaaGreatDoorJ7PAx16
import Derived.Test.YtolbjmaabghghaaGreatDoorJ7PAx29
import Derived.Test.YtolbjmaabghghaaGreatDoorJ7PAx1
import Derived.Test.YtolbjmaabghghaaGreatDoorJ7PAx6
import Derived.Test.YtolbjmaabghghaaGreatDoorJ7PAx7
namespace Go.Proofs.YtolbjmaabghghaaGreatDoor.PA
open Go.RowKit Go.PW Go.PL Go.PM
def stepD (d : Int) (p : S23) : S23 := if d = 0 then ⟨p.f0 + 1, p.f1, p.f2⟩ else if d = 1 then ⟨p.f0 - 1, p.f1, p.f2⟩ else if d = 2 then ⟨p.f0, p.f1 + 1, p.f2⟩ else if d = 3 then ⟨p.f0, p.f1 - 1, p.f2⟩ else if d = 4 then ⟨p.f0, p.f1, p.f2 + 1⟩ else ⟨p.f0, p.f1, p.f2 - 1⟩
def leftD (d : Int) (p : S23) : Int := if d = 0 then 100000 - p.f0 else if d = 1 then p.f0 + 100000 else if d = 2 then 100000 - p.f1 else if d = 3 then p.f1 + 100000 else if d = 4 then 100000 - p.f2 else p.f2 + 100000
def endD (d : Int) (p : S23) : S23 := aheadP p.f0 p.f1 p.f2 d
def rightS3 (p : S23) : Prop := (-100000 ≤ p.f0 ∧ p.f0 ≤ 100000) ∧ (-100000 ≤ p.f1 ∧ p.f1 ≤ 100000) ∧ (-100000 ≤ p.f2 ∧ p.f2 ≤ 100000)
theorem rightB_iff (p : S23) : rightB p.f0 p.f1 p.f2 = true ↔ rightS3 p := by
 unfold rightB inR rightS3
 simp [and_assoc]
theorem dcase {d : Int} (h0 : 0 ≤ d) (h5 : d ≤ 5) : d = 0 ∨ d = 1 ∨ d = 2 ∨ d = 3 ∨ d = 4 ∨ d = 5 := by omega
theorem wrap_id {n : Int} (h : -1000000 ≤ n ∧ n ≤ 1000000) : wrap64 n = n := by unfold wrap64; omega
theorem ahead_eq (d : Int) (h0 : 0 ≤ d) (h5 : d ≤ 5) (p : S23) (hp : rightS3 p) : metrolabref30_Ahead.f p.f0 p.f1 p.f2 d = some ((stepD d p).f0, (stepD d p).f1, (stepD d p).f2) := by
 obtain ⟨⟨a1, a2⟩, ⟨b1, b2⟩, c1, c2⟩ := hp
 have e1 : wrap64 (p.f0 + 1) = p.f0 + 1 := wrap_id (by omega)
 have e2 : wrap64 (p.f0 + -1) = p.f0 - 1 := by rw [wrap_id (by omega)]; omega
 have e3 : wrap64 (p.f1 + 1) = p.f1 + 1 := wrap_id (by omega)
 have e4 : wrap64 (p.f1 + -1) = p.f1 - 1 := by rw [wrap_id (by omega)]; omega
 have e5 : wrap64 (p.f2 + 1) = p.f2 + 1 := wrap_id (by omega)
 have e6 : wrap64 (p.f2 + -1) = p.f2 - 1 := by rw [wrap_id (by omega)]; omega
 rcases dcase h0 h5 with rfl | rfl | rfl | rfl | rfl | rfl
 ·unfold metrolabref30_Ahead.f stepD
  rw [show wrap64 (1 - wrap64 (2 * Int.tmod 0 2)) = 1 by decide +kernel, e1, show wrap64 (Int.tdiv 0 2) = 0 by decide +kernel]
  simp
 ·unfold metrolabref30_Ahead.f stepD
  rw [show wrap64 (1 - wrap64 (2 * Int.tmod 1 2)) = -1 by decide +kernel, e2, show wrap64 (Int.tdiv 1 2) = 0 by decide +kernel]
  simp
 ·unfold metrolabref30_Ahead.f stepD
  rw [show wrap64 (1 - wrap64 (2 * Int.tmod 2 2)) = 1 by decide +kernel, e3, show wrap64 (Int.tdiv 2 2) = 1 by decide +kernel]
  simp
 ·unfold metrolabref30_Ahead.f stepD
  rw [show wrap64 (1 - wrap64 (2 * Int.tmod 3 2)) = -1 by decide +kernel, e4, show wrap64 (Int.tdiv 3 2) = 1 by decide +kernel]
  simp
 ·unfold metrolabref30_Ahead.f stepD
  rw [show wrap64 (1 - wrap64 (2 * Int.tmod 4 2)) = 1 by decide +kernel, e5, show wrap64 (Int.tdiv 4 2) = 2 by decide +kernel]
  simp
 ·unfold metrolabref30_Ahead.f stepD
  rw [show wrap64 (1 - wrap64 (2 * Int.tmod 5 2)) = -1 by decide +kernel, e6, show wrap64 (Int.tdiv 5 2) = 2 by decide +kernel]
  simp
theorem left_step (d : Int) (h0 : 0 ≤ d) (h5 : d ≤ 5) (p : S23) : leftD d (stepD d p) = leftD d p - 1 := by
 rcases dcase h0 h5 with rfl | rfl | rfl | rfl | rfl | rfl <;> simp [leftD, stepD] <;> omega
theorem right_step (d : Int) (h0 : 0 ≤ d) (h5 : d ≤ 5) (p : S23) (hp : rightS3 p) : rightS3 (stepD d p) ↔ 1 ≤ leftD d p := by
 unfold rightS3 at *
 rcases dcase h0 h5 with rfl | rfl | rfl | rfl | rfl | rfl <;> simp [leftD, stepD] <;> omega
theorem left_nonneg (d : Int) (h0 : 0 ≤ d) (h5 : d ≤ 5) (p : S23) (hp : rightS3 p) : 0 ≤ leftD d p ∧ leftD d p ≤ 200000 := by
 unfold rightS3 at *
 rcases dcase h0 h5 with rfl | rfl | rfl | rfl | rfl | rfl <;> simp [leftD] <;> omega
theorem end_step (d : Int) (h0 : 0 ≤ d) (h5 : d ≤ 5) (p : S23) : endD d (stepD d p) = endD d p := by
 rcases dcase h0 h5 with rfl | rfl | rfl | rfl | rfl | rfl <;> simp [endD, aheadP, stepD]
theorem end_iff (d : Int) (h0 : 0 ≤ d) (h5 : d ≤ 5) (p : S23) : (p.f0 = (endD d p).f0 ∧ p.f1 = (endD d p).f1 ∧ p.f2 = (endD d p).f2) ↔ leftD d p = 0 := by
 rcases dcase h0 h5 with rfl | rfl | rfl | rfl | rfl | rfl <;> simp [endD, aheadP, leftD] <;> omega
theorem tw_end (d : Int) (h0 : 0 ≤ d) (h5 : d ≤ 5) (p : S23) (h : 1 ≤ leftD d p) : twS p (endD d p) = stepD d p := by
 have self : ∀ a : Int, tw a a = a := fun a => by unfold tw; simp
 rcases dcase h0 h5 with rfl | rfl | rfl | rfl | rfl | rfl <;> simp [leftD] at h <;> simp [endD, aheadP, stepD, twS, self] <;> unfold tw <;> (repeat' split) <;> omega
theorem dist_end (d : Int) (h0 : 0 ≤ d) (h5 : d ≤ 5) (p : S23) (hp : rightS3 p) : distS p (endD d p) = (leftD d p).toNat := by
 have self : ∀ a : Int, dist a a = 0 := fun a => by unfold dist; simp
 obtain ⟨⟨a1, a2⟩, ⟨b1, b2⟩, c1, c2⟩ := hp
 rcases dcase h0 h5 with rfl | rfl | rfl | rfl | rfl | rfl <;> simp [endD, aheadP, leftD, distS, self] <;> unfold dist <;> omega
def scanD (F : S23 → Bool) (d : Int) : Nat → S23 → Int × Int × Int × Int × Int × Int × Bool
 | 0, _ => (0, 0, 0, 0, 0, 0, false)
 | n + 1, p => if F (stepD d p) = true then ((stepD d p).f0, (stepD d p).f1, (stepD d p).f2, p.f0, p.f1, p.f2, true) else scanD F d n (stepD d p)
theorem touch_scan (F : S23 → Bool) (d : Int) (h0 : 0 ≤ d) (h5 : d ≤ 5) : ∀ (n : Nat) (p q : S23), leftD d p = n → F p = false → touchL (fun x => some (F x)) q (wayL n p (endD d p)) = some (scanD F d n p) := by
 intro n
 induction n with
 | zero =>
  intro p q hl hf
  simp [wayL, touchL, hf, scanD]
 | succ n ih =>
  intro p q hl hf
  have hne : ¬ (p.f0 = (endD d p).f0 ∧ p.f1 = (endD d p).f1 ∧ p.f2 = (endD d p).f2) := fun h => by have := (end_iff d h0 h5 p).1 h; omega
  unfold wayL
  rw [if_neg hne, tw_end d h0 h5 p (by omega), ← end_step d h0 h5 p]
  unfold touchL scanD
  rw [hf]
  simp only [Option.bind_some, Bool.false_eq_true, if_false]
  have hl2 : leftD d (stepD d p) = (n : Int) := by rw [left_step d h0 h5]; omega
  cases hs : F (stepD d p) with
  | false =>
   simp only [Bool.false_eq_true, if_false]
   exact ih _ _ hl2 hs
  | true =>
   simp only [if_true]
   cases n with
   | zero => simp [wayL, touchL, hs]
   | succ n => simp [wayL, touchL, hs]
theorem inside_right {a0 a1 a2 a3 a4 a5 : Int} {l : List S84} {p : S23} (hc : checkV a0 a1 a2 a3 a4 a5 l = 0) (hf : fullV a0 a1 a2 a3 a4 a5 l p.f0 p.f1 p.f2 = true) : rightS3 p := by
 have h1 : rightB a0 a1 a2 = true ∧ rightB a3 a4 a5 = true := by
  unfold checkV at hc
  split at hc
  ·rename_i h; simpa [Bool.and_eq_true] using h
  ·cases hc
 have hlo := (rightB_iff ⟨a0, a1, a2⟩).1 h1.1
 have hhi := (rightB_iff ⟨a3, a4, a5⟩).1 h1.2
 unfold fullV inside at hf
 simp only [Bool.and_eq_true, decide_eq_true_eq] at hf
 obtain ⟨⟨i1, i2, i3, i4, i5, i6⟩, _⟩ := hf
 unfold rightS3 at *
 dsimp only at hlo hhi
 omega
theorem touched_eq (a0 a1 a2 a3 a4 a5 : Int) (l : List S84) (hc : checkV a0 a1 a2 a3 a4 a5 l = 0) (d : Int) (h0 : 0 ≤ d) (h5 : d ≤ 5) (x y z : Int) (hp : rightS3 ⟨x, y, z⟩) (hf : fullV a0 a1 a2 a3 a4 a5 l x y z = false) :
  probe_Solid_touched.f a0 a1 a2 a3 a4 a5 l x y z d = some (scanD (fun x => fullV a0 a1 a2 a3 a4 a5 l x.f0 x.f1 x.f2) d (leftD d ⟨x, y, z⟩).toNat ⟨x, y, z⟩) := by
 unfold probe_Solid_touched.f
 have hn : nearS ⟨x, y, z⟩ := by
  unfold rightS3 at hp
  unfold nearS near
  dsimp only at hp ⊢
  omega
 rw [if_pos ⟨hn, h0, h5⟩]
 have hg : fullS a0 a1 a2 a3 a4 a5 l = fun p => some (fullV a0 a1 a2 a3 a4 a5 l p.f0 p.f1 p.f2) := by
  funext p
  exact fullS_eq _ _ _ _ _ _ _ _ (check0 hc).1 (check0 hc).2
 rw [hg]
 have hl := left_nonneg d h0 h5 ⟨x, y, z⟩ hp
 have he : aheadP x y z d = endD d ⟨x, y, z⟩ := rfl
 rw [he, dist_end d h0 h5 ⟨x, y, z⟩ hp]
 exact touch_scan (fun p => fullV a0 a1 a2 a3 a4 a5 l p.f0 p.f1 p.f2) d h0 h5 _ _ _ (by omega) hf
theorem given_right {a0 a1 a2 a3 a4 a5 : Int} {l : List S84} {x y z : Int} (h : givenV a0 a1 a2 a3 a4 a5 l x y z = 0) : rightS3 ⟨x, y, z⟩ := by
 unfold givenV at h
 split at h
 ·split at h
  ·rename_i h1; exact (rightB_iff ⟨x, y, z⟩).1 h1
  ·cases h
 ·contradiction
end Go.Proofs.YtolbjmaabghghaaGreatDoor.PA
namespace Go.Proofs.YtolbjmaabghghaaGreatDoor.PA
open Go.RowKit Go.PW Go.PL Go.PM
def diffN (a b c x y z : Int) : Int := (if a = x then 0 else 1) + (if b = y then 0 else 1) + (if c = z then 0 else 1)
theorem straight_eq (k : Nat) (hk : 5 ≤ k) (a b c x y z : Int) : probe_straight.f k a b c x y z = some (decide (diffN a b c x y z ≤ 1)) := by
 obtain ⟨k, rfl⟩ : ∃ j, k = j + 1 + 1 + 1 + 1 := ⟨k - 4, by omega⟩
 have w1 : wrap64 1 = 1 := by decide +kernel
 have w2 : wrap64 2 = 2 := by decide +kernel
 have w3 : wrap64 3 = 3 := by decide +kernel
 unfold probe_straight.f diffN
 simp only [probe_of.f, Option.bind_some]
 simp only [probe_straight.l0]
 by_cases h0 : a = x <;> by_cases h1 : b = y <;> by_cases h2 : c = z <;> simp [h0, h1, h2, w1, w2, w3]
theorem dist_tw (p q : S23) (h : distS p q ≠ 0) : distS (twS p q) q + 1 ≤ distS p q := by
 unfold distS twS at *
 dsimp only
 rw [tw_dist, tw_dist, tw_dist]
 omega
theorem dist_zero (p q : S23) : distS p q = 0 ↔ (p.f0 = q.f0 ∧ p.f1 = q.f1 ∧ p.f2 = q.f2) := by
 unfold distS dist
 omega
theorem openL_some (F : S23 → Bool) : ∀ l : List S23, openL (fun x => some (F x)) l = some (!(l.any F))
 | [] => rfl
 | p :: l => by
  unfold openL
  rw [openL_some F l]
  cases h : F p <;> simp [h]
def openV (a0 a1 a2 a3 a4 a5 : Int) (l : List S84) (p q : S23) : Bool := !((wayL (distS p q) p q).any fun x => fullV a0 a1 a2 a3 a4 a5 l x.f0 x.f1 x.f2)
theorem near_some (x y z : Int) : ∃ b, metrolabref30_near.f x y z = some b := by
 unfold metrolabref30_near.f
 rw [rightSpot_eq]
 simp only [Option.bind_some]
 repeat' split
 all_goals exact ⟨_, rfl⟩
theorem Near_some (x y z x' y' z' : Int) : ∃ b, metrolabref30_Near.f x y z x' y' z' = some b := by
 obtain ⟨b, hb⟩ := near_some x y z
 obtain ⟨c, hc⟩ := near_some x' y' z'
 unfold metrolabref30_Near.f
 rw [hb, hc]
 simp only [Option.bind_some]
 split
 ·exact ⟨_, rfl⟩
 ·exact ⟨_, rfl⟩
end Go.Proofs.YtolbjmaabghghaaGreatDoor.PA
namespace Go.Proofs.YtolbjmaabghghaaGreatDoor.PA
open Go.RowKit Go.PW Go.PL Go.PM
theorem few_eq' (a0 a1 a2 a3 a4 a5 : Int) (l : List S84) : metrolabref30_Few.f a0 a1 a2 a3 a4 a5 (l.map toRef) = some (decide (l.length ≤ 32)) := by
 unfold metrolabref30_Few.f
 rw [List.length_map]
 congr 1
 apply decide_eq_decide.2
 omega
end Go.Proofs.YtolbjmaabghghaaGreatDoor.PA
namespace Go.Proofs.YtolbjmaabghghaaGreatDoor.PA
open Go.RowKit Go.PW Go.PL Go.PM
def itD (d : Int) : Nat → S23 → S23
 | 0, p => p
 | n + 1, p => itD d n (stepD d p)
theorem scan_found (F : S23 → Bool) (d : Int) : ∀ (n : Nat) (p : S23), F p = false → (scanD F d n p).2.2.2.2.2.2 = true →
  ∃ j, j < n ∧ scanD F d n p = ((stepD d (itD d j p)).f0, (stepD d (itD d j p)).f1, (stepD d (itD d j p)).f2, (itD d j p).f0, (itD d j p).f1, (itD d j p).f2, true) ∧ F (stepD d (itD d j p)) = true ∧ ∀ i, i ≤ j → F (itD d i p) = false := by
 intro n
 induction n with
 | zero => intro p _ h; simp [scanD] at h
 | succ n ih =>
  intro p hp h
  unfold scanD at h ⊢
  cases hs : F (stepD d p) with
  | true =>
   refine ⟨0, by omega, by simp [itD], by simpa [itD] using hs, fun i hi => ?_⟩
   obtain rfl : i = 0 := by omega
   exact hp
  | false =>
   rw [hs] at h
   simp only [Bool.false_eq_true, if_false] at h ⊢
   obtain ⟨j, hj, he, hF, ha⟩ := ih (stepD d p) hs h
   refine ⟨j + 1, by omega, he, hF, fun i hi => ?_⟩
   cases i with
   | zero => exact hp
   | succ i => exact ha i (by omega)
theorem it_right (d : Int) (h0 : 0 ≤ d) (h5 : d ≤ 5) : ∀ (j : Nat) (p : S23), rightS3 p → (j : Int) ≤ leftD d p → rightS3 (itD d j p) := by
 intro j
 induction j with
 | zero => intro p hp _; exact hp
 | succ j ih =>
  intro p hp hj
  unfold itD
  exact ih _ ((right_step d h0 h5 p hp).2 (by omega)) (by rw [left_step d h0 h5]; omega)
end Go.Proofs.YtolbjmaabghghaaGreatDoor.PA
