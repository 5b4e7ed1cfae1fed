/- A part of the proof. -/
import Derived.Test.YtolbjmaabghghaaGreatDoorE7QTouch
import Derived.Test.YtolbjmaabghghaaGreatDoorE7QProbeWays
import Derived.Test.YtolbjmaabghghaaGreatDoorE7PAx36
namespace Go.Proofs.YtolbjmaabghghaaGreatDoor.PA
open Go.RowKit Go.PW Go.PL Go.PM
def itD (d : Int) : Nat → S23 → S23
 | 0, p => p
 | n + 1, p => itD d n (stepD d p)
theorem scan_found (F : S23 → Bool) (d : Int) : ∀ (n : Nat) (p : S23), F p = false → (scanD F d n p).2.2.2.2.2.2 = true →
  ∃ j, j < n ∧ scanD F d n p = ((stepD d (itD d j p)).f0, (stepD d (itD d j p)).f1, (stepD d (itD d j p)).f2, (itD d j p).f0, (itD d j p).f1, (itD d j p).f2, true) ∧ F (stepD d (itD d j p)) = true ∧ ∀ i, i ≤ j → F (itD d i p) = false := by
 intro n
 induction n with
 | zero => intro p _ h; simp [scanD] at h
 | succ n ih =>
  intro p hp h
  unfold scanD at h ⊢
  cases hs : F (stepD d p) with
  | true =>
   refine ⟨0, by omega, by simp [itD], by simpa [itD] using hs, fun i hi => ?_⟩
   obtain rfl : i = 0 := by omega
   exact hp
  | false =>
   rw [hs] at h
   simp only [Bool.false_eq_true, if_false] at h ⊢
   obtain ⟨j, hj, he, hF, ha⟩ := ih (stepD d p) hs h
   refine ⟨j + 1, by omega, he, hF, fun i hi => ?_⟩
   cases i with
   | zero => exact hp
   | succ i => exact ha i (by omega)
theorem it_right (d : Int) (h0 : 0 ≤ d) (h5 : d ≤ 5) : ∀ (j : Nat) (p : S23), rightS3 p → (j : Int) ≤ leftD d p → rightS3 (itD d j p) := by
 intro j
 induction j with
 | zero => intro p hp _; exact hp
 | succ j ih =>
  intro p hp hj
  unfold itD
  exact ih _ ((right_step d h0 h5 p hp).2 (by omega)) (by rw [left_step d h0 h5]; omega)
theorem it_coord (d : Int) (h0 : 0 ≤ d) (h5 : d ≤ 5) : ∀ (j : Nat) (p : S23), itD d j p = (if d = 0 then ⟨p.f0 + j, p.f1, p.f2⟩ else if d = 1 then ⟨p.f0 - j, p.f1, p.f2⟩ else if d = 2 then ⟨p.f0, p.f1 + j, p.f2⟩ else if d = 3 then ⟨p.f0, p.f1 - j, p.f2⟩ else if d = 4 then ⟨p.f0, p.f1, p.f2 + j⟩ else ⟨p.f0, p.f1, p.f2 - j⟩) := by
 intro j
 induction j with
 | zero => intro p; rcases dcase h0 h5 with rfl | rfl | rfl | rfl | rfl | rfl <;> simp [itD]
 | succ j ih =>
  intro p
  unfold itD
  rw [ih]
  rcases dcase h0 h5 with rfl | rfl | rfl | rfl | rfl | rfl <;> simp [stepD] <;> omega
theorem it_diff (d : Int) (h0 : 0 ≤ d) (h5 : d ≤ 5) (j : Nat) (p : S23) : diffN p.f0 p.f1 p.f2 (itD d j p).f0 (itD d j p).f1 (itD d j p).f2 ≤ 1 := by
 rw [it_coord d h0 h5]
 unfold diffN
 rcases dcase h0 h5 with rfl | rfl | rfl | rfl | rfl | rfl <;> simp <;> split <;> omega
theorem it_dist (d : Int) (h0 : 0 ≤ d) (h5 : d ≤ 5) (j : Nat) (p : S23) : distS p (itD d j p) = j := by
 rw [it_coord d h0 h5]
 unfold distS dist
 rcases dcase h0 h5 with rfl | rfl | rfl | rfl | rfl | rfl <;> simp <;> omega
theorem it_tw (d : Int) (h0 : 0 ≤ d) (h5 : d ≤ 5) (j : Nat) (p : S23) : twS p (itD d (j + 1) p) = stepD d p := by
 rw [it_coord d h0 h5]
 unfold twS stepD tw
 rcases dcase h0 h5 with rfl | rfl | rfl | rfl | rfl | rfl <;> simp <;> (repeat' split) <;> omega
theorem way_it (F : S23 → Bool) (d : Int) (h0 : 0 ≤ d) (h5 : d ≤ 5) : ∀ (j : Nat) (p : S23), (∀ i, i ≤ j → F (itD d i p) = false) → (wayL j p (itD d j p)).any F = false := by
 intro j
 induction j with
 | zero => intro p h; simp [wayL]; exact h 0 (Nat.le_refl _)
 | succ j ih =>
  intro p h
  have hne : ¬ (p.f0 = (itD d (j + 1) p).f0 ∧ p.f1 = (itD d (j + 1) p).f1 ∧ p.f2 = (itD d (j + 1) p).f2) := fun he => by
   have := (dist_zero p _).2 he
   rw [it_dist d h0 h5] at this
   omega
  unfold wayL
  have hp0 : F p = false := h 0 (Nat.zero_le _)
  rw [if_neg hne, it_tw d h0 h5, List.any_cons, hp0]
  show (wayL j (stepD d p) (itD d j (stepD d p))).any F = false
  exact ih _ (fun i hi => h (i + 1) (by omega))
theorem dir_mod {n : Int} (h0 : 0 ≤ n) (h1 : n ≤ 255) : 0 ≤ Int.tmod (wrap64 n) 6 ∧ Int.tmod (wrap64 n) 6 ≤ 5 := by
 have hw : wrap64 n = n := by unfold wrap64; omega
 rw [hw, Int.tmod_eq_emod_of_nonneg h0]
 omega
theorem meetsJ (hr : RunEx) (a0 a1 a2 a3 a4 a5 : Int) (l : List S84) (x y z n : Int) (h0 : 0 ≤ n) (h1 : n ≤ 255) (k : Nat) (hk : 200300 ≤ k) (b : Bool) : metrolablaw30_ProbeMeets.j0 (k + 1) n b a0 a1 a2 a3 a4 a5 l x y z = some true := by
 have ha := awake_all hr k (by omega)
 obtain ⟨d0, d5⟩ := dir_mod h0 h1
 obtain ⟨d, hd⟩ : ∃ d, Int.tmod (wrap64 n) 6 = d := ⟨_, rfl⟩
 rw [hd] at d0 d5
 have m1 := ptouch_eq a0 a1 a2 a3 a4 a5 l x y z d k hk
 rw [metrolablaw30_ProbeMeets.j0, hd]
 simp only [ha, m1, Option.bind_some]
 split
 ·rfl
 split
 case isFalse => rfl
 case isTrue he =>
  unfold touchV at he ⊢
  by_cases hg : givenV a0 a1 a2 a3 a4 a5 l x y z = 0
  case neg => rw [if_neg hg] at he; exact absurd he hg
  rw [if_pos hg] at he ⊢
  rw [if_neg (by omega)] at he ⊢
  by_cases hf : fullV a0 a1 a2 a3 a4 a5 l x y z = true
  case pos => rw [if_pos hf] at he; exact absurd he (by decide)
  rw [if_neg hf] at he ⊢
  dsimp only at he ⊢
  split at he
  case isFalse => exact absurd he (by decide)
  case isTrue hs =>
   rw [if_pos hs]
   have hc := given0 hg
   have hp := given_right hg
   have hl := left_nonneg d d0 d5 ⟨x, y, z⟩ hp
   obtain ⟨j, hj, hres, hF, hfree⟩ := scan_found (fun p => fullV a0 a1 a2 a3 a4 a5 l p.f0 p.f1 p.f2) d _ ⟨x, y, z⟩ (by simpa using hf) hs
   have hq : rightS3 (itD d j ⟨x, y, z⟩) := it_right d d0 d5 j _ hp (by omega)
   have hpp := inside_right hc hF
   rw [hres]
   dsimp only
   have g1 : givenV a0 a1 a2 a3 a4 a5 l (stepD d (itD d j ⟨x, y, z⟩)).f0 (stepD d (itD d j ⟨x, y, z⟩)).f1 (stepD d (itD d j ⟨x, y, z⟩)).f2 = 0 := by
    unfold givenV; rw [if_pos hc, if_pos ((rightB_iff _).2 hpp)]
   have hm : materialV a0 a1 a2 a3 a4 a5 l (stepD d (itD d j ⟨x, y, z⟩)).f0 (stepD d (itD d j ⟨x, y, z⟩)).f1 (stepD d (itD d j ⟨x, y, z⟩)).f2 = (true, 0) := by
    unfold materialV; rw [if_pos g1, hF]
   have g2 : given2V a0 a1 a2 a3 a4 a5 l ⟨x, y, z⟩ (itD d j ⟨x, y, z⟩) = 0 := by
    unfold given2V; rw [if_pos hc, if_pos ((rightB_iff _).2 hp), if_pos ((rightB_iff _).2 hq)]
   have ho : openV a0 a1 a2 a3 a4 a5 l ⟨x, y, z⟩ (itD d j ⟨x, y, z⟩) = true := by
    unfold openV
    rw [it_dist d d0 d5, way_it (fun p => fullV a0 a1 a2 a3 a4 a5 l p.f0 p.f1 p.f2) d d0 d5 j ⟨x, y, z⟩ hfree]
    rfl
   have hfr : freeV a0 a1 a2 a3 a4 a5 l ⟨x, y, z⟩ (itD d j ⟨x, y, z⟩) = (true, 0) := by
    unfold freeV; rw [if_pos g2, if_pos (it_diff d d0 d5 j ⟨x, y, z⟩), ho]
   have m2 := material_eq a0 a1 a2 a3 a4 a5 l (stepD d (itD d j ⟨x, y, z⟩)).f0 (stepD d (itD d j ⟨x, y, z⟩)).f1 (stepD d (itD d j ⟨x, y, z⟩)).f2 k (by omega)
   have m3 := pfree_eq a0 a1 a2 a3 a4 a5 l x y z (itD d j ⟨x, y, z⟩).f0 (itD d j ⟨x, y, z⟩).f1 (itD d j ⟨x, y, z⟩).f2 k (by omega)
   rw [hm] at m2
   rw [show (⟨(itD d j ⟨x, y, z⟩).f0, (itD d j ⟨x, y, z⟩).f1, (itD d j ⟨x, y, z⟩).f2⟩ : S23) = itD d j ⟨x, y, z⟩ from rfl, hfr] at m3
   rw [m2]
   simp only [Option.bind_some]
   rw [m3]
   simp only [Option.bind_some, ahead_eq d d0 d5 (itD d j ⟨x, y, z⟩) hq, beq_self_eq_true, Bool.and_self, if_true]
   rw [if_pos (show wrap64 (0 + 0) = 0 by decide +kernel)]
theorem probeMeets_k (hr : RunEx) (a0 a1 a2 a3 a4 a5 : Int) (l : List S84) (x y z n : Int) (h0 : 0 ≤ n) (h1 : n ≤ 255) (hl : l.length < 4398046511104) (k : Nat) (h60 : 200301 ≤ k) (hk : l.length + 1 ≤ k) : metrolablaw30_ProbeMeets.f k a0 a1 a2 a3 a4 a5 l x y z n = some true := by
 obtain ⟨k, rfl⟩ : ∃ j, k = j + 1 := ⟨k - 1, by omega⟩
 have ho := own_eq a0 a1 a2 a3 a4 a5 l hl (k + 1) (by omega)
 have hf := few_eq' a0 a1 a2 a3 a4 a5 l
 have hc := rcheck_eq a0 a1 a2 a3 a4 a5 l (k + 1) (by omega)
 obtain ⟨b, hb⟩ := Near_some x y z x y z
 obtain ⟨c, hcn⟩ := Near_some a0 a1 a2 a3 a4 a5
 have J := fun b => meetsJ hr a0 a1 a2 a3 a4 a5 l x y z n h0 h1 k (by omega) b
 unfold metrolablaw30_ProbeMeets.f
 simp only [ho, Option.bind_some, hf, hc, hb, hcn, J]
 repeat' split
 all_goals rfl
end Go.Proofs.YtolbjmaabghghaaGreatDoor.PA
