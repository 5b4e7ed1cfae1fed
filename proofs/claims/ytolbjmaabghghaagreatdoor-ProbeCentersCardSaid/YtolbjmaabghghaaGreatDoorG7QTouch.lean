/- A part of the proof. -/
import Derived.Test.YtolbjmaabghghaaGreatDoorG7QAwake
import Derived.Test.YtolbjmaabghghaaGreatDoorG7PAx0
import Derived.Test.YtolbjmaabghghaaGreatDoorG7PAx3
import Derived.Test.YtolbjmaabghghaaGreatDoorG7PAx4
import Derived.Test.YtolbjmaabghghaaGreatDoorG7PAx6
import Derived.Test.YtolbjmaabghghaaGreatDoorG7PAx16
import Derived.Test.YtolbjmaabghghaaGreatDoorG7EWay3
namespace Go.Proofs.YtolbjmaabghghaaGreatDoor.PA
open Go.RowKit Go.PW Go.PL Go.PM
def stepD (d : Int) (p : S23) : S23 := if d = 0 then ⟨p.f0 + 1, p.f1, p.f2⟩ else if d = 1 then ⟨p.f0 - 1, p.f1, p.f2⟩ else if d = 2 then ⟨p.f0, p.f1 + 1, p.f2⟩ else if d = 3 then ⟨p.f0, p.f1 - 1, p.f2⟩ else if d = 4 then ⟨p.f0, p.f1, p.f2 + 1⟩ else ⟨p.f0, p.f1, p.f2 - 1⟩
def leftD (d : Int) (p : S23) : Int := if d = 0 then 100000 - p.f0 else if d = 1 then p.f0 + 100000 else if d = 2 then 100000 - p.f1 else if d = 3 then p.f1 + 100000 else if d = 4 then 100000 - p.f2 else p.f2 + 100000
def endD (d : Int) (p : S23) : S23 := aheadP p.f0 p.f1 p.f2 d
def rightS3 (p : S23) : Prop := (-100000 ≤ p.f0 ∧ p.f0 ≤ 100000) ∧ (-100000 ≤ p.f1 ∧ p.f1 ≤ 100000) ∧ (-100000 ≤ p.f2 ∧ p.f2 ≤ 100000)
theorem rightB_iff (p : S23) : rightB p.f0 p.f1 p.f2 = true ↔ rightS3 p := by
 unfold rightB inR rightS3
 simp [and_assoc]
theorem dcase {d : Int} (h0 : 0 ≤ d) (h5 : d ≤ 5) : d = 0 ∨ d = 1 ∨ d = 2 ∨ d = 3 ∨ d = 4 ∨ d = 5 := by omega
theorem left_step (d : Int) (h0 : 0 ≤ d) (h5 : d ≤ 5) (p : S23) : leftD d (stepD d p) = leftD d p - 1 := by
 rcases dcase h0 h5 with rfl | rfl | rfl | rfl | rfl | rfl <;> simp [leftD, stepD] <;> omega
theorem left_nonneg (d : Int) (h0 : 0 ≤ d) (h5 : d ≤ 5) (p : S23) (hp : rightS3 p) : 0 ≤ leftD d p ∧ leftD d p ≤ 200000 := by
 unfold rightS3 at *
 rcases dcase h0 h5 with rfl | rfl | rfl | rfl | rfl | rfl <;> simp [leftD] <;> omega
theorem end_step (d : Int) (h0 : 0 ≤ d) (h5 : d ≤ 5) (p : S23) : endD d (stepD d p) = endD d p := by
 rcases dcase h0 h5 with rfl | rfl | rfl | rfl | rfl | rfl <;> simp [endD, aheadP, stepD]
theorem end_iff (d : Int) (h0 : 0 ≤ d) (h5 : d ≤ 5) (p : S23) : (p.f0 = (endD d p).f0 ∧ p.f1 = (endD d p).f1 ∧ p.f2 = (endD d p).f2) ↔ leftD d p = 0 := by
 rcases dcase h0 h5 with rfl | rfl | rfl | rfl | rfl | rfl <;> simp [endD, aheadP, leftD] <;> omega
theorem tw_end (d : Int) (h0 : 0 ≤ d) (h5 : d ≤ 5) (p : S23) (h : 1 ≤ leftD d p) : twS p (endD d p) = stepD d p := by
 have self : ∀ a : Int, tw a a = a := fun a => by unfold tw; simp
 rcases dcase h0 h5 with rfl | rfl | rfl | rfl | rfl | rfl <;> simp [leftD] at h <;> simp [endD, aheadP, stepD, twS, self] <;> unfold tw <;> (repeat' split) <;> omega
theorem dist_end (d : Int) (h0 : 0 ≤ d) (h5 : d ≤ 5) (p : S23) (hp : rightS3 p) : distS p (endD d p) = (leftD d p).toNat := by
 have self : ∀ a : Int, dist a a = 0 := fun a => by unfold dist; simp
 obtain ⟨⟨a1, a2⟩, ⟨b1, b2⟩, c1, c2⟩ := hp
 rcases dcase h0 h5 with rfl | rfl | rfl | rfl | rfl | rfl <;> simp [endD, aheadP, leftD, distS, self] <;> unfold dist <;> omega
def scanD (F : S23 → Bool) (d : Int) : Nat → S23 → Int × Int × Int × Int × Int × Int × Bool
 | 0, _ => (0, 0, 0, 0, 0, 0, false)
 | n + 1, p => if F (stepD d p) = true then ((stepD d p).f0, (stepD d p).f1, (stepD d p).f2, p.f0, p.f1, p.f2, true) else scanD F d n (stepD d p)
theorem touch_scan (F : S23 → Bool) (d : Int) (h0 : 0 ≤ d) (h5 : d ≤ 5) : ∀ (n : Nat) (p q : S23), leftD d p = n → F p = false → touchL (fun x => some (F x)) q (wayL n p (endD d p)) = some (scanD F d n p) := by
 intro n
 induction n with
 | zero =>
  intro p q hl hf
  simp [wayL, touchL, hf, scanD]
 | succ n ih =>
  intro p q hl hf
  have hne : ¬ (p.f0 = (endD d p).f0 ∧ p.f1 = (endD d p).f1 ∧ p.f2 = (endD d p).f2) := fun h => by have := (end_iff d h0 h5 p).1 h; omega
  unfold wayL
  rw [if_neg hne, tw_end d h0 h5 p (by omega), ← end_step d h0 h5 p]
  unfold touchL scanD
  rw [hf]
  simp only [Option.bind_some, Bool.false_eq_true, if_false]
  have hl2 : leftD d (stepD d p) = (n : Int) := by rw [left_step d h0 h5]; omega
  cases hs : F (stepD d p) with
  | false =>
   simp only [Bool.false_eq_true, if_false]
   exact ih _ _ hl2 hs
  | true =>
   simp only [if_true]
   cases n with
   | zero => simp [wayL, touchL, hs]
   | succ n => simp [wayL, touchL, hs]
theorem touched_eq (a0 a1 a2 a3 a4 a5 : Int) (l : List S84) (hc : checkV a0 a1 a2 a3 a4 a5 l = 0) (d : Int) (h0 : 0 ≤ d) (h5 : d ≤ 5) (x y z : Int) (hp : rightS3 ⟨x, y, z⟩) (hf : fullV a0 a1 a2 a3 a4 a5 l x y z = false) :
  probe_Solid_touched.f a0 a1 a2 a3 a4 a5 l x y z d = some (scanD (fun x => fullV a0 a1 a2 a3 a4 a5 l x.f0 x.f1 x.f2) d (leftD d ⟨x, y, z⟩).toNat ⟨x, y, z⟩) := by
 unfold probe_Solid_touched.f
 have hn : nearS ⟨x, y, z⟩ := by
  unfold rightS3 at hp
  unfold nearS near
  dsimp only at hp ⊢
  omega
 rw [if_pos ⟨hn, h0, h5⟩]
 have hg : fullS a0 a1 a2 a3 a4 a5 l = fun p => some (fullV a0 a1 a2 a3 a4 a5 l p.f0 p.f1 p.f2) := by
  funext p
  exact fullS_eq _ _ _ _ _ _ _ _ (check0 hc).1 (check0 hc).2
 rw [hg]
 have hl := left_nonneg d h0 h5 ⟨x, y, z⟩ hp
 have he : aheadP x y z d = endD d ⟨x, y, z⟩ := rfl
 rw [he, dist_end d h0 h5 ⟨x, y, z⟩ hp]
 exact touch_scan (fun p => fullV a0 a1 a2 a3 a4 a5 l p.f0 p.f1 p.f2) d h0 h5 _ _ _ (by omega) hf
def touchV (a0 a1 a2 a3 a4 a5 : Int) (l : List S84) (x y z d : Int) : Int × Int × Int × Int × Int × Int × Int :=
 if givenV a0 a1 a2 a3 a4 a5 l x y z = 0 then (if d < 0 ∨ 5 < d then (0, 0, 0, 0, 0, 0, 1) else if fullV a0 a1 a2 a3 a4 a5 l x y z = true then (0, 0, 0, 0, 0, 0, 14) else
  let t := scanD (fun x => fullV a0 a1 a2 a3 a4 a5 l x.f0 x.f1 x.f2) d (leftD d ⟨x, y, z⟩).toNat ⟨x, y, z⟩
  if t.2.2.2.2.2.2 = true then (t.1, t.2.1, t.2.2.1, t.2.2.2.1, t.2.2.2.2.1, t.2.2.2.2.2.1, 0) else (0, 0, 0, 0, 0, 0, 6))
 else (0, 0, 0, 0, 0, 0, givenV a0 a1 a2 a3 a4 a5 l x y z)
theorem given_right {a0 a1 a2 a3 a4 a5 : Int} {l : List S84} {x y z : Int} (h : givenV a0 a1 a2 a3 a4 a5 l x y z = 0) : rightS3 ⟨x, y, z⟩ := by
 unfold givenV at h
 split at h
 ·split at h
  ·rename_i h1; exact (rightB_iff ⟨x, y, z⟩).1 h1
  ·cases h
 ·contradiction
theorem ptouch_eq (a0 a1 a2 a3 a4 a5 : Int) (l : List S84) (x y z d : Int) (k : Nat) (hk : 200300 ≤ k) : probe_Touch.f k a0 a1 a2 a3 a4 a5 l x y z d = some (touchV a0 a1 a2 a3 a4 a5 l x y z d) := by
 obtain ⟨k, rfl⟩ : ∃ j, k = j + 1 := ⟨k - 1, by omega⟩
 unfold probe_Touch.f touchV
 rw [given1_eq _ _ _ _ _ _ _ _ _ _ _ (by omega)]
 simp only [Option.bind_some]
 by_cases hg : givenV a0 a1 a2 a3 a4 a5 l x y z = 0
 ·rw [if_pos hg, if_pos hg]
  by_cases hd0 : d < 0
  ·rw [if_pos hd0, if_pos (.inl hd0), probe_Touch.j0]; rfl
  ·rw [if_neg hd0]
   by_cases hd5 : 5 < d
   ·rw [if_pos (.inr hd5), probe_Touch.j0, if_pos (by simpa using hd5)]
   ·rw [if_neg (by omega), probe_Touch.j0, if_neg (by simpa using hd5), full_eq _ _ _ _ _ _ _ _ _ _ _ (by omega) (check0 (given0 hg)).1 (check0 (given0 hg)).2]
    simp only [Option.bind_some]
    by_cases hf : fullV a0 a1 a2 a3 a4 a5 l x y z = true
    ·rw [if_pos hf, if_pos hf]
    ·rw [if_neg hf, if_neg hf, touched_eq a0 a1 a2 a3 a4 a5 l (given0 hg) d (by omega) (by omega) x y z (given_right hg) (by simpa using hf)]
     simp only [Option.bind_some]
     split <;> rfl
 ·rw [if_neg hg, if_neg hg]
end Go.Proofs.YtolbjmaabghghaaGreatDoor.PA
