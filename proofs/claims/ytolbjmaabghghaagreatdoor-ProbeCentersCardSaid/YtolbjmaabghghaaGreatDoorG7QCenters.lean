/- A part of the proof. -/
import Derived.Test.YtolbjmaabghghaaGreatDoorG7QMeets
import Derived.Test.YtolbjmaabghghaaGreatDoorG7ECenters
namespace Go.Proofs.YtolbjmaabghghaaGreatDoor.PA
open Go.RowKit Go.PW Go.PL Go.PM
theorem sq_abs (j : Int) : ((j.natAbs * j.natAbs : Nat) : Int) = j * j := Int.natAbs_mul_self
theorem sq_bd {j b : Int} (h0 : -b ≤ j) (h1 : j ≤ b) : 0 ≤ j * j ∧ j * j ≤ b * b := by
 have hb : j.natAbs ≤ b.natAbs := by omega
 have hm := Nat.mul_le_mul hb hb
 rw [← sq_abs j, ← sq_abs b]
 omega
theorem sq_lt {a n : Int} (h0 : 0 ≤ a) (hn : 0 ≤ n) : 4 * (a * a) < n * n ↔ 2 * a < n := by
 have e : 4 * (a * a) = (2 * a) * (2 * a) := by rw [Int.mul_assoc 2 a (2 * a), Int.mul_left_comm a 2 a, ← Int.mul_assoc 2 2 (a * a)]; rfl
 rw [e]
 constructor
 ·intro h
  rcases Int.lt_or_le (2 * a) n with h' | h'
  ·exact h'
  ·have := Int.mul_le_mul h' h' hn (by omega)
   omega
 ·intro h
  have h1 := Int.mul_le_mul_of_nonneg_left (Int.le_of_lt h) (show 0 ≤ 2 * a by omega)
  have h2 := Int.mul_lt_mul_of_pos_right h (show 0 < n by omega)
  omega
theorem has_line (j n : Int) (hj : -200 ≤ j ∧ j ≤ 200) (hn : 2 ≤ n ∧ n ≤ 257) :
  decide (wrap64 (4 * wrap64 (wrap64 (wrap64 j * wrap64 j) + wrap64 (wrap64 0 * wrap64 0))) < wrap64 (n * n)) = decide (4 * (j * j) < n * n) ∧
  decide (wrap64 (4 * wrap64 (wrap64 (wrap64 0 * wrap64 0) + wrap64 (wrap64 j * wrap64 j))) < wrap64 (n * n)) = decide (4 * (j * j) < n * n) := by
 have h1 := sq_bd (b := 200) hj.1 hj.2
 have h2 := sq_bd (j := n) (b := 257) (by omega) hn.2
 generalize hp : j * j = p at *
 generalize hq : n * n = q at *
 have w1 : wrap64 j = j := by unfold wrap64; omega
 have w0 : wrap64 0 = 0 := by decide +kernel
 rw [w1, w0, hp]
 have w2 : wrap64 p = p := by unfold wrap64; omega
 have w3 : wrap64 (0 * 0) = 0 := by decide +kernel
 rw [w2, w3]
 have w4 : wrap64 (p + 0) = p := by unfold wrap64; omega
 have w5 : wrap64 (0 + p) = p := by unfold wrap64; omega
 rw [w4, w5]
 have w6 : wrap64 (4 * p) = 4 * p := by unfold wrap64; omega
 have w7 : wrap64 q = q := by unfold wrap64; omega
 rw [w6, w7]
 exact ⟨rfl, rfl⟩
theorem has_line1 (j x y n : Int) (hj : -200 ≤ j ∧ j ≤ 200) (hn : 2 ≤ n ∧ n ≤ 257) : hasPQ (x + j) y x y n = decide (4 * (j * j) < n * n) := by
 unfold hasPQ
 rw [show x + j - x = j by omega, show y - y = 0 by omega]
 exact (has_line j n hj hn).1
theorem has_line2 (j x y n : Int) (hj : -200 ≤ j ∧ j ≤ 200) (hn : 2 ≤ n ∧ n ≤ 257) : hasPQ x (y + j) x y n = decide (4 * (j * j) < n * n) := by
 unfold hasPQ
 rw [show y + j - y = j by omega, show x - x = 0 by omega]
 exact (has_line j n hj hn).2
theorem has_line1' (j x y n : Int) (hj : -200 ≤ j ∧ j ≤ 200) (hn : 2 ≤ n ∧ n ≤ 257) : hasPQ (x - j) y x y n = decide (4 * (j * j) < n * n) := by
 rw [Int.sub_eq_add_neg, has_line1 (-j) x y n (by omega) hn, Int.neg_mul_neg]
theorem has_line2' (j x y n : Int) (hj : -200 ≤ j ∧ j ≤ 200) (hn : 2 ≤ n ∧ n ≤ 257) : hasPQ x (y - j) x y n = decide (4 * (j * j) < n * n) := by
 rw [Int.sub_eq_add_neg, has_line2 (-j) x y n (by omega) hn, Int.neg_mul_neg]
theorem F_line (k x y z n d : Int) (hk : k = 0 ∨ k = 1 ∨ k = 2) (h0 : 0 ≤ d) (h5 : d ≤ 5) (hd : d / 2 ≠ k) (j : Nat) (hj : j ≤ 200) (hn : 2 ≤ n ∧ n ≤ 257) :
  hasB (borC k x y z n) (itD d j ⟨x, y, z⟩).f0 (itD d j ⟨x, y, z⟩).f1 (itD d j ⟨x, y, z⟩).f2 = decide (4 * ((j : Int) * j) < n * n) := by
 have hj' : -200 ≤ (j : Int) ∧ (j : Int) ≤ 200 := by omega
 have p1 := fun x y => has_line1 j x y n hj' hn
 have p2 := fun x y => has_line2 j x y n hj' hn
 have p3 := fun x y => has_line1' j x y n hj' hn
 have p4 := fun x y => has_line2' j x y n hj' hn
 rw [it_coord d h0 h5]
 unfold borC hasB
 rcases hk with rfl | rfl | rfl <;> rcases dcase h0 h5 with rfl | rfl | rfl | rfl | rfl | rfl <;> first | exact absurd (by decide) hd | simp [p1, p2, p3, p4]
theorem scan_at (F : S23 → Bool) (d : Int) : ∀ (j m : Nat) (p : S23), j < m → (∀ i, i ≤ j → F (itD d i p) = false) → F (itD d (j + 1) p) = true →
  scanD F d m p = ((itD d (j + 1) p).f0, (itD d (j + 1) p).f1, (itD d (j + 1) p).f2, (itD d j p).f0, (itD d j p).f1, (itD d j p).f2, true) := by
 intro j
 induction j with
 | zero =>
  intro m p hm _ h1
  obtain ⟨m, rfl⟩ : ∃ m', m = m' + 1 := ⟨m - 1, by omega⟩
  unfold scanD
  have h2 : F (stepD d p) = true := h1
  rw [if_pos h2]
  rfl
 | succ j ih =>
  intro m p hm h0 h1
  obtain ⟨m, rfl⟩ : ∃ m', m = m' + 1 := ⟨m - 1, by omega⟩
  unfold scanD
  have h2 : F (stepD d p) = false := h0 1 (by omega)
  rw [h2]
  simp only [Bool.false_eq_true, if_false]
  exact ih m (stepD d p) (by omega) (fun i hi => h0 (i + 1) (by omega)) h1
theorem in8 {n : Int} (h : -128 ≤ n ∧ n ≤ 127) : inR n = true := by unfold inR; simp only [Bool.and_eq_true, decide_eq_true_eq]; omega
theorem borC_check (k x y z n : Int) (hk : k = 0 ∨ k = 1 ∨ k = 2) (hx : -128 ≤ x ∧ x ≤ 127) (hy : -128 ≤ y ∧ y ≤ 127) (hz : -128 ≤ z ∧ z ≤ 127) (hn : 2 ≤ n ∧ n ≤ 257) : checkV (-400) (-400) (-400) 400 400 400 [borC k x y z n] = 0 := by
 have hb : boreErr (borC k x y z n) = 0 := by
  unfold borC boreErr
  have ix := in8 hx
  have iy := in8 hy
  have iz := in8 hz
  have h1 : 1 ≤ n ∧ n ≤ 100000 := by omega
  rcases hk with rfl | rfl | rfl <;> simp [ix, iy, iz, h1]
 have hs : boresErr [borC k x y z n] = 0 := by
  unfold boresErr
  rw [if_pos hb]
  rfl
 unfold checkV
 rw [if_pos (by decide +kernel), if_neg (by decide), if_neg (by simp)]
 exact hs
theorem centers_touch (k x y z n d : Int) (hk : k = 0 ∨ k = 1 ∨ k = 2) (h0 : 0 ≤ d) (h5 : d ≤ 5) (hd : d / 2 ≠ k) (hx : -128 ≤ x ∧ x ≤ 127) (hy : -128 ≤ y ∧ y ≤ 127) (hz : -128 ≤ z ∧ z ≤ 127) (hn : 2 ≤ n ∧ n ≤ 257) (j : Nat) (hj : n ≤ 2 * ((j : Int) + 1) ∧ 2 * (j : Int) < n) :
  touchV (-400) (-400) (-400) 400 400 400 [borC k x y z n] x y z d = ((itD d (j + 1) ⟨x, y, z⟩).f0, (itD d (j + 1) ⟨x, y, z⟩).f1, (itD d (j + 1) ⟨x, y, z⟩).f2, (itD d j ⟨x, y, z⟩).f0, (itD d j ⟨x, y, z⟩).f1, (itD d j ⟨x, y, z⟩).f2, 0) := by
 have hc := borC_check k x y z n hk hx hy hz hn
 have hr : rightB x y z = true := by unfold rightB; simp [in8 hx, in8 hy, in8 hz]
 have hg : givenV (-400) (-400) (-400) 400 400 400 [borC k x y z n] x y z = 0 := by unfold givenV; rw [if_pos hc, if_pos hr]
 have hF : ∀ i : Nat, i ≤ j → fullV (-400) (-400) (-400) 400 400 400 [borC k x y z n] (itD d i ⟨x, y, z⟩).f0 (itD d i ⟨x, y, z⟩).f1 (itD d i ⟨x, y, z⟩).f2 = false := fun i hi => by
  have hh := F_line k x y z n d hk h0 h5 hd i (by omega) hn
  have hl : 4 * ((i : Int) * i) < n * n := (sq_lt (by omega) (by omega)).2 (by omega)
  rw [decide_eq_true hl] at hh
  unfold fullV
  simp [hh]
 have hT : fullV (-400) (-400) (-400) 400 400 400 [borC k x y z n] (itD d (j + 1) ⟨x, y, z⟩).f0 (itD d (j + 1) ⟨x, y, z⟩).f1 (itD d (j + 1) ⟨x, y, z⟩).f2 = true := by
  have hh := F_line k x y z n d hk h0 h5 hd (j + 1) (by omega) hn
  have hl : ¬ 4 * (((j + 1 : Nat) : Int) * ((j + 1 : Nat) : Int)) < n * n := fun h => by
   have := (sq_lt (by omega) (by omega)).1 h
   omega
  rw [decide_eq_false hl] at hh
  have hi : inside (-400) (-400) (-400) 400 400 400 (itD d (j + 1) ⟨x, y, z⟩).f0 (itD d (j + 1) ⟨x, y, z⟩).f1 (itD d (j + 1) ⟨x, y, z⟩).f2 = true := by
   unfold inside
   apply decide_eq_true
   rw [it_coord d h0 h5]
   rcases dcase h0 h5 with rfl | rfl | rfl | rfl | rfl | rfl <;> simp <;> omega
  unfold fullV
  simp [hh, hi]
 have hl := left_nonneg d h0 h5 ⟨x, y, z⟩ ((rightB_iff _).1 hr)
 have hlj : j < (leftD d ⟨x, y, z⟩).toNat := by
  have : 99000 ≤ leftD d ⟨x, y, z⟩ := by
   rcases dcase h0 h5 with rfl | rfl | rfl | rfl | rfl | rfl <;> simp [leftD] <;> omega
  omega
 have hs := scan_at (fun p => fullV (-400) (-400) (-400) 400 400 400 [borC k x y z n] p.f0 p.f1 p.f2) d j (leftD d ⟨x, y, z⟩).toNat ⟨x, y, z⟩ hlj hF hT
 unfold touchV
 rw [if_pos hg, if_neg (by omega), if_neg (by rw [show fullV (-400) (-400) (-400) 400 400 400 [borC k x y z n] x y z = false from hF 0 (by omega)]; decide)]
 dsimp only
 rw [hs]
 rfl
theorem centers_two (x y z n a d : Int) (hn : 0 ≤ n ∧ n ≤ 255) (hx : -128 ≤ x ∧ x ≤ 127) (hy : -128 ≤ y ∧ y ≤ 127) (hz : -128 ≤ z ∧ z ≤ 127) (h0 : 0 ≤ d) (h2 : d ≤ 2) (hd : d ≠ a % 3) (K : Nat) (hK : 200300 ≤ K) :
  twoT K [borC (a % 3) x y z (2 + n)] x y z (2 + n) d := by
 have hk : a % 3 = 0 ∨ a % 3 = 1 ∨ a % 3 = 2 := by omega
 obtain ⟨j, hj⟩ : ∃ j : Nat, 2 + n ≤ 2 * ((j : Int) + 1) ∧ 2 * (j : Int) < 2 + n := ⟨((n + 1) / 2).toNat, by omega⟩
 have t1 := ptouch_eq (-400) (-400) (-400) 400 400 400 [borC (a % 3) x y z (2 + n)] x y z (2 * d) K hK
 have t2 := ptouch_eq (-400) (-400) (-400) 400 400 400 [borC (a % 3) x y z (2 + n)] x y z (2 * d + 1) K hK
 rw [centers_touch (a % 3) x y z (2 + n) (2 * d) hk (by omega) (by omega) (by omega) hx hy hz (by omega) j hj] at t1
 rw [centers_touch (a % 3) x y z (2 + n) (2 * d + 1) hk (by omega) (by omega) (by omega) hx hy hz (by omega) j hj] at t2
 refine ⟨_, _, _, _, _, _, _, _, _, _, _, _, t1, t2, ?_⟩
 rw [it_coord (2 * d) (by omega) (by omega), it_coord (2 * d + 1) (by omega) (by omega)]
 have hdc : d = 0 ∨ d = 1 ∨ d = 2 := by omega
 rcases hdc with rfl | rfl | rfl <;> simp <;> omega
theorem centers_all (hr : RunEx) (n0 ax x y z : Int) (hn : 0 ≤ n0 ∧ n0 ≤ 255) (ha : 0 ≤ ax ∧ ax ≤ 255) (hx : -128 ≤ x ∧ x ≤ 127) (hy : -128 ≤ y ∧ y ≤ 127) (hz : -128 ≤ z ∧ z ≤ 127) (w : World) (hG : GW w) :
  Calls Tryz.prog 8 #[.int .u8 n0, .int .u8 ax, .agg #[.int .i8 x, .int .i8 y, .int .i8 z]] w fun e w' => e = .returned (.bool true) ∧ Below w.heap.size w w' := by
 obtain ⟨K, hK⟩ : ∃ K : Nat, 200300 ≤ K := ⟨_, Nat.le_refl _⟩
 exact centers.calls K n0 ax x y z hn ha hx hy hz w hG (awake_all hr K (by omega)) (fun d h0 h2 hd => centers_two x y z n0 ax d hn hx hy hz h0 h2 hd K hK)
end Go.Proofs.YtolbjmaabghghaaGreatDoor.PA
