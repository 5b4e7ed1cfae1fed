/- A part of the proof. -/
import Derived.Test.YtolbjmaabghghaaGreatDoorJ7QChecks
import Derived.Test.YtolbjmaabghghaaGreatDoorJ7PAx7
import Derived.Test.YtolbjmaabghghaaGreatDoorJ7PAx13
import Derived.Test.YtolbjmaabghghaaGreatDoorJ7PAx15
import Derived.Test.YtolbjmaabghghaaGreatDoorJ7ERun
namespace Go.Proofs.YtolbjmaabghghaaGreatDoor.PA
open Go.RowKit Go.PW Go.PL Go.PM
def plateB : List S84 := [⟨2, ⟨10, 5⟩, 6⟩]
theorem fullS_eq (a0 a1 a2 a3 a4 a5 : Int) (l : List S84) (p : S23) (hl : l.length ≤ 16) (hax : axesOk l) : fullS a0 a1 a2 a3 a4 a5 l p = some (fullV a0 a1 a2 a3 a4 a5 l p.f0 p.f1 p.f2) := full_eq _ _ _ _ _ _ _ _ _ _ _ (by decide) hl hax
theorem plate_len : plateB.length ≤ 16 := by decide
theorem plate_ax : axesOk plateB := by
 intro b hb
 simp only [plateB, List.mem_singleton] at hb
 subst hb
 decide
theorem way_line (n : Nat) : ∀ (p q : S23), p.f0 = q.f0 → p.f1 = q.f1 → ∀ x ∈ wayL n p q, x.f0 = q.f0 ∧ x.f1 = q.f1 := by
 induction n with
 | zero => intro p q h0 h1 x hx; simp [wayL] at hx; subst hx; exact ⟨h0, h1⟩
 | succ n ih =>
  intro p q h0 h1 x hx
  unfold wayL at hx
  rcases List.mem_cons.1 hx with rfl | hx
  ·exact ⟨h0, h1⟩
  ·split at hx
   ·simp at hx
   ·refine ih _ _ ?_ ?_ x hx
    ·simp [twS, tw, h0]
    ·simp [twS, tw, h1]
theorem touchL_none (g : S23 → Option Bool) : ∀ (l : List S23) (q : S23), (∀ x ∈ l, g x = some false) → touchL g q l = some (0, 0, 0, 0, 0, 0, false)
 | [], q, h => rfl
 | p :: l, q, h => by
  unfold touchL
  rw [h p (by simp)]
  simp only [Option.bind_some, Bool.false_eq_true, if_false]
  exact touchL_none g l p (fun x hx => h x (by simp [hx]))
theorem plate_bored (z : Int) : fullV 0 0 0 20 10 4 plateB 10 5 z = false := by
 have : hasB ⟨2, ⟨10, 5⟩, 6⟩ 10 5 z = true := by
  show hasPQ 10 5 10 5 6 = true
  decide +kernel
 simp [fullV, plateB, this]
theorem touched_none : probe_Solid_touched.f 0 0 0 20 10 4 plateB 10 5 9 5 = some (0, 0, 0, 0, 0, 0, false) := by
 unfold probe_Solid_touched.f
 rw [if_pos ⟨by decide, by decide, by decide⟩]
 apply touchL_none
 intro x hx
 have := way_line _ ⟨10, 5, 9⟩ (aheadP 10 5 9 5) rfl rfl x hx
 have h0 : x.f0 = 10 := this.1
 have h1 : x.f1 = 5 := this.2
 rw [fullS_eq _ _ _ _ _ _ _ _ plate_len plate_ax, h0, h1]
 congr 1
 exact plate_bored _
theorem touched_px : probe_Solid_touched.f 0 0 0 20 10 4 plateB 10 5 2 0 = some (13, 5, 2, 12, 5, 2, true) := by
 kernel_rfl
theorem mat12 : materialV 0 0 0 20 10 4 plateB 12 5 2 = (false, 0) := by kernel_rfl
theorem mat13 : materialV 0 0 0 20 10 4 plateB 13 5 2 = (true, 0) := by kernel_rfl
theorem read1 : probe_Read.f 40 ⟨#[116, 111, 117, 99, 104, 32, 43, 88]⟩ = some (1, 0, 0, 0, 0, ⟨#[]⟩, 0) := by kernel_rfl
theorem read2 : probe_Read.f 40 ⟨#[109, 111, 118, 101, 32, 49, 48, 32, 53, 32, 50]⟩ = some (0, 10, 5, 2, 0, ⟨#[]⟩, 0) := by kernel_rfl
theorem read3 : probe_Read.f 40 ⟨#[116, 111, 117, 99, 104, 32, 45, 88]⟩ = some (1, 0, 0, 0, 1, ⟨#[]⟩, 0) := by kernel_rfl
theorem read4 : probe_Read.f 40 ⟨#[116, 97, 107, 101, 32, 104, 111, 108, 101]⟩ = some (2, 0, 0, 0, 0, ⟨#[104, 111, 108, 101]⟩, 0) := by kernel_rfl
theorem raise {α : Type} {f : Nat → Option α} (hm : ∀ k, LeO (f k) (f (k + 1))) {K : Nat} {v : α} (h : f K = some v) : ∀ k, K ≤ k → f k = some v := by
 intro k hk
 obtain ⟨d, rfl⟩ : ∃ d, k = K + d := ⟨k - K, by omega⟩
 clear hk
 induction d with
 | zero => exact h
 | succ d ih => exact hm _ _ ih
theorem touch_step (k : Nat) (a0 a1 a2 a3 a4 a5 : Int) (l : List S84) (x y z d : Int) : probe_Touch.j0 (k + 1) d false a0 a1 a2 a3 a4 a5 l x y z = (probe_Solid_full.f k a0 a1 a2 a3 a4 a5 l x y z).bind fun t192 => (if t192 = true then (some (0, 0, 0, 0, 0, 0, 14)) else ((probe_Solid_touched.f a0 a1 a2 a3 a4 a5 l x y z d).bind fun bt193 => (if bt193.2.2.2.2.2.2 = true then (some (bt193.1, bt193.2.1, bt193.2.2.1, bt193.2.2.2.1, bt193.2.2.2.2.1, bt193.2.2.2.2.2.1, 0)) else (some (0, 0, 0, 0, 0, 0, 6))))) := by
 rw [probe_Touch.j0, if_neg (by decide)]
theorem touch_eq (k : Nat) (hk : 50 ≤ k) (a0 a1 a2 a3 a4 a5 : Int) (l : List S84) (x y z d : Int) (hg : givenV a0 a1 a2 a3 a4 a5 l x y z = 0) (hd0 : ¬ d < 0) (hd5 : ¬ d > 5) (hf : fullV a0 a1 a2 a3 a4 a5 l x y z = false) :
  probe_Touch.f k a0 a1 a2 a3 a4 a5 l x y z d = (probe_Solid_touched.f a0 a1 a2 a3 a4 a5 l x y z d).bind fun bt193 => (if bt193.2.2.2.2.2.2 = true then (some (bt193.1, bt193.2.1, bt193.2.2.1, bt193.2.2.2.1, bt193.2.2.2.2.1, bt193.2.2.2.2.2.1, 0)) else (some (0, 0, 0, 0, 0, 0, 6))) := by
 obtain ⟨k, rfl⟩ : ∃ k', k = k' + 1 := ⟨k - 1, by omega⟩
 have h5 : decide (d > 5) = false := decide_eq_false hd5
 unfold probe_Touch.f
 rw [given1_eq _ _ _ _ _ _ _ _ _ _ _ hk, hg]
 simp only [Option.bind_some, if_true]
 rw [if_neg hd0, h5, touch_step, full_eq _ _ _ _ _ _ _ _ _ _ _ (by omega) (check0 (given0 hg)).1 (check0 (given0 hg)).2, hf]
 simp only [Option.bind_some, Bool.false_eq_true, if_false]
theorem touch_px (k : Nat) (hk : 50 ≤ k) : probe_Touch.f k 0 0 0 20 10 4 plateB 10 5 2 0 = some (13, 5, 2, 12, 5, 2, 0) := by
 rw [touch_eq k hk _ _ _ _ _ _ _ _ _ _ _ (by kernel_rfl) (by decide) (by decide) (by kernel_rfl), touched_px]
 rfl
theorem touch_none (k : Nat) (hk : 50 ≤ k) : probe_Touch.f k 0 0 0 20 10 4 plateB 10 5 9 5 = some (0, 0, 0, 0, 0, 0, 6) := by
 rw [touch_eq k hk _ _ _ _ _ _ _ _ _ _ _ (by kernel_rfl) (by decide) (by decide) (by kernel_rfl), touched_none]
 rfl
def steps4 : List S47 := [⟨1, ⟨0, 0, 0⟩, 0, ⟨#[]⟩⟩, ⟨0, ⟨10, 5, 2⟩, 0, ⟨#[]⟩⟩, ⟨1, ⟨0, 0, 0⟩, 1, ⟨#[]⟩⟩, ⟨2, ⟨0, 0, 0⟩, 0, ⟨#[104, 111, 108, 101]⟩⟩]
def RunEx : Prop := ∃ (r1 : ByteArray) (i : Int), probe_Run.f 0 0 0 20 10 4 plateB 10 5 2 steps4 = some (r1, [⟨⟨#[104, 111, 108, 101]⟩, [⟨13, 5, 2⟩, ⟨7, 5, 2⟩]⟩], i, 0)
def texts4 : List ByteArray := [⟨#[116, 111, 117, 99, 104, 32, 43, 88]⟩, ⟨#[109, 111, 118, 101, 32, 49, 48, 32, 53, 32, 50]⟩, ⟨#[116, 111, 117, 99, 104, 32, 45, 88]⟩, ⟨#[116, 97, 107, 101, 32, 104, 111, 108, 101]⟩]
end Go.Proofs.YtolbjmaabghghaaGreatDoor.PA
