/- A part of the proof. -/
import Derived.Test.YtolbjmaabghghaaGreatDoorCQChecks
import Derived.Test.YtolbjmaabghghaaGreatDoorCPAx16
namespace Go.Proofs.YtolbjmaabghghaaGreatDoor.PA
open Go.RowKit Go.PW Go.PL Go.PM
def plateB : List S84 := [⟨2, ⟨10, 5⟩, 6⟩]
theorem fullS_eq (a0 a1 a2 a3 a4 a5 : Int) (l : List S84) (p : S23) (hl : l.length ≤ 16) (hax : axesOk l) : fullS a0 a1 a2 a3 a4 a5 l p = some (fullV a0 a1 a2 a3 a4 a5 l p.f0 p.f1 p.f2) := full_eq _ _ _ _ _ _ _ _ _ _ _ (by decide) hl hax
theorem plate_len : plateB.length ≤ 16 := by decide
theorem plate_ax : axesOk plateB := by
 intro b hb
 simp only [plateB, List.mem_singleton] at hb
 subst hb
 decide
theorem way_line (n : Nat) : ∀ (p q : S23), p.f0 = q.f0 → p.f1 = q.f1 → ∀ x ∈ wayL n p q, x.f0 = q.f0 ∧ x.f1 = q.f1 := by
 induction n with
 | zero => intro p q h0 h1 x hx; simp [wayL] at hx; subst hx; exact ⟨h0, h1⟩
 | succ n ih =>
  intro p q h0 h1 x hx
  unfold wayL at hx
  rcases List.mem_cons.1 hx with rfl | hx
  ·exact ⟨h0, h1⟩
  ·split at hx
   ·simp at hx
   ·refine ih _ _ ?_ ?_ x hx
    ·simp [twS, tw, h0]
    ·simp [twS, tw, h1]
theorem touchL_none (g : S23 → Option Bool) : ∀ (l : List S23) (q : S23), (∀ x ∈ l, g x = some false) → touchL g q l = some (0, 0, 0, 0, 0, 0, false)
 | [], q, h => rfl
 | p :: l, q, h => by
  unfold touchL
  rw [h p (by simp)]
  simp only [Option.bind_some, Bool.false_eq_true, if_false]
  exact touchL_none g l p (fun x hx => h x (by simp [hx]))
theorem plate_bored (z : Int) : fullV 0 0 0 20 10 4 plateB 10 5 z = false := by
 have : hasB ⟨2, ⟨10, 5⟩, 6⟩ 10 5 z = true := by
  show hasPQ 10 5 10 5 6 = true
  decide +kernel
 simp [fullV, plateB, this]
theorem touched_none : probe_Solid_touched.f 0 0 0 20 10 4 plateB 10 5 9 5 = some (0, 0, 0, 0, 0, 0, false) := by
 unfold probe_Solid_touched.f
 rw [if_pos ⟨by decide, by decide, by decide⟩]
 apply touchL_none
 intro x hx
 have := way_line _ ⟨10, 5, 9⟩ (aheadP 10 5 9 5) rfl rfl x hx
 have h0 : x.f0 = 10 := this.1
 have h1 : x.f1 = 5 := this.2
 rw [fullS_eq _ _ _ _ _ _ _ _ plate_len plate_ax, h0, h1]
 congr 1
 exact plate_bored _
theorem touched_px : probe_Solid_touched.f 0 0 0 20 10 4 plateB 10 5 2 0 = some (13, 5, 2, 12, 5, 2, true) := by
 kernel_rfl
theorem mat12 : materialV 0 0 0 20 10 4 plateB 12 5 2 = (false, 0) := by kernel_rfl
theorem mat13 : materialV 0 0 0 20 10 4 plateB 13 5 2 = (true, 0) := by kernel_rfl
theorem read1 : probe_Read.f 40 ⟨#[116, 111, 117, 99, 104, 32, 43, 88]⟩ = some (1, 0, 0, 0, 0, ⟨#[]⟩, 0) := by kernel_rfl
theorem read2 : probe_Read.f 40 ⟨#[109, 111, 118, 101, 32, 49, 48, 32, 53, 32, 50]⟩ = some (0, 10, 5, 2, 0, ⟨#[]⟩, 0) := by kernel_rfl
theorem read3 : probe_Read.f 40 ⟨#[116, 111, 117, 99, 104, 32, 45, 88]⟩ = some (1, 0, 0, 0, 1, ⟨#[]⟩, 0) := by kernel_rfl
theorem read4 : probe_Read.f 40 ⟨#[116, 97, 107, 101, 32, 104, 111, 108, 101]⟩ = some (2, 0, 0, 0, 0, ⟨#[104, 111, 108, 101]⟩, 0) := by kernel_rfl
theorem raise {α : Type} {f : Nat → Option α} (hm : ∀ k, LeO (f k) (f (k + 1))) {K : Nat} {v : α} (h : f K = some v) : ∀ k, K ≤ k → f k = some v := by
 intro k hk
 obtain ⟨d, rfl⟩ : ∃ d, k = K + d := ⟨k - K, by omega⟩
 clear hk
 induction d with
 | zero => exact h
 | succ d ih => exact hm _ _ ih
theorem touch_step (k : Nat) (a0 a1 a2 a3 a4 a5 : Int) (l : List S84) (x y z d : Int) : probe_Touch.j0 (k + 1) d false a0 a1 a2 a3 a4 a5 l x y z = (probe_Solid_full.f k a0 a1 a2 a3 a4 a5 l x y z).bind fun t192 => (if t192 = true then (some (0, 0, 0, 0, 0, 0, 14)) else ((probe_Solid_touched.f a0 a1 a2 a3 a4 a5 l x y z d).bind fun bt193 => (if bt193.2.2.2.2.2.2 = true then (some (bt193.1, bt193.2.1, bt193.2.2.1, bt193.2.2.2.1, bt193.2.2.2.2.1, bt193.2.2.2.2.2.1, 0)) else (some (0, 0, 0, 0, 0, 0, 6))))) := by
 rw [probe_Touch.j0, if_neg (by decide)]
theorem touch_eq (k : Nat) (hk : 50 ≤ k) (a0 a1 a2 a3 a4 a5 : Int) (l : List S84) (x y z d : Int) (hg : givenV a0 a1 a2 a3 a4 a5 l x y z = 0) (hd0 : ¬ d < 0) (hd5 : ¬ d > 5) (hf : fullV a0 a1 a2 a3 a4 a5 l x y z = false) :
  probe_Touch.f k a0 a1 a2 a3 a4 a5 l x y z d = (probe_Solid_touched.f a0 a1 a2 a3 a4 a5 l x y z d).bind fun bt193 => (if bt193.2.2.2.2.2.2 = true then (some (bt193.1, bt193.2.1, bt193.2.2.1, bt193.2.2.2.1, bt193.2.2.2.2.1, bt193.2.2.2.2.2.1, 0)) else (some (0, 0, 0, 0, 0, 0, 6))) := by
 obtain ⟨k, rfl⟩ : ∃ k', k = k' + 1 := ⟨k - 1, by omega⟩
 have h5 : decide (d > 5) = false := decide_eq_false hd5
 unfold probe_Touch.f
 rw [given1_eq _ _ _ _ _ _ _ _ _ _ _ hk, hg]
 simp only [Option.bind_some, if_true]
 rw [if_neg hd0, h5, touch_step, full_eq _ _ _ _ _ _ _ _ _ _ _ (by omega) (check0 (given0 hg)).1 (check0 (given0 hg)).2, hf]
 simp only [Option.bind_some, Bool.false_eq_true, if_false]
theorem touch_px (k : Nat) (hk : 50 ≤ k) : probe_Touch.f k 0 0 0 20 10 4 plateB 10 5 2 0 = some (13, 5, 2, 12, 5, 2, 0) := by
 rw [touch_eq k hk _ _ _ _ _ _ _ _ _ _ _ (by kernel_rfl) (by decide) (by decide) (by kernel_rfl), touched_px]
 rfl
theorem touch_none (k : Nat) (hk : 50 ≤ k) : probe_Touch.f k 0 0 0 20 10 4 plateB 10 5 9 5 = some (0, 0, 0, 0, 0, 0, 6) := by
 rw [touch_eq k hk _ _ _ _ _ _ _ _ _ _ _ (by kernel_rfl) (by decide) (by decide) (by kernel_rfl), touched_none]
 rfl
def steps4 : List S47 := [⟨1, ⟨0, 0, 0⟩, 0, ⟨#[]⟩⟩, ⟨0, ⟨10, 5, 2⟩, 0, ⟨#[]⟩⟩, ⟨1, ⟨0, 0, 0⟩, 1, ⟨#[]⟩⟩, ⟨2, ⟨0, 0, 0⟩, 0, ⟨#[104, 111, 108, 101]⟩⟩]
def RunEx : Prop := ∃ (r1 : ByteArray) (i : Int), probe_Run.f 0 0 0 20 10 4 plateB 10 5 2 steps4 = some (r1, [⟨⟨#[104, 111, 108, 101]⟩, [⟨13, 5, 2⟩, ⟨7, 5, 2⟩]⟩], i, 0)
def texts4 : List ByteArray := [⟨#[116, 111, 117, 99, 104, 32, 43, 88]⟩, ⟨#[109, 111, 118, 101, 32, 49, 48, 32, 53, 32, 50]⟩, ⟨#[116, 111, 117, 99, 104, 32, 45, 88]⟩, ⟨#[116, 97, 107, 101, 32, 104, 111, 108, 101]⟩]
theorem awake_step (k : Nat) (xs : List S47) (i : Int) (s : ByteArray) (st : S47) (h0 : 0 ≤ i) (h4 : i < 4) (hs : rdOf ByteArray.empty texts4 i = s) (hr : probe_Read.f k s = some (st.f0, st.f1.f0, st.f1.f1, st.f1.f2, st.f2, st.f3, 0)) (hx : xs.length < 2513169434916) :
  metrolablaw30_awake.l0 (k + 1) xs texts4 4 i 10 5 2 = metrolablaw30_awake.l0 k (xs ++ [st]) texts4 4 (i + 1) 10 5 2 := by
 rw [metrolablaw30_awake.l0, if_pos h4, if_pos h0, if_pos (by simp [texts4]; omega), hs, hr]
 simp only [Option.bind_some, if_true]
 rw [if_pos hx, wrap1 h0 (by omega)]
theorem awake_key (hr : RunEx) : ∀ k, 40 ≤ k → metrolablaw30_awake.j0 (k + 1 + 1 + 1 + 1 + 1 + 1) false 10 5 2 = some true := by
 obtain ⟨r1, i, hr⟩ := hr
 have hp : metrolablaw30_Plate.f = some (0, 0, 0, 20, 10, 4, plateB) := rfl
 have e : ∀ K, 40 ≤ K → probe_Read.f K ⟨#[116, 111, 117, 99, 104, 32, 43, 88]⟩ = some (1, 0, 0, 0, 0, ⟨#[]⟩, 0) := raise (probe_Read.mono _) read1
 have e2 : ∀ K, 40 ≤ K → probe_Read.f K ⟨#[109, 111, 118, 101, 32, 49, 48, 32, 53, 32, 50]⟩ = some (0, 10, 5, 2, 0, ⟨#[]⟩, 0) := raise (probe_Read.mono _) read2
 have e3 : ∀ K, 40 ≤ K → probe_Read.f K ⟨#[116, 111, 117, 99, 104, 32, 45, 88]⟩ = some (1, 0, 0, 0, 1, ⟨#[]⟩, 0) := raise (probe_Read.mono _) read3
 have e4 : ∀ K, 40 ≤ K → probe_Read.f K ⟨#[116, 97, 107, 101, 32, 104, 111, 108, 101]⟩ = some (2, 0, 0, 0, 0, ⟨#[104, 111, 108, 101]⟩, 0) := raise (probe_Read.mono _) read4
 have hs : ∀ K, 10 ≤ K → api_Spot.f K [⟨13, 5, 2⟩, ⟨7, 5, 2⟩] [⟨13, 5, 2⟩, ⟨7, 5, 2⟩] = some true := raise (api_Spot.mono _ _) (by kernel_rfl)
 have last : ∀ k, 10 ≤ k → metrolablaw30_awake.l0 (k + 1) steps4 texts4 4 4 10 5 2 = some true := by
  intro k hk
  rw [metrolablaw30_awake.l0, if_neg (by decide), hp]
  simp only [Option.bind_some]
  rw [hr]
  simp only [Option.bind_some, if_true]
  rw [if_pos (by rfl), if_pos (by decide)]
  have hd : (rd_T76 [(⟨⟨#[104, 111, 108, 101]⟩, [⟨13, 5, 2⟩, ⟨7, 5, 2⟩]⟩ : S76)] 0) = ⟨⟨#[104, 111, 108, 101]⟩, [⟨13, 5, 2⟩, ⟨7, 5, 2⟩]⟩ := rfl
  rw [hd, if_pos (by rw [Lib.toList_data]), hs k hk]
  rfl
 have key : ∀ k, 40 ≤ k → metrolablaw30_awake.j0 (k + 1 + 1 + 1 + 1 + 1 + 1) false 10 5 2 = some true := by
  intro k hk
  have j : metrolablaw30_awake.j0 (k + 1 + 1 + 1 + 1 + 1 + 1) false 10 5 2 = metrolablaw30_awake.l0 (k + 1 + 1 + 1 + 1 + 1) [] texts4 4 0 10 5 2 := by
   rw [metrolablaw30_awake.j0, if_neg (by decide)]; rfl
  rw [j, awake_step (k + 1 + 1 + 1 + 1) [] 0 ⟨#[116, 111, 117, 99, 104, 32, 43, 88]⟩ ⟨1, ⟨0, 0, 0⟩, 0, ⟨#[]⟩⟩ (by decide) (by decide) rfl (e _ (by omega)) (by decide),
   awake_step (k + 1 + 1 + 1) _ (0 + 1) ⟨#[109, 111, 118, 101, 32, 49, 48, 32, 53, 32, 50]⟩ ⟨0, ⟨10, 5, 2⟩, 0, ⟨#[]⟩⟩ (by decide) (by decide) rfl (e2 _ (by omega)) (by decide),
   awake_step (k + 1 + 1) _ (0 + 1 + 1) ⟨#[116, 111, 117, 99, 104, 32, 45, 88]⟩ ⟨1, ⟨0, 0, 0⟩, 1, ⟨#[]⟩⟩ (by decide) (by decide) rfl (e3 _ (by omega)) (by decide),
   awake_step (k + 1) _ (0 + 1 + 1 + 1) ⟨#[116, 97, 107, 101, 32, 104, 111, 108, 101]⟩ ⟨2, ⟨0, 0, 0⟩, 0, ⟨#[104, 111, 108, 101]⟩⟩ (by decide) (by decide) rfl (e4 _ (by omega)) (by decide)]
  exact last k (by omega)
 exact key
theorem awake_open (k : Nat) (hk : 50 ≤ k) (hl : metrolablaw30_awake.j0 k false 10 5 2 = some true) : metrolablaw30_awake.f k = some true := by
 have hp : metrolablaw30_Plate.f = some (0, 0, 0, 20, 10, 4, plateB) := rfl
 have m1 : probe_Material.f k 0 0 0 20 10 4 plateB 12 5 2 = some (false, 0) := by rw [material_eq _ _ _ _ _ _ _ _ _ _ _ hk, mat12]
 have m2 : probe_Material.f k 0 0 0 20 10 4 plateB 13 5 2 = some (true, 0) := by rw [material_eq _ _ _ _ _ _ _ _ _ _ _ hk, mat13]
 have p1 := touch_px k hk
 have p2 := touch_none k hk
 have w0 : wrap64 (wrap64 (0 + 0) + 0) = 0 := by kernel_rfl
 have b1 : (!((13 : Int) == 13) || (!((5 : Int) == 5) || (!((2 : Int) == 2)))) = false := by decide
 have b2 : (!((12 : Int) == 12) || (!((5 : Int) == 5) || (!((2 : Int) == 2)))) = false := by decide
 unfold metrolablaw30_awake.f
 simp only [hp, Option.bind_some, m1, m2, p1, p2]
 rw [if_pos w0]
 simp only [if_true, Bool.false_eq_true, if_false, b1, b2]
 exact hl
theorem awake_all (hr : RunEx) (k : Nat) (hk : 60 ≤ k) : metrolablaw30_awake.f k = some true := by
 obtain ⟨j, rfl⟩ : ∃ j, k = j + 1 + 1 + 1 + 1 + 1 + 1 := ⟨k - 6, by omega⟩
 exact awake_open _ (by omega) (awake_key hr j (by omega))
end Go.Proofs.YtolbjmaabghghaaGreatDoor.PA
