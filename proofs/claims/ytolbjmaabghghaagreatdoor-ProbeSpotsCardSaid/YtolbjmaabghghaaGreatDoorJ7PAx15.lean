/- A part of the proof. -/
import Derived.Test.YtolbjmaabghghaaGreatDoorJ7PAx0
import Derived.Test.YtolbjmaabghghaaGreatDoorJ7PAx1
namespace Go.Proofs.YtolbjmaabghghaaGreatDoor.PA
open Go.RowKit Go.PW Go.PL Go.PM
attribute [local go_sem] max2_int min2_int max_two min_two max_three min_three max_four min_four   -- for this text's walks alone
set_option linter.unusedVariables false
set_option maxHeartbeats 8000000
set_option maxRecDepth 100000
set_option linter.unusedSimpArgs false
attribute [local go_sem high] eqA23
def metrolablaw30_Plate.f  : Option (Int × Int × Int × Int × Int × Int × (List (S84))) := some (0, 0, 0, 20, 10, 4, (([(⟨2, (⟨10, 5⟩ : S81), 6⟩ : S84)] : List (S84))))
theorem metrolablaw30_Plate.calls  (r1 : Int) (r2 : Int) (r3 : Int) (r4 : Int) (r5 : Int) (r6 : Int) (r7 : List (S84)) (w : World) (h : metrolablaw30_Plate.f  = some (r1, r2, r3, r4, r5, r6, r7)) :
  Calls Tryz.prog 36 #[] w fun e w' => ∃ v6_ : Value, e = .returned (.agg #[.int .i64 r1, .int .i64 r2, .int .i64 r3, .int .i64 r4, .int .i64 r5, .int .i64 r6, v6_]) ∧ Kd.R k84 84 w' w.heap.size (fun _ => True) v6_ r7 ∧ Below w.heap.size w w' := by
 have hu26 := Tryz.underlying26
 have hu23 := Tryz.underlying23
 have hu81 := Tryz.underlying81
 have hu84 := Tryz.underlying84
 have HB := mk0 (Below.refl w.heap.size w)
 have H : (some (0, 0, 0, 20, 10, 4, (([(⟨2, (⟨10, 5⟩ : S81), 6⟩ : S84)] : List (S84))))) = some (r1, r2, r3, r4, r5, r6, r7) := h
 clear h
 obtain ⟨y302, hy302⟩ : ∃ y_ : List (S84), y_ = (([(⟨2, (⟨10, 5⟩ : S81), 6⟩ : S84)] : List (S84))) := ⟨_, rfl⟩
 replace H : (some (0, 0, 0, 20, 10, 4, y302)) = some (r1, r2, r3, r4, r5, r6, r7) := by first | (rw [hy302]; with_reducible exact H) | (have H2_ := (Option.bind_some _ _).symm.trans H; rw [hy302]; with_reducible exact H2_) | (have H2_ := (Option.bind_some _ _).symm.trans H; with_reducible exact H2_) | with_reducible exact H | (rw [hy302]; exact H) | exact H
 have Ny302 := mk0 hy302
 clear hy302
 simp only [Option.some.injEq, Prod.mk.injEq] at H
 obtain ⟨rfl, rfl, rfl, rfl, rfl, rfl, rfl⟩ := H
 go_enter Tryz.func36, Tryz.ntmps36
 go_wp2_with (first | ((with_reducible refine gate_dst (N := 0) rfl ?_); refine box_event ?hg (N := 0) ?hd (cs := #[.int .i64 0, .int .i64 0, .int .i64 0, .int .i64 0, .int .i64 0, .int .i64 0, .slice none 0 0]) (t := 26) ?hr ?_; (case hd => rfl); (case hg => rfl); (case hr => first | (go_simp; done) | (go_simp; rfl)); intro gb301 hg w1 hbox hb; have n0_ := mk0 (below_step (wT HB.out) hb); have n1_ := mk0 (hbox); have n2_ := mk0 ((szT HB.out hg)); have n3_ := mk0 ((szT HB.out hg)); clear HB; have HB := n0_; have BK301 := n1_; have GW301 := n2_; have GE301 := n3_; clear n0_ n1_ n2_ n3_; clear hb hbox hg) | ((with_reducible refine gate_dst (N := 4) rfl ?_); refine Kd.R_lit k84 _ 84 ?hg (N := 4) ?hd (xs := ([(⟨2, (⟨10, 5⟩ : S81), 6⟩ : S84)] : List (S84))) (inner := [.int .i64 2, .int .i64 10, .int .i64 5, .int .i64 6]) (ok := fun _ => True) (okp := fun _ => True) ?hr ?hp (fun _ hk => hk) trivial (Below.refl _ _) (Nat.le_refl _) (by simp) ?_; (case hd => rfl); (case hg => rfl); (case hr => first | (go_simp; done) | (go_simp; rfl)); (case hp => exact (Reps.c4 (show Kd.M k84 _ _ _ (⟨2, (⟨10, 5⟩ : S81), 6⟩ : S84) [.int .i64 2, .int .i64 10, .int .i64 5, .int .i64 6] from (k84_mkM _ _ _ (⟨2, (⟨10, 5⟩ : S81), 6⟩ : S84) )) (Reps.none _ _))); intro v303 w2 ho3 hb hg_ hnew_; clear hg_ hnew_; (first | rw [← Ny302.out] at ho3 | (simp only [Int.reduceToNat] at ho3; rw [← Ny302.out] at ho3)); have n0_ := mk0 (Kd.R_lower ho3 (below_size (wT HB.out))); have n1_ := mk0 (bbT BK301.out hb); have n2_ := mk0 (below_step (wT HB.out) hb); clear BK301; clear HB; have HO304 := n0_; have BK301 := n1_; have HB := n2_; clear n0_ n1_ n2_; clear hb ho3; obtain ⟨Ao4, co4, eo4⟩ := Kd.R_slice HO304.out; subst eo4; have X5_0 := ct BK301.out 0; have X5_1 := ct BK301.out 1; have X5_2 := ct BK301.out 2; have X5_3 := ct BK301.out 3; have X5_4 := ct BK301.out 4; have X5_5 := ct BK301.out 5; have X5_6 := ct BK301.out 6; have Y5_0 := blk_frozen BK301.out 0; have Y5_1 := blk_frozen BK301.out 1; have Y5_2 := blk_frozen BK301.out 2; have Y5_3 := blk_frozen BK301.out 3; have Y5_4 := blk_frozen BK301.out 4; have Y5_5 := blk_frozen BK301.out 5; have Y5_6 := blk_frozen BK301.out 6))
 refine bodyPost_ret (results_cell_row rfl _ _ gb301 26 #[.int .i64 0, .int .i64 0, .int .i64 0, .int .i64 20, .int .i64 10, .int .i64 4, .slice Ao4 y302.length co4] (0, 0) _ rfl (by (with_reducible repeat (first | refine blk_drewN ?_ _ | refine blk_drew ?_ | refine blk_alloc ?_ _)); refine blk_put (cs := #[.int .i64 0, .int .i64 0, .int .i64 0, .int .i64 20, .int .i64 10, .int .i64 4, .slice none 0 0]) ?_ 6 _ rfl; refine blk_put (cs := #[.int .i64 0, .int .i64 0, .int .i64 0, .int .i64 20, .int .i64 10, .int .i64 0, .slice none 0 0]) ?_ 5 _ rfl; refine blk_put (cs := #[.int .i64 0, .int .i64 0, .int .i64 0, .int .i64 20, .int .i64 0, .int .i64 0, .slice none 0 0]) ?_ 4 _ rfl; refine blk_put (cs := #[.int .i64 0, .int .i64 0, .int .i64 0, .int .i64 0, .int .i64 0, .int .i64 0, .slice none 0 0]) ?_ 3 _ rfl; refine blk_put (cs := #[.int .i64 0, .int .i64 0, .int .i64 0, .int .i64 0, .int .i64 0, .int .i64 0, .slice none 0 0]) ?_ 2 _ rfl; refine blk_put (cs := #[.int .i64 0, .int .i64 0, .int .i64 0, .int .i64 0, .int .i64 0, .int .i64 0, .slice none 0 0]) ?_ 1 _ rfl; refine blk_put (cs := #[.int .i64 0, .int .i64 0, .int .i64 0, .int .i64 0, .int .i64 0, .int .i64 0, .slice none 0 0]) ?_ 0 _ rfl; (with_reducible repeat (first | refine blk_drewN ?_ _ | refine blk_drew ?_ | refine blk_alloc ?_ _)); exact BK301.out) Tryz.underlying26 rfl (by kernel_rfl)) rfl ?_
 exact ⟨_, eqT, by (with_reducible repeat (first | apply Kd.R_alloc | apply Kd.R_drewN | apply Kd.R_drew)); exact Kd.R_mono (Kd.R_far (p := ⟨gb301, 6, none⟩) (Kd.R_far (p := ⟨gb301, 5, none⟩) (Kd.R_far (p := ⟨gb301, 4, none⟩) (Kd.R_far (p := ⟨gb301, 3, none⟩) (Kd.R_far (p := ⟨gb301, 2, none⟩) (Kd.R_far (p := ⟨gb301, 1, none⟩) (Kd.R_far (p := ⟨gb301, 0, none⟩) (Kd.R_types HO304.out BK301.out (by decide)) (fun _ hk => hk.2) (.int .i64 0)) (fun _ hk => hk.2) (.int .i64 0)) (fun _ hk => hk.2) (.int .i64 0)) (fun _ hk => hk.2) (.int .i64 20)) (fun _ hk => hk.2) (.int .i64 10)) (fun _ hk => hk.2) (.int .i64 4)) (fun _ hk => hk.2) (.slice Ao4 y302.length co4)) (fun _ hk => trivial), by repeat (first | (with_reducible first | exact HB.out | apply below_alloc | apply pw_below_drewN | apply below_drew1 | refine below_set ?_ GE301.out) | exact HB.out)⟩
def api_Spot.l0 : Nat → List (S23) → List (S23) → Int → Int → Option (Bool)
 | 0, _, _, _, _ => none
 | k + 1, x0, x1, x12, x13 => if x13 < x12 then (if 0 ≤ x13 then (if x13 < (x0.length : Int) then (if x13 < (x1.length : Int) then (if (!(((rd_T23 x0 x13).f0) == ((rd_T23 x1 x13).f0)) || (!(((rd_T23 x0 x13).f1) == ((rd_T23 x1 x13).f1)) || (!(((rd_T23 x0 x13).f2) == ((rd_T23 x1 x13).f2))))) = true then (some false) else (api_Spot.l0 k x0 x1 x12 (wrap64 (x13 + 1)))) else (none)) else (none)) else (none)) else (some true)
def api_Spot.f (k : Nat) (l0 : List (S23)) (l1 : List (S23)) : Option (Bool) := if (l0.length : Int) = (l1.length : Int) then (api_Spot.l0 k l0 l1 (l0.length : Int) 0) else (some false)
theorem api_Spot.calls (k : Nat) (A0 : Option Addr) (c0 : Nat) (l0 : List (S23)) (A1 : Option Addr) (c1 : Nat) (l1 : List (S23)) (r : Bool) (w : World) (hr0 : Kd.C k23 w A0 l0.length l0) (hc0 : l0.length ≤ c0) (hr1 : Kd.C k23 w A1 l1.length l1) (hc1 : l1.length ≤ c1) (h : api_Spot.f k l0 l1 = some r) :
  Calls Tryz.prog 37 #[.slice A0 l0.length c0, .slice A1 l1.length c1] w fun e w' => e = .returned (.bool r) ∧ Drawn0 w w' := by
 have hu23 := Tryz.underlying23
 have HR0 := mk0 hr0
 have HC0 := mk0 hc0
 clear hr0 hc0
 have HR1 := mk0 hr1
 have HC1 := mk0 hc1
 clear hr1 hc1
 have H : (if (l0.length : Int) = (l1.length : Int) then (api_Spot.l0 k l0 l1 (l0.length : Int) 0) else (some false)) = some r := h
 clear h
 by_cases c3 : (l0.length : Int) = (l1.length : Int)
 ·rw [if_pos c3] at H
  have c3b0 : ((l0.length : Int) == (l1.length : Int)) = true := beq_iff_eq.mpr c3
  have c3b1 : ((l0.length : Int) != (l1.length : Int)) = false := bne_eq_false_iff_eq.mpr c3
  have c3b2 : (l0.length == l1.length) = true := by first | simpa using c3 | (simp at c3 ⊢; omega)
  clear c3
  have H' := mk0 H
  clear H
  go_enter Tryz.func37, Tryz.ntmps37
  go_wp2
  repeat (go_quiet (fail); try go_wp2)
  go_loopg [13] k (fun kq v13 w' => ∃ (x13_1 : Int), v13 = .int .i64 x13_1 ∧ Aside0 (api_Spot.l0 kq l0 l1 (l0.length : Int) x13_1 = some r) ∧ Aside0 (kq ≤ k) ∧ Drawn0 w w')
  case atStart => exact ⟨(0), (by first | rfl | (simp; done) | (simp [*]; done) | exact congrArg (Value.int .i64) (by unfold wrap64; omega)), H', ⟨Nat.le_refl _⟩, by repeat (first | exact Drawn0.refl _ | apply Drawn0.step)⟩
  case round =>
   clear H'
   try clear c1
   try clear c3
   try clear c3b0
   try clear c3b1
   try clear c3b2
   obtain ⟨x13_1, rfl, HA, HK1, ⟨m1, rfl⟩⟩ := hrel
   cases gk with
   | zero => exact absurd HA.out (by simp [api_Spot.l0])
   | succ k1 =>
    have H := HA.out
    clear HA
    simp only [api_Spot.l0] at H
    by_cases c4 : x13_1 < (l0.length : Int)
    ·rw [if_pos c4] at H
     have c4b0 : decide (x13_1 < (l0.length : Int)) = true := decide_eq_true c4
     clear c4
     by_cases c5 : 0 ≤ x13_1
     ·rw [if_pos c5] at H
      have c5b0 : decide (0 ≤ x13_1) = true := decide_eq_true c5
      clear c5
      by_cases c6 : x13_1 < (l0.length : Int)
      ·rw [if_pos c6] at H
       have c6b0 : decide (x13_1 < (l0.length : Int)) = true := decide_eq_true c6
       clear c6
       by_cases c7 : x13_1 < (l1.length : Int)
       ·rw [if_pos c7] at H
        have c7b0 : decide (x13_1 < (l1.length : Int)) = true := decide_eq_true c7
        clear c7
        by_cases c8 : (!(((rd_T23 l0 x13_1).f0) == ((rd_T23 l1 x13_1).f0)) || (!(((rd_T23 l0 x13_1).f1) == ((rd_T23 l1 x13_1).f1)) || (!(((rd_T23 l0 x13_1).f2) == ((rd_T23 l1 x13_1).f2))))) = true
        ·rw [if_pos c8] at H
         have c8b0 : (!(((rd_T23 l0 x13_1).f0) == ((rd_T23 l1 x13_1).f0)) || (!(((rd_T23 l0 x13_1).f1) == ((rd_T23 l1 x13_1).f1)) || (!(((rd_T23 l0 x13_1).f2) == ((rd_T23 l1 x13_1).f2))))) = true := c8
         clear c8
         obtain rfl := Option.some.inj H
         have p305 : 0 ≤ (x13_1 : Int) := of_decide_eq_true (by first | (with_reducible assumption) | assumption)
         have q305 : x13_1 < (l0.length : Int) := of_decide_eq_true (by first | (with_reducible assumption) | assumption)
         obtain ⟨ad305, e305, hx305_0, hx305_1, hx305_2⟩ := at_T23 HR0.out x13_1 p305 q305
         cases e305
         replace p305 := eq_true p305
         replace q305 := eq_true q305
         have p306 : 0 ≤ (x13_1 : Int) := of_decide_eq_true (by first | (with_reducible assumption) | assumption)
         have q306 : x13_1 < (l1.length : Int) := of_decide_eq_true (by first | (with_reducible assumption) | assumption)
         obtain ⟨ad306, e306, hx306_0, hx306_1, hx306_2⟩ := at_T23 HR1.out x13_1 p306 q306
         cases e306
         replace p306 := eq_true p306
         replace q306 := eq_true q306
         go_wp2
         repeat (go_quiet (fail); try go_wp2)
         go_ret
         exact ⟨by first | rfl | (simp; done) | (simp [*]; done) | exact congrArg (Value.int .i64) (by unfold wrap64; omega), by repeat (first | exact Drawn0.refl _ | apply Drawn0.step)⟩
        ·rw [if_neg c8] at H
         have c8b0 : (!(((rd_T23 l0 x13_1).f0) == ((rd_T23 l1 x13_1).f0)) || (!(((rd_T23 l0 x13_1).f1) == ((rd_T23 l1 x13_1).f1)) || (!(((rd_T23 l0 x13_1).f2) == ((rd_T23 l1 x13_1).f2))))) = false := by simpa using c8
         clear c8
         have H' := mk0 H
         clear H
         have p305 : 0 ≤ (x13_1 : Int) := of_decide_eq_true (by first | (with_reducible assumption) | assumption)
         have q305 : x13_1 < (l0.length : Int) := of_decide_eq_true (by first | (with_reducible assumption) | assumption)
         obtain ⟨ad305, e305, hx305_0, hx305_1, hx305_2⟩ := at_T23 HR0.out x13_1 p305 q305
         cases e305
         replace p305 := eq_true p305
         replace q305 := eq_true q305
         have p306 : 0 ≤ (x13_1 : Int) := of_decide_eq_true (by first | (with_reducible assumption) | assumption)
         have q306 : x13_1 < (l1.length : Int) := of_decide_eq_true (by first | (with_reducible assumption) | assumption)
         obtain ⟨ad306, e306, hx306_0, hx306_1, hx306_2⟩ := at_T23 HR1.out x13_1 p306 q306
         cases e306
         replace p306 := eq_true p306
         replace q306 := eq_true q306
         go_wp2
         repeat (go_quiet (fail); try go_wp2)
         go_roundg k1
         case measure => have := HK1.out; omega
         case rel => exact ⟨(wrap64 (x13_1 + 1)), (by first | rfl | (simp; done) | (simp [*]; done) | exact congrArg (Value.int .i64) (by unfold wrap64; omega)), H', ⟨by have := HK1.out; omega⟩, by repeat (first | exact Drawn0.refl _ | apply Drawn0.step)⟩
       ·rw [if_neg c7] at H
        exact absurd H (by simp)
      ·rw [if_neg c6] at H
       exact absurd H (by simp)
     ·rw [if_neg c5] at H
      exact absurd H (by simp)
    ·rw [if_neg c4] at H
     have c4b0 : decide (x13_1 < (l0.length : Int)) = false := decide_eq_false c4
     clear c4
     obtain rfl := Option.some.inj H
     go_wp2
     repeat (go_quiet (fail); try go_wp2)
     go_ret
     exact ⟨by first | rfl | (simp; done) | (simp [*]; done) | exact congrArg (Value.int .i64) (by unfold wrap64; omega), by repeat (first | exact Drawn0.refl _ | apply Drawn0.step)⟩
 ·rw [if_neg c3] at H
  have c3b0 : ((l0.length : Int) == (l1.length : Int)) = false := beq_eq_false_iff_ne.mpr c3
  have c3b1 : ((l0.length : Int) != (l1.length : Int)) = true := bne_iff_ne.mpr c3
  have c3b2 : (l0.length == l1.length) = false := by first | simpa using c3 | (simp at c3 ⊢; omega)
  obtain rfl := Option.some.inj H
  go_enter Tryz.func37, Tryz.ntmps37
  go_wp2
  repeat (go_quiet (fail); try go_wp2)
  go_ret
  exact ⟨by first | rfl | (simp; done) | (simp [*]; done) | exact congrArg (Value.int .i64) (by unfold wrap64; omega), by repeat (first | exact Drawn0.refl _ | apply Drawn0.step)⟩
end Go.Proofs.YtolbjmaabghghaaGreatDoor.PA
