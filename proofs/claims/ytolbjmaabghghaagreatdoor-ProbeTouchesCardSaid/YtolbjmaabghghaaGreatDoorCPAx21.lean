/- A part of the proof. -/
import Derived.Test.YtolbjmaabghghaaGreatDoorCERefT
import Derived.Test.YtolbjmaabghghaaGreatDoorCPAx0
import Derived.Test.YtolbjmaabghghaaGreatDoorCPAx17
import Derived.Test.YtolbjmaabghghaaGreatDoorCPAx19
import Derived.Test.YtolbjmaabghghaaGreatDoorCPAx20
namespace Go.Proofs.YtolbjmaabghghaaGreatDoor.PA
open Go.RowKit Go.PW Go.PL Go.PM
attribute [local go_sem] max2_int min2_int max_two min_two max_three min_three max_four min_four   -- for this text's walks alone
set_option linter.unusedVariables false
set_option maxHeartbeats 8000000
set_option maxRecDepth 100000
set_option linter.unusedSimpArgs false
def metrolabref30_Touch.j0 : Nat → Int → Bool → Int → Int → Int → Int → Int → Int → List (S92) → Int → Int → Int → Option (Int × Int × Int × Int × Int × Int × Int)
 | 0, _, _, _, _, _, _, _, _, _, _, _, _ => none
 | k + 1, x2, x26, x494000, x494001, x494002, x494003, x494004, x494005, x494006, x495000, x495001, x495002 => if x26 = true then (some (0, 0, 0, 0, 0, 0, 1)) else ((metrolabref30_Full.f k x494000 x494001 x494002 x494003 x494004 x494005 x494006 x495000 x495001 x495002).bind fun t498 => (if t498 = true then (some (0, 0, 0, 0, 0, 0, 14)) else ((metrolabref30_Touched.f k x494000 x494001 x494002 x494003 x494004 x494005 x494006 x495000 x495001 x495002 x2).bind fun bt499 => (if bt499.2.2.2.2.2.2 = true then (some (bt499.1, bt499.2.1, bt499.2.2.1, bt499.2.2.2.1, bt499.2.2.2.2.1, bt499.2.2.2.2.2.1, 0)) else (some (0, 0, 0, 0, 0, 0, 6))))))
def metrolabref30_Touch.f (k : Nat) (a0_0 : Int) (a0_1 : Int) (a0_2 : Int) (a0_3 : Int) (a0_4 : Int) (a0_5 : Int) (l0_6 : List (S92)) (a1_0 : Int) (a1_1 : Int) (a1_2 : Int) (a2 : Int) : Option (Int × Int × Int × Int × Int × Int × Int) := (metrolabref30_given.f k a0_0 a0_1 a0_2 a0_3 a0_4 a0_5 l0_6 a1_0 a1_1 a1_2).bind fun t497 => (if t497 = 0 then (if a2 < 0 then (metrolabref30_Touch.j0 k a2 true a0_0 a0_1 a0_2 a0_3 a0_4 a0_5 l0_6 a1_0 a1_1 a1_2) else (metrolabref30_Touch.j0 k a2 (decide (a2 > 5)) a0_0 a0_1 a0_2 a0_3 a0_4 a0_5 l0_6 a1_0 a1_1 a1_2)) else (some (0, 0, 0, 0, 0, 0, t497)))
theorem metrolabref30_Touch.calls (k : Nat) (a0_0 : Int) (a0_1 : Int) (a0_2 : Int) (a0_3 : Int) (a0_4 : Int) (a0_5 : Int) (A0_6 : Option Addr) (c0_6 : Nat) (l0_6 : List (S92)) (a1_0 : Int) (a1_1 : Int) (a1_2 : Int) (a2 : Int) (r1 : Int) (r2 : Int) (r3 : Int) (r4 : Int) (r5 : Int) (r6 : Int) (r7 : Int) (w : World) (hr0_6 : Kd.C k92 w A0_6 l0_6.length l0_6) (hc0_6 : l0_6.length ≤ c0_6) (h : metrolabref30_Touch.f k a0_0 a0_1 a0_2 a0_3 a0_4 a0_5 l0_6 a1_0 a1_1 a1_2 a2 = some (r1, r2, r3, r4, r5, r6, r7)) :
  Calls Tryz.prog 20 #[.agg #[.int .i64 a0_0, .int .i64 a0_1, .int .i64 a0_2, .int .i64 a0_3, .int .i64 a0_4, .int .i64 a0_5, .slice A0_6 l0_6.length c0_6], .agg #[.int .i64 a1_0, .int .i64 a1_1, .int .i64 a1_2], .int .i64 a2] w fun e w' => e = .returned (.tuple #[.agg #[.int .i64 r1, .int .i64 r2, .int .i64 r3], .agg #[.int .i64 r4, .int .i64 r5, .int .i64 r6], .int .i64 r7]) ∧ Below w.heap.size w w' := by
 have hu30 := Tryz.underlying30
 have hu23 := Tryz.underlying23
 have HR0_6 := mk0 hr0_6
 have HC0_6 := mk0 hc0_6
 clear hr0_6 hc0_6
 have HB := mk0 (Below.refl w.heap.size w)
 have H : ((metrolabref30_given.f k a0_0 a0_1 a0_2 a0_3 a0_4 a0_5 l0_6 a1_0 a1_1 a1_2).bind fun t497 => (if t497 = 0 then (if a2 < 0 then (metrolabref30_Touch.j0 k a2 true a0_0 a0_1 a0_2 a0_3 a0_4 a0_5 l0_6 a1_0 a1_1 a1_2) else (metrolabref30_Touch.j0 k a2 (decide (a2 > 5)) a0_0 a0_1 a0_2 a0_3 a0_4 a0_5 l0_6 a1_0 a1_1 a1_2)) else (some (0, 0, 0, 0, 0, 0, t497)))) = some (r1, r2, r3, r4, r5, r6, r7) := h
 clear h
 replace H := Option.bind_eq_some_iff.mp H
 obtain ⟨t497, A40, H⟩ := H
 replace H : (if t497 = 0 then (if a2 < 0 then (metrolabref30_Touch.j0 k a2 true a0_0 a0_1 a0_2 a0_3 a0_4 a0_5 l0_6 a1_0 a1_1 a1_2) else (metrolabref30_Touch.j0 k a2 (decide (a2 > 5)) a0_0 a0_1 a0_2 a0_3 a0_4 a0_5 l0_6 a1_0 a1_1 a1_2)) else (some (0, 0, 0, 0, 0, 0, t497))) = some (r1, r2, r3, r4, r5, r6, r7) := H
 have A4 := mk0 A40
 clear A40
 by_cases c5 : t497 = 0
 ·rw [if_pos c5] at H
  have c5b0 : (t497 == 0) = true := beq_iff_eq.mpr c5
  have c5b1 : (t497 != 0) = false := bne_eq_false_iff_eq.mpr c5
  clear c5
  have HC6 := mk0 H
  clear H
  go_enter Tryz.func20, Tryz.ntmps20
  go_upto_region 4 with (first | ((with_reducible refine gate_dst (N := 3) rfl ?_); refine box_event ?hg (N := 3) ?hd (cs := #[.int .i64 a0_0, .int .i64 a0_1, .int .i64 a0_2, .int .i64 a0_3, .int .i64 a0_4, .int .i64 a0_5, .slice A0_6 l0_6.length c0_6]) (t := 30) ?hr ?_; (case hd => rfl); (case hg => rfl); (case hr => first | (go_simp; done) | (go_simp; rfl)); intro gb493 hg w7 hbox hb; have n0_ := mk0 (below_step (wT HB.out) hb); have n1_ := mk0 (hbox); have n2_ := mk0 ((szT HB.out hg)); have n3_ := mk0 ((szT HB.out hg)); clear HB; have HB := n0_; have BK493 := n1_; have GW493 := n2_; have GE493 := n3_; clear n0_ n1_ n2_ n3_; clear hb hbox hg) | ((with_reducible refine gate_dst (N := 4) rfl ?_); refine box_event ?hg (N := 4) ?hd (cs := #[.int .i64 a1_0, .int .i64 a1_1, .int .i64 a1_2]) (t := 23) ?hr ?_; (case hd => rfl); (case hg => rfl); (case hr => first | (go_simp; done) | (go_simp; rfl)); intro gb494 hg w8 hbox hb; have n0_ := mk0 (bbT BK493.out hb); have n1_ := mk0 (below_step (wT HB.out) hb); have n2_ := mk0 (hbox); have n3_ := mk0 ((szT HB.out hg)); have n4_ := mk0 ((szT HB.out hg)); have n5_ := mk0 ((neL BK493.out hg)); have n6_ := mk0 ((neG BK493.out hg)); clear BK493; clear HB; have BK493 := n0_; have HB := n1_; have BK494 := n2_; have GW494 := n3_; have GE494 := n4_; have NB493_494 := n5_; have NB494_493 := n6_; clear n0_ n1_ n2_ n3_ n4_ n5_ n6_; clear hb hbox hg) | ((with_reducible refine gate_dst (N := 6) rfl ?_); refine box_event ?hg (N := 6) ?hd (cs := #[.int .i64 0, .int .i64 0, .int .i64 0]) (t := 23) ?hr ?_; (case hd => rfl); (case hg => rfl); (case hr => first | (go_simp; done) | (go_simp; rfl)); intro gb495 hg w9 hbox hb; have n0_ := mk0 (bbT BK493.out hb); have n1_ := mk0 (bbT BK494.out hb); have n2_ := mk0 (below_step (wT HB.out) hb); have n3_ := mk0 (hbox); have n4_ := mk0 ((szT HB.out hg)); have n5_ := mk0 ((szT HB.out hg)); have n6_ := mk0 ((neL BK493.out hg)); have n7_ := mk0 ((neG BK493.out hg)); have n8_ := mk0 ((neL BK494.out hg)); have n9_ := mk0 ((neG BK494.out hg)); clear BK493; clear BK494; clear HB; have BK493 := n0_; have BK494 := n1_; have HB := n2_; have BK495 := n3_; have GW495 := n4_; have GE495 := n5_; have NB493_495 := n6_; have NB495_493 := n7_; have NB494_495 := n8_; have NB495_494 := n9_; clear n0_ n1_ n2_ n3_ n4_ n5_ n6_ n7_ n8_ n9_; clear hb hbox hg) | ((with_reducible refine gate_dst (N := 7) rfl ?_); refine box_event ?hg (N := 7) ?hd (cs := #[.int .i64 0, .int .i64 0, .int .i64 0]) (t := 23) ?hr ?_; (case hd => rfl); (case hg => rfl); (case hr => first | (go_simp; done) | (go_simp; rfl)); intro gb496 hg w10 hbox hb; have n0_ := mk0 (bbT BK493.out hb); have n1_ := mk0 (bbT BK494.out hb); have n2_ := mk0 (bbT BK495.out hb); have n3_ := mk0 (below_step (wT HB.out) hb); have n4_ := mk0 (hbox); have n5_ := mk0 ((szT HB.out hg)); have n6_ := mk0 ((szT HB.out hg)); have n7_ := mk0 ((neL BK493.out hg)); have n8_ := mk0 ((neG BK493.out hg)); have n9_ := mk0 ((neL BK494.out hg)); have n10_ := mk0 ((neG BK494.out hg)); have n11_ := mk0 ((neL BK495.out hg)); have n12_ := mk0 ((neG BK495.out hg)); clear BK493; clear BK494; clear BK495; clear HB; have BK493 := n0_; have BK494 := n1_; have BK495 := n2_; have HB := n3_; have BK496 := n4_; have GW496 := n5_; have GE496 := n6_; have NB493_496 := n7_; have NB496_493 := n8_; have NB494_496 := n9_; have NB496_494 := n10_; have NB495_496 := n11_; have NB496_495 := n12_; clear n0_ n1_ n2_ n3_ n4_ n5_ n6_ n7_ n8_ n9_ n10_ n11_ n12_; clear hb hbox hg; have hnb11 := NB493_494.out; have hnc11 := NB494_493.out; have hnb12 := NB493_495.out; have hnc12 := NB495_493.out; have hnb13 := NB493_496.out; have hnc13 := NB496_493.out; have X14_0 := ct BK493.out 0; have X14_1 := ct BK493.out 1; have X14_2 := ct BK493.out 2; have X14_3 := ct BK493.out 3; have X14_4 := ct BK493.out 4; have X14_5 := ct BK493.out 5; have X14_6 := ct BK493.out 6; have Y14_0 := blk_frozen BK493.out 0; have Y14_1 := blk_frozen BK493.out 1; have Y14_2 := blk_frozen BK493.out 2; have Y14_3 := blk_frozen BK493.out 3; have Y14_4 := blk_frozen BK493.out 4; have Y14_5 := blk_frozen BK493.out 5; have Y14_6 := blk_frozen BK493.out 6; have hnb15 := NB494_495.out; have hnc15 := NB495_494.out; have hnb16 := NB494_496.out; have hnc16 := NB496_494.out; have X17_0 := ct BK494.out 0; have X17_1 := ct BK494.out 1; have X17_2 := ct BK494.out 2; have Y17_0 := blk_frozen BK494.out 0; have Y17_1 := blk_frozen BK494.out 1; have Y17_2 := blk_frozen BK494.out 2) | ((with_reducible refine gate_callee (f := 40) rfl ?_); refine goesL_ (some 15) rfl rfl Tryz.func40 (by kernel_rfl) rfl #[.agg #[.int .i64 a0_0, .int .i64 a0_1, .int .i64 a0_2, .int .i64 a0_3, .int .i64 a0_4, .int .i64 a0_5, .slice A0_6 l0_6.length c0_6], .agg #[.int .i64 a1_0, .int .i64 a1_1, .int .i64 a1_2]] rfl (by (try simp only [List.map_toArray, List.map_cons, List.map_nil]); first | done | rfl | (simp only [List.length_drop, List.length_take]; rfl)) ?_; (with_reducible refine (metrolabref30_given.calls k a0_0 a0_1 a0_2 a0_3 a0_4 a0_5 _ _ l0_6 a1_0 a1_1 a1_2 t497 _ ?side1 ?side2 A4.out).mono ?_); (case side1 => repeat (first | exact (Kd.C_below HR0_6.out HB.out) | (with_reducible refine Kd.C_alloc ?_ _) | (with_reducible refine Kd.C_drewN ?_ _) | (with_reducible refine Kd.C_drew ?_))); (case side2 => exact HC0_6.out); rintro e w18 ⟨rfl, hb⟩; refine ⟨_, rfl, ?_⟩; have n0_ := mk0 (bbT BK493.out hb); have n1_ := mk0 (bbT BK494.out hb); have n2_ := mk0 (bbT BK495.out hb); have n3_ := mk0 (bbT BK496.out hb); have n4_ := mk0 (below_step (wT HB.out) hb); clear BK493; clear BK494; clear BK495; clear BK496; clear HB; have BK493 := n0_; have BK494 := n1_; have BK495 := n2_; have BK496 := n3_; have HB := n4_; clear n0_ n1_ n2_ n3_ n4_; (try clear hb); (try clear hb2); (try clear hk); (try clear hi)))
  (try simp only [Act.put, List.setIfInBounds_toArray, List.set_cons_zero, List.set_cons_succ])
  go_cut [26] (fun v26 wc => ∃ (kq : Nat) (x26_5 : Bool), v26 = .bool x26_5 ∧ Aside0 (metrolabref30_Touch.j0 kq a2 x26_5 a0_0 a0_1 a0_2 a0_3 a0_4 a0_5 l0_6 a1_0 a1_1 a1_2 = some (r1, r2, r3, r4, r5, r6, r7)) ∧ Aside0 (kq ≤ k) ∧ Aside0 (wc.heap[gb493]? = some (.cells #[.int .i64 a0_0, .int .i64 a0_1, .int .i64 a0_2, .int .i64 a0_3, .int .i64 a0_4, .int .i64 a0_5, (.slice A0_6 l0_6.length c0_6)] 30 (0, 0))) ∧ Aside0 (wc.heap[gb494]? = some (.cells #[.int .i64 a1_0, .int .i64 a1_1, .int .i64 a1_2] 23 (0, 0))) ∧ Aside0 (wc.heap[gb495]? = some (.cells #[.int .i64 0, .int .i64 0, .int .i64 0] 23 (0, 0))) ∧ Aside0 (wc.heap[gb496]? = some (.cells #[.int .i64 0, .int .i64 0, .int .i64 0] 23 (0, 0))) ∧ Aside0 (Below w.heap.size w wc))
  case first =>
   have H := HC6.out
   clear HC6
   by_cases c19 : a2 < 0
   ·rw [if_pos c19] at H
    have c19b0 : decide (a2 < 0) = true := decide_eq_true c19
    clear c19
    (first | rw [c19b0] | (simp only [i64_w, i32_w]; rw [c19b0]) | skip)
    have H' := mk0 H
    clear H
    go_wp2
    go_meet
    case rel => exact ⟨_, (true), (by first | rfl | (simp; done) | (simp [*]; done) | exact congrArg (Value.int .i64) (by unfold wrap64; omega)), H', ⟨by first | omega | exact Nat.le_refl _⟩, ⟨bT BK493.out⟩, ⟨bT BK494.out⟩, ⟨bT BK495.out⟩, ⟨bT BK496.out⟩, ⟨wT HB.out⟩⟩
   ·rw [if_neg c19] at H
    have c19b0 : decide (a2 < 0) = false := decide_eq_false c19
    clear c19
    (first | rw [c19b0] | (simp only [i64_w, i32_w]; rw [c19b0]) | skip)
    have H' := mk0 H
    clear H
    go_wp2
    go_meet
    case rel => exact ⟨_, (decide (a2 > 5)), (by first | rfl | (simp; done) | (simp [*]; done) | exact congrArg (Value.int .i64) (by unfold wrap64; omega)), H', ⟨by first | omega | exact Nat.le_refl _⟩, ⟨bT BK493.out⟩, ⟨bT BK494.out⟩, ⟨bT BK495.out⟩, ⟨bT BK496.out⟩, ⟨wT HB.out⟩⟩
  case rest =>
   clear HC6
   try clear c1
   try clear c2
   try clear p2
   try clear c4
   try clear c5
   try clear c5b0
   try clear c5b1
   try clear p6
   try clear c11
   try clear c12
   try clear c13
   try clear c15
   try clear c16
   try clear c19
   try clear c19b0
   try clear X14_0
   try clear X14_1
   try clear X14_2
   try clear X14_3
   try clear X14_4
   try clear X14_5
   try clear X14_6
   try clear X17_0
   try clear X17_1
   try clear X17_2
   try clear Y14_0
   try clear Y14_1
   try clear Y14_2
   try clear Y14_3
   try clear Y14_4
   try clear Y14_5
   try clear Y14_6
   try clear Y17_0
   try clear Y17_1
   try clear Y17_2
   obtain ⟨kq, x26_5, rfl, HA, HJ5, BK493, BK494, BK495, BK496, HB⟩ := hcut
   cases kq with
   | zero => exact absurd HA.out (by simp [metrolabref30_Touch.j0])
   | succ kj5 =>
    have H := HA.out
    clear HA
    simp only [metrolabref30_Touch.j0] at H
    by_cases c20 : x26_5 = true
    ·subst c20
     have H1 : (some (0, 0, 0, 0, 0, 0, 1)) = some (r1, r2, r3, r4, r5, r6, r7) := by rw [if_pos rfl] at H; exact H
     clear H
     have H := H1
     clear H1
     simp only [Option.some.injEq, Prod.mk.injEq] at H
     obtain ⟨rfl, rfl, rfl, rfl, rfl, rfl, rfl⟩ := H
     have hnb21 := NB495_496.out
     have hnc21 := NB496_495.out
     have X22_0 := ct BK495.out 0
     have X22_1 := ct BK495.out 1
     have X22_2 := ct BK495.out 2
     have Y22_0 := blk_frozen BK495.out 0
     have Y22_1 := blk_frozen BK495.out 1
     have Y22_2 := blk_frozen BK495.out 2
     have X23_0 := ct BK496.out 0
     have X23_1 := ct BK496.out 1
     have X23_2 := ct BK496.out 2
     have Y23_0 := blk_frozen BK496.out 0
     have Y23_1 := blk_frozen BK496.out 1
     have Y23_2 := blk_frozen BK496.out 2
     go_wp2
     refine bodyPost_ret (results_list (rs := [.cell 6 23, .cell 7 23, .tmp 8]) rfl (by simp) (.cell gb495 23 #[.int .i64 0, .int .i64 0, .int .i64 0] (0, 0) _ rfl (by (with_reducible repeat (first | refine blk_drewN ?_ _ | refine blk_drew ?_ | refine blk_alloc ?_ _)); refine blk_far ?_ NB495_496.out _; refine blk_far ?_ NB495_496.out _; refine blk_far ?_ NB495_496.out _; refine blk_put (cs := #[.int .i64 0, .int .i64 0, .int .i64 0]) ?_ 2 _ rfl; refine blk_put (cs := #[.int .i64 0, .int .i64 0, .int .i64 0]) ?_ 1 _ rfl; refine blk_put (cs := #[.int .i64 0, .int .i64 0, .int .i64 0]) ?_ 0 _ rfl; (with_reducible repeat (first | refine blk_drewN ?_ _ | refine blk_drew ?_ | refine blk_alloc ?_ _)); exact BK495.out) Tryz.underlying23 rfl (by kernel_rfl) (.cell gb496 23 #[.int .i64 0, .int .i64 0, .int .i64 0] (0, 0) _ rfl (by (with_reducible repeat (first | refine blk_drewN ?_ _ | refine blk_drew ?_ | refine blk_alloc ?_ _)); refine blk_put (cs := #[.int .i64 0, .int .i64 0, .int .i64 0]) ?_ 2 _ rfl; refine blk_put (cs := #[.int .i64 0, .int .i64 0, .int .i64 0]) ?_ 1 _ rfl; refine blk_put (cs := #[.int .i64 0, .int .i64 0, .int .i64 0]) ?_ 0 _ rfl; refine blk_far ?_ NB496_495.out _; refine blk_far ?_ NB496_495.out _; refine blk_far ?_ NB496_495.out _; (with_reducible repeat (first | refine blk_drewN ?_ _ | refine blk_drew ?_ | refine blk_alloc ?_ _)); exact BK496.out) Tryz.underlying23 rfl (by kernel_rfl) (.tmp .nil)))) rfl ?_
     exact ⟨eqT, by repeat (first | (with_reducible first | exact HB.out | apply below_alloc | apply pw_below_drewN | apply below_drew1 | refine below_set ?_ GE495.out | refine below_set ?_ GE496.out) | exact HB.out)⟩
    ·replace c20 := Bool.eq_false_iff.mpr c20
     subst c20
     have H1 : ((metrolabref30_Full.f kj5 a0_0 a0_1 a0_2 a0_3 a0_4 a0_5 l0_6 a1_0 a1_1 a1_2).bind fun t498 => (if t498 = true then (some (0, 0, 0, 0, 0, 0, 14)) else ((metrolabref30_Touched.f kj5 a0_0 a0_1 a0_2 a0_3 a0_4 a0_5 l0_6 a1_0 a1_1 a1_2 a2).bind fun bt499 => (if bt499.2.2.2.2.2.2 = true then (some (bt499.1, bt499.2.1, bt499.2.2.1, bt499.2.2.2.1, bt499.2.2.2.2.1, bt499.2.2.2.2.2.1, 0)) else (some (0, 0, 0, 0, 0, 0, 6)))))) = some (r1, r2, r3, r4, r5, r6, r7) := by rw [if_neg (show ¬ (false = true) by decide)] at H; exact H
     clear H
     have H := H1
     clear H1
     replace H := Option.bind_eq_some_iff.mp H
     obtain ⟨t498, A240, H⟩ := H
     replace H : (if t498 = true then (some (0, 0, 0, 0, 0, 0, 14)) else ((metrolabref30_Touched.f kj5 a0_0 a0_1 a0_2 a0_3 a0_4 a0_5 l0_6 a1_0 a1_1 a1_2 a2).bind fun bt499 => (if bt499.2.2.2.2.2.2 = true then (some (bt499.1, bt499.2.1, bt499.2.2.1, bt499.2.2.2.1, bt499.2.2.2.2.1, bt499.2.2.2.2.2.1, 0)) else (some (0, 0, 0, 0, 0, 0, 6))))) = some (r1, r2, r3, r4, r5, r6, r7) := H
     have A24 := mk0 A240
     clear A240
     by_cases c25 : t498 = true
     ·subst c25
      have H1 : (some (0, 0, 0, 0, 0, 0, 14)) = some (r1, r2, r3, r4, r5, r6, r7) := by rw [if_pos rfl] at H; exact H
      clear H
      have H := H1
      clear H1
      simp only [Option.some.injEq, Prod.mk.injEq] at H
      obtain ⟨rfl, rfl, rfl, rfl, rfl, rfl, rfl⟩ := H
      have hnb26 := NB493_494.out
      have hnc26 := NB494_493.out
      have hnb27 := NB493_495.out
      have hnc27 := NB495_493.out
      have hnb28 := NB493_496.out
      have hnc28 := NB496_493.out
      have X29_0 := ct BK493.out 0
      have X29_1 := ct BK493.out 1
      have X29_2 := ct BK493.out 2
      have X29_3 := ct BK493.out 3
      have X29_4 := ct BK493.out 4
      have X29_5 := ct BK493.out 5
      have X29_6 := ct BK493.out 6
      have Y29_0 := blk_frozen BK493.out 0
      have Y29_1 := blk_frozen BK493.out 1
      have Y29_2 := blk_frozen BK493.out 2
      have Y29_3 := blk_frozen BK493.out 3
      have Y29_4 := blk_frozen BK493.out 4
      have Y29_5 := blk_frozen BK493.out 5
      have Y29_6 := blk_frozen BK493.out 6
      have hnb30 := NB494_495.out
      have hnc30 := NB495_494.out
      have hnb31 := NB494_496.out
      have hnc31 := NB496_494.out
      have X32_0 := ct BK494.out 0
      have X32_1 := ct BK494.out 1
      have X32_2 := ct BK494.out 2
      have Y32_0 := blk_frozen BK494.out 0
      have Y32_1 := blk_frozen BK494.out 1
      have Y32_2 := blk_frozen BK494.out 2
      go_wp2_with (first | ((with_reducible refine gate_callee (f := 41) rfl ?_); refine goesL_ (some 31) rfl rfl Tryz.func41 (by kernel_rfl) rfl #[.agg #[.int .i64 a0_0, .int .i64 a0_1, .int .i64 a0_2, .int .i64 a0_3, .int .i64 a0_4, .int .i64 a0_5, .slice A0_6 l0_6.length c0_6], .agg #[.int .i64 a1_0, .int .i64 a1_1, .int .i64 a1_2]] rfl (by (try simp only [List.map_toArray, List.map_cons, List.map_nil]); first | done | rfl | (simp only [List.length_drop, List.length_take]; rfl)) ?_; (with_reducible refine (metrolabref30_Full.calls kj5 a0_0 a0_1 a0_2 a0_3 a0_4 a0_5 _ _ l0_6 a1_0 a1_1 a1_2 true _ ?side1 ?side2 A24.out).mono ?_); (case side1 => repeat (first | exact (Kd.C_below HR0_6.out HB.out) | (with_reducible refine Kd.C_alloc ?_ _) | (with_reducible refine Kd.C_drewN ?_ _) | (with_reducible refine Kd.C_drew ?_))); (case side2 => exact HC0_6.out); rintro e w33 ⟨rfl, hb⟩; refine ⟨_, rfl, ?_⟩; have n0_ := mk0 (bbT BK495.out hb); have n1_ := mk0 (bbT BK496.out hb); have n2_ := mk0 (below_step (wT HB.out) hb); clear BK495; clear BK496; clear HB; have BK495 := n0_; have BK496 := n1_; have HB := n2_; clear n0_ n1_ n2_; (try clear hb); (try clear hb2); (try clear hk); (try clear hi); have hnb34 := NB495_496.out; have hnc34 := NB496_495.out; have X35_0 := ct BK495.out 0; have X35_1 := ct BK495.out 1; have X35_2 := ct BK495.out 2; have Y35_0 := blk_frozen BK495.out 0; have Y35_1 := blk_frozen BK495.out 1; have Y35_2 := blk_frozen BK495.out 2; have X36_0 := ct BK496.out 0; have X36_1 := ct BK496.out 1; have X36_2 := ct BK496.out 2; have Y36_0 := blk_frozen BK496.out 0; have Y36_1 := blk_frozen BK496.out 1; have Y36_2 := blk_frozen BK496.out 2))
      refine bodyPost_ret (results_list (rs := [.cell 6 23, .cell 7 23, .tmp 8]) rfl (by simp) (.cell gb495 23 #[.int .i64 0, .int .i64 0, .int .i64 0] (0, 0) _ rfl (by (with_reducible repeat (first | refine blk_drewN ?_ _ | refine blk_drew ?_ | refine blk_alloc ?_ _)); refine blk_far ?_ NB495_496.out _; refine blk_far ?_ NB495_496.out _; refine blk_far ?_ NB495_496.out _; refine blk_put (cs := #[.int .i64 0, .int .i64 0, .int .i64 0]) ?_ 2 _ rfl; refine blk_put (cs := #[.int .i64 0, .int .i64 0, .int .i64 0]) ?_ 1 _ rfl; refine blk_put (cs := #[.int .i64 0, .int .i64 0, .int .i64 0]) ?_ 0 _ rfl; (with_reducible repeat (first | refine blk_drewN ?_ _ | refine blk_drew ?_ | refine blk_alloc ?_ _)); exact BK495.out) Tryz.underlying23 rfl (by kernel_rfl) (.cell gb496 23 #[.int .i64 0, .int .i64 0, .int .i64 0] (0, 0) _ rfl (by (with_reducible repeat (first | refine blk_drewN ?_ _ | refine blk_drew ?_ | refine blk_alloc ?_ _)); refine blk_put (cs := #[.int .i64 0, .int .i64 0, .int .i64 0]) ?_ 2 _ rfl; refine blk_put (cs := #[.int .i64 0, .int .i64 0, .int .i64 0]) ?_ 1 _ rfl; refine blk_put (cs := #[.int .i64 0, .int .i64 0, .int .i64 0]) ?_ 0 _ rfl; refine blk_far ?_ NB496_495.out _; refine blk_far ?_ NB496_495.out _; refine blk_far ?_ NB496_495.out _; (with_reducible repeat (first | refine blk_drewN ?_ _ | refine blk_drew ?_ | refine blk_alloc ?_ _)); exact BK496.out) Tryz.underlying23 rfl (by kernel_rfl) (.tmp .nil)))) rfl ?_
      exact ⟨eqT, by repeat (first | (with_reducible first | exact HB.out | apply below_alloc | apply pw_below_drewN | apply below_drew1 | refine below_set ?_ GE495.out | refine below_set ?_ GE496.out) | exact HB.out)⟩
     ·replace c25 := Bool.eq_false_iff.mpr c25
      subst c25
      have H1 : ((metrolabref30_Touched.f kj5 a0_0 a0_1 a0_2 a0_3 a0_4 a0_5 l0_6 a1_0 a1_1 a1_2 a2).bind fun bt499 => (if bt499.2.2.2.2.2.2 = true then (some (bt499.1, bt499.2.1, bt499.2.2.1, bt499.2.2.2.1, bt499.2.2.2.2.1, bt499.2.2.2.2.2.1, 0)) else (some (0, 0, 0, 0, 0, 0, 6)))) = some (r1, r2, r3, r4, r5, r6, r7) := by rw [if_neg (show ¬ (false = true) by decide)] at H; exact H
      clear H
      have H := H1
      clear H1
      replace H := Option.bind_eq_some_iff.mp H
      obtain ⟨⟨t499, t500, t501, t502, t503, t504, t505⟩, A370, H⟩ := H
      replace H : (if t505 = true then (some (t499, t500, t501, t502, t503, t504, 0)) else (some (0, 0, 0, 0, 0, 0, 6))) = some (r1, r2, r3, r4, r5, r6, r7) := H
      have A37 := mk0 A370
      clear A370
      by_cases c38 : t505 = true
      ·subst c38
       have H1 : (some (t499, t500, t501, t502, t503, t504, 0)) = some (r1, r2, r3, r4, r5, r6, r7) := by rw [if_pos rfl] at H; exact H
       clear H
       have H := H1
       clear H1
       simp only [Option.some.injEq, Prod.mk.injEq] at H
       obtain ⟨rfl, rfl, rfl, rfl, rfl, rfl, rfl⟩ := H
       have hnb39 := NB493_494.out
       have hnc39 := NB494_493.out
       have hnb40 := NB493_495.out
       have hnc40 := NB495_493.out
       have hnb41 := NB493_496.out
       have hnc41 := NB496_493.out
       have X42_0 := ct BK493.out 0
       have X42_1 := ct BK493.out 1
       have X42_2 := ct BK493.out 2
       have X42_3 := ct BK493.out 3
       have X42_4 := ct BK493.out 4
       have X42_5 := ct BK493.out 5
       have X42_6 := ct BK493.out 6
       have Y42_0 := blk_frozen BK493.out 0
       have Y42_1 := blk_frozen BK493.out 1
       have Y42_2 := blk_frozen BK493.out 2
       have Y42_3 := blk_frozen BK493.out 3
       have Y42_4 := blk_frozen BK493.out 4
       have Y42_5 := blk_frozen BK493.out 5
       have Y42_6 := blk_frozen BK493.out 6
       have hnb43 := NB494_495.out
       have hnc43 := NB495_494.out
       have hnb44 := NB494_496.out
       have hnc44 := NB496_494.out
       have X45_0 := ct BK494.out 0
       have X45_1 := ct BK494.out 1
       have X45_2 := ct BK494.out 2
       have Y45_0 := blk_frozen BK494.out 0
       have Y45_1 := blk_frozen BK494.out 1
       have Y45_2 := blk_frozen BK494.out 2
       try go_wp2_with (first | ((with_reducible refine gate_callee (f := 41) rfl ?_); refine goesL_ (some 31) rfl rfl Tryz.func41 (by kernel_rfl) rfl #[.agg #[.int .i64 a0_0, .int .i64 a0_1, .int .i64 a0_2, .int .i64 a0_3, .int .i64 a0_4, .int .i64 a0_5, .slice A0_6 l0_6.length c0_6], .agg #[.int .i64 a1_0, .int .i64 a1_1, .int .i64 a1_2]] rfl (by (try simp only [List.map_toArray, List.map_cons, List.map_nil]); first | done | rfl | (simp only [List.length_drop, List.length_take]; rfl)) ?_; (with_reducible refine (metrolabref30_Full.calls kj5 a0_0 a0_1 a0_2 a0_3 a0_4 a0_5 _ _ l0_6 a1_0 a1_1 a1_2 false _ ?side1 ?side2 A24.out).mono ?_); (case side1 => repeat (first | exact (Kd.C_below HR0_6.out HB.out) | (with_reducible refine Kd.C_alloc ?_ _) | (with_reducible refine Kd.C_drewN ?_ _) | (with_reducible refine Kd.C_drew ?_))); (case side2 => exact HC0_6.out); rintro e w46 ⟨rfl, hb⟩; refine ⟨_, rfl, ?_⟩; have n0_ := mk0 (bbT BK493.out hb); have n1_ := mk0 (bbT BK494.out hb); have n2_ := mk0 (bbT BK495.out hb); have n3_ := mk0 (bbT BK496.out hb); have n4_ := mk0 (below_step (wT HB.out) hb); clear BK493; clear BK494; clear BK495; clear BK496; clear HB; have BK493 := n0_; have BK494 := n1_; have BK495 := n2_; have BK496 := n3_; have HB := n4_; clear n0_ n1_ n2_ n3_ n4_; (try clear hb); (try clear hb2); (try clear hk); (try clear hi); have X47_0 := ct BK493.out 0; have X47_1 := ct BK493.out 1; have X47_2 := ct BK493.out 2; have X47_3 := ct BK493.out 3; have X47_4 := ct BK493.out 4; have X47_5 := ct BK493.out 5; have X47_6 := ct BK493.out 6; have Y47_0 := blk_frozen BK493.out 0; have Y47_1 := blk_frozen BK493.out 1; have Y47_2 := blk_frozen BK493.out 2; have Y47_3 := blk_frozen BK493.out 3; have Y47_4 := blk_frozen BK493.out 4; have Y47_5 := blk_frozen BK493.out 5; have Y47_6 := blk_frozen BK493.out 6; (try clear BK493 GW493 GE493); have X48_0 := ct BK494.out 0; have X48_1 := ct BK494.out 1; have X48_2 := ct BK494.out 2; have Y48_0 := blk_frozen BK494.out 0; have Y48_1 := blk_frozen BK494.out 1; have Y48_2 := blk_frozen BK494.out 2; (try clear BK494 GW494 GE494)) | ((with_reducible refine gate_callee (f := 48) rfl ?_); refine goesL_ (some 38) rfl rfl Tryz.func48 (by kernel_rfl) rfl #[.agg #[.int .i64 a0_0, .int .i64 a0_1, .int .i64 a0_2, .int .i64 a0_3, .int .i64 a0_4, .int .i64 a0_5, .slice A0_6 l0_6.length c0_6], .agg #[.int .i64 a1_0, .int .i64 a1_1, .int .i64 a1_2], .int .i64 a2] rfl (by (try simp only [List.map_toArray, List.map_cons, List.map_nil]); first | done | rfl | (simp only [List.length_drop, List.length_take]; rfl)) ?_; (with_reducible refine (metrolabref30_Touched.calls kj5 a0_0 a0_1 a0_2 a0_3 a0_4 a0_5 _ _ l0_6 a1_0 a1_1 a1_2 a2 t499 t500 t501 t502 t503 t504 true _ ?side1 ?side2 A37.out).mono ?_); (case side1 => repeat (first | exact (Kd.C_below HR0_6.out HB.out) | (with_reducible refine Kd.C_alloc ?_ _) | (with_reducible refine Kd.C_drewN ?_ _) | (with_reducible refine Kd.C_drew ?_))); (case side2 => exact HC0_6.out); rintro e w49 ⟨rfl, hb⟩; refine ⟨_, rfl, ?_⟩; have n0_ := mk0 (bbT BK495.out hb); have n1_ := mk0 (bbT BK496.out hb); have n2_ := mk0 (below_step (wT HB.out) hb); clear BK495; clear BK496; clear HB; have BK495 := n0_; have BK496 := n1_; have HB := n2_; clear n0_ n1_ n2_; (try clear hb); (try clear hb2); (try clear hk); (try clear hi)) | ((with_reducible refine gate_dst (N := 10) rfl ?_); refine box_event ?hg (N := 10) ?hd (cs := #[.int .i64 0, .int .i64 0, .int .i64 0]) (t := 23) ?hr ?_; (case hd => rfl); (case hg => rfl); (case hr => first | (go_simp; done) | (go_simp; rfl)); intro gb506 hg w50 hbox hb; have n0_ := mk0 (bbT BK495.out hb); have n1_ := mk0 (bbT BK496.out hb); have n2_ := mk0 (below_step (wT HB.out) hb); have n3_ := mk0 (hbox); have n4_ := mk0 ((szT HB.out hg)); have n5_ := mk0 ((szT HB.out hg)); have n6_ := mk0 ((neL BK495.out hg)); have n7_ := mk0 ((neG BK495.out hg)); have n8_ := mk0 ((neL BK496.out hg)); have n9_ := mk0 ((neG BK496.out hg)); clear BK495; clear BK496; clear HB; have BK495 := n0_; have BK496 := n1_; have HB := n2_; have BK506 := n3_; have GW506 := n4_; have GE506 := n5_; have NB495_506 := n6_; have NB506_495 := n7_; have NB496_506 := n8_; have NB506_496 := n9_; clear n0_ n1_ n2_ n3_ n4_ n5_ n6_ n7_ n8_ n9_; clear hb hbox hg) | ((with_reducible refine gate_dst (N := 11) rfl ?_); refine box_event ?hg (N := 11) ?hd (cs := #[.int .i64 0, .int .i64 0, .int .i64 0]) (t := 23) ?hr ?_; (case hd => rfl); (case hg => rfl); (case hr => first | (go_simp; done) | (go_simp; rfl)); intro gb507 hg w51 hbox hb; have n0_ := mk0 (bbT BK495.out hb); have n1_ := mk0 (bbT BK496.out hb); have n2_ := mk0 (bbT BK506.out hb); have n3_ := mk0 (below_step (wT HB.out) hb); have n4_ := mk0 (hbox); have n5_ := mk0 ((szT HB.out hg)); have n6_ := mk0 ((szT HB.out hg)); have n7_ := mk0 ((neL BK495.out hg)); have n8_ := mk0 ((neG BK495.out hg)); have n9_ := mk0 ((neL BK496.out hg)); have n10_ := mk0 ((neG BK496.out hg)); have n11_ := mk0 ((neL BK506.out hg)); have n12_ := mk0 ((neG BK506.out hg)); clear BK495; clear BK496; clear BK506; clear HB; have BK495 := n0_; have BK496 := n1_; have BK506 := n2_; have HB := n3_; have BK507 := n4_; have GW507 := n5_; have GE507 := n6_; have NB495_507 := n7_; have NB507_495 := n8_; have NB496_507 := n9_; have NB507_496 := n10_; have NB506_507 := n11_; have NB507_506 := n12_; clear n0_ n1_ n2_ n3_ n4_ n5_ n6_ n7_ n8_ n9_ n10_ n11_ n12_; clear hb hbox hg; have hnb52 := NB506_495.out; have hnc52 := NB495_506.out; have hnb53 := NB506_496.out; have hnc53 := NB496_506.out; have hnb54 := NB506_507.out; have hnc54 := NB507_506.out; have X55_0 := ct BK506.out 0; have X55_1 := ct BK506.out 1; have X55_2 := ct BK506.out 2; have Y55_0 := blk_frozen BK506.out 0; have Y55_1 := blk_frozen BK506.out 1; have Y55_2 := blk_frozen BK506.out 2; have hnb56 := NB507_495.out; have hnc56 := NB495_507.out; have hnb57 := NB507_496.out; have hnc57 := NB496_507.out; have X58_0 := ct BK507.out 0; have X58_1 := ct BK507.out 1; have X58_2 := ct BK507.out 2; have Y58_0 := blk_frozen BK507.out 0; have Y58_1 := blk_frozen BK507.out 1; have Y58_2 := blk_frozen BK507.out 2))
       have n0_ : Aside0 (((((((w51.setCell ⟨gb506, 0, none⟩ (.int .i64 t499)).setCell ⟨gb506, 1, none⟩ (.int .i64 t500)).setCell ⟨gb506, 2, none⟩ (.int .i64 t501)).setCell ⟨gb507, 0, none⟩ (.int .i64 t502)).setCell ⟨gb507, 1, none⟩ (.int .i64 t503)).setCell ⟨gb507, 2, none⟩ (.int .i64 t504)).heap[gb495]? = some (.cells #[.int .i64 0, .int .i64 0, .int .i64 0] 23 (0, 0))) := ⟨by (with_reducible repeat (first | refine blk_drewN ?_ _ | refine blk_drew ?_ | refine blk_alloc ?_ _)); refine blk_far ?_ NB495_507.out _; refine blk_far ?_ NB495_507.out _; refine blk_far ?_ NB495_507.out _; refine blk_far ?_ NB495_506.out _; refine blk_far ?_ NB495_506.out _; refine blk_far ?_ NB495_506.out _; (with_reducible repeat (first | refine blk_drewN ?_ _ | refine blk_drew ?_ | refine blk_alloc ?_ _)); exact BK495.out⟩
       have n1_ : Aside0 (((((((w51.setCell ⟨gb506, 0, none⟩ (.int .i64 t499)).setCell ⟨gb506, 1, none⟩ (.int .i64 t500)).setCell ⟨gb506, 2, none⟩ (.int .i64 t501)).setCell ⟨gb507, 0, none⟩ (.int .i64 t502)).setCell ⟨gb507, 1, none⟩ (.int .i64 t503)).setCell ⟨gb507, 2, none⟩ (.int .i64 t504)).heap[gb496]? = some (.cells #[.int .i64 0, .int .i64 0, .int .i64 0] 23 (0, 0))) := ⟨by (with_reducible repeat (first | refine blk_drewN ?_ _ | refine blk_drew ?_ | refine blk_alloc ?_ _)); refine blk_far ?_ NB496_507.out _; refine blk_far ?_ NB496_507.out _; refine blk_far ?_ NB496_507.out _; refine blk_far ?_ NB496_506.out _; refine blk_far ?_ NB496_506.out _; refine blk_far ?_ NB496_506.out _; (with_reducible repeat (first | refine blk_drewN ?_ _ | refine blk_drew ?_ | refine blk_alloc ?_ _)); exact BK496.out⟩
       have n2_ : Aside0 (((((((w51.setCell ⟨gb506, 0, none⟩ (.int .i64 t499)).setCell ⟨gb506, 1, none⟩ (.int .i64 t500)).setCell ⟨gb506, 2, none⟩ (.int .i64 t501)).setCell ⟨gb507, 0, none⟩ (.int .i64 t502)).setCell ⟨gb507, 1, none⟩ (.int .i64 t503)).setCell ⟨gb507, 2, none⟩ (.int .i64 t504)).heap[gb506]? = some (.cells #[.int .i64 t499, .int .i64 t500, .int .i64 t501] 23 (0, 0))) := ⟨by (with_reducible repeat (first | refine blk_drewN ?_ _ | refine blk_drew ?_ | refine blk_alloc ?_ _)); refine blk_far ?_ NB506_507.out _; refine blk_far ?_ NB506_507.out _; refine blk_far ?_ NB506_507.out _; refine blk_put (cs := #[.int .i64 t499, .int .i64 t500, .int .i64 0]) ?_ 2 _ rfl; refine blk_put (cs := #[.int .i64 t499, .int .i64 0, .int .i64 0]) ?_ 1 _ rfl; refine blk_put (cs := #[.int .i64 0, .int .i64 0, .int .i64 0]) ?_ 0 _ rfl; (with_reducible repeat (first | refine blk_drewN ?_ _ | refine blk_drew ?_ | refine blk_alloc ?_ _)); exact BK506.out⟩
       have n3_ : Aside0 (((((((w51.setCell ⟨gb506, 0, none⟩ (.int .i64 t499)).setCell ⟨gb506, 1, none⟩ (.int .i64 t500)).setCell ⟨gb506, 2, none⟩ (.int .i64 t501)).setCell ⟨gb507, 0, none⟩ (.int .i64 t502)).setCell ⟨gb507, 1, none⟩ (.int .i64 t503)).setCell ⟨gb507, 2, none⟩ (.int .i64 t504)).heap[gb507]? = some (.cells #[.int .i64 t502, .int .i64 t503, .int .i64 t504] 23 (0, 0))) := ⟨by (with_reducible repeat (first | refine blk_drewN ?_ _ | refine blk_drew ?_ | refine blk_alloc ?_ _)); refine blk_put (cs := #[.int .i64 t502, .int .i64 t503, .int .i64 0]) ?_ 2 _ rfl; refine blk_put (cs := #[.int .i64 t502, .int .i64 0, .int .i64 0]) ?_ 1 _ rfl; refine blk_put (cs := #[.int .i64 0, .int .i64 0, .int .i64 0]) ?_ 0 _ rfl; refine blk_far ?_ NB507_506.out _; refine blk_far ?_ NB507_506.out _; refine blk_far ?_ NB507_506.out _; (with_reducible repeat (first | refine blk_drewN ?_ _ | refine blk_drew ?_ | refine blk_alloc ?_ _)); exact BK507.out⟩
       have n4_ : Aside0 (Below w.heap.size w ((((((w51.setCell ⟨gb506, 0, none⟩ (.int .i64 t499)).setCell ⟨gb506, 1, none⟩ (.int .i64 t500)).setCell ⟨gb506, 2, none⟩ (.int .i64 t501)).setCell ⟨gb507, 0, none⟩ (.int .i64 t502)).setCell ⟨gb507, 1, none⟩ (.int .i64 t503)).setCell ⟨gb507, 2, none⟩ (.int .i64 t504))) := ⟨by repeat (first | (with_reducible first | exact HB.out | apply below_alloc | apply pw_below_drewN | apply below_drew1 | refine below_set ?_ GE506.out | refine below_set ?_ GE507.out) | exact HB.out)⟩
       (try clear BK495)
       (try clear BK496)
       (try clear BK506)
       (try clear BK507)
       (try clear HB)
       generalize ((((((w51.setCell ⟨gb506, 0, none⟩ (.int .i64 t499)).setCell ⟨gb506, 1, none⟩ (.int .i64 t500)).setCell ⟨gb506, 2, none⟩ (.int .i64 t501)).setCell ⟨gb507, 0, none⟩ (.int .i64 t502)).setCell ⟨gb507, 1, none⟩ (.int .i64 t503)).setCell ⟨gb507, 2, none⟩ (.int .i64 t504)) = w59 at n0_ n1_ n2_ n3_ n4_ ⊢
       have BK495 := n0_
       have BK496 := n1_
       have BK506 := n2_
       have BK507 := n3_
       have HB := n4_
       clear n0_ n1_ n2_ n3_ n4_
       have n0_ := mk0 (blk_drew BK495.out)
       have n1_ := mk0 (blk_drew BK496.out)
       have n2_ := mk0 (blk_drew BK506.out)
       have n3_ := mk0 (blk_drew BK507.out)
       have n4_ := mk0 (below_drew1 HB.out)
       clear BK495
       clear BK496
       clear BK506
       clear BK507
       clear HB
       have BK495 := n0_
       have BK496 := n1_
       have BK506 := n2_
       have BK507 := n3_
       have HB := n4_
       clear n0_ n1_ n2_ n3_ n4_
       refine start_ (n := 5) (S := fun w' => w'.cell? ⟨gb506, 0, none⟩ = some (.int .i64 t499) ∧ w'.cell? ⟨gb506, 1, none⟩ = some (.int .i64 t500) ∧ w'.cell? ⟨gb506, 2, none⟩ = some (.int .i64 t501) ∧ w'.cell? ⟨gb507, 0, none⟩ = some (.int .i64 t502) ∧ w'.cell? ⟨gb507, 1, none⟩ = some (.int .i64 t503) ∧ w'.cell? ⟨gb507, 2, none⟩ = some (.int .i64 t504)) (ds := []) #[false, false, false, false, false] (by kernel_rfl) rfl rfl ⟨ct BK506.out 0, ct BK506.out 1, ct BK506.out 2, ct BK507.out 0, ct BK507.out 1, ct BK507.out 2⟩ (fun hHeld => ?_)
       generalize w59.drew = w60 at BK495 BK496 BK506 BK507 HB hHeld ⊢
       refine take_ (i := 0) (N := some 46) (v := ?_) (a' := ?_) #[true, false, false, false, false] rfl rfl (by kernel_rfl) (fun _ _ _ h => h) (Or.inl ⟨by rfl, ?_⟩) hHeld ?_ ?_
       rotate_left
       ·rintro w' ⟨s0, s1, s2, s3, s4, s5⟩
        go_simp
        with_reducible rfl
       rotate_left
       ·exact nrm
       refine take_ (i := 1) (N := some 47) (v := ?_) (a' := ?_) #[true, true, false, false, false] rfl rfl (by kernel_rfl) (fun _ _ _ h => h) (Or.inl ⟨by rfl, ?_⟩) hHeld ?_ ?_
       rotate_left
       ·rintro w' ⟨s0, s1, s2, s3, s4, s5⟩
        go_simp
        with_reducible rfl
       rotate_left
       ·exact nrm
       refine one_ (i := 2) (N := none) #[true, true, true, false, false] rfl rfl (by kernel_rfl) (by decide) (fun K hK => ?_)
       have hs61 := ct BK495.out 0
       have hfs61 := blk_frozen BK495.out 0
       have hns61_1 := NB496_495.out
       have hns61_2 := NB506_495.out
       have hns61_3 := NB507_495.out
       have hms61_1 := NB495_496.out
       have hms61_2 := NB495_506.out
       have hms61_3 := NB495_507.out
       have hs62 := ct BK495.out 1
       have hfs62 := blk_frozen BK495.out 1
       have hns62_1 := NB496_495.out
       have hns62_2 := NB506_495.out
       have hns62_3 := NB507_495.out
       have hms62_1 := NB495_496.out
       have hms62_2 := NB495_506.out
       have hms62_3 := NB495_507.out
       have hs63 := ct BK495.out 2
       have hfs63 := blk_frozen BK495.out 2
       have hns63_1 := NB496_495.out
       have hns63_2 := NB506_495.out
       have hns63_3 := NB507_495.out
       have hms63_1 := NB495_496.out
       have hms63_2 := NB495_506.out
       have hms63_3 := NB495_507.out
       refine skip_ (w1 := ?_) (by rfl) rfl ?_ ?_
       rotate_left
       ·go_simp
        rfl
       refine hK.out _ _ ⟨((cell_far (p := ⟨gb495, _, none⟩) NB506_495.out _).trans (((cell_far (p := ⟨gb495, _, none⟩) NB506_495.out _).trans (((cell_far (p := ⟨gb495, _, none⟩) NB506_495.out _).trans (hHeld.1)))))), ((cell_far (p := ⟨gb495, _, none⟩) NB506_495.out _).trans (((cell_far (p := ⟨gb495, _, none⟩) NB506_495.out _).trans (((cell_far (p := ⟨gb495, _, none⟩) NB506_495.out _).trans (hHeld.2.1)))))), ((cell_far (p := ⟨gb495, _, none⟩) NB506_495.out _).trans (((cell_far (p := ⟨gb495, _, none⟩) NB506_495.out _).trans (((cell_far (p := ⟨gb495, _, none⟩) NB506_495.out _).trans (hHeld.2.2.1)))))), ((cell_far (p := ⟨gb495, _, none⟩) NB507_495.out _).trans (((cell_far (p := ⟨gb495, _, none⟩) NB507_495.out _).trans (((cell_far (p := ⟨gb495, _, none⟩) NB507_495.out _).trans (hHeld.2.2.2.1)))))), ((cell_far (p := ⟨gb495, _, none⟩) NB507_495.out _).trans (((cell_far (p := ⟨gb495, _, none⟩) NB507_495.out _).trans (((cell_far (p := ⟨gb495, _, none⟩) NB507_495.out _).trans (hHeld.2.2.2.2.1)))))), ((cell_far (p := ⟨gb495, _, none⟩) NB507_495.out _).trans (((cell_far (p := ⟨gb495, _, none⟩) NB507_495.out _).trans (((cell_far (p := ⟨gb495, _, none⟩) NB507_495.out _).trans (hHeld.2.2.2.2.2))))))⟩ (fun hHeld => ?_)
       clear hK K
       refine one_ (i := 3) (N := none) #[true, true, true, true, false] rfl rfl (by kernel_rfl) (by decide) (fun K hK => ?_)
       have hs64 := ct BK496.out 0
       have hfs64 := blk_frozen BK496.out 0
       have hns64_0 := NB495_496.out
       have hns64_2 := NB506_496.out
       have hns64_3 := NB507_496.out
       have hms64_0 := NB496_495.out
       have hms64_2 := NB496_506.out
       have hms64_3 := NB496_507.out
       have hs65 := ct BK496.out 1
       have hfs65 := blk_frozen BK496.out 1
       have hns65_0 := NB495_496.out
       have hns65_2 := NB506_496.out
       have hns65_3 := NB507_496.out
       have hms65_0 := NB496_495.out
       have hms65_2 := NB496_506.out
       have hms65_3 := NB496_507.out
       have hs66 := ct BK496.out 2
       have hfs66 := blk_frozen BK496.out 2
       have hns66_0 := NB495_496.out
       have hns66_2 := NB506_496.out
       have hns66_3 := NB507_496.out
       have hms66_0 := NB496_495.out
       have hms66_2 := NB496_506.out
       have hms66_3 := NB496_507.out
       refine skip_ (w1 := ?_) (by rfl) rfl ?_ ?_
       rotate_left
       ·go_simp
        rfl
       refine hK.out _ _ ⟨((cell_far (p := ⟨gb496, _, none⟩) NB506_496.out _).trans (((cell_far (p := ⟨gb496, _, none⟩) NB506_496.out _).trans (((cell_far (p := ⟨gb496, _, none⟩) NB506_496.out _).trans (hHeld.1)))))), ((cell_far (p := ⟨gb496, _, none⟩) NB506_496.out _).trans (((cell_far (p := ⟨gb496, _, none⟩) NB506_496.out _).trans (((cell_far (p := ⟨gb496, _, none⟩) NB506_496.out _).trans (hHeld.2.1)))))), ((cell_far (p := ⟨gb496, _, none⟩) NB506_496.out _).trans (((cell_far (p := ⟨gb496, _, none⟩) NB506_496.out _).trans (((cell_far (p := ⟨gb496, _, none⟩) NB506_496.out _).trans (hHeld.2.2.1)))))), ((cell_far (p := ⟨gb496, _, none⟩) NB507_496.out _).trans (((cell_far (p := ⟨gb496, _, none⟩) NB507_496.out _).trans (((cell_far (p := ⟨gb496, _, none⟩) NB507_496.out _).trans (hHeld.2.2.2.1)))))), ((cell_far (p := ⟨gb496, _, none⟩) NB507_496.out _).trans (((cell_far (p := ⟨gb496, _, none⟩) NB507_496.out _).trans (((cell_far (p := ⟨gb496, _, none⟩) NB507_496.out _).trans (hHeld.2.2.2.2.1)))))), ((cell_far (p := ⟨gb496, _, none⟩) NB507_496.out _).trans (((cell_far (p := ⟨gb496, _, none⟩) NB507_496.out _).trans (((cell_far (p := ⟨gb496, _, none⟩) NB507_496.out _).trans (hHeld.2.2.2.2.2))))))⟩ (fun hHeld => ?_)
       clear hK K
       refine pure_ (i := 4) (N := some 8) (v := ?_) (a' := ?_) #[true, true, true, true, true] rfl rfl (by kernel_rfl) (fun _ _ _ h => h) (Or.inl ⟨by rfl, ?_⟩) ?_ ?_
       rotate_left
       ·intro w'
        go_simp
        with_reducible rfl
       rotate_left
       ·exact nrm
       refine done_ (by kernel_rfl) ?_
       try go_wp2
       refine bodyPost_ret (results_list (rs := [.cell 6 23, .cell 7 23, .tmp 8]) rfl (by simp) (.cell gb495 23 #[.int .i64 t499, .int .i64 t500, .int .i64 t501] (0, 0) _ rfl (by (with_reducible repeat (first | refine blk_drewN ?_ _ | refine blk_drew ?_ | refine blk_alloc ?_ _)); refine blk_far ?_ NB495_496.out _; refine blk_far ?_ NB495_496.out _; refine blk_far ?_ NB495_496.out _; refine blk_put (cs := #[.int .i64 t499, .int .i64 t500, .int .i64 0]) ?_ 2 _ rfl; refine blk_put (cs := #[.int .i64 t499, .int .i64 0, .int .i64 0]) ?_ 1 _ rfl; refine blk_put (cs := #[.int .i64 0, .int .i64 0, .int .i64 0]) ?_ 0 _ rfl; (with_reducible repeat (first | refine blk_drewN ?_ _ | refine blk_drew ?_ | refine blk_alloc ?_ _)); exact BK495.out) Tryz.underlying23 rfl (by kernel_rfl) (.cell gb496 23 #[.int .i64 t502, .int .i64 t503, .int .i64 t504] (0, 0) _ rfl (by (with_reducible repeat (first | refine blk_drewN ?_ _ | refine blk_drew ?_ | refine blk_alloc ?_ _)); refine blk_put (cs := #[.int .i64 t502, .int .i64 t503, .int .i64 0]) ?_ 2 _ rfl; refine blk_put (cs := #[.int .i64 t502, .int .i64 0, .int .i64 0]) ?_ 1 _ rfl; refine blk_put (cs := #[.int .i64 0, .int .i64 0, .int .i64 0]) ?_ 0 _ rfl; refine blk_far ?_ NB496_495.out _; refine blk_far ?_ NB496_495.out _; refine blk_far ?_ NB496_495.out _; (with_reducible repeat (first | refine blk_drewN ?_ _ | refine blk_drew ?_ | refine blk_alloc ?_ _)); exact BK496.out) Tryz.underlying23 rfl (by kernel_rfl) (.tmp .nil)))) rfl ?_
       exact ⟨eqT, by repeat (first | (with_reducible first | exact HB.out | apply below_alloc | apply pw_below_drewN | apply below_drew1 | refine below_set ?_ GE495.out | refine below_set ?_ GE496.out) | exact HB.out)⟩
      ·replace c38 := Bool.eq_false_iff.mpr c38
       subst c38
       have H1 : (some (0, 0, 0, 0, 0, 0, 6)) = some (r1, r2, r3, r4, r5, r6, r7) := by rw [if_neg (show ¬ (false = true) by decide)] at H; exact H
       clear H
       have H := H1
       clear H1
       simp only [Option.some.injEq, Prod.mk.injEq] at H
       obtain ⟨rfl, rfl, rfl, rfl, rfl, rfl, rfl⟩ := H
       have hnb67 := NB493_494.out
       have hnc67 := NB494_493.out
       have hnb68 := NB493_495.out
       have hnc68 := NB495_493.out
       have hnb69 := NB493_496.out
       have hnc69 := NB496_493.out
       have X70_0 := ct BK493.out 0
       have X70_1 := ct BK493.out 1
       have X70_2 := ct BK493.out 2
       have X70_3 := ct BK493.out 3
       have X70_4 := ct BK493.out 4
       have X70_5 := ct BK493.out 5
       have X70_6 := ct BK493.out 6
       have Y70_0 := blk_frozen BK493.out 0
       have Y70_1 := blk_frozen BK493.out 1
       have Y70_2 := blk_frozen BK493.out 2
       have Y70_3 := blk_frozen BK493.out 3
       have Y70_4 := blk_frozen BK493.out 4
       have Y70_5 := blk_frozen BK493.out 5
       have Y70_6 := blk_frozen BK493.out 6
       have hnb71 := NB494_495.out
       have hnc71 := NB495_494.out
       have hnb72 := NB494_496.out
       have hnc72 := NB496_494.out
       have X73_0 := ct BK494.out 0
       have X73_1 := ct BK494.out 1
       have X73_2 := ct BK494.out 2
       have Y73_0 := blk_frozen BK494.out 0
       have Y73_1 := blk_frozen BK494.out 1
       have Y73_2 := blk_frozen BK494.out 2
       go_wp2_with (first | ((with_reducible refine gate_callee (f := 41) rfl ?_); refine goesL_ (some 31) rfl rfl Tryz.func41 (by kernel_rfl) rfl #[.agg #[.int .i64 a0_0, .int .i64 a0_1, .int .i64 a0_2, .int .i64 a0_3, .int .i64 a0_4, .int .i64 a0_5, .slice A0_6 l0_6.length c0_6], .agg #[.int .i64 a1_0, .int .i64 a1_1, .int .i64 a1_2]] rfl (by (try simp only [List.map_toArray, List.map_cons, List.map_nil]); first | done | rfl | (simp only [List.length_drop, List.length_take]; rfl)) ?_; (with_reducible refine (metrolabref30_Full.calls kj5 a0_0 a0_1 a0_2 a0_3 a0_4 a0_5 _ _ l0_6 a1_0 a1_1 a1_2 false _ ?side1 ?side2 A24.out).mono ?_); (case side1 => repeat (first | exact (Kd.C_below HR0_6.out HB.out) | (with_reducible refine Kd.C_alloc ?_ _) | (with_reducible refine Kd.C_drewN ?_ _) | (with_reducible refine Kd.C_drew ?_))); (case side2 => exact HC0_6.out); rintro e w74 ⟨rfl, hb⟩; refine ⟨_, rfl, ?_⟩; have n0_ := mk0 (bbT BK493.out hb); have n1_ := mk0 (bbT BK494.out hb); have n2_ := mk0 (bbT BK495.out hb); have n3_ := mk0 (bbT BK496.out hb); have n4_ := mk0 (below_step (wT HB.out) hb); clear BK493; clear BK494; clear BK495; clear BK496; clear HB; have BK493 := n0_; have BK494 := n1_; have BK495 := n2_; have BK496 := n3_; have HB := n4_; clear n0_ n1_ n2_ n3_ n4_; (try clear hb); (try clear hb2); (try clear hk); (try clear hi); have X75_0 := ct BK493.out 0; have X75_1 := ct BK493.out 1; have X75_2 := ct BK493.out 2; have X75_3 := ct BK493.out 3; have X75_4 := ct BK493.out 4; have X75_5 := ct BK493.out 5; have X75_6 := ct BK493.out 6; have Y75_0 := blk_frozen BK493.out 0; have Y75_1 := blk_frozen BK493.out 1; have Y75_2 := blk_frozen BK493.out 2; have Y75_3 := blk_frozen BK493.out 3; have Y75_4 := blk_frozen BK493.out 4; have Y75_5 := blk_frozen BK493.out 5; have Y75_6 := blk_frozen BK493.out 6; (try clear BK493 GW493 GE493); have X76_0 := ct BK494.out 0; have X76_1 := ct BK494.out 1; have X76_2 := ct BK494.out 2; have Y76_0 := blk_frozen BK494.out 0; have Y76_1 := blk_frozen BK494.out 1; have Y76_2 := blk_frozen BK494.out 2; (try clear BK494 GW494 GE494)) | ((with_reducible refine gate_callee (f := 48) rfl ?_); refine goesL_ (some 38) rfl rfl Tryz.func48 (by kernel_rfl) rfl #[.agg #[.int .i64 a0_0, .int .i64 a0_1, .int .i64 a0_2, .int .i64 a0_3, .int .i64 a0_4, .int .i64 a0_5, .slice A0_6 l0_6.length c0_6], .agg #[.int .i64 a1_0, .int .i64 a1_1, .int .i64 a1_2], .int .i64 a2] rfl (by (try simp only [List.map_toArray, List.map_cons, List.map_nil]); first | done | rfl | (simp only [List.length_drop, List.length_take]; rfl)) ?_; (with_reducible refine (metrolabref30_Touched.calls kj5 a0_0 a0_1 a0_2 a0_3 a0_4 a0_5 _ _ l0_6 a1_0 a1_1 a1_2 a2 t499 t500 t501 t502 t503 t504 false _ ?side1 ?side2 A37.out).mono ?_); (case side1 => repeat (first | exact (Kd.C_below HR0_6.out HB.out) | (with_reducible refine Kd.C_alloc ?_ _) | (with_reducible refine Kd.C_drewN ?_ _) | (with_reducible refine Kd.C_drew ?_))); (case side2 => exact HC0_6.out); rintro e w77 ⟨rfl, hb⟩; refine ⟨_, rfl, ?_⟩; have n0_ := mk0 (bbT BK495.out hb); have n1_ := mk0 (bbT BK496.out hb); have n2_ := mk0 (below_step (wT HB.out) hb); clear BK495; clear BK496; clear HB; have BK495 := n0_; have BK496 := n1_; have HB := n2_; clear n0_ n1_ n2_; (try clear hb); (try clear hb2); (try clear hk); (try clear hi)) | ((with_reducible refine gate_dst (N := 10) rfl ?_); refine box_event ?hg (N := 10) ?hd (cs := #[.int .i64 0, .int .i64 0, .int .i64 0]) (t := 23) ?hr ?_; (case hd => rfl); (case hg => rfl); (case hr => first | (go_simp; done) | (go_simp; rfl)); intro gb506 hg w78 hbox hb; have n0_ := mk0 (bbT BK495.out hb); have n1_ := mk0 (bbT BK496.out hb); have n2_ := mk0 (below_step (wT HB.out) hb); have n3_ := mk0 (hbox); have n4_ := mk0 ((szT HB.out hg)); have n5_ := mk0 ((szT HB.out hg)); have n6_ := mk0 ((neL BK495.out hg)); have n7_ := mk0 ((neG BK495.out hg)); have n8_ := mk0 ((neL BK496.out hg)); have n9_ := mk0 ((neG BK496.out hg)); clear BK495; clear BK496; clear HB; have BK495 := n0_; have BK496 := n1_; have HB := n2_; have BK506 := n3_; have GW506 := n4_; have GE506 := n5_; have NB495_506 := n6_; have NB506_495 := n7_; have NB496_506 := n8_; have NB506_496 := n9_; clear n0_ n1_ n2_ n3_ n4_ n5_ n6_ n7_ n8_ n9_; clear hb hbox hg) | ((with_reducible refine gate_dst (N := 11) rfl ?_); refine box_event ?hg (N := 11) ?hd (cs := #[.int .i64 0, .int .i64 0, .int .i64 0]) (t := 23) ?hr ?_; (case hd => rfl); (case hg => rfl); (case hr => first | (go_simp; done) | (go_simp; rfl)); intro gb507 hg w79 hbox hb; have n0_ := mk0 (bbT BK495.out hb); have n1_ := mk0 (bbT BK496.out hb); have n2_ := mk0 (bbT BK506.out hb); have n3_ := mk0 (below_step (wT HB.out) hb); have n4_ := mk0 (hbox); have n5_ := mk0 ((szT HB.out hg)); have n6_ := mk0 ((szT HB.out hg)); have n7_ := mk0 ((neL BK495.out hg)); have n8_ := mk0 ((neG BK495.out hg)); have n9_ := mk0 ((neL BK496.out hg)); have n10_ := mk0 ((neG BK496.out hg)); have n11_ := mk0 ((neL BK506.out hg)); have n12_ := mk0 ((neG BK506.out hg)); clear BK495; clear BK496; clear BK506; clear HB; have BK495 := n0_; have BK496 := n1_; have BK506 := n2_; have HB := n3_; have BK507 := n4_; have GW507 := n5_; have GE507 := n6_; have NB495_507 := n7_; have NB507_495 := n8_; have NB496_507 := n9_; have NB507_496 := n10_; have NB506_507 := n11_; have NB507_506 := n12_; clear n0_ n1_ n2_ n3_ n4_ n5_ n6_ n7_ n8_ n9_ n10_ n11_ n12_; clear hb hbox hg; have hnb80 := NB506_495.out; have hnc80 := NB495_506.out; have hnb81 := NB506_496.out; have hnc81 := NB496_506.out; have hnb82 := NB506_507.out; have hnc82 := NB507_506.out; have X83_0 := ct BK506.out 0; have X83_1 := ct BK506.out 1; have X83_2 := ct BK506.out 2; have Y83_0 := blk_frozen BK506.out 0; have Y83_1 := blk_frozen BK506.out 1; have Y83_2 := blk_frozen BK506.out 2; have hnb84 := NB507_495.out; have hnc84 := NB495_507.out; have hnb85 := NB507_496.out; have hnc85 := NB496_507.out; have X86_0 := ct BK507.out 0; have X86_1 := ct BK507.out 1; have X86_2 := ct BK507.out 2; have Y86_0 := blk_frozen BK507.out 0; have Y86_1 := blk_frozen BK507.out 1; have Y86_2 := blk_frozen BK507.out 2; have hnb87 := NB495_496.out; have hnc87 := NB496_495.out; have X88_0 := ct BK495.out 0; have X88_1 := ct BK495.out 1; have X88_2 := ct BK495.out 2; have Y88_0 := blk_frozen BK495.out 0; have Y88_1 := blk_frozen BK495.out 1; have Y88_2 := blk_frozen BK495.out 2; have X89_0 := ct BK496.out 0; have X89_1 := ct BK496.out 1; have X89_2 := ct BK496.out 2; have Y89_0 := blk_frozen BK496.out 0; have Y89_1 := blk_frozen BK496.out 1; have Y89_2 := blk_frozen BK496.out 2))
       refine bodyPost_ret (results_list (rs := [.cell 6 23, .cell 7 23, .tmp 8]) rfl (by simp) (.cell gb495 23 #[.int .i64 0, .int .i64 0, .int .i64 0] (0, 0) _ rfl (by (with_reducible repeat (first | refine blk_drewN ?_ _ | refine blk_drew ?_ | refine blk_alloc ?_ _)); refine blk_far ?_ NB495_496.out _; refine blk_far ?_ NB495_496.out _; refine blk_far ?_ NB495_496.out _; refine blk_put (cs := #[.int .i64 0, .int .i64 0, .int .i64 0]) ?_ 2 _ rfl; refine blk_put (cs := #[.int .i64 0, .int .i64 0, .int .i64 0]) ?_ 1 _ rfl; refine blk_put (cs := #[.int .i64 0, .int .i64 0, .int .i64 0]) ?_ 0 _ rfl; refine blk_far ?_ NB495_507.out _; refine blk_far ?_ NB495_507.out _; refine blk_far ?_ NB495_507.out _; refine blk_far ?_ NB495_506.out _; refine blk_far ?_ NB495_506.out _; refine blk_far ?_ NB495_506.out _; (with_reducible repeat (first | refine blk_drewN ?_ _ | refine blk_drew ?_ | refine blk_alloc ?_ _)); exact BK495.out) Tryz.underlying23 rfl (by kernel_rfl) (.cell gb496 23 #[.int .i64 0, .int .i64 0, .int .i64 0] (0, 0) _ rfl (by (with_reducible repeat (first | refine blk_drewN ?_ _ | refine blk_drew ?_ | refine blk_alloc ?_ _)); refine blk_put (cs := #[.int .i64 0, .int .i64 0, .int .i64 0]) ?_ 2 _ rfl; refine blk_put (cs := #[.int .i64 0, .int .i64 0, .int .i64 0]) ?_ 1 _ rfl; refine blk_put (cs := #[.int .i64 0, .int .i64 0, .int .i64 0]) ?_ 0 _ rfl; refine blk_far ?_ NB496_495.out _; refine blk_far ?_ NB496_495.out _; refine blk_far ?_ NB496_495.out _; refine blk_far ?_ NB496_507.out _; refine blk_far ?_ NB496_507.out _; refine blk_far ?_ NB496_507.out _; refine blk_far ?_ NB496_506.out _; refine blk_far ?_ NB496_506.out _; refine blk_far ?_ NB496_506.out _; (with_reducible repeat (first | refine blk_drewN ?_ _ | refine blk_drew ?_ | refine blk_alloc ?_ _)); exact BK496.out) Tryz.underlying23 rfl (by kernel_rfl) (.tmp .nil)))) rfl ?_
       exact ⟨eqT, by repeat (first | (with_reducible first | exact HB.out | apply below_alloc | apply pw_below_drewN | apply below_drew1 | refine below_set ?_ GE495.out | refine below_set ?_ GE496.out | refine below_set ?_ GE506.out | refine below_set ?_ GE507.out) | exact HB.out)⟩
 ·rw [if_neg c5] at H
  have c5b0 : (t497 == 0) = false := beq_eq_false_iff_ne.mpr c5
  have c5b1 : (t497 != 0) = true := bne_iff_ne.mpr c5
  simp only [Option.some.injEq, Prod.mk.injEq] at H
  obtain ⟨rfl, rfl, rfl, rfl, rfl, rfl, rfl⟩ := H
  go_enter Tryz.func20, Tryz.ntmps20
  go_wp2_with (first | ((with_reducible refine gate_dst (N := 3) rfl ?_); refine box_event ?hg (N := 3) ?hd (cs := #[.int .i64 a0_0, .int .i64 a0_1, .int .i64 a0_2, .int .i64 a0_3, .int .i64 a0_4, .int .i64 a0_5, .slice A0_6 l0_6.length c0_6]) (t := 30) ?hr ?_; (case hd => rfl); (case hg => rfl); (case hr => first | (go_simp; done) | (go_simp; rfl)); intro gb493 hg w90 hbox hb; have n0_ := mk0 (below_step (wT HB.out) hb); have n1_ := mk0 (hbox); have n2_ := mk0 ((szT HB.out hg)); have n3_ := mk0 ((szT HB.out hg)); clear HB; have HB := n0_; have BK493 := n1_; have GW493 := n2_; have GE493 := n3_; clear n0_ n1_ n2_ n3_; clear hb hbox hg) | ((with_reducible refine gate_dst (N := 4) rfl ?_); refine box_event ?hg (N := 4) ?hd (cs := #[.int .i64 a1_0, .int .i64 a1_1, .int .i64 a1_2]) (t := 23) ?hr ?_; (case hd => rfl); (case hg => rfl); (case hr => first | (go_simp; done) | (go_simp; rfl)); intro gb494 hg w91 hbox hb; have n0_ := mk0 (bbT BK493.out hb); have n1_ := mk0 (below_step (wT HB.out) hb); have n2_ := mk0 (hbox); have n3_ := mk0 ((szT HB.out hg)); have n4_ := mk0 ((szT HB.out hg)); have n5_ := mk0 ((neL BK493.out hg)); have n6_ := mk0 ((neG BK493.out hg)); clear BK493; clear HB; have BK493 := n0_; have HB := n1_; have BK494 := n2_; have GW494 := n3_; have GE494 := n4_; have NB493_494 := n5_; have NB494_493 := n6_; clear n0_ n1_ n2_ n3_ n4_ n5_ n6_; clear hb hbox hg) | ((with_reducible refine gate_dst (N := 6) rfl ?_); refine box_event ?hg (N := 6) ?hd (cs := #[.int .i64 0, .int .i64 0, .int .i64 0]) (t := 23) ?hr ?_; (case hd => rfl); (case hg => rfl); (case hr => first | (go_simp; done) | (go_simp; rfl)); intro gb495 hg w92 hbox hb; have n0_ := mk0 (bbT BK493.out hb); have n1_ := mk0 (bbT BK494.out hb); have n2_ := mk0 (below_step (wT HB.out) hb); have n3_ := mk0 (hbox); have n4_ := mk0 ((szT HB.out hg)); have n5_ := mk0 ((szT HB.out hg)); have n6_ := mk0 ((neL BK493.out hg)); have n7_ := mk0 ((neG BK493.out hg)); have n8_ := mk0 ((neL BK494.out hg)); have n9_ := mk0 ((neG BK494.out hg)); clear BK493; clear BK494; clear HB; have BK493 := n0_; have BK494 := n1_; have HB := n2_; have BK495 := n3_; have GW495 := n4_; have GE495 := n5_; have NB493_495 := n6_; have NB495_493 := n7_; have NB494_495 := n8_; have NB495_494 := n9_; clear n0_ n1_ n2_ n3_ n4_ n5_ n6_ n7_ n8_ n9_; clear hb hbox hg) | ((with_reducible refine gate_dst (N := 7) rfl ?_); refine box_event ?hg (N := 7) ?hd (cs := #[.int .i64 0, .int .i64 0, .int .i64 0]) (t := 23) ?hr ?_; (case hd => rfl); (case hg => rfl); (case hr => first | (go_simp; done) | (go_simp; rfl)); intro gb496 hg w93 hbox hb; have n0_ := mk0 (bbT BK493.out hb); have n1_ := mk0 (bbT BK494.out hb); have n2_ := mk0 (bbT BK495.out hb); have n3_ := mk0 (below_step (wT HB.out) hb); have n4_ := mk0 (hbox); have n5_ := mk0 ((szT HB.out hg)); have n6_ := mk0 ((szT HB.out hg)); have n7_ := mk0 ((neL BK493.out hg)); have n8_ := mk0 ((neG BK493.out hg)); have n9_ := mk0 ((neL BK494.out hg)); have n10_ := mk0 ((neG BK494.out hg)); have n11_ := mk0 ((neL BK495.out hg)); have n12_ := mk0 ((neG BK495.out hg)); clear BK493; clear BK494; clear BK495; clear HB; have BK493 := n0_; have BK494 := n1_; have BK495 := n2_; have HB := n3_; have BK496 := n4_; have GW496 := n5_; have GE496 := n6_; have NB493_496 := n7_; have NB496_493 := n8_; have NB494_496 := n9_; have NB496_494 := n10_; have NB495_496 := n11_; have NB496_495 := n12_; clear n0_ n1_ n2_ n3_ n4_ n5_ n6_ n7_ n8_ n9_ n10_ n11_ n12_; clear hb hbox hg; have hnb94 := NB493_494.out; have hnc94 := NB494_493.out; have hnb95 := NB493_495.out; have hnc95 := NB495_493.out; have hnb96 := NB493_496.out; have hnc96 := NB496_493.out; have X97_0 := ct BK493.out 0; have X97_1 := ct BK493.out 1; have X97_2 := ct BK493.out 2; have X97_3 := ct BK493.out 3; have X97_4 := ct BK493.out 4; have X97_5 := ct BK493.out 5; have X97_6 := ct BK493.out 6; have Y97_0 := blk_frozen BK493.out 0; have Y97_1 := blk_frozen BK493.out 1; have Y97_2 := blk_frozen BK493.out 2; have Y97_3 := blk_frozen BK493.out 3; have Y97_4 := blk_frozen BK493.out 4; have Y97_5 := blk_frozen BK493.out 5; have Y97_6 := blk_frozen BK493.out 6; (try clear BK493 GW493 GE493); have hnb98 := NB494_495.out; have hnc98 := NB495_494.out; have hnb99 := NB494_496.out; have hnc99 := NB496_494.out; have X100_0 := ct BK494.out 0; have X100_1 := ct BK494.out 1; have X100_2 := ct BK494.out 2; have Y100_0 := blk_frozen BK494.out 0; have Y100_1 := blk_frozen BK494.out 1; have Y100_2 := blk_frozen BK494.out 2; (try clear BK494 GW494 GE494)) | ((with_reducible refine gate_callee (f := 40) rfl ?_); refine goesL_ (some 15) rfl rfl Tryz.func40 (by kernel_rfl) rfl #[.agg #[.int .i64 a0_0, .int .i64 a0_1, .int .i64 a0_2, .int .i64 a0_3, .int .i64 a0_4, .int .i64 a0_5, .slice A0_6 l0_6.length c0_6], .agg #[.int .i64 a1_0, .int .i64 a1_1, .int .i64 a1_2]] rfl (by (try simp only [List.map_toArray, List.map_cons, List.map_nil]); first | done | rfl | (simp only [List.length_drop, List.length_take]; rfl)) ?_; (with_reducible refine (metrolabref30_given.calls k a0_0 a0_1 a0_2 a0_3 a0_4 a0_5 _ _ l0_6 a1_0 a1_1 a1_2 t497 _ ?side1 ?side2 A4.out).mono ?_); (case side1 => repeat (first | exact (Kd.C_below HR0_6.out HB.out) | (with_reducible refine Kd.C_alloc ?_ _) | (with_reducible refine Kd.C_drewN ?_ _) | (with_reducible refine Kd.C_drew ?_))); (case side2 => exact HC0_6.out); rintro e w101 ⟨rfl, hb⟩; refine ⟨_, rfl, ?_⟩; have n0_ := mk0 (bbT BK495.out hb); have n1_ := mk0 (bbT BK496.out hb); have n2_ := mk0 (below_step (wT HB.out) hb); clear BK495; clear BK496; clear HB; have BK495 := n0_; have BK496 := n1_; have HB := n2_; clear n0_ n1_ n2_; (try clear hb); (try clear hb2); (try clear hk); (try clear hi); have hnb102 := NB495_496.out; have hnc102 := NB496_495.out; have X103_0 := ct BK495.out 0; have X103_1 := ct BK495.out 1; have X103_2 := ct BK495.out 2; have Y103_0 := blk_frozen BK495.out 0; have Y103_1 := blk_frozen BK495.out 1; have Y103_2 := blk_frozen BK495.out 2; have X104_0 := ct BK496.out 0; have X104_1 := ct BK496.out 1; have X104_2 := ct BK496.out 2; have Y104_0 := blk_frozen BK496.out 0; have Y104_1 := blk_frozen BK496.out 1; have Y104_2 := blk_frozen BK496.out 2))
  refine bodyPost_ret (results_list (rs := [.cell 6 23, .cell 7 23, .tmp 8]) rfl (by simp) (.cell gb495 23 #[.int .i64 0, .int .i64 0, .int .i64 0] (0, 0) _ rfl (by (with_reducible repeat (first | refine blk_drewN ?_ _ | refine blk_drew ?_ | refine blk_alloc ?_ _)); refine blk_far ?_ NB495_496.out _; refine blk_far ?_ NB495_496.out _; refine blk_far ?_ NB495_496.out _; refine blk_put (cs := #[.int .i64 0, .int .i64 0, .int .i64 0]) ?_ 2 _ rfl; refine blk_put (cs := #[.int .i64 0, .int .i64 0, .int .i64 0]) ?_ 1 _ rfl; refine blk_put (cs := #[.int .i64 0, .int .i64 0, .int .i64 0]) ?_ 0 _ rfl; (with_reducible repeat (first | refine blk_drewN ?_ _ | refine blk_drew ?_ | refine blk_alloc ?_ _)); exact BK495.out) Tryz.underlying23 rfl (by kernel_rfl) (.cell gb496 23 #[.int .i64 0, .int .i64 0, .int .i64 0] (0, 0) _ rfl (by (with_reducible repeat (first | refine blk_drewN ?_ _ | refine blk_drew ?_ | refine blk_alloc ?_ _)); refine blk_put (cs := #[.int .i64 0, .int .i64 0, .int .i64 0]) ?_ 2 _ rfl; refine blk_put (cs := #[.int .i64 0, .int .i64 0, .int .i64 0]) ?_ 1 _ rfl; refine blk_put (cs := #[.int .i64 0, .int .i64 0, .int .i64 0]) ?_ 0 _ rfl; refine blk_far ?_ NB496_495.out _; refine blk_far ?_ NB496_495.out _; refine blk_far ?_ NB496_495.out _; (with_reducible repeat (first | refine blk_drewN ?_ _ | refine blk_drew ?_ | refine blk_alloc ?_ _)); exact BK496.out) Tryz.underlying23 rfl (by kernel_rfl) (.tmp .nil)))) rfl ?_
  exact ⟨eqT, by repeat (first | (with_reducible first | exact HB.out | apply below_alloc | apply pw_below_drewN | apply below_drew1 | refine below_set ?_ GE495.out | refine below_set ?_ GE496.out) | exact HB.out)⟩
end Go.Proofs.YtolbjmaabghghaaGreatDoor.PA
