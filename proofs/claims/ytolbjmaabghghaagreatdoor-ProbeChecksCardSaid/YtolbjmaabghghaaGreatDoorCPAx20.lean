/- A part of the proof. -/
import Derived.Test.YtolbjmaabghghaaGreatDoorCPAx0
import Derived.Test.YtolbjmaabghghaaGreatDoorCPAx3
import Derived.Test.YtolbjmaabghghaaGreatDoorCPAx4
import Derived.Test.YtolbjmaabghghaaGreatDoorCPAx6
import Derived.Test.YtolbjmaabghghaaGreatDoorCPAx16
import Derived.Test.YtolbjmaabghghaaGreatDoorCPAx18
import Derived.Test.YtolbjmaabghghaaGreatDoorCPAx19
namespace Go.Proofs.YtolbjmaabghghaaGreatDoor.PA
open Go.RowKit Go.PW Go.PL Go.PM
attribute [local go_sem] max2_int min2_int max_two min_two max_three min_three max_four min_four   -- for this text's walks alone
set_option linter.unusedVariables false
set_option maxHeartbeats 8000000
set_option maxRecDepth 100000
set_option linter.unusedSimpArgs false
def metrolablaw30_ProbeChecks.f (k : Nat) (a0_0 : Int) (a0_1 : Int) (a0_2 : Int) (a0_3 : Int) (a0_4 : Int) (a0_5 : Int) (l0_6 : List (S84)) (a1_0 : Int) (a1_1 : Int) (a1_2 : Int) : Option (Bool) := (metrolablaw30_own.f k a0_0 a0_1 a0_2 a0_3 a0_4 a0_5 l0_6).bind fun bt440 => ((metrolabref30_Few.f bt440.1 bt440.2.1 bt440.2.2.1 bt440.2.2.2.1 bt440.2.2.2.2.1 bt440.2.2.2.2.2.1 bt440.2.2.2.2.2.2).bind fun t449 => (if t449 = true then ((probe_Material.f k a0_0 a0_1 a0_2 a0_3 a0_4 a0_5 l0_6 a1_0 a1_1 a1_2).bind fun bt451 => ((metrolablaw30_own.f k a0_0 a0_1 a0_2 a0_3 a0_4 a0_5 l0_6).bind fun bt453 => ((metrolabref30_Material.f k bt453.1 bt453.2.1 bt453.2.2.1 bt453.2.2.2.1 bt453.2.2.2.2.1 bt453.2.2.2.2.2.1 bt453.2.2.2.2.2.2 a1_0 a1_1 a1_2).bind fun bt462 => ((probe_Check.f k a0_0 a0_1 a0_2 a0_3 a0_4 a0_5 l0_6).bind fun t464 => ((metrolablaw30_own.f k a0_0 a0_1 a0_2 a0_3 a0_4 a0_5 l0_6).bind fun bt465 => ((metrolabref30_Check.f k bt465.1 bt465.2.1 bt465.2.2.1 bt465.2.2.2.1 bt465.2.2.2.2.1 bt465.2.2.2.2.2.1 bt465.2.2.2.2.2.2).bind fun t474 => (if t464 = t474 then (if (bt451.1 == bt462.1) = true then (if bt451.2 = bt462.2 then ((metrolablaw30_awake.f k).bind fun t475 => (some t475)) else (none)) else (none)) else (none)))))))) else ((metrolablaw30_awake.f k).bind fun t450 => (some t450))))
def metrolablaw30_ProbeChecks.T4 : Bool × List (List Nat × List Nat) := (true, [([], []), ([0], [0]), ([], []), ([1, 2, 1], [1, 2]), ([3], [3]), ([4], [4]), ([4], [4]), ([5, 3, 0, 1, 2, 3, 4, 5], [5]), ([6, 7, 0, 1, 2, 3, 4, 5, 6, 7], [6])])
def metrolablaw30_ProbeChecks.B4 : List Nat := [0, 1, 0, 7, 15, 31, 31, 63, 255]
theorem metrolablaw30_ProbeChecks.tab4 : rtab .any (opsOf Tryz.f3 4) = metrolablaw30_ProbeChecks.T4 := by kernel_rfl
theorem metrolablaw30_ProbeChecks.bits4 : waitsOk metrolablaw30_ProbeChecks.T4.2 metrolablaw30_ProbeChecks.B4 = true := by kernel_rfl
def metrolablaw30_ProbeChecks.T5 : Bool × List (List Nat × List Nat) := (true, [([], []), ([0], [0]), ([], []), ([2, 1], [2]), ([3, 3], [3]), ([1, 4], [1, 4]), ([5, 4], [5]), ([6], [6]), ([6], [6]), ([7, 8, 6], [6, 7, 8]), ([6, 9], [6, 9]), ([10, 6], [10]), ([11], [11]), ([11], [11]), ([12, 13, 11], [11, 12, 13]), ([11, 14], [11, 14]), ([15, 11], [15]), ([16, 16], [16]), ([16, 17], [16, 17]), ([18, 17, 0, 1, 2, 3, 4, 5, 6, 7, 8, 9, 10, 11, 12, 13, 14, 15, 16, 17, 18], [18])])
def metrolablaw30_ProbeChecks.B5 : List Nat := [0, 1, 0, 7, 15, 31, 63, 127, 127, 511, 1023, 2047, 4095, 4095, 16383, 32767, 65535, 131071, 262143, 524287]
theorem metrolablaw30_ProbeChecks.tab5 : rtab .any (opsOf Tryz.f3 5) = metrolablaw30_ProbeChecks.T5 := by kernel_rfl
theorem metrolablaw30_ProbeChecks.bits5 : waitsOk metrolablaw30_ProbeChecks.T5.2 metrolablaw30_ProbeChecks.B5 = true := by kernel_rfl
theorem metrolablaw30_ProbeChecks.calls (k : Nat) (a0_0 : Int) (a0_1 : Int) (a0_2 : Int) (a0_3 : Int) (a0_4 : Int) (a0_5 : Int) (A0_6 : Option Addr) (c0_6 : Nat) (l0_6 : List (S84)) (a1_0 : Int) (a1_1 : Int) (a1_2 : Int) (r : Bool) (w : World) (hG : GW w) (hr0_6 : Kd.C k84 w A0_6 l0_6.length l0_6) (hc0_6 : l0_6.length ≤ c0_6) (h : metrolablaw30_ProbeChecks.f k a0_0 a0_1 a0_2 a0_3 a0_4 a0_5 l0_6 a1_0 a1_1 a1_2 = some r) :
  Calls Tryz.prog 3 #[.agg #[.int .i64 a0_0, .int .i64 a0_1, .int .i64 a0_2, .int .i64 a0_3, .int .i64 a0_4, .int .i64 a0_5, .slice A0_6 l0_6.length c0_6], .agg #[.int .i64 a1_0, .int .i64 a1_1, .int .i64 a1_2]] w fun e w' => e = .returned (.bool r) ∧ Below w.heap.size w w' := by
 have hu26 := Tryz.underlying26
 have hu23 := Tryz.underlying23
 have HG := mk0 hG
 clear hG
 have HR0_6 := mk0 hr0_6
 have HC0_6 := mk0 hc0_6
 clear hr0_6 hc0_6
 have HB := mk0 (Below.refl w.heap.size w)
 have H : ((metrolablaw30_own.f k a0_0 a0_1 a0_2 a0_3 a0_4 a0_5 l0_6).bind fun bt440 => ((metrolabref30_Few.f bt440.1 bt440.2.1 bt440.2.2.1 bt440.2.2.2.1 bt440.2.2.2.2.1 bt440.2.2.2.2.2.1 bt440.2.2.2.2.2.2).bind fun t449 => (if t449 = true then ((probe_Material.f k a0_0 a0_1 a0_2 a0_3 a0_4 a0_5 l0_6 a1_0 a1_1 a1_2).bind fun bt451 => ((metrolablaw30_own.f k a0_0 a0_1 a0_2 a0_3 a0_4 a0_5 l0_6).bind fun bt453 => ((metrolabref30_Material.f k bt453.1 bt453.2.1 bt453.2.2.1 bt453.2.2.2.1 bt453.2.2.2.2.1 bt453.2.2.2.2.2.1 bt453.2.2.2.2.2.2 a1_0 a1_1 a1_2).bind fun bt462 => ((probe_Check.f k a0_0 a0_1 a0_2 a0_3 a0_4 a0_5 l0_6).bind fun t464 => ((metrolablaw30_own.f k a0_0 a0_1 a0_2 a0_3 a0_4 a0_5 l0_6).bind fun bt465 => ((metrolabref30_Check.f k bt465.1 bt465.2.1 bt465.2.2.1 bt465.2.2.2.1 bt465.2.2.2.2.1 bt465.2.2.2.2.2.1 bt465.2.2.2.2.2.2).bind fun t474 => (if t464 = t474 then (if (bt451.1 == bt462.1) = true then (if bt451.2 = bt462.2 then ((metrolablaw30_awake.f k).bind fun t475 => (some t475)) else (none)) else (none)) else (none)))))))) else ((metrolablaw30_awake.f k).bind fun t450 => (some t450))))) = some r := h
 clear h
 replace H := Option.bind_eq_some_iff.mp H
 obtain ⟨⟨t440, t441, t442, t443, t444, t445, t446⟩, A30, H⟩ := H
 replace H : ((metrolabref30_Few.f t440 t441 t442 t443 t444 t445 t446).bind fun t449 => (if t449 = true then ((probe_Material.f k a0_0 a0_1 a0_2 a0_3 a0_4 a0_5 l0_6 a1_0 a1_1 a1_2).bind fun bt451 => ((metrolablaw30_own.f k a0_0 a0_1 a0_2 a0_3 a0_4 a0_5 l0_6).bind fun bt453 => ((metrolabref30_Material.f k bt453.1 bt453.2.1 bt453.2.2.1 bt453.2.2.2.1 bt453.2.2.2.2.1 bt453.2.2.2.2.2.1 bt453.2.2.2.2.2.2 a1_0 a1_1 a1_2).bind fun bt462 => ((probe_Check.f k a0_0 a0_1 a0_2 a0_3 a0_4 a0_5 l0_6).bind fun t464 => ((metrolablaw30_own.f k a0_0 a0_1 a0_2 a0_3 a0_4 a0_5 l0_6).bind fun bt465 => ((metrolabref30_Check.f k bt465.1 bt465.2.1 bt465.2.2.1 bt465.2.2.2.1 bt465.2.2.2.2.1 bt465.2.2.2.2.2.1 bt465.2.2.2.2.2.2).bind fun t474 => (if t464 = t474 then (if (bt451.1 == bt462.1) = true then (if bt451.2 = bt462.2 then ((metrolablaw30_awake.f k).bind fun t475 => (some t475)) else (none)) else (none)) else (none)))))))) else ((metrolablaw30_awake.f k).bind fun t450 => (some t450)))) = some r := H
 have A3 := mk0 A30
 clear A30
 replace H := Option.bind_eq_some_iff.mp H
 obtain ⟨t449, A40, H⟩ := H
 replace H : (if t449 = true then ((probe_Material.f k a0_0 a0_1 a0_2 a0_3 a0_4 a0_5 l0_6 a1_0 a1_1 a1_2).bind fun bt451 => ((metrolablaw30_own.f k a0_0 a0_1 a0_2 a0_3 a0_4 a0_5 l0_6).bind fun bt453 => ((metrolabref30_Material.f k bt453.1 bt453.2.1 bt453.2.2.1 bt453.2.2.2.1 bt453.2.2.2.2.1 bt453.2.2.2.2.2.1 bt453.2.2.2.2.2.2 a1_0 a1_1 a1_2).bind fun bt462 => ((probe_Check.f k a0_0 a0_1 a0_2 a0_3 a0_4 a0_5 l0_6).bind fun t464 => ((metrolablaw30_own.f k a0_0 a0_1 a0_2 a0_3 a0_4 a0_5 l0_6).bind fun bt465 => ((metrolabref30_Check.f k bt465.1 bt465.2.1 bt465.2.2.1 bt465.2.2.2.1 bt465.2.2.2.2.1 bt465.2.2.2.2.2.1 bt465.2.2.2.2.2.2).bind fun t474 => (if t464 = t474 then (if (bt451.1 == bt462.1) = true then (if bt451.2 = bt462.2 then ((metrolablaw30_awake.f k).bind fun t475 => (some t475)) else (none)) else (none)) else (none)))))))) else ((metrolablaw30_awake.f k).bind fun t450 => (some t450))) = some r := H
 have A4 := mk0 A40
 clear A40
 by_cases c5 : t449 = true
 ·subst c5
  have H1 : ((probe_Material.f k a0_0 a0_1 a0_2 a0_3 a0_4 a0_5 l0_6 a1_0 a1_1 a1_2).bind fun bt451 => ((metrolablaw30_own.f k a0_0 a0_1 a0_2 a0_3 a0_4 a0_5 l0_6).bind fun bt453 => ((metrolabref30_Material.f k bt453.1 bt453.2.1 bt453.2.2.1 bt453.2.2.2.1 bt453.2.2.2.2.1 bt453.2.2.2.2.2.1 bt453.2.2.2.2.2.2 a1_0 a1_1 a1_2).bind fun bt462 => ((probe_Check.f k a0_0 a0_1 a0_2 a0_3 a0_4 a0_5 l0_6).bind fun t464 => ((metrolablaw30_own.f k a0_0 a0_1 a0_2 a0_3 a0_4 a0_5 l0_6).bind fun bt465 => ((metrolabref30_Check.f k bt465.1 bt465.2.1 bt465.2.2.1 bt465.2.2.2.1 bt465.2.2.2.2.1 bt465.2.2.2.2.2.1 bt465.2.2.2.2.2.2).bind fun t474 => (if t464 = t474 then (if (bt451.1 == bt462.1) = true then (if bt451.2 = bt462.2 then ((metrolablaw30_awake.f k).bind fun t475 => (some t475)) else (none)) else (none)) else (none)))))))) = some r := by rw [if_pos rfl] at H; exact H
  clear H
  have H := H1
  clear H1
  replace H := Option.bind_eq_some_iff.mp H
  obtain ⟨⟨t451, t452⟩, A60, H⟩ := H
  replace H : ((metrolablaw30_own.f k a0_0 a0_1 a0_2 a0_3 a0_4 a0_5 l0_6).bind fun bt453 => ((metrolabref30_Material.f k bt453.1 bt453.2.1 bt453.2.2.1 bt453.2.2.2.1 bt453.2.2.2.2.1 bt453.2.2.2.2.2.1 bt453.2.2.2.2.2.2 a1_0 a1_1 a1_2).bind fun bt462 => ((probe_Check.f k a0_0 a0_1 a0_2 a0_3 a0_4 a0_5 l0_6).bind fun t464 => ((metrolablaw30_own.f k a0_0 a0_1 a0_2 a0_3 a0_4 a0_5 l0_6).bind fun bt465 => ((metrolabref30_Check.f k bt465.1 bt465.2.1 bt465.2.2.1 bt465.2.2.2.1 bt465.2.2.2.2.1 bt465.2.2.2.2.2.1 bt465.2.2.2.2.2.2).bind fun t474 => (if t464 = t474 then (if (t451 == bt462.1) = true then (if t452 = bt462.2 then ((metrolablaw30_awake.f k).bind fun t475 => (some t475)) else (none)) else (none)) else (none))))))) = some r := H
  have A6 := mk0 A60
  clear A60
  replace H := Option.bind_eq_some_iff.mp H
  obtain ⟨⟨t453, t454, t455, t456, t457, t458, t459⟩, A70, H⟩ := H
  replace H : ((metrolabref30_Material.f k t453 t454 t455 t456 t457 t458 t459 a1_0 a1_1 a1_2).bind fun bt462 => ((probe_Check.f k a0_0 a0_1 a0_2 a0_3 a0_4 a0_5 l0_6).bind fun t464 => ((metrolablaw30_own.f k a0_0 a0_1 a0_2 a0_3 a0_4 a0_5 l0_6).bind fun bt465 => ((metrolabref30_Check.f k bt465.1 bt465.2.1 bt465.2.2.1 bt465.2.2.2.1 bt465.2.2.2.2.1 bt465.2.2.2.2.2.1 bt465.2.2.2.2.2.2).bind fun t474 => (if t464 = t474 then (if (t451 == bt462.1) = true then (if t452 = bt462.2 then ((metrolablaw30_awake.f k).bind fun t475 => (some t475)) else (none)) else (none)) else (none)))))) = some r := H
  have A7 := mk0 A70
  clear A70
  replace H := Option.bind_eq_some_iff.mp H
  obtain ⟨⟨t462, t463⟩, A80, H⟩ := H
  replace H : ((probe_Check.f k a0_0 a0_1 a0_2 a0_3 a0_4 a0_5 l0_6).bind fun t464 => ((metrolablaw30_own.f k a0_0 a0_1 a0_2 a0_3 a0_4 a0_5 l0_6).bind fun bt465 => ((metrolabref30_Check.f k bt465.1 bt465.2.1 bt465.2.2.1 bt465.2.2.2.1 bt465.2.2.2.2.1 bt465.2.2.2.2.2.1 bt465.2.2.2.2.2.2).bind fun t474 => (if t464 = t474 then (if (t451 == t462) = true then (if t452 = t463 then ((metrolablaw30_awake.f k).bind fun t475 => (some t475)) else (none)) else (none)) else (none))))) = some r := H
  have A8 := mk0 A80
  clear A80
  replace H := Option.bind_eq_some_iff.mp H
  obtain ⟨t464, A90, H⟩ := H
  replace H : ((metrolablaw30_own.f k a0_0 a0_1 a0_2 a0_3 a0_4 a0_5 l0_6).bind fun bt465 => ((metrolabref30_Check.f k bt465.1 bt465.2.1 bt465.2.2.1 bt465.2.2.2.1 bt465.2.2.2.2.1 bt465.2.2.2.2.2.1 bt465.2.2.2.2.2.2).bind fun t474 => (if t464 = t474 then (if (t451 == t462) = true then (if t452 = t463 then ((metrolablaw30_awake.f k).bind fun t475 => (some t475)) else (none)) else (none)) else (none)))) = some r := H
  have A9 := mk0 A90
  clear A90
  replace H := Option.bind_eq_some_iff.mp H
  obtain ⟨⟨t465, t466, t467, t468, t469, t470, t471⟩, A100, H⟩ := H
  replace H : ((metrolabref30_Check.f k t465 t466 t467 t468 t469 t470 t471).bind fun t474 => (if t464 = t474 then (if (t451 == t462) = true then (if t452 = t463 then ((metrolablaw30_awake.f k).bind fun t475 => (some t475)) else (none)) else (none)) else (none))) = some r := H
  have A10 := mk0 A100
  clear A100
  replace H := Option.bind_eq_some_iff.mp H
  obtain ⟨t474, A110, H⟩ := H
  replace H : (if t464 = t474 then (if (t451 == t462) = true then (if t452 = t463 then ((metrolablaw30_awake.f k).bind fun t475 => (some t475)) else (none)) else (none)) else (none)) = some r := H
  have A11 := mk0 A110
  clear A110
  by_cases c12 : t464 = t474
  ·rw [if_pos c12] at H
   have c12b0 : (t464 == t474) = true := beq_iff_eq.mpr c12
   have c12b1 : (t464 != t474) = false := bne_eq_false_iff_eq.mpr c12
   clear c12
   by_cases c13 : (t451 == t462) = true
   ·rw [if_pos c13] at H
    have c13b0 : (t451 == t462) = true := c13
    (try (have c13b1 : decide (t451 = t462) = true := by simpa using c13))
    (try (have c13b2 : (t451 == t462) = true := by simpa using c13))
    clear c13
    by_cases c14 : t452 = t463
    ·rw [if_pos c14] at H
     have c14b0 : (t452 == t463) = true := beq_iff_eq.mpr c14
     have c14b1 : (t452 != t463) = false := bne_eq_false_iff_eq.mpr c14
     clear c14
     replace H := Option.bind_eq_some_iff.mp H
     obtain ⟨t475, A150, H⟩ := H
     replace H : (some t475) = some r := H
     have A15 := mk0 A150
     clear A150
     obtain rfl := Option.some.inj H
     go_enter Tryz.func3, Tryz.ntmps3
     try go_wp2_with (first | ((with_reducible refine gate_dst (N := 2) rfl ?_); refine box_event ?hg (N := 2) ?hd (cs := #[.int .i64 a0_0, .int .i64 a0_1, .int .i64 a0_2, .int .i64 a0_3, .int .i64 a0_4, .int .i64 a0_5, .slice A0_6 l0_6.length c0_6]) (t := 26) ?hr ?_; (case hd => rfl); (case hg => rfl); (case hr => first | (go_simp; done) | (go_simp; rfl)); intro gb438 hg w16 hbox hb; have n0_ := mk0 (below_step (wT HB.out) hb); have n1_ := mk0 (hbox); have n2_ := mk0 ((szT HB.out hg)); have n3_ := mk0 ((szT HB.out hg)); clear HB; have HB := n0_; have BK438 := n1_; have GW438 := n2_; have GE438 := n3_; clear n0_ n1_ n2_ n3_; clear hb hbox hg) | ((with_reducible refine gate_dst (N := 3) rfl ?_); refine box_event ?hg (N := 3) ?hd (cs := #[.int .i64 a1_0, .int .i64 a1_1, .int .i64 a1_2]) (t := 23) ?hr ?_; (case hd => rfl); (case hg => rfl); (case hr => first | (go_simp; done) | (go_simp; rfl)); intro gb439 hg w17 hbox hb; have n0_ := mk0 (bbT BK438.out hb); have n1_ := mk0 (below_step (wT HB.out) hb); have n2_ := mk0 (hbox); have n3_ := mk0 ((szT HB.out hg)); have n4_ := mk0 ((szT HB.out hg)); have n5_ := mk0 ((neL BK438.out hg)); have n6_ := mk0 ((neG BK438.out hg)); clear BK438; clear HB; have BK438 := n0_; have HB := n1_; have BK439 := n2_; have GW439 := n3_; have GE439 := n4_; have NB438_439 := n5_; have NB439_438 := n6_; clear n0_ n1_ n2_ n3_ n4_ n5_ n6_; clear hb hbox hg; have hnb18 := NB438_439.out; have hnc18 := NB439_438.out; have X19_0 := ct BK438.out 0; have X19_1 := ct BK438.out 1; have X19_2 := ct BK438.out 2; have X19_3 := ct BK438.out 3; have X19_4 := ct BK438.out 4; have X19_5 := ct BK438.out 5; have X19_6 := ct BK438.out 6; have Y19_0 := blk_frozen BK438.out 0; have Y19_1 := blk_frozen BK438.out 1; have Y19_2 := blk_frozen BK438.out 2; have Y19_3 := blk_frozen BK438.out 3; have Y19_4 := blk_frozen BK438.out 4; have Y19_5 := blk_frozen BK438.out 5; have Y19_6 := blk_frozen BK438.out 6) | ((with_reducible refine gate_callee (f := 13) rfl ?_); refine goesL_ (some 10) rfl rfl Tryz.func13 (by kernel_rfl) rfl #[.agg #[.int .i64 a0_0, .int .i64 a0_1, .int .i64 a0_2, .int .i64 a0_3, .int .i64 a0_4, .int .i64 a0_5, .slice A0_6 l0_6.length c0_6]] rfl (by (try simp only [List.map_toArray, List.map_cons, List.map_nil]); first | done | rfl | (simp only [List.length_drop, List.length_take]; rfl)) ?_; (with_reducible refine (metrolablaw30_own.calls k a0_0 a0_1 a0_2 a0_3 a0_4 a0_5 _ _ l0_6 t440 t441 t442 t443 t444 t445 t446 _ ?side1 ?side2 A3.out).mono ?_); (case side1 => repeat (first | exact (Kd.C_below HR0_6.out HB.out) | (with_reducible refine Kd.C_alloc ?_ _) | (with_reducible refine Kd.C_drewN ?_ _) | (with_reducible refine Kd.C_drew ?_))); (case side2 => exact HC0_6.out); rintro e w20 ⟨v447, rfl, ho0, hb⟩; refine ⟨_, rfl, ?_⟩; have n0_ := mk0 (Kd.R_lower ho0 (below_size (wT HB.out))); have n1_ := mk0 (bbT BK438.out hb); have n2_ := mk0 (bbT BK439.out hb); have n3_ := mk0 (below_step (wT HB.out) hb); clear BK438; clear BK439; clear HB; have HO448 := n0_; have BK438 := n1_; have BK439 := n2_; have HB := n3_; clear n0_ n1_ n2_ n3_; (try clear hb); (try clear hb2); (try clear hk); (try clear hi); (try clear ho0); obtain ⟨Ao21, co21, eo21⟩ := Kd.R_slice HO448.out; subst eo21) | ((with_reducible refine gate_callee (f := 12) rfl ?_); refine goesL_ (some 11) rfl rfl Tryz.func12 (by kernel_rfl) rfl #[.agg #[.int .i64 t440, .int .i64 t441, .int .i64 t442, .int .i64 t443, .int .i64 t444, .int .i64 t445, .slice Ao21 t446.length co21]] rfl (by (try simp only [List.map_toArray, List.map_cons, List.map_nil]); first | done | rfl | (simp only [List.length_drop, List.length_take]; rfl)) ?_; (with_reducible refine (metrolabref30_Few.calls t440 t441 t442 t443 t444 t445 _ _ t446 true _ ?side1 ?side2 A4.out).mono ?_); (case side1 => repeat (first | exact (Kd.R_reads' HO448.out).2.2 | (with_reducible refine Kd.C_alloc ?_ _) | (with_reducible refine Kd.C_drewN ?_ _) | (with_reducible refine Kd.C_drew ?_))); (case side2 => exact (Kd.R_reads' HO448.out).2.1); rintro e w22 ⟨rfl, hb⟩; refine ⟨_, rfl, ?_⟩; have n0_ := mk0 (Kd.R_below (rT HO448.out) hb); have n1_ := mk0 (bbT BK438.out hb); have n2_ := mk0 (bbT BK439.out hb); have n3_ := mk0 (below_step (wT HB.out) hb); clear HO448; clear BK438; clear BK439; clear HB; have HO448 := n0_; have BK438 := n1_; have BK439 := n2_; have HB := n3_; clear n0_ n1_ n2_ n3_; (try clear hb); (try clear hb2); (try clear hk); (try clear hi); have X23_0 := ct BK438.out 0; have X23_1 := ct BK438.out 1; have X23_2 := ct BK438.out 2; have X23_3 := ct BK438.out 3; have X23_4 := ct BK438.out 4; have X23_5 := ct BK438.out 5; have X23_6 := ct BK438.out 6; have Y23_0 := blk_frozen BK438.out 0; have Y23_1 := blk_frozen BK438.out 1; have Y23_2 := blk_frozen BK438.out 2; have Y23_3 := blk_frozen BK438.out 3; have Y23_4 := blk_frozen BK438.out 4; have Y23_5 := blk_frozen BK438.out 5; have Y23_6 := blk_frozen BK438.out 6; have X24_0 := ct BK439.out 0; have X24_1 := ct BK439.out 1; have X24_2 := ct BK439.out 2; have Y24_0 := blk_frozen BK439.out 0; have Y24_1 := blk_frozen BK439.out 1; have Y24_2 := blk_frozen BK439.out 2) | ((with_reducible refine gate_callee (f := 15) rfl ?_); refine goesL_ (some 17) rfl rfl Tryz.func15 (by kernel_rfl) rfl #[.agg #[.int .i64 a0_0, .int .i64 a0_1, .int .i64 a0_2, .int .i64 a0_3, .int .i64 a0_4, .int .i64 a0_5, .slice A0_6 l0_6.length c0_6], .agg #[.int .i64 a1_0, .int .i64 a1_1, .int .i64 a1_2]] rfl (by (try simp only [List.map_toArray, List.map_cons, List.map_nil]); first | done | rfl | (simp only [List.length_drop, List.length_take]; rfl)) ?_; (with_reducible refine (probe_Material.calls k a0_0 a0_1 a0_2 a0_3 a0_4 a0_5 _ _ l0_6 a1_0 a1_1 a1_2 t451 t452 _ ?side1 ?side2 A6.out).mono ?_); (case side1 => repeat (first | exact (Kd.C_below HR0_6.out HB.out) | (with_reducible refine Kd.C_alloc ?_ _) | (with_reducible refine Kd.C_drewN ?_ _) | (with_reducible refine Kd.C_drew ?_))); (case side2 => exact HC0_6.out); rintro e w25 ⟨rfl, hb⟩; refine ⟨_, rfl, ?_⟩; have n0_ := mk0 (Kd.R_below (rT HO448.out) hb); have n1_ := mk0 (bbT BK438.out hb); have n2_ := mk0 (bbT BK439.out hb); have n3_ := mk0 (below_step (wT HB.out) hb); clear HO448; clear BK438; clear BK439; clear HB; have HO448 := n0_; have BK438 := n1_; have BK439 := n2_; have HB := n3_; clear n0_ n1_ n2_ n3_; (try clear hb); (try clear hb2); (try clear hk); (try clear hi)))
     have n0_ := mk0 (Kd.R_drew HO448.out)
     have n1_ := mk0 (blk_drew BK438.out)
     have n2_ := mk0 (blk_drew BK439.out)
     have n3_ := mk0 (below_drew1 HB.out)
     clear HO448
     clear BK438
     clear BK439
     clear HB
     have HO448 := n0_
     have BK438 := n1_
     have BK439 := n2_
     have HB := n3_
     clear n0_ n1_ n2_ n3_
     refine start_ (n := 9) (S := fun w' => w'.cell? ⟨gb438, 0, none⟩ = some (.int .i64 a0_0) ∧ w'.cell? ⟨gb438, 1, none⟩ = some (.int .i64 a0_1) ∧ w'.cell? ⟨gb438, 2, none⟩ = some (.int .i64 a0_2) ∧ w'.cell? ⟨gb438, 3, none⟩ = some (.int .i64 a0_3) ∧ w'.cell? ⟨gb438, 4, none⟩ = some (.int .i64 a0_4) ∧ w'.cell? ⟨gb438, 5, none⟩ = some (.int .i64 a0_5) ∧ w'.cell? ⟨gb438, 6, none⟩ = some (.slice A0_6 l0_6.length c0_6) ∧ w'.cell? ⟨gb439, 0, none⟩ = some (.int .i64 a1_0) ∧ w'.cell? ⟨gb439, 1, none⟩ = some (.int .i64 a1_1) ∧ w'.cell? ⟨gb439, 2, none⟩ = some (.int .i64 a1_2)) (ds := []) #[false, false, false, false, false, false, false, false, false] (by kernel_rfl) rfl rfl ⟨ct BK438.out 0, ct BK438.out 1, ct BK438.out 2, ct BK438.out 3, ct BK438.out 4, ct BK438.out 5, ct BK438.out 6, ct BK439.out 0, ct BK439.out 1, ct BK439.out 2⟩ (fun hHeld => ?_); refine with_tabW metrolablaw30_ProbeChecks.tab4 metrolablaw30_ProbeChecks.bits4 (fun HT_ HW_ => ?_)
     generalize w25.drew = w26 at HO448 BK438 BK439 HB hHeld ⊢
     refine take_ (i := 0) (N := some 21) (v := ?_) (a' := ?_) #[true, false, false, false, false, false, false, false, false] rfl rfl (take_ofW HT_.out HW_.out (by kernel_rfl)) (fun _ _ _ h => h) (Or.inl ⟨by rfl, ?_⟩) hHeld ?_ ?_
     rotate_left
     ·rintro w' ⟨s0, s1, s2, s3, s4, s5, s6, s7, s8, s9⟩
      go_simp
      with_reducible rfl
     rotate_left
     ·exact nrm
     refine take_ (i := 2) (N := some 23) (v := ?_) (a' := ?_) #[true, false, true, false, false, false, false, false, false] rfl rfl (take_ofW HT_.out HW_.out (by kernel_rfl)) (fun _ _ _ h => h) (Or.inl ⟨by rfl, ?_⟩) hHeld ?_ ?_
     rotate_left
     ·rintro w' ⟨s0, s1, s2, s3, s4, s5, s6, s7, s8, s9⟩
      go_simp
      with_reducible rfl
     rotate_left
     ·exact nrm
     refine one_ (i := 1) (N := some 22) #[true, true, true, false, false, false, false, false, false] rfl rfl (one_of HT_.out (by kernel_rfl)) (by decide) (fun K hK => ?_)
     refine goes_ Tryz.func13 (by kernel_rfl) rfl #[.agg #[.int .i64 a0_0, .int .i64 a0_1, .int .i64 a0_2, .int .i64 a0_3, .int .i64 a0_4, .int .i64 a0_5, .slice A0_6 l0_6.length c0_6]] (by rfl) rfl rfl (by (try simp only [List.map_toArray, List.map_cons, List.map_nil]); first | done | rfl | (simp only [List.length_drop, List.length_take]; rfl)) ?_
     with_reducible refine (metrolablaw30_own.calls k a0_0 a0_1 a0_2 a0_3 a0_4 a0_5 _ _ l0_6 t453 t454 t455 t456 t457 t458 t459 _ ?side1 ?side2 A7.out).mono ?_
     (case side1 => repeat (first | exact (Kd.C_below HR0_6.out HB.out) | (with_reducible refine Kd.C_alloc ?_ _) | (with_reducible refine Kd.C_drewN ?_ _) | (with_reducible refine Kd.C_drew ?_)))
     (case side2 => exact HC0_6.out)
     rintro e w27 ⟨v460, rfl, ho0, hb⟩
     refine ⟨_, rfl, ?_⟩
     have n0_ := mk0 (Kd.R_elder' (rT HO448.out) (Kd.R_base ho0) hb)
     have n1_ := mk0 (Kd.R_lower (Kd.R_new' ho0 (Kd.R_lt (rT HO448.out))) (below_size (wT HB.out)))
     have n2_ := mk0 (bbT BK438.out hb)
     have n3_ := mk0 (bbT BK439.out hb)
     have n4_ := mk0 (below_step (wT HB.out) hb)
     clear HO448
     clear BK438
     clear BK439
     clear HB
     have HO448 := n0_
     have HO461 := n1_
     have BK438 := n2_
     have BK439 := n3_
     have HB := n4_
     clear n0_ n1_ n2_ n3_ n4_
     (try clear hb)
     (try clear hb2)
     (try clear hk)
     (try clear hi)
     (try clear ho0)
     obtain ⟨Ao28, co28, eo28⟩ := Kd.R_slice HO461.out
     (first | subst eo28 | (injection eo28 with f1_ f2_ f3_; have f4_ := f1_.symm; have f5_ := f3_.symm; clear f1_ f2_ f3_; subst f4_; subst f5_))
     refine hK.out _ _ ⟨ct BK438.out 0, ct BK438.out 1, ct BK438.out 2, ct BK438.out 3, ct BK438.out 4, ct BK438.out 5, ct BK438.out 6, ct BK439.out 0, ct BK439.out 1, ct BK439.out 2⟩ (fun hHeld => ?_)
     clear hK K
     refine norm_ (a' := ?_) ?_ ?_
     rotate_left
     ·show Act.put _ (some 22) _ = _
      simp only [Act.put, List.setIfInBounds_toArray, List.set_cons_zero, List.set_cons_succ, i64_w, i32_w]
      rfl
     refine one_ (i := 3) (N := some 24) #[true, true, true, true, false, false, false, false, false] rfl rfl (one_of HT_.out (by kernel_rfl)) (by decide) (fun K hK => ?_)
     refine goes_ Tryz.func16 (by kernel_rfl) rfl #[.agg #[.int .i64 t453, .int .i64 t454, .int .i64 t455, .int .i64 t456, .int .i64 t457, .int .i64 t458, .slice Ao28 t459.length co28], .agg #[.int .i64 a1_0, .int .i64 a1_1, .int .i64 a1_2]] (by rfl) rfl rfl (by (try simp only [List.map_toArray, List.map_cons, List.map_nil]); first | done | rfl | (simp only [List.length_drop, List.length_take]; rfl)) ?_
     with_reducible refine (metrolabref30_Material.calls k t453 t454 t455 t456 t457 t458 _ _ t459 a1_0 a1_1 a1_2 t462 t463 _ ?side1 ?side2 A8.out).mono ?_
     (case side1 => repeat (first | exact (Kd.R_reads' HO461.out).2.2 | (with_reducible refine Kd.C_alloc ?_ _) | (with_reducible refine Kd.C_drewN ?_ _) | (with_reducible refine Kd.C_drew ?_)))
     (case side2 => exact (Kd.R_reads' HO461.out).2.1)
     rintro e w29 ⟨rfl, hb⟩
     refine ⟨_, rfl, ?_⟩
     have n0_ := mk0 (Kd.R_below (rT HO448.out) hb)
     have n1_ := mk0 (Kd.R_below (rT HO461.out) hb)
     have n2_ := mk0 (bbT BK438.out hb)
     have n3_ := mk0 (bbT BK439.out hb)
     have n4_ := mk0 (below_step (wT HB.out) hb)
     clear HO448
     clear HO461
     clear BK438
     clear BK439
     clear HB
     have HO448 := n0_
     have HO461 := n1_
     have BK438 := n2_
     have BK439 := n3_
     have HB := n4_
     clear n0_ n1_ n2_ n3_ n4_
     (try clear hb)
     (try clear hb2)
     (try clear hk)
     (try clear hi)
     refine hK.out _ _ ⟨ct BK438.out 0, ct BK438.out 1, ct BK438.out 2, ct BK438.out 3, ct BK438.out 4, ct BK438.out 5, ct BK438.out 6, ct BK439.out 0, ct BK439.out 1, ct BK439.out 2⟩ (fun hHeld => ?_)
     clear hK K
     refine norm_ (a' := ?_) ?_ ?_
     rotate_left
     ·show Act.put _ (some 24) _ = _
      simp only [Act.put, List.setIfInBounds_toArray, List.set_cons_zero, List.set_cons_succ, i64_w, i32_w]
      rfl
     refine pure_ (i := 4) (N := some 20) (v := ?_) (a' := ?_) #[true, true, true, true, true, false, false, false, false] rfl rfl (any_of HT_.out (by kernel_rfl)) (fun _ _ _ h => h) (Or.inl ⟨by rfl, ?_⟩) ?_ ?_
     rotate_left
     ·intro w'
      go_simp
      with_reducible rfl
     rotate_left
     ·exact nrm
     refine pure_ (i := 5) (N := some 25) (v := ?_) (a' := ?_) #[true, true, true, true, true, true, false, false, false] rfl rfl (any_of HT_.out (by kernel_rfl)) (fun _ _ _ h => h) (Or.inl ⟨by rfl, ?_⟩) ?_ ?_
     rotate_left
     ·intro w'
      go_simp
      with_reducible rfl
     rotate_left
     ·exact nrm
     refine pure_ (i := 6) (N := some 26) (v := ?_) (a' := ?_) #[true, true, true, true, true, true, true, false, false] rfl rfl (any_of HT_.out (by kernel_rfl)) (fun _ _ _ h => h) (Or.inl ⟨by rfl, ?_⟩) ?_ ?_
     rotate_left
     ·intro w'
      go_simp
      with_reducible rfl
     rotate_left
     ·exact nrm
     refine pure_ (i := 7) (N := some 7) (v := ?_) (a' := ?_) #[true, true, true, true, true, true, true, true, false] rfl rfl (any_of HT_.out (by kernel_rfl)) (fun _ _ _ h => h) (Or.inl ⟨by rfl, ?_⟩) ?_ ?_
     rotate_left
     ·intro w'
      go_simp
      with_reducible rfl
     rotate_left
     ·exact nrm
     refine pure_ (i := 8) (N := some 8) (v := ?_) (a' := ?_) #[true, true, true, true, true, true, true, true, true] rfl rfl (any_of HT_.out (by kernel_rfl)) (fun _ _ _ h => h) (Or.inl ⟨by rfl, ?_⟩) ?_ ?_
     rotate_left
     ·intro w'
      go_simp
      with_reducible rfl
     rotate_left
     ·exact nrm
     refine done_ (done_of HT_.out (by kernel_rfl)) ?_
     try go_wp2
     have n0_ := mk0 (Kd.R_drew HO448.out)
     have n1_ := mk0 (Kd.R_drew HO461.out)
     have n2_ := mk0 (blk_drew BK438.out)
     have n3_ := mk0 (below_drew1 HB.out)
     clear HO448
     clear HO461
     clear BK438
     clear HB
     have HO448 := n0_
     have HO461 := n1_
     have BK438 := n2_
     have HB := n3_
     clear n0_ n1_ n2_ n3_
     refine start_ (n := 20) (S := fun w' => w'.cell? ⟨gb438, 0, none⟩ = some (.int .i64 a0_0) ∧ w'.cell? ⟨gb438, 1, none⟩ = some (.int .i64 a0_1) ∧ w'.cell? ⟨gb438, 2, none⟩ = some (.int .i64 a0_2) ∧ w'.cell? ⟨gb438, 3, none⟩ = some (.int .i64 a0_3) ∧ w'.cell? ⟨gb438, 4, none⟩ = some (.int .i64 a0_4) ∧ w'.cell? ⟨gb438, 5, none⟩ = some (.int .i64 a0_5) ∧ w'.cell? ⟨gb438, 6, none⟩ = some (.slice A0_6 l0_6.length c0_6)) (ds := []) #[false, false, false, false, false, false, false, false, false, false, false, false, false, false, false, false, false, false, false, false] (by kernel_rfl) rfl rfl ⟨ct BK438.out 0, ct BK438.out 1, ct BK438.out 2, ct BK438.out 3, ct BK438.out 4, ct BK438.out 5, ct BK438.out 6⟩ (fun hHeld => ?_); refine with_tabW metrolablaw30_ProbeChecks.tab5 metrolablaw30_ProbeChecks.bits5 (fun HT_ HW_ => ?_)
     generalize w29.drew = w30 at HO448 HO461 BK438 HB hHeld ⊢
     refine take_ (i := 0) (N := some 27) (v := ?_) (a' := ?_) #[true, false, false, false, false, false, false, false, false, false, false, false, false, false, false, false, false, false, false, false] rfl rfl (take_ofW HT_.out HW_.out (by kernel_rfl)) (fun _ _ _ h => h) (Or.inl ⟨by rfl, ?_⟩) hHeld ?_ ?_
     rotate_left
     ·rintro w' ⟨s0, s1, s2, s3, s4, s5, s6⟩
      go_simp
      with_reducible rfl
     rotate_left
     ·exact nrm
     refine take_ (i := 2) (N := some 29) (v := ?_) (a' := ?_) #[true, false, true, false, false, false, false, false, false, false, false, false, false, false, false, false, false, false, false, false] rfl rfl (take_ofW HT_.out HW_.out (by kernel_rfl)) (fun _ _ _ h => h) (Or.inl ⟨by rfl, ?_⟩) hHeld ?_ ?_
     rotate_left
     ·rintro w' ⟨s0, s1, s2, s3, s4, s5, s6⟩
      go_simp
      with_reducible rfl
     rotate_left
     ·exact nrm
     refine one_ (i := 1) (N := some 28) #[true, true, true, false, false, false, false, false, false, false, false, false, false, false, false, false, false, false, false, false] rfl rfl (one_of HT_.out (by kernel_rfl)) (by decide) (fun K hK => ?_)
     refine goes_ Tryz.func17 (by kernel_rfl) rfl #[.agg #[.int .i64 a0_0, .int .i64 a0_1, .int .i64 a0_2, .int .i64 a0_3, .int .i64 a0_4, .int .i64 a0_5, .slice A0_6 l0_6.length c0_6]] (by rfl) rfl rfl (by (try simp only [List.map_toArray, List.map_cons, List.map_nil]); first | done | rfl | (simp only [List.length_drop, List.length_take]; rfl)) ?_
     with_reducible refine (probe_Check.calls k a0_0 a0_1 a0_2 a0_3 a0_4 a0_5 _ _ l0_6 t464 _ ?side1 ?side2 A9.out).mono ?_
     (case side1 => repeat (first | exact (Kd.C_below HR0_6.out HB.out) | (with_reducible refine Kd.C_alloc ?_ _) | (with_reducible refine Kd.C_drewN ?_ _) | (with_reducible refine Kd.C_drew ?_)))
     (case side2 => exact HC0_6.out)
     rintro e w31 ⟨rfl, hb⟩
     refine ⟨_, rfl, ?_⟩
     have n0_ := mk0 (Kd.R_below (rT HO448.out) hb)
     have n1_ := mk0 (Kd.R_below (rT HO461.out) hb)
     have n2_ := mk0 (bbT BK438.out hb)
     have n3_ := mk0 (below_step (wT HB.out) hb)
     clear HO448
     clear HO461
     clear BK438
     clear HB
     have HO448 := n0_
     have HO461 := n1_
     have BK438 := n2_
     have HB := n3_
     clear n0_ n1_ n2_ n3_
     (try clear hb)
     (try clear hb2)
     (try clear hk)
     (try clear hi)
     refine hK.out _ _ ⟨ct BK438.out 0, ct BK438.out 1, ct BK438.out 2, ct BK438.out 3, ct BK438.out 4, ct BK438.out 5, ct BK438.out 6⟩ (fun hHeld => ?_)
     clear hK K
     refine norm_ (a' := ?_) ?_ ?_
     rotate_left
     ·show Act.put _ (some 28) _ = _
      simp only [Act.put, List.setIfInBounds_toArray, List.set_cons_zero, List.set_cons_succ, i64_w, i32_w]
      rfl
     refine one_ (i := 3) (N := some 30) #[true, true, true, true, false, false, false, false, false, false, false, false, false, false, false, false, false, false, false, false] rfl rfl (one_of HT_.out (by kernel_rfl)) (by decide) (fun K hK => ?_)
     refine goes_ Tryz.func13 (by kernel_rfl) rfl #[.agg #[.int .i64 a0_0, .int .i64 a0_1, .int .i64 a0_2, .int .i64 a0_3, .int .i64 a0_4, .int .i64 a0_5, .slice A0_6 l0_6.length c0_6]] (by rfl) rfl rfl (by (try simp only [List.map_toArray, List.map_cons, List.map_nil]); first | done | rfl | (simp only [List.length_drop, List.length_take]; rfl)) ?_
     with_reducible refine (metrolablaw30_own.calls k a0_0 a0_1 a0_2 a0_3 a0_4 a0_5 _ _ l0_6 t465 t466 t467 t468 t469 t470 t471 _ ?side1 ?side2 A10.out).mono ?_
     (case side1 => repeat (first | exact (Kd.C_below HR0_6.out HB.out) | (with_reducible refine Kd.C_alloc ?_ _) | (with_reducible refine Kd.C_drewN ?_ _) | (with_reducible refine Kd.C_drew ?_)))
     (case side2 => exact HC0_6.out)
     rintro e w32 ⟨v472, rfl, ho0, hb⟩
     refine ⟨_, rfl, ?_⟩
     have n0_ := mk0 (Kd.R_elder' (rT HO448.out) (Kd.R_base ho0) hb)
     have n1_ := mk0 (Kd.R_elder' (rT HO461.out) (Kd.R_base ho0) hb)
     have n2_ := mk0 (Kd.R_lower (Kd.R_new' (Kd.R_new' ho0 (Kd.R_lt (rT HO448.out))) (Kd.R_lt (rT HO461.out))) (below_size (wT HB.out)))
     have n3_ := mk0 (bbT BK438.out hb)
     have n4_ := mk0 (below_step (wT HB.out) hb)
     clear HO448
     clear HO461
     clear BK438
     clear HB
     have HO448 := n0_
     have HO461 := n1_
     have HO473 := n2_
     have BK438 := n3_
     have HB := n4_
     clear n0_ n1_ n2_ n3_ n4_
     (try clear hb)
     (try clear hb2)
     (try clear hk)
     (try clear hi)
     (try clear ho0)
     obtain ⟨Ao33, co33, eo33⟩ := Kd.R_slice HO473.out
     (first | subst eo33 | (injection eo33 with f1_ f2_ f3_; have f4_ := f1_.symm; have f5_ := f3_.symm; clear f1_ f2_ f3_; subst f4_; subst f5_))
     refine hK.out _ _ ⟨ct BK438.out 0, ct BK438.out 1, ct BK438.out 2, ct BK438.out 3, ct BK438.out 4, ct BK438.out 5, ct BK438.out 6⟩ (fun hHeld => ?_)
     clear hK K
     refine norm_ (a' := ?_) ?_ ?_
     rotate_left
     ·show Act.put _ (some 30) _ = _
      simp only [Act.put, List.setIfInBounds_toArray, List.set_cons_zero, List.set_cons_succ, i64_w, i32_w]
      rfl
     refine one_ (i := 4) (N := some 31) #[true, true, true, true, true, false, false, false, false, false, false, false, false, false, false, false, false, false, false, false] rfl rfl (one_of HT_.out (by kernel_rfl)) (by decide) (fun K hK => ?_)
     refine goes_ Tryz.func18 (by kernel_rfl) rfl #[.agg #[.int .i64 t465, .int .i64 t466, .int .i64 t467, .int .i64 t468, .int .i64 t469, .int .i64 t470, .slice Ao33 t471.length co33]] (by rfl) rfl rfl (by (try simp only [List.map_toArray, List.map_cons, List.map_nil]); first | done | rfl | (simp only [List.length_drop, List.length_take]; rfl)) ?_
     with_reducible refine (metrolabref30_Check.calls k t465 t466 t467 t468 t469 t470 _ _ t471 t474 _ ?side1 ?side2 A11.out).mono ?_
     (case side1 => repeat (first | exact (Kd.R_reads' HO473.out).2.2 | (with_reducible refine Kd.C_alloc ?_ _) | (with_reducible refine Kd.C_drewN ?_ _) | (with_reducible refine Kd.C_drew ?_)))
     (case side2 => exact (Kd.R_reads' HO473.out).2.1)
     rintro e w34 ⟨rfl, hb⟩
     refine ⟨_, rfl, ?_⟩
     have n0_ := mk0 (Kd.R_below (rT HO448.out) hb)
     have n1_ := mk0 (Kd.R_below (rT HO461.out) hb)
     have n2_ := mk0 (Kd.R_below (rT HO473.out) hb)
     have n3_ := mk0 (bbT BK438.out hb)
     have n4_ := mk0 (below_step (wT HB.out) hb)
     clear HO448
     clear HO461
     clear HO473
     clear BK438
     clear HB
     have HO448 := n0_
     have HO461 := n1_
     have HO473 := n2_
     have BK438 := n3_
     have HB := n4_
     clear n0_ n1_ n2_ n3_ n4_
     (try clear hb)
     (try clear hb2)
     (try clear hk)
     (try clear hi)
     refine hK.out _ _ ⟨ct BK438.out 0, ct BK438.out 1, ct BK438.out 2, ct BK438.out 3, ct BK438.out 4, ct BK438.out 5, ct BK438.out 6⟩ (fun hHeld => ?_)
     clear hK K
     refine norm_ (a' := ?_) ?_ ?_
     rotate_left
     ·show Act.put _ (some 31) _ = _
      simp only [Act.put, List.setIfInBounds_toArray, List.set_cons_zero, List.set_cons_succ, i64_w, i32_w]
      rfl
     refine pure_ (i := 5) (N := some 32) (v := ?_) (a' := ?_) #[true, true, true, true, true, true, false, false, false, false, false, false, false, false, false, false, false, false, false, false] rfl rfl (any_of HT_.out (by kernel_rfl)) (fun _ _ _ h => h) (Or.inl ⟨by rfl, ?_⟩) ?_ ?_
     rotate_left
     ·intro w'
      go_simp
      with_reducible rfl
     rotate_left
     ·exact nrm
     refine pure_ (i := 6) (N := some 33) (v := ?_) (a' := ?_) #[true, true, true, true, true, true, true, false, false, false, false, false, false, false, false, false, false, false, false, false] rfl rfl (any_of HT_.out (by kernel_rfl)) (fun _ _ _ h => h) (Or.inl ⟨by rfl, ?_⟩) ?_ ?_
     rotate_left
     ·intro w'
      go_simp
      with_reducible rfl
     rotate_left
     ·exact nrm
     refine pure_ (i := 7) (N := some 34) (v := ?_) (a' := ?_) #[true, true, true, true, true, true, true, true, false, false, false, false, false, false, false, false, false, false, false, false] rfl rfl (any_of HT_.out (by kernel_rfl)) (fun _ _ _ h => h) (Or.inl ⟨by rfl, ?_⟩) ?_ ?_
     rotate_left
     ·intro w'
      go_simp
      with_reducible rfl
     rotate_left
     ·exact nrm
     refine pure_ (i := 8) (N := some 35) (v := ?_) (a' := ?_) #[true, true, true, true, true, true, true, true, true, false, false, false, false, false, false, false, false, false, false, false] rfl rfl (any_of HT_.out (by kernel_rfl)) (fun _ _ _ h => h) (Or.inl ⟨by rfl, ?_⟩) ?_ ?_
     rotate_left
     ·intro w'
      go_simp
      with_reducible rfl
     rotate_left
     ·exact nrm
     refine pure_ (i := 9) (N := some 36) (v := ?_) (a' := ?_) #[true, true, true, true, true, true, true, true, true, true, false, false, false, false, false, false, false, false, false, false] rfl rfl (any_of HT_.out (by kernel_rfl)) (fun _ _ _ h => h) (Or.inl ⟨by rfl, ?_⟩) ?_ ?_
     rotate_left
     ·intro w'
      go_simp
      with_reducible rfl
     rotate_left
     ·exact nrm
     refine pure_ (i := 10) (N := some 37) (v := ?_) (a' := ?_) #[true, true, true, true, true, true, true, true, true, true, true, false, false, false, false, false, false, false, false, false] rfl rfl (any_of HT_.out (by kernel_rfl)) (fun _ _ _ h => h) (Or.inl ⟨by rfl, ?_⟩) ?_ ?_
     rotate_left
     ·intro w'
      go_simp
      with_reducible rfl
     rotate_left
     ·exact nrm
     refine pure_ (i := 11) (N := some 38) (v := ?_) (a' := ?_) #[true, true, true, true, true, true, true, true, true, true, true, true, false, false, false, false, false, false, false, false] rfl rfl (any_of HT_.out (by kernel_rfl)) (fun _ _ _ h => h) (Or.inl ⟨by rfl, ?_⟩) ?_ ?_
     rotate_left
     ·intro w'
      go_simp
      with_reducible rfl
     rotate_left
     ·exact nrm
     refine pure_ (i := 12) (N := some 39) (v := ?_) (a' := ?_) #[true, true, true, true, true, true, true, true, true, true, true, true, true, false, false, false, false, false, false, false] rfl rfl (any_of HT_.out (by kernel_rfl)) (fun _ _ _ h => h) (Or.inl ⟨by rfl, ?_⟩) ?_ ?_
     rotate_left
     ·intro w'
      go_simp
      with_reducible rfl
     rotate_left
     ·exact nrm
     refine pure_ (i := 13) (N := some 40) (v := ?_) (a' := ?_) #[true, true, true, true, true, true, true, true, true, true, true, true, true, true, false, false, false, false, false, false] rfl rfl (any_of HT_.out (by kernel_rfl)) (fun _ _ _ h => h) (Or.inl ⟨by rfl, ?_⟩) ?_ ?_
     rotate_left
     ·intro w'
      go_simp
      with_reducible rfl
     rotate_left
     ·exact nrm
     refine pure_ (i := 14) (N := some 41) (v := ?_) (a' := ?_) #[true, true, true, true, true, true, true, true, true, true, true, true, true, true, true, false, false, false, false, false] rfl rfl (any_of HT_.out (by kernel_rfl)) (fun _ _ _ h => h) (Or.inl ⟨by rfl, ?_⟩) ?_ ?_
     rotate_left
     ·intro w'
      go_simp
      with_reducible rfl
     rotate_left
     ·exact nrm
     refine pure_ (i := 15) (N := some 42) (v := ?_) (a' := ?_) #[true, true, true, true, true, true, true, true, true, true, true, true, true, true, true, true, false, false, false, false] rfl rfl (any_of HT_.out (by kernel_rfl)) (fun _ _ _ h => h) (Or.inl ⟨by rfl, ?_⟩) ?_ ?_
     rotate_left
     ·intro w'
      go_simp
      with_reducible rfl
     rotate_left
     ·exact nrm
     refine pure_ (i := 16) (N := some 43) (v := ?_) (a' := ?_) #[true, true, true, true, true, true, true, true, true, true, true, true, true, true, true, true, true, false, false, false] rfl rfl (any_of HT_.out (by kernel_rfl)) (fun _ _ _ h => h) (Or.inl ⟨by rfl, ?_⟩) ?_ ?_
     rotate_left
     ·intro w'
      go_simp
      with_reducible rfl
     rotate_left
     ·exact nrm
     refine one_ (i := 17) (N := some 44) #[true, true, true, true, true, true, true, true, true, true, true, true, true, true, true, true, true, true, false, false] rfl rfl (one_of HT_.out (by kernel_rfl)) (by decide) (fun K hK => ?_)
     refine goes_ Tryz.func14 (by kernel_rfl) rfl #[] (by rfl) rfl rfl (by (try simp only [List.map_toArray, List.map_cons, List.map_nil]); first | done | rfl | (simp only [List.length_drop, List.length_take]; rfl)) ?_
     with_reducible refine (metrolablaw30_awake.calls k  t475 _ ?side1 A15.out).mono ?_
     (case side1 => exact GW_below HG.out (wT HB.out))
     rintro e w35 ⟨rfl, hb⟩
     refine ⟨_, rfl, ?_⟩
     have n0_ := mk0 (Kd.R_below (rT HO448.out) hb)
     have n1_ := mk0 (Kd.R_below (rT HO461.out) hb)
     have n2_ := mk0 (Kd.R_below (rT HO473.out) hb)
     have n3_ := mk0 (bbT BK438.out hb)
     have n4_ := mk0 (below_step (wT HB.out) hb)
     clear HO448
     clear HO461
     clear HO473
     clear BK438
     clear HB
     have HO448 := n0_
     have HO461 := n1_
     have HO473 := n2_
     have BK438 := n3_
     have HB := n4_
     clear n0_ n1_ n2_ n3_ n4_
     (try clear hb)
     (try clear hb2)
     (try clear hk)
     (try clear hi)
     refine hK.out _ _ ⟨ct BK438.out 0, ct BK438.out 1, ct BK438.out 2, ct BK438.out 3, ct BK438.out 4, ct BK438.out 5, ct BK438.out 6⟩ (fun hHeld => ?_)
     clear hK K
     refine norm_ (a' := ?_) ?_ ?_
     rotate_left
     ·show Act.put _ (some 44) _ = _
      simp only [Act.put, List.setIfInBounds_toArray, List.set_cons_zero, List.set_cons_succ, i64_w, i32_w]
      rfl
     refine pure_ (i := 18) (N := some 45) (v := ?_) (a' := ?_) #[true, true, true, true, true, true, true, true, true, true, true, true, true, true, true, true, true, true, true, false] rfl rfl (any_of HT_.out (by kernel_rfl)) (fun _ _ _ h => h) (Or.inl ⟨by rfl, ?_⟩) ?_ ?_
     rotate_left
     ·intro w'
      go_simp
      with_reducible rfl
     rotate_left
     ·exact nrm
     refine pure_ (i := 19) (N := some 4) (v := ?_) (a' := ?_) #[true, true, true, true, true, true, true, true, true, true, true, true, true, true, true, true, true, true, true, true] rfl rfl (any_of HT_.out (by kernel_rfl)) (fun _ _ _ h => h) (Or.inl ⟨by rfl, ?_⟩) ?_ ?_
     rotate_left
     ·intro w'
      go_simp
      with_reducible rfl
     rotate_left
     ·exact nrm
     refine done_ (done_of HT_.out (by kernel_rfl)) ?_
     try go_wp2
     go_ret
     exact ⟨eqT, wT HB.out⟩
    ·rw [if_neg c14] at H
     have c14b0 : (t452 == t463) = false := beq_eq_false_iff_ne.mpr c14
     have c14b1 : (t452 != t463) = true := bne_iff_ne.mpr c14
     exact absurd H (by simp)
   ·rw [if_neg c13] at H
    have c13b0 : (t451 == t462) = false := by simpa using c13
    (try (have c13b1 : decide (t451 = t462) = false := by simpa using c13))
    (try (have c13b2 : (t451 == t462) = false := by simpa using c13))
    (try (have c13b3 : ¬ (t451 = t462) := by simpa using c13))
    clear c13
    exact absurd H (by simp)
  ·rw [if_neg c12] at H
   have c12b0 : (t464 == t474) = false := beq_eq_false_iff_ne.mpr c12
   have c12b1 : (t464 != t474) = true := bne_iff_ne.mpr c12
   exact absurd H (by simp)
 ·replace c5 := Bool.eq_false_iff.mpr c5
  subst c5
  have H1 : ((metrolablaw30_awake.f k).bind fun t450 => (some t450)) = some r := by rw [if_neg (show ¬ (false = true) by decide)] at H; exact H
  clear H
  have H := H1
  clear H1
  replace H := Option.bind_eq_some_iff.mp H
  obtain ⟨t450, A360, H⟩ := H
  replace H : (some t450) = some r := H
  have A36 := mk0 A360
  clear A360
  obtain rfl := Option.some.inj H
  go_enter Tryz.func3, Tryz.ntmps3
  go_wp2_with (first | ((with_reducible refine gate_dst (N := 2) rfl ?_); refine box_event ?hg (N := 2) ?hd (cs := #[.int .i64 a0_0, .int .i64 a0_1, .int .i64 a0_2, .int .i64 a0_3, .int .i64 a0_4, .int .i64 a0_5, .slice A0_6 l0_6.length c0_6]) (t := 26) ?hr ?_; (case hd => rfl); (case hg => rfl); (case hr => first | (go_simp; done) | (go_simp; rfl)); intro gb438 hg w37 hbox hb; have n0_ := mk0 (below_step (wT HB.out) hb); have n1_ := mk0 (hbox); have n2_ := mk0 ((szT HB.out hg)); have n3_ := mk0 ((szT HB.out hg)); clear HB; have HB := n0_; have BK438 := n1_; have GW438 := n2_; have GE438 := n3_; clear n0_ n1_ n2_ n3_; clear hb hbox hg) | ((with_reducible refine gate_dst (N := 3) rfl ?_); refine box_event ?hg (N := 3) ?hd (cs := #[.int .i64 a1_0, .int .i64 a1_1, .int .i64 a1_2]) (t := 23) ?hr ?_; (case hd => rfl); (case hg => rfl); (case hr => first | (go_simp; done) | (go_simp; rfl)); intro gb439 hg w38 hbox hb; have n0_ := mk0 (bbT BK438.out hb); have n1_ := mk0 (below_step (wT HB.out) hb); have n2_ := mk0 (hbox); have n3_ := mk0 ((szT HB.out hg)); have n4_ := mk0 ((szT HB.out hg)); have n5_ := mk0 ((neL BK438.out hg)); have n6_ := mk0 ((neG BK438.out hg)); clear BK438; clear HB; have BK438 := n0_; have HB := n1_; have BK439 := n2_; have GW439 := n3_; have GE439 := n4_; have NB438_439 := n5_; have NB439_438 := n6_; clear n0_ n1_ n2_ n3_ n4_ n5_ n6_; clear hb hbox hg; (try clear BK439 GW439 GE439); have X39_0 := ct BK438.out 0; have X39_1 := ct BK438.out 1; have X39_2 := ct BK438.out 2; have X39_3 := ct BK438.out 3; have X39_4 := ct BK438.out 4; have X39_5 := ct BK438.out 5; have X39_6 := ct BK438.out 6; have Y39_0 := blk_frozen BK438.out 0; have Y39_1 := blk_frozen BK438.out 1; have Y39_2 := blk_frozen BK438.out 2; have Y39_3 := blk_frozen BK438.out 3; have Y39_4 := blk_frozen BK438.out 4; have Y39_5 := blk_frozen BK438.out 5; have Y39_6 := blk_frozen BK438.out 6; (try clear BK438 GW438 GE438)) | ((with_reducible refine gate_callee (f := 13) rfl ?_); refine goesL_ (some 10) rfl rfl Tryz.func13 (by kernel_rfl) rfl #[.agg #[.int .i64 a0_0, .int .i64 a0_1, .int .i64 a0_2, .int .i64 a0_3, .int .i64 a0_4, .int .i64 a0_5, .slice A0_6 l0_6.length c0_6]] rfl (by (try simp only [List.map_toArray, List.map_cons, List.map_nil]); first | done | rfl | (simp only [List.length_drop, List.length_take]; rfl)) ?_; (with_reducible refine (metrolablaw30_own.calls k a0_0 a0_1 a0_2 a0_3 a0_4 a0_5 _ _ l0_6 t440 t441 t442 t443 t444 t445 t446 _ ?side1 ?side2 A3.out).mono ?_); (case side1 => repeat (first | exact (Kd.C_below HR0_6.out HB.out) | (with_reducible refine Kd.C_alloc ?_ _) | (with_reducible refine Kd.C_drewN ?_ _) | (with_reducible refine Kd.C_drew ?_))); (case side2 => exact HC0_6.out); rintro e w40 ⟨v447, rfl, ho0, hb⟩; refine ⟨_, rfl, ?_⟩; have n0_ := mk0 (Kd.R_lower ho0 (below_size (wT HB.out))); have n1_ := mk0 (below_step (wT HB.out) hb); clear HB; have HO448 := n0_; have HB := n1_; clear n0_ n1_; (try clear hb); (try clear hb2); (try clear hk); (try clear hi); (try clear ho0); obtain ⟨Ao41, co41, eo41⟩ := Kd.R_slice HO448.out; subst eo41) | ((with_reducible refine gate_callee (f := 12) rfl ?_); refine goesL_ (some 11) rfl rfl Tryz.func12 (by kernel_rfl) rfl #[.agg #[.int .i64 t440, .int .i64 t441, .int .i64 t442, .int .i64 t443, .int .i64 t444, .int .i64 t445, .slice Ao41 t446.length co41]] rfl (by (try simp only [List.map_toArray, List.map_cons, List.map_nil]); first | done | rfl | (simp only [List.length_drop, List.length_take]; rfl)) ?_; (with_reducible refine (metrolabref30_Few.calls t440 t441 t442 t443 t444 t445 _ _ t446 false _ ?side1 ?side2 A4.out).mono ?_); (case side1 => repeat (first | exact (Kd.R_reads' HO448.out).2.2 | (with_reducible refine Kd.C_alloc ?_ _) | (with_reducible refine Kd.C_drewN ?_ _) | (with_reducible refine Kd.C_drew ?_))); (case side2 => exact (Kd.R_reads' HO448.out).2.1); rintro e w42 ⟨rfl, hb⟩; refine ⟨_, rfl, ?_⟩; have n0_ := mk0 (Kd.R_below (rT HO448.out) hb); have n1_ := mk0 (below_step (wT HB.out) hb); clear HO448; clear HB; have HO448 := n0_; have HB := n1_; clear n0_ n1_; (try clear hb); (try clear hb2); (try clear hk); (try clear hi)) | ((with_reducible refine gate_callee (f := 14) rfl ?_); refine goesL_ (some 13) rfl rfl Tryz.func14 (by kernel_rfl) rfl #[] rfl (by (try simp only [List.map_toArray, List.map_cons, List.map_nil]); first | done | rfl | (simp only [List.length_drop, List.length_take]; rfl)) ?_; (with_reducible refine (metrolablaw30_awake.calls k  t450 _ ?side1 A36.out).mono ?_); (case side1 => exact GW_below HG.out (wT HB.out)); rintro e w43 ⟨rfl, hb⟩; refine ⟨_, rfl, ?_⟩; have n0_ := mk0 (Kd.R_below (rT HO448.out) hb); have n1_ := mk0 (below_step (wT HB.out) hb); clear HO448; clear HB; have HO448 := n0_; have HB := n1_; clear n0_ n1_; (try clear hb); (try clear hb2); (try clear hk); (try clear hi)))
  go_ret
  exact ⟨eqT, wT HB.out⟩
end Go.Proofs.YtolbjmaabghghaaGreatDoor.PA
