/- A part of the proof. -/
import Derived.Test.YtolbjmaabghghaaGreatDoorCPAx0
import Derived.Test.YtolbjmaabghghaaGreatDoorCPAx1
import Derived.Test.YtolbjmaabghghaaGreatDoorCPAx3
import Derived.Test.YtolbjmaabghghaaGreatDoorCPAx7
import Derived.Test.YtolbjmaabghghaaGreatDoorCPAx16
import Derived.Test.YtolbjmaabghghaaGreatDoorCPAx21
namespace Go.Proofs.YtolbjmaabghghaaGreatDoor.PA
open Go.RowKit Go.PW Go.PL Go.PM
attribute [local go_sem] max2_int min2_int max_two min_two max_three min_three max_four min_four   -- for this text's walks alone
set_option linter.unusedVariables false
set_option maxHeartbeats 8000000
set_option maxRecDepth 100000
set_option linter.unusedSimpArgs false
attribute [local go_sem high] eqA23
def metrolablaw30_ProbeTouches.f (k : Nat) (a0_0 : Int) (a0_1 : Int) (a0_2 : Int) (a0_3 : Int) (a0_4 : Int) (a0_5 : Int) (l0_6 : List (S84)) (a1_0 : Int) (a1_1 : Int) (a1_2 : Int) (a2 : Int) : Option (Bool) := (metrolablaw30_own.f k a0_0 a0_1 a0_2 a0_3 a0_4 a0_5 l0_6).bind fun bt510 => ((metrolabref30_Few.f bt510.1 bt510.2.1 bt510.2.2.1 bt510.2.2.2.1 bt510.2.2.2.2.1 bt510.2.2.2.2.2.1 bt510.2.2.2.2.2.2).bind fun t519 => (if t519 = true then ((probe_Touch.f k a0_0 a0_1 a0_2 a0_3 a0_4 a0_5 l0_6 a1_0 a1_1 a1_2 a2).bind fun bt521 => ((metrolablaw30_own.f k a0_0 a0_1 a0_2 a0_3 a0_4 a0_5 l0_6).bind fun bt530 => ((metrolabref30_Touch.f k bt530.1 bt530.2.1 bt530.2.2.1 bt530.2.2.2.1 bt530.2.2.2.2.1 bt530.2.2.2.2.2.1 bt530.2.2.2.2.2.2 a1_0 a1_1 a1_2 a2).bind fun bt539 => (if (bt521.1 == bt539.1 && (bt521.2.1 == bt539.2.1 && (bt521.2.2.1 == bt539.2.2.1))) = true then (if (bt521.2.2.2.1 == bt539.2.2.2.1 && (bt521.2.2.2.2.1 == bt539.2.2.2.2.1 && (bt521.2.2.2.2.2.1 == bt539.2.2.2.2.2.1))) = true then (if bt521.2.2.2.2.2.2 = bt539.2.2.2.2.2.2 then ((metrolablaw30_awake.f k).bind fun t548 => (some t548)) else (none)) else (none)) else (none))))) else ((metrolablaw30_awake.f k).bind fun t520 => (some t520))))
def metrolablaw30_ProbeTouches.T4 : Bool × List (List Nat × List Nat) := (true, [([], []), ([0], [0]), ([], []), ([], []), ([1, 2, 3, 1], [1, 2, 3]), ([4], [4]), ([5], [5]), ([5], [5]), ([5], [5]), ([], []), ([], []), ([9, 6, 4, 0, 1, 2, 3, 4, 5, 6, 9, 10], [6, 9]), ([10, 7, 11, 0, 1, 2, 3, 4, 5, 6, 7, 9, 10, 11], [7, 10]), ([8, 12, 0, 1, 2, 3, 4, 5, 6, 7, 8, 9, 10, 11, 12], [8])])
def metrolablaw30_ProbeTouches.B4 : List Nat := [0, 1, 0, 0, 15, 31, 63, 63, 63, 0, 0, 1663, 3839, 8191]
theorem metrolablaw30_ProbeTouches.tab4 : rtab .any (opsOf Tryz.f4 4) = metrolablaw30_ProbeTouches.T4 := by kernel_rfl
theorem metrolablaw30_ProbeTouches.bits4 : waitsOk metrolablaw30_ProbeTouches.T4.2 metrolablaw30_ProbeTouches.B4 = true := by kernel_rfl
theorem metrolablaw30_ProbeTouches.calls (k : Nat) (a0_0 : Int) (a0_1 : Int) (a0_2 : Int) (a0_3 : Int) (a0_4 : Int) (a0_5 : Int) (A0_6 : Option Addr) (c0_6 : Nat) (l0_6 : List (S84)) (a1_0 : Int) (a1_1 : Int) (a1_2 : Int) (a2 : Int) (r : Bool) (w : World) (hG : GW w) (hr0_6 : Kd.C k84 w A0_6 l0_6.length l0_6) (hc0_6 : l0_6.length ≤ c0_6) (h : metrolablaw30_ProbeTouches.f k a0_0 a0_1 a0_2 a0_3 a0_4 a0_5 l0_6 a1_0 a1_1 a1_2 a2 = some r) :
  Calls Tryz.prog 4 #[.agg #[.int .i64 a0_0, .int .i64 a0_1, .int .i64 a0_2, .int .i64 a0_3, .int .i64 a0_4, .int .i64 a0_5, .slice A0_6 l0_6.length c0_6], .agg #[.int .i64 a1_0, .int .i64 a1_1, .int .i64 a1_2], .int .i64 a2] w fun e w' => e = .returned (.bool r) ∧ Below w.heap.size w w' := by
 have hu26 := Tryz.underlying26
 have hu23 := Tryz.underlying23
 have HG := mk0 hG
 clear hG
 have HR0_6 := mk0 hr0_6
 have HC0_6 := mk0 hc0_6
 clear hr0_6 hc0_6
 have HB := mk0 (Below.refl w.heap.size w)
 have H : ((metrolablaw30_own.f k a0_0 a0_1 a0_2 a0_3 a0_4 a0_5 l0_6).bind fun bt510 => ((metrolabref30_Few.f bt510.1 bt510.2.1 bt510.2.2.1 bt510.2.2.2.1 bt510.2.2.2.2.1 bt510.2.2.2.2.2.1 bt510.2.2.2.2.2.2).bind fun t519 => (if t519 = true then ((probe_Touch.f k a0_0 a0_1 a0_2 a0_3 a0_4 a0_5 l0_6 a1_0 a1_1 a1_2 a2).bind fun bt521 => ((metrolablaw30_own.f k a0_0 a0_1 a0_2 a0_3 a0_4 a0_5 l0_6).bind fun bt530 => ((metrolabref30_Touch.f k bt530.1 bt530.2.1 bt530.2.2.1 bt530.2.2.2.1 bt530.2.2.2.2.1 bt530.2.2.2.2.2.1 bt530.2.2.2.2.2.2 a1_0 a1_1 a1_2 a2).bind fun bt539 => (if (bt521.1 == bt539.1 && (bt521.2.1 == bt539.2.1 && (bt521.2.2.1 == bt539.2.2.1))) = true then (if (bt521.2.2.2.1 == bt539.2.2.2.1 && (bt521.2.2.2.2.1 == bt539.2.2.2.2.1 && (bt521.2.2.2.2.2.1 == bt539.2.2.2.2.2.1))) = true then (if bt521.2.2.2.2.2.2 = bt539.2.2.2.2.2.2 then ((metrolablaw30_awake.f k).bind fun t548 => (some t548)) else (none)) else (none)) else (none))))) else ((metrolablaw30_awake.f k).bind fun t520 => (some t520))))) = some r := h
 clear h
 replace H := Option.bind_eq_some_iff.mp H
 obtain ⟨⟨t510, t511, t512, t513, t514, t515, t516⟩, A40, H⟩ := H
 replace H : ((metrolabref30_Few.f t510 t511 t512 t513 t514 t515 t516).bind fun t519 => (if t519 = true then ((probe_Touch.f k a0_0 a0_1 a0_2 a0_3 a0_4 a0_5 l0_6 a1_0 a1_1 a1_2 a2).bind fun bt521 => ((metrolablaw30_own.f k a0_0 a0_1 a0_2 a0_3 a0_4 a0_5 l0_6).bind fun bt530 => ((metrolabref30_Touch.f k bt530.1 bt530.2.1 bt530.2.2.1 bt530.2.2.2.1 bt530.2.2.2.2.1 bt530.2.2.2.2.2.1 bt530.2.2.2.2.2.2 a1_0 a1_1 a1_2 a2).bind fun bt539 => (if (bt521.1 == bt539.1 && (bt521.2.1 == bt539.2.1 && (bt521.2.2.1 == bt539.2.2.1))) = true then (if (bt521.2.2.2.1 == bt539.2.2.2.1 && (bt521.2.2.2.2.1 == bt539.2.2.2.2.1 && (bt521.2.2.2.2.2.1 == bt539.2.2.2.2.2.1))) = true then (if bt521.2.2.2.2.2.2 = bt539.2.2.2.2.2.2 then ((metrolablaw30_awake.f k).bind fun t548 => (some t548)) else (none)) else (none)) else (none))))) else ((metrolablaw30_awake.f k).bind fun t520 => (some t520)))) = some r := H
 have A4 := mk0 A40
 clear A40
 replace H := Option.bind_eq_some_iff.mp H
 obtain ⟨t519, A50, H⟩ := H
 replace H : (if t519 = true then ((probe_Touch.f k a0_0 a0_1 a0_2 a0_3 a0_4 a0_5 l0_6 a1_0 a1_1 a1_2 a2).bind fun bt521 => ((metrolablaw30_own.f k a0_0 a0_1 a0_2 a0_3 a0_4 a0_5 l0_6).bind fun bt530 => ((metrolabref30_Touch.f k bt530.1 bt530.2.1 bt530.2.2.1 bt530.2.2.2.1 bt530.2.2.2.2.1 bt530.2.2.2.2.2.1 bt530.2.2.2.2.2.2 a1_0 a1_1 a1_2 a2).bind fun bt539 => (if (bt521.1 == bt539.1 && (bt521.2.1 == bt539.2.1 && (bt521.2.2.1 == bt539.2.2.1))) = true then (if (bt521.2.2.2.1 == bt539.2.2.2.1 && (bt521.2.2.2.2.1 == bt539.2.2.2.2.1 && (bt521.2.2.2.2.2.1 == bt539.2.2.2.2.2.1))) = true then (if bt521.2.2.2.2.2.2 = bt539.2.2.2.2.2.2 then ((metrolablaw30_awake.f k).bind fun t548 => (some t548)) else (none)) else (none)) else (none))))) else ((metrolablaw30_awake.f k).bind fun t520 => (some t520))) = some r := H
 have A5 := mk0 A50
 clear A50
 by_cases c6 : t519 = true
 ·subst c6
  have H1 : ((probe_Touch.f k a0_0 a0_1 a0_2 a0_3 a0_4 a0_5 l0_6 a1_0 a1_1 a1_2 a2).bind fun bt521 => ((metrolablaw30_own.f k a0_0 a0_1 a0_2 a0_3 a0_4 a0_5 l0_6).bind fun bt530 => ((metrolabref30_Touch.f k bt530.1 bt530.2.1 bt530.2.2.1 bt530.2.2.2.1 bt530.2.2.2.2.1 bt530.2.2.2.2.2.1 bt530.2.2.2.2.2.2 a1_0 a1_1 a1_2 a2).bind fun bt539 => (if (bt521.1 == bt539.1 && (bt521.2.1 == bt539.2.1 && (bt521.2.2.1 == bt539.2.2.1))) = true then (if (bt521.2.2.2.1 == bt539.2.2.2.1 && (bt521.2.2.2.2.1 == bt539.2.2.2.2.1 && (bt521.2.2.2.2.2.1 == bt539.2.2.2.2.2.1))) = true then (if bt521.2.2.2.2.2.2 = bt539.2.2.2.2.2.2 then ((metrolablaw30_awake.f k).bind fun t548 => (some t548)) else (none)) else (none)) else (none))))) = some r := by rw [if_pos rfl] at H; exact H
  clear H
  have H := H1
  clear H1
  replace H := Option.bind_eq_some_iff.mp H
  obtain ⟨⟨t521, t522, t523, t524, t525, t526, t527⟩, A70, H⟩ := H
  replace H : ((metrolablaw30_own.f k a0_0 a0_1 a0_2 a0_3 a0_4 a0_5 l0_6).bind fun bt530 => ((metrolabref30_Touch.f k bt530.1 bt530.2.1 bt530.2.2.1 bt530.2.2.2.1 bt530.2.2.2.2.1 bt530.2.2.2.2.2.1 bt530.2.2.2.2.2.2 a1_0 a1_1 a1_2 a2).bind fun bt539 => (if (t521 == bt539.1 && (t522 == bt539.2.1 && (t523 == bt539.2.2.1))) = true then (if (t524 == bt539.2.2.2.1 && (t525 == bt539.2.2.2.2.1 && (t526 == bt539.2.2.2.2.2.1))) = true then (if t527 = bt539.2.2.2.2.2.2 then ((metrolablaw30_awake.f k).bind fun t548 => (some t548)) else (none)) else (none)) else (none)))) = some r := H
  have A7 := mk0 A70
  clear A70
  replace H := Option.bind_eq_some_iff.mp H
  obtain ⟨⟨t530, t531, t532, t533, t534, t535, t536⟩, A80, H⟩ := H
  replace H : ((metrolabref30_Touch.f k t530 t531 t532 t533 t534 t535 t536 a1_0 a1_1 a1_2 a2).bind fun bt539 => (if (t521 == bt539.1 && (t522 == bt539.2.1 && (t523 == bt539.2.2.1))) = true then (if (t524 == bt539.2.2.2.1 && (t525 == bt539.2.2.2.2.1 && (t526 == bt539.2.2.2.2.2.1))) = true then (if t527 = bt539.2.2.2.2.2.2 then ((metrolablaw30_awake.f k).bind fun t548 => (some t548)) else (none)) else (none)) else (none))) = some r := H
  have A8 := mk0 A80
  clear A80
  replace H := Option.bind_eq_some_iff.mp H
  obtain ⟨⟨t539, t540, t541, t542, t543, t544, t545⟩, A90, H⟩ := H
  replace H : (if (t521 == t539 && (t522 == t540 && (t523 == t541))) = true then (if (t524 == t542 && (t525 == t543 && (t526 == t544))) = true then (if t527 = t545 then ((metrolablaw30_awake.f k).bind fun t548 => (some t548)) else (none)) else (none)) else (none)) = some r := H
  have A9 := mk0 A90
  clear A90
  by_cases c10 : (t521 == t539 && (t522 == t540 && (t523 == t541))) = true
  ·rw [if_pos c10] at H
   have c10b0 : (t521 == t539 && (t522 == t540 && (t523 == t541))) = true := c10
   (try (have c10b1 : decide (t521 = t539 && (t522 == t540 && (t523 == t541))) = true := by simpa using c10))
   (try (have c10b2 : (t521 == t539 && (t522 == t540 && (t523 == t541))) = true := by simpa using c10))
   clear c10
   by_cases c11 : (t524 == t542 && (t525 == t543 && (t526 == t544))) = true
   ·rw [if_pos c11] at H
    have c11b0 : (t524 == t542 && (t525 == t543 && (t526 == t544))) = true := c11
    (try (have c11b1 : decide (t524 = t542 && (t525 == t543 && (t526 == t544))) = true := by simpa using c11))
    (try (have c11b2 : (t524 == t542 && (t525 == t543 && (t526 == t544))) = true := by simpa using c11))
    clear c11
    by_cases c12 : t527 = t545
    ·rw [if_pos c12] at H
     have c12b0 : (t527 == t545) = true := beq_iff_eq.mpr c12
     have c12b1 : (t527 != t545) = false := bne_eq_false_iff_eq.mpr c12
     clear c12
     replace H := Option.bind_eq_some_iff.mp H
     obtain ⟨t548, A130, H⟩ := H
     replace H : (some t548) = some r := H
     have A13 := mk0 A130
     clear A130
     obtain rfl := Option.some.inj H
     go_enter Tryz.func4, Tryz.ntmps4
     try go_wp2_with (first | ((with_reducible refine gate_dst (N := 3) rfl ?_); refine box_event ?hg (N := 3) ?hd (cs := #[.int .i64 a0_0, .int .i64 a0_1, .int .i64 a0_2, .int .i64 a0_3, .int .i64 a0_4, .int .i64 a0_5, .slice A0_6 l0_6.length c0_6]) (t := 26) ?hr ?_; (case hd => rfl); (case hg => rfl); (case hr => first | (go_simp; done) | (go_simp; rfl)); intro gb508 hg w14 hbox hb; have n0_ := mk0 (below_step (wT HB.out) hb); have n1_ := mk0 (hbox); have n2_ := mk0 ((szT HB.out hg)); have n3_ := mk0 ((szT HB.out hg)); clear HB; have HB := n0_; have BK508 := n1_; have GW508 := n2_; have GE508 := n3_; clear n0_ n1_ n2_ n3_; clear hb hbox hg) | ((with_reducible refine gate_dst (N := 4) rfl ?_); refine box_event ?hg (N := 4) ?hd (cs := #[.int .i64 a1_0, .int .i64 a1_1, .int .i64 a1_2]) (t := 23) ?hr ?_; (case hd => rfl); (case hg => rfl); (case hr => first | (go_simp; done) | (go_simp; rfl)); intro gb509 hg w15 hbox hb; have n0_ := mk0 (bbT BK508.out hb); have n1_ := mk0 (below_step (wT HB.out) hb); have n2_ := mk0 (hbox); have n3_ := mk0 ((szT HB.out hg)); have n4_ := mk0 ((szT HB.out hg)); have n5_ := mk0 ((neL BK508.out hg)); have n6_ := mk0 ((neG BK508.out hg)); clear BK508; clear HB; have BK508 := n0_; have HB := n1_; have BK509 := n2_; have GW509 := n3_; have GE509 := n4_; have NB508_509 := n5_; have NB509_508 := n6_; clear n0_ n1_ n2_ n3_ n4_ n5_ n6_; clear hb hbox hg; have hnb16 := NB508_509.out; have hnc16 := NB509_508.out; have X17_0 := ct BK508.out 0; have X17_1 := ct BK508.out 1; have X17_2 := ct BK508.out 2; have X17_3 := ct BK508.out 3; have X17_4 := ct BK508.out 4; have X17_5 := ct BK508.out 5; have X17_6 := ct BK508.out 6; have Y17_0 := blk_frozen BK508.out 0; have Y17_1 := blk_frozen BK508.out 1; have Y17_2 := blk_frozen BK508.out 2; have Y17_3 := blk_frozen BK508.out 3; have Y17_4 := blk_frozen BK508.out 4; have Y17_5 := blk_frozen BK508.out 5; have Y17_6 := blk_frozen BK508.out 6) | ((with_reducible refine gate_callee (f := 13) rfl ?_); refine goesL_ (some 14) rfl rfl Tryz.func13 (by kernel_rfl) rfl #[.agg #[.int .i64 a0_0, .int .i64 a0_1, .int .i64 a0_2, .int .i64 a0_3, .int .i64 a0_4, .int .i64 a0_5, .slice A0_6 l0_6.length c0_6]] rfl (by (try simp only [List.map_toArray, List.map_cons, List.map_nil]); first | done | rfl | (simp only [List.length_drop, List.length_take]; rfl)) ?_; (with_reducible refine (metrolablaw30_own.calls k a0_0 a0_1 a0_2 a0_3 a0_4 a0_5 _ _ l0_6 t510 t511 t512 t513 t514 t515 t516 _ ?side1 ?side2 A4.out).mono ?_); (case side1 => repeat (first | exact (Kd.C_below HR0_6.out HB.out) | (with_reducible refine Kd.C_alloc ?_ _) | (with_reducible refine Kd.C_drewN ?_ _) | (with_reducible refine Kd.C_drew ?_))); (case side2 => exact HC0_6.out); rintro e w18 ⟨v517, rfl, ho0, hb⟩; refine ⟨_, rfl, ?_⟩; have n0_ := mk0 (Kd.R_lower ho0 (below_size (wT HB.out))); have n1_ := mk0 (bbT BK508.out hb); have n2_ := mk0 (bbT BK509.out hb); have n3_ := mk0 (below_step (wT HB.out) hb); clear BK508; clear BK509; clear HB; have HO518 := n0_; have BK508 := n1_; have BK509 := n2_; have HB := n3_; clear n0_ n1_ n2_ n3_; (try clear hb); (try clear hb2); (try clear hk); (try clear hi); (try clear ho0); obtain ⟨Ao19, co19, eo19⟩ := Kd.R_slice HO518.out; subst eo19) | ((with_reducible refine gate_callee (f := 12) rfl ?_); refine goesL_ (some 15) rfl rfl Tryz.func12 (by kernel_rfl) rfl #[.agg #[.int .i64 t510, .int .i64 t511, .int .i64 t512, .int .i64 t513, .int .i64 t514, .int .i64 t515, .slice Ao19 t516.length co19]] rfl (by (try simp only [List.map_toArray, List.map_cons, List.map_nil]); first | done | rfl | (simp only [List.length_drop, List.length_take]; rfl)) ?_; (with_reducible refine (metrolabref30_Few.calls t510 t511 t512 t513 t514 t515 _ _ t516 true _ ?side1 ?side2 A5.out).mono ?_); (case side1 => repeat (first | exact (Kd.R_reads' HO518.out).2.2 | (with_reducible refine Kd.C_alloc ?_ _) | (with_reducible refine Kd.C_drewN ?_ _) | (with_reducible refine Kd.C_drew ?_))); (case side2 => exact (Kd.R_reads' HO518.out).2.1); rintro e w20 ⟨rfl, hb⟩; refine ⟨_, rfl, ?_⟩; have n0_ := mk0 (Kd.R_below (rT HO518.out) hb); have n1_ := mk0 (bbT BK508.out hb); have n2_ := mk0 (bbT BK509.out hb); have n3_ := mk0 (below_step (wT HB.out) hb); clear HO518; clear BK508; clear BK509; clear HB; have HO518 := n0_; have BK508 := n1_; have BK509 := n2_; have HB := n3_; clear n0_ n1_ n2_ n3_; (try clear hb); (try clear hb2); (try clear hk); (try clear hi); have X21_0 := ct BK508.out 0; have X21_1 := ct BK508.out 1; have X21_2 := ct BK508.out 2; have X21_3 := ct BK508.out 3; have X21_4 := ct BK508.out 4; have X21_5 := ct BK508.out 5; have X21_6 := ct BK508.out 6; have Y21_0 := blk_frozen BK508.out 0; have Y21_1 := blk_frozen BK508.out 1; have Y21_2 := blk_frozen BK508.out 2; have Y21_3 := blk_frozen BK508.out 3; have Y21_4 := blk_frozen BK508.out 4; have Y21_5 := blk_frozen BK508.out 5; have Y21_6 := blk_frozen BK508.out 6; have X22_0 := ct BK509.out 0; have X22_1 := ct BK509.out 1; have X22_2 := ct BK509.out 2; have Y22_0 := blk_frozen BK509.out 0; have Y22_1 := blk_frozen BK509.out 1; have Y22_2 := blk_frozen BK509.out 2) | ((with_reducible refine gate_callee (f := 19) rfl ?_); refine goesL_ (some 22) rfl rfl Tryz.func19 (by kernel_rfl) rfl #[.agg #[.int .i64 a0_0, .int .i64 a0_1, .int .i64 a0_2, .int .i64 a0_3, .int .i64 a0_4, .int .i64 a0_5, .slice A0_6 l0_6.length c0_6], .agg #[.int .i64 a1_0, .int .i64 a1_1, .int .i64 a1_2], .int .i64 a2] rfl (by (try simp only [List.map_toArray, List.map_cons, List.map_nil]); first | done | rfl | (simp only [List.length_drop, List.length_take]; rfl)) ?_; (with_reducible refine (probe_Touch.calls k a0_0 a0_1 a0_2 a0_3 a0_4 a0_5 _ _ l0_6 a1_0 a1_1 a1_2 a2 t521 t522 t523 t524 t525 t526 t527 _ ?side1 ?side2 A7.out).mono ?_); (case side1 => repeat (first | exact (Kd.C_below HR0_6.out HB.out) | (with_reducible refine Kd.C_alloc ?_ _) | (with_reducible refine Kd.C_drewN ?_ _) | (with_reducible refine Kd.C_drew ?_))); (case side2 => exact HC0_6.out); rintro e w23 ⟨rfl, hb⟩; refine ⟨_, rfl, ?_⟩; have n0_ := mk0 (Kd.R_below (rT HO518.out) hb); have n1_ := mk0 (bbT BK508.out hb); have n2_ := mk0 (bbT BK509.out hb); have n3_ := mk0 (below_step (wT HB.out) hb); clear HO518; clear BK508; clear BK509; clear HB; have HO518 := n0_; have BK508 := n1_; have BK509 := n2_; have HB := n3_; clear n0_ n1_ n2_ n3_; (try clear hb); (try clear hb2); (try clear hk); (try clear hi)) | ((with_reducible refine gate_dst (N := 7) rfl ?_); refine box_event ?hg (N := 7) ?hd (cs := #[.int .i64 0, .int .i64 0, .int .i64 0]) (t := 23) ?hr ?_; (case hd => rfl); (case hg => rfl); (case hr => first | (go_simp; done) | (go_simp; rfl)); intro gb528 hg w24 hbox hb; have n0_ := mk0 (Kd.R_below (rT HO518.out) hb); have n1_ := mk0 (bbT BK508.out hb); have n2_ := mk0 (bbT BK509.out hb); have n3_ := mk0 (below_step (wT HB.out) hb); have n4_ := mk0 (hbox); have n5_ := mk0 ((szT HB.out hg)); have n6_ := mk0 ((szT HB.out hg)); have n7_ := mk0 ((neL BK508.out hg)); have n8_ := mk0 ((neG BK508.out hg)); have n9_ := mk0 ((neL BK509.out hg)); have n10_ := mk0 ((neG BK509.out hg)); clear HO518; clear BK508; clear BK509; clear HB; have HO518 := n0_; have BK508 := n1_; have BK509 := n2_; have HB := n3_; have BK528 := n4_; have GW528 := n5_; have GE528 := n6_; have NB508_528 := n7_; have NB528_508 := n8_; have NB509_528 := n9_; have NB528_509 := n10_; clear n0_ n1_ n2_ n3_ n4_ n5_ n6_ n7_ n8_ n9_ n10_; clear hb hbox hg) | ((with_reducible refine gate_dst (N := 8) rfl ?_); refine box_event ?hg (N := 8) ?hd (cs := #[.int .i64 0, .int .i64 0, .int .i64 0]) (t := 23) ?hr ?_; (case hd => rfl); (case hg => rfl); (case hr => first | (go_simp; done) | (go_simp; rfl)); intro gb529 hg w25 hbox hb; have n0_ := mk0 (Kd.R_below (rT HO518.out) hb); have n1_ := mk0 (bbT BK508.out hb); have n2_ := mk0 (bbT BK509.out hb); have n3_ := mk0 (bbT BK528.out hb); have n4_ := mk0 (below_step (wT HB.out) hb); have n5_ := mk0 (hbox); have n6_ := mk0 ((szT HB.out hg)); have n7_ := mk0 ((szT HB.out hg)); have n8_ := mk0 ((neL BK508.out hg)); have n9_ := mk0 ((neG BK508.out hg)); have n10_ := mk0 ((neL BK509.out hg)); have n11_ := mk0 ((neG BK509.out hg)); have n12_ := mk0 ((neL BK528.out hg)); have n13_ := mk0 ((neG BK528.out hg)); clear HO518; clear BK508; clear BK509; clear BK528; clear HB; have HO518 := n0_; have BK508 := n1_; have BK509 := n2_; have BK528 := n3_; have HB := n4_; have BK529 := n5_; have GW529 := n6_; have GE529 := n7_; have NB508_529 := n8_; have NB529_508 := n9_; have NB509_529 := n10_; have NB529_509 := n11_; have NB528_529 := n12_; have NB529_528 := n13_; clear n0_ n1_ n2_ n3_ n4_ n5_ n6_ n7_ n8_ n9_ n10_ n11_ n12_ n13_; clear hb hbox hg; have hnb26 := NB528_508.out; have hnc26 := NB508_528.out; have hnb27 := NB528_509.out; have hnc27 := NB509_528.out; have hnb28 := NB528_529.out; have hnc28 := NB529_528.out; have X29_0 := ct BK528.out 0; have X29_1 := ct BK528.out 1; have X29_2 := ct BK528.out 2; have Y29_0 := blk_frozen BK528.out 0; have Y29_1 := blk_frozen BK528.out 1; have Y29_2 := blk_frozen BK528.out 2; have hnb30 := NB529_508.out; have hnc30 := NB508_529.out; have hnb31 := NB529_509.out; have hnc31 := NB509_529.out; have X32_0 := ct BK529.out 0; have X32_1 := ct BK529.out 1; have X32_2 := ct BK529.out 2; have Y32_0 := blk_frozen BK529.out 0; have Y32_1 := blk_frozen BK529.out 1; have Y32_2 := blk_frozen BK529.out 2))
     have n0_ : Aside0 (Kd.R k92 92 ((((((w25.setCell ⟨gb528, 0, none⟩ (.int .i64 t521)).setCell ⟨gb528, 1, none⟩ (.int .i64 t522)).setCell ⟨gb528, 2, none⟩ (.int .i64 t523)).setCell ⟨gb529, 0, none⟩ (.int .i64 t524)).setCell ⟨gb529, 1, none⟩ (.int .i64 t525)).setCell ⟨gb529, 2, none⟩ (.int .i64 t526)) w.heap.size (fun _ => True) (.slice Ao19 t516.length co19) t516) := ⟨by (with_reducible repeat (first | apply Kd.R_alloc | apply Kd.R_drewN | apply Kd.R_drew)); exact Kd.R_mono (Kd.R_far (p := ⟨gb529, 2, none⟩) (Kd.R_far (p := ⟨gb529, 1, none⟩) (Kd.R_far (p := ⟨gb529, 0, none⟩) (Kd.R_far (p := ⟨gb528, 2, none⟩) (Kd.R_far (p := ⟨gb528, 1, none⟩) (Kd.R_far (p := ⟨gb528, 0, none⟩) (Kd.R_types (Kd.R_types HO518.out BK528.out (by decide)) BK529.out (by decide)) (fun _ hk => hk.1.2) (.int .i64 t521)) (fun _ hk => hk.1.2) (.int .i64 t522)) (fun _ hk => hk.1.2) (.int .i64 t523)) (fun _ hk => by first | trivial | exact hk.2 | exact hk) (.int .i64 t524)) (fun _ hk => by first | trivial | exact hk.2 | exact hk) (.int .i64 t525)) (fun _ hk => by first | trivial | exact hk.2 | exact hk) (.int .i64 t526)) (fun _ hk => trivial)⟩
     have n1_ : Aside0 (((((((w25.setCell ⟨gb528, 0, none⟩ (.int .i64 t521)).setCell ⟨gb528, 1, none⟩ (.int .i64 t522)).setCell ⟨gb528, 2, none⟩ (.int .i64 t523)).setCell ⟨gb529, 0, none⟩ (.int .i64 t524)).setCell ⟨gb529, 1, none⟩ (.int .i64 t525)).setCell ⟨gb529, 2, none⟩ (.int .i64 t526)).heap[gb508]? = some (.cells #[.int .i64 a0_0, .int .i64 a0_1, .int .i64 a0_2, .int .i64 a0_3, .int .i64 a0_4, .int .i64 a0_5, .slice A0_6 l0_6.length c0_6] 26 (0, 0))) := ⟨by (with_reducible repeat (first | refine blk_drewN ?_ _ | refine blk_drew ?_ | refine blk_alloc ?_ _)); refine blk_far ?_ NB508_529.out _; refine blk_far ?_ NB508_529.out _; refine blk_far ?_ NB508_529.out _; refine blk_far ?_ NB508_528.out _; refine blk_far ?_ NB508_528.out _; refine blk_far ?_ NB508_528.out _; (with_reducible repeat (first | refine blk_drewN ?_ _ | refine blk_drew ?_ | refine blk_alloc ?_ _)); exact BK508.out⟩
     have n2_ : Aside0 (((((((w25.setCell ⟨gb528, 0, none⟩ (.int .i64 t521)).setCell ⟨gb528, 1, none⟩ (.int .i64 t522)).setCell ⟨gb528, 2, none⟩ (.int .i64 t523)).setCell ⟨gb529, 0, none⟩ (.int .i64 t524)).setCell ⟨gb529, 1, none⟩ (.int .i64 t525)).setCell ⟨gb529, 2, none⟩ (.int .i64 t526)).heap[gb509]? = some (.cells #[.int .i64 a1_0, .int .i64 a1_1, .int .i64 a1_2] 23 (0, 0))) := ⟨by (with_reducible repeat (first | refine blk_drewN ?_ _ | refine blk_drew ?_ | refine blk_alloc ?_ _)); refine blk_far ?_ NB509_529.out _; refine blk_far ?_ NB509_529.out _; refine blk_far ?_ NB509_529.out _; refine blk_far ?_ NB509_528.out _; refine blk_far ?_ NB509_528.out _; refine blk_far ?_ NB509_528.out _; (with_reducible repeat (first | refine blk_drewN ?_ _ | refine blk_drew ?_ | refine blk_alloc ?_ _)); exact BK509.out⟩
     have n3_ : Aside0 (((((((w25.setCell ⟨gb528, 0, none⟩ (.int .i64 t521)).setCell ⟨gb528, 1, none⟩ (.int .i64 t522)).setCell ⟨gb528, 2, none⟩ (.int .i64 t523)).setCell ⟨gb529, 0, none⟩ (.int .i64 t524)).setCell ⟨gb529, 1, none⟩ (.int .i64 t525)).setCell ⟨gb529, 2, none⟩ (.int .i64 t526)).heap[gb528]? = some (.cells #[.int .i64 t521, .int .i64 t522, .int .i64 t523] 23 (0, 0))) := ⟨by (with_reducible repeat (first | refine blk_drewN ?_ _ | refine blk_drew ?_ | refine blk_alloc ?_ _)); refine blk_far ?_ NB528_529.out _; refine blk_far ?_ NB528_529.out _; refine blk_far ?_ NB528_529.out _; refine blk_put (cs := #[.int .i64 t521, .int .i64 t522, .int .i64 0]) ?_ 2 _ rfl; refine blk_put (cs := #[.int .i64 t521, .int .i64 0, .int .i64 0]) ?_ 1 _ rfl; refine blk_put (cs := #[.int .i64 0, .int .i64 0, .int .i64 0]) ?_ 0 _ rfl; (with_reducible repeat (first | refine blk_drewN ?_ _ | refine blk_drew ?_ | refine blk_alloc ?_ _)); exact BK528.out⟩
     have n4_ : Aside0 (((((((w25.setCell ⟨gb528, 0, none⟩ (.int .i64 t521)).setCell ⟨gb528, 1, none⟩ (.int .i64 t522)).setCell ⟨gb528, 2, none⟩ (.int .i64 t523)).setCell ⟨gb529, 0, none⟩ (.int .i64 t524)).setCell ⟨gb529, 1, none⟩ (.int .i64 t525)).setCell ⟨gb529, 2, none⟩ (.int .i64 t526)).heap[gb529]? = some (.cells #[.int .i64 t524, .int .i64 t525, .int .i64 t526] 23 (0, 0))) := ⟨by (with_reducible repeat (first | refine blk_drewN ?_ _ | refine blk_drew ?_ | refine blk_alloc ?_ _)); refine blk_put (cs := #[.int .i64 t524, .int .i64 t525, .int .i64 0]) ?_ 2 _ rfl; refine blk_put (cs := #[.int .i64 t524, .int .i64 0, .int .i64 0]) ?_ 1 _ rfl; refine blk_put (cs := #[.int .i64 0, .int .i64 0, .int .i64 0]) ?_ 0 _ rfl; refine blk_far ?_ NB529_528.out _; refine blk_far ?_ NB529_528.out _; refine blk_far ?_ NB529_528.out _; (with_reducible repeat (first | refine blk_drewN ?_ _ | refine blk_drew ?_ | refine blk_alloc ?_ _)); exact BK529.out⟩
     have n5_ : Aside0 (Below w.heap.size w ((((((w25.setCell ⟨gb528, 0, none⟩ (.int .i64 t521)).setCell ⟨gb528, 1, none⟩ (.int .i64 t522)).setCell ⟨gb528, 2, none⟩ (.int .i64 t523)).setCell ⟨gb529, 0, none⟩ (.int .i64 t524)).setCell ⟨gb529, 1, none⟩ (.int .i64 t525)).setCell ⟨gb529, 2, none⟩ (.int .i64 t526))) := ⟨by repeat (first | (with_reducible first | exact HB.out | apply below_alloc | apply pw_below_drewN | apply below_drew1 | refine below_set ?_ GE528.out | refine below_set ?_ GE529.out) | exact HB.out)⟩
     (try clear HO518)
     (try clear BK508)
     (try clear BK509)
     (try clear BK528)
     (try clear BK529)
     (try clear HB)
     generalize ((((((w25.setCell ⟨gb528, 0, none⟩ (.int .i64 t521)).setCell ⟨gb528, 1, none⟩ (.int .i64 t522)).setCell ⟨gb528, 2, none⟩ (.int .i64 t523)).setCell ⟨gb529, 0, none⟩ (.int .i64 t524)).setCell ⟨gb529, 1, none⟩ (.int .i64 t525)).setCell ⟨gb529, 2, none⟩ (.int .i64 t526)) = w33 at n0_ n1_ n2_ n3_ n4_ n5_ ⊢
     have HO518 := n0_
     have BK508 := n1_
     have BK509 := n2_
     have BK528 := n3_
     have BK529 := n4_
     have HB := n5_
     clear n0_ n1_ n2_ n3_ n4_ n5_
     have n0_ := mk0 (Kd.R_drew HO518.out)
     have n1_ := mk0 (blk_drew BK508.out)
     have n2_ := mk0 (blk_drew BK509.out)
     have n3_ := mk0 (blk_drew BK528.out)
     have n4_ := mk0 (blk_drew BK529.out)
     have n5_ := mk0 (below_drew1 HB.out)
     clear HO518
     clear BK508
     clear BK509
     clear BK528
     clear BK529
     clear HB
     have HO518 := n0_
     have BK508 := n1_
     have BK509 := n2_
     have BK528 := n3_
     have BK529 := n4_
     have HB := n5_
     clear n0_ n1_ n2_ n3_ n4_ n5_
     refine start_ (n := 14) (S := fun w' => True) (ds := []) #[false, false, false, false, false, false, false, false, false, false, false, false, false, false] (by kernel_rfl) rfl rfl trivial (fun hHeld => ?_); refine with_tabW metrolablaw30_ProbeTouches.tab4 metrolablaw30_ProbeTouches.bits4 (fun HT_ HW_ => ?_)
     generalize w33.drew = w34 at HO518 BK508 BK509 BK528 BK529 HB hHeld ⊢
     refine pure_ (i := 3) (N := some 30) (v := ?_) (a' := ?_) #[false, false, false, true, false, false, false, false, false, false, false, false, false, false] rfl rfl (any_of HT_.out (by kernel_rfl)) (fun _ _ _ h => h) (Or.inl ⟨by rfl, ?_⟩) ?_ ?_
     rotate_left
     ·intro w'
      go_simp
      with_reducible rfl
     rotate_left
     ·exact nrm
     refine inv_at [0, 1, 2, 4, 5, 6, 7, 8, 9, 10, 11, 12, 13] (fun a0_ b a w' => ∃ (v537 : Value) (gb546 : Nat) (gb547 : Nat) (m1_ : Value) (m9_ : Value) (m10_ : Value), a = putSel a0_ b [(0, 27, .agg #[.int .i64 a0_0, .int .i64 a0_1, .int .i64 a0_2, .int .i64 a0_3, .int .i64 a0_4, .int .i64 a0_5, .slice A0_6 l0_6.length c0_6]), (1, 28, m1_), (2, 29, .agg #[.int .i64 a1_0, .int .i64 a1_1, .int .i64 a1_2]), (4, 31, .tuple #[.agg #[.int .i64 t539, .int .i64 t540, .int .i64 t541], .agg #[.int .i64 t542, .int .i64 t543, .int .i64 t544], .int .i64 t545]), (5, 26, .tuple #[.agg #[.int .i64 t539, .int .i64 t540, .int .i64 t541], .agg #[.int .i64 t542, .int .i64 t543, .int .i64 t544], .int .i64 t545]), (6, 32, .agg #[.int .i64 t539, .int .i64 t540, .int .i64 t541]), (7, 33, .agg #[.int .i64 t542, .int .i64 t543, .int .i64 t544]), (8, 34, .int .i64 t545), (9, 10, m9_), (10, 11, m10_), (13, 12, .int .i64 t545)] ∧ (Kd.R k92 92 w' w.heap.size (fun _ => True) (.slice Ao19 t516.length co19) t516) ∧ (w'.heap[gb508]? = some (.cells #[.int .i64 a0_0, .int .i64 a0_1, .int .i64 a0_2, .int .i64 a0_3, .int .i64 a0_4, .int .i64 a0_5, .slice A0_6 l0_6.length c0_6] 26 (0, 0))) ∧ (w'.heap[gb509]? = some (.cells #[.int .i64 a1_0, .int .i64 a1_1, .int .i64 a1_2] 23 (0, 0))) ∧ (w'.heap[gb528]? = some (.cells #[.int .i64 t521, .int .i64 t522, .int .i64 t523] 23 (0, 0))) ∧ (w'.heap[gb529]? = some (.cells #[.int .i64 t524, .int .i64 t525, .int .i64 t526] 23 (0, 0))) ∧ (Below w.heap.size w w') ∧ (b 9 = true → b 10 = true → gb547 ≠ gb546) ∧ (b 9 = true → b 10 = true → gb546 ≠ gb547) ∧ (b 1 = true → Kd.R k92 92 w' w.heap.size (fun k_ => some k_ ≠ (.slice Ao19 t516.length co19 : Value).ownBlock) v537 t536) ∧ (b 9 = true → b 11 = false → w'.heap[gb546]? = some (.cells #[.int .i64 0, .int .i64 0, .int .i64 0] 23 (0, 0))) ∧ (b 9 = true → w.heap.size ≤ gb546) ∧ (b 9 = true → w.heap.size ≤ gb546) ∧ (b 9 = true → gb508 ≠ gb546) ∧ (b 9 = true → gb546 ≠ gb508) ∧ (b 9 = true → gb509 ≠ gb546) ∧ (b 9 = true → gb546 ≠ gb509) ∧ (b 9 = true → gb528 ≠ gb546) ∧ (b 9 = true → gb546 ≠ gb528) ∧ (b 9 = true → gb529 ≠ gb546) ∧ (b 9 = true → gb546 ≠ gb529) ∧ (b 10 = true → b 12 = false → w'.heap[gb547]? = some (.cells #[.int .i64 0, .int .i64 0, .int .i64 0] 23 (0, 0))) ∧ (b 10 = true → w.heap.size ≤ gb547) ∧ (b 10 = true → w.heap.size ≤ gb547) ∧ (b 10 = true → gb508 ≠ gb547) ∧ (b 10 = true → gb547 ≠ gb508) ∧ (b 10 = true → gb509 ≠ gb547) ∧ (b 10 = true → gb547 ≠ gb509) ∧ (b 10 = true → gb528 ≠ gb547) ∧ (b 10 = true → gb547 ≠ gb528) ∧ (b 10 = true → gb529 ≠ gb547) ∧ (b 10 = true → gb547 ≠ gb529) ∧ (b 11 = true → w'.heap[gb546]? = some (.cells #[.int .i64 t539, .int .i64 t540, .int .i64 t541] 23 (0, 0))) ∧ (b 12 = true → w'.heap[gb547]? = some (.cells #[.int .i64 t542, .int .i64 t543, .int .i64 t544] 23 (0, 0))) ∧ (b 1 = true → (m1_ : Value) = .agg #[.int .i64 t530, .int .i64 t531, .int .i64 t532, .int .i64 t533, .int .i64 t534, .int .i64 t535, v537]) ∧ (b 9 = true → (m9_ : Value) = .pointer (some ⟨gb546, 0, none⟩)) ∧ (b 10 = true → (m10_ : Value) = .pointer (some ⟨gb547, 0, none⟩))) HT_.out HW_.out (by kernel_rfl) (by kernel_rfl) ?_ ?_ ?_
     ·exact ⟨.bool false, 0, 0, .bool false, .bool false, .bool false, by simp only [putSel, Bool.false_eq_true, if_false], HO518.out, BK508.out, BK509.out, BK528.out, BK529.out, HB.out, fun h_ => absurd h_ (by decide), fun h_ => absurd h_ (by decide), fun h_ => absurd h_ (by decide), fun h_ => absurd h_ (by decide), fun h_ => absurd h_ (by decide), fun h_ => absurd h_ (by decide), fun h_ => absurd h_ (by decide), fun h_ => absurd h_ (by decide), fun h_ => absurd h_ (by decide), fun h_ => absurd h_ (by decide), fun h_ => absurd h_ (by decide), fun h_ => absurd h_ (by decide), fun h_ => absurd h_ (by decide), fun h_ => absurd h_ (by decide), fun h_ => absurd h_ (by decide), fun h_ => absurd h_ (by decide), fun h_ => absurd h_ (by decide), fun h_ => absurd h_ (by decide), fun h_ => absurd h_ (by decide), fun h_ => absurd h_ (by decide), fun h_ => absurd h_ (by decide), fun h_ => absurd h_ (by decide), fun h_ => absurd h_ (by decide), fun h_ => absurd h_ (by decide), fun h_ => absurd h_ (by decide), fun h_ => absurd h_ (by decide), fun h_ => absurd h_ (by decide), fun h_ => absurd h_ (by decide), fun h_ => absurd h_ (by decide), fun h_ => absurd h_ (by decide)⟩
     ·skip
      clear BK508 BK509 BK528 BK529 HB HO518
      refine steps_cons ?_ ?_
      ·rintro b a w' ⟨v537, gb546, gb547, m1_, m9_, m10_, ha, Q_HO518, Q_BK508, Q_BK509, Q_BK528, Q_BK529, Q_HB, Q_NB547_546, Q_NB546_547, Q_HO538, Q_BK546, Q_GW546, Q_GE546, Q_NB508_546, Q_NB546_508, Q_NB509_546, Q_NB546_509, Q_NB528_546, Q_NB546_528, Q_NB529_546, Q_NB546_529, Q_BK547, Q_GW547, Q_GE547, Q_NB508_547, Q_NB547_508, Q_NB509_547, Q_NB547_509, Q_NB528_547, Q_NB547_528, Q_NB529_547, Q_NB547_529, Q_BK546_e11, Q_BK547_e12, Q_X1_, Q_X9_, Q_X10_⟩ hb_ hon hoff
       refine ⟨_, rfl, fun K hK => ?_⟩
       have e3 : a.tmps[3]? = some (.pointer (some ⟨gb508, 0, none⟩)) := by rw [ha]; exact (putSel_off rfl).trans rfl
       replace ha := mk0 ha
       have HO518 := mk0 Q_HO518
       have BK508 := mk0 Q_BK508
       have BK509 := mk0 Q_BK509
       have BK528 := mk0 Q_BK528
       have BK529 := mk0 Q_BK529
       have HB := mk0 Q_HB
       have hc0_ := ct BK508.out 0
       have hc1_ := ct BK508.out 1
       have hc2_ := ct BK508.out 2
       have hc3_ := ct BK508.out 3
       have hc4_ := ct BK508.out 4
       have hc5_ := ct BK508.out 5
       have hc6_ := ct BK508.out 6
       refine value_ (w1 := w') (v := .agg #[.int .i64 a0_0, .int .i64 a0_1, .int .i64 a0_2, .int .i64 a0_3, .int .i64 a0_4, .int .i64 a0_5, .slice A0_6 l0_6.length c0_6]) (by rfl) rfl ?_ ?_
       ·go_simp
        (try simp only [i64_w])
        try rfl
       refine hK.out _ _ ⟨v537, gb546, gb547, m1_, m9_, m10_, (by rw [ha.out]; exact putSel_upk 0 hb_ rfl rfl rfl), Q_HO518, Q_BK508, Q_BK509, Q_BK528, Q_BK529, Q_HB, Q_NB547_546, Q_NB546_547, fun h0_ => absurd ((hoff 1 (by kernel_rfl)).symm.trans h0_) (by decide), Q_BK546, Q_GW546, Q_GE546, Q_NB508_546, Q_NB546_508, Q_NB509_546, Q_NB546_509, Q_NB528_546, Q_NB546_528, Q_NB529_546, Q_NB546_529, Q_BK547, Q_GW547, Q_GE547, Q_NB508_547, Q_NB547_508, Q_NB509_547, Q_NB547_509, Q_NB528_547, Q_NB547_528, Q_NB529_547, Q_NB547_529, fun h0_ => absurd ((hoff 11 (by kernel_rfl)).symm.trans h0_) (by decide), fun h0_ => absurd ((hoff 12 (by kernel_rfl)).symm.trans h0_) (by decide), fun h0_ => absurd ((hoff 1 (by kernel_rfl)).symm.trans h0_) (by decide), Q_X9_, Q_X10_⟩
      refine steps_cons ?_ ?_
      ·rintro b a w' ⟨v537, gb546, gb547, m1_, m9_, m10_, ha, Q_HO518, Q_BK508, Q_BK509, Q_BK528, Q_BK529, Q_HB, Q_NB547_546, Q_NB546_547, Q_HO538, Q_BK546, Q_GW546, Q_GE546, Q_NB508_546, Q_NB546_508, Q_NB509_546, Q_NB546_509, Q_NB528_546, Q_NB546_528, Q_NB529_546, Q_NB546_529, Q_BK547, Q_GW547, Q_GE547, Q_NB508_547, Q_NB547_508, Q_NB509_547, Q_NB547_509, Q_NB528_547, Q_NB547_528, Q_NB529_547, Q_NB547_529, Q_BK546_e11, Q_BK547_e12, Q_X1_, Q_X9_, Q_X10_⟩ hb_ hon hoff
       refine ⟨_, rfl, fun K hK => ?_⟩
       have e27 : a.tmps[27]? = some (.agg #[.int .i64 a0_0, .int .i64 a0_1, .int .i64 a0_2, .int .i64 a0_3, .int .i64 a0_4, .int .i64 a0_5, .slice A0_6 l0_6.length c0_6]) := by rw [ha]; exact putSel_on (e := (0, 27, .agg #[.int .i64 a0_0, .int .i64 a0_1, .int .i64 a0_2, .int .i64 a0_3, .int .i64 a0_4, .int .i64 a0_5, .slice A0_6 l0_6.length c0_6])) 0 rfl rfl (hon 0 (by kernel_rfl)) rfl
       replace ha := mk0 ha
       have HO518 := mk0 Q_HO518
       have BK508 := mk0 Q_BK508
       have BK509 := mk0 Q_BK509
       have BK528 := mk0 Q_BK528
       have BK529 := mk0 Q_BK529
       have HB := mk0 Q_HB
       refine goes_ Tryz.func13 (by kernel_rfl) rfl #[.agg #[.int .i64 a0_0, .int .i64 a0_1, .int .i64 a0_2, .int .i64 a0_3, .int .i64 a0_4, .int .i64 a0_5, .slice A0_6 l0_6.length c0_6]] (by rfl) rfl rfl (by first | (simp only [List.map_toArray, List.map_cons, List.map_nil, Act.eval, Array.getD_eq_getD_getElem?, Option.getD_some, e27]; done) | (simp only [List.map_toArray, List.map_cons, List.map_nil, Act.eval, Array.getD_eq_getD_getElem?, Option.getD_some, e27]; rfl)) ?_
       with_reducible refine (metrolablaw30_own.calls k a0_0 a0_1 a0_2 a0_3 a0_4 a0_5 _ _ l0_6 t530 t531 t532 t533 t534 t535 t536 _ ?side1 ?side2 A8.out).mono ?_
       (case side1 => repeat (first | exact (Kd.C_below HR0_6.out HB.out) | (with_reducible refine Kd.C_alloc ?_ _) | (with_reducible refine Kd.C_drewN ?_ _) | (with_reducible refine Kd.C_drew ?_)))
       (case side2 => exact HC0_6.out)
       rintro e w35 ⟨v537, rfl, ho0, hb⟩
       refine ⟨_, rfl, ?_⟩
       have n0_ := mk0 (Kd.R_elder' (rT HO518.out) (Kd.R_base ho0) hb)
       have n1_ := mk0 (Kd.R_lower (Kd.R_new' ho0 (Kd.R_lt (rT HO518.out))) (below_size (wT HB.out)))
       have n2_ := mk0 (bbT BK508.out hb)
       have n3_ := mk0 (bbT BK509.out hb)
       have n4_ := mk0 (bbT BK528.out hb)
       have n5_ := mk0 (bbT BK529.out hb)
       have n6_ := mk0 (below_step (wT HB.out) hb)
       have z_BK546 := fun (h0_ : b 9 = true) (h1_ : b 11 = false) => (bbT (Q_BK546 h0_ h1_) hb)
       have z_BK547 := fun (h0_ : b 10 = true) (h1_ : b 12 = false) => (bbT (Q_BK547 h0_ h1_) hb)
       clear HO518
       clear BK508
       clear BK509
       clear BK528
       clear BK529
       clear HB
       have HO518 := n0_
       have HO538 := n1_
       have BK508 := n2_
       have BK509 := n3_
       have BK528 := n4_
       have BK529 := n5_
       have HB := n6_
       clear n0_ n1_ n2_ n3_ n4_ n5_ n6_
       (try clear hb)
       (try clear hb2)
       (try clear hk)
       (try clear hi)
       (try clear ho0)
       refine hK.out _ _ ⟨v537, gb546, gb547, (.agg #[.int .i64 t530, .int .i64 t531, .int .i64 t532, .int .i64 t533, .int .i64 t534, .int .i64 t535, v537]), m9_, m10_, (by rw [ha.out]; exact putSel_upk 1 hb_ rfl rfl rfl), (by (with_reducible repeat (first | apply Kd.R_alloc | apply Kd.R_drewN | apply Kd.R_drew)); exact Kd.R_mono HO518.out (fun _ hk => by first | trivial | exact hk.2 | exact hk)), (bT BK508.out), (bT BK509.out), (bT BK528.out), (bT BK529.out), (wT HB.out), Q_NB547_546, Q_NB546_547, fun _ => (by (with_reducible repeat (first | apply Kd.R_alloc | apply Kd.R_drewN | apply Kd.R_drew)); exact Kd.R_mono HO538.out (fun _ hk => by first | trivial | exact hk.2 | exact hk)), z_BK546, Q_GW546, Q_GE546, Q_NB508_546, Q_NB546_508, Q_NB509_546, Q_NB546_509, Q_NB528_546, Q_NB546_528, Q_NB529_546, Q_NB546_529, z_BK547, Q_GW547, Q_GE547, Q_NB508_547, Q_NB547_508, Q_NB509_547, Q_NB547_509, Q_NB528_547, Q_NB547_528, Q_NB529_547, Q_NB547_529, fun h0_ => absurd ((hoff 11 (by kernel_rfl)).symm.trans h0_) (by decide), fun h0_ => absurd ((hoff 12 (by kernel_rfl)).symm.trans h0_) (by decide), fun _ => rfl, Q_X9_, Q_X10_⟩
      refine steps_cons ?_ ?_
      ·rintro b a w' ⟨v537, gb546, gb547, m1_, m9_, m10_, ha, Q_HO518, Q_BK508, Q_BK509, Q_BK528, Q_BK529, Q_HB, Q_NB547_546, Q_NB546_547, Q_HO538, Q_BK546, Q_GW546, Q_GE546, Q_NB508_546, Q_NB546_508, Q_NB509_546, Q_NB546_509, Q_NB528_546, Q_NB546_528, Q_NB529_546, Q_NB546_529, Q_BK547, Q_GW547, Q_GE547, Q_NB508_547, Q_NB547_508, Q_NB509_547, Q_NB547_509, Q_NB528_547, Q_NB547_528, Q_NB529_547, Q_NB547_529, Q_BK546_e11, Q_BK547_e12, Q_X1_, Q_X9_, Q_X10_⟩ hb_ hon hoff
       refine ⟨_, rfl, fun K hK => ?_⟩
       have e4 : a.tmps[4]? = some (.pointer (some ⟨gb509, 0, none⟩)) := by rw [ha]; exact (putSel_off rfl).trans rfl
       replace ha := mk0 ha
       have HO518 := mk0 Q_HO518
       have BK508 := mk0 Q_BK508
       have BK509 := mk0 Q_BK509
       have BK528 := mk0 Q_BK528
       have BK529 := mk0 Q_BK529
       have HB := mk0 Q_HB
       have hc0_ := ct BK509.out 0
       have hc1_ := ct BK509.out 1
       have hc2_ := ct BK509.out 2
       refine value_ (w1 := w') (v := .agg #[.int .i64 a1_0, .int .i64 a1_1, .int .i64 a1_2]) (by rfl) rfl ?_ ?_
       ·go_simp
        (try simp only [i64_w])
        try rfl
       refine hK.out _ _ ⟨v537, gb546, gb547, m1_, m9_, m10_, (by rw [ha.out]; exact putSel_upk 2 hb_ rfl rfl rfl), Q_HO518, Q_BK508, Q_BK509, Q_BK528, Q_BK529, Q_HB, Q_NB547_546, Q_NB546_547, Q_HO538, Q_BK546, Q_GW546, Q_GE546, Q_NB508_546, Q_NB546_508, Q_NB509_546, Q_NB546_509, Q_NB528_546, Q_NB546_528, Q_NB529_546, Q_NB546_529, Q_BK547, Q_GW547, Q_GE547, Q_NB508_547, Q_NB547_508, Q_NB509_547, Q_NB547_509, Q_NB528_547, Q_NB547_528, Q_NB529_547, Q_NB547_529, fun h0_ => absurd ((hoff 11 (by kernel_rfl)).symm.trans h0_) (by decide), fun h0_ => absurd ((hoff 12 (by kernel_rfl)).symm.trans h0_) (by decide), Q_X1_, Q_X9_, Q_X10_⟩
      refine steps_cons ?_ ?_
      ·rintro b a w' ⟨v537, gb546, gb547, m1_, m9_, m10_, ha, Q_HO518, Q_BK508, Q_BK509, Q_BK528, Q_BK529, Q_HB, Q_NB547_546, Q_NB546_547, Q_HO538, Q_BK546, Q_GW546, Q_GE546, Q_NB508_546, Q_NB546_508, Q_NB509_546, Q_NB546_509, Q_NB528_546, Q_NB546_528, Q_NB529_546, Q_NB546_529, Q_BK547, Q_GW547, Q_GE547, Q_NB508_547, Q_NB547_508, Q_NB509_547, Q_NB547_509, Q_NB528_547, Q_NB547_528, Q_NB529_547, Q_NB547_529, Q_BK546_e11, Q_BK547_e12, Q_X1_, Q_X9_, Q_X10_⟩ hb_ hon hoff
       refine ⟨_, rfl, fun K hK => ?_⟩
       have e28 : a.tmps[28]? = some (m1_) := by rw [ha]; exact putSel_on (e := (1, 28, m1_)) 1 rfl rfl (hon 1 (by kernel_rfl)) rfl
       rw [Q_X1_ (hon 1 (by kernel_rfl))] at e28
       have e29 : a.tmps[29]? = some (.agg #[.int .i64 a1_0, .int .i64 a1_1, .int .i64 a1_2]) := by rw [ha]; exact putSel_on (e := (2, 29, .agg #[.int .i64 a1_0, .int .i64 a1_1, .int .i64 a1_2])) 2 rfl rfl (hon 2 (by kernel_rfl)) rfl
       have e30 : a.tmps[30]? = some (.int .i64 a2) := by rw [ha]; exact (putSel_off rfl).trans rfl
       replace ha := mk0 ha
       have HO518 := mk0 Q_HO518
       have BK508 := mk0 Q_BK508
       have BK509 := mk0 Q_BK509
       have BK528 := mk0 Q_BK528
       have BK529 := mk0 Q_BK529
       have HB := mk0 Q_HB
       have HO538 := mk0 (Q_HO538 (hon 1 (by kernel_rfl)))
       obtain ⟨Ao37, co37, eo37⟩ := Kd.R_slice HO538.out
       (first | subst eo37 | (injection eo37 with f1_ f2_ f3_; have f4_ := f1_.symm; have f5_ := f3_.symm; clear f1_ f2_ f3_; subst f4_; subst f5_))
       refine goes_ Tryz.func20 (by kernel_rfl) rfl #[.agg #[.int .i64 t530, .int .i64 t531, .int .i64 t532, .int .i64 t533, .int .i64 t534, .int .i64 t535, .slice Ao37 t536.length co37], .agg #[.int .i64 a1_0, .int .i64 a1_1, .int .i64 a1_2], .int .i64 a2] (by rfl) rfl rfl (by first | (simp only [List.map_toArray, List.map_cons, List.map_nil, Act.eval, Array.getD_eq_getD_getElem?, Option.getD_some, e28, e29, e30]; done) | (simp only [List.map_toArray, List.map_cons, List.map_nil, Act.eval, Array.getD_eq_getD_getElem?, Option.getD_some, e28, e29, e30]; rfl)) ?_
       with_reducible refine (metrolabref30_Touch.calls k t530 t531 t532 t533 t534 t535 _ _ t536 a1_0 a1_1 a1_2 a2 t539 t540 t541 t542 t543 t544 t545 _ ?side1 ?side2 A9.out).mono ?_
       (case side1 => repeat (first | exact (Kd.R_reads' HO538.out).2.2 | (with_reducible refine Kd.C_alloc ?_ _) | (with_reducible refine Kd.C_drewN ?_ _) | (with_reducible refine Kd.C_drew ?_)))
       (case side2 => exact (Kd.R_reads' HO538.out).2.1)
       rintro e w38 ⟨rfl, hb⟩
       refine ⟨_, rfl, ?_⟩
       have n0_ := mk0 (Kd.R_below (rT HO518.out) hb)
       have n1_ := mk0 (Kd.R_below (rT HO538.out) hb)
       have n2_ := mk0 (bbT BK508.out hb)
       have n3_ := mk0 (bbT BK509.out hb)
       have n4_ := mk0 (bbT BK528.out hb)
       have n5_ := mk0 (bbT BK529.out hb)
       have n6_ := mk0 (below_step (wT HB.out) hb)
       have z_BK546 := fun (h0_ : b 9 = true) (h1_ : b 11 = false) => (bbT (Q_BK546 h0_ h1_) hb)
       have z_BK547 := fun (h0_ : b 10 = true) (h1_ : b 12 = false) => (bbT (Q_BK547 h0_ h1_) hb)
       clear HO518
       clear HO538
       clear BK508
       clear BK509
       clear BK528
       clear BK529
       clear HB
       have HO518 := n0_
       have HO538 := n1_
       have BK508 := n2_
       have BK509 := n3_
       have BK528 := n4_
       have BK529 := n5_
       have HB := n6_
       clear n0_ n1_ n2_ n3_ n4_ n5_ n6_
       (try clear hb)
       (try clear hb2)
       (try clear hk)
       (try clear hi)
       refine hK.out _ _ ⟨.slice Ao37 t536.length co37, gb546, gb547, m1_, m9_, m10_, (by rw [ha.out]; exact putSel_upk 3 hb_ rfl rfl rfl), (rT HO518.out), (bT BK508.out), (bT BK509.out), (bT BK528.out), (bT BK529.out), (wT HB.out), Q_NB547_546, Q_NB546_547, fun _ => (rT HO538.out), z_BK546, Q_GW546, Q_GE546, Q_NB508_546, Q_NB546_508, Q_NB509_546, Q_NB546_509, Q_NB528_546, Q_NB546_528, Q_NB529_546, Q_NB546_529, z_BK547, Q_GW547, Q_GE547, Q_NB508_547, Q_NB547_508, Q_NB509_547, Q_NB547_509, Q_NB528_547, Q_NB547_528, Q_NB529_547, Q_NB547_529, fun h0_ => absurd ((hoff 11 (by kernel_rfl)).symm.trans h0_) (by decide), fun h0_ => absurd ((hoff 12 (by kernel_rfl)).symm.trans h0_) (by decide), Q_X1_, Q_X9_, Q_X10_⟩
      refine steps_cons ?_ ?_
      ·rintro b a w' ⟨v537, gb546, gb547, m1_, m9_, m10_, ha, Q_HO518, Q_BK508, Q_BK509, Q_BK528, Q_BK529, Q_HB, Q_NB547_546, Q_NB546_547, Q_HO538, Q_BK546, Q_GW546, Q_GE546, Q_NB508_546, Q_NB546_508, Q_NB509_546, Q_NB546_509, Q_NB528_546, Q_NB546_528, Q_NB529_546, Q_NB546_529, Q_BK547, Q_GW547, Q_GE547, Q_NB508_547, Q_NB547_508, Q_NB509_547, Q_NB547_509, Q_NB528_547, Q_NB547_528, Q_NB529_547, Q_NB547_529, Q_BK546_e11, Q_BK547_e12, Q_X1_, Q_X9_, Q_X10_⟩ hb_ hon hoff
       refine ⟨_, rfl, fun K hK => ?_⟩
       have e31 : a.tmps[31]? = some (.tuple #[.agg #[.int .i64 t539, .int .i64 t540, .int .i64 t541], .agg #[.int .i64 t542, .int .i64 t543, .int .i64 t544], .int .i64 t545]) := by rw [ha]; exact putSel_on (e := (4, 31, .tuple #[.agg #[.int .i64 t539, .int .i64 t540, .int .i64 t541], .agg #[.int .i64 t542, .int .i64 t543, .int .i64 t544], .int .i64 t545])) 3 rfl rfl (hon 4 (by kernel_rfl)) rfl
       replace ha := mk0 ha
       have HO518 := mk0 Q_HO518
       have BK508 := mk0 Q_BK508
       have BK509 := mk0 Q_BK509
       have BK528 := mk0 Q_BK528
       have BK529 := mk0 Q_BK529
       have HB := mk0 Q_HB
       have HO538 := mk0 (Q_HO538 (hon 1 (by kernel_rfl)))
       refine value_ (w1 := w') (v := .tuple #[.agg #[.int .i64 t539, .int .i64 t540, .int .i64 t541], .agg #[.int .i64 t542, .int .i64 t543, .int .i64 t544], .int .i64 t545]) (by rfl) rfl ?_ ?_
       ·go_simp
        (try simp only [i64_w])
        try rfl
       refine hK.out _ _ ⟨v537, gb546, gb547, m1_, m9_, m10_, (by rw [ha.out]; exact putSel_upk 4 hb_ rfl rfl rfl), Q_HO518, Q_BK508, Q_BK509, Q_BK528, Q_BK529, Q_HB, Q_NB547_546, Q_NB546_547, Q_HO538, Q_BK546, Q_GW546, Q_GE546, Q_NB508_546, Q_NB546_508, Q_NB509_546, Q_NB546_509, Q_NB528_546, Q_NB546_528, Q_NB529_546, Q_NB546_529, Q_BK547, Q_GW547, Q_GE547, Q_NB508_547, Q_NB547_508, Q_NB509_547, Q_NB547_509, Q_NB528_547, Q_NB547_528, Q_NB529_547, Q_NB547_529, fun h0_ => absurd ((hoff 11 (by kernel_rfl)).symm.trans h0_) (by decide), fun h0_ => absurd ((hoff 12 (by kernel_rfl)).symm.trans h0_) (by decide), Q_X1_, Q_X9_, Q_X10_⟩
      refine steps_cons ?_ ?_
      ·rintro b a w' ⟨v537, gb546, gb547, m1_, m9_, m10_, ha, Q_HO518, Q_BK508, Q_BK509, Q_BK528, Q_BK529, Q_HB, Q_NB547_546, Q_NB546_547, Q_HO538, Q_BK546, Q_GW546, Q_GE546, Q_NB508_546, Q_NB546_508, Q_NB509_546, Q_NB546_509, Q_NB528_546, Q_NB546_528, Q_NB529_546, Q_NB546_529, Q_BK547, Q_GW547, Q_GE547, Q_NB508_547, Q_NB547_508, Q_NB509_547, Q_NB547_509, Q_NB528_547, Q_NB547_528, Q_NB529_547, Q_NB547_529, Q_BK546_e11, Q_BK547_e12, Q_X1_, Q_X9_, Q_X10_⟩ hb_ hon hoff
       refine ⟨_, rfl, fun K hK => ?_⟩
       have e26 : a.tmps[26]? = some (.tuple #[.agg #[.int .i64 t539, .int .i64 t540, .int .i64 t541], .agg #[.int .i64 t542, .int .i64 t543, .int .i64 t544], .int .i64 t545]) := by rw [ha]; exact putSel_on (e := (5, 26, .tuple #[.agg #[.int .i64 t539, .int .i64 t540, .int .i64 t541], .agg #[.int .i64 t542, .int .i64 t543, .int .i64 t544], .int .i64 t545])) 4 rfl rfl (hon 5 (by kernel_rfl)) rfl
       replace ha := mk0 ha
       have HO518 := mk0 Q_HO518
       have BK508 := mk0 Q_BK508
       have BK509 := mk0 Q_BK509
       have BK528 := mk0 Q_BK528
       have BK529 := mk0 Q_BK529
       have HB := mk0 Q_HB
       have HO538 := mk0 (Q_HO538 (hon 1 (by kernel_rfl)))
       refine value_ (w1 := w') (v := .agg #[.int .i64 t539, .int .i64 t540, .int .i64 t541]) (by rfl) rfl ?_ ?_
       ·go_simp
        (try simp only [i64_w])
        try rfl
       refine hK.out _ _ ⟨v537, gb546, gb547, m1_, m9_, m10_, (by rw [ha.out]; exact putSel_upk 5 hb_ rfl rfl rfl), Q_HO518, Q_BK508, Q_BK509, Q_BK528, Q_BK529, Q_HB, Q_NB547_546, Q_NB546_547, Q_HO538, Q_BK546, Q_GW546, Q_GE546, Q_NB508_546, Q_NB546_508, Q_NB509_546, Q_NB546_509, Q_NB528_546, Q_NB546_528, Q_NB529_546, Q_NB546_529, Q_BK547, Q_GW547, Q_GE547, Q_NB508_547, Q_NB547_508, Q_NB509_547, Q_NB547_509, Q_NB528_547, Q_NB547_528, Q_NB529_547, Q_NB547_529, fun h0_ => absurd ((hoff 11 (by kernel_rfl)).symm.trans h0_) (by decide), fun h0_ => absurd ((hoff 12 (by kernel_rfl)).symm.trans h0_) (by decide), Q_X1_, Q_X9_, Q_X10_⟩
      refine steps_cons ?_ ?_
      ·rintro b a w' ⟨v537, gb546, gb547, m1_, m9_, m10_, ha, Q_HO518, Q_BK508, Q_BK509, Q_BK528, Q_BK529, Q_HB, Q_NB547_546, Q_NB546_547, Q_HO538, Q_BK546, Q_GW546, Q_GE546, Q_NB508_546, Q_NB546_508, Q_NB509_546, Q_NB546_509, Q_NB528_546, Q_NB546_528, Q_NB529_546, Q_NB546_529, Q_BK547, Q_GW547, Q_GE547, Q_NB508_547, Q_NB547_508, Q_NB509_547, Q_NB547_509, Q_NB528_547, Q_NB547_528, Q_NB529_547, Q_NB547_529, Q_BK546_e11, Q_BK547_e12, Q_X1_, Q_X9_, Q_X10_⟩ hb_ hon hoff
       refine ⟨_, rfl, fun K hK => ?_⟩
       have e26 : a.tmps[26]? = some (.tuple #[.agg #[.int .i64 t539, .int .i64 t540, .int .i64 t541], .agg #[.int .i64 t542, .int .i64 t543, .int .i64 t544], .int .i64 t545]) := by rw [ha]; exact putSel_on (e := (5, 26, .tuple #[.agg #[.int .i64 t539, .int .i64 t540, .int .i64 t541], .agg #[.int .i64 t542, .int .i64 t543, .int .i64 t544], .int .i64 t545])) 4 rfl rfl (hon 5 (by kernel_rfl)) rfl
       replace ha := mk0 ha
       have HO518 := mk0 Q_HO518
       have BK508 := mk0 Q_BK508
       have BK509 := mk0 Q_BK509
       have BK528 := mk0 Q_BK528
       have BK529 := mk0 Q_BK529
       have HB := mk0 Q_HB
       have HO538 := mk0 (Q_HO538 (hon 1 (by kernel_rfl)))
       refine value_ (w1 := w') (v := .agg #[.int .i64 t542, .int .i64 t543, .int .i64 t544]) (by rfl) rfl ?_ ?_
       ·go_simp
        (try simp only [i64_w])
        try rfl
       refine hK.out _ _ ⟨v537, gb546, gb547, m1_, m9_, m10_, (by rw [ha.out]; exact putSel_upk 6 hb_ rfl rfl rfl), Q_HO518, Q_BK508, Q_BK509, Q_BK528, Q_BK529, Q_HB, Q_NB547_546, Q_NB546_547, Q_HO538, Q_BK546, Q_GW546, Q_GE546, Q_NB508_546, Q_NB546_508, Q_NB509_546, Q_NB546_509, Q_NB528_546, Q_NB546_528, Q_NB529_546, Q_NB546_529, Q_BK547, Q_GW547, Q_GE547, Q_NB508_547, Q_NB547_508, Q_NB509_547, Q_NB547_509, Q_NB528_547, Q_NB547_528, Q_NB529_547, Q_NB547_529, Q_BK546_e11, fun h0_ => absurd ((hoff 12 (by kernel_rfl)).symm.trans h0_) (by decide), Q_X1_, Q_X9_, Q_X10_⟩
      refine steps_cons ?_ ?_
      ·rintro b a w' ⟨v537, gb546, gb547, m1_, m9_, m10_, ha, Q_HO518, Q_BK508, Q_BK509, Q_BK528, Q_BK529, Q_HB, Q_NB547_546, Q_NB546_547, Q_HO538, Q_BK546, Q_GW546, Q_GE546, Q_NB508_546, Q_NB546_508, Q_NB509_546, Q_NB546_509, Q_NB528_546, Q_NB546_528, Q_NB529_546, Q_NB546_529, Q_BK547, Q_GW547, Q_GE547, Q_NB508_547, Q_NB547_508, Q_NB509_547, Q_NB547_509, Q_NB528_547, Q_NB547_528, Q_NB529_547, Q_NB547_529, Q_BK546_e11, Q_BK547_e12, Q_X1_, Q_X9_, Q_X10_⟩ hb_ hon hoff
       refine ⟨_, rfl, fun K hK => ?_⟩
       have e26 : a.tmps[26]? = some (.tuple #[.agg #[.int .i64 t539, .int .i64 t540, .int .i64 t541], .agg #[.int .i64 t542, .int .i64 t543, .int .i64 t544], .int .i64 t545]) := by rw [ha]; exact putSel_on (e := (5, 26, .tuple #[.agg #[.int .i64 t539, .int .i64 t540, .int .i64 t541], .agg #[.int .i64 t542, .int .i64 t543, .int .i64 t544], .int .i64 t545])) 4 rfl rfl (hon 5 (by kernel_rfl)) rfl
       replace ha := mk0 ha
       have HO518 := mk0 Q_HO518
       have BK508 := mk0 Q_BK508
       have BK509 := mk0 Q_BK509
       have BK528 := mk0 Q_BK528
       have BK529 := mk0 Q_BK529
       have HB := mk0 Q_HB
       have HO538 := mk0 (Q_HO538 (hon 1 (by kernel_rfl)))
       refine value_ (w1 := w') (v := .int .i64 t545) (by rfl) rfl ?_ ?_
       ·go_simp
        (try simp only [i64_w])
        try rfl
       refine hK.out _ _ ⟨v537, gb546, gb547, m1_, m9_, m10_, (by rw [ha.out]; exact putSel_upk 7 hb_ rfl rfl rfl), Q_HO518, Q_BK508, Q_BK509, Q_BK528, Q_BK529, Q_HB, Q_NB547_546, Q_NB546_547, Q_HO538, Q_BK546, Q_GW546, Q_GE546, Q_NB508_546, Q_NB546_508, Q_NB509_546, Q_NB546_509, Q_NB528_546, Q_NB546_528, Q_NB529_546, Q_NB546_529, Q_BK547, Q_GW547, Q_GE547, Q_NB508_547, Q_NB547_508, Q_NB509_547, Q_NB547_509, Q_NB528_547, Q_NB547_528, Q_NB529_547, Q_NB547_529, Q_BK546_e11, Q_BK547_e12, Q_X1_, Q_X9_, Q_X10_⟩
      refine steps_cons ?_ ?_
      ·rintro b a w' ⟨v537, gb546, gb547, m1_, m9_, m10_, ha, Q_HO518, Q_BK508, Q_BK509, Q_BK528, Q_BK529, Q_HB, Q_NB547_546, Q_NB546_547, Q_HO538, Q_BK546, Q_GW546, Q_GE546, Q_NB508_546, Q_NB546_508, Q_NB509_546, Q_NB546_509, Q_NB528_546, Q_NB546_528, Q_NB529_546, Q_NB546_529, Q_BK547, Q_GW547, Q_GE547, Q_NB508_547, Q_NB547_508, Q_NB509_547, Q_NB547_509, Q_NB528_547, Q_NB547_528, Q_NB529_547, Q_NB547_529, Q_BK546_e11, Q_BK547_e12, Q_X1_, Q_X9_, Q_X10_⟩ hb_ hon hoff
       refine ⟨_, rfl, fun K hK => ?_⟩
       replace ha := mk0 ha
       have HO518 := mk0 Q_HO518
       have BK508 := mk0 Q_BK508
       have BK509 := mk0 Q_BK509
       have BK528 := mk0 Q_BK528
       have BK529 := mk0 Q_BK529
       have HB := mk0 Q_HB
       refine box_step ?hg (N := 10) ?hd (cs := #[.int .i64 0, .int .i64 0, .int .i64 0]) (t := 23) ?hr ?_; (case hd => rfl); (case hg => rfl); (case hr => first | (go_simp; done) | (go_simp; rfl))
       intro gb546 hg w35 hbox hb
       have n0_ := mk0 (Kd.R_below (rT HO518.out) hb)
       have n1_ := mk0 (bbT BK508.out hb)
       have n2_ := mk0 (bbT BK509.out hb)
       have n3_ := mk0 (bbT BK528.out hb)
       have n4_ := mk0 (bbT BK529.out hb)
       have n5_ := mk0 (below_step (wT HB.out) hb)
       have n6_ := mk0 (hbox)
       have n7_ := mk0 ((szT HB.out hg))
       have n8_ := mk0 ((szT HB.out hg))
       have n9_ := mk0 ((neL BK508.out hg))
       have n10_ := mk0 ((neG BK508.out hg))
       have n11_ := mk0 ((neL BK509.out hg))
       have n12_ := mk0 ((neG BK509.out hg))
       have n13_ := mk0 ((neL BK528.out hg))
       have n14_ := mk0 ((neG BK528.out hg))
       have n15_ := mk0 ((neL BK529.out hg))
       have n16_ := mk0 ((neG BK529.out hg))
       have z_NB547_546 := fun (h0_ : up b 9 9 = true) (h1_ : up b 9 10 = true) => (show gb547 ≠ gb546 from by rw [hg]; exact Nat.ne_of_lt ((show gb547 < w'.heap.size by cases hq_ : b 12 with | false => exact blk_lt (Q_BK547 h1_ hq_) | true => exact blk_lt (Q_BK547_e12 hq_))))
       have z_NB546_547 := fun (h0_ : up b 9 9 = true) (h1_ : up b 9 10 = true) => (show gb546 ≠ gb547 from by rw [hg]; exact Nat.ne_of_gt ((show gb547 < w'.heap.size by cases hq_ : b 12 with | false => exact blk_lt (Q_BK547 h1_ hq_) | true => exact blk_lt (Q_BK547_e12 hq_))))
       have z_HO538 := fun (h0_ : b 1 = true) => (show Kd.R k92 92 w35 w.heap.size (fun k_ => some k_ ≠ (.slice Ao19 t516.length co19 : Value).ownBlock) v537 t536 from by first | exact (Kd.R_below (by (with_reducible repeat (first | apply Kd.R_alloc | apply Kd.R_drewN | apply Kd.R_drew)); exact (Q_HO538 h0_)) hb) | exact Kd.R_mono (Kd.R_below (by (with_reducible repeat (first | apply Kd.R_alloc | apply Kd.R_drewN | apply Kd.R_drew)); exact (Q_HO538 h0_)) hb) (fun _ h_ => by first | trivial | exact h_ | exact h_.1))
       have z_BK547 := fun (h0_ : b 10 = true) (h1_ : b 12 = false) => (bbT (Q_BK547 h0_ h1_) hb)
       clear HO518
       clear BK508
       clear BK509
       clear BK528
       clear BK529
       clear HB
       have HO518 := n0_
       have BK508 := n1_
       have BK509 := n2_
       have BK528 := n3_
       have BK529 := n4_
       have HB := n5_
       have BK546 := n6_
       have GW546 := n7_
       have GE546 := n8_
       have NB508_546 := n9_
       have NB546_508 := n10_
       have NB509_546 := n11_
       have NB546_509 := n12_
       have NB528_546 := n13_
       have NB546_528 := n14_
       have NB529_546 := n15_
       have NB546_529 := n16_
       clear n0_ n1_ n2_ n3_ n4_ n5_ n6_ n7_ n8_ n9_ n10_ n11_ n12_ n13_ n14_ n15_ n16_
       clear hb hbox hg
       refine hK.out _ _ ⟨v537, gb546, gb547, m1_, (.pointer (some ⟨gb546, 0, none⟩)), m10_, (by rw [ha.out]; exact putSel_upk 8 hb_ rfl rfl rfl), (rT HO518.out), (bT BK508.out), (bT BK509.out), (bT BK528.out), (bT BK529.out), (wT HB.out), z_NB547_546, z_NB546_547, z_HO538, fun _ _ => (bT BK546.out), fun _ => GW546.out, fun _ => GE546.out, fun _ => NB508_546.out, fun _ => NB546_508.out, fun _ => NB509_546.out, fun _ => NB546_509.out, fun _ => NB528_546.out, fun _ => NB546_528.out, fun _ => NB529_546.out, fun _ => NB546_529.out, z_BK547, Q_GW547, Q_GE547, Q_NB508_547, Q_NB547_508, Q_NB509_547, Q_NB547_509, Q_NB528_547, Q_NB547_528, Q_NB529_547, Q_NB547_529, fun h0_ => absurd ((hoff 11 (by kernel_rfl)).symm.trans h0_) (by decide), fun h0_ => absurd ((hoff 12 (by kernel_rfl)).symm.trans h0_) (by decide), Q_X1_, fun _ => rfl, Q_X10_⟩
      refine steps_cons ?_ ?_
      ·rintro b a w' ⟨v537, gb546, gb547, m1_, m9_, m10_, ha, Q_HO518, Q_BK508, Q_BK509, Q_BK528, Q_BK529, Q_HB, Q_NB547_546, Q_NB546_547, Q_HO538, Q_BK546, Q_GW546, Q_GE546, Q_NB508_546, Q_NB546_508, Q_NB509_546, Q_NB546_509, Q_NB528_546, Q_NB546_528, Q_NB529_546, Q_NB546_529, Q_BK547, Q_GW547, Q_GE547, Q_NB508_547, Q_NB547_508, Q_NB509_547, Q_NB547_509, Q_NB528_547, Q_NB547_528, Q_NB529_547, Q_NB547_529, Q_BK546_e11, Q_BK547_e12, Q_X1_, Q_X9_, Q_X10_⟩ hb_ hon hoff
       refine ⟨_, rfl, fun K hK => ?_⟩
       replace ha := mk0 ha
       have HO518 := mk0 Q_HO518
       have BK508 := mk0 Q_BK508
       have BK509 := mk0 Q_BK509
       have BK528 := mk0 Q_BK528
       have BK529 := mk0 Q_BK529
       have HB := mk0 Q_HB
       refine box_step ?hg (N := 11) ?hd (cs := #[.int .i64 0, .int .i64 0, .int .i64 0]) (t := 23) ?hr ?_; (case hd => rfl); (case hg => rfl); (case hr => first | (go_simp; done) | (go_simp; rfl))
       intro gb547 hg w35 hbox hb
       have n0_ := mk0 (Kd.R_below (rT HO518.out) hb)
       have n1_ := mk0 (bbT BK508.out hb)
       have n2_ := mk0 (bbT BK509.out hb)
       have n3_ := mk0 (bbT BK528.out hb)
       have n4_ := mk0 (bbT BK529.out hb)
       have n5_ := mk0 (below_step (wT HB.out) hb)
       have n6_ := mk0 (hbox)
       have n7_ := mk0 ((szT HB.out hg))
       have n8_ := mk0 ((szT HB.out hg))
       have n9_ := mk0 ((neL BK508.out hg))
       have n10_ := mk0 ((neG BK508.out hg))
       have n11_ := mk0 ((neL BK509.out hg))
       have n12_ := mk0 ((neG BK509.out hg))
       have n13_ := mk0 ((neL BK528.out hg))
       have n14_ := mk0 ((neG BK528.out hg))
       have n15_ := mk0 ((neL BK529.out hg))
       have n16_ := mk0 ((neG BK529.out hg))
       have z_NB547_546 := fun (h0_ : up b 10 9 = true) (h1_ : up b 10 10 = true) => (show gb547 ≠ gb546 from by rw [hg]; exact Nat.ne_of_gt ((show gb546 < w'.heap.size by cases hq_ : b 11 with | false => exact blk_lt (Q_BK546 h0_ hq_) | true => exact blk_lt (Q_BK546_e11 hq_))))
       have z_NB546_547 := fun (h0_ : up b 10 9 = true) (h1_ : up b 10 10 = true) => (show gb546 ≠ gb547 from by rw [hg]; exact Nat.ne_of_lt ((show gb546 < w'.heap.size by cases hq_ : b 11 with | false => exact blk_lt (Q_BK546 h0_ hq_) | true => exact blk_lt (Q_BK546_e11 hq_))))
       have z_HO538 := fun (h0_ : b 1 = true) => (show Kd.R k92 92 w35 w.heap.size (fun k_ => some k_ ≠ (.slice Ao19 t516.length co19 : Value).ownBlock) v537 t536 from by first | exact (Kd.R_below (by (with_reducible repeat (first | apply Kd.R_alloc | apply Kd.R_drewN | apply Kd.R_drew)); exact (Q_HO538 h0_)) hb) | exact Kd.R_mono (Kd.R_below (by (with_reducible repeat (first | apply Kd.R_alloc | apply Kd.R_drewN | apply Kd.R_drew)); exact (Q_HO538 h0_)) hb) (fun _ h_ => by first | trivial | exact h_ | exact h_.1))
       have z_BK546 := fun (h0_ : b 9 = true) (h1_ : b 11 = false) => (bbT (Q_BK546 h0_ h1_) hb)
       clear HO518
       clear BK508
       clear BK509
       clear BK528
       clear BK529
       clear HB
       have HO518 := n0_
       have BK508 := n1_
       have BK509 := n2_
       have BK528 := n3_
       have BK529 := n4_
       have HB := n5_
       have BK547 := n6_
       have GW547 := n7_
       have GE547 := n8_
       have NB508_547 := n9_
       have NB547_508 := n10_
       have NB509_547 := n11_
       have NB547_509 := n12_
       have NB528_547 := n13_
       have NB547_528 := n14_
       have NB529_547 := n15_
       have NB547_529 := n16_
       clear n0_ n1_ n2_ n3_ n4_ n5_ n6_ n7_ n8_ n9_ n10_ n11_ n12_ n13_ n14_ n15_ n16_
       clear hb hbox hg
       refine hK.out _ _ ⟨v537, gb546, gb547, m1_, m9_, (.pointer (some ⟨gb547, 0, none⟩)), (by rw [ha.out]; exact putSel_upk 9 hb_ rfl rfl rfl), (rT HO518.out), (bT BK508.out), (bT BK509.out), (bT BK528.out), (bT BK529.out), (wT HB.out), z_NB547_546, z_NB546_547, z_HO538, z_BK546, Q_GW546, Q_GE546, Q_NB508_546, Q_NB546_508, Q_NB509_546, Q_NB546_509, Q_NB528_546, Q_NB546_528, Q_NB529_546, Q_NB546_529, fun _ _ => (bT BK547.out), fun _ => GW547.out, fun _ => GE547.out, fun _ => NB508_547.out, fun _ => NB547_508.out, fun _ => NB509_547.out, fun _ => NB547_509.out, fun _ => NB528_547.out, fun _ => NB547_528.out, fun _ => NB529_547.out, fun _ => NB547_529.out, fun h0_ => absurd ((hoff 11 (by kernel_rfl)).symm.trans h0_) (by decide), fun h0_ => absurd ((hoff 12 (by kernel_rfl)).symm.trans h0_) (by decide), Q_X1_, Q_X9_, fun _ => rfl⟩
      refine steps_cons ?_ ?_
      ·rintro b a w' ⟨v537, gb546, gb547, m1_, m9_, m10_, ha, Q_HO518, Q_BK508, Q_BK509, Q_BK528, Q_BK529, Q_HB, Q_NB547_546, Q_NB546_547, Q_HO538, Q_BK546, Q_GW546, Q_GE546, Q_NB508_546, Q_NB546_508, Q_NB509_546, Q_NB546_509, Q_NB528_546, Q_NB546_528, Q_NB529_546, Q_NB546_529, Q_BK547, Q_GW547, Q_GE547, Q_NB508_547, Q_NB547_508, Q_NB509_547, Q_NB547_509, Q_NB528_547, Q_NB547_528, Q_NB529_547, Q_NB547_529, Q_BK546_e11, Q_BK547_e12, Q_X1_, Q_X9_, Q_X10_⟩ hb_ hon hoff
       refine ⟨_, rfl, fun K hK => ?_⟩
       have e10 : a.tmps[10]? = some (m9_) := by rw [ha]; exact putSel_on (e := (9, 10, m9_)) 8 rfl rfl (hon 9 (by kernel_rfl)) rfl
       rw [Q_X9_ (hon 9 (by kernel_rfl))] at e10
       have e32 : a.tmps[32]? = some (.agg #[.int .i64 t539, .int .i64 t540, .int .i64 t541]) := by rw [ha]; exact putSel_on (e := (6, 32, .agg #[.int .i64 t539, .int .i64 t540, .int .i64 t541])) 5 rfl rfl (hon 6 (by kernel_rfl)) rfl
       replace ha := mk0 ha
       have HO518 := mk0 Q_HO518
       have BK508 := mk0 Q_BK508
       have BK509 := mk0 Q_BK509
       have BK528 := mk0 Q_BK528
       have BK529 := mk0 Q_BK529
       have HB := mk0 Q_HB
       have NB547_546 := mk0 (Q_NB547_546 (hon 9 (by kernel_rfl)) (hon 10 (by kernel_rfl)))
       have NB546_547 := mk0 (Q_NB546_547 (hon 9 (by kernel_rfl)) (hon 10 (by kernel_rfl)))
       have HO538 := mk0 (Q_HO538 (hon 1 (by kernel_rfl)))
       have BK546 := mk0 (Q_BK546 (hon 9 (by kernel_rfl)) hb_)
       have GW546 := mk0 (Q_GW546 (hon 9 (by kernel_rfl)))
       have GE546 := mk0 (Q_GE546 (hon 9 (by kernel_rfl)))
       have NB508_546 := mk0 (Q_NB508_546 (hon 9 (by kernel_rfl)))
       have NB546_508 := mk0 (Q_NB546_508 (hon 9 (by kernel_rfl)))
       have NB509_546 := mk0 (Q_NB509_546 (hon 9 (by kernel_rfl)))
       have NB546_509 := mk0 (Q_NB546_509 (hon 9 (by kernel_rfl)))
       have NB528_546 := mk0 (Q_NB528_546 (hon 9 (by kernel_rfl)))
       have NB546_528 := mk0 (Q_NB546_528 (hon 9 (by kernel_rfl)))
       have NB529_546 := mk0 (Q_NB529_546 (hon 9 (by kernel_rfl)))
       have NB546_529 := mk0 (Q_NB546_529 (hon 9 (by kernel_rfl)))
       have BK547 := mk0 (Q_BK547 (hon 10 (by kernel_rfl)) (hoff 12 (by kernel_rfl)))
       have GW547 := mk0 (Q_GW547 (hon 10 (by kernel_rfl)))
       have GE547 := mk0 (Q_GE547 (hon 10 (by kernel_rfl)))
       have NB508_547 := mk0 (Q_NB508_547 (hon 10 (by kernel_rfl)))
       have NB547_508 := mk0 (Q_NB547_508 (hon 10 (by kernel_rfl)))
       have NB509_547 := mk0 (Q_NB509_547 (hon 10 (by kernel_rfl)))
       have NB547_509 := mk0 (Q_NB547_509 (hon 10 (by kernel_rfl)))
       have NB528_547 := mk0 (Q_NB528_547 (hon 10 (by kernel_rfl)))
       have NB547_528 := mk0 (Q_NB547_528 (hon 10 (by kernel_rfl)))
       have NB529_547 := mk0 (Q_NB529_547 (hon 10 (by kernel_rfl)))
       have NB547_529 := mk0 (Q_NB547_529 (hon 10 (by kernel_rfl)))
       have hs41 := ct BK546.out 0
       have hfs41 := blk_frozen BK546.out 0
       have hns41_0 := NB508_546.out
       have hns41_1 := NB509_546.out
       have hns41_2 := NB528_546.out
       have hns41_3 := NB529_546.out
       have hns41_5 := NB547_546.out
       have hms41_0 := NB546_508.out
       have hms41_1 := NB546_509.out
       have hms41_2 := NB546_528.out
       have hms41_3 := NB546_529.out
       have hms41_5 := NB546_547.out
       have hs42 := ct BK546.out 1
       have hfs42 := blk_frozen BK546.out 1
       have hns42_0 := NB508_546.out
       have hns42_1 := NB509_546.out
       have hns42_2 := NB528_546.out
       have hns42_3 := NB529_546.out
       have hns42_5 := NB547_546.out
       have hms42_0 := NB546_508.out
       have hms42_1 := NB546_509.out
       have hms42_2 := NB546_528.out
       have hms42_3 := NB546_529.out
       have hms42_5 := NB546_547.out
       have hs43 := ct BK546.out 2
       have hfs43 := blk_frozen BK546.out 2
       have hns43_0 := NB508_546.out
       have hns43_1 := NB509_546.out
       have hns43_2 := NB528_546.out
       have hns43_3 := NB529_546.out
       have hns43_5 := NB547_546.out
       have hms43_0 := NB546_508.out
       have hms43_1 := NB546_509.out
       have hms43_2 := NB546_528.out
       have hms43_3 := NB546_529.out
       have hms43_5 := NB546_547.out
       refine skip_ (w1 := ?_) (by rfl) rfl ?_ ?_
       rotate_left
       ·go_simp
        rfl
       refine hK.out _ _ ⟨v537, gb546, gb547, m1_, m9_, m10_, (by rw [ha.out]; exact putSel_none (v := undef) rfl), (by (with_reducible repeat (first | apply Kd.R_alloc | apply Kd.R_drewN | apply Kd.R_drew)); exact Kd.R_mono (Kd.R_far (p := ⟨gb546, 2, none⟩) (Kd.R_far (p := ⟨gb546, 1, none⟩) (Kd.R_far (p := ⟨gb546, 0, none⟩) (Kd.R_types HO518.out BK546.out (by decide)) (fun _ hk => by first | trivial | exact hk.2 | exact hk) (.int .i64 t539)) (fun _ hk => by first | trivial | exact hk.2 | exact hk) (.int .i64 t540)) (fun _ hk => by first | trivial | exact hk.2 | exact hk) (.int .i64 t541)) (fun _ hk => hk.1)), (by (with_reducible repeat (first | refine blk_drewN ?_ _ | refine blk_drew ?_ | refine blk_alloc ?_ _)); refine blk_far ?_ NB508_546.out _; refine blk_far ?_ NB508_546.out _; refine blk_far ?_ NB508_546.out _; (with_reducible repeat (first | refine blk_drewN ?_ _ | refine blk_drew ?_ | refine blk_alloc ?_ _)); exact BK508.out), (by (with_reducible repeat (first | refine blk_drewN ?_ _ | refine blk_drew ?_ | refine blk_alloc ?_ _)); refine blk_far ?_ NB509_546.out _; refine blk_far ?_ NB509_546.out _; refine blk_far ?_ NB509_546.out _; (with_reducible repeat (first | refine blk_drewN ?_ _ | refine blk_drew ?_ | refine blk_alloc ?_ _)); exact BK509.out), (by (with_reducible repeat (first | refine blk_drewN ?_ _ | refine blk_drew ?_ | refine blk_alloc ?_ _)); refine blk_far ?_ NB528_546.out _; refine blk_far ?_ NB528_546.out _; refine blk_far ?_ NB528_546.out _; (with_reducible repeat (first | refine blk_drewN ?_ _ | refine blk_drew ?_ | refine blk_alloc ?_ _)); exact BK528.out), (by (with_reducible repeat (first | refine blk_drewN ?_ _ | refine blk_drew ?_ | refine blk_alloc ?_ _)); refine blk_far ?_ NB529_546.out _; refine blk_far ?_ NB529_546.out _; refine blk_far ?_ NB529_546.out _; (with_reducible repeat (first | refine blk_drewN ?_ _ | refine blk_drew ?_ | refine blk_alloc ?_ _)); exact BK529.out), (by repeat (first | (with_reducible first | exact HB.out | apply below_alloc | apply pw_below_drewN | apply below_drew1 | refine below_set ?_ GE546.out) | exact HB.out)), fun _ _ => NB547_546.out, fun _ _ => NB546_547.out, fun _ => (by (with_reducible repeat (first | apply Kd.R_alloc | apply Kd.R_drewN | apply Kd.R_drew)); exact Kd.R_mono (Kd.R_far (p := ⟨gb546, 2, none⟩) (Kd.R_far (p := ⟨gb546, 1, none⟩) (Kd.R_far (p := ⟨gb546, 0, none⟩) (Kd.R_types HO538.out BK546.out (by decide)) (fun _ hk => by first | trivial | exact hk.2 | exact hk) (.int .i64 t539)) (fun _ hk => by first | trivial | exact hk.2 | exact hk) (.int .i64 t540)) (fun _ hk => by first | trivial | exact hk.2 | exact hk) (.int .i64 t541)) (fun _ hk => hk.1)), fun _ h1_ => absurd ((up_self b 11).symm.trans h1_) (by decide), fun _ => GW546.out, fun _ => GE546.out, fun _ => NB508_546.out, fun _ => NB546_508.out, fun _ => NB509_546.out, fun _ => NB546_509.out, fun _ => NB528_546.out, fun _ => NB546_528.out, fun _ => NB529_546.out, fun _ => NB546_529.out, fun _ _ => (by (with_reducible repeat (first | refine blk_drewN ?_ _ | refine blk_drew ?_ | refine blk_alloc ?_ _)); refine blk_far ?_ NB547_546.out _; refine blk_far ?_ NB547_546.out _; refine blk_far ?_ NB547_546.out _; (with_reducible repeat (first | refine blk_drewN ?_ _ | refine blk_drew ?_ | refine blk_alloc ?_ _)); exact BK547.out), fun _ => GW547.out, fun _ => GE547.out, fun _ => NB508_547.out, fun _ => NB547_508.out, fun _ => NB509_547.out, fun _ => NB547_509.out, fun _ => NB528_547.out, fun _ => NB547_528.out, fun _ => NB529_547.out, fun _ => NB547_529.out, fun _ => (by (with_reducible repeat (first | refine blk_drewN ?_ _ | refine blk_drew ?_ | refine blk_alloc ?_ _)); refine blk_put (cs := #[.int .i64 t539, .int .i64 t540, .int .i64 0]) ?_ 2 _ rfl; refine blk_put (cs := #[.int .i64 t539, .int .i64 0, .int .i64 0]) ?_ 1 _ rfl; refine blk_put (cs := #[.int .i64 0, .int .i64 0, .int .i64 0]) ?_ 0 _ rfl; (with_reducible repeat (first | refine blk_drewN ?_ _ | refine blk_drew ?_ | refine blk_alloc ?_ _)); exact BK546.out), fun h0_ => absurd ((hoff 12 (by kernel_rfl)).symm.trans h0_) (by decide), Q_X1_, Q_X9_, Q_X10_⟩
      refine steps_cons ?_ ?_
      ·rintro b a w' ⟨v537, gb546, gb547, m1_, m9_, m10_, ha, Q_HO518, Q_BK508, Q_BK509, Q_BK528, Q_BK529, Q_HB, Q_NB547_546, Q_NB546_547, Q_HO538, Q_BK546, Q_GW546, Q_GE546, Q_NB508_546, Q_NB546_508, Q_NB509_546, Q_NB546_509, Q_NB528_546, Q_NB546_528, Q_NB529_546, Q_NB546_529, Q_BK547, Q_GW547, Q_GE547, Q_NB508_547, Q_NB547_508, Q_NB509_547, Q_NB547_509, Q_NB528_547, Q_NB547_528, Q_NB529_547, Q_NB547_529, Q_BK546_e11, Q_BK547_e12, Q_X1_, Q_X9_, Q_X10_⟩ hb_ hon hoff
       refine ⟨_, rfl, fun K hK => ?_⟩
       have e11 : a.tmps[11]? = some (m10_) := by rw [ha]; exact putSel_on (e := (10, 11, m10_)) 9 rfl rfl (hon 10 (by kernel_rfl)) rfl
       rw [Q_X10_ (hon 10 (by kernel_rfl))] at e11
       have e33 : a.tmps[33]? = some (.agg #[.int .i64 t542, .int .i64 t543, .int .i64 t544]) := by rw [ha]; exact putSel_on (e := (7, 33, .agg #[.int .i64 t542, .int .i64 t543, .int .i64 t544])) 6 rfl rfl (hon 7 (by kernel_rfl)) rfl
       replace ha := mk0 ha
       have HO518 := mk0 Q_HO518
       have BK508 := mk0 Q_BK508
       have BK509 := mk0 Q_BK509
       have BK528 := mk0 Q_BK528
       have BK529 := mk0 Q_BK529
       have HB := mk0 Q_HB
       have NB547_546 := mk0 (Q_NB547_546 (hon 9 (by kernel_rfl)) (hon 10 (by kernel_rfl)))
       have NB546_547 := mk0 (Q_NB546_547 (hon 9 (by kernel_rfl)) (hon 10 (by kernel_rfl)))
       have HO538 := mk0 (Q_HO538 (hon 1 (by kernel_rfl)))
       have GW546 := mk0 (Q_GW546 (hon 9 (by kernel_rfl)))
       have GE546 := mk0 (Q_GE546 (hon 9 (by kernel_rfl)))
       have NB508_546 := mk0 (Q_NB508_546 (hon 9 (by kernel_rfl)))
       have NB546_508 := mk0 (Q_NB546_508 (hon 9 (by kernel_rfl)))
       have NB509_546 := mk0 (Q_NB509_546 (hon 9 (by kernel_rfl)))
       have NB546_509 := mk0 (Q_NB546_509 (hon 9 (by kernel_rfl)))
       have NB528_546 := mk0 (Q_NB528_546 (hon 9 (by kernel_rfl)))
       have NB546_528 := mk0 (Q_NB546_528 (hon 9 (by kernel_rfl)))
       have NB529_546 := mk0 (Q_NB529_546 (hon 9 (by kernel_rfl)))
       have NB546_529 := mk0 (Q_NB546_529 (hon 9 (by kernel_rfl)))
       have BK547 := mk0 (Q_BK547 (hon 10 (by kernel_rfl)) hb_)
       have GW547 := mk0 (Q_GW547 (hon 10 (by kernel_rfl)))
       have GE547 := mk0 (Q_GE547 (hon 10 (by kernel_rfl)))
       have NB508_547 := mk0 (Q_NB508_547 (hon 10 (by kernel_rfl)))
       have NB547_508 := mk0 (Q_NB547_508 (hon 10 (by kernel_rfl)))
       have NB509_547 := mk0 (Q_NB509_547 (hon 10 (by kernel_rfl)))
       have NB547_509 := mk0 (Q_NB547_509 (hon 10 (by kernel_rfl)))
       have NB528_547 := mk0 (Q_NB528_547 (hon 10 (by kernel_rfl)))
       have NB547_528 := mk0 (Q_NB547_528 (hon 10 (by kernel_rfl)))
       have NB529_547 := mk0 (Q_NB529_547 (hon 10 (by kernel_rfl)))
       have NB547_529 := mk0 (Q_NB547_529 (hon 10 (by kernel_rfl)))
       have BK546 := mk0 (Q_BK546_e11 (hon 11 (by kernel_rfl)))
       have hs44 := ct BK547.out 0
       have hfs44 := blk_frozen BK547.out 0
       have hns44_0 := NB508_547.out
       have hns44_1 := NB509_547.out
       have hns44_2 := NB528_547.out
       have hns44_3 := NB529_547.out
       have hns44_4 := NB546_547.out
       have hms44_0 := NB547_508.out
       have hms44_1 := NB547_509.out
       have hms44_2 := NB547_528.out
       have hms44_3 := NB547_529.out
       have hms44_4 := NB547_546.out
       have hs45 := ct BK547.out 1
       have hfs45 := blk_frozen BK547.out 1
       have hns45_0 := NB508_547.out
       have hns45_1 := NB509_547.out
       have hns45_2 := NB528_547.out
       have hns45_3 := NB529_547.out
       have hns45_4 := NB546_547.out
       have hms45_0 := NB547_508.out
       have hms45_1 := NB547_509.out
       have hms45_2 := NB547_528.out
       have hms45_3 := NB547_529.out
       have hms45_4 := NB547_546.out
       have hs46 := ct BK547.out 2
       have hfs46 := blk_frozen BK547.out 2
       have hns46_0 := NB508_547.out
       have hns46_1 := NB509_547.out
       have hns46_2 := NB528_547.out
       have hns46_3 := NB529_547.out
       have hns46_4 := NB546_547.out
       have hms46_0 := NB547_508.out
       have hms46_1 := NB547_509.out
       have hms46_2 := NB547_528.out
       have hms46_3 := NB547_529.out
       have hms46_4 := NB547_546.out
       refine skip_ (w1 := ?_) (by rfl) rfl ?_ ?_
       rotate_left
       ·go_simp
        rfl
       refine hK.out _ _ ⟨v537, gb546, gb547, m1_, m9_, m10_, (by rw [ha.out]; exact putSel_none (v := undef) rfl), (by (with_reducible repeat (first | apply Kd.R_alloc | apply Kd.R_drewN | apply Kd.R_drew)); exact Kd.R_mono (Kd.R_far (p := ⟨gb547, 2, none⟩) (Kd.R_far (p := ⟨gb547, 1, none⟩) (Kd.R_far (p := ⟨gb547, 0, none⟩) (Kd.R_types HO518.out BK547.out (by decide)) (fun _ hk => by first | trivial | exact hk.2 | exact hk) (.int .i64 t542)) (fun _ hk => by first | trivial | exact hk.2 | exact hk) (.int .i64 t543)) (fun _ hk => by first | trivial | exact hk.2 | exact hk) (.int .i64 t544)) (fun _ hk => hk.1)), (by (with_reducible repeat (first | refine blk_drewN ?_ _ | refine blk_drew ?_ | refine blk_alloc ?_ _)); refine blk_far ?_ NB508_547.out _; refine blk_far ?_ NB508_547.out _; refine blk_far ?_ NB508_547.out _; (with_reducible repeat (first | refine blk_drewN ?_ _ | refine blk_drew ?_ | refine blk_alloc ?_ _)); exact BK508.out), (by (with_reducible repeat (first | refine blk_drewN ?_ _ | refine blk_drew ?_ | refine blk_alloc ?_ _)); refine blk_far ?_ NB509_547.out _; refine blk_far ?_ NB509_547.out _; refine blk_far ?_ NB509_547.out _; (with_reducible repeat (first | refine blk_drewN ?_ _ | refine blk_drew ?_ | refine blk_alloc ?_ _)); exact BK509.out), (by (with_reducible repeat (first | refine blk_drewN ?_ _ | refine blk_drew ?_ | refine blk_alloc ?_ _)); refine blk_far ?_ NB528_547.out _; refine blk_far ?_ NB528_547.out _; refine blk_far ?_ NB528_547.out _; (with_reducible repeat (first | refine blk_drewN ?_ _ | refine blk_drew ?_ | refine blk_alloc ?_ _)); exact BK528.out), (by (with_reducible repeat (first | refine blk_drewN ?_ _ | refine blk_drew ?_ | refine blk_alloc ?_ _)); refine blk_far ?_ NB529_547.out _; refine blk_far ?_ NB529_547.out _; refine blk_far ?_ NB529_547.out _; (with_reducible repeat (first | refine blk_drewN ?_ _ | refine blk_drew ?_ | refine blk_alloc ?_ _)); exact BK529.out), (by repeat (first | (with_reducible first | exact HB.out | apply below_alloc | apply pw_below_drewN | apply below_drew1 | refine below_set ?_ GE547.out) | exact HB.out)), fun _ _ => NB547_546.out, fun _ _ => NB546_547.out, fun _ => (by (with_reducible repeat (first | apply Kd.R_alloc | apply Kd.R_drewN | apply Kd.R_drew)); exact Kd.R_mono (Kd.R_far (p := ⟨gb547, 2, none⟩) (Kd.R_far (p := ⟨gb547, 1, none⟩) (Kd.R_far (p := ⟨gb547, 0, none⟩) (Kd.R_types HO538.out BK547.out (by decide)) (fun _ hk => by first | trivial | exact hk.2 | exact hk) (.int .i64 t542)) (fun _ hk => by first | trivial | exact hk.2 | exact hk) (.int .i64 t543)) (fun _ hk => by first | trivial | exact hk.2 | exact hk) (.int .i64 t544)) (fun _ hk => hk.1)), fun _ h1_ => absurd ((hon 11 (by kernel_rfl)).symm.trans h1_) (by decide), fun _ => GW546.out, fun _ => GE546.out, fun _ => NB508_546.out, fun _ => NB546_508.out, fun _ => NB509_546.out, fun _ => NB546_509.out, fun _ => NB528_546.out, fun _ => NB546_528.out, fun _ => NB529_546.out, fun _ => NB546_529.out, fun _ h1_ => absurd ((up_self b 12).symm.trans h1_) (by decide), fun _ => GW547.out, fun _ => GE547.out, fun _ => NB508_547.out, fun _ => NB547_508.out, fun _ => NB509_547.out, fun _ => NB547_509.out, fun _ => NB528_547.out, fun _ => NB547_528.out, fun _ => NB529_547.out, fun _ => NB547_529.out, fun _ => (by (with_reducible repeat (first | refine blk_drewN ?_ _ | refine blk_drew ?_ | refine blk_alloc ?_ _)); refine blk_far ?_ NB546_547.out _; refine blk_far ?_ NB546_547.out _; refine blk_far ?_ NB546_547.out _; (with_reducible repeat (first | refine blk_drewN ?_ _ | refine blk_drew ?_ | refine blk_alloc ?_ _)); exact BK546.out), fun _ => (by (with_reducible repeat (first | refine blk_drewN ?_ _ | refine blk_drew ?_ | refine blk_alloc ?_ _)); refine blk_put (cs := #[.int .i64 t542, .int .i64 t543, .int .i64 0]) ?_ 2 _ rfl; refine blk_put (cs := #[.int .i64 t542, .int .i64 0, .int .i64 0]) ?_ 1 _ rfl; refine blk_put (cs := #[.int .i64 0, .int .i64 0, .int .i64 0]) ?_ 0 _ rfl; (with_reducible repeat (first | refine blk_drewN ?_ _ | refine blk_drew ?_ | refine blk_alloc ?_ _)); exact BK547.out), Q_X1_, Q_X9_, Q_X10_⟩
      refine steps_cons ?_ ?_
      ·rintro b a w' ⟨v537, gb546, gb547, m1_, m9_, m10_, ha, Q_HO518, Q_BK508, Q_BK509, Q_BK528, Q_BK529, Q_HB, Q_NB547_546, Q_NB546_547, Q_HO538, Q_BK546, Q_GW546, Q_GE546, Q_NB508_546, Q_NB546_508, Q_NB509_546, Q_NB546_509, Q_NB528_546, Q_NB546_528, Q_NB529_546, Q_NB546_529, Q_BK547, Q_GW547, Q_GE547, Q_NB508_547, Q_NB547_508, Q_NB509_547, Q_NB547_509, Q_NB528_547, Q_NB547_528, Q_NB529_547, Q_NB547_529, Q_BK546_e11, Q_BK547_e12, Q_X1_, Q_X9_, Q_X10_⟩ hb_ hon hoff
       refine ⟨_, rfl, fun K hK => ?_⟩
       have e34 : a.tmps[34]? = some (.int .i64 t545) := by rw [ha]; exact putSel_on (e := (8, 34, .int .i64 t545)) 7 rfl rfl (hon 8 (by kernel_rfl)) rfl
       replace ha := mk0 ha
       have HO518 := mk0 Q_HO518
       have BK508 := mk0 Q_BK508
       have BK509 := mk0 Q_BK509
       have BK528 := mk0 Q_BK528
       have BK529 := mk0 Q_BK529
       have HB := mk0 Q_HB
       have NB547_546 := mk0 (Q_NB547_546 (hon 9 (by kernel_rfl)) (hon 10 (by kernel_rfl)))
       have NB546_547 := mk0 (Q_NB546_547 (hon 9 (by kernel_rfl)) (hon 10 (by kernel_rfl)))
       have HO538 := mk0 (Q_HO538 (hon 1 (by kernel_rfl)))
       have GW546 := mk0 (Q_GW546 (hon 9 (by kernel_rfl)))
       have GE546 := mk0 (Q_GE546 (hon 9 (by kernel_rfl)))
       have NB508_546 := mk0 (Q_NB508_546 (hon 9 (by kernel_rfl)))
       have NB546_508 := mk0 (Q_NB546_508 (hon 9 (by kernel_rfl)))
       have NB509_546 := mk0 (Q_NB509_546 (hon 9 (by kernel_rfl)))
       have NB546_509 := mk0 (Q_NB546_509 (hon 9 (by kernel_rfl)))
       have NB528_546 := mk0 (Q_NB528_546 (hon 9 (by kernel_rfl)))
       have NB546_528 := mk0 (Q_NB546_528 (hon 9 (by kernel_rfl)))
       have NB529_546 := mk0 (Q_NB529_546 (hon 9 (by kernel_rfl)))
       have NB546_529 := mk0 (Q_NB546_529 (hon 9 (by kernel_rfl)))
       have GW547 := mk0 (Q_GW547 (hon 10 (by kernel_rfl)))
       have GE547 := mk0 (Q_GE547 (hon 10 (by kernel_rfl)))
       have NB508_547 := mk0 (Q_NB508_547 (hon 10 (by kernel_rfl)))
       have NB547_508 := mk0 (Q_NB547_508 (hon 10 (by kernel_rfl)))
       have NB509_547 := mk0 (Q_NB509_547 (hon 10 (by kernel_rfl)))
       have NB547_509 := mk0 (Q_NB547_509 (hon 10 (by kernel_rfl)))
       have NB528_547 := mk0 (Q_NB528_547 (hon 10 (by kernel_rfl)))
       have NB547_528 := mk0 (Q_NB547_528 (hon 10 (by kernel_rfl)))
       have NB529_547 := mk0 (Q_NB529_547 (hon 10 (by kernel_rfl)))
       have NB547_529 := mk0 (Q_NB547_529 (hon 10 (by kernel_rfl)))
       have BK546 := mk0 (Q_BK546_e11 (hon 11 (by kernel_rfl)))
       have BK547 := mk0 (Q_BK547_e12 (hon 12 (by kernel_rfl)))
       refine value_ (w1 := w') (v := .int .i64 t545) (by rfl) rfl ?_ ?_
       ·go_simp
        (try simp only [i64_w])
        try rfl
       refine hK.out _ _ ⟨v537, gb546, gb547, m1_, m9_, m10_, (by rw [ha.out]; exact putSel_upk 10 hb_ rfl rfl rfl), Q_HO518, Q_BK508, Q_BK509, Q_BK528, Q_BK529, Q_HB, Q_NB547_546, Q_NB546_547, Q_HO538, fun _ h1_ => absurd ((hon 11 (by kernel_rfl)).symm.trans h1_) (by decide), Q_GW546, Q_GE546, Q_NB508_546, Q_NB546_508, Q_NB509_546, Q_NB546_509, Q_NB528_546, Q_NB546_528, Q_NB529_546, Q_NB546_529, fun _ h1_ => absurd ((hon 12 (by kernel_rfl)).symm.trans h1_) (by decide), Q_GW547, Q_GE547, Q_NB508_547, Q_NB547_508, Q_NB509_547, Q_NB547_509, Q_NB528_547, Q_NB547_528, Q_NB529_547, Q_NB547_529, Q_BK546_e11, Q_BK547_e12, Q_X1_, Q_X9_, Q_X10_⟩
      exact steps_nil
     rintro b a w46 hall ⟨v537, gb546, gb547, m1_, m9_, m10_, ha, Q_HO518, Q_BK508, Q_BK509, Q_BK528, Q_BK529, Q_HB, Q_NB547_546, Q_NB546_547, Q_HO538, Q_BK546, Q_GW546, Q_GE546, Q_NB508_546, Q_NB546_508, Q_NB509_546, Q_NB546_509, Q_NB528_546, Q_NB546_528, Q_NB529_546, Q_NB546_529, Q_BK547, Q_GW547, Q_GE547, Q_NB508_547, Q_NB547_508, Q_NB509_547, Q_NB547_509, Q_NB528_547, Q_NB547_528, Q_NB529_547, Q_NB547_529, Q_BK546_e11, Q_BK547_e12, Q_X1_, Q_X9_, Q_X10_⟩
     clear BK508 BK509 BK528 BK529 HB HO518
     have hb0_ := hall 0 (by kernel_rfl)
     have hb1_ := hall 1 (by kernel_rfl)
     have hb2_ := hall 2 (by kernel_rfl)
     have hb4_ := hall 4 (by kernel_rfl)
     have hb5_ := hall 5 (by kernel_rfl)
     have hb6_ := hall 6 (by kernel_rfl)
     have hb7_ := hall 7 (by kernel_rfl)
     have hb8_ := hall 8 (by kernel_rfl)
     have hb9_ := hall 9 (by kernel_rfl)
     have hb10_ := hall 10 (by kernel_rfl)
     have hb11_ := hall 11 (by kernel_rfl)
     have hb12_ := hall 12 (by kernel_rfl)
     have hb13_ := hall 13 (by kernel_rfl)
     subst ha
     obtain rfl := Q_X1_ hb1_
     obtain rfl := Q_X9_ hb9_
     obtain rfl := Q_X10_ hb10_
     simp only [putSel, hb0_, hb1_, hb2_, hb4_, hb5_, hb6_, hb7_, hb8_, hb9_, hb10_, hb11_, hb12_, hb13_, if_true, Act.put, List.setIfInBounds_toArray, List.set_cons_zero, List.set_cons_succ]
     have HO518 := mk0 Q_HO518
     clear Q_HO518
     have BK508 := mk0 Q_BK508
     clear Q_BK508
     have BK509 := mk0 Q_BK509
     clear Q_BK509
     have BK528 := mk0 Q_BK528
     clear Q_BK528
     have BK529 := mk0 Q_BK529
     clear Q_BK529
     have HB := mk0 Q_HB
     clear Q_HB
     have NB547_546 := mk0 (Q_NB547_546 hb9_ hb10_)
     clear Q_NB547_546
     have NB546_547 := mk0 (Q_NB546_547 hb9_ hb10_)
     clear Q_NB546_547
     have HO538 := mk0 (Q_HO538 hb1_)
     clear Q_HO538
     clear Q_BK546
     have GW546 := mk0 (Q_GW546 hb9_)
     clear Q_GW546
     have GE546 := mk0 (Q_GE546 hb9_)
     clear Q_GE546
     have NB508_546 := mk0 (Q_NB508_546 hb9_)
     clear Q_NB508_546
     have NB546_508 := mk0 (Q_NB546_508 hb9_)
     clear Q_NB546_508
     have NB509_546 := mk0 (Q_NB509_546 hb9_)
     clear Q_NB509_546
     have NB546_509 := mk0 (Q_NB546_509 hb9_)
     clear Q_NB546_509
     have NB528_546 := mk0 (Q_NB528_546 hb9_)
     clear Q_NB528_546
     have NB546_528 := mk0 (Q_NB546_528 hb9_)
     clear Q_NB546_528
     have NB529_546 := mk0 (Q_NB529_546 hb9_)
     clear Q_NB529_546
     have NB546_529 := mk0 (Q_NB546_529 hb9_)
     clear Q_NB546_529
     clear Q_BK547
     have GW547 := mk0 (Q_GW547 hb10_)
     clear Q_GW547
     have GE547 := mk0 (Q_GE547 hb10_)
     clear Q_GE547
     have NB508_547 := mk0 (Q_NB508_547 hb10_)
     clear Q_NB508_547
     have NB547_508 := mk0 (Q_NB547_508 hb10_)
     clear Q_NB547_508
     have NB509_547 := mk0 (Q_NB509_547 hb10_)
     clear Q_NB509_547
     have NB547_509 := mk0 (Q_NB547_509 hb10_)
     clear Q_NB547_509
     have NB528_547 := mk0 (Q_NB528_547 hb10_)
     clear Q_NB528_547
     have NB547_528 := mk0 (Q_NB547_528 hb10_)
     clear Q_NB547_528
     have NB529_547 := mk0 (Q_NB529_547 hb10_)
     clear Q_NB529_547
     have NB547_529 := mk0 (Q_NB547_529 hb10_)
     clear Q_NB547_529
     have BK546 := mk0 (Q_BK546_e11 hb11_)
     clear Q_BK546_e11
     have BK547 := mk0 (Q_BK547_e12 hb12_)
     clear Q_BK547_e12
     clear hall hb0_ hb1_ hb2_ hb4_ hb5_ hb6_ hb7_ hb8_ hb9_ hb10_ hb11_ hb12_ hb13_
     have hnb47 := NB528_546.out
     have hnc47 := NB546_528.out
     have hnb48 := NB528_547.out
     have hnc48 := NB547_528.out
     have X49_0 := ct BK528.out 0
     have X49_1 := ct BK528.out 1
     have X49_2 := ct BK528.out 2
     have Y49_0 := blk_frozen BK528.out 0
     have Y49_1 := blk_frozen BK528.out 1
     have Y49_2 := blk_frozen BK528.out 2
     have hnb50 := NB546_529.out
     have hnc50 := NB529_546.out
     have hnb51 := NB546_547.out
     have hnc51 := NB547_546.out
     have X52_0 := ct BK546.out 0
     have X52_1 := ct BK546.out 1
     have X52_2 := ct BK546.out 2
     have Y52_0 := blk_frozen BK546.out 0
     have Y52_1 := blk_frozen BK546.out 1
     have Y52_2 := blk_frozen BK546.out 2
     have hnb53 := NB529_547.out
     have hnc53 := NB547_529.out
     have X54_0 := ct BK529.out 0
     have X54_1 := ct BK529.out 1
     have X54_2 := ct BK529.out 2
     have Y54_0 := blk_frozen BK529.out 0
     have Y54_1 := blk_frozen BK529.out 1
     have Y54_2 := blk_frozen BK529.out 2
     have X55_0 := ct BK547.out 0
     have X55_1 := ct BK547.out 1
     have X55_2 := ct BK547.out 2
     have Y55_0 := blk_frozen BK547.out 0
     have Y55_1 := blk_frozen BK547.out 1
     have Y55_2 := blk_frozen BK547.out 2
     try go_wp2_with (first | (go_at_call 14; (with_reducible refine (metrolablaw30_awake.calls k  t548 _ ?side1 A13.out).mono ?_); (case side1 => exact GW_below HG.out (wT HB.out)); rintro e w56 ⟨rfl, hb⟩; have n0_ := mk0 (Kd.R_below (rT HO518.out) hb); have n1_ := mk0 (Kd.R_below (rT HO538.out) hb); have n2_ := mk0 (below_step (wT HB.out) hb); clear HO518; clear HO538; clear HB; have HO518 := n0_; have HO538 := n1_; have HB := n2_; clear n0_ n1_ n2_; (try clear hb); (try clear hb2); (try clear hk); (try clear hi)))
     go_ret
     exact ⟨eqT, wT HB.out⟩
    ·rw [if_neg c12] at H
     exact absurd H (by simp)
   ·rw [if_neg c11] at H
    exact absurd H (by simp)
  ·rw [if_neg c10] at H
   exact absurd H (by simp)
 ·replace c6 := Bool.eq_false_iff.mpr c6
  subst c6
  have H1 : ((metrolablaw30_awake.f k).bind fun t520 => (some t520)) = some r := by rw [if_neg (show ¬ (false = true) by decide)] at H; exact H
  clear H
  have H := H1
  clear H1
  replace H := Option.bind_eq_some_iff.mp H
  obtain ⟨t520, A570, H⟩ := H
  replace H : (some t520) = some r := H
  have A57 := mk0 A570
  clear A570
  obtain rfl := Option.some.inj H
  go_enter Tryz.func4, Tryz.ntmps4
  go_wp2_with (first | ((with_reducible refine gate_dst (N := 3) rfl ?_); refine box_event ?hg (N := 3) ?hd (cs := #[.int .i64 a0_0, .int .i64 a0_1, .int .i64 a0_2, .int .i64 a0_3, .int .i64 a0_4, .int .i64 a0_5, .slice A0_6 l0_6.length c0_6]) (t := 26) ?hr ?_; (case hd => rfl); (case hg => rfl); (case hr => first | (go_simp; done) | (go_simp; rfl)); intro gb508 hg w58 hbox hb; have n0_ := mk0 (below_step (wT HB.out) hb); have n1_ := mk0 (hbox); have n2_ := mk0 ((szT HB.out hg)); have n3_ := mk0 ((szT HB.out hg)); clear HB; have HB := n0_; have BK508 := n1_; have GW508 := n2_; have GE508 := n3_; clear n0_ n1_ n2_ n3_; clear hb hbox hg) | ((with_reducible refine gate_dst (N := 4) rfl ?_); refine box_event ?hg (N := 4) ?hd (cs := #[.int .i64 a1_0, .int .i64 a1_1, .int .i64 a1_2]) (t := 23) ?hr ?_; (case hd => rfl); (case hg => rfl); (case hr => first | (go_simp; done) | (go_simp; rfl)); intro gb509 hg w59 hbox hb; have n0_ := mk0 (bbT BK508.out hb); have n1_ := mk0 (below_step (wT HB.out) hb); have n2_ := mk0 (hbox); have n3_ := mk0 ((szT HB.out hg)); have n4_ := mk0 ((szT HB.out hg)); have n5_ := mk0 ((neL BK508.out hg)); have n6_ := mk0 ((neG BK508.out hg)); clear BK508; clear HB; have BK508 := n0_; have HB := n1_; have BK509 := n2_; have GW509 := n3_; have GE509 := n4_; have NB508_509 := n5_; have NB509_508 := n6_; clear n0_ n1_ n2_ n3_ n4_ n5_ n6_; clear hb hbox hg; (try clear BK509 GW509 GE509); have X60_0 := ct BK508.out 0; have X60_1 := ct BK508.out 1; have X60_2 := ct BK508.out 2; have X60_3 := ct BK508.out 3; have X60_4 := ct BK508.out 4; have X60_5 := ct BK508.out 5; have X60_6 := ct BK508.out 6; have Y60_0 := blk_frozen BK508.out 0; have Y60_1 := blk_frozen BK508.out 1; have Y60_2 := blk_frozen BK508.out 2; have Y60_3 := blk_frozen BK508.out 3; have Y60_4 := blk_frozen BK508.out 4; have Y60_5 := blk_frozen BK508.out 5; have Y60_6 := blk_frozen BK508.out 6; (try clear BK508 GW508 GE508)) | ((with_reducible refine gate_callee (f := 13) rfl ?_); refine goesL_ (some 14) rfl rfl Tryz.func13 (by kernel_rfl) rfl #[.agg #[.int .i64 a0_0, .int .i64 a0_1, .int .i64 a0_2, .int .i64 a0_3, .int .i64 a0_4, .int .i64 a0_5, .slice A0_6 l0_6.length c0_6]] rfl (by (try simp only [List.map_toArray, List.map_cons, List.map_nil]); first | done | rfl | (simp only [List.length_drop, List.length_take]; rfl)) ?_; (with_reducible refine (metrolablaw30_own.calls k a0_0 a0_1 a0_2 a0_3 a0_4 a0_5 _ _ l0_6 t510 t511 t512 t513 t514 t515 t516 _ ?side1 ?side2 A4.out).mono ?_); (case side1 => repeat (first | exact (Kd.C_below HR0_6.out HB.out) | (with_reducible refine Kd.C_alloc ?_ _) | (with_reducible refine Kd.C_drewN ?_ _) | (with_reducible refine Kd.C_drew ?_))); (case side2 => exact HC0_6.out); rintro e w61 ⟨v517, rfl, ho0, hb⟩; refine ⟨_, rfl, ?_⟩; have n0_ := mk0 (Kd.R_lower ho0 (below_size (wT HB.out))); have n1_ := mk0 (below_step (wT HB.out) hb); clear HB; have HO518 := n0_; have HB := n1_; clear n0_ n1_; (try clear hb); (try clear hb2); (try clear hk); (try clear hi); (try clear ho0); obtain ⟨Ao62, co62, eo62⟩ := Kd.R_slice HO518.out; subst eo62) | ((with_reducible refine gate_callee (f := 12) rfl ?_); refine goesL_ (some 15) rfl rfl Tryz.func12 (by kernel_rfl) rfl #[.agg #[.int .i64 t510, .int .i64 t511, .int .i64 t512, .int .i64 t513, .int .i64 t514, .int .i64 t515, .slice Ao62 t516.length co62]] rfl (by (try simp only [List.map_toArray, List.map_cons, List.map_nil]); first | done | rfl | (simp only [List.length_drop, List.length_take]; rfl)) ?_; (with_reducible refine (metrolabref30_Few.calls t510 t511 t512 t513 t514 t515 _ _ t516 false _ ?side1 ?side2 A5.out).mono ?_); (case side1 => repeat (first | exact (Kd.R_reads' HO518.out).2.2 | (with_reducible refine Kd.C_alloc ?_ _) | (with_reducible refine Kd.C_drewN ?_ _) | (with_reducible refine Kd.C_drew ?_))); (case side2 => exact (Kd.R_reads' HO518.out).2.1); rintro e w63 ⟨rfl, hb⟩; refine ⟨_, rfl, ?_⟩; have n0_ := mk0 (Kd.R_below (rT HO518.out) hb); have n1_ := mk0 (below_step (wT HB.out) hb); clear HO518; clear HB; have HO518 := n0_; have HB := n1_; clear n0_ n1_; (try clear hb); (try clear hb2); (try clear hk); (try clear hi)) | ((with_reducible refine gate_callee (f := 14) rfl ?_); refine goesL_ (some 17) rfl rfl Tryz.func14 (by kernel_rfl) rfl #[] rfl (by (try simp only [List.map_toArray, List.map_cons, List.map_nil]); first | done | rfl | (simp only [List.length_drop, List.length_take]; rfl)) ?_; (with_reducible refine (metrolablaw30_awake.calls k  t520 _ ?side1 A57.out).mono ?_); (case side1 => exact GW_below HG.out (wT HB.out)); rintro e w64 ⟨rfl, hb⟩; refine ⟨_, rfl, ?_⟩; have n0_ := mk0 (Kd.R_below (rT HO518.out) hb); have n1_ := mk0 (below_step (wT HB.out) hb); clear HO518; clear HB; have HO518 := n0_; have HB := n1_; clear n0_ n1_; (try clear hb); (try clear hb2); (try clear hk); (try clear hi)))
  go_ret
  exact ⟨eqT, wT HB.out⟩
end Go.Proofs.YtolbjmaabghghaaGreatDoor.PA
