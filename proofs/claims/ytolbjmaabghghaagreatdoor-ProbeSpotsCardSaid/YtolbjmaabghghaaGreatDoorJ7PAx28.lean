/- A part of the proof. -/
import Derived.Test.YtolbjmaabghghaaGreatDoorJ7PAx0
import Derived.Test.YtolbjmaabghghaaGreatDoorJ7PAx2
import Derived.Test.YtolbjmaabghghaaGreatDoorJ7PAx9
import Derived.Test.YtolbjmaabghghaaGreatDoorJ7PAx10
import Derived.Test.YtolbjmaabghghaaGreatDoorJ7PAx13
import Derived.Test.YtolbjmaabghghaaGreatDoorJ7PAx16
import Derived.Test.YtolbjmaabghghaaGreatDoorJ7PAx17
import Derived.Test.YtolbjmaabghghaaGreatDoorJ7PAx1
namespace Go.Proofs.YtolbjmaabghghaaGreatDoor.PA
open Go.RowKit Go.PW Go.PL Go.PM
attribute [local go_sem] max2_int min2_int max_two min_two max_three min_three max_four min_four   -- for this text's walks alone
set_option linter.unusedVariables false
set_option maxHeartbeats 8000000
set_option maxRecDepth 100000
set_option linter.unusedSimpArgs false
attribute [local go_sem high] eqA47
def metrolabref30_near.f (a0_0 : Int) (a0_1 : Int) (a0_2 : Int) : Option (Bool) := (metrolabref07_RightSpot.f a0_0 a0_1 a0_2).bind fun t636 => (if t636 = true then (if a0_0 ≥ (-200) then (if a0_0 ≤ 200 then (if a0_1 ≥ (-200) then (if a0_1 ≤ 200 then (if a0_2 ≥ (-200) then (some (decide (a0_2 ≤ 200))) else (some false)) else (some false)) else (some false)) else (some false)) else (some false)) else (some true))
theorem metrolabref30_near.calls (a0_0 : Int) (a0_1 : Int) (a0_2 : Int) (r : Bool) (w : World) (h : metrolabref30_near.f a0_0 a0_1 a0_2 = some r) :
  Calls Tryz.prog 56 #[.agg #[.int .i64 a0_0, .int .i64 a0_1, .int .i64 a0_2]] w fun e w' => e = .returned (.bool r) ∧ Below w.heap.size w w' := by
 have hu23 := Tryz.underlying23
 have HB := mk0 (Below.refl w.heap.size w)
 have H : ((metrolabref07_RightSpot.f a0_0 a0_1 a0_2).bind fun t636 => (if t636 = true then (if a0_0 ≥ (-200) then (if a0_0 ≤ 200 then (if a0_1 ≥ (-200) then (if a0_1 ≤ 200 then (if a0_2 ≥ (-200) then (some (decide (a0_2 ≤ 200))) else (some false)) else (some false)) else (some false)) else (some false)) else (some false)) else (some true))) = some r := h
 clear h
 replace H := Option.bind_eq_some_iff.mp H
 obtain ⟨t636, A20, H⟩ := H
 (try dsimp only at H)
 have A2 := mk0 A20
 clear A20
 by_cases c3 : t636 = true
 ·subst c3
  have H1 : (if a0_0 ≥ (-200) then (if a0_0 ≤ 200 then (if a0_1 ≥ (-200) then (if a0_1 ≤ 200 then (if a0_2 ≥ (-200) then (some (decide (a0_2 ≤ 200))) else (some false)) else (some false)) else (some false)) else (some false)) else (some false)) = some r := by rw [if_pos rfl] at H; exact H
  clear H
  have H := H1
  clear H1
  by_cases c4 : a0_0 ≥ (-200)
  ·rw [if_pos c4] at H
   have c4b0 : decide ((-200) ≤ a0_0) = true := decide_eq_true c4
   clear c4
   by_cases c5 : a0_0 ≤ 200
   ·rw [if_pos c5] at H
    have c5b0 : decide (a0_0 ≤ 200) = true := decide_eq_true c5
    clear c5
    by_cases c6 : a0_1 ≥ (-200)
    ·rw [if_pos c6] at H
     have c6b0 : decide ((-200) ≤ a0_1) = true := decide_eq_true c6
     clear c6
     by_cases c7 : a0_1 ≤ 200
     ·rw [if_pos c7] at H
      have c7b0 : decide (a0_1 ≤ 200) = true := decide_eq_true c7
      clear c7
      by_cases c8 : a0_2 ≥ (-200)
      ·rw [if_pos c8] at H
       have c8b0 : decide ((-200) ≤ a0_2) = true := decide_eq_true c8
       clear c8
       obtain rfl := Option.some.inj H
       go_enter Tryz.func56, Tryz.ntmps56
       go_wp2_with (first | ((with_reducible refine gate_dst (N := 1) rfl ?_); refine box_event ?hg (N := 1) ?hd (cs := #[.int .i64 a0_0, .int .i64 a0_1, .int .i64 a0_2]) (t := 23) ?hr ?_; (case hd => rfl); (case hg => rfl); (case hr => first | (go_simp; done) | (go_simp; rfl)); intro gb635 hg w9 hbox hb; have n0_ := mk0 (below_step (wT HB.out) hb); have n1_ := mk0 (hbox); have n2_ := mk0 ((szT HB.out hg)); have n3_ := mk0 ((szT HB.out hg)); clear HB; have HB := n0_; have BK635 := n1_; have GW635 := n2_; have GE635 := n3_; clear n0_ n1_ n2_ n3_; clear hb hbox hg; have X10_0 := ct BK635.out 0; have X10_1 := ct BK635.out 1; have X10_2 := ct BK635.out 2; have Y10_0 := blk_frozen BK635.out 0; have Y10_1 := blk_frozen BK635.out 1; have Y10_2 := blk_frozen BK635.out 2) | ((with_reducible refine gate_callee (f := 45) rfl ?_); refine goesL_ (some 4) rfl rfl Tryz.func45 (by kernel_rfl) rfl #[.agg #[.int .i64 a0_0, .int .i64 a0_1, .int .i64 a0_2]] rfl mapT ?_; (with_reducible refine (metrolabref07_RightSpot.calls a0_0 a0_1 a0_2 true _ A2.out).mono ?_); rintro e w11 ⟨rfl, hb⟩; refine ⟨_, rfl, ?_⟩; have n0_ := mk0 (bbT BK635.out hb); have n1_ := mk0 (below_step (wT HB.out) hb); clear BK635; clear HB; have BK635 := n0_; have HB := n1_; clear n0_ n1_; (try clear hb); (try clear hb2); (try clear hk); (try clear hi); have X12_0 := ct BK635.out 0; have X12_1 := ct BK635.out 1; have X12_2 := ct BK635.out 2; have Y12_0 := blk_frozen BK635.out 0; have Y12_1 := blk_frozen BK635.out 1; have Y12_2 := blk_frozen BK635.out 2))
       go_ret
       exact ⟨eqT, wT HB.out⟩
      ·rw [if_neg c8] at H
       have c8b0 : decide ((-200) ≤ a0_2) = false := decide_eq_false c8
       clear c8
       obtain rfl := Option.some.inj H
       go_enter Tryz.func56, Tryz.ntmps56
       go_wp2_with (first | ((with_reducible refine gate_dst (N := 1) rfl ?_); refine box_event ?hg (N := 1) ?hd (cs := #[.int .i64 a0_0, .int .i64 a0_1, .int .i64 a0_2]) (t := 23) ?hr ?_; (case hd => rfl); (case hg => rfl); (case hr => first | (go_simp; done) | (go_simp; rfl)); intro gb635 hg w13 hbox hb; have n0_ := mk0 (below_step (wT HB.out) hb); have n1_ := mk0 (hbox); have n2_ := mk0 ((szT HB.out hg)); have n3_ := mk0 ((szT HB.out hg)); clear HB; have HB := n0_; have BK635 := n1_; have GW635 := n2_; have GE635 := n3_; clear n0_ n1_ n2_ n3_; clear hb hbox hg; have X14_0 := ct BK635.out 0; have X14_1 := ct BK635.out 1; have X14_2 := ct BK635.out 2; have Y14_0 := blk_frozen BK635.out 0; have Y14_1 := blk_frozen BK635.out 1; have Y14_2 := blk_frozen BK635.out 2) | ((with_reducible refine gate_callee (f := 45) rfl ?_); refine goesL_ (some 4) rfl rfl Tryz.func45 (by kernel_rfl) rfl #[.agg #[.int .i64 a0_0, .int .i64 a0_1, .int .i64 a0_2]] rfl mapT ?_; (with_reducible refine (metrolabref07_RightSpot.calls a0_0 a0_1 a0_2 true _ A2.out).mono ?_); rintro e w15 ⟨rfl, hb⟩; refine ⟨_, rfl, ?_⟩; have n0_ := mk0 (bbT BK635.out hb); have n1_ := mk0 (below_step (wT HB.out) hb); clear BK635; clear HB; have BK635 := n0_; have HB := n1_; clear n0_ n1_; (try clear hb); (try clear hb2); (try clear hk); (try clear hi); have X16_0 := ct BK635.out 0; have X16_1 := ct BK635.out 1; have X16_2 := ct BK635.out 2; have Y16_0 := blk_frozen BK635.out 0; have Y16_1 := blk_frozen BK635.out 1; have Y16_2 := blk_frozen BK635.out 2))
       go_ret
       exact ⟨eqT, wT HB.out⟩
     ·rw [if_neg c7] at H
      have c7b0 : decide (a0_1 ≤ 200) = false := decide_eq_false c7
      clear c7
      obtain rfl := Option.some.inj H
      go_enter Tryz.func56, Tryz.ntmps56
      go_wp2_with (first | ((with_reducible refine gate_dst (N := 1) rfl ?_); refine box_event ?hg (N := 1) ?hd (cs := #[.int .i64 a0_0, .int .i64 a0_1, .int .i64 a0_2]) (t := 23) ?hr ?_; (case hd => rfl); (case hg => rfl); (case hr => first | (go_simp; done) | (go_simp; rfl)); intro gb635 hg w17 hbox hb; have n0_ := mk0 (below_step (wT HB.out) hb); have n1_ := mk0 (hbox); have n2_ := mk0 ((szT HB.out hg)); have n3_ := mk0 ((szT HB.out hg)); clear HB; have HB := n0_; have BK635 := n1_; have GW635 := n2_; have GE635 := n3_; clear n0_ n1_ n2_ n3_; clear hb hbox hg; have X18_0 := ct BK635.out 0; have X18_1 := ct BK635.out 1; have X18_2 := ct BK635.out 2; have Y18_0 := blk_frozen BK635.out 0; have Y18_1 := blk_frozen BK635.out 1; have Y18_2 := blk_frozen BK635.out 2) | ((with_reducible refine gate_callee (f := 45) rfl ?_); refine goesL_ (some 4) rfl rfl Tryz.func45 (by kernel_rfl) rfl #[.agg #[.int .i64 a0_0, .int .i64 a0_1, .int .i64 a0_2]] rfl mapT ?_; (with_reducible refine (metrolabref07_RightSpot.calls a0_0 a0_1 a0_2 true _ A2.out).mono ?_); rintro e w19 ⟨rfl, hb⟩; refine ⟨_, rfl, ?_⟩; have n0_ := mk0 (bbT BK635.out hb); have n1_ := mk0 (below_step (wT HB.out) hb); clear BK635; clear HB; have BK635 := n0_; have HB := n1_; clear n0_ n1_; (try clear hb); (try clear hb2); (try clear hk); (try clear hi); have X20_0 := ct BK635.out 0; have X20_1 := ct BK635.out 1; have X20_2 := ct BK635.out 2; have Y20_0 := blk_frozen BK635.out 0; have Y20_1 := blk_frozen BK635.out 1; have Y20_2 := blk_frozen BK635.out 2))
      go_ret
      exact ⟨eqT, wT HB.out⟩
    ·rw [if_neg c6] at H
     have c6b0 : decide ((-200) ≤ a0_1) = false := decide_eq_false c6
     clear c6
     obtain rfl := Option.some.inj H
     go_enter Tryz.func56, Tryz.ntmps56
     go_wp2_with (first | ((with_reducible refine gate_dst (N := 1) rfl ?_); refine box_event ?hg (N := 1) ?hd (cs := #[.int .i64 a0_0, .int .i64 a0_1, .int .i64 a0_2]) (t := 23) ?hr ?_; (case hd => rfl); (case hg => rfl); (case hr => first | (go_simp; done) | (go_simp; rfl)); intro gb635 hg w21 hbox hb; have n0_ := mk0 (below_step (wT HB.out) hb); have n1_ := mk0 (hbox); have n2_ := mk0 ((szT HB.out hg)); have n3_ := mk0 ((szT HB.out hg)); clear HB; have HB := n0_; have BK635 := n1_; have GW635 := n2_; have GE635 := n3_; clear n0_ n1_ n2_ n3_; clear hb hbox hg; have X22_0 := ct BK635.out 0; have X22_1 := ct BK635.out 1; have X22_2 := ct BK635.out 2; have Y22_0 := blk_frozen BK635.out 0; have Y22_1 := blk_frozen BK635.out 1; have Y22_2 := blk_frozen BK635.out 2) | ((with_reducible refine gate_callee (f := 45) rfl ?_); refine goesL_ (some 4) rfl rfl Tryz.func45 (by kernel_rfl) rfl #[.agg #[.int .i64 a0_0, .int .i64 a0_1, .int .i64 a0_2]] rfl mapT ?_; (with_reducible refine (metrolabref07_RightSpot.calls a0_0 a0_1 a0_2 true _ A2.out).mono ?_); rintro e w23 ⟨rfl, hb⟩; refine ⟨_, rfl, ?_⟩; have n0_ := mk0 (bbT BK635.out hb); have n1_ := mk0 (below_step (wT HB.out) hb); clear BK635; clear HB; have BK635 := n0_; have HB := n1_; clear n0_ n1_; (try clear hb); (try clear hb2); (try clear hk); (try clear hi); have X24_0 := ct BK635.out 0; have X24_1 := ct BK635.out 1; have X24_2 := ct BK635.out 2; have Y24_0 := blk_frozen BK635.out 0; have Y24_1 := blk_frozen BK635.out 1; have Y24_2 := blk_frozen BK635.out 2))
     go_ret
     exact ⟨eqT, wT HB.out⟩
   ·rw [if_neg c5] at H
    have c5b0 : decide (a0_0 ≤ 200) = false := decide_eq_false c5
    clear c5
    obtain rfl := Option.some.inj H
    go_enter Tryz.func56, Tryz.ntmps56
    go_wp2_with (first | ((with_reducible refine gate_dst (N := 1) rfl ?_); refine box_event ?hg (N := 1) ?hd (cs := #[.int .i64 a0_0, .int .i64 a0_1, .int .i64 a0_2]) (t := 23) ?hr ?_; (case hd => rfl); (case hg => rfl); (case hr => first | (go_simp; done) | (go_simp; rfl)); intro gb635 hg w25 hbox hb; have n0_ := mk0 (below_step (wT HB.out) hb); have n1_ := mk0 (hbox); have n2_ := mk0 ((szT HB.out hg)); have n3_ := mk0 ((szT HB.out hg)); clear HB; have HB := n0_; have BK635 := n1_; have GW635 := n2_; have GE635 := n3_; clear n0_ n1_ n2_ n3_; clear hb hbox hg; have X26_0 := ct BK635.out 0; have X26_1 := ct BK635.out 1; have X26_2 := ct BK635.out 2; have Y26_0 := blk_frozen BK635.out 0; have Y26_1 := blk_frozen BK635.out 1; have Y26_2 := blk_frozen BK635.out 2) | ((with_reducible refine gate_callee (f := 45) rfl ?_); refine goesL_ (some 4) rfl rfl Tryz.func45 (by kernel_rfl) rfl #[.agg #[.int .i64 a0_0, .int .i64 a0_1, .int .i64 a0_2]] rfl mapT ?_; (with_reducible refine (metrolabref07_RightSpot.calls a0_0 a0_1 a0_2 true _ A2.out).mono ?_); rintro e w27 ⟨rfl, hb⟩; refine ⟨_, rfl, ?_⟩; have n0_ := mk0 (bbT BK635.out hb); have n1_ := mk0 (below_step (wT HB.out) hb); clear BK635; clear HB; have BK635 := n0_; have HB := n1_; clear n0_ n1_; (try clear hb); (try clear hb2); (try clear hk); (try clear hi); have X28_0 := ct BK635.out 0; have X28_1 := ct BK635.out 1; have X28_2 := ct BK635.out 2; have Y28_0 := blk_frozen BK635.out 0; have Y28_1 := blk_frozen BK635.out 1; have Y28_2 := blk_frozen BK635.out 2))
    go_ret
    exact ⟨eqT, wT HB.out⟩
  ·rw [if_neg c4] at H
   have c4b0 : decide ((-200) ≤ a0_0) = false := decide_eq_false c4
   clear c4
   obtain rfl := Option.some.inj H
   go_enter Tryz.func56, Tryz.ntmps56
   go_wp2_with (first | ((with_reducible refine gate_dst (N := 1) rfl ?_); refine box_event ?hg (N := 1) ?hd (cs := #[.int .i64 a0_0, .int .i64 a0_1, .int .i64 a0_2]) (t := 23) ?hr ?_; (case hd => rfl); (case hg => rfl); (case hr => first | (go_simp; done) | (go_simp; rfl)); intro gb635 hg w29 hbox hb; have n0_ := mk0 (below_step (wT HB.out) hb); have n1_ := mk0 (hbox); have n2_ := mk0 ((szT HB.out hg)); have n3_ := mk0 ((szT HB.out hg)); clear HB; have HB := n0_; have BK635 := n1_; have GW635 := n2_; have GE635 := n3_; clear n0_ n1_ n2_ n3_; clear hb hbox hg; have X30_0 := ct BK635.out 0; have X30_1 := ct BK635.out 1; have X30_2 := ct BK635.out 2; have Y30_0 := blk_frozen BK635.out 0; have Y30_1 := blk_frozen BK635.out 1; have Y30_2 := blk_frozen BK635.out 2) | ((with_reducible refine gate_callee (f := 45) rfl ?_); refine goesL_ (some 4) rfl rfl Tryz.func45 (by kernel_rfl) rfl #[.agg #[.int .i64 a0_0, .int .i64 a0_1, .int .i64 a0_2]] rfl mapT ?_; (with_reducible refine (metrolabref07_RightSpot.calls a0_0 a0_1 a0_2 true _ A2.out).mono ?_); rintro e w31 ⟨rfl, hb⟩; refine ⟨_, rfl, ?_⟩; have n0_ := mk0 (bbT BK635.out hb); have n1_ := mk0 (below_step (wT HB.out) hb); clear BK635; clear HB; have BK635 := n0_; have HB := n1_; clear n0_ n1_; (try clear hb); (try clear hb2); (try clear hk); (try clear hi); have X32_0 := ct BK635.out 0; have X32_1 := ct BK635.out 1; have X32_2 := ct BK635.out 2; have Y32_0 := blk_frozen BK635.out 0; have Y32_1 := blk_frozen BK635.out 1; have Y32_2 := blk_frozen BK635.out 2))
   go_ret
   exact ⟨eqT, wT HB.out⟩
 ·replace c3 := Bool.eq_false_iff.mpr c3
  subst c3
  have H1 : (some true) = some r := by rw [if_neg (show ¬ (false = true) by decide)] at H; exact H
  clear H
  have H := H1
  clear H1
  obtain rfl := Option.some.inj H
  go_enter Tryz.func56, Tryz.ntmps56
  go_wp2_with (first | ((with_reducible refine gate_dst (N := 1) rfl ?_); refine box_event ?hg (N := 1) ?hd (cs := #[.int .i64 a0_0, .int .i64 a0_1, .int .i64 a0_2]) (t := 23) ?hr ?_; (case hd => rfl); (case hg => rfl); (case hr => first | (go_simp; done) | (go_simp; rfl)); intro gb635 hg w33 hbox hb; have n0_ := mk0 (below_step (wT HB.out) hb); have n1_ := mk0 (hbox); have n2_ := mk0 ((szT HB.out hg)); have n3_ := mk0 ((szT HB.out hg)); clear HB; have HB := n0_; have BK635 := n1_; have GW635 := n2_; have GE635 := n3_; clear n0_ n1_ n2_ n3_; clear hb hbox hg; have X34_0 := ct BK635.out 0; have X34_1 := ct BK635.out 1; have X34_2 := ct BK635.out 2; have Y34_0 := blk_frozen BK635.out 0; have Y34_1 := blk_frozen BK635.out 1; have Y34_2 := blk_frozen BK635.out 2; (try clear BK635 GW635 GE635)) | ((with_reducible refine gate_callee (f := 45) rfl ?_); refine goesL_ (some 4) rfl rfl Tryz.func45 (by kernel_rfl) rfl #[.agg #[.int .i64 a0_0, .int .i64 a0_1, .int .i64 a0_2]] rfl mapT ?_; (with_reducible refine (metrolabref07_RightSpot.calls a0_0 a0_1 a0_2 false _ A2.out).mono ?_); rintro e w35 ⟨rfl, hb⟩; refine ⟨_, rfl, ?_⟩; have n0_ := mk0 (below_step (wT HB.out) hb); clear HB; have HB := n0_; clear n0_; (try clear hb); (try clear hb2); (try clear hk); (try clear hi)))
  go_ret
  exact ⟨eqT, wT HB.out⟩
end Go.Proofs.YtolbjmaabghghaaGreatDoor.PA
