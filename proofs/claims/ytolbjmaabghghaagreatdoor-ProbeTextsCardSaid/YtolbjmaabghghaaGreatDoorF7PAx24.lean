/- A part of the proof. -/
import Derived.Test.YtolbjmaabghghaaGreatDoorF7PAx0
import Derived.Test.YtolbjmaabghghaaGreatDoorF7PAx1
import Derived.Test.YtolbjmaabghghaaGreatDoorF7PAx17
import Derived.Test.YtolbjmaabghghaaGreatDoorF7PAx23
namespace Go.Proofs.YtolbjmaabghghaaGreatDoor.PA
open Go.RowKit Go.PW Go.PL Go.PM
attribute [local go_sem] max2_int min2_int max_two min_two max_three min_three max_four min_four   -- for this text's walks alone
set_option linter.unusedVariables false
set_option maxHeartbeats 8000000
set_option maxRecDepth 100000
set_option linter.unusedSimpArgs false
attribute [local go_sem high] eqA23
def metrolabref30_Right.j0 : Nat → Bool → Int → Int → Int → Int → Int → ByteArray → Int → Int → Int → Option (Int)
 | 0, _, _, _, _, _, _, _, _, _, _ => none
 | k + 1, x31, x550000, x550001, x550002, x550003, x550004, x550005, x551000, x551001, x551002 => if x31 = true then (some 1) else (if (!(x550001 == x551000) || (!(x550002 == x551001) || (!(x550003 == x551002)))) = true then (some 3) else (if x550005.toList = ([] : List UInt8) then (some 0) else (some 3)))
def metrolabref30_Right.f (k : Nat) (a0_0 : Int) (a0_1 : Int) (a0_2 : Int) (a0_3 : Int) (a0_4 : Int) (a0_5 : ByteArray) : Option (Int) := if a0_0 = 0 then ((metrolabref07_RightSpot.f a0_1 a0_2 a0_3).bind fun t551 => (if t551 = true then (if a0_4 = 0 then (if a0_5.toList = ([] : List UInt8) then (some 0) else (some 3)) else (some 3)) else (some 2))) else (if a0_0 = 1 then (if a0_4 < 0 then (metrolabref30_Right.j0 k true a0_0 a0_1 a0_2 a0_3 a0_4 a0_5 0 0 0) else (metrolabref30_Right.j0 k (decide (a0_4 > 5)) a0_0 a0_1 a0_2 a0_3 a0_4 a0_5 0 0 0)) else (if a0_0 = 2 then ((metrolabref30_Name.f k a0_5).bind fun t552 => (if t552 = 0 then (if (!(a0_1 == 0) || (!(a0_2 == 0) || (!(a0_3 == 0)))) = true then (some 3) else (if a0_4 = 0 then (some 0) else (some 3))) else (some t552))) else (some 1)))
theorem metrolabref30_Right.calls (k : Nat) (a0_0 : Int) (a0_1 : Int) (a0_2 : Int) (a0_3 : Int) (a0_4 : Int) (a0_5 : ByteArray) (r : Int) (w : World) (h : metrolabref30_Right.f k a0_0 a0_1 a0_2 a0_3 a0_4 a0_5 = some r) :
  Calls Tryz.prog 26 #[.agg #[.int .i64 a0_0, .int .i64 a0_1, .int .i64 a0_2, .int .i64 a0_3, .int .i64 a0_4, .string a0_5]] w fun e w' => e = .returned (.int .i64 r) ∧ Below w.heap.size w w' := by
 have hu52 := Tryz.underlying52
 have hu23 := Tryz.underlying23
 have HB := mk0 (Below.refl w.heap.size w)
 have H : (if a0_0 = 0 then ((metrolabref07_RightSpot.f a0_1 a0_2 a0_3).bind fun t551 => (if t551 = true then (if a0_4 = 0 then (if a0_5.toList = ([] : List UInt8) then (some 0) else (some 3)) else (some 3)) else (some 2))) else (if a0_0 = 1 then (if a0_4 < 0 then (metrolabref30_Right.j0 k true a0_0 a0_1 a0_2 a0_3 a0_4 a0_5 0 0 0) else (metrolabref30_Right.j0 k (decide (a0_4 > 5)) a0_0 a0_1 a0_2 a0_3 a0_4 a0_5 0 0 0)) else (if a0_0 = 2 then ((metrolabref30_Name.f k a0_5).bind fun t552 => (if t552 = 0 then (if (!(a0_1 == 0) || (!(a0_2 == 0) || (!(a0_3 == 0)))) = true then (some 3) else (if a0_4 = 0 then (some 0) else (some 3))) else (some t552))) else (some 1)))) = some r := h
 clear h
 by_cases c2 : a0_0 = 0
 ·rw [if_pos c2] at H
  have c2b0 : (a0_0 == 0) = true := beq_iff_eq.mpr c2
  have c2b1 : (a0_0 != 0) = false := bne_eq_false_iff_eq.mpr c2
  clear c2
  replace H := Option.bind_eq_some_iff.mp H
  obtain ⟨t551, A30, H⟩ := H
  (try dsimp only at H)
  have A3 := mk0 A30
  clear A30
  by_cases c4 : t551 = true
  ·subst c4
   have H1 : (if a0_4 = 0 then (if a0_5.toList = ([] : List UInt8) then (some 0) else (some 3)) else (some 3)) = some r := by rw [if_pos rfl] at H; exact H
   clear H
   have H := H1
   clear H1
   by_cases c5 : a0_4 = 0
   ·rw [if_pos c5] at H
    have c5b0 : (a0_4 == 0) = true := beq_iff_eq.mpr c5
    have c5b1 : (a0_4 != 0) = false := bne_eq_false_iff_eq.mpr c5
    clear c5
    by_cases c6 : a0_5.toList = ([] : List UInt8)
    ·rw [if_pos c6] at H
     have c6b0 : (a0_5.toList == ([] : List UInt8)) = true := beq_iff_eq.mpr c6
     have c6b1 : (a0_5.toList != ([] : List UInt8)) = false := bne_eq_false_iff_eq.mpr c6
     clear c6
     obtain rfl := Option.some.inj H
     go_enter Tryz.func26, Tryz.ntmps26
     go_wp2_with (first | ((with_reducible refine gate_dst (N := 1) rfl ?_); refine box_event ?hg (N := 1) ?hd (cs := #[.int .i64 a0_0, .int .i64 a0_1, .int .i64 a0_2, .int .i64 a0_3, .int .i64 a0_4, .string a0_5]) (t := 52) ?hr ?_; (case hd => rfl); (case hg => rfl); (case hr => first | (go_simp; done) | (go_simp; rfl)); intro gb549 hg w7 hbox hb; have n0_ := mk0 (below_step (wT HB.out) hb); have n1_ := mk0 (hbox); have n2_ := mk0 ((szT HB.out hg)); have n3_ := mk0 ((szT HB.out hg)); clear HB; have HB := n0_; have BK549 := n1_; have GW549 := n2_; have GE549 := n3_; clear n0_ n1_ n2_ n3_; clear hb hbox hg) | ((with_reducible refine gate_dst (N := 3) rfl ?_); refine box_event ?hg (N := 3) ?hd (cs := #[.int .i64 0, .int .i64 0, .int .i64 0]) (t := 23) ?hr ?_; (case hd => rfl); (case hg => rfl); (case hr => first | (go_simp; done) | (go_simp; rfl)); intro gb550 hg w8 hbox hb; have n0_ := mk0 (bbT BK549.out hb); have n1_ := mk0 (below_step (wT HB.out) hb); have n2_ := mk0 (hbox); have n3_ := mk0 ((szT HB.out hg)); have n4_ := mk0 ((szT HB.out hg)); have n5_ := mk0 ((neL BK549.out hg)); have n6_ := mk0 ((neG BK549.out hg)); clear BK549; clear HB; have BK549 := n0_; have HB := n1_; have BK550 := n2_; have GW550 := n3_; have GE550 := n4_; have NB549_550 := n5_; have NB550_549 := n6_; clear n0_ n1_ n2_ n3_ n4_ n5_ n6_; clear hb hbox hg; have hnb9 := NB550_549.out; have hnc9 := NB549_550.out; have X10_0 := ct BK550.out 0; have X10_1 := ct BK550.out 1; have X10_2 := ct BK550.out 2; have Y10_0 := blk_frozen BK550.out 0; have Y10_1 := blk_frozen BK550.out 1; have Y10_2 := blk_frozen BK550.out 2; have X11_0 := ct BK549.out 0; have X11_1 := ct BK549.out 1; have X11_2 := ct BK549.out 2; have X11_3 := ct BK549.out 3; have X11_4 := ct BK549.out 4; have X11_5 := ct BK549.out 5; have Y11_0 := blk_frozen BK549.out 0; have Y11_1 := blk_frozen BK549.out 1; have Y11_2 := blk_frozen BK549.out 2; have Y11_3 := blk_frozen BK549.out 3; have Y11_4 := blk_frozen BK549.out 4; have Y11_5 := blk_frozen BK549.out 5) | ((with_reducible refine gate_callee (f := 45) rfl ?_); refine goesL_ (some 12) rfl rfl Tryz.func45 (by kernel_rfl) rfl #[.agg #[.int .i64 a0_1, .int .i64 a0_2, .int .i64 a0_3]] rfl mapT ?_; (with_reducible refine (metrolabref07_RightSpot.calls a0_1 a0_2 a0_3 true _ A3.out).mono ?_); rintro e w12 ⟨rfl, hb⟩; refine ⟨_, rfl, ?_⟩; have n0_ := mk0 (blk_below (g := gb549) (o := .cells #[.int .i64 a0_0, .int .i64 a0_1, .int .i64 a0_2, .int .i64 a0_3, .int .i64 a0_4, .string a0_5] 52 (0, 0)) (by (with_reducible repeat (first | refine blk_drewN ?_ _ | refine blk_drew ?_ | refine blk_alloc ?_ _)); refine blk_far ?_ NB549_550.out _; refine blk_far ?_ NB549_550.out _; refine blk_far ?_ NB549_550.out _; (with_reducible repeat (first | refine blk_drewN ?_ _ | refine blk_drew ?_ | refine blk_alloc ?_ _)); exact BK549.out) hb); have n1_ := mk0 (blk_below (g := gb550) (o := .cells #[.int .i64 0, .int .i64 0, .int .i64 0] 23 (0, 0)) (by (with_reducible repeat (first | refine blk_drewN ?_ _ | refine blk_drew ?_ | refine blk_alloc ?_ _)); refine blk_put (cs := #[.int .i64 0, .int .i64 0, .int .i64 0]) ?_ 2 _ rfl; refine blk_put (cs := #[.int .i64 0, .int .i64 0, .int .i64 0]) ?_ 1 _ rfl; refine blk_put (cs := #[.int .i64 0, .int .i64 0, .int .i64 0]) ?_ 0 _ rfl; (with_reducible repeat (first | refine blk_drewN ?_ _ | refine blk_drew ?_ | refine blk_alloc ?_ _)); exact BK550.out) hb); have n2_ := mk0 (below_step (by repeat (first | (with_reducible first | exact HB.out | apply below_alloc | apply pw_below_drewN | apply below_drew1 | refine below_set ?_ GE550.out) | exact HB.out)) hb); clear BK549; clear BK550; clear HB; have BK549 := n0_; have BK550 := n1_; have HB := n2_; clear n0_ n1_ n2_; (try clear hb); (try clear hb2); (try clear hk); (try clear hi); (try clear BK550 GW550 GE550); have X13_0 := ct BK549.out 0; have X13_1 := ct BK549.out 1; have X13_2 := ct BK549.out 2; have X13_3 := ct BK549.out 3; have X13_4 := ct BK549.out 4; have X13_5 := ct BK549.out 5; have Y13_0 := blk_frozen BK549.out 0; have Y13_1 := blk_frozen BK549.out 1; have Y13_2 := blk_frozen BK549.out 2; have Y13_3 := blk_frozen BK549.out 3; have Y13_4 := blk_frozen BK549.out 4; have Y13_5 := blk_frozen BK549.out 5))
     go_ret
     exact ⟨eqT, wT HB.out⟩
    ·rw [if_neg c6] at H
     have c6b0 : (a0_5.toList == ([] : List UInt8)) = false := beq_eq_false_iff_ne.mpr c6
     have c6b1 : (a0_5.toList != ([] : List UInt8)) = true := bne_iff_ne.mpr c6
     obtain rfl := Option.some.inj H
     go_enter Tryz.func26, Tryz.ntmps26
     go_wp2_with (first | ((with_reducible refine gate_dst (N := 1) rfl ?_); refine box_event ?hg (N := 1) ?hd (cs := #[.int .i64 a0_0, .int .i64 a0_1, .int .i64 a0_2, .int .i64 a0_3, .int .i64 a0_4, .string a0_5]) (t := 52) ?hr ?_; (case hd => rfl); (case hg => rfl); (case hr => first | (go_simp; done) | (go_simp; rfl)); intro gb549 hg w14 hbox hb; have n0_ := mk0 (below_step (wT HB.out) hb); have n1_ := mk0 (hbox); have n2_ := mk0 ((szT HB.out hg)); have n3_ := mk0 ((szT HB.out hg)); clear HB; have HB := n0_; have BK549 := n1_; have GW549 := n2_; have GE549 := n3_; clear n0_ n1_ n2_ n3_; clear hb hbox hg) | ((with_reducible refine gate_dst (N := 3) rfl ?_); refine box_event ?hg (N := 3) ?hd (cs := #[.int .i64 0, .int .i64 0, .int .i64 0]) (t := 23) ?hr ?_; (case hd => rfl); (case hg => rfl); (case hr => first | (go_simp; done) | (go_simp; rfl)); intro gb550 hg w15 hbox hb; have n0_ := mk0 (bbT BK549.out hb); have n1_ := mk0 (below_step (wT HB.out) hb); have n2_ := mk0 (hbox); have n3_ := mk0 ((szT HB.out hg)); have n4_ := mk0 ((szT HB.out hg)); have n5_ := mk0 ((neL BK549.out hg)); have n6_ := mk0 ((neG BK549.out hg)); clear BK549; clear HB; have BK549 := n0_; have HB := n1_; have BK550 := n2_; have GW550 := n3_; have GE550 := n4_; have NB549_550 := n5_; have NB550_549 := n6_; clear n0_ n1_ n2_ n3_ n4_ n5_ n6_; clear hb hbox hg; have hnb16 := NB550_549.out; have hnc16 := NB549_550.out; have X17_0 := ct BK550.out 0; have X17_1 := ct BK550.out 1; have X17_2 := ct BK550.out 2; have Y17_0 := blk_frozen BK550.out 0; have Y17_1 := blk_frozen BK550.out 1; have Y17_2 := blk_frozen BK550.out 2; have X18_0 := ct BK549.out 0; have X18_1 := ct BK549.out 1; have X18_2 := ct BK549.out 2; have X18_3 := ct BK549.out 3; have X18_4 := ct BK549.out 4; have X18_5 := ct BK549.out 5; have Y18_0 := blk_frozen BK549.out 0; have Y18_1 := blk_frozen BK549.out 1; have Y18_2 := blk_frozen BK549.out 2; have Y18_3 := blk_frozen BK549.out 3; have Y18_4 := blk_frozen BK549.out 4; have Y18_5 := blk_frozen BK549.out 5) | ((with_reducible refine gate_callee (f := 45) rfl ?_); refine goesL_ (some 12) rfl rfl Tryz.func45 (by kernel_rfl) rfl #[.agg #[.int .i64 a0_1, .int .i64 a0_2, .int .i64 a0_3]] rfl mapT ?_; (with_reducible refine (metrolabref07_RightSpot.calls a0_1 a0_2 a0_3 true _ A3.out).mono ?_); rintro e w19 ⟨rfl, hb⟩; refine ⟨_, rfl, ?_⟩; have n0_ := mk0 (blk_below (g := gb549) (o := .cells #[.int .i64 a0_0, .int .i64 a0_1, .int .i64 a0_2, .int .i64 a0_3, .int .i64 a0_4, .string a0_5] 52 (0, 0)) (by (with_reducible repeat (first | refine blk_drewN ?_ _ | refine blk_drew ?_ | refine blk_alloc ?_ _)); refine blk_far ?_ NB549_550.out _; refine blk_far ?_ NB549_550.out _; refine blk_far ?_ NB549_550.out _; (with_reducible repeat (first | refine blk_drewN ?_ _ | refine blk_drew ?_ | refine blk_alloc ?_ _)); exact BK549.out) hb); have n1_ := mk0 (blk_below (g := gb550) (o := .cells #[.int .i64 0, .int .i64 0, .int .i64 0] 23 (0, 0)) (by (with_reducible repeat (first | refine blk_drewN ?_ _ | refine blk_drew ?_ | refine blk_alloc ?_ _)); refine blk_put (cs := #[.int .i64 0, .int .i64 0, .int .i64 0]) ?_ 2 _ rfl; refine blk_put (cs := #[.int .i64 0, .int .i64 0, .int .i64 0]) ?_ 1 _ rfl; refine blk_put (cs := #[.int .i64 0, .int .i64 0, .int .i64 0]) ?_ 0 _ rfl; (with_reducible repeat (first | refine blk_drewN ?_ _ | refine blk_drew ?_ | refine blk_alloc ?_ _)); exact BK550.out) hb); have n2_ := mk0 (below_step (by repeat (first | (with_reducible first | exact HB.out | apply below_alloc | apply pw_below_drewN | apply below_drew1 | refine below_set ?_ GE550.out) | exact HB.out)) hb); clear BK549; clear BK550; clear HB; have BK549 := n0_; have BK550 := n1_; have HB := n2_; clear n0_ n1_ n2_; (try clear hb); (try clear hb2); (try clear hk); (try clear hi); (try clear BK550 GW550 GE550); have X20_0 := ct BK549.out 0; have X20_1 := ct BK549.out 1; have X20_2 := ct BK549.out 2; have X20_3 := ct BK549.out 3; have X20_4 := ct BK549.out 4; have X20_5 := ct BK549.out 5; have Y20_0 := blk_frozen BK549.out 0; have Y20_1 := blk_frozen BK549.out 1; have Y20_2 := blk_frozen BK549.out 2; have Y20_3 := blk_frozen BK549.out 3; have Y20_4 := blk_frozen BK549.out 4; have Y20_5 := blk_frozen BK549.out 5))
     go_ret
     exact ⟨eqT, wT HB.out⟩
   ·rw [if_neg c5] at H
    have c5b0 : (a0_4 == 0) = false := beq_eq_false_iff_ne.mpr c5
    have c5b1 : (a0_4 != 0) = true := bne_iff_ne.mpr c5
    obtain rfl := Option.some.inj H
    go_enter Tryz.func26, Tryz.ntmps26
    go_wp2_with (first | ((with_reducible refine gate_dst (N := 1) rfl ?_); refine box_event ?hg (N := 1) ?hd (cs := #[.int .i64 a0_0, .int .i64 a0_1, .int .i64 a0_2, .int .i64 a0_3, .int .i64 a0_4, .string a0_5]) (t := 52) ?hr ?_; (case hd => rfl); (case hg => rfl); (case hr => first | (go_simp; done) | (go_simp; rfl)); intro gb549 hg w21 hbox hb; have n0_ := mk0 (below_step (wT HB.out) hb); have n1_ := mk0 (hbox); have n2_ := mk0 ((szT HB.out hg)); have n3_ := mk0 ((szT HB.out hg)); clear HB; have HB := n0_; have BK549 := n1_; have GW549 := n2_; have GE549 := n3_; clear n0_ n1_ n2_ n3_; clear hb hbox hg) | ((with_reducible refine gate_dst (N := 3) rfl ?_); refine box_event ?hg (N := 3) ?hd (cs := #[.int .i64 0, .int .i64 0, .int .i64 0]) (t := 23) ?hr ?_; (case hd => rfl); (case hg => rfl); (case hr => first | (go_simp; done) | (go_simp; rfl)); intro gb550 hg w22 hbox hb; have n0_ := mk0 (bbT BK549.out hb); have n1_ := mk0 (below_step (wT HB.out) hb); have n2_ := mk0 (hbox); have n3_ := mk0 ((szT HB.out hg)); have n4_ := mk0 ((szT HB.out hg)); have n5_ := mk0 ((neL BK549.out hg)); have n6_ := mk0 ((neG BK549.out hg)); clear BK549; clear HB; have BK549 := n0_; have HB := n1_; have BK550 := n2_; have GW550 := n3_; have GE550 := n4_; have NB549_550 := n5_; have NB550_549 := n6_; clear n0_ n1_ n2_ n3_ n4_ n5_ n6_; clear hb hbox hg; have hnb23 := NB550_549.out; have hnc23 := NB549_550.out; have X24_0 := ct BK550.out 0; have X24_1 := ct BK550.out 1; have X24_2 := ct BK550.out 2; have Y24_0 := blk_frozen BK550.out 0; have Y24_1 := blk_frozen BK550.out 1; have Y24_2 := blk_frozen BK550.out 2; have X25_0 := ct BK549.out 0; have X25_1 := ct BK549.out 1; have X25_2 := ct BK549.out 2; have X25_3 := ct BK549.out 3; have X25_4 := ct BK549.out 4; have X25_5 := ct BK549.out 5; have Y25_0 := blk_frozen BK549.out 0; have Y25_1 := blk_frozen BK549.out 1; have Y25_2 := blk_frozen BK549.out 2; have Y25_3 := blk_frozen BK549.out 3; have Y25_4 := blk_frozen BK549.out 4; have Y25_5 := blk_frozen BK549.out 5) | ((with_reducible refine gate_callee (f := 45) rfl ?_); refine goesL_ (some 12) rfl rfl Tryz.func45 (by kernel_rfl) rfl #[.agg #[.int .i64 a0_1, .int .i64 a0_2, .int .i64 a0_3]] rfl mapT ?_; (with_reducible refine (metrolabref07_RightSpot.calls a0_1 a0_2 a0_3 true _ A3.out).mono ?_); rintro e w26 ⟨rfl, hb⟩; refine ⟨_, rfl, ?_⟩; have n0_ := mk0 (blk_below (g := gb549) (o := .cells #[.int .i64 a0_0, .int .i64 a0_1, .int .i64 a0_2, .int .i64 a0_3, .int .i64 a0_4, .string a0_5] 52 (0, 0)) (by (with_reducible repeat (first | refine blk_drewN ?_ _ | refine blk_drew ?_ | refine blk_alloc ?_ _)); refine blk_far ?_ NB549_550.out _; refine blk_far ?_ NB549_550.out _; refine blk_far ?_ NB549_550.out _; (with_reducible repeat (first | refine blk_drewN ?_ _ | refine blk_drew ?_ | refine blk_alloc ?_ _)); exact BK549.out) hb); have n1_ := mk0 (blk_below (g := gb550) (o := .cells #[.int .i64 0, .int .i64 0, .int .i64 0] 23 (0, 0)) (by (with_reducible repeat (first | refine blk_drewN ?_ _ | refine blk_drew ?_ | refine blk_alloc ?_ _)); refine blk_put (cs := #[.int .i64 0, .int .i64 0, .int .i64 0]) ?_ 2 _ rfl; refine blk_put (cs := #[.int .i64 0, .int .i64 0, .int .i64 0]) ?_ 1 _ rfl; refine blk_put (cs := #[.int .i64 0, .int .i64 0, .int .i64 0]) ?_ 0 _ rfl; (with_reducible repeat (first | refine blk_drewN ?_ _ | refine blk_drew ?_ | refine blk_alloc ?_ _)); exact BK550.out) hb); have n2_ := mk0 (below_step (by repeat (first | (with_reducible first | exact HB.out | apply below_alloc | apply pw_below_drewN | apply below_drew1 | refine below_set ?_ GE550.out) | exact HB.out)) hb); clear BK549; clear BK550; clear HB; have BK549 := n0_; have BK550 := n1_; have HB := n2_; clear n0_ n1_ n2_; (try clear hb); (try clear hb2); (try clear hk); (try clear hi); (try clear BK550 GW550 GE550); have X27_0 := ct BK549.out 0; have X27_1 := ct BK549.out 1; have X27_2 := ct BK549.out 2; have X27_3 := ct BK549.out 3; have X27_4 := ct BK549.out 4; have X27_5 := ct BK549.out 5; have Y27_0 := blk_frozen BK549.out 0; have Y27_1 := blk_frozen BK549.out 1; have Y27_2 := blk_frozen BK549.out 2; have Y27_3 := blk_frozen BK549.out 3; have Y27_4 := blk_frozen BK549.out 4; have Y27_5 := blk_frozen BK549.out 5))
    go_ret
    exact ⟨eqT, wT HB.out⟩
  ·replace c4 := Bool.eq_false_iff.mpr c4
   subst c4
   have H1 : (some 2) = some r := by rw [if_neg (show ¬ (false = true) by decide)] at H; exact H
   clear H
   have H := H1
   clear H1
   obtain rfl := Option.some.inj H
   go_enter Tryz.func26, Tryz.ntmps26
   go_wp2_with (first | ((with_reducible refine gate_dst (N := 1) rfl ?_); refine box_event ?hg (N := 1) ?hd (cs := #[.int .i64 a0_0, .int .i64 a0_1, .int .i64 a0_2, .int .i64 a0_3, .int .i64 a0_4, .string a0_5]) (t := 52) ?hr ?_; (case hd => rfl); (case hg => rfl); (case hr => first | (go_simp; done) | (go_simp; rfl)); intro gb549 hg w28 hbox hb; have n0_ := mk0 (below_step (wT HB.out) hb); have n1_ := mk0 (hbox); have n2_ := mk0 ((szT HB.out hg)); have n3_ := mk0 ((szT HB.out hg)); clear HB; have HB := n0_; have BK549 := n1_; have GW549 := n2_; have GE549 := n3_; clear n0_ n1_ n2_ n3_; clear hb hbox hg) | ((with_reducible refine gate_dst (N := 3) rfl ?_); refine box_event ?hg (N := 3) ?hd (cs := #[.int .i64 0, .int .i64 0, .int .i64 0]) (t := 23) ?hr ?_; (case hd => rfl); (case hg => rfl); (case hr => first | (go_simp; done) | (go_simp; rfl)); intro gb550 hg w29 hbox hb; have n0_ := mk0 (bbT BK549.out hb); have n1_ := mk0 (below_step (wT HB.out) hb); have n2_ := mk0 (hbox); have n3_ := mk0 ((szT HB.out hg)); have n4_ := mk0 ((szT HB.out hg)); have n5_ := mk0 ((neL BK549.out hg)); have n6_ := mk0 ((neG BK549.out hg)); clear BK549; clear HB; have BK549 := n0_; have HB := n1_; have BK550 := n2_; have GW550 := n3_; have GE550 := n4_; have NB549_550 := n5_; have NB550_549 := n6_; clear n0_ n1_ n2_ n3_ n4_ n5_ n6_; clear hb hbox hg; have hnb30 := NB550_549.out; have hnc30 := NB549_550.out; have X31_0 := ct BK550.out 0; have X31_1 := ct BK550.out 1; have X31_2 := ct BK550.out 2; have Y31_0 := blk_frozen BK550.out 0; have Y31_1 := blk_frozen BK550.out 1; have Y31_2 := blk_frozen BK550.out 2; have X32_0 := ct BK549.out 0; have X32_1 := ct BK549.out 1; have X32_2 := ct BK549.out 2; have X32_3 := ct BK549.out 3; have X32_4 := ct BK549.out 4; have X32_5 := ct BK549.out 5; have Y32_0 := blk_frozen BK549.out 0; have Y32_1 := blk_frozen BK549.out 1; have Y32_2 := blk_frozen BK549.out 2; have Y32_3 := blk_frozen BK549.out 3; have Y32_4 := blk_frozen BK549.out 4; have Y32_5 := blk_frozen BK549.out 5) | ((with_reducible refine gate_callee (f := 45) rfl ?_); refine goesL_ (some 12) rfl rfl Tryz.func45 (by kernel_rfl) rfl #[.agg #[.int .i64 a0_1, .int .i64 a0_2, .int .i64 a0_3]] rfl mapT ?_; (with_reducible refine (metrolabref07_RightSpot.calls a0_1 a0_2 a0_3 false _ A3.out).mono ?_); rintro e w33 ⟨rfl, hb⟩; refine ⟨_, rfl, ?_⟩; have n0_ := mk0 (blk_below (g := gb549) (o := .cells #[.int .i64 a0_0, .int .i64 a0_1, .int .i64 a0_2, .int .i64 a0_3, .int .i64 a0_4, .string a0_5] 52 (0, 0)) (by (with_reducible repeat (first | refine blk_drewN ?_ _ | refine blk_drew ?_ | refine blk_alloc ?_ _)); refine blk_far ?_ NB549_550.out _; refine blk_far ?_ NB549_550.out _; refine blk_far ?_ NB549_550.out _; (with_reducible repeat (first | refine blk_drewN ?_ _ | refine blk_drew ?_ | refine blk_alloc ?_ _)); exact BK549.out) hb); have n1_ := mk0 (blk_below (g := gb550) (o := .cells #[.int .i64 0, .int .i64 0, .int .i64 0] 23 (0, 0)) (by (with_reducible repeat (first | refine blk_drewN ?_ _ | refine blk_drew ?_ | refine blk_alloc ?_ _)); refine blk_put (cs := #[.int .i64 0, .int .i64 0, .int .i64 0]) ?_ 2 _ rfl; refine blk_put (cs := #[.int .i64 0, .int .i64 0, .int .i64 0]) ?_ 1 _ rfl; refine blk_put (cs := #[.int .i64 0, .int .i64 0, .int .i64 0]) ?_ 0 _ rfl; (with_reducible repeat (first | refine blk_drewN ?_ _ | refine blk_drew ?_ | refine blk_alloc ?_ _)); exact BK550.out) hb); have n2_ := mk0 (below_step (by repeat (first | (with_reducible first | exact HB.out | apply below_alloc | apply pw_below_drewN | apply below_drew1 | refine below_set ?_ GE550.out) | exact HB.out)) hb); clear BK549; clear BK550; clear HB; have BK549 := n0_; have BK550 := n1_; have HB := n2_; clear n0_ n1_ n2_; (try clear hb); (try clear hb2); (try clear hk); (try clear hi)))
   go_ret
   exact ⟨eqT, wT HB.out⟩
 ·rw [if_neg c2] at H
  have c2b0 : (a0_0 == 0) = false := beq_eq_false_iff_ne.mpr c2
  have c2b1 : (a0_0 != 0) = true := bne_iff_ne.mpr c2
  by_cases c34 : a0_0 = 1
  ·rw [if_pos c34] at H
   have c34b0 : (a0_0 == 1) = true := beq_iff_eq.mpr c34
   have c34b1 : (a0_0 != 1) = false := bne_eq_false_iff_eq.mpr c34
   clear c34
   have HC35 := mk0 H
   clear H
   go_enter Tryz.func26, Tryz.ntmps26
   go_upto_region 10 with (first | ((with_reducible refine gate_dst (N := 1) rfl ?_); refine box_event ?hg (N := 1) ?hd (cs := #[.int .i64 a0_0, .int .i64 a0_1, .int .i64 a0_2, .int .i64 a0_3, .int .i64 a0_4, .string a0_5]) (t := 52) ?hr ?_; (case hd => rfl); (case hg => rfl); (case hr => first | (go_simp; done) | (go_simp; rfl)); intro gb549 hg w36 hbox hb; have n0_ := mk0 (below_step (wT HB.out) hb); have n1_ := mk0 (hbox); have n2_ := mk0 ((szT HB.out hg)); have n3_ := mk0 ((szT HB.out hg)); clear HB; have HB := n0_; have BK549 := n1_; have GW549 := n2_; have GE549 := n3_; clear n0_ n1_ n2_ n3_; clear hb hbox hg) | ((with_reducible refine gate_dst (N := 3) rfl ?_); refine box_event ?hg (N := 3) ?hd (cs := #[.int .i64 0, .int .i64 0, .int .i64 0]) (t := 23) ?hr ?_; (case hd => rfl); (case hg => rfl); (case hr => first | (go_simp; done) | (go_simp; rfl)); intro gb550 hg w37 hbox hb; have n0_ := mk0 (bbT BK549.out hb); have n1_ := mk0 (below_step (wT HB.out) hb); have n2_ := mk0 (hbox); have n3_ := mk0 ((szT HB.out hg)); have n4_ := mk0 ((szT HB.out hg)); have n5_ := mk0 ((neL BK549.out hg)); have n6_ := mk0 ((neG BK549.out hg)); clear BK549; clear HB; have BK549 := n0_; have HB := n1_; have BK550 := n2_; have GW550 := n3_; have GE550 := n4_; have NB549_550 := n5_; have NB550_549 := n6_; clear n0_ n1_ n2_ n3_ n4_ n5_ n6_; clear hb hbox hg; have hnb38 := NB550_549.out; have hnc38 := NB549_550.out; have X39_0 := ct BK550.out 0; have X39_1 := ct BK550.out 1; have X39_2 := ct BK550.out 2; have Y39_0 := blk_frozen BK550.out 0; have Y39_1 := blk_frozen BK550.out 1; have Y39_2 := blk_frozen BK550.out 2; have X40_0 := ct BK549.out 0; have X40_1 := ct BK549.out 1; have X40_2 := ct BK549.out 2; have X40_3 := ct BK549.out 3; have X40_4 := ct BK549.out 4; have X40_5 := ct BK549.out 5; have Y40_0 := blk_frozen BK549.out 0; have Y40_1 := blk_frozen BK549.out 1; have Y40_2 := blk_frozen BK549.out 2; have Y40_3 := blk_frozen BK549.out 3; have Y40_4 := blk_frozen BK549.out 4; have Y40_5 := blk_frozen BK549.out 5))
   (try simp only [Act.put, List.setIfInBounds_toArray, List.set_cons_zero, List.set_cons_succ])
   go_cut [31] (fun v31 wc => ∃ (kq : Nat) (x31_34 : Bool), v31 = .bool x31_34 ∧ Aside0 (metrolabref30_Right.j0 kq x31_34 a0_0 a0_1 a0_2 a0_3 a0_4 a0_5 0 0 0 = some r) ∧ Aside0 (kq ≤ k) ∧ Aside0 (wc.heap[gb549]? = some (.cells #[.int .i64 a0_0, .int .i64 a0_1, .int .i64 a0_2, .int .i64 a0_3, .int .i64 a0_4, .string a0_5] 52 (0, 0))) ∧ Aside0 (wc.heap[gb550]? = some (.cells #[.int .i64 0, .int .i64 0, .int .i64 0] 23 (0, 0))) ∧ Aside0 (Below w.heap.size w wc))
   case first =>
    have H := HC35.out
    clear HC35
    by_cases c41 : a0_4 < 0
    ·rw [if_pos c41] at H
     have c41b0 : decide (a0_4 < 0) = true := decide_eq_true c41
     clear c41
     (first | rw [c41b0] | (simp only [i64_w, i32_w]; rw [c41b0]) | skip)
     have H' := mk0 H
     clear H
     have hnb42 := NB549_550.out
     have hnc42 := NB550_549.out
     have X43_0 := ct BK549.out 0
     have X43_1 := ct BK549.out 1
     have X43_2 := ct BK549.out 2
     have X43_3 := ct BK549.out 3
     have X43_4 := ct BK549.out 4
     have X43_5 := ct BK549.out 5
     have Y43_0 := blk_frozen BK549.out 0
     have Y43_1 := blk_frozen BK549.out 1
     have Y43_2 := blk_frozen BK549.out 2
     have Y43_3 := blk_frozen BK549.out 3
     have Y43_4 := blk_frozen BK549.out 4
     have Y43_5 := blk_frozen BK549.out 5
     go_wp2
     go_meet
     case rel => exact ⟨_, (true), (by first | rfl | (simp; done) | (simp [*]; done) | exact congrArg (Value.int .i64) (by unfold wrap64; omega)), H', ⟨by first | omega | exact Nat.le_refl _⟩, ⟨by (with_reducible repeat (first | refine blk_drewN ?_ _ | refine blk_drew ?_ | refine blk_alloc ?_ _)); refine blk_far ?_ NB549_550.out _; refine blk_far ?_ NB549_550.out _; refine blk_far ?_ NB549_550.out _; (with_reducible repeat (first | refine blk_drewN ?_ _ | refine blk_drew ?_ | refine blk_alloc ?_ _)); exact BK549.out⟩, ⟨by (with_reducible repeat (first | refine blk_drewN ?_ _ | refine blk_drew ?_ | refine blk_alloc ?_ _)); refine blk_put (cs := #[.int .i64 0, .int .i64 0, .int .i64 0]) ?_ 2 _ rfl; refine blk_put (cs := #[.int .i64 0, .int .i64 0, .int .i64 0]) ?_ 1 _ rfl; refine blk_put (cs := #[.int .i64 0, .int .i64 0, .int .i64 0]) ?_ 0 _ rfl; (with_reducible repeat (first | refine blk_drewN ?_ _ | refine blk_drew ?_ | refine blk_alloc ?_ _)); exact BK550.out⟩, ⟨by repeat (first | (with_reducible first | exact HB.out | apply below_alloc | apply pw_below_drewN | apply below_drew1 | refine below_set ?_ GE550.out) | exact HB.out)⟩⟩
    ·rw [if_neg c41] at H
     have c41b0 : decide (a0_4 < 0) = false := decide_eq_false c41
     clear c41
     (first | rw [c41b0] | (simp only [i64_w, i32_w]; rw [c41b0]) | skip)
     have H' := mk0 H
     clear H
     have hnb44 := NB549_550.out
     have hnc44 := NB550_549.out
     have X45_0 := ct BK549.out 0
     have X45_1 := ct BK549.out 1
     have X45_2 := ct BK549.out 2
     have X45_3 := ct BK549.out 3
     have X45_4 := ct BK549.out 4
     have X45_5 := ct BK549.out 5
     have Y45_0 := blk_frozen BK549.out 0
     have Y45_1 := blk_frozen BK549.out 1
     have Y45_2 := blk_frozen BK549.out 2
     have Y45_3 := blk_frozen BK549.out 3
     have Y45_4 := blk_frozen BK549.out 4
     have Y45_5 := blk_frozen BK549.out 5
     go_wp2
     go_meet
     case rel => exact ⟨_, (decide (a0_4 > 5)), (by first | rfl | (simp; done) | (simp [*]; done) | exact congrArg (Value.int .i64) (by unfold wrap64; omega)), H', ⟨by first | omega | exact Nat.le_refl _⟩, ⟨by (with_reducible repeat (first | refine blk_drewN ?_ _ | refine blk_drew ?_ | refine blk_alloc ?_ _)); refine blk_far ?_ NB549_550.out _; refine blk_far ?_ NB549_550.out _; refine blk_far ?_ NB549_550.out _; (with_reducible repeat (first | refine blk_drewN ?_ _ | refine blk_drew ?_ | refine blk_alloc ?_ _)); exact BK549.out⟩, ⟨by (with_reducible repeat (first | refine blk_drewN ?_ _ | refine blk_drew ?_ | refine blk_alloc ?_ _)); refine blk_put (cs := #[.int .i64 0, .int .i64 0, .int .i64 0]) ?_ 2 _ rfl; refine blk_put (cs := #[.int .i64 0, .int .i64 0, .int .i64 0]) ?_ 1 _ rfl; refine blk_put (cs := #[.int .i64 0, .int .i64 0, .int .i64 0]) ?_ 0 _ rfl; (with_reducible repeat (first | refine blk_drewN ?_ _ | refine blk_drew ?_ | refine blk_alloc ?_ _)); exact BK550.out⟩, ⟨by repeat (first | (with_reducible first | exact HB.out | apply below_alloc | apply pw_below_drewN | apply below_drew1 | refine below_set ?_ GE550.out) | exact HB.out)⟩⟩
   case rest =>
    clear HC35
    try clear c2
    try clear c2b0
    try clear c2b1
    try clear c4
    try clear c5
    try clear c5b0
    try clear c5b1
    try clear c6
    try clear c6b0
    try clear c6b1
    try clear c34
    try clear c34b0
    try clear c34b1
    try clear c41
    try clear c41b0
    try clear X10_0
    try clear X10_1
    try clear X10_2
    try clear X11_0
    try clear X11_1
    try clear X11_2
    try clear X11_3
    try clear X11_4
    try clear X11_5
    try clear X13_0
    try clear X13_1
    try clear X13_2
    try clear X13_3
    try clear X13_4
    try clear X13_5
    try clear X17_0
    try clear X17_1
    try clear X17_2
    try clear X18_0
    try clear X18_1
    try clear X18_2
    try clear X18_3
    try clear X18_4
    try clear X18_5
    try clear X20_0
    try clear X20_1
    try clear X20_2
    try clear X20_3
    try clear X20_4
    try clear X20_5
    try clear X24_0
    try clear X24_1
    try clear X24_2
    try clear X25_0
    try clear X25_1
    try clear X25_2
    try clear X25_3
    try clear X25_4
    try clear X25_5
    try clear X27_0
    try clear X27_1
    try clear X27_2
    try clear X27_3
    try clear X27_4
    try clear X27_5
    try clear X31_0
    try clear X31_1
    try clear X31_2
    try clear X32_0
    try clear X32_1
    try clear X32_2
    try clear X32_3
    try clear X32_4
    try clear X32_5
    try clear X39_0
    try clear X39_1
    try clear X39_2
    try clear X40_0
    try clear X40_1
    try clear X40_2
    try clear X40_3
    try clear X40_4
    try clear X40_5
    try clear X43_0
    try clear X43_1
    try clear X43_2
    try clear X43_3
    try clear X43_4
    try clear X43_5
    try clear X45_0
    try clear X45_1
    try clear X45_2
    try clear X45_3
    try clear X45_4
    try clear X45_5
    try clear Y10_0
    try clear Y10_1
    try clear Y10_2
    try clear Y11_0
    try clear Y11_1
    try clear Y11_2
    try clear Y11_3
    try clear Y11_4
    try clear Y11_5
    try clear Y13_0
    try clear Y13_1
    try clear Y13_2
    try clear Y13_3
    try clear Y13_4
    try clear Y13_5
    try clear Y17_0
    try clear Y17_1
    try clear Y17_2
    try clear Y18_0
    try clear Y18_1
    try clear Y18_2
    try clear Y18_3
    try clear Y18_4
    try clear Y18_5
    try clear Y20_0
    try clear Y20_1
    try clear Y20_2
    try clear Y20_3
    try clear Y20_4
    try clear Y20_5
    try clear Y24_0
    try clear Y24_1
    try clear Y24_2
    try clear Y25_0
    try clear Y25_1
    try clear Y25_2
    try clear Y25_3
    try clear Y25_4
    try clear Y25_5
    try clear Y27_0
    try clear Y27_1
    try clear Y27_2
    try clear Y27_3
    try clear Y27_4
    try clear Y27_5
    try clear Y31_0
    try clear Y31_1
    try clear Y31_2
    try clear Y32_0
    try clear Y32_1
    try clear Y32_2
    try clear Y32_3
    try clear Y32_4
    try clear Y32_5
    try clear Y39_0
    try clear Y39_1
    try clear Y39_2
    try clear Y40_0
    try clear Y40_1
    try clear Y40_2
    try clear Y40_3
    try clear Y40_4
    try clear Y40_5
    try clear Y43_0
    try clear Y43_1
    try clear Y43_2
    try clear Y43_3
    try clear Y43_4
    try clear Y43_5
    try clear Y45_0
    try clear Y45_1
    try clear Y45_2
    try clear Y45_3
    try clear Y45_4
    try clear Y45_5
    obtain ⟨kq, x31_34, rfl, HA, HJ34, BK549, BK550, HB⟩ := hcut
    cases kq with
    | zero => exact absurd HA.out (by simp [metrolabref30_Right.j0])
    | succ kj34 =>
     have H := HA.out
     clear HA
     simp only [metrolabref30_Right.j0] at H
     by_cases c46 : x31_34 = true
     ·subst c46
      have H1 : (some 1) = some r := by rw [if_pos rfl] at H; exact H
      clear H
      have H := H1
      clear H1
      obtain rfl := Option.some.inj H
      go_wp2
      go_ret
      exact ⟨eqT, wT HB.out⟩
     ·replace c46 := Bool.eq_false_iff.mpr c46
      subst c46
      have H1 : (if (!(a0_1 == 0) || (!(a0_2 == 0) || (!(a0_3 == 0)))) = true then (some 3) else (if a0_5.toList = ([] : List UInt8) then (some 0) else (some 3))) = some r := by rw [if_neg (show ¬ (false = true) by decide)] at H; exact H
      clear H
      have H := H1
      clear H1
      by_cases c47 : (!(a0_1 == 0) || (!(a0_2 == 0) || (!(a0_3 == 0)))) = true
      ·rw [if_pos c47] at H
       have c47b0 : (!(a0_1 == 0) || (!(a0_2 == 0) || (!(a0_3 == 0)))) = true := c47
       clear c47
       obtain rfl := Option.some.inj H
       have hnb48 := NB549_550.out
       have hnc48 := NB550_549.out
       have X49_0 := ct BK549.out 0
       have X49_1 := ct BK549.out 1
       have X49_2 := ct BK549.out 2
       have X49_3 := ct BK549.out 3
       have X49_4 := ct BK549.out 4
       have X49_5 := ct BK549.out 5
       have Y49_0 := blk_frozen BK549.out 0
       have Y49_1 := blk_frozen BK549.out 1
       have Y49_2 := blk_frozen BK549.out 2
       have Y49_3 := blk_frozen BK549.out 3
       have Y49_4 := blk_frozen BK549.out 4
       have Y49_5 := blk_frozen BK549.out 5
       have X50_0 := ct BK550.out 0
       have X50_1 := ct BK550.out 1
       have X50_2 := ct BK550.out 2
       have Y50_0 := blk_frozen BK550.out 0
       have Y50_1 := blk_frozen BK550.out 1
       have Y50_2 := blk_frozen BK550.out 2
       go_wp2
       go_ret
       exact ⟨eqT, wT HB.out⟩
      ·rw [if_neg c47] at H
       have c47b0 : (!(a0_1 == 0) || (!(a0_2 == 0) || (!(a0_3 == 0)))) = false := by simpa using c47
       clear c47
       by_cases c51 : a0_5.toList = ([] : List UInt8)
       ·rw [if_pos c51] at H
        have c51b0 : (a0_5.toList == ([] : List UInt8)) = true := beq_iff_eq.mpr c51
        have c51b1 : (a0_5.toList != ([] : List UInt8)) = false := bne_eq_false_iff_eq.mpr c51
        clear c51
        obtain rfl := Option.some.inj H
        have hnb52 := NB549_550.out
        have hnc52 := NB550_549.out
        have X53_0 := ct BK549.out 0
        have X53_1 := ct BK549.out 1
        have X53_2 := ct BK549.out 2
        have X53_3 := ct BK549.out 3
        have X53_4 := ct BK549.out 4
        have X53_5 := ct BK549.out 5
        have Y53_0 := blk_frozen BK549.out 0
        have Y53_1 := blk_frozen BK549.out 1
        have Y53_2 := blk_frozen BK549.out 2
        have Y53_3 := blk_frozen BK549.out 3
        have Y53_4 := blk_frozen BK549.out 4
        have Y53_5 := blk_frozen BK549.out 5
        have X54_0 := ct BK550.out 0
        have X54_1 := ct BK550.out 1
        have X54_2 := ct BK550.out 2
        have Y54_0 := blk_frozen BK550.out 0
        have Y54_1 := blk_frozen BK550.out 1
        have Y54_2 := blk_frozen BK550.out 2
        go_wp2
        go_ret
        exact ⟨eqT, wT HB.out⟩
       ·rw [if_neg c51] at H
        have c51b0 : (a0_5.toList == ([] : List UInt8)) = false := beq_eq_false_iff_ne.mpr c51
        have c51b1 : (a0_5.toList != ([] : List UInt8)) = true := bne_iff_ne.mpr c51
        obtain rfl := Option.some.inj H
        have hnb55 := NB549_550.out
        have hnc55 := NB550_549.out
        have X56_0 := ct BK549.out 0
        have X56_1 := ct BK549.out 1
        have X56_2 := ct BK549.out 2
        have X56_3 := ct BK549.out 3
        have X56_4 := ct BK549.out 4
        have X56_5 := ct BK549.out 5
        have Y56_0 := blk_frozen BK549.out 0
        have Y56_1 := blk_frozen BK549.out 1
        have Y56_2 := blk_frozen BK549.out 2
        have Y56_3 := blk_frozen BK549.out 3
        have Y56_4 := blk_frozen BK549.out 4
        have Y56_5 := blk_frozen BK549.out 5
        have X57_0 := ct BK550.out 0
        have X57_1 := ct BK550.out 1
        have X57_2 := ct BK550.out 2
        have Y57_0 := blk_frozen BK550.out 0
        have Y57_1 := blk_frozen BK550.out 1
        have Y57_2 := blk_frozen BK550.out 2
        go_wp2
        go_ret
        exact ⟨eqT, wT HB.out⟩
  ·rw [if_neg c34] at H
   have c34b0 : (a0_0 == 1) = false := beq_eq_false_iff_ne.mpr c34
   have c34b1 : (a0_0 != 1) = true := bne_iff_ne.mpr c34
   by_cases c58 : a0_0 = 2
   ·rw [if_pos c58] at H
    have c58b0 : (a0_0 == 2) = true := beq_iff_eq.mpr c58
    have c58b1 : (a0_0 != 2) = false := bne_eq_false_iff_eq.mpr c58
    clear c58
    replace H := Option.bind_eq_some_iff.mp H
    obtain ⟨t552, A590, H⟩ := H
    (try dsimp only at H)
    have A59 := mk0 A590
    clear A590
    by_cases c60 : t552 = 0
    ·rw [if_pos c60] at H
     have c60b0 : (t552 == 0) = true := beq_iff_eq.mpr c60
     have c60b1 : (t552 != 0) = false := bne_eq_false_iff_eq.mpr c60
     clear c60
     by_cases c61 : (!(a0_1 == 0) || (!(a0_2 == 0) || (!(a0_3 == 0)))) = true
     ·rw [if_pos c61] at H
      have c61b0 : (!(a0_1 == 0) || (!(a0_2 == 0) || (!(a0_3 == 0)))) = true := c61
      clear c61
      obtain rfl := Option.some.inj H
      go_enter Tryz.func26, Tryz.ntmps26
      go_wp2_with (first | ((with_reducible refine gate_dst (N := 1) rfl ?_); refine box_event ?hg (N := 1) ?hd (cs := #[.int .i64 a0_0, .int .i64 a0_1, .int .i64 a0_2, .int .i64 a0_3, .int .i64 a0_4, .string a0_5]) (t := 52) ?hr ?_; (case hd => rfl); (case hg => rfl); (case hr => first | (go_simp; done) | (go_simp; rfl)); intro gb549 hg w62 hbox hb; have n0_ := mk0 (below_step (wT HB.out) hb); have n1_ := mk0 (hbox); have n2_ := mk0 ((szT HB.out hg)); have n3_ := mk0 ((szT HB.out hg)); clear HB; have HB := n0_; have BK549 := n1_; have GW549 := n2_; have GE549 := n3_; clear n0_ n1_ n2_ n3_; clear hb hbox hg) | ((with_reducible refine gate_dst (N := 3) rfl ?_); refine box_event ?hg (N := 3) ?hd (cs := #[.int .i64 0, .int .i64 0, .int .i64 0]) (t := 23) ?hr ?_; (case hd => rfl); (case hg => rfl); (case hr => first | (go_simp; done) | (go_simp; rfl)); intro gb550 hg w63 hbox hb; have n0_ := mk0 (bbT BK549.out hb); have n1_ := mk0 (below_step (wT HB.out) hb); have n2_ := mk0 (hbox); have n3_ := mk0 ((szT HB.out hg)); have n4_ := mk0 ((szT HB.out hg)); have n5_ := mk0 ((neL BK549.out hg)); have n6_ := mk0 ((neG BK549.out hg)); clear BK549; clear HB; have BK549 := n0_; have HB := n1_; have BK550 := n2_; have GW550 := n3_; have GE550 := n4_; have NB549_550 := n5_; have NB550_549 := n6_; clear n0_ n1_ n2_ n3_ n4_ n5_ n6_; clear hb hbox hg; have hnb64 := NB550_549.out; have hnc64 := NB549_550.out; have X65_0 := ct BK550.out 0; have X65_1 := ct BK550.out 1; have X65_2 := ct BK550.out 2; have Y65_0 := blk_frozen BK550.out 0; have Y65_1 := blk_frozen BK550.out 1; have Y65_2 := blk_frozen BK550.out 2; have X66_0 := ct BK549.out 0; have X66_1 := ct BK549.out 1; have X66_2 := ct BK549.out 2; have X66_3 := ct BK549.out 3; have X66_4 := ct BK549.out 4; have X66_5 := ct BK549.out 5; have Y66_0 := blk_frozen BK549.out 0; have Y66_1 := blk_frozen BK549.out 1; have Y66_2 := blk_frozen BK549.out 2; have Y66_3 := blk_frozen BK549.out 3; have Y66_4 := blk_frozen BK549.out 4; have Y66_5 := blk_frozen BK549.out 5) | ((with_reducible refine gate_callee (f := 55) rfl ?_); refine goesL_ (some 45) rfl rfl Tryz.func55 (by kernel_rfl) rfl #[.string a0_5] rfl mapT ?_; (with_reducible refine (metrolabref30_Name.calls k a0_5 t552 _ A59.out).mono ?_); rintro e w' ⟨rfl, ⟨nd, rfl⟩⟩; refine ⟨_, rfl, ?_⟩))
      go_ret
      exact ⟨eqT, by repeat (first | (with_reducible first | exact HB.out | apply below_alloc | apply pw_below_drewN | apply below_drew1 | refine below_set ?_ GE550.out) | exact HB.out)⟩
     ·rw [if_neg c61] at H
      have c61b0 : (!(a0_1 == 0) || (!(a0_2 == 0) || (!(a0_3 == 0)))) = false := by simpa using c61
      clear c61
      by_cases c67 : a0_4 = 0
      ·rw [if_pos c67] at H
       have c67b0 : (a0_4 == 0) = true := beq_iff_eq.mpr c67
       have c67b1 : (a0_4 != 0) = false := bne_eq_false_iff_eq.mpr c67
       clear c67
       obtain rfl := Option.some.inj H
       go_enter Tryz.func26, Tryz.ntmps26
       go_wp2_with (first | ((with_reducible refine gate_dst (N := 1) rfl ?_); refine box_event ?hg (N := 1) ?hd (cs := #[.int .i64 a0_0, .int .i64 a0_1, .int .i64 a0_2, .int .i64 a0_3, .int .i64 a0_4, .string a0_5]) (t := 52) ?hr ?_; (case hd => rfl); (case hg => rfl); (case hr => first | (go_simp; done) | (go_simp; rfl)); intro gb549 hg w68 hbox hb; have n0_ := mk0 (below_step (wT HB.out) hb); have n1_ := mk0 (hbox); have n2_ := mk0 ((szT HB.out hg)); have n3_ := mk0 ((szT HB.out hg)); clear HB; have HB := n0_; have BK549 := n1_; have GW549 := n2_; have GE549 := n3_; clear n0_ n1_ n2_ n3_; clear hb hbox hg) | ((with_reducible refine gate_dst (N := 3) rfl ?_); refine box_event ?hg (N := 3) ?hd (cs := #[.int .i64 0, .int .i64 0, .int .i64 0]) (t := 23) ?hr ?_; (case hd => rfl); (case hg => rfl); (case hr => first | (go_simp; done) | (go_simp; rfl)); intro gb550 hg w69 hbox hb; have n0_ := mk0 (bbT BK549.out hb); have n1_ := mk0 (below_step (wT HB.out) hb); have n2_ := mk0 (hbox); have n3_ := mk0 ((szT HB.out hg)); have n4_ := mk0 ((szT HB.out hg)); have n5_ := mk0 ((neL BK549.out hg)); have n6_ := mk0 ((neG BK549.out hg)); clear BK549; clear HB; have BK549 := n0_; have HB := n1_; have BK550 := n2_; have GW550 := n3_; have GE550 := n4_; have NB549_550 := n5_; have NB550_549 := n6_; clear n0_ n1_ n2_ n3_ n4_ n5_ n6_; clear hb hbox hg; have hnb70 := NB550_549.out; have hnc70 := NB549_550.out; have X71_0 := ct BK550.out 0; have X71_1 := ct BK550.out 1; have X71_2 := ct BK550.out 2; have Y71_0 := blk_frozen BK550.out 0; have Y71_1 := blk_frozen BK550.out 1; have Y71_2 := blk_frozen BK550.out 2; have X72_0 := ct BK549.out 0; have X72_1 := ct BK549.out 1; have X72_2 := ct BK549.out 2; have X72_3 := ct BK549.out 3; have X72_4 := ct BK549.out 4; have X72_5 := ct BK549.out 5; have Y72_0 := blk_frozen BK549.out 0; have Y72_1 := blk_frozen BK549.out 1; have Y72_2 := blk_frozen BK549.out 2; have Y72_3 := blk_frozen BK549.out 3; have Y72_4 := blk_frozen BK549.out 4; have Y72_5 := blk_frozen BK549.out 5) | ((with_reducible refine gate_callee (f := 55) rfl ?_); refine goesL_ (some 45) rfl rfl Tryz.func55 (by kernel_rfl) rfl #[.string a0_5] rfl mapT ?_; (with_reducible refine (metrolabref30_Name.calls k a0_5 t552 _ A59.out).mono ?_); rintro e w' ⟨rfl, ⟨nd, rfl⟩⟩; refine ⟨_, rfl, ?_⟩))
       go_ret
       exact ⟨eqT, by repeat (first | (with_reducible first | exact HB.out | apply below_alloc | apply pw_below_drewN | apply below_drew1 | refine below_set ?_ GE550.out) | exact HB.out)⟩
      ·rw [if_neg c67] at H
       have c67b0 : (a0_4 == 0) = false := beq_eq_false_iff_ne.mpr c67
       have c67b1 : (a0_4 != 0) = true := bne_iff_ne.mpr c67
       obtain rfl := Option.some.inj H
       go_enter Tryz.func26, Tryz.ntmps26
       go_wp2_with (first | ((with_reducible refine gate_dst (N := 1) rfl ?_); refine box_event ?hg (N := 1) ?hd (cs := #[.int .i64 a0_0, .int .i64 a0_1, .int .i64 a0_2, .int .i64 a0_3, .int .i64 a0_4, .string a0_5]) (t := 52) ?hr ?_; (case hd => rfl); (case hg => rfl); (case hr => first | (go_simp; done) | (go_simp; rfl)); intro gb549 hg w73 hbox hb; have n0_ := mk0 (below_step (wT HB.out) hb); have n1_ := mk0 (hbox); have n2_ := mk0 ((szT HB.out hg)); have n3_ := mk0 ((szT HB.out hg)); clear HB; have HB := n0_; have BK549 := n1_; have GW549 := n2_; have GE549 := n3_; clear n0_ n1_ n2_ n3_; clear hb hbox hg) | ((with_reducible refine gate_dst (N := 3) rfl ?_); refine box_event ?hg (N := 3) ?hd (cs := #[.int .i64 0, .int .i64 0, .int .i64 0]) (t := 23) ?hr ?_; (case hd => rfl); (case hg => rfl); (case hr => first | (go_simp; done) | (go_simp; rfl)); intro gb550 hg w74 hbox hb; have n0_ := mk0 (bbT BK549.out hb); have n1_ := mk0 (below_step (wT HB.out) hb); have n2_ := mk0 (hbox); have n3_ := mk0 ((szT HB.out hg)); have n4_ := mk0 ((szT HB.out hg)); have n5_ := mk0 ((neL BK549.out hg)); have n6_ := mk0 ((neG BK549.out hg)); clear BK549; clear HB; have BK549 := n0_; have HB := n1_; have BK550 := n2_; have GW550 := n3_; have GE550 := n4_; have NB549_550 := n5_; have NB550_549 := n6_; clear n0_ n1_ n2_ n3_ n4_ n5_ n6_; clear hb hbox hg; have hnb75 := NB550_549.out; have hnc75 := NB549_550.out; have X76_0 := ct BK550.out 0; have X76_1 := ct BK550.out 1; have X76_2 := ct BK550.out 2; have Y76_0 := blk_frozen BK550.out 0; have Y76_1 := blk_frozen BK550.out 1; have Y76_2 := blk_frozen BK550.out 2; have X77_0 := ct BK549.out 0; have X77_1 := ct BK549.out 1; have X77_2 := ct BK549.out 2; have X77_3 := ct BK549.out 3; have X77_4 := ct BK549.out 4; have X77_5 := ct BK549.out 5; have Y77_0 := blk_frozen BK549.out 0; have Y77_1 := blk_frozen BK549.out 1; have Y77_2 := blk_frozen BK549.out 2; have Y77_3 := blk_frozen BK549.out 3; have Y77_4 := blk_frozen BK549.out 4; have Y77_5 := blk_frozen BK549.out 5) | ((with_reducible refine gate_callee (f := 55) rfl ?_); refine goesL_ (some 45) rfl rfl Tryz.func55 (by kernel_rfl) rfl #[.string a0_5] rfl mapT ?_; (with_reducible refine (metrolabref30_Name.calls k a0_5 t552 _ A59.out).mono ?_); rintro e w' ⟨rfl, ⟨nd, rfl⟩⟩; refine ⟨_, rfl, ?_⟩))
       go_ret
       exact ⟨eqT, by repeat (first | (with_reducible first | exact HB.out | apply below_alloc | apply pw_below_drewN | apply below_drew1 | refine below_set ?_ GE550.out) | exact HB.out)⟩
    ·rw [if_neg c60] at H
     have c60b0 : (t552 == 0) = false := beq_eq_false_iff_ne.mpr c60
     have c60b1 : (t552 != 0) = true := bne_iff_ne.mpr c60
     obtain rfl := Option.some.inj H
     go_enter Tryz.func26, Tryz.ntmps26
     go_wp2_with (first | ((with_reducible refine gate_dst (N := 1) rfl ?_); refine box_event ?hg (N := 1) ?hd (cs := #[.int .i64 a0_0, .int .i64 a0_1, .int .i64 a0_2, .int .i64 a0_3, .int .i64 a0_4, .string a0_5]) (t := 52) ?hr ?_; (case hd => rfl); (case hg => rfl); (case hr => first | (go_simp; done) | (go_simp; rfl)); intro gb549 hg w78 hbox hb; have n0_ := mk0 (below_step (wT HB.out) hb); have n1_ := mk0 (hbox); have n2_ := mk0 ((szT HB.out hg)); have n3_ := mk0 ((szT HB.out hg)); clear HB; have HB := n0_; have BK549 := n1_; have GW549 := n2_; have GE549 := n3_; clear n0_ n1_ n2_ n3_; clear hb hbox hg) | ((with_reducible refine gate_dst (N := 3) rfl ?_); refine box_event ?hg (N := 3) ?hd (cs := #[.int .i64 0, .int .i64 0, .int .i64 0]) (t := 23) ?hr ?_; (case hd => rfl); (case hg => rfl); (case hr => first | (go_simp; done) | (go_simp; rfl)); intro gb550 hg w79 hbox hb; have n0_ := mk0 (bbT BK549.out hb); have n1_ := mk0 (below_step (wT HB.out) hb); have n2_ := mk0 (hbox); have n3_ := mk0 ((szT HB.out hg)); have n4_ := mk0 ((szT HB.out hg)); have n5_ := mk0 ((neL BK549.out hg)); have n6_ := mk0 ((neG BK549.out hg)); clear BK549; clear HB; have BK549 := n0_; have HB := n1_; have BK550 := n2_; have GW550 := n3_; have GE550 := n4_; have NB549_550 := n5_; have NB550_549 := n6_; clear n0_ n1_ n2_ n3_ n4_ n5_ n6_; clear hb hbox hg; have hnb80 := NB550_549.out; have hnc80 := NB549_550.out; have X81_0 := ct BK550.out 0; have X81_1 := ct BK550.out 1; have X81_2 := ct BK550.out 2; have Y81_0 := blk_frozen BK550.out 0; have Y81_1 := blk_frozen BK550.out 1; have Y81_2 := blk_frozen BK550.out 2; have X82_0 := ct BK549.out 0; have X82_1 := ct BK549.out 1; have X82_2 := ct BK549.out 2; have X82_3 := ct BK549.out 3; have X82_4 := ct BK549.out 4; have X82_5 := ct BK549.out 5; have Y82_0 := blk_frozen BK549.out 0; have Y82_1 := blk_frozen BK549.out 1; have Y82_2 := blk_frozen BK549.out 2; have Y82_3 := blk_frozen BK549.out 3; have Y82_4 := blk_frozen BK549.out 4; have Y82_5 := blk_frozen BK549.out 5) | ((with_reducible refine gate_callee (f := 55) rfl ?_); refine goesL_ (some 45) rfl rfl Tryz.func55 (by kernel_rfl) rfl #[.string a0_5] rfl mapT ?_; (with_reducible refine (metrolabref30_Name.calls k a0_5 t552 _ A59.out).mono ?_); rintro e w' ⟨rfl, ⟨nd, rfl⟩⟩; refine ⟨_, rfl, ?_⟩))
     go_ret
     exact ⟨eqT, by repeat (first | (with_reducible first | exact HB.out | apply below_alloc | apply pw_below_drewN | apply below_drew1 | refine below_set ?_ GE550.out) | exact HB.out)⟩
   ·rw [if_neg c58] at H
    have c58b0 : (a0_0 == 2) = false := beq_eq_false_iff_ne.mpr c58
    have c58b1 : (a0_0 != 2) = true := bne_iff_ne.mpr c58
    obtain rfl := Option.some.inj H
    go_enter Tryz.func26, Tryz.ntmps26
    go_wp2_with (first | ((with_reducible refine gate_dst (N := 1) rfl ?_); refine box_event ?hg (N := 1) ?hd (cs := #[.int .i64 a0_0, .int .i64 a0_1, .int .i64 a0_2, .int .i64 a0_3, .int .i64 a0_4, .string a0_5]) (t := 52) ?hr ?_; (case hd => rfl); (case hg => rfl); (case hr => first | (go_simp; done) | (go_simp; rfl)); intro gb549 hg w83 hbox hb; have n0_ := mk0 (below_step (wT HB.out) hb); have n1_ := mk0 (hbox); have n2_ := mk0 ((szT HB.out hg)); have n3_ := mk0 ((szT HB.out hg)); clear HB; have HB := n0_; have BK549 := n1_; have GW549 := n2_; have GE549 := n3_; clear n0_ n1_ n2_ n3_; clear hb hbox hg) | ((with_reducible refine gate_dst (N := 3) rfl ?_); refine box_event ?hg (N := 3) ?hd (cs := #[.int .i64 0, .int .i64 0, .int .i64 0]) (t := 23) ?hr ?_; (case hd => rfl); (case hg => rfl); (case hr => first | (go_simp; done) | (go_simp; rfl)); intro gb550 hg w84 hbox hb; have n0_ := mk0 (bbT BK549.out hb); have n1_ := mk0 (below_step (wT HB.out) hb); have n2_ := mk0 (hbox); have n3_ := mk0 ((szT HB.out hg)); have n4_ := mk0 ((szT HB.out hg)); have n5_ := mk0 ((neL BK549.out hg)); have n6_ := mk0 ((neG BK549.out hg)); clear BK549; clear HB; have BK549 := n0_; have HB := n1_; have BK550 := n2_; have GW550 := n3_; have GE550 := n4_; have NB549_550 := n5_; have NB550_549 := n6_; clear n0_ n1_ n2_ n3_ n4_ n5_ n6_; clear hb hbox hg; have hnb85 := NB550_549.out; have hnc85 := NB549_550.out; have X86_0 := ct BK550.out 0; have X86_1 := ct BK550.out 1; have X86_2 := ct BK550.out 2; have Y86_0 := blk_frozen BK550.out 0; have Y86_1 := blk_frozen BK550.out 1; have Y86_2 := blk_frozen BK550.out 2; have X87_0 := ct BK549.out 0; have X87_1 := ct BK549.out 1; have X87_2 := ct BK549.out 2; have X87_3 := ct BK549.out 3; have X87_4 := ct BK549.out 4; have X87_5 := ct BK549.out 5; have Y87_0 := blk_frozen BK549.out 0; have Y87_1 := blk_frozen BK549.out 1; have Y87_2 := blk_frozen BK549.out 2; have Y87_3 := blk_frozen BK549.out 3; have Y87_4 := blk_frozen BK549.out 4; have Y87_5 := blk_frozen BK549.out 5))
    go_ret
    exact ⟨eqT, by repeat (first | (with_reducible first | exact HB.out | apply below_alloc | apply pw_below_drewN | apply below_drew1 | refine below_set ?_ GE550.out) | exact HB.out)⟩
def metrolabref01_signed.f (a0 : ByteArray) (a1 : Bool) : Option (ByteArray) := if a1 = true then (if a0.toList = ([48] : List UInt8) then (some a0) else (if 1 + a0.size ≤ 9223372036854775807 then (some ((⟨#[45]⟩ : ByteArray) ++ a0)) else (none))) else (some a0)
theorem metrolabref01_signed.calls (a0 : ByteArray) (a1 : Bool) (r : ByteArray) (w : World) (h : metrolabref01_signed.f a0 a1 = some r) :
  Calls Tryz.prog 134 #[.string a0, .bool a1] w fun e w' => e = .returned (.string r) ∧ Drawn0 w w' := by
 have H : (if a1 = true then (if a0.toList = ([48] : List UInt8) then (some a0) else (if 1 + a0.size ≤ 9223372036854775807 then (some ((⟨#[45]⟩ : ByteArray) ++ a0)) else (none))) else (some a0)) = some r := h
 clear h
 by_cases c3 : a1 = true
 ·subst c3
  have H1 : (if a0.toList = ([48] : List UInt8) then (some a0) else (if 1 + a0.size ≤ 9223372036854775807 then (some ((⟨#[45]⟩ : ByteArray) ++ a0)) else (none))) = some r := by rw [if_pos rfl] at H; exact H
  clear H
  have H := H1
  clear H1
  by_cases c4 : a0.toList = ([48] : List UInt8)
  ·rw [if_pos c4] at H
   have c4b0 : (a0.toList == ([48] : List UInt8)) = true := beq_iff_eq.mpr c4
   have c4b1 : (a0.toList != ([48] : List UInt8)) = false := bne_eq_false_iff_eq.mpr c4
   clear c4
   obtain rfl := Option.some.inj H
   go_enter Tryz.func134, Tryz.ntmps134
   go_wp2
   go_ret
   exact ⟨by first | rfl | (simp; done) | (simp [*]; done) | exact congrArg (Value.int .i64) (by unfold wrap64; omega), by repeat (first | exact Drawn0.refl _ | apply Drawn0.step)⟩
  ·rw [if_neg c4] at H
   have c4b0 : (a0.toList == ([48] : List UInt8)) = false := beq_eq_false_iff_ne.mpr c4
   have c4b1 : (a0.toList != ([48] : List UInt8)) = true := bne_iff_ne.mpr c4
   by_cases c5 : 1 + a0.size ≤ 9223372036854775807
   ·rw [if_pos c5] at H
    have c5b0 := eq_true c5
    have c5b1 : decide (1 + a0.size ≤ 9223372036854775807) = true := decide_eq_true c5
    try have c5b2 : (9223372036854775807 < 1 + a0.size) = False := eq_false (Nat.not_lt.2 c5)
    obtain rfl := Option.some.inj H
    go_enter Tryz.func134, Tryz.ntmps134
    go_wp2
    go_ret
    exact ⟨by first | rfl | (simp; done) | (simp [*]; done) | exact congrArg (Value.int .i64) (by unfold wrap64; omega), by repeat (first | exact Drawn0.refl _ | apply Drawn0.step)⟩
   ·rw [if_neg c5] at H
    exact absurd H (by simp)
 ·replace c3 := Bool.eq_false_iff.mpr c3
  subst c3
  have H1 : (some a0) = some r := by rw [if_neg (show ¬ (false = true) by decide)] at H; exact H
  clear H
  have H := H1
  clear H1
  obtain rfl := Option.some.inj H
  go_enter Tryz.func134, Tryz.ntmps134
  go_wp2
  go_ret
  exact ⟨by first | rfl | (simp; done) | (simp [*]; done) | exact congrArg (Value.int .i64) (by unfold wrap64; omega), by repeat (first | exact Drawn0.refl _ | apply Drawn0.step)⟩
def metrolabref01_size.f (a0 : ByteArray) : Option (ByteArray) := if a0.toList = ([] : List UInt8) then (some a0) else (if 0 < (a0.size : Int) then (if (bt a0 0) = 45 then (if 1 ≤ (a0.size : Int) then (some (a0.extract 1 a0.size)) else (none)) else (some a0)) else (none))
theorem metrolabref01_size.calls (a0 : ByteArray) (r : ByteArray) (w : World) (h : metrolabref01_size.f a0 = some r) :
  Calls Tryz.prog 135 #[.string a0] w fun e w' => e = .returned (.string r) ∧ Drawn0 w w' := by
 have H : (if a0.toList = ([] : List UInt8) then (some a0) else (if 0 < (a0.size : Int) then (if (bt a0 0) = 45 then (if 1 ≤ (a0.size : Int) then (some (a0.extract 1 a0.size)) else (none)) else (some a0)) else (none))) = some r := h
 clear h
 by_cases c2 : a0.toList = ([] : List UInt8)
 ·rw [if_pos c2] at H
  have c2b0 : (a0.toList == ([] : List UInt8)) = true := beq_iff_eq.mpr c2
  have c2b1 : (a0.toList != ([] : List UInt8)) = false := bne_eq_false_iff_eq.mpr c2
  clear c2
  obtain rfl := Option.some.inj H
  go_enter Tryz.func135, Tryz.ntmps135
  go_wp2
  go_ret
  exact ⟨by first | rfl | (simp; done) | (simp [*]; done) | exact congrArg (Value.int .i64) (by unfold wrap64; omega), by repeat (first | exact Drawn0.refl _ | apply Drawn0.step)⟩
 ·rw [if_neg c2] at H
  have c2b0 : (a0.toList == ([] : List UInt8)) = false := beq_eq_false_iff_ne.mpr c2
  have c2b1 : (a0.toList != ([] : List UInt8)) = true := bne_iff_ne.mpr c2
  by_cases c3 : 0 < (a0.size : Int)
  ·rw [if_pos c3] at H
   have c3b0 : decide (0 < (a0.size : Int)) = true := decide_eq_true c3
   have c3b1 : decide (0 < a0.size) = true := decide_eq_true (by omega)
   clear c3
   by_cases c5 : (bt a0 0) = 45
   ·rw [if_pos c5] at H
    have c5b0 : ((bt a0 0) == 45) = true := beq_iff_eq.mpr c5
    have c5b1 : ((bt a0 0) != 45) = false := bne_eq_false_iff_eq.mpr c5
    clear c5
    by_cases c6 : 1 ≤ (a0.size : Int)
    ·rw [if_pos c6] at H
     have c6b0 := eq_true c6
     have c6b1 : decide (1 ≤ (a0.size : Int)) = true := decide_eq_true c6
     clear c6
     obtain rfl := Option.some.inj H
     have p4 : 0 ≤ (0 : Int) := (by omega)
     have q4 : 0 < a0.size := (by have : (0 : Int) < (a0.size : Int) := of_decide_eq_true (by first | (with_reducible assumption) | assumption); omega)
     have hx4 : ∀ h : 0 < a0.size, ((a0[0]'h).toNat : Int) = bt a0 0 := bt_at a0 0
     clear p4
     have qi4 : (0 < (a0.size : Int)) = True := eq_true (of_decide_eq_true (by first | (with_reducible assumption) | assumption))
     replace q4 := eq_true q4
     go_enter Tryz.func135, Tryz.ntmps135
     go_wp2
     go_ret
     exact ⟨by first | rfl | (simp; done) | (simp [*]; done) | exact congrArg (Value.int .i64) (by unfold wrap64; omega), by repeat (first | exact Drawn0.refl _ | apply Drawn0.step)⟩
    ·rw [if_neg c6] at H
     exact absurd H (by simp)
   ·rw [if_neg c5] at H
    have c5b0 : ((bt a0 0) == 45) = false := beq_eq_false_iff_ne.mpr c5
    have c5b1 : ((bt a0 0) != 45) = true := bne_iff_ne.mpr c5
    obtain rfl := Option.some.inj H
    have p4 : 0 ≤ (0 : Int) := (by omega)
    have q4 : 0 < a0.size := (by have : (0 : Int) < (a0.size : Int) := of_decide_eq_true (by first | (with_reducible assumption) | assumption); omega)
    have hx4 : ∀ h : 0 < a0.size, ((a0[0]'h).toNat : Int) = bt a0 0 := bt_at a0 0
    clear p4
    have qi4 : (0 < (a0.size : Int)) = True := eq_true (of_decide_eq_true (by first | (with_reducible assumption) | assumption))
    replace q4 := eq_true q4
    go_enter Tryz.func135, Tryz.ntmps135
    go_wp2
    go_ret
    exact ⟨by first | rfl | (simp; done) | (simp [*]; done) | exact congrArg (Value.int .i64) (by unfold wrap64; omega), by repeat (first | exact Drawn0.refl _ | apply Drawn0.step)⟩
  ·rw [if_neg c3] at H
   exact absurd H (by simp)
def metrolabref01_Below.f (a0 : ByteArray) : Option (Bool) := if 0 < (a0.size : Int) then (some ((bt a0 0) == 45)) else (none)
theorem metrolabref01_Below.calls (a0 : ByteArray) (r : Bool) (w : World) (h : metrolabref01_Below.f a0 = some r) :
  Calls Tryz.prog 136 #[.string a0] w fun e w' => e = .returned (.bool r) ∧ Drawn0 w w' := by
 have H : (if 0 < (a0.size : Int) then (some ((bt a0 0) == 45)) else (none)) = some r := h
 clear h
 by_cases c2 : 0 < (a0.size : Int)
 ·rw [if_pos c2] at H
  have c2b0 : decide (0 < (a0.size : Int)) = true := decide_eq_true c2
  have c2b1 : decide (0 < a0.size) = true := decide_eq_true (by omega)
  clear c2
  obtain rfl := Option.some.inj H
  have p3 : 0 ≤ (0 : Int) := (by omega)
  have q3 : 0 < a0.size := (by have : (0 : Int) < (a0.size : Int) := of_decide_eq_true (by first | (with_reducible assumption) | assumption); omega)
  have hx3 : ∀ h : 0 < a0.size, ((a0[0]'h).toNat : Int) = bt a0 0 := bt_at a0 0
  clear p3
  have qi3 : (0 < (a0.size : Int)) = True := eq_true (of_decide_eq_true (by first | (with_reducible assumption) | assumption))
  replace q3 := eq_true q3
  go_enter Tryz.func136, Tryz.ntmps136
  go_wp2
  go_ret
  exact ⟨by first | rfl | (simp; done) | (simp [*]; done) | exact congrArg (Value.int .i64) (by unfold wrap64; omega), by repeat (first | exact Drawn0.refl _ | apply Drawn0.step)⟩
 ·rw [if_neg c2] at H
  exact absurd H (by simp)
def metrolabref01_Turned.f (a0 : ByteArray) : Option (ByteArray) := (metrolabref01_size.f a0).bind fun t553 => ((metrolabref01_Below.f a0).bind fun t554 => ((metrolabref01_signed.f t553 (!t554)).bind fun t555 => (some t555)))
theorem metrolabref01_Turned.calls (a0 : ByteArray) (r : ByteArray) (w : World) (h : metrolabref01_Turned.f a0 = some r) :
  Calls Tryz.prog 113 #[.string a0] w fun e w' => e = .returned (.string r) ∧ Drawn0 w w' := by
 have H : ((metrolabref01_size.f a0).bind fun t553 => ((metrolabref01_Below.f a0).bind fun t554 => ((metrolabref01_signed.f t553 (!t554)).bind fun t555 => (some t555)))) = some r := h
 clear h
 replace H := Option.bind_eq_some_iff.mp H
 obtain ⟨t553, A20, H⟩ := H
 (try dsimp only at H)
 have A2 := mk0 A20
 clear A20
 replace H := Option.bind_eq_some_iff.mp H
 obtain ⟨t554, A30, H⟩ := H
 (try dsimp only at H)
 have A3 := mk0 A30
 clear A30
 replace H := Option.bind_eq_some_iff.mp H
 obtain ⟨t555, A40, H⟩ := H
 (try dsimp only at H)
 have A4 := mk0 A40
 clear A40
 obtain rfl := Option.some.inj H
 go_enter Tryz.func113, Tryz.ntmps113
 go_wp2_with (first | ((with_reducible refine gate_callee (f := 135) rfl ?_); refine goesL_ (some 4) rfl rfl Tryz.func135 (by kernel_rfl) rfl #[.string a0] rfl mapT ?_; (with_reducible refine (metrolabref01_size.calls a0 t553 _ A2.out).mono ?_); rintro e w' ⟨rfl, ⟨nd, rfl⟩⟩; refine ⟨_, rfl, ?_⟩) | ((with_reducible refine gate_callee (f := 136) rfl ?_); refine goesL_ (some 6) rfl rfl Tryz.func136 (by kernel_rfl) rfl #[.string a0] rfl mapT ?_; (with_reducible refine (metrolabref01_Below.calls a0 t554 _ A3.out).mono ?_); rintro e w' ⟨rfl, ⟨nd, rfl⟩⟩; refine ⟨_, rfl, ?_⟩) | ((with_reducible refine gate_callee (f := 134) rfl ?_); refine goesL_ (some 8) rfl rfl Tryz.func134 (by kernel_rfl) rfl #[.string t553, .bool (!t554)] rfl mapT ?_; (with_reducible refine (metrolabref01_signed.calls t553 (!t554) t555 _ A4.out).mono ?_); rintro e w' ⟨rfl, ⟨nd, rfl⟩⟩; refine ⟨_, rfl, ?_⟩))
 go_ret
 exact ⟨by first | rfl | (simp; done) | (simp [*]; done) | exact congrArg (Value.int .i64) (by unfold wrap64; omega), by repeat (first | exact Drawn0.refl _ | apply Drawn0.step)⟩
end Go.Proofs.YtolbjmaabghghaaGreatDoor.PA
