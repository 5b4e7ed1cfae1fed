/- A part of the proof. -/
import Derived.Test.YtolbjmaabghghaaGreatDoorF7PAx0
import Derived.Test.YtolbjmaabghghaaGreatDoorF7PAx2
import Derived.Test.YtolbjmaabghghaaGreatDoorF7PAx9
import Derived.Test.YtolbjmaabghghaaGreatDoorF7PAx10
import Derived.Test.YtolbjmaabghghaaGreatDoorF7PAx13
import Derived.Test.YtolbjmaabghghaaGreatDoorF7PAx16
import Derived.Test.YtolbjmaabghghaaGreatDoorF7PAx17
import Derived.Test.YtolbjmaabghghaaGreatDoorF7PAx24
import Derived.Test.YtolbjmaabghghaaGreatDoorF7PAx25
import Derived.Test.YtolbjmaabghghaaGreatDoorF7PAx27
namespace Go.Proofs.YtolbjmaabghghaaGreatDoor.PA
open Go.RowKit Go.PW Go.PL Go.PM
attribute [local go_sem] max2_int min2_int max_two min_two max_three min_three max_four min_four   -- for this text's walks alone
set_option linter.unusedVariables false
set_option maxHeartbeats 8000000
set_option maxRecDepth 100000
set_option linter.unusedSimpArgs false
attribute [local go_sem high] eqA47
theorem ite_okb {c : Prop} [Decidable c] {x y : Bool} {w : World} : (if c then (Result.ok (Next.value (Value.bool x)) w : Result Next) else Result.ok (Next.value (Value.bool y)) w) = Result.ok (Next.value (Value.bool (if c then x else y))) w := by split <;> rfl
def metrolabref30_Read.f (k : Nat) (a0 : ByteArray) : Option (Int × Int × Int × Int × Int × ByteArray × Int) := if (a0.size : Int) > 4096 then (some (0, 0, 0, 0, 0, (⟨#[]⟩ : ByteArray), 17)) else ((metrolabref30_guess.f k a0).bind fun bt601 => ((metrolabref30_Text.f k bt601.1 bt601.2.1 bt601.2.2.1 bt601.2.2.2.1 bt601.2.2.2.2.1 bt601.2.2.2.2.2).bind fun bt608 => (if bt608.2 = 0 then (if bt608.1.toList = a0.toList then (some (bt601.1, bt601.2.1, bt601.2.2.1, bt601.2.2.2.1, bt601.2.2.2.2.1, bt601.2.2.2.2.2, 0)) else (some (0, 0, 0, 0, 0, (⟨#[]⟩ : ByteArray), 4))) else (some (0, 0, 0, 0, 0, (⟨#[]⟩ : ByteArray), 4)))))
theorem metrolabref30_Read.calls (k : Nat) (a0 : ByteArray) (r1 : Int) (r2 : Int) (r3 : Int) (r4 : Int) (r5 : Int) (r6 : ByteArray) (r7 : Int) (w : World) (h : metrolabref30_Read.f k a0 = some (r1, r2, r3, r4, r5, r6, r7)) :
  Calls Tryz.prog 24 #[.string a0] w fun e w' => e = .returned (.tuple #[.agg #[.int .i64 r1, .int .i64 r2, .int .i64 r3, .int .i64 r4, .int .i64 r5, .string r6], .int .i64 r7]) ∧ Below w.heap.size w w' := by
 have hu52 := Tryz.underlying52
 have HB := mk0 (Below.refl w.heap.size w)
 have H : (if (a0.size : Int) > 4096 then (some (0, 0, 0, 0, 0, (⟨#[]⟩ : ByteArray), 17)) else ((metrolabref30_guess.f k a0).bind fun bt601 => ((metrolabref30_Text.f k bt601.1 bt601.2.1 bt601.2.2.1 bt601.2.2.2.1 bt601.2.2.2.2.1 bt601.2.2.2.2.2).bind fun bt608 => (if bt608.2 = 0 then (if bt608.1.toList = a0.toList then (some (bt601.1, bt601.2.1, bt601.2.2.1, bt601.2.2.2.1, bt601.2.2.2.2.1, bt601.2.2.2.2.2, 0)) else (some (0, 0, 0, 0, 0, (⟨#[]⟩ : ByteArray), 4))) else (some (0, 0, 0, 0, 0, (⟨#[]⟩ : ByteArray), 4)))))) = some (r1, r2, r3, r4, r5, r6, r7) := h
 clear h
 by_cases c2 : (a0.size : Int) > 4096
 ·rw [if_pos c2] at H
  have c2b0 : decide (4096 < (a0.size : Int)) = true := decide_eq_true c2
  have c2b1 : decide (4096 < a0.size) = true := decide_eq_true (by omega)
  clear c2
  simp only [Option.some.injEq, Prod.mk.injEq] at H
  obtain ⟨rfl, rfl, rfl, rfl, rfl, rfl, rfl⟩ := H
  go_enter Tryz.func24, Tryz.ntmps24
  go_wp2_with (first | ((with_reducible refine gate_dst (N := 2) rfl ?_); refine box_event ?hg (N := 2) ?hd (cs := #[.int .i64 0, .int .i64 0, .int .i64 0, .int .i64 0, .int .i64 0, .string (⟨#[]⟩ : ByteArray)]) (t := 52) ?hr ?_; (case hd => rfl); (case hg => rfl); (case hr => first | (go_simp; done) | (go_simp; rfl)); intro gb600 hg w3 hbox hb; have n0_ := mk0 (below_step (wT HB.out) hb); have n1_ := mk0 (hbox); have n2_ := mk0 ((szT HB.out hg)); have n3_ := mk0 ((szT HB.out hg)); clear HB; have HB := n0_; have BK600 := n1_; have GW600 := n2_; have GE600 := n3_; clear n0_ n1_ n2_ n3_; clear hb hbox hg; have X4_0 := ct BK600.out 0; have X4_1 := ct BK600.out 1; have X4_2 := ct BK600.out 2; have X4_3 := ct BK600.out 3; have X4_4 := ct BK600.out 4; have X4_5 := ct BK600.out 5; have Y4_0 := blk_frozen BK600.out 0; have Y4_1 := blk_frozen BK600.out 1; have Y4_2 := blk_frozen BK600.out 2; have Y4_3 := blk_frozen BK600.out 3; have Y4_4 := blk_frozen BK600.out 4; have Y4_5 := blk_frozen BK600.out 5))
  refine bodyPost_ret (results_ct rfl _ _ gb600 52 #[.int .i64 0, .int .i64 0, .int .i64 0, .int .i64 0, .int .i64 0, .string (⟨#[]⟩ : ByteArray)] (0, 0) _ rfl (by (with_reducible repeat (first | refine blk_drewN ?_ _ | refine blk_drew ?_ | refine blk_alloc ?_ _)); refine blk_put (cs := #[.int .i64 0, .int .i64 0, .int .i64 0, .int .i64 0, .int .i64 0, .string (⟨#[]⟩ : ByteArray)]) ?_ 5 _ rfl; refine blk_put (cs := #[.int .i64 0, .int .i64 0, .int .i64 0, .int .i64 0, .int .i64 0, .string (⟨#[]⟩ : ByteArray)]) ?_ 4 _ rfl; refine blk_put (cs := #[.int .i64 0, .int .i64 0, .int .i64 0, .int .i64 0, .int .i64 0, .string (⟨#[]⟩ : ByteArray)]) ?_ 3 _ rfl; refine blk_put (cs := #[.int .i64 0, .int .i64 0, .int .i64 0, .int .i64 0, .int .i64 0, .string (⟨#[]⟩ : ByteArray)]) ?_ 2 _ rfl; refine blk_put (cs := #[.int .i64 0, .int .i64 0, .int .i64 0, .int .i64 0, .int .i64 0, .string (⟨#[]⟩ : ByteArray)]) ?_ 1 _ rfl; refine blk_put (cs := #[.int .i64 0, .int .i64 0, .int .i64 0, .int .i64 0, .int .i64 0, .string (⟨#[]⟩ : ByteArray)]) ?_ 0 _ rfl; (with_reducible repeat (first | refine blk_drewN ?_ _ | refine blk_drew ?_ | refine blk_alloc ?_ _)); exact BK600.out) Tryz.underlying52 rfl (by kernel_rfl)) rfl ?_
  exact ⟨eqT, by repeat (first | (with_reducible first | exact HB.out | apply below_alloc | apply pw_below_drewN | apply below_drew1 | refine below_set ?_ GE600.out) | exact HB.out)⟩
 ·rw [if_neg c2] at H
  have c2b0 : decide (4096 < (a0.size : Int)) = false := decide_eq_false c2
  have c2b1 : decide (4096 < a0.size) = false := decide_eq_false (by omega)
  clear c2
  replace H := Option.bind_eq_some_iff.mp H
  obtain ⟨⟨t601, t602, t603, t604, t605, t606⟩, A50, H⟩ := H
  (try dsimp only at H)
  have A5 := mk0 A50
  clear A50
  replace H := Option.bind_eq_some_iff.mp H
  obtain ⟨⟨t608, t609⟩, A60, H⟩ := H
  (try dsimp only at H)
  have A6 := mk0 A60
  clear A60
  by_cases c7 : t609 = 0
  ·rw [if_pos c7] at H
   have c7b0 : (t609 == 0) = true := beq_iff_eq.mpr c7
   have c7b1 : (t609 != 0) = false := bne_eq_false_iff_eq.mpr c7
   clear c7
   by_cases c8 : t608.toList = a0.toList
   ·rw [if_pos c8] at H
    have c8b0 : (t608.toList == a0.toList) = true := beq_iff_eq.mpr c8
    have c8b1 : (t608.toList != a0.toList) = false := bne_eq_false_iff_eq.mpr c8
    clear c8
    simp only [Option.some.injEq, Prod.mk.injEq] at H
    obtain ⟨rfl, rfl, rfl, rfl, rfl, rfl, rfl⟩ := H
    go_enter Tryz.func24, Tryz.ntmps24
    go_wp2_with (first | ((with_reducible refine gate_dst (N := 2) rfl ?_); refine box_event ?hg (N := 2) ?hd (cs := #[.int .i64 0, .int .i64 0, .int .i64 0, .int .i64 0, .int .i64 0, .string (⟨#[]⟩ : ByteArray)]) (t := 52) ?hr ?_; (case hd => rfl); (case hg => rfl); (case hr => first | (go_simp; done) | (go_simp; rfl)); intro gb600 hg w9 hbox hb; have n0_ := mk0 (below_step (wT HB.out) hb); have n1_ := mk0 (hbox); have n2_ := mk0 ((szT HB.out hg)); have n3_ := mk0 ((szT HB.out hg)); clear HB; have HB := n0_; have BK600 := n1_; have GW600 := n2_; have GE600 := n3_; clear n0_ n1_ n2_ n3_; clear hb hbox hg) | ((with_reducible refine gate_callee (f := 53) rfl ?_); refine goesL_ (some 12) rfl rfl Tryz.func53 (by kernel_rfl) rfl #[.string a0] rfl mapT ?_; (with_reducible refine (metrolabref30_guess.calls k a0 t601 t602 t603 t604 t605 t606 _ A5.out).mono ?_); rintro e w10 ⟨rfl, hb⟩; refine ⟨_, rfl, ?_⟩; have n0_ := mk0 (bbT BK600.out hb); have n1_ := mk0 (below_step (wT HB.out) hb); clear BK600; clear HB; have BK600 := n0_; have HB := n1_; clear n0_ n1_; (try clear hb); (try clear hb2); (try clear hk); (try clear hi)) | ((with_reducible refine gate_dst (N := 4) rfl ?_); refine box_event ?hg (N := 4) ?hd (cs := #[.int .i64 0, .int .i64 0, .int .i64 0, .int .i64 0, .int .i64 0, .string (⟨#[]⟩ : ByteArray)]) (t := 52) ?hr ?_; (case hd => rfl); (case hg => rfl); (case hr => first | (go_simp; done) | (go_simp; rfl)); intro gb607 hg w11 hbox hb; have n0_ := mk0 (bbT BK600.out hb); have n1_ := mk0 (below_step (wT HB.out) hb); have n2_ := mk0 (hbox); have n3_ := mk0 ((szT HB.out hg)); have n4_ := mk0 ((szT HB.out hg)); have n5_ := mk0 ((neL BK600.out hg)); have n6_ := mk0 ((neG BK600.out hg)); clear BK600; clear HB; have BK600 := n0_; have HB := n1_; have BK607 := n2_; have GW607 := n3_; have GE607 := n4_; have NB600_607 := n5_; have NB607_600 := n6_; clear n0_ n1_ n2_ n3_ n4_ n5_ n6_; clear hb hbox hg; have hnb12 := NB607_600.out; have hnc12 := NB600_607.out; have X13_0 := ct BK607.out 0; have X13_1 := ct BK607.out 1; have X13_2 := ct BK607.out 2; have X13_3 := ct BK607.out 3; have X13_4 := ct BK607.out 4; have X13_5 := ct BK607.out 5; have Y13_0 := blk_frozen BK607.out 0; have Y13_1 := blk_frozen BK607.out 1; have Y13_2 := blk_frozen BK607.out 2; have Y13_3 := blk_frozen BK607.out 3; have Y13_4 := blk_frozen BK607.out 4; have Y13_5 := blk_frozen BK607.out 5) | ((with_reducible refine gate_callee (f := 22) rfl ?_); refine goesL_ (some 15) rfl rfl Tryz.func22 (by kernel_rfl) rfl #[.agg #[.int .i64 t601, .int .i64 t602, .int .i64 t603, .int .i64 t604, .int .i64 t605, .string t606]] rfl mapT ?_; (with_reducible refine (metrolabref30_Text.calls k t601 t602 t603 t604 t605 t606 t608 t609 _ A6.out).mono ?_); rintro e w14 ⟨rfl, hb⟩; refine ⟨_, rfl, ?_⟩; have n0_ := mk0 (blk_below (g := gb600) (o := .cells #[.int .i64 0, .int .i64 0, .int .i64 0, .int .i64 0, .int .i64 0, .string (⟨#[]⟩ : ByteArray)] 52 (0, 0)) (by (with_reducible repeat (first | refine blk_drewN ?_ _ | refine blk_drew ?_ | refine blk_alloc ?_ _)); refine blk_far ?_ NB600_607.out _; refine blk_far ?_ NB600_607.out _; refine blk_far ?_ NB600_607.out _; refine blk_far ?_ NB600_607.out _; refine blk_far ?_ NB600_607.out _; refine blk_far ?_ NB600_607.out _; (with_reducible repeat (first | refine blk_drewN ?_ _ | refine blk_drew ?_ | refine blk_alloc ?_ _)); exact BK600.out) hb); have n1_ := mk0 (blk_below (g := gb607) (o := .cells #[.int .i64 t601, .int .i64 t602, .int .i64 t603, .int .i64 t604, .int .i64 t605, .string t606] 52 (0, 0)) (by (with_reducible repeat (first | refine blk_drewN ?_ _ | refine blk_drew ?_ | refine blk_alloc ?_ _)); refine blk_put (cs := #[.int .i64 t601, .int .i64 t602, .int .i64 t603, .int .i64 t604, .int .i64 t605, .string (⟨#[]⟩ : ByteArray)]) ?_ 5 _ rfl; refine blk_put (cs := #[.int .i64 t601, .int .i64 t602, .int .i64 t603, .int .i64 t604, .int .i64 0, .string (⟨#[]⟩ : ByteArray)]) ?_ 4 _ rfl; refine blk_put (cs := #[.int .i64 t601, .int .i64 t602, .int .i64 t603, .int .i64 0, .int .i64 0, .string (⟨#[]⟩ : ByteArray)]) ?_ 3 _ rfl; refine blk_put (cs := #[.int .i64 t601, .int .i64 t602, .int .i64 0, .int .i64 0, .int .i64 0, .string (⟨#[]⟩ : ByteArray)]) ?_ 2 _ rfl; refine blk_put (cs := #[.int .i64 t601, .int .i64 0, .int .i64 0, .int .i64 0, .int .i64 0, .string (⟨#[]⟩ : ByteArray)]) ?_ 1 _ rfl; refine blk_put (cs := #[.int .i64 0, .int .i64 0, .int .i64 0, .int .i64 0, .int .i64 0, .string (⟨#[]⟩ : ByteArray)]) ?_ 0 _ rfl; (with_reducible repeat (first | refine blk_drewN ?_ _ | refine blk_drew ?_ | refine blk_alloc ?_ _)); exact BK607.out) hb); have n2_ := mk0 (below_step (by repeat (first | (with_reducible first | exact HB.out | apply below_alloc | apply pw_below_drewN | apply below_drew1 | refine below_set ?_ GE607.out) | exact HB.out)) hb); clear BK600; clear BK607; clear HB; have BK600 := n0_; have BK607 := n1_; have HB := n2_; clear n0_ n1_ n2_; (try clear hb); (try clear hb2); (try clear hk); (try clear hi); have X15_0 := ct BK607.out 0; have X15_1 := ct BK607.out 1; have X15_2 := ct BK607.out 2; have X15_3 := ct BK607.out 3; have X15_4 := ct BK607.out 4; have X15_5 := ct BK607.out 5; have Y15_0 := blk_frozen BK607.out 0; have Y15_1 := blk_frozen BK607.out 1; have Y15_2 := blk_frozen BK607.out 2; have Y15_3 := blk_frozen BK607.out 3; have Y15_4 := blk_frozen BK607.out 4; have Y15_5 := blk_frozen BK607.out 5; (try clear BK607 GW607 GE607); have X16_0 := ct BK600.out 0; have X16_1 := ct BK600.out 1; have X16_2 := ct BK600.out 2; have X16_3 := ct BK600.out 3; have X16_4 := ct BK600.out 4; have X16_5 := ct BK600.out 5; have Y16_0 := blk_frozen BK600.out 0; have Y16_1 := blk_frozen BK600.out 1; have Y16_2 := blk_frozen BK600.out 2; have Y16_3 := blk_frozen BK600.out 3; have Y16_4 := blk_frozen BK600.out 4; have Y16_5 := blk_frozen BK600.out 5))
    refine bodyPost_ret (results_ct rfl _ _ gb600 52 #[.int .i64 t601, .int .i64 t602, .int .i64 t603, .int .i64 t604, .int .i64 t605, .string t606] (0, 0) _ rfl (by (with_reducible repeat (first | refine blk_drewN ?_ _ | refine blk_drew ?_ | refine blk_alloc ?_ _)); refine blk_put (cs := #[.int .i64 t601, .int .i64 t602, .int .i64 t603, .int .i64 t604, .int .i64 t605, .string (⟨#[]⟩ : ByteArray)]) ?_ 5 _ rfl; refine blk_put (cs := #[.int .i64 t601, .int .i64 t602, .int .i64 t603, .int .i64 t604, .int .i64 0, .string (⟨#[]⟩ : ByteArray)]) ?_ 4 _ rfl; refine blk_put (cs := #[.int .i64 t601, .int .i64 t602, .int .i64 t603, .int .i64 0, .int .i64 0, .string (⟨#[]⟩ : ByteArray)]) ?_ 3 _ rfl; refine blk_put (cs := #[.int .i64 t601, .int .i64 t602, .int .i64 0, .int .i64 0, .int .i64 0, .string (⟨#[]⟩ : ByteArray)]) ?_ 2 _ rfl; refine blk_put (cs := #[.int .i64 t601, .int .i64 0, .int .i64 0, .int .i64 0, .int .i64 0, .string (⟨#[]⟩ : ByteArray)]) ?_ 1 _ rfl; refine blk_put (cs := #[.int .i64 0, .int .i64 0, .int .i64 0, .int .i64 0, .int .i64 0, .string (⟨#[]⟩ : ByteArray)]) ?_ 0 _ rfl; (with_reducible repeat (first | refine blk_drewN ?_ _ | refine blk_drew ?_ | refine blk_alloc ?_ _)); exact BK600.out) Tryz.underlying52 rfl (by kernel_rfl)) rfl ?_
    exact ⟨eqT, by repeat (first | (with_reducible first | exact HB.out | apply below_alloc | apply pw_below_drewN | apply below_drew1 | refine below_set ?_ GE600.out) | exact HB.out)⟩
   ·rw [if_neg c8] at H
    have c8b0 : (t608.toList == a0.toList) = false := beq_eq_false_iff_ne.mpr c8
    have c8b1 : (t608.toList != a0.toList) = true := bne_iff_ne.mpr c8
    simp only [Option.some.injEq, Prod.mk.injEq] at H
    obtain ⟨rfl, rfl, rfl, rfl, rfl, rfl, rfl⟩ := H
    go_enter Tryz.func24, Tryz.ntmps24
    go_wp2_with (first | ((with_reducible refine gate_dst (N := 2) rfl ?_); refine box_event ?hg (N := 2) ?hd (cs := #[.int .i64 0, .int .i64 0, .int .i64 0, .int .i64 0, .int .i64 0, .string (⟨#[]⟩ : ByteArray)]) (t := 52) ?hr ?_; (case hd => rfl); (case hg => rfl); (case hr => first | (go_simp; done) | (go_simp; rfl)); intro gb600 hg w17 hbox hb; have n0_ := mk0 (below_step (wT HB.out) hb); have n1_ := mk0 (hbox); have n2_ := mk0 ((szT HB.out hg)); have n3_ := mk0 ((szT HB.out hg)); clear HB; have HB := n0_; have BK600 := n1_; have GW600 := n2_; have GE600 := n3_; clear n0_ n1_ n2_ n3_; clear hb hbox hg) | ((with_reducible refine gate_callee (f := 53) rfl ?_); refine goesL_ (some 12) rfl rfl Tryz.func53 (by kernel_rfl) rfl #[.string a0] rfl mapT ?_; (with_reducible refine (metrolabref30_guess.calls k a0 t601 t602 t603 t604 t605 t606 _ A5.out).mono ?_); rintro e w18 ⟨rfl, hb⟩; refine ⟨_, rfl, ?_⟩; have n0_ := mk0 (bbT BK600.out hb); have n1_ := mk0 (below_step (wT HB.out) hb); clear BK600; clear HB; have BK600 := n0_; have HB := n1_; clear n0_ n1_; (try clear hb); (try clear hb2); (try clear hk); (try clear hi)) | ((with_reducible refine gate_dst (N := 4) rfl ?_); refine box_event ?hg (N := 4) ?hd (cs := #[.int .i64 0, .int .i64 0, .int .i64 0, .int .i64 0, .int .i64 0, .string (⟨#[]⟩ : ByteArray)]) (t := 52) ?hr ?_; (case hd => rfl); (case hg => rfl); (case hr => first | (go_simp; done) | (go_simp; rfl)); intro gb607 hg w19 hbox hb; have n0_ := mk0 (bbT BK600.out hb); have n1_ := mk0 (below_step (wT HB.out) hb); have n2_ := mk0 (hbox); have n3_ := mk0 ((szT HB.out hg)); have n4_ := mk0 ((szT HB.out hg)); have n5_ := mk0 ((neL BK600.out hg)); have n6_ := mk0 ((neG BK600.out hg)); clear BK600; clear HB; have BK600 := n0_; have HB := n1_; have BK607 := n2_; have GW607 := n3_; have GE607 := n4_; have NB600_607 := n5_; have NB607_600 := n6_; clear n0_ n1_ n2_ n3_ n4_ n5_ n6_; clear hb hbox hg; have hnb20 := NB607_600.out; have hnc20 := NB600_607.out; have X21_0 := ct BK607.out 0; have X21_1 := ct BK607.out 1; have X21_2 := ct BK607.out 2; have X21_3 := ct BK607.out 3; have X21_4 := ct BK607.out 4; have X21_5 := ct BK607.out 5; have Y21_0 := blk_frozen BK607.out 0; have Y21_1 := blk_frozen BK607.out 1; have Y21_2 := blk_frozen BK607.out 2; have Y21_3 := blk_frozen BK607.out 3; have Y21_4 := blk_frozen BK607.out 4; have Y21_5 := blk_frozen BK607.out 5) | ((with_reducible refine gate_callee (f := 22) rfl ?_); refine goesL_ (some 15) rfl rfl Tryz.func22 (by kernel_rfl) rfl #[.agg #[.int .i64 t601, .int .i64 t602, .int .i64 t603, .int .i64 t604, .int .i64 t605, .string t606]] rfl mapT ?_; (with_reducible refine (metrolabref30_Text.calls k t601 t602 t603 t604 t605 t606 t608 t609 _ A6.out).mono ?_); rintro e w22 ⟨rfl, hb⟩; refine ⟨_, rfl, ?_⟩; have n0_ := mk0 (blk_below (g := gb600) (o := .cells #[.int .i64 0, .int .i64 0, .int .i64 0, .int .i64 0, .int .i64 0, .string (⟨#[]⟩ : ByteArray)] 52 (0, 0)) (by (with_reducible repeat (first | refine blk_drewN ?_ _ | refine blk_drew ?_ | refine blk_alloc ?_ _)); refine blk_far ?_ NB600_607.out _; refine blk_far ?_ NB600_607.out _; refine blk_far ?_ NB600_607.out _; refine blk_far ?_ NB600_607.out _; refine blk_far ?_ NB600_607.out _; refine blk_far ?_ NB600_607.out _; (with_reducible repeat (first | refine blk_drewN ?_ _ | refine blk_drew ?_ | refine blk_alloc ?_ _)); exact BK600.out) hb); have n1_ := mk0 (blk_below (g := gb607) (o := .cells #[.int .i64 t601, .int .i64 t602, .int .i64 t603, .int .i64 t604, .int .i64 t605, .string t606] 52 (0, 0)) (by (with_reducible repeat (first | refine blk_drewN ?_ _ | refine blk_drew ?_ | refine blk_alloc ?_ _)); refine blk_put (cs := #[.int .i64 t601, .int .i64 t602, .int .i64 t603, .int .i64 t604, .int .i64 t605, .string (⟨#[]⟩ : ByteArray)]) ?_ 5 _ rfl; refine blk_put (cs := #[.int .i64 t601, .int .i64 t602, .int .i64 t603, .int .i64 t604, .int .i64 0, .string (⟨#[]⟩ : ByteArray)]) ?_ 4 _ rfl; refine blk_put (cs := #[.int .i64 t601, .int .i64 t602, .int .i64 t603, .int .i64 0, .int .i64 0, .string (⟨#[]⟩ : ByteArray)]) ?_ 3 _ rfl; refine blk_put (cs := #[.int .i64 t601, .int .i64 t602, .int .i64 0, .int .i64 0, .int .i64 0, .string (⟨#[]⟩ : ByteArray)]) ?_ 2 _ rfl; refine blk_put (cs := #[.int .i64 t601, .int .i64 0, .int .i64 0, .int .i64 0, .int .i64 0, .string (⟨#[]⟩ : ByteArray)]) ?_ 1 _ rfl; refine blk_put (cs := #[.int .i64 0, .int .i64 0, .int .i64 0, .int .i64 0, .int .i64 0, .string (⟨#[]⟩ : ByteArray)]) ?_ 0 _ rfl; (with_reducible repeat (first | refine blk_drewN ?_ _ | refine blk_drew ?_ | refine blk_alloc ?_ _)); exact BK607.out) hb); have n2_ := mk0 (below_step (by repeat (first | (with_reducible first | exact HB.out | apply below_alloc | apply pw_below_drewN | apply below_drew1 | refine below_set ?_ GE607.out) | exact HB.out)) hb); clear BK600; clear BK607; clear HB; have BK600 := n0_; have BK607 := n1_; have HB := n2_; clear n0_ n1_ n2_; (try clear hb); (try clear hb2); (try clear hk); (try clear hi); (try clear BK607 GW607 GE607); have X23_0 := ct BK600.out 0; have X23_1 := ct BK600.out 1; have X23_2 := ct BK600.out 2; have X23_3 := ct BK600.out 3; have X23_4 := ct BK600.out 4; have X23_5 := ct BK600.out 5; have Y23_0 := blk_frozen BK600.out 0; have Y23_1 := blk_frozen BK600.out 1; have Y23_2 := blk_frozen BK600.out 2; have Y23_3 := blk_frozen BK600.out 3; have Y23_4 := blk_frozen BK600.out 4; have Y23_5 := blk_frozen BK600.out 5))
    refine bodyPost_ret (results_ct rfl _ _ gb600 52 #[.int .i64 0, .int .i64 0, .int .i64 0, .int .i64 0, .int .i64 0, .string (⟨#[]⟩ : ByteArray)] (0, 0) _ rfl (by (with_reducible repeat (first | refine blk_drewN ?_ _ | refine blk_drew ?_ | refine blk_alloc ?_ _)); refine blk_put (cs := #[.int .i64 0, .int .i64 0, .int .i64 0, .int .i64 0, .int .i64 0, .string (⟨#[]⟩ : ByteArray)]) ?_ 5 _ rfl; refine blk_put (cs := #[.int .i64 0, .int .i64 0, .int .i64 0, .int .i64 0, .int .i64 0, .string (⟨#[]⟩ : ByteArray)]) ?_ 4 _ rfl; refine blk_put (cs := #[.int .i64 0, .int .i64 0, .int .i64 0, .int .i64 0, .int .i64 0, .string (⟨#[]⟩ : ByteArray)]) ?_ 3 _ rfl; refine blk_put (cs := #[.int .i64 0, .int .i64 0, .int .i64 0, .int .i64 0, .int .i64 0, .string (⟨#[]⟩ : ByteArray)]) ?_ 2 _ rfl; refine blk_put (cs := #[.int .i64 0, .int .i64 0, .int .i64 0, .int .i64 0, .int .i64 0, .string (⟨#[]⟩ : ByteArray)]) ?_ 1 _ rfl; refine blk_put (cs := #[.int .i64 0, .int .i64 0, .int .i64 0, .int .i64 0, .int .i64 0, .string (⟨#[]⟩ : ByteArray)]) ?_ 0 _ rfl; (with_reducible repeat (first | refine blk_drewN ?_ _ | refine blk_drew ?_ | refine blk_alloc ?_ _)); exact BK600.out) Tryz.underlying52 rfl (by kernel_rfl)) rfl ?_
    exact ⟨eqT, by repeat (first | (with_reducible first | exact HB.out | apply below_alloc | apply pw_below_drewN | apply below_drew1 | refine below_set ?_ GE600.out) | exact HB.out)⟩
  ·rw [if_neg c7] at H
   have c7b0 : (t609 == 0) = false := beq_eq_false_iff_ne.mpr c7
   have c7b1 : (t609 != 0) = true := bne_iff_ne.mpr c7
   simp only [Option.some.injEq, Prod.mk.injEq] at H
   obtain ⟨rfl, rfl, rfl, rfl, rfl, rfl, rfl⟩ := H
   go_enter Tryz.func24, Tryz.ntmps24
   go_wp2_with (first | ((with_reducible refine gate_dst (N := 2) rfl ?_); refine box_event ?hg (N := 2) ?hd (cs := #[.int .i64 0, .int .i64 0, .int .i64 0, .int .i64 0, .int .i64 0, .string (⟨#[]⟩ : ByteArray)]) (t := 52) ?hr ?_; (case hd => rfl); (case hg => rfl); (case hr => first | (go_simp; done) | (go_simp; rfl)); intro gb600 hg w24 hbox hb; have n0_ := mk0 (below_step (wT HB.out) hb); have n1_ := mk0 (hbox); have n2_ := mk0 ((szT HB.out hg)); have n3_ := mk0 ((szT HB.out hg)); clear HB; have HB := n0_; have BK600 := n1_; have GW600 := n2_; have GE600 := n3_; clear n0_ n1_ n2_ n3_; clear hb hbox hg) | ((with_reducible refine gate_callee (f := 53) rfl ?_); refine goesL_ (some 12) rfl rfl Tryz.func53 (by kernel_rfl) rfl #[.string a0] rfl mapT ?_; (with_reducible refine (metrolabref30_guess.calls k a0 t601 t602 t603 t604 t605 t606 _ A5.out).mono ?_); rintro e w25 ⟨rfl, hb⟩; refine ⟨_, rfl, ?_⟩; have n0_ := mk0 (bbT BK600.out hb); have n1_ := mk0 (below_step (wT HB.out) hb); clear BK600; clear HB; have BK600 := n0_; have HB := n1_; clear n0_ n1_; (try clear hb); (try clear hb2); (try clear hk); (try clear hi)) | ((with_reducible refine gate_dst (N := 4) rfl ?_); refine box_event ?hg (N := 4) ?hd (cs := #[.int .i64 0, .int .i64 0, .int .i64 0, .int .i64 0, .int .i64 0, .string (⟨#[]⟩ : ByteArray)]) (t := 52) ?hr ?_; (case hd => rfl); (case hg => rfl); (case hr => first | (go_simp; done) | (go_simp; rfl)); intro gb607 hg w26 hbox hb; have n0_ := mk0 (bbT BK600.out hb); have n1_ := mk0 (below_step (wT HB.out) hb); have n2_ := mk0 (hbox); have n3_ := mk0 ((szT HB.out hg)); have n4_ := mk0 ((szT HB.out hg)); have n5_ := mk0 ((neL BK600.out hg)); have n6_ := mk0 ((neG BK600.out hg)); clear BK600; clear HB; have BK600 := n0_; have HB := n1_; have BK607 := n2_; have GW607 := n3_; have GE607 := n4_; have NB600_607 := n5_; have NB607_600 := n6_; clear n0_ n1_ n2_ n3_ n4_ n5_ n6_; clear hb hbox hg; have hnb27 := NB607_600.out; have hnc27 := NB600_607.out; have X28_0 := ct BK607.out 0; have X28_1 := ct BK607.out 1; have X28_2 := ct BK607.out 2; have X28_3 := ct BK607.out 3; have X28_4 := ct BK607.out 4; have X28_5 := ct BK607.out 5; have Y28_0 := blk_frozen BK607.out 0; have Y28_1 := blk_frozen BK607.out 1; have Y28_2 := blk_frozen BK607.out 2; have Y28_3 := blk_frozen BK607.out 3; have Y28_4 := blk_frozen BK607.out 4; have Y28_5 := blk_frozen BK607.out 5) | ((with_reducible refine gate_callee (f := 22) rfl ?_); refine goesL_ (some 15) rfl rfl Tryz.func22 (by kernel_rfl) rfl #[.agg #[.int .i64 t601, .int .i64 t602, .int .i64 t603, .int .i64 t604, .int .i64 t605, .string t606]] rfl mapT ?_; (with_reducible refine (metrolabref30_Text.calls k t601 t602 t603 t604 t605 t606 t608 t609 _ A6.out).mono ?_); rintro e w29 ⟨rfl, hb⟩; refine ⟨_, rfl, ?_⟩; have n0_ := mk0 (blk_below (g := gb600) (o := .cells #[.int .i64 0, .int .i64 0, .int .i64 0, .int .i64 0, .int .i64 0, .string (⟨#[]⟩ : ByteArray)] 52 (0, 0)) (by (with_reducible repeat (first | refine blk_drewN ?_ _ | refine blk_drew ?_ | refine blk_alloc ?_ _)); refine blk_far ?_ NB600_607.out _; refine blk_far ?_ NB600_607.out _; refine blk_far ?_ NB600_607.out _; refine blk_far ?_ NB600_607.out _; refine blk_far ?_ NB600_607.out _; refine blk_far ?_ NB600_607.out _; (with_reducible repeat (first | refine blk_drewN ?_ _ | refine blk_drew ?_ | refine blk_alloc ?_ _)); exact BK600.out) hb); have n1_ := mk0 (blk_below (g := gb607) (o := .cells #[.int .i64 t601, .int .i64 t602, .int .i64 t603, .int .i64 t604, .int .i64 t605, .string t606] 52 (0, 0)) (by (with_reducible repeat (first | refine blk_drewN ?_ _ | refine blk_drew ?_ | refine blk_alloc ?_ _)); refine blk_put (cs := #[.int .i64 t601, .int .i64 t602, .int .i64 t603, .int .i64 t604, .int .i64 t605, .string (⟨#[]⟩ : ByteArray)]) ?_ 5 _ rfl; refine blk_put (cs := #[.int .i64 t601, .int .i64 t602, .int .i64 t603, .int .i64 t604, .int .i64 0, .string (⟨#[]⟩ : ByteArray)]) ?_ 4 _ rfl; refine blk_put (cs := #[.int .i64 t601, .int .i64 t602, .int .i64 t603, .int .i64 0, .int .i64 0, .string (⟨#[]⟩ : ByteArray)]) ?_ 3 _ rfl; refine blk_put (cs := #[.int .i64 t601, .int .i64 t602, .int .i64 0, .int .i64 0, .int .i64 0, .string (⟨#[]⟩ : ByteArray)]) ?_ 2 _ rfl; refine blk_put (cs := #[.int .i64 t601, .int .i64 0, .int .i64 0, .int .i64 0, .int .i64 0, .string (⟨#[]⟩ : ByteArray)]) ?_ 1 _ rfl; refine blk_put (cs := #[.int .i64 0, .int .i64 0, .int .i64 0, .int .i64 0, .int .i64 0, .string (⟨#[]⟩ : ByteArray)]) ?_ 0 _ rfl; (with_reducible repeat (first | refine blk_drewN ?_ _ | refine blk_drew ?_ | refine blk_alloc ?_ _)); exact BK607.out) hb); have n2_ := mk0 (below_step (by repeat (first | (with_reducible first | exact HB.out | apply below_alloc | apply pw_below_drewN | apply below_drew1 | refine below_set ?_ GE607.out) | exact HB.out)) hb); clear BK600; clear BK607; clear HB; have BK600 := n0_; have BK607 := n1_; have HB := n2_; clear n0_ n1_ n2_; (try clear hb); (try clear hb2); (try clear hk); (try clear hi); (try clear BK607 GW607 GE607); have X30_0 := ct BK600.out 0; have X30_1 := ct BK600.out 1; have X30_2 := ct BK600.out 2; have X30_3 := ct BK600.out 3; have X30_4 := ct BK600.out 4; have X30_5 := ct BK600.out 5; have Y30_0 := blk_frozen BK600.out 0; have Y30_1 := blk_frozen BK600.out 1; have Y30_2 := blk_frozen BK600.out 2; have Y30_3 := blk_frozen BK600.out 3; have Y30_4 := blk_frozen BK600.out 4; have Y30_5 := blk_frozen BK600.out 5))
   refine bodyPost_ret (results_ct rfl _ _ gb600 52 #[.int .i64 0, .int .i64 0, .int .i64 0, .int .i64 0, .int .i64 0, .string (⟨#[]⟩ : ByteArray)] (0, 0) _ rfl (by (with_reducible repeat (first | refine blk_drewN ?_ _ | refine blk_drew ?_ | refine blk_alloc ?_ _)); refine blk_put (cs := #[.int .i64 0, .int .i64 0, .int .i64 0, .int .i64 0, .int .i64 0, .string (⟨#[]⟩ : ByteArray)]) ?_ 5 _ rfl; refine blk_put (cs := #[.int .i64 0, .int .i64 0, .int .i64 0, .int .i64 0, .int .i64 0, .string (⟨#[]⟩ : ByteArray)]) ?_ 4 _ rfl; refine blk_put (cs := #[.int .i64 0, .int .i64 0, .int .i64 0, .int .i64 0, .int .i64 0, .string (⟨#[]⟩ : ByteArray)]) ?_ 3 _ rfl; refine blk_put (cs := #[.int .i64 0, .int .i64 0, .int .i64 0, .int .i64 0, .int .i64 0, .string (⟨#[]⟩ : ByteArray)]) ?_ 2 _ rfl; refine blk_put (cs := #[.int .i64 0, .int .i64 0, .int .i64 0, .int .i64 0, .int .i64 0, .string (⟨#[]⟩ : ByteArray)]) ?_ 1 _ rfl; refine blk_put (cs := #[.int .i64 0, .int .i64 0, .int .i64 0, .int .i64 0, .int .i64 0, .string (⟨#[]⟩ : ByteArray)]) ?_ 0 _ rfl; (with_reducible repeat (first | refine blk_drewN ?_ _ | refine blk_drew ?_ | refine blk_alloc ?_ _)); exact BK600.out) Tryz.underlying52 rfl (by kernel_rfl)) rfl ?_
   exact ⟨eqT, by repeat (first | (with_reducible first | exact HB.out | apply below_alloc | apply pw_below_drewN | apply below_drew1 | refine below_set ?_ GE600.out) | exact HB.out)⟩
def metrolablaw30_ProbeTexts.j0 : Nat → ByteArray → Bool → Int → Int → Int → Int → Int → ByteArray → Option (Bool)
 | 0, _, _, _, _, _, _, _, _ => none
 | k + 1, x1, x31, x611000, x611001, x611002, x611003, x611004, x611005 => if x31 = true then ((metrolablaw30_awake.f k).bind fun t611 => (some t611)) else ((probe_Text.f k x611000 x611001 x611002 x611003 x611004 x611005).bind fun bt612 => ((metrolabref30_Text.f k x611000 x611001 x611002 x611003 x611004 x611005).bind fun bt614 => ((probe_Read.f k x1).bind fun bt616 => ((metrolabref30_Read.f k x1).bind fun bt624 => ((probe_Right.f k x611000 x611001 x611002 x611003 x611004 x611005).bind fun t632 => ((metrolabref30_Right.f k x611000 x611001 x611002 x611003 x611004 x611005).bind fun t633 => (if t632 = t633 then (if bt612.1.toList = bt614.1.toList then (if bt612.2 = bt614.2 then (if (bt616.1 == bt624.1 && ((bt616.2.1 == bt624.2.1 && (bt616.2.2.1 == bt624.2.2.1 && (bt616.2.2.2.1 == bt624.2.2.2.1))) && (bt616.2.2.2.2.1 == bt624.2.2.2.2.1 && (bt616.2.2.2.2.2.1.toList == bt624.2.2.2.2.2.1.toList)))) = true then (if bt616.2.2.2.2.2.2 = bt624.2.2.2.2.2.2 then ((metrolablaw30_awake.f k).bind fun t634 => (some t634)) else (none)) else (none)) else (none)) else (none)) else (none))))))))
def metrolablaw30_ProbeTexts.f (k : Nat) (a0_0 : Int) (a0_1 : Int) (a0_2 : Int) (a0_3 : Int) (a0_4 : Int) (a0_5 : ByteArray) (a1 : ByteArray) : Option (Bool) := if (a0_5.size : Int) > 200 then (metrolablaw30_ProbeTexts.j0 k a1 true a0_0 a0_1 a0_2 a0_3 a0_4 a0_5) else (if (a1.size : Int) > 200 then (if (a1.size : Int) ≤ 4096 then (metrolablaw30_ProbeTexts.j0 k a1 true a0_0 a0_1 a0_2 a0_3 a0_4 a0_5) else (metrolablaw30_ProbeTexts.j0 k a1 (decide ((a1.size : Int) > 8192)) a0_0 a0_1 a0_2 a0_3 a0_4 a0_5)) else (metrolablaw30_ProbeTexts.j0 k a1 (decide ((a1.size : Int) > 8192)) a0_0 a0_1 a0_2 a0_3 a0_4 a0_5))
def metrolablaw30_ProbeTexts.T7 : Bool × List (List Nat × List Nat) := (true, [([], []), ([0], [0]), ([], []), ([2, 1], [2]), ([1, 3], [1, 3]), ([4, 3], [4]), ([5], [5]), ([5], [5]), ([6, 7, 5], [5, 6, 7]), ([5, 8], [5, 8]), ([9, 5], [9]), ([10], [10]), ([10], [10]), ([11, 12, 10], [10, 11, 12]), ([10, 13], [10, 13]), ([14, 10], [14]), ([15], [15]), ([15], [15]), ([16, 17, 15], [15, 16, 17]), ([15, 18], [15, 18]), ([19, 15], [19]), ([20], [20]), ([20], [20]), ([21, 22, 20], [20, 21, 22]), ([20, 23], [20, 23]), ([24, 20], [24]), ([25, 25], [25]), ([25, 26], [25, 26]), ([27, 26, 0, 1, 2, 3, 4, 5, 6, 7, 8, 9, 10, 11, 12, 13, 14, 15, 16, 17, 18, 19, 20, 21, 22, 23, 24, 25, 26, 27], [27])])
def metrolablaw30_ProbeTexts.B7 : List Nat := [0, 1, 0, 7, 15, 31, 63, 63, 255, 511, 1023, 2047, 2047, 8191, 16383, 32767, 65535, 65535, 262143, 524287, 1048575, 2097151, 2097151, 8388607, 16777215, 33554431, 67108863, 134217727, 268435455]
theorem metrolablaw30_ProbeTexts.tab7 : rtab .any (opsOf Tryz.f5 7) = metrolablaw30_ProbeTexts.T7 := by kernel_rfl
theorem metrolablaw30_ProbeTexts.bits7 : waitsOk metrolablaw30_ProbeTexts.T7.2 metrolablaw30_ProbeTexts.B7 = true := by kernel_rfl
theorem metrolablaw30_ProbeTexts.calls (k : Nat) (a0_0 : Int) (a0_1 : Int) (a0_2 : Int) (a0_3 : Int) (a0_4 : Int) (a0_5 : ByteArray) (a1 : ByteArray) (r : Bool) (w : World) (hG : GW w) (h : metrolablaw30_ProbeTexts.f k a0_0 a0_1 a0_2 a0_3 a0_4 a0_5 a1 = some r) :
  Calls Tryz.prog 5 #[.agg #[.int .i64 a0_0, .int .i64 a0_1, .int .i64 a0_2, .int .i64 a0_3, .int .i64 a0_4, .string a0_5], .string a1] w fun e w' => e = .returned (.bool r) ∧ Below w.heap.size w w' := by
 have hu47 := Tryz.underlying47
 have hu52 := Tryz.underlying52
 have HG := mk0 hG
 clear hG
 have HB := mk0 (Below.refl w.heap.size w)
 have H : (if (a0_5.size : Int) > 200 then (metrolablaw30_ProbeTexts.j0 k a1 true a0_0 a0_1 a0_2 a0_3 a0_4 a0_5) else (if (a1.size : Int) > 200 then (if (a1.size : Int) ≤ 4096 then (metrolablaw30_ProbeTexts.j0 k a1 true a0_0 a0_1 a0_2 a0_3 a0_4 a0_5) else (metrolablaw30_ProbeTexts.j0 k a1 (decide ((a1.size : Int) > 8192)) a0_0 a0_1 a0_2 a0_3 a0_4 a0_5)) else (metrolablaw30_ProbeTexts.j0 k a1 (decide ((a1.size : Int) > 8192)) a0_0 a0_1 a0_2 a0_3 a0_4 a0_5))) = some r := h
 clear h
 have HC3 := mk0 H
 clear H
 go_enter Tryz.func5, Tryz.ntmps5
 go_upto_region 1 with (first | ((with_reducible refine gate_dst (N := 2) rfl ?_); (try (refine gate_guard (by rfl) ?_; dsimp only)); refine box_event ?hg (N := 2) ?hd (cs := #[.int .i64 a0_0, .int .i64 a0_1, .int .i64 a0_2, .int .i64 a0_3, .int .i64 a0_4, .string a0_5]) (t := 47) ?hr ?_; (case hd => rfl); (case hg => rfl); (case hr => first | (go_simp; done) | (go_simp; rfl)); intro gb610 hg w4 hbox hb; have n0_ := mk0 (below_step (wT HB.out) hb); have n1_ := mk0 (hbox); have n2_ := mk0 ((szT HB.out hg)); have n3_ := mk0 ((szT HB.out hg)); clear HB; have HB := n0_; have BK610 := n1_; have GW610 := n2_; have GE610 := n3_; clear n0_ n1_ n2_ n3_; clear hb hbox hg))
 (try simp only [Act.put, List.setIfInBounds_toArray, List.set_cons_zero, List.set_cons_succ])
 go_cut [31] (fun v31 wc => ∃ (kq : Nat) (x31_2 : Bool), v31 = .bool x31_2 ∧ Aside0 (metrolablaw30_ProbeTexts.j0 kq a1 x31_2 a0_0 a0_1 a0_2 a0_3 a0_4 a0_5 = some r) ∧ Aside0 (kq ≤ k) ∧ Aside0 (wc.heap[gb610]? = some (.cells #[.int .i64 a0_0, .int .i64 a0_1, .int .i64 a0_2, .int .i64 a0_3, .int .i64 a0_4, .string a0_5] 47 (0, 0))) ∧ Aside0 (Below w.heap.size w wc))
 case first =>
  have H := HC3.out
  clear HC3
  by_cases c5 : (a0_5.size : Int) > 200
  ·rw [if_pos c5] at H
   have c5b0 : decide (200 < (a0_5.size : Int)) = true := decide_eq_true c5
   have c5b1 : decide (200 < a0_5.size) = true := decide_eq_true (by omega)
   clear c5
   (first | rw [c5b0] | (simp only [i64_w, i32_w]; rw [c5b0]) | skip)
   have H' := mk0 H
   clear H
   have X6_0 := ct BK610.out 0
   have X6_1 := ct BK610.out 1
   have X6_2 := ct BK610.out 2
   have X6_3 := ct BK610.out 3
   have X6_4 := ct BK610.out 4
   have X6_5 := ct BK610.out 5
   have Y6_0 := blk_frozen BK610.out 0
   have Y6_1 := blk_frozen BK610.out 1
   have Y6_2 := blk_frozen BK610.out 2
   have Y6_3 := blk_frozen BK610.out 3
   have Y6_4 := blk_frozen BK610.out 4
   have Y6_5 := blk_frozen BK610.out 5
   go_wp2
   go_meet
   case rel => exact ⟨_, (true), (by first | rfl | (simp; done) | (simp [*]; done) | exact congrArg (Value.int .i64) (by unfold wrap64; omega)), H', ⟨by first | omega | exact Nat.le_refl _⟩, ⟨bT BK610.out⟩, ⟨wT HB.out⟩⟩
  ·rw [if_neg c5] at H
   have c5b0 : decide (200 < (a0_5.size : Int)) = false := decide_eq_false c5
   have c5b1 : decide (200 < a0_5.size) = false := decide_eq_false (by omega)
   clear c5
   (first | rw [c5b0] | (simp only [i64_w, i32_w]; rw [c5b0]) | skip)
   by_cases c7 : (a1.size : Int) > 200
   ·rw [if_pos c7] at H
    have c7b0 : decide (200 < (a1.size : Int)) = true := decide_eq_true c7
    have c7b1 : decide (200 < a1.size) = true := decide_eq_true (by omega)
    clear c7
    by_cases c8 : (a1.size : Int) ≤ 4096
    ·rw [if_pos c8] at H
     have c8b0 : decide ((a1.size : Int) ≤ 4096) = true := decide_eq_true c8
     have c8b1 : decide (a1.size ≤ 4096) = true := decide_eq_true (by omega)
     clear c8
     have H' := mk0 H
     clear H
     have X9_0 := ct BK610.out 0
     have X9_1 := ct BK610.out 1
     have X9_2 := ct BK610.out 2
     have X9_3 := ct BK610.out 3
     have X9_4 := ct BK610.out 4
     have X9_5 := ct BK610.out 5
     have Y9_0 := blk_frozen BK610.out 0
     have Y9_1 := blk_frozen BK610.out 1
     have Y9_2 := blk_frozen BK610.out 2
     have Y9_3 := blk_frozen BK610.out 3
     have Y9_4 := blk_frozen BK610.out 4
     have Y9_5 := blk_frozen BK610.out 5
     go_wp2
     go_meet
     case rel => exact ⟨_, (true), (by first | rfl | (simp; done) | (simp [*]; done) | exact congrArg (Value.int .i64) (by unfold wrap64; omega)), H', ⟨by first | omega | exact Nat.le_refl _⟩, ⟨bT BK610.out⟩, ⟨wT HB.out⟩⟩
    ·rw [if_neg c8] at H
     have c8b0 : decide ((a1.size : Int) ≤ 4096) = false := decide_eq_false c8
     have c8b1 : decide (a1.size ≤ 4096) = false := decide_eq_false (by omega)
     clear c8
     have H' := mk0 H
     clear H
     have X10_0 := ct BK610.out 0
     have X10_1 := ct BK610.out 1
     have X10_2 := ct BK610.out 2
     have X10_3 := ct BK610.out 3
     have X10_4 := ct BK610.out 4
     have X10_5 := ct BK610.out 5
     have Y10_0 := blk_frozen BK610.out 0
     have Y10_1 := blk_frozen BK610.out 1
     have Y10_2 := blk_frozen BK610.out 2
     have Y10_3 := blk_frozen BK610.out 3
     have Y10_4 := blk_frozen BK610.out 4
     have Y10_5 := blk_frozen BK610.out 5
     go_wp2
     go_meet
     case rel => exact ⟨_, (decide ((a1.size : Int) > 8192)), (by first | rfl | (simp; done) | (simp [*]; done) | exact congrArg (Value.int .i64) (by unfold wrap64; omega)), H', ⟨by first | omega | exact Nat.le_refl _⟩, ⟨bT BK610.out⟩, ⟨wT HB.out⟩⟩
   ·rw [if_neg c7] at H
    have c7b0 : decide (200 < (a1.size : Int)) = false := decide_eq_false c7
    have c7b1 : decide (200 < a1.size) = false := decide_eq_false (by omega)
    clear c7
    have H' := mk0 H
    clear H
    have X11_0 := ct BK610.out 0
    have X11_1 := ct BK610.out 1
    have X11_2 := ct BK610.out 2
    have X11_3 := ct BK610.out 3
    have X11_4 := ct BK610.out 4
    have X11_5 := ct BK610.out 5
    have Y11_0 := blk_frozen BK610.out 0
    have Y11_1 := blk_frozen BK610.out 1
    have Y11_2 := blk_frozen BK610.out 2
    have Y11_3 := blk_frozen BK610.out 3
    have Y11_4 := blk_frozen BK610.out 4
    have Y11_5 := blk_frozen BK610.out 5
    go_wp2
    go_meet
    case rel => exact ⟨_, (decide ((a1.size : Int) > 8192)), (by first | rfl | (simp; done) | (simp [*]; done) | exact congrArg (Value.int .i64) (by unfold wrap64; omega)), H', ⟨by first | omega | exact Nat.le_refl _⟩, ⟨bT BK610.out⟩, ⟨wT HB.out⟩⟩
 case rest =>
  clear HC3
  try clear c5
  try clear c5b0
  try clear c5b1
  try clear c7
  try clear c7b0
  try clear c7b1
  try clear c8
  try clear c8b0
  try clear c8b1
  try clear X10_0
  try clear X10_1
  try clear X10_2
  try clear X10_3
  try clear X10_4
  try clear X10_5
  try clear X11_0
  try clear X11_1
  try clear X11_2
  try clear X11_3
  try clear X11_4
  try clear X11_5
  try clear X6_0
  try clear X6_1
  try clear X6_2
  try clear X6_3
  try clear X6_4
  try clear X6_5
  try clear X9_0
  try clear X9_1
  try clear X9_2
  try clear X9_3
  try clear X9_4
  try clear X9_5
  try clear Y10_0
  try clear Y10_1
  try clear Y10_2
  try clear Y10_3
  try clear Y10_4
  try clear Y10_5
  try clear Y11_0
  try clear Y11_1
  try clear Y11_2
  try clear Y11_3
  try clear Y11_4
  try clear Y11_5
  try clear Y6_0
  try clear Y6_1
  try clear Y6_2
  try clear Y6_3
  try clear Y6_4
  try clear Y6_5
  try clear Y9_0
  try clear Y9_1
  try clear Y9_2
  try clear Y9_3
  try clear Y9_4
  try clear Y9_5
  obtain ⟨kq, x31_2, rfl, HA, HJ2, BK610, HB⟩ := hcut
  cases kq with
  | zero => exact absurd HA.out (by simp [metrolablaw30_ProbeTexts.j0])
  | succ kj2 =>
   have H := HA.out
   clear HA
   simp only [metrolablaw30_ProbeTexts.j0] at H
   by_cases c12 : x31_2 = true
   ·subst c12
    have H1 : ((metrolablaw30_awake.f kj2).bind fun t611 => (some t611)) = some r := by rw [if_pos rfl] at H; exact H
    clear H
    have H := H1
    clear H1
    replace H := Option.bind_eq_some_iff.mp H
    obtain ⟨t611, A130, H⟩ := H
    (try dsimp only at H)
    have A13 := mk0 A130
    clear A130
    obtain rfl := Option.some.inj H
    go_wp2_with (first | ((with_reducible refine gate_callee (f := 14) rfl ?_); refine goesL_ (some 32) rfl rfl Tryz.func14 (by kernel_rfl) rfl #[] rfl mapT ?_; (with_reducible refine (metrolablaw30_awake.calls kj2  t611 _ ?side1 A13.out).mono ?_); (case side1 => exact GW_below HG.out (wT HB.out)); rintro e w14 ⟨rfl, hb⟩; refine ⟨_, rfl, ?_⟩; have n0_ := mk0 (below_step (wT HB.out) hb); clear HB; have HB := n0_; clear n0_; (try clear hb); (try clear hb2); (try clear hk); (try clear hi)))
    go_ret
    exact ⟨eqT, wT HB.out⟩
   ·replace c12 := Bool.eq_false_iff.mpr c12
    subst c12
    have H1 : ((probe_Text.f kj2 a0_0 a0_1 a0_2 a0_3 a0_4 a0_5).bind fun bt612 => ((metrolabref30_Text.f kj2 a0_0 a0_1 a0_2 a0_3 a0_4 a0_5).bind fun bt614 => ((probe_Read.f kj2 a1).bind fun bt616 => ((metrolabref30_Read.f kj2 a1).bind fun bt624 => ((probe_Right.f kj2 a0_0 a0_1 a0_2 a0_3 a0_4 a0_5).bind fun t632 => ((metrolabref30_Right.f kj2 a0_0 a0_1 a0_2 a0_3 a0_4 a0_5).bind fun t633 => (if t632 = t633 then (if bt612.1.toList = bt614.1.toList then (if bt612.2 = bt614.2 then (if (bt616.1 == bt624.1 && ((bt616.2.1 == bt624.2.1 && (bt616.2.2.1 == bt624.2.2.1 && (bt616.2.2.2.1 == bt624.2.2.2.1))) && (bt616.2.2.2.2.1 == bt624.2.2.2.2.1 && (bt616.2.2.2.2.2.1.toList == bt624.2.2.2.2.2.1.toList)))) = true then (if bt616.2.2.2.2.2.2 = bt624.2.2.2.2.2.2 then ((metrolablaw30_awake.f kj2).bind fun t634 => (some t634)) else (none)) else (none)) else (none)) else (none)) else (none)))))))) = some r := by rw [if_neg (show ¬ (false = true) by decide)] at H; exact H
    clear H
    have H := H1
    clear H1
    replace H := Option.bind_eq_some_iff.mp H
    obtain ⟨⟨t612, t613⟩, A150, H⟩ := H
    (try dsimp only at H)
    have A15 := mk0 A150
    clear A150
    replace H := Option.bind_eq_some_iff.mp H
    obtain ⟨⟨t614, t615⟩, A160, H⟩ := H
    (try dsimp only at H)
    have A16 := mk0 A160
    clear A160
    replace H := Option.bind_eq_some_iff.mp H
    obtain ⟨⟨t616, t617, t618, t619, t620, t621, t622⟩, A170, H⟩ := H
    (try dsimp only at H)
    have A17 := mk0 A170
    clear A170
    replace H := Option.bind_eq_some_iff.mp H
    obtain ⟨⟨t624, t625, t626, t627, t628, t629, t630⟩, A180, H⟩ := H
    (try dsimp only at H)
    have A18 := mk0 A180
    clear A180
    replace H := Option.bind_eq_some_iff.mp H
    obtain ⟨t632, A190, H⟩ := H
    (try dsimp only at H)
    have A19 := mk0 A190
    clear A190
    replace H := Option.bind_eq_some_iff.mp H
    obtain ⟨t633, A200, H⟩ := H
    (try dsimp only at H)
    have A20 := mk0 A200
    clear A200
    by_cases c21 : t632 = t633
    ·rw [if_pos c21] at H
     have c21b0 : (t632 == t633) = true := beq_iff_eq.mpr c21
     have c21b1 : (t632 != t633) = false := bne_eq_false_iff_eq.mpr c21
     clear c21
     by_cases c22 : t612.toList = t614.toList
     ·rw [if_pos c22] at H
      have c22b0 : (t612.toList == t614.toList) = true := beq_iff_eq.mpr c22
      have c22b1 : (t612.toList != t614.toList) = false := bne_eq_false_iff_eq.mpr c22
      clear c22
      by_cases c23 : t613 = t615
      ·rw [if_pos c23] at H
       have c23b0 : (t613 == t615) = true := beq_iff_eq.mpr c23
       have c23b1 : (t613 != t615) = false := bne_eq_false_iff_eq.mpr c23
       clear c23
       by_cases c24 : (t616 == t624 && ((t617 == t625 && (t618 == t626 && (t619 == t627))) && (t620 == t628 && (t621.toList == t629.toList)))) = true
       ·rw [if_pos c24] at H
        have c24b0 : (t616 == t624 && ((t617 == t625 && (t618 == t626 && (t619 == t627))) && (t620 == t628 && (t621.toList == t629.toList)))) = true := c24
        have c24b0a0 : (t616 = t624) = True := eq_true (by (have h_ := c24b0; simp only [Bool.and_eq_true, beq_iff_eq] at h_; exact h_.1))
        have c24b0a1 : (t617 = t625) = True := eq_true (by (have h_ := c24b0; simp only [Bool.and_eq_true, beq_iff_eq] at h_; exact h_.2.1.1))
        have c24b0a2 : (t618 = t626) = True := eq_true (by (have h_ := c24b0; simp only [Bool.and_eq_true, beq_iff_eq] at h_; exact h_.2.1.2.1))
        have c24b0a3 : (t619 = t627) = True := eq_true (by (have h_ := c24b0; simp only [Bool.and_eq_true, beq_iff_eq] at h_; exact h_.2.1.2.2))
        have c24b0a4 : (t620 = t628) = True := eq_true (by (have h_ := c24b0; simp only [Bool.and_eq_true, beq_iff_eq] at h_; exact h_.2.2.1))
        have c24b0a5 : (t621.toList = t629.toList) = True := eq_true (by (have h_ := c24b0; simp only [Bool.and_eq_true, beq_iff_eq] at h_; exact h_.2.2.2))
        (try (have c24b1 : decide (t616 = t624 && ((t617 == t625 && (t618 == t626 && (t619 == t627))) && (t620 == t628 && (t621.toList == t629.toList)))) = true := by simpa using c24))
        (try (have c24b2 : (t616 == t624 && ((t617 == t625 && (t618 == t626 && (t619 == t627))) && (t620 == t628 && (t621.toList == t629.toList)))) = true := by simpa using c24))
        clear c24
        by_cases c25 : t622 = t630
        ·rw [if_pos c25] at H
         have c25b0 : (t622 == t630) = true := beq_iff_eq.mpr c25
         have c25b1 : (t622 != t630) = false := bne_eq_false_iff_eq.mpr c25
         clear c25
         replace H := Option.bind_eq_some_iff.mp H
         obtain ⟨t634, A260, H⟩ := H
         (try dsimp only at H)
         have A26 := mk0 A260
         clear A260
         obtain rfl := Option.some.inj H
         have X27_0 := ct BK610.out 0
         have X27_1 := ct BK610.out 1
         have X27_2 := ct BK610.out 2
         have X27_3 := ct BK610.out 3
         have X27_4 := ct BK610.out 4
         have X27_5 := ct BK610.out 5
         have Y27_0 := blk_frozen BK610.out 0
         have Y27_1 := blk_frozen BK610.out 1
         have Y27_2 := blk_frozen BK610.out 2
         have Y27_3 := blk_frozen BK610.out 3
         have Y27_4 := blk_frozen BK610.out 4
         have Y27_5 := blk_frozen BK610.out 5
         try go_wp2_with (first | ((with_reducible refine gate_callee (f := 21) rfl ?_); refine goesL_ (some 35) rfl rfl Tryz.func21 (by kernel_rfl) rfl #[.agg #[.int .i64 a0_0, .int .i64 a0_1, .int .i64 a0_2, .int .i64 a0_3, .int .i64 a0_4, .string a0_5]] rfl mapT ?_; (with_reducible refine (probe_Text.calls kj2 a0_0 a0_1 a0_2 a0_3 a0_4 a0_5 t612 t613 _ ?side1 A15.out).mono ?_); (case side1 => exact GW_below HG.out (wT HB.out)); rintro e w28 ⟨rfl, hb⟩; refine ⟨_, rfl, ?_⟩; have n0_ := mk0 (bbT BK610.out hb); have n1_ := mk0 (below_step (wT HB.out) hb); clear BK610; clear HB; have BK610 := n0_; have HB := n1_; clear n0_ n1_; (try clear hb); (try clear hb2); (try clear hk); (try clear hi); have X29_0 := ct BK610.out 0; have X29_1 := ct BK610.out 1; have X29_2 := ct BK610.out 2; have X29_3 := ct BK610.out 3; have X29_4 := ct BK610.out 4; have X29_5 := ct BK610.out 5; have Y29_0 := blk_frozen BK610.out 0; have Y29_1 := blk_frozen BK610.out 1; have Y29_2 := blk_frozen BK610.out 2; have Y29_3 := blk_frozen BK610.out 3; have Y29_4 := blk_frozen BK610.out 4; have Y29_5 := blk_frozen BK610.out 5) | ((with_reducible refine gate_callee (f := 22) rfl ?_); refine goesL_ (some 40) rfl rfl Tryz.func22 (by kernel_rfl) rfl #[.agg #[.int .i64 a0_0, .int .i64 a0_1, .int .i64 a0_2, .int .i64 a0_3, .int .i64 a0_4, .string a0_5]] rfl mapT ?_; (with_reducible refine (metrolabref30_Text.calls kj2 a0_0 a0_1 a0_2 a0_3 a0_4 a0_5 t614 t615 _ A16.out).mono ?_); rintro e w30 ⟨rfl, hb⟩; refine ⟨_, rfl, ?_⟩; have n0_ := mk0 (bbT BK610.out hb); have n1_ := mk0 (below_step (wT HB.out) hb); clear BK610; clear HB; have BK610 := n0_; have HB := n1_; clear n0_ n1_; (try clear hb); (try clear hb2); (try clear hk); (try clear hi)) | ((with_reducible refine gate_callee (f := 23) rfl ?_); refine goesL_ (some 45) rfl rfl Tryz.func23 (by kernel_rfl) rfl #[.string a1] rfl mapT ?_; (with_reducible refine (probe_Read.calls kj2 a1 t616 t617 t618 t619 t620 t621 t622 _ ?side1 A17.out).mono ?_); (case side1 => exact GW_below HG.out (wT HB.out)); rintro e w31 ⟨rfl, hb⟩; refine ⟨_, rfl, ?_⟩; have n0_ := mk0 (bbT BK610.out hb); have n1_ := mk0 (below_step (wT HB.out) hb); clear BK610; clear HB; have BK610 := n0_; have HB := n1_; clear n0_ n1_; (try clear hb); (try clear hb2); (try clear hk); (try clear hi)) | ((with_reducible refine gate_dst (N := 9) rfl ?_); (try (refine gate_guard (by rfl) ?_; dsimp only)); refine box_event ?hg (N := 9) ?hd (cs := #[.int .i64 0, .int .i64 0, .int .i64 0, .int .i64 0, .int .i64 0, .string (⟨#[]⟩ : ByteArray)]) (t := 47) ?hr ?_; (case hd => rfl); (case hg => rfl); (case hr => first | (go_simp; done) | (go_simp; rfl)); intro gb623 hg w32 hbox hb; have n0_ := mk0 (bbT BK610.out hb); have n1_ := mk0 (below_step (wT HB.out) hb); have n2_ := mk0 (hbox); have n3_ := mk0 ((szT HB.out hg)); have n4_ := mk0 ((szT HB.out hg)); have n5_ := mk0 ((neL BK610.out hg)); have n6_ := mk0 ((neG BK610.out hg)); clear BK610; clear HB; have BK610 := n0_; have HB := n1_; have BK623 := n2_; have GW623 := n3_; have GE623 := n4_; have NB610_623 := n5_; have NB623_610 := n6_; clear n0_ n1_ n2_ n3_ n4_ n5_ n6_; clear hb hbox hg; have hnb33 := NB623_610.out; have hnc33 := NB610_623.out; have X34_0 := ct BK623.out 0; have X34_1 := ct BK623.out 1; have X34_2 := ct BK623.out 2; have X34_3 := ct BK623.out 3; have X34_4 := ct BK623.out 4; have X34_5 := ct BK623.out 5; have Y34_0 := blk_frozen BK623.out 0; have Y34_1 := blk_frozen BK623.out 1; have Y34_2 := blk_frozen BK623.out 2; have Y34_3 := blk_frozen BK623.out 3; have Y34_4 := blk_frozen BK623.out 4; have Y34_5 := blk_frozen BK623.out 5) | ((with_reducible refine gate_callee (f := 24) rfl ?_); refine goesL_ (some 50) rfl rfl Tryz.func24 (by kernel_rfl) rfl #[.string a1] rfl mapT ?_; (with_reducible refine (metrolabref30_Read.calls kj2 a1 t624 t625 t626 t627 t628 t629 t630 _ A18.out).mono ?_); rintro e w35 ⟨rfl, hb⟩; refine ⟨_, rfl, ?_⟩; have n0_ := mk0 (blk_below (g := gb610) (o := .cells #[.int .i64 a0_0, .int .i64 a0_1, .int .i64 a0_2, .int .i64 a0_3, .int .i64 a0_4, .string a0_5] 47 (0, 0)) (by (with_reducible repeat (first | refine blk_drewN ?_ _ | refine blk_drew ?_ | refine blk_alloc ?_ _)); refine blk_far ?_ NB610_623.out _; refine blk_far ?_ NB610_623.out _; refine blk_far ?_ NB610_623.out _; refine blk_far ?_ NB610_623.out _; refine blk_far ?_ NB610_623.out _; refine blk_far ?_ NB610_623.out _; (with_reducible repeat (first | refine blk_drewN ?_ _ | refine blk_drew ?_ | refine blk_alloc ?_ _)); exact BK610.out) hb); have n1_ := mk0 (blk_below (g := gb623) (o := .cells #[.int .i64 t616, .int .i64 t617, .int .i64 t618, .int .i64 t619, .int .i64 t620, .string t621] 47 (0, 0)) (by (with_reducible repeat (first | refine blk_drewN ?_ _ | refine blk_drew ?_ | refine blk_alloc ?_ _)); refine blk_put (cs := #[.int .i64 t616, .int .i64 t617, .int .i64 t618, .int .i64 t619, .int .i64 t620, .string (⟨#[]⟩ : ByteArray)]) ?_ 5 _ rfl; refine blk_put (cs := #[.int .i64 t616, .int .i64 t617, .int .i64 t618, .int .i64 t619, .int .i64 0, .string (⟨#[]⟩ : ByteArray)]) ?_ 4 _ rfl; refine blk_put (cs := #[.int .i64 t616, .int .i64 t617, .int .i64 t618, .int .i64 0, .int .i64 0, .string (⟨#[]⟩ : ByteArray)]) ?_ 3 _ rfl; refine blk_put (cs := #[.int .i64 t616, .int .i64 t617, .int .i64 0, .int .i64 0, .int .i64 0, .string (⟨#[]⟩ : ByteArray)]) ?_ 2 _ rfl; refine blk_put (cs := #[.int .i64 t616, .int .i64 0, .int .i64 0, .int .i64 0, .int .i64 0, .string (⟨#[]⟩ : ByteArray)]) ?_ 1 _ rfl; refine blk_put (cs := #[.int .i64 0, .int .i64 0, .int .i64 0, .int .i64 0, .int .i64 0, .string (⟨#[]⟩ : ByteArray)]) ?_ 0 _ rfl; (with_reducible repeat (first | refine blk_drewN ?_ _ | refine blk_drew ?_ | refine blk_alloc ?_ _)); exact BK623.out) hb); have n2_ := mk0 (below_step (by repeat (first | (with_reducible first | exact HB.out | apply below_alloc | apply pw_below_drewN | apply below_drew1 | refine below_set ?_ GE623.out) | exact HB.out)) hb); clear BK610; clear BK623; clear HB; have BK610 := n0_; have BK623 := n1_; have HB := n2_; clear n0_ n1_ n2_; (try clear hb); (try clear hb2); (try clear hk); (try clear hi)) | ((with_reducible refine gate_dst (N := 11) rfl ?_); (try (refine gate_guard (by rfl) ?_; dsimp only)); refine box_event ?hg (N := 11) ?hd (cs := #[.int .i64 0, .int .i64 0, .int .i64 0, .int .i64 0, .int .i64 0, .string (⟨#[]⟩ : ByteArray)]) (t := 52) ?hr ?_; (case hd => rfl); (case hg => rfl); (case hr => first | (go_simp; done) | (go_simp; rfl)); intro gb631 hg w36 hbox hb; have n0_ := mk0 (bbT BK610.out hb); have n1_ := mk0 (bbT BK623.out hb); have n2_ := mk0 (below_step (wT HB.out) hb); have n3_ := mk0 (hbox); have n4_ := mk0 ((szT HB.out hg)); have n5_ := mk0 ((szT HB.out hg)); have n6_ := mk0 ((neL BK610.out hg)); have n7_ := mk0 ((neG BK610.out hg)); have n8_ := mk0 ((neL BK623.out hg)); have n9_ := mk0 ((neG BK623.out hg)); clear BK610; clear BK623; clear HB; have BK610 := n0_; have BK623 := n1_; have HB := n2_; have BK631 := n3_; have GW631 := n4_; have GE631 := n5_; have NB610_631 := n6_; have NB631_610 := n7_; have NB623_631 := n8_; have NB631_623 := n9_; clear n0_ n1_ n2_ n3_ n4_ n5_ n6_ n7_ n8_ n9_; clear hb hbox hg; have hnb37 := NB631_610.out; have hnc37 := NB610_631.out; have hnb38 := NB631_623.out; have hnc38 := NB623_631.out; have X39_0 := ct BK631.out 0; have X39_1 := ct BK631.out 1; have X39_2 := ct BK631.out 2; have X39_3 := ct BK631.out 3; have X39_4 := ct BK631.out 4; have X39_5 := ct BK631.out 5; have Y39_0 := blk_frozen BK631.out 0; have Y39_1 := blk_frozen BK631.out 1; have Y39_2 := blk_frozen BK631.out 2; have Y39_3 := blk_frozen BK631.out 3; have Y39_4 := blk_frozen BK631.out 4; have Y39_5 := blk_frozen BK631.out 5))
         have n0_ : Aside0 (((((((w36.setCell ⟨gb631, 0, none⟩ (.int .i64 t624)).setCell ⟨gb631, 1, none⟩ (.int .i64 t625)).setCell ⟨gb631, 2, none⟩ (.int .i64 t626)).setCell ⟨gb631, 3, none⟩ (.int .i64 t627)).setCell ⟨gb631, 4, none⟩ (.int .i64 t628)).setCell ⟨gb631, 5, none⟩ (.string t629)).heap[gb610]? = some (.cells #[.int .i64 a0_0, .int .i64 a0_1, .int .i64 a0_2, .int .i64 a0_3, .int .i64 a0_4, .string a0_5] 47 (0, 0))) := ⟨by (with_reducible repeat (first | refine blk_drewN ?_ _ | refine blk_drew ?_ | refine blk_alloc ?_ _)); refine blk_far ?_ NB610_631.out _; refine blk_far ?_ NB610_631.out _; refine blk_far ?_ NB610_631.out _; refine blk_far ?_ NB610_631.out _; refine blk_far ?_ NB610_631.out _; refine blk_far ?_ NB610_631.out _; (with_reducible repeat (first | refine blk_drewN ?_ _ | refine blk_drew ?_ | refine blk_alloc ?_ _)); exact BK610.out⟩
         have n1_ : Aside0 (((((((w36.setCell ⟨gb631, 0, none⟩ (.int .i64 t624)).setCell ⟨gb631, 1, none⟩ (.int .i64 t625)).setCell ⟨gb631, 2, none⟩ (.int .i64 t626)).setCell ⟨gb631, 3, none⟩ (.int .i64 t627)).setCell ⟨gb631, 4, none⟩ (.int .i64 t628)).setCell ⟨gb631, 5, none⟩ (.string t629)).heap[gb623]? = some (.cells #[.int .i64 t616, .int .i64 t617, .int .i64 t618, .int .i64 t619, .int .i64 t620, .string t621] 47 (0, 0))) := ⟨by (with_reducible repeat (first | refine blk_drewN ?_ _ | refine blk_drew ?_ | refine blk_alloc ?_ _)); refine blk_far ?_ NB623_631.out _; refine blk_far ?_ NB623_631.out _; refine blk_far ?_ NB623_631.out _; refine blk_far ?_ NB623_631.out _; refine blk_far ?_ NB623_631.out _; refine blk_far ?_ NB623_631.out _; (with_reducible repeat (first | refine blk_drewN ?_ _ | refine blk_drew ?_ | refine blk_alloc ?_ _)); exact BK623.out⟩
         have n2_ : Aside0 (((((((w36.setCell ⟨gb631, 0, none⟩ (.int .i64 t624)).setCell ⟨gb631, 1, none⟩ (.int .i64 t625)).setCell ⟨gb631, 2, none⟩ (.int .i64 t626)).setCell ⟨gb631, 3, none⟩ (.int .i64 t627)).setCell ⟨gb631, 4, none⟩ (.int .i64 t628)).setCell ⟨gb631, 5, none⟩ (.string t629)).heap[gb631]? = some (.cells #[.int .i64 t624, .int .i64 t625, .int .i64 t626, .int .i64 t627, .int .i64 t628, .string t629] 52 (0, 0))) := ⟨by (with_reducible repeat (first | refine blk_drewN ?_ _ | refine blk_drew ?_ | refine blk_alloc ?_ _)); refine blk_put (cs := #[.int .i64 t624, .int .i64 t625, .int .i64 t626, .int .i64 t627, .int .i64 t628, .string (⟨#[]⟩ : ByteArray)]) ?_ 5 _ rfl; refine blk_put (cs := #[.int .i64 t624, .int .i64 t625, .int .i64 t626, .int .i64 t627, .int .i64 0, .string (⟨#[]⟩ : ByteArray)]) ?_ 4 _ rfl; refine blk_put (cs := #[.int .i64 t624, .int .i64 t625, .int .i64 t626, .int .i64 0, .int .i64 0, .string (⟨#[]⟩ : ByteArray)]) ?_ 3 _ rfl; refine blk_put (cs := #[.int .i64 t624, .int .i64 t625, .int .i64 0, .int .i64 0, .int .i64 0, .string (⟨#[]⟩ : ByteArray)]) ?_ 2 _ rfl; refine blk_put (cs := #[.int .i64 t624, .int .i64 0, .int .i64 0, .int .i64 0, .int .i64 0, .string (⟨#[]⟩ : ByteArray)]) ?_ 1 _ rfl; refine blk_put (cs := #[.int .i64 0, .int .i64 0, .int .i64 0, .int .i64 0, .int .i64 0, .string (⟨#[]⟩ : ByteArray)]) ?_ 0 _ rfl; (with_reducible repeat (first | refine blk_drewN ?_ _ | refine blk_drew ?_ | refine blk_alloc ?_ _)); exact BK631.out⟩
         have n3_ : Aside0 (Below w.heap.size w ((((((w36.setCell ⟨gb631, 0, none⟩ (.int .i64 t624)).setCell ⟨gb631, 1, none⟩ (.int .i64 t625)).setCell ⟨gb631, 2, none⟩ (.int .i64 t626)).setCell ⟨gb631, 3, none⟩ (.int .i64 t627)).setCell ⟨gb631, 4, none⟩ (.int .i64 t628)).setCell ⟨gb631, 5, none⟩ (.string t629))) := ⟨by repeat (first | (with_reducible first | exact HB.out | apply below_alloc | apply pw_below_drewN | apply below_drew1 | refine below_set ?_ GE631.out) | exact HB.out)⟩
         (try clear BK610)
         (try clear BK623)
         (try clear BK631)
         (try clear HB)
         generalize ((((((w36.setCell ⟨gb631, 0, none⟩ (.int .i64 t624)).setCell ⟨gb631, 1, none⟩ (.int .i64 t625)).setCell ⟨gb631, 2, none⟩ (.int .i64 t626)).setCell ⟨gb631, 3, none⟩ (.int .i64 t627)).setCell ⟨gb631, 4, none⟩ (.int .i64 t628)).setCell ⟨gb631, 5, none⟩ (.string t629)) = w40 at n0_ n1_ n2_ n3_ ⊢
         have BK610 := n0_
         have BK623 := n1_
         have BK631 := n2_
         have HB := n3_
         clear n0_ n1_ n2_ n3_
         have n0_ := mk0 (blk_drew BK610.out)
         have n1_ := mk0 (blk_drew BK623.out)
         have n2_ := mk0 (blk_drew BK631.out)
         have n3_ := mk0 (below_drew1 HB.out)
         clear BK610
         clear BK623
         clear BK631
         clear HB
         have BK610 := n0_
         have BK623 := n1_
         have BK631 := n2_
         have HB := n3_
         clear n0_ n1_ n2_ n3_
         refine start_ (n := 29) (S := fun w' => w'.cell? ⟨gb610, 0, none⟩ = some (.int .i64 a0_0) ∧ w'.cell? ⟨gb610, 1, none⟩ = some (.int .i64 a0_1) ∧ w'.cell? ⟨gb610, 2, none⟩ = some (.int .i64 a0_2) ∧ w'.cell? ⟨gb610, 3, none⟩ = some (.int .i64 a0_3) ∧ w'.cell? ⟨gb610, 4, none⟩ = some (.int .i64 a0_4) ∧ w'.cell? ⟨gb610, 5, none⟩ = some (.string a0_5) ∧ w'.cell? ⟨gb623, 0, none⟩ = some (.int .i64 t616) ∧ w'.cell? ⟨gb623, 1, none⟩ = some (.int .i64 t617) ∧ w'.cell? ⟨gb623, 2, none⟩ = some (.int .i64 t618) ∧ w'.cell? ⟨gb623, 3, none⟩ = some (.int .i64 t619) ∧ w'.cell? ⟨gb623, 4, none⟩ = some (.int .i64 t620) ∧ w'.cell? ⟨gb623, 5, none⟩ = some (.string t621) ∧ w'.cell? ⟨gb631, 0, none⟩ = some (.int .i64 t624) ∧ w'.cell? ⟨gb631, 1, none⟩ = some (.int .i64 t625) ∧ w'.cell? ⟨gb631, 2, none⟩ = some (.int .i64 t626) ∧ w'.cell? ⟨gb631, 3, none⟩ = some (.int .i64 t627) ∧ w'.cell? ⟨gb631, 4, none⟩ = some (.int .i64 t628) ∧ w'.cell? ⟨gb631, 5, none⟩ = some (.string t629)) (ds := []) #[false, false, false, false, false, false, false, false, false, false, false, false, false, false, false, false, false, false, false, false, false, false, false, false, false, false, false, false, false] (by kernel_rfl) rfl rfl ⟨ct BK610.out 0, ct BK610.out 1, ct BK610.out 2, ct BK610.out 3, ct BK610.out 4, ct BK610.out 5, ct BK623.out 0, ct BK623.out 1, ct BK623.out 2, ct BK623.out 3, ct BK623.out 4, ct BK623.out 5, ct BK631.out 0, ct BK631.out 1, ct BK631.out 2, ct BK631.out 3, ct BK631.out 4, ct BK631.out 5⟩ (fun hHeld => ?_); refine with_tabW metrolablaw30_ProbeTexts.tab7 metrolablaw30_ProbeTexts.bits7 (fun HT_ HW_ => ?_)
         generalize w40.drew = w41 at BK610 BK623 BK631 HB hHeld ⊢
         refine take_ (i := 0) (N := some 53) (v := ?_) (a' := ?_) #[true, false, false, false, false, false, false, false, false, false, false, false, false, false, false, false, false, false, false, false, false, false, false, false, false, false, false, false, false] rfl rfl (take_ofW HT_.out HW_.out (by kernel_rfl)) (fun _ _ _ h => h) (Or.inl ⟨by rfl, ?_⟩) hHeld ?_ ?_
         rotate_left
         ·rintro w' ⟨s0, s1, s2, s3, s4, s5, s6, s7, s8, s9, s10, s11, s12, s13, s14, s15, s16, s17⟩
          go_simp
          (try simp only [ite_okb])
          with_reducible rfl
         rotate_left
         ·exact nrm
         refine take_ (i := 2) (N := some 55) (v := ?_) (a' := ?_) #[true, false, true, false, false, false, false, false, false, false, false, false, false, false, false, false, false, false, false, false, false, false, false, false, false, false, false, false, false] rfl rfl (take_ofW HT_.out HW_.out (by kernel_rfl)) (fun _ _ _ h => h) (Or.inl ⟨by rfl, ?_⟩) hHeld ?_ ?_
         rotate_left
         ·rintro w' ⟨s0, s1, s2, s3, s4, s5, s6, s7, s8, s9, s10, s11, s12, s13, s14, s15, s16, s17⟩
          go_simp
          (try simp only [ite_okb])
          with_reducible rfl
         rotate_left
         ·exact nrm
         refine one_ (i := 1) (N := some 54) #[true, true, true, false, false, false, false, false, false, false, false, false, false, false, false, false, false, false, false, false, false, false, false, false, false, false, false, false, false] rfl rfl (one_of HT_.out (by kernel_rfl)) (by decide) (fun K hK => ?_)
         refine goes_ Tryz.func25 (by kernel_rfl) rfl #[.agg #[.int .i64 a0_0, .int .i64 a0_1, .int .i64 a0_2, .int .i64 a0_3, .int .i64 a0_4, .string a0_5]] (by rfl) rfl rfl mapT ?_
         with_reducible refine (probe_Right.calls kj2 a0_0 a0_1 a0_2 a0_3 a0_4 a0_5 t632 _ ?side1 A19.out).mono ?_
         (case side1 => exact GW_below HG.out (wT HB.out))
         rintro e w42 ⟨rfl, hb⟩
         refine ⟨_, rfl, ?_⟩
         have n0_ := mk0 (bbT BK610.out hb)
         have n1_ := mk0 (bbT BK623.out hb)
         have n2_ := mk0 (bbT BK631.out hb)
         have n3_ := mk0 (below_step (wT HB.out) hb)
         clear BK610
         clear BK623
         clear BK631
         clear HB
         have BK610 := n0_
         have BK623 := n1_
         have BK631 := n2_
         have HB := n3_
         clear n0_ n1_ n2_ n3_
         (try clear hb)
         (try clear hb2)
         (try clear hk)
         (try clear hi)
         refine hK.out _ _ ⟨ct BK610.out 0, ct BK610.out 1, ct BK610.out 2, ct BK610.out 3, ct BK610.out 4, ct BK610.out 5, ct BK623.out 0, ct BK623.out 1, ct BK623.out 2, ct BK623.out 3, ct BK623.out 4, ct BK623.out 5, ct BK631.out 0, ct BK631.out 1, ct BK631.out 2, ct BK631.out 3, ct BK631.out 4, ct BK631.out 5⟩ (fun hHeld => ?_)
         clear hK K
         refine norm_ (a' := ?_) ?_ ?_
         rotate_left
         ·show Act.put _ (some 54) _ = _
          simp only [Act.put, List.setIfInBounds_toArray, List.set_cons_zero, List.set_cons_succ, i64_w, i32_w]
          rfl
         refine one_ (i := 3) (N := some 56) #[true, true, true, true, false, false, false, false, false, false, false, false, false, false, false, false, false, false, false, false, false, false, false, false, false, false, false, false, false] rfl rfl (one_of HT_.out (by kernel_rfl)) (by decide) (fun K hK => ?_)
         refine goes_ Tryz.func26 (by kernel_rfl) rfl #[.agg #[.int .i64 a0_0, .int .i64 a0_1, .int .i64 a0_2, .int .i64 a0_3, .int .i64 a0_4, .string a0_5]] (by rfl) rfl rfl mapT ?_
         with_reducible refine (metrolabref30_Right.calls kj2 a0_0 a0_1 a0_2 a0_3 a0_4 a0_5 t633 _ A20.out).mono ?_
         rintro e w43 ⟨rfl, hb⟩
         refine ⟨_, rfl, ?_⟩
         have n0_ := mk0 (bbT BK610.out hb)
         have n1_ := mk0 (bbT BK623.out hb)
         have n2_ := mk0 (bbT BK631.out hb)
         have n3_ := mk0 (below_step (wT HB.out) hb)
         clear BK610
         clear BK623
         clear BK631
         clear HB
         have BK610 := n0_
         have BK623 := n1_
         have BK631 := n2_
         have HB := n3_
         clear n0_ n1_ n2_ n3_
         (try clear hb)
         (try clear hb2)
         (try clear hk)
         (try clear hi)
         refine hK.out _ _ ⟨ct BK610.out 0, ct BK610.out 1, ct BK610.out 2, ct BK610.out 3, ct BK610.out 4, ct BK610.out 5, ct BK623.out 0, ct BK623.out 1, ct BK623.out 2, ct BK623.out 3, ct BK623.out 4, ct BK623.out 5, ct BK631.out 0, ct BK631.out 1, ct BK631.out 2, ct BK631.out 3, ct BK631.out 4, ct BK631.out 5⟩ (fun hHeld => ?_)
         clear hK K
         refine norm_ (a' := ?_) ?_ ?_
         rotate_left
         ·show Act.put _ (some 56) _ = _
          simp only [Act.put, List.setIfInBounds_toArray, List.set_cons_zero, List.set_cons_succ, i64_w, i32_w]
          rfl
         refine pure_ (i := 4) (N := some 57) (v := ?_) (a' := ?_) #[true, true, true, true, true, false, false, false, false, false, false, false, false, false, false, false, false, false, false, false, false, false, false, false, false, false, false, false, false] rfl rfl (any_of HT_.out (by kernel_rfl)) (fun _ _ _ h => h) (Or.inl ⟨by rfl, ?_⟩) ?_ ?_
         rotate_left
         ·intro w'
          go_simp
          (try simp only [ite_okb])
          with_reducible rfl
         rotate_left
         ·exact nrm
         refine pure_ (i := 5) (N := some 58) (v := ?_) (a' := ?_) #[true, true, true, true, true, true, false, false, false, false, false, false, false, false, false, false, false, false, false, false, false, false, false, false, false, false, false, false, false] rfl rfl (any_of HT_.out (by kernel_rfl)) (fun _ _ _ h => h) (Or.inl ⟨by rfl, ?_⟩) ?_ ?_
         rotate_left
         ·intro w'
          go_simp
          (try simp only [ite_okb])
          with_reducible rfl
         rotate_left
         ·exact nrm
         refine pure_ (i := 6) (N := some 59) (v := ?_) (a' := ?_) #[true, true, true, true, true, true, true, false, false, false, false, false, false, false, false, false, false, false, false, false, false, false, false, false, false, false, false, false, false] rfl rfl (any_of HT_.out (by kernel_rfl)) (fun _ _ _ h => h) (Or.inl ⟨by rfl, ?_⟩) ?_ ?_
         rotate_left
         ·intro w'
          go_simp
          (try simp only [ite_okb])
          with_reducible rfl
         rotate_left
         ·exact nrm
         refine pure_ (i := 7) (N := some 60) (v := ?_) (a' := ?_) #[true, true, true, true, true, true, true, true, false, false, false, false, false, false, false, false, false, false, false, false, false, false, false, false, false, false, false, false, false] rfl rfl (any_of HT_.out (by kernel_rfl)) (fun _ _ _ h => h) (Or.inl ⟨by rfl, ?_⟩) ?_ ?_
         rotate_left
         ·intro w'
          go_simp
          (try simp only [ite_okb])
          with_reducible rfl
         rotate_left
         ·exact nrm
         refine pure_ (i := 8) (N := some 61) (v := ?_) (a' := ?_) #[true, true, true, true, true, true, true, true, true, false, false, false, false, false, false, false, false, false, false, false, false, false, false, false, false, false, false, false, false] rfl rfl (any_of HT_.out (by kernel_rfl)) (fun _ _ _ h => h) (Or.inl ⟨by rfl, ?_⟩) ?_ ?_
         rotate_left
         ·intro w'
          go_simp
          (try simp only [ite_okb])
          with_reducible rfl
         rotate_left
         ·exact nrm
         refine pure_ (i := 9) (N := some 62) (v := ?_) (a' := ?_) #[true, true, true, true, true, true, true, true, true, true, false, false, false, false, false, false, false, false, false, false, false, false, false, false, false, false, false, false, false] rfl rfl (any_of HT_.out (by kernel_rfl)) (fun _ _ _ h => h) (Or.inl ⟨by rfl, ?_⟩) ?_ ?_
         rotate_left
         ·intro w'
          go_simp
          (try simp only [ite_okb])
          with_reducible rfl
         rotate_left
         ·exact nrm
         refine pure_ (i := 10) (N := some 63) (v := ?_) (a' := ?_) #[true, true, true, true, true, true, true, true, true, true, true, false, false, false, false, false, false, false, false, false, false, false, false, false, false, false, false, false, false] rfl rfl (any_of HT_.out (by kernel_rfl)) (fun _ _ _ h => h) (Or.inl ⟨by rfl, ?_⟩) ?_ ?_
         rotate_left
         ·intro w'
          go_simp
          (try simp only [ite_okb])
          with_reducible rfl
         rotate_left
         ·exact nrm
         refine pure_ (i := 11) (N := some 64) (v := ?_) (a' := ?_) #[true, true, true, true, true, true, true, true, true, true, true, true, false, false, false, false, false, false, false, false, false, false, false, false, false, false, false, false, false] rfl rfl (any_of HT_.out (by kernel_rfl)) (fun _ _ _ h => h) (Or.inl ⟨by rfl, ?_⟩) ?_ ?_
         rotate_left
         ·intro w'
          go_simp
          (try simp only [ite_okb])
          with_reducible rfl
         rotate_left
         ·exact nrm
         refine pure_ (i := 12) (N := some 65) (v := ?_) (a' := ?_) #[true, true, true, true, true, true, true, true, true, true, true, true, true, false, false, false, false, false, false, false, false, false, false, false, false, false, false, false, false] rfl rfl (any_of HT_.out (by kernel_rfl)) (fun _ _ _ h => h) (Or.inl ⟨by rfl, ?_⟩) ?_ ?_
         rotate_left
         ·intro w'
          go_simp
          (try simp only [ite_okb])
          with_reducible rfl
         rotate_left
         ·exact nrm
         refine pure_ (i := 13) (N := some 66) (v := ?_) (a' := ?_) #[true, true, true, true, true, true, true, true, true, true, true, true, true, true, false, false, false, false, false, false, false, false, false, false, false, false, false, false, false] rfl rfl (any_of HT_.out (by kernel_rfl)) (fun _ _ _ h => h) (Or.inl ⟨by rfl, ?_⟩) ?_ ?_
         rotate_left
         ·intro w'
          go_simp
          (try simp only [ite_okb])
          with_reducible rfl
         rotate_left
         ·exact nrm
         refine pure_ (i := 14) (N := some 67) (v := ?_) (a' := ?_) #[true, true, true, true, true, true, true, true, true, true, true, true, true, true, true, false, false, false, false, false, false, false, false, false, false, false, false, false, false] rfl rfl (any_of HT_.out (by kernel_rfl)) (fun _ _ _ h => h) (Or.inl ⟨by rfl, ?_⟩) ?_ ?_
         rotate_left
         ·intro w'
          go_simp
          (try simp only [ite_okb])
          with_reducible rfl
         rotate_left
         ·exact nrm
         refine pure_ (i := 15) (N := some 68) (v := ?_) (a' := ?_) #[true, true, true, true, true, true, true, true, true, true, true, true, true, true, true, true, false, false, false, false, false, false, false, false, false, false, false, false, false] rfl rfl (any_of HT_.out (by kernel_rfl)) (fun _ _ _ h => h) (Or.inl ⟨by rfl, ?_⟩) ?_ ?_
         rotate_left
         ·intro w'
          go_simp
          (try simp only [ite_okb])
          with_reducible rfl
         rotate_left
         ·exact nrm
         refine take_ (i := 16) (N := some 69) (v := ?_) (a' := ?_) #[true, true, true, true, true, true, true, true, true, true, true, true, true, true, true, true, true, false, false, false, false, false, false, false, false, false, false, false, false] rfl rfl (take_ofW HT_.out HW_.out (by kernel_rfl)) (fun _ _ _ h => h) (Or.inl ⟨by rfl, ?_⟩) hHeld ?_ ?_
         rotate_left
         ·rintro w' ⟨s0, s1, s2, s3, s4, s5, s6, s7, s8, s9, s10, s11, s12, s13, s14, s15, s16, s17⟩
          go_simp
          (try simp only [ite_okb])
          with_reducible rfl
         rotate_left
         ·exact nrm
         refine take_ (i := 17) (N := some 70) (v := ?_) (a' := ?_) #[true, true, true, true, true, true, true, true, true, true, true, true, true, true, true, true, true, true, false, false, false, false, false, false, false, false, false, false, false] rfl rfl (take_ofW HT_.out HW_.out (by kernel_rfl)) (fun _ _ _ h => h) (Or.inl ⟨by rfl, ?_⟩) hHeld ?_ ?_
         rotate_left
         ·rintro w' ⟨s0, s1, s2, s3, s4, s5, s6, s7, s8, s9, s10, s11, s12, s13, s14, s15, s16, s17⟩
          go_simp
          (try simp only [ite_okb])
          with_reducible rfl
         rotate_left
         ·exact nrm
         refine pure_ (i := 18) (N := some 71) (v := ?_) (a' := ?_) #[true, true, true, true, true, true, true, true, true, true, true, true, true, true, true, true, true, true, true, false, false, false, false, false, false, false, false, false, false] rfl rfl (any_of HT_.out (by kernel_rfl)) (fun _ _ _ h => h) (Or.inl ⟨by rfl, ?_⟩) ?_ ?_
         rotate_left
         ·intro w'
          go_simp
          (try simp only [ite_okb])
          with_reducible rfl
         rotate_left
         ·exact nrm
         refine pure_ (i := 19) (N := some 72) (v := ?_) (a' := ?_) #[true, true, true, true, true, true, true, true, true, true, true, true, true, true, true, true, true, true, true, true, false, false, false, false, false, false, false, false, false] rfl rfl (any_of HT_.out (by kernel_rfl)) (fun _ _ _ h => h) (Or.inl ⟨by rfl, ?_⟩) ?_ ?_
         rotate_left
         ·intro w'
          go_simp
          (try simp only [ite_okb])
          with_reducible rfl
         rotate_left
         ·exact nrm
         refine pure_ (i := 20) (N := some 73) (v := ?_) (a' := ?_) #[true, true, true, true, true, true, true, true, true, true, true, true, true, true, true, true, true, true, true, true, true, false, false, false, false, false, false, false, false] rfl rfl (any_of HT_.out (by kernel_rfl)) (fun _ _ _ h => h) (Or.inl ⟨by rfl, ?_⟩) ?_ ?_
         rotate_left
         ·intro w'
          go_simp
          (try simp only [ite_okb])
          with_reducible rfl
         rotate_left
         ·exact nrm
         refine pure_ (i := 21) (N := some 74) (v := ?_) (a' := ?_) #[true, true, true, true, true, true, true, true, true, true, true, true, true, true, true, true, true, true, true, true, true, true, false, false, false, false, false, false, false] rfl rfl (any_of HT_.out (by kernel_rfl)) (fun _ _ _ h => h) (Or.inl ⟨by rfl, ?_⟩) ?_ ?_
         rotate_left
         ·intro w'
          go_simp
          (try simp only [ite_okb])
          with_reducible rfl
         rotate_left
         ·exact nrm
         refine pure_ (i := 22) (N := some 75) (v := ?_) (a' := ?_) #[true, true, true, true, true, true, true, true, true, true, true, true, true, true, true, true, true, true, true, true, true, true, true, false, false, false, false, false, false] rfl rfl (any_of HT_.out (by kernel_rfl)) (fun _ _ _ h => h) (Or.inl ⟨by rfl, ?_⟩) ?_ ?_
         rotate_left
         ·intro w'
          go_simp
          (try simp only [ite_okb])
          with_reducible rfl
         rotate_left
         ·exact nrm
         refine pure_ (i := 23) (N := some 76) (v := ?_) (a' := ?_) #[true, true, true, true, true, true, true, true, true, true, true, true, true, true, true, true, true, true, true, true, true, true, true, true, false, false, false, false, false] rfl rfl (any_of HT_.out (by kernel_rfl)) (fun _ _ _ h => h) (Or.inl ⟨by rfl, ?_⟩) ?_ ?_
         rotate_left
         ·intro w'
          go_simp
          (try simp only [ite_okb])
          with_reducible rfl
         rotate_left
         ·exact nrm
         refine pure_ (i := 24) (N := some 77) (v := ?_) (a' := ?_) #[true, true, true, true, true, true, true, true, true, true, true, true, true, true, true, true, true, true, true, true, true, true, true, true, true, false, false, false, false] rfl rfl (any_of HT_.out (by kernel_rfl)) (fun _ _ _ h => h) (Or.inl ⟨by rfl, ?_⟩) ?_ ?_
         rotate_left
         ·intro w'
          go_simp
          (try simp only [ite_okb])
          with_reducible rfl
         rotate_left
         ·exact nrm
         refine pure_ (i := 25) (N := some 78) (v := ?_) (a' := ?_) #[true, true, true, true, true, true, true, true, true, true, true, true, true, true, true, true, true, true, true, true, true, true, true, true, true, true, false, false, false] rfl rfl (any_of HT_.out (by kernel_rfl)) (fun _ _ _ h => h) (Or.inl ⟨by rfl, ?_⟩) ?_ ?_
         rotate_left
         ·intro w'
          go_simp
          (try simp only [ite_okb])
          with_reducible rfl
         rotate_left
         ·exact nrm
         refine one_ (i := 26) (N := some 79) #[true, true, true, true, true, true, true, true, true, true, true, true, true, true, true, true, true, true, true, true, true, true, true, true, true, true, true, false, false] rfl rfl (one_of HT_.out (by kernel_rfl)) (by decide) (fun K hK => ?_)
         refine goes_ Tryz.func14 (by kernel_rfl) rfl #[] (by rfl) rfl rfl mapT ?_
         with_reducible refine (metrolablaw30_awake.calls kj2  t634 _ ?side1 A26.out).mono ?_
         (case side1 => exact GW_below HG.out (wT HB.out))
         rintro e w44 ⟨rfl, hb⟩
         refine ⟨_, rfl, ?_⟩
         have n0_ := mk0 (bbT BK610.out hb)
         have n1_ := mk0 (bbT BK623.out hb)
         have n2_ := mk0 (bbT BK631.out hb)
         have n3_ := mk0 (below_step (wT HB.out) hb)
         clear BK610
         clear BK623
         clear BK631
         clear HB
         have BK610 := n0_
         have BK623 := n1_
         have BK631 := n2_
         have HB := n3_
         clear n0_ n1_ n2_ n3_
         (try clear hb)
         (try clear hb2)
         (try clear hk)
         (try clear hi)
         refine hK.out _ _ ⟨ct BK610.out 0, ct BK610.out 1, ct BK610.out 2, ct BK610.out 3, ct BK610.out 4, ct BK610.out 5, ct BK623.out 0, ct BK623.out 1, ct BK623.out 2, ct BK623.out 3, ct BK623.out 4, ct BK623.out 5, ct BK631.out 0, ct BK631.out 1, ct BK631.out 2, ct BK631.out 3, ct BK631.out 4, ct BK631.out 5⟩ (fun hHeld => ?_)
         clear hK K
         refine norm_ (a' := ?_) ?_ ?_
         rotate_left
         ·show Act.put _ (some 79) _ = _
          simp only [Act.put, List.setIfInBounds_toArray, List.set_cons_zero, List.set_cons_succ, i64_w, i32_w]
          rfl
         refine pure_ (i := 27) (N := some 80) (v := ?_) (a' := ?_) #[true, true, true, true, true, true, true, true, true, true, true, true, true, true, true, true, true, true, true, true, true, true, true, true, true, true, true, true, false] rfl rfl (any_of HT_.out (by kernel_rfl)) (fun _ _ _ h => h) (Or.inl ⟨by rfl, ?_⟩) ?_ ?_
         rotate_left
         ·intro w'
          go_simp
          (try simp only [ite_okb])
          with_reducible rfl
         rotate_left
         ·exact nrm
         refine pure_ (i := 28) (N := some 4) (v := ?_) (a' := ?_) #[true, true, true, true, true, true, true, true, true, true, true, true, true, true, true, true, true, true, true, true, true, true, true, true, true, true, true, true, true] rfl rfl (any_of HT_.out (by kernel_rfl)) (fun _ _ _ h => h) (Or.inl ⟨by rfl, ?_⟩) ?_ ?_
         rotate_left
         ·intro w'
          go_simp
          (try simp only [ite_okb])
          with_reducible rfl
         rotate_left
         ·exact nrm
         refine done_ (done_of HT_.out (by kernel_rfl)) ?_
         try go_wp2
         go_ret
         exact ⟨eqT, wT HB.out⟩
        ·rw [if_neg c25] at H
         have c25b0 : (t622 == t630) = false := beq_eq_false_iff_ne.mpr c25
         have c25b1 : (t622 != t630) = true := bne_iff_ne.mpr c25
         exact absurd H (by simp)
       ·rw [if_neg c24] at H
        have c24b0 : (t616 == t624 && ((t617 == t625 && (t618 == t626 && (t619 == t627))) && (t620 == t628 && (t621.toList == t629.toList)))) = false := by simpa using c24
        (try (have c24b1 : decide (t616 = t624 && ((t617 == t625 && (t618 == t626 && (t619 == t627))) && (t620 == t628 && (t621.toList == t629.toList)))) = false := by simpa using c24))
        (try (have c24b2 : (t616 == t624 && ((t617 == t625 && (t618 == t626 && (t619 == t627))) && (t620 == t628 && (t621.toList == t629.toList)))) = false := by simpa using c24))
        (try (have c24b3 : ¬ (t616 = t624 && ((t617 == t625 && (t618 == t626 && (t619 == t627))) && (t620 == t628 && (t621.toList == t629.toList)))) := by simpa using c24))
        clear c24
        exact absurd H (by simp)
      ·rw [if_neg c23] at H
       have c23b0 : (t613 == t615) = false := beq_eq_false_iff_ne.mpr c23
       have c23b1 : (t613 != t615) = true := bne_iff_ne.mpr c23
       exact absurd H (by simp)
     ·rw [if_neg c22] at H
      have c22b0 : (t612.toList == t614.toList) = false := beq_eq_false_iff_ne.mpr c22
      have c22b1 : (t612.toList != t614.toList) = true := bne_iff_ne.mpr c22
      exact absurd H (by simp)
    ·rw [if_neg c21] at H
     have c21b0 : (t632 == t633) = false := beq_eq_false_iff_ne.mpr c21
     have c21b1 : (t632 != t633) = true := bne_iff_ne.mpr c21
     exact absurd H (by simp)
end Go.Proofs.YtolbjmaabghghaaGreatDoor.PA
