/- A part of the proof. -/
import Derived.Test.YtolbjmaabghghaaGreatDoorDPAx0
import Derived.Test.YtolbjmaabghghaaGreatDoorDPAx17
import Derived.Test.YtolbjmaabghghaaGreatDoorDPAx18
namespace Go.Proofs.YtolbjmaabghghaaGreatDoor.PA
open Go.RowKit Go.PW Go.PL Go.PM
attribute [local go_sem] max2_int min2_int max_two min_two max_three min_three max_four min_four   -- for this text's walks alone
set_option linter.unusedVariables false
set_option maxHeartbeats 8000000
set_option maxRecDepth 100000
set_option linter.unusedSimpArgs false
def metrolabref30_given.f (k : Nat) (a0_0 : Int) (a0_1 : Int) (a0_2 : Int) (a0_3 : Int) (a0_4 : Int) (a0_5 : Int) (l0_6 : List (S92)) (a1_0 : Int) (a1_1 : Int) (a1_2 : Int) : Option (Int) := (metrolabref30_Check.f k a0_0 a0_1 a0_2 a0_3 a0_4 a0_5 l0_6).bind fun t418 => (if t418 = 0 then ((metrolabref07_RightSpot.f a1_0 a1_1 a1_2).bind fun t419 => (if t419 = true then (some 0) else (some 2))) else (some t418))
theorem metrolabref30_given.calls (k : Nat) (a0_0 : Int) (a0_1 : Int) (a0_2 : Int) (a0_3 : Int) (a0_4 : Int) (a0_5 : Int) (A0_6 : Option Addr) (c0_6 : Nat) (l0_6 : List (S92)) (a1_0 : Int) (a1_1 : Int) (a1_2 : Int) (r : Int) (w : World) (hr0_6 : Kd.C k92 w A0_6 l0_6.length l0_6) (hc0_6 : l0_6.length ≤ c0_6) (h : metrolabref30_given.f k a0_0 a0_1 a0_2 a0_3 a0_4 a0_5 l0_6 a1_0 a1_1 a1_2 = some r) :
  Calls Tryz.prog 40 #[.agg #[.int .i64 a0_0, .int .i64 a0_1, .int .i64 a0_2, .int .i64 a0_3, .int .i64 a0_4, .int .i64 a0_5, .slice A0_6 l0_6.length c0_6], .agg #[.int .i64 a1_0, .int .i64 a1_1, .int .i64 a1_2]] w fun e w' => e = .returned (.int .i64 r) ∧ Below w.heap.size w w' := by
 have hu30 := Tryz.underlying30
 have hu23 := Tryz.underlying23
 have HR0_6 := mk0 hr0_6
 have HC0_6 := mk0 hc0_6
 clear hr0_6 hc0_6
 have HB := mk0 (Below.refl w.heap.size w)
 have H : ((metrolabref30_Check.f k a0_0 a0_1 a0_2 a0_3 a0_4 a0_5 l0_6).bind fun t418 => (if t418 = 0 then ((metrolabref07_RightSpot.f a1_0 a1_1 a1_2).bind fun t419 => (if t419 = true then (some 0) else (some 2))) else (some t418))) = some r := h
 clear h
 replace H := Option.bind_eq_some_iff.mp H
 obtain ⟨t418, A30, H⟩ := H
 replace H : (if t418 = 0 then ((metrolabref07_RightSpot.f a1_0 a1_1 a1_2).bind fun t419 => (if t419 = true then (some 0) else (some 2))) else (some t418)) = some r := H
 have A3 := mk0 A30
 clear A30
 by_cases c4 : t418 = 0
 ·rw [if_pos c4] at H
  have c4b0 : (t418 == 0) = true := beq_iff_eq.mpr c4
  have c4b1 : (t418 != 0) = false := bne_eq_false_iff_eq.mpr c4
  clear c4
  replace H := Option.bind_eq_some_iff.mp H
  obtain ⟨t419, A50, H⟩ := H
  replace H : (if t419 = true then (some 0) else (some 2)) = some r := H
  have A5 := mk0 A50
  clear A50
  by_cases c6 : t419 = true
  ·subst c6
   have H1 : (some 0) = some r := by rw [if_pos rfl] at H; exact H
   clear H
   have H := H1
   clear H1
   obtain rfl := Option.some.inj H
   go_enter Tryz.func40, Tryz.ntmps40
   go_wp2_with (first | ((with_reducible refine gate_dst (N := 2) rfl ?_); refine box_event ?hg (N := 2) ?hd (cs := #[.int .i64 a0_0, .int .i64 a0_1, .int .i64 a0_2, .int .i64 a0_3, .int .i64 a0_4, .int .i64 a0_5, .slice A0_6 l0_6.length c0_6]) (t := 30) ?hr ?_; (case hd => rfl); (case hg => rfl); (case hr => first | (go_simp; done) | (go_simp; rfl)); intro gb416 hg w7 hbox hb; have n0_ := mk0 (below_step (wT HB.out) hb); have n1_ := mk0 (hbox); have n2_ := mk0 ((szT HB.out hg)); have n3_ := mk0 ((szT HB.out hg)); clear HB; have HB := n0_; have BK416 := n1_; have GW416 := n2_; have GE416 := n3_; clear n0_ n1_ n2_ n3_; clear hb hbox hg) | ((with_reducible refine gate_dst (N := 3) rfl ?_); refine box_event ?hg (N := 3) ?hd (cs := #[.int .i64 a1_0, .int .i64 a1_1, .int .i64 a1_2]) (t := 23) ?hr ?_; (case hd => rfl); (case hg => rfl); (case hr => first | (go_simp; done) | (go_simp; rfl)); intro gb417 hg w8 hbox hb; have n0_ := mk0 (bbT BK416.out hb); have n1_ := mk0 (below_step (wT HB.out) hb); have n2_ := mk0 (hbox); have n3_ := mk0 ((szT HB.out hg)); have n4_ := mk0 ((szT HB.out hg)); have n5_ := mk0 ((neL BK416.out hg)); have n6_ := mk0 ((neG BK416.out hg)); clear BK416; clear HB; have BK416 := n0_; have HB := n1_; have BK417 := n2_; have GW417 := n3_; have GE417 := n4_; have NB416_417 := n5_; have NB417_416 := n6_; clear n0_ n1_ n2_ n3_ n4_ n5_ n6_; clear hb hbox hg; have hnb9 := NB416_417.out; have hnc9 := NB417_416.out; have X10_0 := ct BK416.out 0; have X10_1 := ct BK416.out 1; have X10_2 := ct BK416.out 2; have X10_3 := ct BK416.out 3; have X10_4 := ct BK416.out 4; have X10_5 := ct BK416.out 5; have X10_6 := ct BK416.out 6; have Y10_0 := blk_frozen BK416.out 0; have Y10_1 := blk_frozen BK416.out 1; have Y10_2 := blk_frozen BK416.out 2; have Y10_3 := blk_frozen BK416.out 3; have Y10_4 := blk_frozen BK416.out 4; have Y10_5 := blk_frozen BK416.out 5; have Y10_6 := blk_frozen BK416.out 6; (try clear BK416 GW416 GE416)) | ((with_reducible refine gate_callee (f := 18) rfl ?_); refine goesL_ (some 7) rfl rfl Tryz.func18 (by kernel_rfl) rfl #[.agg #[.int .i64 a0_0, .int .i64 a0_1, .int .i64 a0_2, .int .i64 a0_3, .int .i64 a0_4, .int .i64 a0_5, .slice A0_6 l0_6.length c0_6]] rfl (by (try simp only [List.map_toArray, List.map_cons, List.map_nil]); first | done | rfl | (simp only [List.length_drop, List.length_take]; rfl)) ?_; (with_reducible refine (metrolabref30_Check.calls k a0_0 a0_1 a0_2 a0_3 a0_4 a0_5 _ _ l0_6 t418 _ ?side1 ?side2 A3.out).mono ?_); (case side1 => repeat (first | exact (Kd.C_below HR0_6.out HB.out) | (with_reducible refine Kd.C_alloc ?_ _) | (with_reducible refine Kd.C_drewN ?_ _) | (with_reducible refine Kd.C_drew ?_))); (case side2 => exact HC0_6.out); rintro e w11 ⟨rfl, hb⟩; refine ⟨_, rfl, ?_⟩; have n0_ := mk0 (bbT BK417.out hb); have n1_ := mk0 (below_step (wT HB.out) hb); clear BK417; clear HB; have BK417 := n0_; have HB := n1_; clear n0_ n1_; (try clear hb); (try clear hb2); (try clear hk); (try clear hi); have X12_0 := ct BK417.out 0; have X12_1 := ct BK417.out 1; have X12_2 := ct BK417.out 2; have Y12_0 := blk_frozen BK417.out 0; have Y12_1 := blk_frozen BK417.out 1; have Y12_2 := blk_frozen BK417.out 2; (try clear BK417 GW417 GE417)) | ((with_reducible refine gate_callee (f := 45) rfl ?_); refine goesL_ (some 12) rfl rfl Tryz.func45 (by kernel_rfl) rfl #[.agg #[.int .i64 a1_0, .int .i64 a1_1, .int .i64 a1_2]] rfl (by (try simp only [List.map_toArray, List.map_cons, List.map_nil]); first | done | rfl | (simp only [List.length_drop, List.length_take]; rfl)) ?_; (with_reducible refine (metrolabref07_RightSpot.calls a1_0 a1_1 a1_2 true _ A5.out).mono ?_); rintro e w13 ⟨rfl, hb⟩; refine ⟨_, rfl, ?_⟩; have n0_ := mk0 (below_step (wT HB.out) hb); clear HB; have HB := n0_; clear n0_; (try clear hb); (try clear hb2); (try clear hk); (try clear hi)))
   go_ret
   exact ⟨eqT, wT HB.out⟩
  ·replace c6 := Bool.eq_false_iff.mpr c6
   subst c6
   have H1 : (some 2) = some r := by rw [if_neg (show ¬ (false = true) by decide)] at H; exact H
   clear H
   have H := H1
   clear H1
   obtain rfl := Option.some.inj H
   go_enter Tryz.func40, Tryz.ntmps40
   go_wp2_with (first | ((with_reducible refine gate_dst (N := 2) rfl ?_); refine box_event ?hg (N := 2) ?hd (cs := #[.int .i64 a0_0, .int .i64 a0_1, .int .i64 a0_2, .int .i64 a0_3, .int .i64 a0_4, .int .i64 a0_5, .slice A0_6 l0_6.length c0_6]) (t := 30) ?hr ?_; (case hd => rfl); (case hg => rfl); (case hr => first | (go_simp; done) | (go_simp; rfl)); intro gb416 hg w14 hbox hb; have n0_ := mk0 (below_step (wT HB.out) hb); have n1_ := mk0 (hbox); have n2_ := mk0 ((szT HB.out hg)); have n3_ := mk0 ((szT HB.out hg)); clear HB; have HB := n0_; have BK416 := n1_; have GW416 := n2_; have GE416 := n3_; clear n0_ n1_ n2_ n3_; clear hb hbox hg) | ((with_reducible refine gate_dst (N := 3) rfl ?_); refine box_event ?hg (N := 3) ?hd (cs := #[.int .i64 a1_0, .int .i64 a1_1, .int .i64 a1_2]) (t := 23) ?hr ?_; (case hd => rfl); (case hg => rfl); (case hr => first | (go_simp; done) | (go_simp; rfl)); intro gb417 hg w15 hbox hb; have n0_ := mk0 (bbT BK416.out hb); have n1_ := mk0 (below_step (wT HB.out) hb); have n2_ := mk0 (hbox); have n3_ := mk0 ((szT HB.out hg)); have n4_ := mk0 ((szT HB.out hg)); have n5_ := mk0 ((neL BK416.out hg)); have n6_ := mk0 ((neG BK416.out hg)); clear BK416; clear HB; have BK416 := n0_; have HB := n1_; have BK417 := n2_; have GW417 := n3_; have GE417 := n4_; have NB416_417 := n5_; have NB417_416 := n6_; clear n0_ n1_ n2_ n3_ n4_ n5_ n6_; clear hb hbox hg; have hnb16 := NB416_417.out; have hnc16 := NB417_416.out; have X17_0 := ct BK416.out 0; have X17_1 := ct BK416.out 1; have X17_2 := ct BK416.out 2; have X17_3 := ct BK416.out 3; have X17_4 := ct BK416.out 4; have X17_5 := ct BK416.out 5; have X17_6 := ct BK416.out 6; have Y17_0 := blk_frozen BK416.out 0; have Y17_1 := blk_frozen BK416.out 1; have Y17_2 := blk_frozen BK416.out 2; have Y17_3 := blk_frozen BK416.out 3; have Y17_4 := blk_frozen BK416.out 4; have Y17_5 := blk_frozen BK416.out 5; have Y17_6 := blk_frozen BK416.out 6; (try clear BK416 GW416 GE416)) | ((with_reducible refine gate_callee (f := 18) rfl ?_); refine goesL_ (some 7) rfl rfl Tryz.func18 (by kernel_rfl) rfl #[.agg #[.int .i64 a0_0, .int .i64 a0_1, .int .i64 a0_2, .int .i64 a0_3, .int .i64 a0_4, .int .i64 a0_5, .slice A0_6 l0_6.length c0_6]] rfl (by (try simp only [List.map_toArray, List.map_cons, List.map_nil]); first | done | rfl | (simp only [List.length_drop, List.length_take]; rfl)) ?_; (with_reducible refine (metrolabref30_Check.calls k a0_0 a0_1 a0_2 a0_3 a0_4 a0_5 _ _ l0_6 t418 _ ?side1 ?side2 A3.out).mono ?_); (case side1 => repeat (first | exact (Kd.C_below HR0_6.out HB.out) | (with_reducible refine Kd.C_alloc ?_ _) | (with_reducible refine Kd.C_drewN ?_ _) | (with_reducible refine Kd.C_drew ?_))); (case side2 => exact HC0_6.out); rintro e w18 ⟨rfl, hb⟩; refine ⟨_, rfl, ?_⟩; have n0_ := mk0 (bbT BK417.out hb); have n1_ := mk0 (below_step (wT HB.out) hb); clear BK417; clear HB; have BK417 := n0_; have HB := n1_; clear n0_ n1_; (try clear hb); (try clear hb2); (try clear hk); (try clear hi); have X19_0 := ct BK417.out 0; have X19_1 := ct BK417.out 1; have X19_2 := ct BK417.out 2; have Y19_0 := blk_frozen BK417.out 0; have Y19_1 := blk_frozen BK417.out 1; have Y19_2 := blk_frozen BK417.out 2; (try clear BK417 GW417 GE417)) | ((with_reducible refine gate_callee (f := 45) rfl ?_); refine goesL_ (some 12) rfl rfl Tryz.func45 (by kernel_rfl) rfl #[.agg #[.int .i64 a1_0, .int .i64 a1_1, .int .i64 a1_2]] rfl (by (try simp only [List.map_toArray, List.map_cons, List.map_nil]); first | done | rfl | (simp only [List.length_drop, List.length_take]; rfl)) ?_; (with_reducible refine (metrolabref07_RightSpot.calls a1_0 a1_1 a1_2 false _ A5.out).mono ?_); rintro e w20 ⟨rfl, hb⟩; refine ⟨_, rfl, ?_⟩; have n0_ := mk0 (below_step (wT HB.out) hb); clear HB; have HB := n0_; clear n0_; (try clear hb); (try clear hb2); (try clear hk); (try clear hi)))
   go_ret
   exact ⟨eqT, wT HB.out⟩
 ·rw [if_neg c4] at H
  have c4b0 : (t418 == 0) = false := beq_eq_false_iff_ne.mpr c4
  have c4b1 : (t418 != 0) = true := bne_iff_ne.mpr c4
  obtain rfl := Option.some.inj H
  go_enter Tryz.func40, Tryz.ntmps40
  go_wp2_with (first | ((with_reducible refine gate_dst (N := 2) rfl ?_); refine box_event ?hg (N := 2) ?hd (cs := #[.int .i64 a0_0, .int .i64 a0_1, .int .i64 a0_2, .int .i64 a0_3, .int .i64 a0_4, .int .i64 a0_5, .slice A0_6 l0_6.length c0_6]) (t := 30) ?hr ?_; (case hd => rfl); (case hg => rfl); (case hr => first | (go_simp; done) | (go_simp; rfl)); intro gb416 hg w21 hbox hb; have n0_ := mk0 (below_step (wT HB.out) hb); have n1_ := mk0 (hbox); have n2_ := mk0 ((szT HB.out hg)); have n3_ := mk0 ((szT HB.out hg)); clear HB; have HB := n0_; have BK416 := n1_; have GW416 := n2_; have GE416 := n3_; clear n0_ n1_ n2_ n3_; clear hb hbox hg) | ((with_reducible refine gate_dst (N := 3) rfl ?_); refine box_event ?hg (N := 3) ?hd (cs := #[.int .i64 a1_0, .int .i64 a1_1, .int .i64 a1_2]) (t := 23) ?hr ?_; (case hd => rfl); (case hg => rfl); (case hr => first | (go_simp; done) | (go_simp; rfl)); intro gb417 hg w22 hbox hb; have n0_ := mk0 (bbT BK416.out hb); have n1_ := mk0 (below_step (wT HB.out) hb); have n2_ := mk0 (hbox); have n3_ := mk0 ((szT HB.out hg)); have n4_ := mk0 ((szT HB.out hg)); have n5_ := mk0 ((neL BK416.out hg)); have n6_ := mk0 ((neG BK416.out hg)); clear BK416; clear HB; have BK416 := n0_; have HB := n1_; have BK417 := n2_; have GW417 := n3_; have GE417 := n4_; have NB416_417 := n5_; have NB417_416 := n6_; clear n0_ n1_ n2_ n3_ n4_ n5_ n6_; clear hb hbox hg; (try clear BK417 GW417 GE417); have X23_0 := ct BK416.out 0; have X23_1 := ct BK416.out 1; have X23_2 := ct BK416.out 2; have X23_3 := ct BK416.out 3; have X23_4 := ct BK416.out 4; have X23_5 := ct BK416.out 5; have X23_6 := ct BK416.out 6; have Y23_0 := blk_frozen BK416.out 0; have Y23_1 := blk_frozen BK416.out 1; have Y23_2 := blk_frozen BK416.out 2; have Y23_3 := blk_frozen BK416.out 3; have Y23_4 := blk_frozen BK416.out 4; have Y23_5 := blk_frozen BK416.out 5; have Y23_6 := blk_frozen BK416.out 6; (try clear BK416 GW416 GE416)) | ((with_reducible refine gate_callee (f := 18) rfl ?_); refine goesL_ (some 7) rfl rfl Tryz.func18 (by kernel_rfl) rfl #[.agg #[.int .i64 a0_0, .int .i64 a0_1, .int .i64 a0_2, .int .i64 a0_3, .int .i64 a0_4, .int .i64 a0_5, .slice A0_6 l0_6.length c0_6]] rfl (by (try simp only [List.map_toArray, List.map_cons, List.map_nil]); first | done | rfl | (simp only [List.length_drop, List.length_take]; rfl)) ?_; (with_reducible refine (metrolabref30_Check.calls k a0_0 a0_1 a0_2 a0_3 a0_4 a0_5 _ _ l0_6 t418 _ ?side1 ?side2 A3.out).mono ?_); (case side1 => repeat (first | exact (Kd.C_below HR0_6.out HB.out) | (with_reducible refine Kd.C_alloc ?_ _) | (with_reducible refine Kd.C_drewN ?_ _) | (with_reducible refine Kd.C_drew ?_))); (case side2 => exact HC0_6.out); rintro e w24 ⟨rfl, hb⟩; refine ⟨_, rfl, ?_⟩; have n0_ := mk0 (below_step (wT HB.out) hb); clear HB; have HB := n0_; clear n0_; (try clear hb); (try clear hb2); (try clear hk); (try clear hi)))
  go_ret
  exact ⟨eqT, wT HB.out⟩
def metrolabref30_inside.f (a0_0 : Int) (a0_1 : Int) (a0_2 : Int) (a0_3 : Int) (a0_4 : Int) (a0_5 : Int) (l0_6 : List (S92)) (a1_0 : Int) (a1_1 : Int) (a1_2 : Int) : Option (Bool) := if a1_0 ≥ a0_0 then (if a1_0 ≤ a0_3 then (if a1_1 ≥ a0_1 then (if a1_1 ≤ a0_4 then (if a1_2 ≥ a0_2 then (some (decide (a1_2 ≤ a0_5))) else (some false)) else (some false)) else (some false)) else (some false)) else (some false)
theorem metrolabref30_inside.calls (a0_0 : Int) (a0_1 : Int) (a0_2 : Int) (a0_3 : Int) (a0_4 : Int) (a0_5 : Int) (A0_6 : Option Addr) (c0_6 : Nat) (l0_6 : List (S92)) (a1_0 : Int) (a1_1 : Int) (a1_2 : Int) (r : Bool) (w : World) (hr0_6 : Kd.C k92 w A0_6 l0_6.length l0_6) (hc0_6 : l0_6.length ≤ c0_6) (h : metrolabref30_inside.f a0_0 a0_1 a0_2 a0_3 a0_4 a0_5 l0_6 a1_0 a1_1 a1_2 = some r) :
  Calls Tryz.prog 67 #[.agg #[.int .i64 a0_0, .int .i64 a0_1, .int .i64 a0_2, .int .i64 a0_3, .int .i64 a0_4, .int .i64 a0_5, .slice A0_6 l0_6.length c0_6], .agg #[.int .i64 a1_0, .int .i64 a1_1, .int .i64 a1_2]] w fun e w' => e = .returned (.bool r) ∧ Below w.heap.size w w' := by
 have hu30 := Tryz.underlying30
 have hu23 := Tryz.underlying23
 have HR0_6 := mk0 hr0_6
 have HC0_6 := mk0 hc0_6
 clear hr0_6 hc0_6
 have HB := mk0 (Below.refl w.heap.size w)
 have H : (if a1_0 ≥ a0_0 then (if a1_0 ≤ a0_3 then (if a1_1 ≥ a0_1 then (if a1_1 ≤ a0_4 then (if a1_2 ≥ a0_2 then (some (decide (a1_2 ≤ a0_5))) else (some false)) else (some false)) else (some false)) else (some false)) else (some false)) = some r := h
 clear h
 by_cases c3 : a1_0 ≥ a0_0
 ·rw [if_pos c3] at H
  have c3b0 : decide (a0_0 ≤ a1_0) = true := decide_eq_true c3
  clear c3
  by_cases c4 : a1_0 ≤ a0_3
  ·rw [if_pos c4] at H
   have c4b0 : decide (a1_0 ≤ a0_3) = true := decide_eq_true c4
   clear c4
   by_cases c5 : a1_1 ≥ a0_1
   ·rw [if_pos c5] at H
    have c5b0 : decide (a0_1 ≤ a1_1) = true := decide_eq_true c5
    clear c5
    by_cases c6 : a1_1 ≤ a0_4
    ·rw [if_pos c6] at H
     have c6b0 : decide (a1_1 ≤ a0_4) = true := decide_eq_true c6
     clear c6
     by_cases c7 : a1_2 ≥ a0_2
     ·rw [if_pos c7] at H
      have c7b0 : decide (a0_2 ≤ a1_2) = true := decide_eq_true c7
      clear c7
      obtain rfl := Option.some.inj H
      go_enter Tryz.func67, Tryz.ntmps67
      go_wp2_with (first | ((with_reducible refine gate_dst (N := 2) rfl ?_); refine box_event ?hg (N := 2) ?hd (cs := #[.int .i64 a0_0, .int .i64 a0_1, .int .i64 a0_2, .int .i64 a0_3, .int .i64 a0_4, .int .i64 a0_5, .slice A0_6 l0_6.length c0_6]) (t := 30) ?hr ?_; (case hd => rfl); (case hg => rfl); (case hr => first | (go_simp; done) | (go_simp; rfl)); intro gb420 hg w8 hbox hb; have n0_ := mk0 (below_step (wT HB.out) hb); have n1_ := mk0 (hbox); have n2_ := mk0 ((szT HB.out hg)); have n3_ := mk0 ((szT HB.out hg)); clear HB; have HB := n0_; have BK420 := n1_; have GW420 := n2_; have GE420 := n3_; clear n0_ n1_ n2_ n3_; clear hb hbox hg) | ((with_reducible refine gate_dst (N := 3) rfl ?_); refine box_event ?hg (N := 3) ?hd (cs := #[.int .i64 a1_0, .int .i64 a1_1, .int .i64 a1_2]) (t := 23) ?hr ?_; (case hd => rfl); (case hg => rfl); (case hr => first | (go_simp; done) | (go_simp; rfl)); intro gb421 hg w9 hbox hb; have n0_ := mk0 (bbT BK420.out hb); have n1_ := mk0 (below_step (wT HB.out) hb); have n2_ := mk0 (hbox); have n3_ := mk0 ((szT HB.out hg)); have n4_ := mk0 ((szT HB.out hg)); have n5_ := mk0 ((neL BK420.out hg)); have n6_ := mk0 ((neG BK420.out hg)); clear BK420; clear HB; have BK420 := n0_; have HB := n1_; have BK421 := n2_; have GW421 := n3_; have GE421 := n4_; have NB420_421 := n5_; have NB421_420 := n6_; clear n0_ n1_ n2_ n3_ n4_ n5_ n6_; clear hb hbox hg; have hnb10 := NB421_420.out; have hnc10 := NB420_421.out; have X11_0 := ct BK421.out 0; have X11_1 := ct BK421.out 1; have X11_2 := ct BK421.out 2; have Y11_0 := blk_frozen BK421.out 0; have Y11_1 := blk_frozen BK421.out 1; have Y11_2 := blk_frozen BK421.out 2; have X12_0 := ct BK420.out 0; have X12_1 := ct BK420.out 1; have X12_2 := ct BK420.out 2; have X12_3 := ct BK420.out 3; have X12_4 := ct BK420.out 4; have X12_5 := ct BK420.out 5; have X12_6 := ct BK420.out 6; have Y12_0 := blk_frozen BK420.out 0; have Y12_1 := blk_frozen BK420.out 1; have Y12_2 := blk_frozen BK420.out 2; have Y12_3 := blk_frozen BK420.out 3; have Y12_4 := blk_frozen BK420.out 4; have Y12_5 := blk_frozen BK420.out 5; have Y12_6 := blk_frozen BK420.out 6; (try clear BK421 GW421 GE421)))
      go_ret
      exact ⟨eqT, wT HB.out⟩
     ·rw [if_neg c7] at H
      have c7b0 : decide (a0_2 ≤ a1_2) = false := decide_eq_false c7
      clear c7
      obtain rfl := Option.some.inj H
      go_enter Tryz.func67, Tryz.ntmps67
      go_wp2_with (first | ((with_reducible refine gate_dst (N := 2) rfl ?_); refine box_event ?hg (N := 2) ?hd (cs := #[.int .i64 a0_0, .int .i64 a0_1, .int .i64 a0_2, .int .i64 a0_3, .int .i64 a0_4, .int .i64 a0_5, .slice A0_6 l0_6.length c0_6]) (t := 30) ?hr ?_; (case hd => rfl); (case hg => rfl); (case hr => first | (go_simp; done) | (go_simp; rfl)); intro gb420 hg w13 hbox hb; have n0_ := mk0 (below_step (wT HB.out) hb); have n1_ := mk0 (hbox); have n2_ := mk0 ((szT HB.out hg)); have n3_ := mk0 ((szT HB.out hg)); clear HB; have HB := n0_; have BK420 := n1_; have GW420 := n2_; have GE420 := n3_; clear n0_ n1_ n2_ n3_; clear hb hbox hg) | ((with_reducible refine gate_dst (N := 3) rfl ?_); refine box_event ?hg (N := 3) ?hd (cs := #[.int .i64 a1_0, .int .i64 a1_1, .int .i64 a1_2]) (t := 23) ?hr ?_; (case hd => rfl); (case hg => rfl); (case hr => first | (go_simp; done) | (go_simp; rfl)); intro gb421 hg w14 hbox hb; have n0_ := mk0 (bbT BK420.out hb); have n1_ := mk0 (below_step (wT HB.out) hb); have n2_ := mk0 (hbox); have n3_ := mk0 ((szT HB.out hg)); have n4_ := mk0 ((szT HB.out hg)); have n5_ := mk0 ((neL BK420.out hg)); have n6_ := mk0 ((neG BK420.out hg)); clear BK420; clear HB; have BK420 := n0_; have HB := n1_; have BK421 := n2_; have GW421 := n3_; have GE421 := n4_; have NB420_421 := n5_; have NB421_420 := n6_; clear n0_ n1_ n2_ n3_ n4_ n5_ n6_; clear hb hbox hg; have hnb15 := NB421_420.out; have hnc15 := NB420_421.out; have X16_0 := ct BK421.out 0; have X16_1 := ct BK421.out 1; have X16_2 := ct BK421.out 2; have Y16_0 := blk_frozen BK421.out 0; have Y16_1 := blk_frozen BK421.out 1; have Y16_2 := blk_frozen BK421.out 2; have X17_0 := ct BK420.out 0; have X17_1 := ct BK420.out 1; have X17_2 := ct BK420.out 2; have X17_3 := ct BK420.out 3; have X17_4 := ct BK420.out 4; have X17_5 := ct BK420.out 5; have X17_6 := ct BK420.out 6; have Y17_0 := blk_frozen BK420.out 0; have Y17_1 := blk_frozen BK420.out 1; have Y17_2 := blk_frozen BK420.out 2; have Y17_3 := blk_frozen BK420.out 3; have Y17_4 := blk_frozen BK420.out 4; have Y17_5 := blk_frozen BK420.out 5; have Y17_6 := blk_frozen BK420.out 6; (try clear BK421 GW421 GE421)))
      go_ret
      exact ⟨eqT, wT HB.out⟩
    ·rw [if_neg c6] at H
     have c6b0 : decide (a1_1 ≤ a0_4) = false := decide_eq_false c6
     clear c6
     obtain rfl := Option.some.inj H
     go_enter Tryz.func67, Tryz.ntmps67
     go_wp2_with (first | ((with_reducible refine gate_dst (N := 2) rfl ?_); refine box_event ?hg (N := 2) ?hd (cs := #[.int .i64 a0_0, .int .i64 a0_1, .int .i64 a0_2, .int .i64 a0_3, .int .i64 a0_4, .int .i64 a0_5, .slice A0_6 l0_6.length c0_6]) (t := 30) ?hr ?_; (case hd => rfl); (case hg => rfl); (case hr => first | (go_simp; done) | (go_simp; rfl)); intro gb420 hg w18 hbox hb; have n0_ := mk0 (below_step (wT HB.out) hb); have n1_ := mk0 (hbox); have n2_ := mk0 ((szT HB.out hg)); have n3_ := mk0 ((szT HB.out hg)); clear HB; have HB := n0_; have BK420 := n1_; have GW420 := n2_; have GE420 := n3_; clear n0_ n1_ n2_ n3_; clear hb hbox hg) | ((with_reducible refine gate_dst (N := 3) rfl ?_); refine box_event ?hg (N := 3) ?hd (cs := #[.int .i64 a1_0, .int .i64 a1_1, .int .i64 a1_2]) (t := 23) ?hr ?_; (case hd => rfl); (case hg => rfl); (case hr => first | (go_simp; done) | (go_simp; rfl)); intro gb421 hg w19 hbox hb; have n0_ := mk0 (bbT BK420.out hb); have n1_ := mk0 (below_step (wT HB.out) hb); have n2_ := mk0 (hbox); have n3_ := mk0 ((szT HB.out hg)); have n4_ := mk0 ((szT HB.out hg)); have n5_ := mk0 ((neL BK420.out hg)); have n6_ := mk0 ((neG BK420.out hg)); clear BK420; clear HB; have BK420 := n0_; have HB := n1_; have BK421 := n2_; have GW421 := n3_; have GE421 := n4_; have NB420_421 := n5_; have NB421_420 := n6_; clear n0_ n1_ n2_ n3_ n4_ n5_ n6_; clear hb hbox hg; have hnb20 := NB421_420.out; have hnc20 := NB420_421.out; have X21_0 := ct BK421.out 0; have X21_1 := ct BK421.out 1; have X21_2 := ct BK421.out 2; have Y21_0 := blk_frozen BK421.out 0; have Y21_1 := blk_frozen BK421.out 1; have Y21_2 := blk_frozen BK421.out 2; have X22_0 := ct BK420.out 0; have X22_1 := ct BK420.out 1; have X22_2 := ct BK420.out 2; have X22_3 := ct BK420.out 3; have X22_4 := ct BK420.out 4; have X22_5 := ct BK420.out 5; have X22_6 := ct BK420.out 6; have Y22_0 := blk_frozen BK420.out 0; have Y22_1 := blk_frozen BK420.out 1; have Y22_2 := blk_frozen BK420.out 2; have Y22_3 := blk_frozen BK420.out 3; have Y22_4 := blk_frozen BK420.out 4; have Y22_5 := blk_frozen BK420.out 5; have Y22_6 := blk_frozen BK420.out 6; (try clear BK421 GW421 GE421)))
     go_ret
     exact ⟨eqT, wT HB.out⟩
   ·rw [if_neg c5] at H
    have c5b0 : decide (a0_1 ≤ a1_1) = false := decide_eq_false c5
    clear c5
    obtain rfl := Option.some.inj H
    go_enter Tryz.func67, Tryz.ntmps67
    go_wp2_with (first | ((with_reducible refine gate_dst (N := 2) rfl ?_); refine box_event ?hg (N := 2) ?hd (cs := #[.int .i64 a0_0, .int .i64 a0_1, .int .i64 a0_2, .int .i64 a0_3, .int .i64 a0_4, .int .i64 a0_5, .slice A0_6 l0_6.length c0_6]) (t := 30) ?hr ?_; (case hd => rfl); (case hg => rfl); (case hr => first | (go_simp; done) | (go_simp; rfl)); intro gb420 hg w23 hbox hb; have n0_ := mk0 (below_step (wT HB.out) hb); have n1_ := mk0 (hbox); have n2_ := mk0 ((szT HB.out hg)); have n3_ := mk0 ((szT HB.out hg)); clear HB; have HB := n0_; have BK420 := n1_; have GW420 := n2_; have GE420 := n3_; clear n0_ n1_ n2_ n3_; clear hb hbox hg) | ((with_reducible refine gate_dst (N := 3) rfl ?_); refine box_event ?hg (N := 3) ?hd (cs := #[.int .i64 a1_0, .int .i64 a1_1, .int .i64 a1_2]) (t := 23) ?hr ?_; (case hd => rfl); (case hg => rfl); (case hr => first | (go_simp; done) | (go_simp; rfl)); intro gb421 hg w24 hbox hb; have n0_ := mk0 (bbT BK420.out hb); have n1_ := mk0 (below_step (wT HB.out) hb); have n2_ := mk0 (hbox); have n3_ := mk0 ((szT HB.out hg)); have n4_ := mk0 ((szT HB.out hg)); have n5_ := mk0 ((neL BK420.out hg)); have n6_ := mk0 ((neG BK420.out hg)); clear BK420; clear HB; have BK420 := n0_; have HB := n1_; have BK421 := n2_; have GW421 := n3_; have GE421 := n4_; have NB420_421 := n5_; have NB421_420 := n6_; clear n0_ n1_ n2_ n3_ n4_ n5_ n6_; clear hb hbox hg; have hnb25 := NB421_420.out; have hnc25 := NB420_421.out; have X26_0 := ct BK421.out 0; have X26_1 := ct BK421.out 1; have X26_2 := ct BK421.out 2; have Y26_0 := blk_frozen BK421.out 0; have Y26_1 := blk_frozen BK421.out 1; have Y26_2 := blk_frozen BK421.out 2; have X27_0 := ct BK420.out 0; have X27_1 := ct BK420.out 1; have X27_2 := ct BK420.out 2; have X27_3 := ct BK420.out 3; have X27_4 := ct BK420.out 4; have X27_5 := ct BK420.out 5; have X27_6 := ct BK420.out 6; have Y27_0 := blk_frozen BK420.out 0; have Y27_1 := blk_frozen BK420.out 1; have Y27_2 := blk_frozen BK420.out 2; have Y27_3 := blk_frozen BK420.out 3; have Y27_4 := blk_frozen BK420.out 4; have Y27_5 := blk_frozen BK420.out 5; have Y27_6 := blk_frozen BK420.out 6; (try clear BK421 GW421 GE421)))
    go_ret
    exact ⟨eqT, wT HB.out⟩
  ·rw [if_neg c4] at H
   have c4b0 : decide (a1_0 ≤ a0_3) = false := decide_eq_false c4
   clear c4
   obtain rfl := Option.some.inj H
   go_enter Tryz.func67, Tryz.ntmps67
   go_wp2_with (first | ((with_reducible refine gate_dst (N := 2) rfl ?_); refine box_event ?hg (N := 2) ?hd (cs := #[.int .i64 a0_0, .int .i64 a0_1, .int .i64 a0_2, .int .i64 a0_3, .int .i64 a0_4, .int .i64 a0_5, .slice A0_6 l0_6.length c0_6]) (t := 30) ?hr ?_; (case hd => rfl); (case hg => rfl); (case hr => first | (go_simp; done) | (go_simp; rfl)); intro gb420 hg w28 hbox hb; have n0_ := mk0 (below_step (wT HB.out) hb); have n1_ := mk0 (hbox); have n2_ := mk0 ((szT HB.out hg)); have n3_ := mk0 ((szT HB.out hg)); clear HB; have HB := n0_; have BK420 := n1_; have GW420 := n2_; have GE420 := n3_; clear n0_ n1_ n2_ n3_; clear hb hbox hg) | ((with_reducible refine gate_dst (N := 3) rfl ?_); refine box_event ?hg (N := 3) ?hd (cs := #[.int .i64 a1_0, .int .i64 a1_1, .int .i64 a1_2]) (t := 23) ?hr ?_; (case hd => rfl); (case hg => rfl); (case hr => first | (go_simp; done) | (go_simp; rfl)); intro gb421 hg w29 hbox hb; have n0_ := mk0 (bbT BK420.out hb); have n1_ := mk0 (below_step (wT HB.out) hb); have n2_ := mk0 (hbox); have n3_ := mk0 ((szT HB.out hg)); have n4_ := mk0 ((szT HB.out hg)); have n5_ := mk0 ((neL BK420.out hg)); have n6_ := mk0 ((neG BK420.out hg)); clear BK420; clear HB; have BK420 := n0_; have HB := n1_; have BK421 := n2_; have GW421 := n3_; have GE421 := n4_; have NB420_421 := n5_; have NB421_420 := n6_; clear n0_ n1_ n2_ n3_ n4_ n5_ n6_; clear hb hbox hg; have hnb30 := NB421_420.out; have hnc30 := NB420_421.out; have X31_0 := ct BK421.out 0; have X31_1 := ct BK421.out 1; have X31_2 := ct BK421.out 2; have Y31_0 := blk_frozen BK421.out 0; have Y31_1 := blk_frozen BK421.out 1; have Y31_2 := blk_frozen BK421.out 2; have X32_0 := ct BK420.out 0; have X32_1 := ct BK420.out 1; have X32_2 := ct BK420.out 2; have X32_3 := ct BK420.out 3; have X32_4 := ct BK420.out 4; have X32_5 := ct BK420.out 5; have X32_6 := ct BK420.out 6; have Y32_0 := blk_frozen BK420.out 0; have Y32_1 := blk_frozen BK420.out 1; have Y32_2 := blk_frozen BK420.out 2; have Y32_3 := blk_frozen BK420.out 3; have Y32_4 := blk_frozen BK420.out 4; have Y32_5 := blk_frozen BK420.out 5; have Y32_6 := blk_frozen BK420.out 6; (try clear BK421 GW421 GE421)))
   go_ret
   exact ⟨eqT, wT HB.out⟩
 ·rw [if_neg c3] at H
  have c3b0 : decide (a0_0 ≤ a1_0) = false := decide_eq_false c3
  clear c3
  obtain rfl := Option.some.inj H
  go_enter Tryz.func67, Tryz.ntmps67
  go_wp2_with (first | ((with_reducible refine gate_dst (N := 2) rfl ?_); refine box_event ?hg (N := 2) ?hd (cs := #[.int .i64 a0_0, .int .i64 a0_1, .int .i64 a0_2, .int .i64 a0_3, .int .i64 a0_4, .int .i64 a0_5, .slice A0_6 l0_6.length c0_6]) (t := 30) ?hr ?_; (case hd => rfl); (case hg => rfl); (case hr => first | (go_simp; done) | (go_simp; rfl)); intro gb420 hg w33 hbox hb; have n0_ := mk0 (below_step (wT HB.out) hb); have n1_ := mk0 (hbox); have n2_ := mk0 ((szT HB.out hg)); have n3_ := mk0 ((szT HB.out hg)); clear HB; have HB := n0_; have BK420 := n1_; have GW420 := n2_; have GE420 := n3_; clear n0_ n1_ n2_ n3_; clear hb hbox hg) | ((with_reducible refine gate_dst (N := 3) rfl ?_); refine box_event ?hg (N := 3) ?hd (cs := #[.int .i64 a1_0, .int .i64 a1_1, .int .i64 a1_2]) (t := 23) ?hr ?_; (case hd => rfl); (case hg => rfl); (case hr => first | (go_simp; done) | (go_simp; rfl)); intro gb421 hg w34 hbox hb; have n0_ := mk0 (bbT BK420.out hb); have n1_ := mk0 (below_step (wT HB.out) hb); have n2_ := mk0 (hbox); have n3_ := mk0 ((szT HB.out hg)); have n4_ := mk0 ((szT HB.out hg)); have n5_ := mk0 ((neL BK420.out hg)); have n6_ := mk0 ((neG BK420.out hg)); clear BK420; clear HB; have BK420 := n0_; have HB := n1_; have BK421 := n2_; have GW421 := n3_; have GE421 := n4_; have NB420_421 := n5_; have NB421_420 := n6_; clear n0_ n1_ n2_ n3_ n4_ n5_ n6_; clear hb hbox hg; have hnb35 := NB421_420.out; have hnc35 := NB420_421.out; have X36_0 := ct BK421.out 0; have X36_1 := ct BK421.out 1; have X36_2 := ct BK421.out 2; have Y36_0 := blk_frozen BK421.out 0; have Y36_1 := blk_frozen BK421.out 1; have Y36_2 := blk_frozen BK421.out 2; (try clear BK421 GW421 GE421); have X37_0 := ct BK420.out 0; have X37_1 := ct BK420.out 1; have X37_2 := ct BK420.out 2; have X37_3 := ct BK420.out 3; have X37_4 := ct BK420.out 4; have X37_5 := ct BK420.out 5; have X37_6 := ct BK420.out 6; have Y37_0 := blk_frozen BK420.out 0; have Y37_1 := blk_frozen BK420.out 1; have Y37_2 := blk_frozen BK420.out 2; have Y37_3 := blk_frozen BK420.out 3; have Y37_4 := blk_frozen BK420.out 4; have Y37_5 := blk_frozen BK420.out 5; have Y37_6 := blk_frozen BK420.out 6))
  go_ret
  exact ⟨eqT, wT HB.out⟩
def metrolabref30_across.f (a0_0 : Int) (a0_1 : Int) (a0_2 : Int) (a1 : Int) : Option (Int × Int) := if a1 = 0 then (some (a0_1, a0_2)) else (if a1 = 1 then (some (a0_0, a0_2)) else (some (a0_0, a0_1)))
theorem metrolabref30_across.calls (a0_0 : Int) (a0_1 : Int) (a0_2 : Int) (a1 : Int) (r1 : Int) (r2 : Int) (w : World) (h : metrolabref30_across.f a0_0 a0_1 a0_2 a1 = some (r1, r2)) :
  Calls Tryz.prog 89 #[.agg #[.int .i64 a0_0, .int .i64 a0_1, .int .i64 a0_2], .int .i64 a1] w fun e w' => e = .returned (.agg #[.int .i64 r1, .int .i64 r2]) ∧ Below w.heap.size w w' := by
 have hu23 := Tryz.underlying23
 have hu81 := Tryz.underlying81
 have HB := mk0 (Below.refl w.heap.size w)
 have H : (if a1 = 0 then (some (a0_1, a0_2)) else (if a1 = 1 then (some (a0_0, a0_2)) else (some (a0_0, a0_1)))) = some (r1, r2) := h
 clear h
 by_cases c3 : a1 = 0
 ·rw [if_pos c3] at H
  have c3b0 : (a1 == 0) = true := beq_iff_eq.mpr c3
  have c3b1 : (a1 != 0) = false := bne_eq_false_iff_eq.mpr c3
  clear c3
  simp only [Option.some.injEq, Prod.mk.injEq] at H
  obtain ⟨rfl, rfl⟩ := H
  go_enter Tryz.func89, Tryz.ntmps89
  go_wp2_with (first | ((with_reducible refine gate_dst (N := 2) rfl ?_); refine box_event ?hg (N := 2) ?hd (cs := #[.int .i64 a0_0, .int .i64 a0_1, .int .i64 a0_2]) (t := 23) ?hr ?_; (case hd => rfl); (case hg => rfl); (case hr => first | (go_simp; done) | (go_simp; rfl)); intro gb422 hg w4 hbox hb; have n0_ := mk0 (below_step (wT HB.out) hb); have n1_ := mk0 (hbox); have n2_ := mk0 ((szT HB.out hg)); have n3_ := mk0 ((szT HB.out hg)); clear HB; have HB := n0_; have BK422 := n1_; have GW422 := n2_; have GE422 := n3_; clear n0_ n1_ n2_ n3_; clear hb hbox hg) | ((with_reducible refine gate_dst (N := 4) rfl ?_); refine box_event ?hg (N := 4) ?hd (cs := #[.int .i64 0, .int .i64 0]) (t := 81) ?hr ?_; (case hd => rfl); (case hg => rfl); (case hr => first | (go_simp; done) | (go_simp; rfl)); intro gb423 hg w5 hbox hb; have n0_ := mk0 (bbT BK422.out hb); have n1_ := mk0 (below_step (wT HB.out) hb); have n2_ := mk0 (hbox); have n3_ := mk0 ((szT HB.out hg)); have n4_ := mk0 ((szT HB.out hg)); have n5_ := mk0 ((neL BK422.out hg)); have n6_ := mk0 ((neG BK422.out hg)); clear BK422; clear HB; have BK422 := n0_; have HB := n1_; have BK423 := n2_; have GW423 := n3_; have GE423 := n4_; have NB422_423 := n5_; have NB423_422 := n6_; clear n0_ n1_ n2_ n3_ n4_ n5_ n6_; clear hb hbox hg; have hnb6 := NB422_423.out; have hnc6 := NB423_422.out; have X7_0 := ct BK422.out 0; have X7_1 := ct BK422.out 1; have X7_2 := ct BK422.out 2; have Y7_0 := blk_frozen BK422.out 0; have Y7_1 := blk_frozen BK422.out 1; have Y7_2 := blk_frozen BK422.out 2; (try clear BK422 GW422 GE422); have X8_0 := ct BK423.out 0; have X8_1 := ct BK423.out 1; have Y8_0 := blk_frozen BK423.out 0; have Y8_1 := blk_frozen BK423.out 1))
  refine bodyPost_ret (results_cell_row rfl _ _ gb423 81 #[.int .i64 a0_1, .int .i64 a0_2] (0, 0) _ rfl (by (with_reducible repeat (first | refine blk_drewN ?_ _ | refine blk_drew ?_ | refine blk_alloc ?_ _)); refine blk_put (cs := #[.int .i64 a0_1, .int .i64 0]) ?_ 1 _ rfl; refine blk_put (cs := #[.int .i64 0, .int .i64 0]) ?_ 0 _ rfl; (with_reducible repeat (first | refine blk_drewN ?_ _ | refine blk_drew ?_ | refine blk_alloc ?_ _)); exact BK423.out) Tryz.underlying81 rfl (by kernel_rfl)) rfl ?_
  exact ⟨eqT, by repeat (first | (with_reducible first | exact HB.out | apply below_alloc | apply pw_below_drewN | apply below_drew1 | refine below_set ?_ GE423.out) | exact HB.out)⟩
 ·rw [if_neg c3] at H
  have c3b0 : (a1 == 0) = false := beq_eq_false_iff_ne.mpr c3
  have c3b1 : (a1 != 0) = true := bne_iff_ne.mpr c3
  by_cases c9 : a1 = 1
  ·rw [if_pos c9] at H
   have c9b0 : (a1 == 1) = true := beq_iff_eq.mpr c9
   have c9b1 : (a1 != 1) = false := bne_eq_false_iff_eq.mpr c9
   clear c9
   simp only [Option.some.injEq, Prod.mk.injEq] at H
   obtain ⟨rfl, rfl⟩ := H
   go_enter Tryz.func89, Tryz.ntmps89
   go_wp2_with (first | ((with_reducible refine gate_dst (N := 2) rfl ?_); refine box_event ?hg (N := 2) ?hd (cs := #[.int .i64 a0_0, .int .i64 a0_1, .int .i64 a0_2]) (t := 23) ?hr ?_; (case hd => rfl); (case hg => rfl); (case hr => first | (go_simp; done) | (go_simp; rfl)); intro gb422 hg w10 hbox hb; have n0_ := mk0 (below_step (wT HB.out) hb); have n1_ := mk0 (hbox); have n2_ := mk0 ((szT HB.out hg)); have n3_ := mk0 ((szT HB.out hg)); clear HB; have HB := n0_; have BK422 := n1_; have GW422 := n2_; have GE422 := n3_; clear n0_ n1_ n2_ n3_; clear hb hbox hg) | ((with_reducible refine gate_dst (N := 4) rfl ?_); refine box_event ?hg (N := 4) ?hd (cs := #[.int .i64 0, .int .i64 0]) (t := 81) ?hr ?_; (case hd => rfl); (case hg => rfl); (case hr => first | (go_simp; done) | (go_simp; rfl)); intro gb423 hg w11 hbox hb; have n0_ := mk0 (bbT BK422.out hb); have n1_ := mk0 (below_step (wT HB.out) hb); have n2_ := mk0 (hbox); have n3_ := mk0 ((szT HB.out hg)); have n4_ := mk0 ((szT HB.out hg)); have n5_ := mk0 ((neL BK422.out hg)); have n6_ := mk0 ((neG BK422.out hg)); clear BK422; clear HB; have BK422 := n0_; have HB := n1_; have BK423 := n2_; have GW423 := n3_; have GE423 := n4_; have NB422_423 := n5_; have NB423_422 := n6_; clear n0_ n1_ n2_ n3_ n4_ n5_ n6_; clear hb hbox hg; have hnb12 := NB422_423.out; have hnc12 := NB423_422.out; have X13_0 := ct BK422.out 0; have X13_1 := ct BK422.out 1; have X13_2 := ct BK422.out 2; have Y13_0 := blk_frozen BK422.out 0; have Y13_1 := blk_frozen BK422.out 1; have Y13_2 := blk_frozen BK422.out 2; (try clear BK422 GW422 GE422); have X14_0 := ct BK423.out 0; have X14_1 := ct BK423.out 1; have Y14_0 := blk_frozen BK423.out 0; have Y14_1 := blk_frozen BK423.out 1))
   refine bodyPost_ret (results_cell_row rfl _ _ gb423 81 #[.int .i64 a0_0, .int .i64 a0_2] (0, 0) _ rfl (by (with_reducible repeat (first | refine blk_drewN ?_ _ | refine blk_drew ?_ | refine blk_alloc ?_ _)); refine blk_put (cs := #[.int .i64 a0_0, .int .i64 0]) ?_ 1 _ rfl; refine blk_put (cs := #[.int .i64 0, .int .i64 0]) ?_ 0 _ rfl; (with_reducible repeat (first | refine blk_drewN ?_ _ | refine blk_drew ?_ | refine blk_alloc ?_ _)); exact BK423.out) Tryz.underlying81 rfl (by kernel_rfl)) rfl ?_
   exact ⟨eqT, by repeat (first | (with_reducible first | exact HB.out | apply below_alloc | apply pw_below_drewN | apply below_drew1 | refine below_set ?_ GE423.out) | exact HB.out)⟩
  ·rw [if_neg c9] at H
   have c9b0 : (a1 == 1) = false := beq_eq_false_iff_ne.mpr c9
   have c9b1 : (a1 != 1) = true := bne_iff_ne.mpr c9
   simp only [Option.some.injEq, Prod.mk.injEq] at H
   obtain ⟨rfl, rfl⟩ := H
   go_enter Tryz.func89, Tryz.ntmps89
   go_wp2_with (first | ((with_reducible refine gate_dst (N := 2) rfl ?_); refine box_event ?hg (N := 2) ?hd (cs := #[.int .i64 a0_0, .int .i64 a0_1, .int .i64 a0_2]) (t := 23) ?hr ?_; (case hd => rfl); (case hg => rfl); (case hr => first | (go_simp; done) | (go_simp; rfl)); intro gb422 hg w15 hbox hb; have n0_ := mk0 (below_step (wT HB.out) hb); have n1_ := mk0 (hbox); have n2_ := mk0 ((szT HB.out hg)); have n3_ := mk0 ((szT HB.out hg)); clear HB; have HB := n0_; have BK422 := n1_; have GW422 := n2_; have GE422 := n3_; clear n0_ n1_ n2_ n3_; clear hb hbox hg) | ((with_reducible refine gate_dst (N := 4) rfl ?_); refine box_event ?hg (N := 4) ?hd (cs := #[.int .i64 0, .int .i64 0]) (t := 81) ?hr ?_; (case hd => rfl); (case hg => rfl); (case hr => first | (go_simp; done) | (go_simp; rfl)); intro gb423 hg w16 hbox hb; have n0_ := mk0 (bbT BK422.out hb); have n1_ := mk0 (below_step (wT HB.out) hb); have n2_ := mk0 (hbox); have n3_ := mk0 ((szT HB.out hg)); have n4_ := mk0 ((szT HB.out hg)); have n5_ := mk0 ((neL BK422.out hg)); have n6_ := mk0 ((neG BK422.out hg)); clear BK422; clear HB; have BK422 := n0_; have HB := n1_; have BK423 := n2_; have GW423 := n3_; have GE423 := n4_; have NB422_423 := n5_; have NB423_422 := n6_; clear n0_ n1_ n2_ n3_ n4_ n5_ n6_; clear hb hbox hg; have hnb17 := NB422_423.out; have hnc17 := NB423_422.out; have X18_0 := ct BK422.out 0; have X18_1 := ct BK422.out 1; have X18_2 := ct BK422.out 2; have Y18_0 := blk_frozen BK422.out 0; have Y18_1 := blk_frozen BK422.out 1; have Y18_2 := blk_frozen BK422.out 2; (try clear BK422 GW422 GE422); have X19_0 := ct BK423.out 0; have X19_1 := ct BK423.out 1; have Y19_0 := blk_frozen BK423.out 0; have Y19_1 := blk_frozen BK423.out 1))
   refine bodyPost_ret (results_cell_row rfl _ _ gb423 81 #[.int .i64 a0_0, .int .i64 a0_1] (0, 0) _ rfl (by (with_reducible repeat (first | refine blk_drewN ?_ _ | refine blk_drew ?_ | refine blk_alloc ?_ _)); refine blk_put (cs := #[.int .i64 a0_0, .int .i64 0]) ?_ 1 _ rfl; refine blk_put (cs := #[.int .i64 0, .int .i64 0]) ?_ 0 _ rfl; (with_reducible repeat (first | refine blk_drewN ?_ _ | refine blk_drew ?_ | refine blk_alloc ?_ _)); exact BK423.out) Tryz.underlying81 rfl (by kernel_rfl)) rfl ?_
   exact ⟨eqT, by repeat (first | (with_reducible first | exact HB.out | apply below_alloc | apply pw_below_drewN | apply below_drew1 | refine below_set ?_ GE423.out) | exact HB.out)⟩
def metrolabref30_bored.f (a0_0 : Int) (a0_1 : Int) (a0_2 : Int) (a0_3 : Int) (a1_0 : Int) (a1_1 : Int) (a1_2 : Int) : Option (Bool) := (metrolabref30_across.f a1_0 a1_1 a1_2 a0_0).bind fun bt426 => (some (decide ((wrap64 (4 * (wrap64 ((wrap64 ((wrap64 (bt426.1 - a0_1)) * (wrap64 (bt426.1 - a0_1)))) + (wrap64 ((wrap64 (bt426.2 - a0_2)) * (wrap64 (bt426.2 - a0_2)))))))) < (wrap64 (a0_3 * a0_3)))))
theorem metrolabref30_bored.calls (a0_0 : Int) (a0_1 : Int) (a0_2 : Int) (a0_3 : Int) (a1_0 : Int) (a1_1 : Int) (a1_2 : Int) (r : Bool) (w : World) (h : metrolabref30_bored.f a0_0 a0_1 a0_2 a0_3 a1_0 a1_1 a1_2 = some r) :
  Calls Tryz.prog 68 #[.agg #[.int .i64 a0_0, .int .i64 a0_1, .int .i64 a0_2, .int .i64 a0_3], .agg #[.int .i64 a1_0, .int .i64 a1_1, .int .i64 a1_2]] w fun e w' => e = .returned (.bool r) ∧ Below w.heap.size w w' := by
 have hu92 := Tryz.underlying92
 have hu23 := Tryz.underlying23
 have hu81 := Tryz.underlying81
 have HB := mk0 (Below.refl w.heap.size w)
 have H : ((metrolabref30_across.f a1_0 a1_1 a1_2 a0_0).bind fun bt426 => (some (decide ((wrap64 (4 * (wrap64 ((wrap64 ((wrap64 (bt426.1 - a0_1)) * (wrap64 (bt426.1 - a0_1)))) + (wrap64 ((wrap64 (bt426.2 - a0_2)) * (wrap64 (bt426.2 - a0_2)))))))) < (wrap64 (a0_3 * a0_3)))))) = some r := h
 clear h
 replace H := Option.bind_eq_some_iff.mp H
 obtain ⟨⟨t426, t427⟩, A30, H⟩ := H
 replace H : (some (decide ((wrap64 (4 * (wrap64 ((wrap64 ((wrap64 (t426 - a0_1)) * (wrap64 (t426 - a0_1)))) + (wrap64 ((wrap64 (t427 - a0_2)) * (wrap64 (t427 - a0_2)))))))) < (wrap64 (a0_3 * a0_3))))) = some r := H
 have A3 := mk0 A30
 clear A30
 obtain rfl := Option.some.inj H
 go_enter Tryz.func68, Tryz.ntmps68
 go_wp2_with (first | ((with_reducible refine gate_dst (N := 2) rfl ?_); refine box_event ?hg (N := 2) ?hd (cs := #[.int .i64 a0_0, .int .i64 a0_1, .int .i64 a0_2, .int .i64 a0_3]) (t := 92) ?hr ?_; (case hd => rfl); (case hg => rfl); (case hr => first | (go_simp; done) | (go_simp; rfl)); intro gb424 hg w4 hbox hb; have n0_ := mk0 (below_step (wT HB.out) hb); have n1_ := mk0 (hbox); have n2_ := mk0 ((szT HB.out hg)); have n3_ := mk0 ((szT HB.out hg)); clear HB; have HB := n0_; have BK424 := n1_; have GW424 := n2_; have GE424 := n3_; clear n0_ n1_ n2_ n3_; clear hb hbox hg) | ((with_reducible refine gate_dst (N := 3) rfl ?_); refine box_event ?hg (N := 3) ?hd (cs := #[.int .i64 a1_0, .int .i64 a1_1, .int .i64 a1_2]) (t := 23) ?hr ?_; (case hd => rfl); (case hg => rfl); (case hr => first | (go_simp; done) | (go_simp; rfl)); intro gb425 hg w5 hbox hb; have n0_ := mk0 (bbT BK424.out hb); have n1_ := mk0 (below_step (wT HB.out) hb); have n2_ := mk0 (hbox); have n3_ := mk0 ((szT HB.out hg)); have n4_ := mk0 ((szT HB.out hg)); have n5_ := mk0 ((neL BK424.out hg)); have n6_ := mk0 ((neG BK424.out hg)); clear BK424; clear HB; have BK424 := n0_; have HB := n1_; have BK425 := n2_; have GW425 := n3_; have GE425 := n4_; have NB424_425 := n5_; have NB425_424 := n6_; clear n0_ n1_ n2_ n3_ n4_ n5_ n6_; clear hb hbox hg; have hnb6 := NB425_424.out; have hnc6 := NB424_425.out; have X7_0 := ct BK425.out 0; have X7_1 := ct BK425.out 1; have X7_2 := ct BK425.out 2; have Y7_0 := blk_frozen BK425.out 0; have Y7_1 := blk_frozen BK425.out 1; have Y7_2 := blk_frozen BK425.out 2; (try clear BK425 GW425 GE425); have X8_0 := ct BK424.out 0; have X8_1 := ct BK424.out 1; have X8_2 := ct BK424.out 2; have X8_3 := ct BK424.out 3; have Y8_0 := blk_frozen BK424.out 0; have Y8_1 := blk_frozen BK424.out 1; have Y8_2 := blk_frozen BK424.out 2; have Y8_3 := blk_frozen BK424.out 3) | (go_at_call 89; (with_reducible refine (metrolabref30_across.calls a1_0 a1_1 a1_2 a0_0 t426 t427 _ A3.out).mono ?_); rintro e w9 ⟨rfl, hb⟩; have n0_ := mk0 (bbT BK424.out hb); have n1_ := mk0 (below_step (wT HB.out) hb); clear BK424; clear HB; have BK424 := n0_; have HB := n1_; clear n0_ n1_; (try clear hb); (try clear hb2); (try clear hk); (try clear hi)) | ((with_reducible refine gate_dst (N := 5) rfl ?_); refine box_event ?hg (N := 5) ?hd (cs := #[.int .i64 0, .int .i64 0]) (t := 81) ?hr ?_; (case hd => rfl); (case hg => rfl); (case hr => first | (go_simp; done) | (go_simp; rfl)); intro gb428 hg w10 hbox hb; have n0_ := mk0 (bbT BK424.out hb); have n1_ := mk0 (below_step (wT HB.out) hb); have n2_ := mk0 (hbox); have n3_ := mk0 ((szT HB.out hg)); have n4_ := mk0 ((szT HB.out hg)); have n5_ := mk0 ((neL BK424.out hg)); have n6_ := mk0 ((neG BK424.out hg)); clear BK424; clear HB; have BK424 := n0_; have HB := n1_; have BK428 := n2_; have GW428 := n3_; have GE428 := n4_; have NB424_428 := n5_; have NB428_424 := n6_; clear n0_ n1_ n2_ n3_ n4_ n5_ n6_; clear hb hbox hg; have hnb11 := NB428_424.out; have hnc11 := NB424_428.out; have X12_0 := ct BK428.out 0; have X12_1 := ct BK428.out 1; have Y12_0 := blk_frozen BK428.out 0; have Y12_1 := blk_frozen BK428.out 1; have X13_0 := ct BK424.out 0; have X13_1 := ct BK424.out 1; have X13_2 := ct BK424.out 2; have X13_3 := ct BK424.out 3; have Y13_0 := blk_frozen BK424.out 0; have Y13_1 := blk_frozen BK424.out 1; have Y13_2 := blk_frozen BK424.out 2; have Y13_3 := blk_frozen BK424.out 3))
 repeat (go_quiet (first | ((with_reducible refine gate_dst (N := 2) rfl ?_); refine box_event ?hg (N := 2) ?hd (cs := #[.int .i64 a0_0, .int .i64 a0_1, .int .i64 a0_2, .int .i64 a0_3]) (t := 92) ?hr ?_; (case hd => rfl); (case hg => rfl); (case hr => first | (go_simp; done) | (go_simp; rfl)); intro gb424 hg w4 hbox hb; have n0_ := mk0 (below_step (wT HB.out) hb); have n1_ := mk0 (hbox); have n2_ := mk0 ((szT HB.out hg)); have n3_ := mk0 ((szT HB.out hg)); clear HB; have HB := n0_; have BK424 := n1_; have GW424 := n2_; have GE424 := n3_; clear n0_ n1_ n2_ n3_; clear hb hbox hg) | ((with_reducible refine gate_dst (N := 3) rfl ?_); refine box_event ?hg (N := 3) ?hd (cs := #[.int .i64 a1_0, .int .i64 a1_1, .int .i64 a1_2]) (t := 23) ?hr ?_; (case hd => rfl); (case hg => rfl); (case hr => first | (go_simp; done) | (go_simp; rfl)); intro gb425 hg w5 hbox hb; have n0_ := mk0 (bbT BK424.out hb); have n1_ := mk0 (below_step (wT HB.out) hb); have n2_ := mk0 (hbox); have n3_ := mk0 ((szT HB.out hg)); have n4_ := mk0 ((szT HB.out hg)); have n5_ := mk0 ((neL BK424.out hg)); have n6_ := mk0 ((neG BK424.out hg)); clear BK424; clear HB; have BK424 := n0_; have HB := n1_; have BK425 := n2_; have GW425 := n3_; have GE425 := n4_; have NB424_425 := n5_; have NB425_424 := n6_; clear n0_ n1_ n2_ n3_ n4_ n5_ n6_; clear hb hbox hg; have hnb6 := NB425_424.out; have hnc6 := NB424_425.out; have X7_0 := ct BK425.out 0; have X7_1 := ct BK425.out 1; have X7_2 := ct BK425.out 2; have Y7_0 := blk_frozen BK425.out 0; have Y7_1 := blk_frozen BK425.out 1; have Y7_2 := blk_frozen BK425.out 2; (try clear BK425 GW425 GE425); have X8_0 := ct BK424.out 0; have X8_1 := ct BK424.out 1; have X8_2 := ct BK424.out 2; have X8_3 := ct BK424.out 3; have Y8_0 := blk_frozen BK424.out 0; have Y8_1 := blk_frozen BK424.out 1; have Y8_2 := blk_frozen BK424.out 2; have Y8_3 := blk_frozen BK424.out 3) | (go_at_call 89; (with_reducible refine (metrolabref30_across.calls a1_0 a1_1 a1_2 a0_0 t426 t427 _ A3.out).mono ?_); rintro e w9 ⟨rfl, hb⟩; have n0_ := mk0 (bbT BK424.out hb); have n1_ := mk0 (below_step (wT HB.out) hb); clear BK424; clear HB; have BK424 := n0_; have HB := n1_; clear n0_ n1_; (try clear hb); (try clear hb2); (try clear hk); (try clear hi)) | ((with_reducible refine gate_dst (N := 5) rfl ?_); refine box_event ?hg (N := 5) ?hd (cs := #[.int .i64 0, .int .i64 0]) (t := 81) ?hr ?_; (case hd => rfl); (case hg => rfl); (case hr => first | (go_simp; done) | (go_simp; rfl)); intro gb428 hg w10 hbox hb; have n0_ := mk0 (bbT BK424.out hb); have n1_ := mk0 (below_step (wT HB.out) hb); have n2_ := mk0 (hbox); have n3_ := mk0 ((szT HB.out hg)); have n4_ := mk0 ((szT HB.out hg)); have n5_ := mk0 ((neL BK424.out hg)); have n6_ := mk0 ((neG BK424.out hg)); clear BK424; clear HB; have BK424 := n0_; have HB := n1_; have BK428 := n2_; have GW428 := n3_; have GE428 := n4_; have NB424_428 := n5_; have NB428_424 := n6_; clear n0_ n1_ n2_ n3_ n4_ n5_ n6_; clear hb hbox hg; have hnb11 := NB428_424.out; have hnc11 := NB424_428.out; have X12_0 := ct BK428.out 0; have X12_1 := ct BK428.out 1; have Y12_0 := blk_frozen BK428.out 0; have Y12_1 := blk_frozen BK428.out 1; have X13_0 := ct BK424.out 0; have X13_1 := ct BK424.out 1; have X13_2 := ct BK424.out 2; have X13_3 := ct BK424.out 3; have Y13_0 := blk_frozen BK424.out 0; have Y13_1 := blk_frozen BK424.out 1; have Y13_2 := blk_frozen BK424.out 2; have Y13_3 := blk_frozen BK424.out 3)); try go_wp2_with (first | ((with_reducible refine gate_dst (N := 2) rfl ?_); refine box_event ?hg (N := 2) ?hd (cs := #[.int .i64 a0_0, .int .i64 a0_1, .int .i64 a0_2, .int .i64 a0_3]) (t := 92) ?hr ?_; (case hd => rfl); (case hg => rfl); (case hr => first | (go_simp; done) | (go_simp; rfl)); intro gb424 hg w4 hbox hb; have n0_ := mk0 (below_step (wT HB.out) hb); have n1_ := mk0 (hbox); have n2_ := mk0 ((szT HB.out hg)); have n3_ := mk0 ((szT HB.out hg)); clear HB; have HB := n0_; have BK424 := n1_; have GW424 := n2_; have GE424 := n3_; clear n0_ n1_ n2_ n3_; clear hb hbox hg) | ((with_reducible refine gate_dst (N := 3) rfl ?_); refine box_event ?hg (N := 3) ?hd (cs := #[.int .i64 a1_0, .int .i64 a1_1, .int .i64 a1_2]) (t := 23) ?hr ?_; (case hd => rfl); (case hg => rfl); (case hr => first | (go_simp; done) | (go_simp; rfl)); intro gb425 hg w5 hbox hb; have n0_ := mk0 (bbT BK424.out hb); have n1_ := mk0 (below_step (wT HB.out) hb); have n2_ := mk0 (hbox); have n3_ := mk0 ((szT HB.out hg)); have n4_ := mk0 ((szT HB.out hg)); have n5_ := mk0 ((neL BK424.out hg)); have n6_ := mk0 ((neG BK424.out hg)); clear BK424; clear HB; have BK424 := n0_; have HB := n1_; have BK425 := n2_; have GW425 := n3_; have GE425 := n4_; have NB424_425 := n5_; have NB425_424 := n6_; clear n0_ n1_ n2_ n3_ n4_ n5_ n6_; clear hb hbox hg; have hnb6 := NB425_424.out; have hnc6 := NB424_425.out; have X7_0 := ct BK425.out 0; have X7_1 := ct BK425.out 1; have X7_2 := ct BK425.out 2; have Y7_0 := blk_frozen BK425.out 0; have Y7_1 := blk_frozen BK425.out 1; have Y7_2 := blk_frozen BK425.out 2; (try clear BK425 GW425 GE425); have X8_0 := ct BK424.out 0; have X8_1 := ct BK424.out 1; have X8_2 := ct BK424.out 2; have X8_3 := ct BK424.out 3; have Y8_0 := blk_frozen BK424.out 0; have Y8_1 := blk_frozen BK424.out 1; have Y8_2 := blk_frozen BK424.out 2; have Y8_3 := blk_frozen BK424.out 3) | (go_at_call 89; (with_reducible refine (metrolabref30_across.calls a1_0 a1_1 a1_2 a0_0 t426 t427 _ A3.out).mono ?_); rintro e w9 ⟨rfl, hb⟩; have n0_ := mk0 (bbT BK424.out hb); have n1_ := mk0 (below_step (wT HB.out) hb); clear BK424; clear HB; have BK424 := n0_; have HB := n1_; clear n0_ n1_; (try clear hb); (try clear hb2); (try clear hk); (try clear hi)) | ((with_reducible refine gate_dst (N := 5) rfl ?_); refine box_event ?hg (N := 5) ?hd (cs := #[.int .i64 0, .int .i64 0]) (t := 81) ?hr ?_; (case hd => rfl); (case hg => rfl); (case hr => first | (go_simp; done) | (go_simp; rfl)); intro gb428 hg w10 hbox hb; have n0_ := mk0 (bbT BK424.out hb); have n1_ := mk0 (below_step (wT HB.out) hb); have n2_ := mk0 (hbox); have n3_ := mk0 ((szT HB.out hg)); have n4_ := mk0 ((szT HB.out hg)); have n5_ := mk0 ((neL BK424.out hg)); have n6_ := mk0 ((neG BK424.out hg)); clear BK424; clear HB; have BK424 := n0_; have HB := n1_; have BK428 := n2_; have GW428 := n3_; have GE428 := n4_; have NB424_428 := n5_; have NB428_424 := n6_; clear n0_ n1_ n2_ n3_ n4_ n5_ n6_; clear hb hbox hg; have hnb11 := NB428_424.out; have hnc11 := NB424_428.out; have X12_0 := ct BK428.out 0; have X12_1 := ct BK428.out 1; have Y12_0 := blk_frozen BK428.out 0; have Y12_1 := blk_frozen BK428.out 1; have X13_0 := ct BK424.out 0; have X13_1 := ct BK424.out 1; have X13_2 := ct BK424.out 2; have X13_3 := ct BK424.out 3; have Y13_0 := blk_frozen BK424.out 0; have Y13_1 := blk_frozen BK424.out 1; have Y13_2 := blk_frozen BK424.out 2; have Y13_3 := blk_frozen BK424.out 3)))
 go_ret
 exact ⟨eqT, by repeat (first | (with_reducible first | exact HB.out | apply below_alloc | apply pw_below_drewN | apply below_drew1 | refine below_set ?_ GE428.out) | exact HB.out)⟩
def metrolabref30_Full.l0 : Nat → Int → Int → Int → Int → Int → Int → Int → List (S92) → Int → Int → Int → Option (Bool)
 | 0, _, _, _, _, _, _, _, _, _, _, _ => none
 | k + 1, x5, x430000, x430001, x430002, x430003, x430004, x430005, x430006, x431000, x431001, x431002 => if x5 < (x430006.length : Int) then (if 0 ≤ x5 then ((metrolabref30_bored.f ((rd_T92 x430006 x5).f0) ((rd_T92 x430006 x5).f1.f0) ((rd_T92 x430006 x5).f1.f1) ((rd_T92 x430006 x5).f2) x431000 x431001 x431002).bind fun t433 => (if t433 = true then (some false) else (metrolabref30_Full.l0 k (wrap64 (x5 + 1)) x430000 x430001 x430002 x430003 x430004 x430005 x430006 x431000 x431001 x431002))) else (none)) else (some true)
def metrolabref30_Full.f (k : Nat) (a0_0 : Int) (a0_1 : Int) (a0_2 : Int) (a0_3 : Int) (a0_4 : Int) (a0_5 : Int) (l0_6 : List (S92)) (a1_0 : Int) (a1_1 : Int) (a1_2 : Int) : Option (Bool) := (metrolabref30_inside.f a0_0 a0_1 a0_2 a0_3 a0_4 a0_5 l0_6 a1_0 a1_1 a1_2).bind fun t431 => (if t431 = true then (metrolabref30_Full.l0 k 0 a0_0 a0_1 a0_2 a0_3 a0_4 a0_5 l0_6 a1_0 a1_1 a1_2) else (some false))
theorem metrolabref30_Full.calls (k : Nat) (a0_0 : Int) (a0_1 : Int) (a0_2 : Int) (a0_3 : Int) (a0_4 : Int) (a0_5 : Int) (A0_6 : Option Addr) (c0_6 : Nat) (l0_6 : List (S92)) (a1_0 : Int) (a1_1 : Int) (a1_2 : Int) (r : Bool) (w : World) (hr0_6 : Kd.C k92 w A0_6 l0_6.length l0_6) (hc0_6 : l0_6.length ≤ c0_6) (h : metrolabref30_Full.f k a0_0 a0_1 a0_2 a0_3 a0_4 a0_5 l0_6 a1_0 a1_1 a1_2 = some r) :
  Calls Tryz.prog 41 #[.agg #[.int .i64 a0_0, .int .i64 a0_1, .int .i64 a0_2, .int .i64 a0_3, .int .i64 a0_4, .int .i64 a0_5, .slice A0_6 l0_6.length c0_6], .agg #[.int .i64 a1_0, .int .i64 a1_1, .int .i64 a1_2]] w fun e w' => e = .returned (.bool r) ∧ Below w.heap.size w w' := by
 have hu30 := Tryz.underlying30
 have hu23 := Tryz.underlying23
 have hu92 := Tryz.underlying92
 have HR0_6 := mk0 hr0_6
 have HC0_6 := mk0 hc0_6
 clear hr0_6 hc0_6
 have HB := mk0 (Below.refl w.heap.size w)
 have H : ((metrolabref30_inside.f a0_0 a0_1 a0_2 a0_3 a0_4 a0_5 l0_6 a1_0 a1_1 a1_2).bind fun t431 => (if t431 = true then (metrolabref30_Full.l0 k 0 a0_0 a0_1 a0_2 a0_3 a0_4 a0_5 l0_6 a1_0 a1_1 a1_2) else (some false))) = some r := h
 clear h
 replace H := Option.bind_eq_some_iff.mp H
 obtain ⟨t431, A30, H⟩ := H
 replace H : (if t431 = true then (metrolabref30_Full.l0 k 0 a0_0 a0_1 a0_2 a0_3 a0_4 a0_5 l0_6 a1_0 a1_1 a1_2) else (some false)) = some r := H
 have A3 := mk0 A30
 clear A30
 by_cases c4 : t431 = true
 ·subst c4
  have H1 : (metrolabref30_Full.l0 k 0 a0_0 a0_1 a0_2 a0_3 a0_4 a0_5 l0_6 a1_0 a1_1 a1_2) = some r := by rw [if_pos rfl] at H; exact H
  clear H
  have H := H1
  clear H1
  have H' := mk0 H
  clear H
  go_enter Tryz.func41, Tryz.ntmps41
  go_wp2_with (first | ((with_reducible refine gate_dst (N := 2) rfl ?_); refine box_event ?hg (N := 2) ?hd (cs := #[.int .i64 a0_0, .int .i64 a0_1, .int .i64 a0_2, .int .i64 a0_3, .int .i64 a0_4, .int .i64 a0_5, .slice A0_6 l0_6.length c0_6]) (t := 30) ?hr ?_; (case hd => rfl); (case hg => rfl); (case hr => first | (go_simp; done) | (go_simp; rfl)); intro gb429 hg w5 hbox hb; have n0_ := mk0 (below_step (wT HB.out) hb); have n1_ := mk0 (hbox); have n2_ := mk0 ((szT HB.out hg)); have n3_ := mk0 ((szT HB.out hg)); clear HB; have HB := n0_; have BK429 := n1_; have GW429 := n2_; have GE429 := n3_; clear n0_ n1_ n2_ n3_; clear hb hbox hg) | ((with_reducible refine gate_dst (N := 3) rfl ?_); refine box_event ?hg (N := 3) ?hd (cs := #[.int .i64 a1_0, .int .i64 a1_1, .int .i64 a1_2]) (t := 23) ?hr ?_; (case hd => rfl); (case hg => rfl); (case hr => first | (go_simp; done) | (go_simp; rfl)); intro gb430 hg w6 hbox hb; have n0_ := mk0 (bbT BK429.out hb); have n1_ := mk0 (below_step (wT HB.out) hb); have n2_ := mk0 (hbox); have n3_ := mk0 ((szT HB.out hg)); have n4_ := mk0 ((szT HB.out hg)); have n5_ := mk0 ((neL BK429.out hg)); have n6_ := mk0 ((neG BK429.out hg)); clear BK429; clear HB; have BK429 := n0_; have HB := n1_; have BK430 := n2_; have GW430 := n3_; have GE430 := n4_; have NB429_430 := n5_; have NB430_429 := n6_; clear n0_ n1_ n2_ n3_ n4_ n5_ n6_; clear hb hbox hg; have hnb7 := NB429_430.out; have hnc7 := NB430_429.out; have X8_0 := ct BK429.out 0; have X8_1 := ct BK429.out 1; have X8_2 := ct BK429.out 2; have X8_3 := ct BK429.out 3; have X8_4 := ct BK429.out 4; have X8_5 := ct BK429.out 5; have X8_6 := ct BK429.out 6; have Y8_0 := blk_frozen BK429.out 0; have Y8_1 := blk_frozen BK429.out 1; have Y8_2 := blk_frozen BK429.out 2; have Y8_3 := blk_frozen BK429.out 3; have Y8_4 := blk_frozen BK429.out 4; have Y8_5 := blk_frozen BK429.out 5; have Y8_6 := blk_frozen BK429.out 6; have X9_0 := ct BK430.out 0; have X9_1 := ct BK430.out 1; have X9_2 := ct BK430.out 2; have Y9_0 := blk_frozen BK430.out 0; have Y9_1 := blk_frozen BK430.out 1; have Y9_2 := blk_frozen BK430.out 2) | ((with_reducible refine gate_callee (f := 67) rfl ?_); refine goesL_ (some 8) rfl rfl Tryz.func67 (by kernel_rfl) rfl #[.agg #[.int .i64 a0_0, .int .i64 a0_1, .int .i64 a0_2, .int .i64 a0_3, .int .i64 a0_4, .int .i64 a0_5, .slice A0_6 l0_6.length c0_6], .agg #[.int .i64 a1_0, .int .i64 a1_1, .int .i64 a1_2]] rfl (by (try simp only [List.map_toArray, List.map_cons, List.map_nil]); first | done | rfl | (simp only [List.length_drop, List.length_take]; rfl)) ?_; (with_reducible refine (metrolabref30_inside.calls a0_0 a0_1 a0_2 a0_3 a0_4 a0_5 _ _ l0_6 a1_0 a1_1 a1_2 true _ ?side1 ?side2 A3.out).mono ?_); (case side1 => repeat (first | exact (Kd.C_below HR0_6.out HB.out) | (with_reducible refine Kd.C_alloc ?_ _) | (with_reducible refine Kd.C_drewN ?_ _) | (with_reducible refine Kd.C_drew ?_))); (case side2 => exact HC0_6.out); rintro e w10 ⟨rfl, hb⟩; refine ⟨_, rfl, ?_⟩; have n0_ := mk0 (bbT BK429.out hb); have n1_ := mk0 (bbT BK430.out hb); have n2_ := mk0 (below_step (wT HB.out) hb); clear BK429; clear BK430; clear HB; have BK429 := n0_; have BK430 := n1_; have HB := n2_; clear n0_ n1_ n2_; (try clear hb); (try clear hb2); (try clear hk); (try clear hi)))
  go_loopg [5] k (fun kq v5 w' => ∃ (x5_1 : Int), v5 = .int .i64 x5_1 ∧ Aside0 (metrolabref30_Full.l0 kq x5_1 a0_0 a0_1 a0_2 a0_3 a0_4 a0_5 l0_6 a1_0 a1_1 a1_2 = some r) ∧ Aside0 (kq ≤ k) ∧ Aside0 (w'.heap[gb429]? = some (.cells #[.int .i64 a0_0, .int .i64 a0_1, .int .i64 a0_2, .int .i64 a0_3, .int .i64 a0_4, .int .i64 a0_5, (.slice A0_6 l0_6.length c0_6)] 30 (0, 0))) ∧ Aside0 (w'.heap[gb430]? = some (.cells #[.int .i64 a1_0, .int .i64 a1_1, .int .i64 a1_2] 23 (0, 0))) ∧ Aside0 (Below w.heap.size w w'))
  case atStart => exact ⟨(0), (by first | rfl | (simp; done) | (simp [*]; done) | exact congrArg (Value.int .i64) (by unfold wrap64; omega)), H', ⟨Nat.le_refl _⟩, ⟨bT BK429.out⟩, ⟨bT BK430.out⟩, ⟨wT HB.out⟩⟩
  case round =>
   clear H'
   try clear p2
   try clear c4
   try clear c6
   try clear p6
   try clear c7
   try clear X8_0
   try clear X8_1
   try clear X8_2
   try clear X8_3
   try clear X8_4
   try clear X8_5
   try clear X8_6
   try clear X9_0
   try clear X9_1
   try clear X9_2
   try clear Y8_0
   try clear Y8_1
   try clear Y8_2
   try clear Y8_3
   try clear Y8_4
   try clear Y8_5
   try clear Y8_6
   try clear Y9_0
   try clear Y9_1
   try clear Y9_2
   obtain ⟨x5_1, rfl, HA, HK1, BK429, BK430, HB⟩ := hrel
   cases gk with
   | zero => exact absurd HA.out (by simp [metrolabref30_Full.l0])
   | succ k1 =>
    have H := HA.out
    clear HA
    simp only [metrolabref30_Full.l0] at H
    by_cases c11 : x5_1 < (l0_6.length : Int)
    ·rw [if_pos c11] at H
     have c11b0 : decide (x5_1 < (l0_6.length : Int)) = true := decide_eq_true c11
     clear c11
     by_cases c12 : 0 ≤ x5_1
     ·rw [if_pos c12] at H
      have c12b0 : decide (0 ≤ x5_1) = true := decide_eq_true c12
      clear c12
      replace H := Option.bind_eq_some_iff.mp H
      obtain ⟨t433, A130, H⟩ := H
      replace H : (if t433 = true then (some false) else (metrolabref30_Full.l0 k1 (wrap64 (x5_1 + 1)) a0_0 a0_1 a0_2 a0_3 a0_4 a0_5 l0_6 a1_0 a1_1 a1_2)) = some r := H
      have A13 := mk0 A130
      clear A130
      by_cases c14 : t433 = true
      ·subst c14
       have H1 : (some false) = some r := by rw [if_pos rfl] at H; exact H
       clear H
       have H := H1
       clear H1
       obtain rfl := Option.some.inj H
       have hnb15 := NB429_430.out
       have hnc15 := NB430_429.out
       have X16_0 := ct BK429.out 0
       have X16_1 := ct BK429.out 1
       have X16_2 := ct BK429.out 2
       have X16_3 := ct BK429.out 3
       have X16_4 := ct BK429.out 4
       have X16_5 := ct BK429.out 5
       have X16_6 := ct BK429.out 6
       have Y16_0 := blk_frozen BK429.out 0
       have Y16_1 := blk_frozen BK429.out 1
       have Y16_2 := blk_frozen BK429.out 2
       have Y16_3 := blk_frozen BK429.out 3
       have Y16_4 := blk_frozen BK429.out 4
       have Y16_5 := blk_frozen BK429.out 5
       have Y16_6 := blk_frozen BK429.out 6
       try go_wp2
       have n0_ := mk0 (blk_drew BK429.out)
       have n1_ := mk0 (blk_drew BK430.out)
       have n2_ := mk0 (below_drew1 HB.out)
       clear BK429
       clear BK430
       clear HB
       have BK429 := n0_
       have BK430 := n1_
       have HB := n2_
       clear n0_ n1_ n2_
       have p432 : 0 ≤ (x5_1 : Int) := of_decide_eq_true (by first | (with_reducible assumption) | assumption)
       have q432 : x5_1 < (l0_6.length : Int) := of_decide_eq_true (by first | (with_reducible assumption) | assumption)
       obtain ⟨ad432, e432, hx432_0, hx432_1, hx432_2, hx432_3⟩ := at_T92 HR0_6.out x5_1 p432 q432
       have hw432_3 := hx432_3
       have hw432_2 := hx432_2
       have hw432_1 := hx432_1
       have hw432_0 := hx432_0
       cases e432
       replace hx432_0 := (HB.out.cell (World.block_lt_of_cell? w _ hx432_0)).trans hx432_0
       replace hx432_1 := (HB.out.cell (World.block_lt_of_cell? w _ hx432_1)).trans hx432_1
       replace hx432_2 := (HB.out.cell (World.block_lt_of_cell? w _ hx432_2)).trans hx432_2
       replace hx432_3 := (HB.out.cell (World.block_lt_of_cell? w _ hx432_3)).trans hx432_3
       replace p432 := eq_true p432
       replace q432 := eq_true q432
       refine start_ (n := 7) (S := fun w' => w'.cell? ⟨gb429, 0, none⟩ = some (.int .i64 a0_0) ∧ w'.cell? ⟨gb429, 1, none⟩ = some (.int .i64 a0_1) ∧ w'.cell? ⟨gb429, 2, none⟩ = some (.int .i64 a0_2) ∧ w'.cell? ⟨gb429, 3, none⟩ = some (.int .i64 a0_3) ∧ w'.cell? ⟨gb429, 4, none⟩ = some (.int .i64 a0_4) ∧ w'.cell? ⟨gb429, 5, none⟩ = some (.int .i64 a0_5) ∧ w'.cell? ⟨gb429, 6, none⟩ = some (.slice (some ad432) l0_6.length c0_6) ∧ w'.cell? ⟨gb430, 0, none⟩ = some (.int .i64 a1_0) ∧ w'.cell? ⟨gb430, 1, none⟩ = some (.int .i64 a1_1) ∧ w'.cell? ⟨gb430, 2, none⟩ = some (.int .i64 a1_2) ∧ w'.cell? (ad432.add ((x5_1).toNat * 4)) = some (.int .i64 ((rd_T92 l0_6 x5_1).f0)) ∧ w'.cell? ⟨(ad432.add ((x5_1).toNat * 4)).block, (ad432.add ((x5_1).toNat * 4)).off + 1, none⟩ = some (.int .i64 ((rd_T92 l0_6 x5_1).f1.f0)) ∧ w'.cell? ⟨(ad432.add ((x5_1).toNat * 4)).block, (ad432.add ((x5_1).toNat * 4)).off + 2, none⟩ = some (.int .i64 ((rd_T92 l0_6 x5_1).f1.f1)) ∧ w'.cell? ⟨(ad432.add ((x5_1).toNat * 4)).block, (ad432.add ((x5_1).toNat * 4)).off + 3, none⟩ = some (.int .i64 ((rd_T92 l0_6 x5_1).f2))) (ds := []) #[false, false, false, false, false, false, false] (by kernel_rfl) rfl rfl ⟨ct BK429.out 0, ct BK429.out 1, ct BK429.out 2, ct BK429.out 3, ct BK429.out 4, ct BK429.out 5, ct BK429.out 6, ct BK430.out 0, ct BK430.out 1, ct BK430.out 2, ((HB.out.cell (World.block_lt_of_cell? w _ hw432_0)).trans hw432_0), ((HB.out.cell (World.block_lt_of_cell? w _ hw432_1)).trans hw432_1), ((HB.out.cell (World.block_lt_of_cell? w _ hw432_2)).trans hw432_2), ((HB.out.cell (World.block_lt_of_cell? w _ hw432_3)).trans hw432_3)⟩ (fun hHeld => ?_)
       generalize wr.drew = w17 at BK429 BK430 HB hx432_0 hx432_1 hx432_2 hx432_3 hHeld ⊢
       refine pure_ (i := 0) (N := some 17) (v := ?_) (a' := ?_) #[true, false, false, false, false, false, false] rfl rfl (by kernel_rfl) (fun _ _ _ h => h) (Or.inl ⟨by rfl, ?_⟩) ?_ ?_
       rotate_left
       ·intro w'
        go_simp
        with_reducible rfl
       rotate_left
       ·exact nrm
       refine pure_ (i := 2) (N := some 19) (v := ?_) (a' := ?_) #[true, false, true, false, false, false, false] rfl rfl (by kernel_rfl) (fun _ _ _ h => h) (Or.inl ⟨by rfl, ?_⟩) ?_ ?_
       rotate_left
       ·intro w'
        go_simp
        with_reducible rfl
       rotate_left
       ·exact nrm
       refine take_ (i := 1) (N := some 18) (v := ?_) (a' := ?_) #[true, true, true, false, false, false, false] rfl rfl (by kernel_rfl) (fun _ _ _ h => h) (Or.inl ⟨by rfl, ?_⟩) hHeld ?_ ?_
       rotate_left
       ·rintro w' ⟨s0, s1, s2, s3, s4, s5, s6, s7, s8, s9, s10, s11, s12, s13⟩
        go_simp
        with_reducible rfl
       rotate_left
       ·exact nrm
       refine pure_ (i := 3) (N := some 20) (v := ?_) (a' := ?_) #[true, true, true, true, false, false, false] rfl rfl (by kernel_rfl) (fun _ _ _ h => h) (Or.inl ⟨by rfl, ?_⟩) ?_ ?_
       rotate_left
       ·intro w'
        go_simp
        with_reducible rfl
       rotate_left
       ·exact nrm
       refine take_ (i := 4) (N := some 21) (v := ?_) (a' := ?_) #[true, true, true, true, true, false, false] rfl rfl (by kernel_rfl) (fun _ _ _ h => h) (Or.inl ⟨by rfl, ?_⟩) hHeld ?_ ?_
       rotate_left
       ·rintro w' ⟨s0, s1, s2, s3, s4, s5, s6, s7, s8, s9, s10, s11, s12, s13⟩
        go_simp
        with_reducible rfl
       rotate_left
       ·exact nrm
       refine take_ (i := 5) (N := some 22) (v := ?_) (a' := ?_) #[true, true, true, true, true, true, false] rfl rfl (by kernel_rfl) (fun _ _ _ h => h) (Or.inl ⟨by rfl, ?_⟩) hHeld ?_ ?_
       rotate_left
       ·rintro w' ⟨s0, s1, s2, s3, s4, s5, s6, s7, s8, s9, s10, s11, s12, s13⟩
        go_simp
        with_reducible rfl
       rotate_left
       ·exact nrm
       refine one_ (i := 6) (N := some 23) #[true, true, true, true, true, true, true] rfl rfl (by kernel_rfl) (by decide) (fun K hK => ?_)
       refine goes_ Tryz.func68 (by kernel_rfl) rfl #[.agg #[.int .i64 ((rd_T92 l0_6 x5_1).f0), .int .i64 ((rd_T92 l0_6 x5_1).f1.f0), .int .i64 ((rd_T92 l0_6 x5_1).f1.f1), .int .i64 ((rd_T92 l0_6 x5_1).f2)], .agg #[.int .i64 a1_0, .int .i64 a1_1, .int .i64 a1_2]] (by rfl) rfl rfl (by (try simp only [List.map_toArray, List.map_cons, List.map_nil]); first | done | rfl | (simp only [List.length_drop, List.length_take]; rfl)) ?_
       with_reducible refine (metrolabref30_bored.calls ((rd_T92 l0_6 x5_1).f0) ((rd_T92 l0_6 x5_1).f1.f0) ((rd_T92 l0_6 x5_1).f1.f1) ((rd_T92 l0_6 x5_1).f2) a1_0 a1_1 a1_2 true _ A13.out).mono ?_
       rintro e w18 ⟨rfl, hb⟩
       refine ⟨_, rfl, ?_⟩
       have n0_ := mk0 (bbT BK429.out hb)
       have n1_ := mk0 (bbT BK430.out hb)
       have n2_ := mk0 (below_step (wT HB.out) hb)
       clear BK429
       clear BK430
       clear HB
       have BK429 := n0_
       have BK430 := n1_
       have HB := n2_
       clear n0_ n1_ n2_
       (try clear hb)
       (try clear hb2)
       (try clear hk)
       (try clear hi)
       refine hK.out _ _ ⟨ct BK429.out 0, ct BK429.out 1, ct BK429.out 2, ct BK429.out 3, ct BK429.out 4, ct BK429.out 5, ct BK429.out 6, ct BK430.out 0, ct BK430.out 1, ct BK430.out 2, ((HB.out.cell (World.block_lt_of_cell? w _ hw432_0)).trans hw432_0), ((HB.out.cell (World.block_lt_of_cell? w _ hw432_1)).trans hw432_1), ((HB.out.cell (World.block_lt_of_cell? w _ hw432_2)).trans hw432_2), ((HB.out.cell (World.block_lt_of_cell? w _ hw432_3)).trans hw432_3)⟩ (fun hHeld => ?_)
       clear hK K
       refine norm_ (a' := ?_) ?_ ?_
       rotate_left
       ·show Act.put _ (some 23) _ = _
        simp only [Act.put, List.setIfInBounds_toArray, List.set_cons_zero, List.set_cons_succ, i64_w, i32_w]
        rfl
       refine done_ (by kernel_rfl) ?_
       try go_wp2
       go_ret
       exact ⟨eqT, wT HB.out⟩
      ·replace c14 := Bool.eq_false_iff.mpr c14
       subst c14
       have H1 : (metrolabref30_Full.l0 k1 (wrap64 (x5_1 + 1)) a0_0 a0_1 a0_2 a0_3 a0_4 a0_5 l0_6 a1_0 a1_1 a1_2) = some r := by rw [if_neg (show ¬ (false = true) by decide)] at H; exact H
       clear H
       have H := H1
       clear H1
       have H' := mk0 H
       clear H
       have hnb19 := NB429_430.out
       have hnc19 := NB430_429.out
       have X20_0 := ct BK429.out 0
       have X20_1 := ct BK429.out 1
       have X20_2 := ct BK429.out 2
       have X20_3 := ct BK429.out 3
       have X20_4 := ct BK429.out 4
       have X20_5 := ct BK429.out 5
       have X20_6 := ct BK429.out 6
       have Y20_0 := blk_frozen BK429.out 0
       have Y20_1 := blk_frozen BK429.out 1
       have Y20_2 := blk_frozen BK429.out 2
       have Y20_3 := blk_frozen BK429.out 3
       have Y20_4 := blk_frozen BK429.out 4
       have Y20_5 := blk_frozen BK429.out 5
       have Y20_6 := blk_frozen BK429.out 6
       try go_wp2
       have n0_ := mk0 (blk_drew BK429.out)
       have n1_ := mk0 (blk_drew BK430.out)
       have n2_ := mk0 (below_drew1 HB.out)
       clear BK429
       clear BK430
       clear HB
       have BK429 := n0_
       have BK430 := n1_
       have HB := n2_
       clear n0_ n1_ n2_
       have p432 : 0 ≤ (x5_1 : Int) := of_decide_eq_true (by first | (with_reducible assumption) | assumption)
       have q432 : x5_1 < (l0_6.length : Int) := of_decide_eq_true (by first | (with_reducible assumption) | assumption)
       obtain ⟨ad432, e432, hx432_0, hx432_1, hx432_2, hx432_3⟩ := at_T92 HR0_6.out x5_1 p432 q432
       have hw432_3 := hx432_3
       have hw432_2 := hx432_2
       have hw432_1 := hx432_1
       have hw432_0 := hx432_0
       cases e432
       replace hx432_0 := (HB.out.cell (World.block_lt_of_cell? w _ hx432_0)).trans hx432_0
       replace hx432_1 := (HB.out.cell (World.block_lt_of_cell? w _ hx432_1)).trans hx432_1
       replace hx432_2 := (HB.out.cell (World.block_lt_of_cell? w _ hx432_2)).trans hx432_2
       replace hx432_3 := (HB.out.cell (World.block_lt_of_cell? w _ hx432_3)).trans hx432_3
       replace p432 := eq_true p432
       replace q432 := eq_true q432
       refine start_ (n := 7) (S := fun w' => w'.cell? ⟨gb429, 0, none⟩ = some (.int .i64 a0_0) ∧ w'.cell? ⟨gb429, 1, none⟩ = some (.int .i64 a0_1) ∧ w'.cell? ⟨gb429, 2, none⟩ = some (.int .i64 a0_2) ∧ w'.cell? ⟨gb429, 3, none⟩ = some (.int .i64 a0_3) ∧ w'.cell? ⟨gb429, 4, none⟩ = some (.int .i64 a0_4) ∧ w'.cell? ⟨gb429, 5, none⟩ = some (.int .i64 a0_5) ∧ w'.cell? ⟨gb429, 6, none⟩ = some (.slice (some ad432) l0_6.length c0_6) ∧ w'.cell? ⟨gb430, 0, none⟩ = some (.int .i64 a1_0) ∧ w'.cell? ⟨gb430, 1, none⟩ = some (.int .i64 a1_1) ∧ w'.cell? ⟨gb430, 2, none⟩ = some (.int .i64 a1_2) ∧ w'.cell? (ad432.add ((x5_1).toNat * 4)) = some (.int .i64 ((rd_T92 l0_6 x5_1).f0)) ∧ w'.cell? ⟨(ad432.add ((x5_1).toNat * 4)).block, (ad432.add ((x5_1).toNat * 4)).off + 1, none⟩ = some (.int .i64 ((rd_T92 l0_6 x5_1).f1.f0)) ∧ w'.cell? ⟨(ad432.add ((x5_1).toNat * 4)).block, (ad432.add ((x5_1).toNat * 4)).off + 2, none⟩ = some (.int .i64 ((rd_T92 l0_6 x5_1).f1.f1)) ∧ w'.cell? ⟨(ad432.add ((x5_1).toNat * 4)).block, (ad432.add ((x5_1).toNat * 4)).off + 3, none⟩ = some (.int .i64 ((rd_T92 l0_6 x5_1).f2))) (ds := []) #[false, false, false, false, false, false, false] (by kernel_rfl) rfl rfl ⟨ct BK429.out 0, ct BK429.out 1, ct BK429.out 2, ct BK429.out 3, ct BK429.out 4, ct BK429.out 5, ct BK429.out 6, ct BK430.out 0, ct BK430.out 1, ct BK430.out 2, ((HB.out.cell (World.block_lt_of_cell? w _ hw432_0)).trans hw432_0), ((HB.out.cell (World.block_lt_of_cell? w _ hw432_1)).trans hw432_1), ((HB.out.cell (World.block_lt_of_cell? w _ hw432_2)).trans hw432_2), ((HB.out.cell (World.block_lt_of_cell? w _ hw432_3)).trans hw432_3)⟩ (fun hHeld => ?_)
       generalize wr.drew = w21 at BK429 BK430 HB hx432_0 hx432_1 hx432_2 hx432_3 hHeld ⊢
       refine pure_ (i := 0) (N := some 17) (v := ?_) (a' := ?_) #[true, false, false, false, false, false, false] rfl rfl (by kernel_rfl) (fun _ _ _ h => h) (Or.inl ⟨by rfl, ?_⟩) ?_ ?_
       rotate_left
       ·intro w'
        go_simp
        with_reducible rfl
       rotate_left
       ·exact nrm
       refine pure_ (i := 2) (N := some 19) (v := ?_) (a' := ?_) #[true, false, true, false, false, false, false] rfl rfl (by kernel_rfl) (fun _ _ _ h => h) (Or.inl ⟨by rfl, ?_⟩) ?_ ?_
       rotate_left
       ·intro w'
        go_simp
        with_reducible rfl
       rotate_left
       ·exact nrm
       refine take_ (i := 1) (N := some 18) (v := ?_) (a' := ?_) #[true, true, true, false, false, false, false] rfl rfl (by kernel_rfl) (fun _ _ _ h => h) (Or.inl ⟨by rfl, ?_⟩) hHeld ?_ ?_
       rotate_left
       ·rintro w' ⟨s0, s1, s2, s3, s4, s5, s6, s7, s8, s9, s10, s11, s12, s13⟩
        go_simp
        with_reducible rfl
       rotate_left
       ·exact nrm
       refine pure_ (i := 3) (N := some 20) (v := ?_) (a' := ?_) #[true, true, true, true, false, false, false] rfl rfl (by kernel_rfl) (fun _ _ _ h => h) (Or.inl ⟨by rfl, ?_⟩) ?_ ?_
       rotate_left
       ·intro w'
        go_simp
        with_reducible rfl
       rotate_left
       ·exact nrm
       refine take_ (i := 4) (N := some 21) (v := ?_) (a' := ?_) #[true, true, true, true, true, false, false] rfl rfl (by kernel_rfl) (fun _ _ _ h => h) (Or.inl ⟨by rfl, ?_⟩) hHeld ?_ ?_
       rotate_left
       ·rintro w' ⟨s0, s1, s2, s3, s4, s5, s6, s7, s8, s9, s10, s11, s12, s13⟩
        go_simp
        with_reducible rfl
       rotate_left
       ·exact nrm
       refine take_ (i := 5) (N := some 22) (v := ?_) (a' := ?_) #[true, true, true, true, true, true, false] rfl rfl (by kernel_rfl) (fun _ _ _ h => h) (Or.inl ⟨by rfl, ?_⟩) hHeld ?_ ?_
       rotate_left
       ·rintro w' ⟨s0, s1, s2, s3, s4, s5, s6, s7, s8, s9, s10, s11, s12, s13⟩
        go_simp
        with_reducible rfl
       rotate_left
       ·exact nrm
       refine one_ (i := 6) (N := some 23) #[true, true, true, true, true, true, true] rfl rfl (by kernel_rfl) (by decide) (fun K hK => ?_)
       refine goes_ Tryz.func68 (by kernel_rfl) rfl #[.agg #[.int .i64 ((rd_T92 l0_6 x5_1).f0), .int .i64 ((rd_T92 l0_6 x5_1).f1.f0), .int .i64 ((rd_T92 l0_6 x5_1).f1.f1), .int .i64 ((rd_T92 l0_6 x5_1).f2)], .agg #[.int .i64 a1_0, .int .i64 a1_1, .int .i64 a1_2]] (by rfl) rfl rfl (by (try simp only [List.map_toArray, List.map_cons, List.map_nil]); first | done | rfl | (simp only [List.length_drop, List.length_take]; rfl)) ?_
       with_reducible refine (metrolabref30_bored.calls ((rd_T92 l0_6 x5_1).f0) ((rd_T92 l0_6 x5_1).f1.f0) ((rd_T92 l0_6 x5_1).f1.f1) ((rd_T92 l0_6 x5_1).f2) a1_0 a1_1 a1_2 false _ A13.out).mono ?_
       rintro e w22 ⟨rfl, hb⟩
       refine ⟨_, rfl, ?_⟩
       have n0_ := mk0 (bbT BK429.out hb)
       have n1_ := mk0 (bbT BK430.out hb)
       have n2_ := mk0 (below_step (wT HB.out) hb)
       clear BK429
       clear BK430
       clear HB
       have BK429 := n0_
       have BK430 := n1_
       have HB := n2_
       clear n0_ n1_ n2_
       (try clear hb)
       (try clear hb2)
       (try clear hk)
       (try clear hi)
       refine hK.out _ _ ⟨ct BK429.out 0, ct BK429.out 1, ct BK429.out 2, ct BK429.out 3, ct BK429.out 4, ct BK429.out 5, ct BK429.out 6, ct BK430.out 0, ct BK430.out 1, ct BK430.out 2, ((HB.out.cell (World.block_lt_of_cell? w _ hw432_0)).trans hw432_0), ((HB.out.cell (World.block_lt_of_cell? w _ hw432_1)).trans hw432_1), ((HB.out.cell (World.block_lt_of_cell? w _ hw432_2)).trans hw432_2), ((HB.out.cell (World.block_lt_of_cell? w _ hw432_3)).trans hw432_3)⟩ (fun hHeld => ?_)
       clear hK K
       refine norm_ (a' := ?_) ?_ ?_
       rotate_left
       ·show Act.put _ (some 23) _ = _
        simp only [Act.put, List.setIfInBounds_toArray, List.set_cons_zero, List.set_cons_succ, i64_w, i32_w]
        rfl
       refine done_ (by kernel_rfl) ?_
       try go_wp2
       go_roundg k1
       case measure => have := HK1.out; omega
       case rel => exact ⟨(wrap64 (x5_1 + 1)), (by first | rfl | (simp; done) | (simp [*]; done) | exact congrArg (Value.int .i64) (by unfold wrap64; omega)), H', ⟨by have := HK1.out; omega⟩, ⟨bT BK429.out⟩, ⟨bT BK430.out⟩, ⟨wT HB.out⟩⟩
     ·rw [if_neg c12] at H
      exact absurd H (by simp)
    ·rw [if_neg c11] at H
     have c11b0 : decide (x5_1 < (l0_6.length : Int)) = false := decide_eq_false c11
     clear c11
     obtain rfl := Option.some.inj H
     have X23_0 := ct BK429.out 0
     have X23_1 := ct BK429.out 1
     have X23_2 := ct BK429.out 2
     have X23_3 := ct BK429.out 3
     have X23_4 := ct BK429.out 4
     have X23_5 := ct BK429.out 5
     have X23_6 := ct BK429.out 6
     have Y23_0 := blk_frozen BK429.out 0
     have Y23_1 := blk_frozen BK429.out 1
     have Y23_2 := blk_frozen BK429.out 2
     have Y23_3 := blk_frozen BK429.out 3
     have Y23_4 := blk_frozen BK429.out 4
     have Y23_5 := blk_frozen BK429.out 5
     have Y23_6 := blk_frozen BK429.out 6
     go_wp2
     go_ret
     exact ⟨eqT, wT HB.out⟩
 ·replace c4 := Bool.eq_false_iff.mpr c4
  subst c4
  have H1 : (some false) = some r := by rw [if_neg (show ¬ (false = true) by decide)] at H; exact H
  clear H
  have H := H1
  clear H1
  obtain rfl := Option.some.inj H
  go_enter Tryz.func41, Tryz.ntmps41
  go_wp2_with (first | ((with_reducible refine gate_dst (N := 2) rfl ?_); refine box_event ?hg (N := 2) ?hd (cs := #[.int .i64 a0_0, .int .i64 a0_1, .int .i64 a0_2, .int .i64 a0_3, .int .i64 a0_4, .int .i64 a0_5, .slice A0_6 l0_6.length c0_6]) (t := 30) ?hr ?_; (case hd => rfl); (case hg => rfl); (case hr => first | (go_simp; done) | (go_simp; rfl)); intro gb429 hg w24 hbox hb; have n0_ := mk0 (below_step (wT HB.out) hb); have n1_ := mk0 (hbox); have n2_ := mk0 ((szT HB.out hg)); have n3_ := mk0 ((szT HB.out hg)); clear HB; have HB := n0_; have BK429 := n1_; have GW429 := n2_; have GE429 := n3_; clear n0_ n1_ n2_ n3_; clear hb hbox hg) | ((with_reducible refine gate_dst (N := 3) rfl ?_); refine box_event ?hg (N := 3) ?hd (cs := #[.int .i64 a1_0, .int .i64 a1_1, .int .i64 a1_2]) (t := 23) ?hr ?_; (case hd => rfl); (case hg => rfl); (case hr => first | (go_simp; done) | (go_simp; rfl)); intro gb430 hg w25 hbox hb; have n0_ := mk0 (bbT BK429.out hb); have n1_ := mk0 (below_step (wT HB.out) hb); have n2_ := mk0 (hbox); have n3_ := mk0 ((szT HB.out hg)); have n4_ := mk0 ((szT HB.out hg)); have n5_ := mk0 ((neL BK429.out hg)); have n6_ := mk0 ((neG BK429.out hg)); clear BK429; clear HB; have BK429 := n0_; have HB := n1_; have BK430 := n2_; have GW430 := n3_; have GE430 := n4_; have NB429_430 := n5_; have NB430_429 := n6_; clear n0_ n1_ n2_ n3_ n4_ n5_ n6_; clear hb hbox hg; have hnb26 := NB429_430.out; have hnc26 := NB430_429.out; have X27_0 := ct BK429.out 0; have X27_1 := ct BK429.out 1; have X27_2 := ct BK429.out 2; have X27_3 := ct BK429.out 3; have X27_4 := ct BK429.out 4; have X27_5 := ct BK429.out 5; have X27_6 := ct BK429.out 6; have Y27_0 := blk_frozen BK429.out 0; have Y27_1 := blk_frozen BK429.out 1; have Y27_2 := blk_frozen BK429.out 2; have Y27_3 := blk_frozen BK429.out 3; have Y27_4 := blk_frozen BK429.out 4; have Y27_5 := blk_frozen BK429.out 5; have Y27_6 := blk_frozen BK429.out 6; (try clear BK429 GW429 GE429); have X28_0 := ct BK430.out 0; have X28_1 := ct BK430.out 1; have X28_2 := ct BK430.out 2; have Y28_0 := blk_frozen BK430.out 0; have Y28_1 := blk_frozen BK430.out 1; have Y28_2 := blk_frozen BK430.out 2; (try clear BK430 GW430 GE430)) | ((with_reducible refine gate_callee (f := 67) rfl ?_); refine goesL_ (some 8) rfl rfl Tryz.func67 (by kernel_rfl) rfl #[.agg #[.int .i64 a0_0, .int .i64 a0_1, .int .i64 a0_2, .int .i64 a0_3, .int .i64 a0_4, .int .i64 a0_5, .slice A0_6 l0_6.length c0_6], .agg #[.int .i64 a1_0, .int .i64 a1_1, .int .i64 a1_2]] rfl (by (try simp only [List.map_toArray, List.map_cons, List.map_nil]); first | done | rfl | (simp only [List.length_drop, List.length_take]; rfl)) ?_; (with_reducible refine (metrolabref30_inside.calls a0_0 a0_1 a0_2 a0_3 a0_4 a0_5 _ _ l0_6 a1_0 a1_1 a1_2 false _ ?side1 ?side2 A3.out).mono ?_); (case side1 => repeat (first | exact (Kd.C_below HR0_6.out HB.out) | (with_reducible refine Kd.C_alloc ?_ _) | (with_reducible refine Kd.C_drewN ?_ _) | (with_reducible refine Kd.C_drew ?_))); (case side2 => exact HC0_6.out); rintro e w29 ⟨rfl, hb⟩; refine ⟨_, rfl, ?_⟩; have n0_ := mk0 (below_step (wT HB.out) hb); clear HB; have HB := n0_; clear n0_; (try clear hb); (try clear hb2); (try clear hk); (try clear hi)))
  go_ret
  exact ⟨eqT, wT HB.out⟩
end Go.Proofs.YtolbjmaabghghaaGreatDoor.PA
