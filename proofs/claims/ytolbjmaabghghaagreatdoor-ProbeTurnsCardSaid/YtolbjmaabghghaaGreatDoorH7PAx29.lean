/- A part of the proof. -/
import Derived.Test.YtolbjmaabghghaaGreatDoorH7PAx0
import Derived.Test.YtolbjmaabghghaaGreatDoorH7PAx28
namespace Go.Proofs.YtolbjmaabghghaaGreatDoor.PA
open Go.RowKit Go.PW Go.PL Go.PM
attribute [local go_sem] max2_int min2_int max_two min_two max_three min_three max_four min_four   -- for this text's walks alone
set_option linter.unusedVariables false
set_option maxHeartbeats 8000000
set_option maxRecDepth 100000
set_option linter.unusedSimpArgs false
def metrolabref30_Near.f (a0_0 : Int) (a0_1 : Int) (a0_2 : Int) (a1_0 : Int) (a1_1 : Int) (a1_2 : Int) : Option (Bool) := (metrolabref30_near.f a0_0 a0_1 a0_2).bind fun t639 => (if t639 = true then ((metrolabref30_near.f a1_0 a1_1 a1_2).bind fun t640 => (some t640)) else (some false))
theorem metrolabref30_Near.calls (a0_0 : Int) (a0_1 : Int) (a0_2 : Int) (a1_0 : Int) (a1_1 : Int) (a1_2 : Int) (r : Bool) (w : World) (h : metrolabref30_Near.f a0_0 a0_1 a0_2 a1_0 a1_1 a1_2 = some r) :
  Calls Tryz.prog 27 #[.agg #[.int .i64 a0_0, .int .i64 a0_1, .int .i64 a0_2], .agg #[.int .i64 a1_0, .int .i64 a1_1, .int .i64 a1_2]] w fun e w' => e = .returned (.bool r) ∧ Below w.heap.size w w' := by
 have hu23 := Tryz.underlying23
 have HB := mk0 (Below.refl w.heap.size w)
 have H : ((metrolabref30_near.f a0_0 a0_1 a0_2).bind fun t639 => (if t639 = true then ((metrolabref30_near.f a1_0 a1_1 a1_2).bind fun t640 => (some t640)) else (some false))) = some r := h
 clear h
 replace H := Option.bind_eq_some_iff.mp H
 obtain ⟨t639, A30, H⟩ := H
 replace H : (if t639 = true then ((metrolabref30_near.f a1_0 a1_1 a1_2).bind fun t640 => (some t640)) else (some false)) = some r := H
 have A3 := mk0 A30
 clear A30
 by_cases c4 : t639 = true
 ·subst c4
  have H1 : ((metrolabref30_near.f a1_0 a1_1 a1_2).bind fun t640 => (some t640)) = some r := by rw [if_pos rfl] at H; exact H
  clear H
  have H := H1
  clear H1
  replace H := Option.bind_eq_some_iff.mp H
  obtain ⟨t640, A50, H⟩ := H
  replace H : (some t640) = some r := H
  have A5 := mk0 A50
  clear A50
  obtain rfl := Option.some.inj H
  go_enter Tryz.func27, Tryz.ntmps27
  go_wp2_with (first | ((with_reducible refine gate_dst (N := 2) rfl ?_); refine box_event ?hg (N := 2) ?hd (cs := #[.int .i64 a0_0, .int .i64 a0_1, .int .i64 a0_2]) (t := 23) ?hr ?_; (case hd => rfl); (case hg => rfl); (case hr => first | (go_simp; done) | (go_simp; rfl)); intro gb637 hg w6 hbox hb; have n0_ := mk0 (below_step (wT HB.out) hb); have n1_ := mk0 (hbox); have n2_ := mk0 ((szT HB.out hg)); have n3_ := mk0 ((szT HB.out hg)); clear HB; have HB := n0_; have BK637 := n1_; have GW637 := n2_; have GE637 := n3_; clear n0_ n1_ n2_ n3_; clear hb hbox hg) | ((with_reducible refine gate_dst (N := 3) rfl ?_); refine box_event ?hg (N := 3) ?hd (cs := #[.int .i64 a1_0, .int .i64 a1_1, .int .i64 a1_2]) (t := 23) ?hr ?_; (case hd => rfl); (case hg => rfl); (case hr => first | (go_simp; done) | (go_simp; rfl)); intro gb638 hg w7 hbox hb; have n0_ := mk0 (bbT BK637.out hb); have n1_ := mk0 (below_step (wT HB.out) hb); have n2_ := mk0 (hbox); have n3_ := mk0 ((szT HB.out hg)); have n4_ := mk0 ((szT HB.out hg)); have n5_ := mk0 ((neL BK637.out hg)); have n6_ := mk0 ((neG BK637.out hg)); clear BK637; clear HB; have BK637 := n0_; have HB := n1_; have BK638 := n2_; have GW638 := n3_; have GE638 := n4_; have NB637_638 := n5_; have NB638_637 := n6_; clear n0_ n1_ n2_ n3_ n4_ n5_ n6_; clear hb hbox hg; have hnb8 := NB637_638.out; have hnc8 := NB638_637.out; have X9_0 := ct BK637.out 0; have X9_1 := ct BK637.out 1; have X9_2 := ct BK637.out 2; have Y9_0 := blk_frozen BK637.out 0; have Y9_1 := blk_frozen BK637.out 1; have Y9_2 := blk_frozen BK637.out 2; (try clear BK637 GW637 GE637)) | ((with_reducible refine gate_callee (f := 56) rfl ?_); refine goesL_ (some 6) rfl rfl Tryz.func56 (by kernel_rfl) rfl #[.agg #[.int .i64 a0_0, .int .i64 a0_1, .int .i64 a0_2]] rfl (by (try simp only [List.map_toArray, List.map_cons, List.map_nil]); first | done | rfl | (simp only [List.length_drop, List.length_take]; rfl)) ?_; (with_reducible refine (metrolabref30_near.calls a0_0 a0_1 a0_2 true _ A3.out).mono ?_); rintro e w10 ⟨rfl, hb⟩; refine ⟨_, rfl, ?_⟩; have n0_ := mk0 (bbT BK638.out hb); have n1_ := mk0 (below_step (wT HB.out) hb); clear BK638; clear HB; have BK638 := n0_; have HB := n1_; clear n0_ n1_; (try clear hb); (try clear hb2); (try clear hk); (try clear hi); have X11_0 := ct BK638.out 0; have X11_1 := ct BK638.out 1; have X11_2 := ct BK638.out 2; have Y11_0 := blk_frozen BK638.out 0; have Y11_1 := blk_frozen BK638.out 1; have Y11_2 := blk_frozen BK638.out 2; (try clear BK638 GW638 GE638)) | (go_at_call 56; (with_reducible refine (metrolabref30_near.calls a1_0 a1_1 a1_2 t640 _ A5.out).mono ?_); rintro e w12 ⟨rfl, hb⟩; have n0_ := mk0 (below_step (wT HB.out) hb); clear HB; have HB := n0_; clear n0_; (try clear hb); (try clear hb2); (try clear hk); (try clear hi)))
  go_ret
  exact ⟨eqT, wT HB.out⟩
 ·replace c4 := Bool.eq_false_iff.mpr c4
  subst c4
  have H1 : (some false) = some r := by rw [if_neg (show ¬ (false = true) by decide)] at H; exact H
  clear H
  have H := H1
  clear H1
  obtain rfl := Option.some.inj H
  go_enter Tryz.func27, Tryz.ntmps27
  go_wp2_with (first | ((with_reducible refine gate_dst (N := 2) rfl ?_); refine box_event ?hg (N := 2) ?hd (cs := #[.int .i64 a0_0, .int .i64 a0_1, .int .i64 a0_2]) (t := 23) ?hr ?_; (case hd => rfl); (case hg => rfl); (case hr => first | (go_simp; done) | (go_simp; rfl)); intro gb637 hg w13 hbox hb; have n0_ := mk0 (below_step (wT HB.out) hb); have n1_ := mk0 (hbox); have n2_ := mk0 ((szT HB.out hg)); have n3_ := mk0 ((szT HB.out hg)); clear HB; have HB := n0_; have BK637 := n1_; have GW637 := n2_; have GE637 := n3_; clear n0_ n1_ n2_ n3_; clear hb hbox hg) | ((with_reducible refine gate_dst (N := 3) rfl ?_); refine box_event ?hg (N := 3) ?hd (cs := #[.int .i64 a1_0, .int .i64 a1_1, .int .i64 a1_2]) (t := 23) ?hr ?_; (case hd => rfl); (case hg => rfl); (case hr => first | (go_simp; done) | (go_simp; rfl)); intro gb638 hg w14 hbox hb; have n0_ := mk0 (bbT BK637.out hb); have n1_ := mk0 (below_step (wT HB.out) hb); have n2_ := mk0 (hbox); have n3_ := mk0 ((szT HB.out hg)); have n4_ := mk0 ((szT HB.out hg)); have n5_ := mk0 ((neL BK637.out hg)); have n6_ := mk0 ((neG BK637.out hg)); clear BK637; clear HB; have BK637 := n0_; have HB := n1_; have BK638 := n2_; have GW638 := n3_; have GE638 := n4_; have NB637_638 := n5_; have NB638_637 := n6_; clear n0_ n1_ n2_ n3_ n4_ n5_ n6_; clear hb hbox hg; (try clear BK638 GW638 GE638); have X15_0 := ct BK637.out 0; have X15_1 := ct BK637.out 1; have X15_2 := ct BK637.out 2; have Y15_0 := blk_frozen BK637.out 0; have Y15_1 := blk_frozen BK637.out 1; have Y15_2 := blk_frozen BK637.out 2; (try clear BK637 GW637 GE637)) | ((with_reducible refine gate_callee (f := 56) rfl ?_); refine goesL_ (some 6) rfl rfl Tryz.func56 (by kernel_rfl) rfl #[.agg #[.int .i64 a0_0, .int .i64 a0_1, .int .i64 a0_2]] rfl (by (try simp only [List.map_toArray, List.map_cons, List.map_nil]); first | done | rfl | (simp only [List.length_drop, List.length_take]; rfl)) ?_; (with_reducible refine (metrolabref30_near.calls a0_0 a0_1 a0_2 false _ A3.out).mono ?_); rintro e w16 ⟨rfl, hb⟩; refine ⟨_, rfl, ?_⟩; have n0_ := mk0 (below_step (wT HB.out) hb); clear HB; have HB := n0_; clear n0_; (try clear hb); (try clear hb2); (try clear hk); (try clear hi)))
  go_ret
  exact ⟨eqT, wT HB.out⟩
end Go.Proofs.YtolbjmaabghghaaGreatDoor.PA
