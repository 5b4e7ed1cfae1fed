/- A part of the proof. -/
import Derived.Test.YtolbjmaabghghaaGreatDoorJ7PAx0
import Derived.Test.YtolbjmaabghghaaGreatDoorJ7PAx28
namespace Go.Proofs.YtolbjmaabghghaaGreatDoor.PA
open Go.RowKit Go.PW Go.PL Go.PM
attribute [local go_sem] max2_int min2_int max_two min_two max_three min_three max_four min_four   -- for this text's walks alone
set_option linter.unusedVariables false
set_option maxHeartbeats 8000000
set_option maxRecDepth 100000
set_option linter.unusedSimpArgs false
def metrolabref30_Near.f (a0_0 : Int) (a0_1 : Int) (a0_2 : Int) (a1_0 : Int) (a1_1 : Int) (a1_2 : Int) : Option (Bool) := (metrolabref30_near.f a0_0 a0_1 a0_2).bind fun t639 => (if t639 = true then ((metrolabref30_near.f a1_0 a1_1 a1_2).bind fun t640 => (some t640)) else (some false))
theorem metrolabref30_Near.calls (a0_0 : Int) (a0_1 : Int) (a0_2 : Int) (a1_0 : Int) (a1_1 : Int) (a1_2 : Int) (r : Bool) (w : World) (h : metrolabref30_Near.f a0_0 a0_1 a0_2 a1_0 a1_1 a1_2 = some r) :
  Calls Tryz.prog 27 #[.agg #[.int .i64 a0_0, .int .i64 a0_1, .int .i64 a0_2], .agg #[.int .i64 a1_0, .int .i64 a1_1, .int .i64 a1_2]] w fun e w' => e = .returned (.bool r) ∧ Below w.heap.size w w' := by
 have hu23 := Tryz.underlying23
 have HB := mk0 (Below.refl w.heap.size w)
 have H : ((metrolabref30_near.f a0_0 a0_1 a0_2).bind fun t639 => (if t639 = true then ((metrolabref30_near.f a1_0 a1_1 a1_2).bind fun t640 => (some t640)) else (some false))) = some r := h
 clear h
 replace H := Option.bind_eq_some_iff.mp H
 obtain ⟨t639, A30, H⟩ := H
 (try dsimp only at H)
 have A3 := mk0 A30
 clear A30
 by_cases c4 : t639 = true
 ·subst c4
  have H1 : ((metrolabref30_near.f a1_0 a1_1 a1_2).bind fun t640 => (some t640)) = some r := by rw [if_pos rfl] at H; exact H
  clear H
  have H := H1
  clear H1
  replace H := Option.bind_eq_some_iff.mp H
  obtain ⟨t640, A50, H⟩ := H
  (try dsimp only at H)
  have A5 := mk0 A50
  clear A50
  obtain rfl := Option.some.inj H
  go_enter Tryz.func27, Tryz.ntmps27
  go_wp2_with (first | ((with_reducible refine gate_dst (N := 2) rfl ?_); refine box_event ?hg (N := 2) ?hd (cs := #[.int .i64 a0_0, .int .i64 a0_1, .int .i64 a0_2]) (t := 23) ?hr ?_; (case hd => rfl); (case hg => rfl); (case hr => first | (go_simp; done) | (go_simp; rfl)); intro gb637 hg w6 hbox hb; have n0_ := mk0 (below_step (wT HB.out) hb); have n1_ := mk0 (hbox); have n2_ := mk0 ((szT HB.out hg)); have n3_ := mk0 ((szT HB.out hg)); clear HB; have HB := n0_; have BK637 := n1_; have GW637 := n2_; have GE637 := n3_; clear n0_ n1_ n2_ n3_; clear hb hbox hg) | ((with_reducible refine gate_dst (N := 3) rfl ?_); refine box_event ?hg (N := 3) ?hd (cs := #[.int .i64 a1_0, .int .i64 a1_1, .int .i64 a1_2]) (t := 23) ?hr ?_; (case hd => rfl); (case hg => rfl); (case hr => first | (go_simp; done) | (go_simp; rfl)); intro gb638 hg w7 hbox hb; have n0_ := mk0 (bbT BK637.out hb); have n1_ := mk0 (below_step (wT HB.out) hb); have n2_ := mk0 (hbox); have n3_ := mk0 ((szT HB.out hg)); have n4_ := mk0 ((szT HB.out hg)); have n5_ := mk0 ((neL BK637.out hg)); have n6_ := mk0 ((neG BK637.out hg)); clear BK637; clear HB; have BK637 := n0_; have HB := n1_; have BK638 := n2_; have GW638 := n3_; have GE638 := n4_; have NB637_638 := n5_; have NB638_637 := n6_; clear n0_ n1_ n2_ n3_ n4_ n5_ n6_; clear hb hbox hg; have hnb8 := NB637_638.out; have hnc8 := NB638_637.out; have X9_0 := ct BK637.out 0; have X9_1 := ct BK637.out 1; have X9_2 := ct BK637.out 2; have Y9_0 := blk_frozen BK637.out 0; have Y9_1 := blk_frozen BK637.out 1; have Y9_2 := blk_frozen BK637.out 2; (try clear BK637 GW637 GE637)) | ((with_reducible refine gate_callee (f := 56) rfl ?_); refine goesL_ (some 6) rfl rfl Tryz.func56 (by kernel_rfl) rfl #[.agg #[.int .i64 a0_0, .int .i64 a0_1, .int .i64 a0_2]] rfl mapT ?_; (with_reducible refine (metrolabref30_near.calls a0_0 a0_1 a0_2 true _ A3.out).mono ?_); rintro e w10 ⟨rfl, hb⟩; refine ⟨_, rfl, ?_⟩; have n0_ := mk0 (bbT BK638.out hb); have n1_ := mk0 (below_step (wT HB.out) hb); clear BK638; clear HB; have BK638 := n0_; have HB := n1_; clear n0_ n1_; (try clear hb); (try clear hb2); (try clear hk); (try clear hi); have X11_0 := ct BK638.out 0; have X11_1 := ct BK638.out 1; have X11_2 := ct BK638.out 2; have Y11_0 := blk_frozen BK638.out 0; have Y11_1 := blk_frozen BK638.out 1; have Y11_2 := blk_frozen BK638.out 2; (try clear BK638 GW638 GE638)) | (go_at_call 56; (with_reducible refine (metrolabref30_near.calls a1_0 a1_1 a1_2 t640 _ A5.out).mono ?_); rintro e w12 ⟨rfl, hb⟩; have n0_ := mk0 (below_step (wT HB.out) hb); clear HB; have HB := n0_; clear n0_; (try clear hb); (try clear hb2); (try clear hk); (try clear hi)))
  go_ret
  exact ⟨eqT, wT HB.out⟩
 ·replace c4 := Bool.eq_false_iff.mpr c4
  subst c4
  have H1 : (some false) = some r := by rw [if_neg (show ¬ (false = true) by decide)] at H; exact H
  clear H
  have H := H1
  clear H1
  obtain rfl := Option.some.inj H
  go_enter Tryz.func27, Tryz.ntmps27
  go_wp2_with (first | ((with_reducible refine gate_dst (N := 2) rfl ?_); refine box_event ?hg (N := 2) ?hd (cs := #[.int .i64 a0_0, .int .i64 a0_1, .int .i64 a0_2]) (t := 23) ?hr ?_; (case hd => rfl); (case hg => rfl); (case hr => first | (go_simp; done) | (go_simp; rfl)); intro gb637 hg w13 hbox hb; have n0_ := mk0 (below_step (wT HB.out) hb); have n1_ := mk0 (hbox); have n2_ := mk0 ((szT HB.out hg)); have n3_ := mk0 ((szT HB.out hg)); clear HB; have HB := n0_; have BK637 := n1_; have GW637 := n2_; have GE637 := n3_; clear n0_ n1_ n2_ n3_; clear hb hbox hg) | ((with_reducible refine gate_dst (N := 3) rfl ?_); refine box_event ?hg (N := 3) ?hd (cs := #[.int .i64 a1_0, .int .i64 a1_1, .int .i64 a1_2]) (t := 23) ?hr ?_; (case hd => rfl); (case hg => rfl); (case hr => first | (go_simp; done) | (go_simp; rfl)); intro gb638 hg w14 hbox hb; have n0_ := mk0 (bbT BK637.out hb); have n1_ := mk0 (below_step (wT HB.out) hb); have n2_ := mk0 (hbox); have n3_ := mk0 ((szT HB.out hg)); have n4_ := mk0 ((szT HB.out hg)); have n5_ := mk0 ((neL BK637.out hg)); have n6_ := mk0 ((neG BK637.out hg)); clear BK637; clear HB; have BK637 := n0_; have HB := n1_; have BK638 := n2_; have GW638 := n3_; have GE638 := n4_; have NB637_638 := n5_; have NB638_637 := n6_; clear n0_ n1_ n2_ n3_ n4_ n5_ n6_; clear hb hbox hg; (try clear BK638 GW638 GE638); have X15_0 := ct BK637.out 0; have X15_1 := ct BK637.out 1; have X15_2 := ct BK637.out 2; have Y15_0 := blk_frozen BK637.out 0; have Y15_1 := blk_frozen BK637.out 1; have Y15_2 := blk_frozen BK637.out 2; (try clear BK637 GW637 GE637)) | ((with_reducible refine gate_callee (f := 56) rfl ?_); refine goesL_ (some 6) rfl rfl Tryz.func56 (by kernel_rfl) rfl #[.agg #[.int .i64 a0_0, .int .i64 a0_1, .int .i64 a0_2]] rfl mapT ?_; (with_reducible refine (metrolabref30_near.calls a0_0 a0_1 a0_2 false _ A3.out).mono ?_); rintro e w16 ⟨rfl, hb⟩; refine ⟨_, rfl, ?_⟩; have n0_ := mk0 (below_step (wT HB.out) hb); clear HB; have HB := n0_; clear n0_; (try clear hb); (try clear hb2); (try clear hk); (try clear hi)))
  go_ret
  exact ⟨eqT, wT HB.out⟩
def metrolabref30_FewSteps.l0 : Nat → List (S52) → Int → Option (Bool)
 | 0, _, _ => none
 | k + 1, x0, x3 => if x3 < (x0.length : Int) then (if 0 ≤ x3 then ((metrolabref30_near.f ((rd_T52 x0 x3).f1.f0) ((rd_T52 x0 x3).f1.f1) ((rd_T52 x0 x3).f1.f2)).bind fun t642 => (if t642 = true then (if (((rd_T52 x0 x3).f3).size : Int) > 60 then (some false) else (metrolabref30_FewSteps.l0 k x0 (wrap64 (x3 + 1)))) else (some false))) else (none)) else (some true)
def metrolabref30_FewSteps.f (k : Nat) (l0 : List (S52)) : Option (Bool) := if (l0.length : Int) > 24 then (if (l0.length : Int) > 4096 then (some (decide ((l0.length : Int) ≤ 8192))) else (some false)) else (metrolabref30_FewSteps.l0 k l0 0)
theorem metrolabref30_FewSteps.calls (k : Nat) (A0 : Option Addr) (c0 : Nat) (l0 : List (S52)) (r : Bool) (w : World) (hr0 : Kd.C k52 w A0 l0.length l0) (hc0 : l0.length ≤ c0) (h : metrolabref30_FewSteps.f k l0 = some r) :
  Calls Tryz.prog 28 #[.slice A0 l0.length c0] w fun e w' => e = .returned (.bool r) ∧ Below w.heap.size w w' := by
 have hu23 := Tryz.underlying23
 have HR0 := mk0 hr0
 have HC0 := mk0 hc0
 clear hr0 hc0
 have HB := mk0 (Below.refl w.heap.size w)
 have H : (if (l0.length : Int) > 24 then (if (l0.length : Int) > 4096 then (some (decide ((l0.length : Int) ≤ 8192))) else (some false)) else (metrolabref30_FewSteps.l0 k l0 0)) = some r := h
 clear h
 by_cases c2 : (l0.length : Int) > 24
 ·rw [if_pos c2] at H
  have c2b0 : decide (24 < (l0.length : Int)) = true := decide_eq_true c2
  have c2b1 : decide (24 < l0.length) = true := decide_eq_true (by omega)
  clear c2
  by_cases c3 : (l0.length : Int) > 4096
  ·rw [if_pos c3] at H
   have c3b0 : decide (4096 < (l0.length : Int)) = true := decide_eq_true c3
   have c3b1 : decide (4096 < l0.length) = true := decide_eq_true (by omega)
   clear c3
   obtain rfl := Option.some.inj H
   go_enter Tryz.func28, Tryz.ntmps28
   go_wp2
   go_ret
   exact ⟨eqT, wT HB.out⟩
  ·rw [if_neg c3] at H
   have c3b0 : decide (4096 < (l0.length : Int)) = false := decide_eq_false c3
   have c3b1 : decide (4096 < l0.length) = false := decide_eq_false (by omega)
   clear c3
   obtain rfl := Option.some.inj H
   go_enter Tryz.func28, Tryz.ntmps28
   go_wp2
   go_ret
   exact ⟨eqT, wT HB.out⟩
 ·rw [if_neg c2] at H
  have c2b0 : decide (24 < (l0.length : Int)) = false := decide_eq_false c2
  have c2b1 : decide (24 < l0.length) = false := decide_eq_false (by omega)
  clear c2
  have H' := mk0 H
  clear H
  go_enter Tryz.func28, Tryz.ntmps28
  go_wp2
  go_loopg [3] k (fun kq v3 w' => ∃ (x3_1 : Int), v3 = .int .i64 x3_1 ∧ Aside0 (metrolabref30_FewSteps.l0 kq l0 x3_1 = some r) ∧ Aside0 (kq ≤ k) ∧ Aside0 (Below w.heap.size w w'))
  case atStart => exact ⟨(0), (by first | rfl | (simp; done) | (simp [*]; done) | exact congrArg (Value.int .i64) (by unfold wrap64; omega)), H', ⟨Nat.le_refl _⟩, ⟨wT HB.out⟩⟩
  case round =>
   clear H'
   try clear c2
   try clear c2b0
   try clear c2b1
   try clear c3
   try clear c3b0
   try clear c3b1
   obtain ⟨x3_1, rfl, HA, HK1, HB⟩ := hrel
   cases gk with
   | zero => exact absurd HA.out (by simp [metrolabref30_FewSteps.l0])
   | succ k1 =>
    have H := HA.out
    clear HA
    simp only [metrolabref30_FewSteps.l0] at H
    by_cases c4 : x3_1 < (l0.length : Int)
    ·rw [if_pos c4] at H
     have c4b0 : decide (x3_1 < (l0.length : Int)) = true := decide_eq_true c4
     clear c4
     by_cases c5 : 0 ≤ x3_1
     ·rw [if_pos c5] at H
      have c5b0 : decide (0 ≤ x3_1) = true := decide_eq_true c5
      clear c5
      replace H := Option.bind_eq_some_iff.mp H
      obtain ⟨t642, A60, H⟩ := H
      (try dsimp only at H)
      have A6 := mk0 A60
      clear A60
      by_cases c7 : t642 = true
      ·subst c7
       have H1 : (if (((rd_T52 l0 x3_1).f3).size : Int) > 60 then (some false) else (metrolabref30_FewSteps.l0 k1 l0 (wrap64 (x3_1 + 1)))) = some r := by rw [if_pos rfl] at H; exact H
       clear H
       have H := H1
       clear H1
       by_cases c8 : (((rd_T52 l0 x3_1).f3).size : Int) > 60
       ·rw [if_pos c8] at H
        have c8b0 : decide (60 < (((rd_T52 l0 x3_1).f3).size : Int)) = true := decide_eq_true c8
        have c8b1 : decide (60 < ((rd_T52 l0 x3_1).f3).size) = true := decide_eq_true (by omega)
        clear c8
        obtain rfl := Option.some.inj H
        have p641 : 0 ≤ (x3_1 : Int) := of_decide_eq_true (by first | (with_reducible assumption) | assumption)
        have q641 : x3_1 < (l0.length : Int) := of_decide_eq_true (by first | (with_reducible assumption) | assumption)
        obtain ⟨ad641, e641, hx641_0, hx641_1, hx641_2, hx641_3, hx641_4, hx641_5⟩ := at_T52 HR0.out x3_1 p641 q641
        cases e641
        replace hx641_0 := (HB.out.cell (World.block_lt_of_cell? w _ hx641_0)).trans hx641_0
        replace hx641_1 := (HB.out.cell (World.block_lt_of_cell? w _ hx641_1)).trans hx641_1
        replace hx641_2 := (HB.out.cell (World.block_lt_of_cell? w _ hx641_2)).trans hx641_2
        replace hx641_3 := (HB.out.cell (World.block_lt_of_cell? w _ hx641_3)).trans hx641_3
        replace hx641_4 := (HB.out.cell (World.block_lt_of_cell? w _ hx641_4)).trans hx641_4
        replace hx641_5 := (HB.out.cell (World.block_lt_of_cell? w _ hx641_5)).trans hx641_5
        replace p641 := eq_true p641
        replace q641 := eq_true q641
        go_wp2_with (first | ((with_reducible refine gate_callee (f := 56) rfl ?_); refine goesL_ (some 26) rfl rfl Tryz.func56 (by kernel_rfl) rfl #[.agg #[.int .i64 ((rd_T52 l0 x3_1).f1.f0), .int .i64 ((rd_T52 l0 x3_1).f1.f1), .int .i64 ((rd_T52 l0 x3_1).f1.f2)]] rfl mapT ?_; (with_reducible refine (metrolabref30_near.calls ((rd_T52 l0 x3_1).f1.f0) ((rd_T52 l0 x3_1).f1.f1) ((rd_T52 l0 x3_1).f1.f2) true _ A6.out).mono ?_); rintro e w9 ⟨rfl, hb⟩; refine ⟨_, rfl, ?_⟩; have n0_ := mk0 (below_step (wT HB.out) hb); clear HB; have HB := n0_; clear n0_; (try clear hb); (try clear hb2); (try clear hk); (try clear hi); have p643 : 0 ≤ (x3_1 : Int) := of_decide_eq_true (by first | (with_reducible assumption) | assumption); have q643 : x3_1 < (l0.length : Int) := of_decide_eq_true (by first | (with_reducible assumption) | assumption); obtain ⟨ad643, e643, hx643_0, hx643_1, hx643_2, hx643_3, hx643_4, hx643_5⟩ := at_T52 HR0.out x3_1 p643 q643; obtain rfl : ad641 = ad643 := (by injection e643); replace hx643_0 := (HB.out.cell (World.block_lt_of_cell? w _ hx643_0)).trans hx643_0; replace hx643_1 := (HB.out.cell (World.block_lt_of_cell? w _ hx643_1)).trans hx643_1; replace hx643_2 := (HB.out.cell (World.block_lt_of_cell? w _ hx643_2)).trans hx643_2; replace hx643_3 := (HB.out.cell (World.block_lt_of_cell? w _ hx643_3)).trans hx643_3; replace hx643_4 := (HB.out.cell (World.block_lt_of_cell? w _ hx643_4)).trans hx643_4; replace hx643_5 := (HB.out.cell (World.block_lt_of_cell? w _ hx643_5)).trans hx643_5; replace p643 := eq_true p643; replace q643 := eq_true q643))
        go_ret
        exact ⟨eqT, wT HB.out⟩
       ·rw [if_neg c8] at H
        have c8b0 : decide (60 < (((rd_T52 l0 x3_1).f3).size : Int)) = false := decide_eq_false c8
        have c8b1 : decide (60 < ((rd_T52 l0 x3_1).f3).size) = false := decide_eq_false (by omega)
        clear c8
        have H' := mk0 H
        clear H
        have p641 : 0 ≤ (x3_1 : Int) := of_decide_eq_true (by first | (with_reducible assumption) | assumption)
        have q641 : x3_1 < (l0.length : Int) := of_decide_eq_true (by first | (with_reducible assumption) | assumption)
        obtain ⟨ad641, e641, hx641_0, hx641_1, hx641_2, hx641_3, hx641_4, hx641_5⟩ := at_T52 HR0.out x3_1 p641 q641
        cases e641
        replace hx641_0 := (HB.out.cell (World.block_lt_of_cell? w _ hx641_0)).trans hx641_0
        replace hx641_1 := (HB.out.cell (World.block_lt_of_cell? w _ hx641_1)).trans hx641_1
        replace hx641_2 := (HB.out.cell (World.block_lt_of_cell? w _ hx641_2)).trans hx641_2
        replace hx641_3 := (HB.out.cell (World.block_lt_of_cell? w _ hx641_3)).trans hx641_3
        replace hx641_4 := (HB.out.cell (World.block_lt_of_cell? w _ hx641_4)).trans hx641_4
        replace hx641_5 := (HB.out.cell (World.block_lt_of_cell? w _ hx641_5)).trans hx641_5
        replace p641 := eq_true p641
        replace q641 := eq_true q641
        go_wp2_with (first | ((with_reducible refine gate_callee (f := 56) rfl ?_); refine goesL_ (some 26) rfl rfl Tryz.func56 (by kernel_rfl) rfl #[.agg #[.int .i64 ((rd_T52 l0 x3_1).f1.f0), .int .i64 ((rd_T52 l0 x3_1).f1.f1), .int .i64 ((rd_T52 l0 x3_1).f1.f2)]] rfl mapT ?_; (with_reducible refine (metrolabref30_near.calls ((rd_T52 l0 x3_1).f1.f0) ((rd_T52 l0 x3_1).f1.f1) ((rd_T52 l0 x3_1).f1.f2) true _ A6.out).mono ?_); rintro e w10 ⟨rfl, hb⟩; refine ⟨_, rfl, ?_⟩; have n0_ := mk0 (below_step (wT HB.out) hb); clear HB; have HB := n0_; clear n0_; (try clear hb); (try clear hb2); (try clear hk); (try clear hi); have p643 : 0 ≤ (x3_1 : Int) := of_decide_eq_true (by first | (with_reducible assumption) | assumption); have q643 : x3_1 < (l0.length : Int) := of_decide_eq_true (by first | (with_reducible assumption) | assumption); obtain ⟨ad643, e643, hx643_0, hx643_1, hx643_2, hx643_3, hx643_4, hx643_5⟩ := at_T52 HR0.out x3_1 p643 q643; obtain rfl : ad641 = ad643 := (by injection e643); replace hx643_0 := (HB.out.cell (World.block_lt_of_cell? w _ hx643_0)).trans hx643_0; replace hx643_1 := (HB.out.cell (World.block_lt_of_cell? w _ hx643_1)).trans hx643_1; replace hx643_2 := (HB.out.cell (World.block_lt_of_cell? w _ hx643_2)).trans hx643_2; replace hx643_3 := (HB.out.cell (World.block_lt_of_cell? w _ hx643_3)).trans hx643_3; replace hx643_4 := (HB.out.cell (World.block_lt_of_cell? w _ hx643_4)).trans hx643_4; replace hx643_5 := (HB.out.cell (World.block_lt_of_cell? w _ hx643_5)).trans hx643_5; replace p643 := eq_true p643; replace q643 := eq_true q643))
        go_roundg k1
        case measure => have := HK1.out; omega
        case rel => exact ⟨(wrap64 (x3_1 + 1)), (by first | rfl | (simp; done) | (simp [*]; done) | exact congrArg (Value.int .i64) (by unfold wrap64; omega)), H', ⟨by have := HK1.out; omega⟩, ⟨wT HB.out⟩⟩
      ·replace c7 := Bool.eq_false_iff.mpr c7
       subst c7
       have H1 : (some false) = some r := by rw [if_neg (show ¬ (false = true) by decide)] at H; exact H
       clear H
       have H := H1
       clear H1
       obtain rfl := Option.some.inj H
       have p641 : 0 ≤ (x3_1 : Int) := of_decide_eq_true (by first | (with_reducible assumption) | assumption)
       have q641 : x3_1 < (l0.length : Int) := of_decide_eq_true (by first | (with_reducible assumption) | assumption)
       obtain ⟨ad641, e641, hx641_0, hx641_1, hx641_2, hx641_3, hx641_4, hx641_5⟩ := at_T52 HR0.out x3_1 p641 q641
       cases e641
       replace hx641_0 := (HB.out.cell (World.block_lt_of_cell? w _ hx641_0)).trans hx641_0
       replace hx641_1 := (HB.out.cell (World.block_lt_of_cell? w _ hx641_1)).trans hx641_1
       replace hx641_2 := (HB.out.cell (World.block_lt_of_cell? w _ hx641_2)).trans hx641_2
       replace hx641_3 := (HB.out.cell (World.block_lt_of_cell? w _ hx641_3)).trans hx641_3
       replace hx641_4 := (HB.out.cell (World.block_lt_of_cell? w _ hx641_4)).trans hx641_4
       replace hx641_5 := (HB.out.cell (World.block_lt_of_cell? w _ hx641_5)).trans hx641_5
       replace p641 := eq_true p641
       replace q641 := eq_true q641
       go_wp2_with (first | ((with_reducible refine gate_callee (f := 56) rfl ?_); refine goesL_ (some 26) rfl rfl Tryz.func56 (by kernel_rfl) rfl #[.agg #[.int .i64 ((rd_T52 l0 x3_1).f1.f0), .int .i64 ((rd_T52 l0 x3_1).f1.f1), .int .i64 ((rd_T52 l0 x3_1).f1.f2)]] rfl mapT ?_; (with_reducible refine (metrolabref30_near.calls ((rd_T52 l0 x3_1).f1.f0) ((rd_T52 l0 x3_1).f1.f1) ((rd_T52 l0 x3_1).f1.f2) false _ A6.out).mono ?_); rintro e w11 ⟨rfl, hb⟩; refine ⟨_, rfl, ?_⟩; have n0_ := mk0 (below_step (wT HB.out) hb); clear HB; have HB := n0_; clear n0_; (try clear hb); (try clear hb2); (try clear hk); (try clear hi)))
       go_ret
       exact ⟨eqT, wT HB.out⟩
     ·rw [if_neg c5] at H
      exact absurd H (by simp)
    ·rw [if_neg c4] at H
     have c4b0 : decide (x3_1 < (l0.length : Int)) = false := decide_eq_false c4
     clear c4
     obtain rfl := Option.some.inj H
     go_wp2
     go_ret
     exact ⟨eqT, wT HB.out⟩
def metrolablaw30_steps.l0 : Nat → List (S52) → List (S47) → Int → Int → Option ((List (S52)))
 | 0, _, _, _, _ => none
 | k + 1, x3, x6, x7, x8 => if x8 < x7 then (if 0 ≤ x8 then (if x8 < (x6.length : Int) then (if x3.length < 2513169434916 then (metrolablaw30_steps.l0 k (x3 ++ [(⟨(rd_T47 x6 x8).f0, (⟨(rd_T47 x6 x8).f1.f0, (rd_T47 x6 x8).f1.f1, (rd_T47 x6 x8).f1.f2⟩ : S23), (rd_T47 x6 x8).f2, (rd_T47 x6 x8).f3⟩ : S52)]) x6 x7 (wrap64 (x8 + 1))) else (none)) else (none)) else (none)) else (some x3)
def metrolablaw30_steps.f (k : Nat) (l0 : List (S47)) : Option ((List (S52))) := metrolablaw30_steps.l0 k ([] : List (S52)) l0 (l0.length : Int) 0
theorem metrolablaw30_steps.calls (k : Nat) (A0 : Option Addr) (c0 : Nat) (l0 : List (S47)) (r : List (S52)) (w : World) (hr0 : Kd.C k47 w A0 l0.length l0) (hc0 : l0.length ≤ c0) (h : metrolablaw30_steps.f k l0 = some r) :
  Calls Tryz.prog 29 #[.slice A0 l0.length c0] w fun e w' => ∃ v0_ : Value, e = .returned (v0_) ∧ Kd.R k52 52 w' w.heap.size (fun _ => True) v0_ r ∧ Below w.heap.size w w' := by
 have hu47 := Tryz.underlying47
 have HR0 := mk0 hr0
 have HC0 := mk0 hc0
 clear hr0 hc0
 have HB := mk0 (Below.refl w.heap.size w)
 have H : (metrolablaw30_steps.l0 k ([] : List (S52)) l0 (l0.length : Int) 0) = some r := h
 clear h
 have H' := mk0 H
 clear H
 go_enter Tryz.func29, Tryz.ntmps29
 go_wp2
 go_loopg [3, 8] k (fun kq v3 v8 w' => ∃ (x3_1 : List (S52)) (x8_1 : Int), v8 = .int .i64 x8_1 ∧ Aside0 (metrolablaw30_steps.l0 kq x3_1 l0 (l0.length : Int) x8_1 = some r) ∧ Aside0 (kq ≤ k) ∧ Aside0 (Kd.R k52 52 w' w.heap.size (fun _ => True) v3 x3_1) ∧ Aside0 (Below w.heap.size w w'))
 case atStart => exact ⟨(([] : List (S52))), (0), (by first | rfl | (simp; done) | (simp [*]; done) | exact congrArg (Value.int .i64) (by unfold wrap64; omega)), H', ⟨Nat.le_refl _⟩, ⟨by first | exact Kd.R_nil _ _ _ _ _ | exact Kd.N_nil _ _ _ _ _ | exact Kd.V_nil _ _ _ _ _ | exact Kd.Q_nil _ _ _ _ _ | exact Kd.S_nil _ _ _ _ _⟩, ⟨wT HB.out⟩⟩
 case round =>
  clear H'
  obtain ⟨x3_1, x8_1, rfl, HA, HK1, HO_3, HB⟩ := hrel
  cases gk with
  | zero => exact absurd HA.out (by simp [metrolablaw30_steps.l0])
  | succ k1 =>
   have H := HA.out
   clear HA
   simp only [metrolablaw30_steps.l0] at H
   by_cases c2 : x8_1 < (l0.length : Int)
   ·rw [if_pos c2] at H
    have c2b0 : decide (x8_1 < (l0.length : Int)) = true := decide_eq_true c2
    clear c2
    by_cases c3 : 0 ≤ x8_1
    ·rw [if_pos c3] at H
     have c3b0 : decide (0 ≤ x8_1) = true := decide_eq_true c3
     clear c3
     by_cases c4 : x8_1 < (l0.length : Int)
     ·rw [if_pos c4] at H
      have c4b0 : decide (x8_1 < (l0.length : Int)) = true := decide_eq_true c4
      clear c4
      by_cases c5 : x3_1.length < 2513169434916
      ·rw [if_pos c5] at H
       have LMc5 := mk0 c5
       clear c5
       obtain ⟨y646, hy646⟩ : ∃ y_ : List (S52), y_ = (x3_1 ++ [(⟨(rd_T47 l0 x8_1).f0, (⟨(rd_T47 l0 x8_1).f1.f0, (rd_T47 l0 x8_1).f1.f1, (rd_T47 l0 x8_1).f1.f2⟩ : S23), (rd_T47 l0 x8_1).f2, (rd_T47 l0 x8_1).f3⟩ : S52)]) := ⟨_, rfl⟩
       replace H : (metrolablaw30_steps.l0 k1 y646 l0 (l0.length : Int) (wrap64 (x8_1 + 1))) = some r := by first | (rw [hy646]; with_reducible exact H) | (have H2_ := (Option.bind_some _ _).symm.trans H; rw [hy646]; with_reducible exact H2_) | (have H2_ := (Option.bind_some _ _).symm.trans H; with_reducible exact H2_) | with_reducible exact H | (rw [hy646]; exact H) | exact H
       have Ny646 := mk0 hy646
       clear hy646
       have H' := mk0 H
       clear H
       have p644 : 0 ≤ (x8_1 : Int) := of_decide_eq_true (by first | (with_reducible assumption) | assumption)
       have q644 : x8_1 < (l0.length : Int) := of_decide_eq_true (by first | (with_reducible assumption) | assumption)
       obtain ⟨ad644, e644, hx644_0, hx644_1, hx644_2, hx644_3, hx644_4, hx644_5⟩ := at_T47 HR0.out x8_1 p644 q644
       cases e644
       replace hx644_0 := (HB.out.cell (World.block_lt_of_cell? w _ hx644_0)).trans hx644_0
       replace hx644_1 := (HB.out.cell (World.block_lt_of_cell? w _ hx644_1)).trans hx644_1
       replace hx644_2 := (HB.out.cell (World.block_lt_of_cell? w _ hx644_2)).trans hx644_2
       replace hx644_3 := (HB.out.cell (World.block_lt_of_cell? w _ hx644_3)).trans hx644_3
       replace hx644_4 := (HB.out.cell (World.block_lt_of_cell? w _ hx644_4)).trans hx644_4
       replace hx644_5 := (HB.out.cell (World.block_lt_of_cell? w _ hx644_5)).trans hx644_5
       replace p644 := eq_true p644
       replace q644 := eq_true q644
       go_wp2_with (first | ((with_reducible refine gate_dst (N := 5) rfl ?_); refine box_event ?hg (N := 5) ?hd (cs := #[.int .i64 0, .int .i64 0, .int .i64 0, .int .i64 0, .int .i64 0, .string (⟨#[]⟩ : ByteArray)]) (t := 47) ?hr ?_; (case hd => rfl); (case hg => rfl); (case hr => first | (go_simp; done) | (go_simp; rfl)); intro gb645 hg w6 hbox hb; have n0_ := mk0 (Kd.R_below (rT HO_3.out) hb); have n1_ := mk0 (below_step (wT HB.out) hb); have n2_ := mk0 (hbox); have n3_ := mk0 ((szT HB.out hg)); have n4_ := mk0 ((szT HB.out hg)); clear HO_3; clear HB; have HO_3 := n0_; have HB := n1_; have BK645 := n2_; have GW645 := n3_; have GE645 := n4_; clear n0_ n1_ n2_ n3_ n4_; clear hb hbox hg; have X7_0 := ct BK645.out 0; have X7_1 := ct BK645.out 1; have X7_2 := ct BK645.out 2; have X7_3 := ct BK645.out 3; have X7_4 := ct BK645.out 4; have X7_5 := ct BK645.out 5; have Y7_0 := blk_frozen BK645.out 0; have Y7_1 := blk_frozen BK645.out 1; have Y7_2 := blk_frozen BK645.out 2; have Y7_3 := blk_frozen BK645.out 3; have Y7_4 := blk_frozen BK645.out 4; have Y7_5 := blk_frozen BK645.out 5) | ((with_reducible refine gate_builtin (b := .append) (xs := #[.tmp 12, .tmp 14]) rfl ?_); at_builtin; refine Kd.R_append k52 (w0 := w) w.heap.size rfl (.tmp 12) (.tmp 14) 63 52 (.agg #[(.int .i64 0), (.int .i64 0), (.int .i64 0), (.int .i64 0), (.int .i64 0), (.string ⟨#[]⟩)]) 56 rfl Tryz.underlying63 info52 rfl (by decide) (by omega) u3 x3_1 (⟨(rd_T47 l0 x8_1).f0, (⟨(rd_T47 l0 x8_1).f1.f0, (rd_T47 l0 x8_1).f1.f1, (rd_T47 l0 x8_1).f1.f2⟩ : S23), (rd_T47 l0 x8_1).f2, (rd_T47 l0 x8_1).f3⟩ : S52) [.int .i64 ((rd_T47 l0 x8_1).f0), .int .i64 ((rd_T47 l0 x8_1).f1.f0), .int .i64 ((rd_T47 l0 x8_1).f1.f1), .int .i64 ((rd_T47 l0 x8_1).f1.f2), .int .i64 ((rd_T47 l0 x8_1).f2), .string ((rd_T47 l0 x8_1).f3)] (fun _ => True) (fun _ => False) rfl (by first | (go_simp; done) | (go_simp; rfl)) ?aP (fun _ hk => hk.elim) ?aF ?aO ?aB ?aS ?aL ?_; (case aP => exact k52_mkM _ _ _ (⟨(rd_T47 l0 x8_1).f0, (⟨(rd_T47 l0 x8_1).f1.f0, (rd_T47 l0 x8_1).f1.f1, (rd_T47 l0 x8_1).f1.f2⟩ : S23), (rd_T47 l0 x8_1).f2, (rd_T47 l0 x8_1).f3⟩ : S52)); (case aB => exact (by repeat (first | (with_reducible first | exact HB.out | apply below_alloc | apply pw_below_drewN | apply below_drew1 | refine below_set ?_ GE645.out) | exact HB.out))); (case aF => exact (fun _ _ => trivial)); (case aO => exact (by (with_reducible repeat (first | apply Kd.R_alloc | apply Kd.R_drewN | apply Kd.R_drew)); exact Kd.R_mono (Kd.R_far (p := ⟨gb645, 5, none⟩) (Kd.R_far (p := ⟨gb645, 4, none⟩) (Kd.R_far (p := ⟨gb645, 3, none⟩) (Kd.R_far (p := ⟨gb645, 2, none⟩) (Kd.R_far (p := ⟨gb645, 1, none⟩) (Kd.R_far (p := ⟨gb645, 0, none⟩) (Kd.R_types HO_3.out BK645.out (by decide)) (fun _ hk => hk.2) (.int .i64 ((rd_T47 l0 x8_1).f0))) (fun _ hk => hk.2) (.int .i64 ((rd_T47 l0 x8_1).f1.f0))) (fun _ hk => hk.2) (.int .i64 ((rd_T47 l0 x8_1).f1.f1))) (fun _ hk => hk.2) (.int .i64 ((rd_T47 l0 x8_1).f1.f2))) (fun _ hk => hk.2) (.int .i64 ((rd_T47 l0 x8_1).f2))) (fun _ hk => hk.2) (.string ((rd_T47 l0 x8_1).f3))) (fun _ hk => trivial))); (case aS => exact (below_size (by repeat (first | (with_reducible first | exact HB.out | apply below_alloc | apply pw_below_drewN | apply below_drew1 | refine below_set ?_ GE645.out) | exact HB.out)))); (case aL => have := LMc5.out; omega); intro v647 w8 ho hb hg hat; rw [← Ny646.out] at ho; have n0_ := mk0 (blk_grown (g := gb645) (o := .cells #[.int .i64 ((rd_T47 l0 x8_1).f0), .int .i64 ((rd_T47 l0 x8_1).f1.f0), .int .i64 ((rd_T47 l0 x8_1).f1.f1), .int .i64 ((rd_T47 l0 x8_1).f1.f2), .int .i64 ((rd_T47 l0 x8_1).f2), .string ((rd_T47 l0 x8_1).f3)] 47 (0, 0)) (by (with_reducible repeat (first | refine blk_drewN ?_ _ | refine blk_drew ?_ | refine blk_alloc ?_ _)); refine blk_put (cs := #[.int .i64 ((rd_T47 l0 x8_1).f0), .int .i64 ((rd_T47 l0 x8_1).f1.f0), .int .i64 ((rd_T47 l0 x8_1).f1.f1), .int .i64 ((rd_T47 l0 x8_1).f1.f2), .int .i64 ((rd_T47 l0 x8_1).f2), .string (⟨#[]⟩ : ByteArray)]) ?_ 5 _ rfl; refine blk_put (cs := #[.int .i64 ((rd_T47 l0 x8_1).f0), .int .i64 ((rd_T47 l0 x8_1).f1.f0), .int .i64 ((rd_T47 l0 x8_1).f1.f1), .int .i64 ((rd_T47 l0 x8_1).f1.f2), .int .i64 0, .string (⟨#[]⟩ : ByteArray)]) ?_ 4 _ rfl; refine blk_put (cs := #[.int .i64 ((rd_T47 l0 x8_1).f0), .int .i64 ((rd_T47 l0 x8_1).f1.f0), .int .i64 ((rd_T47 l0 x8_1).f1.f1), .int .i64 0, .int .i64 0, .string (⟨#[]⟩ : ByteArray)]) ?_ 3 _ rfl; refine blk_put (cs := #[.int .i64 ((rd_T47 l0 x8_1).f0), .int .i64 ((rd_T47 l0 x8_1).f1.f0), .int .i64 0, .int .i64 0, .int .i64 0, .string (⟨#[]⟩ : ByteArray)]) ?_ 2 _ rfl; refine blk_put (cs := #[.int .i64 ((rd_T47 l0 x8_1).f0), .int .i64 0, .int .i64 0, .int .i64 0, .int .i64 0, .string (⟨#[]⟩ : ByteArray)]) ?_ 1 _ rfl; refine blk_put (cs := #[.int .i64 0, .int .i64 0, .int .i64 0, .int .i64 0, .int .i64 0, .string (⟨#[]⟩ : ByteArray)]) ?_ 0 _ rfl; (with_reducible repeat (first | refine blk_drewN ?_ _ | refine blk_drew ?_ | refine blk_alloc ?_ _)); exact BK645.out) hg (Kd.R_ne HO_3.out BK645.out (by decide))); have n1_ := mk0 (hb); have n2_ := mk0 (ho); clear BK645; clear HB; clear HO_3; have BK645 := n0_; have HB := n1_; have HO648 := n2_; clear n0_ n1_ n2_; clear ho hb hg hat))
       go_roundg k1
       case measure => have := HK1.out; omega
       case rel => exact ⟨(y646), (wrap64 (x8_1 + 1)), (by first | rfl | (simp; done) | (simp [*]; done) | exact congrArg (Value.int .i64) (by unfold wrap64; omega)), H', ⟨by have := HK1.out; omega⟩, ⟨rT HO648.out⟩, ⟨wT HB.out⟩⟩
      ·rw [if_neg c5] at H
       exact absurd H (by simp)
     ·rw [if_neg c4] at H
      exact absurd H (by simp)
    ·rw [if_neg c3] at H
     exact absurd H (by simp)
   ·rw [if_neg c2] at H
    have c2b0 : decide (x8_1 < (l0.length : Int)) = false := decide_eq_false c2
    clear c2
    obtain rfl := Option.some.inj H
    go_wp2
    go_ret
    exact ⟨_, eqT, rT HO_3.out, wT HB.out⟩
end Go.Proofs.YtolbjmaabghghaaGreatDoor.PA
