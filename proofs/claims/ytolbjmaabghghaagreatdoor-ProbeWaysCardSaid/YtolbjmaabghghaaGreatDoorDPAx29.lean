/- A part of the proof. -/
import Derived.Test.YtolbjmaabghghaaGreatDoorDPAx0
import Derived.Test.YtolbjmaabghghaaGreatDoorDPAx28
namespace Go.Proofs.YtolbjmaabghghaaGreatDoor.PA
open Go.RowKit Go.PW Go.PL Go.PM
attribute [local go_sem] max2_int min2_int max_two min_two max_three min_three max_four min_four   -- for this text's walks alone
set_option linter.unusedVariables false
set_option maxHeartbeats 8000000
set_option maxRecDepth 100000
set_option linter.unusedSimpArgs false
def metrolabref30_Near.f (a0_0 : Int) (a0_1 : Int) (a0_2 : Int) (a1_0 : Int) (a1_1 : Int) (a1_2 : Int) : Option (Bool) := (metrolabref30_near.f a0_0 a0_1 a0_2).bind fun t639 => (if t639 = true then ((metrolabref30_near.f a1_0 a1_1 a1_2).bind fun t640 => (some t640)) else (some false))
theorem metrolabref30_Near.calls (a0_0 : Int) (a0_1 : Int) (a0_2 : Int) (a1_0 : Int) (a1_1 : Int) (a1_2 : Int) (r : Bool) (w : World) (h : metrolabref30_Near.f a0_0 a0_1 a0_2 a1_0 a1_1 a1_2 = some r) :
  Calls Tryz.prog 27 #[.agg #[.int .i64 a0_0, .int .i64 a0_1, .int .i64 a0_2], .agg #[.int .i64 a1_0, .int .i64 a1_1, .int .i64 a1_2]] w fun e w' => e = .returned (.bool r) ∧ Below w.heap.size w w' := by
 have hu23 := Tryz.underlying23
 have HB := mk0 (Below.refl w.heap.size w)
 have H : ((metrolabref30_near.f a0_0 a0_1 a0_2).bind fun t639 => (if t639 = true then ((metrolabref30_near.f a1_0 a1_1 a1_2).bind fun t640 => (some t640)) else (some false))) = some r := h
 clear h
 replace H := Option.bind_eq_some_iff.mp H
 obtain ⟨t639, A30, H⟩ := H
 replace H : (if t639 = true then ((metrolabref30_near.f a1_0 a1_1 a1_2).bind fun t640 => (some t640)) else (some false)) = some r := H
 have A3 := mk0 A30
 clear A30
 by_cases c4 : t639 = true
 ·subst c4
  have H1 : ((metrolabref30_near.f a1_0 a1_1 a1_2).bind fun t640 => (some t640)) = some r := by rw [if_pos rfl] at H; exact H
  clear H
  have H := H1
  clear H1
  replace H := Option.bind_eq_some_iff.mp H
  obtain ⟨t640, A50, H⟩ := H
  replace H : (some t640) = some r := H
  have A5 := mk0 A50
  clear A50
  obtain rfl := Option.some.inj H
  go_enter Tryz.func27, Tryz.ntmps27
  go_wp2_with (first | ((with_reducible refine gate_dst (N := 2) rfl ?_); refine box_event ?hg (N := 2) ?hd (cs := #[.int .i64 a0_0, .int .i64 a0_1, .int .i64 a0_2]) (t := 23) ?hr ?_; (case hd => rfl); (case hg => rfl); (case hr => first | (go_simp; done) | (go_simp; rfl)); intro gb637 hg w6 hbox hb; have n0_ := mk0 (below_step (wT HB.out) hb); have n1_ := mk0 (hbox); have n2_ := mk0 ((szT HB.out hg)); have n3_ := mk0 ((szT HB.out hg)); clear HB; have HB := n0_; have BK637 := n1_; have GW637 := n2_; have GE637 := n3_; clear n0_ n1_ n2_ n3_; clear hb hbox hg) | ((with_reducible refine gate_dst (N := 3) rfl ?_); refine box_event ?hg (N := 3) ?hd (cs := #[.int .i64 a1_0, .int .i64 a1_1, .int .i64 a1_2]) (t := 23) ?hr ?_; (case hd => rfl); (case hg => rfl); (case hr => first | (go_simp; done) | (go_simp; rfl)); intro gb638 hg w7 hbox hb; have n0_ := mk0 (bbT BK637.out hb); have n1_ := mk0 (below_step (wT HB.out) hb); have n2_ := mk0 (hbox); have n3_ := mk0 ((szT HB.out hg)); have n4_ := mk0 ((szT HB.out hg)); have n5_ := mk0 ((neL BK637.out hg)); have n6_ := mk0 ((neG BK637.out hg)); clear BK637; clear HB; have BK637 := n0_; have HB := n1_; have BK638 := n2_; have GW638 := n3_; have GE638 := n4_; have NB637_638 := n5_; have NB638_637 := n6_; clear n0_ n1_ n2_ n3_ n4_ n5_ n6_; clear hb hbox hg; have hnb8 := NB637_638.out; have hnc8 := NB638_637.out; have X9_0 := ct BK637.out 0; have X9_1 := ct BK637.out 1; have X9_2 := ct BK637.out 2; have Y9_0 := blk_frozen BK637.out 0; have Y9_1 := blk_frozen BK637.out 1; have Y9_2 := blk_frozen BK637.out 2; (try clear BK637 GW637 GE637)) | ((with_reducible refine gate_callee (f := 56) rfl ?_); refine goesL_ (some 6) rfl rfl Tryz.func56 (by kernel_rfl) rfl #[.agg #[.int .i64 a0_0, .int .i64 a0_1, .int .i64 a0_2]] rfl (by (try simp only [List.map_toArray, List.map_cons, List.map_nil]); first | done | rfl | (simp only [List.length_drop, List.length_take]; rfl)) ?_; (with_reducible refine (metrolabref30_near.calls a0_0 a0_1 a0_2 true _ A3.out).mono ?_); rintro e w10 ⟨rfl, hb⟩; refine ⟨_, rfl, ?_⟩; have n0_ := mk0 (bbT BK638.out hb); have n1_ := mk0 (below_step (wT HB.out) hb); clear BK638; clear HB; have BK638 := n0_; have HB := n1_; clear n0_ n1_; (try clear hb); (try clear hb2); (try clear hk); (try clear hi); have X11_0 := ct BK638.out 0; have X11_1 := ct BK638.out 1; have X11_2 := ct BK638.out 2; have Y11_0 := blk_frozen BK638.out 0; have Y11_1 := blk_frozen BK638.out 1; have Y11_2 := blk_frozen BK638.out 2; (try clear BK638 GW638 GE638)) | (go_at_call 56; (with_reducible refine (metrolabref30_near.calls a1_0 a1_1 a1_2 t640 _ A5.out).mono ?_); rintro e w12 ⟨rfl, hb⟩; have n0_ := mk0 (below_step (wT HB.out) hb); clear HB; have HB := n0_; clear n0_; (try clear hb); (try clear hb2); (try clear hk); (try clear hi)))
  go_ret
  exact ⟨eqT, wT HB.out⟩
 ·replace c4 := Bool.eq_false_iff.mpr c4
  subst c4
  have H1 : (some false) = some r := by rw [if_neg (show ¬ (false = true) by decide)] at H; exact H
  clear H
  have H := H1
  clear H1
  obtain rfl := Option.some.inj H
  go_enter Tryz.func27, Tryz.ntmps27
  go_wp2_with (first | ((with_reducible refine gate_dst (N := 2) rfl ?_); refine box_event ?hg (N := 2) ?hd (cs := #[.int .i64 a0_0, .int .i64 a0_1, .int .i64 a0_2]) (t := 23) ?hr ?_; (case hd => rfl); (case hg => rfl); (case hr => first | (go_simp; done) | (go_simp; rfl)); intro gb637 hg w13 hbox hb; have n0_ := mk0 (below_step (wT HB.out) hb); have n1_ := mk0 (hbox); have n2_ := mk0 ((szT HB.out hg)); have n3_ := mk0 ((szT HB.out hg)); clear HB; have HB := n0_; have BK637 := n1_; have GW637 := n2_; have GE637 := n3_; clear n0_ n1_ n2_ n3_; clear hb hbox hg) | ((with_reducible refine gate_dst (N := 3) rfl ?_); refine box_event ?hg (N := 3) ?hd (cs := #[.int .i64 a1_0, .int .i64 a1_1, .int .i64 a1_2]) (t := 23) ?hr ?_; (case hd => rfl); (case hg => rfl); (case hr => first | (go_simp; done) | (go_simp; rfl)); intro gb638 hg w14 hbox hb; have n0_ := mk0 (bbT BK637.out hb); have n1_ := mk0 (below_step (wT HB.out) hb); have n2_ := mk0 (hbox); have n3_ := mk0 ((szT HB.out hg)); have n4_ := mk0 ((szT HB.out hg)); have n5_ := mk0 ((neL BK637.out hg)); have n6_ := mk0 ((neG BK637.out hg)); clear BK637; clear HB; have BK637 := n0_; have HB := n1_; have BK638 := n2_; have GW638 := n3_; have GE638 := n4_; have NB637_638 := n5_; have NB638_637 := n6_; clear n0_ n1_ n2_ n3_ n4_ n5_ n6_; clear hb hbox hg; (try clear BK638 GW638 GE638); have X15_0 := ct BK637.out 0; have X15_1 := ct BK637.out 1; have X15_2 := ct BK637.out 2; have Y15_0 := blk_frozen BK637.out 0; have Y15_1 := blk_frozen BK637.out 1; have Y15_2 := blk_frozen BK637.out 2; (try clear BK637 GW637 GE637)) | ((with_reducible refine gate_callee (f := 56) rfl ?_); refine goesL_ (some 6) rfl rfl Tryz.func56 (by kernel_rfl) rfl #[.agg #[.int .i64 a0_0, .int .i64 a0_1, .int .i64 a0_2]] rfl (by (try simp only [List.map_toArray, List.map_cons, List.map_nil]); first | done | rfl | (simp only [List.length_drop, List.length_take]; rfl)) ?_; (with_reducible refine (metrolabref30_near.calls a0_0 a0_1 a0_2 false _ A3.out).mono ?_); rintro e w16 ⟨rfl, hb⟩; refine ⟨_, rfl, ?_⟩; have n0_ := mk0 (below_step (wT HB.out) hb); clear HB; have HB := n0_; clear n0_; (try clear hb); (try clear hb2); (try clear hk); (try clear hi)))
  go_ret
  exact ⟨eqT, wT HB.out⟩
def metrolabref30_differ.j0 : Nat → Int → Int → Int → Int → Int → Int → Int → Option (Int)
 | 0, _, _, _, _, _, _, _ => none
 | k + 1, x5, x650000, x650001, x650002, x651000, x651001, x651002 => if x650001 = x651001 then (if x650002 = x651002 then (some x5) else (some (wrap64 (x5 + 1)))) else (if x650002 = x651002 then (some (wrap64 (x5 + 1))) else (some (wrap64 ((wrap64 (x5 + 1)) + 1))))
def metrolabref30_differ.f (k : Nat) (a0_0 : Int) (a0_1 : Int) (a0_2 : Int) (a1_0 : Int) (a1_1 : Int) (a1_2 : Int) : Option (Int) := if a0_0 = a1_0 then (metrolabref30_differ.j0 k 0 a0_0 a0_1 a0_2 a1_0 a1_1 a1_2) else (metrolabref30_differ.j0 k (0 + 1) a0_0 a0_1 a0_2 a1_0 a1_1 a1_2)
theorem metrolabref30_differ.calls (k : Nat) (a0_0 : Int) (a0_1 : Int) (a0_2 : Int) (a1_0 : Int) (a1_1 : Int) (a1_2 : Int) (r : Int) (w : World) (h : metrolabref30_differ.f k a0_0 a0_1 a0_2 a1_0 a1_1 a1_2 = some r) :
  Calls Tryz.prog 62 #[.agg #[.int .i64 a0_0, .int .i64 a0_1, .int .i64 a0_2], .agg #[.int .i64 a1_0, .int .i64 a1_1, .int .i64 a1_2]] w fun e w' => e = .returned (.int .i64 r) ∧ Below w.heap.size w w' := by
 have hu23 := Tryz.underlying23
 have HB := mk0 (Below.refl w.heap.size w)
 have H : (if a0_0 = a1_0 then (metrolabref30_differ.j0 k 0 a0_0 a0_1 a0_2 a1_0 a1_1 a1_2) else (metrolabref30_differ.j0 k (0 + 1) a0_0 a0_1 a0_2 a1_0 a1_1 a1_2)) = some r := h
 clear h
 have HC3 := mk0 H
 clear H
 go_enter Tryz.func62, Tryz.ntmps62
 go_upto_if 10 with (first | ((with_reducible refine gate_dst (N := 2) rfl ?_); refine box_event ?hg (N := 2) ?hd (cs := #[.int .i64 a0_0, .int .i64 a0_1, .int .i64 a0_2]) (t := 23) ?hr ?_; (case hd => rfl); (case hg => rfl); (case hr => first | (go_simp; done) | (go_simp; rfl)); intro gb649 hg w4 hbox hb; have n0_ := mk0 (below_step (wT HB.out) hb); have n1_ := mk0 (hbox); have n2_ := mk0 ((szT HB.out hg)); have n3_ := mk0 ((szT HB.out hg)); clear HB; have HB := n0_; have BK649 := n1_; have GW649 := n2_; have GE649 := n3_; clear n0_ n1_ n2_ n3_; clear hb hbox hg) | ((with_reducible refine gate_dst (N := 3) rfl ?_); refine box_event ?hg (N := 3) ?hd (cs := #[.int .i64 a1_0, .int .i64 a1_1, .int .i64 a1_2]) (t := 23) ?hr ?_; (case hd => rfl); (case hg => rfl); (case hr => first | (go_simp; done) | (go_simp; rfl)); intro gb650 hg w5 hbox hb; have n0_ := mk0 (bbT BK649.out hb); have n1_ := mk0 (below_step (wT HB.out) hb); have n2_ := mk0 (hbox); have n3_ := mk0 ((szT HB.out hg)); have n4_ := mk0 ((szT HB.out hg)); have n5_ := mk0 ((neL BK649.out hg)); have n6_ := mk0 ((neG BK649.out hg)); clear BK649; clear HB; have BK649 := n0_; have HB := n1_; have BK650 := n2_; have GW650 := n3_; have GE650 := n4_; have NB649_650 := n5_; have NB650_649 := n6_; clear n0_ n1_ n2_ n3_ n4_ n5_ n6_; clear hb hbox hg; have hnb6 := NB649_650.out; have hnc6 := NB650_649.out; have X7_0 := ct BK649.out 0; have X7_1 := ct BK649.out 1; have X7_2 := ct BK649.out 2; have Y7_0 := blk_frozen BK649.out 0; have Y7_1 := blk_frozen BK649.out 1; have Y7_2 := blk_frozen BK649.out 2; have X8_0 := ct BK650.out 0; have X8_1 := ct BK650.out 1; have X8_2 := ct BK650.out 2; have Y8_0 := blk_frozen BK650.out 0; have Y8_1 := blk_frozen BK650.out 1; have Y8_2 := blk_frozen BK650.out 2))
 (try simp only [Act.put, List.setIfInBounds_toArray, List.set_cons_zero, List.set_cons_succ])
 go_cut [5] (fun v5 wc => ∃ (kq : Nat) (x5_2 : Int), v5 = .int .i64 x5_2 ∧ Aside0 (metrolabref30_differ.j0 kq x5_2 a0_0 a0_1 a0_2 a1_0 a1_1 a1_2 = some r) ∧ Aside0 (kq ≤ k) ∧ Aside0 (wc.heap[gb649]? = some (.cells #[.int .i64 a0_0, .int .i64 a0_1, .int .i64 a0_2] 23 (0, 0))) ∧ Aside0 (wc.heap[gb650]? = some (.cells #[.int .i64 a1_0, .int .i64 a1_1, .int .i64 a1_2] 23 (0, 0))) ∧ Aside0 (Below w.heap.size w wc))
 case first =>
  have H := HC3.out
  clear HC3
  by_cases c9 : a0_0 = a1_0
  ·rw [if_pos c9] at H
   have c9b0 : (a0_0 == a1_0) = true := beq_iff_eq.mpr c9
   have c9b1 : (a0_0 != a1_0) = false := bne_eq_false_iff_eq.mpr c9
   clear c9
   (first | rw [c9b0] | (simp only [i64_w, i32_w]; rw [c9b0]) | skip)
   have H' := mk0 H
   clear H
   go_wp2
   go_meet
   case rel => exact ⟨_, (0), (by first | rfl | (simp; done) | (simp [*]; done) | exact congrArg (Value.int .i64) (by unfold wrap64; omega)), H', ⟨by first | omega | exact Nat.le_refl _⟩, ⟨bT BK649.out⟩, ⟨bT BK650.out⟩, ⟨wT HB.out⟩⟩
  ·rw [if_neg c9] at H
   have c9b0 : (a0_0 == a1_0) = false := beq_eq_false_iff_ne.mpr c9
   have c9b1 : (a0_0 != a1_0) = true := bne_iff_ne.mpr c9
   (first | rw [c9b0] | (simp only [i64_w, i32_w]; rw [c9b0]) | skip)
   have H' := mk0 H
   clear H
   go_wp2
   go_meet
   case rel => exact ⟨_, (0 + 1), (by first | rfl | (simp; done) | (simp [*]; done) | exact congrArg (Value.int .i64) (by unfold wrap64; omega)), H', ⟨by first | omega | exact Nat.le_refl _⟩, ⟨bT BK649.out⟩, ⟨bT BK650.out⟩, ⟨wT HB.out⟩⟩
 case rest =>
  clear HC3
  try clear p2
  try clear c6
  try clear p6
  try clear c9
  try clear c9b0
  try clear c9b1
  try clear X7_0
  try clear X7_1
  try clear X7_2
  try clear X8_0
  try clear X8_1
  try clear X8_2
  try clear Y7_0
  try clear Y7_1
  try clear Y7_2
  try clear Y8_0
  try clear Y8_1
  try clear Y8_2
  obtain ⟨kq, x5_2, rfl, HA, HJ2, BK649, BK650, HB⟩ := hcut
  cases kq with
  | zero => exact absurd HA.out (by simp [metrolabref30_differ.j0])
  | succ kj2 =>
   have H := HA.out
   clear HA
   simp only [metrolabref30_differ.j0] at H
   by_cases c10 : a0_1 = a1_1
   ·rw [if_pos c10] at H
    have c10b0 : (a0_1 == a1_1) = true := beq_iff_eq.mpr c10
    have c10b1 : (a0_1 != a1_1) = false := bne_eq_false_iff_eq.mpr c10
    clear c10
    by_cases c11 : a0_2 = a1_2
    ·rw [if_pos c11] at H
     have c11b0 : (a0_2 == a1_2) = true := beq_iff_eq.mpr c11
     have c11b1 : (a0_2 != a1_2) = false := bne_eq_false_iff_eq.mpr c11
     clear c11
     obtain rfl := Option.some.inj H
     have hnb12 := NB649_650.out
     have hnc12 := NB650_649.out
     have X13_0 := ct BK649.out 0
     have X13_1 := ct BK649.out 1
     have X13_2 := ct BK649.out 2
     have Y13_0 := blk_frozen BK649.out 0
     have Y13_1 := blk_frozen BK649.out 1
     have Y13_2 := blk_frozen BK649.out 2
     have X14_0 := ct BK650.out 0
     have X14_1 := ct BK650.out 1
     have X14_2 := ct BK650.out 2
     have Y14_0 := blk_frozen BK650.out 0
     have Y14_1 := blk_frozen BK650.out 1
     have Y14_2 := blk_frozen BK650.out 2
     go_wp2
     go_ret
     exact ⟨eqT, wT HB.out⟩
    ·rw [if_neg c11] at H
     have c11b0 : (a0_2 == a1_2) = false := beq_eq_false_iff_ne.mpr c11
     have c11b1 : (a0_2 != a1_2) = true := bne_iff_ne.mpr c11
     obtain rfl := Option.some.inj H
     have hnb15 := NB649_650.out
     have hnc15 := NB650_649.out
     have X16_0 := ct BK649.out 0
     have X16_1 := ct BK649.out 1
     have X16_2 := ct BK649.out 2
     have Y16_0 := blk_frozen BK649.out 0
     have Y16_1 := blk_frozen BK649.out 1
     have Y16_2 := blk_frozen BK649.out 2
     have X17_0 := ct BK650.out 0
     have X17_1 := ct BK650.out 1
     have X17_2 := ct BK650.out 2
     have Y17_0 := blk_frozen BK650.out 0
     have Y17_1 := blk_frozen BK650.out 1
     have Y17_2 := blk_frozen BK650.out 2
     go_wp2
     go_ret
     exact ⟨eqT, wT HB.out⟩
   ·rw [if_neg c10] at H
    have c10b0 : (a0_1 == a1_1) = false := beq_eq_false_iff_ne.mpr c10
    have c10b1 : (a0_1 != a1_1) = true := bne_iff_ne.mpr c10
    by_cases c18 : a0_2 = a1_2
    ·rw [if_pos c18] at H
     have c18b0 : (a0_2 == a1_2) = true := beq_iff_eq.mpr c18
     have c18b1 : (a0_2 != a1_2) = false := bne_eq_false_iff_eq.mpr c18
     clear c18
     obtain rfl := Option.some.inj H
     have hnb19 := NB649_650.out
     have hnc19 := NB650_649.out
     have X20_0 := ct BK649.out 0
     have X20_1 := ct BK649.out 1
     have X20_2 := ct BK649.out 2
     have Y20_0 := blk_frozen BK649.out 0
     have Y20_1 := blk_frozen BK649.out 1
     have Y20_2 := blk_frozen BK649.out 2
     have X21_0 := ct BK650.out 0
     have X21_1 := ct BK650.out 1
     have X21_2 := ct BK650.out 2
     have Y21_0 := blk_frozen BK650.out 0
     have Y21_1 := blk_frozen BK650.out 1
     have Y21_2 := blk_frozen BK650.out 2
     go_wp2
     go_ret
     exact ⟨eqT, wT HB.out⟩
    ·rw [if_neg c18] at H
     have c18b0 : (a0_2 == a1_2) = false := beq_eq_false_iff_ne.mpr c18
     have c18b1 : (a0_2 != a1_2) = true := bne_iff_ne.mpr c18
     obtain rfl := Option.some.inj H
     have hnb22 := NB649_650.out
     have hnc22 := NB650_649.out
     have X23_0 := ct BK649.out 0
     have X23_1 := ct BK649.out 1
     have X23_2 := ct BK649.out 2
     have Y23_0 := blk_frozen BK649.out 0
     have Y23_1 := blk_frozen BK649.out 1
     have Y23_2 := blk_frozen BK649.out 2
     have X24_0 := ct BK650.out 0
     have X24_1 := ct BK650.out 1
     have X24_2 := ct BK650.out 2
     have Y24_0 := blk_frozen BK650.out 0
     have Y24_1 := blk_frozen BK650.out 1
     have Y24_2 := blk_frozen BK650.out 2
     go_wp2
     go_ret
     exact ⟨eqT, wT HB.out⟩
def metrolabref30_toward.f (a0 : Int) (a1 : Int) : Option (Int) := if a0 < a1 then (some (wrap64 (a0 + 1))) else (if a0 > a1 then (some (wrap64 (a0 - 1))) else (some a0))
theorem metrolabref30_toward.calls (a0 : Int) (a1 : Int) (r : Int) (w : World) (h : metrolabref30_toward.f a0 a1 = some r) :
  Calls Tryz.prog 87 #[.int .i64 a0, .int .i64 a1] w fun e w' => e = .returned (.int .i64 r) ∧ Drawn0 w w' := by
 have H : (if a0 < a1 then (some (wrap64 (a0 + 1))) else (if a0 > a1 then (some (wrap64 (a0 - 1))) else (some a0))) = some r := h
 clear h
 by_cases c3 : a0 < a1
 ·rw [if_pos c3] at H
  have c3b0 : decide (a0 < a1) = true := decide_eq_true c3
  clear c3
  obtain rfl := Option.some.inj H
  go_enter Tryz.func87, Tryz.ntmps87
  go_wp2
  go_ret
  exact ⟨by first | rfl | (simp; done) | (simp [*]; done) | exact congrArg (Value.int .i64) (by unfold wrap64; omega), by repeat (first | exact Drawn0.refl _ | apply Drawn0.step)⟩
 ·rw [if_neg c3] at H
  have c3b0 : decide (a0 < a1) = false := decide_eq_false c3
  clear c3
  by_cases c4 : a0 > a1
  ·rw [if_pos c4] at H
   have c4b0 : decide (a1 < a0) = true := decide_eq_true c4
   clear c4
   obtain rfl := Option.some.inj H
   go_enter Tryz.func87, Tryz.ntmps87
   go_wp2
   go_ret
   exact ⟨by first | rfl | (simp; done) | (simp [*]; done) | exact congrArg (Value.int .i64) (by unfold wrap64; omega), by repeat (first | exact Drawn0.refl _ | apply Drawn0.step)⟩
  ·rw [if_neg c4] at H
   have c4b0 : decide (a1 < a0) = false := decide_eq_false c4
   clear c4
   obtain rfl := Option.some.inj H
   go_enter Tryz.func87, Tryz.ntmps87
   go_wp2
   go_ret
   exact ⟨by first | rfl | (simp; done) | (simp [*]; done) | exact congrArg (Value.int .i64) (by unfold wrap64; omega), by repeat (first | exact Drawn0.refl _ | apply Drawn0.step)⟩
end Go.Proofs.YtolbjmaabghghaaGreatDoor.PA
