/- A part of the proof. -/
import Derived.Test.YtolbjmaabghghaaGreatDoorH7PAx0
import Derived.Test.YtolbjmaabghghaaGreatDoorH7PAx17
namespace Go.Proofs.YtolbjmaabghghaaGreatDoor.PA
open Go.RowKit Go.PW Go.PL Go.PM
attribute [local go_sem] max2_int min2_int max_two min_two max_three min_three max_four min_four   -- for this text's walks alone
set_option linter.unusedVariables false
set_option maxHeartbeats 8000000
set_option maxRecDepth 100000
set_option linter.unusedSimpArgs false
mutual
def metrolabref30_Check.j0 : Nat → Bool → Int → Int → Int → Int → Int → Int → List (S92) → Option (Int)
 | 0, _, _, _, _, _, _, _, _ => none
 | k + 1, x14, x411000, x411001, x411002, x411003, x411004, x411005, x411006 => if x14 = true then (some 2) else (if x411000 > x411003 then (metrolabref30_Check.j1 k true x411000 x411001 x411002 x411003 x411004 x411005 x411006) else (if x411001 > x411004 then (metrolabref30_Check.j1 k true x411000 x411001 x411002 x411003 x411004 x411005 x411006) else (metrolabref30_Check.j1 k (decide (x411002 > x411005)) x411000 x411001 x411002 x411003 x411004 x411005 x411006)))
def metrolabref30_Check.j1 : Nat → Bool → Int → Int → Int → Int → Int → Int → List (S92) → Option (Int)
 | 0, _, _, _, _, _, _, _, _ => none
 | k + 1, x39, x411000, x411001, x411002, x411003, x411004, x411005, x411006 => if x39 = true then (some 9) else (if (x411006.length : Int) > 16 then (some 5) else (metrolabref30_Check.l0 k 0 x411000 x411001 x411002 x411003 x411004 x411005 x411006))
def metrolabref30_Check.l0 : Nat → Int → Int → Int → Int → Int → Int → Int → List (S92) → Option (Int)
 | 0, _, _, _, _, _, _, _, _ => none
 | k + 1, x3, x411000, x411001, x411002, x411003, x411004, x411005, x411006 => if x3 < (x411006.length : Int) then (if 0 ≤ x3 then (if ((rd_T92 x411006 x3).f0) ≥ 0 then (metrolabref30_Check.j3 k x3 (!(decide (((rd_T92 x411006 x3).f0) ≤ 2))) x411000 x411001 x411002 x411003 x411004 x411005 x411006 ((rd_T92 x411006 x3).f0) ((rd_T92 x411006 x3).f1.f0) ((rd_T92 x411006 x3).f1.f1) ((rd_T92 x411006 x3).f2)) else (metrolabref30_Check.j3 k x3 (!false) x411000 x411001 x411002 x411003 x411004 x411005 x411006 ((rd_T92 x411006 x3).f0) ((rd_T92 x411006 x3).f1.f0) ((rd_T92 x411006 x3).f1.f1) ((rd_T92 x411006 x3).f2))) else (none)) else (some 0)
def metrolabref30_Check.j3 : Nat → Int → Bool → Int → Int → Int → Int → Int → Int → List (S92) → Int → Int → Int → Int → Option (Int)
 | 0, _, _, _, _, _, _, _, _, _, _, _, _, _ => none
 | k + 1, x3, x64, x411000, x411001, x411002, x411003, x411004, x411005, x411006, x415000, x415001, x415002, x415003 => if x64 = true then (some 1) else ((metrolabref07_Right.f x415001 x415002).bind fun t415 => (if t415 = true then (if x415003 < 1 then (some 2) else (if x415003 > 100000 then (some 2) else (metrolabref30_Check.l0 k (wrap64 (x3 + 1)) x411000 x411001 x411002 x411003 x411004 x411005 x411006))) else (some 2)))
end
def metrolabref30_Check.f (k : Nat) (a0_0 : Int) (a0_1 : Int) (a0_2 : Int) (a0_3 : Int) (a0_4 : Int) (a0_5 : Int) (l0_6 : List (S92)) : Option (Int) := (metrolabref07_RightSpot.f a0_0 a0_1 a0_2).bind fun t411 => (if t411 = true then ((metrolabref07_RightSpot.f a0_3 a0_4 a0_5).bind fun t412 => (metrolabref30_Check.j0 k (!t412) a0_0 a0_1 a0_2 a0_3 a0_4 a0_5 l0_6)) else (metrolabref30_Check.j0 k true a0_0 a0_1 a0_2 a0_3 a0_4 a0_5 l0_6))
theorem metrolabref30_Check.calls (k : Nat) (a0_0 : Int) (a0_1 : Int) (a0_2 : Int) (a0_3 : Int) (a0_4 : Int) (a0_5 : Int) (A0_6 : Option Addr) (c0_6 : Nat) (l0_6 : List (S92)) (r : Int) (w : World) (hr0_6 : Kd.C k92 w A0_6 l0_6.length l0_6) (hc0_6 : l0_6.length ≤ c0_6) (h : metrolabref30_Check.f k a0_0 a0_1 a0_2 a0_3 a0_4 a0_5 l0_6 = some r) :
  Calls Tryz.prog 18 #[.agg #[.int .i64 a0_0, .int .i64 a0_1, .int .i64 a0_2, .int .i64 a0_3, .int .i64 a0_4, .int .i64 a0_5, .slice A0_6 l0_6.length c0_6]] w fun e w' => e = .returned (.int .i64 r) ∧ Below w.heap.size w w' := by
 have hu30 := Tryz.underlying30
 have hu23 := Tryz.underlying23
 have hu92 := Tryz.underlying92
 have hu81 := Tryz.underlying81
 have HR0_6 := mk0 hr0_6
 have HC0_6 := mk0 hc0_6
 clear hr0_6 hc0_6
 have HB := mk0 (Below.refl w.heap.size w)
 have H : ((metrolabref07_RightSpot.f a0_0 a0_1 a0_2).bind fun t411 => (if t411 = true then ((metrolabref07_RightSpot.f a0_3 a0_4 a0_5).bind fun t412 => (metrolabref30_Check.j0 k (!t412) a0_0 a0_1 a0_2 a0_3 a0_4 a0_5 l0_6)) else (metrolabref30_Check.j0 k true a0_0 a0_1 a0_2 a0_3 a0_4 a0_5 l0_6))) = some r := h
 clear h
 have HC2 := mk0 H
 clear H
 go_enter Tryz.func18, Tryz.ntmps18
 go_upto_region 1 with (first | ((with_reducible refine gate_dst (N := 1) rfl ?_); refine box_event ?hg (N := 1) ?hd (cs := #[.int .i64 a0_0, .int .i64 a0_1, .int .i64 a0_2, .int .i64 a0_3, .int .i64 a0_4, .int .i64 a0_5, .slice A0_6 l0_6.length c0_6]) (t := 30) ?hr ?_; (case hd => rfl); (case hg => rfl); (case hr => first | (go_simp; done) | (go_simp; rfl)); intro gb410 hg w3 hbox hb; have n0_ := mk0 (below_step (wT HB.out) hb); have n1_ := mk0 (hbox); have n2_ := mk0 ((szT HB.out hg)); have n3_ := mk0 ((szT HB.out hg)); clear HB; have HB := n0_; have BK410 := n1_; have GW410 := n2_; have GE410 := n3_; clear n0_ n1_ n2_ n3_; clear hb hbox hg))
 (try simp only [Act.put, List.setIfInBounds_toArray, List.set_cons_zero, List.set_cons_succ])
 go_cut [14] (fun v14 wc => ∃ (kq : Nat) (x14_1 : Bool), v14 = .bool x14_1 ∧ Aside0 (metrolabref30_Check.j0 kq x14_1 a0_0 a0_1 a0_2 a0_3 a0_4 a0_5 l0_6 = some r) ∧ Aside0 (kq ≤ k) ∧ Aside0 (wc.heap[gb410]? = some (.cells #[.int .i64 a0_0, .int .i64 a0_1, .int .i64 a0_2, .int .i64 a0_3, .int .i64 a0_4, .int .i64 a0_5, (.slice A0_6 l0_6.length c0_6)] 30 (0, 0))) ∧ Aside0 (Below w.heap.size w wc))
 case first =>
  have H := HC2.out
  clear HC2
  replace H := Option.bind_eq_some_iff.mp H
  obtain ⟨t411, A40, H⟩ := H
  replace H : (if t411 = true then ((metrolabref07_RightSpot.f a0_3 a0_4 a0_5).bind fun t412 => (metrolabref30_Check.j0 k (!t412) a0_0 a0_1 a0_2 a0_3 a0_4 a0_5 l0_6)) else (metrolabref30_Check.j0 k true a0_0 a0_1 a0_2 a0_3 a0_4 a0_5 l0_6)) = some r := H
  have A4 := mk0 A40
  clear A40
  by_cases c5 : t411 = true
  ·subst c5
   have H1 : ((metrolabref07_RightSpot.f a0_3 a0_4 a0_5).bind fun t412 => (metrolabref30_Check.j0 k (!t412) a0_0 a0_1 a0_2 a0_3 a0_4 a0_5 l0_6)) = some r := by rw [if_pos rfl] at H; exact H
   clear H
   have H := H1
   clear H1
   replace H := Option.bind_eq_some_iff.mp H
   obtain ⟨t412, A60, H⟩ := H
   replace H : (metrolabref30_Check.j0 k (!t412) a0_0 a0_1 a0_2 a0_3 a0_4 a0_5 l0_6) = some r := H
   have A6 := mk0 A60
   clear A60
   have H' := mk0 H
   clear H
   have X7_0 := ct BK410.out 0
   have X7_1 := ct BK410.out 1
   have X7_2 := ct BK410.out 2
   have X7_3 := ct BK410.out 3
   have X7_4 := ct BK410.out 4
   have X7_5 := ct BK410.out 5
   have X7_6 := ct BK410.out 6
   have Y7_0 := blk_frozen BK410.out 0
   have Y7_1 := blk_frozen BK410.out 1
   have Y7_2 := blk_frozen BK410.out 2
   have Y7_3 := blk_frozen BK410.out 3
   have Y7_4 := blk_frozen BK410.out 4
   have Y7_5 := blk_frozen BK410.out 5
   have Y7_6 := blk_frozen BK410.out 6
   go_wp2_with (first | ((with_reducible refine gate_callee (f := 45) rfl ?_); refine goesL_ (some 7) rfl rfl Tryz.func45 (by kernel_rfl) rfl #[.agg #[.int .i64 a0_0, .int .i64 a0_1, .int .i64 a0_2]] rfl (by (try simp only [List.map_toArray, List.map_cons, List.map_nil]); first | done | rfl | (simp only [List.length_drop, List.length_take]; rfl)) ?_; (with_reducible refine (metrolabref07_RightSpot.calls a0_0 a0_1 a0_2 true _ A4.out).mono ?_); rintro e w8 ⟨rfl, hb⟩; refine ⟨_, rfl, ?_⟩; have n0_ := mk0 (bbT BK410.out hb); have n1_ := mk0 (below_step (wT HB.out) hb); clear BK410; clear HB; have BK410 := n0_; have HB := n1_; clear n0_ n1_; (try clear hb); (try clear hb2); (try clear hk); (try clear hi); have X9_0 := ct BK410.out 0; have X9_1 := ct BK410.out 1; have X9_2 := ct BK410.out 2; have X9_3 := ct BK410.out 3; have X9_4 := ct BK410.out 4; have X9_5 := ct BK410.out 5; have X9_6 := ct BK410.out 6; have Y9_0 := blk_frozen BK410.out 0; have Y9_1 := blk_frozen BK410.out 1; have Y9_2 := blk_frozen BK410.out 2; have Y9_3 := blk_frozen BK410.out 3; have Y9_4 := blk_frozen BK410.out 4; have Y9_5 := blk_frozen BK410.out 5; have Y9_6 := blk_frozen BK410.out 6) | (go_at_call 45; (with_reducible refine (metrolabref07_RightSpot.calls a0_3 a0_4 a0_5 t412 _ A6.out).mono ?_); rintro e w10 ⟨rfl, hb⟩; have n0_ := mk0 (bbT BK410.out hb); have n1_ := mk0 (below_step (wT HB.out) hb); clear BK410; clear HB; have BK410 := n0_; have HB := n1_; clear n0_ n1_; (try clear hb); (try clear hb2); (try clear hk); (try clear hi)))
   go_meet
   case rel => exact ⟨_, (!t412), (by first | rfl | (simp; done) | (simp [*]; done) | exact congrArg (Value.int .i64) (by unfold wrap64; omega)), H', ⟨by first | omega | exact Nat.le_refl _⟩, ⟨bT BK410.out⟩, ⟨wT HB.out⟩⟩
  ·replace c5 := Bool.eq_false_iff.mpr c5
   subst c5
   have H1 : (metrolabref30_Check.j0 k true a0_0 a0_1 a0_2 a0_3 a0_4 a0_5 l0_6) = some r := by rw [if_neg (show ¬ (false = true) by decide)] at H; exact H
   clear H
   have H := H1
   clear H1
   have H' := mk0 H
   clear H
   have X11_0 := ct BK410.out 0
   have X11_1 := ct BK410.out 1
   have X11_2 := ct BK410.out 2
   have X11_3 := ct BK410.out 3
   have X11_4 := ct BK410.out 4
   have X11_5 := ct BK410.out 5
   have X11_6 := ct BK410.out 6
   have Y11_0 := blk_frozen BK410.out 0
   have Y11_1 := blk_frozen BK410.out 1
   have Y11_2 := blk_frozen BK410.out 2
   have Y11_3 := blk_frozen BK410.out 3
   have Y11_4 := blk_frozen BK410.out 4
   have Y11_5 := blk_frozen BK410.out 5
   have Y11_6 := blk_frozen BK410.out 6
   go_wp2_with (first | ((with_reducible refine gate_callee (f := 45) rfl ?_); refine goesL_ (some 7) rfl rfl Tryz.func45 (by kernel_rfl) rfl #[.agg #[.int .i64 a0_0, .int .i64 a0_1, .int .i64 a0_2]] rfl (by (try simp only [List.map_toArray, List.map_cons, List.map_nil]); first | done | rfl | (simp only [List.length_drop, List.length_take]; rfl)) ?_; (with_reducible refine (metrolabref07_RightSpot.calls a0_0 a0_1 a0_2 false _ A4.out).mono ?_); rintro e w12 ⟨rfl, hb⟩; refine ⟨_, rfl, ?_⟩; have n0_ := mk0 (bbT BK410.out hb); have n1_ := mk0 (below_step (wT HB.out) hb); clear BK410; clear HB; have BK410 := n0_; have HB := n1_; clear n0_ n1_; (try clear hb); (try clear hb2); (try clear hk); (try clear hi)))
   go_meet
   case rel => exact ⟨_, (true), (by first | rfl | (simp; done) | (simp [*]; done) | exact congrArg (Value.int .i64) (by unfold wrap64; omega)), H', ⟨by first | omega | exact Nat.le_refl _⟩, ⟨bT BK410.out⟩, ⟨wT HB.out⟩⟩
 case rest =>
  clear HC2
  try clear c1
  try clear p2
  try clear c4
  try clear c5
  try clear p6
  try clear X11_0
  try clear X11_1
  try clear X11_2
  try clear X11_3
  try clear X11_4
  try clear X11_5
  try clear X11_6
  try clear X7_0
  try clear X7_1
  try clear X7_2
  try clear X7_3
  try clear X7_4
  try clear X7_5
  try clear X7_6
  try clear X9_0
  try clear X9_1
  try clear X9_2
  try clear X9_3
  try clear X9_4
  try clear X9_5
  try clear X9_6
  try clear Y11_0
  try clear Y11_1
  try clear Y11_2
  try clear Y11_3
  try clear Y11_4
  try clear Y11_5
  try clear Y11_6
  try clear Y7_0
  try clear Y7_1
  try clear Y7_2
  try clear Y7_3
  try clear Y7_4
  try clear Y7_5
  try clear Y7_6
  try clear Y9_0
  try clear Y9_1
  try clear Y9_2
  try clear Y9_3
  try clear Y9_4
  try clear Y9_5
  try clear Y9_6
  obtain ⟨kq, x14_1, rfl, HA, HJ1, BK410, HB⟩ := hcut
  cases kq with
  | zero => exact absurd HA.out (by simp [metrolabref30_Check.j0])
  | succ kj1 =>
   have H := HA.out
   clear HA
   simp only [metrolabref30_Check.j0] at H
   by_cases c13 : x14_1 = true
   ·subst c13
    have H1 : (some 2) = some r := by rw [if_pos rfl] at H; exact H
    clear H
    have H := H1
    clear H1
    obtain rfl := Option.some.inj H
    go_wp2
    go_ret
    exact ⟨eqT, wT HB.out⟩
   ·replace c13 := Bool.eq_false_iff.mpr c13
    subst c13
    have H1 : (if a0_0 > a0_3 then (metrolabref30_Check.j1 kj1 true a0_0 a0_1 a0_2 a0_3 a0_4 a0_5 l0_6) else (if a0_1 > a0_4 then (metrolabref30_Check.j1 kj1 true a0_0 a0_1 a0_2 a0_3 a0_4 a0_5 l0_6) else (metrolabref30_Check.j1 kj1 (decide (a0_2 > a0_5)) a0_0 a0_1 a0_2 a0_3 a0_4 a0_5 l0_6))) = some r := by rw [if_neg (show ¬ (false = true) by decide)] at H; exact H
    clear H
    have H := H1
    clear H1
    have HC14 := mk0 H
    clear H
    go_upto_region 3 with (fail)
    go_cut [39] (fun v39 wc => ∃ (kq : Nat) (x39_13 : Bool), v39 = .bool x39_13 ∧ Aside0 (metrolabref30_Check.j1 kq x39_13 a0_0 a0_1 a0_2 a0_3 a0_4 a0_5 l0_6 = some r) ∧ Aside0 (kq ≤ kj1) ∧ Aside0 (wc.heap[gb410]? = some (.cells #[.int .i64 a0_0, .int .i64 a0_1, .int .i64 a0_2, .int .i64 a0_3, .int .i64 a0_4, .int .i64 a0_5, (.slice A0_6 l0_6.length c0_6)] 30 (0, 0))) ∧ Aside0 (Below w.heap.size w wc))
    case first =>
     have H := HC14.out
     clear HC14
     by_cases c15 : a0_0 > a0_3
     ·rw [if_pos c15] at H
      have c15b0 : decide (a0_3 < a0_0) = true := decide_eq_true c15
      clear c15
      (first | rw [c15b0] | (simp only [i64_w, i32_w]; rw [c15b0]) | skip)
      have H' := mk0 H
      clear H
      have X16_0 := ct BK410.out 0
      have X16_1 := ct BK410.out 1
      have X16_2 := ct BK410.out 2
      have X16_3 := ct BK410.out 3
      have X16_4 := ct BK410.out 4
      have X16_5 := ct BK410.out 5
      have X16_6 := ct BK410.out 6
      have Y16_0 := blk_frozen BK410.out 0
      have Y16_1 := blk_frozen BK410.out 1
      have Y16_2 := blk_frozen BK410.out 2
      have Y16_3 := blk_frozen BK410.out 3
      have Y16_4 := blk_frozen BK410.out 4
      have Y16_5 := blk_frozen BK410.out 5
      have Y16_6 := blk_frozen BK410.out 6
      go_wp2
      go_meet
      case rel => exact ⟨_, (true), (by first | rfl | (simp; done) | (simp [*]; done) | exact congrArg (Value.int .i64) (by unfold wrap64; omega)), H', ⟨by have := HJ1.out; first | omega | exact Nat.le_refl _⟩, ⟨bT BK410.out⟩, ⟨wT HB.out⟩⟩
     ·rw [if_neg c15] at H
      have c15b0 : decide (a0_3 < a0_0) = false := decide_eq_false c15
      clear c15
      (first | rw [c15b0] | (simp only [i64_w, i32_w]; rw [c15b0]) | skip)
      by_cases c17 : a0_1 > a0_4
      ·rw [if_pos c17] at H
       have c17b0 : decide (a0_4 < a0_1) = true := decide_eq_true c17
       clear c17
       have H' := mk0 H
       clear H
       have X18_0 := ct BK410.out 0
       have X18_1 := ct BK410.out 1
       have X18_2 := ct BK410.out 2
       have X18_3 := ct BK410.out 3
       have X18_4 := ct BK410.out 4
       have X18_5 := ct BK410.out 5
       have X18_6 := ct BK410.out 6
       have Y18_0 := blk_frozen BK410.out 0
       have Y18_1 := blk_frozen BK410.out 1
       have Y18_2 := blk_frozen BK410.out 2
       have Y18_3 := blk_frozen BK410.out 3
       have Y18_4 := blk_frozen BK410.out 4
       have Y18_5 := blk_frozen BK410.out 5
       have Y18_6 := blk_frozen BK410.out 6
       go_wp2
       go_meet
       case rel => exact ⟨_, (true), (by first | rfl | (simp; done) | (simp [*]; done) | exact congrArg (Value.int .i64) (by unfold wrap64; omega)), H', ⟨by have := HJ1.out; first | omega | exact Nat.le_refl _⟩, ⟨bT BK410.out⟩, ⟨wT HB.out⟩⟩
      ·rw [if_neg c17] at H
       have c17b0 : decide (a0_4 < a0_1) = false := decide_eq_false c17
       clear c17
       have H' := mk0 H
       clear H
       have X19_0 := ct BK410.out 0
       have X19_1 := ct BK410.out 1
       have X19_2 := ct BK410.out 2
       have X19_3 := ct BK410.out 3
       have X19_4 := ct BK410.out 4
       have X19_5 := ct BK410.out 5
       have X19_6 := ct BK410.out 6
       have Y19_0 := blk_frozen BK410.out 0
       have Y19_1 := blk_frozen BK410.out 1
       have Y19_2 := blk_frozen BK410.out 2
       have Y19_3 := blk_frozen BK410.out 3
       have Y19_4 := blk_frozen BK410.out 4
       have Y19_5 := blk_frozen BK410.out 5
       have Y19_6 := blk_frozen BK410.out 6
       go_wp2
       go_meet
       case rel => exact ⟨_, (decide (a0_2 > a0_5)), (by first | rfl | (simp; done) | (simp [*]; done) | exact congrArg (Value.int .i64) (by unfold wrap64; omega)), H', ⟨by have := HJ1.out; first | omega | exact Nat.le_refl _⟩, ⟨bT BK410.out⟩, ⟨wT HB.out⟩⟩
    case rest =>
     clear HC14
     try clear c1
     try clear p2
     try clear c4
     try clear c5
     try clear p6
     try clear c13
     try clear c15
     try clear c15b0
     try clear c17
     try clear c17b0
     try clear c18
     try clear X11_0
     try clear X11_1
     try clear X11_2
     try clear X11_3
     try clear X11_4
     try clear X11_5
     try clear X11_6
     try clear X16_0
     try clear X16_1
     try clear X16_2
     try clear X16_3
     try clear X16_4
     try clear X16_5
     try clear X16_6
     try clear X18_0
     try clear X18_1
     try clear X18_2
     try clear X18_3
     try clear X18_4
     try clear X18_5
     try clear X18_6
     try clear X19_0
     try clear X19_1
     try clear X19_2
     try clear X19_3
     try clear X19_4
     try clear X19_5
     try clear X19_6
     try clear X7_0
     try clear X7_1
     try clear X7_2
     try clear X7_3
     try clear X7_4
     try clear X7_5
     try clear X7_6
     try clear X9_0
     try clear X9_1
     try clear X9_2
     try clear X9_3
     try clear X9_4
     try clear X9_5
     try clear X9_6
     try clear Y11_0
     try clear Y11_1
     try clear Y11_2
     try clear Y11_3
     try clear Y11_4
     try clear Y11_5
     try clear Y11_6
     try clear Y16_0
     try clear Y16_1
     try clear Y16_2
     try clear Y16_3
     try clear Y16_4
     try clear Y16_5
     try clear Y16_6
     try clear Y18_0
     try clear Y18_1
     try clear Y18_2
     try clear Y18_3
     try clear Y18_4
     try clear Y18_5
     try clear Y18_6
     try clear Y19_0
     try clear Y19_1
     try clear Y19_2
     try clear Y19_3
     try clear Y19_4
     try clear Y19_5
     try clear Y19_6
     try clear Y7_0
     try clear Y7_1
     try clear Y7_2
     try clear Y7_3
     try clear Y7_4
     try clear Y7_5
     try clear Y7_6
     try clear Y9_0
     try clear Y9_1
     try clear Y9_2
     try clear Y9_3
     try clear Y9_4
     try clear Y9_5
     try clear Y9_6
     try clear p2
     try clear p6
     obtain ⟨kq, x39_13, rfl, HA, HJ13, BK410, HB⟩ := hcut
     cases kq with
     | zero => exact absurd HA.out (by simp [metrolabref30_Check.j1])
     | succ kj13 =>
      have H := HA.out
      clear HA
      simp only [metrolabref30_Check.j1] at H
      by_cases c20 : x39_13 = true
      ·subst c20
       have H1 : (some 9) = some r := by rw [if_pos rfl] at H; exact H
       clear H
       have H := H1
       clear H1
       obtain rfl := Option.some.inj H
       go_wp2
       go_ret
       exact ⟨eqT, wT HB.out⟩
      ·replace c20 := Bool.eq_false_iff.mpr c20
       subst c20
       have H1 : (if (l0_6.length : Int) > 16 then (some 5) else (metrolabref30_Check.l0 kj13 0 a0_0 a0_1 a0_2 a0_3 a0_4 a0_5 l0_6)) = some r := by rw [if_neg (show ¬ (false = true) by decide)] at H; exact H
       clear H
       have H := H1
       clear H1
       by_cases c21 : (l0_6.length : Int) > 16
       ·rw [if_pos c21] at H
        have c21b0 : decide (16 < (l0_6.length : Int)) = true := decide_eq_true c21
        have c21b1 : decide (16 < l0_6.length) = true := decide_eq_true (by omega)
        clear c21
        obtain rfl := Option.some.inj H
        have X22_0 := ct BK410.out 0
        have X22_1 := ct BK410.out 1
        have X22_2 := ct BK410.out 2
        have X22_3 := ct BK410.out 3
        have X22_4 := ct BK410.out 4
        have X22_5 := ct BK410.out 5
        have X22_6 := ct BK410.out 6
        have Y22_0 := blk_frozen BK410.out 0
        have Y22_1 := blk_frozen BK410.out 1
        have Y22_2 := blk_frozen BK410.out 2
        have Y22_3 := blk_frozen BK410.out 3
        have Y22_4 := blk_frozen BK410.out 4
        have Y22_5 := blk_frozen BK410.out 5
        have Y22_6 := blk_frozen BK410.out 6
        go_wp2
        go_ret
        exact ⟨eqT, wT HB.out⟩
       ·rw [if_neg c21] at H
        have c21b0 : decide (16 < (l0_6.length : Int)) = false := decide_eq_false c21
        have c21b1 : decide (16 < l0_6.length) = false := decide_eq_false (by omega)
        clear c21
        have H' := mk0 H
        clear H
        have X23_0 := ct BK410.out 0
        have X23_1 := ct BK410.out 1
        have X23_2 := ct BK410.out 2
        have X23_3 := ct BK410.out 3
        have X23_4 := ct BK410.out 4
        have X23_5 := ct BK410.out 5
        have X23_6 := ct BK410.out 6
        have Y23_0 := blk_frozen BK410.out 0
        have Y23_1 := blk_frozen BK410.out 1
        have Y23_2 := blk_frozen BK410.out 2
        have Y23_3 := blk_frozen BK410.out 3
        have Y23_4 := blk_frozen BK410.out 4
        have Y23_5 := blk_frozen BK410.out 5
        have Y23_6 := blk_frozen BK410.out 6
        go_wp2
        go_loopg [3] kj13 (fun kq v3 w' => ∃ (x3_3 : Int), v3 = .int .i64 x3_3 ∧ Aside0 (metrolabref30_Check.l0 kq x3_3 a0_0 a0_1 a0_2 a0_3 a0_4 a0_5 l0_6 = some r) ∧ Aside0 (kq ≤ kj13) ∧ Aside0 (w'.heap[gb410]? = some (.cells #[.int .i64 a0_0, .int .i64 a0_1, .int .i64 a0_2, .int .i64 a0_3, .int .i64 a0_4, .int .i64 a0_5, (.slice A0_6 l0_6.length c0_6)] 30 (0, 0))) ∧ Aside0 (Below w.heap.size w w'))
        case atStart => exact ⟨(0), (by first | rfl | (simp; done) | (simp [*]; done) | exact congrArg (Value.int .i64) (by unfold wrap64; omega)), H', ⟨Nat.le_refl _⟩, ⟨bT BK410.out⟩, ⟨wT HB.out⟩⟩
        case round =>
         clear H'
         try clear c1
         try clear c2
         try clear p2
         try clear c4
         try clear c5
         try clear p6
         try clear c13
         try clear c15
         try clear c15b0
         try clear c17
         try clear c17b0
         try clear c18
         try clear c20
         try clear c21
         try clear c21b0
         try clear c21b1
         try clear X11_0
         try clear X11_1
         try clear X11_2
         try clear X11_3
         try clear X11_4
         try clear X11_5
         try clear X11_6
         try clear X16_0
         try clear X16_1
         try clear X16_2
         try clear X16_3
         try clear X16_4
         try clear X16_5
         try clear X16_6
         try clear X18_0
         try clear X18_1
         try clear X18_2
         try clear X18_3
         try clear X18_4
         try clear X18_5
         try clear X18_6
         try clear X19_0
         try clear X19_1
         try clear X19_2
         try clear X19_3
         try clear X19_4
         try clear X19_5
         try clear X19_6
         try clear X22_0
         try clear X22_1
         try clear X22_2
         try clear X22_3
         try clear X22_4
         try clear X22_5
         try clear X22_6
         try clear X23_0
         try clear X23_1
         try clear X23_2
         try clear X23_3
         try clear X23_4
         try clear X23_5
         try clear X23_6
         try clear X7_0
         try clear X7_1
         try clear X7_2
         try clear X7_3
         try clear X7_4
         try clear X7_5
         try clear X7_6
         try clear X9_0
         try clear X9_1
         try clear X9_2
         try clear X9_3
         try clear X9_4
         try clear X9_5
         try clear X9_6
         try clear Y11_0
         try clear Y11_1
         try clear Y11_2
         try clear Y11_3
         try clear Y11_4
         try clear Y11_5
         try clear Y11_6
         try clear Y16_0
         try clear Y16_1
         try clear Y16_2
         try clear Y16_3
         try clear Y16_4
         try clear Y16_5
         try clear Y16_6
         try clear Y18_0
         try clear Y18_1
         try clear Y18_2
         try clear Y18_3
         try clear Y18_4
         try clear Y18_5
         try clear Y18_6
         try clear Y19_0
         try clear Y19_1
         try clear Y19_2
         try clear Y19_3
         try clear Y19_4
         try clear Y19_5
         try clear Y19_6
         try clear Y22_0
         try clear Y22_1
         try clear Y22_2
         try clear Y22_3
         try clear Y22_4
         try clear Y22_5
         try clear Y22_6
         try clear Y23_0
         try clear Y23_1
         try clear Y23_2
         try clear Y23_3
         try clear Y23_4
         try clear Y23_5
         try clear Y23_6
         try clear Y7_0
         try clear Y7_1
         try clear Y7_2
         try clear Y7_3
         try clear Y7_4
         try clear Y7_5
         try clear Y7_6
         try clear Y9_0
         try clear Y9_1
         try clear Y9_2
         try clear Y9_3
         try clear Y9_4
         try clear Y9_5
         try clear Y9_6
         try clear p2
         try clear p6
         obtain ⟨x3_3, rfl, HA, HK3, BK410, HB⟩ := hrel
         cases gk with
         | zero => exact absurd HA.out (by simp [metrolabref30_Check.l0])
         | succ k3 =>
          have H := HA.out
          clear HA
          simp only [metrolabref30_Check.l0] at H
          by_cases c24 : x3_3 < (l0_6.length : Int)
          ·rw [if_pos c24] at H
           have c24b0 : decide (x3_3 < (l0_6.length : Int)) = true := decide_eq_true c24
           clear c24
           by_cases c25 : 0 ≤ x3_3
           ·rw [if_pos c25] at H
            have c25b0 : decide (0 ≤ x3_3) = true := decide_eq_true c25
            clear c25
            have HC26 := mk0 H
            clear H
            have X27_0 := ct BK410.out 0
            have X27_1 := ct BK410.out 1
            have X27_2 := ct BK410.out 2
            have X27_3 := ct BK410.out 3
            have X27_4 := ct BK410.out 4
            have X27_5 := ct BK410.out 5
            have X27_6 := ct BK410.out 6
            have Y27_0 := blk_frozen BK410.out 0
            have Y27_1 := blk_frozen BK410.out 1
            have Y27_2 := blk_frozen BK410.out 2
            have Y27_3 := blk_frozen BK410.out 3
            have Y27_4 := blk_frozen BK410.out 4
            have Y27_5 := blk_frozen BK410.out 5
            have Y27_6 := blk_frozen BK410.out 6
            have p413 : 0 ≤ (x3_3 : Int) := of_decide_eq_true (by first | (with_reducible assumption) | assumption)
            have q413 : x3_3 < (l0_6.length : Int) := of_decide_eq_true (by first | (with_reducible assumption) | assumption)
            obtain ⟨ad413, e413, hx413_0, hx413_1, hx413_2, hx413_3⟩ := at_T92 HR0_6.out x3_3 p413 q413
            cases e413
            replace hx413_0 := (HB.out.cell (World.block_lt_of_cell? w _ hx413_0)).trans hx413_0
            replace hx413_1 := (HB.out.cell (World.block_lt_of_cell? w _ hx413_1)).trans hx413_1
            replace hx413_2 := (HB.out.cell (World.block_lt_of_cell? w _ hx413_2)).trans hx413_2
            replace hx413_3 := (HB.out.cell (World.block_lt_of_cell? w _ hx413_3)).trans hx413_3
            replace p413 := eq_true p413
            replace q413 := eq_true q413
            go_upto_region 11 with (first | ((with_reducible refine gate_dst (N := 4) rfl ?_); refine box_event ?hg (N := 4) ?hd (cs := #[.int .i64 0, .int .i64 0, .int .i64 0, .int .i64 0]) (t := 92) ?hr ?_; (case hd => rfl); (case hg => rfl); (case hr => first | (go_simp; done) | (go_simp; rfl)); intro gb414 hg w28 hbox hb; have n0_ := mk0 (bbT BK410.out hb); have n1_ := mk0 (below_step (wT HB.out) hb); have n2_ := mk0 (hbox); have n3_ := mk0 ((szT HB.out hg)); have n4_ := mk0 ((szT HB.out hg)); have n5_ := mk0 ((neL BK410.out hg)); have n6_ := mk0 ((neG BK410.out hg)); clear BK410; clear HB; have BK410 := n0_; have HB := n1_; have BK414 := n2_; have GW414 := n3_; have GE414 := n4_; have NB410_414 := n5_; have NB414_410 := n6_; clear n0_ n1_ n2_ n3_ n4_ n5_ n6_; clear hb hbox hg; have hnb29 := NB414_410.out; have hnc29 := NB410_414.out; have X30_0 := ct BK414.out 0; have X30_1 := ct BK414.out 1; have X30_2 := ct BK414.out 2; have X30_3 := ct BK414.out 3; have Y30_0 := blk_frozen BK414.out 0; have Y30_1 := blk_frozen BK414.out 1; have Y30_2 := blk_frozen BK414.out 2; have Y30_3 := blk_frozen BK414.out 3))
            (try simp only [Act.put, List.setIfInBounds_toArray, List.set_cons_zero, List.set_cons_succ])
            go_cut [64] (fun v64 wc => ∃ (kq : Nat) (x64_25 : Bool), v64 = .bool x64_25 ∧ Aside0 (metrolabref30_Check.j3 kq x3_3 x64_25 a0_0 a0_1 a0_2 a0_3 a0_4 a0_5 l0_6 ((rd_T92 l0_6 x3_3).f0) ((rd_T92 l0_6 x3_3).f1.f0) ((rd_T92 l0_6 x3_3).f1.f1) ((rd_T92 l0_6 x3_3).f2) = some r) ∧ Aside0 (kq ≤ k3) ∧ Aside0 (wc.heap[gb410]? = some (.cells #[.int .i64 a0_0, .int .i64 a0_1, .int .i64 a0_2, .int .i64 a0_3, .int .i64 a0_4, .int .i64 a0_5, (.slice (some ad413) l0_6.length c0_6)] 30 (0, 0))) ∧ Aside0 (wc.heap[gb414]? = some (.cells #[.int .i64 ((rd_T92 l0_6 x3_3).f0), .int .i64 ((rd_T92 l0_6 x3_3).f1.f0), .int .i64 ((rd_T92 l0_6 x3_3).f1.f1), .int .i64 ((rd_T92 l0_6 x3_3).f2)] 92 (0, 0))) ∧ Aside0 (Below w.heap.size w wc))
            case first =>
             have H := HC26.out
             clear HC26
             by_cases c31 : ((rd_T92 l0_6 x3_3).f0) ≥ 0
             ·rw [if_pos c31] at H
              have c31b0 : decide (0 ≤ ((rd_T92 l0_6 x3_3).f0)) = true := decide_eq_true c31
              clear c31
              (first | rw [c31b0] | (simp only [i64_w, i32_w]; rw [c31b0]) | skip)
              have H' := mk0 H
              clear H
              have hnb32 := NB414_410.out
              have hnc32 := NB410_414.out
              have X33_0 := ct BK414.out 0
              have X33_1 := ct BK414.out 1
              have X33_2 := ct BK414.out 2
              have X33_3 := ct BK414.out 3
              have Y33_0 := blk_frozen BK414.out 0
              have Y33_1 := blk_frozen BK414.out 1
              have Y33_2 := blk_frozen BK414.out 2
              have Y33_3 := blk_frozen BK414.out 3
              go_wp2
              go_meet
              case rel => exact ⟨_, (!(decide (((rd_T92 l0_6 x3_3).f0) ≤ 2))), (by first | rfl | (simp; done) | (simp [*]; done) | exact congrArg (Value.int .i64) (by unfold wrap64; omega)), H', ⟨by have := HJ1.out; have := HJ13.out; have := HK3.out; first | omega | exact Nat.le_refl _⟩, ⟨by (with_reducible repeat (first | refine blk_drewN ?_ _ | refine blk_drew ?_ | refine blk_alloc ?_ _)); refine blk_far ?_ NB410_414.out _; refine blk_far ?_ NB410_414.out _; refine blk_far ?_ NB410_414.out _; refine blk_far ?_ NB410_414.out _; (with_reducible repeat (first | refine blk_drewN ?_ _ | refine blk_drew ?_ | refine blk_alloc ?_ _)); exact BK410.out⟩, ⟨by (with_reducible repeat (first | refine blk_drewN ?_ _ | refine blk_drew ?_ | refine blk_alloc ?_ _)); refine blk_put (cs := #[.int .i64 ((rd_T92 l0_6 x3_3).f0), .int .i64 ((rd_T92 l0_6 x3_3).f1.f0), .int .i64 ((rd_T92 l0_6 x3_3).f1.f1), .int .i64 0]) ?_ 3 _ rfl; refine blk_put (cs := #[.int .i64 ((rd_T92 l0_6 x3_3).f0), .int .i64 ((rd_T92 l0_6 x3_3).f1.f0), .int .i64 0, .int .i64 0]) ?_ 2 _ rfl; refine blk_put (cs := #[.int .i64 ((rd_T92 l0_6 x3_3).f0), .int .i64 0, .int .i64 0, .int .i64 0]) ?_ 1 _ rfl; refine blk_put (cs := #[.int .i64 0, .int .i64 0, .int .i64 0, .int .i64 0]) ?_ 0 _ rfl; (with_reducible repeat (first | refine blk_drewN ?_ _ | refine blk_drew ?_ | refine blk_alloc ?_ _)); exact BK414.out⟩, ⟨by repeat (first | (with_reducible first | exact HB.out | apply below_alloc | apply pw_below_drewN | apply below_drew1 | refine below_set ?_ GE414.out) | exact HB.out)⟩⟩
             ·rw [if_neg c31] at H
              have c31b0 : decide (0 ≤ ((rd_T92 l0_6 x3_3).f0)) = false := decide_eq_false c31
              clear c31
              (first | rw [c31b0] | (simp only [i64_w, i32_w]; rw [c31b0]) | skip)
              have H' := mk0 H
              clear H
              have hnb34 := NB414_410.out
              have hnc34 := NB410_414.out
              have X35_0 := ct BK414.out 0
              have X35_1 := ct BK414.out 1
              have X35_2 := ct BK414.out 2
              have X35_3 := ct BK414.out 3
              have Y35_0 := blk_frozen BK414.out 0
              have Y35_1 := blk_frozen BK414.out 1
              have Y35_2 := blk_frozen BK414.out 2
              have Y35_3 := blk_frozen BK414.out 3
              go_wp2
              go_meet
              case rel => exact ⟨_, (!false), (by first | rfl | (simp; done) | (simp [*]; done) | exact congrArg (Value.int .i64) (by unfold wrap64; omega)), H', ⟨by have := HJ1.out; have := HJ13.out; have := HK3.out; first | omega | exact Nat.le_refl _⟩, ⟨by (with_reducible repeat (first | refine blk_drewN ?_ _ | refine blk_drew ?_ | refine blk_alloc ?_ _)); refine blk_far ?_ NB410_414.out _; refine blk_far ?_ NB410_414.out _; refine blk_far ?_ NB410_414.out _; refine blk_far ?_ NB410_414.out _; (with_reducible repeat (first | refine blk_drewN ?_ _ | refine blk_drew ?_ | refine blk_alloc ?_ _)); exact BK410.out⟩, ⟨by (with_reducible repeat (first | refine blk_drewN ?_ _ | refine blk_drew ?_ | refine blk_alloc ?_ _)); refine blk_put (cs := #[.int .i64 ((rd_T92 l0_6 x3_3).f0), .int .i64 ((rd_T92 l0_6 x3_3).f1.f0), .int .i64 ((rd_T92 l0_6 x3_3).f1.f1), .int .i64 0]) ?_ 3 _ rfl; refine blk_put (cs := #[.int .i64 ((rd_T92 l0_6 x3_3).f0), .int .i64 ((rd_T92 l0_6 x3_3).f1.f0), .int .i64 0, .int .i64 0]) ?_ 2 _ rfl; refine blk_put (cs := #[.int .i64 ((rd_T92 l0_6 x3_3).f0), .int .i64 0, .int .i64 0, .int .i64 0]) ?_ 1 _ rfl; refine blk_put (cs := #[.int .i64 0, .int .i64 0, .int .i64 0, .int .i64 0]) ?_ 0 _ rfl; (with_reducible repeat (first | refine blk_drewN ?_ _ | refine blk_drew ?_ | refine blk_alloc ?_ _)); exact BK414.out⟩, ⟨by repeat (first | (with_reducible first | exact HB.out | apply below_alloc | apply pw_below_drewN | apply below_drew1 | refine below_set ?_ GE414.out) | exact HB.out)⟩⟩
            case rest =>
             clear HC26
             try clear c1
             try clear c2
             try clear p2
             try clear c3
             try clear c4
             try clear p4
             try clear q4
             try clear hx4
             try clear c5
             try clear p6
             try clear c13
             try clear c15
             try clear c15b0
             try clear c17
             try clear c17b0
             try clear c18
             try clear c20
             try clear c21
             try clear c21b0
             try clear c21b1
             try clear c24
             try clear c24b0
             try clear c25
             try clear c25b0
             try clear c29
             try clear c31
             try clear c31b0
             try clear c32
             try clear c34
             try clear X11_0
             try clear X11_1
             try clear X11_2
             try clear X11_3
             try clear X11_4
             try clear X11_5
             try clear X11_6
             try clear X16_0
             try clear X16_1
             try clear X16_2
             try clear X16_3
             try clear X16_4
             try clear X16_5
             try clear X16_6
             try clear X18_0
             try clear X18_1
             try clear X18_2
             try clear X18_3
             try clear X18_4
             try clear X18_5
             try clear X18_6
             try clear X19_0
             try clear X19_1
             try clear X19_2
             try clear X19_3
             try clear X19_4
             try clear X19_5
             try clear X19_6
             try clear X22_0
             try clear X22_1
             try clear X22_2
             try clear X22_3
             try clear X22_4
             try clear X22_5
             try clear X22_6
             try clear X23_0
             try clear X23_1
             try clear X23_2
             try clear X23_3
             try clear X23_4
             try clear X23_5
             try clear X23_6
             try clear X27_0
             try clear X27_1
             try clear X27_2
             try clear X27_3
             try clear X27_4
             try clear X27_5
             try clear X27_6
             try clear X30_0
             try clear X30_1
             try clear X30_2
             try clear X30_3
             try clear X33_0
             try clear X33_1
             try clear X33_2
             try clear X33_3
             try clear X35_0
             try clear X35_1
             try clear X35_2
             try clear X35_3
             try clear X7_0
             try clear X7_1
             try clear X7_2
             try clear X7_3
             try clear X7_4
             try clear X7_5
             try clear X7_6
             try clear X9_0
             try clear X9_1
             try clear X9_2
             try clear X9_3
             try clear X9_4
             try clear X9_5
             try clear X9_6
             try clear Y11_0
             try clear Y11_1
             try clear Y11_2
             try clear Y11_3
             try clear Y11_4
             try clear Y11_5
             try clear Y11_6
             try clear Y16_0
             try clear Y16_1
             try clear Y16_2
             try clear Y16_3
             try clear Y16_4
             try clear Y16_5
             try clear Y16_6
             try clear Y18_0
             try clear Y18_1
             try clear Y18_2
             try clear Y18_3
             try clear Y18_4
             try clear Y18_5
             try clear Y18_6
             try clear Y19_0
             try clear Y19_1
             try clear Y19_2
             try clear Y19_3
             try clear Y19_4
             try clear Y19_5
             try clear Y19_6
             try clear Y22_0
             try clear Y22_1
             try clear Y22_2
             try clear Y22_3
             try clear Y22_4
             try clear Y22_5
             try clear Y22_6
             try clear Y23_0
             try clear Y23_1
             try clear Y23_2
             try clear Y23_3
             try clear Y23_4
             try clear Y23_5
             try clear Y23_6
             try clear Y27_0
             try clear Y27_1
             try clear Y27_2
             try clear Y27_3
             try clear Y27_4
             try clear Y27_5
             try clear Y27_6
             try clear Y30_0
             try clear Y30_1
             try clear Y30_2
             try clear Y30_3
             try clear Y33_0
             try clear Y33_1
             try clear Y33_2
             try clear Y33_3
             try clear Y35_0
             try clear Y35_1
             try clear Y35_2
             try clear Y35_3
             try clear Y7_0
             try clear Y7_1
             try clear Y7_2
             try clear Y7_3
             try clear Y7_4
             try clear Y7_5
             try clear Y7_6
             try clear Y9_0
             try clear Y9_1
             try clear Y9_2
             try clear Y9_3
             try clear Y9_4
             try clear Y9_5
             try clear Y9_6
             try clear hx413_0
             try clear hx413_1
             try clear hx413_2
             try clear hx413_3
             try clear p2
             try clear p413
             try clear p6
             try clear q413
             obtain ⟨kq, x64_25, rfl, HA, HJ25, BK410, BK414, HB⟩ := hcut
             cases kq with
             | zero => exact absurd HA.out (by simp [metrolabref30_Check.j3])
             | succ kj25 =>
              have H := HA.out
              clear HA
              simp only [metrolabref30_Check.j3] at H
              by_cases c36 : x64_25 = true
              ·subst c36
               have H1 : (some 1) = some r := by rw [if_pos rfl] at H; exact H
               clear H
               have H := H1
               clear H1
               obtain rfl := Option.some.inj H
               go_wp2
               go_ret
               exact ⟨eqT, wT HB.out⟩
              ·replace c36 := Bool.eq_false_iff.mpr c36
               subst c36
               have H1 : ((metrolabref07_Right.f ((rd_T92 l0_6 x3_3).f1.f0) ((rd_T92 l0_6 x3_3).f1.f1)).bind fun t415 => (if t415 = true then (if ((rd_T92 l0_6 x3_3).f2) < 1 then (some 2) else (if ((rd_T92 l0_6 x3_3).f2) > 100000 then (some 2) else (metrolabref30_Check.l0 kj25 (wrap64 (x3_3 + 1)) a0_0 a0_1 a0_2 a0_3 a0_4 a0_5 l0_6))) else (some 2))) = some r := by rw [if_neg (show ¬ (false = true) by decide)] at H; exact H
               clear H
               have H := H1
               clear H1
               replace H := Option.bind_eq_some_iff.mp H
               obtain ⟨t415, A370, H⟩ := H
               replace H : (if t415 = true then (if ((rd_T92 l0_6 x3_3).f2) < 1 then (some 2) else (if ((rd_T92 l0_6 x3_3).f2) > 100000 then (some 2) else (metrolabref30_Check.l0 kj25 (wrap64 (x3_3 + 1)) a0_0 a0_1 a0_2 a0_3 a0_4 a0_5 l0_6))) else (some 2)) = some r := H
               have A37 := mk0 A370
               clear A370
               by_cases c38 : t415 = true
               ·subst c38
                have H1 : (if ((rd_T92 l0_6 x3_3).f2) < 1 then (some 2) else (if ((rd_T92 l0_6 x3_3).f2) > 100000 then (some 2) else (metrolabref30_Check.l0 kj25 (wrap64 (x3_3 + 1)) a0_0 a0_1 a0_2 a0_3 a0_4 a0_5 l0_6))) = some r := by rw [if_pos rfl] at H; exact H
                clear H
                have H := H1
                clear H1
                by_cases c39 : ((rd_T92 l0_6 x3_3).f2) < 1
                ·rw [if_pos c39] at H
                 have c39b0 : decide (((rd_T92 l0_6 x3_3).f2) < 1) = true := decide_eq_true c39
                 clear c39
                 obtain rfl := Option.some.inj H
                 have X40_0 := ct BK414.out 0
                 have X40_1 := ct BK414.out 1
                 have X40_2 := ct BK414.out 2
                 have X40_3 := ct BK414.out 3
                 have Y40_0 := blk_frozen BK414.out 0
                 have Y40_1 := blk_frozen BK414.out 1
                 have Y40_2 := blk_frozen BK414.out 2
                 have Y40_3 := blk_frozen BK414.out 3
                 go_wp2_with (first | ((with_reducible refine gate_callee (f := 46) rfl ?_); refine goesL_ (some 67) rfl rfl Tryz.func46 (by kernel_rfl) rfl #[.agg #[.int .i64 ((rd_T92 l0_6 x3_3).f1.f0), .int .i64 ((rd_T92 l0_6 x3_3).f1.f1)]] rfl (by (try simp only [List.map_toArray, List.map_cons, List.map_nil]); first | done | rfl | (simp only [List.length_drop, List.length_take]; rfl)) ?_; (with_reducible refine (metrolabref07_Right.calls ((rd_T92 l0_6 x3_3).f1.f0) ((rd_T92 l0_6 x3_3).f1.f1) true _ A37.out).mono ?_); rintro e w41 ⟨rfl, hb⟩; refine ⟨_, rfl, ?_⟩; have n0_ := mk0 (bbT BK414.out hb); have n1_ := mk0 (below_step (wT HB.out) hb); clear BK414; clear HB; have BK414 := n0_; have HB := n1_; clear n0_ n1_; (try clear hb); (try clear hb2); (try clear hk); (try clear hi); have X42_0 := ct BK414.out 0; have X42_1 := ct BK414.out 1; have X42_2 := ct BK414.out 2; have X42_3 := ct BK414.out 3; have Y42_0 := blk_frozen BK414.out 0; have Y42_1 := blk_frozen BK414.out 1; have Y42_2 := blk_frozen BK414.out 2; have Y42_3 := blk_frozen BK414.out 3))
                 go_ret
                 exact ⟨eqT, wT HB.out⟩
                ·rw [if_neg c39] at H
                 have c39b0 : decide (((rd_T92 l0_6 x3_3).f2) < 1) = false := decide_eq_false c39
                 clear c39
                 by_cases c43 : ((rd_T92 l0_6 x3_3).f2) > 100000
                 ·rw [if_pos c43] at H
                  have c43b0 : decide (100000 < ((rd_T92 l0_6 x3_3).f2)) = true := decide_eq_true c43
                  clear c43
                  obtain rfl := Option.some.inj H
                  have X44_0 := ct BK414.out 0
                  have X44_1 := ct BK414.out 1
                  have X44_2 := ct BK414.out 2
                  have X44_3 := ct BK414.out 3
                  have Y44_0 := blk_frozen BK414.out 0
                  have Y44_1 := blk_frozen BK414.out 1
                  have Y44_2 := blk_frozen BK414.out 2
                  have Y44_3 := blk_frozen BK414.out 3
                  go_wp2_with (first | ((with_reducible refine gate_callee (f := 46) rfl ?_); refine goesL_ (some 67) rfl rfl Tryz.func46 (by kernel_rfl) rfl #[.agg #[.int .i64 ((rd_T92 l0_6 x3_3).f1.f0), .int .i64 ((rd_T92 l0_6 x3_3).f1.f1)]] rfl (by (try simp only [List.map_toArray, List.map_cons, List.map_nil]); first | done | rfl | (simp only [List.length_drop, List.length_take]; rfl)) ?_; (with_reducible refine (metrolabref07_Right.calls ((rd_T92 l0_6 x3_3).f1.f0) ((rd_T92 l0_6 x3_3).f1.f1) true _ A37.out).mono ?_); rintro e w45 ⟨rfl, hb⟩; refine ⟨_, rfl, ?_⟩; have n0_ := mk0 (bbT BK414.out hb); have n1_ := mk0 (below_step (wT HB.out) hb); clear BK414; clear HB; have BK414 := n0_; have HB := n1_; clear n0_ n1_; (try clear hb); (try clear hb2); (try clear hk); (try clear hi); have X46_0 := ct BK414.out 0; have X46_1 := ct BK414.out 1; have X46_2 := ct BK414.out 2; have X46_3 := ct BK414.out 3; have Y46_0 := blk_frozen BK414.out 0; have Y46_1 := blk_frozen BK414.out 1; have Y46_2 := blk_frozen BK414.out 2; have Y46_3 := blk_frozen BK414.out 3))
                  go_ret
                  exact ⟨eqT, wT HB.out⟩
                 ·rw [if_neg c43] at H
                  have c43b0 : decide (100000 < ((rd_T92 l0_6 x3_3).f2)) = false := decide_eq_false c43
                  clear c43
                  have H' := mk0 H
                  clear H
                  have hnb47 := NB414_410.out
                  have hnc47 := NB410_414.out
                  have X48_0 := ct BK414.out 0
                  have X48_1 := ct BK414.out 1
                  have X48_2 := ct BK414.out 2
                  have X48_3 := ct BK414.out 3
                  have Y48_0 := blk_frozen BK414.out 0
                  have Y48_1 := blk_frozen BK414.out 1
                  have Y48_2 := blk_frozen BK414.out 2
                  have Y48_3 := blk_frozen BK414.out 3
                  go_wp2_with (first | ((with_reducible refine gate_callee (f := 46) rfl ?_); refine goesL_ (some 67) rfl rfl Tryz.func46 (by kernel_rfl) rfl #[.agg #[.int .i64 ((rd_T92 l0_6 x3_3).f1.f0), .int .i64 ((rd_T92 l0_6 x3_3).f1.f1)]] rfl (by (try simp only [List.map_toArray, List.map_cons, List.map_nil]); first | done | rfl | (simp only [List.length_drop, List.length_take]; rfl)) ?_; (with_reducible refine (metrolabref07_Right.calls ((rd_T92 l0_6 x3_3).f1.f0) ((rd_T92 l0_6 x3_3).f1.f1) true _ A37.out).mono ?_); rintro e w49 ⟨rfl, hb⟩; refine ⟨_, rfl, ?_⟩; have n0_ := mk0 (bbT BK410.out hb); have n1_ := mk0 (bbT BK414.out hb); have n2_ := mk0 (below_step (wT HB.out) hb); clear BK410; clear BK414; clear HB; have BK410 := n0_; have BK414 := n1_; have HB := n2_; clear n0_ n1_ n2_; (try clear hb); (try clear hb2); (try clear hk); (try clear hi); have X50_0 := ct BK414.out 0; have X50_1 := ct BK414.out 1; have X50_2 := ct BK414.out 2; have X50_3 := ct BK414.out 3; have Y50_0 := blk_frozen BK414.out 0; have Y50_1 := blk_frozen BK414.out 1; have Y50_2 := blk_frozen BK414.out 2; have Y50_3 := blk_frozen BK414.out 3))
                  go_roundg kj25
                  case measure => have := HJ1.out; have := HJ13.out; have := HK3.out; have := HJ25.out; omega
                  case rel => exact ⟨(wrap64 (x3_3 + 1)), (by first | rfl | (simp; done) | (simp [*]; done) | exact congrArg (Value.int .i64) (by unfold wrap64; omega)), H', ⟨by have := HJ1.out; have := HJ13.out; have := HK3.out; have := HJ25.out; omega⟩, ⟨bT BK410.out⟩, ⟨wT HB.out⟩⟩
               ·replace c38 := Bool.eq_false_iff.mpr c38
                subst c38
                have H1 : (some 2) = some r := by rw [if_neg (show ¬ (false = true) by decide)] at H; exact H
                clear H
                have H := H1
                clear H1
                obtain rfl := Option.some.inj H
                have X51_0 := ct BK414.out 0
                have X51_1 := ct BK414.out 1
                have X51_2 := ct BK414.out 2
                have X51_3 := ct BK414.out 3
                have Y51_0 := blk_frozen BK414.out 0
                have Y51_1 := blk_frozen BK414.out 1
                have Y51_2 := blk_frozen BK414.out 2
                have Y51_3 := blk_frozen BK414.out 3
                go_wp2_with (first | ((with_reducible refine gate_callee (f := 46) rfl ?_); refine goesL_ (some 67) rfl rfl Tryz.func46 (by kernel_rfl) rfl #[.agg #[.int .i64 ((rd_T92 l0_6 x3_3).f1.f0), .int .i64 ((rd_T92 l0_6 x3_3).f1.f1)]] rfl (by (try simp only [List.map_toArray, List.map_cons, List.map_nil]); first | done | rfl | (simp only [List.length_drop, List.length_take]; rfl)) ?_; (with_reducible refine (metrolabref07_Right.calls ((rd_T92 l0_6 x3_3).f1.f0) ((rd_T92 l0_6 x3_3).f1.f1) false _ A37.out).mono ?_); rintro e w52 ⟨rfl, hb⟩; refine ⟨_, rfl, ?_⟩; have n0_ := mk0 (below_step (wT HB.out) hb); clear HB; have HB := n0_; clear n0_; (try clear hb); (try clear hb2); (try clear hk); (try clear hi)))
                go_ret
                exact ⟨eqT, wT HB.out⟩
           ·rw [if_neg c25] at H
            exact absurd H (by simp)
          ·rw [if_neg c24] at H
           have c24b0 : decide (x3_3 < (l0_6.length : Int)) = false := decide_eq_false c24
           clear c24
           obtain rfl := Option.some.inj H
           have X53_0 := ct BK410.out 0
           have X53_1 := ct BK410.out 1
           have X53_2 := ct BK410.out 2
           have X53_3 := ct BK410.out 3
           have X53_4 := ct BK410.out 4
           have X53_5 := ct BK410.out 5
           have X53_6 := ct BK410.out 6
           have Y53_0 := blk_frozen BK410.out 0
           have Y53_1 := blk_frozen BK410.out 1
           have Y53_2 := blk_frozen BK410.out 2
           have Y53_3 := blk_frozen BK410.out 3
           have Y53_4 := blk_frozen BK410.out 4
           have Y53_5 := blk_frozen BK410.out 5
           have Y53_6 := blk_frozen BK410.out 6
           go_wp2
           go_ret
           exact ⟨eqT, wT HB.out⟩
end Go.Proofs.YtolbjmaabghghaaGreatDoor.PA
