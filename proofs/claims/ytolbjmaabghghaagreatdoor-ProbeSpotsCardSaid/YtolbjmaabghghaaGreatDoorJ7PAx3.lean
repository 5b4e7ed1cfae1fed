/- A part of the proof. -/
import Derived.Test.YtolbjmaabghghaaGreatDoorJ7PAx0
namespace Go.Proofs.YtolbjmaabghghaaGreatDoor.PA
open Go.RowKit Go.PW Go.PL Go.PM
attribute [local go_sem] max2_int min2_int max_two min_two max_three min_three max_four min_four   -- for this text's walks alone
set_option linter.unusedVariables false
set_option maxHeartbeats 8000000
set_option maxRecDepth 100000
set_option linter.unusedSimpArgs false
def metrolabref30_Few.f (a0_0 : Int) (a0_1 : Int) (a0_2 : Int) (a0_3 : Int) (a0_4 : Int) (a0_5 : Int) (l0_6 : List (S92)) : Option (Bool) := some (decide ((l0_6.length : Int) ≤ 32))
theorem metrolabref30_Few.calls (a0_0 : Int) (a0_1 : Int) (a0_2 : Int) (a0_3 : Int) (a0_4 : Int) (a0_5 : Int) (A0_6 : Option Addr) (c0_6 : Nat) (l0_6 : List (S92)) (r : Bool) (w : World) (hr0_6 : Kd.C k92 w A0_6 l0_6.length l0_6) (hc0_6 : l0_6.length ≤ c0_6) (h : metrolabref30_Few.f a0_0 a0_1 a0_2 a0_3 a0_4 a0_5 l0_6 = some r) :
  Calls Tryz.prog 12 #[.agg #[.int .i64 a0_0, .int .i64 a0_1, .int .i64 a0_2, .int .i64 a0_3, .int .i64 a0_4, .int .i64 a0_5, .slice A0_6 l0_6.length c0_6]] w fun e w' => e = .returned (.bool r) ∧ Below w.heap.size w w' := by
 have hu30 := Tryz.underlying30
 have HR0_6 := mk0 hr0_6
 have HC0_6 := mk0 hc0_6
 clear hr0_6 hc0_6
 have HB := mk0 (Below.refl w.heap.size w)
 have H : (some (decide ((l0_6.length : Int) ≤ 32))) = some r := h
 clear h
 obtain rfl := Option.some.inj H
 go_enter Tryz.func12, Tryz.ntmps12
 go_wp2_with (first | ((with_reducible refine gate_dst (N := 1) rfl ?_); refine box_event ?hg (N := 1) ?hd (cs := #[.int .i64 a0_0, .int .i64 a0_1, .int .i64 a0_2, .int .i64 a0_3, .int .i64 a0_4, .int .i64 a0_5, .slice A0_6 l0_6.length c0_6]) (t := 30) ?hr ?_; (case hd => rfl); (case hg => rfl); (case hr => first | (go_simp; done) | (go_simp; rfl)); intro gb101 hg w2 hbox hb; have n0_ := mk0 (below_step (wT HB.out) hb); have n1_ := mk0 (hbox); have n2_ := mk0 ((szT HB.out hg)); have n3_ := mk0 ((szT HB.out hg)); clear HB; have HB := n0_; have BK101 := n1_; have GW101 := n2_; have GE101 := n3_; clear n0_ n1_ n2_ n3_; clear hb hbox hg; have X3_0 := ct BK101.out 0; have X3_1 := ct BK101.out 1; have X3_2 := ct BK101.out 2; have X3_3 := ct BK101.out 3; have X3_4 := ct BK101.out 4; have X3_5 := ct BK101.out 5; have X3_6 := ct BK101.out 6; have Y3_0 := blk_frozen BK101.out 0; have Y3_1 := blk_frozen BK101.out 1; have Y3_2 := blk_frozen BK101.out 2; have Y3_3 := blk_frozen BK101.out 3; have Y3_4 := blk_frozen BK101.out 4; have Y3_5 := blk_frozen BK101.out 5; have Y3_6 := blk_frozen BK101.out 6))
 go_ret
 exact ⟨eqT, wT HB.out⟩
def metrolablaw30_own.l0 : Nat → List (S84) → Int → Int → Int → Int → Int → Int → Int → Int → List (S92) → Option (Int × Int × Int × Int × Int × Int × (List (S92)))
 | 0, _, _, _, _, _, _, _, _, _, _ => none
 | k + 1, x12, x13, x14, x105000, x105001, x105002, x105003, x105004, x105005, x105006 => if x14 < x13 then (if 0 ≤ x14 then (if x14 < (x12.length : Int) then (if x105006.length < 4398046511104 then (metrolablaw30_own.l0 k x12 x13 (wrap64 (x14 + 1)) x105000 x105001 x105002 x105003 x105004 x105005 (x105006 ++ [(⟨(rd_T84 x12 x14).f0, (⟨(rd_T84 x12 x14).f1.f0, (rd_T84 x12 x14).f1.f1⟩ : S81), (rd_T84 x12 x14).f2⟩ : S92)])) else (none)) else (none)) else (none)) else (some (x105000, x105001, x105002, x105003, x105004, x105005, x105006))
def metrolablaw30_own.f (k : Nat) (a0_0 : Int) (a0_1 : Int) (a0_2 : Int) (a0_3 : Int) (a0_4 : Int) (a0_5 : Int) (l0_6 : List (S84)) : Option (Int × Int × Int × Int × Int × Int × (List (S92))) := metrolablaw30_own.l0 k l0_6 (l0_6.length : Int) 0 a0_0 a0_1 a0_2 a0_3 a0_4 a0_5 ([] : List (S92))
theorem metrolablaw30_own.calls (k : Nat) (a0_0 : Int) (a0_1 : Int) (a0_2 : Int) (a0_3 : Int) (a0_4 : Int) (a0_5 : Int) (A0_6 : Option Addr) (c0_6 : Nat) (l0_6 : List (S84)) (r1 : Int) (r2 : Int) (r3 : Int) (r4 : Int) (r5 : Int) (r6 : Int) (r7 : List (S92)) (w : World) (hr0_6 : Kd.C k84 w A0_6 l0_6.length l0_6) (hc0_6 : l0_6.length ≤ c0_6) (h : metrolablaw30_own.f k a0_0 a0_1 a0_2 a0_3 a0_4 a0_5 l0_6 = some (r1, r2, r3, r4, r5, r6, r7)) :
  Calls Tryz.prog 13 #[.agg #[.int .i64 a0_0, .int .i64 a0_1, .int .i64 a0_2, .int .i64 a0_3, .int .i64 a0_4, .int .i64 a0_5, .slice A0_6 l0_6.length c0_6]] w fun e w' => ∃ v6_ : Value, e = .returned (.agg #[.int .i64 r1, .int .i64 r2, .int .i64 r3, .int .i64 r4, .int .i64 r5, .int .i64 r6, v6_]) ∧ Kd.R k92 92 w' w.heap.size (fun _ => True) v6_ r7 ∧ Below w.heap.size w w' := by
 have hu26 := Tryz.underlying26
 have hu30 := Tryz.underlying30
 have hu23 := Tryz.underlying23
 have hu84 := Tryz.underlying84
 have HR0_6 := mk0 hr0_6
 have HC0_6 := mk0 hc0_6
 clear hr0_6 hc0_6
 have HB := mk0 (Below.refl w.heap.size w)
 have H : (metrolablaw30_own.l0 k l0_6 (l0_6.length : Int) 0 a0_0 a0_1 a0_2 a0_3 a0_4 a0_5 ([] : List (S92))) = some (r1, r2, r3, r4, r5, r6, r7) := h
 clear h
 have H' := mk0 H
 clear H
 go_enter Tryz.func13, Tryz.ntmps13
 go_wp2_with (first | ((with_reducible refine gate_dst (N := 1) rfl ?_); refine box_event ?hg (N := 1) ?hd (cs := #[.int .i64 a0_0, .int .i64 a0_1, .int .i64 a0_2, .int .i64 a0_3, .int .i64 a0_4, .int .i64 a0_5, .slice A0_6 l0_6.length c0_6]) (t := 26) ?hr ?_; (case hd => rfl); (case hg => rfl); (case hr => first | (go_simp; done) | (go_simp; rfl)); intro gb102 hg w2 hbox hb; have n0_ := mk0 (below_step (wT HB.out) hb); have n1_ := mk0 (hbox); have n2_ := mk0 ((szT HB.out hg)); have n3_ := mk0 ((szT HB.out hg)); clear HB; have HB := n0_; have BK102 := n1_; have GW102 := n2_; have GE102 := n3_; clear n0_ n1_ n2_ n3_; clear hb hbox hg) | ((with_reducible refine gate_dst (N := 2) rfl ?_); refine box_event ?hg (N := 2) ?hd (cs := #[.int .i64 0, .int .i64 0, .int .i64 0, .int .i64 0, .int .i64 0, .int .i64 0, .slice none 0 0]) (t := 30) ?hr ?_; (case hd => rfl); (case hg => rfl); (case hr => first | (go_simp; done) | (go_simp; rfl)); intro gb103 hg w3 hbox hb; have n0_ := mk0 (bbT BK102.out hb); have n1_ := mk0 (below_step (wT HB.out) hb); have n2_ := mk0 (hbox); have n3_ := mk0 ((szT HB.out hg)); have n4_ := mk0 ((szT HB.out hg)); have n5_ := mk0 ((neL BK102.out hg)); have n6_ := mk0 ((neG BK102.out hg)); clear BK102; clear HB; have BK102 := n0_; have HB := n1_; have BK103 := n2_; have GW103 := n3_; have GE103 := n4_; have NB102_103 := n5_; have NB103_102 := n6_; clear n0_ n1_ n2_ n3_ n4_ n5_ n6_; clear hb hbox hg; have hnb4 := NB102_103.out; have hnc4 := NB103_102.out; have X5_0 := ct BK102.out 0; have X5_1 := ct BK102.out 1; have X5_2 := ct BK102.out 2; have X5_3 := ct BK102.out 3; have X5_4 := ct BK102.out 4; have X5_5 := ct BK102.out 5; have X5_6 := ct BK102.out 6; have Y5_0 := blk_frozen BK102.out 0; have Y5_1 := blk_frozen BK102.out 1; have Y5_2 := blk_frozen BK102.out 2; have Y5_3 := blk_frozen BK102.out 3; have Y5_4 := blk_frozen BK102.out 4; have Y5_5 := blk_frozen BK102.out 5; have Y5_6 := blk_frozen BK102.out 6) | ((with_reducible refine gate_dst (N := 3) rfl ?_); refine box_event ?hg (N := 3) ?hd (cs := #[.int .i64 0, .int .i64 0, .int .i64 0, .int .i64 0, .int .i64 0, .int .i64 0, .slice none 0 0]) (t := 30) ?hr ?_; (case hd => rfl); (case hg => rfl); (case hr => first | (go_simp; done) | (go_simp; rfl)); intro gb104 hg w6 hbox hb; have n0_ := mk0 (bbT BK102.out hb); have n1_ := mk0 (bbT BK103.out hb); have n2_ := mk0 (below_step (wT HB.out) hb); have n3_ := mk0 (hbox); have n4_ := mk0 ((szT HB.out hg)); have n5_ := mk0 ((szT HB.out hg)); have n6_ := mk0 ((neL BK102.out hg)); have n7_ := mk0 ((neG BK102.out hg)); have n8_ := mk0 ((neL BK103.out hg)); have n9_ := mk0 ((neG BK103.out hg)); clear BK102; clear BK103; clear HB; have BK102 := n0_; have BK103 := n1_; have HB := n2_; have BK104 := n3_; have GW104 := n4_; have GE104 := n5_; have NB102_104 := n6_; have NB104_102 := n7_; have NB103_104 := n8_; have NB104_103 := n9_; clear n0_ n1_ n2_ n3_ n4_ n5_ n6_ n7_ n8_ n9_; clear hb hbox hg; have hnb7 := NB104_102.out; have hnc7 := NB102_104.out; have hnb8 := NB104_103.out; have hnc8 := NB103_104.out; have X9_0 := ct BK104.out 0; have X9_1 := ct BK104.out 1; have X9_2 := ct BK104.out 2; have X9_3 := ct BK104.out 3; have X9_4 := ct BK104.out 4; have X9_5 := ct BK104.out 5; have X9_6 := ct BK104.out 6; have Y9_0 := blk_frozen BK104.out 0; have Y9_1 := blk_frozen BK104.out 1; have Y9_2 := blk_frozen BK104.out 2; have Y9_3 := blk_frozen BK104.out 3; have Y9_4 := blk_frozen BK104.out 4; have Y9_5 := blk_frozen BK104.out 5; have Y9_6 := blk_frozen BK104.out 6; have X10_0 := ct BK102.out 0; have X10_1 := ct BK102.out 1; have X10_2 := ct BK102.out 2; have X10_3 := ct BK102.out 3; have X10_4 := ct BK102.out 4; have X10_5 := ct BK102.out 5; have X10_6 := ct BK102.out 6; have Y10_0 := blk_frozen BK102.out 0; have Y10_1 := blk_frozen BK102.out 1; have Y10_2 := blk_frozen BK102.out 2; have Y10_3 := blk_frozen BK102.out 3; have Y10_4 := blk_frozen BK102.out 4; have Y10_5 := blk_frozen BK102.out 5; have Y10_6 := blk_frozen BK102.out 6))
 go_loopg [14] k (fun kq v14 w' => ∃ (x14_1 : Int) (x105006_1 : List (S92)) (u105006 : Value), v14 = .int .i64 x14_1 ∧ Aside0 (metrolablaw30_own.l0 kq l0_6 (l0_6.length : Int) x14_1 a0_0 a0_1 a0_2 a0_3 a0_4 a0_5 x105006_1 = some (r1, r2, r3, r4, r5, r6, r7)) ∧ Aside0 (kq ≤ k) ∧ Aside0 (Kd.R k92 92 w' w.heap.size (fun _ => True) u105006 x105006_1) ∧ Aside0 (w'.heap[gb103]? = some (.cells #[.int .i64 0, .int .i64 0, .int .i64 0, .int .i64 0, .int .i64 0, .int .i64 0, (.slice none 0 0)] 30 (0, 0))) ∧ Aside0 (w'.heap[gb104]? = some (.cells #[.int .i64 a0_0, .int .i64 a0_1, .int .i64 a0_2, .int .i64 a0_3, .int .i64 a0_4, .int .i64 a0_5, u105006] 30 (0, 0))) ∧ Aside0 (Below w.heap.size w w'))
 case atStart => exact ⟨(0), (([] : List (S92))), (.slice none 0 0), (by first | rfl | (simp; done) | (simp [*]; done) | exact congrArg (Value.int .i64) (by unfold wrap64; omega)), H', ⟨Nat.le_refl _⟩, ⟨by first | exact Kd.R_nil _ _ _ _ _ | exact Kd.N_nil _ _ _ _ _ | exact Kd.V_nil _ _ _ _ _ | exact Kd.Q_nil _ _ _ _ _ | exact Kd.S_nil _ _ _ _ _⟩, ⟨by (with_reducible repeat (first | refine blk_drewN ?_ _ | refine blk_drew ?_ | refine blk_alloc ?_ _)); refine blk_far ?_ NB103_104.out _; refine blk_far ?_ NB103_104.out _; refine blk_far ?_ NB103_104.out _; refine blk_far ?_ NB103_104.out _; refine blk_far ?_ NB103_104.out _; refine blk_far ?_ NB103_104.out _; refine blk_far ?_ NB103_104.out _; (with_reducible repeat (first | refine blk_drewN ?_ _ | refine blk_drew ?_ | refine blk_alloc ?_ _)); exact BK103.out⟩, ⟨by (with_reducible repeat (first | refine blk_drewN ?_ _ | refine blk_drew ?_ | refine blk_alloc ?_ _)); refine blk_put (cs := #[.int .i64 a0_0, .int .i64 a0_1, .int .i64 a0_2, .int .i64 a0_3, .int .i64 a0_4, .int .i64 a0_5, .slice none 0 0]) ?_ 6 _ rfl; refine blk_put (cs := #[.int .i64 a0_0, .int .i64 a0_1, .int .i64 a0_2, .int .i64 a0_3, .int .i64 a0_4, .int .i64 0, .slice none 0 0]) ?_ 5 _ rfl; refine blk_put (cs := #[.int .i64 a0_0, .int .i64 a0_1, .int .i64 a0_2, .int .i64 a0_3, .int .i64 0, .int .i64 0, .slice none 0 0]) ?_ 4 _ rfl; refine blk_put (cs := #[.int .i64 a0_0, .int .i64 a0_1, .int .i64 a0_2, .int .i64 0, .int .i64 0, .int .i64 0, .slice none 0 0]) ?_ 3 _ rfl; refine blk_put (cs := #[.int .i64 a0_0, .int .i64 a0_1, .int .i64 0, .int .i64 0, .int .i64 0, .int .i64 0, .slice none 0 0]) ?_ 2 _ rfl; refine blk_put (cs := #[.int .i64 a0_0, .int .i64 0, .int .i64 0, .int .i64 0, .int .i64 0, .int .i64 0, .slice none 0 0]) ?_ 1 _ rfl; refine blk_put (cs := #[.int .i64 0, .int .i64 0, .int .i64 0, .int .i64 0, .int .i64 0, .int .i64 0, .slice none 0 0]) ?_ 0 _ rfl; (with_reducible repeat (first | refine blk_drewN ?_ _ | refine blk_drew ?_ | refine blk_alloc ?_ _)); exact BK104.out⟩, ⟨by repeat (first | (with_reducible first | exact HB.out | apply below_alloc | apply pw_below_drewN | apply below_drew1 | refine below_set ?_ GE104.out) | exact HB.out)⟩⟩
 case round =>
  clear H'
  try clear X10_0
  try clear X10_1
  try clear X10_2
  try clear X10_3
  try clear X10_4
  try clear X10_5
  try clear X10_6
  try clear X5_0
  try clear X5_1
  try clear X5_2
  try clear X5_3
  try clear X5_4
  try clear X5_5
  try clear X5_6
  try clear X9_0
  try clear X9_1
  try clear X9_2
  try clear X9_3
  try clear X9_4
  try clear X9_5
  try clear X9_6
  try clear Y10_0
  try clear Y10_1
  try clear Y10_2
  try clear Y10_3
  try clear Y10_4
  try clear Y10_5
  try clear Y10_6
  try clear Y5_0
  try clear Y5_1
  try clear Y5_2
  try clear Y5_3
  try clear Y5_4
  try clear Y5_5
  try clear Y5_6
  try clear Y9_0
  try clear Y9_1
  try clear Y9_2
  try clear Y9_3
  try clear Y9_4
  try clear Y9_5
  try clear Y9_6
  obtain ⟨x14_1, x105006_1, u105006, rfl, HA, HK1, HO_105006, BK103, BK104, HB⟩ := hrel
  cases gk with
  | zero => exact absurd HA.out (by simp [metrolablaw30_own.l0])
  | succ k1 =>
   have H := HA.out
   clear HA
   simp only [metrolablaw30_own.l0] at H
   by_cases c11 : x14_1 < (l0_6.length : Int)
   ·rw [if_pos c11] at H
    have c11b0 : decide (x14_1 < (l0_6.length : Int)) = true := decide_eq_true c11
    clear c11
    by_cases c12 : 0 ≤ x14_1
    ·rw [if_pos c12] at H
     have c12b0 : decide (0 ≤ x14_1) = true := decide_eq_true c12
     clear c12
     by_cases c13 : x14_1 < (l0_6.length : Int)
     ·rw [if_pos c13] at H
      have c13b0 : decide (x14_1 < (l0_6.length : Int)) = true := decide_eq_true c13
      clear c13
      by_cases c14 : x105006_1.length < 4398046511104
      ·rw [if_pos c14] at H
       have LMc14 := mk0 c14
       clear c14
       obtain ⟨y107, hy107⟩ : ∃ y_ : List (S92), y_ = (x105006_1 ++ [(⟨(rd_T84 l0_6 x14_1).f0, (⟨(rd_T84 l0_6 x14_1).f1.f0, (rd_T84 l0_6 x14_1).f1.f1⟩ : S81), (rd_T84 l0_6 x14_1).f2⟩ : S92)]) := ⟨_, rfl⟩
       replace H : (metrolablaw30_own.l0 k1 l0_6 (l0_6.length : Int) (wrap64 (x14_1 + 1)) a0_0 a0_1 a0_2 a0_3 a0_4 a0_5 y107) = some (r1, r2, r3, r4, r5, r6, r7) := by first | (rw [hy107]; with_reducible exact H) | (have H2_ := (Option.bind_some _ _).symm.trans H; rw [hy107]; with_reducible exact H2_) | (have H2_ := (Option.bind_some _ _).symm.trans H; with_reducible exact H2_) | with_reducible exact H | (rw [hy107]; exact H) | exact H
       have Ny107 := mk0 hy107
       clear hy107
       have H' := mk0 H
       clear H
       have p105 : 0 ≤ (x14_1 : Int) := of_decide_eq_true (by first | (with_reducible assumption) | assumption)
       have q105 : x14_1 < (l0_6.length : Int) := of_decide_eq_true (by first | (with_reducible assumption) | assumption)
       obtain ⟨ad105, e105, hx105_0, hx105_1, hx105_2, hx105_3⟩ := at_T84 HR0_6.out x14_1 p105 q105
       cases e105
       replace hx105_0 := (HB.out.cell (World.block_lt_of_cell? w _ hx105_0)).trans hx105_0
       replace hx105_1 := (HB.out.cell (World.block_lt_of_cell? w _ hx105_1)).trans hx105_1
       replace hx105_2 := (HB.out.cell (World.block_lt_of_cell? w _ hx105_2)).trans hx105_2
       replace hx105_3 := (HB.out.cell (World.block_lt_of_cell? w _ hx105_3)).trans hx105_3
       replace p105 := eq_true p105
       replace q105 := eq_true q105
       go_wp2_with (first | ((with_reducible refine gate_dst (N := 5) rfl ?_); refine box_event ?hg (N := 5) ?hd (cs := #[.int .i64 0, .int .i64 0, .int .i64 0, .int .i64 0]) (t := 84) ?hr ?_; (case hd => rfl); (case hg => rfl); (case hr => first | (go_simp; done) | (go_simp; rfl)); intro gb106 hg w15 hbox hb; have n0_ := mk0 (Kd.R_below (rT HO_105006.out) hb); have n1_ := mk0 (bbT BK103.out hb); have n2_ := mk0 (bbT BK104.out hb); have n3_ := mk0 (below_step (wT HB.out) hb); have n4_ := mk0 (hbox); have n5_ := mk0 ((szT HB.out hg)); have n6_ := mk0 ((szT HB.out hg)); have n7_ := mk0 ((neL BK103.out hg)); have n8_ := mk0 ((neG BK103.out hg)); have n9_ := mk0 ((neL BK104.out hg)); have n10_ := mk0 ((neG BK104.out hg)); clear HO_105006; clear BK103; clear BK104; clear HB; have HO_105006 := n0_; have BK103 := n1_; have BK104 := n2_; have HB := n3_; have BK106 := n4_; have GW106 := n5_; have GE106 := n6_; have NB103_106 := n7_; have NB106_103 := n8_; have NB104_106 := n9_; have NB106_104 := n10_; clear n0_ n1_ n2_ n3_ n4_ n5_ n6_ n7_ n8_ n9_ n10_; clear hb hbox hg; have hnb16 := NB106_103.out; have hnc16 := NB103_106.out; have hnb17 := NB106_104.out; have hnc17 := NB104_106.out; have X18_0 := ct BK106.out 0; have X18_1 := ct BK106.out 1; have X18_2 := ct BK106.out 2; have X18_3 := ct BK106.out 3; have Y18_0 := blk_frozen BK106.out 0; have Y18_1 := blk_frozen BK106.out 1; have Y18_2 := blk_frozen BK106.out 2; have Y18_3 := blk_frozen BK106.out 3; have hnb19 := NB104_103.out; have hnc19 := NB103_104.out; have X20_0 := ct BK104.out 0; have X20_1 := ct BK104.out 1; have X20_2 := ct BK104.out 2; have X20_3 := ct BK104.out 3; have X20_4 := ct BK104.out 4; have X20_5 := ct BK104.out 5; have X20_6 := ct BK104.out 6; have Y20_0 := blk_frozen BK104.out 0; have Y20_1 := blk_frozen BK104.out 1; have Y20_2 := blk_frozen BK104.out 2; have Y20_3 := blk_frozen BK104.out 3; have Y20_4 := blk_frozen BK104.out 4; have Y20_5 := blk_frozen BK104.out 5; have Y20_6 := blk_frozen BK104.out 6) | ((with_reducible refine gate_builtin (b := .append) (xs := #[.tmp 19, .tmp 21]) rfl ?_); at_builtin; refine Kd.R_append k92 (w0 := w) w.heap.size rfl (.tmp 19) (.tmp 21) 28 92 (.agg #[(.int .i64 0), (.int .i64 0), (.int .i64 0), (.int .i64 0)]) 32 rfl Tryz.underlying28 info92 rfl (by decide) (by omega) u105006 x105006_1 (⟨(rd_T84 l0_6 x14_1).f0, (⟨(rd_T84 l0_6 x14_1).f1.f0, (rd_T84 l0_6 x14_1).f1.f1⟩ : S81), (rd_T84 l0_6 x14_1).f2⟩ : S92) [.int .i64 ((rd_T84 l0_6 x14_1).f0), .int .i64 ((rd_T84 l0_6 x14_1).f1.f0), .int .i64 ((rd_T84 l0_6 x14_1).f1.f1), .int .i64 ((rd_T84 l0_6 x14_1).f2)] (fun _ => True) (fun _ => False) rfl (by first | (go_simp; done) | (go_simp; rfl)) ?aP (fun _ hk => hk.elim) ?aF ?aO ?aB ?aS ?aL ?_; (case aP => exact k92_mkM _ _ _ (⟨(rd_T84 l0_6 x14_1).f0, (⟨(rd_T84 l0_6 x14_1).f1.f0, (rd_T84 l0_6 x14_1).f1.f1⟩ : S81), (rd_T84 l0_6 x14_1).f2⟩ : S92)); (case aB => exact (by repeat (first | (with_reducible first | exact HB.out | apply below_alloc | apply pw_below_drewN | apply below_drew1 | refine below_set ?_ GE106.out) | exact HB.out))); (case aF => exact (fun _ _ => trivial)); (case aO => exact (by (with_reducible repeat (first | apply Kd.R_alloc | apply Kd.R_drewN | apply Kd.R_drew)); exact Kd.R_mono (Kd.R_far (p := ⟨gb106, 3, none⟩) (Kd.R_far (p := ⟨gb106, 2, none⟩) (Kd.R_far (p := ⟨gb106, 1, none⟩) (Kd.R_far (p := ⟨gb106, 0, none⟩) (Kd.R_types HO_105006.out BK106.out (by decide)) (fun _ hk => hk.2) (.int .i64 ((rd_T84 l0_6 x14_1).f0))) (fun _ hk => hk.2) (.int .i64 ((rd_T84 l0_6 x14_1).f1.f0))) (fun _ hk => hk.2) (.int .i64 ((rd_T84 l0_6 x14_1).f1.f1))) (fun _ hk => hk.2) (.int .i64 ((rd_T84 l0_6 x14_1).f2))) (fun _ hk => trivial))); (case aS => exact (below_size (by repeat (first | (with_reducible first | exact HB.out | apply below_alloc | apply pw_below_drewN | apply below_drew1 | refine below_set ?_ GE106.out) | exact HB.out)))); (case aL => have := LMc14.out; omega); intro v108 w21 ho hb hg hat; rw [← Ny107.out] at ho; have n0_ := mk0 (blk_grown (g := gb103) (o := .cells #[.int .i64 0, .int .i64 0, .int .i64 0, .int .i64 0, .int .i64 0, .int .i64 0, .slice none 0 0] 30 (0, 0)) (by (with_reducible repeat (first | refine blk_drewN ?_ _ | refine blk_drew ?_ | refine blk_alloc ?_ _)); refine blk_far ?_ NB103_106.out _; refine blk_far ?_ NB103_106.out _; refine blk_far ?_ NB103_106.out _; refine blk_far ?_ NB103_106.out _; (with_reducible repeat (first | refine blk_drewN ?_ _ | refine blk_drew ?_ | refine blk_alloc ?_ _)); exact BK103.out) hg (Kd.R_ne HO_105006.out BK103.out (by decide))); have n1_ := mk0 (blk_grown (g := gb104) (o := .cells #[.int .i64 a0_0, .int .i64 a0_1, .int .i64 a0_2, .int .i64 a0_3, .int .i64 a0_4, .int .i64 a0_5, u105006] 30 (0, 0)) (by (with_reducible repeat (first | refine blk_drewN ?_ _ | refine blk_drew ?_ | refine blk_alloc ?_ _)); refine blk_far ?_ NB104_106.out _; refine blk_far ?_ NB104_106.out _; refine blk_far ?_ NB104_106.out _; refine blk_far ?_ NB104_106.out _; (with_reducible repeat (first | refine blk_drewN ?_ _ | refine blk_drew ?_ | refine blk_alloc ?_ _)); exact BK104.out) hg (Kd.R_ne HO_105006.out BK104.out (by decide))); have n2_ := mk0 (blk_grown (g := gb106) (o := .cells #[.int .i64 ((rd_T84 l0_6 x14_1).f0), .int .i64 ((rd_T84 l0_6 x14_1).f1.f0), .int .i64 ((rd_T84 l0_6 x14_1).f1.f1), .int .i64 ((rd_T84 l0_6 x14_1).f2)] 84 (0, 0)) (by (with_reducible repeat (first | refine blk_drewN ?_ _ | refine blk_drew ?_ | refine blk_alloc ?_ _)); refine blk_put (cs := #[.int .i64 ((rd_T84 l0_6 x14_1).f0), .int .i64 ((rd_T84 l0_6 x14_1).f1.f0), .int .i64 ((rd_T84 l0_6 x14_1).f1.f1), .int .i64 0]) ?_ 3 _ rfl; refine blk_put (cs := #[.int .i64 ((rd_T84 l0_6 x14_1).f0), .int .i64 ((rd_T84 l0_6 x14_1).f1.f0), .int .i64 0, .int .i64 0]) ?_ 2 _ rfl; refine blk_put (cs := #[.int .i64 ((rd_T84 l0_6 x14_1).f0), .int .i64 0, .int .i64 0, .int .i64 0]) ?_ 1 _ rfl; refine blk_put (cs := #[.int .i64 0, .int .i64 0, .int .i64 0, .int .i64 0]) ?_ 0 _ rfl; (with_reducible repeat (first | refine blk_drewN ?_ _ | refine blk_drew ?_ | refine blk_alloc ?_ _)); exact BK106.out) hg (Kd.R_ne HO_105006.out BK106.out (by decide))); have n3_ := mk0 (hb); have n4_ := mk0 (ho); clear BK103; clear BK104; clear BK106; clear HB; clear HO_105006; have BK103 := n0_; have BK104 := n1_; have BK106 := n2_; have HB := n3_; have HO109 := n4_; clear n0_ n1_ n2_ n3_ n4_; clear ho hb hg hat; (try clear BK106 GW106 GE106); obtain ⟨Ao22, co22, eo22⟩ := Kd.R_slice HO109.out; subst eo22; have X23_0 := ct BK104.out 0; have X23_1 := ct BK104.out 1; have X23_2 := ct BK104.out 2; have X23_3 := ct BK104.out 3; have X23_4 := ct BK104.out 4; have X23_5 := ct BK104.out 5; have X23_6 := ct BK104.out 6; have Y23_0 := blk_frozen BK104.out 0; have Y23_1 := blk_frozen BK104.out 1; have Y23_2 := blk_frozen BK104.out 2; have Y23_3 := blk_frozen BK104.out 3; have Y23_4 := blk_frozen BK104.out 4; have Y23_5 := blk_frozen BK104.out 5; have Y23_6 := blk_frozen BK104.out 6))
       go_roundg k1
       case measure => have := HK1.out; omega
       case rel => exact ⟨(wrap64 (x14_1 + 1)), (y107), (.slice Ao22 y107.length co22), (by first | rfl | (simp; done) | (simp [*]; done) | exact congrArg (Value.int .i64) (by unfold wrap64; omega)), H', ⟨by have := HK1.out; omega⟩, ⟨by (with_reducible repeat (first | apply Kd.R_alloc | apply Kd.R_drewN | apply Kd.R_drew)); exact Kd.R_mono (Kd.R_far (p := ⟨gb104, 6, none⟩) (Kd.R_types HO109.out BK104.out (by decide)) (fun _ hk => hk.2) (.slice Ao22 y107.length co22)) (fun _ hk => trivial)⟩, ⟨by (with_reducible repeat (first | refine blk_drewN ?_ _ | refine blk_drew ?_ | refine blk_alloc ?_ _)); refine blk_far ?_ NB103_104.out _; (with_reducible repeat (first | refine blk_drewN ?_ _ | refine blk_drew ?_ | refine blk_alloc ?_ _)); exact BK103.out⟩, ⟨by (with_reducible repeat (first | refine blk_drewN ?_ _ | refine blk_drew ?_ | refine blk_alloc ?_ _)); refine blk_put (cs := #[.int .i64 a0_0, .int .i64 a0_1, .int .i64 a0_2, .int .i64 a0_3, .int .i64 a0_4, .int .i64 a0_5, u105006]) ?_ 6 _ rfl; (with_reducible repeat (first | refine blk_drewN ?_ _ | refine blk_drew ?_ | refine blk_alloc ?_ _)); exact BK104.out⟩, ⟨by repeat (first | (with_reducible first | exact HB.out | apply below_alloc | apply pw_below_drewN | apply below_drew1 | refine below_set ?_ GE104.out) | exact HB.out)⟩⟩
      ·rw [if_neg c14] at H
       exact absurd H (by simp)
     ·rw [if_neg c13] at H
      exact absurd H (by simp)
    ·rw [if_neg c12] at H
     exact absurd H (by simp)
   ·rw [if_neg c11] at H
    have c11b0 : decide (x14_1 < (l0_6.length : Int)) = false := decide_eq_false c11
    clear c11
    simp only [Option.some.injEq, Prod.mk.injEq] at H
    obtain ⟨rfl, rfl, rfl, rfl, rfl, rfl, rfl⟩ := H
    have hnb24 := NB104_103.out
    have hnc24 := NB103_104.out
    have X25_0 := ct BK104.out 0
    have X25_1 := ct BK104.out 1
    have X25_2 := ct BK104.out 2
    have X25_3 := ct BK104.out 3
    have X25_4 := ct BK104.out 4
    have X25_5 := ct BK104.out 5
    have X25_6 := ct BK104.out 6
    have Y25_0 := blk_frozen BK104.out 0
    have Y25_1 := blk_frozen BK104.out 1
    have Y25_2 := blk_frozen BK104.out 2
    have Y25_3 := blk_frozen BK104.out 3
    have Y25_4 := blk_frozen BK104.out 4
    have Y25_5 := blk_frozen BK104.out 5
    have Y25_6 := blk_frozen BK104.out 6
    have X26_0 := ct BK103.out 0
    have X26_1 := ct BK103.out 1
    have X26_2 := ct BK103.out 2
    have X26_3 := ct BK103.out 3
    have X26_4 := ct BK103.out 4
    have X26_5 := ct BK103.out 5
    have X26_6 := ct BK103.out 6
    have Y26_0 := blk_frozen BK103.out 0
    have Y26_1 := blk_frozen BK103.out 1
    have Y26_2 := blk_frozen BK103.out 2
    have Y26_3 := blk_frozen BK103.out 3
    have Y26_4 := blk_frozen BK103.out 4
    have Y26_5 := blk_frozen BK103.out 5
    have Y26_6 := blk_frozen BK103.out 6
    obtain ⟨Ao27, co27, eo27⟩ := Kd.R_slice HO_105006.out
    subst eo27
    go_wp2
    refine bodyPost_ret (results_cell_row rfl _ _ gb103 30 #[.int .i64 a0_0, .int .i64 a0_1, .int .i64 a0_2, .int .i64 a0_3, .int .i64 a0_4, .int .i64 a0_5, .slice Ao27 x105006_1.length co27] (0, 0) _ rfl (by (with_reducible repeat (first | refine blk_drewN ?_ _ | refine blk_drew ?_ | refine blk_alloc ?_ _)); refine blk_put (cs := #[.int .i64 a0_0, .int .i64 a0_1, .int .i64 a0_2, .int .i64 a0_3, .int .i64 a0_4, .int .i64 a0_5, .slice none 0 0]) ?_ 6 _ rfl; refine blk_put (cs := #[.int .i64 a0_0, .int .i64 a0_1, .int .i64 a0_2, .int .i64 a0_3, .int .i64 a0_4, .int .i64 0, .slice none 0 0]) ?_ 5 _ rfl; refine blk_put (cs := #[.int .i64 a0_0, .int .i64 a0_1, .int .i64 a0_2, .int .i64 a0_3, .int .i64 0, .int .i64 0, .slice none 0 0]) ?_ 4 _ rfl; refine blk_put (cs := #[.int .i64 a0_0, .int .i64 a0_1, .int .i64 a0_2, .int .i64 0, .int .i64 0, .int .i64 0, .slice none 0 0]) ?_ 3 _ rfl; refine blk_put (cs := #[.int .i64 a0_0, .int .i64 a0_1, .int .i64 0, .int .i64 0, .int .i64 0, .int .i64 0, .slice none 0 0]) ?_ 2 _ rfl; refine blk_put (cs := #[.int .i64 a0_0, .int .i64 0, .int .i64 0, .int .i64 0, .int .i64 0, .int .i64 0, .slice none 0 0]) ?_ 1 _ rfl; refine blk_put (cs := #[.int .i64 0, .int .i64 0, .int .i64 0, .int .i64 0, .int .i64 0, .int .i64 0, .slice none 0 0]) ?_ 0 _ rfl; (with_reducible repeat (first | refine blk_drewN ?_ _ | refine blk_drew ?_ | refine blk_alloc ?_ _)); exact BK103.out) Tryz.underlying30 rfl (by kernel_rfl)) rfl ?_
    exact ⟨_, eqT, by (with_reducible repeat (first | apply Kd.R_alloc | apply Kd.R_drewN | apply Kd.R_drew)); exact Kd.R_mono (Kd.R_far (p := ⟨gb103, 6, none⟩) (Kd.R_far (p := ⟨gb103, 5, none⟩) (Kd.R_far (p := ⟨gb103, 4, none⟩) (Kd.R_far (p := ⟨gb103, 3, none⟩) (Kd.R_far (p := ⟨gb103, 2, none⟩) (Kd.R_far (p := ⟨gb103, 1, none⟩) (Kd.R_far (p := ⟨gb103, 0, none⟩) (Kd.R_types HO_105006.out BK103.out (by decide)) (fun _ hk => hk.2) (.int .i64 a0_0)) (fun _ hk => hk.2) (.int .i64 a0_1)) (fun _ hk => hk.2) (.int .i64 a0_2)) (fun _ hk => hk.2) (.int .i64 a0_3)) (fun _ hk => hk.2) (.int .i64 a0_4)) (fun _ hk => hk.2) (.int .i64 a0_5)) (fun _ hk => hk.2) (.slice Ao27 x105006_1.length co27)) (fun _ hk => trivial), by repeat (first | (with_reducible first | exact HB.out | apply below_alloc | apply pw_below_drewN | apply below_drew1 | refine below_set ?_ GE103.out) | exact HB.out)⟩
def probe_within.f (a0 : Int) : Option (Bool) := if a0 ≥ (-100000) then (some (decide (a0 ≤ 100000))) else (some false)
theorem probe_within.calls (a0 : Int) (r : Bool) (w : World) (h : probe_within.f a0 = some r) :
  Calls Tryz.prog 44 #[.int .i64 a0] w fun e w' => e = .returned (.bool r) ∧ Drawn0 w w' := by
 have H : (if a0 ≥ (-100000) then (some (decide (a0 ≤ 100000))) else (some false)) = some r := h
 clear h
 by_cases c2 : a0 ≥ (-100000)
 ·rw [if_pos c2] at H
  have c2b0 : decide ((-100000) ≤ a0) = true := decide_eq_true c2
  clear c2
  obtain rfl := Option.some.inj H
  go_enter Tryz.func44, Tryz.ntmps44
  go_wp2
  go_ret
  exact ⟨by first | rfl | (simp; done) | (simp [*]; done) | exact congrArg (Value.int .i64) (by unfold wrap64; omega), by repeat (first | exact Drawn0.refl _ | apply Drawn0.step)⟩
 ·rw [if_neg c2] at H
  have c2b0 : decide ((-100000) ≤ a0) = false := decide_eq_false c2
  clear c2
  obtain rfl := Option.some.inj H
  go_enter Tryz.func44, Tryz.ntmps44
  go_wp2
  go_ret
  exact ⟨by first | rfl | (simp; done) | (simp [*]; done) | exact congrArg (Value.int .i64) (by unfold wrap64; omega), by repeat (first | exact Drawn0.refl _ | apply Drawn0.step)⟩
def probe_right.f (a0_0 : Int) (a0_1 : Int) (a0_2 : Int) : Option (Bool) := (probe_within.f a0_0).bind fun t111 => (if t111 = true then ((probe_within.f a0_1).bind fun t112 => (if t112 = true then ((probe_within.f a0_2).bind fun t113 => (some t113)) else (some false))) else (some false))
theorem probe_right.calls (a0_0 : Int) (a0_1 : Int) (a0_2 : Int) (r : Bool) (w : World) (h : probe_right.f a0_0 a0_1 a0_2 = some r) :
  Calls Tryz.prog 42 #[.agg #[.int .i64 a0_0, .int .i64 a0_1, .int .i64 a0_2]] w fun e w' => e = .returned (.bool r) ∧ Below w.heap.size w w' := by
 have hu23 := Tryz.underlying23
 have HB := mk0 (Below.refl w.heap.size w)
 have H : ((probe_within.f a0_0).bind fun t111 => (if t111 = true then ((probe_within.f a0_1).bind fun t112 => (if t112 = true then ((probe_within.f a0_2).bind fun t113 => (some t113)) else (some false))) else (some false))) = some r := h
 clear h
 replace H := Option.bind_eq_some_iff.mp H
 obtain ⟨t111, A20, H⟩ := H
 (try dsimp only at H)
 have A2 := mk0 A20
 clear A20
 by_cases c3 : t111 = true
 ·subst c3
  have H1 : ((probe_within.f a0_1).bind fun t112 => (if t112 = true then ((probe_within.f a0_2).bind fun t113 => (some t113)) else (some false))) = some r := by rw [if_pos rfl] at H; exact H
  clear H
  have H := H1
  clear H1
  replace H := Option.bind_eq_some_iff.mp H
  obtain ⟨t112, A40, H⟩ := H
  (try dsimp only at H)
  have A4 := mk0 A40
  clear A40
  by_cases c5 : t112 = true
  ·subst c5
   have H1 : ((probe_within.f a0_2).bind fun t113 => (some t113)) = some r := by rw [if_pos rfl] at H; exact H
   clear H
   have H := H1
   clear H1
   replace H := Option.bind_eq_some_iff.mp H
   obtain ⟨t113, A60, H⟩ := H
   (try dsimp only at H)
   have A6 := mk0 A60
   clear A60
   obtain rfl := Option.some.inj H
   go_enter Tryz.func42, Tryz.ntmps42
   go_wp2_with (first | ((with_reducible refine gate_dst (N := 1) rfl ?_); refine box_event ?hg (N := 1) ?hd (cs := #[.int .i64 a0_0, .int .i64 a0_1, .int .i64 a0_2]) (t := 23) ?hr ?_; (case hd => rfl); (case hg => rfl); (case hr => first | (go_simp; done) | (go_simp; rfl)); intro gb110 hg w7 hbox hb; have n0_ := mk0 (below_step (wT HB.out) hb); have n1_ := mk0 (hbox); have n2_ := mk0 ((szT HB.out hg)); have n3_ := mk0 ((szT HB.out hg)); clear HB; have HB := n0_; have BK110 := n1_; have GW110 := n2_; have GE110 := n3_; clear n0_ n1_ n2_ n3_; clear hb hbox hg; have X8_0 := ct BK110.out 0; have X8_1 := ct BK110.out 1; have X8_2 := ct BK110.out 2; have Y8_0 := blk_frozen BK110.out 0; have Y8_1 := blk_frozen BK110.out 1; have Y8_2 := blk_frozen BK110.out 2) | ((with_reducible refine gate_callee (f := 44) rfl ?_); refine goesL_ (some 5) rfl rfl Tryz.func44 (by kernel_rfl) rfl #[.int .i64 a0_0] rfl mapT ?_; (with_reducible refine (probe_within.calls a0_0 true _ A2.out).mono ?_); rintro e w' ⟨rfl, ⟨nd, rfl⟩⟩; refine ⟨_, rfl, ?_⟩) | (go_at_call 44; (with_reducible refine (probe_within.calls a0_1 true _ A4.out).mono ?_); rintro e w' ⟨rfl, ⟨nd, rfl⟩⟩; (try clear BK110 GW110 GE110)) | (go_at_call 44; (with_reducible refine (probe_within.calls a0_2 t113 _ A6.out).mono ?_); rintro e w' ⟨rfl, ⟨nd, rfl⟩⟩))
   go_ret
   exact ⟨eqT, wT HB.out⟩
  ·replace c5 := Bool.eq_false_iff.mpr c5
   subst c5
   have H1 : (some false) = some r := by rw [if_neg (show ¬ (false = true) by decide)] at H; exact H
   clear H
   have H := H1
   clear H1
   obtain rfl := Option.some.inj H
   go_enter Tryz.func42, Tryz.ntmps42
   go_wp2_with (first | ((with_reducible refine gate_dst (N := 1) rfl ?_); refine box_event ?hg (N := 1) ?hd (cs := #[.int .i64 a0_0, .int .i64 a0_1, .int .i64 a0_2]) (t := 23) ?hr ?_; (case hd => rfl); (case hg => rfl); (case hr => first | (go_simp; done) | (go_simp; rfl)); intro gb110 hg w9 hbox hb; have n0_ := mk0 (below_step (wT HB.out) hb); have n1_ := mk0 (hbox); have n2_ := mk0 ((szT HB.out hg)); have n3_ := mk0 ((szT HB.out hg)); clear HB; have HB := n0_; have BK110 := n1_; have GW110 := n2_; have GE110 := n3_; clear n0_ n1_ n2_ n3_; clear hb hbox hg; have X10_0 := ct BK110.out 0; have X10_1 := ct BK110.out 1; have X10_2 := ct BK110.out 2; have Y10_0 := blk_frozen BK110.out 0; have Y10_1 := blk_frozen BK110.out 1; have Y10_2 := blk_frozen BK110.out 2) | ((with_reducible refine gate_callee (f := 44) rfl ?_); refine goesL_ (some 5) rfl rfl Tryz.func44 (by kernel_rfl) rfl #[.int .i64 a0_0] rfl mapT ?_; (with_reducible refine (probe_within.calls a0_0 true _ A2.out).mono ?_); rintro e w' ⟨rfl, ⟨nd, rfl⟩⟩; refine ⟨_, rfl, ?_⟩; (try clear BK110 GW110 GE110)) | (go_at_call 44; (with_reducible refine (probe_within.calls a0_1 false _ A4.out).mono ?_); rintro e w' ⟨rfl, ⟨nd, rfl⟩⟩))
   go_ret
   exact ⟨eqT, wT HB.out⟩
 ·replace c3 := Bool.eq_false_iff.mpr c3
  subst c3
  have H1 : (some false) = some r := by rw [if_neg (show ¬ (false = true) by decide)] at H; exact H
  clear H
  have H := H1
  clear H1
  obtain rfl := Option.some.inj H
  go_enter Tryz.func42, Tryz.ntmps42
  go_wp2_with (first | ((with_reducible refine gate_dst (N := 1) rfl ?_); refine box_event ?hg (N := 1) ?hd (cs := #[.int .i64 a0_0, .int .i64 a0_1, .int .i64 a0_2]) (t := 23) ?hr ?_; (case hd => rfl); (case hg => rfl); (case hr => first | (go_simp; done) | (go_simp; rfl)); intro gb110 hg w11 hbox hb; have n0_ := mk0 (below_step (wT HB.out) hb); have n1_ := mk0 (hbox); have n2_ := mk0 ((szT HB.out hg)); have n3_ := mk0 ((szT HB.out hg)); clear HB; have HB := n0_; have BK110 := n1_; have GW110 := n2_; have GE110 := n3_; clear n0_ n1_ n2_ n3_; clear hb hbox hg; have X12_0 := ct BK110.out 0; have X12_1 := ct BK110.out 1; have X12_2 := ct BK110.out 2; have Y12_0 := blk_frozen BK110.out 0; have Y12_1 := blk_frozen BK110.out 1; have Y12_2 := blk_frozen BK110.out 2; (try clear BK110 GW110 GE110)) | ((with_reducible refine gate_callee (f := 44) rfl ?_); refine goesL_ (some 5) rfl rfl Tryz.func44 (by kernel_rfl) rfl #[.int .i64 a0_0] rfl mapT ?_; (with_reducible refine (probe_within.calls a0_0 false _ A2.out).mono ?_); rintro e w' ⟨rfl, ⟨nd, rfl⟩⟩; refine ⟨_, rfl, ?_⟩))
  go_ret
  exact ⟨eqT, wT HB.out⟩
def probe_of.f (a0_0 : Int) (a0_1 : Int) (a0_2 : Int) : Option (Int × Int × Int) := some (a0_0, a0_1, a0_2)
theorem probe_of.calls (a0_0 : Int) (a0_1 : Int) (a0_2 : Int) (r1 : Int) (r2 : Int) (r3 : Int) (w : World) (h : probe_of.f a0_0 a0_1 a0_2 = some (r1, r2, r3)) :
  Calls Tryz.prog 43 #[.agg #[.int .i64 a0_0, .int .i64 a0_1, .int .i64 a0_2]] w fun e w' => e = .returned (.agg #[.int .i64 r1, .int .i64 r2, .int .i64 r3]) ∧ Below w.heap.size w w' := by
 have hu23 := Tryz.underlying23
 have hu101 := Tryz.underlying101
 have HB := mk0 (Below.refl w.heap.size w)
 have H : (some (a0_0, a0_1, a0_2)) = some (r1, r2, r3) := h
 clear h
 simp only [Option.some.injEq, Prod.mk.injEq] at H
 obtain ⟨rfl, rfl, rfl⟩ := H
 go_enter Tryz.func43, Tryz.ntmps43
 go_wp2_with (first | ((with_reducible refine gate_dst (N := 1) rfl ?_); refine box_event ?hg (N := 1) ?hd (cs := #[.int .i64 a0_0, .int .i64 a0_1, .int .i64 a0_2]) (t := 23) ?hr ?_; (case hd => rfl); (case hg => rfl); (case hr => first | (go_simp; done) | (go_simp; rfl)); intro gb114 hg w2 hbox hb; have n0_ := mk0 (below_step (wT HB.out) hb); have n1_ := mk0 (hbox); have n2_ := mk0 ((szT HB.out hg)); have n3_ := mk0 ((szT HB.out hg)); clear HB; have HB := n0_; have BK114 := n1_; have GW114 := n2_; have GE114 := n3_; clear n0_ n1_ n2_ n3_; clear hb hbox hg) | ((with_reducible refine gate_dst (N := 2) rfl ?_); refine box_event ?hg (N := 2) ?hd (cs := #[.int .i64 0, .int .i64 0, .int .i64 0]) (t := 101) ?hr ?_; (case hd => rfl); (case hg => rfl); (case hr => first | (go_simp; done) | (go_simp; rfl)); intro gb115 hg w3 hbox hb; have n0_ := mk0 (bbT BK114.out hb); have n1_ := mk0 (below_step (wT HB.out) hb); have n2_ := mk0 (hbox); have n3_ := mk0 ((szT HB.out hg)); have n4_ := mk0 ((szT HB.out hg)); have n5_ := mk0 ((neL BK114.out hg)); have n6_ := mk0 ((neG BK114.out hg)); clear BK114; clear HB; have BK114 := n0_; have HB := n1_; have BK115 := n2_; have GW115 := n3_; have GE115 := n4_; have NB114_115 := n5_; have NB115_114 := n6_; clear n0_ n1_ n2_ n3_ n4_ n5_ n6_; clear hb hbox hg; have hnb4 := NB114_115.out; have hnc4 := NB115_114.out; have X5_0 := ct BK114.out 0; have X5_1 := ct BK114.out 1; have X5_2 := ct BK114.out 2; have Y5_0 := blk_frozen BK114.out 0; have Y5_1 := blk_frozen BK114.out 1; have Y5_2 := blk_frozen BK114.out 2; (try clear BK114 GW114 GE114); have X6_0 := ct BK115.out 0; have X6_1 := ct BK115.out 1; have X6_2 := ct BK115.out 2; have Y6_0 := blk_frozen BK115.out 0; have Y6_1 := blk_frozen BK115.out 1; have Y6_2 := blk_frozen BK115.out 2))
 refine bodyPost_ret (results_cell_row rfl _ _ gb115 101 #[.int .i64 a0_0, .int .i64 a0_1, .int .i64 a0_2] (0, 0) _ rfl (by (with_reducible repeat (first | refine blk_drewN ?_ _ | refine blk_drew ?_ | refine blk_alloc ?_ _)); refine blk_put (cs := #[.int .i64 a0_0, .int .i64 a0_1, .int .i64 0]) ?_ 2 _ rfl; refine blk_put (cs := #[.int .i64 a0_0, .int .i64 0, .int .i64 0]) ?_ 1 _ rfl; refine blk_put (cs := #[.int .i64 0, .int .i64 0, .int .i64 0]) ?_ 0 _ rfl; (with_reducible repeat (first | refine blk_drewN ?_ _ | refine blk_drew ?_ | refine blk_alloc ?_ _)); exact BK115.out) Tryz.underlying101 rfl (by kernel_rfl)) rfl ?_
 exact ⟨eqT, by repeat (first | (with_reducible first | exact HB.out | apply below_alloc | apply pw_below_drewN | apply below_drew1 | refine below_set ?_ GE115.out) | exact HB.out)⟩
end Go.Proofs.YtolbjmaabghghaaGreatDoor.PA
