/- A part of the proof. -/
import Derived.Test.YtolbjmaabghghaaGreatDoorJ7PAx0
import Derived.Test.YtolbjmaabghghaaGreatDoorJ7PAx2
import Derived.Test.YtolbjmaabghghaaGreatDoorJ7PAx3
import Derived.Test.YtolbjmaabghghaaGreatDoorJ7ENamed
namespace Go.Proofs.YtolbjmaabghghaaGreatDoor.PA
open Go.RowKit Go.PW Go.PL Go.PM
attribute [local go_sem] max2_int min2_int max_two min_two max_three min_three max_four min_four   -- for this text's walks alone
set_option linter.unusedVariables false
set_option maxHeartbeats 8000000
set_option maxRecDepth 100000
set_option linter.unusedSimpArgs false
attribute [local go_sem high] eqA47
def probe_Right.j0 : Nat → Bool → Int → Int → Int → Int → Int → ByteArray → Option (Int)
 | 0, _, _, _, _, _, _, _ => none
 | k + 1, x28, x208000, x208001, x208002, x208003, x208004, x208005 => if x28 = true then (some 1) else (if ((!(x208001 == 0) || (!(x208002 == 0) || (!(x208003 == 0)))) || (!(x208005.toList == ([] : List UInt8)))) = true then (some 3) else (some 0))
def probe_Right.f (k : Nat) (a0_0 : Int) (a0_1 : Int) (a0_2 : Int) (a0_3 : Int) (a0_4 : Int) (a0_5 : ByteArray) : Option (Int) := if a0_0 = 0 then ((probe_right.f a0_1 a0_2 a0_3).bind fun t209 => (if t209 = true then (if (!(a0_4 == 0) || (!(a0_5.toList == ([] : List UInt8)))) = true then (some 3) else (some 0)) else (some 2))) else (if a0_0 = 1 then (if a0_4 < 0 then (probe_Right.j0 k true a0_0 a0_1 a0_2 a0_3 a0_4 a0_5) else (probe_Right.j0 k (decide (a0_4 > 5)) a0_0 a0_1 a0_2 a0_3 a0_4 a0_5)) else (if a0_0 = 2 then ((probe_named.f a0_5).bind fun t210 => (if t210 = 0 then (if ((!(a0_1 == 0) || (!(a0_2 == 0) || (!(a0_3 == 0)))) || (!(a0_4 == 0))) = true then (some 3) else (some 0)) else (some t210))) else (some 1)))
theorem probe_Right.mono_l : ∀ k, (∀ y0 y1 y2 y3 y4 y5 y6, LeO (probe_Right.j0 k y0 y1 y2 y3 y4 y5 y6) (probe_Right.j0 (k + 1) y0 y1 y2 y3 y4 y5 y6))
 | 0 => fun _ _ _ _ _ _ _ r h => by simp [probe_Right.j0] at h
 | k + 1 => by
  have ih0 := probe_Right.mono_l k
  ·intro y0 y1 y2 y3 y4 y5 y6
   unfold probe_Right.j0
   repeat' first
   | (with_reducible exact ih0 _ _ _ _ _ _ _)
   | (with_reducible exact LeO.refl _)
   | (with_reducible exact LeO.none _)
   | (with_reducible refine LeO.ite ?_ ?_)
   | (with_reducible refine LeO.bind ?_ (fun _ => ?_))
   | exact ih0 _ _ _ _ _ _ _
   | exact LeO.none _
   | refine LeO.ite ?_ ?_
   | refine LeO.bind ?_ (fun _ => ?_)
theorem probe_Right.mono : ∀ a0 a1 a2 a3 a4 a5 k, LeO (probe_Right.f k a0 a1 a2 a3 a4 a5) (probe_Right.f (k + 1) a0 a1 a2 a3 a4 a5) := by
 intro a0 a1 a2 a3 a4 a5 k
 have ih0 := probe_Right.mono_l k
 unfold probe_Right.f
 repeat' first
   | (with_reducible exact ih0 _ _ _ _ _ _ _)
   | (with_reducible exact LeO.refl _)
   | (with_reducible exact LeO.none _)
   | (with_reducible refine LeO.ite ?_ ?_)
   | (with_reducible refine LeO.bind ?_ (fun _ => ?_))
   | exact ih0 _ _ _ _ _ _ _
   | exact LeO.none _
   | refine LeO.ite ?_ ?_
   | refine LeO.bind ?_ (fun _ => ?_)
theorem probe_Right.calls (k : Nat) (a0_0 : Int) (a0_1 : Int) (a0_2 : Int) (a0_3 : Int) (a0_4 : Int) (a0_5 : ByteArray) (r : Int) (w : World) (hG : GW w) (h : probe_Right.f k a0_0 a0_1 a0_2 a0_3 a0_4 a0_5 = some r) :
  Calls Tryz.prog 25 #[.agg #[.int .i64 a0_0, .int .i64 a0_1, .int .i64 a0_2, .int .i64 a0_3, .int .i64 a0_4, .string a0_5]] w fun e w' => e = .returned (.int .i64 r) ∧ Below w.heap.size w w' := by
 have hu47 := Tryz.underlying47
 have hu23 := Tryz.underlying23
 have HG := mk0 hG
 clear hG
 have HB := mk0 (Below.refl w.heap.size w)
 have H : (if a0_0 = 0 then ((probe_right.f a0_1 a0_2 a0_3).bind fun t209 => (if t209 = true then (if (!(a0_4 == 0) || (!(a0_5.toList == ([] : List UInt8)))) = true then (some 3) else (some 0)) else (some 2))) else (if a0_0 = 1 then (if a0_4 < 0 then (probe_Right.j0 k true a0_0 a0_1 a0_2 a0_3 a0_4 a0_5) else (probe_Right.j0 k (decide (a0_4 > 5)) a0_0 a0_1 a0_2 a0_3 a0_4 a0_5)) else (if a0_0 = 2 then ((probe_named.f a0_5).bind fun t210 => (if t210 = 0 then (if ((!(a0_1 == 0) || (!(a0_2 == 0) || (!(a0_3 == 0)))) || (!(a0_4 == 0))) = true then (some 3) else (some 0)) else (some t210))) else (some 1)))) = some r := h
 clear h
 by_cases c2 : a0_0 = 0
 ·rw [if_pos c2] at H
  have c2b0 : (a0_0 == 0) = true := beq_iff_eq.mpr c2
  have c2b1 : (a0_0 != 0) = false := bne_eq_false_iff_eq.mpr c2
  clear c2
  replace H := Option.bind_eq_some_iff.mp H
  obtain ⟨t209, A30, H⟩ := H
  (try dsimp only at H)
  have A3 := mk0 A30
  clear A30
  by_cases c4 : t209 = true
  ·subst c4
   have H1 : (if (!(a0_4 == 0) || (!(a0_5.toList == ([] : List UInt8)))) = true then (some 3) else (some 0)) = some r := by rw [if_pos rfl] at H; exact H
   clear H
   have H := H1
   clear H1
   by_cases c5 : (!(a0_4 == 0) || (!(a0_5.toList == ([] : List UInt8)))) = true
   ·rw [if_pos c5] at H
    have c5b0 : (!(a0_4 == 0) || (!(a0_5.toList == ([] : List UInt8)))) = true := c5
    have c5b0e : (!(a0_4 == 0) || (!(a0_5.toList.isEmpty))) = true := by simpa using c5b0
    have c5b0e : (!(a0_4 == 0) || (!(a0_5.toList.isEmpty))) = true := by simpa using c5b0
    clear c5
    obtain rfl := Option.some.inj H
    go_enter Tryz.func25, Tryz.ntmps25
    go_wp2_with (first | ((with_reducible refine gate_dst (N := 1) rfl ?_); refine box_event ?hg (N := 1) ?hd (cs := #[.int .i64 a0_0, .int .i64 a0_1, .int .i64 a0_2, .int .i64 a0_3, .int .i64 a0_4, .string a0_5]) (t := 47) ?hr ?_; (case hd => rfl); (case hg => rfl); (case hr => first | (go_simp; done) | (go_simp; rfl)); intro gb207 hg w6 hbox hb; have n0_ := mk0 (below_step (wT HB.out) hb); have n1_ := mk0 (hbox); have n2_ := mk0 ((szT HB.out hg)); have n3_ := mk0 ((szT HB.out hg)); clear HB; have HB := n0_; have BK207 := n1_; have GW207 := n2_; have GE207 := n3_; clear n0_ n1_ n2_ n3_; clear hb hbox hg; have X7_0 := ct BK207.out 0; have X7_1 := ct BK207.out 1; have X7_2 := ct BK207.out 2; have X7_3 := ct BK207.out 3; have X7_4 := ct BK207.out 4; have X7_5 := ct BK207.out 5; have Y7_0 := blk_frozen BK207.out 0; have Y7_1 := blk_frozen BK207.out 1; have Y7_2 := blk_frozen BK207.out 2; have Y7_3 := blk_frozen BK207.out 3; have Y7_4 := blk_frozen BK207.out 4; have Y7_5 := blk_frozen BK207.out 5) | ((with_reducible refine gate_dst (N := 3) rfl ?_); refine box_event ?hg (N := 3) ?hd (cs := #[.int .i64 0, .int .i64 0, .int .i64 0, .int .i64 0, .int .i64 0, .string (⟨#[]⟩ : ByteArray)]) (t := 47) ?hr ?_; (case hd => rfl); (case hg => rfl); (case hr => first | (go_simp; done) | (go_simp; rfl)); intro gb208 hg w8 hbox hb; have n0_ := mk0 (bbT BK207.out hb); have n1_ := mk0 (below_step (wT HB.out) hb); have n2_ := mk0 (hbox); have n3_ := mk0 ((szT HB.out hg)); have n4_ := mk0 ((szT HB.out hg)); have n5_ := mk0 ((neL BK207.out hg)); have n6_ := mk0 ((neG BK207.out hg)); clear BK207; clear HB; have BK207 := n0_; have HB := n1_; have BK208 := n2_; have GW208 := n3_; have GE208 := n4_; have NB207_208 := n5_; have NB208_207 := n6_; clear n0_ n1_ n2_ n3_ n4_ n5_ n6_; clear hb hbox hg; have hnb9 := NB208_207.out; have hnc9 := NB207_208.out; have X10_0 := ct BK208.out 0; have X10_1 := ct BK208.out 1; have X10_2 := ct BK208.out 2; have X10_3 := ct BK208.out 3; have X10_4 := ct BK208.out 4; have X10_5 := ct BK208.out 5; have Y10_0 := blk_frozen BK208.out 0; have Y10_1 := blk_frozen BK208.out 1; have Y10_2 := blk_frozen BK208.out 2; have Y10_3 := blk_frozen BK208.out 3; have Y10_4 := blk_frozen BK208.out 4; have Y10_5 := blk_frozen BK208.out 5; have X11_0 := ct BK207.out 0; have X11_1 := ct BK207.out 1; have X11_2 := ct BK207.out 2; have X11_3 := ct BK207.out 3; have X11_4 := ct BK207.out 4; have X11_5 := ct BK207.out 5; have Y11_0 := blk_frozen BK207.out 0; have Y11_1 := blk_frozen BK207.out 1; have Y11_2 := blk_frozen BK207.out 2; have Y11_3 := blk_frozen BK207.out 3; have Y11_4 := blk_frozen BK207.out 4; have Y11_5 := blk_frozen BK207.out 5) | ((with_reducible refine gate_callee (f := 42) rfl ?_); refine goesL_ (some 12) rfl rfl Tryz.func42 (by kernel_rfl) rfl #[.agg #[.int .i64 a0_1, .int .i64 a0_2, .int .i64 a0_3]] rfl mapT ?_; (with_reducible refine (probe_right.calls a0_1 a0_2 a0_3 true _ A3.out).mono ?_); rintro e w12 ⟨rfl, hb⟩; refine ⟨_, rfl, ?_⟩; have n0_ := mk0 (blk_below (g := gb207) (o := .cells #[.int .i64 a0_0, .int .i64 a0_1, .int .i64 a0_2, .int .i64 a0_3, .int .i64 a0_4, .string a0_5] 47 (0, 0)) (by (with_reducible repeat (first | refine blk_drewN ?_ _ | refine blk_drew ?_ | refine blk_alloc ?_ _)); refine blk_far ?_ NB207_208.out _; refine blk_far ?_ NB207_208.out _; refine blk_far ?_ NB207_208.out _; refine blk_far ?_ NB207_208.out _; refine blk_far ?_ NB207_208.out _; refine blk_far ?_ NB207_208.out _; (with_reducible repeat (first | refine blk_drewN ?_ _ | refine blk_drew ?_ | refine blk_alloc ?_ _)); exact BK207.out) hb); have n1_ := mk0 (blk_below (g := gb208) (o := .cells #[.int .i64 a0_0, .int .i64 a0_1, .int .i64 a0_2, .int .i64 a0_3, .int .i64 a0_4, .string a0_5] 47 (0, 0)) (by (with_reducible repeat (first | refine blk_drewN ?_ _ | refine blk_drew ?_ | refine blk_alloc ?_ _)); refine blk_put (cs := #[.int .i64 a0_0, .int .i64 a0_1, .int .i64 a0_2, .int .i64 a0_3, .int .i64 a0_4, .string (⟨#[]⟩ : ByteArray)]) ?_ 5 _ rfl; refine blk_put (cs := #[.int .i64 a0_0, .int .i64 a0_1, .int .i64 a0_2, .int .i64 a0_3, .int .i64 0, .string (⟨#[]⟩ : ByteArray)]) ?_ 4 _ rfl; refine blk_put (cs := #[.int .i64 a0_0, .int .i64 a0_1, .int .i64 a0_2, .int .i64 0, .int .i64 0, .string (⟨#[]⟩ : ByteArray)]) ?_ 3 _ rfl; refine blk_put (cs := #[.int .i64 a0_0, .int .i64 a0_1, .int .i64 0, .int .i64 0, .int .i64 0, .string (⟨#[]⟩ : ByteArray)]) ?_ 2 _ rfl; refine blk_put (cs := #[.int .i64 a0_0, .int .i64 0, .int .i64 0, .int .i64 0, .int .i64 0, .string (⟨#[]⟩ : ByteArray)]) ?_ 1 _ rfl; refine blk_put (cs := #[.int .i64 0, .int .i64 0, .int .i64 0, .int .i64 0, .int .i64 0, .string (⟨#[]⟩ : ByteArray)]) ?_ 0 _ rfl; (with_reducible repeat (first | refine blk_drewN ?_ _ | refine blk_drew ?_ | refine blk_alloc ?_ _)); exact BK208.out) hb); have n2_ := mk0 (below_step (by repeat (first | (with_reducible first | exact HB.out | apply below_alloc | apply pw_below_drewN | apply below_drew1 | refine below_set ?_ GE208.out) | exact HB.out)) hb); clear BK207; clear BK208; clear HB; have BK207 := n0_; have BK208 := n1_; have HB := n2_; clear n0_ n1_ n2_; (try clear hb); (try clear hb2); (try clear hk); (try clear hi); have X13_0 := ct BK207.out 0; have X13_1 := ct BK207.out 1; have X13_2 := ct BK207.out 2; have X13_3 := ct BK207.out 3; have X13_4 := ct BK207.out 4; have X13_5 := ct BK207.out 5; have Y13_0 := blk_frozen BK207.out 0; have Y13_1 := blk_frozen BK207.out 1; have Y13_2 := blk_frozen BK207.out 2; have Y13_3 := blk_frozen BK207.out 3; have Y13_4 := blk_frozen BK207.out 4; have Y13_5 := blk_frozen BK207.out 5; have X14_0 := ct BK208.out 0; have X14_1 := ct BK208.out 1; have X14_2 := ct BK208.out 2; have X14_3 := ct BK208.out 3; have X14_4 := ct BK208.out 4; have X14_5 := ct BK208.out 5; have Y14_0 := blk_frozen BK208.out 0; have Y14_1 := blk_frozen BK208.out 1; have Y14_2 := blk_frozen BK208.out 2; have Y14_3 := blk_frozen BK208.out 3; have Y14_4 := blk_frozen BK208.out 4; have Y14_5 := blk_frozen BK208.out 5))
    go_ret
    exact ⟨eqT, by repeat (first | (with_reducible first | exact HB.out | apply below_alloc | apply pw_below_drewN | apply below_drew1 | refine below_set ?_ GE208.out) | exact HB.out)⟩
   ·rw [if_neg c5] at H
    have c5b0 : (!(a0_4 == 0) || (!(a0_5.toList == ([] : List UInt8)))) = false := by simpa using c5
    have c5b0e : (!(a0_4 == 0) || (!(a0_5.toList.isEmpty))) = false := by simpa using c5b0
    have c5b0l0 : (a0_4 == 0) = true := by (have h_ := c5b0; simp at h_; simp [h_])
    have c5b0l1 : (a0_5.toList.isEmpty) = true := by (have h_ := c5b0; simp at h_; simp [h_])
    have c5b0e : (!(a0_4 == 0) || (!(a0_5.toList.isEmpty))) = false := by simpa using c5b0
    have c5b0l0 : (a0_4 == 0) = true := by (have h_ := c5b0; simp at h_; simp [h_])
    have c5b0l1 : (a0_5.toList.isEmpty) = true := by (have h_ := c5b0; simp at h_; simp [h_])
    clear c5
    obtain rfl := Option.some.inj H
    go_enter Tryz.func25, Tryz.ntmps25
    go_wp2_with (first | ((with_reducible refine gate_dst (N := 1) rfl ?_); refine box_event ?hg (N := 1) ?hd (cs := #[.int .i64 a0_0, .int .i64 a0_1, .int .i64 a0_2, .int .i64 a0_3, .int .i64 a0_4, .string a0_5]) (t := 47) ?hr ?_; (case hd => rfl); (case hg => rfl); (case hr => first | (go_simp; done) | (go_simp; rfl)); intro gb207 hg w15 hbox hb; have n0_ := mk0 (below_step (wT HB.out) hb); have n1_ := mk0 (hbox); have n2_ := mk0 ((szT HB.out hg)); have n3_ := mk0 ((szT HB.out hg)); clear HB; have HB := n0_; have BK207 := n1_; have GW207 := n2_; have GE207 := n3_; clear n0_ n1_ n2_ n3_; clear hb hbox hg; have X16_0 := ct BK207.out 0; have X16_1 := ct BK207.out 1; have X16_2 := ct BK207.out 2; have X16_3 := ct BK207.out 3; have X16_4 := ct BK207.out 4; have X16_5 := ct BK207.out 5; have Y16_0 := blk_frozen BK207.out 0; have Y16_1 := blk_frozen BK207.out 1; have Y16_2 := blk_frozen BK207.out 2; have Y16_3 := blk_frozen BK207.out 3; have Y16_4 := blk_frozen BK207.out 4; have Y16_5 := blk_frozen BK207.out 5) | ((with_reducible refine gate_dst (N := 3) rfl ?_); refine box_event ?hg (N := 3) ?hd (cs := #[.int .i64 0, .int .i64 0, .int .i64 0, .int .i64 0, .int .i64 0, .string (⟨#[]⟩ : ByteArray)]) (t := 47) ?hr ?_; (case hd => rfl); (case hg => rfl); (case hr => first | (go_simp; done) | (go_simp; rfl)); intro gb208 hg w17 hbox hb; have n0_ := mk0 (bbT BK207.out hb); have n1_ := mk0 (below_step (wT HB.out) hb); have n2_ := mk0 (hbox); have n3_ := mk0 ((szT HB.out hg)); have n4_ := mk0 ((szT HB.out hg)); have n5_ := mk0 ((neL BK207.out hg)); have n6_ := mk0 ((neG BK207.out hg)); clear BK207; clear HB; have BK207 := n0_; have HB := n1_; have BK208 := n2_; have GW208 := n3_; have GE208 := n4_; have NB207_208 := n5_; have NB208_207 := n6_; clear n0_ n1_ n2_ n3_ n4_ n5_ n6_; clear hb hbox hg; have hnb18 := NB208_207.out; have hnc18 := NB207_208.out; have X19_0 := ct BK208.out 0; have X19_1 := ct BK208.out 1; have X19_2 := ct BK208.out 2; have X19_3 := ct BK208.out 3; have X19_4 := ct BK208.out 4; have X19_5 := ct BK208.out 5; have Y19_0 := blk_frozen BK208.out 0; have Y19_1 := blk_frozen BK208.out 1; have Y19_2 := blk_frozen BK208.out 2; have Y19_3 := blk_frozen BK208.out 3; have Y19_4 := blk_frozen BK208.out 4; have Y19_5 := blk_frozen BK208.out 5; have X20_0 := ct BK207.out 0; have X20_1 := ct BK207.out 1; have X20_2 := ct BK207.out 2; have X20_3 := ct BK207.out 3; have X20_4 := ct BK207.out 4; have X20_5 := ct BK207.out 5; have Y20_0 := blk_frozen BK207.out 0; have Y20_1 := blk_frozen BK207.out 1; have Y20_2 := blk_frozen BK207.out 2; have Y20_3 := blk_frozen BK207.out 3; have Y20_4 := blk_frozen BK207.out 4; have Y20_5 := blk_frozen BK207.out 5) | ((with_reducible refine gate_callee (f := 42) rfl ?_); refine goesL_ (some 12) rfl rfl Tryz.func42 (by kernel_rfl) rfl #[.agg #[.int .i64 a0_1, .int .i64 a0_2, .int .i64 a0_3]] rfl mapT ?_; (with_reducible refine (probe_right.calls a0_1 a0_2 a0_3 true _ A3.out).mono ?_); rintro e w21 ⟨rfl, hb⟩; refine ⟨_, rfl, ?_⟩; have n0_ := mk0 (blk_below (g := gb207) (o := .cells #[.int .i64 a0_0, .int .i64 a0_1, .int .i64 a0_2, .int .i64 a0_3, .int .i64 a0_4, .string a0_5] 47 (0, 0)) (by (with_reducible repeat (first | refine blk_drewN ?_ _ | refine blk_drew ?_ | refine blk_alloc ?_ _)); refine blk_far ?_ NB207_208.out _; refine blk_far ?_ NB207_208.out _; refine blk_far ?_ NB207_208.out _; refine blk_far ?_ NB207_208.out _; refine blk_far ?_ NB207_208.out _; refine blk_far ?_ NB207_208.out _; (with_reducible repeat (first | refine blk_drewN ?_ _ | refine blk_drew ?_ | refine blk_alloc ?_ _)); exact BK207.out) hb); have n1_ := mk0 (blk_below (g := gb208) (o := .cells #[.int .i64 a0_0, .int .i64 a0_1, .int .i64 a0_2, .int .i64 a0_3, .int .i64 a0_4, .string a0_5] 47 (0, 0)) (by (with_reducible repeat (first | refine blk_drewN ?_ _ | refine blk_drew ?_ | refine blk_alloc ?_ _)); refine blk_put (cs := #[.int .i64 a0_0, .int .i64 a0_1, .int .i64 a0_2, .int .i64 a0_3, .int .i64 a0_4, .string (⟨#[]⟩ : ByteArray)]) ?_ 5 _ rfl; refine blk_put (cs := #[.int .i64 a0_0, .int .i64 a0_1, .int .i64 a0_2, .int .i64 a0_3, .int .i64 0, .string (⟨#[]⟩ : ByteArray)]) ?_ 4 _ rfl; refine blk_put (cs := #[.int .i64 a0_0, .int .i64 a0_1, .int .i64 a0_2, .int .i64 0, .int .i64 0, .string (⟨#[]⟩ : ByteArray)]) ?_ 3 _ rfl; refine blk_put (cs := #[.int .i64 a0_0, .int .i64 a0_1, .int .i64 0, .int .i64 0, .int .i64 0, .string (⟨#[]⟩ : ByteArray)]) ?_ 2 _ rfl; refine blk_put (cs := #[.int .i64 a0_0, .int .i64 0, .int .i64 0, .int .i64 0, .int .i64 0, .string (⟨#[]⟩ : ByteArray)]) ?_ 1 _ rfl; refine blk_put (cs := #[.int .i64 0, .int .i64 0, .int .i64 0, .int .i64 0, .int .i64 0, .string (⟨#[]⟩ : ByteArray)]) ?_ 0 _ rfl; (with_reducible repeat (first | refine blk_drewN ?_ _ | refine blk_drew ?_ | refine blk_alloc ?_ _)); exact BK208.out) hb); have n2_ := mk0 (below_step (by repeat (first | (with_reducible first | exact HB.out | apply below_alloc | apply pw_below_drewN | apply below_drew1 | refine below_set ?_ GE208.out) | exact HB.out)) hb); clear BK207; clear BK208; clear HB; have BK207 := n0_; have BK208 := n1_; have HB := n2_; clear n0_ n1_ n2_; (try clear hb); (try clear hb2); (try clear hk); (try clear hi); have X22_0 := ct BK207.out 0; have X22_1 := ct BK207.out 1; have X22_2 := ct BK207.out 2; have X22_3 := ct BK207.out 3; have X22_4 := ct BK207.out 4; have X22_5 := ct BK207.out 5; have Y22_0 := blk_frozen BK207.out 0; have Y22_1 := blk_frozen BK207.out 1; have Y22_2 := blk_frozen BK207.out 2; have Y22_3 := blk_frozen BK207.out 3; have Y22_4 := blk_frozen BK207.out 4; have Y22_5 := blk_frozen BK207.out 5; have X23_0 := ct BK208.out 0; have X23_1 := ct BK208.out 1; have X23_2 := ct BK208.out 2; have X23_3 := ct BK208.out 3; have X23_4 := ct BK208.out 4; have X23_5 := ct BK208.out 5; have Y23_0 := blk_frozen BK208.out 0; have Y23_1 := blk_frozen BK208.out 1; have Y23_2 := blk_frozen BK208.out 2; have Y23_3 := blk_frozen BK208.out 3; have Y23_4 := blk_frozen BK208.out 4; have Y23_5 := blk_frozen BK208.out 5))
    go_ret
    exact ⟨eqT, by repeat (first | (with_reducible first | exact HB.out | apply below_alloc | apply pw_below_drewN | apply below_drew1 | refine below_set ?_ GE208.out) | exact HB.out)⟩
  ·replace c4 := Bool.eq_false_iff.mpr c4
   subst c4
   have H1 : (some 2) = some r := by rw [if_neg (show ¬ (false = true) by decide)] at H; exact H
   clear H
   have H := H1
   clear H1
   obtain rfl := Option.some.inj H
   go_enter Tryz.func25, Tryz.ntmps25
   go_wp2_with (first | ((with_reducible refine gate_dst (N := 1) rfl ?_); refine box_event ?hg (N := 1) ?hd (cs := #[.int .i64 a0_0, .int .i64 a0_1, .int .i64 a0_2, .int .i64 a0_3, .int .i64 a0_4, .string a0_5]) (t := 47) ?hr ?_; (case hd => rfl); (case hg => rfl); (case hr => first | (go_simp; done) | (go_simp; rfl)); intro gb207 hg w24 hbox hb; have n0_ := mk0 (below_step (wT HB.out) hb); have n1_ := mk0 (hbox); have n2_ := mk0 ((szT HB.out hg)); have n3_ := mk0 ((szT HB.out hg)); clear HB; have HB := n0_; have BK207 := n1_; have GW207 := n2_; have GE207 := n3_; clear n0_ n1_ n2_ n3_; clear hb hbox hg; have X25_0 := ct BK207.out 0; have X25_1 := ct BK207.out 1; have X25_2 := ct BK207.out 2; have X25_3 := ct BK207.out 3; have X25_4 := ct BK207.out 4; have X25_5 := ct BK207.out 5; have Y25_0 := blk_frozen BK207.out 0; have Y25_1 := blk_frozen BK207.out 1; have Y25_2 := blk_frozen BK207.out 2; have Y25_3 := blk_frozen BK207.out 3; have Y25_4 := blk_frozen BK207.out 4; have Y25_5 := blk_frozen BK207.out 5) | ((with_reducible refine gate_dst (N := 3) rfl ?_); refine box_event ?hg (N := 3) ?hd (cs := #[.int .i64 0, .int .i64 0, .int .i64 0, .int .i64 0, .int .i64 0, .string (⟨#[]⟩ : ByteArray)]) (t := 47) ?hr ?_; (case hd => rfl); (case hg => rfl); (case hr => first | (go_simp; done) | (go_simp; rfl)); intro gb208 hg w26 hbox hb; have n0_ := mk0 (bbT BK207.out hb); have n1_ := mk0 (below_step (wT HB.out) hb); have n2_ := mk0 (hbox); have n3_ := mk0 ((szT HB.out hg)); have n4_ := mk0 ((szT HB.out hg)); have n5_ := mk0 ((neL BK207.out hg)); have n6_ := mk0 ((neG BK207.out hg)); clear BK207; clear HB; have BK207 := n0_; have HB := n1_; have BK208 := n2_; have GW208 := n3_; have GE208 := n4_; have NB207_208 := n5_; have NB208_207 := n6_; clear n0_ n1_ n2_ n3_ n4_ n5_ n6_; clear hb hbox hg; have hnb27 := NB208_207.out; have hnc27 := NB207_208.out; have X28_0 := ct BK208.out 0; have X28_1 := ct BK208.out 1; have X28_2 := ct BK208.out 2; have X28_3 := ct BK208.out 3; have X28_4 := ct BK208.out 4; have X28_5 := ct BK208.out 5; have Y28_0 := blk_frozen BK208.out 0; have Y28_1 := blk_frozen BK208.out 1; have Y28_2 := blk_frozen BK208.out 2; have Y28_3 := blk_frozen BK208.out 3; have Y28_4 := blk_frozen BK208.out 4; have Y28_5 := blk_frozen BK208.out 5; have X29_0 := ct BK207.out 0; have X29_1 := ct BK207.out 1; have X29_2 := ct BK207.out 2; have X29_3 := ct BK207.out 3; have X29_4 := ct BK207.out 4; have X29_5 := ct BK207.out 5; have Y29_0 := blk_frozen BK207.out 0; have Y29_1 := blk_frozen BK207.out 1; have Y29_2 := blk_frozen BK207.out 2; have Y29_3 := blk_frozen BK207.out 3; have Y29_4 := blk_frozen BK207.out 4; have Y29_5 := blk_frozen BK207.out 5) | ((with_reducible refine gate_callee (f := 42) rfl ?_); refine goesL_ (some 12) rfl rfl Tryz.func42 (by kernel_rfl) rfl #[.agg #[.int .i64 a0_1, .int .i64 a0_2, .int .i64 a0_3]] rfl mapT ?_; (with_reducible refine (probe_right.calls a0_1 a0_2 a0_3 false _ A3.out).mono ?_); rintro e w30 ⟨rfl, hb⟩; refine ⟨_, rfl, ?_⟩; have n0_ := mk0 (blk_below (g := gb207) (o := .cells #[.int .i64 a0_0, .int .i64 a0_1, .int .i64 a0_2, .int .i64 a0_3, .int .i64 a0_4, .string a0_5] 47 (0, 0)) (by (with_reducible repeat (first | refine blk_drewN ?_ _ | refine blk_drew ?_ | refine blk_alloc ?_ _)); refine blk_far ?_ NB207_208.out _; refine blk_far ?_ NB207_208.out _; refine blk_far ?_ NB207_208.out _; refine blk_far ?_ NB207_208.out _; refine blk_far ?_ NB207_208.out _; refine blk_far ?_ NB207_208.out _; (with_reducible repeat (first | refine blk_drewN ?_ _ | refine blk_drew ?_ | refine blk_alloc ?_ _)); exact BK207.out) hb); have n1_ := mk0 (blk_below (g := gb208) (o := .cells #[.int .i64 a0_0, .int .i64 a0_1, .int .i64 a0_2, .int .i64 a0_3, .int .i64 a0_4, .string a0_5] 47 (0, 0)) (by (with_reducible repeat (first | refine blk_drewN ?_ _ | refine blk_drew ?_ | refine blk_alloc ?_ _)); refine blk_put (cs := #[.int .i64 a0_0, .int .i64 a0_1, .int .i64 a0_2, .int .i64 a0_3, .int .i64 a0_4, .string (⟨#[]⟩ : ByteArray)]) ?_ 5 _ rfl; refine blk_put (cs := #[.int .i64 a0_0, .int .i64 a0_1, .int .i64 a0_2, .int .i64 a0_3, .int .i64 0, .string (⟨#[]⟩ : ByteArray)]) ?_ 4 _ rfl; refine blk_put (cs := #[.int .i64 a0_0, .int .i64 a0_1, .int .i64 a0_2, .int .i64 0, .int .i64 0, .string (⟨#[]⟩ : ByteArray)]) ?_ 3 _ rfl; refine blk_put (cs := #[.int .i64 a0_0, .int .i64 a0_1, .int .i64 0, .int .i64 0, .int .i64 0, .string (⟨#[]⟩ : ByteArray)]) ?_ 2 _ rfl; refine blk_put (cs := #[.int .i64 a0_0, .int .i64 0, .int .i64 0, .int .i64 0, .int .i64 0, .string (⟨#[]⟩ : ByteArray)]) ?_ 1 _ rfl; refine blk_put (cs := #[.int .i64 0, .int .i64 0, .int .i64 0, .int .i64 0, .int .i64 0, .string (⟨#[]⟩ : ByteArray)]) ?_ 0 _ rfl; (with_reducible repeat (first | refine blk_drewN ?_ _ | refine blk_drew ?_ | refine blk_alloc ?_ _)); exact BK208.out) hb); have n2_ := mk0 (below_step (by repeat (first | (with_reducible first | exact HB.out | apply below_alloc | apply pw_below_drewN | apply below_drew1 | refine below_set ?_ GE208.out) | exact HB.out)) hb); clear BK207; clear BK208; clear HB; have BK207 := n0_; have BK208 := n1_; have HB := n2_; clear n0_ n1_ n2_; (try clear hb); (try clear hb2); (try clear hk); (try clear hi)))
   go_ret
   exact ⟨eqT, wT HB.out⟩
 ·rw [if_neg c2] at H
  have c2b0 : (a0_0 == 0) = false := beq_eq_false_iff_ne.mpr c2
  have c2b1 : (a0_0 != 0) = true := bne_iff_ne.mpr c2
  by_cases c31 : a0_0 = 1
  ·rw [if_pos c31] at H
   have c31b0 : (a0_0 == 1) = true := beq_iff_eq.mpr c31
   have c31b1 : (a0_0 != 1) = false := bne_eq_false_iff_eq.mpr c31
   clear c31
   have HC32 := mk0 H
   clear H
   go_enter Tryz.func25, Tryz.ntmps25
   go_upto_region 9 with (first | ((with_reducible refine gate_dst (N := 1) rfl ?_); refine box_event ?hg (N := 1) ?hd (cs := #[.int .i64 a0_0, .int .i64 a0_1, .int .i64 a0_2, .int .i64 a0_3, .int .i64 a0_4, .string a0_5]) (t := 47) ?hr ?_; (case hd => rfl); (case hg => rfl); (case hr => first | (go_simp; done) | (go_simp; rfl)); intro gb207 hg w33 hbox hb; have n0_ := mk0 (below_step (wT HB.out) hb); have n1_ := mk0 (hbox); have n2_ := mk0 ((szT HB.out hg)); have n3_ := mk0 ((szT HB.out hg)); clear HB; have HB := n0_; have BK207 := n1_; have GW207 := n2_; have GE207 := n3_; clear n0_ n1_ n2_ n3_; clear hb hbox hg; have X34_0 := ct BK207.out 0; have X34_1 := ct BK207.out 1; have X34_2 := ct BK207.out 2; have X34_3 := ct BK207.out 3; have X34_4 := ct BK207.out 4; have X34_5 := ct BK207.out 5; have Y34_0 := blk_frozen BK207.out 0; have Y34_1 := blk_frozen BK207.out 1; have Y34_2 := blk_frozen BK207.out 2; have Y34_3 := blk_frozen BK207.out 3; have Y34_4 := blk_frozen BK207.out 4; have Y34_5 := blk_frozen BK207.out 5) | ((with_reducible refine gate_dst (N := 3) rfl ?_); refine box_event ?hg (N := 3) ?hd (cs := #[.int .i64 0, .int .i64 0, .int .i64 0, .int .i64 0, .int .i64 0, .string (⟨#[]⟩ : ByteArray)]) (t := 47) ?hr ?_; (case hd => rfl); (case hg => rfl); (case hr => first | (go_simp; done) | (go_simp; rfl)); intro gb208 hg w35 hbox hb; have n0_ := mk0 (bbT BK207.out hb); have n1_ := mk0 (below_step (wT HB.out) hb); have n2_ := mk0 (hbox); have n3_ := mk0 ((szT HB.out hg)); have n4_ := mk0 ((szT HB.out hg)); have n5_ := mk0 ((neL BK207.out hg)); have n6_ := mk0 ((neG BK207.out hg)); clear BK207; clear HB; have BK207 := n0_; have HB := n1_; have BK208 := n2_; have GW208 := n3_; have GE208 := n4_; have NB207_208 := n5_; have NB208_207 := n6_; clear n0_ n1_ n2_ n3_ n4_ n5_ n6_; clear hb hbox hg; have hnb36 := NB208_207.out; have hnc36 := NB207_208.out; have X37_0 := ct BK208.out 0; have X37_1 := ct BK208.out 1; have X37_2 := ct BK208.out 2; have X37_3 := ct BK208.out 3; have X37_4 := ct BK208.out 4; have X37_5 := ct BK208.out 5; have Y37_0 := blk_frozen BK208.out 0; have Y37_1 := blk_frozen BK208.out 1; have Y37_2 := blk_frozen BK208.out 2; have Y37_3 := blk_frozen BK208.out 3; have Y37_4 := blk_frozen BK208.out 4; have Y37_5 := blk_frozen BK208.out 5; have X38_0 := ct BK207.out 0; have X38_1 := ct BK207.out 1; have X38_2 := ct BK207.out 2; have X38_3 := ct BK207.out 3; have X38_4 := ct BK207.out 4; have X38_5 := ct BK207.out 5; have Y38_0 := blk_frozen BK207.out 0; have Y38_1 := blk_frozen BK207.out 1; have Y38_2 := blk_frozen BK207.out 2; have Y38_3 := blk_frozen BK207.out 3; have Y38_4 := blk_frozen BK207.out 4; have Y38_5 := blk_frozen BK207.out 5))
   (try simp only [Act.put, List.setIfInBounds_toArray, List.set_cons_zero, List.set_cons_succ])
   go_cut [28] (fun v28 wc => ∃ (kq : Nat) (x28_31 : Bool), v28 = .bool x28_31 ∧ Aside0 (probe_Right.j0 kq x28_31 a0_0 a0_1 a0_2 a0_3 a0_4 a0_5 = some r) ∧ Aside0 (kq ≤ k) ∧ Aside0 (wc.heap[gb207]? = some (.cells #[.int .i64 a0_0, .int .i64 a0_1, .int .i64 a0_2, .int .i64 a0_3, .int .i64 a0_4, .string a0_5] 47 (0, 0))) ∧ Aside0 (wc.heap[gb208]? = some (.cells #[.int .i64 a0_0, .int .i64 a0_1, .int .i64 a0_2, .int .i64 a0_3, .int .i64 a0_4, .string a0_5] 47 (0, 0))) ∧ Aside0 (Below w.heap.size w wc))
   case first =>
    have H := HC32.out
    clear HC32
    by_cases c39 : a0_4 < 0
    ·rw [if_pos c39] at H
     have c39b0 : decide (a0_4 < 0) = true := decide_eq_true c39
     clear c39
     (first | rw [c39b0] | (simp only [i64_w, i32_w]; rw [c39b0]) | skip)
     have H' := mk0 H
     clear H
     have hnb40 := NB207_208.out
     have hnc40 := NB208_207.out
     have X41_0 := ct BK207.out 0
     have X41_1 := ct BK207.out 1
     have X41_2 := ct BK207.out 2
     have X41_3 := ct BK207.out 3
     have X41_4 := ct BK207.out 4
     have X41_5 := ct BK207.out 5
     have Y41_0 := blk_frozen BK207.out 0
     have Y41_1 := blk_frozen BK207.out 1
     have Y41_2 := blk_frozen BK207.out 2
     have Y41_3 := blk_frozen BK207.out 3
     have Y41_4 := blk_frozen BK207.out 4
     have Y41_5 := blk_frozen BK207.out 5
     go_wp2
     go_meet
     case rel => exact ⟨_, (true), (by first | rfl | (simp; done) | (simp [*]; done) | exact congrArg (Value.int .i64) (by unfold wrap64; omega)), H', ⟨by first | omega | exact Nat.le_refl _⟩, ⟨by (with_reducible repeat (first | refine blk_drewN ?_ _ | refine blk_drew ?_ | refine blk_alloc ?_ _)); refine blk_far ?_ NB207_208.out _; refine blk_far ?_ NB207_208.out _; refine blk_far ?_ NB207_208.out _; refine blk_far ?_ NB207_208.out _; refine blk_far ?_ NB207_208.out _; refine blk_far ?_ NB207_208.out _; (with_reducible repeat (first | refine blk_drewN ?_ _ | refine blk_drew ?_ | refine blk_alloc ?_ _)); exact BK207.out⟩, ⟨by (with_reducible repeat (first | refine blk_drewN ?_ _ | refine blk_drew ?_ | refine blk_alloc ?_ _)); refine blk_put (cs := #[.int .i64 a0_0, .int .i64 a0_1, .int .i64 a0_2, .int .i64 a0_3, .int .i64 a0_4, .string (⟨#[]⟩ : ByteArray)]) ?_ 5 _ rfl; refine blk_put (cs := #[.int .i64 a0_0, .int .i64 a0_1, .int .i64 a0_2, .int .i64 a0_3, .int .i64 0, .string (⟨#[]⟩ : ByteArray)]) ?_ 4 _ rfl; refine blk_put (cs := #[.int .i64 a0_0, .int .i64 a0_1, .int .i64 a0_2, .int .i64 0, .int .i64 0, .string (⟨#[]⟩ : ByteArray)]) ?_ 3 _ rfl; refine blk_put (cs := #[.int .i64 a0_0, .int .i64 a0_1, .int .i64 0, .int .i64 0, .int .i64 0, .string (⟨#[]⟩ : ByteArray)]) ?_ 2 _ rfl; refine blk_put (cs := #[.int .i64 a0_0, .int .i64 0, .int .i64 0, .int .i64 0, .int .i64 0, .string (⟨#[]⟩ : ByteArray)]) ?_ 1 _ rfl; refine blk_put (cs := #[.int .i64 0, .int .i64 0, .int .i64 0, .int .i64 0, .int .i64 0, .string (⟨#[]⟩ : ByteArray)]) ?_ 0 _ rfl; (with_reducible repeat (first | refine blk_drewN ?_ _ | refine blk_drew ?_ | refine blk_alloc ?_ _)); exact BK208.out⟩, ⟨by repeat (first | (with_reducible first | exact HB.out | apply below_alloc | apply pw_below_drewN | apply below_drew1 | refine below_set ?_ GE208.out) | exact HB.out)⟩⟩
    ·rw [if_neg c39] at H
     have c39b0 : decide (a0_4 < 0) = false := decide_eq_false c39
     clear c39
     (first | rw [c39b0] | (simp only [i64_w, i32_w]; rw [c39b0]) | skip)
     have H' := mk0 H
     clear H
     have hnb42 := NB207_208.out
     have hnc42 := NB208_207.out
     have X43_0 := ct BK207.out 0
     have X43_1 := ct BK207.out 1
     have X43_2 := ct BK207.out 2
     have X43_3 := ct BK207.out 3
     have X43_4 := ct BK207.out 4
     have X43_5 := ct BK207.out 5
     have Y43_0 := blk_frozen BK207.out 0
     have Y43_1 := blk_frozen BK207.out 1
     have Y43_2 := blk_frozen BK207.out 2
     have Y43_3 := blk_frozen BK207.out 3
     have Y43_4 := blk_frozen BK207.out 4
     have Y43_5 := blk_frozen BK207.out 5
     go_wp2
     go_meet
     case rel => exact ⟨_, (decide (a0_4 > 5)), (by first | rfl | (simp; done) | (simp [*]; done) | exact congrArg (Value.int .i64) (by unfold wrap64; omega)), H', ⟨by first | omega | exact Nat.le_refl _⟩, ⟨by (with_reducible repeat (first | refine blk_drewN ?_ _ | refine blk_drew ?_ | refine blk_alloc ?_ _)); refine blk_far ?_ NB207_208.out _; refine blk_far ?_ NB207_208.out _; refine blk_far ?_ NB207_208.out _; refine blk_far ?_ NB207_208.out _; refine blk_far ?_ NB207_208.out _; refine blk_far ?_ NB207_208.out _; (with_reducible repeat (first | refine blk_drewN ?_ _ | refine blk_drew ?_ | refine blk_alloc ?_ _)); exact BK207.out⟩, ⟨by (with_reducible repeat (first | refine blk_drewN ?_ _ | refine blk_drew ?_ | refine blk_alloc ?_ _)); refine blk_put (cs := #[.int .i64 a0_0, .int .i64 a0_1, .int .i64 a0_2, .int .i64 a0_3, .int .i64 a0_4, .string (⟨#[]⟩ : ByteArray)]) ?_ 5 _ rfl; refine blk_put (cs := #[.int .i64 a0_0, .int .i64 a0_1, .int .i64 a0_2, .int .i64 a0_3, .int .i64 0, .string (⟨#[]⟩ : ByteArray)]) ?_ 4 _ rfl; refine blk_put (cs := #[.int .i64 a0_0, .int .i64 a0_1, .int .i64 a0_2, .int .i64 0, .int .i64 0, .string (⟨#[]⟩ : ByteArray)]) ?_ 3 _ rfl; refine blk_put (cs := #[.int .i64 a0_0, .int .i64 a0_1, .int .i64 0, .int .i64 0, .int .i64 0, .string (⟨#[]⟩ : ByteArray)]) ?_ 2 _ rfl; refine blk_put (cs := #[.int .i64 a0_0, .int .i64 0, .int .i64 0, .int .i64 0, .int .i64 0, .string (⟨#[]⟩ : ByteArray)]) ?_ 1 _ rfl; refine blk_put (cs := #[.int .i64 0, .int .i64 0, .int .i64 0, .int .i64 0, .int .i64 0, .string (⟨#[]⟩ : ByteArray)]) ?_ 0 _ rfl; (with_reducible repeat (first | refine blk_drewN ?_ _ | refine blk_drew ?_ | refine blk_alloc ?_ _)); exact BK208.out⟩, ⟨by repeat (first | (with_reducible first | exact HB.out | apply below_alloc | apply pw_below_drewN | apply below_drew1 | refine below_set ?_ GE208.out) | exact HB.out)⟩⟩
   case rest =>
    clear HC32
    try clear c2
    try clear c2b0
    try clear c2b1
    try clear c4
    try clear c5
    try clear c5b0
    try clear c31
    try clear c31b0
    try clear c31b1
    try clear c39
    try clear c39b0
    try clear X10_0
    try clear X10_1
    try clear X10_2
    try clear X10_3
    try clear X10_4
    try clear X10_5
    try clear X11_0
    try clear X11_1
    try clear X11_2
    try clear X11_3
    try clear X11_4
    try clear X11_5
    try clear X13_0
    try clear X13_1
    try clear X13_2
    try clear X13_3
    try clear X13_4
    try clear X13_5
    try clear X14_0
    try clear X14_1
    try clear X14_2
    try clear X14_3
    try clear X14_4
    try clear X14_5
    try clear X16_0
    try clear X16_1
    try clear X16_2
    try clear X16_3
    try clear X16_4
    try clear X16_5
    try clear X19_0
    try clear X19_1
    try clear X19_2
    try clear X19_3
    try clear X19_4
    try clear X19_5
    try clear X20_0
    try clear X20_1
    try clear X20_2
    try clear X20_3
    try clear X20_4
    try clear X20_5
    try clear X22_0
    try clear X22_1
    try clear X22_2
    try clear X22_3
    try clear X22_4
    try clear X22_5
    try clear X23_0
    try clear X23_1
    try clear X23_2
    try clear X23_3
    try clear X23_4
    try clear X23_5
    try clear X25_0
    try clear X25_1
    try clear X25_2
    try clear X25_3
    try clear X25_4
    try clear X25_5
    try clear X28_0
    try clear X28_1
    try clear X28_2
    try clear X28_3
    try clear X28_4
    try clear X28_5
    try clear X29_0
    try clear X29_1
    try clear X29_2
    try clear X29_3
    try clear X29_4
    try clear X29_5
    try clear X34_0
    try clear X34_1
    try clear X34_2
    try clear X34_3
    try clear X34_4
    try clear X34_5
    try clear X37_0
    try clear X37_1
    try clear X37_2
    try clear X37_3
    try clear X37_4
    try clear X37_5
    try clear X38_0
    try clear X38_1
    try clear X38_2
    try clear X38_3
    try clear X38_4
    try clear X38_5
    try clear X41_0
    try clear X41_1
    try clear X41_2
    try clear X41_3
    try clear X41_4
    try clear X41_5
    try clear X43_0
    try clear X43_1
    try clear X43_2
    try clear X43_3
    try clear X43_4
    try clear X43_5
    try clear X7_0
    try clear X7_1
    try clear X7_2
    try clear X7_3
    try clear X7_4
    try clear X7_5
    try clear Y10_0
    try clear Y10_1
    try clear Y10_2
    try clear Y10_3
    try clear Y10_4
    try clear Y10_5
    try clear Y11_0
    try clear Y11_1
    try clear Y11_2
    try clear Y11_3
    try clear Y11_4
    try clear Y11_5
    try clear Y13_0
    try clear Y13_1
    try clear Y13_2
    try clear Y13_3
    try clear Y13_4
    try clear Y13_5
    try clear Y14_0
    try clear Y14_1
    try clear Y14_2
    try clear Y14_3
    try clear Y14_4
    try clear Y14_5
    try clear Y16_0
    try clear Y16_1
    try clear Y16_2
    try clear Y16_3
    try clear Y16_4
    try clear Y16_5
    try clear Y19_0
    try clear Y19_1
    try clear Y19_2
    try clear Y19_3
    try clear Y19_4
    try clear Y19_5
    try clear Y20_0
    try clear Y20_1
    try clear Y20_2
    try clear Y20_3
    try clear Y20_4
    try clear Y20_5
    try clear Y22_0
    try clear Y22_1
    try clear Y22_2
    try clear Y22_3
    try clear Y22_4
    try clear Y22_5
    try clear Y23_0
    try clear Y23_1
    try clear Y23_2
    try clear Y23_3
    try clear Y23_4
    try clear Y23_5
    try clear Y25_0
    try clear Y25_1
    try clear Y25_2
    try clear Y25_3
    try clear Y25_4
    try clear Y25_5
    try clear Y28_0
    try clear Y28_1
    try clear Y28_2
    try clear Y28_3
    try clear Y28_4
    try clear Y28_5
    try clear Y29_0
    try clear Y29_1
    try clear Y29_2
    try clear Y29_3
    try clear Y29_4
    try clear Y29_5
    try clear Y34_0
    try clear Y34_1
    try clear Y34_2
    try clear Y34_3
    try clear Y34_4
    try clear Y34_5
    try clear Y37_0
    try clear Y37_1
    try clear Y37_2
    try clear Y37_3
    try clear Y37_4
    try clear Y37_5
    try clear Y38_0
    try clear Y38_1
    try clear Y38_2
    try clear Y38_3
    try clear Y38_4
    try clear Y38_5
    try clear Y41_0
    try clear Y41_1
    try clear Y41_2
    try clear Y41_3
    try clear Y41_4
    try clear Y41_5
    try clear Y43_0
    try clear Y43_1
    try clear Y43_2
    try clear Y43_3
    try clear Y43_4
    try clear Y43_5
    try clear Y7_0
    try clear Y7_1
    try clear Y7_2
    try clear Y7_3
    try clear Y7_4
    try clear Y7_5
    obtain ⟨kq, x28_31, rfl, HA, HJ31, BK207, BK208, HB⟩ := hcut
    cases kq with
    | zero => exact absurd HA.out (by simp [probe_Right.j0])
    | succ kj31 =>
     have H := HA.out
     clear HA
     simp only [probe_Right.j0] at H
     by_cases c44 : x28_31 = true
     ·subst c44
      have H1 : (some 1) = some r := by rw [if_pos rfl] at H; exact H
      clear H
      have H := H1
      clear H1
      obtain rfl := Option.some.inj H
      go_wp2
      go_ret
      exact ⟨eqT, wT HB.out⟩
     ·replace c44 := Bool.eq_false_iff.mpr c44
      subst c44
      have H1 : (if ((!(a0_1 == 0) || (!(a0_2 == 0) || (!(a0_3 == 0)))) || (!(a0_5.toList == ([] : List UInt8)))) = true then (some 3) else (some 0)) = some r := by rw [if_neg (show ¬ (false = true) by decide)] at H; exact H
      clear H
      have H := H1
      clear H1
      by_cases c45 : ((!(a0_1 == 0) || (!(a0_2 == 0) || (!(a0_3 == 0)))) || (!(a0_5.toList == ([] : List UInt8)))) = true
      ·rw [if_pos c45] at H
       have c45b0 : ((!(a0_1 == 0) || (!(a0_2 == 0) || (!(a0_3 == 0)))) || (!(a0_5.toList == ([] : List UInt8)))) = true := c45
       have c45b0e : ((!(a0_1 == 0) || (!(a0_2 == 0) || (!(a0_3 == 0)))) || (!(a0_5.toList.isEmpty))) = true := by simpa using c45b0
       have c45b0e : ((!(a0_1 == 0) || (!(a0_2 == 0) || (!(a0_3 == 0)))) || (!(a0_5.toList.isEmpty))) = true := by simpa using c45b0
       clear c45
       obtain rfl := Option.some.inj H
       have hnb46 := NB207_208.out
       have hnc46 := NB208_207.out
       have X47_0 := ct BK207.out 0
       have X47_1 := ct BK207.out 1
       have X47_2 := ct BK207.out 2
       have X47_3 := ct BK207.out 3
       have X47_4 := ct BK207.out 4
       have X47_5 := ct BK207.out 5
       have Y47_0 := blk_frozen BK207.out 0
       have Y47_1 := blk_frozen BK207.out 1
       have Y47_2 := blk_frozen BK207.out 2
       have Y47_3 := blk_frozen BK207.out 3
       have Y47_4 := blk_frozen BK207.out 4
       have Y47_5 := blk_frozen BK207.out 5
       have X48_0 := ct BK208.out 0
       have X48_1 := ct BK208.out 1
       have X48_2 := ct BK208.out 2
       have X48_3 := ct BK208.out 3
       have X48_4 := ct BK208.out 4
       have X48_5 := ct BK208.out 5
       have Y48_0 := blk_frozen BK208.out 0
       have Y48_1 := blk_frozen BK208.out 1
       have Y48_2 := blk_frozen BK208.out 2
       have Y48_3 := blk_frozen BK208.out 3
       have Y48_4 := blk_frozen BK208.out 4
       have Y48_5 := blk_frozen BK208.out 5
       go_wp2
       go_ret
       exact ⟨eqT, by repeat (first | (with_reducible first | exact HB.out | apply below_alloc | apply pw_below_drewN | apply below_drew1 | refine below_set ?_ GE208.out) | exact HB.out)⟩
      ·rw [if_neg c45] at H
       have c45b0 : ((!(a0_1 == 0) || (!(a0_2 == 0) || (!(a0_3 == 0)))) || (!(a0_5.toList == ([] : List UInt8)))) = false := by simpa using c45
       have c45b0e : ((!(a0_1 == 0) || (!(a0_2 == 0) || (!(a0_3 == 0)))) || (!(a0_5.toList.isEmpty))) = false := by simpa using c45b0
       have c45b0l0 : (a0_1 == 0) = true := by (have h_ := c45b0; simp at h_; simp [h_])
       have c45b0l1 : (a0_2 == 0) = true := by (have h_ := c45b0; simp at h_; simp [h_])
       have c45b0l2 : (a0_3 == 0) = true := by (have h_ := c45b0; simp at h_; simp [h_])
       have c45b0l3 : (a0_5.toList.isEmpty) = true := by (have h_ := c45b0; simp at h_; simp [h_])
       have c45b0e : ((!(a0_1 == 0) || (!(a0_2 == 0) || (!(a0_3 == 0)))) || (!(a0_5.toList.isEmpty))) = false := by simpa using c45b0
       have c45b0l0 : (a0_1 == 0) = true := by (have h_ := c45b0; simp at h_; simp [h_])
       have c45b0l1 : (a0_2 == 0) = true := by (have h_ := c45b0; simp at h_; simp [h_])
       have c45b0l2 : (a0_3 == 0) = true := by (have h_ := c45b0; simp at h_; simp [h_])
       have c45b0l3 : (a0_5.toList.isEmpty) = true := by (have h_ := c45b0; simp at h_; simp [h_])
       clear c45
       obtain rfl := Option.some.inj H
       have hnb49 := NB207_208.out
       have hnc49 := NB208_207.out
       have X50_0 := ct BK207.out 0
       have X50_1 := ct BK207.out 1
       have X50_2 := ct BK207.out 2
       have X50_3 := ct BK207.out 3
       have X50_4 := ct BK207.out 4
       have X50_5 := ct BK207.out 5
       have Y50_0 := blk_frozen BK207.out 0
       have Y50_1 := blk_frozen BK207.out 1
       have Y50_2 := blk_frozen BK207.out 2
       have Y50_3 := blk_frozen BK207.out 3
       have Y50_4 := blk_frozen BK207.out 4
       have Y50_5 := blk_frozen BK207.out 5
       have X51_0 := ct BK208.out 0
       have X51_1 := ct BK208.out 1
       have X51_2 := ct BK208.out 2
       have X51_3 := ct BK208.out 3
       have X51_4 := ct BK208.out 4
       have X51_5 := ct BK208.out 5
       have Y51_0 := blk_frozen BK208.out 0
       have Y51_1 := blk_frozen BK208.out 1
       have Y51_2 := blk_frozen BK208.out 2
       have Y51_3 := blk_frozen BK208.out 3
       have Y51_4 := blk_frozen BK208.out 4
       have Y51_5 := blk_frozen BK208.out 5
       go_wp2
       go_ret
       exact ⟨eqT, by repeat (first | (with_reducible first | exact HB.out | apply below_alloc | apply pw_below_drewN | apply below_drew1 | refine below_set ?_ GE208.out) | exact HB.out)⟩
  ·rw [if_neg c31] at H
   have c31b0 : (a0_0 == 1) = false := beq_eq_false_iff_ne.mpr c31
   have c31b1 : (a0_0 != 1) = true := bne_iff_ne.mpr c31
   by_cases c52 : a0_0 = 2
   ·rw [if_pos c52] at H
    have c52b0 : (a0_0 == 2) = true := beq_iff_eq.mpr c52
    have c52b1 : (a0_0 != 2) = false := bne_eq_false_iff_eq.mpr c52
    clear c52
    replace H := Option.bind_eq_some_iff.mp H
    obtain ⟨t210, A530, H⟩ := H
    (try dsimp only at H)
    have A53 := mk0 A530
    clear A530
    by_cases c54 : t210 = 0
    ·rw [if_pos c54] at H
     have c54b0 : (t210 == 0) = true := beq_iff_eq.mpr c54
     have c54b1 : (t210 != 0) = false := bne_eq_false_iff_eq.mpr c54
     clear c54
     by_cases c55 : ((!(a0_1 == 0) || (!(a0_2 == 0) || (!(a0_3 == 0)))) || (!(a0_4 == 0))) = true
     ·rw [if_pos c55] at H
      have c55b0 : ((!(a0_1 == 0) || (!(a0_2 == 0) || (!(a0_3 == 0)))) || (!(a0_4 == 0))) = true := c55
      clear c55
      obtain rfl := Option.some.inj H
      go_enter Tryz.func25, Tryz.ntmps25
      go_wp2_with (first | ((with_reducible refine gate_dst (N := 1) rfl ?_); refine box_event ?hg (N := 1) ?hd (cs := #[.int .i64 a0_0, .int .i64 a0_1, .int .i64 a0_2, .int .i64 a0_3, .int .i64 a0_4, .string a0_5]) (t := 47) ?hr ?_; (case hd => rfl); (case hg => rfl); (case hr => first | (go_simp; done) | (go_simp; rfl)); intro gb207 hg w56 hbox hb; have n0_ := mk0 (below_step (wT HB.out) hb); have n1_ := mk0 (hbox); have n2_ := mk0 ((szT HB.out hg)); have n3_ := mk0 ((szT HB.out hg)); clear HB; have HB := n0_; have BK207 := n1_; have GW207 := n2_; have GE207 := n3_; clear n0_ n1_ n2_ n3_; clear hb hbox hg; have X57_0 := ct BK207.out 0; have X57_1 := ct BK207.out 1; have X57_2 := ct BK207.out 2; have X57_3 := ct BK207.out 3; have X57_4 := ct BK207.out 4; have X57_5 := ct BK207.out 5; have Y57_0 := blk_frozen BK207.out 0; have Y57_1 := blk_frozen BK207.out 1; have Y57_2 := blk_frozen BK207.out 2; have Y57_3 := blk_frozen BK207.out 3; have Y57_4 := blk_frozen BK207.out 4; have Y57_5 := blk_frozen BK207.out 5) | ((with_reducible refine gate_dst (N := 3) rfl ?_); refine box_event ?hg (N := 3) ?hd (cs := #[.int .i64 0, .int .i64 0, .int .i64 0, .int .i64 0, .int .i64 0, .string (⟨#[]⟩ : ByteArray)]) (t := 47) ?hr ?_; (case hd => rfl); (case hg => rfl); (case hr => first | (go_simp; done) | (go_simp; rfl)); intro gb208 hg w58 hbox hb; have n0_ := mk0 (bbT BK207.out hb); have n1_ := mk0 (below_step (wT HB.out) hb); have n2_ := mk0 (hbox); have n3_ := mk0 ((szT HB.out hg)); have n4_ := mk0 ((szT HB.out hg)); have n5_ := mk0 ((neL BK207.out hg)); have n6_ := mk0 ((neG BK207.out hg)); clear BK207; clear HB; have BK207 := n0_; have HB := n1_; have BK208 := n2_; have GW208 := n3_; have GE208 := n4_; have NB207_208 := n5_; have NB208_207 := n6_; clear n0_ n1_ n2_ n3_ n4_ n5_ n6_; clear hb hbox hg; have hnb59 := NB208_207.out; have hnc59 := NB207_208.out; have X60_0 := ct BK208.out 0; have X60_1 := ct BK208.out 1; have X60_2 := ct BK208.out 2; have X60_3 := ct BK208.out 3; have X60_4 := ct BK208.out 4; have X60_5 := ct BK208.out 5; have Y60_0 := blk_frozen BK208.out 0; have Y60_1 := blk_frozen BK208.out 1; have Y60_2 := blk_frozen BK208.out 2; have Y60_3 := blk_frozen BK208.out 3; have Y60_4 := blk_frozen BK208.out 4; have Y60_5 := blk_frozen BK208.out 5; have X61_0 := ct BK207.out 0; have X61_1 := ct BK207.out 1; have X61_2 := ct BK207.out 2; have X61_3 := ct BK207.out 3; have X61_4 := ct BK207.out 4; have X61_5 := ct BK207.out 5; have Y61_0 := blk_frozen BK207.out 0; have Y61_1 := blk_frozen BK207.out 1; have Y61_2 := blk_frozen BK207.out 2; have Y61_3 := blk_frozen BK207.out 3; have Y61_4 := blk_frozen BK207.out 4; have Y61_5 := blk_frozen BK207.out 5) | ((with_reducible refine gate_callee (f := 54) rfl ?_); refine goesL_ (some 38) rfl rfl Tryz.func54 (by kernel_rfl) rfl #[.string a0_5] rfl mapT ?_; (with_reducible refine (probe_named.calls a0_5 t210 _ ?side1 A53.out).mono ?_); (case side1 => exact GW_below HG.out (by repeat (first | (with_reducible first | exact HB.out | apply below_alloc | apply pw_below_drewN | apply below_drew1 | refine below_set ?_ GE208.out) | exact HB.out))); rintro e w62 ⟨rfl, hb⟩; refine ⟨_, rfl, ?_⟩; have n0_ := mk0 (blk_below (g := gb207) (o := .cells #[.int .i64 a0_0, .int .i64 a0_1, .int .i64 a0_2, .int .i64 a0_3, .int .i64 a0_4, .string a0_5] 47 (0, 0)) (by (with_reducible repeat (first | refine blk_drewN ?_ _ | refine blk_drew ?_ | refine blk_alloc ?_ _)); refine blk_far ?_ NB207_208.out _; refine blk_far ?_ NB207_208.out _; refine blk_far ?_ NB207_208.out _; refine blk_far ?_ NB207_208.out _; refine blk_far ?_ NB207_208.out _; refine blk_far ?_ NB207_208.out _; (with_reducible repeat (first | refine blk_drewN ?_ _ | refine blk_drew ?_ | refine blk_alloc ?_ _)); exact BK207.out) hb); have n1_ := mk0 (blk_below (g := gb208) (o := .cells #[.int .i64 a0_0, .int .i64 a0_1, .int .i64 a0_2, .int .i64 a0_3, .int .i64 a0_4, .string a0_5] 47 (0, 0)) (by (with_reducible repeat (first | refine blk_drewN ?_ _ | refine blk_drew ?_ | refine blk_alloc ?_ _)); refine blk_put (cs := #[.int .i64 a0_0, .int .i64 a0_1, .int .i64 a0_2, .int .i64 a0_3, .int .i64 a0_4, .string (⟨#[]⟩ : ByteArray)]) ?_ 5 _ rfl; refine blk_put (cs := #[.int .i64 a0_0, .int .i64 a0_1, .int .i64 a0_2, .int .i64 a0_3, .int .i64 0, .string (⟨#[]⟩ : ByteArray)]) ?_ 4 _ rfl; refine blk_put (cs := #[.int .i64 a0_0, .int .i64 a0_1, .int .i64 a0_2, .int .i64 0, .int .i64 0, .string (⟨#[]⟩ : ByteArray)]) ?_ 3 _ rfl; refine blk_put (cs := #[.int .i64 a0_0, .int .i64 a0_1, .int .i64 0, .int .i64 0, .int .i64 0, .string (⟨#[]⟩ : ByteArray)]) ?_ 2 _ rfl; refine blk_put (cs := #[.int .i64 a0_0, .int .i64 0, .int .i64 0, .int .i64 0, .int .i64 0, .string (⟨#[]⟩ : ByteArray)]) ?_ 1 _ rfl; refine blk_put (cs := #[.int .i64 0, .int .i64 0, .int .i64 0, .int .i64 0, .int .i64 0, .string (⟨#[]⟩ : ByteArray)]) ?_ 0 _ rfl; (with_reducible repeat (first | refine blk_drewN ?_ _ | refine blk_drew ?_ | refine blk_alloc ?_ _)); exact BK208.out) hb); have n2_ := mk0 (below_step (by repeat (first | (with_reducible first | exact HB.out | apply below_alloc | apply pw_below_drewN | apply below_drew1 | refine below_set ?_ GE208.out) | exact HB.out)) hb); clear BK207; clear BK208; clear HB; have BK207 := n0_; have BK208 := n1_; have HB := n2_; clear n0_ n1_ n2_; (try clear hb); (try clear hb2); (try clear hk); (try clear hi); have X63_0 := ct BK207.out 0; have X63_1 := ct BK207.out 1; have X63_2 := ct BK207.out 2; have X63_3 := ct BK207.out 3; have X63_4 := ct BK207.out 4; have X63_5 := ct BK207.out 5; have Y63_0 := blk_frozen BK207.out 0; have Y63_1 := blk_frozen BK207.out 1; have Y63_2 := blk_frozen BK207.out 2; have Y63_3 := blk_frozen BK207.out 3; have Y63_4 := blk_frozen BK207.out 4; have Y63_5 := blk_frozen BK207.out 5; have X64_0 := ct BK208.out 0; have X64_1 := ct BK208.out 1; have X64_2 := ct BK208.out 2; have X64_3 := ct BK208.out 3; have X64_4 := ct BK208.out 4; have X64_5 := ct BK208.out 5; have Y64_0 := blk_frozen BK208.out 0; have Y64_1 := blk_frozen BK208.out 1; have Y64_2 := blk_frozen BK208.out 2; have Y64_3 := blk_frozen BK208.out 3; have Y64_4 := blk_frozen BK208.out 4; have Y64_5 := blk_frozen BK208.out 5))
      go_ret
      exact ⟨eqT, by repeat (first | (with_reducible first | exact HB.out | apply below_alloc | apply pw_below_drewN | apply below_drew1 | refine below_set ?_ GE208.out) | exact HB.out)⟩
     ·rw [if_neg c55] at H
      have c55b0 : ((!(a0_1 == 0) || (!(a0_2 == 0) || (!(a0_3 == 0)))) || (!(a0_4 == 0))) = false := by simpa using c55
      clear c55
      obtain rfl := Option.some.inj H
      go_enter Tryz.func25, Tryz.ntmps25
      go_wp2_with (first | ((with_reducible refine gate_dst (N := 1) rfl ?_); refine box_event ?hg (N := 1) ?hd (cs := #[.int .i64 a0_0, .int .i64 a0_1, .int .i64 a0_2, .int .i64 a0_3, .int .i64 a0_4, .string a0_5]) (t := 47) ?hr ?_; (case hd => rfl); (case hg => rfl); (case hr => first | (go_simp; done) | (go_simp; rfl)); intro gb207 hg w65 hbox hb; have n0_ := mk0 (below_step (wT HB.out) hb); have n1_ := mk0 (hbox); have n2_ := mk0 ((szT HB.out hg)); have n3_ := mk0 ((szT HB.out hg)); clear HB; have HB := n0_; have BK207 := n1_; have GW207 := n2_; have GE207 := n3_; clear n0_ n1_ n2_ n3_; clear hb hbox hg; have X66_0 := ct BK207.out 0; have X66_1 := ct BK207.out 1; have X66_2 := ct BK207.out 2; have X66_3 := ct BK207.out 3; have X66_4 := ct BK207.out 4; have X66_5 := ct BK207.out 5; have Y66_0 := blk_frozen BK207.out 0; have Y66_1 := blk_frozen BK207.out 1; have Y66_2 := blk_frozen BK207.out 2; have Y66_3 := blk_frozen BK207.out 3; have Y66_4 := blk_frozen BK207.out 4; have Y66_5 := blk_frozen BK207.out 5) | ((with_reducible refine gate_dst (N := 3) rfl ?_); refine box_event ?hg (N := 3) ?hd (cs := #[.int .i64 0, .int .i64 0, .int .i64 0, .int .i64 0, .int .i64 0, .string (⟨#[]⟩ : ByteArray)]) (t := 47) ?hr ?_; (case hd => rfl); (case hg => rfl); (case hr => first | (go_simp; done) | (go_simp; rfl)); intro gb208 hg w67 hbox hb; have n0_ := mk0 (bbT BK207.out hb); have n1_ := mk0 (below_step (wT HB.out) hb); have n2_ := mk0 (hbox); have n3_ := mk0 ((szT HB.out hg)); have n4_ := mk0 ((szT HB.out hg)); have n5_ := mk0 ((neL BK207.out hg)); have n6_ := mk0 ((neG BK207.out hg)); clear BK207; clear HB; have BK207 := n0_; have HB := n1_; have BK208 := n2_; have GW208 := n3_; have GE208 := n4_; have NB207_208 := n5_; have NB208_207 := n6_; clear n0_ n1_ n2_ n3_ n4_ n5_ n6_; clear hb hbox hg; have hnb68 := NB208_207.out; have hnc68 := NB207_208.out; have X69_0 := ct BK208.out 0; have X69_1 := ct BK208.out 1; have X69_2 := ct BK208.out 2; have X69_3 := ct BK208.out 3; have X69_4 := ct BK208.out 4; have X69_5 := ct BK208.out 5; have Y69_0 := blk_frozen BK208.out 0; have Y69_1 := blk_frozen BK208.out 1; have Y69_2 := blk_frozen BK208.out 2; have Y69_3 := blk_frozen BK208.out 3; have Y69_4 := blk_frozen BK208.out 4; have Y69_5 := blk_frozen BK208.out 5; have X70_0 := ct BK207.out 0; have X70_1 := ct BK207.out 1; have X70_2 := ct BK207.out 2; have X70_3 := ct BK207.out 3; have X70_4 := ct BK207.out 4; have X70_5 := ct BK207.out 5; have Y70_0 := blk_frozen BK207.out 0; have Y70_1 := blk_frozen BK207.out 1; have Y70_2 := blk_frozen BK207.out 2; have Y70_3 := blk_frozen BK207.out 3; have Y70_4 := blk_frozen BK207.out 4; have Y70_5 := blk_frozen BK207.out 5) | ((with_reducible refine gate_callee (f := 54) rfl ?_); refine goesL_ (some 38) rfl rfl Tryz.func54 (by kernel_rfl) rfl #[.string a0_5] rfl mapT ?_; (with_reducible refine (probe_named.calls a0_5 t210 _ ?side1 A53.out).mono ?_); (case side1 => exact GW_below HG.out (by repeat (first | (with_reducible first | exact HB.out | apply below_alloc | apply pw_below_drewN | apply below_drew1 | refine below_set ?_ GE208.out) | exact HB.out))); rintro e w71 ⟨rfl, hb⟩; refine ⟨_, rfl, ?_⟩; have n0_ := mk0 (blk_below (g := gb207) (o := .cells #[.int .i64 a0_0, .int .i64 a0_1, .int .i64 a0_2, .int .i64 a0_3, .int .i64 a0_4, .string a0_5] 47 (0, 0)) (by (with_reducible repeat (first | refine blk_drewN ?_ _ | refine blk_drew ?_ | refine blk_alloc ?_ _)); refine blk_far ?_ NB207_208.out _; refine blk_far ?_ NB207_208.out _; refine blk_far ?_ NB207_208.out _; refine blk_far ?_ NB207_208.out _; refine blk_far ?_ NB207_208.out _; refine blk_far ?_ NB207_208.out _; (with_reducible repeat (first | refine blk_drewN ?_ _ | refine blk_drew ?_ | refine blk_alloc ?_ _)); exact BK207.out) hb); have n1_ := mk0 (blk_below (g := gb208) (o := .cells #[.int .i64 a0_0, .int .i64 a0_1, .int .i64 a0_2, .int .i64 a0_3, .int .i64 a0_4, .string a0_5] 47 (0, 0)) (by (with_reducible repeat (first | refine blk_drewN ?_ _ | refine blk_drew ?_ | refine blk_alloc ?_ _)); refine blk_put (cs := #[.int .i64 a0_0, .int .i64 a0_1, .int .i64 a0_2, .int .i64 a0_3, .int .i64 a0_4, .string (⟨#[]⟩ : ByteArray)]) ?_ 5 _ rfl; refine blk_put (cs := #[.int .i64 a0_0, .int .i64 a0_1, .int .i64 a0_2, .int .i64 a0_3, .int .i64 0, .string (⟨#[]⟩ : ByteArray)]) ?_ 4 _ rfl; refine blk_put (cs := #[.int .i64 a0_0, .int .i64 a0_1, .int .i64 a0_2, .int .i64 0, .int .i64 0, .string (⟨#[]⟩ : ByteArray)]) ?_ 3 _ rfl; refine blk_put (cs := #[.int .i64 a0_0, .int .i64 a0_1, .int .i64 0, .int .i64 0, .int .i64 0, .string (⟨#[]⟩ : ByteArray)]) ?_ 2 _ rfl; refine blk_put (cs := #[.int .i64 a0_0, .int .i64 0, .int .i64 0, .int .i64 0, .int .i64 0, .string (⟨#[]⟩ : ByteArray)]) ?_ 1 _ rfl; refine blk_put (cs := #[.int .i64 0, .int .i64 0, .int .i64 0, .int .i64 0, .int .i64 0, .string (⟨#[]⟩ : ByteArray)]) ?_ 0 _ rfl; (with_reducible repeat (first | refine blk_drewN ?_ _ | refine blk_drew ?_ | refine blk_alloc ?_ _)); exact BK208.out) hb); have n2_ := mk0 (below_step (by repeat (first | (with_reducible first | exact HB.out | apply below_alloc | apply pw_below_drewN | apply below_drew1 | refine below_set ?_ GE208.out) | exact HB.out)) hb); clear BK207; clear BK208; clear HB; have BK207 := n0_; have BK208 := n1_; have HB := n2_; clear n0_ n1_ n2_; (try clear hb); (try clear hb2); (try clear hk); (try clear hi); have X72_0 := ct BK207.out 0; have X72_1 := ct BK207.out 1; have X72_2 := ct BK207.out 2; have X72_3 := ct BK207.out 3; have X72_4 := ct BK207.out 4; have X72_5 := ct BK207.out 5; have Y72_0 := blk_frozen BK207.out 0; have Y72_1 := blk_frozen BK207.out 1; have Y72_2 := blk_frozen BK207.out 2; have Y72_3 := blk_frozen BK207.out 3; have Y72_4 := blk_frozen BK207.out 4; have Y72_5 := blk_frozen BK207.out 5; have X73_0 := ct BK208.out 0; have X73_1 := ct BK208.out 1; have X73_2 := ct BK208.out 2; have X73_3 := ct BK208.out 3; have X73_4 := ct BK208.out 4; have X73_5 := ct BK208.out 5; have Y73_0 := blk_frozen BK208.out 0; have Y73_1 := blk_frozen BK208.out 1; have Y73_2 := blk_frozen BK208.out 2; have Y73_3 := blk_frozen BK208.out 3; have Y73_4 := blk_frozen BK208.out 4; have Y73_5 := blk_frozen BK208.out 5))
      go_ret
      exact ⟨eqT, by repeat (first | (with_reducible first | exact HB.out | apply below_alloc | apply pw_below_drewN | apply below_drew1 | refine below_set ?_ GE208.out) | exact HB.out)⟩
    ·rw [if_neg c54] at H
     have c54b0 : (t210 == 0) = false := beq_eq_false_iff_ne.mpr c54
     have c54b1 : (t210 != 0) = true := bne_iff_ne.mpr c54
     obtain rfl := Option.some.inj H
     go_enter Tryz.func25, Tryz.ntmps25
     go_wp2_with (first | ((with_reducible refine gate_dst (N := 1) rfl ?_); refine box_event ?hg (N := 1) ?hd (cs := #[.int .i64 a0_0, .int .i64 a0_1, .int .i64 a0_2, .int .i64 a0_3, .int .i64 a0_4, .string a0_5]) (t := 47) ?hr ?_; (case hd => rfl); (case hg => rfl); (case hr => first | (go_simp; done) | (go_simp; rfl)); intro gb207 hg w74 hbox hb; have n0_ := mk0 (below_step (wT HB.out) hb); have n1_ := mk0 (hbox); have n2_ := mk0 ((szT HB.out hg)); have n3_ := mk0 ((szT HB.out hg)); clear HB; have HB := n0_; have BK207 := n1_; have GW207 := n2_; have GE207 := n3_; clear n0_ n1_ n2_ n3_; clear hb hbox hg; have X75_0 := ct BK207.out 0; have X75_1 := ct BK207.out 1; have X75_2 := ct BK207.out 2; have X75_3 := ct BK207.out 3; have X75_4 := ct BK207.out 4; have X75_5 := ct BK207.out 5; have Y75_0 := blk_frozen BK207.out 0; have Y75_1 := blk_frozen BK207.out 1; have Y75_2 := blk_frozen BK207.out 2; have Y75_3 := blk_frozen BK207.out 3; have Y75_4 := blk_frozen BK207.out 4; have Y75_5 := blk_frozen BK207.out 5) | ((with_reducible refine gate_dst (N := 3) rfl ?_); refine box_event ?hg (N := 3) ?hd (cs := #[.int .i64 0, .int .i64 0, .int .i64 0, .int .i64 0, .int .i64 0, .string (⟨#[]⟩ : ByteArray)]) (t := 47) ?hr ?_; (case hd => rfl); (case hg => rfl); (case hr => first | (go_simp; done) | (go_simp; rfl)); intro gb208 hg w76 hbox hb; have n0_ := mk0 (bbT BK207.out hb); have n1_ := mk0 (below_step (wT HB.out) hb); have n2_ := mk0 (hbox); have n3_ := mk0 ((szT HB.out hg)); have n4_ := mk0 ((szT HB.out hg)); have n5_ := mk0 ((neL BK207.out hg)); have n6_ := mk0 ((neG BK207.out hg)); clear BK207; clear HB; have BK207 := n0_; have HB := n1_; have BK208 := n2_; have GW208 := n3_; have GE208 := n4_; have NB207_208 := n5_; have NB208_207 := n6_; clear n0_ n1_ n2_ n3_ n4_ n5_ n6_; clear hb hbox hg; have hnb77 := NB208_207.out; have hnc77 := NB207_208.out; have X78_0 := ct BK208.out 0; have X78_1 := ct BK208.out 1; have X78_2 := ct BK208.out 2; have X78_3 := ct BK208.out 3; have X78_4 := ct BK208.out 4; have X78_5 := ct BK208.out 5; have Y78_0 := blk_frozen BK208.out 0; have Y78_1 := blk_frozen BK208.out 1; have Y78_2 := blk_frozen BK208.out 2; have Y78_3 := blk_frozen BK208.out 3; have Y78_4 := blk_frozen BK208.out 4; have Y78_5 := blk_frozen BK208.out 5; have X79_0 := ct BK207.out 0; have X79_1 := ct BK207.out 1; have X79_2 := ct BK207.out 2; have X79_3 := ct BK207.out 3; have X79_4 := ct BK207.out 4; have X79_5 := ct BK207.out 5; have Y79_0 := blk_frozen BK207.out 0; have Y79_1 := blk_frozen BK207.out 1; have Y79_2 := blk_frozen BK207.out 2; have Y79_3 := blk_frozen BK207.out 3; have Y79_4 := blk_frozen BK207.out 4; have Y79_5 := blk_frozen BK207.out 5) | ((with_reducible refine gate_callee (f := 54) rfl ?_); refine goesL_ (some 38) rfl rfl Tryz.func54 (by kernel_rfl) rfl #[.string a0_5] rfl mapT ?_; (with_reducible refine (probe_named.calls a0_5 t210 _ ?side1 A53.out).mono ?_); (case side1 => exact GW_below HG.out (by repeat (first | (with_reducible first | exact HB.out | apply below_alloc | apply pw_below_drewN | apply below_drew1 | refine below_set ?_ GE208.out) | exact HB.out))); rintro e w80 ⟨rfl, hb⟩; refine ⟨_, rfl, ?_⟩; have n0_ := mk0 (blk_below (g := gb207) (o := .cells #[.int .i64 a0_0, .int .i64 a0_1, .int .i64 a0_2, .int .i64 a0_3, .int .i64 a0_4, .string a0_5] 47 (0, 0)) (by (with_reducible repeat (first | refine blk_drewN ?_ _ | refine blk_drew ?_ | refine blk_alloc ?_ _)); refine blk_far ?_ NB207_208.out _; refine blk_far ?_ NB207_208.out _; refine blk_far ?_ NB207_208.out _; refine blk_far ?_ NB207_208.out _; refine blk_far ?_ NB207_208.out _; refine blk_far ?_ NB207_208.out _; (with_reducible repeat (first | refine blk_drewN ?_ _ | refine blk_drew ?_ | refine blk_alloc ?_ _)); exact BK207.out) hb); have n1_ := mk0 (blk_below (g := gb208) (o := .cells #[.int .i64 a0_0, .int .i64 a0_1, .int .i64 a0_2, .int .i64 a0_3, .int .i64 a0_4, .string a0_5] 47 (0, 0)) (by (with_reducible repeat (first | refine blk_drewN ?_ _ | refine blk_drew ?_ | refine blk_alloc ?_ _)); refine blk_put (cs := #[.int .i64 a0_0, .int .i64 a0_1, .int .i64 a0_2, .int .i64 a0_3, .int .i64 a0_4, .string (⟨#[]⟩ : ByteArray)]) ?_ 5 _ rfl; refine blk_put (cs := #[.int .i64 a0_0, .int .i64 a0_1, .int .i64 a0_2, .int .i64 a0_3, .int .i64 0, .string (⟨#[]⟩ : ByteArray)]) ?_ 4 _ rfl; refine blk_put (cs := #[.int .i64 a0_0, .int .i64 a0_1, .int .i64 a0_2, .int .i64 0, .int .i64 0, .string (⟨#[]⟩ : ByteArray)]) ?_ 3 _ rfl; refine blk_put (cs := #[.int .i64 a0_0, .int .i64 a0_1, .int .i64 0, .int .i64 0, .int .i64 0, .string (⟨#[]⟩ : ByteArray)]) ?_ 2 _ rfl; refine blk_put (cs := #[.int .i64 a0_0, .int .i64 0, .int .i64 0, .int .i64 0, .int .i64 0, .string (⟨#[]⟩ : ByteArray)]) ?_ 1 _ rfl; refine blk_put (cs := #[.int .i64 0, .int .i64 0, .int .i64 0, .int .i64 0, .int .i64 0, .string (⟨#[]⟩ : ByteArray)]) ?_ 0 _ rfl; (with_reducible repeat (first | refine blk_drewN ?_ _ | refine blk_drew ?_ | refine blk_alloc ?_ _)); exact BK208.out) hb); have n2_ := mk0 (below_step (by repeat (first | (with_reducible first | exact HB.out | apply below_alloc | apply pw_below_drewN | apply below_drew1 | refine below_set ?_ GE208.out) | exact HB.out)) hb); clear BK207; clear BK208; clear HB; have BK207 := n0_; have BK208 := n1_; have HB := n2_; clear n0_ n1_ n2_; (try clear hb); (try clear hb2); (try clear hk); (try clear hi)))
     go_ret
     exact ⟨eqT, wT HB.out⟩
   ·rw [if_neg c52] at H
    have c52b0 : (a0_0 == 2) = false := beq_eq_false_iff_ne.mpr c52
    have c52b1 : (a0_0 != 2) = true := bne_iff_ne.mpr c52
    obtain rfl := Option.some.inj H
    go_enter Tryz.func25, Tryz.ntmps25
    go_wp2_with (first | ((with_reducible refine gate_dst (N := 1) rfl ?_); refine box_event ?hg (N := 1) ?hd (cs := #[.int .i64 a0_0, .int .i64 a0_1, .int .i64 a0_2, .int .i64 a0_3, .int .i64 a0_4, .string a0_5]) (t := 47) ?hr ?_; (case hd => rfl); (case hg => rfl); (case hr => first | (go_simp; done) | (go_simp; rfl)); intro gb207 hg w81 hbox hb; have n0_ := mk0 (below_step (wT HB.out) hb); have n1_ := mk0 (hbox); have n2_ := mk0 ((szT HB.out hg)); have n3_ := mk0 ((szT HB.out hg)); clear HB; have HB := n0_; have BK207 := n1_; have GW207 := n2_; have GE207 := n3_; clear n0_ n1_ n2_ n3_; clear hb hbox hg; have X82_0 := ct BK207.out 0; have X82_1 := ct BK207.out 1; have X82_2 := ct BK207.out 2; have X82_3 := ct BK207.out 3; have X82_4 := ct BK207.out 4; have X82_5 := ct BK207.out 5; have Y82_0 := blk_frozen BK207.out 0; have Y82_1 := blk_frozen BK207.out 1; have Y82_2 := blk_frozen BK207.out 2; have Y82_3 := blk_frozen BK207.out 3; have Y82_4 := blk_frozen BK207.out 4; have Y82_5 := blk_frozen BK207.out 5) | ((with_reducible refine gate_dst (N := 3) rfl ?_); refine box_event ?hg (N := 3) ?hd (cs := #[.int .i64 0, .int .i64 0, .int .i64 0, .int .i64 0, .int .i64 0, .string (⟨#[]⟩ : ByteArray)]) (t := 47) ?hr ?_; (case hd => rfl); (case hg => rfl); (case hr => first | (go_simp; done) | (go_simp; rfl)); intro gb208 hg w83 hbox hb; have n0_ := mk0 (bbT BK207.out hb); have n1_ := mk0 (below_step (wT HB.out) hb); have n2_ := mk0 (hbox); have n3_ := mk0 ((szT HB.out hg)); have n4_ := mk0 ((szT HB.out hg)); have n5_ := mk0 ((neL BK207.out hg)); have n6_ := mk0 ((neG BK207.out hg)); clear BK207; clear HB; have BK207 := n0_; have HB := n1_; have BK208 := n2_; have GW208 := n3_; have GE208 := n4_; have NB207_208 := n5_; have NB208_207 := n6_; clear n0_ n1_ n2_ n3_ n4_ n5_ n6_; clear hb hbox hg; have hnb84 := NB208_207.out; have hnc84 := NB207_208.out; have X85_0 := ct BK208.out 0; have X85_1 := ct BK208.out 1; have X85_2 := ct BK208.out 2; have X85_3 := ct BK208.out 3; have X85_4 := ct BK208.out 4; have X85_5 := ct BK208.out 5; have Y85_0 := blk_frozen BK208.out 0; have Y85_1 := blk_frozen BK208.out 1; have Y85_2 := blk_frozen BK208.out 2; have Y85_3 := blk_frozen BK208.out 3; have Y85_4 := blk_frozen BK208.out 4; have Y85_5 := blk_frozen BK208.out 5; have X86_0 := ct BK207.out 0; have X86_1 := ct BK207.out 1; have X86_2 := ct BK207.out 2; have X86_3 := ct BK207.out 3; have X86_4 := ct BK207.out 4; have X86_5 := ct BK207.out 5; have Y86_0 := blk_frozen BK207.out 0; have Y86_1 := blk_frozen BK207.out 1; have Y86_2 := blk_frozen BK207.out 2; have Y86_3 := blk_frozen BK207.out 3; have Y86_4 := blk_frozen BK207.out 4; have Y86_5 := blk_frozen BK207.out 5))
    go_ret
    exact ⟨eqT, by repeat (first | (with_reducible first | exact HB.out | apply below_alloc | apply pw_below_drewN | apply below_drew1 | refine below_set ?_ GE208.out) | exact HB.out)⟩
def probe_directions.f  : Option (ByteArray × ByteArray × ByteArray × ByteArray × ByteArray × ByteArray) := some ((⟨#[43, 88]⟩ : ByteArray), (⟨#[45, 88]⟩ : ByteArray), (⟨#[43, 89]⟩ : ByteArray), (⟨#[45, 89]⟩ : ByteArray), (⟨#[43, 90]⟩ : ByteArray), (⟨#[45, 90]⟩ : ByteArray))
theorem probe_directions.calls  (r1 : ByteArray) (r2 : ByteArray) (r3 : ByteArray) (r4 : ByteArray) (r5 : ByteArray) (r6 : ByteArray) (w : World) (h : probe_directions.f  = some (r1, r2, r3, r4, r5, r6)) :
  Calls Tryz.prog 50 #[] w fun e w' => e = .returned (.agg #[.string r1, .string r2, .string r3, .string r4, .string r5, .string r6]) ∧ Below w.heap.size w w' := by
 have hu109 := Tryz.underlying109
 have HB := mk0 (Below.refl w.heap.size w)
 have H : (some ((⟨#[43, 88]⟩ : ByteArray), (⟨#[45, 88]⟩ : ByteArray), (⟨#[43, 89]⟩ : ByteArray), (⟨#[45, 89]⟩ : ByteArray), (⟨#[43, 90]⟩ : ByteArray), (⟨#[45, 90]⟩ : ByteArray))) = some (r1, r2, r3, r4, r5, r6) := h
 clear h
 simp only [Option.some.injEq, Prod.mk.injEq] at H
 obtain ⟨rfl, rfl, rfl, rfl, rfl, rfl⟩ := H
 go_enter Tryz.func50, Tryz.ntmps50
 go_wp2_with (first | ((with_reducible refine gate_dst (N := 0) rfl ?_); refine box_event ?hg (N := 0) ?hd (cs := #[.string (⟨#[]⟩ : ByteArray), .string (⟨#[]⟩ : ByteArray), .string (⟨#[]⟩ : ByteArray), .string (⟨#[]⟩ : ByteArray), .string (⟨#[]⟩ : ByteArray), .string (⟨#[]⟩ : ByteArray)]) (t := 109) ?hr ?_; (case hd => rfl); (case hg => rfl); (case hr => first | (go_simp; done) | (go_simp; rfl)); intro gb230 hg w1 hbox hb; have n0_ := mk0 (below_step (wT HB.out) hb); have n1_ := mk0 (hbox); have n2_ := mk0 ((szT HB.out hg)); have n3_ := mk0 ((szT HB.out hg)); clear HB; have HB := n0_; have BK230 := n1_; have GW230 := n2_; have GE230 := n3_; clear n0_ n1_ n2_ n3_; clear hb hbox hg; have X2_0 := ct BK230.out 0; have X2_1 := ct BK230.out 1; have X2_2 := ct BK230.out 2; have X2_3 := ct BK230.out 3; have X2_4 := ct BK230.out 4; have X2_5 := ct BK230.out 5; have Y2_0 := blk_frozen BK230.out 0; have Y2_1 := blk_frozen BK230.out 1; have Y2_2 := blk_frozen BK230.out 2; have Y2_3 := blk_frozen BK230.out 3; have Y2_4 := blk_frozen BK230.out 4; have Y2_5 := blk_frozen BK230.out 5))
 refine bodyPost_ret (results_cell_row rfl _ _ gb230 109 #[.string (⟨#[43, 88]⟩ : ByteArray), .string (⟨#[45, 88]⟩ : ByteArray), .string (⟨#[43, 89]⟩ : ByteArray), .string (⟨#[45, 89]⟩ : ByteArray), .string (⟨#[43, 90]⟩ : ByteArray), .string (⟨#[45, 90]⟩ : ByteArray)] (0, 0) _ rfl (by (with_reducible repeat (first | refine blk_drewN ?_ _ | refine blk_drew ?_ | refine blk_alloc ?_ _)); refine blk_put (cs := #[.string (⟨#[43, 88]⟩ : ByteArray), .string (⟨#[45, 88]⟩ : ByteArray), .string (⟨#[43, 89]⟩ : ByteArray), .string (⟨#[45, 89]⟩ : ByteArray), .string (⟨#[43, 90]⟩ : ByteArray), .string (⟨#[]⟩ : ByteArray)]) ?_ 5 _ rfl; refine blk_put (cs := #[.string (⟨#[43, 88]⟩ : ByteArray), .string (⟨#[45, 88]⟩ : ByteArray), .string (⟨#[43, 89]⟩ : ByteArray), .string (⟨#[45, 89]⟩ : ByteArray), .string (⟨#[]⟩ : ByteArray), .string (⟨#[]⟩ : ByteArray)]) ?_ 4 _ rfl; refine blk_put (cs := #[.string (⟨#[43, 88]⟩ : ByteArray), .string (⟨#[45, 88]⟩ : ByteArray), .string (⟨#[43, 89]⟩ : ByteArray), .string (⟨#[]⟩ : ByteArray), .string (⟨#[]⟩ : ByteArray), .string (⟨#[]⟩ : ByteArray)]) ?_ 3 _ rfl; refine blk_put (cs := #[.string (⟨#[43, 88]⟩ : ByteArray), .string (⟨#[45, 88]⟩ : ByteArray), .string (⟨#[]⟩ : ByteArray), .string (⟨#[]⟩ : ByteArray), .string (⟨#[]⟩ : ByteArray), .string (⟨#[]⟩ : ByteArray)]) ?_ 2 _ rfl; refine blk_put (cs := #[.string (⟨#[43, 88]⟩ : ByteArray), .string (⟨#[]⟩ : ByteArray), .string (⟨#[]⟩ : ByteArray), .string (⟨#[]⟩ : ByteArray), .string (⟨#[]⟩ : ByteArray), .string (⟨#[]⟩ : ByteArray)]) ?_ 1 _ rfl; refine blk_put (cs := #[.string (⟨#[]⟩ : ByteArray), .string (⟨#[]⟩ : ByteArray), .string (⟨#[]⟩ : ByteArray), .string (⟨#[]⟩ : ByteArray), .string (⟨#[]⟩ : ByteArray), .string (⟨#[]⟩ : ByteArray)]) ?_ 0 _ rfl; (with_reducible repeat (first | refine blk_drewN ?_ _ | refine blk_drew ?_ | refine blk_alloc ?_ _)); exact BK230.out) Tryz.underlying109 rfl (by kernel_rfl)) rfl ?_
 exact ⟨eqT, by repeat (first | (with_reducible first | exact HB.out | apply below_alloc | apply pw_below_drewN | apply below_drew1 | refine below_set ?_ GE230.out) | exact HB.out)⟩
end Go.Proofs.YtolbjmaabghghaaGreatDoor.PA
