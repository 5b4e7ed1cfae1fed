/- A part of the proof. -/
import Derived.Test.YtolbjmaabghghaaGreatDoorE7PAx0
import Derived.Test.YtolbjmaabghghaaGreatDoorE7PAx1
import Derived.Test.YtolbjmaabghghaaGreatDoorE7PAx3
import Derived.Test.YtolbjmaabghghaaGreatDoorE7PAx6
import Derived.Test.YtolbjmaabghghaaGreatDoorE7PAx7
import Derived.Test.YtolbjmaabghghaaGreatDoorE7PAx16
import Derived.Test.YtolbjmaabghghaaGreatDoorE7PAx18
import Derived.Test.YtolbjmaabghghaaGreatDoorE7PAx20
import Derived.Test.YtolbjmaabghghaaGreatDoorE7PAx29
import Derived.Test.YtolbjmaabghghaaGreatDoorE7PAx35
namespace Go.Proofs.YtolbjmaabghghaaGreatDoor.PA
open Go.RowKit Go.PW Go.PL Go.PM
attribute [local go_sem] max2_int min2_int max_two min_two max_three min_three max_four min_four   -- for this text's walks alone
set_option linter.unusedVariables false
set_option maxHeartbeats 8000000
set_option maxRecDepth 100000
set_option linter.unusedSimpArgs false
attribute [local go_sem high] eqA23
def metrolablaw30_ProbeMeets.j0 : Nat → Int → Bool → Int → Int → Int → Int → Int → Int → List (S84) → Int → Int → Int → Option (Bool)
 | 0, _, _, _, _, _, _, _, _, _, _, _, _ => none
 | k + 1, x2, x37, x898000, x898001, x898002, x898003, x898004, x898005, x898006, x899000, x899001, x899002 => if x37 = true then ((metrolablaw30_awake.f k).bind fun t921 => (some t921)) else ((probe_Touch.f k x898000 x898001 x898002 x898003 x898004 x898005 x898006 x899000 x899001 x899002 (Int.tmod (wrap64 (x2)) 6)).bind fun bt922 => (if bt922.2.2.2.2.2.2 = 0 then ((probe_Material.f k x898000 x898001 x898002 x898003 x898004 x898005 x898006 bt922.1 bt922.2.1 bt922.2.2.1).bind fun bt932 => ((probe_Free.f k x898000 x898001 x898002 x898003 x898004 x898005 x898006 x899000 x899001 x899002 bt922.2.2.2.1 bt922.2.2.2.2.1 bt922.2.2.2.2.2.1).bind fun bt934 => (if (wrap64 (bt932.2 + bt934.2)) = 0 then (if bt932.1 = true then (if bt934.1 = true then ((metrolabref30_Ahead.f bt922.2.2.2.1 bt922.2.2.2.2.1 bt922.2.2.2.2.2.1 (Int.tmod (wrap64 (x2)) 6)).bind fun bt936 => (if (bt936.1 == bt922.1 && (bt936.2.1 == bt922.2.1 && (bt936.2.2 == bt922.2.2.1))) = true then ((metrolablaw30_awake.f k).bind fun t939 => (some t939)) else (none))) else (none)) else (none)) else (none)))) else ((metrolablaw30_awake.f k).bind fun t931 => (some t931))))
def metrolablaw30_ProbeMeets.f (k : Nat) (a0_0 : Int) (a0_1 : Int) (a0_2 : Int) (a0_3 : Int) (a0_4 : Int) (a0_5 : Int) (l0_6 : List (S84)) (a1_0 : Int) (a1_1 : Int) (a1_2 : Int) (a2 : Int) : Option (Bool) := (metrolablaw30_own.f k a0_0 a0_1 a0_2 a0_3 a0_4 a0_5 l0_6).bind fun bt899 => ((metrolabref30_Few.f bt899.1 bt899.2.1 bt899.2.2.1 bt899.2.2.2.1 bt899.2.2.2.2.1 bt899.2.2.2.2.2.1 bt899.2.2.2.2.2.2).bind fun t908 => (if t908 = true then ((metrolablaw30_own.f k a0_0 a0_1 a0_2 a0_3 a0_4 a0_5 l0_6).bind fun bt909 => ((metrolabref30_Check.f k bt909.1 bt909.2.1 bt909.2.2.1 bt909.2.2.2.1 bt909.2.2.2.2.1 bt909.2.2.2.2.2.1 bt909.2.2.2.2.2.2).bind fun t918 => (if t918 = 0 then ((metrolabref30_Near.f a1_0 a1_1 a1_2 a1_0 a1_1 a1_2).bind fun t919 => (if t919 = true then ((metrolabref30_Near.f a0_0 a0_1 a0_2 a0_3 a0_4 a0_5).bind fun t920 => (metrolablaw30_ProbeMeets.j0 k a2 (!t920) a0_0 a0_1 a0_2 a0_3 a0_4 a0_5 l0_6 a1_0 a1_1 a1_2)) else (metrolablaw30_ProbeMeets.j0 k a2 true a0_0 a0_1 a0_2 a0_3 a0_4 a0_5 l0_6 a1_0 a1_1 a1_2))) else (metrolablaw30_ProbeMeets.j0 k a2 true a0_0 a0_1 a0_2 a0_3 a0_4 a0_5 l0_6 a1_0 a1_1 a1_2)))) else (metrolablaw30_ProbeMeets.j0 k a2 true a0_0 a0_1 a0_2 a0_3 a0_4 a0_5 l0_6 a1_0 a1_1 a1_2)))
def metrolablaw30_ProbeMeets.T9 : Bool × List (List Nat × List Nat) := (true, [([], []), ([], []), ([0, 1], [0, 1]), ([2], [2]), ([3], [3]), ([4], [4]), ([4, 5], [4, 5]), ([6, 4], [6]), ([7], [7]), ([7, 8], [7, 8]), ([9, 7], [9]), ([10], [10]), ([10], [10]), ([11, 12, 10, 10], [10, 11, 12]), ([10], [10]), ([13, 14, 10], [10, 13, 14]), ([10, 15], [10, 15]), ([16, 13], [16]), ([17, 17], [17]), ([17, 18], [17, 18]), ([19, 18, 0, 1, 2, 3, 4, 5, 6, 7, 8, 9, 10, 11, 12, 13, 14, 15, 16, 17, 18, 19], [19])])
def metrolablaw30_ProbeMeets.B9 : List Nat := [0, 0, 3, 7, 15, 31, 63, 127, 255, 511, 1023, 2047, 2047, 8191, 2047, 32767, 65535, 131071, 262143, 524287, 1048575]
theorem metrolablaw30_ProbeMeets.tab9 : rtab .any (opsOf Tryz.f10 9) = metrolablaw30_ProbeMeets.T9 := by kernel_rfl
theorem metrolablaw30_ProbeMeets.bits9 : waitsOk metrolablaw30_ProbeMeets.T9.2 metrolablaw30_ProbeMeets.B9 = true := by kernel_rfl
theorem metrolablaw30_ProbeMeets.calls (k : Nat) (a0_0 : Int) (a0_1 : Int) (a0_2 : Int) (a0_3 : Int) (a0_4 : Int) (a0_5 : Int) (A0_6 : Option Addr) (c0_6 : Nat) (l0_6 : List (S84)) (a1_0 : Int) (a1_1 : Int) (a1_2 : Int) (a2 : Int) (r : Bool) (w : World) (hG : GW w) (hr0_6 : Kd.C k84 w A0_6 l0_6.length l0_6) (hc0_6 : l0_6.length ≤ c0_6) (h : metrolablaw30_ProbeMeets.f k a0_0 a0_1 a0_2 a0_3 a0_4 a0_5 l0_6 a1_0 a1_1 a1_2 a2 = some r) :
  Calls Tryz.prog 10 #[.agg #[.int .i64 a0_0, .int .i64 a0_1, .int .i64 a0_2, .int .i64 a0_3, .int .i64 a0_4, .int .i64 a0_5, .slice A0_6 l0_6.length c0_6], .agg #[.int .i64 a1_0, .int .i64 a1_1, .int .i64 a1_2], .int .u8 a2] w fun e w' => e = .returned (.bool r) ∧ Below w.heap.size w w' := by
 have hu26 := Tryz.underlying26
 have hu23 := Tryz.underlying23
 have HG := mk0 hG
 clear hG
 have HR0_6 := mk0 hr0_6
 have HC0_6 := mk0 hc0_6
 clear hr0_6 hc0_6
 have HB := mk0 (Below.refl w.heap.size w)
 have H : ((metrolablaw30_own.f k a0_0 a0_1 a0_2 a0_3 a0_4 a0_5 l0_6).bind fun bt899 => ((metrolabref30_Few.f bt899.1 bt899.2.1 bt899.2.2.1 bt899.2.2.2.1 bt899.2.2.2.2.1 bt899.2.2.2.2.2.1 bt899.2.2.2.2.2.2).bind fun t908 => (if t908 = true then ((metrolablaw30_own.f k a0_0 a0_1 a0_2 a0_3 a0_4 a0_5 l0_6).bind fun bt909 => ((metrolabref30_Check.f k bt909.1 bt909.2.1 bt909.2.2.1 bt909.2.2.2.1 bt909.2.2.2.2.1 bt909.2.2.2.2.2.1 bt909.2.2.2.2.2.2).bind fun t918 => (if t918 = 0 then ((metrolabref30_Near.f a1_0 a1_1 a1_2 a1_0 a1_1 a1_2).bind fun t919 => (if t919 = true then ((metrolabref30_Near.f a0_0 a0_1 a0_2 a0_3 a0_4 a0_5).bind fun t920 => (metrolablaw30_ProbeMeets.j0 k a2 (!t920) a0_0 a0_1 a0_2 a0_3 a0_4 a0_5 l0_6 a1_0 a1_1 a1_2)) else (metrolablaw30_ProbeMeets.j0 k a2 true a0_0 a0_1 a0_2 a0_3 a0_4 a0_5 l0_6 a1_0 a1_1 a1_2))) else (metrolablaw30_ProbeMeets.j0 k a2 true a0_0 a0_1 a0_2 a0_3 a0_4 a0_5 l0_6 a1_0 a1_1 a1_2)))) else (metrolablaw30_ProbeMeets.j0 k a2 true a0_0 a0_1 a0_2 a0_3 a0_4 a0_5 l0_6 a1_0 a1_1 a1_2)))) = some r := h
 clear h
 have HC4 := mk0 H
 clear H
 go_enter Tryz.func10, Tryz.ntmps10
 go_upto_region 1 with (first | ((with_reducible refine gate_dst (N := 3) rfl ?_); refine box_event ?hg (N := 3) ?hd (cs := #[.int .i64 a0_0, .int .i64 a0_1, .int .i64 a0_2, .int .i64 a0_3, .int .i64 a0_4, .int .i64 a0_5, .slice A0_6 l0_6.length c0_6]) (t := 26) ?hr ?_; (case hd => rfl); (case hg => rfl); (case hr => first | (go_simp; done) | (go_simp; rfl)); intro gb897 hg w5 hbox hb; have n0_ := mk0 (below_step (wT HB.out) hb); have n1_ := mk0 (hbox); have n2_ := mk0 ((szT HB.out hg)); have n3_ := mk0 ((szT HB.out hg)); clear HB; have HB := n0_; have BK897 := n1_; have GW897 := n2_; have GE897 := n3_; clear n0_ n1_ n2_ n3_; clear hb hbox hg) | ((with_reducible refine gate_dst (N := 4) rfl ?_); refine box_event ?hg (N := 4) ?hd (cs := #[.int .i64 a1_0, .int .i64 a1_1, .int .i64 a1_2]) (t := 23) ?hr ?_; (case hd => rfl); (case hg => rfl); (case hr => first | (go_simp; done) | (go_simp; rfl)); intro gb898 hg w6 hbox hb; have n0_ := mk0 (bbT BK897.out hb); have n1_ := mk0 (below_step (wT HB.out) hb); have n2_ := mk0 (hbox); have n3_ := mk0 ((szT HB.out hg)); have n4_ := mk0 ((szT HB.out hg)); have n5_ := mk0 ((neL BK897.out hg)); have n6_ := mk0 ((neG BK897.out hg)); clear BK897; clear HB; have BK897 := n0_; have HB := n1_; have BK898 := n2_; have GW898 := n3_; have GE898 := n4_; have NB897_898 := n5_; have NB898_897 := n6_; clear n0_ n1_ n2_ n3_ n4_ n5_ n6_; clear hb hbox hg))
 (try simp only [Act.put, List.setIfInBounds_toArray, List.set_cons_zero, List.set_cons_succ])
 go_cut [37] (fun v37 wc => ∃ (kq : Nat) (x37_3 : Bool), v37 = .bool x37_3 ∧ Aside0 (metrolablaw30_ProbeMeets.j0 kq a2 x37_3 a0_0 a0_1 a0_2 a0_3 a0_4 a0_5 l0_6 a1_0 a1_1 a1_2 = some r) ∧ Aside0 (kq ≤ k) ∧ Aside0 (wc.heap[gb897]? = some (.cells #[.int .i64 a0_0, .int .i64 a0_1, .int .i64 a0_2, .int .i64 a0_3, .int .i64 a0_4, .int .i64 a0_5, (.slice A0_6 l0_6.length c0_6)] 26 (0, 0))) ∧ Aside0 (wc.heap[gb898]? = some (.cells #[.int .i64 a1_0, .int .i64 a1_1, .int .i64 a1_2] 23 (0, 0))) ∧ Aside0 (Below w.heap.size w wc))
 case first =>
  have H := HC4.out
  clear HC4
  replace H := Option.bind_eq_some_iff.mp H
  obtain ⟨⟨t899, t900, t901, t902, t903, t904, t905⟩, A70, H⟩ := H
  replace H : ((metrolabref30_Few.f t899 t900 t901 t902 t903 t904 t905).bind fun t908 => (if t908 = true then ((metrolablaw30_own.f k a0_0 a0_1 a0_2 a0_3 a0_4 a0_5 l0_6).bind fun bt909 => ((metrolabref30_Check.f k bt909.1 bt909.2.1 bt909.2.2.1 bt909.2.2.2.1 bt909.2.2.2.2.1 bt909.2.2.2.2.2.1 bt909.2.2.2.2.2.2).bind fun t918 => (if t918 = 0 then ((metrolabref30_Near.f a1_0 a1_1 a1_2 a1_0 a1_1 a1_2).bind fun t919 => (if t919 = true then ((metrolabref30_Near.f a0_0 a0_1 a0_2 a0_3 a0_4 a0_5).bind fun t920 => (metrolablaw30_ProbeMeets.j0 k a2 (!t920) a0_0 a0_1 a0_2 a0_3 a0_4 a0_5 l0_6 a1_0 a1_1 a1_2)) else (metrolablaw30_ProbeMeets.j0 k a2 true a0_0 a0_1 a0_2 a0_3 a0_4 a0_5 l0_6 a1_0 a1_1 a1_2))) else (metrolablaw30_ProbeMeets.j0 k a2 true a0_0 a0_1 a0_2 a0_3 a0_4 a0_5 l0_6 a1_0 a1_1 a1_2)))) else (metrolablaw30_ProbeMeets.j0 k a2 true a0_0 a0_1 a0_2 a0_3 a0_4 a0_5 l0_6 a1_0 a1_1 a1_2))) = some r := H
  have A7 := mk0 A70
  clear A70
  replace H := Option.bind_eq_some_iff.mp H
  obtain ⟨t908, A80, H⟩ := H
  replace H : (if t908 = true then ((metrolablaw30_own.f k a0_0 a0_1 a0_2 a0_3 a0_4 a0_5 l0_6).bind fun bt909 => ((metrolabref30_Check.f k bt909.1 bt909.2.1 bt909.2.2.1 bt909.2.2.2.1 bt909.2.2.2.2.1 bt909.2.2.2.2.2.1 bt909.2.2.2.2.2.2).bind fun t918 => (if t918 = 0 then ((metrolabref30_Near.f a1_0 a1_1 a1_2 a1_0 a1_1 a1_2).bind fun t919 => (if t919 = true then ((metrolabref30_Near.f a0_0 a0_1 a0_2 a0_3 a0_4 a0_5).bind fun t920 => (metrolablaw30_ProbeMeets.j0 k a2 (!t920) a0_0 a0_1 a0_2 a0_3 a0_4 a0_5 l0_6 a1_0 a1_1 a1_2)) else (metrolablaw30_ProbeMeets.j0 k a2 true a0_0 a0_1 a0_2 a0_3 a0_4 a0_5 l0_6 a1_0 a1_1 a1_2))) else (metrolablaw30_ProbeMeets.j0 k a2 true a0_0 a0_1 a0_2 a0_3 a0_4 a0_5 l0_6 a1_0 a1_1 a1_2)))) else (metrolablaw30_ProbeMeets.j0 k a2 true a0_0 a0_1 a0_2 a0_3 a0_4 a0_5 l0_6 a1_0 a1_1 a1_2)) = some r := H
  have A8 := mk0 A80
  clear A80
  by_cases c9 : t908 = true
  ·subst c9
   have H1 : ((metrolablaw30_own.f k a0_0 a0_1 a0_2 a0_3 a0_4 a0_5 l0_6).bind fun bt909 => ((metrolabref30_Check.f k bt909.1 bt909.2.1 bt909.2.2.1 bt909.2.2.2.1 bt909.2.2.2.2.1 bt909.2.2.2.2.2.1 bt909.2.2.2.2.2.2).bind fun t918 => (if t918 = 0 then ((metrolabref30_Near.f a1_0 a1_1 a1_2 a1_0 a1_1 a1_2).bind fun t919 => (if t919 = true then ((metrolabref30_Near.f a0_0 a0_1 a0_2 a0_3 a0_4 a0_5).bind fun t920 => (metrolablaw30_ProbeMeets.j0 k a2 (!t920) a0_0 a0_1 a0_2 a0_3 a0_4 a0_5 l0_6 a1_0 a1_1 a1_2)) else (metrolablaw30_ProbeMeets.j0 k a2 true a0_0 a0_1 a0_2 a0_3 a0_4 a0_5 l0_6 a1_0 a1_1 a1_2))) else (metrolablaw30_ProbeMeets.j0 k a2 true a0_0 a0_1 a0_2 a0_3 a0_4 a0_5 l0_6 a1_0 a1_1 a1_2)))) = some r := by rw [if_pos rfl] at H; exact H
   clear H
   have H := H1
   clear H1
   replace H := Option.bind_eq_some_iff.mp H
   obtain ⟨⟨t909, t910, t911, t912, t913, t914, t915⟩, A100, H⟩ := H
   replace H : ((metrolabref30_Check.f k t909 t910 t911 t912 t913 t914 t915).bind fun t918 => (if t918 = 0 then ((metrolabref30_Near.f a1_0 a1_1 a1_2 a1_0 a1_1 a1_2).bind fun t919 => (if t919 = true then ((metrolabref30_Near.f a0_0 a0_1 a0_2 a0_3 a0_4 a0_5).bind fun t920 => (metrolablaw30_ProbeMeets.j0 k a2 (!t920) a0_0 a0_1 a0_2 a0_3 a0_4 a0_5 l0_6 a1_0 a1_1 a1_2)) else (metrolablaw30_ProbeMeets.j0 k a2 true a0_0 a0_1 a0_2 a0_3 a0_4 a0_5 l0_6 a1_0 a1_1 a1_2))) else (metrolablaw30_ProbeMeets.j0 k a2 true a0_0 a0_1 a0_2 a0_3 a0_4 a0_5 l0_6 a1_0 a1_1 a1_2))) = some r := H
   have A10 := mk0 A100
   clear A100
   replace H := Option.bind_eq_some_iff.mp H
   obtain ⟨t918, A110, H⟩ := H
   replace H : (if t918 = 0 then ((metrolabref30_Near.f a1_0 a1_1 a1_2 a1_0 a1_1 a1_2).bind fun t919 => (if t919 = true then ((metrolabref30_Near.f a0_0 a0_1 a0_2 a0_3 a0_4 a0_5).bind fun t920 => (metrolablaw30_ProbeMeets.j0 k a2 (!t920) a0_0 a0_1 a0_2 a0_3 a0_4 a0_5 l0_6 a1_0 a1_1 a1_2)) else (metrolablaw30_ProbeMeets.j0 k a2 true a0_0 a0_1 a0_2 a0_3 a0_4 a0_5 l0_6 a1_0 a1_1 a1_2))) else (metrolablaw30_ProbeMeets.j0 k a2 true a0_0 a0_1 a0_2 a0_3 a0_4 a0_5 l0_6 a1_0 a1_1 a1_2)) = some r := H
   have A11 := mk0 A110
   clear A110
   by_cases c12 : t918 = 0
   ·rw [if_pos c12] at H
    have c12b0 : (t918 == 0) = true := beq_iff_eq.mpr c12
    have c12b1 : (t918 != 0) = false := bne_eq_false_iff_eq.mpr c12
    clear c12
    (first | rw [c12b0] | (simp only [i64_w, i32_w]; rw [c12b0]) | skip)
    replace H := Option.bind_eq_some_iff.mp H
    obtain ⟨t919, A130, H⟩ := H
    replace H : (if t919 = true then ((metrolabref30_Near.f a0_0 a0_1 a0_2 a0_3 a0_4 a0_5).bind fun t920 => (metrolablaw30_ProbeMeets.j0 k a2 (!t920) a0_0 a0_1 a0_2 a0_3 a0_4 a0_5 l0_6 a1_0 a1_1 a1_2)) else (metrolablaw30_ProbeMeets.j0 k a2 true a0_0 a0_1 a0_2 a0_3 a0_4 a0_5 l0_6 a1_0 a1_1 a1_2)) = some r := H
    have A13 := mk0 A130
    clear A130
    by_cases c14 : t919 = true
    ·subst c14
     have H1 : ((metrolabref30_Near.f a0_0 a0_1 a0_2 a0_3 a0_4 a0_5).bind fun t920 => (metrolablaw30_ProbeMeets.j0 k a2 (!t920) a0_0 a0_1 a0_2 a0_3 a0_4 a0_5 l0_6 a1_0 a1_1 a1_2)) = some r := by rw [if_pos rfl] at H; exact H
     clear H
     have H := H1
     clear H1
     replace H := Option.bind_eq_some_iff.mp H
     obtain ⟨t920, A150, H⟩ := H
     replace H : (metrolablaw30_ProbeMeets.j0 k a2 (!t920) a0_0 a0_1 a0_2 a0_3 a0_4 a0_5 l0_6 a1_0 a1_1 a1_2) = some r := H
     have A15 := mk0 A150
     clear A150
     have H' := mk0 H
     clear H
     have hnb16 := NB897_898.out
     have hnc16 := NB898_897.out
     have X17_0 := ct BK897.out 0
     have X17_1 := ct BK897.out 1
     have X17_2 := ct BK897.out 2
     have X17_3 := ct BK897.out 3
     have X17_4 := ct BK897.out 4
     have X17_5 := ct BK897.out 5
     have X17_6 := ct BK897.out 6
     have Y17_0 := blk_frozen BK897.out 0
     have Y17_1 := blk_frozen BK897.out 1
     have Y17_2 := blk_frozen BK897.out 2
     have Y17_3 := blk_frozen BK897.out 3
     have Y17_4 := blk_frozen BK897.out 4
     have Y17_5 := blk_frozen BK897.out 5
     have Y17_6 := blk_frozen BK897.out 6
     go_wp2_with (first | ((with_reducible refine gate_callee (f := 13) rfl ?_); refine goesL_ (some 15) rfl rfl Tryz.func13 (by kernel_rfl) rfl #[.agg #[.int .i64 a0_0, .int .i64 a0_1, .int .i64 a0_2, .int .i64 a0_3, .int .i64 a0_4, .int .i64 a0_5, .slice A0_6 l0_6.length c0_6]] rfl (by (try simp only [List.map_toArray, List.map_cons, List.map_nil]); first | done | rfl | (simp only [List.length_drop, List.length_take]; rfl)) ?_; (with_reducible refine (metrolablaw30_own.calls k a0_0 a0_1 a0_2 a0_3 a0_4 a0_5 _ _ l0_6 t899 t900 t901 t902 t903 t904 t905 _ ?side1 ?side2 A7.out).mono ?_); (case side1 => repeat (first | exact (Kd.C_below HR0_6.out HB.out) | (with_reducible refine Kd.C_alloc ?_ _) | (with_reducible refine Kd.C_drewN ?_ _) | (with_reducible refine Kd.C_drew ?_))); (case side2 => exact HC0_6.out); rintro e w18 ⟨v906, rfl, ho0, hb⟩; refine ⟨_, rfl, ?_⟩; have n0_ := mk0 (Kd.R_lower ho0 (below_size (wT HB.out))); have n1_ := mk0 (bbT BK897.out hb); have n2_ := mk0 (bbT BK898.out hb); have n3_ := mk0 (below_step (wT HB.out) hb); clear BK897; clear BK898; clear HB; have HO907 := n0_; have BK897 := n1_; have BK898 := n2_; have HB := n3_; clear n0_ n1_ n2_ n3_; (try clear hb); (try clear hb2); (try clear hk); (try clear hi); (try clear ho0); obtain ⟨Ao19, co19, eo19⟩ := Kd.R_slice HO907.out; subst eo19) | ((with_reducible refine gate_callee (f := 12) rfl ?_); refine goesL_ (some 16) rfl rfl Tryz.func12 (by kernel_rfl) rfl #[.agg #[.int .i64 t899, .int .i64 t900, .int .i64 t901, .int .i64 t902, .int .i64 t903, .int .i64 t904, .slice Ao19 t905.length co19]] rfl (by (try simp only [List.map_toArray, List.map_cons, List.map_nil]); first | done | rfl | (simp only [List.length_drop, List.length_take]; rfl)) ?_; (with_reducible refine (metrolabref30_Few.calls t899 t900 t901 t902 t903 t904 _ _ t905 true _ ?side1 ?side2 A8.out).mono ?_); (case side1 => repeat (first | exact (Kd.R_reads' HO907.out).2.2 | (with_reducible refine Kd.C_alloc ?_ _) | (with_reducible refine Kd.C_drewN ?_ _) | (with_reducible refine Kd.C_drew ?_))); (case side2 => exact (Kd.R_reads' HO907.out).2.1); rintro e w20 ⟨rfl, hb⟩; refine ⟨_, rfl, ?_⟩; have n0_ := mk0 (Kd.R_below (rT HO907.out) hb); have n1_ := mk0 (bbT BK897.out hb); have n2_ := mk0 (bbT BK898.out hb); have n3_ := mk0 (below_step (wT HB.out) hb); clear HO907; clear BK897; clear BK898; clear HB; have HO907 := n0_; have BK897 := n1_; have BK898 := n2_; have HB := n3_; clear n0_ n1_ n2_ n3_; (try clear hb); (try clear hb2); (try clear hk); (try clear hi); have X21_0 := ct BK897.out 0; have X21_1 := ct BK897.out 1; have X21_2 := ct BK897.out 2; have X21_3 := ct BK897.out 3; have X21_4 := ct BK897.out 4; have X21_5 := ct BK897.out 5; have X21_6 := ct BK897.out 6; have Y21_0 := blk_frozen BK897.out 0; have Y21_1 := blk_frozen BK897.out 1; have Y21_2 := blk_frozen BK897.out 2; have Y21_3 := blk_frozen BK897.out 3; have Y21_4 := blk_frozen BK897.out 4; have Y21_5 := blk_frozen BK897.out 5; have Y21_6 := blk_frozen BK897.out 6) | (go_at_call 13; (with_reducible refine (metrolablaw30_own.calls k a0_0 a0_1 a0_2 a0_3 a0_4 a0_5 _ _ l0_6 t909 t910 t911 t912 t913 t914 t915 _ ?side1 ?side2 A10.out).mono ?_); (case side1 => repeat (first | exact (Kd.C_below HR0_6.out HB.out) | (with_reducible refine Kd.C_alloc ?_ _) | (with_reducible refine Kd.C_drewN ?_ _) | (with_reducible refine Kd.C_drew ?_))); (case side2 => exact HC0_6.out); rintro e w22 ⟨v916, rfl, ho0, hb⟩; have n0_ := mk0 (Kd.R_elder' (rT HO907.out) (Kd.R_base ho0) hb); have n1_ := mk0 (Kd.R_lower (Kd.R_new' ho0 (Kd.R_lt (rT HO907.out))) (below_size (wT HB.out))); have n2_ := mk0 (bbT BK897.out hb); have n3_ := mk0 (bbT BK898.out hb); have n4_ := mk0 (below_step (wT HB.out) hb); clear HO907; clear BK897; clear BK898; clear HB; have HO907 := n0_; have HO917 := n1_; have BK897 := n2_; have BK898 := n3_; have HB := n4_; clear n0_ n1_ n2_ n3_ n4_; (try clear hb); (try clear hb2); (try clear hk); (try clear hi); (try clear ho0); obtain ⟨Ao23, co23, eo23⟩ := Kd.R_slice HO917.out; subst eo23) | (go_at_call 18; (with_reducible refine (metrolabref30_Check.calls k t909 t910 t911 t912 t913 t914 _ _ t915 t918 _ ?side1 ?side2 A11.out).mono ?_); (case side1 => repeat (first | exact (Kd.R_reads' HO917.out).2.2 | (with_reducible refine Kd.C_alloc ?_ _) | (with_reducible refine Kd.C_drewN ?_ _) | (with_reducible refine Kd.C_drew ?_))); (case side2 => exact (Kd.R_reads' HO917.out).2.1); rintro e w24 ⟨rfl, hb⟩; have n0_ := mk0 (Kd.R_below (rT HO907.out) hb); have n1_ := mk0 (Kd.R_below (rT HO917.out) hb); have n2_ := mk0 (bbT BK897.out hb); have n3_ := mk0 (bbT BK898.out hb); have n4_ := mk0 (below_step (wT HB.out) hb); clear HO907; clear HO917; clear BK897; clear BK898; clear HB; have HO907 := n0_; have HO917 := n1_; have BK897 := n2_; have BK898 := n3_; have HB := n4_; clear n0_ n1_ n2_ n3_ n4_; (try clear hb); (try clear hb2); (try clear hk); (try clear hi); have X25_0 := ct BK898.out 0; have X25_1 := ct BK898.out 1; have X25_2 := ct BK898.out 2; have Y25_0 := blk_frozen BK898.out 0; have Y25_1 := blk_frozen BK898.out 1; have Y25_2 := blk_frozen BK898.out 2) | (go_at_call 27; (with_reducible refine (metrolabref30_Near.calls a1_0 a1_1 a1_2 a1_0 a1_1 a1_2 true _ A13.out).mono ?_); rintro e w26 ⟨rfl, hb⟩; have n0_ := mk0 (Kd.R_below (rT HO907.out) hb); have n1_ := mk0 (Kd.R_below (rT HO917.out) hb); have n2_ := mk0 (bbT BK897.out hb); have n3_ := mk0 (bbT BK898.out hb); have n4_ := mk0 (below_step (wT HB.out) hb); clear HO907; clear HO917; clear BK897; clear BK898; clear HB; have HO907 := n0_; have HO917 := n1_; have BK897 := n2_; have BK898 := n3_; have HB := n4_; clear n0_ n1_ n2_ n3_ n4_; (try clear hb); (try clear hb2); (try clear hk); (try clear hi); have X27_0 := ct BK897.out 0; have X27_1 := ct BK897.out 1; have X27_2 := ct BK897.out 2; have X27_3 := ct BK897.out 3; have X27_4 := ct BK897.out 4; have X27_5 := ct BK897.out 5; have X27_6 := ct BK897.out 6; have Y27_0 := blk_frozen BK897.out 0; have Y27_1 := blk_frozen BK897.out 1; have Y27_2 := blk_frozen BK897.out 2; have Y27_3 := blk_frozen BK897.out 3; have Y27_4 := blk_frozen BK897.out 4; have Y27_5 := blk_frozen BK897.out 5; have Y27_6 := blk_frozen BK897.out 6) | (go_at_call 27; (with_reducible refine (metrolabref30_Near.calls a0_0 a0_1 a0_2 a0_3 a0_4 a0_5 t920 _ A15.out).mono ?_); rintro e w28 ⟨rfl, hb⟩; have n0_ := mk0 (Kd.R_below (rT HO907.out) hb); have n1_ := mk0 (Kd.R_below (rT HO917.out) hb); have n2_ := mk0 (bbT BK897.out hb); have n3_ := mk0 (bbT BK898.out hb); have n4_ := mk0 (below_step (wT HB.out) hb); clear HO907; clear HO917; clear BK897; clear BK898; clear HB; have HO907 := n0_; have HO917 := n1_; have BK897 := n2_; have BK898 := n3_; have HB := n4_; clear n0_ n1_ n2_ n3_ n4_; (try clear hb); (try clear hb2); (try clear hk); (try clear hi)))
     go_meet
     case rel => exact ⟨_, (!t920), (by first | rfl | (simp; done) | (simp [*]; done) | exact congrArg (Value.int .i64) (by unfold wrap64; omega)), H', ⟨by first | omega | exact Nat.le_refl _⟩, ⟨bT BK897.out⟩, ⟨bT BK898.out⟩, ⟨wT HB.out⟩⟩
    ·replace c14 := Bool.eq_false_iff.mpr c14
     subst c14
     have H1 : (metrolablaw30_ProbeMeets.j0 k a2 true a0_0 a0_1 a0_2 a0_3 a0_4 a0_5 l0_6 a1_0 a1_1 a1_2) = some r := by rw [if_neg (show ¬ (false = true) by decide)] at H; exact H
     clear H
     have H := H1
     clear H1
     have H' := mk0 H
     clear H
     have hnb29 := NB897_898.out
     have hnc29 := NB898_897.out
     have X30_0 := ct BK897.out 0
     have X30_1 := ct BK897.out 1
     have X30_2 := ct BK897.out 2
     have X30_3 := ct BK897.out 3
     have X30_4 := ct BK897.out 4
     have X30_5 := ct BK897.out 5
     have X30_6 := ct BK897.out 6
     have Y30_0 := blk_frozen BK897.out 0
     have Y30_1 := blk_frozen BK897.out 1
     have Y30_2 := blk_frozen BK897.out 2
     have Y30_3 := blk_frozen BK897.out 3
     have Y30_4 := blk_frozen BK897.out 4
     have Y30_5 := blk_frozen BK897.out 5
     have Y30_6 := blk_frozen BK897.out 6
     go_wp2_with (first | ((with_reducible refine gate_callee (f := 13) rfl ?_); refine goesL_ (some 15) rfl rfl Tryz.func13 (by kernel_rfl) rfl #[.agg #[.int .i64 a0_0, .int .i64 a0_1, .int .i64 a0_2, .int .i64 a0_3, .int .i64 a0_4, .int .i64 a0_5, .slice A0_6 l0_6.length c0_6]] rfl (by (try simp only [List.map_toArray, List.map_cons, List.map_nil]); first | done | rfl | (simp only [List.length_drop, List.length_take]; rfl)) ?_; (with_reducible refine (metrolablaw30_own.calls k a0_0 a0_1 a0_2 a0_3 a0_4 a0_5 _ _ l0_6 t899 t900 t901 t902 t903 t904 t905 _ ?side1 ?side2 A7.out).mono ?_); (case side1 => repeat (first | exact (Kd.C_below HR0_6.out HB.out) | (with_reducible refine Kd.C_alloc ?_ _) | (with_reducible refine Kd.C_drewN ?_ _) | (with_reducible refine Kd.C_drew ?_))); (case side2 => exact HC0_6.out); rintro e w31 ⟨v906, rfl, ho0, hb⟩; refine ⟨_, rfl, ?_⟩; have n0_ := mk0 (Kd.R_lower ho0 (below_size (wT HB.out))); have n1_ := mk0 (bbT BK897.out hb); have n2_ := mk0 (bbT BK898.out hb); have n3_ := mk0 (below_step (wT HB.out) hb); clear BK897; clear BK898; clear HB; have HO907 := n0_; have BK897 := n1_; have BK898 := n2_; have HB := n3_; clear n0_ n1_ n2_ n3_; (try clear hb); (try clear hb2); (try clear hk); (try clear hi); (try clear ho0); obtain ⟨Ao32, co32, eo32⟩ := Kd.R_slice HO907.out; subst eo32) | ((with_reducible refine gate_callee (f := 12) rfl ?_); refine goesL_ (some 16) rfl rfl Tryz.func12 (by kernel_rfl) rfl #[.agg #[.int .i64 t899, .int .i64 t900, .int .i64 t901, .int .i64 t902, .int .i64 t903, .int .i64 t904, .slice Ao32 t905.length co32]] rfl (by (try simp only [List.map_toArray, List.map_cons, List.map_nil]); first | done | rfl | (simp only [List.length_drop, List.length_take]; rfl)) ?_; (with_reducible refine (metrolabref30_Few.calls t899 t900 t901 t902 t903 t904 _ _ t905 true _ ?side1 ?side2 A8.out).mono ?_); (case side1 => repeat (first | exact (Kd.R_reads' HO907.out).2.2 | (with_reducible refine Kd.C_alloc ?_ _) | (with_reducible refine Kd.C_drewN ?_ _) | (with_reducible refine Kd.C_drew ?_))); (case side2 => exact (Kd.R_reads' HO907.out).2.1); rintro e w33 ⟨rfl, hb⟩; refine ⟨_, rfl, ?_⟩; have n0_ := mk0 (Kd.R_below (rT HO907.out) hb); have n1_ := mk0 (bbT BK897.out hb); have n2_ := mk0 (bbT BK898.out hb); have n3_ := mk0 (below_step (wT HB.out) hb); clear HO907; clear BK897; clear BK898; clear HB; have HO907 := n0_; have BK897 := n1_; have BK898 := n2_; have HB := n3_; clear n0_ n1_ n2_ n3_; (try clear hb); (try clear hb2); (try clear hk); (try clear hi); have X34_0 := ct BK897.out 0; have X34_1 := ct BK897.out 1; have X34_2 := ct BK897.out 2; have X34_3 := ct BK897.out 3; have X34_4 := ct BK897.out 4; have X34_5 := ct BK897.out 5; have X34_6 := ct BK897.out 6; have Y34_0 := blk_frozen BK897.out 0; have Y34_1 := blk_frozen BK897.out 1; have Y34_2 := blk_frozen BK897.out 2; have Y34_3 := blk_frozen BK897.out 3; have Y34_4 := blk_frozen BK897.out 4; have Y34_5 := blk_frozen BK897.out 5; have Y34_6 := blk_frozen BK897.out 6) | (go_at_call 13; (with_reducible refine (metrolablaw30_own.calls k a0_0 a0_1 a0_2 a0_3 a0_4 a0_5 _ _ l0_6 t909 t910 t911 t912 t913 t914 t915 _ ?side1 ?side2 A10.out).mono ?_); (case side1 => repeat (first | exact (Kd.C_below HR0_6.out HB.out) | (with_reducible refine Kd.C_alloc ?_ _) | (with_reducible refine Kd.C_drewN ?_ _) | (with_reducible refine Kd.C_drew ?_))); (case side2 => exact HC0_6.out); rintro e w35 ⟨v916, rfl, ho0, hb⟩; have n0_ := mk0 (Kd.R_elder' (rT HO907.out) (Kd.R_base ho0) hb); have n1_ := mk0 (Kd.R_lower (Kd.R_new' ho0 (Kd.R_lt (rT HO907.out))) (below_size (wT HB.out))); have n2_ := mk0 (bbT BK897.out hb); have n3_ := mk0 (bbT BK898.out hb); have n4_ := mk0 (below_step (wT HB.out) hb); clear HO907; clear BK897; clear BK898; clear HB; have HO907 := n0_; have HO917 := n1_; have BK897 := n2_; have BK898 := n3_; have HB := n4_; clear n0_ n1_ n2_ n3_ n4_; (try clear hb); (try clear hb2); (try clear hk); (try clear hi); (try clear ho0); obtain ⟨Ao36, co36, eo36⟩ := Kd.R_slice HO917.out; subst eo36) | (go_at_call 18; (with_reducible refine (metrolabref30_Check.calls k t909 t910 t911 t912 t913 t914 _ _ t915 t918 _ ?side1 ?side2 A11.out).mono ?_); (case side1 => repeat (first | exact (Kd.R_reads' HO917.out).2.2 | (with_reducible refine Kd.C_alloc ?_ _) | (with_reducible refine Kd.C_drewN ?_ _) | (with_reducible refine Kd.C_drew ?_))); (case side2 => exact (Kd.R_reads' HO917.out).2.1); rintro e w37 ⟨rfl, hb⟩; have n0_ := mk0 (Kd.R_below (rT HO907.out) hb); have n1_ := mk0 (Kd.R_below (rT HO917.out) hb); have n2_ := mk0 (bbT BK897.out hb); have n3_ := mk0 (bbT BK898.out hb); have n4_ := mk0 (below_step (wT HB.out) hb); clear HO907; clear HO917; clear BK897; clear BK898; clear HB; have HO907 := n0_; have HO917 := n1_; have BK897 := n2_; have BK898 := n3_; have HB := n4_; clear n0_ n1_ n2_ n3_ n4_; (try clear hb); (try clear hb2); (try clear hk); (try clear hi); have X38_0 := ct BK898.out 0; have X38_1 := ct BK898.out 1; have X38_2 := ct BK898.out 2; have Y38_0 := blk_frozen BK898.out 0; have Y38_1 := blk_frozen BK898.out 1; have Y38_2 := blk_frozen BK898.out 2) | (go_at_call 27; (with_reducible refine (metrolabref30_Near.calls a1_0 a1_1 a1_2 a1_0 a1_1 a1_2 false _ A13.out).mono ?_); rintro e w39 ⟨rfl, hb⟩; have n0_ := mk0 (Kd.R_below (rT HO907.out) hb); have n1_ := mk0 (Kd.R_below (rT HO917.out) hb); have n2_ := mk0 (bbT BK897.out hb); have n3_ := mk0 (bbT BK898.out hb); have n4_ := mk0 (below_step (wT HB.out) hb); clear HO907; clear HO917; clear BK897; clear BK898; clear HB; have HO907 := n0_; have HO917 := n1_; have BK897 := n2_; have BK898 := n3_; have HB := n4_; clear n0_ n1_ n2_ n3_ n4_; (try clear hb); (try clear hb2); (try clear hk); (try clear hi)))
     go_meet
     case rel => exact ⟨_, (true), (by first | rfl | (simp; done) | (simp [*]; done) | exact congrArg (Value.int .i64) (by unfold wrap64; omega)), H', ⟨by first | omega | exact Nat.le_refl _⟩, ⟨bT BK897.out⟩, ⟨bT BK898.out⟩, ⟨wT HB.out⟩⟩
   ·rw [if_neg c12] at H
    have c12b0 : (t918 == 0) = false := beq_eq_false_iff_ne.mpr c12
    have c12b1 : (t918 != 0) = true := bne_iff_ne.mpr c12
    (first | rw [c12b0] | (simp only [i64_w, i32_w]; rw [c12b0]) | skip)
    have H' := mk0 H
    clear H
    have hnb40 := NB897_898.out
    have hnc40 := NB898_897.out
    have X41_0 := ct BK897.out 0
    have X41_1 := ct BK897.out 1
    have X41_2 := ct BK897.out 2
    have X41_3 := ct BK897.out 3
    have X41_4 := ct BK897.out 4
    have X41_5 := ct BK897.out 5
    have X41_6 := ct BK897.out 6
    have Y41_0 := blk_frozen BK897.out 0
    have Y41_1 := blk_frozen BK897.out 1
    have Y41_2 := blk_frozen BK897.out 2
    have Y41_3 := blk_frozen BK897.out 3
    have Y41_4 := blk_frozen BK897.out 4
    have Y41_5 := blk_frozen BK897.out 5
    have Y41_6 := blk_frozen BK897.out 6
    go_wp2_with (first | ((with_reducible refine gate_callee (f := 13) rfl ?_); refine goesL_ (some 15) rfl rfl Tryz.func13 (by kernel_rfl) rfl #[.agg #[.int .i64 a0_0, .int .i64 a0_1, .int .i64 a0_2, .int .i64 a0_3, .int .i64 a0_4, .int .i64 a0_5, .slice A0_6 l0_6.length c0_6]] rfl (by (try simp only [List.map_toArray, List.map_cons, List.map_nil]); first | done | rfl | (simp only [List.length_drop, List.length_take]; rfl)) ?_; (with_reducible refine (metrolablaw30_own.calls k a0_0 a0_1 a0_2 a0_3 a0_4 a0_5 _ _ l0_6 t899 t900 t901 t902 t903 t904 t905 _ ?side1 ?side2 A7.out).mono ?_); (case side1 => repeat (first | exact (Kd.C_below HR0_6.out HB.out) | (with_reducible refine Kd.C_alloc ?_ _) | (with_reducible refine Kd.C_drewN ?_ _) | (with_reducible refine Kd.C_drew ?_))); (case side2 => exact HC0_6.out); rintro e w42 ⟨v906, rfl, ho0, hb⟩; refine ⟨_, rfl, ?_⟩; have n0_ := mk0 (Kd.R_lower ho0 (below_size (wT HB.out))); have n1_ := mk0 (bbT BK897.out hb); have n2_ := mk0 (bbT BK898.out hb); have n3_ := mk0 (below_step (wT HB.out) hb); clear BK897; clear BK898; clear HB; have HO907 := n0_; have BK897 := n1_; have BK898 := n2_; have HB := n3_; clear n0_ n1_ n2_ n3_; (try clear hb); (try clear hb2); (try clear hk); (try clear hi); (try clear ho0); obtain ⟨Ao43, co43, eo43⟩ := Kd.R_slice HO907.out; subst eo43) | ((with_reducible refine gate_callee (f := 12) rfl ?_); refine goesL_ (some 16) rfl rfl Tryz.func12 (by kernel_rfl) rfl #[.agg #[.int .i64 t899, .int .i64 t900, .int .i64 t901, .int .i64 t902, .int .i64 t903, .int .i64 t904, .slice Ao43 t905.length co43]] rfl (by (try simp only [List.map_toArray, List.map_cons, List.map_nil]); first | done | rfl | (simp only [List.length_drop, List.length_take]; rfl)) ?_; (with_reducible refine (metrolabref30_Few.calls t899 t900 t901 t902 t903 t904 _ _ t905 true _ ?side1 ?side2 A8.out).mono ?_); (case side1 => repeat (first | exact (Kd.R_reads' HO907.out).2.2 | (with_reducible refine Kd.C_alloc ?_ _) | (with_reducible refine Kd.C_drewN ?_ _) | (with_reducible refine Kd.C_drew ?_))); (case side2 => exact (Kd.R_reads' HO907.out).2.1); rintro e w44 ⟨rfl, hb⟩; refine ⟨_, rfl, ?_⟩; have n0_ := mk0 (Kd.R_below (rT HO907.out) hb); have n1_ := mk0 (bbT BK897.out hb); have n2_ := mk0 (bbT BK898.out hb); have n3_ := mk0 (below_step (wT HB.out) hb); clear HO907; clear BK897; clear BK898; clear HB; have HO907 := n0_; have BK897 := n1_; have BK898 := n2_; have HB := n3_; clear n0_ n1_ n2_ n3_; (try clear hb); (try clear hb2); (try clear hk); (try clear hi); have X45_0 := ct BK897.out 0; have X45_1 := ct BK897.out 1; have X45_2 := ct BK897.out 2; have X45_3 := ct BK897.out 3; have X45_4 := ct BK897.out 4; have X45_5 := ct BK897.out 5; have X45_6 := ct BK897.out 6; have Y45_0 := blk_frozen BK897.out 0; have Y45_1 := blk_frozen BK897.out 1; have Y45_2 := blk_frozen BK897.out 2; have Y45_3 := blk_frozen BK897.out 3; have Y45_4 := blk_frozen BK897.out 4; have Y45_5 := blk_frozen BK897.out 5; have Y45_6 := blk_frozen BK897.out 6) | (go_at_call 13; (with_reducible refine (metrolablaw30_own.calls k a0_0 a0_1 a0_2 a0_3 a0_4 a0_5 _ _ l0_6 t909 t910 t911 t912 t913 t914 t915 _ ?side1 ?side2 A10.out).mono ?_); (case side1 => repeat (first | exact (Kd.C_below HR0_6.out HB.out) | (with_reducible refine Kd.C_alloc ?_ _) | (with_reducible refine Kd.C_drewN ?_ _) | (with_reducible refine Kd.C_drew ?_))); (case side2 => exact HC0_6.out); rintro e w46 ⟨v916, rfl, ho0, hb⟩; have n0_ := mk0 (Kd.R_elder' (rT HO907.out) (Kd.R_base ho0) hb); have n1_ := mk0 (Kd.R_lower (Kd.R_new' ho0 (Kd.R_lt (rT HO907.out))) (below_size (wT HB.out))); have n2_ := mk0 (bbT BK897.out hb); have n3_ := mk0 (bbT BK898.out hb); have n4_ := mk0 (below_step (wT HB.out) hb); clear HO907; clear BK897; clear BK898; clear HB; have HO907 := n0_; have HO917 := n1_; have BK897 := n2_; have BK898 := n3_; have HB := n4_; clear n0_ n1_ n2_ n3_ n4_; (try clear hb); (try clear hb2); (try clear hk); (try clear hi); (try clear ho0); obtain ⟨Ao47, co47, eo47⟩ := Kd.R_slice HO917.out; subst eo47) | (go_at_call 18; (with_reducible refine (metrolabref30_Check.calls k t909 t910 t911 t912 t913 t914 _ _ t915 t918 _ ?side1 ?side2 A11.out).mono ?_); (case side1 => repeat (first | exact (Kd.R_reads' HO917.out).2.2 | (with_reducible refine Kd.C_alloc ?_ _) | (with_reducible refine Kd.C_drewN ?_ _) | (with_reducible refine Kd.C_drew ?_))); (case side2 => exact (Kd.R_reads' HO917.out).2.1); rintro e w48 ⟨rfl, hb⟩; have n0_ := mk0 (Kd.R_below (rT HO907.out) hb); have n1_ := mk0 (Kd.R_below (rT HO917.out) hb); have n2_ := mk0 (bbT BK897.out hb); have n3_ := mk0 (bbT BK898.out hb); have n4_ := mk0 (below_step (wT HB.out) hb); clear HO907; clear HO917; clear BK897; clear BK898; clear HB; have HO907 := n0_; have HO917 := n1_; have BK897 := n2_; have BK898 := n3_; have HB := n4_; clear n0_ n1_ n2_ n3_ n4_; (try clear hb); (try clear hb2); (try clear hk); (try clear hi)))
    go_meet
    case rel => exact ⟨_, (true), (by first | rfl | (simp; done) | (simp [*]; done) | exact congrArg (Value.int .i64) (by unfold wrap64; omega)), H', ⟨by first | omega | exact Nat.le_refl _⟩, ⟨bT BK897.out⟩, ⟨bT BK898.out⟩, ⟨wT HB.out⟩⟩
  ·replace c9 := Bool.eq_false_iff.mpr c9
   subst c9
   have H1 : (metrolablaw30_ProbeMeets.j0 k a2 true a0_0 a0_1 a0_2 a0_3 a0_4 a0_5 l0_6 a1_0 a1_1 a1_2) = some r := by rw [if_neg (show ¬ (false = true) by decide)] at H; exact H
   clear H
   have H := H1
   clear H1
   have H' := mk0 H
   clear H
   have hnb49 := NB897_898.out
   have hnc49 := NB898_897.out
   have X50_0 := ct BK897.out 0
   have X50_1 := ct BK897.out 1
   have X50_2 := ct BK897.out 2
   have X50_3 := ct BK897.out 3
   have X50_4 := ct BK897.out 4
   have X50_5 := ct BK897.out 5
   have X50_6 := ct BK897.out 6
   have Y50_0 := blk_frozen BK897.out 0
   have Y50_1 := blk_frozen BK897.out 1
   have Y50_2 := blk_frozen BK897.out 2
   have Y50_3 := blk_frozen BK897.out 3
   have Y50_4 := blk_frozen BK897.out 4
   have Y50_5 := blk_frozen BK897.out 5
   have Y50_6 := blk_frozen BK897.out 6
   go_wp2_with (first | ((with_reducible refine gate_callee (f := 13) rfl ?_); refine goesL_ (some 15) rfl rfl Tryz.func13 (by kernel_rfl) rfl #[.agg #[.int .i64 a0_0, .int .i64 a0_1, .int .i64 a0_2, .int .i64 a0_3, .int .i64 a0_4, .int .i64 a0_5, .slice A0_6 l0_6.length c0_6]] rfl (by (try simp only [List.map_toArray, List.map_cons, List.map_nil]); first | done | rfl | (simp only [List.length_drop, List.length_take]; rfl)) ?_; (with_reducible refine (metrolablaw30_own.calls k a0_0 a0_1 a0_2 a0_3 a0_4 a0_5 _ _ l0_6 t899 t900 t901 t902 t903 t904 t905 _ ?side1 ?side2 A7.out).mono ?_); (case side1 => repeat (first | exact (Kd.C_below HR0_6.out HB.out) | (with_reducible refine Kd.C_alloc ?_ _) | (with_reducible refine Kd.C_drewN ?_ _) | (with_reducible refine Kd.C_drew ?_))); (case side2 => exact HC0_6.out); rintro e w51 ⟨v906, rfl, ho0, hb⟩; refine ⟨_, rfl, ?_⟩; have n0_ := mk0 (Kd.R_lower ho0 (below_size (wT HB.out))); have n1_ := mk0 (bbT BK897.out hb); have n2_ := mk0 (bbT BK898.out hb); have n3_ := mk0 (below_step (wT HB.out) hb); clear BK897; clear BK898; clear HB; have HO907 := n0_; have BK897 := n1_; have BK898 := n2_; have HB := n3_; clear n0_ n1_ n2_ n3_; (try clear hb); (try clear hb2); (try clear hk); (try clear hi); (try clear ho0); obtain ⟨Ao52, co52, eo52⟩ := Kd.R_slice HO907.out; subst eo52) | ((with_reducible refine gate_callee (f := 12) rfl ?_); refine goesL_ (some 16) rfl rfl Tryz.func12 (by kernel_rfl) rfl #[.agg #[.int .i64 t899, .int .i64 t900, .int .i64 t901, .int .i64 t902, .int .i64 t903, .int .i64 t904, .slice Ao52 t905.length co52]] rfl (by (try simp only [List.map_toArray, List.map_cons, List.map_nil]); first | done | rfl | (simp only [List.length_drop, List.length_take]; rfl)) ?_; (with_reducible refine (metrolabref30_Few.calls t899 t900 t901 t902 t903 t904 _ _ t905 false _ ?side1 ?side2 A8.out).mono ?_); (case side1 => repeat (first | exact (Kd.R_reads' HO907.out).2.2 | (with_reducible refine Kd.C_alloc ?_ _) | (with_reducible refine Kd.C_drewN ?_ _) | (with_reducible refine Kd.C_drew ?_))); (case side2 => exact (Kd.R_reads' HO907.out).2.1); rintro e w53 ⟨rfl, hb⟩; refine ⟨_, rfl, ?_⟩; have n0_ := mk0 (Kd.R_below (rT HO907.out) hb); have n1_ := mk0 (bbT BK897.out hb); have n2_ := mk0 (bbT BK898.out hb); have n3_ := mk0 (below_step (wT HB.out) hb); clear HO907; clear BK897; clear BK898; clear HB; have HO907 := n0_; have BK897 := n1_; have BK898 := n2_; have HB := n3_; clear n0_ n1_ n2_ n3_; (try clear hb); (try clear hb2); (try clear hk); (try clear hi)))
   go_meet
   case rel => exact ⟨_, (true), (by first | rfl | (simp; done) | (simp [*]; done) | exact congrArg (Value.int .i64) (by unfold wrap64; omega)), H', ⟨by first | omega | exact Nat.le_refl _⟩, ⟨bT BK897.out⟩, ⟨bT BK898.out⟩, ⟨wT HB.out⟩⟩
 case rest =>
  clear HC4
  try clear c1
  try clear c2
  try clear p2
  try clear c4
  try clear p6
  try clear c9
  try clear c10
  try clear c12
  try clear c12b0
  try clear c12b1
  try clear c13
  try clear c14
  try clear c16
  try clear c29
  try clear c40
  try clear c49
  try clear X17_0
  try clear X17_1
  try clear X17_2
  try clear X17_3
  try clear X17_4
  try clear X17_5
  try clear X17_6
  try clear X21_0
  try clear X21_1
  try clear X21_2
  try clear X21_3
  try clear X21_4
  try clear X21_5
  try clear X21_6
  try clear X25_0
  try clear X25_1
  try clear X25_2
  try clear X27_0
  try clear X27_1
  try clear X27_2
  try clear X27_3
  try clear X27_4
  try clear X27_5
  try clear X27_6
  try clear X30_0
  try clear X30_1
  try clear X30_2
  try clear X30_3
  try clear X30_4
  try clear X30_5
  try clear X30_6
  try clear X34_0
  try clear X34_1
  try clear X34_2
  try clear X34_3
  try clear X34_4
  try clear X34_5
  try clear X34_6
  try clear X38_0
  try clear X38_1
  try clear X38_2
  try clear X41_0
  try clear X41_1
  try clear X41_2
  try clear X41_3
  try clear X41_4
  try clear X41_5
  try clear X41_6
  try clear X45_0
  try clear X45_1
  try clear X45_2
  try clear X45_3
  try clear X45_4
  try clear X45_5
  try clear X45_6
  try clear X50_0
  try clear X50_1
  try clear X50_2
  try clear X50_3
  try clear X50_4
  try clear X50_5
  try clear X50_6
  try clear Y17_0
  try clear Y17_1
  try clear Y17_2
  try clear Y17_3
  try clear Y17_4
  try clear Y17_5
  try clear Y17_6
  try clear Y21_0
  try clear Y21_1
  try clear Y21_2
  try clear Y21_3
  try clear Y21_4
  try clear Y21_5
  try clear Y21_6
  try clear Y25_0
  try clear Y25_1
  try clear Y25_2
  try clear Y27_0
  try clear Y27_1
  try clear Y27_2
  try clear Y27_3
  try clear Y27_4
  try clear Y27_5
  try clear Y27_6
  try clear Y30_0
  try clear Y30_1
  try clear Y30_2
  try clear Y30_3
  try clear Y30_4
  try clear Y30_5
  try clear Y30_6
  try clear Y34_0
  try clear Y34_1
  try clear Y34_2
  try clear Y34_3
  try clear Y34_4
  try clear Y34_5
  try clear Y34_6
  try clear Y38_0
  try clear Y38_1
  try clear Y38_2
  try clear Y41_0
  try clear Y41_1
  try clear Y41_2
  try clear Y41_3
  try clear Y41_4
  try clear Y41_5
  try clear Y41_6
  try clear Y45_0
  try clear Y45_1
  try clear Y45_2
  try clear Y45_3
  try clear Y45_4
  try clear Y45_5
  try clear Y45_6
  try clear Y50_0
  try clear Y50_1
  try clear Y50_2
  try clear Y50_3
  try clear Y50_4
  try clear Y50_5
  try clear Y50_6
  obtain ⟨kq, x37_3, rfl, HA, HJ3, BK897, BK898, HB⟩ := hcut
  cases kq with
  | zero => exact absurd HA.out (by simp [metrolablaw30_ProbeMeets.j0])
  | succ kj3 =>
   have H := HA.out
   clear HA
   simp only [metrolablaw30_ProbeMeets.j0] at H
   by_cases c54 : x37_3 = true
   ·subst c54
    have H1 : ((metrolablaw30_awake.f kj3).bind fun t921 => (some t921)) = some r := by rw [if_pos rfl] at H; exact H
    clear H
    have H := H1
    clear H1
    replace H := Option.bind_eq_some_iff.mp H
    obtain ⟨t921, A550, H⟩ := H
    replace H : (some t921) = some r := H
    have A55 := mk0 A550
    clear A550
    obtain rfl := Option.some.inj H
    go_wp2_with (first | ((with_reducible refine gate_callee (f := 14) rfl ?_); refine goesL_ (some 38) rfl rfl Tryz.func14 (by kernel_rfl) rfl #[] rfl (by (try simp only [List.map_toArray, List.map_cons, List.map_nil]); first | done | rfl | (simp only [List.length_drop, List.length_take]; rfl)) ?_; (with_reducible refine (metrolablaw30_awake.calls kj3  t921 _ ?side1 A55.out).mono ?_); (case side1 => exact GW_below HG.out (wT HB.out)); rintro e w56 ⟨rfl, hb⟩; refine ⟨_, rfl, ?_⟩; have n0_ := mk0 (below_step (wT HB.out) hb); clear HB; have HB := n0_; clear n0_; (try clear hb); (try clear hb2); (try clear hk); (try clear hi)))
    go_ret
    exact ⟨eqT, wT HB.out⟩
   ·replace c54 := Bool.eq_false_iff.mpr c54
    subst c54
    have H1 : ((probe_Touch.f kj3 a0_0 a0_1 a0_2 a0_3 a0_4 a0_5 l0_6 a1_0 a1_1 a1_2 (Int.tmod (wrap64 (a2)) 6)).bind fun bt922 => (if bt922.2.2.2.2.2.2 = 0 then ((probe_Material.f kj3 a0_0 a0_1 a0_2 a0_3 a0_4 a0_5 l0_6 bt922.1 bt922.2.1 bt922.2.2.1).bind fun bt932 => ((probe_Free.f kj3 a0_0 a0_1 a0_2 a0_3 a0_4 a0_5 l0_6 a1_0 a1_1 a1_2 bt922.2.2.2.1 bt922.2.2.2.2.1 bt922.2.2.2.2.2.1).bind fun bt934 => (if (wrap64 (bt932.2 + bt934.2)) = 0 then (if bt932.1 = true then (if bt934.1 = true then ((metrolabref30_Ahead.f bt922.2.2.2.1 bt922.2.2.2.2.1 bt922.2.2.2.2.2.1 (Int.tmod (wrap64 (a2)) 6)).bind fun bt936 => (if (bt936.1 == bt922.1 && (bt936.2.1 == bt922.2.1 && (bt936.2.2 == bt922.2.2.1))) = true then ((metrolablaw30_awake.f kj3).bind fun t939 => (some t939)) else (none))) else (none)) else (none)) else (none)))) else ((metrolablaw30_awake.f kj3).bind fun t931 => (some t931)))) = some r := by rw [if_neg (show ¬ (false = true) by decide)] at H; exact H
    clear H
    have H := H1
    clear H1
    replace H := Option.bind_eq_some_iff.mp H
    obtain ⟨⟨t922, t923, t924, t925, t926, t927, t928⟩, A570, H⟩ := H
    replace H : (if t928 = 0 then ((probe_Material.f kj3 a0_0 a0_1 a0_2 a0_3 a0_4 a0_5 l0_6 t922 t923 t924).bind fun bt932 => ((probe_Free.f kj3 a0_0 a0_1 a0_2 a0_3 a0_4 a0_5 l0_6 a1_0 a1_1 a1_2 t925 t926 t927).bind fun bt934 => (if (wrap64 (bt932.2 + bt934.2)) = 0 then (if bt932.1 = true then (if bt934.1 = true then ((metrolabref30_Ahead.f t925 t926 t927 (Int.tmod (wrap64 (a2)) 6)).bind fun bt936 => (if (bt936.1 == t922 && (bt936.2.1 == t923 && (bt936.2.2 == t924))) = true then ((metrolablaw30_awake.f kj3).bind fun t939 => (some t939)) else (none))) else (none)) else (none)) else (none)))) else ((metrolablaw30_awake.f kj3).bind fun t931 => (some t931))) = some r := H
    have A57 := mk0 A570
    clear A570
    by_cases c58 : t928 = 0
    ·rw [if_pos c58] at H
     have c58b0 : (t928 == 0) = true := beq_iff_eq.mpr c58
     have c58b1 : (t928 != 0) = false := bne_eq_false_iff_eq.mpr c58
     clear c58
     replace H := Option.bind_eq_some_iff.mp H
     obtain ⟨⟨t932, t933⟩, A590, H⟩ := H
     replace H : ((probe_Free.f kj3 a0_0 a0_1 a0_2 a0_3 a0_4 a0_5 l0_6 a1_0 a1_1 a1_2 t925 t926 t927).bind fun bt934 => (if (wrap64 (t933 + bt934.2)) = 0 then (if t932 = true then (if bt934.1 = true then ((metrolabref30_Ahead.f t925 t926 t927 (Int.tmod (wrap64 (a2)) 6)).bind fun bt936 => (if (bt936.1 == t922 && (bt936.2.1 == t923 && (bt936.2.2 == t924))) = true then ((metrolablaw30_awake.f kj3).bind fun t939 => (some t939)) else (none))) else (none)) else (none)) else (none))) = some r := H
     have A59 := mk0 A590
     clear A590
     replace H := Option.bind_eq_some_iff.mp H
     obtain ⟨⟨t934, t935⟩, A600, H⟩ := H
     replace H : (if (wrap64 (t933 + t935)) = 0 then (if t932 = true then (if t934 = true then ((metrolabref30_Ahead.f t925 t926 t927 (Int.tmod (wrap64 (a2)) 6)).bind fun bt936 => (if (bt936.1 == t922 && (bt936.2.1 == t923 && (bt936.2.2 == t924))) = true then ((metrolablaw30_awake.f kj3).bind fun t939 => (some t939)) else (none))) else (none)) else (none)) else (none)) = some r := H
     have A60 := mk0 A600
     clear A600
     by_cases c61 : (wrap64 (t933 + t935)) = 0
     ·rw [if_pos c61] at H
      have c61b0 : ((wrap64 (t933 + t935)) == 0) = true := beq_iff_eq.mpr c61
      have c61b1 : ((wrap64 (t933 + t935)) != 0) = false := bne_eq_false_iff_eq.mpr c61
      clear c61
      by_cases c62 : t932 = true
      ·subst c62
       have H1 : (if t934 = true then ((metrolabref30_Ahead.f t925 t926 t927 (Int.tmod (wrap64 (a2)) 6)).bind fun bt936 => (if (bt936.1 == t922 && (bt936.2.1 == t923 && (bt936.2.2 == t924))) = true then ((metrolablaw30_awake.f kj3).bind fun t939 => (some t939)) else (none))) else (none)) = some r := by rw [if_pos rfl] at H; exact H
       clear H
       have H := H1
       clear H1
       by_cases c63 : t934 = true
       ·subst c63
        have H1 : ((metrolabref30_Ahead.f t925 t926 t927 (Int.tmod (wrap64 (a2)) 6)).bind fun bt936 => (if (bt936.1 == t922 && (bt936.2.1 == t923 && (bt936.2.2 == t924))) = true then ((metrolablaw30_awake.f kj3).bind fun t939 => (some t939)) else (none))) = some r := by rw [if_pos rfl] at H; exact H
        clear H
        have H := H1
        clear H1
        replace H := Option.bind_eq_some_iff.mp H
        obtain ⟨⟨t936, t937, t938⟩, A640, H⟩ := H
        replace H : (if (t936 == t922 && (t937 == t923 && (t938 == t924))) = true then ((metrolablaw30_awake.f kj3).bind fun t939 => (some t939)) else (none)) = some r := H
        have A64 := mk0 A640
        clear A640
        by_cases c65 : (t936 == t922 && (t937 == t923 && (t938 == t924))) = true
        ·rw [if_pos c65] at H
         have c65b0 : (t936 == t922 && (t937 == t923 && (t938 == t924))) = true := c65
         (try (have c65b1 : decide (t936 = t922 && (t937 == t923 && (t938 == t924))) = true := by simpa using c65))
         (try (have c65b2 : (t936 == t922 && (t937 == t923 && (t938 == t924))) = true := by simpa using c65))
         clear c65
         replace H := Option.bind_eq_some_iff.mp H
         obtain ⟨t939, A660, H⟩ := H
         replace H : (some t939) = some r := H
         have A66 := mk0 A660
         clear A660
         obtain rfl := Option.some.inj H
         have hnb67 := NB897_898.out
         have hnc67 := NB898_897.out
         have X68_0 := ct BK897.out 0
         have X68_1 := ct BK897.out 1
         have X68_2 := ct BK897.out 2
         have X68_3 := ct BK897.out 3
         have X68_4 := ct BK897.out 4
         have X68_5 := ct BK897.out 5
         have X68_6 := ct BK897.out 6
         have Y68_0 := blk_frozen BK897.out 0
         have Y68_1 := blk_frozen BK897.out 1
         have Y68_2 := blk_frozen BK897.out 2
         have Y68_3 := blk_frozen BK897.out 3
         have Y68_4 := blk_frozen BK897.out 4
         have Y68_5 := blk_frozen BK897.out 5
         have Y68_6 := blk_frozen BK897.out 6
         have X69_0 := ct BK898.out 0
         have X69_1 := ct BK898.out 1
         have X69_2 := ct BK898.out 2
         have Y69_0 := blk_frozen BK898.out 0
         have Y69_1 := blk_frozen BK898.out 1
         have Y69_2 := blk_frozen BK898.out 2
         try go_wp2_with (first | ((with_reducible refine gate_callee (f := 19) rfl ?_); refine goesL_ (some 46) rfl rfl Tryz.func19 (by kernel_rfl) rfl #[.agg #[.int .i64 a0_0, .int .i64 a0_1, .int .i64 a0_2, .int .i64 a0_3, .int .i64 a0_4, .int .i64 a0_5, .slice A0_6 l0_6.length c0_6], .agg #[.int .i64 a1_0, .int .i64 a1_1, .int .i64 a1_2], .int .i64 (Int.tmod (wrap64 (a2)) 6)] rfl (by (try simp only [List.map_toArray, List.map_cons, List.map_nil]); first | done | rfl | (simp only [List.length_drop, List.length_take]; rfl)) ?_; (with_reducible refine (probe_Touch.calls kj3 a0_0 a0_1 a0_2 a0_3 a0_4 a0_5 _ _ l0_6 a1_0 a1_1 a1_2 (Int.tmod (wrap64 (a2)) 6) t922 t923 t924 t925 t926 t927 t928 _ ?side1 ?side2 A57.out).mono ?_); (case side1 => repeat (first | exact (Kd.C_below HR0_6.out HB.out) | (with_reducible refine Kd.C_alloc ?_ _) | (with_reducible refine Kd.C_drewN ?_ _) | (with_reducible refine Kd.C_drew ?_))); (case side2 => exact HC0_6.out); rintro e w70 ⟨rfl, hb⟩; refine ⟨_, rfl, ?_⟩; have n0_ := mk0 (bbT BK897.out hb); have n1_ := mk0 (bbT BK898.out hb); have n2_ := mk0 (below_step (wT HB.out) hb); clear BK897; clear BK898; clear HB; have BK897 := n0_; have BK898 := n1_; have HB := n2_; clear n0_ n1_ n2_; (try clear hb); (try clear hb2); (try clear hk); (try clear hi)) | ((with_reducible refine gate_dst (N := 8) rfl ?_); refine box_event ?hg (N := 8) ?hd (cs := #[.int .i64 0, .int .i64 0, .int .i64 0]) (t := 23) ?hr ?_; (case hd => rfl); (case hg => rfl); (case hr => first | (go_simp; done) | (go_simp; rfl)); intro gb929 hg w71 hbox hb; have n0_ := mk0 (bbT BK897.out hb); have n1_ := mk0 (bbT BK898.out hb); have n2_ := mk0 (below_step (wT HB.out) hb); have n3_ := mk0 (hbox); have n4_ := mk0 ((szT HB.out hg)); have n5_ := mk0 ((szT HB.out hg)); have n6_ := mk0 ((neL BK897.out hg)); have n7_ := mk0 ((neG BK897.out hg)); have n8_ := mk0 ((neL BK898.out hg)); have n9_ := mk0 ((neG BK898.out hg)); clear BK897; clear BK898; clear HB; have BK897 := n0_; have BK898 := n1_; have HB := n2_; have BK929 := n3_; have GW929 := n4_; have GE929 := n5_; have NB897_929 := n6_; have NB929_897 := n7_; have NB898_929 := n8_; have NB929_898 := n9_; clear n0_ n1_ n2_ n3_ n4_ n5_ n6_ n7_ n8_ n9_; clear hb hbox hg) | ((with_reducible refine gate_dst (N := 9) rfl ?_); refine box_event ?hg (N := 9) ?hd (cs := #[.int .i64 0, .int .i64 0, .int .i64 0]) (t := 23) ?hr ?_; (case hd => rfl); (case hg => rfl); (case hr => first | (go_simp; done) | (go_simp; rfl)); intro gb930 hg w72 hbox hb; have n0_ := mk0 (bbT BK897.out hb); have n1_ := mk0 (bbT BK898.out hb); have n2_ := mk0 (bbT BK929.out hb); have n3_ := mk0 (below_step (wT HB.out) hb); have n4_ := mk0 (hbox); have n5_ := mk0 ((szT HB.out hg)); have n6_ := mk0 ((szT HB.out hg)); have n7_ := mk0 ((neL BK897.out hg)); have n8_ := mk0 ((neG BK897.out hg)); have n9_ := mk0 ((neL BK898.out hg)); have n10_ := mk0 ((neG BK898.out hg)); have n11_ := mk0 ((neL BK929.out hg)); have n12_ := mk0 ((neG BK929.out hg)); clear BK897; clear BK898; clear BK929; clear HB; have BK897 := n0_; have BK898 := n1_; have BK929 := n2_; have HB := n3_; have BK930 := n4_; have GW930 := n5_; have GE930 := n6_; have NB897_930 := n7_; have NB930_897 := n8_; have NB898_930 := n9_; have NB930_898 := n10_; have NB929_930 := n11_; have NB930_929 := n12_; clear n0_ n1_ n2_ n3_ n4_ n5_ n6_ n7_ n8_ n9_ n10_ n11_ n12_; clear hb hbox hg; have hnb73 := NB929_897.out; have hnc73 := NB897_929.out; have hnb74 := NB929_898.out; have hnc74 := NB898_929.out; have hnb75 := NB929_930.out; have hnc75 := NB930_929.out; have X76_0 := ct BK929.out 0; have X76_1 := ct BK929.out 1; have X76_2 := ct BK929.out 2; have Y76_0 := blk_frozen BK929.out 0; have Y76_1 := blk_frozen BK929.out 1; have Y76_2 := blk_frozen BK929.out 2; have hnb77 := NB930_897.out; have hnc77 := NB897_930.out; have hnb78 := NB930_898.out; have hnc78 := NB898_930.out; have X79_0 := ct BK930.out 0; have X79_1 := ct BK930.out 1; have X79_2 := ct BK930.out 2; have Y79_0 := blk_frozen BK930.out 0; have Y79_1 := blk_frozen BK930.out 1; have Y79_2 := blk_frozen BK930.out 2; have X80_0 := ct BK897.out 0; have X80_1 := ct BK897.out 1; have X80_2 := ct BK897.out 2; have X80_3 := ct BK897.out 3; have X80_4 := ct BK897.out 4; have X80_5 := ct BK897.out 5; have X80_6 := ct BK897.out 6; have Y80_0 := blk_frozen BK897.out 0; have Y80_1 := blk_frozen BK897.out 1; have Y80_2 := blk_frozen BK897.out 2; have Y80_3 := blk_frozen BK897.out 3; have Y80_4 := blk_frozen BK897.out 4; have Y80_5 := blk_frozen BK897.out 5; have Y80_6 := blk_frozen BK897.out 6) | ((with_reducible refine gate_callee (f := 15) rfl ?_); refine goesL_ (some 56) rfl rfl Tryz.func15 (by kernel_rfl) rfl #[.agg #[.int .i64 a0_0, .int .i64 a0_1, .int .i64 a0_2, .int .i64 a0_3, .int .i64 a0_4, .int .i64 a0_5, .slice A0_6 l0_6.length c0_6], .agg #[.int .i64 t922, .int .i64 t923, .int .i64 t924]] rfl (by (try simp only [List.map_toArray, List.map_cons, List.map_nil]); first | done | rfl | (simp only [List.length_drop, List.length_take]; rfl)) ?_; (with_reducible refine (probe_Material.calls kj3 a0_0 a0_1 a0_2 a0_3 a0_4 a0_5 _ _ l0_6 t922 t923 t924 true t933 _ ?side1 ?side2 A59.out).mono ?_); (case side1 => exact Kd.C_below HR0_6.out (by repeat (first | (with_reducible first | exact HB.out | apply below_alloc | apply pw_below_drewN | apply below_drew1 | refine below_set ?_ GE929.out | refine below_set ?_ GE930.out) | exact HB.out))); (case side2 => exact HC0_6.out); rintro e w81 ⟨rfl, hb⟩; refine ⟨_, rfl, ?_⟩; have n0_ := mk0 (blk_below (g := gb897) (o := .cells #[.int .i64 a0_0, .int .i64 a0_1, .int .i64 a0_2, .int .i64 a0_3, .int .i64 a0_4, .int .i64 a0_5, .slice A0_6 l0_6.length c0_6] 26 (0, 0)) (by (with_reducible repeat (first | refine blk_drewN ?_ _ | refine blk_drew ?_ | refine blk_alloc ?_ _)); refine blk_far ?_ NB897_930.out _; refine blk_far ?_ NB897_930.out _; refine blk_far ?_ NB897_930.out _; refine blk_far ?_ NB897_929.out _; refine blk_far ?_ NB897_929.out _; refine blk_far ?_ NB897_929.out _; (with_reducible repeat (first | refine blk_drewN ?_ _ | refine blk_drew ?_ | refine blk_alloc ?_ _)); exact BK897.out) hb); have n1_ := mk0 (blk_below (g := gb898) (o := .cells #[.int .i64 a1_0, .int .i64 a1_1, .int .i64 a1_2] 23 (0, 0)) (by (with_reducible repeat (first | refine blk_drewN ?_ _ | refine blk_drew ?_ | refine blk_alloc ?_ _)); refine blk_far ?_ NB898_930.out _; refine blk_far ?_ NB898_930.out _; refine blk_far ?_ NB898_930.out _; refine blk_far ?_ NB898_929.out _; refine blk_far ?_ NB898_929.out _; refine blk_far ?_ NB898_929.out _; (with_reducible repeat (first | refine blk_drewN ?_ _ | refine blk_drew ?_ | refine blk_alloc ?_ _)); exact BK898.out) hb); have n2_ := mk0 (blk_below (g := gb929) (o := .cells #[.int .i64 t922, .int .i64 t923, .int .i64 t924] 23 (0, 0)) (by (with_reducible repeat (first | refine blk_drewN ?_ _ | refine blk_drew ?_ | refine blk_alloc ?_ _)); refine blk_far ?_ NB929_930.out _; refine blk_far ?_ NB929_930.out _; refine blk_far ?_ NB929_930.out _; refine blk_put (cs := #[.int .i64 t922, .int .i64 t923, .int .i64 0]) ?_ 2 _ rfl; refine blk_put (cs := #[.int .i64 t922, .int .i64 0, .int .i64 0]) ?_ 1 _ rfl; refine blk_put (cs := #[.int .i64 0, .int .i64 0, .int .i64 0]) ?_ 0 _ rfl; (with_reducible repeat (first | refine blk_drewN ?_ _ | refine blk_drew ?_ | refine blk_alloc ?_ _)); exact BK929.out) hb); have n3_ := mk0 (blk_below (g := gb930) (o := .cells #[.int .i64 t925, .int .i64 t926, .int .i64 t927] 23 (0, 0)) (by (with_reducible repeat (first | refine blk_drewN ?_ _ | refine blk_drew ?_ | refine blk_alloc ?_ _)); refine blk_put (cs := #[.int .i64 t925, .int .i64 t926, .int .i64 0]) ?_ 2 _ rfl; refine blk_put (cs := #[.int .i64 t925, .int .i64 0, .int .i64 0]) ?_ 1 _ rfl; refine blk_put (cs := #[.int .i64 0, .int .i64 0, .int .i64 0]) ?_ 0 _ rfl; refine blk_far ?_ NB930_929.out _; refine blk_far ?_ NB930_929.out _; refine blk_far ?_ NB930_929.out _; (with_reducible repeat (first | refine blk_drewN ?_ _ | refine blk_drew ?_ | refine blk_alloc ?_ _)); exact BK930.out) hb); have n4_ := mk0 (below_step (by repeat (first | (with_reducible first | exact HB.out | apply below_alloc | apply pw_below_drewN | apply below_drew1 | refine below_set ?_ GE929.out | refine below_set ?_ GE930.out) | exact HB.out)) hb); clear BK897; clear BK898; clear BK929; clear BK930; clear HB; have BK897 := n0_; have BK898 := n1_; have BK929 := n2_; have BK930 := n3_; have HB := n4_; clear n0_ n1_ n2_ n3_ n4_; (try clear hb); (try clear hb2); (try clear hk); (try clear hi); have X82_0 := ct BK897.out 0; have X82_1 := ct BK897.out 1; have X82_2 := ct BK897.out 2; have X82_3 := ct BK897.out 3; have X82_4 := ct BK897.out 4; have X82_5 := ct BK897.out 5; have X82_6 := ct BK897.out 6; have Y82_0 := blk_frozen BK897.out 0; have Y82_1 := blk_frozen BK897.out 1; have Y82_2 := blk_frozen BK897.out 2; have Y82_3 := blk_frozen BK897.out 3; have Y82_4 := blk_frozen BK897.out 4; have Y82_5 := blk_frozen BK897.out 5; have Y82_6 := blk_frozen BK897.out 6; (try clear BK897 GW897 GE897); have X83_0 := ct BK898.out 0; have X83_1 := ct BK898.out 1; have X83_2 := ct BK898.out 2; have Y83_0 := blk_frozen BK898.out 0; have Y83_1 := blk_frozen BK898.out 1; have Y83_2 := blk_frozen BK898.out 2; (try clear BK898 GW898 GE898); have X84_0 := ct BK930.out 0; have X84_1 := ct BK930.out 1; have X84_2 := ct BK930.out 2; have Y84_0 := blk_frozen BK930.out 0; have Y84_1 := blk_frozen BK930.out 1; have Y84_2 := blk_frozen BK930.out 2) | ((with_reducible refine gate_callee (f := 34) rfl ?_); refine goesL_ (some 63) rfl rfl Tryz.func34 (by kernel_rfl) rfl #[.agg #[.int .i64 a0_0, .int .i64 a0_1, .int .i64 a0_2, .int .i64 a0_3, .int .i64 a0_4, .int .i64 a0_5, .slice A0_6 l0_6.length c0_6], .agg #[.int .i64 a1_0, .int .i64 a1_1, .int .i64 a1_2], .agg #[.int .i64 t925, .int .i64 t926, .int .i64 t927]] rfl (by (try simp only [List.map_toArray, List.map_cons, List.map_nil]); first | done | rfl | (simp only [List.length_drop, List.length_take]; rfl)) ?_; (with_reducible refine (probe_Free.calls kj3 a0_0 a0_1 a0_2 a0_3 a0_4 a0_5 _ _ l0_6 a1_0 a1_1 a1_2 t925 t926 t927 true t935 _ ?side1 ?side2 A60.out).mono ?_); (case side1 => repeat (first | exact (Kd.C_below HR0_6.out HB.out) | (with_reducible refine Kd.C_alloc ?_ _) | (with_reducible refine Kd.C_drewN ?_ _) | (with_reducible refine Kd.C_drew ?_))); (case side2 => exact HC0_6.out); rintro e w85 ⟨rfl, hb⟩; refine ⟨_, rfl, ?_⟩; have n0_ := mk0 (bbT BK929.out hb); have n1_ := mk0 (bbT BK930.out hb); have n2_ := mk0 (below_step (wT HB.out) hb); clear BK929; clear BK930; clear HB; have BK929 := n0_; have BK930 := n1_; have HB := n2_; clear n0_ n1_ n2_; (try clear hb); (try clear hb2); (try clear hk); (try clear hi)))
         have n0_ := mk0 (blk_drew BK929.out)
         have n1_ := mk0 (blk_drew BK930.out)
         have n2_ := mk0 (below_drew1 HB.out)
         clear BK929
         clear BK930
         clear HB
         have BK929 := n0_
         have BK930 := n1_
         have HB := n2_
         clear n0_ n1_ n2_
         refine start_ (n := 21) (S := fun w' => w'.cell? ⟨gb930, 0, none⟩ = some (.int .i64 t925) ∧ w'.cell? ⟨gb930, 1, none⟩ = some (.int .i64 t926) ∧ w'.cell? ⟨gb930, 2, none⟩ = some (.int .i64 t927) ∧ w'.cell? ⟨gb929, 0, none⟩ = some (.int .i64 t922) ∧ w'.cell? ⟨gb929, 1, none⟩ = some (.int .i64 t923) ∧ w'.cell? ⟨gb929, 2, none⟩ = some (.int .i64 t924)) (ds := []) #[false, false, false, false, false, false, false, false, false, false, false, false, false, false, false, false, false, false, false, false, false] (by kernel_rfl) rfl rfl ⟨ct BK930.out 0, ct BK930.out 1, ct BK930.out 2, ct BK929.out 0, ct BK929.out 1, ct BK929.out 2⟩ (fun hHeld => ?_); refine with_tabW metrolablaw30_ProbeMeets.tab9 metrolablaw30_ProbeMeets.bits9 (fun HT_ HW_ => ?_)
         generalize w85.drew = w86 at BK929 BK930 HB hHeld ⊢
         refine pure_ (i := 0) (N := some 66) (v := ?_) (a' := ?_) #[true, false, false, false, false, false, false, false, false, false, false, false, false, false, false, false, false, false, false, false, false] rfl rfl (any_of HT_.out (by kernel_rfl)) (fun _ _ _ h => h) (Or.inl ⟨by rfl, ?_⟩) ?_ ?_
         rotate_left
         ·intro w'
          go_simp
          with_reducible rfl
         rotate_left
         ·exact nrm
         refine pure_ (i := 1) (N := some 67) (v := ?_) (a' := ?_) #[true, true, false, false, false, false, false, false, false, false, false, false, false, false, false, false, false, false, false, false, false] rfl rfl (any_of HT_.out (by kernel_rfl)) (fun _ _ _ h => h) (Or.inl ⟨by rfl, ?_⟩) ?_ ?_
         rotate_left
         ·intro w'
          go_simp
          with_reducible rfl
         rotate_left
         ·exact nrm
         refine pure_ (i := 2) (N := some 68) (v := ?_) (a' := ?_) #[true, true, true, false, false, false, false, false, false, false, false, false, false, false, false, false, false, false, false, false, false] rfl rfl (any_of HT_.out (by kernel_rfl)) (fun _ _ _ h => h) (Or.inl ⟨by rfl, ?_⟩) ?_ ?_
         rotate_left
         ·intro w'
          go_simp
          with_reducible rfl
         rotate_left
         ·exact nrm
         refine pure_ (i := 3) (N := some 69) (v := ?_) (a' := ?_) #[true, true, true, true, false, false, false, false, false, false, false, false, false, false, false, false, false, false, false, false, false] rfl rfl (any_of HT_.out (by kernel_rfl)) (fun _ _ _ h => h) (Or.inl ⟨by rfl, ?_⟩) ?_ ?_
         rotate_left
         ·intro w'
          go_simp
          with_reducible rfl
         rotate_left
         ·exact nrm
         refine pure_ (i := 4) (N := some 70) (v := ?_) (a' := ?_) #[true, true, true, true, true, false, false, false, false, false, false, false, false, false, false, false, false, false, false, false, false] rfl rfl (any_of HT_.out (by kernel_rfl)) (fun _ _ _ h => h) (Or.inl ⟨by rfl, ?_⟩) ?_ ?_
         rotate_left
         ·intro w'
          go_simp
          with_reducible rfl
         rotate_left
         ·exact nrm
         refine pure_ (i := 5) (N := some 71) (v := ?_) (a' := ?_) #[true, true, true, true, true, true, false, false, false, false, false, false, false, false, false, false, false, false, false, false, false] rfl rfl (any_of HT_.out (by kernel_rfl)) (fun _ _ _ h => h) (Or.inl ⟨by rfl, ?_⟩) ?_ ?_
         rotate_left
         ·intro w'
          go_simp
          with_reducible rfl
         rotate_left
         ·exact nrm
         refine pure_ (i := 6) (N := some 72) (v := ?_) (a' := ?_) #[true, true, true, true, true, true, true, false, false, false, false, false, false, false, false, false, false, false, false, false, false] rfl rfl (any_of HT_.out (by kernel_rfl)) (fun _ _ _ h => h) (Or.inl ⟨by rfl, ?_⟩) ?_ ?_
         rotate_left
         ·intro w'
          go_simp
          with_reducible rfl
         rotate_left
         ·exact nrm
         refine pure_ (i := 7) (N := some 73) (v := ?_) (a' := ?_) #[true, true, true, true, true, true, true, true, false, false, false, false, false, false, false, false, false, false, false, false, false] rfl rfl (any_of HT_.out (by kernel_rfl)) (fun _ _ _ h => h) (Or.inl ⟨by rfl, ?_⟩) ?_ ?_
         rotate_left
         ·intro w'
          go_simp
          with_reducible rfl
         rotate_left
         ·exact nrm
         refine pure_ (i := 8) (N := some 74) (v := ?_) (a' := ?_) #[true, true, true, true, true, true, true, true, true, false, false, false, false, false, false, false, false, false, false, false, false] rfl rfl (any_of HT_.out (by kernel_rfl)) (fun _ _ _ h => h) (Or.inl ⟨by rfl, ?_⟩) ?_ ?_
         rotate_left
         ·intro w'
          go_simp
          with_reducible rfl
         rotate_left
         ·exact nrm
         refine pure_ (i := 9) (N := some 75) (v := ?_) (a' := ?_) #[true, true, true, true, true, true, true, true, true, true, false, false, false, false, false, false, false, false, false, false, false] rfl rfl (any_of HT_.out (by kernel_rfl)) (fun _ _ _ h => h) (Or.inl ⟨by rfl, ?_⟩) ?_ ?_
         rotate_left
         ·intro w'
          go_simp
          with_reducible rfl
         rotate_left
         ·exact nrm
         refine pure_ (i := 10) (N := some 76) (v := ?_) (a' := ?_) #[true, true, true, true, true, true, true, true, true, true, true, false, false, false, false, false, false, false, false, false, false] rfl rfl (any_of HT_.out (by kernel_rfl)) (fun _ _ _ h => h) (Or.inl ⟨by rfl, ?_⟩) ?_ ?_
         rotate_left
         ·intro w'
          go_simp
          with_reducible rfl
         rotate_left
         ·exact nrm
         refine pure_ (i := 12) (N := some 78) (v := ?_) (a' := ?_) #[true, true, true, true, true, true, true, true, true, true, true, false, true, false, false, false, false, false, false, false, false] rfl rfl (any_of HT_.out (by kernel_rfl)) (fun _ _ _ h => h) (Or.inl ⟨by rfl, ?_⟩) ?_ ?_
         rotate_left
         ·intro w'
          go_simp
          with_reducible rfl
         rotate_left
         ·exact nrm
         refine take_ (i := 11) (N := some 77) (v := ?_) (a' := ?_) #[true, true, true, true, true, true, true, true, true, true, true, true, true, false, false, false, false, false, false, false, false] rfl rfl (take_ofW HT_.out HW_.out (by kernel_rfl)) (fun _ _ _ h => h) (Or.inl ⟨by rfl, ?_⟩) hHeld ?_ ?_
         rotate_left
         ·rintro w' ⟨s0, s1, s2, s3, s4, s5⟩
          go_simp
          with_reducible rfl
         rotate_left
         ·exact nrm
         refine take_ (i := 14) (N := some 80) (v := ?_) (a' := ?_) #[true, true, true, true, true, true, true, true, true, true, true, true, true, false, true, false, false, false, false, false, false] rfl rfl (take_ofW HT_.out HW_.out (by kernel_rfl)) (fun _ _ _ h => h) (Or.inl ⟨by rfl, ?_⟩) hHeld ?_ ?_
         rotate_left
         ·rintro w' ⟨s0, s1, s2, s3, s4, s5⟩
          go_simp
          with_reducible rfl
         rotate_left
         ·exact nrm
         refine one_ (i := 13) (N := some 79) #[true, true, true, true, true, true, true, true, true, true, true, true, true, true, true, false, false, false, false, false, false] rfl rfl (one_of HT_.out (by kernel_rfl)) (by decide) (fun K hK => ?_)
         refine goes_ Tryz.func33 (by kernel_rfl) rfl #[.agg #[.int .i64 t925, .int .i64 t926, .int .i64 t927], .int .i64 (Int.tmod (wrap64 (a2)) 6)] (by rfl) rfl rfl (by (try simp only [List.map_toArray, List.map_cons, List.map_nil]); first | done | rfl | (simp only [List.length_drop, List.length_take]; rfl)) ?_
         with_reducible refine (metrolabref30_Ahead.calls t925 t926 t927 (Int.tmod (wrap64 (a2)) 6) t936 t937 t938 _ A64.out).mono ?_
         rintro e w87 ⟨rfl, hb⟩
         refine ⟨_, rfl, ?_⟩
         have n0_ := mk0 (bbT BK929.out hb)
         have n1_ := mk0 (bbT BK930.out hb)
         have n2_ := mk0 (below_step (wT HB.out) hb)
         clear BK929
         clear BK930
         clear HB
         have BK929 := n0_
         have BK930 := n1_
         have HB := n2_
         clear n0_ n1_ n2_
         (try clear hb)
         (try clear hb2)
         (try clear hk)
         (try clear hi)
         refine hK.out _ _ ⟨ct BK930.out 0, ct BK930.out 1, ct BK930.out 2, ct BK929.out 0, ct BK929.out 1, ct BK929.out 2⟩ (fun hHeld => ?_)
         clear hK K
         refine norm_ (a' := ?_) ?_ ?_
         rotate_left
         ·show Act.put _ (some 79) _ = _
          simp only [Act.put, List.setIfInBounds_toArray, List.set_cons_zero, List.set_cons_succ, i64_w, i32_w]
          rfl
         refine pure_ (i := 15) (N := some 81) (v := ?_) (a' := ?_) #[true, true, true, true, true, true, true, true, true, true, true, true, true, true, true, true, false, false, false, false, false] rfl rfl (any_of HT_.out (by kernel_rfl)) (fun _ _ _ h => h) (Or.inl ⟨by rfl, ?_⟩) ?_ ?_
         rotate_left
         ·intro w'
          go_simp
          with_reducible rfl
         rotate_left
         ·exact nrm
         refine pure_ (i := 16) (N := some 82) (v := ?_) (a' := ?_) #[true, true, true, true, true, true, true, true, true, true, true, true, true, true, true, true, true, false, false, false, false] rfl rfl (any_of HT_.out (by kernel_rfl)) (fun _ _ _ h => h) (Or.inl ⟨by rfl, ?_⟩) ?_ ?_
         rotate_left
         ·intro w'
          go_simp
          with_reducible rfl
         rotate_left
         ·exact nrm
         refine pure_ (i := 17) (N := some 83) (v := ?_) (a' := ?_) #[true, true, true, true, true, true, true, true, true, true, true, true, true, true, true, true, true, true, false, false, false] rfl rfl (any_of HT_.out (by kernel_rfl)) (fun _ _ _ h => h) (Or.inl ⟨by rfl, ?_⟩) ?_ ?_
         rotate_left
         ·intro w'
          go_simp
          with_reducible rfl
         rotate_left
         ·exact nrm
         refine one_ (i := 18) (N := some 84) #[true, true, true, true, true, true, true, true, true, true, true, true, true, true, true, true, true, true, true, false, false] rfl rfl (one_of HT_.out (by kernel_rfl)) (by decide) (fun K hK => ?_)
         refine goes_ Tryz.func14 (by kernel_rfl) rfl #[] (by rfl) rfl rfl (by (try simp only [List.map_toArray, List.map_cons, List.map_nil]); first | done | rfl | (simp only [List.length_drop, List.length_take]; rfl)) ?_
         with_reducible refine (metrolablaw30_awake.calls kj3  t939 _ ?side1 A66.out).mono ?_
         (case side1 => exact GW_below HG.out (wT HB.out))
         rintro e w88 ⟨rfl, hb⟩
         refine ⟨_, rfl, ?_⟩
         have n0_ := mk0 (bbT BK929.out hb)
         have n1_ := mk0 (bbT BK930.out hb)
         have n2_ := mk0 (below_step (wT HB.out) hb)
         clear BK929
         clear BK930
         clear HB
         have BK929 := n0_
         have BK930 := n1_
         have HB := n2_
         clear n0_ n1_ n2_
         (try clear hb)
         (try clear hb2)
         (try clear hk)
         (try clear hi)
         refine hK.out _ _ ⟨ct BK930.out 0, ct BK930.out 1, ct BK930.out 2, ct BK929.out 0, ct BK929.out 1, ct BK929.out 2⟩ (fun hHeld => ?_)
         clear hK K
         refine norm_ (a' := ?_) ?_ ?_
         rotate_left
         ·show Act.put _ (some 84) _ = _
          simp only [Act.put, List.setIfInBounds_toArray, List.set_cons_zero, List.set_cons_succ, i64_w, i32_w]
          rfl
         refine pure_ (i := 19) (N := some 85) (v := ?_) (a' := ?_) #[true, true, true, true, true, true, true, true, true, true, true, true, true, true, true, true, true, true, true, true, false] rfl rfl (any_of HT_.out (by kernel_rfl)) (fun _ _ _ h => h) (Or.inl ⟨by rfl, ?_⟩) ?_ ?_
         rotate_left
         ·intro w'
          go_simp
          with_reducible rfl
         rotate_left
         ·exact nrm
         refine pure_ (i := 20) (N := some 6) (v := ?_) (a' := ?_) #[true, true, true, true, true, true, true, true, true, true, true, true, true, true, true, true, true, true, true, true, true] rfl rfl (any_of HT_.out (by kernel_rfl)) (fun _ _ _ h => h) (Or.inl ⟨by rfl, ?_⟩) ?_ ?_
         rotate_left
         ·intro w'
          go_simp
          with_reducible rfl
         rotate_left
         ·exact nrm
         refine done_ (done_of HT_.out (by kernel_rfl)) ?_
         try go_wp2
         go_ret
         exact ⟨eqT, wT HB.out⟩
        ·rw [if_neg c65] at H
         have c65b0 : (t936 == t922 && (t937 == t923 && (t938 == t924))) = false := by simpa using c65
         (try (have c65b1 : decide (t936 = t922 && (t937 == t923 && (t938 == t924))) = false := by simpa using c65))
         (try (have c65b2 : (t936 == t922 && (t937 == t923 && (t938 == t924))) = false := by simpa using c65))
         (try (have c65b3 : ¬ (t936 = t922 && (t937 == t923 && (t938 == t924))) := by simpa using c65))
         clear c65
         exact absurd H (by simp)
       ·replace c63 := Bool.eq_false_iff.mpr c63
        subst c63
        have H1 : (none) = some r := by rw [if_neg (show ¬ (false = true) by decide)] at H; exact H
        clear H
        have H := H1
        clear H1
        exact absurd H (by simp)
      ·replace c62 := Bool.eq_false_iff.mpr c62
       subst c62
       have H1 : (none) = some r := by rw [if_neg (show ¬ (false = true) by decide)] at H; exact H
       clear H
       have H := H1
       clear H1
       exact absurd H (by simp)
     ·rw [if_neg c61] at H
      have c61b0 : ((wrap64 (t933 + t935)) == 0) = false := beq_eq_false_iff_ne.mpr c61
      have c61b1 : ((wrap64 (t933 + t935)) != 0) = true := bne_iff_ne.mpr c61
      exact absurd H (by simp)
    ·rw [if_neg c58] at H
     have c58b0 : (t928 == 0) = false := beq_eq_false_iff_ne.mpr c58
     have c58b1 : (t928 != 0) = true := bne_iff_ne.mpr c58
     replace H := Option.bind_eq_some_iff.mp H
     obtain ⟨t931, A890, H⟩ := H
     replace H : (some t931) = some r := H
     have A89 := mk0 A890
     clear A890
     obtain rfl := Option.some.inj H
     have hnb90 := NB897_898.out
     have hnc90 := NB898_897.out
     have X91_0 := ct BK897.out 0
     have X91_1 := ct BK897.out 1
     have X91_2 := ct BK897.out 2
     have X91_3 := ct BK897.out 3
     have X91_4 := ct BK897.out 4
     have X91_5 := ct BK897.out 5
     have X91_6 := ct BK897.out 6
     have Y91_0 := blk_frozen BK897.out 0
     have Y91_1 := blk_frozen BK897.out 1
     have Y91_2 := blk_frozen BK897.out 2
     have Y91_3 := blk_frozen BK897.out 3
     have Y91_4 := blk_frozen BK897.out 4
     have Y91_5 := blk_frozen BK897.out 5
     have Y91_6 := blk_frozen BK897.out 6
     have X92_0 := ct BK898.out 0
     have X92_1 := ct BK898.out 1
     have X92_2 := ct BK898.out 2
     have Y92_0 := blk_frozen BK898.out 0
     have Y92_1 := blk_frozen BK898.out 1
     have Y92_2 := blk_frozen BK898.out 2
     go_wp2_with (first | ((with_reducible refine gate_callee (f := 19) rfl ?_); refine goesL_ (some 46) rfl rfl Tryz.func19 (by kernel_rfl) rfl #[.agg #[.int .i64 a0_0, .int .i64 a0_1, .int .i64 a0_2, .int .i64 a0_3, .int .i64 a0_4, .int .i64 a0_5, .slice A0_6 l0_6.length c0_6], .agg #[.int .i64 a1_0, .int .i64 a1_1, .int .i64 a1_2], .int .i64 (Int.tmod (wrap64 (a2)) 6)] rfl (by (try simp only [List.map_toArray, List.map_cons, List.map_nil]); first | done | rfl | (simp only [List.length_drop, List.length_take]; rfl)) ?_; (with_reducible refine (probe_Touch.calls kj3 a0_0 a0_1 a0_2 a0_3 a0_4 a0_5 _ _ l0_6 a1_0 a1_1 a1_2 (Int.tmod (wrap64 (a2)) 6) t922 t923 t924 t925 t926 t927 t928 _ ?side1 ?side2 A57.out).mono ?_); (case side1 => repeat (first | exact (Kd.C_below HR0_6.out HB.out) | (with_reducible refine Kd.C_alloc ?_ _) | (with_reducible refine Kd.C_drewN ?_ _) | (with_reducible refine Kd.C_drew ?_))); (case side2 => exact HC0_6.out); rintro e w93 ⟨rfl, hb⟩; refine ⟨_, rfl, ?_⟩; have n0_ := mk0 (below_step (wT HB.out) hb); clear HB; have HB := n0_; clear n0_; (try clear hb); (try clear hb2); (try clear hk); (try clear hi)) | ((with_reducible refine gate_dst (N := 8) rfl ?_); refine box_event ?hg (N := 8) ?hd (cs := #[.int .i64 0, .int .i64 0, .int .i64 0]) (t := 23) ?hr ?_; (case hd => rfl); (case hg => rfl); (case hr => first | (go_simp; done) | (go_simp; rfl)); intro gb929 hg w94 hbox hb; have n0_ := mk0 (below_step (wT HB.out) hb); have n1_ := mk0 (hbox); have n2_ := mk0 ((szT HB.out hg)); have n3_ := mk0 ((szT HB.out hg)); clear HB; have HB := n0_; have BK929 := n1_; have GW929 := n2_; have GE929 := n3_; clear n0_ n1_ n2_ n3_; clear hb hbox hg) | ((with_reducible refine gate_dst (N := 9) rfl ?_); refine box_event ?hg (N := 9) ?hd (cs := #[.int .i64 0, .int .i64 0, .int .i64 0]) (t := 23) ?hr ?_; (case hd => rfl); (case hg => rfl); (case hr => first | (go_simp; done) | (go_simp; rfl)); intro gb930 hg w95 hbox hb; have n0_ := mk0 (bbT BK929.out hb); have n1_ := mk0 (below_step (wT HB.out) hb); have n2_ := mk0 (hbox); have n3_ := mk0 ((szT HB.out hg)); have n4_ := mk0 ((szT HB.out hg)); have n5_ := mk0 ((neL BK929.out hg)); have n6_ := mk0 ((neG BK929.out hg)); clear BK929; clear HB; have BK929 := n0_; have HB := n1_; have BK930 := n2_; have GW930 := n3_; have GE930 := n4_; have NB929_930 := n5_; have NB930_929 := n6_; clear n0_ n1_ n2_ n3_ n4_ n5_ n6_; clear hb hbox hg; have hnb96 := NB929_930.out; have hnc96 := NB930_929.out; have X97_0 := ct BK929.out 0; have X97_1 := ct BK929.out 1; have X97_2 := ct BK929.out 2; have Y97_0 := blk_frozen BK929.out 0; have Y97_1 := blk_frozen BK929.out 1; have Y97_2 := blk_frozen BK929.out 2; have X98_0 := ct BK930.out 0; have X98_1 := ct BK930.out 1; have X98_2 := ct BK930.out 2; have Y98_0 := blk_frozen BK930.out 0; have Y98_1 := blk_frozen BK930.out 1; have Y98_2 := blk_frozen BK930.out 2) | ((with_reducible refine gate_callee (f := 14) rfl ?_); refine goesL_ (some 52) rfl rfl Tryz.func14 (by kernel_rfl) rfl #[] rfl (by (try simp only [List.map_toArray, List.map_cons, List.map_nil]); first | done | rfl | (simp only [List.length_drop, List.length_take]; rfl)) ?_; (with_reducible refine (metrolablaw30_awake.calls kj3  t931 _ ?side1 A89.out).mono ?_); (case side1 => exact GW_below HG.out (by repeat (first | (with_reducible first | exact HB.out | apply below_alloc | apply pw_below_drewN | apply below_drew1 | refine below_set ?_ GE929.out | refine below_set ?_ GE930.out) | exact HB.out))); rintro e w99 ⟨rfl, hb⟩; refine ⟨_, rfl, ?_⟩; have n0_ := mk0 (blk_below (g := gb929) (o := .cells #[.int .i64 t922, .int .i64 t923, .int .i64 t924] 23 (0, 0)) (by (with_reducible repeat (first | refine blk_drewN ?_ _ | refine blk_drew ?_ | refine blk_alloc ?_ _)); refine blk_far ?_ NB929_930.out _; refine blk_far ?_ NB929_930.out _; refine blk_far ?_ NB929_930.out _; refine blk_put (cs := #[.int .i64 t922, .int .i64 t923, .int .i64 0]) ?_ 2 _ rfl; refine blk_put (cs := #[.int .i64 t922, .int .i64 0, .int .i64 0]) ?_ 1 _ rfl; refine blk_put (cs := #[.int .i64 0, .int .i64 0, .int .i64 0]) ?_ 0 _ rfl; (with_reducible repeat (first | refine blk_drewN ?_ _ | refine blk_drew ?_ | refine blk_alloc ?_ _)); exact BK929.out) hb); have n1_ := mk0 (blk_below (g := gb930) (o := .cells #[.int .i64 t925, .int .i64 t926, .int .i64 t927] 23 (0, 0)) (by (with_reducible repeat (first | refine blk_drewN ?_ _ | refine blk_drew ?_ | refine blk_alloc ?_ _)); refine blk_put (cs := #[.int .i64 t925, .int .i64 t926, .int .i64 0]) ?_ 2 _ rfl; refine blk_put (cs := #[.int .i64 t925, .int .i64 0, .int .i64 0]) ?_ 1 _ rfl; refine blk_put (cs := #[.int .i64 0, .int .i64 0, .int .i64 0]) ?_ 0 _ rfl; refine blk_far ?_ NB930_929.out _; refine blk_far ?_ NB930_929.out _; refine blk_far ?_ NB930_929.out _; (with_reducible repeat (first | refine blk_drewN ?_ _ | refine blk_drew ?_ | refine blk_alloc ?_ _)); exact BK930.out) hb); have n2_ := mk0 (below_step (by repeat (first | (with_reducible first | exact HB.out | apply below_alloc | apply pw_below_drewN | apply below_drew1 | refine below_set ?_ GE929.out | refine below_set ?_ GE930.out) | exact HB.out)) hb); clear BK929; clear BK930; clear HB; have BK929 := n0_; have BK930 := n1_; have HB := n2_; clear n0_ n1_ n2_; (try clear hb); (try clear hb2); (try clear hk); (try clear hi)))
     go_ret
     exact ⟨eqT, wT HB.out⟩
end Go.Proofs.YtolbjmaabghghaaGreatDoor.PA
