/- A part of the proof. -/
import Derived.Test.YtolbjmaabghghaaGreatDoorH7PAx0
import Derived.Test.YtolbjmaabghghaaGreatDoorH7PAx3
import Derived.Test.YtolbjmaabghghaaGreatDoorH7PAx16
import Derived.Test.YtolbjmaabghghaaGreatDoorH7PAx18
import Derived.Test.YtolbjmaabghghaaGreatDoorH7PAx29
import Derived.Test.YtolbjmaabghghaaGreatDoorH7PAx35
namespace Go.Proofs.YtolbjmaabghghaaGreatDoor.PA
open Go.RowKit Go.PW Go.PL Go.PM
attribute [local go_sem] max2_int min2_int max_two min_two max_three min_three max_four min_four   -- for this text's walks alone
set_option linter.unusedVariables false
set_option maxHeartbeats 8000000
set_option maxRecDepth 100000
set_option linter.unusedSimpArgs false
mutual
def metrolablaw30_ProbeTurns.j0 : Nat → Bool → Int → Int → Int → Int → Int → Int → List (S84) → Int → Int → Int → Int → Int → Option (Bool)
 | 0, _, _, _, _, _, _, _, _, _, _, _, _, _ => none
 | k + 1, x42, x941000, x941001, x941002, x941003, x941004, x941005, x941006, x942000, x942001, x942002, x943000, x943001 => if x42 = true then ((metrolablaw30_awake.f k).bind fun t964 => (some t964)) else (if ((decide (x943000 < 0)) != (decide (x943001 < 0))) = true then (metrolablaw30_ProbeTurns.j1 k x941000 x941001 x941002 x941003 x941004 x941005 x941006 x942000 x942001 x942002 (wrap64 (x942000 + (wrap64 (x943000)))) x942001 x942002 (wrap64 (x942000 + (wrap64 (x943000)))) x942001 x942002) else (metrolablaw30_ProbeTurns.j1 k x941000 x941001 x941002 x941003 x941004 x941005 x941006 x942000 x942001 x942002 (wrap64 (x942000 + (wrap64 (x943000)))) x942001 x942002 (wrap64 (x942000 + (wrap64 ((wrap64 (x943000)) + (wrap64 (x943001)))))) x942001 x942002))
def metrolablaw30_ProbeTurns.j1 : Nat → Int → Int → Int → Int → Int → Int → List (S84) → Int → Int → Int → Int → Int → Int → Int → Int → Int → Option (Bool)
 | 0, _, _, _, _, _, _, _, _, _, _, _, _, _, _, _, _ => none
 | k + 1, x941000, x941001, x941002, x941003, x941004, x941005, x941006, x942000, x942001, x942002, x966000, x966001, x966002, x967000, x967001, x967002 => (probe_Free.f k x941000 x941001 x941002 x941003 x941004 x941005 x941006 x942000 x942001 x942002 x967000 x967001 x967002).bind fun bt967 => ((probe_Free.f k x941000 x941001 x941002 x941003 x941004 x941005 x941006 x967000 x967001 x967002 x942000 x942001 x942002).bind fun bt969 => ((probe_Free.f k x941000 x941001 x941002 x941003 x941004 x941005 x941006 x942000 x942001 x942002 x966000 x966001 x966002).bind fun bt971 => ((probe_Free.f k x941000 x941001 x941002 x941003 x941004 x941005 x941006 x966000 x966001 x966002 x967000 x967001 x967002).bind fun bt973 => (if bt967.2 = 0 then (if (wrap64 ((wrap64 (bt969.2 + bt971.2)) + bt973.2)) = 0 then (if (bt967.1 == bt969.1) = true then (if bt971.1 = true then (if (bt967.1 == bt973.1) = true then ((metrolablaw30_awake.f k).bind fun t975 => (some t975)) else (none)) else (if (bt967.1 == false) = true then ((metrolablaw30_awake.f k).bind fun t976 => (some t976)) else (none))) else (none)) else (none)) else (if bt967.2 = bt969.2 then ((metrolablaw30_awake.f k).bind fun t977 => (some t977)) else (none))))))
end
def metrolablaw30_ProbeTurns.f (k : Nat) (a0_0 : Int) (a0_1 : Int) (a0_2 : Int) (a0_3 : Int) (a0_4 : Int) (a0_5 : Int) (l0_6 : List (S84)) (a1_0 : Int) (a1_1 : Int) (a1_2 : Int) (a2_0 : Int) (a2_1 : Int) : Option (Bool) := (metrolablaw30_own.f k a0_0 a0_1 a0_2 a0_3 a0_4 a0_5 l0_6).bind fun bt943 => ((metrolabref30_Few.f bt943.1 bt943.2.1 bt943.2.2.1 bt943.2.2.2.1 bt943.2.2.2.2.1 bt943.2.2.2.2.2.1 bt943.2.2.2.2.2.2).bind fun t952 => (if t952 = true then ((metrolablaw30_own.f k a0_0 a0_1 a0_2 a0_3 a0_4 a0_5 l0_6).bind fun bt953 => ((metrolabref30_Check.f k bt953.1 bt953.2.1 bt953.2.2.1 bt953.2.2.2.1 bt953.2.2.2.2.1 bt953.2.2.2.2.2.1 bt953.2.2.2.2.2.2).bind fun t962 => (if t962 = 0 then ((metrolabref30_Near.f a1_0 a1_1 a1_2 a1_0 a1_1 a1_2).bind fun t963 => (if t963 = true then (if a1_0 > 1000 then (metrolablaw30_ProbeTurns.j0 k true a0_0 a0_1 a0_2 a0_3 a0_4 a0_5 l0_6 a1_0 a1_1 a1_2 a2_0 a2_1) else (metrolablaw30_ProbeTurns.j0 k (decide (a1_0 < (-1000))) a0_0 a0_1 a0_2 a0_3 a0_4 a0_5 l0_6 a1_0 a1_1 a1_2 a2_0 a2_1)) else (metrolablaw30_ProbeTurns.j0 k true a0_0 a0_1 a0_2 a0_3 a0_4 a0_5 l0_6 a1_0 a1_1 a1_2 a2_0 a2_1))) else (metrolablaw30_ProbeTurns.j0 k true a0_0 a0_1 a0_2 a0_3 a0_4 a0_5 l0_6 a1_0 a1_1 a1_2 a2_0 a2_1)))) else (metrolablaw30_ProbeTurns.j0 k true a0_0 a0_1 a0_2 a0_3 a0_4 a0_5 l0_6 a1_0 a1_1 a1_2 a2_0 a2_1)))
def metrolablaw30_ProbeTurns.T3 : Bool × List (List Nat × List Nat) := (true, [([], []), ([], []), ([], []), ([], []), ([2, 0, 0, 2, 3], [0, 2]), ([3, 1, 4, 0, 1, 2, 3, 4], [1, 3])])
def metrolablaw30_ProbeTurns.B3 : List Nat := [0, 0, 0, 0, 13, 31]
theorem metrolablaw30_ProbeTurns.tab3 : rtab .any (opsOf Tryz.f11 3) = metrolablaw30_ProbeTurns.T3 := by kernel_rfl
theorem metrolablaw30_ProbeTurns.bits3 : waitsOk metrolablaw30_ProbeTurns.T3.2 metrolablaw30_ProbeTurns.B3 = true := by kernel_rfl
theorem metrolablaw30_ProbeTurns.calls (k : Nat) (a0_0 : Int) (a0_1 : Int) (a0_2 : Int) (a0_3 : Int) (a0_4 : Int) (a0_5 : Int) (A0_6 : Option Addr) (c0_6 : Nat) (l0_6 : List (S84)) (a1_0 : Int) (a1_1 : Int) (a1_2 : Int) (a2_0 : Int) (a2_1 : Int) (r : Bool) (w : World) (hG : GW w) (hr0_6 : Kd.C k84 w A0_6 l0_6.length l0_6) (hc0_6 : l0_6.length ≤ c0_6) (h : metrolablaw30_ProbeTurns.f k a0_0 a0_1 a0_2 a0_3 a0_4 a0_5 l0_6 a1_0 a1_1 a1_2 a2_0 a2_1 = some r) :
  Calls Tryz.prog 11 #[.agg #[.int .i64 a0_0, .int .i64 a0_1, .int .i64 a0_2, .int .i64 a0_3, .int .i64 a0_4, .int .i64 a0_5, .slice A0_6 l0_6.length c0_6], .agg #[.int .i64 a1_0, .int .i64 a1_1, .int .i64 a1_2], .agg #[.int .i8 a2_0, .int .i8 a2_1]] w fun e w' => e = .returned (.bool r) ∧ Below w.heap.size w w' := by
 have hu26 := Tryz.underlying26
 have hu23 := Tryz.underlying23
 have hu90 := Tryz.underlying90
 have HG := mk0 hG
 clear hG
 have HR0_6 := mk0 hr0_6
 have HC0_6 := mk0 hc0_6
 clear hr0_6 hc0_6
 have HB := mk0 (Below.refl w.heap.size w)
 have H : ((metrolablaw30_own.f k a0_0 a0_1 a0_2 a0_3 a0_4 a0_5 l0_6).bind fun bt943 => ((metrolabref30_Few.f bt943.1 bt943.2.1 bt943.2.2.1 bt943.2.2.2.1 bt943.2.2.2.2.1 bt943.2.2.2.2.2.1 bt943.2.2.2.2.2.2).bind fun t952 => (if t952 = true then ((metrolablaw30_own.f k a0_0 a0_1 a0_2 a0_3 a0_4 a0_5 l0_6).bind fun bt953 => ((metrolabref30_Check.f k bt953.1 bt953.2.1 bt953.2.2.1 bt953.2.2.2.1 bt953.2.2.2.2.1 bt953.2.2.2.2.2.1 bt953.2.2.2.2.2.2).bind fun t962 => (if t962 = 0 then ((metrolabref30_Near.f a1_0 a1_1 a1_2 a1_0 a1_1 a1_2).bind fun t963 => (if t963 = true then (if a1_0 > 1000 then (metrolablaw30_ProbeTurns.j0 k true a0_0 a0_1 a0_2 a0_3 a0_4 a0_5 l0_6 a1_0 a1_1 a1_2 a2_0 a2_1) else (metrolablaw30_ProbeTurns.j0 k (decide (a1_0 < (-1000))) a0_0 a0_1 a0_2 a0_3 a0_4 a0_5 l0_6 a1_0 a1_1 a1_2 a2_0 a2_1)) else (metrolablaw30_ProbeTurns.j0 k true a0_0 a0_1 a0_2 a0_3 a0_4 a0_5 l0_6 a1_0 a1_1 a1_2 a2_0 a2_1))) else (metrolablaw30_ProbeTurns.j0 k true a0_0 a0_1 a0_2 a0_3 a0_4 a0_5 l0_6 a1_0 a1_1 a1_2 a2_0 a2_1)))) else (metrolablaw30_ProbeTurns.j0 k true a0_0 a0_1 a0_2 a0_3 a0_4 a0_5 l0_6 a1_0 a1_1 a1_2 a2_0 a2_1)))) = some r := h
 clear h
 have HC4 := mk0 H
 clear H
 go_enter Tryz.func11, Tryz.ntmps11
 go_upto_region 1 with (first | ((with_reducible refine gate_dst (N := 3) rfl ?_); refine box_event ?hg (N := 3) ?hd (cs := #[.int .i64 a0_0, .int .i64 a0_1, .int .i64 a0_2, .int .i64 a0_3, .int .i64 a0_4, .int .i64 a0_5, .slice A0_6 l0_6.length c0_6]) (t := 26) ?hr ?_; (case hd => rfl); (case hg => rfl); (case hr => first | (go_simp; done) | (go_simp; rfl)); intro gb940 hg w5 hbox hb; have n0_ := mk0 (below_step (wT HB.out) hb); have n1_ := mk0 (hbox); have n2_ := mk0 ((szT HB.out hg)); have n3_ := mk0 ((szT HB.out hg)); clear HB; have HB := n0_; have BK940 := n1_; have GW940 := n2_; have GE940 := n3_; clear n0_ n1_ n2_ n3_; clear hb hbox hg) | ((with_reducible refine gate_dst (N := 4) rfl ?_); refine box_event ?hg (N := 4) ?hd (cs := #[.int .i64 a1_0, .int .i64 a1_1, .int .i64 a1_2]) (t := 23) ?hr ?_; (case hd => rfl); (case hg => rfl); (case hr => first | (go_simp; done) | (go_simp; rfl)); intro gb941 hg w6 hbox hb; have n0_ := mk0 (bbT BK940.out hb); have n1_ := mk0 (below_step (wT HB.out) hb); have n2_ := mk0 (hbox); have n3_ := mk0 ((szT HB.out hg)); have n4_ := mk0 ((szT HB.out hg)); have n5_ := mk0 ((neL BK940.out hg)); have n6_ := mk0 ((neG BK940.out hg)); clear BK940; clear HB; have BK940 := n0_; have HB := n1_; have BK941 := n2_; have GW941 := n3_; have GE941 := n4_; have NB940_941 := n5_; have NB941_940 := n6_; clear n0_ n1_ n2_ n3_ n4_ n5_ n6_; clear hb hbox hg) | ((with_reducible refine gate_dst (N := 5) rfl ?_); refine box_event ?hg (N := 5) ?hd (cs := #[.int .i8 a2_0, .int .i8 a2_1]) (t := 90) ?hr ?_; (case hd => rfl); (case hg => rfl); (case hr => first | (go_simp; done) | (go_simp; rfl)); intro gb942 hg w7 hbox hb; have n0_ := mk0 (bbT BK940.out hb); have n1_ := mk0 (bbT BK941.out hb); have n2_ := mk0 (below_step (wT HB.out) hb); have n3_ := mk0 (hbox); have n4_ := mk0 ((szT HB.out hg)); have n5_ := mk0 ((szT HB.out hg)); have n6_ := mk0 ((neL BK940.out hg)); have n7_ := mk0 ((neG BK940.out hg)); have n8_ := mk0 ((neL BK941.out hg)); have n9_ := mk0 ((neG BK941.out hg)); clear BK940; clear BK941; clear HB; have BK940 := n0_; have BK941 := n1_; have HB := n2_; have BK942 := n3_; have GW942 := n4_; have GE942 := n5_; have NB940_942 := n6_; have NB942_940 := n7_; have NB941_942 := n8_; have NB942_941 := n9_; clear n0_ n1_ n2_ n3_ n4_ n5_ n6_ n7_ n8_ n9_; clear hb hbox hg))
 (try simp only [Act.put, List.setIfInBounds_toArray, List.set_cons_zero, List.set_cons_succ])
 go_cut [42] (fun v42 wc => ∃ (kq : Nat) (x42_3 : Bool), v42 = .bool x42_3 ∧ Aside0 (metrolablaw30_ProbeTurns.j0 kq x42_3 a0_0 a0_1 a0_2 a0_3 a0_4 a0_5 l0_6 a1_0 a1_1 a1_2 a2_0 a2_1 = some r) ∧ Aside0 (kq ≤ k) ∧ Aside0 (wc.heap[gb940]? = some (.cells #[.int .i64 a0_0, .int .i64 a0_1, .int .i64 a0_2, .int .i64 a0_3, .int .i64 a0_4, .int .i64 a0_5, (.slice A0_6 l0_6.length c0_6)] 26 (0, 0))) ∧ Aside0 (wc.heap[gb941]? = some (.cells #[.int .i64 a1_0, .int .i64 a1_1, .int .i64 a1_2] 23 (0, 0))) ∧ Aside0 (wc.heap[gb942]? = some (.cells #[.int .i8 a2_0, .int .i8 a2_1] 90 (0, 0))) ∧ Aside0 (Below w.heap.size w wc))
 case first =>
  have H := HC4.out
  clear HC4
  replace H := Option.bind_eq_some_iff.mp H
  obtain ⟨⟨t943, t944, t945, t946, t947, t948, t949⟩, A80, H⟩ := H
  replace H : ((metrolabref30_Few.f t943 t944 t945 t946 t947 t948 t949).bind fun t952 => (if t952 = true then ((metrolablaw30_own.f k a0_0 a0_1 a0_2 a0_3 a0_4 a0_5 l0_6).bind fun bt953 => ((metrolabref30_Check.f k bt953.1 bt953.2.1 bt953.2.2.1 bt953.2.2.2.1 bt953.2.2.2.2.1 bt953.2.2.2.2.2.1 bt953.2.2.2.2.2.2).bind fun t962 => (if t962 = 0 then ((metrolabref30_Near.f a1_0 a1_1 a1_2 a1_0 a1_1 a1_2).bind fun t963 => (if t963 = true then (if a1_0 > 1000 then (metrolablaw30_ProbeTurns.j0 k true a0_0 a0_1 a0_2 a0_3 a0_4 a0_5 l0_6 a1_0 a1_1 a1_2 a2_0 a2_1) else (metrolablaw30_ProbeTurns.j0 k (decide (a1_0 < (-1000))) a0_0 a0_1 a0_2 a0_3 a0_4 a0_5 l0_6 a1_0 a1_1 a1_2 a2_0 a2_1)) else (metrolablaw30_ProbeTurns.j0 k true a0_0 a0_1 a0_2 a0_3 a0_4 a0_5 l0_6 a1_0 a1_1 a1_2 a2_0 a2_1))) else (metrolablaw30_ProbeTurns.j0 k true a0_0 a0_1 a0_2 a0_3 a0_4 a0_5 l0_6 a1_0 a1_1 a1_2 a2_0 a2_1)))) else (metrolablaw30_ProbeTurns.j0 k true a0_0 a0_1 a0_2 a0_3 a0_4 a0_5 l0_6 a1_0 a1_1 a1_2 a2_0 a2_1))) = some r := H
  have A8 := mk0 A80
  clear A80
  replace H := Option.bind_eq_some_iff.mp H
  obtain ⟨t952, A90, H⟩ := H
  replace H : (if t952 = true then ((metrolablaw30_own.f k a0_0 a0_1 a0_2 a0_3 a0_4 a0_5 l0_6).bind fun bt953 => ((metrolabref30_Check.f k bt953.1 bt953.2.1 bt953.2.2.1 bt953.2.2.2.1 bt953.2.2.2.2.1 bt953.2.2.2.2.2.1 bt953.2.2.2.2.2.2).bind fun t962 => (if t962 = 0 then ((metrolabref30_Near.f a1_0 a1_1 a1_2 a1_0 a1_1 a1_2).bind fun t963 => (if t963 = true then (if a1_0 > 1000 then (metrolablaw30_ProbeTurns.j0 k true a0_0 a0_1 a0_2 a0_3 a0_4 a0_5 l0_6 a1_0 a1_1 a1_2 a2_0 a2_1) else (metrolablaw30_ProbeTurns.j0 k (decide (a1_0 < (-1000))) a0_0 a0_1 a0_2 a0_3 a0_4 a0_5 l0_6 a1_0 a1_1 a1_2 a2_0 a2_1)) else (metrolablaw30_ProbeTurns.j0 k true a0_0 a0_1 a0_2 a0_3 a0_4 a0_5 l0_6 a1_0 a1_1 a1_2 a2_0 a2_1))) else (metrolablaw30_ProbeTurns.j0 k true a0_0 a0_1 a0_2 a0_3 a0_4 a0_5 l0_6 a1_0 a1_1 a1_2 a2_0 a2_1)))) else (metrolablaw30_ProbeTurns.j0 k true a0_0 a0_1 a0_2 a0_3 a0_4 a0_5 l0_6 a1_0 a1_1 a1_2 a2_0 a2_1)) = some r := H
  have A9 := mk0 A90
  clear A90
  by_cases c10 : t952 = true
  ·subst c10
   have H1 : ((metrolablaw30_own.f k a0_0 a0_1 a0_2 a0_3 a0_4 a0_5 l0_6).bind fun bt953 => ((metrolabref30_Check.f k bt953.1 bt953.2.1 bt953.2.2.1 bt953.2.2.2.1 bt953.2.2.2.2.1 bt953.2.2.2.2.2.1 bt953.2.2.2.2.2.2).bind fun t962 => (if t962 = 0 then ((metrolabref30_Near.f a1_0 a1_1 a1_2 a1_0 a1_1 a1_2).bind fun t963 => (if t963 = true then (if a1_0 > 1000 then (metrolablaw30_ProbeTurns.j0 k true a0_0 a0_1 a0_2 a0_3 a0_4 a0_5 l0_6 a1_0 a1_1 a1_2 a2_0 a2_1) else (metrolablaw30_ProbeTurns.j0 k (decide (a1_0 < (-1000))) a0_0 a0_1 a0_2 a0_3 a0_4 a0_5 l0_6 a1_0 a1_1 a1_2 a2_0 a2_1)) else (metrolablaw30_ProbeTurns.j0 k true a0_0 a0_1 a0_2 a0_3 a0_4 a0_5 l0_6 a1_0 a1_1 a1_2 a2_0 a2_1))) else (metrolablaw30_ProbeTurns.j0 k true a0_0 a0_1 a0_2 a0_3 a0_4 a0_5 l0_6 a1_0 a1_1 a1_2 a2_0 a2_1)))) = some r := by rw [if_pos rfl] at H; exact H
   clear H
   have H := H1
   clear H1
   replace H := Option.bind_eq_some_iff.mp H
   obtain ⟨⟨t953, t954, t955, t956, t957, t958, t959⟩, A110, H⟩ := H
   replace H : ((metrolabref30_Check.f k t953 t954 t955 t956 t957 t958 t959).bind fun t962 => (if t962 = 0 then ((metrolabref30_Near.f a1_0 a1_1 a1_2 a1_0 a1_1 a1_2).bind fun t963 => (if t963 = true then (if a1_0 > 1000 then (metrolablaw30_ProbeTurns.j0 k true a0_0 a0_1 a0_2 a0_3 a0_4 a0_5 l0_6 a1_0 a1_1 a1_2 a2_0 a2_1) else (metrolablaw30_ProbeTurns.j0 k (decide (a1_0 < (-1000))) a0_0 a0_1 a0_2 a0_3 a0_4 a0_5 l0_6 a1_0 a1_1 a1_2 a2_0 a2_1)) else (metrolablaw30_ProbeTurns.j0 k true a0_0 a0_1 a0_2 a0_3 a0_4 a0_5 l0_6 a1_0 a1_1 a1_2 a2_0 a2_1))) else (metrolablaw30_ProbeTurns.j0 k true a0_0 a0_1 a0_2 a0_3 a0_4 a0_5 l0_6 a1_0 a1_1 a1_2 a2_0 a2_1))) = some r := H
   have A11 := mk0 A110
   clear A110
   replace H := Option.bind_eq_some_iff.mp H
   obtain ⟨t962, A120, H⟩ := H
   replace H : (if t962 = 0 then ((metrolabref30_Near.f a1_0 a1_1 a1_2 a1_0 a1_1 a1_2).bind fun t963 => (if t963 = true then (if a1_0 > 1000 then (metrolablaw30_ProbeTurns.j0 k true a0_0 a0_1 a0_2 a0_3 a0_4 a0_5 l0_6 a1_0 a1_1 a1_2 a2_0 a2_1) else (metrolablaw30_ProbeTurns.j0 k (decide (a1_0 < (-1000))) a0_0 a0_1 a0_2 a0_3 a0_4 a0_5 l0_6 a1_0 a1_1 a1_2 a2_0 a2_1)) else (metrolablaw30_ProbeTurns.j0 k true a0_0 a0_1 a0_2 a0_3 a0_4 a0_5 l0_6 a1_0 a1_1 a1_2 a2_0 a2_1))) else (metrolablaw30_ProbeTurns.j0 k true a0_0 a0_1 a0_2 a0_3 a0_4 a0_5 l0_6 a1_0 a1_1 a1_2 a2_0 a2_1)) = some r := H
   have A12 := mk0 A120
   clear A120
   by_cases c13 : t962 = 0
   ·rw [if_pos c13] at H
    have c13b0 : (t962 == 0) = true := beq_iff_eq.mpr c13
    have c13b1 : (t962 != 0) = false := bne_eq_false_iff_eq.mpr c13
    clear c13
    (first | rw [c13b0] | (simp only [i64_w, i32_w]; rw [c13b0]) | skip)
    replace H := Option.bind_eq_some_iff.mp H
    obtain ⟨t963, A140, H⟩ := H
    replace H : (if t963 = true then (if a1_0 > 1000 then (metrolablaw30_ProbeTurns.j0 k true a0_0 a0_1 a0_2 a0_3 a0_4 a0_5 l0_6 a1_0 a1_1 a1_2 a2_0 a2_1) else (metrolablaw30_ProbeTurns.j0 k (decide (a1_0 < (-1000))) a0_0 a0_1 a0_2 a0_3 a0_4 a0_5 l0_6 a1_0 a1_1 a1_2 a2_0 a2_1)) else (metrolablaw30_ProbeTurns.j0 k true a0_0 a0_1 a0_2 a0_3 a0_4 a0_5 l0_6 a1_0 a1_1 a1_2 a2_0 a2_1)) = some r := H
    have A14 := mk0 A140
    clear A140
    by_cases c15 : t963 = true
    ·subst c15
     have H1 : (if a1_0 > 1000 then (metrolablaw30_ProbeTurns.j0 k true a0_0 a0_1 a0_2 a0_3 a0_4 a0_5 l0_6 a1_0 a1_1 a1_2 a2_0 a2_1) else (metrolablaw30_ProbeTurns.j0 k (decide (a1_0 < (-1000))) a0_0 a0_1 a0_2 a0_3 a0_4 a0_5 l0_6 a1_0 a1_1 a1_2 a2_0 a2_1)) = some r := by rw [if_pos rfl] at H; exact H
     clear H
     have H := H1
     clear H1
     by_cases c16 : a1_0 > 1000
     ·rw [if_pos c16] at H
      have c16b0 : decide (1000 < a1_0) = true := decide_eq_true c16
      clear c16
      have H' := mk0 H
      clear H
      have hnb17 := NB940_941.out
      have hnc17 := NB941_940.out
      have hnb18 := NB940_942.out
      have hnc18 := NB942_940.out
      have X19_0 := ct BK940.out 0
      have X19_1 := ct BK940.out 1
      have X19_2 := ct BK940.out 2
      have X19_3 := ct BK940.out 3
      have X19_4 := ct BK940.out 4
      have X19_5 := ct BK940.out 5
      have X19_6 := ct BK940.out 6
      have Y19_0 := blk_frozen BK940.out 0
      have Y19_1 := blk_frozen BK940.out 1
      have Y19_2 := blk_frozen BK940.out 2
      have Y19_3 := blk_frozen BK940.out 3
      have Y19_4 := blk_frozen BK940.out 4
      have Y19_5 := blk_frozen BK940.out 5
      have Y19_6 := blk_frozen BK940.out 6
      go_wp2_with (first | ((with_reducible refine gate_callee (f := 13) rfl ?_); refine goesL_ (some 18) rfl rfl Tryz.func13 (by kernel_rfl) rfl #[.agg #[.int .i64 a0_0, .int .i64 a0_1, .int .i64 a0_2, .int .i64 a0_3, .int .i64 a0_4, .int .i64 a0_5, .slice A0_6 l0_6.length c0_6]] rfl (by (try simp only [List.map_toArray, List.map_cons, List.map_nil]); first | done | rfl | (simp only [List.length_drop, List.length_take]; rfl)) ?_; (with_reducible refine (metrolablaw30_own.calls k a0_0 a0_1 a0_2 a0_3 a0_4 a0_5 _ _ l0_6 t943 t944 t945 t946 t947 t948 t949 _ ?side1 ?side2 A8.out).mono ?_); (case side1 => repeat (first | exact (Kd.C_below HR0_6.out HB.out) | (with_reducible refine Kd.C_alloc ?_ _) | (with_reducible refine Kd.C_drewN ?_ _) | (with_reducible refine Kd.C_drew ?_))); (case side2 => exact HC0_6.out); rintro e w20 ⟨v950, rfl, ho0, hb⟩; refine ⟨_, rfl, ?_⟩; have n0_ := mk0 (Kd.R_lower ho0 (below_size (wT HB.out))); have n1_ := mk0 (bbT BK940.out hb); have n2_ := mk0 (bbT BK941.out hb); have n3_ := mk0 (bbT BK942.out hb); have n4_ := mk0 (below_step (wT HB.out) hb); clear BK940; clear BK941; clear BK942; clear HB; have HO951 := n0_; have BK940 := n1_; have BK941 := n2_; have BK942 := n3_; have HB := n4_; clear n0_ n1_ n2_ n3_ n4_; (try clear hb); (try clear hb2); (try clear hk); (try clear hi); (try clear ho0); obtain ⟨Ao21, co21, eo21⟩ := Kd.R_slice HO951.out; subst eo21) | ((with_reducible refine gate_callee (f := 12) rfl ?_); refine goesL_ (some 19) rfl rfl Tryz.func12 (by kernel_rfl) rfl #[.agg #[.int .i64 t943, .int .i64 t944, .int .i64 t945, .int .i64 t946, .int .i64 t947, .int .i64 t948, .slice Ao21 t949.length co21]] rfl (by (try simp only [List.map_toArray, List.map_cons, List.map_nil]); first | done | rfl | (simp only [List.length_drop, List.length_take]; rfl)) ?_; (with_reducible refine (metrolabref30_Few.calls t943 t944 t945 t946 t947 t948 _ _ t949 true _ ?side1 ?side2 A9.out).mono ?_); (case side1 => repeat (first | exact (Kd.R_reads' HO951.out).2.2 | (with_reducible refine Kd.C_alloc ?_ _) | (with_reducible refine Kd.C_drewN ?_ _) | (with_reducible refine Kd.C_drew ?_))); (case side2 => exact (Kd.R_reads' HO951.out).2.1); rintro e w22 ⟨rfl, hb⟩; refine ⟨_, rfl, ?_⟩; have n0_ := mk0 (Kd.R_below (rT HO951.out) hb); have n1_ := mk0 (bbT BK940.out hb); have n2_ := mk0 (bbT BK941.out hb); have n3_ := mk0 (bbT BK942.out hb); have n4_ := mk0 (below_step (wT HB.out) hb); clear HO951; clear BK940; clear BK941; clear BK942; clear HB; have HO951 := n0_; have BK940 := n1_; have BK941 := n2_; have BK942 := n3_; have HB := n4_; clear n0_ n1_ n2_ n3_ n4_; (try clear hb); (try clear hb2); (try clear hk); (try clear hi); have X23_0 := ct BK940.out 0; have X23_1 := ct BK940.out 1; have X23_2 := ct BK940.out 2; have X23_3 := ct BK940.out 3; have X23_4 := ct BK940.out 4; have X23_5 := ct BK940.out 5; have X23_6 := ct BK940.out 6; have Y23_0 := blk_frozen BK940.out 0; have Y23_1 := blk_frozen BK940.out 1; have Y23_2 := blk_frozen BK940.out 2; have Y23_3 := blk_frozen BK940.out 3; have Y23_4 := blk_frozen BK940.out 4; have Y23_5 := blk_frozen BK940.out 5; have Y23_6 := blk_frozen BK940.out 6) | (go_at_call 13; (with_reducible refine (metrolablaw30_own.calls k a0_0 a0_1 a0_2 a0_3 a0_4 a0_5 _ _ l0_6 t953 t954 t955 t956 t957 t958 t959 _ ?side1 ?side2 A11.out).mono ?_); (case side1 => repeat (first | exact (Kd.C_below HR0_6.out HB.out) | (with_reducible refine Kd.C_alloc ?_ _) | (with_reducible refine Kd.C_drewN ?_ _) | (with_reducible refine Kd.C_drew ?_))); (case side2 => exact HC0_6.out); rintro e w24 ⟨v960, rfl, ho0, hb⟩; have n0_ := mk0 (Kd.R_elder' (rT HO951.out) (Kd.R_base ho0) hb); have n1_ := mk0 (Kd.R_lower (Kd.R_new' ho0 (Kd.R_lt (rT HO951.out))) (below_size (wT HB.out))); have n2_ := mk0 (bbT BK940.out hb); have n3_ := mk0 (bbT BK941.out hb); have n4_ := mk0 (bbT BK942.out hb); have n5_ := mk0 (below_step (wT HB.out) hb); clear HO951; clear BK940; clear BK941; clear BK942; clear HB; have HO951 := n0_; have HO961 := n1_; have BK940 := n2_; have BK941 := n3_; have BK942 := n4_; have HB := n5_; clear n0_ n1_ n2_ n3_ n4_ n5_; (try clear hb); (try clear hb2); (try clear hk); (try clear hi); (try clear ho0); obtain ⟨Ao25, co25, eo25⟩ := Kd.R_slice HO961.out; subst eo25) | (go_at_call 18; (with_reducible refine (metrolabref30_Check.calls k t953 t954 t955 t956 t957 t958 _ _ t959 t962 _ ?side1 ?side2 A12.out).mono ?_); (case side1 => repeat (first | exact (Kd.R_reads' HO961.out).2.2 | (with_reducible refine Kd.C_alloc ?_ _) | (with_reducible refine Kd.C_drewN ?_ _) | (with_reducible refine Kd.C_drew ?_))); (case side2 => exact (Kd.R_reads' HO961.out).2.1); rintro e w26 ⟨rfl, hb⟩; have n0_ := mk0 (Kd.R_below (rT HO951.out) hb); have n1_ := mk0 (Kd.R_below (rT HO961.out) hb); have n2_ := mk0 (bbT BK940.out hb); have n3_ := mk0 (bbT BK941.out hb); have n4_ := mk0 (bbT BK942.out hb); have n5_ := mk0 (below_step (wT HB.out) hb); clear HO951; clear HO961; clear BK940; clear BK941; clear BK942; clear HB; have HO951 := n0_; have HO961 := n1_; have BK940 := n2_; have BK941 := n3_; have BK942 := n4_; have HB := n5_; clear n0_ n1_ n2_ n3_ n4_ n5_; (try clear hb); (try clear hb2); (try clear hk); (try clear hi); have hnb27 := NB941_942.out; have hnc27 := NB942_941.out; have X28_0 := ct BK941.out 0; have X28_1 := ct BK941.out 1; have X28_2 := ct BK941.out 2; have Y28_0 := blk_frozen BK941.out 0; have Y28_1 := blk_frozen BK941.out 1; have Y28_2 := blk_frozen BK941.out 2) | (go_at_call 27; (with_reducible refine (metrolabref30_Near.calls a1_0 a1_1 a1_2 a1_0 a1_1 a1_2 true _ A14.out).mono ?_); rintro e w29 ⟨rfl, hb⟩; have n0_ := mk0 (Kd.R_below (rT HO951.out) hb); have n1_ := mk0 (Kd.R_below (rT HO961.out) hb); have n2_ := mk0 (bbT BK940.out hb); have n3_ := mk0 (bbT BK941.out hb); have n4_ := mk0 (bbT BK942.out hb); have n5_ := mk0 (below_step (wT HB.out) hb); clear HO951; clear HO961; clear BK940; clear BK941; clear BK942; clear HB; have HO951 := n0_; have HO961 := n1_; have BK940 := n2_; have BK941 := n3_; have BK942 := n4_; have HB := n5_; clear n0_ n1_ n2_ n3_ n4_ n5_; (try clear hb); (try clear hb2); (try clear hk); (try clear hi); have X30_0 := ct BK941.out 0; have X30_1 := ct BK941.out 1; have X30_2 := ct BK941.out 2; have Y30_0 := blk_frozen BK941.out 0; have Y30_1 := blk_frozen BK941.out 1; have Y30_2 := blk_frozen BK941.out 2))
      go_meet
      case rel => exact ⟨_, (true), (by first | rfl | (simp; done) | (simp [*]; done) | exact congrArg (Value.int .i64) (by unfold wrap64; omega)), H', ⟨by first | omega | exact Nat.le_refl _⟩, ⟨bT BK940.out⟩, ⟨bT BK941.out⟩, ⟨bT BK942.out⟩, ⟨wT HB.out⟩⟩
     ·rw [if_neg c16] at H
      have c16b0 : decide (1000 < a1_0) = false := decide_eq_false c16
      clear c16
      have H' := mk0 H
      clear H
      have hnb31 := NB940_941.out
      have hnc31 := NB941_940.out
      have hnb32 := NB940_942.out
      have hnc32 := NB942_940.out
      have X33_0 := ct BK940.out 0
      have X33_1 := ct BK940.out 1
      have X33_2 := ct BK940.out 2
      have X33_3 := ct BK940.out 3
      have X33_4 := ct BK940.out 4
      have X33_5 := ct BK940.out 5
      have X33_6 := ct BK940.out 6
      have Y33_0 := blk_frozen BK940.out 0
      have Y33_1 := blk_frozen BK940.out 1
      have Y33_2 := blk_frozen BK940.out 2
      have Y33_3 := blk_frozen BK940.out 3
      have Y33_4 := blk_frozen BK940.out 4
      have Y33_5 := blk_frozen BK940.out 5
      have Y33_6 := blk_frozen BK940.out 6
      go_wp2_with (first | ((with_reducible refine gate_callee (f := 13) rfl ?_); refine goesL_ (some 18) rfl rfl Tryz.func13 (by kernel_rfl) rfl #[.agg #[.int .i64 a0_0, .int .i64 a0_1, .int .i64 a0_2, .int .i64 a0_3, .int .i64 a0_4, .int .i64 a0_5, .slice A0_6 l0_6.length c0_6]] rfl (by (try simp only [List.map_toArray, List.map_cons, List.map_nil]); first | done | rfl | (simp only [List.length_drop, List.length_take]; rfl)) ?_; (with_reducible refine (metrolablaw30_own.calls k a0_0 a0_1 a0_2 a0_3 a0_4 a0_5 _ _ l0_6 t943 t944 t945 t946 t947 t948 t949 _ ?side1 ?side2 A8.out).mono ?_); (case side1 => repeat (first | exact (Kd.C_below HR0_6.out HB.out) | (with_reducible refine Kd.C_alloc ?_ _) | (with_reducible refine Kd.C_drewN ?_ _) | (with_reducible refine Kd.C_drew ?_))); (case side2 => exact HC0_6.out); rintro e w34 ⟨v950, rfl, ho0, hb⟩; refine ⟨_, rfl, ?_⟩; have n0_ := mk0 (Kd.R_lower ho0 (below_size (wT HB.out))); have n1_ := mk0 (bbT BK940.out hb); have n2_ := mk0 (bbT BK941.out hb); have n3_ := mk0 (bbT BK942.out hb); have n4_ := mk0 (below_step (wT HB.out) hb); clear BK940; clear BK941; clear BK942; clear HB; have HO951 := n0_; have BK940 := n1_; have BK941 := n2_; have BK942 := n3_; have HB := n4_; clear n0_ n1_ n2_ n3_ n4_; (try clear hb); (try clear hb2); (try clear hk); (try clear hi); (try clear ho0); obtain ⟨Ao35, co35, eo35⟩ := Kd.R_slice HO951.out; subst eo35) | ((with_reducible refine gate_callee (f := 12) rfl ?_); refine goesL_ (some 19) rfl rfl Tryz.func12 (by kernel_rfl) rfl #[.agg #[.int .i64 t943, .int .i64 t944, .int .i64 t945, .int .i64 t946, .int .i64 t947, .int .i64 t948, .slice Ao35 t949.length co35]] rfl (by (try simp only [List.map_toArray, List.map_cons, List.map_nil]); first | done | rfl | (simp only [List.length_drop, List.length_take]; rfl)) ?_; (with_reducible refine (metrolabref30_Few.calls t943 t944 t945 t946 t947 t948 _ _ t949 true _ ?side1 ?side2 A9.out).mono ?_); (case side1 => repeat (first | exact (Kd.R_reads' HO951.out).2.2 | (with_reducible refine Kd.C_alloc ?_ _) | (with_reducible refine Kd.C_drewN ?_ _) | (with_reducible refine Kd.C_drew ?_))); (case side2 => exact (Kd.R_reads' HO951.out).2.1); rintro e w36 ⟨rfl, hb⟩; refine ⟨_, rfl, ?_⟩; have n0_ := mk0 (Kd.R_below (rT HO951.out) hb); have n1_ := mk0 (bbT BK940.out hb); have n2_ := mk0 (bbT BK941.out hb); have n3_ := mk0 (bbT BK942.out hb); have n4_ := mk0 (below_step (wT HB.out) hb); clear HO951; clear BK940; clear BK941; clear BK942; clear HB; have HO951 := n0_; have BK940 := n1_; have BK941 := n2_; have BK942 := n3_; have HB := n4_; clear n0_ n1_ n2_ n3_ n4_; (try clear hb); (try clear hb2); (try clear hk); (try clear hi); have X37_0 := ct BK940.out 0; have X37_1 := ct BK940.out 1; have X37_2 := ct BK940.out 2; have X37_3 := ct BK940.out 3; have X37_4 := ct BK940.out 4; have X37_5 := ct BK940.out 5; have X37_6 := ct BK940.out 6; have Y37_0 := blk_frozen BK940.out 0; have Y37_1 := blk_frozen BK940.out 1; have Y37_2 := blk_frozen BK940.out 2; have Y37_3 := blk_frozen BK940.out 3; have Y37_4 := blk_frozen BK940.out 4; have Y37_5 := blk_frozen BK940.out 5; have Y37_6 := blk_frozen BK940.out 6) | (go_at_call 13; (with_reducible refine (metrolablaw30_own.calls k a0_0 a0_1 a0_2 a0_3 a0_4 a0_5 _ _ l0_6 t953 t954 t955 t956 t957 t958 t959 _ ?side1 ?side2 A11.out).mono ?_); (case side1 => repeat (first | exact (Kd.C_below HR0_6.out HB.out) | (with_reducible refine Kd.C_alloc ?_ _) | (with_reducible refine Kd.C_drewN ?_ _) | (with_reducible refine Kd.C_drew ?_))); (case side2 => exact HC0_6.out); rintro e w38 ⟨v960, rfl, ho0, hb⟩; have n0_ := mk0 (Kd.R_elder' (rT HO951.out) (Kd.R_base ho0) hb); have n1_ := mk0 (Kd.R_lower (Kd.R_new' ho0 (Kd.R_lt (rT HO951.out))) (below_size (wT HB.out))); have n2_ := mk0 (bbT BK940.out hb); have n3_ := mk0 (bbT BK941.out hb); have n4_ := mk0 (bbT BK942.out hb); have n5_ := mk0 (below_step (wT HB.out) hb); clear HO951; clear BK940; clear BK941; clear BK942; clear HB; have HO951 := n0_; have HO961 := n1_; have BK940 := n2_; have BK941 := n3_; have BK942 := n4_; have HB := n5_; clear n0_ n1_ n2_ n3_ n4_ n5_; (try clear hb); (try clear hb2); (try clear hk); (try clear hi); (try clear ho0); obtain ⟨Ao39, co39, eo39⟩ := Kd.R_slice HO961.out; subst eo39) | (go_at_call 18; (with_reducible refine (metrolabref30_Check.calls k t953 t954 t955 t956 t957 t958 _ _ t959 t962 _ ?side1 ?side2 A12.out).mono ?_); (case side1 => repeat (first | exact (Kd.R_reads' HO961.out).2.2 | (with_reducible refine Kd.C_alloc ?_ _) | (with_reducible refine Kd.C_drewN ?_ _) | (with_reducible refine Kd.C_drew ?_))); (case side2 => exact (Kd.R_reads' HO961.out).2.1); rintro e w40 ⟨rfl, hb⟩; have n0_ := mk0 (Kd.R_below (rT HO951.out) hb); have n1_ := mk0 (Kd.R_below (rT HO961.out) hb); have n2_ := mk0 (bbT BK940.out hb); have n3_ := mk0 (bbT BK941.out hb); have n4_ := mk0 (bbT BK942.out hb); have n5_ := mk0 (below_step (wT HB.out) hb); clear HO951; clear HO961; clear BK940; clear BK941; clear BK942; clear HB; have HO951 := n0_; have HO961 := n1_; have BK940 := n2_; have BK941 := n3_; have BK942 := n4_; have HB := n5_; clear n0_ n1_ n2_ n3_ n4_ n5_; (try clear hb); (try clear hb2); (try clear hk); (try clear hi); have hnb41 := NB941_942.out; have hnc41 := NB942_941.out; have X42_0 := ct BK941.out 0; have X42_1 := ct BK941.out 1; have X42_2 := ct BK941.out 2; have Y42_0 := blk_frozen BK941.out 0; have Y42_1 := blk_frozen BK941.out 1; have Y42_2 := blk_frozen BK941.out 2) | (go_at_call 27; (with_reducible refine (metrolabref30_Near.calls a1_0 a1_1 a1_2 a1_0 a1_1 a1_2 true _ A14.out).mono ?_); rintro e w43 ⟨rfl, hb⟩; have n0_ := mk0 (Kd.R_below (rT HO951.out) hb); have n1_ := mk0 (Kd.R_below (rT HO961.out) hb); have n2_ := mk0 (bbT BK940.out hb); have n3_ := mk0 (bbT BK941.out hb); have n4_ := mk0 (bbT BK942.out hb); have n5_ := mk0 (below_step (wT HB.out) hb); clear HO951; clear HO961; clear BK940; clear BK941; clear BK942; clear HB; have HO951 := n0_; have HO961 := n1_; have BK940 := n2_; have BK941 := n3_; have BK942 := n4_; have HB := n5_; clear n0_ n1_ n2_ n3_ n4_ n5_; (try clear hb); (try clear hb2); (try clear hk); (try clear hi); have X44_0 := ct BK941.out 0; have X44_1 := ct BK941.out 1; have X44_2 := ct BK941.out 2; have Y44_0 := blk_frozen BK941.out 0; have Y44_1 := blk_frozen BK941.out 1; have Y44_2 := blk_frozen BK941.out 2))
      go_meet
      case rel => exact ⟨_, (decide (a1_0 < (-1000))), (by first | rfl | (simp; done) | (simp [*]; done) | exact congrArg (Value.int .i64) (by unfold wrap64; omega)), H', ⟨by first | omega | exact Nat.le_refl _⟩, ⟨bT BK940.out⟩, ⟨bT BK941.out⟩, ⟨bT BK942.out⟩, ⟨wT HB.out⟩⟩
    ·replace c15 := Bool.eq_false_iff.mpr c15
     subst c15
     have H1 : (metrolablaw30_ProbeTurns.j0 k true a0_0 a0_1 a0_2 a0_3 a0_4 a0_5 l0_6 a1_0 a1_1 a1_2 a2_0 a2_1) = some r := by rw [if_neg (show ¬ (false = true) by decide)] at H; exact H
     clear H
     have H := H1
     clear H1
     have H' := mk0 H
     clear H
     have hnb45 := NB940_941.out
     have hnc45 := NB941_940.out
     have hnb46 := NB940_942.out
     have hnc46 := NB942_940.out
     have X47_0 := ct BK940.out 0
     have X47_1 := ct BK940.out 1
     have X47_2 := ct BK940.out 2
     have X47_3 := ct BK940.out 3
     have X47_4 := ct BK940.out 4
     have X47_5 := ct BK940.out 5
     have X47_6 := ct BK940.out 6
     have Y47_0 := blk_frozen BK940.out 0
     have Y47_1 := blk_frozen BK940.out 1
     have Y47_2 := blk_frozen BK940.out 2
     have Y47_3 := blk_frozen BK940.out 3
     have Y47_4 := blk_frozen BK940.out 4
     have Y47_5 := blk_frozen BK940.out 5
     have Y47_6 := blk_frozen BK940.out 6
     go_wp2_with (first | ((with_reducible refine gate_callee (f := 13) rfl ?_); refine goesL_ (some 18) rfl rfl Tryz.func13 (by kernel_rfl) rfl #[.agg #[.int .i64 a0_0, .int .i64 a0_1, .int .i64 a0_2, .int .i64 a0_3, .int .i64 a0_4, .int .i64 a0_5, .slice A0_6 l0_6.length c0_6]] rfl (by (try simp only [List.map_toArray, List.map_cons, List.map_nil]); first | done | rfl | (simp only [List.length_drop, List.length_take]; rfl)) ?_; (with_reducible refine (metrolablaw30_own.calls k a0_0 a0_1 a0_2 a0_3 a0_4 a0_5 _ _ l0_6 t943 t944 t945 t946 t947 t948 t949 _ ?side1 ?side2 A8.out).mono ?_); (case side1 => repeat (first | exact (Kd.C_below HR0_6.out HB.out) | (with_reducible refine Kd.C_alloc ?_ _) | (with_reducible refine Kd.C_drewN ?_ _) | (with_reducible refine Kd.C_drew ?_))); (case side2 => exact HC0_6.out); rintro e w48 ⟨v950, rfl, ho0, hb⟩; refine ⟨_, rfl, ?_⟩; have n0_ := mk0 (Kd.R_lower ho0 (below_size (wT HB.out))); have n1_ := mk0 (bbT BK940.out hb); have n2_ := mk0 (bbT BK941.out hb); have n3_ := mk0 (bbT BK942.out hb); have n4_ := mk0 (below_step (wT HB.out) hb); clear BK940; clear BK941; clear BK942; clear HB; have HO951 := n0_; have BK940 := n1_; have BK941 := n2_; have BK942 := n3_; have HB := n4_; clear n0_ n1_ n2_ n3_ n4_; (try clear hb); (try clear hb2); (try clear hk); (try clear hi); (try clear ho0); obtain ⟨Ao49, co49, eo49⟩ := Kd.R_slice HO951.out; subst eo49) | ((with_reducible refine gate_callee (f := 12) rfl ?_); refine goesL_ (some 19) rfl rfl Tryz.func12 (by kernel_rfl) rfl #[.agg #[.int .i64 t943, .int .i64 t944, .int .i64 t945, .int .i64 t946, .int .i64 t947, .int .i64 t948, .slice Ao49 t949.length co49]] rfl (by (try simp only [List.map_toArray, List.map_cons, List.map_nil]); first | done | rfl | (simp only [List.length_drop, List.length_take]; rfl)) ?_; (with_reducible refine (metrolabref30_Few.calls t943 t944 t945 t946 t947 t948 _ _ t949 true _ ?side1 ?side2 A9.out).mono ?_); (case side1 => repeat (first | exact (Kd.R_reads' HO951.out).2.2 | (with_reducible refine Kd.C_alloc ?_ _) | (with_reducible refine Kd.C_drewN ?_ _) | (with_reducible refine Kd.C_drew ?_))); (case side2 => exact (Kd.R_reads' HO951.out).2.1); rintro e w50 ⟨rfl, hb⟩; refine ⟨_, rfl, ?_⟩; have n0_ := mk0 (Kd.R_below (rT HO951.out) hb); have n1_ := mk0 (bbT BK940.out hb); have n2_ := mk0 (bbT BK941.out hb); have n3_ := mk0 (bbT BK942.out hb); have n4_ := mk0 (below_step (wT HB.out) hb); clear HO951; clear BK940; clear BK941; clear BK942; clear HB; have HO951 := n0_; have BK940 := n1_; have BK941 := n2_; have BK942 := n3_; have HB := n4_; clear n0_ n1_ n2_ n3_ n4_; (try clear hb); (try clear hb2); (try clear hk); (try clear hi); have X51_0 := ct BK940.out 0; have X51_1 := ct BK940.out 1; have X51_2 := ct BK940.out 2; have X51_3 := ct BK940.out 3; have X51_4 := ct BK940.out 4; have X51_5 := ct BK940.out 5; have X51_6 := ct BK940.out 6; have Y51_0 := blk_frozen BK940.out 0; have Y51_1 := blk_frozen BK940.out 1; have Y51_2 := blk_frozen BK940.out 2; have Y51_3 := blk_frozen BK940.out 3; have Y51_4 := blk_frozen BK940.out 4; have Y51_5 := blk_frozen BK940.out 5; have Y51_6 := blk_frozen BK940.out 6) | (go_at_call 13; (with_reducible refine (metrolablaw30_own.calls k a0_0 a0_1 a0_2 a0_3 a0_4 a0_5 _ _ l0_6 t953 t954 t955 t956 t957 t958 t959 _ ?side1 ?side2 A11.out).mono ?_); (case side1 => repeat (first | exact (Kd.C_below HR0_6.out HB.out) | (with_reducible refine Kd.C_alloc ?_ _) | (with_reducible refine Kd.C_drewN ?_ _) | (with_reducible refine Kd.C_drew ?_))); (case side2 => exact HC0_6.out); rintro e w52 ⟨v960, rfl, ho0, hb⟩; have n0_ := mk0 (Kd.R_elder' (rT HO951.out) (Kd.R_base ho0) hb); have n1_ := mk0 (Kd.R_lower (Kd.R_new' ho0 (Kd.R_lt (rT HO951.out))) (below_size (wT HB.out))); have n2_ := mk0 (bbT BK940.out hb); have n3_ := mk0 (bbT BK941.out hb); have n4_ := mk0 (bbT BK942.out hb); have n5_ := mk0 (below_step (wT HB.out) hb); clear HO951; clear BK940; clear BK941; clear BK942; clear HB; have HO951 := n0_; have HO961 := n1_; have BK940 := n2_; have BK941 := n3_; have BK942 := n4_; have HB := n5_; clear n0_ n1_ n2_ n3_ n4_ n5_; (try clear hb); (try clear hb2); (try clear hk); (try clear hi); (try clear ho0); obtain ⟨Ao53, co53, eo53⟩ := Kd.R_slice HO961.out; subst eo53) | (go_at_call 18; (with_reducible refine (metrolabref30_Check.calls k t953 t954 t955 t956 t957 t958 _ _ t959 t962 _ ?side1 ?side2 A12.out).mono ?_); (case side1 => repeat (first | exact (Kd.R_reads' HO961.out).2.2 | (with_reducible refine Kd.C_alloc ?_ _) | (with_reducible refine Kd.C_drewN ?_ _) | (with_reducible refine Kd.C_drew ?_))); (case side2 => exact (Kd.R_reads' HO961.out).2.1); rintro e w54 ⟨rfl, hb⟩; have n0_ := mk0 (Kd.R_below (rT HO951.out) hb); have n1_ := mk0 (Kd.R_below (rT HO961.out) hb); have n2_ := mk0 (bbT BK940.out hb); have n3_ := mk0 (bbT BK941.out hb); have n4_ := mk0 (bbT BK942.out hb); have n5_ := mk0 (below_step (wT HB.out) hb); clear HO951; clear HO961; clear BK940; clear BK941; clear BK942; clear HB; have HO951 := n0_; have HO961 := n1_; have BK940 := n2_; have BK941 := n3_; have BK942 := n4_; have HB := n5_; clear n0_ n1_ n2_ n3_ n4_ n5_; (try clear hb); (try clear hb2); (try clear hk); (try clear hi); have hnb55 := NB941_942.out; have hnc55 := NB942_941.out; have X56_0 := ct BK941.out 0; have X56_1 := ct BK941.out 1; have X56_2 := ct BK941.out 2; have Y56_0 := blk_frozen BK941.out 0; have Y56_1 := blk_frozen BK941.out 1; have Y56_2 := blk_frozen BK941.out 2) | (go_at_call 27; (with_reducible refine (metrolabref30_Near.calls a1_0 a1_1 a1_2 a1_0 a1_1 a1_2 false _ A14.out).mono ?_); rintro e w57 ⟨rfl, hb⟩; have n0_ := mk0 (Kd.R_below (rT HO951.out) hb); have n1_ := mk0 (Kd.R_below (rT HO961.out) hb); have n2_ := mk0 (bbT BK940.out hb); have n3_ := mk0 (bbT BK941.out hb); have n4_ := mk0 (bbT BK942.out hb); have n5_ := mk0 (below_step (wT HB.out) hb); clear HO951; clear HO961; clear BK940; clear BK941; clear BK942; clear HB; have HO951 := n0_; have HO961 := n1_; have BK940 := n2_; have BK941 := n3_; have BK942 := n4_; have HB := n5_; clear n0_ n1_ n2_ n3_ n4_ n5_; (try clear hb); (try clear hb2); (try clear hk); (try clear hi)))
     go_meet
     case rel => exact ⟨_, (true), (by first | rfl | (simp; done) | (simp [*]; done) | exact congrArg (Value.int .i64) (by unfold wrap64; omega)), H', ⟨by first | omega | exact Nat.le_refl _⟩, ⟨bT BK940.out⟩, ⟨bT BK941.out⟩, ⟨bT BK942.out⟩, ⟨wT HB.out⟩⟩
   ·rw [if_neg c13] at H
    have c13b0 : (t962 == 0) = false := beq_eq_false_iff_ne.mpr c13
    have c13b1 : (t962 != 0) = true := bne_iff_ne.mpr c13
    (first | rw [c13b0] | (simp only [i64_w, i32_w]; rw [c13b0]) | skip)
    have H' := mk0 H
    clear H
    have hnb58 := NB940_941.out
    have hnc58 := NB941_940.out
    have hnb59 := NB940_942.out
    have hnc59 := NB942_940.out
    have X60_0 := ct BK940.out 0
    have X60_1 := ct BK940.out 1
    have X60_2 := ct BK940.out 2
    have X60_3 := ct BK940.out 3
    have X60_4 := ct BK940.out 4
    have X60_5 := ct BK940.out 5
    have X60_6 := ct BK940.out 6
    have Y60_0 := blk_frozen BK940.out 0
    have Y60_1 := blk_frozen BK940.out 1
    have Y60_2 := blk_frozen BK940.out 2
    have Y60_3 := blk_frozen BK940.out 3
    have Y60_4 := blk_frozen BK940.out 4
    have Y60_5 := blk_frozen BK940.out 5
    have Y60_6 := blk_frozen BK940.out 6
    go_wp2_with (first | ((with_reducible refine gate_callee (f := 13) rfl ?_); refine goesL_ (some 18) rfl rfl Tryz.func13 (by kernel_rfl) rfl #[.agg #[.int .i64 a0_0, .int .i64 a0_1, .int .i64 a0_2, .int .i64 a0_3, .int .i64 a0_4, .int .i64 a0_5, .slice A0_6 l0_6.length c0_6]] rfl (by (try simp only [List.map_toArray, List.map_cons, List.map_nil]); first | done | rfl | (simp only [List.length_drop, List.length_take]; rfl)) ?_; (with_reducible refine (metrolablaw30_own.calls k a0_0 a0_1 a0_2 a0_3 a0_4 a0_5 _ _ l0_6 t943 t944 t945 t946 t947 t948 t949 _ ?side1 ?side2 A8.out).mono ?_); (case side1 => repeat (first | exact (Kd.C_below HR0_6.out HB.out) | (with_reducible refine Kd.C_alloc ?_ _) | (with_reducible refine Kd.C_drewN ?_ _) | (with_reducible refine Kd.C_drew ?_))); (case side2 => exact HC0_6.out); rintro e w61 ⟨v950, rfl, ho0, hb⟩; refine ⟨_, rfl, ?_⟩; have n0_ := mk0 (Kd.R_lower ho0 (below_size (wT HB.out))); have n1_ := mk0 (bbT BK940.out hb); have n2_ := mk0 (bbT BK941.out hb); have n3_ := mk0 (bbT BK942.out hb); have n4_ := mk0 (below_step (wT HB.out) hb); clear BK940; clear BK941; clear BK942; clear HB; have HO951 := n0_; have BK940 := n1_; have BK941 := n2_; have BK942 := n3_; have HB := n4_; clear n0_ n1_ n2_ n3_ n4_; (try clear hb); (try clear hb2); (try clear hk); (try clear hi); (try clear ho0); obtain ⟨Ao62, co62, eo62⟩ := Kd.R_slice HO951.out; subst eo62) | ((with_reducible refine gate_callee (f := 12) rfl ?_); refine goesL_ (some 19) rfl rfl Tryz.func12 (by kernel_rfl) rfl #[.agg #[.int .i64 t943, .int .i64 t944, .int .i64 t945, .int .i64 t946, .int .i64 t947, .int .i64 t948, .slice Ao62 t949.length co62]] rfl (by (try simp only [List.map_toArray, List.map_cons, List.map_nil]); first | done | rfl | (simp only [List.length_drop, List.length_take]; rfl)) ?_; (with_reducible refine (metrolabref30_Few.calls t943 t944 t945 t946 t947 t948 _ _ t949 true _ ?side1 ?side2 A9.out).mono ?_); (case side1 => repeat (first | exact (Kd.R_reads' HO951.out).2.2 | (with_reducible refine Kd.C_alloc ?_ _) | (with_reducible refine Kd.C_drewN ?_ _) | (with_reducible refine Kd.C_drew ?_))); (case side2 => exact (Kd.R_reads' HO951.out).2.1); rintro e w63 ⟨rfl, hb⟩; refine ⟨_, rfl, ?_⟩; have n0_ := mk0 (Kd.R_below (rT HO951.out) hb); have n1_ := mk0 (bbT BK940.out hb); have n2_ := mk0 (bbT BK941.out hb); have n3_ := mk0 (bbT BK942.out hb); have n4_ := mk0 (below_step (wT HB.out) hb); clear HO951; clear BK940; clear BK941; clear BK942; clear HB; have HO951 := n0_; have BK940 := n1_; have BK941 := n2_; have BK942 := n3_; have HB := n4_; clear n0_ n1_ n2_ n3_ n4_; (try clear hb); (try clear hb2); (try clear hk); (try clear hi); have X64_0 := ct BK940.out 0; have X64_1 := ct BK940.out 1; have X64_2 := ct BK940.out 2; have X64_3 := ct BK940.out 3; have X64_4 := ct BK940.out 4; have X64_5 := ct BK940.out 5; have X64_6 := ct BK940.out 6; have Y64_0 := blk_frozen BK940.out 0; have Y64_1 := blk_frozen BK940.out 1; have Y64_2 := blk_frozen BK940.out 2; have Y64_3 := blk_frozen BK940.out 3; have Y64_4 := blk_frozen BK940.out 4; have Y64_5 := blk_frozen BK940.out 5; have Y64_6 := blk_frozen BK940.out 6) | (go_at_call 13; (with_reducible refine (metrolablaw30_own.calls k a0_0 a0_1 a0_2 a0_3 a0_4 a0_5 _ _ l0_6 t953 t954 t955 t956 t957 t958 t959 _ ?side1 ?side2 A11.out).mono ?_); (case side1 => repeat (first | exact (Kd.C_below HR0_6.out HB.out) | (with_reducible refine Kd.C_alloc ?_ _) | (with_reducible refine Kd.C_drewN ?_ _) | (with_reducible refine Kd.C_drew ?_))); (case side2 => exact HC0_6.out); rintro e w65 ⟨v960, rfl, ho0, hb⟩; have n0_ := mk0 (Kd.R_elder' (rT HO951.out) (Kd.R_base ho0) hb); have n1_ := mk0 (Kd.R_lower (Kd.R_new' ho0 (Kd.R_lt (rT HO951.out))) (below_size (wT HB.out))); have n2_ := mk0 (bbT BK940.out hb); have n3_ := mk0 (bbT BK941.out hb); have n4_ := mk0 (bbT BK942.out hb); have n5_ := mk0 (below_step (wT HB.out) hb); clear HO951; clear BK940; clear BK941; clear BK942; clear HB; have HO951 := n0_; have HO961 := n1_; have BK940 := n2_; have BK941 := n3_; have BK942 := n4_; have HB := n5_; clear n0_ n1_ n2_ n3_ n4_ n5_; (try clear hb); (try clear hb2); (try clear hk); (try clear hi); (try clear ho0); obtain ⟨Ao66, co66, eo66⟩ := Kd.R_slice HO961.out; subst eo66) | (go_at_call 18; (with_reducible refine (metrolabref30_Check.calls k t953 t954 t955 t956 t957 t958 _ _ t959 t962 _ ?side1 ?side2 A12.out).mono ?_); (case side1 => repeat (first | exact (Kd.R_reads' HO961.out).2.2 | (with_reducible refine Kd.C_alloc ?_ _) | (with_reducible refine Kd.C_drewN ?_ _) | (with_reducible refine Kd.C_drew ?_))); (case side2 => exact (Kd.R_reads' HO961.out).2.1); rintro e w67 ⟨rfl, hb⟩; have n0_ := mk0 (Kd.R_below (rT HO951.out) hb); have n1_ := mk0 (Kd.R_below (rT HO961.out) hb); have n2_ := mk0 (bbT BK940.out hb); have n3_ := mk0 (bbT BK941.out hb); have n4_ := mk0 (bbT BK942.out hb); have n5_ := mk0 (below_step (wT HB.out) hb); clear HO951; clear HO961; clear BK940; clear BK941; clear BK942; clear HB; have HO951 := n0_; have HO961 := n1_; have BK940 := n2_; have BK941 := n3_; have BK942 := n4_; have HB := n5_; clear n0_ n1_ n2_ n3_ n4_ n5_; (try clear hb); (try clear hb2); (try clear hk); (try clear hi)))
    go_meet
    case rel => exact ⟨_, (true), (by first | rfl | (simp; done) | (simp [*]; done) | exact congrArg (Value.int .i64) (by unfold wrap64; omega)), H', ⟨by first | omega | exact Nat.le_refl _⟩, ⟨bT BK940.out⟩, ⟨bT BK941.out⟩, ⟨bT BK942.out⟩, ⟨wT HB.out⟩⟩
  ·replace c10 := Bool.eq_false_iff.mpr c10
   subst c10
   have H1 : (metrolablaw30_ProbeTurns.j0 k true a0_0 a0_1 a0_2 a0_3 a0_4 a0_5 l0_6 a1_0 a1_1 a1_2 a2_0 a2_1) = some r := by rw [if_neg (show ¬ (false = true) by decide)] at H; exact H
   clear H
   have H := H1
   clear H1
   have H' := mk0 H
   clear H
   have hnb68 := NB940_941.out
   have hnc68 := NB941_940.out
   have hnb69 := NB940_942.out
   have hnc69 := NB942_940.out
   have X70_0 := ct BK940.out 0
   have X70_1 := ct BK940.out 1
   have X70_2 := ct BK940.out 2
   have X70_3 := ct BK940.out 3
   have X70_4 := ct BK940.out 4
   have X70_5 := ct BK940.out 5
   have X70_6 := ct BK940.out 6
   have Y70_0 := blk_frozen BK940.out 0
   have Y70_1 := blk_frozen BK940.out 1
   have Y70_2 := blk_frozen BK940.out 2
   have Y70_3 := blk_frozen BK940.out 3
   have Y70_4 := blk_frozen BK940.out 4
   have Y70_5 := blk_frozen BK940.out 5
   have Y70_6 := blk_frozen BK940.out 6
   go_wp2_with (first | ((with_reducible refine gate_callee (f := 13) rfl ?_); refine goesL_ (some 18) rfl rfl Tryz.func13 (by kernel_rfl) rfl #[.agg #[.int .i64 a0_0, .int .i64 a0_1, .int .i64 a0_2, .int .i64 a0_3, .int .i64 a0_4, .int .i64 a0_5, .slice A0_6 l0_6.length c0_6]] rfl (by (try simp only [List.map_toArray, List.map_cons, List.map_nil]); first | done | rfl | (simp only [List.length_drop, List.length_take]; rfl)) ?_; (with_reducible refine (metrolablaw30_own.calls k a0_0 a0_1 a0_2 a0_3 a0_4 a0_5 _ _ l0_6 t943 t944 t945 t946 t947 t948 t949 _ ?side1 ?side2 A8.out).mono ?_); (case side1 => repeat (first | exact (Kd.C_below HR0_6.out HB.out) | (with_reducible refine Kd.C_alloc ?_ _) | (with_reducible refine Kd.C_drewN ?_ _) | (with_reducible refine Kd.C_drew ?_))); (case side2 => exact HC0_6.out); rintro e w71 ⟨v950, rfl, ho0, hb⟩; refine ⟨_, rfl, ?_⟩; have n0_ := mk0 (Kd.R_lower ho0 (below_size (wT HB.out))); have n1_ := mk0 (bbT BK940.out hb); have n2_ := mk0 (bbT BK941.out hb); have n3_ := mk0 (bbT BK942.out hb); have n4_ := mk0 (below_step (wT HB.out) hb); clear BK940; clear BK941; clear BK942; clear HB; have HO951 := n0_; have BK940 := n1_; have BK941 := n2_; have BK942 := n3_; have HB := n4_; clear n0_ n1_ n2_ n3_ n4_; (try clear hb); (try clear hb2); (try clear hk); (try clear hi); (try clear ho0); obtain ⟨Ao72, co72, eo72⟩ := Kd.R_slice HO951.out; subst eo72) | ((with_reducible refine gate_callee (f := 12) rfl ?_); refine goesL_ (some 19) rfl rfl Tryz.func12 (by kernel_rfl) rfl #[.agg #[.int .i64 t943, .int .i64 t944, .int .i64 t945, .int .i64 t946, .int .i64 t947, .int .i64 t948, .slice Ao72 t949.length co72]] rfl (by (try simp only [List.map_toArray, List.map_cons, List.map_nil]); first | done | rfl | (simp only [List.length_drop, List.length_take]; rfl)) ?_; (with_reducible refine (metrolabref30_Few.calls t943 t944 t945 t946 t947 t948 _ _ t949 false _ ?side1 ?side2 A9.out).mono ?_); (case side1 => repeat (first | exact (Kd.R_reads' HO951.out).2.2 | (with_reducible refine Kd.C_alloc ?_ _) | (with_reducible refine Kd.C_drewN ?_ _) | (with_reducible refine Kd.C_drew ?_))); (case side2 => exact (Kd.R_reads' HO951.out).2.1); rintro e w73 ⟨rfl, hb⟩; refine ⟨_, rfl, ?_⟩; have n0_ := mk0 (Kd.R_below (rT HO951.out) hb); have n1_ := mk0 (bbT BK940.out hb); have n2_ := mk0 (bbT BK941.out hb); have n3_ := mk0 (bbT BK942.out hb); have n4_ := mk0 (below_step (wT HB.out) hb); clear HO951; clear BK940; clear BK941; clear BK942; clear HB; have HO951 := n0_; have BK940 := n1_; have BK941 := n2_; have BK942 := n3_; have HB := n4_; clear n0_ n1_ n2_ n3_ n4_; (try clear hb); (try clear hb2); (try clear hk); (try clear hi)))
   go_meet
   case rel => exact ⟨_, (true), (by first | rfl | (simp; done) | (simp [*]; done) | exact congrArg (Value.int .i64) (by unfold wrap64; omega)), H', ⟨by first | omega | exact Nat.le_refl _⟩, ⟨bT BK940.out⟩, ⟨bT BK941.out⟩, ⟨bT BK942.out⟩, ⟨wT HB.out⟩⟩
 case rest =>
  clear HC4
  try clear c1
  try clear c2
  try clear p2
  try clear c3
  try clear c4
  try clear c5
  try clear c6
  try clear p6
  try clear c10
  try clear c11
  try clear c12
  try clear c13
  try clear c13b0
  try clear c13b1
  try clear c15
  try clear c16
  try clear c16b0
  try clear c17
  try clear c18
  try clear c27
  try clear c31
  try clear c32
  try clear c41
  try clear c45
  try clear c46
  try clear c55
  try clear c58
  try clear c59
  try clear p64
  try clear c68
  try clear c69
  try clear X19_0
  try clear X19_1
  try clear X19_2
  try clear X19_3
  try clear X19_4
  try clear X19_5
  try clear X19_6
  try clear X23_0
  try clear X23_1
  try clear X23_2
  try clear X23_3
  try clear X23_4
  try clear X23_5
  try clear X23_6
  try clear X28_0
  try clear X28_1
  try clear X28_2
  try clear X30_0
  try clear X30_1
  try clear X30_2
  try clear X33_0
  try clear X33_1
  try clear X33_2
  try clear X33_3
  try clear X33_4
  try clear X33_5
  try clear X33_6
  try clear X37_0
  try clear X37_1
  try clear X37_2
  try clear X37_3
  try clear X37_4
  try clear X37_5
  try clear X37_6
  try clear X42_0
  try clear X42_1
  try clear X42_2
  try clear X44_0
  try clear X44_1
  try clear X44_2
  try clear X47_0
  try clear X47_1
  try clear X47_2
  try clear X47_3
  try clear X47_4
  try clear X47_5
  try clear X47_6
  try clear X51_0
  try clear X51_1
  try clear X51_2
  try clear X51_3
  try clear X51_4
  try clear X51_5
  try clear X51_6
  try clear X56_0
  try clear X56_1
  try clear X56_2
  try clear X60_0
  try clear X60_1
  try clear X60_2
  try clear X60_3
  try clear X60_4
  try clear X60_5
  try clear X60_6
  try clear X64_0
  try clear X64_1
  try clear X64_2
  try clear X64_3
  try clear X64_4
  try clear X64_5
  try clear X64_6
  try clear X70_0
  try clear X70_1
  try clear X70_2
  try clear X70_3
  try clear X70_4
  try clear X70_5
  try clear X70_6
  try clear Y19_0
  try clear Y19_1
  try clear Y19_2
  try clear Y19_3
  try clear Y19_4
  try clear Y19_5
  try clear Y19_6
  try clear Y23_0
  try clear Y23_1
  try clear Y23_2
  try clear Y23_3
  try clear Y23_4
  try clear Y23_5
  try clear Y23_6
  try clear Y28_0
  try clear Y28_1
  try clear Y28_2
  try clear Y30_0
  try clear Y30_1
  try clear Y30_2
  try clear Y33_0
  try clear Y33_1
  try clear Y33_2
  try clear Y33_3
  try clear Y33_4
  try clear Y33_5
  try clear Y33_6
  try clear Y37_0
  try clear Y37_1
  try clear Y37_2
  try clear Y37_3
  try clear Y37_4
  try clear Y37_5
  try clear Y37_6
  try clear Y42_0
  try clear Y42_1
  try clear Y42_2
  try clear Y44_0
  try clear Y44_1
  try clear Y44_2
  try clear Y47_0
  try clear Y47_1
  try clear Y47_2
  try clear Y47_3
  try clear Y47_4
  try clear Y47_5
  try clear Y47_6
  try clear Y51_0
  try clear Y51_1
  try clear Y51_2
  try clear Y51_3
  try clear Y51_4
  try clear Y51_5
  try clear Y51_6
  try clear Y56_0
  try clear Y56_1
  try clear Y56_2
  try clear Y60_0
  try clear Y60_1
  try clear Y60_2
  try clear Y60_3
  try clear Y60_4
  try clear Y60_5
  try clear Y60_6
  try clear Y64_0
  try clear Y64_1
  try clear Y64_2
  try clear Y64_3
  try clear Y64_4
  try clear Y64_5
  try clear Y64_6
  try clear Y70_0
  try clear Y70_1
  try clear Y70_2
  try clear Y70_3
  try clear Y70_4
  try clear Y70_5
  try clear Y70_6
  obtain ⟨kq, x42_3, rfl, HA, HJ3, BK940, BK941, BK942, HB⟩ := hcut
  cases kq with
  | zero => exact absurd HA.out (by simp [metrolablaw30_ProbeTurns.j0])
  | succ kj3 =>
   have H := HA.out
   clear HA
   simp only [metrolablaw30_ProbeTurns.j0] at H
   by_cases c74 : x42_3 = true
   ·subst c74
    have H1 : ((metrolablaw30_awake.f kj3).bind fun t964 => (some t964)) = some r := by rw [if_pos rfl] at H; exact H
    clear H
    have H := H1
    clear H1
    replace H := Option.bind_eq_some_iff.mp H
    obtain ⟨t964, A750, H⟩ := H
    replace H : (some t964) = some r := H
    have A75 := mk0 A750
    clear A750
    obtain rfl := Option.some.inj H
    go_wp2_with (first | ((with_reducible refine gate_callee (f := 14) rfl ?_); refine goesL_ (some 43) rfl rfl Tryz.func14 (by kernel_rfl) rfl #[] rfl (by (try simp only [List.map_toArray, List.map_cons, List.map_nil]); first | done | rfl | (simp only [List.length_drop, List.length_take]; rfl)) ?_; (with_reducible refine (metrolablaw30_awake.calls kj3  t964 _ ?side1 A75.out).mono ?_); (case side1 => exact GW_below HG.out (wT HB.out)); rintro e w76 ⟨rfl, hb⟩; refine ⟨_, rfl, ?_⟩; have n0_ := mk0 (below_step (wT HB.out) hb); clear HB; have HB := n0_; clear n0_; (try clear hb); (try clear hb2); (try clear hk); (try clear hi)))
    go_ret
    exact ⟨eqT, wT HB.out⟩
   ·replace c74 := Bool.eq_false_iff.mpr c74
    subst c74
    have H1 : (if ((decide (a2_0 < 0)) != (decide (a2_1 < 0))) = true then (metrolablaw30_ProbeTurns.j1 kj3 a0_0 a0_1 a0_2 a0_3 a0_4 a0_5 l0_6 a1_0 a1_1 a1_2 (wrap64 (a1_0 + (wrap64 (a2_0)))) a1_1 a1_2 (wrap64 (a1_0 + (wrap64 (a2_0)))) a1_1 a1_2) else (metrolablaw30_ProbeTurns.j1 kj3 a0_0 a0_1 a0_2 a0_3 a0_4 a0_5 l0_6 a1_0 a1_1 a1_2 (wrap64 (a1_0 + (wrap64 (a2_0)))) a1_1 a1_2 (wrap64 (a1_0 + (wrap64 ((wrap64 (a2_0)) + (wrap64 (a2_1)))))) a1_1 a1_2)) = some r := by rw [if_neg (show ¬ (false = true) by decide)] at H; exact H
    clear H
    have H := H1
    clear H1
    have HC77 := mk0 H
    clear H
    try go_wp2
    have n0_ := mk0 (blk_drew BK940.out)
    have n1_ := mk0 (blk_drew BK941.out)
    have n2_ := mk0 (blk_drew BK942.out)
    have n3_ := mk0 (below_drew1 HB.out)
    clear BK940
    clear BK941
    clear BK942
    clear HB
    have BK940 := n0_
    have BK941 := n1_
    have BK942 := n2_
    have HB := n3_
    clear n0_ n1_ n2_ n3_
    refine start_ (n := 6) (S := fun w' => True) (ds := []) #[false, false, false, false, false, false] (by kernel_rfl) rfl rfl trivial (fun hHeld => ?_); refine with_tabW metrolablaw30_ProbeTurns.tab3 metrolablaw30_ProbeTurns.bits3 (fun HT_ HW_ => ?_)
    generalize wc.drew = w78 at BK940 BK941 BK942 HB hHeld ⊢
    refine inv_at [0, 1, 2, 3, 4, 5] (fun a0_ b a w' => ∃ (gb965 : Nat) (gb966 : Nat) (m2_ : Value) (m3_ : Value), a = putSel a0_ b [(0, 44, .agg #[.int .i64 a1_0, .int .i64 a1_1, .int .i64 a1_2]), (1, 45, .agg #[.int .i64 a1_0, .int .i64 a1_1, .int .i64 a1_2]), (2, 7, m2_), (3, 8, m3_)] ∧ (w'.heap[gb940]? = some (.cells #[.int .i64 a0_0, .int .i64 a0_1, .int .i64 a0_2, .int .i64 a0_3, .int .i64 a0_4, .int .i64 a0_5, .slice A0_6 l0_6.length c0_6] 26 (0, 0))) ∧ (w'.heap[gb941]? = some (.cells #[.int .i64 a1_0, .int .i64 a1_1, .int .i64 a1_2] 23 (0, 0))) ∧ (w'.heap[gb942]? = some (.cells #[.int .i8 a2_0, .int .i8 a2_1] 90 (0, 0))) ∧ (Below w.heap.size w w') ∧ (b 2 = true → b 3 = true → gb966 ≠ gb965) ∧ (b 2 = true → b 3 = true → gb965 ≠ gb966) ∧ (b 2 = true → b 4 = false → w'.heap[gb965]? = some (.cells #[.int .i64 0, .int .i64 0, .int .i64 0] 23 (0, 0))) ∧ (b 2 = true → w.heap.size ≤ gb965) ∧ (b 2 = true → w.heap.size ≤ gb965) ∧ (b 2 = true → gb940 ≠ gb965) ∧ (b 2 = true → gb965 ≠ gb940) ∧ (b 2 = true → gb941 ≠ gb965) ∧ (b 2 = true → gb965 ≠ gb941) ∧ (b 2 = true → gb942 ≠ gb965) ∧ (b 2 = true → gb965 ≠ gb942) ∧ (b 3 = true → b 5 = false → w'.heap[gb966]? = some (.cells #[.int .i64 0, .int .i64 0, .int .i64 0] 23 (0, 0))) ∧ (b 3 = true → w.heap.size ≤ gb966) ∧ (b 3 = true → w.heap.size ≤ gb966) ∧ (b 3 = true → gb940 ≠ gb966) ∧ (b 3 = true → gb966 ≠ gb940) ∧ (b 3 = true → gb941 ≠ gb966) ∧ (b 3 = true → gb966 ≠ gb941) ∧ (b 3 = true → gb942 ≠ gb966) ∧ (b 3 = true → gb966 ≠ gb942) ∧ (b 4 = true → w'.heap[gb965]? = some (.cells #[.int .i64 a1_0, .int .i64 a1_1, .int .i64 a1_2] 23 (0, 0))) ∧ (b 5 = true → w'.heap[gb966]? = some (.cells #[.int .i64 a1_0, .int .i64 a1_1, .int .i64 a1_2] 23 (0, 0))) ∧ (b 2 = true → (m2_ : Value) = .pointer (some ⟨gb965, 0, none⟩)) ∧ (b 3 = true → (m3_ : Value) = .pointer (some ⟨gb966, 0, none⟩))) HT_.out HW_.out (by kernel_rfl) (by kernel_rfl) ?_ ?_ ?_
    ·exact ⟨0, 0, .bool false, .bool false, by simp only [putSel, Bool.false_eq_true, if_false], BK940.out, BK941.out, BK942.out, HB.out, fun h_ => absurd h_ (by decide), fun h_ => absurd h_ (by decide), fun h_ => absurd h_ (by decide), fun h_ => absurd h_ (by decide), fun h_ => absurd h_ (by decide), fun h_ => absurd h_ (by decide), fun h_ => absurd h_ (by decide), fun h_ => absurd h_ (by decide), fun h_ => absurd h_ (by decide), fun h_ => absurd h_ (by decide), fun h_ => absurd h_ (by decide), fun h_ => absurd h_ (by decide), fun h_ => absurd h_ (by decide), fun h_ => absurd h_ (by decide), fun h_ => absurd h_ (by decide), fun h_ => absurd h_ (by decide), fun h_ => absurd h_ (by decide), fun h_ => absurd h_ (by decide), fun h_ => absurd h_ (by decide), fun h_ => absurd h_ (by decide), fun h_ => absurd h_ (by decide), fun h_ => absurd h_ (by decide), fun h_ => absurd h_ (by decide), fun h_ => absurd h_ (by decide)⟩
    ·skip
     clear BK940 BK941 BK942 HB
     refine steps_cons ?_ ?_
     ·rintro b a w' ⟨gb965, gb966, m2_, m3_, ha, Q_BK940, Q_BK941, Q_BK942, Q_HB, Q_NB966_965, Q_NB965_966, Q_BK965, Q_GW965, Q_GE965, Q_NB940_965, Q_NB965_940, Q_NB941_965, Q_NB965_941, Q_NB942_965, Q_NB965_942, Q_BK966, Q_GW966, Q_GE966, Q_NB940_966, Q_NB966_940, Q_NB941_966, Q_NB966_941, Q_NB942_966, Q_NB966_942, Q_BK965_e4, Q_BK966_e5, Q_X2_, Q_X3_⟩ hb_ hon hoff
      refine ⟨_, rfl, fun K hK => ?_⟩
      have e4 : a.tmps[4]? = some (.pointer (some ⟨gb941, 0, none⟩)) := by rw [ha]; exact (putSel_off rfl).trans rfl
      replace ha := mk0 ha
      have BK940 := mk0 Q_BK940
      have BK941 := mk0 Q_BK941
      have BK942 := mk0 Q_BK942
      have HB := mk0 Q_HB
      have hc0_ := ct BK941.out 0
      have hc1_ := ct BK941.out 1
      have hc2_ := ct BK941.out 2
      refine value_ (w1 := w') (v := .agg #[.int .i64 a1_0, .int .i64 a1_1, .int .i64 a1_2]) (by rfl) rfl ?_ ?_
      ·go_simp
       (try simp only [i64_w])
       try rfl
      refine hK.out _ _ ⟨gb965, gb966, m2_, m3_, (by rw [ha.out]; exact putSel_upk 0 hb_ rfl rfl rfl), Q_BK940, Q_BK941, Q_BK942, Q_HB, Q_NB966_965, Q_NB965_966, Q_BK965, Q_GW965, Q_GE965, Q_NB940_965, Q_NB965_940, Q_NB941_965, Q_NB965_941, Q_NB942_965, Q_NB965_942, Q_BK966, Q_GW966, Q_GE966, Q_NB940_966, Q_NB966_940, Q_NB941_966, Q_NB966_941, Q_NB942_966, Q_NB966_942, fun h0_ => absurd ((hoff 4 (by kernel_rfl)).symm.trans h0_) (by decide), fun h0_ => absurd ((hoff 5 (by kernel_rfl)).symm.trans h0_) (by decide), Q_X2_, Q_X3_⟩
     refine steps_cons ?_ ?_
     ·rintro b a w' ⟨gb965, gb966, m2_, m3_, ha, Q_BK940, Q_BK941, Q_BK942, Q_HB, Q_NB966_965, Q_NB965_966, Q_BK965, Q_GW965, Q_GE965, Q_NB940_965, Q_NB965_940, Q_NB941_965, Q_NB965_941, Q_NB942_965, Q_NB965_942, Q_BK966, Q_GW966, Q_GE966, Q_NB940_966, Q_NB966_940, Q_NB941_966, Q_NB966_941, Q_NB942_966, Q_NB966_942, Q_BK965_e4, Q_BK966_e5, Q_X2_, Q_X3_⟩ hb_ hon hoff
      refine ⟨_, rfl, fun K hK => ?_⟩
      have e4 : a.tmps[4]? = some (.pointer (some ⟨gb941, 0, none⟩)) := by rw [ha]; exact (putSel_off rfl).trans rfl
      replace ha := mk0 ha
      have BK940 := mk0 Q_BK940
      have BK941 := mk0 Q_BK941
      have BK942 := mk0 Q_BK942
      have HB := mk0 Q_HB
      have hc0_ := ct BK941.out 0
      have hc1_ := ct BK941.out 1
      have hc2_ := ct BK941.out 2
      refine value_ (w1 := w') (v := .agg #[.int .i64 a1_0, .int .i64 a1_1, .int .i64 a1_2]) (by rfl) rfl ?_ ?_
      ·go_simp
       (try simp only [i64_w])
       try rfl
      refine hK.out _ _ ⟨gb965, gb966, m2_, m3_, (by rw [ha.out]; exact putSel_upk 1 hb_ rfl rfl rfl), Q_BK940, Q_BK941, Q_BK942, Q_HB, Q_NB966_965, Q_NB965_966, Q_BK965, Q_GW965, Q_GE965, Q_NB940_965, Q_NB965_940, Q_NB941_965, Q_NB965_941, Q_NB942_965, Q_NB965_942, Q_BK966, Q_GW966, Q_GE966, Q_NB940_966, Q_NB966_940, Q_NB941_966, Q_NB966_941, Q_NB942_966, Q_NB966_942, Q_BK965_e4, fun h0_ => absurd ((hoff 5 (by kernel_rfl)).symm.trans h0_) (by decide), Q_X2_, Q_X3_⟩
     refine steps_cons ?_ ?_
     ·rintro b a w' ⟨gb965, gb966, m2_, m3_, ha, Q_BK940, Q_BK941, Q_BK942, Q_HB, Q_NB966_965, Q_NB965_966, Q_BK965, Q_GW965, Q_GE965, Q_NB940_965, Q_NB965_940, Q_NB941_965, Q_NB965_941, Q_NB942_965, Q_NB965_942, Q_BK966, Q_GW966, Q_GE966, Q_NB940_966, Q_NB966_940, Q_NB941_966, Q_NB966_941, Q_NB942_966, Q_NB966_942, Q_BK965_e4, Q_BK966_e5, Q_X2_, Q_X3_⟩ hb_ hon hoff
      refine ⟨_, rfl, fun K hK => ?_⟩
      replace ha := mk0 ha
      have BK940 := mk0 Q_BK940
      have BK941 := mk0 Q_BK941
      have BK942 := mk0 Q_BK942
      have HB := mk0 Q_HB
      refine box_step ?hg (N := 7) ?hd (cs := #[.int .i64 0, .int .i64 0, .int .i64 0]) (t := 23) ?hr ?_; (case hd => rfl); (case hg => rfl); (case hr => first | (go_simp; done) | (go_simp; rfl))
      intro gb965 hg w79 hbox hb
      have n0_ := mk0 (bbT BK940.out hb)
      have n1_ := mk0 (bbT BK941.out hb)
      have n2_ := mk0 (bbT BK942.out hb)
      have n3_ := mk0 (below_step (wT HB.out) hb)
      have n4_ := mk0 (hbox)
      have n5_ := mk0 ((szT HB.out hg))
      have n6_ := mk0 ((szT HB.out hg))
      have n7_ := mk0 ((neL BK940.out hg))
      have n8_ := mk0 ((neG BK940.out hg))
      have n9_ := mk0 ((neL BK941.out hg))
      have n10_ := mk0 ((neG BK941.out hg))
      have n11_ := mk0 ((neL BK942.out hg))
      have n12_ := mk0 ((neG BK942.out hg))
      have z_NB966_965 := fun (h0_ : up b 2 2 = true) (h1_ : up b 2 3 = true) => (show gb966 ≠ gb965 from by rw [hg]; exact Nat.ne_of_lt ((show gb966 < w'.heap.size by cases hq_ : b 5 with | false => exact blk_lt (Q_BK966 h1_ hq_) | true => exact blk_lt (Q_BK966_e5 hq_))))
      have z_NB965_966 := fun (h0_ : up b 2 2 = true) (h1_ : up b 2 3 = true) => (show gb965 ≠ gb966 from by rw [hg]; exact Nat.ne_of_gt ((show gb966 < w'.heap.size by cases hq_ : b 5 with | false => exact blk_lt (Q_BK966 h1_ hq_) | true => exact blk_lt (Q_BK966_e5 hq_))))
      have z_BK966 := fun (h0_ : b 3 = true) (h1_ : b 5 = false) => (bbT (Q_BK966 h0_ h1_) hb)
      clear BK940
      clear BK941
      clear BK942
      clear HB
      have BK940 := n0_
      have BK941 := n1_
      have BK942 := n2_
      have HB := n3_
      have BK965 := n4_
      have GW965 := n5_
      have GE965 := n6_
      have NB940_965 := n7_
      have NB965_940 := n8_
      have NB941_965 := n9_
      have NB965_941 := n10_
      have NB942_965 := n11_
      have NB965_942 := n12_
      clear n0_ n1_ n2_ n3_ n4_ n5_ n6_ n7_ n8_ n9_ n10_ n11_ n12_
      clear hb hbox hg
      refine hK.out _ _ ⟨gb965, gb966, (.pointer (some ⟨gb965, 0, none⟩)), m3_, (by rw [ha.out]; exact putSel_upk 2 hb_ rfl rfl rfl), (bT BK940.out), (bT BK941.out), (bT BK942.out), (wT HB.out), z_NB966_965, z_NB965_966, fun _ _ => (bT BK965.out), fun _ => GW965.out, fun _ => GE965.out, fun _ => NB940_965.out, fun _ => NB965_940.out, fun _ => NB941_965.out, fun _ => NB965_941.out, fun _ => NB942_965.out, fun _ => NB965_942.out, z_BK966, Q_GW966, Q_GE966, Q_NB940_966, Q_NB966_940, Q_NB941_966, Q_NB966_941, Q_NB942_966, Q_NB966_942, fun h0_ => absurd ((hoff 4 (by kernel_rfl)).symm.trans h0_) (by decide), fun h0_ => absurd ((hoff 5 (by kernel_rfl)).symm.trans h0_) (by decide), fun _ => rfl, Q_X3_⟩
     refine steps_cons ?_ ?_
     ·rintro b a w' ⟨gb965, gb966, m2_, m3_, ha, Q_BK940, Q_BK941, Q_BK942, Q_HB, Q_NB966_965, Q_NB965_966, Q_BK965, Q_GW965, Q_GE965, Q_NB940_965, Q_NB965_940, Q_NB941_965, Q_NB965_941, Q_NB942_965, Q_NB965_942, Q_BK966, Q_GW966, Q_GE966, Q_NB940_966, Q_NB966_940, Q_NB941_966, Q_NB966_941, Q_NB942_966, Q_NB966_942, Q_BK965_e4, Q_BK966_e5, Q_X2_, Q_X3_⟩ hb_ hon hoff
      refine ⟨_, rfl, fun K hK => ?_⟩
      replace ha := mk0 ha
      have BK940 := mk0 Q_BK940
      have BK941 := mk0 Q_BK941
      have BK942 := mk0 Q_BK942
      have HB := mk0 Q_HB
      refine box_step ?hg (N := 8) ?hd (cs := #[.int .i64 0, .int .i64 0, .int .i64 0]) (t := 23) ?hr ?_; (case hd => rfl); (case hg => rfl); (case hr => first | (go_simp; done) | (go_simp; rfl))
      intro gb966 hg w79 hbox hb
      have n0_ := mk0 (bbT BK940.out hb)
      have n1_ := mk0 (bbT BK941.out hb)
      have n2_ := mk0 (bbT BK942.out hb)
      have n3_ := mk0 (below_step (wT HB.out) hb)
      have n4_ := mk0 (hbox)
      have n5_ := mk0 ((szT HB.out hg))
      have n6_ := mk0 ((szT HB.out hg))
      have n7_ := mk0 ((neL BK940.out hg))
      have n8_ := mk0 ((neG BK940.out hg))
      have n9_ := mk0 ((neL BK941.out hg))
      have n10_ := mk0 ((neG BK941.out hg))
      have n11_ := mk0 ((neL BK942.out hg))
      have n12_ := mk0 ((neG BK942.out hg))
      have z_NB966_965 := fun (h0_ : up b 3 2 = true) (h1_ : up b 3 3 = true) => (show gb966 ≠ gb965 from by rw [hg]; exact Nat.ne_of_gt ((show gb965 < w'.heap.size by cases hq_ : b 4 with | false => exact blk_lt (Q_BK965 h0_ hq_) | true => exact blk_lt (Q_BK965_e4 hq_))))
      have z_NB965_966 := fun (h0_ : up b 3 2 = true) (h1_ : up b 3 3 = true) => (show gb965 ≠ gb966 from by rw [hg]; exact Nat.ne_of_lt ((show gb965 < w'.heap.size by cases hq_ : b 4 with | false => exact blk_lt (Q_BK965 h0_ hq_) | true => exact blk_lt (Q_BK965_e4 hq_))))
      have z_BK965 := fun (h0_ : b 2 = true) (h1_ : b 4 = false) => (bbT (Q_BK965 h0_ h1_) hb)
      clear BK940
      clear BK941
      clear BK942
      clear HB
      have BK940 := n0_
      have BK941 := n1_
      have BK942 := n2_
      have HB := n3_
      have BK966 := n4_
      have GW966 := n5_
      have GE966 := n6_
      have NB940_966 := n7_
      have NB966_940 := n8_
      have NB941_966 := n9_
      have NB966_941 := n10_
      have NB942_966 := n11_
      have NB966_942 := n12_
      clear n0_ n1_ n2_ n3_ n4_ n5_ n6_ n7_ n8_ n9_ n10_ n11_ n12_
      clear hb hbox hg
      refine hK.out _ _ ⟨gb965, gb966, m2_, (.pointer (some ⟨gb966, 0, none⟩)), (by rw [ha.out]; exact putSel_upk 3 hb_ rfl rfl rfl), (bT BK940.out), (bT BK941.out), (bT BK942.out), (wT HB.out), z_NB966_965, z_NB965_966, z_BK965, Q_GW965, Q_GE965, Q_NB940_965, Q_NB965_940, Q_NB941_965, Q_NB965_941, Q_NB942_965, Q_NB965_942, fun _ _ => (bT BK966.out), fun _ => GW966.out, fun _ => GE966.out, fun _ => NB940_966.out, fun _ => NB966_940.out, fun _ => NB941_966.out, fun _ => NB966_941.out, fun _ => NB942_966.out, fun _ => NB966_942.out, fun h0_ => absurd ((hoff 4 (by kernel_rfl)).symm.trans h0_) (by decide), fun h0_ => absurd ((hoff 5 (by kernel_rfl)).symm.trans h0_) (by decide), Q_X2_, fun _ => rfl⟩
     refine steps_cons ?_ ?_
     ·rintro b a w' ⟨gb965, gb966, m2_, m3_, ha, Q_BK940, Q_BK941, Q_BK942, Q_HB, Q_NB966_965, Q_NB965_966, Q_BK965, Q_GW965, Q_GE965, Q_NB940_965, Q_NB965_940, Q_NB941_965, Q_NB965_941, Q_NB942_965, Q_NB965_942, Q_BK966, Q_GW966, Q_GE966, Q_NB940_966, Q_NB966_940, Q_NB941_966, Q_NB966_941, Q_NB942_966, Q_NB966_942, Q_BK965_e4, Q_BK966_e5, Q_X2_, Q_X3_⟩ hb_ hon hoff
      refine ⟨_, rfl, fun K hK => ?_⟩
      have e7 : a.tmps[7]? = some (m2_) := by rw [ha]; exact putSel_on (e := (2, 7, m2_)) 2 rfl rfl (hon 2 (by kernel_rfl)) rfl
      rw [Q_X2_ (hon 2 (by kernel_rfl))] at e7
      have e44 : a.tmps[44]? = some (.agg #[.int .i64 a1_0, .int .i64 a1_1, .int .i64 a1_2]) := by rw [ha]; exact putSel_on (e := (0, 44, .agg #[.int .i64 a1_0, .int .i64 a1_1, .int .i64 a1_2])) 0 rfl rfl (hon 0 (by kernel_rfl)) rfl
      replace ha := mk0 ha
      have BK940 := mk0 Q_BK940
      have BK941 := mk0 Q_BK941
      have BK942 := mk0 Q_BK942
      have HB := mk0 Q_HB
      have NB966_965 := mk0 (Q_NB966_965 (hon 2 (by kernel_rfl)) (hon 3 (by kernel_rfl)))
      have NB965_966 := mk0 (Q_NB965_966 (hon 2 (by kernel_rfl)) (hon 3 (by kernel_rfl)))
      have BK965 := mk0 (Q_BK965 (hon 2 (by kernel_rfl)) hb_)
      have GW965 := mk0 (Q_GW965 (hon 2 (by kernel_rfl)))
      have GE965 := mk0 (Q_GE965 (hon 2 (by kernel_rfl)))
      have NB940_965 := mk0 (Q_NB940_965 (hon 2 (by kernel_rfl)))
      have NB965_940 := mk0 (Q_NB965_940 (hon 2 (by kernel_rfl)))
      have NB941_965 := mk0 (Q_NB941_965 (hon 2 (by kernel_rfl)))
      have NB965_941 := mk0 (Q_NB965_941 (hon 2 (by kernel_rfl)))
      have NB942_965 := mk0 (Q_NB942_965 (hon 2 (by kernel_rfl)))
      have NB965_942 := mk0 (Q_NB965_942 (hon 2 (by kernel_rfl)))
      have BK966 := mk0 (Q_BK966 (hon 3 (by kernel_rfl)) (hoff 5 (by kernel_rfl)))
      have GW966 := mk0 (Q_GW966 (hon 3 (by kernel_rfl)))
      have GE966 := mk0 (Q_GE966 (hon 3 (by kernel_rfl)))
      have NB940_966 := mk0 (Q_NB940_966 (hon 3 (by kernel_rfl)))
      have NB966_940 := mk0 (Q_NB966_940 (hon 3 (by kernel_rfl)))
      have NB941_966 := mk0 (Q_NB941_966 (hon 3 (by kernel_rfl)))
      have NB966_941 := mk0 (Q_NB966_941 (hon 3 (by kernel_rfl)))
      have NB942_966 := mk0 (Q_NB942_966 (hon 3 (by kernel_rfl)))
      have NB966_942 := mk0 (Q_NB966_942 (hon 3 (by kernel_rfl)))
      have hs82 := ct BK965.out 0
      have hfs82 := blk_frozen BK965.out 0
      have hns82_0 := NB940_965.out
      have hns82_1 := NB941_965.out
      have hns82_2 := NB942_965.out
      have hns82_4 := NB966_965.out
      have hms82_0 := NB965_940.out
      have hms82_1 := NB965_941.out
      have hms82_2 := NB965_942.out
      have hms82_4 := NB965_966.out
      have hs83 := ct BK965.out 1
      have hfs83 := blk_frozen BK965.out 1
      have hns83_0 := NB940_965.out
      have hns83_1 := NB941_965.out
      have hns83_2 := NB942_965.out
      have hns83_4 := NB966_965.out
      have hms83_0 := NB965_940.out
      have hms83_1 := NB965_941.out
      have hms83_2 := NB965_942.out
      have hms83_4 := NB965_966.out
      have hs84 := ct BK965.out 2
      have hfs84 := blk_frozen BK965.out 2
      have hns84_0 := NB940_965.out
      have hns84_1 := NB941_965.out
      have hns84_2 := NB942_965.out
      have hns84_4 := NB966_965.out
      have hms84_0 := NB965_940.out
      have hms84_1 := NB965_941.out
      have hms84_2 := NB965_942.out
      have hms84_4 := NB965_966.out
      refine skip_ (w1 := ?_) (by rfl) rfl ?_ ?_
      rotate_left
      ·go_simp
       rfl
      refine hK.out _ _ ⟨gb965, gb966, m2_, m3_, (by rw [ha.out]; exact putSel_none (v := undef) rfl), (by (with_reducible repeat (first | refine blk_drewN ?_ _ | refine blk_drew ?_ | refine blk_alloc ?_ _)); refine blk_far ?_ NB940_965.out _; refine blk_far ?_ NB940_965.out _; refine blk_far ?_ NB940_965.out _; (with_reducible repeat (first | refine blk_drewN ?_ _ | refine blk_drew ?_ | refine blk_alloc ?_ _)); exact BK940.out), (by (with_reducible repeat (first | refine blk_drewN ?_ _ | refine blk_drew ?_ | refine blk_alloc ?_ _)); refine blk_far ?_ NB941_965.out _; refine blk_far ?_ NB941_965.out _; refine blk_far ?_ NB941_965.out _; (with_reducible repeat (first | refine blk_drewN ?_ _ | refine blk_drew ?_ | refine blk_alloc ?_ _)); exact BK941.out), (by (with_reducible repeat (first | refine blk_drewN ?_ _ | refine blk_drew ?_ | refine blk_alloc ?_ _)); refine blk_far ?_ NB942_965.out _; refine blk_far ?_ NB942_965.out _; refine blk_far ?_ NB942_965.out _; (with_reducible repeat (first | refine blk_drewN ?_ _ | refine blk_drew ?_ | refine blk_alloc ?_ _)); exact BK942.out), (by repeat (first | (with_reducible first | exact HB.out | apply below_alloc | apply pw_below_drewN | apply below_drew1 | refine below_set ?_ GE965.out) | exact HB.out)), fun _ _ => NB966_965.out, fun _ _ => NB965_966.out, fun _ h1_ => absurd ((up_self b 4).symm.trans h1_) (by decide), fun _ => GW965.out, fun _ => GE965.out, fun _ => NB940_965.out, fun _ => NB965_940.out, fun _ => NB941_965.out, fun _ => NB965_941.out, fun _ => NB942_965.out, fun _ => NB965_942.out, fun _ _ => (by (with_reducible repeat (first | refine blk_drewN ?_ _ | refine blk_drew ?_ | refine blk_alloc ?_ _)); refine blk_far ?_ NB966_965.out _; refine blk_far ?_ NB966_965.out _; refine blk_far ?_ NB966_965.out _; (with_reducible repeat (first | refine blk_drewN ?_ _ | refine blk_drew ?_ | refine blk_alloc ?_ _)); exact BK966.out), fun _ => GW966.out, fun _ => GE966.out, fun _ => NB940_966.out, fun _ => NB966_940.out, fun _ => NB941_966.out, fun _ => NB966_941.out, fun _ => NB942_966.out, fun _ => NB966_942.out, fun _ => (by (with_reducible repeat (first | refine blk_drewN ?_ _ | refine blk_drew ?_ | refine blk_alloc ?_ _)); refine blk_put (cs := #[.int .i64 a1_0, .int .i64 a1_1, .int .i64 0]) ?_ 2 _ rfl; refine blk_put (cs := #[.int .i64 a1_0, .int .i64 0, .int .i64 0]) ?_ 1 _ rfl; refine blk_put (cs := #[.int .i64 0, .int .i64 0, .int .i64 0]) ?_ 0 _ rfl; (with_reducible repeat (first | refine blk_drewN ?_ _ | refine blk_drew ?_ | refine blk_alloc ?_ _)); exact BK965.out), fun h0_ => absurd ((hoff 5 (by kernel_rfl)).symm.trans h0_) (by decide), Q_X2_, Q_X3_⟩
     refine steps_cons ?_ ?_
     ·rintro b a w' ⟨gb965, gb966, m2_, m3_, ha, Q_BK940, Q_BK941, Q_BK942, Q_HB, Q_NB966_965, Q_NB965_966, Q_BK965, Q_GW965, Q_GE965, Q_NB940_965, Q_NB965_940, Q_NB941_965, Q_NB965_941, Q_NB942_965, Q_NB965_942, Q_BK966, Q_GW966, Q_GE966, Q_NB940_966, Q_NB966_940, Q_NB941_966, Q_NB966_941, Q_NB942_966, Q_NB966_942, Q_BK965_e4, Q_BK966_e5, Q_X2_, Q_X3_⟩ hb_ hon hoff
      refine ⟨_, rfl, fun K hK => ?_⟩
      have e8 : a.tmps[8]? = some (m3_) := by rw [ha]; exact putSel_on (e := (3, 8, m3_)) 3 rfl rfl (hon 3 (by kernel_rfl)) rfl
      rw [Q_X3_ (hon 3 (by kernel_rfl))] at e8
      have e45 : a.tmps[45]? = some (.agg #[.int .i64 a1_0, .int .i64 a1_1, .int .i64 a1_2]) := by rw [ha]; exact putSel_on (e := (1, 45, .agg #[.int .i64 a1_0, .int .i64 a1_1, .int .i64 a1_2])) 1 rfl rfl (hon 1 (by kernel_rfl)) rfl
      replace ha := mk0 ha
      have BK940 := mk0 Q_BK940
      have BK941 := mk0 Q_BK941
      have BK942 := mk0 Q_BK942
      have HB := mk0 Q_HB
      have NB966_965 := mk0 (Q_NB966_965 (hon 2 (by kernel_rfl)) (hon 3 (by kernel_rfl)))
      have NB965_966 := mk0 (Q_NB965_966 (hon 2 (by kernel_rfl)) (hon 3 (by kernel_rfl)))
      have GW965 := mk0 (Q_GW965 (hon 2 (by kernel_rfl)))
      have GE965 := mk0 (Q_GE965 (hon 2 (by kernel_rfl)))
      have NB940_965 := mk0 (Q_NB940_965 (hon 2 (by kernel_rfl)))
      have NB965_940 := mk0 (Q_NB965_940 (hon 2 (by kernel_rfl)))
      have NB941_965 := mk0 (Q_NB941_965 (hon 2 (by kernel_rfl)))
      have NB965_941 := mk0 (Q_NB965_941 (hon 2 (by kernel_rfl)))
      have NB942_965 := mk0 (Q_NB942_965 (hon 2 (by kernel_rfl)))
      have NB965_942 := mk0 (Q_NB965_942 (hon 2 (by kernel_rfl)))
      have BK966 := mk0 (Q_BK966 (hon 3 (by kernel_rfl)) hb_)
      have GW966 := mk0 (Q_GW966 (hon 3 (by kernel_rfl)))
      have GE966 := mk0 (Q_GE966 (hon 3 (by kernel_rfl)))
      have NB940_966 := mk0 (Q_NB940_966 (hon 3 (by kernel_rfl)))
      have NB966_940 := mk0 (Q_NB966_940 (hon 3 (by kernel_rfl)))
      have NB941_966 := mk0 (Q_NB941_966 (hon 3 (by kernel_rfl)))
      have NB966_941 := mk0 (Q_NB966_941 (hon 3 (by kernel_rfl)))
      have NB942_966 := mk0 (Q_NB942_966 (hon 3 (by kernel_rfl)))
      have NB966_942 := mk0 (Q_NB966_942 (hon 3 (by kernel_rfl)))
      have BK965 := mk0 (Q_BK965_e4 (hon 4 (by kernel_rfl)))
      have hs85 := ct BK966.out 0
      have hfs85 := blk_frozen BK966.out 0
      have hns85_0 := NB940_966.out
      have hns85_1 := NB941_966.out
      have hns85_2 := NB942_966.out
      have hns85_3 := NB965_966.out
      have hms85_0 := NB966_940.out
      have hms85_1 := NB966_941.out
      have hms85_2 := NB966_942.out
      have hms85_3 := NB966_965.out
      have hs86 := ct BK966.out 1
      have hfs86 := blk_frozen BK966.out 1
      have hns86_0 := NB940_966.out
      have hns86_1 := NB941_966.out
      have hns86_2 := NB942_966.out
      have hns86_3 := NB965_966.out
      have hms86_0 := NB966_940.out
      have hms86_1 := NB966_941.out
      have hms86_2 := NB966_942.out
      have hms86_3 := NB966_965.out
      have hs87 := ct BK966.out 2
      have hfs87 := blk_frozen BK966.out 2
      have hns87_0 := NB940_966.out
      have hns87_1 := NB941_966.out
      have hns87_2 := NB942_966.out
      have hns87_3 := NB965_966.out
      have hms87_0 := NB966_940.out
      have hms87_1 := NB966_941.out
      have hms87_2 := NB966_942.out
      have hms87_3 := NB966_965.out
      refine skip_ (w1 := ?_) (by rfl) rfl ?_ ?_
      rotate_left
      ·go_simp
       rfl
      refine hK.out _ _ ⟨gb965, gb966, m2_, m3_, (by rw [ha.out]; exact putSel_none (v := undef) rfl), (by (with_reducible repeat (first | refine blk_drewN ?_ _ | refine blk_drew ?_ | refine blk_alloc ?_ _)); refine blk_far ?_ NB940_966.out _; refine blk_far ?_ NB940_966.out _; refine blk_far ?_ NB940_966.out _; (with_reducible repeat (first | refine blk_drewN ?_ _ | refine blk_drew ?_ | refine blk_alloc ?_ _)); exact BK940.out), (by (with_reducible repeat (first | refine blk_drewN ?_ _ | refine blk_drew ?_ | refine blk_alloc ?_ _)); refine blk_far ?_ NB941_966.out _; refine blk_far ?_ NB941_966.out _; refine blk_far ?_ NB941_966.out _; (with_reducible repeat (first | refine blk_drewN ?_ _ | refine blk_drew ?_ | refine blk_alloc ?_ _)); exact BK941.out), (by (with_reducible repeat (first | refine blk_drewN ?_ _ | refine blk_drew ?_ | refine blk_alloc ?_ _)); refine blk_far ?_ NB942_966.out _; refine blk_far ?_ NB942_966.out _; refine blk_far ?_ NB942_966.out _; (with_reducible repeat (first | refine blk_drewN ?_ _ | refine blk_drew ?_ | refine blk_alloc ?_ _)); exact BK942.out), (by repeat (first | (with_reducible first | exact HB.out | apply below_alloc | apply pw_below_drewN | apply below_drew1 | refine below_set ?_ GE966.out) | exact HB.out)), fun _ _ => NB966_965.out, fun _ _ => NB965_966.out, fun _ h1_ => absurd ((hon 4 (by kernel_rfl)).symm.trans h1_) (by decide), fun _ => GW965.out, fun _ => GE965.out, fun _ => NB940_965.out, fun _ => NB965_940.out, fun _ => NB941_965.out, fun _ => NB965_941.out, fun _ => NB942_965.out, fun _ => NB965_942.out, fun _ h1_ => absurd ((up_self b 5).symm.trans h1_) (by decide), fun _ => GW966.out, fun _ => GE966.out, fun _ => NB940_966.out, fun _ => NB966_940.out, fun _ => NB941_966.out, fun _ => NB966_941.out, fun _ => NB942_966.out, fun _ => NB966_942.out, fun _ => (by (with_reducible repeat (first | refine blk_drewN ?_ _ | refine blk_drew ?_ | refine blk_alloc ?_ _)); refine blk_far ?_ NB965_966.out _; refine blk_far ?_ NB965_966.out _; refine blk_far ?_ NB965_966.out _; (with_reducible repeat (first | refine blk_drewN ?_ _ | refine blk_drew ?_ | refine blk_alloc ?_ _)); exact BK965.out), fun _ => (by (with_reducible repeat (first | refine blk_drewN ?_ _ | refine blk_drew ?_ | refine blk_alloc ?_ _)); refine blk_put (cs := #[.int .i64 a1_0, .int .i64 a1_1, .int .i64 0]) ?_ 2 _ rfl; refine blk_put (cs := #[.int .i64 a1_0, .int .i64 0, .int .i64 0]) ?_ 1 _ rfl; refine blk_put (cs := #[.int .i64 0, .int .i64 0, .int .i64 0]) ?_ 0 _ rfl; (with_reducible repeat (first | refine blk_drewN ?_ _ | refine blk_drew ?_ | refine blk_alloc ?_ _)); exact BK966.out), Q_X2_, Q_X3_⟩
     exact steps_nil
    rintro b a w87 hall ⟨gb965, gb966, m2_, m3_, ha, Q_BK940, Q_BK941, Q_BK942, Q_HB, Q_NB966_965, Q_NB965_966, Q_BK965, Q_GW965, Q_GE965, Q_NB940_965, Q_NB965_940, Q_NB941_965, Q_NB965_941, Q_NB942_965, Q_NB965_942, Q_BK966, Q_GW966, Q_GE966, Q_NB940_966, Q_NB966_940, Q_NB941_966, Q_NB966_941, Q_NB942_966, Q_NB966_942, Q_BK965_e4, Q_BK966_e5, Q_X2_, Q_X3_⟩
    clear BK940 BK941 BK942 HB
    have hb0_ := hall 0 (by kernel_rfl)
    have hb1_ := hall 1 (by kernel_rfl)
    have hb2_ := hall 2 (by kernel_rfl)
    have hb3_ := hall 3 (by kernel_rfl)
    have hb4_ := hall 4 (by kernel_rfl)
    have hb5_ := hall 5 (by kernel_rfl)
    subst ha
    obtain rfl := Q_X2_ hb2_
    obtain rfl := Q_X3_ hb3_
    simp only [putSel, hb0_, hb1_, hb2_, hb3_, hb4_, hb5_, if_true, Act.put, List.setIfInBounds_toArray, List.set_cons_zero, List.set_cons_succ]
    have BK940 := mk0 Q_BK940
    clear Q_BK940
    have BK941 := mk0 Q_BK941
    clear Q_BK941
    have BK942 := mk0 Q_BK942
    clear Q_BK942
    have HB := mk0 Q_HB
    clear Q_HB
    have NB966_965 := mk0 (Q_NB966_965 hb2_ hb3_)
    clear Q_NB966_965
    have NB965_966 := mk0 (Q_NB965_966 hb2_ hb3_)
    clear Q_NB965_966
    clear Q_BK965
    have GW965 := mk0 (Q_GW965 hb2_)
    clear Q_GW965
    have GE965 := mk0 (Q_GE965 hb2_)
    clear Q_GE965
    have NB940_965 := mk0 (Q_NB940_965 hb2_)
    clear Q_NB940_965
    have NB965_940 := mk0 (Q_NB965_940 hb2_)
    clear Q_NB965_940
    have NB941_965 := mk0 (Q_NB941_965 hb2_)
    clear Q_NB941_965
    have NB965_941 := mk0 (Q_NB965_941 hb2_)
    clear Q_NB965_941
    have NB942_965 := mk0 (Q_NB942_965 hb2_)
    clear Q_NB942_965
    have NB965_942 := mk0 (Q_NB965_942 hb2_)
    clear Q_NB965_942
    clear Q_BK966
    have GW966 := mk0 (Q_GW966 hb3_)
    clear Q_GW966
    have GE966 := mk0 (Q_GE966 hb3_)
    clear Q_GE966
    have NB940_966 := mk0 (Q_NB940_966 hb3_)
    clear Q_NB940_966
    have NB966_940 := mk0 (Q_NB966_940 hb3_)
    clear Q_NB966_940
    have NB941_966 := mk0 (Q_NB941_966 hb3_)
    clear Q_NB941_966
    have NB966_941 := mk0 (Q_NB966_941 hb3_)
    clear Q_NB966_941
    have NB942_966 := mk0 (Q_NB942_966 hb3_)
    clear Q_NB942_966
    have NB966_942 := mk0 (Q_NB966_942 hb3_)
    clear Q_NB966_942
    have BK965 := mk0 (Q_BK965_e4 hb4_)
    clear Q_BK965_e4
    have BK966 := mk0 (Q_BK966_e5 hb5_)
    clear Q_BK966_e5
    clear hall hb0_ hb1_ hb2_ hb3_ hb4_ hb5_
    have hnb88 := NB965_940.out
    have hnc88 := NB940_965.out
    have hnb89 := NB965_941.out
    have hnc89 := NB941_965.out
    have hnb90 := NB965_942.out
    have hnc90 := NB942_965.out
    have hnb91 := NB965_966.out
    have hnc91 := NB966_965.out
    have X92_0 := ct BK965.out 0
    have X92_1 := ct BK965.out 1
    have X92_2 := ct BK965.out 2
    have Y92_0 := blk_frozen BK965.out 0
    have Y92_1 := blk_frozen BK965.out 1
    have Y92_2 := blk_frozen BK965.out 2
    have hnb93 := NB942_940.out
    have hnc93 := NB940_942.out
    have hnb94 := NB942_941.out
    have hnc94 := NB941_942.out
    have hnb95 := NB942_966.out
    have hnc95 := NB966_942.out
    have X96_0 := ct BK942.out 0
    have X96_1 := ct BK942.out 1
    have Y96_0 := blk_frozen BK942.out 0
    have Y96_1 := blk_frozen BK942.out 1
    have hnb97 := NB966_940.out
    have hnc97 := NB940_966.out
    have hnb98 := NB966_941.out
    have hnc98 := NB941_966.out
    have X99_0 := ct BK966.out 0
    have X99_1 := ct BK966.out 1
    have X99_2 := ct BK966.out 2
    have Y99_0 := blk_frozen BK966.out 0
    have Y99_1 := blk_frozen BK966.out 1
    have Y99_2 := blk_frozen BK966.out 2
    go_upto_if 70 with (fail)
    go_cut [] (fun wc => ∃ (kq : Nat) (x967000_76 : Int) (x967001_76 : Int) (x967002_76 : Int), Aside0 (metrolablaw30_ProbeTurns.j1 kq a0_0 a0_1 a0_2 a0_3 a0_4 a0_5 l0_6 a1_0 a1_1 a1_2 (wrap64 (a1_0 + (wrap64 (a2_0)))) a1_1 a1_2 x967000_76 x967001_76 x967002_76 = some r) ∧ Aside0 (kq ≤ kj3) ∧ Aside0 (wc.heap[gb940]? = some (.cells #[.int .i64 a0_0, .int .i64 a0_1, .int .i64 a0_2, .int .i64 a0_3, .int .i64 a0_4, .int .i64 a0_5, (.slice A0_6 l0_6.length c0_6)] 26 (0, 0))) ∧ Aside0 (wc.heap[gb941]? = some (.cells #[.int .i64 a1_0, .int .i64 a1_1, .int .i64 a1_2] 23 (0, 0))) ∧ Aside0 (wc.heap[gb965]? = some (.cells #[.int .i64 (wrap64 (a1_0 + (wrap64 (a2_0)))), .int .i64 a1_1, .int .i64 a1_2] 23 (0, 0))) ∧ Aside0 (wc.heap[gb966]? = some (.cells #[.int .i64 x967000_76, .int .i64 x967001_76, .int .i64 x967002_76] 23 (0, 0))) ∧ Aside0 (Below w.heap.size w wc))
    case first =>
     have H := HC77.out
     clear HC77
     by_cases c100 : ((decide (a2_0 < 0)) != (decide (a2_1 < 0))) = true
     ·rw [if_pos c100] at H
      have c100b0 : ((decide (a2_0 < 0)) != (decide (a2_1 < 0))) = true := c100
      (try (have c100b1 : decide ((decide (a2_0 < 0)) = (decide (a2_1 < 0))) = false := by simpa using c100))
      (try (have c100b2 : ((decide (a2_0 < 0)) == (decide (a2_1 < 0))) = false := by simpa using c100))
      (try (have c100b3 : ¬ ((decide (a2_0 < 0)) = (decide (a2_1 < 0))) := by simpa using c100))
      clear c100
      (first | rw [c100b0] | (simp only [i64_w, i32_w]; rw [c100b0]) | skip)
      have H' := mk0 H
      clear H
      have hnb101 := NB965_940.out
      have hnc101 := NB940_965.out
      have hnb102 := NB965_941.out
      have hnc102 := NB941_965.out
      have hnb103 := NB965_942.out
      have hnc103 := NB942_965.out
      have hnb104 := NB965_966.out
      have hnc104 := NB966_965.out
      have X105_0 := ct BK965.out 0
      have X105_1 := ct BK965.out 1
      have X105_2 := ct BK965.out 2
      have Y105_0 := blk_frozen BK965.out 0
      have Y105_1 := blk_frozen BK965.out 1
      have Y105_2 := blk_frozen BK965.out 2
      have hnb106 := NB966_940.out
      have hnc106 := NB940_966.out
      have hnb107 := NB966_941.out
      have hnc107 := NB941_966.out
      have hnb108 := NB966_942.out
      have hnc108 := NB942_966.out
      have X109_0 := ct BK966.out 0
      have X109_1 := ct BK966.out 1
      have X109_2 := ct BK966.out 2
      have Y109_0 := blk_frozen BK966.out 0
      have Y109_1 := blk_frozen BK966.out 1
      have Y109_2 := blk_frozen BK966.out 2
      go_wp2
      all_goals (first | (exfalso; have hx : (!(decide (a2_0 < 0) == decide (a2_1 < 0))) = false := (by assumption); revert hx c100b0; cases decide (a2_0 < 0) <;> cases decide (a2_1 < 0) <;> decide) | skip)
      go_meet
      case rel => exact ⟨_, (wrap64 (a1_0 + (wrap64 (a2_0)))), (a1_1), (a1_2), H', ⟨by have := HJ3.out; first | omega | exact Nat.le_refl _⟩, ⟨by (with_reducible repeat (first | refine blk_drewN ?_ _ | refine blk_drew ?_ | refine blk_alloc ?_ _)); refine blk_far ?_ NB940_966.out _; refine blk_far ?_ NB940_966.out _; refine blk_far ?_ NB940_966.out _; refine blk_far ?_ NB940_966.out _; refine blk_far ?_ NB940_965.out _; (with_reducible repeat (first | refine blk_drewN ?_ _ | refine blk_drew ?_ | refine blk_alloc ?_ _)); exact BK940.out⟩, ⟨by (with_reducible repeat (first | refine blk_drewN ?_ _ | refine blk_drew ?_ | refine blk_alloc ?_ _)); refine blk_far ?_ NB941_966.out _; refine blk_far ?_ NB941_966.out _; refine blk_far ?_ NB941_966.out _; refine blk_far ?_ NB941_966.out _; refine blk_far ?_ NB941_965.out _; (with_reducible repeat (first | refine blk_drewN ?_ _ | refine blk_drew ?_ | refine blk_alloc ?_ _)); exact BK941.out⟩, ⟨by (with_reducible repeat (first | refine blk_drewN ?_ _ | refine blk_drew ?_ | refine blk_alloc ?_ _)); refine blk_far ?_ NB965_966.out _; refine blk_far ?_ NB965_966.out _; refine blk_far ?_ NB965_966.out _; refine blk_far ?_ NB965_966.out _; refine blk_put (cs := #[.int .i64 a1_0, .int .i64 a1_1, .int .i64 a1_2]) ?_ 0 _ rfl; (with_reducible repeat (first | refine blk_drewN ?_ _ | refine blk_drew ?_ | refine blk_alloc ?_ _)); exact BK965.out⟩, ⟨by (with_reducible repeat (first | refine blk_drewN ?_ _ | refine blk_drew ?_ | refine blk_alloc ?_ _)); refine blk_put (cs := #[.int .i64 (wrap64 (a1_0 + (wrap64 (a2_0)))), .int .i64 a1_1, .int .i64 a1_2]) ?_ 2 _ rfl; refine blk_put (cs := #[.int .i64 (wrap64 (a1_0 + (wrap64 (a2_0)))), .int .i64 a1_1, .int .i64 a1_2]) ?_ 1 _ rfl; refine blk_put (cs := #[.int .i64 (wrap64 (a1_0 + (wrap64 ((wrap64 (a2_0)) + (wrap64 (a2_1)))))), .int .i64 a1_1, .int .i64 a1_2]) ?_ 0 _ rfl; refine blk_put (cs := #[.int .i64 a1_0, .int .i64 a1_1, .int .i64 a1_2]) ?_ 0 _ rfl; refine blk_far ?_ NB966_965.out _; (with_reducible repeat (first | refine blk_drewN ?_ _ | refine blk_drew ?_ | refine blk_alloc ?_ _)); exact BK966.out⟩, ⟨by repeat (first | (with_reducible first | exact HB.out | apply below_alloc | apply pw_below_drewN | apply below_drew1 | refine below_set ?_ GE965.out | refine below_set ?_ GE966.out) | exact HB.out)⟩⟩
     ·rw [if_neg c100] at H
      have c100b0 : ((decide (a2_0 < 0)) != (decide (a2_1 < 0))) = false := by simpa using c100
      (try (have c100b1 : decide ((decide (a2_0 < 0)) = (decide (a2_1 < 0))) = true := by simpa using c100))
      (try (have c100b2 : ((decide (a2_0 < 0)) == (decide (a2_1 < 0))) = true := by simpa using c100))
      clear c100
      (first | rw [c100b0] | (simp only [i64_w, i32_w]; rw [c100b0]) | skip)
      have H' := mk0 H
      clear H
      go_wp2
      all_goals (first | (exfalso; have hx : (!(decide (a2_0 < 0) == decide (a2_1 < 0))) = true := (by assumption); revert hx c100b0; cases decide (a2_0 < 0) <;> cases decide (a2_1 < 0) <;> decide) | skip)
      go_meet
      case rel => exact ⟨_, (wrap64 (a1_0 + (wrap64 ((wrap64 (a2_0)) + (wrap64 (a2_1)))))), (a1_1), (a1_2), H', ⟨by have := HJ3.out; first | omega | exact Nat.le_refl _⟩, ⟨by (with_reducible repeat (first | refine blk_drewN ?_ _ | refine blk_drew ?_ | refine blk_alloc ?_ _)); refine blk_far ?_ NB940_966.out _; refine blk_far ?_ NB940_965.out _; (with_reducible repeat (first | refine blk_drewN ?_ _ | refine blk_drew ?_ | refine blk_alloc ?_ _)); exact BK940.out⟩, ⟨by (with_reducible repeat (first | refine blk_drewN ?_ _ | refine blk_drew ?_ | refine blk_alloc ?_ _)); refine blk_far ?_ NB941_966.out _; refine blk_far ?_ NB941_965.out _; (with_reducible repeat (first | refine blk_drewN ?_ _ | refine blk_drew ?_ | refine blk_alloc ?_ _)); exact BK941.out⟩, ⟨by (with_reducible repeat (first | refine blk_drewN ?_ _ | refine blk_drew ?_ | refine blk_alloc ?_ _)); refine blk_far ?_ NB965_966.out _; refine blk_put (cs := #[.int .i64 a1_0, .int .i64 a1_1, .int .i64 a1_2]) ?_ 0 _ rfl; (with_reducible repeat (first | refine blk_drewN ?_ _ | refine blk_drew ?_ | refine blk_alloc ?_ _)); exact BK965.out⟩, ⟨by (with_reducible repeat (first | refine blk_drewN ?_ _ | refine blk_drew ?_ | refine blk_alloc ?_ _)); refine blk_put (cs := #[.int .i64 a1_0, .int .i64 a1_1, .int .i64 a1_2]) ?_ 0 _ rfl; refine blk_far ?_ NB966_965.out _; (with_reducible repeat (first | refine blk_drewN ?_ _ | refine blk_drew ?_ | refine blk_alloc ?_ _)); exact BK966.out⟩, ⟨by repeat (first | (with_reducible first | exact HB.out | apply below_alloc | apply pw_below_drewN | apply below_drew1 | refine below_set ?_ GE965.out | refine below_set ?_ GE966.out) | exact HB.out)⟩⟩
    case rest =>
     clear HC77
     try clear c1
     try clear c2
     try clear p2
     try clear p6
     try clear c7
     try clear c8
     try clear c9
     try clear c10
     try clear c14
     try clear p64
     try clear c74
     try clear c88
     try clear c89
     try clear c90
     try clear c91
     try clear c93
     try clear c94
     try clear c95
     try clear c97
     try clear c98
     try clear c100
     try clear c100b0
     try clear c100b1
     try clear c100b2
     try clear c101
     try clear c102
     try clear c103
     try clear c104
     try clear c106
     try clear c107
     try clear c108
     try clear X105_0
     try clear X105_1
     try clear X105_2
     try clear X109_0
     try clear X109_1
     try clear X109_2
     try clear X30_2
     try clear X33_0
     try clear X33_1
     try clear X33_2
     try clear X33_3
     try clear X33_4
     try clear X33_5
     try clear X33_6
     try clear X37_0
     try clear X37_1
     try clear X37_2
     try clear X37_3
     try clear X37_4
     try clear X37_5
     try clear X37_6
     try clear X42_0
     try clear X42_1
     try clear X42_2
     try clear X44_0
     try clear X44_1
     try clear X44_2
     try clear X47_0
     try clear X47_1
     try clear X47_2
     try clear X47_3
     try clear X47_4
     try clear X47_5
     try clear X47_6
     try clear X51_0
     try clear X51_1
     try clear X51_2
     try clear X51_3
     try clear X51_4
     try clear X51_5
     try clear X51_6
     try clear X56_0
     try clear X56_1
     try clear X56_2
     try clear X60_0
     try clear X60_1
     try clear X60_2
     try clear X60_3
     try clear X60_4
     try clear X60_5
     try clear X60_6
     try clear X64_0
     try clear X64_1
     try clear X64_2
     try clear X64_3
     try clear X64_4
     try clear X64_5
     try clear X64_6
     try clear X70_0
     try clear X70_1
     try clear X70_2
     try clear X70_3
     try clear X70_4
     try clear X70_5
     try clear X70_6
     try clear X92_0
     try clear X92_1
     try clear X92_2
     try clear X96_0
     try clear X96_1
     try clear X99_0
     try clear X99_1
     try clear X99_2
     try clear Y105_0
     try clear Y105_1
     try clear Y105_2
     try clear Y109_0
     try clear Y109_1
     try clear Y109_2
     try clear Y19_0
     try clear Y19_1
     try clear Y19_2
     try clear Y19_3
     try clear Y19_4
     try clear Y19_5
     try clear Y19_6
     try clear Y23_0
     try clear Y23_1
     try clear Y23_2
     try clear Y23_3
     try clear Y23_4
     try clear Y23_5
     try clear Y23_6
     try clear Y28_0
     try clear Y28_1
     try clear Y28_2
     try clear Y30_0
     try clear Y30_1
     try clear Y30_2
     try clear Y33_0
     try clear Y33_1
     try clear Y33_2
     try clear Y33_3
     try clear Y33_4
     try clear Y33_5
     try clear Y33_6
     try clear Y37_0
     try clear Y37_1
     try clear Y37_2
     try clear Y37_3
     try clear Y37_4
     try clear Y37_5
     try clear Y37_6
     try clear Y42_0
     try clear Y42_1
     try clear Y42_2
     try clear Y44_0
     try clear Y44_1
     try clear Y44_2
     try clear Y47_0
     try clear Y47_1
     try clear Y47_2
     try clear Y47_3
     try clear Y47_4
     try clear Y47_5
     try clear Y47_6
     try clear Y51_0
     try clear Y51_1
     try clear Y51_2
     try clear Y51_3
     try clear Y51_4
     try clear Y51_5
     try clear Y51_6
     try clear Y56_0
     try clear Y56_1
     try clear Y56_2
     try clear Y60_0
     try clear Y60_1
     try clear Y60_2
     try clear Y60_3
     try clear Y60_4
     try clear Y60_5
     try clear Y60_6
     try clear Y64_0
     try clear Y64_1
     try clear Y64_2
     try clear Y64_3
     try clear Y64_4
     try clear Y64_5
     try clear Y64_6
     try clear Y70_0
     try clear Y70_1
     try clear Y70_2
     try clear Y70_3
     try clear Y70_4
     try clear Y70_5
     try clear Y70_6
     try clear Y92_0
     try clear Y92_1
     try clear Y92_2
     try clear Y96_0
     try clear Y96_1
     try clear Y99_0
     try clear Y99_1
     try clear Y99_2
     obtain ⟨kq, x967000_76, x967001_76, x967002_76, HA, HJ76, BK940, BK941, BK965, BK966, HB⟩ := hcut
     cases kq with
     | zero => exact absurd HA.out (by simp [metrolablaw30_ProbeTurns.j1])
     | succ kj76 =>
      have H := HA.out
      clear HA
      simp only [metrolablaw30_ProbeTurns.j1] at H
      replace H := Option.bind_eq_some_iff.mp H
      obtain ⟨⟨t967, t968⟩, A1100, H⟩ := H
      replace H : ((probe_Free.f kj76 a0_0 a0_1 a0_2 a0_3 a0_4 a0_5 l0_6 x967000_76 x967001_76 x967002_76 a1_0 a1_1 a1_2).bind fun bt969 => ((probe_Free.f kj76 a0_0 a0_1 a0_2 a0_3 a0_4 a0_5 l0_6 a1_0 a1_1 a1_2 (wrap64 (a1_0 + (wrap64 (a2_0)))) a1_1 a1_2).bind fun bt971 => ((probe_Free.f kj76 a0_0 a0_1 a0_2 a0_3 a0_4 a0_5 l0_6 (wrap64 (a1_0 + (wrap64 (a2_0)))) a1_1 a1_2 x967000_76 x967001_76 x967002_76).bind fun bt973 => (if t968 = 0 then (if (wrap64 ((wrap64 (bt969.2 + bt971.2)) + bt973.2)) = 0 then (if (t967 == bt969.1) = true then (if bt971.1 = true then (if (t967 == bt973.1) = true then ((metrolablaw30_awake.f kj76).bind fun t975 => (some t975)) else (none)) else (if (t967 == false) = true then ((metrolablaw30_awake.f kj76).bind fun t976 => (some t976)) else (none))) else (none)) else (none)) else (if t968 = bt969.2 then ((metrolablaw30_awake.f kj76).bind fun t977 => (some t977)) else (none)))))) = some r := H
      have A110 := mk0 A1100
      clear A1100
      replace H := Option.bind_eq_some_iff.mp H
      obtain ⟨⟨t969, t970⟩, A1110, H⟩ := H
      replace H : ((probe_Free.f kj76 a0_0 a0_1 a0_2 a0_3 a0_4 a0_5 l0_6 a1_0 a1_1 a1_2 (wrap64 (a1_0 + (wrap64 (a2_0)))) a1_1 a1_2).bind fun bt971 => ((probe_Free.f kj76 a0_0 a0_1 a0_2 a0_3 a0_4 a0_5 l0_6 (wrap64 (a1_0 + (wrap64 (a2_0)))) a1_1 a1_2 x967000_76 x967001_76 x967002_76).bind fun bt973 => (if t968 = 0 then (if (wrap64 ((wrap64 (t970 + bt971.2)) + bt973.2)) = 0 then (if (t967 == t969) = true then (if bt971.1 = true then (if (t967 == bt973.1) = true then ((metrolablaw30_awake.f kj76).bind fun t975 => (some t975)) else (none)) else (if (t967 == false) = true then ((metrolablaw30_awake.f kj76).bind fun t976 => (some t976)) else (none))) else (none)) else (none)) else (if t968 = t970 then ((metrolablaw30_awake.f kj76).bind fun t977 => (some t977)) else (none))))) = some r := H
      have A111 := mk0 A1110
      clear A1110
      replace H := Option.bind_eq_some_iff.mp H
      obtain ⟨⟨t971, t972⟩, A1120, H⟩ := H
      replace H : ((probe_Free.f kj76 a0_0 a0_1 a0_2 a0_3 a0_4 a0_5 l0_6 (wrap64 (a1_0 + (wrap64 (a2_0)))) a1_1 a1_2 x967000_76 x967001_76 x967002_76).bind fun bt973 => (if t968 = 0 then (if (wrap64 ((wrap64 (t970 + t972)) + bt973.2)) = 0 then (if (t967 == t969) = true then (if t971 = true then (if (t967 == bt973.1) = true then ((metrolablaw30_awake.f kj76).bind fun t975 => (some t975)) else (none)) else (if (t967 == false) = true then ((metrolablaw30_awake.f kj76).bind fun t976 => (some t976)) else (none))) else (none)) else (none)) else (if t968 = t970 then ((metrolablaw30_awake.f kj76).bind fun t977 => (some t977)) else (none)))) = some r := H
      have A112 := mk0 A1120
      clear A1120
      replace H := Option.bind_eq_some_iff.mp H
      obtain ⟨⟨t973, t974⟩, A1130, H⟩ := H
      replace H : (if t968 = 0 then (if (wrap64 ((wrap64 (t970 + t972)) + t974)) = 0 then (if (t967 == t969) = true then (if t971 = true then (if (t967 == t973) = true then ((metrolablaw30_awake.f kj76).bind fun t975 => (some t975)) else (none)) else (if (t967 == false) = true then ((metrolablaw30_awake.f kj76).bind fun t976 => (some t976)) else (none))) else (none)) else (none)) else (if t968 = t970 then ((metrolablaw30_awake.f kj76).bind fun t977 => (some t977)) else (none))) = some r := H
      have A113 := mk0 A1130
      clear A1130
      by_cases c114 : t968 = 0
      ·rw [if_pos c114] at H
       have c114b0 : (t968 == 0) = true := beq_iff_eq.mpr c114
       have c114b1 : (t968 != 0) = false := bne_eq_false_iff_eq.mpr c114
       clear c114
       by_cases c115 : (wrap64 ((wrap64 (t970 + t972)) + t974)) = 0
       ·rw [if_pos c115] at H
        have c115b0 : ((wrap64 ((wrap64 (t970 + t972)) + t974)) == 0) = true := beq_iff_eq.mpr c115
        have c115b1 : ((wrap64 ((wrap64 (t970 + t972)) + t974)) != 0) = false := bne_eq_false_iff_eq.mpr c115
        clear c115
        by_cases c116 : (t967 == t969) = true
        ·rw [if_pos c116] at H
         have c116b0 : (t967 == t969) = true := c116
         (try (have c116b1 : decide (t967 = t969) = true := by simpa using c116))
         (try (have c116b2 : (t967 == t969) = true := by simpa using c116))
         clear c116
         by_cases c117 : t971 = true
         ·subst c117
          have H1 : (if (t967 == t973) = true then ((metrolablaw30_awake.f kj76).bind fun t975 => (some t975)) else (none)) = some r := by rw [if_pos rfl] at H; exact H
          clear H
          have H := H1
          clear H1
          by_cases c118 : (t967 == t973) = true
          ·rw [if_pos c118] at H
           have c118b0 : (t967 == t973) = true := c118
           (try (have c118b1 : decide (t967 = t973) = true := by simpa using c118))
           (try (have c118b2 : (t967 == t973) = true := by simpa using c118))
           clear c118
           replace H := Option.bind_eq_some_iff.mp H
           obtain ⟨t975, A1190, H⟩ := H
           replace H : (some t975) = some r := H
           have A119 := mk0 A1190
           clear A1190
           obtain rfl := Option.some.inj H
           have hnb120 := NB940_941.out
           have hnc120 := NB941_940.out
           have hnb121 := NB940_965.out
           have hnc121 := NB965_940.out
           have hnb122 := NB940_966.out
           have hnc122 := NB966_940.out
           have X123_0 := ct BK940.out 0
           have X123_1 := ct BK940.out 1
           have X123_2 := ct BK940.out 2
           have X123_3 := ct BK940.out 3
           have X123_4 := ct BK940.out 4
           have X123_5 := ct BK940.out 5
           have X123_6 := ct BK940.out 6
           have Y123_0 := blk_frozen BK940.out 0
           have Y123_1 := blk_frozen BK940.out 1
           have Y123_2 := blk_frozen BK940.out 2
           have Y123_3 := blk_frozen BK940.out 3
           have Y123_4 := blk_frozen BK940.out 4
           have Y123_5 := blk_frozen BK940.out 5
           have Y123_6 := blk_frozen BK940.out 6
           have hnb124 := NB941_965.out
           have hnc124 := NB965_941.out
           have hnb125 := NB941_966.out
           have hnc125 := NB966_941.out
           have X126_0 := ct BK941.out 0
           have X126_1 := ct BK941.out 1
           have X126_2 := ct BK941.out 2
           have Y126_0 := blk_frozen BK941.out 0
           have Y126_1 := blk_frozen BK941.out 1
           have Y126_2 := blk_frozen BK941.out 2
           have hnb127 := NB966_965.out
           have hnc127 := NB965_966.out
           have X128_0 := ct BK966.out 0
           have X128_1 := ct BK966.out 1
           have X128_2 := ct BK966.out 2
           have Y128_0 := blk_frozen BK966.out 0
           have Y128_1 := blk_frozen BK966.out 1
           have Y128_2 := blk_frozen BK966.out 2
           go_wp2_with (first | ((with_reducible refine gate_callee (f := 34) rfl ?_); refine goesL_ (some 76) rfl rfl Tryz.func34 (by kernel_rfl) rfl #[.agg #[.int .i64 a0_0, .int .i64 a0_1, .int .i64 a0_2, .int .i64 a0_3, .int .i64 a0_4, .int .i64 a0_5, .slice A0_6 l0_6.length c0_6], .agg #[.int .i64 a1_0, .int .i64 a1_1, .int .i64 a1_2], .agg #[.int .i64 x967000_76, .int .i64 x967001_76, .int .i64 x967002_76]] rfl (by (try simp only [List.map_toArray, List.map_cons, List.map_nil]); first | done | rfl | (simp only [List.length_drop, List.length_take]; rfl)) ?_; (with_reducible refine (probe_Free.calls kj76 a0_0 a0_1 a0_2 a0_3 a0_4 a0_5 _ _ l0_6 a1_0 a1_1 a1_2 x967000_76 x967001_76 x967002_76 t967 t968 _ ?side1 ?side2 A110.out).mono ?_); (case side1 => repeat (first | exact (Kd.C_below HR0_6.out HB.out) | (with_reducible refine Kd.C_alloc ?_ _) | (with_reducible refine Kd.C_drewN ?_ _) | (with_reducible refine Kd.C_drew ?_))); (case side2 => exact HC0_6.out); rintro e w129 ⟨rfl, hb⟩; refine ⟨_, rfl, ?_⟩; have n0_ := mk0 (bbT BK940.out hb); have n1_ := mk0 (bbT BK941.out hb); have n2_ := mk0 (bbT BK965.out hb); have n3_ := mk0 (bbT BK966.out hb); have n4_ := mk0 (below_step (wT HB.out) hb); clear BK940; clear BK941; clear BK965; clear BK966; clear HB; have BK940 := n0_; have BK941 := n1_; have BK965 := n2_; have BK966 := n3_; have HB := n4_; clear n0_ n1_ n2_ n3_ n4_; (try clear hb); (try clear hb2); (try clear hk); (try clear hi); have X130_0 := ct BK940.out 0; have X130_1 := ct BK940.out 1; have X130_2 := ct BK940.out 2; have X130_3 := ct BK940.out 3; have X130_4 := ct BK940.out 4; have X130_5 := ct BK940.out 5; have X130_6 := ct BK940.out 6; have Y130_0 := blk_frozen BK940.out 0; have Y130_1 := blk_frozen BK940.out 1; have Y130_2 := blk_frozen BK940.out 2; have Y130_3 := blk_frozen BK940.out 3; have Y130_4 := blk_frozen BK940.out 4; have Y130_5 := blk_frozen BK940.out 5; have Y130_6 := blk_frozen BK940.out 6; have X131_0 := ct BK966.out 0; have X131_1 := ct BK966.out 1; have X131_2 := ct BK966.out 2; have Y131_0 := blk_frozen BK966.out 0; have Y131_1 := blk_frozen BK966.out 1; have Y131_2 := blk_frozen BK966.out 2; have X132_0 := ct BK941.out 0; have X132_1 := ct BK941.out 1; have X132_2 := ct BK941.out 2; have Y132_0 := blk_frozen BK941.out 0; have Y132_1 := blk_frozen BK941.out 1; have Y132_2 := blk_frozen BK941.out 2) | ((with_reducible refine gate_callee (f := 34) rfl ?_); refine goesL_ (some 83) rfl rfl Tryz.func34 (by kernel_rfl) rfl #[.agg #[.int .i64 a0_0, .int .i64 a0_1, .int .i64 a0_2, .int .i64 a0_3, .int .i64 a0_4, .int .i64 a0_5, .slice A0_6 l0_6.length c0_6], .agg #[.int .i64 x967000_76, .int .i64 x967001_76, .int .i64 x967002_76], .agg #[.int .i64 a1_0, .int .i64 a1_1, .int .i64 a1_2]] rfl (by (try simp only [List.map_toArray, List.map_cons, List.map_nil]); first | done | rfl | (simp only [List.length_drop, List.length_take]; rfl)) ?_; (with_reducible refine (probe_Free.calls kj76 a0_0 a0_1 a0_2 a0_3 a0_4 a0_5 _ _ l0_6 x967000_76 x967001_76 x967002_76 a1_0 a1_1 a1_2 t969 t970 _ ?side1 ?side2 A111.out).mono ?_); (case side1 => repeat (first | exact (Kd.C_below HR0_6.out HB.out) | (with_reducible refine Kd.C_alloc ?_ _) | (with_reducible refine Kd.C_drewN ?_ _) | (with_reducible refine Kd.C_drew ?_))); (case side2 => exact HC0_6.out); rintro e w133 ⟨rfl, hb⟩; refine ⟨_, rfl, ?_⟩; have n0_ := mk0 (bbT BK940.out hb); have n1_ := mk0 (bbT BK941.out hb); have n2_ := mk0 (bbT BK965.out hb); have n3_ := mk0 (bbT BK966.out hb); have n4_ := mk0 (below_step (wT HB.out) hb); clear BK940; clear BK941; clear BK965; clear BK966; clear HB; have BK940 := n0_; have BK941 := n1_; have BK965 := n2_; have BK966 := n3_; have HB := n4_; clear n0_ n1_ n2_ n3_ n4_; (try clear hb); (try clear hb2); (try clear hk); (try clear hi); have X134_0 := ct BK940.out 0; have X134_1 := ct BK940.out 1; have X134_2 := ct BK940.out 2; have X134_3 := ct BK940.out 3; have X134_4 := ct BK940.out 4; have X134_5 := ct BK940.out 5; have X134_6 := ct BK940.out 6; have Y134_0 := blk_frozen BK940.out 0; have Y134_1 := blk_frozen BK940.out 1; have Y134_2 := blk_frozen BK940.out 2; have Y134_3 := blk_frozen BK940.out 3; have Y134_4 := blk_frozen BK940.out 4; have Y134_5 := blk_frozen BK940.out 5; have Y134_6 := blk_frozen BK940.out 6; have X135_0 := ct BK941.out 0; have X135_1 := ct BK941.out 1; have X135_2 := ct BK941.out 2; have Y135_0 := blk_frozen BK941.out 0; have Y135_1 := blk_frozen BK941.out 1; have Y135_2 := blk_frozen BK941.out 2; (try clear BK941 GW941 GE941); have X136_0 := ct BK965.out 0; have X136_1 := ct BK965.out 1; have X136_2 := ct BK965.out 2; have Y136_0 := blk_frozen BK965.out 0; have Y136_1 := blk_frozen BK965.out 1; have Y136_2 := blk_frozen BK965.out 2) | ((with_reducible refine gate_callee (f := 34) rfl ?_); refine goesL_ (some 90) rfl rfl Tryz.func34 (by kernel_rfl) rfl #[.agg #[.int .i64 a0_0, .int .i64 a0_1, .int .i64 a0_2, .int .i64 a0_3, .int .i64 a0_4, .int .i64 a0_5, .slice A0_6 l0_6.length c0_6], .agg #[.int .i64 a1_0, .int .i64 a1_1, .int .i64 a1_2], .agg #[.int .i64 (wrap64 (a1_0 + (wrap64 (a2_0)))), .int .i64 a1_1, .int .i64 a1_2]] rfl (by (try simp only [List.map_toArray, List.map_cons, List.map_nil]); first | done | rfl | (simp only [List.length_drop, List.length_take]; rfl)) ?_; (with_reducible refine (probe_Free.calls kj76 a0_0 a0_1 a0_2 a0_3 a0_4 a0_5 _ _ l0_6 a1_0 a1_1 a1_2 (wrap64 (a1_0 + (wrap64 (a2_0)))) a1_1 a1_2 true t972 _ ?side1 ?side2 A112.out).mono ?_); (case side1 => repeat (first | exact (Kd.C_below HR0_6.out HB.out) | (with_reducible refine Kd.C_alloc ?_ _) | (with_reducible refine Kd.C_drewN ?_ _) | (with_reducible refine Kd.C_drew ?_))); (case side2 => exact HC0_6.out); rintro e w137 ⟨rfl, hb⟩; refine ⟨_, rfl, ?_⟩; have n0_ := mk0 (bbT BK940.out hb); have n1_ := mk0 (bbT BK965.out hb); have n2_ := mk0 (bbT BK966.out hb); have n3_ := mk0 (below_step (wT HB.out) hb); clear BK940; clear BK965; clear BK966; clear HB; have BK940 := n0_; have BK965 := n1_; have BK966 := n2_; have HB := n3_; clear n0_ n1_ n2_ n3_; (try clear hb); (try clear hb2); (try clear hk); (try clear hi); have X138_0 := ct BK940.out 0; have X138_1 := ct BK940.out 1; have X138_2 := ct BK940.out 2; have X138_3 := ct BK940.out 3; have X138_4 := ct BK940.out 4; have X138_5 := ct BK940.out 5; have X138_6 := ct BK940.out 6; have Y138_0 := blk_frozen BK940.out 0; have Y138_1 := blk_frozen BK940.out 1; have Y138_2 := blk_frozen BK940.out 2; have Y138_3 := blk_frozen BK940.out 3; have Y138_4 := blk_frozen BK940.out 4; have Y138_5 := blk_frozen BK940.out 5; have Y138_6 := blk_frozen BK940.out 6; (try clear BK940 GW940 GE940); have X139_0 := ct BK965.out 0; have X139_1 := ct BK965.out 1; have X139_2 := ct BK965.out 2; have Y139_0 := blk_frozen BK965.out 0; have Y139_1 := blk_frozen BK965.out 1; have Y139_2 := blk_frozen BK965.out 2; (try clear BK965 GW965 GE965); have X140_0 := ct BK966.out 0; have X140_1 := ct BK966.out 1; have X140_2 := ct BK966.out 2; have Y140_0 := blk_frozen BK966.out 0; have Y140_1 := blk_frozen BK966.out 1; have Y140_2 := blk_frozen BK966.out 2; (try clear BK966 GW966 GE966)) | ((with_reducible refine gate_callee (f := 34) rfl ?_); refine goesL_ (some 97) rfl rfl Tryz.func34 (by kernel_rfl) rfl #[.agg #[.int .i64 a0_0, .int .i64 a0_1, .int .i64 a0_2, .int .i64 a0_3, .int .i64 a0_4, .int .i64 a0_5, .slice A0_6 l0_6.length c0_6], .agg #[.int .i64 (wrap64 (a1_0 + (wrap64 (a2_0)))), .int .i64 a1_1, .int .i64 a1_2], .agg #[.int .i64 x967000_76, .int .i64 x967001_76, .int .i64 x967002_76]] rfl (by (try simp only [List.map_toArray, List.map_cons, List.map_nil]); first | done | rfl | (simp only [List.length_drop, List.length_take]; rfl)) ?_; (with_reducible refine (probe_Free.calls kj76 a0_0 a0_1 a0_2 a0_3 a0_4 a0_5 _ _ l0_6 (wrap64 (a1_0 + (wrap64 (a2_0)))) a1_1 a1_2 x967000_76 x967001_76 x967002_76 t973 t974 _ ?side1 ?side2 A113.out).mono ?_); (case side1 => repeat (first | exact (Kd.C_below HR0_6.out HB.out) | (with_reducible refine Kd.C_alloc ?_ _) | (with_reducible refine Kd.C_drewN ?_ _) | (with_reducible refine Kd.C_drew ?_))); (case side2 => exact HC0_6.out); rintro e w141 ⟨rfl, hb⟩; refine ⟨_, rfl, ?_⟩; have n0_ := mk0 (below_step (wT HB.out) hb); clear HB; have HB := n0_; clear n0_; (try clear hb); (try clear hb2); (try clear hk); (try clear hi)) | (go_at_call 14; (with_reducible refine (metrolablaw30_awake.calls kj76  t975 _ ?side1 A119.out).mono ?_); (case side1 => exact GW_below HG.out (wT HB.out)); rintro e w142 ⟨rfl, hb⟩; have n0_ := mk0 (below_step (wT HB.out) hb); clear HB; have HB := n0_; clear n0_; (try clear hb); (try clear hb2); (try clear hk); (try clear hi)))
           go_ret
           exact ⟨eqT, wT HB.out⟩
          ·rw [if_neg c118] at H
           exact absurd H (by simp)
         ·replace c117 := Bool.eq_false_iff.mpr c117
          subst c117
          have H1 : (if (t967 == false) = true then ((metrolablaw30_awake.f kj76).bind fun t976 => (some t976)) else (none)) = some r := by rw [if_neg (show ¬ (false = true) by decide)] at H; exact H
          clear H
          have H := H1
          clear H1
          by_cases c143 : (t967 == false) = true
          ·rw [if_pos c143] at H
           have c143b0 : (t967 == false) = true := c143
           (try (have c143b1 : decide (t967 = false) = true := by simpa using c143))
           (try (have c143b2 : (t967 == false) = true := by simpa using c143))
           clear c143
           replace H := Option.bind_eq_some_iff.mp H
           obtain ⟨t976, A1440, H⟩ := H
           replace H : (some t976) = some r := H
           have A144 := mk0 A1440
           clear A1440
           obtain rfl := Option.some.inj H
           have hnb145 := NB940_941.out
           have hnc145 := NB941_940.out
           have hnb146 := NB940_965.out
           have hnc146 := NB965_940.out
           have hnb147 := NB940_966.out
           have hnc147 := NB966_940.out
           have X148_0 := ct BK940.out 0
           have X148_1 := ct BK940.out 1
           have X148_2 := ct BK940.out 2
           have X148_3 := ct BK940.out 3
           have X148_4 := ct BK940.out 4
           have X148_5 := ct BK940.out 5
           have X148_6 := ct BK940.out 6
           have Y148_0 := blk_frozen BK940.out 0
           have Y148_1 := blk_frozen BK940.out 1
           have Y148_2 := blk_frozen BK940.out 2
           have Y148_3 := blk_frozen BK940.out 3
           have Y148_4 := blk_frozen BK940.out 4
           have Y148_5 := blk_frozen BK940.out 5
           have Y148_6 := blk_frozen BK940.out 6
           have hnb149 := NB941_965.out
           have hnc149 := NB965_941.out
           have hnb150 := NB941_966.out
           have hnc150 := NB966_941.out
           have X151_0 := ct BK941.out 0
           have X151_1 := ct BK941.out 1
           have X151_2 := ct BK941.out 2
           have Y151_0 := blk_frozen BK941.out 0
           have Y151_1 := blk_frozen BK941.out 1
           have Y151_2 := blk_frozen BK941.out 2
           have hnb152 := NB966_965.out
           have hnc152 := NB965_966.out
           have X153_0 := ct BK966.out 0
           have X153_1 := ct BK966.out 1
           have X153_2 := ct BK966.out 2
           have Y153_0 := blk_frozen BK966.out 0
           have Y153_1 := blk_frozen BK966.out 1
           have Y153_2 := blk_frozen BK966.out 2
           go_wp2_with (first | ((with_reducible refine gate_callee (f := 34) rfl ?_); refine goesL_ (some 76) rfl rfl Tryz.func34 (by kernel_rfl) rfl #[.agg #[.int .i64 a0_0, .int .i64 a0_1, .int .i64 a0_2, .int .i64 a0_3, .int .i64 a0_4, .int .i64 a0_5, .slice A0_6 l0_6.length c0_6], .agg #[.int .i64 a1_0, .int .i64 a1_1, .int .i64 a1_2], .agg #[.int .i64 x967000_76, .int .i64 x967001_76, .int .i64 x967002_76]] rfl (by (try simp only [List.map_toArray, List.map_cons, List.map_nil]); first | done | rfl | (simp only [List.length_drop, List.length_take]; rfl)) ?_; (with_reducible refine (probe_Free.calls kj76 a0_0 a0_1 a0_2 a0_3 a0_4 a0_5 _ _ l0_6 a1_0 a1_1 a1_2 x967000_76 x967001_76 x967002_76 t967 t968 _ ?side1 ?side2 A110.out).mono ?_); (case side1 => repeat (first | exact (Kd.C_below HR0_6.out HB.out) | (with_reducible refine Kd.C_alloc ?_ _) | (with_reducible refine Kd.C_drewN ?_ _) | (with_reducible refine Kd.C_drew ?_))); (case side2 => exact HC0_6.out); rintro e w154 ⟨rfl, hb⟩; refine ⟨_, rfl, ?_⟩; have n0_ := mk0 (bbT BK940.out hb); have n1_ := mk0 (bbT BK941.out hb); have n2_ := mk0 (bbT BK965.out hb); have n3_ := mk0 (bbT BK966.out hb); have n4_ := mk0 (below_step (wT HB.out) hb); clear BK940; clear BK941; clear BK965; clear BK966; clear HB; have BK940 := n0_; have BK941 := n1_; have BK965 := n2_; have BK966 := n3_; have HB := n4_; clear n0_ n1_ n2_ n3_ n4_; (try clear hb); (try clear hb2); (try clear hk); (try clear hi); have X155_0 := ct BK940.out 0; have X155_1 := ct BK940.out 1; have X155_2 := ct BK940.out 2; have X155_3 := ct BK940.out 3; have X155_4 := ct BK940.out 4; have X155_5 := ct BK940.out 5; have X155_6 := ct BK940.out 6; have Y155_0 := blk_frozen BK940.out 0; have Y155_1 := blk_frozen BK940.out 1; have Y155_2 := blk_frozen BK940.out 2; have Y155_3 := blk_frozen BK940.out 3; have Y155_4 := blk_frozen BK940.out 4; have Y155_5 := blk_frozen BK940.out 5; have Y155_6 := blk_frozen BK940.out 6; have X156_0 := ct BK966.out 0; have X156_1 := ct BK966.out 1; have X156_2 := ct BK966.out 2; have Y156_0 := blk_frozen BK966.out 0; have Y156_1 := blk_frozen BK966.out 1; have Y156_2 := blk_frozen BK966.out 2; have X157_0 := ct BK941.out 0; have X157_1 := ct BK941.out 1; have X157_2 := ct BK941.out 2; have Y157_0 := blk_frozen BK941.out 0; have Y157_1 := blk_frozen BK941.out 1; have Y157_2 := blk_frozen BK941.out 2) | ((with_reducible refine gate_callee (f := 34) rfl ?_); refine goesL_ (some 83) rfl rfl Tryz.func34 (by kernel_rfl) rfl #[.agg #[.int .i64 a0_0, .int .i64 a0_1, .int .i64 a0_2, .int .i64 a0_3, .int .i64 a0_4, .int .i64 a0_5, .slice A0_6 l0_6.length c0_6], .agg #[.int .i64 x967000_76, .int .i64 x967001_76, .int .i64 x967002_76], .agg #[.int .i64 a1_0, .int .i64 a1_1, .int .i64 a1_2]] rfl (by (try simp only [List.map_toArray, List.map_cons, List.map_nil]); first | done | rfl | (simp only [List.length_drop, List.length_take]; rfl)) ?_; (with_reducible refine (probe_Free.calls kj76 a0_0 a0_1 a0_2 a0_3 a0_4 a0_5 _ _ l0_6 x967000_76 x967001_76 x967002_76 a1_0 a1_1 a1_2 t969 t970 _ ?side1 ?side2 A111.out).mono ?_); (case side1 => repeat (first | exact (Kd.C_below HR0_6.out HB.out) | (with_reducible refine Kd.C_alloc ?_ _) | (with_reducible refine Kd.C_drewN ?_ _) | (with_reducible refine Kd.C_drew ?_))); (case side2 => exact HC0_6.out); rintro e w158 ⟨rfl, hb⟩; refine ⟨_, rfl, ?_⟩; have n0_ := mk0 (bbT BK940.out hb); have n1_ := mk0 (bbT BK941.out hb); have n2_ := mk0 (bbT BK965.out hb); have n3_ := mk0 (bbT BK966.out hb); have n4_ := mk0 (below_step (wT HB.out) hb); clear BK940; clear BK941; clear BK965; clear BK966; clear HB; have BK940 := n0_; have BK941 := n1_; have BK965 := n2_; have BK966 := n3_; have HB := n4_; clear n0_ n1_ n2_ n3_ n4_; (try clear hb); (try clear hb2); (try clear hk); (try clear hi); have X159_0 := ct BK940.out 0; have X159_1 := ct BK940.out 1; have X159_2 := ct BK940.out 2; have X159_3 := ct BK940.out 3; have X159_4 := ct BK940.out 4; have X159_5 := ct BK940.out 5; have X159_6 := ct BK940.out 6; have Y159_0 := blk_frozen BK940.out 0; have Y159_1 := blk_frozen BK940.out 1; have Y159_2 := blk_frozen BK940.out 2; have Y159_3 := blk_frozen BK940.out 3; have Y159_4 := blk_frozen BK940.out 4; have Y159_5 := blk_frozen BK940.out 5; have Y159_6 := blk_frozen BK940.out 6; have X160_0 := ct BK941.out 0; have X160_1 := ct BK941.out 1; have X160_2 := ct BK941.out 2; have Y160_0 := blk_frozen BK941.out 0; have Y160_1 := blk_frozen BK941.out 1; have Y160_2 := blk_frozen BK941.out 2; (try clear BK941 GW941 GE941); have X161_0 := ct BK965.out 0; have X161_1 := ct BK965.out 1; have X161_2 := ct BK965.out 2; have Y161_0 := blk_frozen BK965.out 0; have Y161_1 := blk_frozen BK965.out 1; have Y161_2 := blk_frozen BK965.out 2) | ((with_reducible refine gate_callee (f := 34) rfl ?_); refine goesL_ (some 90) rfl rfl Tryz.func34 (by kernel_rfl) rfl #[.agg #[.int .i64 a0_0, .int .i64 a0_1, .int .i64 a0_2, .int .i64 a0_3, .int .i64 a0_4, .int .i64 a0_5, .slice A0_6 l0_6.length c0_6], .agg #[.int .i64 a1_0, .int .i64 a1_1, .int .i64 a1_2], .agg #[.int .i64 (wrap64 (a1_0 + (wrap64 (a2_0)))), .int .i64 a1_1, .int .i64 a1_2]] rfl (by (try simp only [List.map_toArray, List.map_cons, List.map_nil]); first | done | rfl | (simp only [List.length_drop, List.length_take]; rfl)) ?_; (with_reducible refine (probe_Free.calls kj76 a0_0 a0_1 a0_2 a0_3 a0_4 a0_5 _ _ l0_6 a1_0 a1_1 a1_2 (wrap64 (a1_0 + (wrap64 (a2_0)))) a1_1 a1_2 false t972 _ ?side1 ?side2 A112.out).mono ?_); (case side1 => repeat (first | exact (Kd.C_below HR0_6.out HB.out) | (with_reducible refine Kd.C_alloc ?_ _) | (with_reducible refine Kd.C_drewN ?_ _) | (with_reducible refine Kd.C_drew ?_))); (case side2 => exact HC0_6.out); rintro e w162 ⟨rfl, hb⟩; refine ⟨_, rfl, ?_⟩; have n0_ := mk0 (bbT BK940.out hb); have n1_ := mk0 (bbT BK965.out hb); have n2_ := mk0 (bbT BK966.out hb); have n3_ := mk0 (below_step (wT HB.out) hb); clear BK940; clear BK965; clear BK966; clear HB; have BK940 := n0_; have BK965 := n1_; have BK966 := n2_; have HB := n3_; clear n0_ n1_ n2_ n3_; (try clear hb); (try clear hb2); (try clear hk); (try clear hi); have X163_0 := ct BK940.out 0; have X163_1 := ct BK940.out 1; have X163_2 := ct BK940.out 2; have X163_3 := ct BK940.out 3; have X163_4 := ct BK940.out 4; have X163_5 := ct BK940.out 5; have X163_6 := ct BK940.out 6; have Y163_0 := blk_frozen BK940.out 0; have Y163_1 := blk_frozen BK940.out 1; have Y163_2 := blk_frozen BK940.out 2; have Y163_3 := blk_frozen BK940.out 3; have Y163_4 := blk_frozen BK940.out 4; have Y163_5 := blk_frozen BK940.out 5; have Y163_6 := blk_frozen BK940.out 6; (try clear BK940 GW940 GE940); have X164_0 := ct BK965.out 0; have X164_1 := ct BK965.out 1; have X164_2 := ct BK965.out 2; have Y164_0 := blk_frozen BK965.out 0; have Y164_1 := blk_frozen BK965.out 1; have Y164_2 := blk_frozen BK965.out 2; (try clear BK965 GW965 GE965); have X165_0 := ct BK966.out 0; have X165_1 := ct BK966.out 1; have X165_2 := ct BK966.out 2; have Y165_0 := blk_frozen BK966.out 0; have Y165_1 := blk_frozen BK966.out 1; have Y165_2 := blk_frozen BK966.out 2; (try clear BK966 GW966 GE966)) | ((with_reducible refine gate_callee (f := 34) rfl ?_); refine goesL_ (some 97) rfl rfl Tryz.func34 (by kernel_rfl) rfl #[.agg #[.int .i64 a0_0, .int .i64 a0_1, .int .i64 a0_2, .int .i64 a0_3, .int .i64 a0_4, .int .i64 a0_5, .slice A0_6 l0_6.length c0_6], .agg #[.int .i64 (wrap64 (a1_0 + (wrap64 (a2_0)))), .int .i64 a1_1, .int .i64 a1_2], .agg #[.int .i64 x967000_76, .int .i64 x967001_76, .int .i64 x967002_76]] rfl (by (try simp only [List.map_toArray, List.map_cons, List.map_nil]); first | done | rfl | (simp only [List.length_drop, List.length_take]; rfl)) ?_; (with_reducible refine (probe_Free.calls kj76 a0_0 a0_1 a0_2 a0_3 a0_4 a0_5 _ _ l0_6 (wrap64 (a1_0 + (wrap64 (a2_0)))) a1_1 a1_2 x967000_76 x967001_76 x967002_76 t973 t974 _ ?side1 ?side2 A113.out).mono ?_); (case side1 => repeat (first | exact (Kd.C_below HR0_6.out HB.out) | (with_reducible refine Kd.C_alloc ?_ _) | (with_reducible refine Kd.C_drewN ?_ _) | (with_reducible refine Kd.C_drew ?_))); (case side2 => exact HC0_6.out); rintro e w166 ⟨rfl, hb⟩; refine ⟨_, rfl, ?_⟩; have n0_ := mk0 (below_step (wT HB.out) hb); clear HB; have HB := n0_; clear n0_; (try clear hb); (try clear hb2); (try clear hk); (try clear hi)) | (go_at_call 14; (with_reducible refine (metrolablaw30_awake.calls kj76  t976 _ ?side1 A144.out).mono ?_); (case side1 => exact GW_below HG.out (wT HB.out)); rintro e w167 ⟨rfl, hb⟩; have n0_ := mk0 (below_step (wT HB.out) hb); clear HB; have HB := n0_; clear n0_; (try clear hb); (try clear hb2); (try clear hk); (try clear hi)))
           go_ret
           exact ⟨eqT, wT HB.out⟩
          ·rw [if_neg c143] at H
           exact absurd H (by simp)
        ·rw [if_neg c116] at H
         exact absurd H (by simp)
       ·rw [if_neg c115] at H
        exact absurd H (by simp)
      ·rw [if_neg c114] at H
       have c114b0 : (t968 == 0) = false := beq_eq_false_iff_ne.mpr c114
       have c114b1 : (t968 != 0) = true := bne_iff_ne.mpr c114
       by_cases c168 : t968 = t970
       ·rw [if_pos c168] at H
        have c168b0 : (t968 == t970) = true := beq_iff_eq.mpr c168
        have c168b1 : (t968 != t970) = false := bne_eq_false_iff_eq.mpr c168
        clear c168
        replace H := Option.bind_eq_some_iff.mp H
        obtain ⟨t977, A1690, H⟩ := H
        replace H : (some t977) = some r := H
        have A169 := mk0 A1690
        clear A1690
        obtain rfl := Option.some.inj H
        have hnb170 := NB940_941.out
        have hnc170 := NB941_940.out
        have hnb171 := NB940_965.out
        have hnc171 := NB965_940.out
        have hnb172 := NB940_966.out
        have hnc172 := NB966_940.out
        have X173_0 := ct BK940.out 0
        have X173_1 := ct BK940.out 1
        have X173_2 := ct BK940.out 2
        have X173_3 := ct BK940.out 3
        have X173_4 := ct BK940.out 4
        have X173_5 := ct BK940.out 5
        have X173_6 := ct BK940.out 6
        have Y173_0 := blk_frozen BK940.out 0
        have Y173_1 := blk_frozen BK940.out 1
        have Y173_2 := blk_frozen BK940.out 2
        have Y173_3 := blk_frozen BK940.out 3
        have Y173_4 := blk_frozen BK940.out 4
        have Y173_5 := blk_frozen BK940.out 5
        have Y173_6 := blk_frozen BK940.out 6
        have hnb174 := NB941_965.out
        have hnc174 := NB965_941.out
        have hnb175 := NB941_966.out
        have hnc175 := NB966_941.out
        have X176_0 := ct BK941.out 0
        have X176_1 := ct BK941.out 1
        have X176_2 := ct BK941.out 2
        have Y176_0 := blk_frozen BK941.out 0
        have Y176_1 := blk_frozen BK941.out 1
        have Y176_2 := blk_frozen BK941.out 2
        have hnb177 := NB966_965.out
        have hnc177 := NB965_966.out
        have X178_0 := ct BK966.out 0
        have X178_1 := ct BK966.out 1
        have X178_2 := ct BK966.out 2
        have Y178_0 := blk_frozen BK966.out 0
        have Y178_1 := blk_frozen BK966.out 1
        have Y178_2 := blk_frozen BK966.out 2
        go_wp2_with (first | ((with_reducible refine gate_callee (f := 34) rfl ?_); refine goesL_ (some 76) rfl rfl Tryz.func34 (by kernel_rfl) rfl #[.agg #[.int .i64 a0_0, .int .i64 a0_1, .int .i64 a0_2, .int .i64 a0_3, .int .i64 a0_4, .int .i64 a0_5, .slice A0_6 l0_6.length c0_6], .agg #[.int .i64 a1_0, .int .i64 a1_1, .int .i64 a1_2], .agg #[.int .i64 x967000_76, .int .i64 x967001_76, .int .i64 x967002_76]] rfl (by (try simp only [List.map_toArray, List.map_cons, List.map_nil]); first | done | rfl | (simp only [List.length_drop, List.length_take]; rfl)) ?_; (with_reducible refine (probe_Free.calls kj76 a0_0 a0_1 a0_2 a0_3 a0_4 a0_5 _ _ l0_6 a1_0 a1_1 a1_2 x967000_76 x967001_76 x967002_76 t967 t968 _ ?side1 ?side2 A110.out).mono ?_); (case side1 => repeat (first | exact (Kd.C_below HR0_6.out HB.out) | (with_reducible refine Kd.C_alloc ?_ _) | (with_reducible refine Kd.C_drewN ?_ _) | (with_reducible refine Kd.C_drew ?_))); (case side2 => exact HC0_6.out); rintro e w179 ⟨rfl, hb⟩; refine ⟨_, rfl, ?_⟩; have n0_ := mk0 (bbT BK940.out hb); have n1_ := mk0 (bbT BK941.out hb); have n2_ := mk0 (bbT BK965.out hb); have n3_ := mk0 (bbT BK966.out hb); have n4_ := mk0 (below_step (wT HB.out) hb); clear BK940; clear BK941; clear BK965; clear BK966; clear HB; have BK940 := n0_; have BK941 := n1_; have BK965 := n2_; have BK966 := n3_; have HB := n4_; clear n0_ n1_ n2_ n3_ n4_; (try clear hb); (try clear hb2); (try clear hk); (try clear hi); have X180_0 := ct BK940.out 0; have X180_1 := ct BK940.out 1; have X180_2 := ct BK940.out 2; have X180_3 := ct BK940.out 3; have X180_4 := ct BK940.out 4; have X180_5 := ct BK940.out 5; have X180_6 := ct BK940.out 6; have Y180_0 := blk_frozen BK940.out 0; have Y180_1 := blk_frozen BK940.out 1; have Y180_2 := blk_frozen BK940.out 2; have Y180_3 := blk_frozen BK940.out 3; have Y180_4 := blk_frozen BK940.out 4; have Y180_5 := blk_frozen BK940.out 5; have Y180_6 := blk_frozen BK940.out 6; have X181_0 := ct BK966.out 0; have X181_1 := ct BK966.out 1; have X181_2 := ct BK966.out 2; have Y181_0 := blk_frozen BK966.out 0; have Y181_1 := blk_frozen BK966.out 1; have Y181_2 := blk_frozen BK966.out 2; have X182_0 := ct BK941.out 0; have X182_1 := ct BK941.out 1; have X182_2 := ct BK941.out 2; have Y182_0 := blk_frozen BK941.out 0; have Y182_1 := blk_frozen BK941.out 1; have Y182_2 := blk_frozen BK941.out 2) | ((with_reducible refine gate_callee (f := 34) rfl ?_); refine goesL_ (some 83) rfl rfl Tryz.func34 (by kernel_rfl) rfl #[.agg #[.int .i64 a0_0, .int .i64 a0_1, .int .i64 a0_2, .int .i64 a0_3, .int .i64 a0_4, .int .i64 a0_5, .slice A0_6 l0_6.length c0_6], .agg #[.int .i64 x967000_76, .int .i64 x967001_76, .int .i64 x967002_76], .agg #[.int .i64 a1_0, .int .i64 a1_1, .int .i64 a1_2]] rfl (by (try simp only [List.map_toArray, List.map_cons, List.map_nil]); first | done | rfl | (simp only [List.length_drop, List.length_take]; rfl)) ?_; (with_reducible refine (probe_Free.calls kj76 a0_0 a0_1 a0_2 a0_3 a0_4 a0_5 _ _ l0_6 x967000_76 x967001_76 x967002_76 a1_0 a1_1 a1_2 t969 t970 _ ?side1 ?side2 A111.out).mono ?_); (case side1 => repeat (first | exact (Kd.C_below HR0_6.out HB.out) | (with_reducible refine Kd.C_alloc ?_ _) | (with_reducible refine Kd.C_drewN ?_ _) | (with_reducible refine Kd.C_drew ?_))); (case side2 => exact HC0_6.out); rintro e w183 ⟨rfl, hb⟩; refine ⟨_, rfl, ?_⟩; have n0_ := mk0 (bbT BK940.out hb); have n1_ := mk0 (bbT BK941.out hb); have n2_ := mk0 (bbT BK965.out hb); have n3_ := mk0 (bbT BK966.out hb); have n4_ := mk0 (below_step (wT HB.out) hb); clear BK940; clear BK941; clear BK965; clear BK966; clear HB; have BK940 := n0_; have BK941 := n1_; have BK965 := n2_; have BK966 := n3_; have HB := n4_; clear n0_ n1_ n2_ n3_ n4_; (try clear hb); (try clear hb2); (try clear hk); (try clear hi); have X184_0 := ct BK940.out 0; have X184_1 := ct BK940.out 1; have X184_2 := ct BK940.out 2; have X184_3 := ct BK940.out 3; have X184_4 := ct BK940.out 4; have X184_5 := ct BK940.out 5; have X184_6 := ct BK940.out 6; have Y184_0 := blk_frozen BK940.out 0; have Y184_1 := blk_frozen BK940.out 1; have Y184_2 := blk_frozen BK940.out 2; have Y184_3 := blk_frozen BK940.out 3; have Y184_4 := blk_frozen BK940.out 4; have Y184_5 := blk_frozen BK940.out 5; have Y184_6 := blk_frozen BK940.out 6; have X185_0 := ct BK941.out 0; have X185_1 := ct BK941.out 1; have X185_2 := ct BK941.out 2; have Y185_0 := blk_frozen BK941.out 0; have Y185_1 := blk_frozen BK941.out 1; have Y185_2 := blk_frozen BK941.out 2; (try clear BK941 GW941 GE941); have X186_0 := ct BK965.out 0; have X186_1 := ct BK965.out 1; have X186_2 := ct BK965.out 2; have Y186_0 := blk_frozen BK965.out 0; have Y186_1 := blk_frozen BK965.out 1; have Y186_2 := blk_frozen BK965.out 2) | ((with_reducible refine gate_callee (f := 34) rfl ?_); refine goesL_ (some 90) rfl rfl Tryz.func34 (by kernel_rfl) rfl #[.agg #[.int .i64 a0_0, .int .i64 a0_1, .int .i64 a0_2, .int .i64 a0_3, .int .i64 a0_4, .int .i64 a0_5, .slice A0_6 l0_6.length c0_6], .agg #[.int .i64 a1_0, .int .i64 a1_1, .int .i64 a1_2], .agg #[.int .i64 (wrap64 (a1_0 + (wrap64 (a2_0)))), .int .i64 a1_1, .int .i64 a1_2]] rfl (by (try simp only [List.map_toArray, List.map_cons, List.map_nil]); first | done | rfl | (simp only [List.length_drop, List.length_take]; rfl)) ?_; (with_reducible refine (probe_Free.calls kj76 a0_0 a0_1 a0_2 a0_3 a0_4 a0_5 _ _ l0_6 a1_0 a1_1 a1_2 (wrap64 (a1_0 + (wrap64 (a2_0)))) a1_1 a1_2 t971 t972 _ ?side1 ?side2 A112.out).mono ?_); (case side1 => repeat (first | exact (Kd.C_below HR0_6.out HB.out) | (with_reducible refine Kd.C_alloc ?_ _) | (with_reducible refine Kd.C_drewN ?_ _) | (with_reducible refine Kd.C_drew ?_))); (case side2 => exact HC0_6.out); rintro e w187 ⟨rfl, hb⟩; refine ⟨_, rfl, ?_⟩; have n0_ := mk0 (bbT BK940.out hb); have n1_ := mk0 (bbT BK965.out hb); have n2_ := mk0 (bbT BK966.out hb); have n3_ := mk0 (below_step (wT HB.out) hb); clear BK940; clear BK965; clear BK966; clear HB; have BK940 := n0_; have BK965 := n1_; have BK966 := n2_; have HB := n3_; clear n0_ n1_ n2_ n3_; (try clear hb); (try clear hb2); (try clear hk); (try clear hi); have X188_0 := ct BK940.out 0; have X188_1 := ct BK940.out 1; have X188_2 := ct BK940.out 2; have X188_3 := ct BK940.out 3; have X188_4 := ct BK940.out 4; have X188_5 := ct BK940.out 5; have X188_6 := ct BK940.out 6; have Y188_0 := blk_frozen BK940.out 0; have Y188_1 := blk_frozen BK940.out 1; have Y188_2 := blk_frozen BK940.out 2; have Y188_3 := blk_frozen BK940.out 3; have Y188_4 := blk_frozen BK940.out 4; have Y188_5 := blk_frozen BK940.out 5; have Y188_6 := blk_frozen BK940.out 6; (try clear BK940 GW940 GE940); have X189_0 := ct BK965.out 0; have X189_1 := ct BK965.out 1; have X189_2 := ct BK965.out 2; have Y189_0 := blk_frozen BK965.out 0; have Y189_1 := blk_frozen BK965.out 1; have Y189_2 := blk_frozen BK965.out 2; (try clear BK965 GW965 GE965); have X190_0 := ct BK966.out 0; have X190_1 := ct BK966.out 1; have X190_2 := ct BK966.out 2; have Y190_0 := blk_frozen BK966.out 0; have Y190_1 := blk_frozen BK966.out 1; have Y190_2 := blk_frozen BK966.out 2; (try clear BK966 GW966 GE966)) | ((with_reducible refine gate_callee (f := 34) rfl ?_); refine goesL_ (some 97) rfl rfl Tryz.func34 (by kernel_rfl) rfl #[.agg #[.int .i64 a0_0, .int .i64 a0_1, .int .i64 a0_2, .int .i64 a0_3, .int .i64 a0_4, .int .i64 a0_5, .slice A0_6 l0_6.length c0_6], .agg #[.int .i64 (wrap64 (a1_0 + (wrap64 (a2_0)))), .int .i64 a1_1, .int .i64 a1_2], .agg #[.int .i64 x967000_76, .int .i64 x967001_76, .int .i64 x967002_76]] rfl (by (try simp only [List.map_toArray, List.map_cons, List.map_nil]); first | done | rfl | (simp only [List.length_drop, List.length_take]; rfl)) ?_; (with_reducible refine (probe_Free.calls kj76 a0_0 a0_1 a0_2 a0_3 a0_4 a0_5 _ _ l0_6 (wrap64 (a1_0 + (wrap64 (a2_0)))) a1_1 a1_2 x967000_76 x967001_76 x967002_76 t973 t974 _ ?side1 ?side2 A113.out).mono ?_); (case side1 => repeat (first | exact (Kd.C_below HR0_6.out HB.out) | (with_reducible refine Kd.C_alloc ?_ _) | (with_reducible refine Kd.C_drewN ?_ _) | (with_reducible refine Kd.C_drew ?_))); (case side2 => exact HC0_6.out); rintro e w191 ⟨rfl, hb⟩; refine ⟨_, rfl, ?_⟩; have n0_ := mk0 (below_step (wT HB.out) hb); clear HB; have HB := n0_; clear n0_; (try clear hb); (try clear hb2); (try clear hk); (try clear hi)) | (go_at_call 14; (with_reducible refine (metrolablaw30_awake.calls kj76  t977 _ ?side1 A169.out).mono ?_); (case side1 => exact GW_below HG.out (wT HB.out)); rintro e w192 ⟨rfl, hb⟩; have n0_ := mk0 (below_step (wT HB.out) hb); clear HB; have HB := n0_; clear n0_; (try clear hb); (try clear hb2); (try clear hk); (try clear hi)))
        go_ret
        exact ⟨eqT, wT HB.out⟩
       ·rw [if_neg c168] at H
        exact absurd H (by simp)
end Go.Proofs.YtolbjmaabghghaaGreatDoor.PA
