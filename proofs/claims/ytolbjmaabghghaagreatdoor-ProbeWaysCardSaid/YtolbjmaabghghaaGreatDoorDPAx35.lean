/- A part of the proof. -/
import Derived.Test.YtolbjmaabghghaaGreatDoorDERefO
import Derived.Test.YtolbjmaabghghaaGreatDoorDPAx0
import Derived.Test.YtolbjmaabghghaaGreatDoorDPAx3
import Derived.Test.YtolbjmaabghghaaGreatDoorDPAx5
import Derived.Test.YtolbjmaabghghaaGreatDoorDPAx14
import Derived.Test.YtolbjmaabghghaaGreatDoorDPAx16
import Derived.Test.YtolbjmaabghghaaGreatDoorDPAx19
import Derived.Test.YtolbjmaabghghaaGreatDoorDPAx29
import Derived.Test.YtolbjmaabghghaaGreatDoorDEWay3
namespace Go.Proofs.YtolbjmaabghghaaGreatDoor.PA
open Go.RowKit Go.PW Go.PL Go.PM
attribute [local go_sem] max2_int min2_int max_two min_two max_three min_three max_four min_four   -- for this text's walks alone
set_option linter.unusedVariables false
set_option maxHeartbeats 8000000
set_option maxRecDepth 100000
set_option linter.unusedSimpArgs false
def probe_Free.f (k : Nat) (a0_0 : Int) (a0_1 : Int) (a0_2 : Int) (a0_3 : Int) (a0_4 : Int) (a0_5 : Int) (l0_6 : List (S84)) (a1_0 : Int) (a1_1 : Int) (a1_2 : Int) (a2_0 : Int) (a2_1 : Int) (a2_2 : Int) : Option (Bool × Int) := (probe_given.f k a0_0 a0_1 a0_2 a0_3 a0_4 a0_5 l0_6 (([(⟨a1_0, a1_1, a1_2⟩ : S23), (⟨a2_0, a2_1, a2_2⟩ : S23)] : List (S23)))).bind fun t858 => (if t858 = 0 then ((probe_straight.f k a1_0 a1_1 a1_2 a2_0 a2_1 a2_2).bind fun t859 => (if t859 = true then ((probe_Solid_open.f a0_0 a0_1 a0_2 a0_3 a0_4 a0_5 l0_6 a1_0 a1_1 a1_2 a2_0 a2_1 a2_2).bind fun t860 => (some (t860, 0))) else (some (false, 3)))) else (some (false, t858)))
theorem probe_Free.calls (k : Nat) (a0_0 : Int) (a0_1 : Int) (a0_2 : Int) (a0_3 : Int) (a0_4 : Int) (a0_5 : Int) (A0_6 : Option Addr) (c0_6 : Nat) (l0_6 : List (S84)) (a1_0 : Int) (a1_1 : Int) (a1_2 : Int) (a2_0 : Int) (a2_1 : Int) (a2_2 : Int) (r1 : Bool) (r2 : Int) (w : World) (hr0_6 : Kd.C k84 w A0_6 l0_6.length l0_6) (hc0_6 : l0_6.length ≤ c0_6) (h : probe_Free.f k a0_0 a0_1 a0_2 a0_3 a0_4 a0_5 l0_6 a1_0 a1_1 a1_2 a2_0 a2_1 a2_2 = some (r1, r2)) :
  Calls Tryz.prog 34 #[.agg #[.int .i64 a0_0, .int .i64 a0_1, .int .i64 a0_2, .int .i64 a0_3, .int .i64 a0_4, .int .i64 a0_5, .slice A0_6 l0_6.length c0_6], .agg #[.int .i64 a1_0, .int .i64 a1_1, .int .i64 a1_2], .agg #[.int .i64 a2_0, .int .i64 a2_1, .int .i64 a2_2]] w fun e w' => e = .returned (.tuple #[.bool r1, .int .i64 r2]) ∧ Below w.heap.size w w' := by
 have hu26 := Tryz.underlying26
 have hu23 := Tryz.underlying23
 have HR0_6 := mk0 hr0_6
 have HC0_6 := mk0 hc0_6
 clear hr0_6 hc0_6
 have HB := mk0 (Below.refl w.heap.size w)
 have H : ((probe_given.f k a0_0 a0_1 a0_2 a0_3 a0_4 a0_5 l0_6 (([(⟨a1_0, a1_1, a1_2⟩ : S23), (⟨a2_0, a2_1, a2_2⟩ : S23)] : List (S23)))).bind fun t858 => (if t858 = 0 then ((probe_straight.f k a1_0 a1_1 a1_2 a2_0 a2_1 a2_2).bind fun t859 => (if t859 = true then ((probe_Solid_open.f a0_0 a0_1 a0_2 a0_3 a0_4 a0_5 l0_6 a1_0 a1_1 a1_2 a2_0 a2_1 a2_2).bind fun t860 => (some (t860, 0))) else (some (false, 3)))) else (some (false, t858)))) = some (r1, r2) := h
 clear h
 obtain ⟨y855, hy855⟩ : ∃ y_ : List (S23), y_ = (([(⟨a1_0, a1_1, a1_2⟩ : S23), (⟨a2_0, a2_1, a2_2⟩ : S23)] : List (S23))) := ⟨_, rfl⟩
 replace H : ((probe_given.f k a0_0 a0_1 a0_2 a0_3 a0_4 a0_5 l0_6 y855).bind fun t858 => (if t858 = 0 then ((probe_straight.f k a1_0 a1_1 a1_2 a2_0 a2_1 a2_2).bind fun t859 => (if t859 = true then ((probe_Solid_open.f a0_0 a0_1 a0_2 a0_3 a0_4 a0_5 l0_6 a1_0 a1_1 a1_2 a2_0 a2_1 a2_2).bind fun t860 => (some (t860, 0))) else (some (false, 3)))) else (some (false, t858)))) = some (r1, r2) := by first | (rw [hy855]; with_reducible exact H) | (have H2_ := (Option.bind_some _ _).symm.trans H; rw [hy855]; with_reducible exact H2_) | (have H2_ := (Option.bind_some _ _).symm.trans H; with_reducible exact H2_) | with_reducible exact H | (rw [hy855]; exact H) | exact H
 have Ny855 := mk0 hy855
 clear hy855
 replace H := Option.bind_eq_some_iff.mp H
 obtain ⟨t858, A40, H⟩ := H
 replace H : (if t858 = 0 then ((probe_straight.f k a1_0 a1_1 a1_2 a2_0 a2_1 a2_2).bind fun t859 => (if t859 = true then ((probe_Solid_open.f a0_0 a0_1 a0_2 a0_3 a0_4 a0_5 l0_6 a1_0 a1_1 a1_2 a2_0 a2_1 a2_2).bind fun t860 => (some (t860, 0))) else (some (false, 3)))) else (some (false, t858))) = some (r1, r2) := H
 have A4 := mk0 A40
 clear A40
 by_cases c5 : t858 = 0
 ·rw [if_pos c5] at H
  have c5b0 : (t858 == 0) = true := beq_iff_eq.mpr c5
  have c5b1 : (t858 != 0) = false := bne_eq_false_iff_eq.mpr c5
  clear c5
  replace H := Option.bind_eq_some_iff.mp H
  obtain ⟨t859, A60, H⟩ := H
  replace H : (if t859 = true then ((probe_Solid_open.f a0_0 a0_1 a0_2 a0_3 a0_4 a0_5 l0_6 a1_0 a1_1 a1_2 a2_0 a2_1 a2_2).bind fun t860 => (some (t860, 0))) else (some (false, 3))) = some (r1, r2) := H
  have A6 := mk0 A60
  clear A60
  by_cases c7 : t859 = true
  ·subst c7
   have H1 : ((probe_Solid_open.f a0_0 a0_1 a0_2 a0_3 a0_4 a0_5 l0_6 a1_0 a1_1 a1_2 a2_0 a2_1 a2_2).bind fun t860 => (some (t860, 0))) = some (r1, r2) := by rw [if_pos rfl] at H; exact H
   clear H
   have H := H1
   clear H1
   replace H := Option.bind_eq_some_iff.mp H
   obtain ⟨t860, A80, H⟩ := H
   replace H : (some (t860, 0)) = some (r1, r2) := H
   have A8 := mk0 A80
   clear A80
   simp only [Option.some.injEq, Prod.mk.injEq] at H
   obtain ⟨rfl, rfl⟩ := H
   go_enter Tryz.func34, Tryz.ntmps34
   go_wp2_with (first | ((with_reducible refine gate_dst (N := 3) rfl ?_); refine box_event ?hg (N := 3) ?hd (cs := #[.int .i64 a0_0, .int .i64 a0_1, .int .i64 a0_2, .int .i64 a0_3, .int .i64 a0_4, .int .i64 a0_5, .slice A0_6 l0_6.length c0_6]) (t := 26) ?hr ?_; (case hd => rfl); (case hg => rfl); (case hr => first | (go_simp; done) | (go_simp; rfl)); intro gb852 hg w9 hbox hb; have n0_ := mk0 (below_step (wT HB.out) hb); have n1_ := mk0 (hbox); have n2_ := mk0 ((szT HB.out hg)); have n3_ := mk0 ((szT HB.out hg)); clear HB; have HB := n0_; have BK852 := n1_; have GW852 := n2_; have GE852 := n3_; clear n0_ n1_ n2_ n3_; clear hb hbox hg) | ((with_reducible refine gate_dst (N := 4) rfl ?_); refine box_event ?hg (N := 4) ?hd (cs := #[.int .i64 a1_0, .int .i64 a1_1, .int .i64 a1_2]) (t := 23) ?hr ?_; (case hd => rfl); (case hg => rfl); (case hr => first | (go_simp; done) | (go_simp; rfl)); intro gb853 hg w10 hbox hb; have n0_ := mk0 (bbT BK852.out hb); have n1_ := mk0 (below_step (wT HB.out) hb); have n2_ := mk0 (hbox); have n3_ := mk0 ((szT HB.out hg)); have n4_ := mk0 ((szT HB.out hg)); have n5_ := mk0 ((neL BK852.out hg)); have n6_ := mk0 ((neG BK852.out hg)); clear BK852; clear HB; have BK852 := n0_; have HB := n1_; have BK853 := n2_; have GW853 := n3_; have GE853 := n4_; have NB852_853 := n5_; have NB853_852 := n6_; clear n0_ n1_ n2_ n3_ n4_ n5_ n6_; clear hb hbox hg) | ((with_reducible refine gate_dst (N := 5) rfl ?_); refine box_event ?hg (N := 5) ?hd (cs := #[.int .i64 a2_0, .int .i64 a2_1, .int .i64 a2_2]) (t := 23) ?hr ?_; (case hd => rfl); (case hg => rfl); (case hr => first | (go_simp; done) | (go_simp; rfl)); intro gb854 hg w11 hbox hb; have n0_ := mk0 (bbT BK852.out hb); have n1_ := mk0 (bbT BK853.out hb); have n2_ := mk0 (below_step (wT HB.out) hb); have n3_ := mk0 (hbox); have n4_ := mk0 ((szT HB.out hg)); have n5_ := mk0 ((szT HB.out hg)); have n6_ := mk0 ((neL BK852.out hg)); have n7_ := mk0 ((neG BK852.out hg)); have n8_ := mk0 ((neL BK853.out hg)); have n9_ := mk0 ((neG BK853.out hg)); clear BK852; clear BK853; clear HB; have BK852 := n0_; have BK853 := n1_; have HB := n2_; have BK854 := n3_; have GW854 := n4_; have GE854 := n5_; have NB852_854 := n6_; have NB854_852 := n7_; have NB853_854 := n8_; have NB854_853 := n9_; clear n0_ n1_ n2_ n3_ n4_ n5_ n6_ n7_ n8_ n9_; clear hb hbox hg; have hnb12 := NB852_853.out; have hnc12 := NB853_852.out; have hnb13 := NB852_854.out; have hnc13 := NB854_852.out; have X14_0 := ct BK852.out 0; have X14_1 := ct BK852.out 1; have X14_2 := ct BK852.out 2; have X14_3 := ct BK852.out 3; have X14_4 := ct BK852.out 4; have X14_5 := ct BK852.out 5; have X14_6 := ct BK852.out 6; have Y14_0 := blk_frozen BK852.out 0; have Y14_1 := blk_frozen BK852.out 1; have Y14_2 := blk_frozen BK852.out 2; have Y14_3 := blk_frozen BK852.out 3; have Y14_4 := blk_frozen BK852.out 4; have Y14_5 := blk_frozen BK852.out 5; have Y14_6 := blk_frozen BK852.out 6; have hnb15 := NB853_854.out; have hnc15 := NB854_853.out; have X16_0 := ct BK853.out 0; have X16_1 := ct BK853.out 1; have X16_2 := ct BK853.out 2; have Y16_0 := blk_frozen BK853.out 0; have Y16_1 := blk_frozen BK853.out 1; have Y16_2 := blk_frozen BK853.out 2; have X17_0 := ct BK854.out 0; have X17_1 := ct BK854.out 1; have X17_2 := ct BK854.out 2; have Y17_0 := blk_frozen BK854.out 0; have Y17_1 := blk_frozen BK854.out 1; have Y17_2 := blk_frozen BK854.out 2) | ((with_reducible refine gate_dst (N := 12) rfl ?_); refine Kd.R_lit k23 _ 23 ?hg (N := 12) ?hd (xs := ([(⟨a1_0, a1_1, a1_2⟩ : S23), (⟨a2_0, a2_1, a2_2⟩ : S23)] : List (S23))) (inner := [.int .i64 a1_0, .int .i64 a1_1, .int .i64 a1_2, .int .i64 a2_0, .int .i64 a2_1, .int .i64 a2_2]) (ok := fun _ => True) (okp := fun _ => True) ?hr ?hp (fun _ hk => hk) trivial (Below.refl _ _) (Nat.le_refl _) (by simp) ?_; (case hd => rfl); (case hg => rfl); (case hr => first | (go_simp; done) | (go_simp; rfl)); (case hp => exact (Reps.c3 (show Kd.M k23 _ _ _ (⟨a1_0, a1_1, a1_2⟩ : S23) [.int .i64 a1_0, .int .i64 a1_1, .int .i64 a1_2] from (k23_mkM _ _ _ (⟨a1_0, a1_1, a1_2⟩ : S23) )) (Reps.c3 (show Kd.M k23 _ _ _ (⟨a2_0, a2_1, a2_2⟩ : S23) [.int .i64 a2_0, .int .i64 a2_1, .int .i64 a2_2] from (k23_mkM _ _ _ (⟨a2_0, a2_1, a2_2⟩ : S23) )) (Reps.none _ _)))); intro v856 w18 ho19 hb hg_ hnew_; clear hg_ hnew_; (first | rw [← Ny855.out] at ho19 | (simp only [Int.reduceToNat] at ho19; rw [← Ny855.out] at ho19)); have n0_ := mk0 (Kd.R_lower (Kd.R_newB (Kd.R_newB ho19 (g := gb853) (o := .cells #[.int .i64 a1_0, .int .i64 a1_1, .int .i64 a1_2] 23 (0, 0)) (bT BK853.out)) (g := gb854) (o := .cells #[.int .i64 a2_0, .int .i64 a2_1, .int .i64 a2_2] 23 (0, 0)) (bT BK854.out)) (below_size (wT HB.out))); have n1_ := mk0 (bbT BK852.out hb); have n2_ := mk0 (bbT BK853.out hb); have n3_ := mk0 (bbT BK854.out hb); have n4_ := mk0 (below_step (wT HB.out) hb); clear BK852; clear BK853; clear BK854; clear HB; have HO857 := n0_; have BK852 := n1_; have BK853 := n2_; have BK854 := n3_; have HB := n4_; clear n0_ n1_ n2_ n3_ n4_; clear hb ho19; obtain ⟨Ao20, co20, eo20⟩ := Kd.R_slice HO857.out; subst eo20) | ((with_reducible refine gate_callee (f := 38) rfl ?_); refine goesL_ (some 13) rfl rfl Tryz.func38 (by kernel_rfl) rfl #[.agg #[.int .i64 a0_0, .int .i64 a0_1, .int .i64 a0_2, .int .i64 a0_3, .int .i64 a0_4, .int .i64 a0_5, .slice A0_6 l0_6.length c0_6], .slice Ao20 y855.length co20] rfl (by (try simp only [List.map_toArray, List.map_cons, List.map_nil]); first | done | rfl | (simp only [List.length_drop, List.length_take]; rfl)) ?_; (with_reducible refine (probe_given.calls k a0_0 a0_1 a0_2 a0_3 a0_4 a0_5 _ _ l0_6 _ _ y855 t858 _ ?side1 ?side2 ?side3 ?side4 A4.out).mono ?_); (case side1 => repeat (first | exact (Kd.C_below HR0_6.out HB.out) | (with_reducible refine Kd.C_alloc ?_ _) | (with_reducible refine Kd.C_drewN ?_ _) | (with_reducible refine Kd.C_drew ?_))); (case side2 => exact HC0_6.out); (case side3 => repeat (first | exact (Kd.R_reads' HO857.out).2.2 | (with_reducible refine Kd.C_alloc ?_ _) | (with_reducible refine Kd.C_drewN ?_ _) | (with_reducible refine Kd.C_drew ?_))); (case side4 => exact (Kd.R_reads' HO857.out).2.1); rintro e w21 ⟨rfl, hb⟩; refine ⟨_, rfl, ?_⟩; have n0_ := mk0 (Kd.R_below (rT HO857.out) hb); have n1_ := mk0 (bbT BK852.out hb); have n2_ := mk0 (bbT BK853.out hb); have n3_ := mk0 (bbT BK854.out hb); have n4_ := mk0 (below_step (wT HB.out) hb); clear HO857; clear BK852; clear BK853; clear BK854; clear HB; have HO857 := n0_; have BK852 := n1_; have BK853 := n2_; have BK854 := n3_; have HB := n4_; clear n0_ n1_ n2_ n3_ n4_; (try clear hb); (try clear hb2); (try clear hk); (try clear hi); have X22_0 := ct BK853.out 0; have X22_1 := ct BK853.out 1; have X22_2 := ct BK853.out 2; have Y22_0 := blk_frozen BK853.out 0; have Y22_1 := blk_frozen BK853.out 1; have Y22_2 := blk_frozen BK853.out 2; have X23_0 := ct BK854.out 0; have X23_1 := ct BK854.out 1; have X23_2 := ct BK854.out 2; have Y23_0 := blk_frozen BK854.out 0; have Y23_1 := blk_frozen BK854.out 1; have Y23_2 := blk_frozen BK854.out 2) | ((with_reducible refine gate_callee (f := 60) rfl ?_); refine goesL_ (some 19) rfl rfl Tryz.func60 (by kernel_rfl) rfl #[.agg #[.int .i64 a1_0, .int .i64 a1_1, .int .i64 a1_2], .agg #[.int .i64 a2_0, .int .i64 a2_1, .int .i64 a2_2]] rfl (by (try simp only [List.map_toArray, List.map_cons, List.map_nil]); first | done | rfl | (simp only [List.length_drop, List.length_take]; rfl)) ?_; (with_reducible refine (probe_straight.calls k a1_0 a1_1 a1_2 a2_0 a2_1 a2_2 true _ A6.out).mono ?_); rintro e w24 ⟨rfl, hb⟩; refine ⟨_, rfl, ?_⟩; have n0_ := mk0 (Kd.R_below (rT HO857.out) hb); have n1_ := mk0 (bbT BK852.out hb); have n2_ := mk0 (bbT BK853.out hb); have n3_ := mk0 (bbT BK854.out hb); have n4_ := mk0 (below_step (wT HB.out) hb); clear HO857; clear BK852; clear BK853; clear BK854; clear HB; have HO857 := n0_; have BK852 := n1_; have BK853 := n2_; have BK854 := n3_; have HB := n4_; clear n0_ n1_ n2_ n3_ n4_; (try clear hb); (try clear hb2); (try clear hk); (try clear hi); have X25_0 := ct BK852.out 0; have X25_1 := ct BK852.out 1; have X25_2 := ct BK852.out 2; have X25_3 := ct BK852.out 3; have X25_4 := ct BK852.out 4; have X25_5 := ct BK852.out 5; have X25_6 := ct BK852.out 6; have Y25_0 := blk_frozen BK852.out 0; have Y25_1 := blk_frozen BK852.out 1; have Y25_2 := blk_frozen BK852.out 2; have Y25_3 := blk_frozen BK852.out 3; have Y25_4 := blk_frozen BK852.out 4; have Y25_5 := blk_frozen BK852.out 5; have Y25_6 := blk_frozen BK852.out 6; (try clear BK852 GW852 GE852); have X26_0 := ct BK853.out 0; have X26_1 := ct BK853.out 1; have X26_2 := ct BK853.out 2; have Y26_0 := blk_frozen BK853.out 0; have Y26_1 := blk_frozen BK853.out 1; have Y26_2 := blk_frozen BK853.out 2; have X27_0 := ct BK854.out 0; have X27_1 := ct BK854.out 1; have X27_2 := ct BK854.out 2; have Y27_0 := blk_frozen BK854.out 0; have Y27_1 := blk_frozen BK854.out 1; have Y27_2 := blk_frozen BK854.out 2) | ((with_reducible refine gate_callee (f := 61) rfl ?_); refine goesL_ (some 24) rfl rfl Tryz.func61 (by kernel_rfl) rfl #[.agg #[.int .i64 a0_0, .int .i64 a0_1, .int .i64 a0_2, .int .i64 a0_3, .int .i64 a0_4, .int .i64 a0_5, .slice A0_6 l0_6.length c0_6], .agg #[.int .i64 a1_0, .int .i64 a1_1, .int .i64 a1_2], .agg #[.int .i64 a2_0, .int .i64 a2_1, .int .i64 a2_2]] rfl (by (try simp only [List.map_toArray, List.map_cons, List.map_nil]); first | done | rfl | (simp only [List.length_drop, List.length_take]; rfl)) ?_; (with_reducible refine (probe_Solid_open.calls a0_0 a0_1 a0_2 a0_3 a0_4 a0_5 _ _ l0_6 a1_0 a1_1 a1_2 a2_0 a2_1 a2_2 t860 _ ?side1 ?side2 A8.out).mono ?_); (case side1 => repeat (first | exact (Kd.C_below HR0_6.out HB.out) | (with_reducible refine Kd.C_alloc ?_ _) | (with_reducible refine Kd.C_drewN ?_ _) | (with_reducible refine Kd.C_drew ?_))); (case side2 => exact HC0_6.out); rintro e w28 ⟨rfl, hb⟩; refine ⟨_, rfl, ?_⟩; have n0_ := mk0 (Kd.R_below (rT HO857.out) hb); have n1_ := mk0 (bbT BK853.out hb); have n2_ := mk0 (bbT BK854.out hb); have n3_ := mk0 (below_step (wT HB.out) hb); clear HO857; clear BK853; clear BK854; clear HB; have HO857 := n0_; have BK853 := n1_; have BK854 := n2_; have HB := n3_; clear n0_ n1_ n2_ n3_; (try clear hb); (try clear hb2); (try clear hk); (try clear hi)))
   go_ret2
   exact ⟨eqT, wT HB.out⟩
  ·replace c7 := Bool.eq_false_iff.mpr c7
   subst c7
   have H1 : (some (false, 3)) = some (r1, r2) := by rw [if_neg (show ¬ (false = true) by decide)] at H; exact H
   clear H
   have H := H1
   clear H1
   simp only [Option.some.injEq, Prod.mk.injEq] at H
   obtain ⟨rfl, rfl⟩ := H
   go_enter Tryz.func34, Tryz.ntmps34
   go_wp2_with (first | ((with_reducible refine gate_dst (N := 3) rfl ?_); refine box_event ?hg (N := 3) ?hd (cs := #[.int .i64 a0_0, .int .i64 a0_1, .int .i64 a0_2, .int .i64 a0_3, .int .i64 a0_4, .int .i64 a0_5, .slice A0_6 l0_6.length c0_6]) (t := 26) ?hr ?_; (case hd => rfl); (case hg => rfl); (case hr => first | (go_simp; done) | (go_simp; rfl)); intro gb852 hg w29 hbox hb; have n0_ := mk0 (below_step (wT HB.out) hb); have n1_ := mk0 (hbox); have n2_ := mk0 ((szT HB.out hg)); have n3_ := mk0 ((szT HB.out hg)); clear HB; have HB := n0_; have BK852 := n1_; have GW852 := n2_; have GE852 := n3_; clear n0_ n1_ n2_ n3_; clear hb hbox hg) | ((with_reducible refine gate_dst (N := 4) rfl ?_); refine box_event ?hg (N := 4) ?hd (cs := #[.int .i64 a1_0, .int .i64 a1_1, .int .i64 a1_2]) (t := 23) ?hr ?_; (case hd => rfl); (case hg => rfl); (case hr => first | (go_simp; done) | (go_simp; rfl)); intro gb853 hg w30 hbox hb; have n0_ := mk0 (bbT BK852.out hb); have n1_ := mk0 (below_step (wT HB.out) hb); have n2_ := mk0 (hbox); have n3_ := mk0 ((szT HB.out hg)); have n4_ := mk0 ((szT HB.out hg)); have n5_ := mk0 ((neL BK852.out hg)); have n6_ := mk0 ((neG BK852.out hg)); clear BK852; clear HB; have BK852 := n0_; have HB := n1_; have BK853 := n2_; have GW853 := n3_; have GE853 := n4_; have NB852_853 := n5_; have NB853_852 := n6_; clear n0_ n1_ n2_ n3_ n4_ n5_ n6_; clear hb hbox hg) | ((with_reducible refine gate_dst (N := 5) rfl ?_); refine box_event ?hg (N := 5) ?hd (cs := #[.int .i64 a2_0, .int .i64 a2_1, .int .i64 a2_2]) (t := 23) ?hr ?_; (case hd => rfl); (case hg => rfl); (case hr => first | (go_simp; done) | (go_simp; rfl)); intro gb854 hg w31 hbox hb; have n0_ := mk0 (bbT BK852.out hb); have n1_ := mk0 (bbT BK853.out hb); have n2_ := mk0 (below_step (wT HB.out) hb); have n3_ := mk0 (hbox); have n4_ := mk0 ((szT HB.out hg)); have n5_ := mk0 ((szT HB.out hg)); have n6_ := mk0 ((neL BK852.out hg)); have n7_ := mk0 ((neG BK852.out hg)); have n8_ := mk0 ((neL BK853.out hg)); have n9_ := mk0 ((neG BK853.out hg)); clear BK852; clear BK853; clear HB; have BK852 := n0_; have BK853 := n1_; have HB := n2_; have BK854 := n3_; have GW854 := n4_; have GE854 := n5_; have NB852_854 := n6_; have NB854_852 := n7_; have NB853_854 := n8_; have NB854_853 := n9_; clear n0_ n1_ n2_ n3_ n4_ n5_ n6_ n7_ n8_ n9_; clear hb hbox hg; have hnb32 := NB852_853.out; have hnc32 := NB853_852.out; have hnb33 := NB852_854.out; have hnc33 := NB854_852.out; have X34_0 := ct BK852.out 0; have X34_1 := ct BK852.out 1; have X34_2 := ct BK852.out 2; have X34_3 := ct BK852.out 3; have X34_4 := ct BK852.out 4; have X34_5 := ct BK852.out 5; have X34_6 := ct BK852.out 6; have Y34_0 := blk_frozen BK852.out 0; have Y34_1 := blk_frozen BK852.out 1; have Y34_2 := blk_frozen BK852.out 2; have Y34_3 := blk_frozen BK852.out 3; have Y34_4 := blk_frozen BK852.out 4; have Y34_5 := blk_frozen BK852.out 5; have Y34_6 := blk_frozen BK852.out 6; (try clear BK852 GW852 GE852); have hnb35 := NB853_854.out; have hnc35 := NB854_853.out; have X36_0 := ct BK853.out 0; have X36_1 := ct BK853.out 1; have X36_2 := ct BK853.out 2; have Y36_0 := blk_frozen BK853.out 0; have Y36_1 := blk_frozen BK853.out 1; have Y36_2 := blk_frozen BK853.out 2; have X37_0 := ct BK854.out 0; have X37_1 := ct BK854.out 1; have X37_2 := ct BK854.out 2; have Y37_0 := blk_frozen BK854.out 0; have Y37_1 := blk_frozen BK854.out 1; have Y37_2 := blk_frozen BK854.out 2) | ((with_reducible refine gate_dst (N := 12) rfl ?_); refine Kd.R_lit k23 _ 23 ?hg (N := 12) ?hd (xs := ([(⟨a1_0, a1_1, a1_2⟩ : S23), (⟨a2_0, a2_1, a2_2⟩ : S23)] : List (S23))) (inner := [.int .i64 a1_0, .int .i64 a1_1, .int .i64 a1_2, .int .i64 a2_0, .int .i64 a2_1, .int .i64 a2_2]) (ok := fun _ => True) (okp := fun _ => True) ?hr ?hp (fun _ hk => hk) trivial (Below.refl _ _) (Nat.le_refl _) (by simp) ?_; (case hd => rfl); (case hg => rfl); (case hr => first | (go_simp; done) | (go_simp; rfl)); (case hp => exact (Reps.c3 (show Kd.M k23 _ _ _ (⟨a1_0, a1_1, a1_2⟩ : S23) [.int .i64 a1_0, .int .i64 a1_1, .int .i64 a1_2] from (k23_mkM _ _ _ (⟨a1_0, a1_1, a1_2⟩ : S23) )) (Reps.c3 (show Kd.M k23 _ _ _ (⟨a2_0, a2_1, a2_2⟩ : S23) [.int .i64 a2_0, .int .i64 a2_1, .int .i64 a2_2] from (k23_mkM _ _ _ (⟨a2_0, a2_1, a2_2⟩ : S23) )) (Reps.none _ _)))); intro v856 w38 ho39 hb hg_ hnew_; clear hg_ hnew_; (first | rw [← Ny855.out] at ho39 | (simp only [Int.reduceToNat] at ho39; rw [← Ny855.out] at ho39)); have n0_ := mk0 (Kd.R_lower (Kd.R_newB (Kd.R_newB ho39 (g := gb853) (o := .cells #[.int .i64 a1_0, .int .i64 a1_1, .int .i64 a1_2] 23 (0, 0)) (bT BK853.out)) (g := gb854) (o := .cells #[.int .i64 a2_0, .int .i64 a2_1, .int .i64 a2_2] 23 (0, 0)) (bT BK854.out)) (below_size (wT HB.out))); have n1_ := mk0 (bbT BK853.out hb); have n2_ := mk0 (bbT BK854.out hb); have n3_ := mk0 (below_step (wT HB.out) hb); clear BK853; clear BK854; clear HB; have HO857 := n0_; have BK853 := n1_; have BK854 := n2_; have HB := n3_; clear n0_ n1_ n2_ n3_; clear hb ho39; obtain ⟨Ao40, co40, eo40⟩ := Kd.R_slice HO857.out; subst eo40) | ((with_reducible refine gate_callee (f := 38) rfl ?_); refine goesL_ (some 13) rfl rfl Tryz.func38 (by kernel_rfl) rfl #[.agg #[.int .i64 a0_0, .int .i64 a0_1, .int .i64 a0_2, .int .i64 a0_3, .int .i64 a0_4, .int .i64 a0_5, .slice A0_6 l0_6.length c0_6], .slice Ao40 y855.length co40] rfl (by (try simp only [List.map_toArray, List.map_cons, List.map_nil]); first | done | rfl | (simp only [List.length_drop, List.length_take]; rfl)) ?_; (with_reducible refine (probe_given.calls k a0_0 a0_1 a0_2 a0_3 a0_4 a0_5 _ _ l0_6 _ _ y855 t858 _ ?side1 ?side2 ?side3 ?side4 A4.out).mono ?_); (case side1 => repeat (first | exact (Kd.C_below HR0_6.out HB.out) | (with_reducible refine Kd.C_alloc ?_ _) | (with_reducible refine Kd.C_drewN ?_ _) | (with_reducible refine Kd.C_drew ?_))); (case side2 => exact HC0_6.out); (case side3 => repeat (first | exact (Kd.R_reads' HO857.out).2.2 | (with_reducible refine Kd.C_alloc ?_ _) | (with_reducible refine Kd.C_drewN ?_ _) | (with_reducible refine Kd.C_drew ?_))); (case side4 => exact (Kd.R_reads' HO857.out).2.1); rintro e w41 ⟨rfl, hb⟩; refine ⟨_, rfl, ?_⟩; have n0_ := mk0 (Kd.R_below (rT HO857.out) hb); have n1_ := mk0 (bbT BK853.out hb); have n2_ := mk0 (bbT BK854.out hb); have n3_ := mk0 (below_step (wT HB.out) hb); clear HO857; clear BK853; clear BK854; clear HB; have HO857 := n0_; have BK853 := n1_; have BK854 := n2_; have HB := n3_; clear n0_ n1_ n2_ n3_; (try clear hb); (try clear hb2); (try clear hk); (try clear hi); have X42_0 := ct BK853.out 0; have X42_1 := ct BK853.out 1; have X42_2 := ct BK853.out 2; have Y42_0 := blk_frozen BK853.out 0; have Y42_1 := blk_frozen BK853.out 1; have Y42_2 := blk_frozen BK853.out 2; have X43_0 := ct BK854.out 0; have X43_1 := ct BK854.out 1; have X43_2 := ct BK854.out 2; have Y43_0 := blk_frozen BK854.out 0; have Y43_1 := blk_frozen BK854.out 1; have Y43_2 := blk_frozen BK854.out 2) | ((with_reducible refine gate_callee (f := 60) rfl ?_); refine goesL_ (some 19) rfl rfl Tryz.func60 (by kernel_rfl) rfl #[.agg #[.int .i64 a1_0, .int .i64 a1_1, .int .i64 a1_2], .agg #[.int .i64 a2_0, .int .i64 a2_1, .int .i64 a2_2]] rfl (by (try simp only [List.map_toArray, List.map_cons, List.map_nil]); first | done | rfl | (simp only [List.length_drop, List.length_take]; rfl)) ?_; (with_reducible refine (probe_straight.calls k a1_0 a1_1 a1_2 a2_0 a2_1 a2_2 false _ A6.out).mono ?_); rintro e w44 ⟨rfl, hb⟩; refine ⟨_, rfl, ?_⟩; have n0_ := mk0 (Kd.R_below (rT HO857.out) hb); have n1_ := mk0 (bbT BK853.out hb); have n2_ := mk0 (bbT BK854.out hb); have n3_ := mk0 (below_step (wT HB.out) hb); clear HO857; clear BK853; clear BK854; clear HB; have HO857 := n0_; have BK853 := n1_; have BK854 := n2_; have HB := n3_; clear n0_ n1_ n2_ n3_; (try clear hb); (try clear hb2); (try clear hk); (try clear hi)))
   go_ret2
   exact ⟨eqT, wT HB.out⟩
 ·rw [if_neg c5] at H
  have c5b0 : (t858 == 0) = false := beq_eq_false_iff_ne.mpr c5
  have c5b1 : (t858 != 0) = true := bne_iff_ne.mpr c5
  simp only [Option.some.injEq, Prod.mk.injEq] at H
  obtain ⟨rfl, rfl⟩ := H
  go_enter Tryz.func34, Tryz.ntmps34
  go_wp2_with (first | ((with_reducible refine gate_dst (N := 3) rfl ?_); refine box_event ?hg (N := 3) ?hd (cs := #[.int .i64 a0_0, .int .i64 a0_1, .int .i64 a0_2, .int .i64 a0_3, .int .i64 a0_4, .int .i64 a0_5, .slice A0_6 l0_6.length c0_6]) (t := 26) ?hr ?_; (case hd => rfl); (case hg => rfl); (case hr => first | (go_simp; done) | (go_simp; rfl)); intro gb852 hg w45 hbox hb; have n0_ := mk0 (below_step (wT HB.out) hb); have n1_ := mk0 (hbox); have n2_ := mk0 ((szT HB.out hg)); have n3_ := mk0 ((szT HB.out hg)); clear HB; have HB := n0_; have BK852 := n1_; have GW852 := n2_; have GE852 := n3_; clear n0_ n1_ n2_ n3_; clear hb hbox hg) | ((with_reducible refine gate_dst (N := 4) rfl ?_); refine box_event ?hg (N := 4) ?hd (cs := #[.int .i64 a1_0, .int .i64 a1_1, .int .i64 a1_2]) (t := 23) ?hr ?_; (case hd => rfl); (case hg => rfl); (case hr => first | (go_simp; done) | (go_simp; rfl)); intro gb853 hg w46 hbox hb; have n0_ := mk0 (bbT BK852.out hb); have n1_ := mk0 (below_step (wT HB.out) hb); have n2_ := mk0 (hbox); have n3_ := mk0 ((szT HB.out hg)); have n4_ := mk0 ((szT HB.out hg)); have n5_ := mk0 ((neL BK852.out hg)); have n6_ := mk0 ((neG BK852.out hg)); clear BK852; clear HB; have BK852 := n0_; have HB := n1_; have BK853 := n2_; have GW853 := n3_; have GE853 := n4_; have NB852_853 := n5_; have NB853_852 := n6_; clear n0_ n1_ n2_ n3_ n4_ n5_ n6_; clear hb hbox hg) | ((with_reducible refine gate_dst (N := 5) rfl ?_); refine box_event ?hg (N := 5) ?hd (cs := #[.int .i64 a2_0, .int .i64 a2_1, .int .i64 a2_2]) (t := 23) ?hr ?_; (case hd => rfl); (case hg => rfl); (case hr => first | (go_simp; done) | (go_simp; rfl)); intro gb854 hg w47 hbox hb; have n0_ := mk0 (bbT BK852.out hb); have n1_ := mk0 (bbT BK853.out hb); have n2_ := mk0 (below_step (wT HB.out) hb); have n3_ := mk0 (hbox); have n4_ := mk0 ((szT HB.out hg)); have n5_ := mk0 ((szT HB.out hg)); have n6_ := mk0 ((neL BK852.out hg)); have n7_ := mk0 ((neG BK852.out hg)); have n8_ := mk0 ((neL BK853.out hg)); have n9_ := mk0 ((neG BK853.out hg)); clear BK852; clear BK853; clear HB; have BK852 := n0_; have BK853 := n1_; have HB := n2_; have BK854 := n3_; have GW854 := n4_; have GE854 := n5_; have NB852_854 := n6_; have NB854_852 := n7_; have NB853_854 := n8_; have NB854_853 := n9_; clear n0_ n1_ n2_ n3_ n4_ n5_ n6_ n7_ n8_ n9_; clear hb hbox hg; have hnb48 := NB852_853.out; have hnc48 := NB853_852.out; have hnb49 := NB852_854.out; have hnc49 := NB854_852.out; have X50_0 := ct BK852.out 0; have X50_1 := ct BK852.out 1; have X50_2 := ct BK852.out 2; have X50_3 := ct BK852.out 3; have X50_4 := ct BK852.out 4; have X50_5 := ct BK852.out 5; have X50_6 := ct BK852.out 6; have Y50_0 := blk_frozen BK852.out 0; have Y50_1 := blk_frozen BK852.out 1; have Y50_2 := blk_frozen BK852.out 2; have Y50_3 := blk_frozen BK852.out 3; have Y50_4 := blk_frozen BK852.out 4; have Y50_5 := blk_frozen BK852.out 5; have Y50_6 := blk_frozen BK852.out 6; (try clear BK852 GW852 GE852); have hnb51 := NB853_854.out; have hnc51 := NB854_853.out; have X52_0 := ct BK853.out 0; have X52_1 := ct BK853.out 1; have X52_2 := ct BK853.out 2; have Y52_0 := blk_frozen BK853.out 0; have Y52_1 := blk_frozen BK853.out 1; have Y52_2 := blk_frozen BK853.out 2; (try clear BK853 GW853 GE853); have X53_0 := ct BK854.out 0; have X53_1 := ct BK854.out 1; have X53_2 := ct BK854.out 2; have Y53_0 := blk_frozen BK854.out 0; have Y53_1 := blk_frozen BK854.out 1; have Y53_2 := blk_frozen BK854.out 2; (try clear BK854 GW854 GE854)) | ((with_reducible refine gate_dst (N := 12) rfl ?_); refine Kd.R_lit k23 _ 23 ?hg (N := 12) ?hd (xs := ([(⟨a1_0, a1_1, a1_2⟩ : S23), (⟨a2_0, a2_1, a2_2⟩ : S23)] : List (S23))) (inner := [.int .i64 a1_0, .int .i64 a1_1, .int .i64 a1_2, .int .i64 a2_0, .int .i64 a2_1, .int .i64 a2_2]) (ok := fun _ => True) (okp := fun _ => True) ?hr ?hp (fun _ hk => hk) trivial (Below.refl _ _) (Nat.le_refl _) (by simp) ?_; (case hd => rfl); (case hg => rfl); (case hr => first | (go_simp; done) | (go_simp; rfl)); (case hp => exact (Reps.c3 (show Kd.M k23 _ _ _ (⟨a1_0, a1_1, a1_2⟩ : S23) [.int .i64 a1_0, .int .i64 a1_1, .int .i64 a1_2] from (k23_mkM _ _ _ (⟨a1_0, a1_1, a1_2⟩ : S23) )) (Reps.c3 (show Kd.M k23 _ _ _ (⟨a2_0, a2_1, a2_2⟩ : S23) [.int .i64 a2_0, .int .i64 a2_1, .int .i64 a2_2] from (k23_mkM _ _ _ (⟨a2_0, a2_1, a2_2⟩ : S23) )) (Reps.none _ _)))); intro v856 w54 ho55 hb hg_ hnew_; clear hg_ hnew_; (first | rw [← Ny855.out] at ho55 | (simp only [Int.reduceToNat] at ho55; rw [← Ny855.out] at ho55)); have n0_ := mk0 (Kd.R_lower ho55 (below_size (wT HB.out))); have n1_ := mk0 (below_step (wT HB.out) hb); clear HB; have HO857 := n0_; have HB := n1_; clear n0_ n1_; clear hb ho55; obtain ⟨Ao56, co56, eo56⟩ := Kd.R_slice HO857.out; subst eo56) | ((with_reducible refine gate_callee (f := 38) rfl ?_); refine goesL_ (some 13) rfl rfl Tryz.func38 (by kernel_rfl) rfl #[.agg #[.int .i64 a0_0, .int .i64 a0_1, .int .i64 a0_2, .int .i64 a0_3, .int .i64 a0_4, .int .i64 a0_5, .slice A0_6 l0_6.length c0_6], .slice Ao56 y855.length co56] rfl (by (try simp only [List.map_toArray, List.map_cons, List.map_nil]); first | done | rfl | (simp only [List.length_drop, List.length_take]; rfl)) ?_; (with_reducible refine (probe_given.calls k a0_0 a0_1 a0_2 a0_3 a0_4 a0_5 _ _ l0_6 _ _ y855 t858 _ ?side1 ?side2 ?side3 ?side4 A4.out).mono ?_); (case side1 => repeat (first | exact (Kd.C_below HR0_6.out HB.out) | (with_reducible refine Kd.C_alloc ?_ _) | (with_reducible refine Kd.C_drewN ?_ _) | (with_reducible refine Kd.C_drew ?_))); (case side2 => exact HC0_6.out); (case side3 => repeat (first | exact (Kd.R_reads' HO857.out).2.2 | (with_reducible refine Kd.C_alloc ?_ _) | (with_reducible refine Kd.C_drewN ?_ _) | (with_reducible refine Kd.C_drew ?_))); (case side4 => exact (Kd.R_reads' HO857.out).2.1); rintro e w57 ⟨rfl, hb⟩; refine ⟨_, rfl, ?_⟩; have n0_ := mk0 (Kd.R_below (rT HO857.out) hb); have n1_ := mk0 (below_step (wT HB.out) hb); clear HO857; clear HB; have HO857 := n0_; have HB := n1_; clear n0_ n1_; (try clear hb); (try clear hb2); (try clear hk); (try clear hi)))
  go_ret2
  exact ⟨eqT, wT HB.out⟩
def metrolabref30_Free.f (k : Nat) (a0_0 : Int) (a0_1 : Int) (a0_2 : Int) (a0_3 : Int) (a0_4 : Int) (a0_5 : Int) (l0_6 : List (S92)) (a1_0 : Int) (a1_1 : Int) (a1_2 : Int) (a2_0 : Int) (a2_1 : Int) (a2_2 : Int) : Option (Bool × Int) := (metrolabref30_given.f k a0_0 a0_1 a0_2 a0_3 a0_4 a0_5 l0_6 a1_0 a1_1 a1_2).bind fun t864 => (if t864 = 0 then ((metrolabref30_given.f k a0_0 a0_1 a0_2 a0_3 a0_4 a0_5 l0_6 a2_0 a2_1 a2_2).bind fun t865 => (if t865 = 0 then ((metrolabref30_differ.f k a1_0 a1_1 a1_2 a2_0 a2_1 a2_2).bind fun t866 => (if t866 > 1 then (some (false, 3)) else ((metrolabref30_Open.f k a0_0 a0_1 a0_2 a0_3 a0_4 a0_5 l0_6 a1_0 a1_1 a1_2 a2_0 a2_1 a2_2).bind fun t867 => (some (t867, 0))))) else (some (false, t865)))) else (some (false, t864)))
theorem metrolabref30_Free.calls (k : Nat) (a0_0 : Int) (a0_1 : Int) (a0_2 : Int) (a0_3 : Int) (a0_4 : Int) (a0_5 : Int) (A0_6 : Option Addr) (c0_6 : Nat) (l0_6 : List (S92)) (a1_0 : Int) (a1_1 : Int) (a1_2 : Int) (a2_0 : Int) (a2_1 : Int) (a2_2 : Int) (r1 : Bool) (r2 : Int) (w : World) (hr0_6 : Kd.C k92 w A0_6 l0_6.length l0_6) (hc0_6 : l0_6.length ≤ c0_6) (h : metrolabref30_Free.f k a0_0 a0_1 a0_2 a0_3 a0_4 a0_5 l0_6 a1_0 a1_1 a1_2 a2_0 a2_1 a2_2 = some (r1, r2)) :
  Calls Tryz.prog 35 #[.agg #[.int .i64 a0_0, .int .i64 a0_1, .int .i64 a0_2, .int .i64 a0_3, .int .i64 a0_4, .int .i64 a0_5, .slice A0_6 l0_6.length c0_6], .agg #[.int .i64 a1_0, .int .i64 a1_1, .int .i64 a1_2], .agg #[.int .i64 a2_0, .int .i64 a2_1, .int .i64 a2_2]] w fun e w' => e = .returned (.tuple #[.bool r1, .int .i64 r2]) ∧ Below w.heap.size w w' := by
 have hu30 := Tryz.underlying30
 have hu23 := Tryz.underlying23
 have HR0_6 := mk0 hr0_6
 have HC0_6 := mk0 hc0_6
 clear hr0_6 hc0_6
 have HB := mk0 (Below.refl w.heap.size w)
 have H : ((metrolabref30_given.f k a0_0 a0_1 a0_2 a0_3 a0_4 a0_5 l0_6 a1_0 a1_1 a1_2).bind fun t864 => (if t864 = 0 then ((metrolabref30_given.f k a0_0 a0_1 a0_2 a0_3 a0_4 a0_5 l0_6 a2_0 a2_1 a2_2).bind fun t865 => (if t865 = 0 then ((metrolabref30_differ.f k a1_0 a1_1 a1_2 a2_0 a2_1 a2_2).bind fun t866 => (if t866 > 1 then (some (false, 3)) else ((metrolabref30_Open.f k a0_0 a0_1 a0_2 a0_3 a0_4 a0_5 l0_6 a1_0 a1_1 a1_2 a2_0 a2_1 a2_2).bind fun t867 => (some (t867, 0))))) else (some (false, t865)))) else (some (false, t864)))) = some (r1, r2) := h
 clear h
 replace H := Option.bind_eq_some_iff.mp H
 obtain ⟨t864, A40, H⟩ := H
 replace H : (if t864 = 0 then ((metrolabref30_given.f k a0_0 a0_1 a0_2 a0_3 a0_4 a0_5 l0_6 a2_0 a2_1 a2_2).bind fun t865 => (if t865 = 0 then ((metrolabref30_differ.f k a1_0 a1_1 a1_2 a2_0 a2_1 a2_2).bind fun t866 => (if t866 > 1 then (some (false, 3)) else ((metrolabref30_Open.f k a0_0 a0_1 a0_2 a0_3 a0_4 a0_5 l0_6 a1_0 a1_1 a1_2 a2_0 a2_1 a2_2).bind fun t867 => (some (t867, 0))))) else (some (false, t865)))) else (some (false, t864))) = some (r1, r2) := H
 have A4 := mk0 A40
 clear A40
 by_cases c5 : t864 = 0
 ·rw [if_pos c5] at H
  have c5b0 : (t864 == 0) = true := beq_iff_eq.mpr c5
  have c5b1 : (t864 != 0) = false := bne_eq_false_iff_eq.mpr c5
  clear c5
  replace H := Option.bind_eq_some_iff.mp H
  obtain ⟨t865, A60, H⟩ := H
  replace H : (if t865 = 0 then ((metrolabref30_differ.f k a1_0 a1_1 a1_2 a2_0 a2_1 a2_2).bind fun t866 => (if t866 > 1 then (some (false, 3)) else ((metrolabref30_Open.f k a0_0 a0_1 a0_2 a0_3 a0_4 a0_5 l0_6 a1_0 a1_1 a1_2 a2_0 a2_1 a2_2).bind fun t867 => (some (t867, 0))))) else (some (false, t865))) = some (r1, r2) := H
  have A6 := mk0 A60
  clear A60
  by_cases c7 : t865 = 0
  ·rw [if_pos c7] at H
   have c7b0 : (t865 == 0) = true := beq_iff_eq.mpr c7
   have c7b1 : (t865 != 0) = false := bne_eq_false_iff_eq.mpr c7
   clear c7
   replace H := Option.bind_eq_some_iff.mp H
   obtain ⟨t866, A80, H⟩ := H
   replace H : (if t866 > 1 then (some (false, 3)) else ((metrolabref30_Open.f k a0_0 a0_1 a0_2 a0_3 a0_4 a0_5 l0_6 a1_0 a1_1 a1_2 a2_0 a2_1 a2_2).bind fun t867 => (some (t867, 0)))) = some (r1, r2) := H
   have A8 := mk0 A80
   clear A80
   by_cases c9 : t866 > 1
   ·rw [if_pos c9] at H
    have c9b0 : decide (1 < t866) = true := decide_eq_true c9
    clear c9
    simp only [Option.some.injEq, Prod.mk.injEq] at H
    obtain ⟨rfl, rfl⟩ := H
    go_enter Tryz.func35, Tryz.ntmps35
    go_wp2_with (first | ((with_reducible refine gate_dst (N := 3) rfl ?_); refine box_event ?hg (N := 3) ?hd (cs := #[.int .i64 a0_0, .int .i64 a0_1, .int .i64 a0_2, .int .i64 a0_3, .int .i64 a0_4, .int .i64 a0_5, .slice A0_6 l0_6.length c0_6]) (t := 30) ?hr ?_; (case hd => rfl); (case hg => rfl); (case hr => first | (go_simp; done) | (go_simp; rfl)); intro gb861 hg w10 hbox hb; have n0_ := mk0 (below_step (wT HB.out) hb); have n1_ := mk0 (hbox); have n2_ := mk0 ((szT HB.out hg)); have n3_ := mk0 ((szT HB.out hg)); clear HB; have HB := n0_; have BK861 := n1_; have GW861 := n2_; have GE861 := n3_; clear n0_ n1_ n2_ n3_; clear hb hbox hg) | ((with_reducible refine gate_dst (N := 4) rfl ?_); refine box_event ?hg (N := 4) ?hd (cs := #[.int .i64 a1_0, .int .i64 a1_1, .int .i64 a1_2]) (t := 23) ?hr ?_; (case hd => rfl); (case hg => rfl); (case hr => first | (go_simp; done) | (go_simp; rfl)); intro gb862 hg w11 hbox hb; have n0_ := mk0 (bbT BK861.out hb); have n1_ := mk0 (below_step (wT HB.out) hb); have n2_ := mk0 (hbox); have n3_ := mk0 ((szT HB.out hg)); have n4_ := mk0 ((szT HB.out hg)); have n5_ := mk0 ((neL BK861.out hg)); have n6_ := mk0 ((neG BK861.out hg)); clear BK861; clear HB; have BK861 := n0_; have HB := n1_; have BK862 := n2_; have GW862 := n3_; have GE862 := n4_; have NB861_862 := n5_; have NB862_861 := n6_; clear n0_ n1_ n2_ n3_ n4_ n5_ n6_; clear hb hbox hg) | ((with_reducible refine gate_dst (N := 5) rfl ?_); refine box_event ?hg (N := 5) ?hd (cs := #[.int .i64 a2_0, .int .i64 a2_1, .int .i64 a2_2]) (t := 23) ?hr ?_; (case hd => rfl); (case hg => rfl); (case hr => first | (go_simp; done) | (go_simp; rfl)); intro gb863 hg w12 hbox hb; have n0_ := mk0 (bbT BK861.out hb); have n1_ := mk0 (bbT BK862.out hb); have n2_ := mk0 (below_step (wT HB.out) hb); have n3_ := mk0 (hbox); have n4_ := mk0 ((szT HB.out hg)); have n5_ := mk0 ((szT HB.out hg)); have n6_ := mk0 ((neL BK861.out hg)); have n7_ := mk0 ((neG BK861.out hg)); have n8_ := mk0 ((neL BK862.out hg)); have n9_ := mk0 ((neG BK862.out hg)); clear BK861; clear BK862; clear HB; have BK861 := n0_; have BK862 := n1_; have HB := n2_; have BK863 := n3_; have GW863 := n4_; have GE863 := n5_; have NB861_863 := n6_; have NB863_861 := n7_; have NB862_863 := n8_; have NB863_862 := n9_; clear n0_ n1_ n2_ n3_ n4_ n5_ n6_ n7_ n8_ n9_; clear hb hbox hg; have hnb13 := NB861_862.out; have hnc13 := NB862_861.out; have hnb14 := NB861_863.out; have hnc14 := NB863_861.out; have X15_0 := ct BK861.out 0; have X15_1 := ct BK861.out 1; have X15_2 := ct BK861.out 2; have X15_3 := ct BK861.out 3; have X15_4 := ct BK861.out 4; have X15_5 := ct BK861.out 5; have X15_6 := ct BK861.out 6; have Y15_0 := blk_frozen BK861.out 0; have Y15_1 := blk_frozen BK861.out 1; have Y15_2 := blk_frozen BK861.out 2; have Y15_3 := blk_frozen BK861.out 3; have Y15_4 := blk_frozen BK861.out 4; have Y15_5 := blk_frozen BK861.out 5; have Y15_6 := blk_frozen BK861.out 6; have hnb16 := NB862_863.out; have hnc16 := NB863_862.out; have X17_0 := ct BK862.out 0; have X17_1 := ct BK862.out 1; have X17_2 := ct BK862.out 2; have Y17_0 := blk_frozen BK862.out 0; have Y17_1 := blk_frozen BK862.out 1; have Y17_2 := blk_frozen BK862.out 2) | ((with_reducible refine gate_callee (f := 40) rfl ?_); refine goesL_ (some 12) rfl rfl Tryz.func40 (by kernel_rfl) rfl #[.agg #[.int .i64 a0_0, .int .i64 a0_1, .int .i64 a0_2, .int .i64 a0_3, .int .i64 a0_4, .int .i64 a0_5, .slice A0_6 l0_6.length c0_6], .agg #[.int .i64 a1_0, .int .i64 a1_1, .int .i64 a1_2]] rfl (by (try simp only [List.map_toArray, List.map_cons, List.map_nil]); first | done | rfl | (simp only [List.length_drop, List.length_take]; rfl)) ?_; (with_reducible refine (metrolabref30_given.calls k a0_0 a0_1 a0_2 a0_3 a0_4 a0_5 _ _ l0_6 a1_0 a1_1 a1_2 t864 _ ?side1 ?side2 A4.out).mono ?_); (case side1 => repeat (first | exact (Kd.C_below HR0_6.out HB.out) | (with_reducible refine Kd.C_alloc ?_ _) | (with_reducible refine Kd.C_drewN ?_ _) | (with_reducible refine Kd.C_drew ?_))); (case side2 => exact HC0_6.out); rintro e w18 ⟨rfl, hb⟩; refine ⟨_, rfl, ?_⟩; have n0_ := mk0 (bbT BK861.out hb); have n1_ := mk0 (bbT BK862.out hb); have n2_ := mk0 (bbT BK863.out hb); have n3_ := mk0 (below_step (wT HB.out) hb); clear BK861; clear BK862; clear BK863; clear HB; have BK861 := n0_; have BK862 := n1_; have BK863 := n2_; have HB := n3_; clear n0_ n1_ n2_ n3_; (try clear hb); (try clear hb2); (try clear hk); (try clear hi); have X19_0 := ct BK861.out 0; have X19_1 := ct BK861.out 1; have X19_2 := ct BK861.out 2; have X19_3 := ct BK861.out 3; have X19_4 := ct BK861.out 4; have X19_5 := ct BK861.out 5; have X19_6 := ct BK861.out 6; have Y19_0 := blk_frozen BK861.out 0; have Y19_1 := blk_frozen BK861.out 1; have Y19_2 := blk_frozen BK861.out 2; have Y19_3 := blk_frozen BK861.out 3; have Y19_4 := blk_frozen BK861.out 4; have Y19_5 := blk_frozen BK861.out 5; have Y19_6 := blk_frozen BK861.out 6; (try clear BK861 GW861 GE861); have X20_0 := ct BK863.out 0; have X20_1 := ct BK863.out 1; have X20_2 := ct BK863.out 2; have Y20_0 := blk_frozen BK863.out 0; have Y20_1 := blk_frozen BK863.out 1; have Y20_2 := blk_frozen BK863.out 2) | ((with_reducible refine gate_callee (f := 40) rfl ?_); refine goesL_ (some 18) rfl rfl Tryz.func40 (by kernel_rfl) rfl #[.agg #[.int .i64 a0_0, .int .i64 a0_1, .int .i64 a0_2, .int .i64 a0_3, .int .i64 a0_4, .int .i64 a0_5, .slice A0_6 l0_6.length c0_6], .agg #[.int .i64 a2_0, .int .i64 a2_1, .int .i64 a2_2]] rfl (by (try simp only [List.map_toArray, List.map_cons, List.map_nil]); first | done | rfl | (simp only [List.length_drop, List.length_take]; rfl)) ?_; (with_reducible refine (metrolabref30_given.calls k a0_0 a0_1 a0_2 a0_3 a0_4 a0_5 _ _ l0_6 a2_0 a2_1 a2_2 t865 _ ?side1 ?side2 A6.out).mono ?_); (case side1 => repeat (first | exact (Kd.C_below HR0_6.out HB.out) | (with_reducible refine Kd.C_alloc ?_ _) | (with_reducible refine Kd.C_drewN ?_ _) | (with_reducible refine Kd.C_drew ?_))); (case side2 => exact HC0_6.out); rintro e w21 ⟨rfl, hb⟩; refine ⟨_, rfl, ?_⟩; have n0_ := mk0 (bbT BK862.out hb); have n1_ := mk0 (bbT BK863.out hb); have n2_ := mk0 (below_step (wT HB.out) hb); clear BK862; clear BK863; clear HB; have BK862 := n0_; have BK863 := n1_; have HB := n2_; clear n0_ n1_ n2_; (try clear hb); (try clear hb2); (try clear hk); (try clear hi); have X22_0 := ct BK862.out 0; have X22_1 := ct BK862.out 1; have X22_2 := ct BK862.out 2; have Y22_0 := blk_frozen BK862.out 0; have Y22_1 := blk_frozen BK862.out 1; have Y22_2 := blk_frozen BK862.out 2; (try clear BK862 GW862 GE862); have X23_0 := ct BK863.out 0; have X23_1 := ct BK863.out 1; have X23_2 := ct BK863.out 2; have Y23_0 := blk_frozen BK863.out 0; have Y23_1 := blk_frozen BK863.out 1; have Y23_2 := blk_frozen BK863.out 2; (try clear BK863 GW863 GE863)) | ((with_reducible refine gate_callee (f := 62) rfl ?_); refine goesL_ (some 24) rfl rfl Tryz.func62 (by kernel_rfl) rfl #[.agg #[.int .i64 a1_0, .int .i64 a1_1, .int .i64 a1_2], .agg #[.int .i64 a2_0, .int .i64 a2_1, .int .i64 a2_2]] rfl (by (try simp only [List.map_toArray, List.map_cons, List.map_nil]); first | done | rfl | (simp only [List.length_drop, List.length_take]; rfl)) ?_; (with_reducible refine (metrolabref30_differ.calls k a1_0 a1_1 a1_2 a2_0 a2_1 a2_2 t866 _ A8.out).mono ?_); rintro e w24 ⟨rfl, hb⟩; refine ⟨_, rfl, ?_⟩; have n0_ := mk0 (below_step (wT HB.out) hb); clear HB; have HB := n0_; clear n0_; (try clear hb); (try clear hb2); (try clear hk); (try clear hi)))
    go_ret2
    exact ⟨eqT, wT HB.out⟩
   ·rw [if_neg c9] at H
    have c9b0 : decide (1 < t866) = false := decide_eq_false c9
    clear c9
    replace H := Option.bind_eq_some_iff.mp H
    obtain ⟨t867, A250, H⟩ := H
    replace H : (some (t867, 0)) = some (r1, r2) := H
    have A25 := mk0 A250
    clear A250
    simp only [Option.some.injEq, Prod.mk.injEq] at H
    obtain ⟨rfl, rfl⟩ := H
    go_enter Tryz.func35, Tryz.ntmps35
    go_wp2_with (first | ((with_reducible refine gate_dst (N := 3) rfl ?_); refine box_event ?hg (N := 3) ?hd (cs := #[.int .i64 a0_0, .int .i64 a0_1, .int .i64 a0_2, .int .i64 a0_3, .int .i64 a0_4, .int .i64 a0_5, .slice A0_6 l0_6.length c0_6]) (t := 30) ?hr ?_; (case hd => rfl); (case hg => rfl); (case hr => first | (go_simp; done) | (go_simp; rfl)); intro gb861 hg w26 hbox hb; have n0_ := mk0 (below_step (wT HB.out) hb); have n1_ := mk0 (hbox); have n2_ := mk0 ((szT HB.out hg)); have n3_ := mk0 ((szT HB.out hg)); clear HB; have HB := n0_; have BK861 := n1_; have GW861 := n2_; have GE861 := n3_; clear n0_ n1_ n2_ n3_; clear hb hbox hg) | ((with_reducible refine gate_dst (N := 4) rfl ?_); refine box_event ?hg (N := 4) ?hd (cs := #[.int .i64 a1_0, .int .i64 a1_1, .int .i64 a1_2]) (t := 23) ?hr ?_; (case hd => rfl); (case hg => rfl); (case hr => first | (go_simp; done) | (go_simp; rfl)); intro gb862 hg w27 hbox hb; have n0_ := mk0 (bbT BK861.out hb); have n1_ := mk0 (below_step (wT HB.out) hb); have n2_ := mk0 (hbox); have n3_ := mk0 ((szT HB.out hg)); have n4_ := mk0 ((szT HB.out hg)); have n5_ := mk0 ((neL BK861.out hg)); have n6_ := mk0 ((neG BK861.out hg)); clear BK861; clear HB; have BK861 := n0_; have HB := n1_; have BK862 := n2_; have GW862 := n3_; have GE862 := n4_; have NB861_862 := n5_; have NB862_861 := n6_; clear n0_ n1_ n2_ n3_ n4_ n5_ n6_; clear hb hbox hg) | ((with_reducible refine gate_dst (N := 5) rfl ?_); refine box_event ?hg (N := 5) ?hd (cs := #[.int .i64 a2_0, .int .i64 a2_1, .int .i64 a2_2]) (t := 23) ?hr ?_; (case hd => rfl); (case hg => rfl); (case hr => first | (go_simp; done) | (go_simp; rfl)); intro gb863 hg w28 hbox hb; have n0_ := mk0 (bbT BK861.out hb); have n1_ := mk0 (bbT BK862.out hb); have n2_ := mk0 (below_step (wT HB.out) hb); have n3_ := mk0 (hbox); have n4_ := mk0 ((szT HB.out hg)); have n5_ := mk0 ((szT HB.out hg)); have n6_ := mk0 ((neL BK861.out hg)); have n7_ := mk0 ((neG BK861.out hg)); have n8_ := mk0 ((neL BK862.out hg)); have n9_ := mk0 ((neG BK862.out hg)); clear BK861; clear BK862; clear HB; have BK861 := n0_; have BK862 := n1_; have HB := n2_; have BK863 := n3_; have GW863 := n4_; have GE863 := n5_; have NB861_863 := n6_; have NB863_861 := n7_; have NB862_863 := n8_; have NB863_862 := n9_; clear n0_ n1_ n2_ n3_ n4_ n5_ n6_ n7_ n8_ n9_; clear hb hbox hg; have hnb29 := NB861_862.out; have hnc29 := NB862_861.out; have hnb30 := NB861_863.out; have hnc30 := NB863_861.out; have X31_0 := ct BK861.out 0; have X31_1 := ct BK861.out 1; have X31_2 := ct BK861.out 2; have X31_3 := ct BK861.out 3; have X31_4 := ct BK861.out 4; have X31_5 := ct BK861.out 5; have X31_6 := ct BK861.out 6; have Y31_0 := blk_frozen BK861.out 0; have Y31_1 := blk_frozen BK861.out 1; have Y31_2 := blk_frozen BK861.out 2; have Y31_3 := blk_frozen BK861.out 3; have Y31_4 := blk_frozen BK861.out 4; have Y31_5 := blk_frozen BK861.out 5; have Y31_6 := blk_frozen BK861.out 6; have hnb32 := NB862_863.out; have hnc32 := NB863_862.out; have X33_0 := ct BK862.out 0; have X33_1 := ct BK862.out 1; have X33_2 := ct BK862.out 2; have Y33_0 := blk_frozen BK862.out 0; have Y33_1 := blk_frozen BK862.out 1; have Y33_2 := blk_frozen BK862.out 2) | ((with_reducible refine gate_callee (f := 40) rfl ?_); refine goesL_ (some 12) rfl rfl Tryz.func40 (by kernel_rfl) rfl #[.agg #[.int .i64 a0_0, .int .i64 a0_1, .int .i64 a0_2, .int .i64 a0_3, .int .i64 a0_4, .int .i64 a0_5, .slice A0_6 l0_6.length c0_6], .agg #[.int .i64 a1_0, .int .i64 a1_1, .int .i64 a1_2]] rfl (by (try simp only [List.map_toArray, List.map_cons, List.map_nil]); first | done | rfl | (simp only [List.length_drop, List.length_take]; rfl)) ?_; (with_reducible refine (metrolabref30_given.calls k a0_0 a0_1 a0_2 a0_3 a0_4 a0_5 _ _ l0_6 a1_0 a1_1 a1_2 t864 _ ?side1 ?side2 A4.out).mono ?_); (case side1 => repeat (first | exact (Kd.C_below HR0_6.out HB.out) | (with_reducible refine Kd.C_alloc ?_ _) | (with_reducible refine Kd.C_drewN ?_ _) | (with_reducible refine Kd.C_drew ?_))); (case side2 => exact HC0_6.out); rintro e w34 ⟨rfl, hb⟩; refine ⟨_, rfl, ?_⟩; have n0_ := mk0 (bbT BK861.out hb); have n1_ := mk0 (bbT BK862.out hb); have n2_ := mk0 (bbT BK863.out hb); have n3_ := mk0 (below_step (wT HB.out) hb); clear BK861; clear BK862; clear BK863; clear HB; have BK861 := n0_; have BK862 := n1_; have BK863 := n2_; have HB := n3_; clear n0_ n1_ n2_ n3_; (try clear hb); (try clear hb2); (try clear hk); (try clear hi); have X35_0 := ct BK861.out 0; have X35_1 := ct BK861.out 1; have X35_2 := ct BK861.out 2; have X35_3 := ct BK861.out 3; have X35_4 := ct BK861.out 4; have X35_5 := ct BK861.out 5; have X35_6 := ct BK861.out 6; have Y35_0 := blk_frozen BK861.out 0; have Y35_1 := blk_frozen BK861.out 1; have Y35_2 := blk_frozen BK861.out 2; have Y35_3 := blk_frozen BK861.out 3; have Y35_4 := blk_frozen BK861.out 4; have Y35_5 := blk_frozen BK861.out 5; have Y35_6 := blk_frozen BK861.out 6; have X36_0 := ct BK863.out 0; have X36_1 := ct BK863.out 1; have X36_2 := ct BK863.out 2; have Y36_0 := blk_frozen BK863.out 0; have Y36_1 := blk_frozen BK863.out 1; have Y36_2 := blk_frozen BK863.out 2) | ((with_reducible refine gate_callee (f := 40) rfl ?_); refine goesL_ (some 18) rfl rfl Tryz.func40 (by kernel_rfl) rfl #[.agg #[.int .i64 a0_0, .int .i64 a0_1, .int .i64 a0_2, .int .i64 a0_3, .int .i64 a0_4, .int .i64 a0_5, .slice A0_6 l0_6.length c0_6], .agg #[.int .i64 a2_0, .int .i64 a2_1, .int .i64 a2_2]] rfl (by (try simp only [List.map_toArray, List.map_cons, List.map_nil]); first | done | rfl | (simp only [List.length_drop, List.length_take]; rfl)) ?_; (with_reducible refine (metrolabref30_given.calls k a0_0 a0_1 a0_2 a0_3 a0_4 a0_5 _ _ l0_6 a2_0 a2_1 a2_2 t865 _ ?side1 ?side2 A6.out).mono ?_); (case side1 => repeat (first | exact (Kd.C_below HR0_6.out HB.out) | (with_reducible refine Kd.C_alloc ?_ _) | (with_reducible refine Kd.C_drewN ?_ _) | (with_reducible refine Kd.C_drew ?_))); (case side2 => exact HC0_6.out); rintro e w37 ⟨rfl, hb⟩; refine ⟨_, rfl, ?_⟩; have n0_ := mk0 (bbT BK861.out hb); have n1_ := mk0 (bbT BK862.out hb); have n2_ := mk0 (bbT BK863.out hb); have n3_ := mk0 (below_step (wT HB.out) hb); clear BK861; clear BK862; clear BK863; clear HB; have BK861 := n0_; have BK862 := n1_; have BK863 := n2_; have HB := n3_; clear n0_ n1_ n2_ n3_; (try clear hb); (try clear hb2); (try clear hk); (try clear hi); have X38_0 := ct BK862.out 0; have X38_1 := ct BK862.out 1; have X38_2 := ct BK862.out 2; have Y38_0 := blk_frozen BK862.out 0; have Y38_1 := blk_frozen BK862.out 1; have Y38_2 := blk_frozen BK862.out 2; have X39_0 := ct BK863.out 0; have X39_1 := ct BK863.out 1; have X39_2 := ct BK863.out 2; have Y39_0 := blk_frozen BK863.out 0; have Y39_1 := blk_frozen BK863.out 1; have Y39_2 := blk_frozen BK863.out 2) | ((with_reducible refine gate_callee (f := 62) rfl ?_); refine goesL_ (some 24) rfl rfl Tryz.func62 (by kernel_rfl) rfl #[.agg #[.int .i64 a1_0, .int .i64 a1_1, .int .i64 a1_2], .agg #[.int .i64 a2_0, .int .i64 a2_1, .int .i64 a2_2]] rfl (by (try simp only [List.map_toArray, List.map_cons, List.map_nil]); first | done | rfl | (simp only [List.length_drop, List.length_take]; rfl)) ?_; (with_reducible refine (metrolabref30_differ.calls k a1_0 a1_1 a1_2 a2_0 a2_1 a2_2 t866 _ A8.out).mono ?_); rintro e w40 ⟨rfl, hb⟩; refine ⟨_, rfl, ?_⟩; have n0_ := mk0 (bbT BK861.out hb); have n1_ := mk0 (bbT BK862.out hb); have n2_ := mk0 (bbT BK863.out hb); have n3_ := mk0 (below_step (wT HB.out) hb); clear BK861; clear BK862; clear BK863; clear HB; have BK861 := n0_; have BK862 := n1_; have BK863 := n2_; have HB := n3_; clear n0_ n1_ n2_ n3_; (try clear hb); (try clear hb2); (try clear hk); (try clear hi); have X41_0 := ct BK861.out 0; have X41_1 := ct BK861.out 1; have X41_2 := ct BK861.out 2; have X41_3 := ct BK861.out 3; have X41_4 := ct BK861.out 4; have X41_5 := ct BK861.out 5; have X41_6 := ct BK861.out 6; have Y41_0 := blk_frozen BK861.out 0; have Y41_1 := blk_frozen BK861.out 1; have Y41_2 := blk_frozen BK861.out 2; have Y41_3 := blk_frozen BK861.out 3; have Y41_4 := blk_frozen BK861.out 4; have Y41_5 := blk_frozen BK861.out 5; have Y41_6 := blk_frozen BK861.out 6; (try clear BK861 GW861 GE861); have X42_0 := ct BK862.out 0; have X42_1 := ct BK862.out 1; have X42_2 := ct BK862.out 2; have Y42_0 := blk_frozen BK862.out 0; have Y42_1 := blk_frozen BK862.out 1; have Y42_2 := blk_frozen BK862.out 2; (try clear BK862 GW862 GE862); have X43_0 := ct BK863.out 0; have X43_1 := ct BK863.out 1; have X43_2 := ct BK863.out 2; have Y43_0 := blk_frozen BK863.out 0; have Y43_1 := blk_frozen BK863.out 1; have Y43_2 := blk_frozen BK863.out 2; (try clear BK863 GW863 GE863)) | ((with_reducible refine gate_callee (f := 63) rfl ?_); refine goesL_ (some 29) rfl rfl Tryz.func63 (by kernel_rfl) rfl #[.agg #[.int .i64 a0_0, .int .i64 a0_1, .int .i64 a0_2, .int .i64 a0_3, .int .i64 a0_4, .int .i64 a0_5, .slice A0_6 l0_6.length c0_6], .agg #[.int .i64 a1_0, .int .i64 a1_1, .int .i64 a1_2], .agg #[.int .i64 a2_0, .int .i64 a2_1, .int .i64 a2_2]] rfl (by (try simp only [List.map_toArray, List.map_cons, List.map_nil]); first | done | rfl | (simp only [List.length_drop, List.length_take]; rfl)) ?_; (with_reducible refine (metrolabref30_Open.calls k a0_0 a0_1 a0_2 a0_3 a0_4 a0_5 _ _ l0_6 a1_0 a1_1 a1_2 a2_0 a2_1 a2_2 t867 _ ?side1 ?side2 A25.out).mono ?_); (case side1 => repeat (first | exact (Kd.C_below HR0_6.out HB.out) | (with_reducible refine Kd.C_alloc ?_ _) | (with_reducible refine Kd.C_drewN ?_ _) | (with_reducible refine Kd.C_drew ?_))); (case side2 => exact HC0_6.out); rintro e w44 ⟨rfl, hb⟩; refine ⟨_, rfl, ?_⟩; have n0_ := mk0 (below_step (wT HB.out) hb); clear HB; have HB := n0_; clear n0_; (try clear hb); (try clear hb2); (try clear hk); (try clear hi)))
    go_ret2
    exact ⟨eqT, wT HB.out⟩
  ·rw [if_neg c7] at H
   have c7b0 : (t865 == 0) = false := beq_eq_false_iff_ne.mpr c7
   have c7b1 : (t865 != 0) = true := bne_iff_ne.mpr c7
   simp only [Option.some.injEq, Prod.mk.injEq] at H
   obtain ⟨rfl, rfl⟩ := H
   go_enter Tryz.func35, Tryz.ntmps35
   go_wp2_with (first | ((with_reducible refine gate_dst (N := 3) rfl ?_); refine box_event ?hg (N := 3) ?hd (cs := #[.int .i64 a0_0, .int .i64 a0_1, .int .i64 a0_2, .int .i64 a0_3, .int .i64 a0_4, .int .i64 a0_5, .slice A0_6 l0_6.length c0_6]) (t := 30) ?hr ?_; (case hd => rfl); (case hg => rfl); (case hr => first | (go_simp; done) | (go_simp; rfl)); intro gb861 hg w45 hbox hb; have n0_ := mk0 (below_step (wT HB.out) hb); have n1_ := mk0 (hbox); have n2_ := mk0 ((szT HB.out hg)); have n3_ := mk0 ((szT HB.out hg)); clear HB; have HB := n0_; have BK861 := n1_; have GW861 := n2_; have GE861 := n3_; clear n0_ n1_ n2_ n3_; clear hb hbox hg) | ((with_reducible refine gate_dst (N := 4) rfl ?_); refine box_event ?hg (N := 4) ?hd (cs := #[.int .i64 a1_0, .int .i64 a1_1, .int .i64 a1_2]) (t := 23) ?hr ?_; (case hd => rfl); (case hg => rfl); (case hr => first | (go_simp; done) | (go_simp; rfl)); intro gb862 hg w46 hbox hb; have n0_ := mk0 (bbT BK861.out hb); have n1_ := mk0 (below_step (wT HB.out) hb); have n2_ := mk0 (hbox); have n3_ := mk0 ((szT HB.out hg)); have n4_ := mk0 ((szT HB.out hg)); have n5_ := mk0 ((neL BK861.out hg)); have n6_ := mk0 ((neG BK861.out hg)); clear BK861; clear HB; have BK861 := n0_; have HB := n1_; have BK862 := n2_; have GW862 := n3_; have GE862 := n4_; have NB861_862 := n5_; have NB862_861 := n6_; clear n0_ n1_ n2_ n3_ n4_ n5_ n6_; clear hb hbox hg) | ((with_reducible refine gate_dst (N := 5) rfl ?_); refine box_event ?hg (N := 5) ?hd (cs := #[.int .i64 a2_0, .int .i64 a2_1, .int .i64 a2_2]) (t := 23) ?hr ?_; (case hd => rfl); (case hg => rfl); (case hr => first | (go_simp; done) | (go_simp; rfl)); intro gb863 hg w47 hbox hb; have n0_ := mk0 (bbT BK861.out hb); have n1_ := mk0 (bbT BK862.out hb); have n2_ := mk0 (below_step (wT HB.out) hb); have n3_ := mk0 (hbox); have n4_ := mk0 ((szT HB.out hg)); have n5_ := mk0 ((szT HB.out hg)); have n6_ := mk0 ((neL BK861.out hg)); have n7_ := mk0 ((neG BK861.out hg)); have n8_ := mk0 ((neL BK862.out hg)); have n9_ := mk0 ((neG BK862.out hg)); clear BK861; clear BK862; clear HB; have BK861 := n0_; have BK862 := n1_; have HB := n2_; have BK863 := n3_; have GW863 := n4_; have GE863 := n5_; have NB861_863 := n6_; have NB863_861 := n7_; have NB862_863 := n8_; have NB863_862 := n9_; clear n0_ n1_ n2_ n3_ n4_ n5_ n6_ n7_ n8_ n9_; clear hb hbox hg; have hnb48 := NB861_862.out; have hnc48 := NB862_861.out; have hnb49 := NB861_863.out; have hnc49 := NB863_861.out; have X50_0 := ct BK861.out 0; have X50_1 := ct BK861.out 1; have X50_2 := ct BK861.out 2; have X50_3 := ct BK861.out 3; have X50_4 := ct BK861.out 4; have X50_5 := ct BK861.out 5; have X50_6 := ct BK861.out 6; have Y50_0 := blk_frozen BK861.out 0; have Y50_1 := blk_frozen BK861.out 1; have Y50_2 := blk_frozen BK861.out 2; have Y50_3 := blk_frozen BK861.out 3; have Y50_4 := blk_frozen BK861.out 4; have Y50_5 := blk_frozen BK861.out 5; have Y50_6 := blk_frozen BK861.out 6; have hnb51 := NB862_863.out; have hnc51 := NB863_862.out; have X52_0 := ct BK862.out 0; have X52_1 := ct BK862.out 1; have X52_2 := ct BK862.out 2; have Y52_0 := blk_frozen BK862.out 0; have Y52_1 := blk_frozen BK862.out 1; have Y52_2 := blk_frozen BK862.out 2; (try clear BK862 GW862 GE862)) | ((with_reducible refine gate_callee (f := 40) rfl ?_); refine goesL_ (some 12) rfl rfl Tryz.func40 (by kernel_rfl) rfl #[.agg #[.int .i64 a0_0, .int .i64 a0_1, .int .i64 a0_2, .int .i64 a0_3, .int .i64 a0_4, .int .i64 a0_5, .slice A0_6 l0_6.length c0_6], .agg #[.int .i64 a1_0, .int .i64 a1_1, .int .i64 a1_2]] rfl (by (try simp only [List.map_toArray, List.map_cons, List.map_nil]); first | done | rfl | (simp only [List.length_drop, List.length_take]; rfl)) ?_; (with_reducible refine (metrolabref30_given.calls k a0_0 a0_1 a0_2 a0_3 a0_4 a0_5 _ _ l0_6 a1_0 a1_1 a1_2 t864 _ ?side1 ?side2 A4.out).mono ?_); (case side1 => repeat (first | exact (Kd.C_below HR0_6.out HB.out) | (with_reducible refine Kd.C_alloc ?_ _) | (with_reducible refine Kd.C_drewN ?_ _) | (with_reducible refine Kd.C_drew ?_))); (case side2 => exact HC0_6.out); rintro e w53 ⟨rfl, hb⟩; refine ⟨_, rfl, ?_⟩; have n0_ := mk0 (bbT BK861.out hb); have n1_ := mk0 (bbT BK863.out hb); have n2_ := mk0 (below_step (wT HB.out) hb); clear BK861; clear BK863; clear HB; have BK861 := n0_; have BK863 := n1_; have HB := n2_; clear n0_ n1_ n2_; (try clear hb); (try clear hb2); (try clear hk); (try clear hi); have X54_0 := ct BK861.out 0; have X54_1 := ct BK861.out 1; have X54_2 := ct BK861.out 2; have X54_3 := ct BK861.out 3; have X54_4 := ct BK861.out 4; have X54_5 := ct BK861.out 5; have X54_6 := ct BK861.out 6; have Y54_0 := blk_frozen BK861.out 0; have Y54_1 := blk_frozen BK861.out 1; have Y54_2 := blk_frozen BK861.out 2; have Y54_3 := blk_frozen BK861.out 3; have Y54_4 := blk_frozen BK861.out 4; have Y54_5 := blk_frozen BK861.out 5; have Y54_6 := blk_frozen BK861.out 6; (try clear BK861 GW861 GE861); have X55_0 := ct BK863.out 0; have X55_1 := ct BK863.out 1; have X55_2 := ct BK863.out 2; have Y55_0 := blk_frozen BK863.out 0; have Y55_1 := blk_frozen BK863.out 1; have Y55_2 := blk_frozen BK863.out 2; (try clear BK863 GW863 GE863)) | ((with_reducible refine gate_callee (f := 40) rfl ?_); refine goesL_ (some 18) rfl rfl Tryz.func40 (by kernel_rfl) rfl #[.agg #[.int .i64 a0_0, .int .i64 a0_1, .int .i64 a0_2, .int .i64 a0_3, .int .i64 a0_4, .int .i64 a0_5, .slice A0_6 l0_6.length c0_6], .agg #[.int .i64 a2_0, .int .i64 a2_1, .int .i64 a2_2]] rfl (by (try simp only [List.map_toArray, List.map_cons, List.map_nil]); first | done | rfl | (simp only [List.length_drop, List.length_take]; rfl)) ?_; (with_reducible refine (metrolabref30_given.calls k a0_0 a0_1 a0_2 a0_3 a0_4 a0_5 _ _ l0_6 a2_0 a2_1 a2_2 t865 _ ?side1 ?side2 A6.out).mono ?_); (case side1 => repeat (first | exact (Kd.C_below HR0_6.out HB.out) | (with_reducible refine Kd.C_alloc ?_ _) | (with_reducible refine Kd.C_drewN ?_ _) | (with_reducible refine Kd.C_drew ?_))); (case side2 => exact HC0_6.out); rintro e w56 ⟨rfl, hb⟩; refine ⟨_, rfl, ?_⟩; have n0_ := mk0 (below_step (wT HB.out) hb); clear HB; have HB := n0_; clear n0_; (try clear hb); (try clear hb2); (try clear hk); (try clear hi)))
   go_ret2
   exact ⟨eqT, wT HB.out⟩
 ·rw [if_neg c5] at H
  have c5b0 : (t864 == 0) = false := beq_eq_false_iff_ne.mpr c5
  have c5b1 : (t864 != 0) = true := bne_iff_ne.mpr c5
  simp only [Option.some.injEq, Prod.mk.injEq] at H
  obtain ⟨rfl, rfl⟩ := H
  go_enter Tryz.func35, Tryz.ntmps35
  go_wp2_with (first | ((with_reducible refine gate_dst (N := 3) rfl ?_); refine box_event ?hg (N := 3) ?hd (cs := #[.int .i64 a0_0, .int .i64 a0_1, .int .i64 a0_2, .int .i64 a0_3, .int .i64 a0_4, .int .i64 a0_5, .slice A0_6 l0_6.length c0_6]) (t := 30) ?hr ?_; (case hd => rfl); (case hg => rfl); (case hr => first | (go_simp; done) | (go_simp; rfl)); intro gb861 hg w57 hbox hb; have n0_ := mk0 (below_step (wT HB.out) hb); have n1_ := mk0 (hbox); have n2_ := mk0 ((szT HB.out hg)); have n3_ := mk0 ((szT HB.out hg)); clear HB; have HB := n0_; have BK861 := n1_; have GW861 := n2_; have GE861 := n3_; clear n0_ n1_ n2_ n3_; clear hb hbox hg) | ((with_reducible refine gate_dst (N := 4) rfl ?_); refine box_event ?hg (N := 4) ?hd (cs := #[.int .i64 a1_0, .int .i64 a1_1, .int .i64 a1_2]) (t := 23) ?hr ?_; (case hd => rfl); (case hg => rfl); (case hr => first | (go_simp; done) | (go_simp; rfl)); intro gb862 hg w58 hbox hb; have n0_ := mk0 (bbT BK861.out hb); have n1_ := mk0 (below_step (wT HB.out) hb); have n2_ := mk0 (hbox); have n3_ := mk0 ((szT HB.out hg)); have n4_ := mk0 ((szT HB.out hg)); have n5_ := mk0 ((neL BK861.out hg)); have n6_ := mk0 ((neG BK861.out hg)); clear BK861; clear HB; have BK861 := n0_; have HB := n1_; have BK862 := n2_; have GW862 := n3_; have GE862 := n4_; have NB861_862 := n5_; have NB862_861 := n6_; clear n0_ n1_ n2_ n3_ n4_ n5_ n6_; clear hb hbox hg) | ((with_reducible refine gate_dst (N := 5) rfl ?_); refine box_event ?hg (N := 5) ?hd (cs := #[.int .i64 a2_0, .int .i64 a2_1, .int .i64 a2_2]) (t := 23) ?hr ?_; (case hd => rfl); (case hg => rfl); (case hr => first | (go_simp; done) | (go_simp; rfl)); intro gb863 hg w59 hbox hb; have n0_ := mk0 (bbT BK861.out hb); have n1_ := mk0 (bbT BK862.out hb); have n2_ := mk0 (below_step (wT HB.out) hb); have n3_ := mk0 (hbox); have n4_ := mk0 ((szT HB.out hg)); have n5_ := mk0 ((szT HB.out hg)); have n6_ := mk0 ((neL BK861.out hg)); have n7_ := mk0 ((neG BK861.out hg)); have n8_ := mk0 ((neL BK862.out hg)); have n9_ := mk0 ((neG BK862.out hg)); clear BK861; clear BK862; clear HB; have BK861 := n0_; have BK862 := n1_; have HB := n2_; have BK863 := n3_; have GW863 := n4_; have GE863 := n5_; have NB861_863 := n6_; have NB863_861 := n7_; have NB862_863 := n8_; have NB863_862 := n9_; clear n0_ n1_ n2_ n3_ n4_ n5_ n6_ n7_ n8_ n9_; clear hb hbox hg; (try clear BK863 GW863 GE863); have hnb60 := NB861_862.out; have hnc60 := NB862_861.out; have X61_0 := ct BK861.out 0; have X61_1 := ct BK861.out 1; have X61_2 := ct BK861.out 2; have X61_3 := ct BK861.out 3; have X61_4 := ct BK861.out 4; have X61_5 := ct BK861.out 5; have X61_6 := ct BK861.out 6; have Y61_0 := blk_frozen BK861.out 0; have Y61_1 := blk_frozen BK861.out 1; have Y61_2 := blk_frozen BK861.out 2; have Y61_3 := blk_frozen BK861.out 3; have Y61_4 := blk_frozen BK861.out 4; have Y61_5 := blk_frozen BK861.out 5; have Y61_6 := blk_frozen BK861.out 6; (try clear BK861 GW861 GE861); have X62_0 := ct BK862.out 0; have X62_1 := ct BK862.out 1; have X62_2 := ct BK862.out 2; have Y62_0 := blk_frozen BK862.out 0; have Y62_1 := blk_frozen BK862.out 1; have Y62_2 := blk_frozen BK862.out 2; (try clear BK862 GW862 GE862)) | ((with_reducible refine gate_callee (f := 40) rfl ?_); refine goesL_ (some 12) rfl rfl Tryz.func40 (by kernel_rfl) rfl #[.agg #[.int .i64 a0_0, .int .i64 a0_1, .int .i64 a0_2, .int .i64 a0_3, .int .i64 a0_4, .int .i64 a0_5, .slice A0_6 l0_6.length c0_6], .agg #[.int .i64 a1_0, .int .i64 a1_1, .int .i64 a1_2]] rfl (by (try simp only [List.map_toArray, List.map_cons, List.map_nil]); first | done | rfl | (simp only [List.length_drop, List.length_take]; rfl)) ?_; (with_reducible refine (metrolabref30_given.calls k a0_0 a0_1 a0_2 a0_3 a0_4 a0_5 _ _ l0_6 a1_0 a1_1 a1_2 t864 _ ?side1 ?side2 A4.out).mono ?_); (case side1 => repeat (first | exact (Kd.C_below HR0_6.out HB.out) | (with_reducible refine Kd.C_alloc ?_ _) | (with_reducible refine Kd.C_drewN ?_ _) | (with_reducible refine Kd.C_drew ?_))); (case side2 => exact HC0_6.out); rintro e w63 ⟨rfl, hb⟩; refine ⟨_, rfl, ?_⟩; have n0_ := mk0 (below_step (wT HB.out) hb); clear HB; have HB := n0_; clear n0_; (try clear hb); (try clear hb2); (try clear hk); (try clear hi)))
  go_ret2
  exact ⟨eqT, wT HB.out⟩
def metrolablaw30_ProbeWays.j0 : Nat → Bool → Int → Int → Int → Int → Int → Int → List (S84) → Int → Int → Int → Int → Int → Int → Option (Bool)
 | 0, _, _, _, _, _, _, _, _, _, _, _, _, _, _ => none
 | k + 1, x20, x869000, x869001, x869002, x869003, x869004, x869005, x869006, x870000, x870001, x870002, x871000, x871001, x871002 => if x20 = true then ((metrolablaw30_awake.f k).bind fun t882 => (some t882)) else ((probe_Free.f k x869000 x869001 x869002 x869003 x869004 x869005 x869006 x870000 x870001 x870002 x871000 x871001 x871002).bind fun bt883 => ((metrolablaw30_own.f k x869000 x869001 x869002 x869003 x869004 x869005 x869006).bind fun bt885 => ((metrolabref30_Free.f k bt885.1 bt885.2.1 bt885.2.2.1 bt885.2.2.2.1 bt885.2.2.2.2.1 bt885.2.2.2.2.2.1 bt885.2.2.2.2.2.2 x870000 x870001 x870002 x871000 x871001 x871002).bind fun bt894 => (if (bt883.1 == bt894.1) = true then (if bt883.2 = bt894.2 then ((metrolablaw30_awake.f k).bind fun t896 => (some t896)) else (none)) else (none)))))
def metrolablaw30_ProbeWays.f (k : Nat) (a0_0 : Int) (a0_1 : Int) (a0_2 : Int) (a0_3 : Int) (a0_4 : Int) (a0_5 : Int) (l0_6 : List (S84)) (a1_0 : Int) (a1_1 : Int) (a1_2 : Int) (a2_0 : Int) (a2_1 : Int) (a2_2 : Int) : Option (Bool) := (metrolablaw30_own.f k a0_0 a0_1 a0_2 a0_3 a0_4 a0_5 l0_6).bind fun bt871 => ((metrolabref30_Few.f bt871.1 bt871.2.1 bt871.2.2.1 bt871.2.2.2.1 bt871.2.2.2.2.1 bt871.2.2.2.2.2.1 bt871.2.2.2.2.2.2).bind fun t880 => (if t880 = true then ((metrolabref30_Near.f a1_0 a1_1 a1_2 a2_0 a2_1 a2_2).bind fun t881 => (metrolablaw30_ProbeWays.j0 k (!t881) a0_0 a0_1 a0_2 a0_3 a0_4 a0_5 l0_6 a1_0 a1_1 a1_2 a2_0 a2_1 a2_2)) else (metrolablaw30_ProbeWays.j0 k true a0_0 a0_1 a0_2 a0_3 a0_4 a0_5 l0_6 a1_0 a1_1 a1_2 a2_0 a2_1 a2_2)))
def metrolablaw30_ProbeWays.T4 : Bool × List (List Nat × List Nat) := (true, [([], []), ([0], [0]), ([], []), ([], []), ([1, 2, 3, 1], [1, 2, 3]), ([4], [4]), ([5], [5]), ([5], [5]), ([6, 4, 0, 1, 2, 3, 4, 5, 6], [6]), ([7, 8, 0, 1, 2, 3, 4, 5, 6, 7, 8], [7])])
def metrolablaw30_ProbeWays.B4 : List Nat := [0, 1, 0, 0, 15, 31, 63, 63, 127, 511]
theorem metrolablaw30_ProbeWays.tab4 : rtab .any (opsOf Tryz.f9 4) = metrolablaw30_ProbeWays.T4 := by kernel_rfl
theorem metrolablaw30_ProbeWays.bits4 : waitsOk metrolablaw30_ProbeWays.T4.2 metrolablaw30_ProbeWays.B4 = true := by kernel_rfl
theorem metrolablaw30_ProbeWays.calls (k : Nat) (a0_0 : Int) (a0_1 : Int) (a0_2 : Int) (a0_3 : Int) (a0_4 : Int) (a0_5 : Int) (A0_6 : Option Addr) (c0_6 : Nat) (l0_6 : List (S84)) (a1_0 : Int) (a1_1 : Int) (a1_2 : Int) (a2_0 : Int) (a2_1 : Int) (a2_2 : Int) (r : Bool) (w : World) (hG : GW w) (hr0_6 : Kd.C k84 w A0_6 l0_6.length l0_6) (hc0_6 : l0_6.length ≤ c0_6) (h : metrolablaw30_ProbeWays.f k a0_0 a0_1 a0_2 a0_3 a0_4 a0_5 l0_6 a1_0 a1_1 a1_2 a2_0 a2_1 a2_2 = some r) :
  Calls Tryz.prog 9 #[.agg #[.int .i64 a0_0, .int .i64 a0_1, .int .i64 a0_2, .int .i64 a0_3, .int .i64 a0_4, .int .i64 a0_5, .slice A0_6 l0_6.length c0_6], .agg #[.int .i64 a1_0, .int .i64 a1_1, .int .i64 a1_2], .agg #[.int .i64 a2_0, .int .i64 a2_1, .int .i64 a2_2]] w fun e w' => e = .returned (.bool r) ∧ Below w.heap.size w w' := by
 have hu26 := Tryz.underlying26
 have hu23 := Tryz.underlying23
 have HG := mk0 hG
 clear hG
 have HR0_6 := mk0 hr0_6
 have HC0_6 := mk0 hc0_6
 clear hr0_6 hc0_6
 have HB := mk0 (Below.refl w.heap.size w)
 have H : ((metrolablaw30_own.f k a0_0 a0_1 a0_2 a0_3 a0_4 a0_5 l0_6).bind fun bt871 => ((metrolabref30_Few.f bt871.1 bt871.2.1 bt871.2.2.1 bt871.2.2.2.1 bt871.2.2.2.2.1 bt871.2.2.2.2.2.1 bt871.2.2.2.2.2.2).bind fun t880 => (if t880 = true then ((metrolabref30_Near.f a1_0 a1_1 a1_2 a2_0 a2_1 a2_2).bind fun t881 => (metrolablaw30_ProbeWays.j0 k (!t881) a0_0 a0_1 a0_2 a0_3 a0_4 a0_5 l0_6 a1_0 a1_1 a1_2 a2_0 a2_1 a2_2)) else (metrolablaw30_ProbeWays.j0 k true a0_0 a0_1 a0_2 a0_3 a0_4 a0_5 l0_6 a1_0 a1_1 a1_2 a2_0 a2_1 a2_2)))) = some r := h
 clear h
 have HC4 := mk0 H
 clear H
 go_enter Tryz.func9, Tryz.ntmps9
 go_upto_region 1 with (first | ((with_reducible refine gate_dst (N := 3) rfl ?_); refine box_event ?hg (N := 3) ?hd (cs := #[.int .i64 a0_0, .int .i64 a0_1, .int .i64 a0_2, .int .i64 a0_3, .int .i64 a0_4, .int .i64 a0_5, .slice A0_6 l0_6.length c0_6]) (t := 26) ?hr ?_; (case hd => rfl); (case hg => rfl); (case hr => first | (go_simp; done) | (go_simp; rfl)); intro gb868 hg w5 hbox hb; have n0_ := mk0 (below_step (wT HB.out) hb); have n1_ := mk0 (hbox); have n2_ := mk0 ((szT HB.out hg)); have n3_ := mk0 ((szT HB.out hg)); clear HB; have HB := n0_; have BK868 := n1_; have GW868 := n2_; have GE868 := n3_; clear n0_ n1_ n2_ n3_; clear hb hbox hg) | ((with_reducible refine gate_dst (N := 4) rfl ?_); refine box_event ?hg (N := 4) ?hd (cs := #[.int .i64 a1_0, .int .i64 a1_1, .int .i64 a1_2]) (t := 23) ?hr ?_; (case hd => rfl); (case hg => rfl); (case hr => first | (go_simp; done) | (go_simp; rfl)); intro gb869 hg w6 hbox hb; have n0_ := mk0 (bbT BK868.out hb); have n1_ := mk0 (below_step (wT HB.out) hb); have n2_ := mk0 (hbox); have n3_ := mk0 ((szT HB.out hg)); have n4_ := mk0 ((szT HB.out hg)); have n5_ := mk0 ((neL BK868.out hg)); have n6_ := mk0 ((neG BK868.out hg)); clear BK868; clear HB; have BK868 := n0_; have HB := n1_; have BK869 := n2_; have GW869 := n3_; have GE869 := n4_; have NB868_869 := n5_; have NB869_868 := n6_; clear n0_ n1_ n2_ n3_ n4_ n5_ n6_; clear hb hbox hg) | ((with_reducible refine gate_dst (N := 5) rfl ?_); refine box_event ?hg (N := 5) ?hd (cs := #[.int .i64 a2_0, .int .i64 a2_1, .int .i64 a2_2]) (t := 23) ?hr ?_; (case hd => rfl); (case hg => rfl); (case hr => first | (go_simp; done) | (go_simp; rfl)); intro gb870 hg w7 hbox hb; have n0_ := mk0 (bbT BK868.out hb); have n1_ := mk0 (bbT BK869.out hb); have n2_ := mk0 (below_step (wT HB.out) hb); have n3_ := mk0 (hbox); have n4_ := mk0 ((szT HB.out hg)); have n5_ := mk0 ((szT HB.out hg)); have n6_ := mk0 ((neL BK868.out hg)); have n7_ := mk0 ((neG BK868.out hg)); have n8_ := mk0 ((neL BK869.out hg)); have n9_ := mk0 ((neG BK869.out hg)); clear BK868; clear BK869; clear HB; have BK868 := n0_; have BK869 := n1_; have HB := n2_; have BK870 := n3_; have GW870 := n4_; have GE870 := n5_; have NB868_870 := n6_; have NB870_868 := n7_; have NB869_870 := n8_; have NB870_869 := n9_; clear n0_ n1_ n2_ n3_ n4_ n5_ n6_ n7_ n8_ n9_; clear hb hbox hg))
 (try simp only [Act.put, List.setIfInBounds_toArray, List.set_cons_zero, List.set_cons_succ])
 go_cut [20] (fun v20 wc => ∃ (kq : Nat) (x20_3 : Bool), v20 = .bool x20_3 ∧ Aside0 (metrolablaw30_ProbeWays.j0 kq x20_3 a0_0 a0_1 a0_2 a0_3 a0_4 a0_5 l0_6 a1_0 a1_1 a1_2 a2_0 a2_1 a2_2 = some r) ∧ Aside0 (kq ≤ k) ∧ Aside0 (wc.heap[gb868]? = some (.cells #[.int .i64 a0_0, .int .i64 a0_1, .int .i64 a0_2, .int .i64 a0_3, .int .i64 a0_4, .int .i64 a0_5, (.slice A0_6 l0_6.length c0_6)] 26 (0, 0))) ∧ Aside0 (wc.heap[gb869]? = some (.cells #[.int .i64 a1_0, .int .i64 a1_1, .int .i64 a1_2] 23 (0, 0))) ∧ Aside0 (wc.heap[gb870]? = some (.cells #[.int .i64 a2_0, .int .i64 a2_1, .int .i64 a2_2] 23 (0, 0))) ∧ Aside0 (Below w.heap.size w wc))
 case first =>
  have H := HC4.out
  clear HC4
  replace H := Option.bind_eq_some_iff.mp H
  obtain ⟨⟨t871, t872, t873, t874, t875, t876, t877⟩, A80, H⟩ := H
  replace H : ((metrolabref30_Few.f t871 t872 t873 t874 t875 t876 t877).bind fun t880 => (if t880 = true then ((metrolabref30_Near.f a1_0 a1_1 a1_2 a2_0 a2_1 a2_2).bind fun t881 => (metrolablaw30_ProbeWays.j0 k (!t881) a0_0 a0_1 a0_2 a0_3 a0_4 a0_5 l0_6 a1_0 a1_1 a1_2 a2_0 a2_1 a2_2)) else (metrolablaw30_ProbeWays.j0 k true a0_0 a0_1 a0_2 a0_3 a0_4 a0_5 l0_6 a1_0 a1_1 a1_2 a2_0 a2_1 a2_2))) = some r := H
  have A8 := mk0 A80
  clear A80
  replace H := Option.bind_eq_some_iff.mp H
  obtain ⟨t880, A90, H⟩ := H
  replace H : (if t880 = true then ((metrolabref30_Near.f a1_0 a1_1 a1_2 a2_0 a2_1 a2_2).bind fun t881 => (metrolablaw30_ProbeWays.j0 k (!t881) a0_0 a0_1 a0_2 a0_3 a0_4 a0_5 l0_6 a1_0 a1_1 a1_2 a2_0 a2_1 a2_2)) else (metrolablaw30_ProbeWays.j0 k true a0_0 a0_1 a0_2 a0_3 a0_4 a0_5 l0_6 a1_0 a1_1 a1_2 a2_0 a2_1 a2_2)) = some r := H
  have A9 := mk0 A90
  clear A90
  by_cases c10 : t880 = true
  ·subst c10
   have H1 : ((metrolabref30_Near.f a1_0 a1_1 a1_2 a2_0 a2_1 a2_2).bind fun t881 => (metrolablaw30_ProbeWays.j0 k (!t881) a0_0 a0_1 a0_2 a0_3 a0_4 a0_5 l0_6 a1_0 a1_1 a1_2 a2_0 a2_1 a2_2)) = some r := by rw [if_pos rfl] at H; exact H
   clear H
   have H := H1
   clear H1
   replace H := Option.bind_eq_some_iff.mp H
   obtain ⟨t881, A110, H⟩ := H
   replace H : (metrolablaw30_ProbeWays.j0 k (!t881) a0_0 a0_1 a0_2 a0_3 a0_4 a0_5 l0_6 a1_0 a1_1 a1_2 a2_0 a2_1 a2_2) = some r := H
   have A11 := mk0 A110
   clear A110
   have H' := mk0 H
   clear H
   have hnb12 := NB868_869.out
   have hnc12 := NB869_868.out
   have hnb13 := NB868_870.out
   have hnc13 := NB870_868.out
   have X14_0 := ct BK868.out 0
   have X14_1 := ct BK868.out 1
   have X14_2 := ct BK868.out 2
   have X14_3 := ct BK868.out 3
   have X14_4 := ct BK868.out 4
   have X14_5 := ct BK868.out 5
   have X14_6 := ct BK868.out 6
   have Y14_0 := blk_frozen BK868.out 0
   have Y14_1 := blk_frozen BK868.out 1
   have Y14_2 := blk_frozen BK868.out 2
   have Y14_3 := blk_frozen BK868.out 3
   have Y14_4 := blk_frozen BK868.out 4
   have Y14_5 := blk_frozen BK868.out 5
   have Y14_6 := blk_frozen BK868.out 6
   go_wp2_with (first | ((with_reducible refine gate_callee (f := 13) rfl ?_); refine goesL_ (some 12) rfl rfl Tryz.func13 (by kernel_rfl) rfl #[.agg #[.int .i64 a0_0, .int .i64 a0_1, .int .i64 a0_2, .int .i64 a0_3, .int .i64 a0_4, .int .i64 a0_5, .slice A0_6 l0_6.length c0_6]] rfl (by (try simp only [List.map_toArray, List.map_cons, List.map_nil]); first | done | rfl | (simp only [List.length_drop, List.length_take]; rfl)) ?_; (with_reducible refine (metrolablaw30_own.calls k a0_0 a0_1 a0_2 a0_3 a0_4 a0_5 _ _ l0_6 t871 t872 t873 t874 t875 t876 t877 _ ?side1 ?side2 A8.out).mono ?_); (case side1 => repeat (first | exact (Kd.C_below HR0_6.out HB.out) | (with_reducible refine Kd.C_alloc ?_ _) | (with_reducible refine Kd.C_drewN ?_ _) | (with_reducible refine Kd.C_drew ?_))); (case side2 => exact HC0_6.out); rintro e w15 ⟨v878, rfl, ho0, hb⟩; refine ⟨_, rfl, ?_⟩; have n0_ := mk0 (Kd.R_lower ho0 (below_size (wT HB.out))); have n1_ := mk0 (bbT BK868.out hb); have n2_ := mk0 (bbT BK869.out hb); have n3_ := mk0 (bbT BK870.out hb); have n4_ := mk0 (below_step (wT HB.out) hb); clear BK868; clear BK869; clear BK870; clear HB; have HO879 := n0_; have BK868 := n1_; have BK869 := n2_; have BK870 := n3_; have HB := n4_; clear n0_ n1_ n2_ n3_ n4_; (try clear hb); (try clear hb2); (try clear hk); (try clear hi); (try clear ho0); obtain ⟨Ao16, co16, eo16⟩ := Kd.R_slice HO879.out; subst eo16) | ((with_reducible refine gate_callee (f := 12) rfl ?_); refine goesL_ (some 13) rfl rfl Tryz.func12 (by kernel_rfl) rfl #[.agg #[.int .i64 t871, .int .i64 t872, .int .i64 t873, .int .i64 t874, .int .i64 t875, .int .i64 t876, .slice Ao16 t877.length co16]] rfl (by (try simp only [List.map_toArray, List.map_cons, List.map_nil]); first | done | rfl | (simp only [List.length_drop, List.length_take]; rfl)) ?_; (with_reducible refine (metrolabref30_Few.calls t871 t872 t873 t874 t875 t876 _ _ t877 true _ ?side1 ?side2 A9.out).mono ?_); (case side1 => repeat (first | exact (Kd.R_reads' HO879.out).2.2 | (with_reducible refine Kd.C_alloc ?_ _) | (with_reducible refine Kd.C_drewN ?_ _) | (with_reducible refine Kd.C_drew ?_))); (case side2 => exact (Kd.R_reads' HO879.out).2.1); rintro e w17 ⟨rfl, hb⟩; refine ⟨_, rfl, ?_⟩; have n0_ := mk0 (Kd.R_below (rT HO879.out) hb); have n1_ := mk0 (bbT BK868.out hb); have n2_ := mk0 (bbT BK869.out hb); have n3_ := mk0 (bbT BK870.out hb); have n4_ := mk0 (below_step (wT HB.out) hb); clear HO879; clear BK868; clear BK869; clear BK870; clear HB; have HO879 := n0_; have BK868 := n1_; have BK869 := n2_; have BK870 := n3_; have HB := n4_; clear n0_ n1_ n2_ n3_ n4_; (try clear hb); (try clear hb2); (try clear hk); (try clear hi); have hnb18 := NB869_870.out; have hnc18 := NB870_869.out; have X19_0 := ct BK869.out 0; have X19_1 := ct BK869.out 1; have X19_2 := ct BK869.out 2; have Y19_0 := blk_frozen BK869.out 0; have Y19_1 := blk_frozen BK869.out 1; have Y19_2 := blk_frozen BK869.out 2; have X20_0 := ct BK870.out 0; have X20_1 := ct BK870.out 1; have X20_2 := ct BK870.out 2; have Y20_0 := blk_frozen BK870.out 0; have Y20_1 := blk_frozen BK870.out 1; have Y20_2 := blk_frozen BK870.out 2) | (go_at_call 27; (with_reducible refine (metrolabref30_Near.calls a1_0 a1_1 a1_2 a2_0 a2_1 a2_2 t881 _ A11.out).mono ?_); rintro e w21 ⟨rfl, hb⟩; have n0_ := mk0 (Kd.R_below (rT HO879.out) hb); have n1_ := mk0 (bbT BK868.out hb); have n2_ := mk0 (bbT BK869.out hb); have n3_ := mk0 (bbT BK870.out hb); have n4_ := mk0 (below_step (wT HB.out) hb); clear HO879; clear BK868; clear BK869; clear BK870; clear HB; have HO879 := n0_; have BK868 := n1_; have BK869 := n2_; have BK870 := n3_; have HB := n4_; clear n0_ n1_ n2_ n3_ n4_; (try clear hb); (try clear hb2); (try clear hk); (try clear hi)))
   go_meet
   case rel => exact ⟨_, (!t881), (by first | rfl | (simp; done) | (simp [*]; done) | exact congrArg (Value.int .i64) (by unfold wrap64; omega)), H', ⟨by first | omega | exact Nat.le_refl _⟩, ⟨bT BK868.out⟩, ⟨bT BK869.out⟩, ⟨bT BK870.out⟩, ⟨wT HB.out⟩⟩
  ·replace c10 := Bool.eq_false_iff.mpr c10
   subst c10
   have H1 : (metrolablaw30_ProbeWays.j0 k true a0_0 a0_1 a0_2 a0_3 a0_4 a0_5 l0_6 a1_0 a1_1 a1_2 a2_0 a2_1 a2_2) = some r := by rw [if_neg (show ¬ (false = true) by decide)] at H; exact H
   clear H
   have H := H1
   clear H1
   have H' := mk0 H
   clear H
   have hnb22 := NB868_869.out
   have hnc22 := NB869_868.out
   have hnb23 := NB868_870.out
   have hnc23 := NB870_868.out
   have X24_0 := ct BK868.out 0
   have X24_1 := ct BK868.out 1
   have X24_2 := ct BK868.out 2
   have X24_3 := ct BK868.out 3
   have X24_4 := ct BK868.out 4
   have X24_5 := ct BK868.out 5
   have X24_6 := ct BK868.out 6
   have Y24_0 := blk_frozen BK868.out 0
   have Y24_1 := blk_frozen BK868.out 1
   have Y24_2 := blk_frozen BK868.out 2
   have Y24_3 := blk_frozen BK868.out 3
   have Y24_4 := blk_frozen BK868.out 4
   have Y24_5 := blk_frozen BK868.out 5
   have Y24_6 := blk_frozen BK868.out 6
   go_wp2_with (first | ((with_reducible refine gate_callee (f := 13) rfl ?_); refine goesL_ (some 12) rfl rfl Tryz.func13 (by kernel_rfl) rfl #[.agg #[.int .i64 a0_0, .int .i64 a0_1, .int .i64 a0_2, .int .i64 a0_3, .int .i64 a0_4, .int .i64 a0_5, .slice A0_6 l0_6.length c0_6]] rfl (by (try simp only [List.map_toArray, List.map_cons, List.map_nil]); first | done | rfl | (simp only [List.length_drop, List.length_take]; rfl)) ?_; (with_reducible refine (metrolablaw30_own.calls k a0_0 a0_1 a0_2 a0_3 a0_4 a0_5 _ _ l0_6 t871 t872 t873 t874 t875 t876 t877 _ ?side1 ?side2 A8.out).mono ?_); (case side1 => repeat (first | exact (Kd.C_below HR0_6.out HB.out) | (with_reducible refine Kd.C_alloc ?_ _) | (with_reducible refine Kd.C_drewN ?_ _) | (with_reducible refine Kd.C_drew ?_))); (case side2 => exact HC0_6.out); rintro e w25 ⟨v878, rfl, ho0, hb⟩; refine ⟨_, rfl, ?_⟩; have n0_ := mk0 (Kd.R_lower ho0 (below_size (wT HB.out))); have n1_ := mk0 (bbT BK868.out hb); have n2_ := mk0 (bbT BK869.out hb); have n3_ := mk0 (bbT BK870.out hb); have n4_ := mk0 (below_step (wT HB.out) hb); clear BK868; clear BK869; clear BK870; clear HB; have HO879 := n0_; have BK868 := n1_; have BK869 := n2_; have BK870 := n3_; have HB := n4_; clear n0_ n1_ n2_ n3_ n4_; (try clear hb); (try clear hb2); (try clear hk); (try clear hi); (try clear ho0); obtain ⟨Ao26, co26, eo26⟩ := Kd.R_slice HO879.out; subst eo26) | ((with_reducible refine gate_callee (f := 12) rfl ?_); refine goesL_ (some 13) rfl rfl Tryz.func12 (by kernel_rfl) rfl #[.agg #[.int .i64 t871, .int .i64 t872, .int .i64 t873, .int .i64 t874, .int .i64 t875, .int .i64 t876, .slice Ao26 t877.length co26]] rfl (by (try simp only [List.map_toArray, List.map_cons, List.map_nil]); first | done | rfl | (simp only [List.length_drop, List.length_take]; rfl)) ?_; (with_reducible refine (metrolabref30_Few.calls t871 t872 t873 t874 t875 t876 _ _ t877 false _ ?side1 ?side2 A9.out).mono ?_); (case side1 => repeat (first | exact (Kd.R_reads' HO879.out).2.2 | (with_reducible refine Kd.C_alloc ?_ _) | (with_reducible refine Kd.C_drewN ?_ _) | (with_reducible refine Kd.C_drew ?_))); (case side2 => exact (Kd.R_reads' HO879.out).2.1); rintro e w27 ⟨rfl, hb⟩; refine ⟨_, rfl, ?_⟩; have n0_ := mk0 (Kd.R_below (rT HO879.out) hb); have n1_ := mk0 (bbT BK868.out hb); have n2_ := mk0 (bbT BK869.out hb); have n3_ := mk0 (bbT BK870.out hb); have n4_ := mk0 (below_step (wT HB.out) hb); clear HO879; clear BK868; clear BK869; clear BK870; clear HB; have HO879 := n0_; have BK868 := n1_; have BK869 := n2_; have BK870 := n3_; have HB := n4_; clear n0_ n1_ n2_ n3_ n4_; (try clear hb); (try clear hb2); (try clear hk); (try clear hi)))
   go_meet
   case rel => exact ⟨_, (true), (by first | rfl | (simp; done) | (simp [*]; done) | exact congrArg (Value.int .i64) (by unfold wrap64; omega)), H', ⟨by first | omega | exact Nat.le_refl _⟩, ⟨bT BK868.out⟩, ⟨bT BK869.out⟩, ⟨bT BK870.out⟩, ⟨wT HB.out⟩⟩
 case rest =>
  clear HC4
  try clear c1
  try clear c2
  try clear p2
  try clear p6
  try clear c9
  try clear c10
  try clear c12
  try clear c13
  try clear c18
  try clear c22
  try clear c23
  try clear X14_0
  try clear X14_1
  try clear X14_2
  try clear X14_3
  try clear X14_4
  try clear X14_5
  try clear X14_6
  try clear X19_0
  try clear X19_1
  try clear X19_2
  try clear X20_0
  try clear X20_1
  try clear X20_2
  try clear X24_0
  try clear X24_1
  try clear X24_2
  try clear X24_3
  try clear X24_4
  try clear X24_5
  try clear X24_6
  try clear Y14_0
  try clear Y14_1
  try clear Y14_2
  try clear Y14_3
  try clear Y14_4
  try clear Y14_5
  try clear Y14_6
  try clear Y19_0
  try clear Y19_1
  try clear Y19_2
  try clear Y20_0
  try clear Y20_1
  try clear Y20_2
  try clear Y24_0
  try clear Y24_1
  try clear Y24_2
  try clear Y24_3
  try clear Y24_4
  try clear Y24_5
  try clear Y24_6
  obtain ⟨kq, x20_3, rfl, HA, HJ3, BK868, BK869, BK870, HB⟩ := hcut
  cases kq with
  | zero => exact absurd HA.out (by simp [metrolablaw30_ProbeWays.j0])
  | succ kj3 =>
   have H := HA.out
   clear HA
   simp only [metrolablaw30_ProbeWays.j0] at H
   by_cases c28 : x20_3 = true
   ·subst c28
    have H1 : ((metrolablaw30_awake.f kj3).bind fun t882 => (some t882)) = some r := by rw [if_pos rfl] at H; exact H
    clear H
    have H := H1
    clear H1
    replace H := Option.bind_eq_some_iff.mp H
    obtain ⟨t882, A290, H⟩ := H
    replace H : (some t882) = some r := H
    have A29 := mk0 A290
    clear A290
    obtain rfl := Option.some.inj H
    go_wp2_with (first | ((with_reducible refine gate_callee (f := 14) rfl ?_); refine goesL_ (some 21) rfl rfl Tryz.func14 (by kernel_rfl) rfl #[] rfl (by (try simp only [List.map_toArray, List.map_cons, List.map_nil]); first | done | rfl | (simp only [List.length_drop, List.length_take]; rfl)) ?_; (with_reducible refine (metrolablaw30_awake.calls kj3  t882 _ ?side1 A29.out).mono ?_); (case side1 => exact GW_below HG.out (wT HB.out)); rintro e w30 ⟨rfl, hb⟩; refine ⟨_, rfl, ?_⟩; have n0_ := mk0 (below_step (wT HB.out) hb); clear HB; have HB := n0_; clear n0_; (try clear hb); (try clear hb2); (try clear hk); (try clear hi)))
    go_ret
    exact ⟨eqT, wT HB.out⟩
   ·replace c28 := Bool.eq_false_iff.mpr c28
    subst c28
    have H1 : ((probe_Free.f kj3 a0_0 a0_1 a0_2 a0_3 a0_4 a0_5 l0_6 a1_0 a1_1 a1_2 a2_0 a2_1 a2_2).bind fun bt883 => ((metrolablaw30_own.f kj3 a0_0 a0_1 a0_2 a0_3 a0_4 a0_5 l0_6).bind fun bt885 => ((metrolabref30_Free.f kj3 bt885.1 bt885.2.1 bt885.2.2.1 bt885.2.2.2.1 bt885.2.2.2.2.1 bt885.2.2.2.2.2.1 bt885.2.2.2.2.2.2 a1_0 a1_1 a1_2 a2_0 a2_1 a2_2).bind fun bt894 => (if (bt883.1 == bt894.1) = true then (if bt883.2 = bt894.2 then ((metrolablaw30_awake.f kj3).bind fun t896 => (some t896)) else (none)) else (none))))) = some r := by rw [if_neg (show ¬ (false = true) by decide)] at H; exact H
    clear H
    have H := H1
    clear H1
    replace H := Option.bind_eq_some_iff.mp H
    obtain ⟨⟨t883, t884⟩, A310, H⟩ := H
    replace H : ((metrolablaw30_own.f kj3 a0_0 a0_1 a0_2 a0_3 a0_4 a0_5 l0_6).bind fun bt885 => ((metrolabref30_Free.f kj3 bt885.1 bt885.2.1 bt885.2.2.1 bt885.2.2.2.1 bt885.2.2.2.2.1 bt885.2.2.2.2.2.1 bt885.2.2.2.2.2.2 a1_0 a1_1 a1_2 a2_0 a2_1 a2_2).bind fun bt894 => (if (t883 == bt894.1) = true then (if t884 = bt894.2 then ((metrolablaw30_awake.f kj3).bind fun t896 => (some t896)) else (none)) else (none)))) = some r := H
    have A31 := mk0 A310
    clear A310
    replace H := Option.bind_eq_some_iff.mp H
    obtain ⟨⟨t885, t886, t887, t888, t889, t890, t891⟩, A320, H⟩ := H
    replace H : ((metrolabref30_Free.f kj3 t885 t886 t887 t888 t889 t890 t891 a1_0 a1_1 a1_2 a2_0 a2_1 a2_2).bind fun bt894 => (if (t883 == bt894.1) = true then (if t884 = bt894.2 then ((metrolablaw30_awake.f kj3).bind fun t896 => (some t896)) else (none)) else (none))) = some r := H
    have A32 := mk0 A320
    clear A320
    replace H := Option.bind_eq_some_iff.mp H
    obtain ⟨⟨t894, t895⟩, A330, H⟩ := H
    replace H : (if (t883 == t894) = true then (if t884 = t895 then ((metrolablaw30_awake.f kj3).bind fun t896 => (some t896)) else (none)) else (none)) = some r := H
    have A33 := mk0 A330
    clear A330
    by_cases c34 : (t883 == t894) = true
    ·rw [if_pos c34] at H
     have c34b0 : (t883 == t894) = true := c34
     (try (have c34b1 : decide (t883 = t894) = true := by simpa using c34))
     (try (have c34b2 : (t883 == t894) = true := by simpa using c34))
     clear c34
     by_cases c35 : t884 = t895
     ·rw [if_pos c35] at H
      have c35b0 : (t884 == t895) = true := beq_iff_eq.mpr c35
      have c35b1 : (t884 != t895) = false := bne_eq_false_iff_eq.mpr c35
      clear c35
      replace H := Option.bind_eq_some_iff.mp H
      obtain ⟨t896, A360, H⟩ := H
      replace H : (some t896) = some r := H
      have A36 := mk0 A360
      clear A360
      obtain rfl := Option.some.inj H
      have hnb37 := NB868_869.out
      have hnc37 := NB869_868.out
      have hnb38 := NB868_870.out
      have hnc38 := NB870_868.out
      have X39_0 := ct BK868.out 0
      have X39_1 := ct BK868.out 1
      have X39_2 := ct BK868.out 2
      have X39_3 := ct BK868.out 3
      have X39_4 := ct BK868.out 4
      have X39_5 := ct BK868.out 5
      have X39_6 := ct BK868.out 6
      have Y39_0 := blk_frozen BK868.out 0
      have Y39_1 := blk_frozen BK868.out 1
      have Y39_2 := blk_frozen BK868.out 2
      have Y39_3 := blk_frozen BK868.out 3
      have Y39_4 := blk_frozen BK868.out 4
      have Y39_5 := blk_frozen BK868.out 5
      have Y39_6 := blk_frozen BK868.out 6
      have hnb40 := NB869_870.out
      have hnc40 := NB870_869.out
      have X41_0 := ct BK869.out 0
      have X41_1 := ct BK869.out 1
      have X41_2 := ct BK869.out 2
      have Y41_0 := blk_frozen BK869.out 0
      have Y41_1 := blk_frozen BK869.out 1
      have Y41_2 := blk_frozen BK869.out 2
      have X42_0 := ct BK870.out 0
      have X42_1 := ct BK870.out 1
      have X42_2 := ct BK870.out 2
      have Y42_0 := blk_frozen BK870.out 0
      have Y42_1 := blk_frozen BK870.out 1
      have Y42_2 := blk_frozen BK870.out 2
      try go_wp2_with (first | ((with_reducible refine gate_callee (f := 34) rfl ?_); refine goesL_ (some 26) rfl rfl Tryz.func34 (by kernel_rfl) rfl #[.agg #[.int .i64 a0_0, .int .i64 a0_1, .int .i64 a0_2, .int .i64 a0_3, .int .i64 a0_4, .int .i64 a0_5, .slice A0_6 l0_6.length c0_6], .agg #[.int .i64 a1_0, .int .i64 a1_1, .int .i64 a1_2], .agg #[.int .i64 a2_0, .int .i64 a2_1, .int .i64 a2_2]] rfl (by (try simp only [List.map_toArray, List.map_cons, List.map_nil]); first | done | rfl | (simp only [List.length_drop, List.length_take]; rfl)) ?_; (with_reducible refine (probe_Free.calls kj3 a0_0 a0_1 a0_2 a0_3 a0_4 a0_5 _ _ l0_6 a1_0 a1_1 a1_2 a2_0 a2_1 a2_2 t883 t884 _ ?side1 ?side2 A31.out).mono ?_); (case side1 => repeat (first | exact (Kd.C_below HR0_6.out HB.out) | (with_reducible refine Kd.C_alloc ?_ _) | (with_reducible refine Kd.C_drewN ?_ _) | (with_reducible refine Kd.C_drew ?_))); (case side2 => exact HC0_6.out); rintro e w43 ⟨rfl, hb⟩; refine ⟨_, rfl, ?_⟩; have n0_ := mk0 (bbT BK868.out hb); have n1_ := mk0 (bbT BK869.out hb); have n2_ := mk0 (bbT BK870.out hb); have n3_ := mk0 (below_step (wT HB.out) hb); clear BK868; clear BK869; clear BK870; clear HB; have BK868 := n0_; have BK869 := n1_; have BK870 := n2_; have HB := n3_; clear n0_ n1_ n2_ n3_; (try clear hb); (try clear hb2); (try clear hk); (try clear hi)))
      have n0_ := mk0 (blk_drew BK868.out)
      have n1_ := mk0 (blk_drew BK869.out)
      have n2_ := mk0 (blk_drew BK870.out)
      have n3_ := mk0 (below_drew1 HB.out)
      clear BK868
      clear BK869
      clear BK870
      clear HB
      have BK868 := n0_
      have BK869 := n1_
      have BK870 := n2_
      have HB := n3_
      clear n0_ n1_ n2_ n3_
      refine start_ (n := 10) (S := fun w' => w'.cell? ⟨gb868, 0, none⟩ = some (.int .i64 a0_0) ∧ w'.cell? ⟨gb868, 1, none⟩ = some (.int .i64 a0_1) ∧ w'.cell? ⟨gb868, 2, none⟩ = some (.int .i64 a0_2) ∧ w'.cell? ⟨gb868, 3, none⟩ = some (.int .i64 a0_3) ∧ w'.cell? ⟨gb868, 4, none⟩ = some (.int .i64 a0_4) ∧ w'.cell? ⟨gb868, 5, none⟩ = some (.int .i64 a0_5) ∧ w'.cell? ⟨gb868, 6, none⟩ = some (.slice A0_6 l0_6.length c0_6) ∧ w'.cell? ⟨gb869, 0, none⟩ = some (.int .i64 a1_0) ∧ w'.cell? ⟨gb869, 1, none⟩ = some (.int .i64 a1_1) ∧ w'.cell? ⟨gb869, 2, none⟩ = some (.int .i64 a1_2) ∧ w'.cell? ⟨gb870, 0, none⟩ = some (.int .i64 a2_0) ∧ w'.cell? ⟨gb870, 1, none⟩ = some (.int .i64 a2_1) ∧ w'.cell? ⟨gb870, 2, none⟩ = some (.int .i64 a2_2)) (ds := []) #[false, false, false, false, false, false, false, false, false, false] (by kernel_rfl) rfl rfl ⟨ct BK868.out 0, ct BK868.out 1, ct BK868.out 2, ct BK868.out 3, ct BK868.out 4, ct BK868.out 5, ct BK868.out 6, ct BK869.out 0, ct BK869.out 1, ct BK869.out 2, ct BK870.out 0, ct BK870.out 1, ct BK870.out 2⟩ (fun hHeld => ?_); refine with_tabW metrolablaw30_ProbeWays.tab4 metrolablaw30_ProbeWays.bits4 (fun HT_ HW_ => ?_)
      generalize w43.drew = w44 at BK868 BK869 BK870 HB hHeld ⊢
      refine take_ (i := 0) (N := some 30) (v := ?_) (a' := ?_) #[true, false, false, false, false, false, false, false, false, false] rfl rfl (take_ofW HT_.out HW_.out (by kernel_rfl)) (fun _ _ _ h => h) (Or.inl ⟨by rfl, ?_⟩) hHeld ?_ ?_
      rotate_left
      ·rintro w' ⟨s0, s1, s2, s3, s4, s5, s6, s7, s8, s9, s10, s11, s12⟩
       go_simp
       with_reducible rfl
      rotate_left
      ·exact nrm
      refine take_ (i := 2) (N := some 32) (v := ?_) (a' := ?_) #[true, false, true, false, false, false, false, false, false, false] rfl rfl (take_ofW HT_.out HW_.out (by kernel_rfl)) (fun _ _ _ h => h) (Or.inl ⟨by rfl, ?_⟩) hHeld ?_ ?_
      rotate_left
      ·rintro w' ⟨s0, s1, s2, s3, s4, s5, s6, s7, s8, s9, s10, s11, s12⟩
       go_simp
       with_reducible rfl
      rotate_left
      ·exact nrm
      refine take_ (i := 3) (N := some 33) (v := ?_) (a' := ?_) #[true, false, true, true, false, false, false, false, false, false] rfl rfl (take_ofW HT_.out HW_.out (by kernel_rfl)) (fun _ _ _ h => h) (Or.inl ⟨by rfl, ?_⟩) hHeld ?_ ?_
      rotate_left
      ·rintro w' ⟨s0, s1, s2, s3, s4, s5, s6, s7, s8, s9, s10, s11, s12⟩
       go_simp
       with_reducible rfl
      rotate_left
      ·exact nrm
      refine one_ (i := 1) (N := some 31) #[true, true, true, true, false, false, false, false, false, false] rfl rfl (one_of HT_.out (by kernel_rfl)) (by decide) (fun K hK => ?_)
      refine goes_ Tryz.func13 (by kernel_rfl) rfl #[.agg #[.int .i64 a0_0, .int .i64 a0_1, .int .i64 a0_2, .int .i64 a0_3, .int .i64 a0_4, .int .i64 a0_5, .slice A0_6 l0_6.length c0_6]] (by rfl) rfl rfl (by (try simp only [List.map_toArray, List.map_cons, List.map_nil]); first | done | rfl | (simp only [List.length_drop, List.length_take]; rfl)) ?_
      with_reducible refine (metrolablaw30_own.calls kj3 a0_0 a0_1 a0_2 a0_3 a0_4 a0_5 _ _ l0_6 t885 t886 t887 t888 t889 t890 t891 _ ?side1 ?side2 A32.out).mono ?_
      (case side1 => repeat (first | exact (Kd.C_below HR0_6.out HB.out) | (with_reducible refine Kd.C_alloc ?_ _) | (with_reducible refine Kd.C_drewN ?_ _) | (with_reducible refine Kd.C_drew ?_)))
      (case side2 => exact HC0_6.out)
      rintro e w45 ⟨v892, rfl, ho0, hb⟩
      refine ⟨_, rfl, ?_⟩
      have n0_ := mk0 (Kd.R_lower ho0 (below_size (wT HB.out)))
      have n1_ := mk0 (bbT BK868.out hb)
      have n2_ := mk0 (bbT BK869.out hb)
      have n3_ := mk0 (bbT BK870.out hb)
      have n4_ := mk0 (below_step (wT HB.out) hb)
      clear BK868
      clear BK869
      clear BK870
      clear HB
      have HO893 := n0_
      have BK868 := n1_
      have BK869 := n2_
      have BK870 := n3_
      have HB := n4_
      clear n0_ n1_ n2_ n3_ n4_
      (try clear hb)
      (try clear hb2)
      (try clear hk)
      (try clear hi)
      (try clear ho0)
      obtain ⟨Ao46, co46, eo46⟩ := Kd.R_slice HO893.out
      (first | subst eo46 | (injection eo46 with f1_ f2_ f3_; have f4_ := f1_.symm; have f5_ := f3_.symm; clear f1_ f2_ f3_; subst f4_; subst f5_))
      refine hK.out _ _ ⟨ct BK868.out 0, ct BK868.out 1, ct BK868.out 2, ct BK868.out 3, ct BK868.out 4, ct BK868.out 5, ct BK868.out 6, ct BK869.out 0, ct BK869.out 1, ct BK869.out 2, ct BK870.out 0, ct BK870.out 1, ct BK870.out 2⟩ (fun hHeld => ?_)
      clear hK K
      refine norm_ (a' := ?_) ?_ ?_
      rotate_left
      ·show Act.put _ (some 31) _ = _
       simp only [Act.put, List.setIfInBounds_toArray, List.set_cons_zero, List.set_cons_succ, i64_w, i32_w]
       rfl
      refine one_ (i := 4) (N := some 34) #[true, true, true, true, true, false, false, false, false, false] rfl rfl (one_of HT_.out (by kernel_rfl)) (by decide) (fun K hK => ?_)
      refine goes_ Tryz.func35 (by kernel_rfl) rfl #[.agg #[.int .i64 t885, .int .i64 t886, .int .i64 t887, .int .i64 t888, .int .i64 t889, .int .i64 t890, .slice Ao46 t891.length co46], .agg #[.int .i64 a1_0, .int .i64 a1_1, .int .i64 a1_2], .agg #[.int .i64 a2_0, .int .i64 a2_1, .int .i64 a2_2]] (by rfl) rfl rfl (by (try simp only [List.map_toArray, List.map_cons, List.map_nil]); first | done | rfl | (simp only [List.length_drop, List.length_take]; rfl)) ?_
      with_reducible refine (metrolabref30_Free.calls kj3 t885 t886 t887 t888 t889 t890 _ _ t891 a1_0 a1_1 a1_2 a2_0 a2_1 a2_2 t894 t895 _ ?side1 ?side2 A33.out).mono ?_
      (case side1 => repeat (first | exact (Kd.R_reads' HO893.out).2.2 | (with_reducible refine Kd.C_alloc ?_ _) | (with_reducible refine Kd.C_drewN ?_ _) | (with_reducible refine Kd.C_drew ?_)))
      (case side2 => exact (Kd.R_reads' HO893.out).2.1)
      rintro e w47 ⟨rfl, hb⟩
      refine ⟨_, rfl, ?_⟩
      have n0_ := mk0 (Kd.R_below (rT HO893.out) hb)
      have n1_ := mk0 (bbT BK868.out hb)
      have n2_ := mk0 (bbT BK869.out hb)
      have n3_ := mk0 (bbT BK870.out hb)
      have n4_ := mk0 (below_step (wT HB.out) hb)
      clear HO893
      clear BK868
      clear BK869
      clear BK870
      clear HB
      have HO893 := n0_
      have BK868 := n1_
      have BK869 := n2_
      have BK870 := n3_
      have HB := n4_
      clear n0_ n1_ n2_ n3_ n4_
      (try clear hb)
      (try clear hb2)
      (try clear hk)
      (try clear hi)
      refine hK.out _ _ ⟨ct BK868.out 0, ct BK868.out 1, ct BK868.out 2, ct BK868.out 3, ct BK868.out 4, ct BK868.out 5, ct BK868.out 6, ct BK869.out 0, ct BK869.out 1, ct BK869.out 2, ct BK870.out 0, ct BK870.out 1, ct BK870.out 2⟩ (fun hHeld => ?_)
      clear hK K
      refine norm_ (a' := ?_) ?_ ?_
      rotate_left
      ·show Act.put _ (some 34) _ = _
       simp only [Act.put, List.setIfInBounds_toArray, List.set_cons_zero, List.set_cons_succ, i64_w, i32_w]
       rfl
      refine pure_ (i := 5) (N := some 29) (v := ?_) (a' := ?_) #[true, true, true, true, true, true, false, false, false, false] rfl rfl (any_of HT_.out (by kernel_rfl)) (fun _ _ _ h => h) (Or.inl ⟨by rfl, ?_⟩) ?_ ?_
      rotate_left
      ·intro w'
       go_simp
       with_reducible rfl
      rotate_left
      ·exact nrm
      refine pure_ (i := 6) (N := some 35) (v := ?_) (a' := ?_) #[true, true, true, true, true, true, true, false, false, false] rfl rfl (any_of HT_.out (by kernel_rfl)) (fun _ _ _ h => h) (Or.inl ⟨by rfl, ?_⟩) ?_ ?_
      rotate_left
      ·intro w'
       go_simp
       with_reducible rfl
      rotate_left
      ·exact nrm
      refine pure_ (i := 7) (N := some 36) (v := ?_) (a' := ?_) #[true, true, true, true, true, true, true, true, false, false] rfl rfl (any_of HT_.out (by kernel_rfl)) (fun _ _ _ h => h) (Or.inl ⟨by rfl, ?_⟩) ?_ ?_
      rotate_left
      ·intro w'
       go_simp
       with_reducible rfl
      rotate_left
      ·exact nrm
      refine pure_ (i := 8) (N := some 9) (v := ?_) (a' := ?_) #[true, true, true, true, true, true, true, true, true, false] rfl rfl (any_of HT_.out (by kernel_rfl)) (fun _ _ _ h => h) (Or.inl ⟨by rfl, ?_⟩) ?_ ?_
      rotate_left
      ·intro w'
       go_simp
       with_reducible rfl
      rotate_left
      ·exact nrm
      refine pure_ (i := 9) (N := some 10) (v := ?_) (a' := ?_) #[true, true, true, true, true, true, true, true, true, true] rfl rfl (any_of HT_.out (by kernel_rfl)) (fun _ _ _ h => h) (Or.inl ⟨by rfl, ?_⟩) ?_ ?_
      rotate_left
      ·intro w'
       go_simp
       with_reducible rfl
      rotate_left
      ·exact nrm
      refine done_ (done_of HT_.out (by kernel_rfl)) ?_
      try go_wp2_with (first | (go_at_call 14; (with_reducible refine (metrolablaw30_awake.calls kj3  t896 _ ?side1 A36.out).mono ?_); (case side1 => exact GW_below HG.out (wT HB.out)); rintro e w48 ⟨rfl, hb⟩; have n0_ := mk0 (Kd.R_below (rT HO893.out) hb); have n1_ := mk0 (below_step (wT HB.out) hb); clear HO893; clear HB; have HO893 := n0_; have HB := n1_; clear n0_ n1_; (try clear hb); (try clear hb2); (try clear hk); (try clear hi)))
      go_ret
      exact ⟨eqT, wT HB.out⟩
     ·rw [if_neg c35] at H
      exact absurd H (by simp)
    ·rw [if_neg c34] at H
     exact absurd H (by simp)
end Go.Proofs.YtolbjmaabghghaaGreatDoor.PA
