/- A part of the proof. -/
import Derived.Test.YtolbjmaabghghaaGreatDoorJ7PAx0
import Derived.Test.YtolbjmaabghghaaGreatDoorJ7PAx3
import Derived.Test.YtolbjmaabghghaaGreatDoorJ7PAx5
import Derived.Test.YtolbjmaabghghaaGreatDoorJ7PAx6
import Derived.Test.YtolbjmaabghghaaGreatDoorJ7EWay3
namespace Go.Proofs.YtolbjmaabghghaaGreatDoor.PA
open Go.RowKit Go.PW Go.PL Go.PM
attribute [local go_sem] max2_int min2_int max_two min_two max_three min_three max_four min_four   -- for this text's walks alone
set_option linter.unusedVariables false
set_option maxHeartbeats 8000000
set_option maxRecDepth 100000
set_option linter.unusedSimpArgs false
def probe_Touch.j0 : Nat → Int → Bool → Int → Int → Int → Int → Int → Int → List (S84) → Int → Int → Int → Option (Int × Int × Int × Int × Int × Int × Int)
 | 0, _, _, _, _, _, _, _, _, _, _, _, _ => none
 | k + 1, x2, x22, x185000, x185001, x185002, x185003, x185004, x185005, x185006, x186000, x186001, x186002 => if x22 = true then (some (0, 0, 0, 0, 0, 0, 1)) else ((probe_Solid_full.f k x185000 x185001 x185002 x185003 x185004 x185005 x185006 x186000 x186001 x186002).bind fun t192 => (if t192 = true then (some (0, 0, 0, 0, 0, 0, 14)) else ((probe_Solid_touched.f x185000 x185001 x185002 x185003 x185004 x185005 x185006 x186000 x186001 x186002 x2).bind fun bt193 => (if bt193.2.2.2.2.2.2 = true then (some (bt193.1, bt193.2.1, bt193.2.2.1, bt193.2.2.2.1, bt193.2.2.2.2.1, bt193.2.2.2.2.2.1, 0)) else (some (0, 0, 0, 0, 0, 0, 6))))))
def probe_Touch.f (k : Nat) (a0_0 : Int) (a0_1 : Int) (a0_2 : Int) (a0_3 : Int) (a0_4 : Int) (a0_5 : Int) (l0_6 : List (S84)) (a1_0 : Int) (a1_1 : Int) (a1_2 : Int) (a2 : Int) : Option (Int × Int × Int × Int × Int × Int × Int) := (probe_given.f k a0_0 a0_1 a0_2 a0_3 a0_4 a0_5 l0_6 (([(⟨a1_0, a1_1, a1_2⟩ : S23)] : List (S23)))).bind fun t191 => (if t191 = 0 then (if a2 < 0 then (probe_Touch.j0 k a2 true a0_0 a0_1 a0_2 a0_3 a0_4 a0_5 l0_6 a1_0 a1_1 a1_2) else (probe_Touch.j0 k a2 (decide (a2 > 5)) a0_0 a0_1 a0_2 a0_3 a0_4 a0_5 l0_6 a1_0 a1_1 a1_2)) else (some (0, 0, 0, 0, 0, 0, t191)))
theorem probe_Touch.calls (k : Nat) (a0_0 : Int) (a0_1 : Int) (a0_2 : Int) (a0_3 : Int) (a0_4 : Int) (a0_5 : Int) (A0_6 : Option Addr) (c0_6 : Nat) (l0_6 : List (S84)) (a1_0 : Int) (a1_1 : Int) (a1_2 : Int) (a2 : Int) (r1 : Int) (r2 : Int) (r3 : Int) (r4 : Int) (r5 : Int) (r6 : Int) (r7 : Int) (w : World) (hr0_6 : Kd.C k84 w A0_6 l0_6.length l0_6) (hc0_6 : l0_6.length ≤ c0_6) (h : probe_Touch.f k a0_0 a0_1 a0_2 a0_3 a0_4 a0_5 l0_6 a1_0 a1_1 a1_2 a2 = some (r1, r2, r3, r4, r5, r6, r7)) :
  Calls Tryz.prog 19 #[.agg #[.int .i64 a0_0, .int .i64 a0_1, .int .i64 a0_2, .int .i64 a0_3, .int .i64 a0_4, .int .i64 a0_5, .slice A0_6 l0_6.length c0_6], .agg #[.int .i64 a1_0, .int .i64 a1_1, .int .i64 a1_2], .int .i64 a2] w fun e w' => e = .returned (.tuple #[.agg #[.int .i64 r1, .int .i64 r2, .int .i64 r3], .agg #[.int .i64 r4, .int .i64 r5, .int .i64 r6], .int .i64 r7]) ∧ Below w.heap.size w w' := by
 have hu26 := Tryz.underlying26
 have hu23 := Tryz.underlying23
 have HR0_6 := mk0 hr0_6
 have HC0_6 := mk0 hc0_6
 clear hr0_6 hc0_6
 have HB := mk0 (Below.refl w.heap.size w)
 have H : ((probe_given.f k a0_0 a0_1 a0_2 a0_3 a0_4 a0_5 l0_6 (([(⟨a1_0, a1_1, a1_2⟩ : S23)] : List (S23)))).bind fun t191 => (if t191 = 0 then (if a2 < 0 then (probe_Touch.j0 k a2 true a0_0 a0_1 a0_2 a0_3 a0_4 a0_5 l0_6 a1_0 a1_1 a1_2) else (probe_Touch.j0 k a2 (decide (a2 > 5)) a0_0 a0_1 a0_2 a0_3 a0_4 a0_5 l0_6 a1_0 a1_1 a1_2)) else (some (0, 0, 0, 0, 0, 0, t191)))) = some (r1, r2, r3, r4, r5, r6, r7) := h
 clear h
 obtain ⟨y188, hy188⟩ : ∃ y_ : List (S23), y_ = (([(⟨a1_0, a1_1, a1_2⟩ : S23)] : List (S23))) := ⟨_, rfl⟩
 replace H : ((probe_given.f k a0_0 a0_1 a0_2 a0_3 a0_4 a0_5 l0_6 y188).bind fun t191 => (if t191 = 0 then (if a2 < 0 then (probe_Touch.j0 k a2 true a0_0 a0_1 a0_2 a0_3 a0_4 a0_5 l0_6 a1_0 a1_1 a1_2) else (probe_Touch.j0 k a2 (decide (a2 > 5)) a0_0 a0_1 a0_2 a0_3 a0_4 a0_5 l0_6 a1_0 a1_1 a1_2)) else (some (0, 0, 0, 0, 0, 0, t191)))) = some (r1, r2, r3, r4, r5, r6, r7) := by first | (rw [hy188]; with_reducible exact H) | (have H2_ := (Option.bind_some _ _).symm.trans H; rw [hy188]; with_reducible exact H2_) | (have H2_ := (Option.bind_some _ _).symm.trans H; with_reducible exact H2_) | with_reducible exact H | (rw [hy188]; exact H) | exact H
 have Ny188 := mk0 hy188
 clear hy188
 replace H := Option.bind_eq_some_iff.mp H
 obtain ⟨t191, A40, H⟩ := H
 (try dsimp only at H)
 have A4 := mk0 A40
 clear A40
 by_cases c5 : t191 = 0
 ·rw [if_pos c5] at H
  have c5b0 : (t191 == 0) = true := beq_iff_eq.mpr c5
  have c5b1 : (t191 != 0) = false := bne_eq_false_iff_eq.mpr c5
  clear c5
  have HC6 := mk0 H
  clear H
  go_enter Tryz.func19, Tryz.ntmps19
  go_upto_region 4 with (first | ((with_reducible refine gate_dst (N := 3) rfl ?_); refine box_event ?hg (N := 3) ?hd (cs := #[.int .i64 a0_0, .int .i64 a0_1, .int .i64 a0_2, .int .i64 a0_3, .int .i64 a0_4, .int .i64 a0_5, .slice A0_6 l0_6.length c0_6]) (t := 26) ?hr ?_; (case hd => rfl); (case hg => rfl); (case hr => first | (go_simp; done) | (go_simp; rfl)); intro gb184 hg w7 hbox hb; have n0_ := mk0 (below_step (wT HB.out) hb); have n1_ := mk0 (hbox); have n2_ := mk0 ((szT HB.out hg)); have n3_ := mk0 ((szT HB.out hg)); clear HB; have HB := n0_; have BK184 := n1_; have GW184 := n2_; have GE184 := n3_; clear n0_ n1_ n2_ n3_; clear hb hbox hg) | ((with_reducible refine gate_dst (N := 4) rfl ?_); refine box_event ?hg (N := 4) ?hd (cs := #[.int .i64 a1_0, .int .i64 a1_1, .int .i64 a1_2]) (t := 23) ?hr ?_; (case hd => rfl); (case hg => rfl); (case hr => first | (go_simp; done) | (go_simp; rfl)); intro gb185 hg w8 hbox hb; have n0_ := mk0 (bbT BK184.out hb); have n1_ := mk0 (below_step (wT HB.out) hb); have n2_ := mk0 (hbox); have n3_ := mk0 ((szT HB.out hg)); have n4_ := mk0 ((szT HB.out hg)); have n5_ := mk0 ((neL BK184.out hg)); have n6_ := mk0 ((neG BK184.out hg)); clear BK184; clear HB; have BK184 := n0_; have HB := n1_; have BK185 := n2_; have GW185 := n3_; have GE185 := n4_; have NB184_185 := n5_; have NB185_184 := n6_; clear n0_ n1_ n2_ n3_ n4_ n5_ n6_; clear hb hbox hg) | ((with_reducible refine gate_dst (N := 6) rfl ?_); refine box_event ?hg (N := 6) ?hd (cs := #[.int .i64 0, .int .i64 0, .int .i64 0]) (t := 23) ?hr ?_; (case hd => rfl); (case hg => rfl); (case hr => first | (go_simp; done) | (go_simp; rfl)); intro gb186 hg w9 hbox hb; have n0_ := mk0 (bbT BK184.out hb); have n1_ := mk0 (bbT BK185.out hb); have n2_ := mk0 (below_step (wT HB.out) hb); have n3_ := mk0 (hbox); have n4_ := mk0 ((szT HB.out hg)); have n5_ := mk0 ((szT HB.out hg)); have n6_ := mk0 ((neL BK184.out hg)); have n7_ := mk0 ((neG BK184.out hg)); have n8_ := mk0 ((neL BK185.out hg)); have n9_ := mk0 ((neG BK185.out hg)); clear BK184; clear BK185; clear HB; have BK184 := n0_; have BK185 := n1_; have HB := n2_; have BK186 := n3_; have GW186 := n4_; have GE186 := n5_; have NB184_186 := n6_; have NB186_184 := n7_; have NB185_186 := n8_; have NB186_185 := n9_; clear n0_ n1_ n2_ n3_ n4_ n5_ n6_ n7_ n8_ n9_; clear hb hbox hg) | ((with_reducible refine gate_dst (N := 7) rfl ?_); refine box_event ?hg (N := 7) ?hd (cs := #[.int .i64 0, .int .i64 0, .int .i64 0]) (t := 23) ?hr ?_; (case hd => rfl); (case hg => rfl); (case hr => first | (go_simp; done) | (go_simp; rfl)); intro gb187 hg w10 hbox hb; have n0_ := mk0 (bbT BK184.out hb); have n1_ := mk0 (bbT BK185.out hb); have n2_ := mk0 (bbT BK186.out hb); have n3_ := mk0 (below_step (wT HB.out) hb); have n4_ := mk0 (hbox); have n5_ := mk0 ((szT HB.out hg)); have n6_ := mk0 ((szT HB.out hg)); have n7_ := mk0 ((neL BK184.out hg)); have n8_ := mk0 ((neG BK184.out hg)); have n9_ := mk0 ((neL BK185.out hg)); have n10_ := mk0 ((neG BK185.out hg)); have n11_ := mk0 ((neL BK186.out hg)); have n12_ := mk0 ((neG BK186.out hg)); clear BK184; clear BK185; clear BK186; clear HB; have BK184 := n0_; have BK185 := n1_; have BK186 := n2_; have HB := n3_; have BK187 := n4_; have GW187 := n5_; have GE187 := n6_; have NB184_187 := n7_; have NB187_184 := n8_; have NB185_187 := n9_; have NB187_185 := n10_; have NB186_187 := n11_; have NB187_186 := n12_; clear n0_ n1_ n2_ n3_ n4_ n5_ n6_ n7_ n8_ n9_ n10_ n11_ n12_; clear hb hbox hg; have hnb11 := NB184_185.out; have hnc11 := NB185_184.out; have hnb12 := NB184_186.out; have hnc12 := NB186_184.out; have hnb13 := NB184_187.out; have hnc13 := NB187_184.out; have X14_0 := ct BK184.out 0; have X14_1 := ct BK184.out 1; have X14_2 := ct BK184.out 2; have X14_3 := ct BK184.out 3; have X14_4 := ct BK184.out 4; have X14_5 := ct BK184.out 5; have X14_6 := ct BK184.out 6; have Y14_0 := blk_frozen BK184.out 0; have Y14_1 := blk_frozen BK184.out 1; have Y14_2 := blk_frozen BK184.out 2; have Y14_3 := blk_frozen BK184.out 3; have Y14_4 := blk_frozen BK184.out 4; have Y14_5 := blk_frozen BK184.out 5; have Y14_6 := blk_frozen BK184.out 6; have hnb15 := NB185_186.out; have hnc15 := NB186_185.out; have hnb16 := NB185_187.out; have hnc16 := NB187_185.out; have X17_0 := ct BK185.out 0; have X17_1 := ct BK185.out 1; have X17_2 := ct BK185.out 2; have Y17_0 := blk_frozen BK185.out 0; have Y17_1 := blk_frozen BK185.out 1; have Y17_2 := blk_frozen BK185.out 2) | ((with_reducible refine gate_dst (N := 15) rfl ?_); refine Kd.R_lit k23 _ 23 ?hg (N := 15) ?hd (xs := ([(⟨a1_0, a1_1, a1_2⟩ : S23)] : List (S23))) (inner := [.int .i64 a1_0, .int .i64 a1_1, .int .i64 a1_2]) (ok := fun _ => True) (okp := fun _ => True) ?hr ?hp (fun _ hk => hk) trivial (Below.refl _ _) (Nat.le_refl _) (by simp) ?_; (case hd => rfl); (case hg => rfl); (case hr => first | (go_simp; done) | (go_simp; rfl)); (case hp => exact (Reps.c3 (show Kd.M k23 _ _ _ (⟨a1_0, a1_1, a1_2⟩ : S23) [.int .i64 a1_0, .int .i64 a1_1, .int .i64 a1_2] from (k23_mkM _ _ _ (⟨a1_0, a1_1, a1_2⟩ : S23) )) (Reps.none _ _))); intro v189 w18 ho19 hb hg_ hnew_; clear hg_ hnew_; (first | rw [← Ny188.out] at ho19 | (simp only [Int.reduceToNat] at ho19; rw [← Ny188.out] at ho19)); have n0_ := mk0 (Kd.R_lower (Kd.R_newB (Kd.R_newB (Kd.R_newB ho19 (g := gb185) (o := .cells #[.int .i64 a1_0, .int .i64 a1_1, .int .i64 a1_2] 23 (0, 0)) (bT BK185.out)) (g := gb186) (o := .cells #[.int .i64 0, .int .i64 0, .int .i64 0] 23 (0, 0)) (bT BK186.out)) (g := gb187) (o := .cells #[.int .i64 0, .int .i64 0, .int .i64 0] 23 (0, 0)) (bT BK187.out)) (below_size (wT HB.out))); have n1_ := mk0 (bbT BK184.out hb); have n2_ := mk0 (bbT BK185.out hb); have n3_ := mk0 (bbT BK186.out hb); have n4_ := mk0 (bbT BK187.out hb); have n5_ := mk0 (below_step (wT HB.out) hb); clear BK184; clear BK185; clear BK186; clear BK187; clear HB; have HO190 := n0_; have BK184 := n1_; have BK185 := n2_; have BK186 := n3_; have BK187 := n4_; have HB := n5_; clear n0_ n1_ n2_ n3_ n4_ n5_; clear hb ho19; obtain ⟨Ao20, co20, eo20⟩ := Kd.R_slice HO190.out; subst eo20) | ((with_reducible refine gate_callee (f := 38) rfl ?_); refine goesL_ (some 16) rfl rfl Tryz.func38 (by kernel_rfl) rfl #[.agg #[.int .i64 a0_0, .int .i64 a0_1, .int .i64 a0_2, .int .i64 a0_3, .int .i64 a0_4, .int .i64 a0_5, .slice A0_6 l0_6.length c0_6], .slice Ao20 y188.length co20] rfl mapT ?_; (with_reducible refine (probe_given.calls k a0_0 a0_1 a0_2 a0_3 a0_4 a0_5 _ _ l0_6 _ _ y188 t191 _ ?side1 ?side2 ?side3 ?side4 A4.out).mono ?_); (case side1 => repeat (first | exact (Kd.C_below HR0_6.out HB.out) | (with_reducible refine Kd.C_alloc ?_ _) | (with_reducible refine Kd.C_drewN ?_ _) | (with_reducible refine Kd.C_drew ?_))); (case side2 => exact HC0_6.out); (case side3 => repeat (first | exact (Kd.R_reads' HO190.out).2.2 | (with_reducible refine Kd.C_alloc ?_ _) | (with_reducible refine Kd.C_drewN ?_ _) | (with_reducible refine Kd.C_drew ?_))); (case side4 => exact (Kd.R_reads' HO190.out).2.1); rintro e w21 ⟨rfl, hb⟩; refine ⟨_, rfl, ?_⟩; have n0_ := mk0 (Kd.R_below (rT HO190.out) hb); have n1_ := mk0 (bbT BK184.out hb); have n2_ := mk0 (bbT BK185.out hb); have n3_ := mk0 (bbT BK186.out hb); have n4_ := mk0 (bbT BK187.out hb); have n5_ := mk0 (below_step (wT HB.out) hb); clear HO190; clear BK184; clear BK185; clear BK186; clear BK187; clear HB; have HO190 := n0_; have BK184 := n1_; have BK185 := n2_; have BK186 := n3_; have BK187 := n4_; have HB := n5_; clear n0_ n1_ n2_ n3_ n4_ n5_; (try clear hb); (try clear hb2); (try clear hk); (try clear hi)))
  (try simp only [Act.put, List.setIfInBounds_toArray, List.set_cons_zero, List.set_cons_succ])
  go_cut [22] (fun v22 wc => ∃ (kq : Nat) (x22_5 : Bool), v22 = .bool x22_5 ∧ Aside0 (probe_Touch.j0 kq a2 x22_5 a0_0 a0_1 a0_2 a0_3 a0_4 a0_5 l0_6 a1_0 a1_1 a1_2 = some (r1, r2, r3, r4, r5, r6, r7)) ∧ Aside0 (kq ≤ k) ∧ Aside0 (wc.heap[gb184]? = some (.cells #[.int .i64 a0_0, .int .i64 a0_1, .int .i64 a0_2, .int .i64 a0_3, .int .i64 a0_4, .int .i64 a0_5, (.slice A0_6 l0_6.length c0_6)] 26 (0, 0))) ∧ Aside0 (wc.heap[gb185]? = some (.cells #[.int .i64 a1_0, .int .i64 a1_1, .int .i64 a1_2] 23 (0, 0))) ∧ Aside0 (wc.heap[gb186]? = some (.cells #[.int .i64 0, .int .i64 0, .int .i64 0] 23 (0, 0))) ∧ Aside0 (wc.heap[gb187]? = some (.cells #[.int .i64 0, .int .i64 0, .int .i64 0] 23 (0, 0))) ∧ Aside0 (Below w.heap.size w wc))
  case first =>
   have H := HC6.out
   clear HC6
   by_cases c22 : a2 < 0
   ·rw [if_pos c22] at H
    have c22b0 : decide (a2 < 0) = true := decide_eq_true c22
    clear c22
    (first | rw [c22b0] | (simp only [i64_w, i32_w]; rw [c22b0]) | skip)
    have H' := mk0 H
    clear H
    go_wp2
    go_meet
    case rel => exact ⟨_, (true), (by first | rfl | (simp; done) | (simp [*]; done) | exact congrArg (Value.int .i64) (by unfold wrap64; omega)), H', ⟨by first | omega | exact Nat.le_refl _⟩, ⟨bT BK184.out⟩, ⟨bT BK185.out⟩, ⟨bT BK186.out⟩, ⟨bT BK187.out⟩, ⟨wT HB.out⟩⟩
   ·rw [if_neg c22] at H
    have c22b0 : decide (a2 < 0) = false := decide_eq_false c22
    clear c22
    (first | rw [c22b0] | (simp only [i64_w, i32_w]; rw [c22b0]) | skip)
    have H' := mk0 H
    clear H
    go_wp2
    go_meet
    case rel => exact ⟨_, (decide (a2 > 5)), (by first | rfl | (simp; done) | (simp [*]; done) | exact congrArg (Value.int .i64) (by unfold wrap64; omega)), H', ⟨by first | omega | exact Nat.le_refl _⟩, ⟨bT BK184.out⟩, ⟨bT BK185.out⟩, ⟨bT BK186.out⟩, ⟨bT BK187.out⟩, ⟨wT HB.out⟩⟩
  case rest =>
   clear HC6
   try clear c3
   try clear c5
   try clear c5b0
   try clear c5b1
   try clear c22
   try clear c22b0
   try clear X14_0
   try clear X14_1
   try clear X14_2
   try clear X14_3
   try clear X14_4
   try clear X14_5
   try clear X14_6
   try clear X17_0
   try clear X17_1
   try clear X17_2
   try clear Y14_0
   try clear Y14_1
   try clear Y14_2
   try clear Y14_3
   try clear Y14_4
   try clear Y14_5
   try clear Y14_6
   try clear Y17_0
   try clear Y17_1
   try clear Y17_2
   obtain ⟨kq, x22_5, rfl, HA, HJ5, BK184, BK185, BK186, BK187, HB⟩ := hcut
   cases kq with
   | zero => exact absurd HA.out (by simp [probe_Touch.j0])
   | succ kj5 =>
    have H := HA.out
    clear HA
    simp only [probe_Touch.j0] at H
    by_cases c23 : x22_5 = true
    ·subst c23
     have H1 : (some (0, 0, 0, 0, 0, 0, 1)) = some (r1, r2, r3, r4, r5, r6, r7) := by rw [if_pos rfl] at H; exact H
     clear H
     have H := H1
     clear H1
     simp only [Option.some.injEq, Prod.mk.injEq] at H
     obtain ⟨rfl, rfl, rfl, rfl, rfl, rfl, rfl⟩ := H
     have hnb24 := NB186_187.out
     have hnc24 := NB187_186.out
     have X25_0 := ct BK186.out 0
     have X25_1 := ct BK186.out 1
     have X25_2 := ct BK186.out 2
     have Y25_0 := blk_frozen BK186.out 0
     have Y25_1 := blk_frozen BK186.out 1
     have Y25_2 := blk_frozen BK186.out 2
     have X26_0 := ct BK187.out 0
     have X26_1 := ct BK187.out 1
     have X26_2 := ct BK187.out 2
     have Y26_0 := blk_frozen BK187.out 0
     have Y26_1 := blk_frozen BK187.out 1
     have Y26_2 := blk_frozen BK187.out 2
     go_wp2
     refine bodyPost_ret (results_list (rs := [.cell 6 23, .cell 7 23, .tmp 8]) rfl (by simp) (.cell gb186 23 #[.int .i64 0, .int .i64 0, .int .i64 0] (0, 0) _ rfl (by (with_reducible repeat (first | refine blk_drewN ?_ _ | refine blk_drew ?_ | refine blk_alloc ?_ _)); refine blk_far ?_ NB186_187.out _; refine blk_far ?_ NB186_187.out _; refine blk_far ?_ NB186_187.out _; refine blk_put (cs := #[.int .i64 0, .int .i64 0, .int .i64 0]) ?_ 2 _ rfl; refine blk_put (cs := #[.int .i64 0, .int .i64 0, .int .i64 0]) ?_ 1 _ rfl; refine blk_put (cs := #[.int .i64 0, .int .i64 0, .int .i64 0]) ?_ 0 _ rfl; (with_reducible repeat (first | refine blk_drewN ?_ _ | refine blk_drew ?_ | refine blk_alloc ?_ _)); exact BK186.out) Tryz.underlying23 rfl (by kernel_rfl) (.cell gb187 23 #[.int .i64 0, .int .i64 0, .int .i64 0] (0, 0) _ rfl (by (with_reducible repeat (first | refine blk_drewN ?_ _ | refine blk_drew ?_ | refine blk_alloc ?_ _)); refine blk_put (cs := #[.int .i64 0, .int .i64 0, .int .i64 0]) ?_ 2 _ rfl; refine blk_put (cs := #[.int .i64 0, .int .i64 0, .int .i64 0]) ?_ 1 _ rfl; refine blk_put (cs := #[.int .i64 0, .int .i64 0, .int .i64 0]) ?_ 0 _ rfl; refine blk_far ?_ NB187_186.out _; refine blk_far ?_ NB187_186.out _; refine blk_far ?_ NB187_186.out _; (with_reducible repeat (first | refine blk_drewN ?_ _ | refine blk_drew ?_ | refine blk_alloc ?_ _)); exact BK187.out) Tryz.underlying23 rfl (by kernel_rfl) (.tmp .nil)))) rfl ?_
     exact ⟨eqT, by repeat (first | (with_reducible first | exact HB.out | apply below_alloc | apply pw_below_drewN | apply below_drew1 | refine below_set ?_ GE186.out | refine below_set ?_ GE187.out) | exact HB.out)⟩
    ·replace c23 := Bool.eq_false_iff.mpr c23
     subst c23
     have H1 : ((probe_Solid_full.f kj5 a0_0 a0_1 a0_2 a0_3 a0_4 a0_5 l0_6 a1_0 a1_1 a1_2).bind fun t192 => (if t192 = true then (some (0, 0, 0, 0, 0, 0, 14)) else ((probe_Solid_touched.f a0_0 a0_1 a0_2 a0_3 a0_4 a0_5 l0_6 a1_0 a1_1 a1_2 a2).bind fun bt193 => (if bt193.2.2.2.2.2.2 = true then (some (bt193.1, bt193.2.1, bt193.2.2.1, bt193.2.2.2.1, bt193.2.2.2.2.1, bt193.2.2.2.2.2.1, 0)) else (some (0, 0, 0, 0, 0, 0, 6)))))) = some (r1, r2, r3, r4, r5, r6, r7) := by rw [if_neg (show ¬ (false = true) by decide)] at H; exact H
     clear H
     have H := H1
     clear H1
     replace H := Option.bind_eq_some_iff.mp H
     obtain ⟨t192, A270, H⟩ := H
     (try dsimp only at H)
     have A27 := mk0 A270
     clear A270
     by_cases c28 : t192 = true
     ·subst c28
      have H1 : (some (0, 0, 0, 0, 0, 0, 14)) = some (r1, r2, r3, r4, r5, r6, r7) := by rw [if_pos rfl] at H; exact H
      clear H
      have H := H1
      clear H1
      simp only [Option.some.injEq, Prod.mk.injEq] at H
      obtain ⟨rfl, rfl, rfl, rfl, rfl, rfl, rfl⟩ := H
      have hnb29 := NB184_185.out
      have hnc29 := NB185_184.out
      have hnb30 := NB184_186.out
      have hnc30 := NB186_184.out
      have hnb31 := NB184_187.out
      have hnc31 := NB187_184.out
      have X32_0 := ct BK184.out 0
      have X32_1 := ct BK184.out 1
      have X32_2 := ct BK184.out 2
      have X32_3 := ct BK184.out 3
      have X32_4 := ct BK184.out 4
      have X32_5 := ct BK184.out 5
      have X32_6 := ct BK184.out 6
      have Y32_0 := blk_frozen BK184.out 0
      have Y32_1 := blk_frozen BK184.out 1
      have Y32_2 := blk_frozen BK184.out 2
      have Y32_3 := blk_frozen BK184.out 3
      have Y32_4 := blk_frozen BK184.out 4
      have Y32_5 := blk_frozen BK184.out 5
      have Y32_6 := blk_frozen BK184.out 6
      have hnb33 := NB185_186.out
      have hnc33 := NB186_185.out
      have hnb34 := NB185_187.out
      have hnc34 := NB187_185.out
      have X35_0 := ct BK185.out 0
      have X35_1 := ct BK185.out 1
      have X35_2 := ct BK185.out 2
      have Y35_0 := blk_frozen BK185.out 0
      have Y35_1 := blk_frozen BK185.out 1
      have Y35_2 := blk_frozen BK185.out 2
      go_wp2_with (first | ((with_reducible refine gate_callee (f := 39) rfl ?_); refine goesL_ (some 34) rfl rfl Tryz.func39 (by kernel_rfl) rfl #[.agg #[.int .i64 a0_0, .int .i64 a0_1, .int .i64 a0_2, .int .i64 a0_3, .int .i64 a0_4, .int .i64 a0_5, .slice A0_6 l0_6.length c0_6], .agg #[.int .i64 a1_0, .int .i64 a1_1, .int .i64 a1_2]] rfl mapT ?_; (with_reducible refine (probe_Solid_full.calls kj5 a0_0 a0_1 a0_2 a0_3 a0_4 a0_5 _ _ l0_6 a1_0 a1_1 a1_2 true _ ?side1 ?side2 A27.out).mono ?_); (case side1 => repeat (first | exact (Kd.C_below HR0_6.out HB.out) | (with_reducible refine Kd.C_alloc ?_ _) | (with_reducible refine Kd.C_drewN ?_ _) | (with_reducible refine Kd.C_drew ?_))); (case side2 => exact HC0_6.out); rintro e w36 ⟨rfl, hb⟩; refine ⟨_, rfl, ?_⟩; have n0_ := mk0 (bbT BK186.out hb); have n1_ := mk0 (bbT BK187.out hb); have n2_ := mk0 (below_step (wT HB.out) hb); clear BK186; clear BK187; clear HB; have BK186 := n0_; have BK187 := n1_; have HB := n2_; clear n0_ n1_ n2_; (try clear hb); (try clear hb2); (try clear hk); (try clear hi); have hnb37 := NB186_187.out; have hnc37 := NB187_186.out; have X38_0 := ct BK186.out 0; have X38_1 := ct BK186.out 1; have X38_2 := ct BK186.out 2; have Y38_0 := blk_frozen BK186.out 0; have Y38_1 := blk_frozen BK186.out 1; have Y38_2 := blk_frozen BK186.out 2; have X39_0 := ct BK187.out 0; have X39_1 := ct BK187.out 1; have X39_2 := ct BK187.out 2; have Y39_0 := blk_frozen BK187.out 0; have Y39_1 := blk_frozen BK187.out 1; have Y39_2 := blk_frozen BK187.out 2))
      refine bodyPost_ret (results_list (rs := [.cell 6 23, .cell 7 23, .tmp 8]) rfl (by simp) (.cell gb186 23 #[.int .i64 0, .int .i64 0, .int .i64 0] (0, 0) _ rfl (by (with_reducible repeat (first | refine blk_drewN ?_ _ | refine blk_drew ?_ | refine blk_alloc ?_ _)); refine blk_far ?_ NB186_187.out _; refine blk_far ?_ NB186_187.out _; refine blk_far ?_ NB186_187.out _; refine blk_put (cs := #[.int .i64 0, .int .i64 0, .int .i64 0]) ?_ 2 _ rfl; refine blk_put (cs := #[.int .i64 0, .int .i64 0, .int .i64 0]) ?_ 1 _ rfl; refine blk_put (cs := #[.int .i64 0, .int .i64 0, .int .i64 0]) ?_ 0 _ rfl; (with_reducible repeat (first | refine blk_drewN ?_ _ | refine blk_drew ?_ | refine blk_alloc ?_ _)); exact BK186.out) Tryz.underlying23 rfl (by kernel_rfl) (.cell gb187 23 #[.int .i64 0, .int .i64 0, .int .i64 0] (0, 0) _ rfl (by (with_reducible repeat (first | refine blk_drewN ?_ _ | refine blk_drew ?_ | refine blk_alloc ?_ _)); refine blk_put (cs := #[.int .i64 0, .int .i64 0, .int .i64 0]) ?_ 2 _ rfl; refine blk_put (cs := #[.int .i64 0, .int .i64 0, .int .i64 0]) ?_ 1 _ rfl; refine blk_put (cs := #[.int .i64 0, .int .i64 0, .int .i64 0]) ?_ 0 _ rfl; refine blk_far ?_ NB187_186.out _; refine blk_far ?_ NB187_186.out _; refine blk_far ?_ NB187_186.out _; (with_reducible repeat (first | refine blk_drewN ?_ _ | refine blk_drew ?_ | refine blk_alloc ?_ _)); exact BK187.out) Tryz.underlying23 rfl (by kernel_rfl) (.tmp .nil)))) rfl ?_
      exact ⟨eqT, by repeat (first | (with_reducible first | exact HB.out | apply below_alloc | apply pw_below_drewN | apply below_drew1 | refine below_set ?_ GE186.out | refine below_set ?_ GE187.out) | exact HB.out)⟩
     ·replace c28 := Bool.eq_false_iff.mpr c28
      subst c28
      have H1 : ((probe_Solid_touched.f a0_0 a0_1 a0_2 a0_3 a0_4 a0_5 l0_6 a1_0 a1_1 a1_2 a2).bind fun bt193 => (if bt193.2.2.2.2.2.2 = true then (some (bt193.1, bt193.2.1, bt193.2.2.1, bt193.2.2.2.1, bt193.2.2.2.2.1, bt193.2.2.2.2.2.1, 0)) else (some (0, 0, 0, 0, 0, 0, 6)))) = some (r1, r2, r3, r4, r5, r6, r7) := by rw [if_neg (show ¬ (false = true) by decide)] at H; exact H
      clear H
      have H := H1
      clear H1
      replace H := Option.bind_eq_some_iff.mp H
      obtain ⟨⟨t193, t194, t195, t196, t197, t198, t199⟩, A400, H⟩ := H
      (try dsimp only at H)
      have A40 := mk0 A400
      clear A400
      by_cases c41 : t199 = true
      ·subst c41
       have H1 : (some (t193, t194, t195, t196, t197, t198, 0)) = some (r1, r2, r3, r4, r5, r6, r7) := by rw [if_pos rfl] at H; exact H
       clear H
       have H := H1
       clear H1
       simp only [Option.some.injEq, Prod.mk.injEq] at H
       obtain ⟨rfl, rfl, rfl, rfl, rfl, rfl, rfl⟩ := H
       have hnb42 := NB184_185.out
       have hnc42 := NB185_184.out
       have hnb43 := NB184_186.out
       have hnc43 := NB186_184.out
       have hnb44 := NB184_187.out
       have hnc44 := NB187_184.out
       have X45_0 := ct BK184.out 0
       have X45_1 := ct BK184.out 1
       have X45_2 := ct BK184.out 2
       have X45_3 := ct BK184.out 3
       have X45_4 := ct BK184.out 4
       have X45_5 := ct BK184.out 5
       have X45_6 := ct BK184.out 6
       have Y45_0 := blk_frozen BK184.out 0
       have Y45_1 := blk_frozen BK184.out 1
       have Y45_2 := blk_frozen BK184.out 2
       have Y45_3 := blk_frozen BK184.out 3
       have Y45_4 := blk_frozen BK184.out 4
       have Y45_5 := blk_frozen BK184.out 5
       have Y45_6 := blk_frozen BK184.out 6
       have hnb46 := NB185_186.out
       have hnc46 := NB186_185.out
       have hnb47 := NB185_187.out
       have hnc47 := NB187_185.out
       have X48_0 := ct BK185.out 0
       have X48_1 := ct BK185.out 1
       have X48_2 := ct BK185.out 2
       have Y48_0 := blk_frozen BK185.out 0
       have Y48_1 := blk_frozen BK185.out 1
       have Y48_2 := blk_frozen BK185.out 2
       try go_wp2_with (first | ((with_reducible refine gate_callee (f := 39) rfl ?_); refine goesL_ (some 34) rfl rfl Tryz.func39 (by kernel_rfl) rfl #[.agg #[.int .i64 a0_0, .int .i64 a0_1, .int .i64 a0_2, .int .i64 a0_3, .int .i64 a0_4, .int .i64 a0_5, .slice A0_6 l0_6.length c0_6], .agg #[.int .i64 a1_0, .int .i64 a1_1, .int .i64 a1_2]] rfl mapT ?_; (with_reducible refine (probe_Solid_full.calls kj5 a0_0 a0_1 a0_2 a0_3 a0_4 a0_5 _ _ l0_6 a1_0 a1_1 a1_2 false _ ?side1 ?side2 A27.out).mono ?_); (case side1 => repeat (first | exact (Kd.C_below HR0_6.out HB.out) | (with_reducible refine Kd.C_alloc ?_ _) | (with_reducible refine Kd.C_drewN ?_ _) | (with_reducible refine Kd.C_drew ?_))); (case side2 => exact HC0_6.out); rintro e w49 ⟨rfl, hb⟩; refine ⟨_, rfl, ?_⟩; have n0_ := mk0 (bbT BK184.out hb); have n1_ := mk0 (bbT BK185.out hb); have n2_ := mk0 (bbT BK186.out hb); have n3_ := mk0 (bbT BK187.out hb); have n4_ := mk0 (below_step (wT HB.out) hb); clear BK184; clear BK185; clear BK186; clear BK187; clear HB; have BK184 := n0_; have BK185 := n1_; have BK186 := n2_; have BK187 := n3_; have HB := n4_; clear n0_ n1_ n2_ n3_ n4_; (try clear hb); (try clear hb2); (try clear hk); (try clear hi); have X50_0 := ct BK184.out 0; have X50_1 := ct BK184.out 1; have X50_2 := ct BK184.out 2; have X50_3 := ct BK184.out 3; have X50_4 := ct BK184.out 4; have X50_5 := ct BK184.out 5; have X50_6 := ct BK184.out 6; have Y50_0 := blk_frozen BK184.out 0; have Y50_1 := blk_frozen BK184.out 1; have Y50_2 := blk_frozen BK184.out 2; have Y50_3 := blk_frozen BK184.out 3; have Y50_4 := blk_frozen BK184.out 4; have Y50_5 := blk_frozen BK184.out 5; have Y50_6 := blk_frozen BK184.out 6; (try clear BK184 GW184 GE184); have X51_0 := ct BK185.out 0; have X51_1 := ct BK185.out 1; have X51_2 := ct BK185.out 2; have Y51_0 := blk_frozen BK185.out 0; have Y51_1 := blk_frozen BK185.out 1; have Y51_2 := blk_frozen BK185.out 2; (try clear BK185 GW185 GE185)) | ((with_reducible refine gate_callee (f := 47) rfl ?_); refine goesL_ (some 41) rfl rfl Tryz.func47 (by kernel_rfl) rfl #[.agg #[.int .i64 a0_0, .int .i64 a0_1, .int .i64 a0_2, .int .i64 a0_3, .int .i64 a0_4, .int .i64 a0_5, .slice A0_6 l0_6.length c0_6], .agg #[.int .i64 a1_0, .int .i64 a1_1, .int .i64 a1_2], .int .i64 a2] rfl mapT ?_; (with_reducible refine (probe_Solid_touched.calls a0_0 a0_1 a0_2 a0_3 a0_4 a0_5 _ _ l0_6 a1_0 a1_1 a1_2 a2 t193 t194 t195 t196 t197 t198 true _ ?side1 ?side2 A40.out).mono ?_); (case side1 => repeat (first | exact (Kd.C_below HR0_6.out HB.out) | (with_reducible refine Kd.C_alloc ?_ _) | (with_reducible refine Kd.C_drewN ?_ _) | (with_reducible refine Kd.C_drew ?_))); (case side2 => exact HC0_6.out); rintro e w52 ⟨rfl, hb⟩; refine ⟨_, rfl, ?_⟩; have n0_ := mk0 (bbT BK186.out hb); have n1_ := mk0 (bbT BK187.out hb); have n2_ := mk0 (below_step (wT HB.out) hb); clear BK186; clear BK187; clear HB; have BK186 := n0_; have BK187 := n1_; have HB := n2_; clear n0_ n1_ n2_; (try clear hb); (try clear hb2); (try clear hk); (try clear hi)) | ((with_reducible refine gate_dst (N := 10) rfl ?_); refine box_event ?hg (N := 10) ?hd (cs := #[.int .i64 0, .int .i64 0, .int .i64 0]) (t := 23) ?hr ?_; (case hd => rfl); (case hg => rfl); (case hr => first | (go_simp; done) | (go_simp; rfl)); intro gb200 hg w53 hbox hb; have n0_ := mk0 (bbT BK186.out hb); have n1_ := mk0 (bbT BK187.out hb); have n2_ := mk0 (below_step (wT HB.out) hb); have n3_ := mk0 (hbox); have n4_ := mk0 ((szT HB.out hg)); have n5_ := mk0 ((szT HB.out hg)); have n6_ := mk0 ((neL BK186.out hg)); have n7_ := mk0 ((neG BK186.out hg)); have n8_ := mk0 ((neL BK187.out hg)); have n9_ := mk0 ((neG BK187.out hg)); clear BK186; clear BK187; clear HB; have BK186 := n0_; have BK187 := n1_; have HB := n2_; have BK200 := n3_; have GW200 := n4_; have GE200 := n5_; have NB186_200 := n6_; have NB200_186 := n7_; have NB187_200 := n8_; have NB200_187 := n9_; clear n0_ n1_ n2_ n3_ n4_ n5_ n6_ n7_ n8_ n9_; clear hb hbox hg) | ((with_reducible refine gate_dst (N := 11) rfl ?_); refine box_event ?hg (N := 11) ?hd (cs := #[.int .i64 0, .int .i64 0, .int .i64 0]) (t := 23) ?hr ?_; (case hd => rfl); (case hg => rfl); (case hr => first | (go_simp; done) | (go_simp; rfl)); intro gb201 hg w54 hbox hb; have n0_ := mk0 (bbT BK186.out hb); have n1_ := mk0 (bbT BK187.out hb); have n2_ := mk0 (bbT BK200.out hb); have n3_ := mk0 (below_step (wT HB.out) hb); have n4_ := mk0 (hbox); have n5_ := mk0 ((szT HB.out hg)); have n6_ := mk0 ((szT HB.out hg)); have n7_ := mk0 ((neL BK186.out hg)); have n8_ := mk0 ((neG BK186.out hg)); have n9_ := mk0 ((neL BK187.out hg)); have n10_ := mk0 ((neG BK187.out hg)); have n11_ := mk0 ((neL BK200.out hg)); have n12_ := mk0 ((neG BK200.out hg)); clear BK186; clear BK187; clear BK200; clear HB; have BK186 := n0_; have BK187 := n1_; have BK200 := n2_; have HB := n3_; have BK201 := n4_; have GW201 := n5_; have GE201 := n6_; have NB186_201 := n7_; have NB201_186 := n8_; have NB187_201 := n9_; have NB201_187 := n10_; have NB200_201 := n11_; have NB201_200 := n12_; clear n0_ n1_ n2_ n3_ n4_ n5_ n6_ n7_ n8_ n9_ n10_ n11_ n12_; clear hb hbox hg; have hnb55 := NB200_186.out; have hnc55 := NB186_200.out; have hnb56 := NB200_187.out; have hnc56 := NB187_200.out; have hnb57 := NB200_201.out; have hnc57 := NB201_200.out; have X58_0 := ct BK200.out 0; have X58_1 := ct BK200.out 1; have X58_2 := ct BK200.out 2; have Y58_0 := blk_frozen BK200.out 0; have Y58_1 := blk_frozen BK200.out 1; have Y58_2 := blk_frozen BK200.out 2; have hnb59 := NB201_186.out; have hnc59 := NB186_201.out; have hnb60 := NB201_187.out; have hnc60 := NB187_201.out; have X61_0 := ct BK201.out 0; have X61_1 := ct BK201.out 1; have X61_2 := ct BK201.out 2; have Y61_0 := blk_frozen BK201.out 0; have Y61_1 := blk_frozen BK201.out 1; have Y61_2 := blk_frozen BK201.out 2))
       have n0_ : Aside0 (((((((w54.setCell ⟨gb200, 0, none⟩ (.int .i64 t193)).setCell ⟨gb200, 1, none⟩ (.int .i64 t194)).setCell ⟨gb200, 2, none⟩ (.int .i64 t195)).setCell ⟨gb201, 0, none⟩ (.int .i64 t196)).setCell ⟨gb201, 1, none⟩ (.int .i64 t197)).setCell ⟨gb201, 2, none⟩ (.int .i64 t198)).heap[gb186]? = some (.cells #[.int .i64 0, .int .i64 0, .int .i64 0] 23 (0, 0))) := ⟨by (with_reducible repeat (first | refine blk_drewN ?_ _ | refine blk_drew ?_ | refine blk_alloc ?_ _)); refine blk_far ?_ NB186_201.out _; refine blk_far ?_ NB186_201.out _; refine blk_far ?_ NB186_201.out _; refine blk_far ?_ NB186_200.out _; refine blk_far ?_ NB186_200.out _; refine blk_far ?_ NB186_200.out _; (with_reducible repeat (first | refine blk_drewN ?_ _ | refine blk_drew ?_ | refine blk_alloc ?_ _)); exact BK186.out⟩
       have n1_ : Aside0 (((((((w54.setCell ⟨gb200, 0, none⟩ (.int .i64 t193)).setCell ⟨gb200, 1, none⟩ (.int .i64 t194)).setCell ⟨gb200, 2, none⟩ (.int .i64 t195)).setCell ⟨gb201, 0, none⟩ (.int .i64 t196)).setCell ⟨gb201, 1, none⟩ (.int .i64 t197)).setCell ⟨gb201, 2, none⟩ (.int .i64 t198)).heap[gb187]? = some (.cells #[.int .i64 0, .int .i64 0, .int .i64 0] 23 (0, 0))) := ⟨by (with_reducible repeat (first | refine blk_drewN ?_ _ | refine blk_drew ?_ | refine blk_alloc ?_ _)); refine blk_far ?_ NB187_201.out _; refine blk_far ?_ NB187_201.out _; refine blk_far ?_ NB187_201.out _; refine blk_far ?_ NB187_200.out _; refine blk_far ?_ NB187_200.out _; refine blk_far ?_ NB187_200.out _; (with_reducible repeat (first | refine blk_drewN ?_ _ | refine blk_drew ?_ | refine blk_alloc ?_ _)); exact BK187.out⟩
       have n2_ : Aside0 (((((((w54.setCell ⟨gb200, 0, none⟩ (.int .i64 t193)).setCell ⟨gb200, 1, none⟩ (.int .i64 t194)).setCell ⟨gb200, 2, none⟩ (.int .i64 t195)).setCell ⟨gb201, 0, none⟩ (.int .i64 t196)).setCell ⟨gb201, 1, none⟩ (.int .i64 t197)).setCell ⟨gb201, 2, none⟩ (.int .i64 t198)).heap[gb200]? = some (.cells #[.int .i64 t193, .int .i64 t194, .int .i64 t195] 23 (0, 0))) := ⟨by (with_reducible repeat (first | refine blk_drewN ?_ _ | refine blk_drew ?_ | refine blk_alloc ?_ _)); refine blk_far ?_ NB200_201.out _; refine blk_far ?_ NB200_201.out _; refine blk_far ?_ NB200_201.out _; refine blk_put (cs := #[.int .i64 t193, .int .i64 t194, .int .i64 0]) ?_ 2 _ rfl; refine blk_put (cs := #[.int .i64 t193, .int .i64 0, .int .i64 0]) ?_ 1 _ rfl; refine blk_put (cs := #[.int .i64 0, .int .i64 0, .int .i64 0]) ?_ 0 _ rfl; (with_reducible repeat (first | refine blk_drewN ?_ _ | refine blk_drew ?_ | refine blk_alloc ?_ _)); exact BK200.out⟩
       have n3_ : Aside0 (((((((w54.setCell ⟨gb200, 0, none⟩ (.int .i64 t193)).setCell ⟨gb200, 1, none⟩ (.int .i64 t194)).setCell ⟨gb200, 2, none⟩ (.int .i64 t195)).setCell ⟨gb201, 0, none⟩ (.int .i64 t196)).setCell ⟨gb201, 1, none⟩ (.int .i64 t197)).setCell ⟨gb201, 2, none⟩ (.int .i64 t198)).heap[gb201]? = some (.cells #[.int .i64 t196, .int .i64 t197, .int .i64 t198] 23 (0, 0))) := ⟨by (with_reducible repeat (first | refine blk_drewN ?_ _ | refine blk_drew ?_ | refine blk_alloc ?_ _)); refine blk_put (cs := #[.int .i64 t196, .int .i64 t197, .int .i64 0]) ?_ 2 _ rfl; refine blk_put (cs := #[.int .i64 t196, .int .i64 0, .int .i64 0]) ?_ 1 _ rfl; refine blk_put (cs := #[.int .i64 0, .int .i64 0, .int .i64 0]) ?_ 0 _ rfl; refine blk_far ?_ NB201_200.out _; refine blk_far ?_ NB201_200.out _; refine blk_far ?_ NB201_200.out _; (with_reducible repeat (first | refine blk_drewN ?_ _ | refine blk_drew ?_ | refine blk_alloc ?_ _)); exact BK201.out⟩
       have n4_ : Aside0 (Below w.heap.size w ((((((w54.setCell ⟨gb200, 0, none⟩ (.int .i64 t193)).setCell ⟨gb200, 1, none⟩ (.int .i64 t194)).setCell ⟨gb200, 2, none⟩ (.int .i64 t195)).setCell ⟨gb201, 0, none⟩ (.int .i64 t196)).setCell ⟨gb201, 1, none⟩ (.int .i64 t197)).setCell ⟨gb201, 2, none⟩ (.int .i64 t198))) := ⟨by repeat (first | (with_reducible first | exact HB.out | apply below_alloc | apply pw_below_drewN | apply below_drew1 | refine below_set ?_ GE200.out | refine below_set ?_ GE201.out) | exact HB.out)⟩
       (try clear BK186)
       (try clear BK187)
       (try clear BK200)
       (try clear BK201)
       (try clear HB)
       generalize ((((((w54.setCell ⟨gb200, 0, none⟩ (.int .i64 t193)).setCell ⟨gb200, 1, none⟩ (.int .i64 t194)).setCell ⟨gb200, 2, none⟩ (.int .i64 t195)).setCell ⟨gb201, 0, none⟩ (.int .i64 t196)).setCell ⟨gb201, 1, none⟩ (.int .i64 t197)).setCell ⟨gb201, 2, none⟩ (.int .i64 t198)) = w62 at n0_ n1_ n2_ n3_ n4_ ⊢
       have BK186 := n0_
       have BK187 := n1_
       have BK200 := n2_
       have BK201 := n3_
       have HB := n4_
       clear n0_ n1_ n2_ n3_ n4_
       have n0_ := mk0 (blk_drew BK186.out)
       have n1_ := mk0 (blk_drew BK187.out)
       have n2_ := mk0 (blk_drew BK200.out)
       have n3_ := mk0 (blk_drew BK201.out)
       have n4_ := mk0 (below_drew1 HB.out)
       clear BK186
       clear BK187
       clear BK200
       clear BK201
       clear HB
       have BK186 := n0_
       have BK187 := n1_
       have BK200 := n2_
       have BK201 := n3_
       have HB := n4_
       clear n0_ n1_ n2_ n3_ n4_
       refine start_ (n := 5) (S := fun w' => w'.cell? ⟨gb200, 0, none⟩ = some (.int .i64 t193) ∧ w'.cell? ⟨gb200, 1, none⟩ = some (.int .i64 t194) ∧ w'.cell? ⟨gb200, 2, none⟩ = some (.int .i64 t195) ∧ w'.cell? ⟨gb201, 0, none⟩ = some (.int .i64 t196) ∧ w'.cell? ⟨gb201, 1, none⟩ = some (.int .i64 t197) ∧ w'.cell? ⟨gb201, 2, none⟩ = some (.int .i64 t198)) (ds := []) #[false, false, false, false, false] (by kernel_rfl) rfl rfl ⟨ct BK200.out 0, ct BK200.out 1, ct BK200.out 2, ct BK201.out 0, ct BK201.out 1, ct BK201.out 2⟩ (fun hHeld => ?_)
       generalize w62.drew = w63 at BK186 BK187 BK200 BK201 HB hHeld ⊢
       refine take_ (i := 0) (N := some 49) (v := ?_) (a' := ?_) #[true, false, false, false, false] rfl rfl (by kernel_rfl) (fun _ _ _ h => h) (Or.inl ⟨by rfl, ?_⟩) hHeld ?_ ?_
       rotate_left
       ·rintro w' ⟨s0, s1, s2, s3, s4, s5⟩
        go_simp
        with_reducible rfl
       rotate_left
       ·exact nrm
       refine take_ (i := 1) (N := some 50) (v := ?_) (a' := ?_) #[true, true, false, false, false] rfl rfl (by kernel_rfl) (fun _ _ _ h => h) (Or.inl ⟨by rfl, ?_⟩) hHeld ?_ ?_
       rotate_left
       ·rintro w' ⟨s0, s1, s2, s3, s4, s5⟩
        go_simp
        with_reducible rfl
       rotate_left
       ·exact nrm
       refine one_ (i := 2) (N := none) #[true, true, true, false, false] rfl rfl (by kernel_rfl) (by decide) (fun K hK => ?_)
       have hs64 := ct BK186.out 0
       have hfs64 := blk_frozen BK186.out 0
       have hns64_1 := NB187_186.out
       have hns64_2 := NB200_186.out
       have hns64_3 := NB201_186.out
       have hms64_1 := NB186_187.out
       have hms64_2 := NB186_200.out
       have hms64_3 := NB186_201.out
       have hs65 := ct BK186.out 1
       have hfs65 := blk_frozen BK186.out 1
       have hns65_1 := NB187_186.out
       have hns65_2 := NB200_186.out
       have hns65_3 := NB201_186.out
       have hms65_1 := NB186_187.out
       have hms65_2 := NB186_200.out
       have hms65_3 := NB186_201.out
       have hs66 := ct BK186.out 2
       have hfs66 := blk_frozen BK186.out 2
       have hns66_1 := NB187_186.out
       have hns66_2 := NB200_186.out
       have hns66_3 := NB201_186.out
       have hms66_1 := NB186_187.out
       have hms66_2 := NB186_200.out
       have hms66_3 := NB186_201.out
       refine skip_ (w1 := ?_) (by rfl) rfl ?_ ?_
       rotate_left
       ·go_simp
        rfl
       refine hK.out _ _ ⟨((cell_far (p := ⟨gb186, _, none⟩) NB200_186.out _).trans (((cell_far (p := ⟨gb186, _, none⟩) NB200_186.out _).trans (((cell_far (p := ⟨gb186, _, none⟩) NB200_186.out _).trans (hHeld.1)))))), ((cell_far (p := ⟨gb186, _, none⟩) NB200_186.out _).trans (((cell_far (p := ⟨gb186, _, none⟩) NB200_186.out _).trans (((cell_far (p := ⟨gb186, _, none⟩) NB200_186.out _).trans (hHeld.2.1)))))), ((cell_far (p := ⟨gb186, _, none⟩) NB200_186.out _).trans (((cell_far (p := ⟨gb186, _, none⟩) NB200_186.out _).trans (((cell_far (p := ⟨gb186, _, none⟩) NB200_186.out _).trans (hHeld.2.2.1)))))), ((cell_far (p := ⟨gb186, _, none⟩) NB201_186.out _).trans (((cell_far (p := ⟨gb186, _, none⟩) NB201_186.out _).trans (((cell_far (p := ⟨gb186, _, none⟩) NB201_186.out _).trans (hHeld.2.2.2.1)))))), ((cell_far (p := ⟨gb186, _, none⟩) NB201_186.out _).trans (((cell_far (p := ⟨gb186, _, none⟩) NB201_186.out _).trans (((cell_far (p := ⟨gb186, _, none⟩) NB201_186.out _).trans (hHeld.2.2.2.2.1)))))), ((cell_far (p := ⟨gb186, _, none⟩) NB201_186.out _).trans (((cell_far (p := ⟨gb186, _, none⟩) NB201_186.out _).trans (((cell_far (p := ⟨gb186, _, none⟩) NB201_186.out _).trans (hHeld.2.2.2.2.2))))))⟩ (fun hHeld => ?_)
       clear hK K
       refine one_ (i := 3) (N := none) #[true, true, true, true, false] rfl rfl (by kernel_rfl) (by decide) (fun K hK => ?_)
       have hs67 := ct BK187.out 0
       have hfs67 := blk_frozen BK187.out 0
       have hns67_0 := NB186_187.out
       have hns67_2 := NB200_187.out
       have hns67_3 := NB201_187.out
       have hms67_0 := NB187_186.out
       have hms67_2 := NB187_200.out
       have hms67_3 := NB187_201.out
       have hs68 := ct BK187.out 1
       have hfs68 := blk_frozen BK187.out 1
       have hns68_0 := NB186_187.out
       have hns68_2 := NB200_187.out
       have hns68_3 := NB201_187.out
       have hms68_0 := NB187_186.out
       have hms68_2 := NB187_200.out
       have hms68_3 := NB187_201.out
       have hs69 := ct BK187.out 2
       have hfs69 := blk_frozen BK187.out 2
       have hns69_0 := NB186_187.out
       have hns69_2 := NB200_187.out
       have hns69_3 := NB201_187.out
       have hms69_0 := NB187_186.out
       have hms69_2 := NB187_200.out
       have hms69_3 := NB187_201.out
       refine skip_ (w1 := ?_) (by rfl) rfl ?_ ?_
       rotate_left
       ·go_simp
        rfl
       refine hK.out _ _ ⟨((cell_far (p := ⟨gb187, _, none⟩) NB200_187.out _).trans (((cell_far (p := ⟨gb187, _, none⟩) NB200_187.out _).trans (((cell_far (p := ⟨gb187, _, none⟩) NB200_187.out _).trans (hHeld.1)))))), ((cell_far (p := ⟨gb187, _, none⟩) NB200_187.out _).trans (((cell_far (p := ⟨gb187, _, none⟩) NB200_187.out _).trans (((cell_far (p := ⟨gb187, _, none⟩) NB200_187.out _).trans (hHeld.2.1)))))), ((cell_far (p := ⟨gb187, _, none⟩) NB200_187.out _).trans (((cell_far (p := ⟨gb187, _, none⟩) NB200_187.out _).trans (((cell_far (p := ⟨gb187, _, none⟩) NB200_187.out _).trans (hHeld.2.2.1)))))), ((cell_far (p := ⟨gb187, _, none⟩) NB201_187.out _).trans (((cell_far (p := ⟨gb187, _, none⟩) NB201_187.out _).trans (((cell_far (p := ⟨gb187, _, none⟩) NB201_187.out _).trans (hHeld.2.2.2.1)))))), ((cell_far (p := ⟨gb187, _, none⟩) NB201_187.out _).trans (((cell_far (p := ⟨gb187, _, none⟩) NB201_187.out _).trans (((cell_far (p := ⟨gb187, _, none⟩) NB201_187.out _).trans (hHeld.2.2.2.2.1)))))), ((cell_far (p := ⟨gb187, _, none⟩) NB201_187.out _).trans (((cell_far (p := ⟨gb187, _, none⟩) NB201_187.out _).trans (((cell_far (p := ⟨gb187, _, none⟩) NB201_187.out _).trans (hHeld.2.2.2.2.2))))))⟩ (fun hHeld => ?_)
       clear hK K
       refine pure_ (i := 4) (N := some 8) (v := ?_) (a' := ?_) #[true, true, true, true, true] rfl rfl (by kernel_rfl) (fun _ _ _ h => h) (Or.inl ⟨by rfl, ?_⟩) ?_ ?_
       rotate_left
       ·intro w'
        go_simp
        with_reducible rfl
       rotate_left
       ·exact nrm
       refine done_ (by kernel_rfl) ?_
       try go_wp2
       refine bodyPost_ret (results_list (rs := [.cell 6 23, .cell 7 23, .tmp 8]) rfl (by simp) (.cell gb186 23 #[.int .i64 t193, .int .i64 t194, .int .i64 t195] (0, 0) _ rfl (by (with_reducible repeat (first | refine blk_drewN ?_ _ | refine blk_drew ?_ | refine blk_alloc ?_ _)); refine blk_far ?_ NB186_187.out _; refine blk_far ?_ NB186_187.out _; refine blk_far ?_ NB186_187.out _; refine blk_put (cs := #[.int .i64 t193, .int .i64 t194, .int .i64 0]) ?_ 2 _ rfl; refine blk_put (cs := #[.int .i64 t193, .int .i64 0, .int .i64 0]) ?_ 1 _ rfl; refine blk_put (cs := #[.int .i64 0, .int .i64 0, .int .i64 0]) ?_ 0 _ rfl; (with_reducible repeat (first | refine blk_drewN ?_ _ | refine blk_drew ?_ | refine blk_alloc ?_ _)); exact BK186.out) Tryz.underlying23 rfl (by kernel_rfl) (.cell gb187 23 #[.int .i64 t196, .int .i64 t197, .int .i64 t198] (0, 0) _ rfl (by (with_reducible repeat (first | refine blk_drewN ?_ _ | refine blk_drew ?_ | refine blk_alloc ?_ _)); refine blk_put (cs := #[.int .i64 t196, .int .i64 t197, .int .i64 0]) ?_ 2 _ rfl; refine blk_put (cs := #[.int .i64 t196, .int .i64 0, .int .i64 0]) ?_ 1 _ rfl; refine blk_put (cs := #[.int .i64 0, .int .i64 0, .int .i64 0]) ?_ 0 _ rfl; refine blk_far ?_ NB187_186.out _; refine blk_far ?_ NB187_186.out _; refine blk_far ?_ NB187_186.out _; (with_reducible repeat (first | refine blk_drewN ?_ _ | refine blk_drew ?_ | refine blk_alloc ?_ _)); exact BK187.out) Tryz.underlying23 rfl (by kernel_rfl) (.tmp .nil)))) rfl ?_
       exact ⟨eqT, by repeat (first | (with_reducible first | exact HB.out | apply below_alloc | apply pw_below_drewN | apply below_drew1 | refine below_set ?_ GE186.out | refine below_set ?_ GE187.out) | exact HB.out)⟩
      ·replace c41 := Bool.eq_false_iff.mpr c41
       subst c41
       have H1 : (some (0, 0, 0, 0, 0, 0, 6)) = some (r1, r2, r3, r4, r5, r6, r7) := by rw [if_neg (show ¬ (false = true) by decide)] at H; exact H
       clear H
       have H := H1
       clear H1
       simp only [Option.some.injEq, Prod.mk.injEq] at H
       obtain ⟨rfl, rfl, rfl, rfl, rfl, rfl, rfl⟩ := H
       have hnb70 := NB184_185.out
       have hnc70 := NB185_184.out
       have hnb71 := NB184_186.out
       have hnc71 := NB186_184.out
       have hnb72 := NB184_187.out
       have hnc72 := NB187_184.out
       have X73_0 := ct BK184.out 0
       have X73_1 := ct BK184.out 1
       have X73_2 := ct BK184.out 2
       have X73_3 := ct BK184.out 3
       have X73_4 := ct BK184.out 4
       have X73_5 := ct BK184.out 5
       have X73_6 := ct BK184.out 6
       have Y73_0 := blk_frozen BK184.out 0
       have Y73_1 := blk_frozen BK184.out 1
       have Y73_2 := blk_frozen BK184.out 2
       have Y73_3 := blk_frozen BK184.out 3
       have Y73_4 := blk_frozen BK184.out 4
       have Y73_5 := blk_frozen BK184.out 5
       have Y73_6 := blk_frozen BK184.out 6
       have hnb74 := NB185_186.out
       have hnc74 := NB186_185.out
       have hnb75 := NB185_187.out
       have hnc75 := NB187_185.out
       have X76_0 := ct BK185.out 0
       have X76_1 := ct BK185.out 1
       have X76_2 := ct BK185.out 2
       have Y76_0 := blk_frozen BK185.out 0
       have Y76_1 := blk_frozen BK185.out 1
       have Y76_2 := blk_frozen BK185.out 2
       go_wp2_with (first | ((with_reducible refine gate_callee (f := 39) rfl ?_); refine goesL_ (some 34) rfl rfl Tryz.func39 (by kernel_rfl) rfl #[.agg #[.int .i64 a0_0, .int .i64 a0_1, .int .i64 a0_2, .int .i64 a0_3, .int .i64 a0_4, .int .i64 a0_5, .slice A0_6 l0_6.length c0_6], .agg #[.int .i64 a1_0, .int .i64 a1_1, .int .i64 a1_2]] rfl mapT ?_; (with_reducible refine (probe_Solid_full.calls kj5 a0_0 a0_1 a0_2 a0_3 a0_4 a0_5 _ _ l0_6 a1_0 a1_1 a1_2 false _ ?side1 ?side2 A27.out).mono ?_); (case side1 => repeat (first | exact (Kd.C_below HR0_6.out HB.out) | (with_reducible refine Kd.C_alloc ?_ _) | (with_reducible refine Kd.C_drewN ?_ _) | (with_reducible refine Kd.C_drew ?_))); (case side2 => exact HC0_6.out); rintro e w77 ⟨rfl, hb⟩; refine ⟨_, rfl, ?_⟩; have n0_ := mk0 (bbT BK184.out hb); have n1_ := mk0 (bbT BK185.out hb); have n2_ := mk0 (bbT BK186.out hb); have n3_ := mk0 (bbT BK187.out hb); have n4_ := mk0 (below_step (wT HB.out) hb); clear BK184; clear BK185; clear BK186; clear BK187; clear HB; have BK184 := n0_; have BK185 := n1_; have BK186 := n2_; have BK187 := n3_; have HB := n4_; clear n0_ n1_ n2_ n3_ n4_; (try clear hb); (try clear hb2); (try clear hk); (try clear hi); have X78_0 := ct BK184.out 0; have X78_1 := ct BK184.out 1; have X78_2 := ct BK184.out 2; have X78_3 := ct BK184.out 3; have X78_4 := ct BK184.out 4; have X78_5 := ct BK184.out 5; have X78_6 := ct BK184.out 6; have Y78_0 := blk_frozen BK184.out 0; have Y78_1 := blk_frozen BK184.out 1; have Y78_2 := blk_frozen BK184.out 2; have Y78_3 := blk_frozen BK184.out 3; have Y78_4 := blk_frozen BK184.out 4; have Y78_5 := blk_frozen BK184.out 5; have Y78_6 := blk_frozen BK184.out 6; (try clear BK184 GW184 GE184); have X79_0 := ct BK185.out 0; have X79_1 := ct BK185.out 1; have X79_2 := ct BK185.out 2; have Y79_0 := blk_frozen BK185.out 0; have Y79_1 := blk_frozen BK185.out 1; have Y79_2 := blk_frozen BK185.out 2; (try clear BK185 GW185 GE185)) | ((with_reducible refine gate_callee (f := 47) rfl ?_); refine goesL_ (some 41) rfl rfl Tryz.func47 (by kernel_rfl) rfl #[.agg #[.int .i64 a0_0, .int .i64 a0_1, .int .i64 a0_2, .int .i64 a0_3, .int .i64 a0_4, .int .i64 a0_5, .slice A0_6 l0_6.length c0_6], .agg #[.int .i64 a1_0, .int .i64 a1_1, .int .i64 a1_2], .int .i64 a2] rfl mapT ?_; (with_reducible refine (probe_Solid_touched.calls a0_0 a0_1 a0_2 a0_3 a0_4 a0_5 _ _ l0_6 a1_0 a1_1 a1_2 a2 t193 t194 t195 t196 t197 t198 false _ ?side1 ?side2 A40.out).mono ?_); (case side1 => repeat (first | exact (Kd.C_below HR0_6.out HB.out) | (with_reducible refine Kd.C_alloc ?_ _) | (with_reducible refine Kd.C_drewN ?_ _) | (with_reducible refine Kd.C_drew ?_))); (case side2 => exact HC0_6.out); rintro e w80 ⟨rfl, hb⟩; refine ⟨_, rfl, ?_⟩; have n0_ := mk0 (bbT BK186.out hb); have n1_ := mk0 (bbT BK187.out hb); have n2_ := mk0 (below_step (wT HB.out) hb); clear BK186; clear BK187; clear HB; have BK186 := n0_; have BK187 := n1_; have HB := n2_; clear n0_ n1_ n2_; (try clear hb); (try clear hb2); (try clear hk); (try clear hi)) | ((with_reducible refine gate_dst (N := 10) rfl ?_); refine box_event ?hg (N := 10) ?hd (cs := #[.int .i64 0, .int .i64 0, .int .i64 0]) (t := 23) ?hr ?_; (case hd => rfl); (case hg => rfl); (case hr => first | (go_simp; done) | (go_simp; rfl)); intro gb200 hg w81 hbox hb; have n0_ := mk0 (bbT BK186.out hb); have n1_ := mk0 (bbT BK187.out hb); have n2_ := mk0 (below_step (wT HB.out) hb); have n3_ := mk0 (hbox); have n4_ := mk0 ((szT HB.out hg)); have n5_ := mk0 ((szT HB.out hg)); have n6_ := mk0 ((neL BK186.out hg)); have n7_ := mk0 ((neG BK186.out hg)); have n8_ := mk0 ((neL BK187.out hg)); have n9_ := mk0 ((neG BK187.out hg)); clear BK186; clear BK187; clear HB; have BK186 := n0_; have BK187 := n1_; have HB := n2_; have BK200 := n3_; have GW200 := n4_; have GE200 := n5_; have NB186_200 := n6_; have NB200_186 := n7_; have NB187_200 := n8_; have NB200_187 := n9_; clear n0_ n1_ n2_ n3_ n4_ n5_ n6_ n7_ n8_ n9_; clear hb hbox hg) | ((with_reducible refine gate_dst (N := 11) rfl ?_); refine box_event ?hg (N := 11) ?hd (cs := #[.int .i64 0, .int .i64 0, .int .i64 0]) (t := 23) ?hr ?_; (case hd => rfl); (case hg => rfl); (case hr => first | (go_simp; done) | (go_simp; rfl)); intro gb201 hg w82 hbox hb; have n0_ := mk0 (bbT BK186.out hb); have n1_ := mk0 (bbT BK187.out hb); have n2_ := mk0 (bbT BK200.out hb); have n3_ := mk0 (below_step (wT HB.out) hb); have n4_ := mk0 (hbox); have n5_ := mk0 ((szT HB.out hg)); have n6_ := mk0 ((szT HB.out hg)); have n7_ := mk0 ((neL BK186.out hg)); have n8_ := mk0 ((neG BK186.out hg)); have n9_ := mk0 ((neL BK187.out hg)); have n10_ := mk0 ((neG BK187.out hg)); have n11_ := mk0 ((neL BK200.out hg)); have n12_ := mk0 ((neG BK200.out hg)); clear BK186; clear BK187; clear BK200; clear HB; have BK186 := n0_; have BK187 := n1_; have BK200 := n2_; have HB := n3_; have BK201 := n4_; have GW201 := n5_; have GE201 := n6_; have NB186_201 := n7_; have NB201_186 := n8_; have NB187_201 := n9_; have NB201_187 := n10_; have NB200_201 := n11_; have NB201_200 := n12_; clear n0_ n1_ n2_ n3_ n4_ n5_ n6_ n7_ n8_ n9_ n10_ n11_ n12_; clear hb hbox hg; have hnb83 := NB200_186.out; have hnc83 := NB186_200.out; have hnb84 := NB200_187.out; have hnc84 := NB187_200.out; have hnb85 := NB200_201.out; have hnc85 := NB201_200.out; have X86_0 := ct BK200.out 0; have X86_1 := ct BK200.out 1; have X86_2 := ct BK200.out 2; have Y86_0 := blk_frozen BK200.out 0; have Y86_1 := blk_frozen BK200.out 1; have Y86_2 := blk_frozen BK200.out 2; have hnb87 := NB201_186.out; have hnc87 := NB186_201.out; have hnb88 := NB201_187.out; have hnc88 := NB187_201.out; have X89_0 := ct BK201.out 0; have X89_1 := ct BK201.out 1; have X89_2 := ct BK201.out 2; have Y89_0 := blk_frozen BK201.out 0; have Y89_1 := blk_frozen BK201.out 1; have Y89_2 := blk_frozen BK201.out 2; have hnb90 := NB186_187.out; have hnc90 := NB187_186.out; have X91_0 := ct BK186.out 0; have X91_1 := ct BK186.out 1; have X91_2 := ct BK186.out 2; have Y91_0 := blk_frozen BK186.out 0; have Y91_1 := blk_frozen BK186.out 1; have Y91_2 := blk_frozen BK186.out 2; have X92_0 := ct BK187.out 0; have X92_1 := ct BK187.out 1; have X92_2 := ct BK187.out 2; have Y92_0 := blk_frozen BK187.out 0; have Y92_1 := blk_frozen BK187.out 1; have Y92_2 := blk_frozen BK187.out 2))
       refine bodyPost_ret (results_list (rs := [.cell 6 23, .cell 7 23, .tmp 8]) rfl (by simp) (.cell gb186 23 #[.int .i64 0, .int .i64 0, .int .i64 0] (0, 0) _ rfl (by (with_reducible repeat (first | refine blk_drewN ?_ _ | refine blk_drew ?_ | refine blk_alloc ?_ _)); refine blk_far ?_ NB186_187.out _; refine blk_far ?_ NB186_187.out _; refine blk_far ?_ NB186_187.out _; refine blk_put (cs := #[.int .i64 0, .int .i64 0, .int .i64 0]) ?_ 2 _ rfl; refine blk_put (cs := #[.int .i64 0, .int .i64 0, .int .i64 0]) ?_ 1 _ rfl; refine blk_put (cs := #[.int .i64 0, .int .i64 0, .int .i64 0]) ?_ 0 _ rfl; refine blk_far ?_ NB186_201.out _; refine blk_far ?_ NB186_201.out _; refine blk_far ?_ NB186_201.out _; refine blk_far ?_ NB186_200.out _; refine blk_far ?_ NB186_200.out _; refine blk_far ?_ NB186_200.out _; (with_reducible repeat (first | refine blk_drewN ?_ _ | refine blk_drew ?_ | refine blk_alloc ?_ _)); exact BK186.out) Tryz.underlying23 rfl (by kernel_rfl) (.cell gb187 23 #[.int .i64 0, .int .i64 0, .int .i64 0] (0, 0) _ rfl (by (with_reducible repeat (first | refine blk_drewN ?_ _ | refine blk_drew ?_ | refine blk_alloc ?_ _)); refine blk_put (cs := #[.int .i64 0, .int .i64 0, .int .i64 0]) ?_ 2 _ rfl; refine blk_put (cs := #[.int .i64 0, .int .i64 0, .int .i64 0]) ?_ 1 _ rfl; refine blk_put (cs := #[.int .i64 0, .int .i64 0, .int .i64 0]) ?_ 0 _ rfl; refine blk_far ?_ NB187_186.out _; refine blk_far ?_ NB187_186.out _; refine blk_far ?_ NB187_186.out _; refine blk_far ?_ NB187_201.out _; refine blk_far ?_ NB187_201.out _; refine blk_far ?_ NB187_201.out _; refine blk_far ?_ NB187_200.out _; refine blk_far ?_ NB187_200.out _; refine blk_far ?_ NB187_200.out _; (with_reducible repeat (first | refine blk_drewN ?_ _ | refine blk_drew ?_ | refine blk_alloc ?_ _)); exact BK187.out) Tryz.underlying23 rfl (by kernel_rfl) (.tmp .nil)))) rfl ?_
       exact ⟨eqT, by repeat (first | (with_reducible first | exact HB.out | apply below_alloc | apply pw_below_drewN | apply below_drew1 | refine below_set ?_ GE186.out | refine below_set ?_ GE187.out | refine below_set ?_ GE200.out | refine below_set ?_ GE201.out) | exact HB.out)⟩
 ·rw [if_neg c5] at H
  have c5b0 : (t191 == 0) = false := beq_eq_false_iff_ne.mpr c5
  have c5b1 : (t191 != 0) = true := bne_iff_ne.mpr c5
  simp only [Option.some.injEq, Prod.mk.injEq] at H
  obtain ⟨rfl, rfl, rfl, rfl, rfl, rfl, rfl⟩ := H
  go_enter Tryz.func19, Tryz.ntmps19
  go_wp2_with (first | ((with_reducible refine gate_dst (N := 3) rfl ?_); refine box_event ?hg (N := 3) ?hd (cs := #[.int .i64 a0_0, .int .i64 a0_1, .int .i64 a0_2, .int .i64 a0_3, .int .i64 a0_4, .int .i64 a0_5, .slice A0_6 l0_6.length c0_6]) (t := 26) ?hr ?_; (case hd => rfl); (case hg => rfl); (case hr => first | (go_simp; done) | (go_simp; rfl)); intro gb184 hg w93 hbox hb; have n0_ := mk0 (below_step (wT HB.out) hb); have n1_ := mk0 (hbox); have n2_ := mk0 ((szT HB.out hg)); have n3_ := mk0 ((szT HB.out hg)); clear HB; have HB := n0_; have BK184 := n1_; have GW184 := n2_; have GE184 := n3_; clear n0_ n1_ n2_ n3_; clear hb hbox hg) | ((with_reducible refine gate_dst (N := 4) rfl ?_); refine box_event ?hg (N := 4) ?hd (cs := #[.int .i64 a1_0, .int .i64 a1_1, .int .i64 a1_2]) (t := 23) ?hr ?_; (case hd => rfl); (case hg => rfl); (case hr => first | (go_simp; done) | (go_simp; rfl)); intro gb185 hg w94 hbox hb; have n0_ := mk0 (bbT BK184.out hb); have n1_ := mk0 (below_step (wT HB.out) hb); have n2_ := mk0 (hbox); have n3_ := mk0 ((szT HB.out hg)); have n4_ := mk0 ((szT HB.out hg)); have n5_ := mk0 ((neL BK184.out hg)); have n6_ := mk0 ((neG BK184.out hg)); clear BK184; clear HB; have BK184 := n0_; have HB := n1_; have BK185 := n2_; have GW185 := n3_; have GE185 := n4_; have NB184_185 := n5_; have NB185_184 := n6_; clear n0_ n1_ n2_ n3_ n4_ n5_ n6_; clear hb hbox hg) | ((with_reducible refine gate_dst (N := 6) rfl ?_); refine box_event ?hg (N := 6) ?hd (cs := #[.int .i64 0, .int .i64 0, .int .i64 0]) (t := 23) ?hr ?_; (case hd => rfl); (case hg => rfl); (case hr => first | (go_simp; done) | (go_simp; rfl)); intro gb186 hg w95 hbox hb; have n0_ := mk0 (bbT BK184.out hb); have n1_ := mk0 (bbT BK185.out hb); have n2_ := mk0 (below_step (wT HB.out) hb); have n3_ := mk0 (hbox); have n4_ := mk0 ((szT HB.out hg)); have n5_ := mk0 ((szT HB.out hg)); have n6_ := mk0 ((neL BK184.out hg)); have n7_ := mk0 ((neG BK184.out hg)); have n8_ := mk0 ((neL BK185.out hg)); have n9_ := mk0 ((neG BK185.out hg)); clear BK184; clear BK185; clear HB; have BK184 := n0_; have BK185 := n1_; have HB := n2_; have BK186 := n3_; have GW186 := n4_; have GE186 := n5_; have NB184_186 := n6_; have NB186_184 := n7_; have NB185_186 := n8_; have NB186_185 := n9_; clear n0_ n1_ n2_ n3_ n4_ n5_ n6_ n7_ n8_ n9_; clear hb hbox hg) | ((with_reducible refine gate_dst (N := 7) rfl ?_); refine box_event ?hg (N := 7) ?hd (cs := #[.int .i64 0, .int .i64 0, .int .i64 0]) (t := 23) ?hr ?_; (case hd => rfl); (case hg => rfl); (case hr => first | (go_simp; done) | (go_simp; rfl)); intro gb187 hg w96 hbox hb; have n0_ := mk0 (bbT BK184.out hb); have n1_ := mk0 (bbT BK185.out hb); have n2_ := mk0 (bbT BK186.out hb); have n3_ := mk0 (below_step (wT HB.out) hb); have n4_ := mk0 (hbox); have n5_ := mk0 ((szT HB.out hg)); have n6_ := mk0 ((szT HB.out hg)); have n7_ := mk0 ((neL BK184.out hg)); have n8_ := mk0 ((neG BK184.out hg)); have n9_ := mk0 ((neL BK185.out hg)); have n10_ := mk0 ((neG BK185.out hg)); have n11_ := mk0 ((neL BK186.out hg)); have n12_ := mk0 ((neG BK186.out hg)); clear BK184; clear BK185; clear BK186; clear HB; have BK184 := n0_; have BK185 := n1_; have BK186 := n2_; have HB := n3_; have BK187 := n4_; have GW187 := n5_; have GE187 := n6_; have NB184_187 := n7_; have NB187_184 := n8_; have NB185_187 := n9_; have NB187_185 := n10_; have NB186_187 := n11_; have NB187_186 := n12_; clear n0_ n1_ n2_ n3_ n4_ n5_ n6_ n7_ n8_ n9_ n10_ n11_ n12_; clear hb hbox hg; have hnb97 := NB184_185.out; have hnc97 := NB185_184.out; have hnb98 := NB184_186.out; have hnc98 := NB186_184.out; have hnb99 := NB184_187.out; have hnc99 := NB187_184.out; have X100_0 := ct BK184.out 0; have X100_1 := ct BK184.out 1; have X100_2 := ct BK184.out 2; have X100_3 := ct BK184.out 3; have X100_4 := ct BK184.out 4; have X100_5 := ct BK184.out 5; have X100_6 := ct BK184.out 6; have Y100_0 := blk_frozen BK184.out 0; have Y100_1 := blk_frozen BK184.out 1; have Y100_2 := blk_frozen BK184.out 2; have Y100_3 := blk_frozen BK184.out 3; have Y100_4 := blk_frozen BK184.out 4; have Y100_5 := blk_frozen BK184.out 5; have Y100_6 := blk_frozen BK184.out 6; (try clear BK184 GW184 GE184); have hnb101 := NB185_186.out; have hnc101 := NB186_185.out; have hnb102 := NB185_187.out; have hnc102 := NB187_185.out; have X103_0 := ct BK185.out 0; have X103_1 := ct BK185.out 1; have X103_2 := ct BK185.out 2; have Y103_0 := blk_frozen BK185.out 0; have Y103_1 := blk_frozen BK185.out 1; have Y103_2 := blk_frozen BK185.out 2; (try clear BK185 GW185 GE185)) | ((with_reducible refine gate_dst (N := 15) rfl ?_); refine Kd.R_lit k23 _ 23 ?hg (N := 15) ?hd (xs := ([(⟨a1_0, a1_1, a1_2⟩ : S23)] : List (S23))) (inner := [.int .i64 a1_0, .int .i64 a1_1, .int .i64 a1_2]) (ok := fun _ => True) (okp := fun _ => True) ?hr ?hp (fun _ hk => hk) trivial (Below.refl _ _) (Nat.le_refl _) (by simp) ?_; (case hd => rfl); (case hg => rfl); (case hr => first | (go_simp; done) | (go_simp; rfl)); (case hp => exact (Reps.c3 (show Kd.M k23 _ _ _ (⟨a1_0, a1_1, a1_2⟩ : S23) [.int .i64 a1_0, .int .i64 a1_1, .int .i64 a1_2] from (k23_mkM _ _ _ (⟨a1_0, a1_1, a1_2⟩ : S23) )) (Reps.none _ _))); intro v189 w104 ho105 hb hg_ hnew_; clear hg_ hnew_; (first | rw [← Ny188.out] at ho105 | (simp only [Int.reduceToNat] at ho105; rw [← Ny188.out] at ho105)); have n0_ := mk0 (Kd.R_lower (Kd.R_newB (Kd.R_newB ho105 (g := gb186) (o := .cells #[.int .i64 0, .int .i64 0, .int .i64 0] 23 (0, 0)) (bT BK186.out)) (g := gb187) (o := .cells #[.int .i64 0, .int .i64 0, .int .i64 0] 23 (0, 0)) (bT BK187.out)) (below_size (wT HB.out))); have n1_ := mk0 (bbT BK186.out hb); have n2_ := mk0 (bbT BK187.out hb); have n3_ := mk0 (below_step (wT HB.out) hb); clear BK186; clear BK187; clear HB; have HO190 := n0_; have BK186 := n1_; have BK187 := n2_; have HB := n3_; clear n0_ n1_ n2_ n3_; clear hb ho105; obtain ⟨Ao106, co106, eo106⟩ := Kd.R_slice HO190.out; subst eo106) | ((with_reducible refine gate_callee (f := 38) rfl ?_); refine goesL_ (some 16) rfl rfl Tryz.func38 (by kernel_rfl) rfl #[.agg #[.int .i64 a0_0, .int .i64 a0_1, .int .i64 a0_2, .int .i64 a0_3, .int .i64 a0_4, .int .i64 a0_5, .slice A0_6 l0_6.length c0_6], .slice Ao106 y188.length co106] rfl mapT ?_; (with_reducible refine (probe_given.calls k a0_0 a0_1 a0_2 a0_3 a0_4 a0_5 _ _ l0_6 _ _ y188 t191 _ ?side1 ?side2 ?side3 ?side4 A4.out).mono ?_); (case side1 => repeat (first | exact (Kd.C_below HR0_6.out HB.out) | (with_reducible refine Kd.C_alloc ?_ _) | (with_reducible refine Kd.C_drewN ?_ _) | (with_reducible refine Kd.C_drew ?_))); (case side2 => exact HC0_6.out); (case side3 => repeat (first | exact (Kd.R_reads' HO190.out).2.2 | (with_reducible refine Kd.C_alloc ?_ _) | (with_reducible refine Kd.C_drewN ?_ _) | (with_reducible refine Kd.C_drew ?_))); (case side4 => exact (Kd.R_reads' HO190.out).2.1); rintro e w107 ⟨rfl, hb⟩; refine ⟨_, rfl, ?_⟩; have n0_ := mk0 (Kd.R_below (rT HO190.out) hb); have n1_ := mk0 (bbT BK186.out hb); have n2_ := mk0 (bbT BK187.out hb); have n3_ := mk0 (below_step (wT HB.out) hb); clear HO190; clear BK186; clear BK187; clear HB; have HO190 := n0_; have BK186 := n1_; have BK187 := n2_; have HB := n3_; clear n0_ n1_ n2_ n3_; (try clear hb); (try clear hb2); (try clear hk); (try clear hi); have hnb108 := NB186_187.out; have hnc108 := NB187_186.out; have X109_0 := ct BK186.out 0; have X109_1 := ct BK186.out 1; have X109_2 := ct BK186.out 2; have Y109_0 := blk_frozen BK186.out 0; have Y109_1 := blk_frozen BK186.out 1; have Y109_2 := blk_frozen BK186.out 2; have X110_0 := ct BK187.out 0; have X110_1 := ct BK187.out 1; have X110_2 := ct BK187.out 2; have Y110_0 := blk_frozen BK187.out 0; have Y110_1 := blk_frozen BK187.out 1; have Y110_2 := blk_frozen BK187.out 2))
  refine bodyPost_ret (results_list (rs := [.cell 6 23, .cell 7 23, .tmp 8]) rfl (by simp) (.cell gb186 23 #[.int .i64 0, .int .i64 0, .int .i64 0] (0, 0) _ rfl (by (with_reducible repeat (first | refine blk_drewN ?_ _ | refine blk_drew ?_ | refine blk_alloc ?_ _)); refine blk_far ?_ NB186_187.out _; refine blk_far ?_ NB186_187.out _; refine blk_far ?_ NB186_187.out _; refine blk_put (cs := #[.int .i64 0, .int .i64 0, .int .i64 0]) ?_ 2 _ rfl; refine blk_put (cs := #[.int .i64 0, .int .i64 0, .int .i64 0]) ?_ 1 _ rfl; refine blk_put (cs := #[.int .i64 0, .int .i64 0, .int .i64 0]) ?_ 0 _ rfl; (with_reducible repeat (first | refine blk_drewN ?_ _ | refine blk_drew ?_ | refine blk_alloc ?_ _)); exact BK186.out) Tryz.underlying23 rfl (by kernel_rfl) (.cell gb187 23 #[.int .i64 0, .int .i64 0, .int .i64 0] (0, 0) _ rfl (by (with_reducible repeat (first | refine blk_drewN ?_ _ | refine blk_drew ?_ | refine blk_alloc ?_ _)); refine blk_put (cs := #[.int .i64 0, .int .i64 0, .int .i64 0]) ?_ 2 _ rfl; refine blk_put (cs := #[.int .i64 0, .int .i64 0, .int .i64 0]) ?_ 1 _ rfl; refine blk_put (cs := #[.int .i64 0, .int .i64 0, .int .i64 0]) ?_ 0 _ rfl; refine blk_far ?_ NB187_186.out _; refine blk_far ?_ NB187_186.out _; refine blk_far ?_ NB187_186.out _; (with_reducible repeat (first | refine blk_drewN ?_ _ | refine blk_drew ?_ | refine blk_alloc ?_ _)); exact BK187.out) Tryz.underlying23 rfl (by kernel_rfl) (.tmp .nil)))) rfl ?_
  exact ⟨eqT, by repeat (first | (with_reducible first | exact HB.out | apply below_alloc | apply pw_below_drewN | apply below_drew1 | refine below_set ?_ GE186.out | refine below_set ?_ GE187.out) | exact HB.out)⟩
end Go.Proofs.YtolbjmaabghghaaGreatDoor.PA
