/- A part of the proof. -/
import Derived.Test.YtolbjmaabghghaaGreatDoorJ7EM1
namespace Go.Proofs.YtolbjmaabghghaaGreatDoor.PA
open Go.RowKit Go.PW Go.PL Go.PM
attribute [local go_sem] Oper.semAt_some
set_option linter.unusedVariables false
set_option linter.unusedSimpArgs false
def touchM.T1 : Bool × List (List Nat × List Nat) := (true, [([], []), ([0], [0]), ([1], [1]), ([2], [2]), ([], []), ([4], [4]), ([5], [5]), ([6], [6]), ([], []), ([3, 7, 8], [3, 7, 8]), ([9], [9]), ([10], [10]), ([10], [10]), ([10], [10]), ([], []), ([], []), ([14, 11, 9, 0, 1, 2, 3, 4, 5, 6, 7, 8, 9, 10, 11, 14, 15], [11, 14]), ([15, 12, 16, 0, 1, 2, 3, 4, 5, 6, 7, 8, 9, 10, 11, 12, 14, 15, 16], [12, 15]), ([13, 17, 0, 1, 2, 3, 4, 5, 6, 7, 8, 9, 10, 11, 12, 13, 14, 15, 16, 17], [13])])
def touchM.B1 : List Nat := [0, 1, 3, 7, 0, 16, 48, 112, 0, 511, 1023, 2047, 2047, 2047, 0, 0, 53247, 122879, 262143]
theorem touchM.tab1 : rtab .any (opsOf Tryz.f84 1) = touchM.T1 := by kernel_rfl
theorem touchM.bits1 : waitsOk touchM.T1.2 touchM.B1 = true := by kernel_rfl
def touchM.T6 : Bool × List (List Nat × List Nat) := (true, [([], []), ([], []), ([], []), ([], []), ([3], [3]), ([4], [4]), ([5], [5]), ([], []), ([7], [7]), ([6, 8], [6, 8]), ([0, 0, 2, 6, 9], [0]), ([10, 0, 2, 6, 9], [10]), ([11, 2, 9, 0, 2, 6, 9], [2, 11]), ([1, 0, 1, 2, 3, 4, 5, 6, 7, 8, 9, 10, 11, 12], [1]), ([13, 0, 1, 2, 3, 4, 5, 6, 7, 8, 9, 10, 11, 12], [13]), ([14, 9, 12, 0, 1, 2, 3, 4, 5, 6, 7, 8, 9, 10, 11, 12], [9, 14])])
def touchM.B6 : List Nat := [0, 0, 0, 0, 8, 24, 56, 0, 128, 504, 1021, 2045, 4093, 8191, 16383, 32767]
theorem touchM.tab6 : rtab .any (opsOf Tryz.f84 6) = touchM.T6 := by kernel_rfl
theorem touchM.bits6 : waitsOk touchM.T6.2 touchM.B6 = true := by kernel_rfl
set_option maxHeartbeats 16000000 in
set_option maxRecDepth 100000 in
theorem touch_calls (gm : Nat) (s0 s1 s2 s3 s4 s5 : Int) (A : Option Addr) (c : Nat) (l : List S84) (d : Int) (p p' : S23) (nt nt' : List S23) (sm sm' : List S76) (r : Int) (w : World) (hr : Kd.C k84 w A l.length l) (hc : l.length ≤ c)
  (hM : MAt gm s0 s1 s2 s3 s4 s5 A l.length c w p nt sm) (h : touchF s0 s1 s2 s3 s4 s5 l d p nt sm = some (r, p', nt', sm')) :
  Calls Tryz.prog 84 #[.pointer (some ⟨gm, 0, none⟩), .int .i64 d] w (DoPost gm s0 s1 s2 s3 s4 s5 A l.length c w r p' nt' sm') := by
 unfold touchF at h
 obtain ⟨⟨t0, t1, t2, t3, t4, t5, ok⟩, ht, h⟩ := Option.bind_eq_some_iff.1 h
 have HM := mk0 hM
 obtain ⟨vn, vs, N0, h1, h2, h3, h4, h5, h6, h7⟩ := hM
 obtain ⟨An, cn, rfl⟩ := Kd.R_slice h5
 have HLT : Aside0 (gm < w.heap.size) := ⟨blk_lt h4⟩
 have H4 := mk0 h4
 have H5 := mk0 h5
 have H6 := mk0 h6
 have H7 := mk0 h7
 have HN0 := mk0 h1
 have HN1 := mk0 h2
 have HL := mk0 h3
 have HT := mk0 ht
 have HR := mk0 hr
 have HC := mk0 hc
 have HH := mk0 h
 clear h4 h5 h6 h7 h1 h2 h3 ht hr hc h
 have hu23 := Tryz.underlying23
 have hu26 := Tryz.underlying26
 have hu118 := Tryz.underlying118
 have hu74 := Tryz.underlying74
 go_enter Tryz.func84, Tryz.ntmps84
 try go_wp2
 have B := mk0 (below_drew1 (Below.refl w.heap.size w))
 refine start_ (n := 19) (S := fun w' => True) (ds := []) #[false, false, false, false, false, false, false, false, false, false, false, false, false, false, false, false, false, false, false] (by kernel_rfl) rfl rfl trivial (fun hHeld => ?_); refine with_tabW touchM.tab1 touchM.bits1 (fun HT_ HW_ => ?_)
 generalize w.drew = wd at B hHeld ⊢
 refine pure_ (i := 0) (N := some 9) (v := ?_) (a' := ?_) #[true, false, false, false, false, false, false, false, false, false, false, false, false, false, false, false, false, false, false] rfl rfl (any_of HT_.out (by kernel_rfl)) (fun _ _ _ h => h) (Or.inl ⟨by rfl, ?_⟩) ?_ ?_
 rotate_left
 ·intro w'
  go_simp
  with_reducible rfl
 rotate_left
 ·simp only [Act.put, List.setIfInBounds_toArray, List.set_cons_zero, List.set_cons_succ, i64_w, i32_w]
  rfl
 refine pure_ (i := 4) (N := some 13) (v := ?_) (a' := ?_) #[true, false, false, false, true, false, false, false, false, false, false, false, false, false, false, false, false, false, false] rfl rfl (any_of HT_.out (by kernel_rfl)) (fun _ _ _ h => h) (Or.inl ⟨by rfl, ?_⟩) ?_ ?_
 rotate_left
 ·intro w'
  go_simp
  with_reducible rfl
 rotate_left
 ·simp only [Act.put, List.setIfInBounds_toArray, List.set_cons_zero, List.set_cons_succ, i64_w, i32_w]
  rfl
 refine pure_ (i := 8) (N := some 17) (v := ?_) (a' := ?_) #[true, false, false, false, true, false, false, false, true, false, false, false, false, false, false, false, false, false, false] rfl rfl (any_of HT_.out (by kernel_rfl)) (fun _ _ _ h => h) (Or.inl ⟨by rfl, ?_⟩) ?_ ?_
 rotate_left
 ·intro w'
  go_simp
  with_reducible rfl
 rotate_left
 ·simp only [Act.put, List.setIfInBounds_toArray, List.set_cons_zero, List.set_cons_succ, i64_w, i32_w]
  rfl
 refine inv_at [1, 2, 3, 5, 6, 7, 9, 10, 11, 12, 13, 14, 15, 16, 17, 18] (fun a0_ b a w' => ∃ (g5_ : Nat) (g6_ : Nat) (m14_ : Value) (m15_ : Value), a = putSel a0_ b [(1, 10, .pointer (some ⟨gm, 0, none⟩)), (2, 11, .pointer (some ⟨gm, 0, none⟩)), (3, 12, .agg #[.int .i64 s0, .int .i64 s1, .int .i64 s2, .int .i64 s3, .int .i64 s4, .int .i64 s5, .slice A l.length c]), (5, 14, .pointer (some ⟨gm, 0, none⟩)), (6, 15, .pointer (some ⟨gm, 7, none⟩)), (7, 16, .agg #[.int .i64 p.f0, .int .i64 p.f1, .int .i64 p.f2]), (9, 18, .tuple #[.agg #[.int .i64 t0, .int .i64 t1, .int .i64 t2], .agg #[.int .i64 t3, .int .i64 t4, .int .i64 t5], .bool ok]), (10, 8, .tuple #[.agg #[.int .i64 t0, .int .i64 t1, .int .i64 t2], .agg #[.int .i64 t3, .int .i64 t4, .int .i64 t5], .bool ok]), (11, 19, .agg #[.int .i64 t0, .int .i64 t1, .int .i64 t2]), (12, 20, .agg #[.int .i64 t3, .int .i64 t4, .int .i64 t5]), (13, 21, .bool ok), (14, 5, m14_), (15, 6, m15_), (18, 7, .bool ok)] ∧ (Below w.heap.size w w') ∧ (b 14 = true → b 16 = false → w'.heap[g5_]? = some (.cells #[.int .i64 0, .int .i64 0, .int .i64 0] 23 (0, 0))) ∧ (b 14 = true → w.heap.size ≤ g5_) ∧ (b 15 = true → b 17 = false → w'.heap[g6_]? = some (.cells #[.int .i64 0, .int .i64 0, .int .i64 0] 23 (0, 0))) ∧ (b 15 = true → w.heap.size ≤ g6_) ∧ (b 14 = true → b 15 = true → g5_ ≠ g6_) ∧ (b 16 = true → w'.heap[g5_]? = some (.cells #[.int .i64 t0, .int .i64 t1, .int .i64 t2] 23 (0, 0))) ∧ (b 17 = true → w'.heap[g6_]? = some (.cells #[.int .i64 t3, .int .i64 t4, .int .i64 t5] 23 (0, 0))) ∧ (b 14 = true → (m14_ : Value) = .pointer (some ⟨g5_, 0, none⟩)) ∧ (b 15 = true → (m15_ : Value) = .pointer (some ⟨g6_, 0, none⟩))) HT_.out HW_.out (by kernel_rfl) (by kernel_rfl) ?_ ?_ ?_
 ·exact ⟨0, 0, .bool false, .bool false, by simp only [putSel, Bool.false_eq_true, if_false], B.out, fun h_ => absurd h_ (by decide), fun h_ => absurd h_ (by decide), fun h_ => absurd h_ (by decide), fun h_ => absurd h_ (by decide), fun h_ => absurd h_ (by decide), fun h_ => absurd h_ (by decide), fun h_ => absurd h_ (by decide), fun h_ => absurd h_ (by decide), fun h_ => absurd h_ (by decide)⟩
 ·skip
  clear B
  refine steps_cons ?_ ?_
  ·rintro b a w' ⟨g5_, g6_, m14_, m15_, ha, Q_B, Q_A5, Q_G5, Q_A6, Q_G6, Q_N56, Q_S5, Q_S6, Q_X14_, Q_X15_⟩ hb_ hon hoff
   refine ⟨_, rfl, fun K hK => ?_⟩
   have e9 : a.tmps[9]? = some (.pointer (some ⟨gm, 0, none⟩)) := by rw [ha]; exact (putSel_off rfl).trans rfl
   replace ha := mk0 ha
   have B := mk0 Q_B
   refine value_ (w1 := w') (v := .pointer (some ⟨gm, 0, none⟩)) (by rfl) rfl ?_ ?_
   ·go_simp
    (try simp only [i64_w])
    try rfl
   refine hK.out _ _ ⟨g5_, g6_, m14_, m15_, (by rw [ha.out]; exact putSel_upk 0 hb_ rfl rfl rfl), Q_B, Q_A5, Q_G5, Q_A6, Q_G6, Q_N56, fun h0_ => absurd ((hoff 16 (by kernel_rfl)).symm.trans h0_) (by decide), fun h0_ => absurd ((hoff 17 (by kernel_rfl)).symm.trans h0_) (by decide), Q_X14_, Q_X15_⟩
  refine steps_cons ?_ ?_
  ·rintro b a w' ⟨g5_, g6_, m14_, m15_, ha, Q_B, Q_A5, Q_G5, Q_A6, Q_G6, Q_N56, Q_S5, Q_S6, Q_X14_, Q_X15_⟩ hb_ hon hoff
   refine ⟨_, rfl, fun K hK => ?_⟩
   have e10 : a.tmps[10]? = some (.pointer (some ⟨gm, 0, none⟩)) := by rw [ha]; exact putSel_on (e := (1, 10, .pointer (some ⟨gm, 0, none⟩))) 0 rfl rfl (hon 1 (by kernel_rfl)) rfl
   replace ha := mk0 ha
   have B := mk0 Q_B
   refine value_ (w1 := w') (v := .pointer (some ⟨gm, 0, none⟩)) (by rfl) rfl ?_ ?_
   ·go_simp
    (try simp only [i64_w])
    try rfl
   refine hK.out _ _ ⟨g5_, g6_, m14_, m15_, (by rw [ha.out]; exact putSel_upk 1 hb_ rfl rfl rfl), Q_B, Q_A5, Q_G5, Q_A6, Q_G6, Q_N56, fun h0_ => absurd ((hoff 16 (by kernel_rfl)).symm.trans h0_) (by decide), fun h0_ => absurd ((hoff 17 (by kernel_rfl)).symm.trans h0_) (by decide), Q_X14_, Q_X15_⟩
  refine steps_cons ?_ ?_
  ·rintro b a w' ⟨g5_, g6_, m14_, m15_, ha, Q_B, Q_A5, Q_G5, Q_A6, Q_G6, Q_N56, Q_S5, Q_S6, Q_X14_, Q_X15_⟩ hb_ hon hoff
   refine ⟨_, rfl, fun K hK => ?_⟩
   have e11 : a.tmps[11]? = some (.pointer (some ⟨gm, 0, none⟩)) := by rw [ha]; exact putSel_on (e := (2, 11, .pointer (some ⟨gm, 0, none⟩))) 1 rfl rfl (hon 2 (by kernel_rfl)) rfl
   replace ha := mk0 ha
   have B := mk0 Q_B
   have hc0_ : w'.cell? ⟨gm, 0, none⟩ = some (.int .i64 s0) := (blk_cell (blk_below H4.out B.out) 0).trans rfl
   have hc1_ : w'.cell? ⟨gm, 1, none⟩ = some (.int .i64 s1) := (blk_cell (blk_below H4.out B.out) 1).trans rfl
   have hc2_ : w'.cell? ⟨gm, 2, none⟩ = some (.int .i64 s2) := (blk_cell (blk_below H4.out B.out) 2).trans rfl
   have hc3_ : w'.cell? ⟨gm, 3, none⟩ = some (.int .i64 s3) := (blk_cell (blk_below H4.out B.out) 3).trans rfl
   have hc4_ : w'.cell? ⟨gm, 4, none⟩ = some (.int .i64 s4) := (blk_cell (blk_below H4.out B.out) 4).trans rfl
   have hc5_ : w'.cell? ⟨gm, 5, none⟩ = some (.int .i64 s5) := (blk_cell (blk_below H4.out B.out) 5).trans rfl
   have hc6_ : w'.cell? ⟨gm, 6, none⟩ = some (.slice A l.length c) := (blk_cell (blk_below H4.out B.out) 6).trans rfl
   refine value_ (w1 := w') (v := .agg #[.int .i64 s0, .int .i64 s1, .int .i64 s2, .int .i64 s3, .int .i64 s4, .int .i64 s5, .slice A l.length c]) (by rfl) rfl ?_ ?_
   ·go_simp
    (try simp only [i64_w])
    try rfl
   refine hK.out _ _ ⟨g5_, g6_, m14_, m15_, (by rw [ha.out]; exact putSel_upk 2 hb_ rfl rfl rfl), Q_B, Q_A5, Q_G5, Q_A6, Q_G6, Q_N56, fun h0_ => absurd ((hoff 16 (by kernel_rfl)).symm.trans h0_) (by decide), fun h0_ => absurd ((hoff 17 (by kernel_rfl)).symm.trans h0_) (by decide), Q_X14_, Q_X15_⟩
  refine steps_cons ?_ ?_
  ·rintro b a w' ⟨g5_, g6_, m14_, m15_, ha, Q_B, Q_A5, Q_G5, Q_A6, Q_G6, Q_N56, Q_S5, Q_S6, Q_X14_, Q_X15_⟩ hb_ hon hoff
   refine ⟨_, rfl, fun K hK => ?_⟩
   have e13 : a.tmps[13]? = some (.pointer (some ⟨gm, 0, none⟩)) := by rw [ha]; exact (putSel_off rfl).trans rfl
   replace ha := mk0 ha
   have B := mk0 Q_B
   refine value_ (w1 := w') (v := .pointer (some ⟨gm, 0, none⟩)) (by rfl) rfl ?_ ?_
   ·go_simp
    (try simp only [i64_w])
    try rfl
   refine hK.out _ _ ⟨g5_, g6_, m14_, m15_, (by rw [ha.out]; exact putSel_upk 3 hb_ rfl rfl rfl), Q_B, Q_A5, Q_G5, Q_A6, Q_G6, Q_N56, fun h0_ => absurd ((hoff 16 (by kernel_rfl)).symm.trans h0_) (by decide), fun h0_ => absurd ((hoff 17 (by kernel_rfl)).symm.trans h0_) (by decide), Q_X14_, Q_X15_⟩
  refine steps_cons ?_ ?_
  ·rintro b a w' ⟨g5_, g6_, m14_, m15_, ha, Q_B, Q_A5, Q_G5, Q_A6, Q_G6, Q_N56, Q_S5, Q_S6, Q_X14_, Q_X15_⟩ hb_ hon hoff
   refine ⟨_, rfl, fun K hK => ?_⟩
   have e14 : a.tmps[14]? = some (.pointer (some ⟨gm, 0, none⟩)) := by rw [ha]; exact putSel_on (e := (5, 14, .pointer (some ⟨gm, 0, none⟩))) 3 rfl rfl (hon 5 (by kernel_rfl)) rfl
   replace ha := mk0 ha
   have B := mk0 Q_B
   refine value_ (w1 := w') (v := .pointer (some ⟨gm, 7, none⟩)) (by rfl) rfl ?_ ?_
   ·go_simp
    (try simp only [i64_w])
    try rfl
   refine hK.out _ _ ⟨g5_, g6_, m14_, m15_, (by rw [ha.out]; exact putSel_upk 4 hb_ rfl rfl rfl), Q_B, Q_A5, Q_G5, Q_A6, Q_G6, Q_N56, fun h0_ => absurd ((hoff 16 (by kernel_rfl)).symm.trans h0_) (by decide), fun h0_ => absurd ((hoff 17 (by kernel_rfl)).symm.trans h0_) (by decide), Q_X14_, Q_X15_⟩
  refine steps_cons ?_ ?_
  ·rintro b a w' ⟨g5_, g6_, m14_, m15_, ha, Q_B, Q_A5, Q_G5, Q_A6, Q_G6, Q_N56, Q_S5, Q_S6, Q_X14_, Q_X15_⟩ hb_ hon hoff
   refine ⟨_, rfl, fun K hK => ?_⟩
   have e15 : a.tmps[15]? = some (.pointer (some ⟨gm, 7, none⟩)) := by rw [ha]; exact putSel_on (e := (6, 15, .pointer (some ⟨gm, 7, none⟩))) 4 rfl rfl (hon 6 (by kernel_rfl)) rfl
   replace ha := mk0 ha
   have B := mk0 Q_B
   have hc7_ : w'.cell? ⟨gm, 7, none⟩ = some (.int .i64 p.f0) := (blk_cell (blk_below H4.out B.out) 7).trans rfl
   have hc8_ : w'.cell? ⟨gm, 8, none⟩ = some (.int .i64 p.f1) := (blk_cell (blk_below H4.out B.out) 8).trans rfl
   have hc9_ : w'.cell? ⟨gm, 9, none⟩ = some (.int .i64 p.f2) := (blk_cell (blk_below H4.out B.out) 9).trans rfl
   refine value_ (w1 := w') (v := .agg #[.int .i64 p.f0, .int .i64 p.f1, .int .i64 p.f2]) (by rfl) rfl ?_ ?_
   ·go_simp
    (try simp only [i64_w])
    try rfl
   refine hK.out _ _ ⟨g5_, g6_, m14_, m15_, (by rw [ha.out]; exact putSel_upk 5 hb_ rfl rfl rfl), Q_B, Q_A5, Q_G5, Q_A6, Q_G6, Q_N56, fun h0_ => absurd ((hoff 16 (by kernel_rfl)).symm.trans h0_) (by decide), fun h0_ => absurd ((hoff 17 (by kernel_rfl)).symm.trans h0_) (by decide), Q_X14_, Q_X15_⟩
  refine steps_cons ?_ ?_
  ·rintro b a w' ⟨g5_, g6_, m14_, m15_, ha, Q_B, Q_A5, Q_G5, Q_A6, Q_G6, Q_N56, Q_S5, Q_S6, Q_X14_, Q_X15_⟩ hb_ hon hoff
   refine ⟨_, rfl, fun K hK => ?_⟩
   have e12 : a.tmps[12]? = some (.agg #[.int .i64 s0, .int .i64 s1, .int .i64 s2, .int .i64 s3, .int .i64 s4, .int .i64 s5, .slice A l.length c]) := by rw [ha]; exact putSel_on (e := (3, 12, .agg #[.int .i64 s0, .int .i64 s1, .int .i64 s2, .int .i64 s3, .int .i64 s4, .int .i64 s5, .slice A l.length c])) 2 rfl rfl (hon 3 (by kernel_rfl)) rfl
   have e16 : a.tmps[16]? = some (.agg #[.int .i64 p.f0, .int .i64 p.f1, .int .i64 p.f2]) := by rw [ha]; exact putSel_on (e := (7, 16, .agg #[.int .i64 p.f0, .int .i64 p.f1, .int .i64 p.f2])) 5 rfl rfl (hon 7 (by kernel_rfl)) rfl
   have e17 : a.tmps[17]? = some (.int .i64 d) := by rw [ha]; exact (putSel_off rfl).trans rfl
   replace ha := mk0 ha
   have B := mk0 Q_B
   refine goes_ Tryz.func47 (by kernel_rfl) rfl #[.agg #[.int .i64 s0, .int .i64 s1, .int .i64 s2, .int .i64 s3, .int .i64 s4, .int .i64 s5, .slice A l.length c], .agg #[.int .i64 p.f0, .int .i64 p.f1, .int .i64 p.f2], .int .i64 d] (by rfl) rfl rfl (by first | (simp only [List.map_toArray, List.map_cons, List.map_nil, Act.eval, Array.getD_eq_getD_getElem?, Option.getD_some, e12, e16, e17]; done) | (simp only [List.map_toArray, List.map_cons, List.map_nil, Act.eval, Array.getD_eq_getD_getElem?, Option.getD_some, e12, e16, e17]; rfl)) ?_
   refine (probe_Solid_touched.calls s0 s1 s2 s3 s4 s5 A c l p.f0 p.f1 p.f2 d t0 t1 t2 t3 t4 t5 ok _ (Kd.C_below HR.out B.out) HC.out HT.out).mono ?_
   rintro e w8 ⟨rfl, hb⟩
   refine ⟨_, rfl, ?_⟩
   refine hK.out _ _ ⟨g5_, g6_, m14_, m15_, (by rw [ha.out]; exact putSel_upk 6 hb_ rfl rfl rfl), below_step B.out hb, fun h0_ h1_ => blk_below (Q_A5 h0_ h1_) hb, Q_G5, fun h0_ h1_ => blk_below (Q_A6 h0_ h1_) hb, Q_G6, Q_N56, fun h0_ => absurd ((hoff 16 (by kernel_rfl)).symm.trans h0_) (by decide), fun h0_ => absurd ((hoff 17 (by kernel_rfl)).symm.trans h0_) (by decide), Q_X14_, Q_X15_⟩
  refine steps_cons ?_ ?_
  ·rintro b a w' ⟨g5_, g6_, m14_, m15_, ha, Q_B, Q_A5, Q_G5, Q_A6, Q_G6, Q_N56, Q_S5, Q_S6, Q_X14_, Q_X15_⟩ hb_ hon hoff
   refine ⟨_, rfl, fun K hK => ?_⟩
   have e18 : a.tmps[18]? = some (.tuple #[.agg #[.int .i64 t0, .int .i64 t1, .int .i64 t2], .agg #[.int .i64 t3, .int .i64 t4, .int .i64 t5], .bool ok]) := by rw [ha]; exact putSel_on (e := (9, 18, .tuple #[.agg #[.int .i64 t0, .int .i64 t1, .int .i64 t2], .agg #[.int .i64 t3, .int .i64 t4, .int .i64 t5], .bool ok])) 6 rfl rfl (hon 9 (by kernel_rfl)) rfl
   replace ha := mk0 ha
   have B := mk0 Q_B
   refine value_ (w1 := w') (v := .tuple #[.agg #[.int .i64 t0, .int .i64 t1, .int .i64 t2], .agg #[.int .i64 t3, .int .i64 t4, .int .i64 t5], .bool ok]) (by rfl) rfl ?_ ?_
   ·go_simp
    (try simp only [i64_w])
    try rfl
   refine hK.out _ _ ⟨g5_, g6_, m14_, m15_, (by rw [ha.out]; exact putSel_upk 7 hb_ rfl rfl rfl), Q_B, Q_A5, Q_G5, Q_A6, Q_G6, Q_N56, fun h0_ => absurd ((hoff 16 (by kernel_rfl)).symm.trans h0_) (by decide), fun h0_ => absurd ((hoff 17 (by kernel_rfl)).symm.trans h0_) (by decide), Q_X14_, Q_X15_⟩
  refine steps_cons ?_ ?_
  ·rintro b a w' ⟨g5_, g6_, m14_, m15_, ha, Q_B, Q_A5, Q_G5, Q_A6, Q_G6, Q_N56, Q_S5, Q_S6, Q_X14_, Q_X15_⟩ hb_ hon hoff
   refine ⟨_, rfl, fun K hK => ?_⟩
   have e8 : a.tmps[8]? = some (.tuple #[.agg #[.int .i64 t0, .int .i64 t1, .int .i64 t2], .agg #[.int .i64 t3, .int .i64 t4, .int .i64 t5], .bool ok]) := by rw [ha]; exact putSel_on (e := (10, 8, .tuple #[.agg #[.int .i64 t0, .int .i64 t1, .int .i64 t2], .agg #[.int .i64 t3, .int .i64 t4, .int .i64 t5], .bool ok])) 7 rfl rfl (hon 10 (by kernel_rfl)) rfl
   replace ha := mk0 ha
   have B := mk0 Q_B
   refine value_ (w1 := w') (v := .agg #[.int .i64 t0, .int .i64 t1, .int .i64 t2]) (by rfl) rfl ?_ ?_
   ·go_simp
    (try simp only [i64_w])
    try rfl
   refine hK.out _ _ ⟨g5_, g6_, m14_, m15_, (by rw [ha.out]; exact putSel_upk 8 hb_ rfl rfl rfl), Q_B, Q_A5, Q_G5, Q_A6, Q_G6, Q_N56, fun h0_ => absurd ((hoff 16 (by kernel_rfl)).symm.trans h0_) (by decide), fun h0_ => absurd ((hoff 17 (by kernel_rfl)).symm.trans h0_) (by decide), Q_X14_, Q_X15_⟩
  refine steps_cons ?_ ?_
  ·rintro b a w' ⟨g5_, g6_, m14_, m15_, ha, Q_B, Q_A5, Q_G5, Q_A6, Q_G6, Q_N56, Q_S5, Q_S6, Q_X14_, Q_X15_⟩ hb_ hon hoff
   refine ⟨_, rfl, fun K hK => ?_⟩
   have e8 : a.tmps[8]? = some (.tuple #[.agg #[.int .i64 t0, .int .i64 t1, .int .i64 t2], .agg #[.int .i64 t3, .int .i64 t4, .int .i64 t5], .bool ok]) := by rw [ha]; exact putSel_on (e := (10, 8, .tuple #[.agg #[.int .i64 t0, .int .i64 t1, .int .i64 t2], .agg #[.int .i64 t3, .int .i64 t4, .int .i64 t5], .bool ok])) 7 rfl rfl (hon 10 (by kernel_rfl)) rfl
   replace ha := mk0 ha
   have B := mk0 Q_B
   refine value_ (w1 := w') (v := .agg #[.int .i64 t3, .int .i64 t4, .int .i64 t5]) (by rfl) rfl ?_ ?_
   ·go_simp
    (try simp only [i64_w])
    try rfl
   refine hK.out _ _ ⟨g5_, g6_, m14_, m15_, (by rw [ha.out]; exact putSel_upk 9 hb_ rfl rfl rfl), Q_B, Q_A5, Q_G5, Q_A6, Q_G6, Q_N56, Q_S5, fun h0_ => absurd ((hoff 17 (by kernel_rfl)).symm.trans h0_) (by decide), Q_X14_, Q_X15_⟩
  refine steps_cons ?_ ?_
  ·rintro b a w' ⟨g5_, g6_, m14_, m15_, ha, Q_B, Q_A5, Q_G5, Q_A6, Q_G6, Q_N56, Q_S5, Q_S6, Q_X14_, Q_X15_⟩ hb_ hon hoff
   refine ⟨_, rfl, fun K hK => ?_⟩
   have e8 : a.tmps[8]? = some (.tuple #[.agg #[.int .i64 t0, .int .i64 t1, .int .i64 t2], .agg #[.int .i64 t3, .int .i64 t4, .int .i64 t5], .bool ok]) := by rw [ha]; exact putSel_on (e := (10, 8, .tuple #[.agg #[.int .i64 t0, .int .i64 t1, .int .i64 t2], .agg #[.int .i64 t3, .int .i64 t4, .int .i64 t5], .bool ok])) 7 rfl rfl (hon 10 (by kernel_rfl)) rfl
   replace ha := mk0 ha
   have B := mk0 Q_B
   refine value_ (w1 := w') (v := .bool ok) (by rfl) rfl ?_ ?_
   ·go_simp
    (try simp only [i64_w])
    try rfl
   refine hK.out _ _ ⟨g5_, g6_, m14_, m15_, (by rw [ha.out]; exact putSel_upk 10 hb_ rfl rfl rfl), Q_B, Q_A5, Q_G5, Q_A6, Q_G6, Q_N56, Q_S5, Q_S6, Q_X14_, Q_X15_⟩
  refine steps_cons ?_ ?_
  ·rintro b a w' ⟨g5_, g6_, m14_, m15_, ha, Q_B, Q_A5, Q_G5, Q_A6, Q_G6, Q_N56, Q_S5, Q_S6, Q_X14_, Q_X15_⟩ hb_ hon hoff
   refine ⟨_, rfl, fun K hK => ?_⟩
   replace ha := mk0 ha
   have B := mk0 Q_B
   refine box_step ?hg (N := 5) ?hd (cs := #[.int .i64 0, .int .i64 0, .int .i64 0]) (t := 23) ?hr ?_; (case hd => rfl); (case hg => rfl); (case hr => first | (go_simp; done) | (go_simp; rfl))
   intro gn_ hg w8 hbox hb
   refine hK.out _ _ ⟨gn_, g6_, (.pointer (some ⟨gn_, 0, none⟩)), m15_, (by rw [ha.out]; exact putSel_upk 11 hb_ rfl rfl rfl), below_step B.out hb, fun _ _ => hbox, fun _ => (by rw [hg]; exact B.out.size), fun h0_ h1_ => blk_below (Q_A6 h0_ h1_) hb, Q_G6, fun _ h1_ => (by rw [hg]; exact Nat.ne_of_gt (show g6_ < w'.heap.size from blk_lt (Q_A6 h1_ (hoff 17 (by kernel_rfl))))), fun h0_ => absurd ((hoff 16 (by kernel_rfl)).symm.trans h0_) (by decide), fun h0_ => absurd ((hoff 17 (by kernel_rfl)).symm.trans h0_) (by decide), fun _ => rfl, Q_X15_⟩
  refine steps_cons ?_ ?_
  ·rintro b a w' ⟨g5_, g6_, m14_, m15_, ha, Q_B, Q_A5, Q_G5, Q_A6, Q_G6, Q_N56, Q_S5, Q_S6, Q_X14_, Q_X15_⟩ hb_ hon hoff
   refine ⟨_, rfl, fun K hK => ?_⟩
   replace ha := mk0 ha
   have B := mk0 Q_B
   refine box_step ?hg (N := 6) ?hd (cs := #[.int .i64 0, .int .i64 0, .int .i64 0]) (t := 23) ?hr ?_; (case hd => rfl); (case hg => rfl); (case hr => first | (go_simp; done) | (go_simp; rfl))
   intro gn_ hg w8 hbox hb
   refine hK.out _ _ ⟨g5_, gn_, m14_, (.pointer (some ⟨gn_, 0, none⟩)), (by rw [ha.out]; exact putSel_upk 12 hb_ rfl rfl rfl), below_step B.out hb, fun h0_ h1_ => blk_below (Q_A5 h0_ h1_) hb, Q_G5, fun _ _ => hbox, fun _ => (by rw [hg]; exact B.out.size), fun h0_ _ => (by rw [hg]; exact Nat.ne_of_lt (show g5_ < w'.heap.size from blk_lt (Q_A5 h0_ (hoff 16 (by kernel_rfl))))), fun h0_ => absurd ((hoff 16 (by kernel_rfl)).symm.trans h0_) (by decide), fun h0_ => absurd ((hoff 17 (by kernel_rfl)).symm.trans h0_) (by decide), Q_X14_, fun _ => rfl⟩
  refine steps_cons ?_ ?_
  ·rintro b a w' ⟨g5_, g6_, m14_, m15_, ha, Q_B, Q_A5, Q_G5, Q_A6, Q_G6, Q_N56, Q_S5, Q_S6, Q_X14_, Q_X15_⟩ hb_ hon hoff
   refine ⟨_, rfl, fun K hK => ?_⟩
   have e5 : a.tmps[5]? = some (m14_) := by rw [ha]; exact putSel_on (e := (14, 5, m14_)) 11 rfl rfl (hon 14 (by kernel_rfl)) rfl
   rw [Q_X14_ (hon 14 (by kernel_rfl))] at e5
   have e19 : a.tmps[19]? = some (.agg #[.int .i64 t0, .int .i64 t1, .int .i64 t2]) := by rw [ha]; exact putSel_on (e := (11, 19, .agg #[.int .i64 t0, .int .i64 t1, .int .i64 t2])) 8 rfl rfl (hon 11 (by kernel_rfl)) rfl
   replace ha := mk0 ha
   have B := mk0 Q_B
   have A5 := mk0 (Q_A5 (hon 14 (by kernel_rfl)) hb_)
   have G5 := mk0 (Q_G5 (hon 14 (by kernel_rfl)))
   have A6 := mk0 (Q_A6 (hon 15 (by kernel_rfl)) (hoff 17 (by kernel_rfl)))
   have G6 := mk0 (Q_G6 (hon 15 (by kernel_rfl)))
   have N56 := mk0 (Q_N56 (hon 14 (by kernel_rfl)) (hon 15 (by kernel_rfl)))
   have hs0_ : w'.cell? ⟨g5_, 0, none⟩ = some (.int .i64 0) := ct A5.out 0
   have hs1_ : w'.cell? ⟨g5_, 1, none⟩ = some (.int .i64 0) := ct A5.out 1
   have hs2_ : w'.cell? ⟨g5_, 2, none⟩ = some (.int .i64 0) := ct A5.out 2
   have hf0_ := blk_frozen A5.out 0
   have hf1_ := blk_frozen A5.out 1
   have hf2_ := blk_frozen A5.out 2
   refine skip_ (w1 := ?_) (by rfl) rfl ?_ ?_
   rotate_left
   ·go_simp
    rfl
   refine hK.out _ _ ⟨g5_, g6_, m14_, m15_, (by rw [ha.out]; exact putSel_none (v := undef) rfl), (((B.out.setCell G5.out _).setCell G5.out _).setCell G5.out _), fun _ h1_ => absurd ((up_self b 16).symm.trans h1_) (by decide), Q_G5, fun _ _ => far3 A6.out (Ne.symm N56.out), Q_G6, Q_N56, fun _ => blk_put (blk_put (blk_put A5.out 0 _ rfl) 1 _ rfl) 2 _ rfl, fun h0_ => absurd ((hoff 17 (by kernel_rfl)).symm.trans h0_) (by decide), Q_X14_, Q_X15_⟩
  refine steps_cons ?_ ?_
  ·rintro b a w' ⟨g5_, g6_, m14_, m15_, ha, Q_B, Q_A5, Q_G5, Q_A6, Q_G6, Q_N56, Q_S5, Q_S6, Q_X14_, Q_X15_⟩ hb_ hon hoff
   refine ⟨_, rfl, fun K hK => ?_⟩
   have e6 : a.tmps[6]? = some (m15_) := by rw [ha]; exact putSel_on (e := (15, 6, m15_)) 12 rfl rfl (hon 15 (by kernel_rfl)) rfl
   rw [Q_X15_ (hon 15 (by kernel_rfl))] at e6
   have e20 : a.tmps[20]? = some (.agg #[.int .i64 t3, .int .i64 t4, .int .i64 t5]) := by rw [ha]; exact putSel_on (e := (12, 20, .agg #[.int .i64 t3, .int .i64 t4, .int .i64 t5])) 9 rfl rfl (hon 12 (by kernel_rfl)) rfl
   replace ha := mk0 ha
   have B := mk0 Q_B
   have G5 := mk0 (Q_G5 (hon 14 (by kernel_rfl)))
   have A6 := mk0 (Q_A6 (hon 15 (by kernel_rfl)) hb_)
   have G6 := mk0 (Q_G6 (hon 15 (by kernel_rfl)))
   have N56 := mk0 (Q_N56 (hon 14 (by kernel_rfl)) (hon 15 (by kernel_rfl)))
   have S5 := mk0 (Q_S5 (hon 16 (by kernel_rfl)))
   have hs0_ : w'.cell? ⟨g6_, 0, none⟩ = some (.int .i64 0) := ct A6.out 0
   have hs1_ : w'.cell? ⟨g6_, 1, none⟩ = some (.int .i64 0) := ct A6.out 1
   have hs2_ : w'.cell? ⟨g6_, 2, none⟩ = some (.int .i64 0) := ct A6.out 2
   have hf0_ := blk_frozen A6.out 0
   have hf1_ := blk_frozen A6.out 1
   have hf2_ := blk_frozen A6.out 2
   refine skip_ (w1 := ?_) (by rfl) rfl ?_ ?_
   rotate_left
   ·go_simp
    rfl
   refine hK.out _ _ ⟨g5_, g6_, m14_, m15_, (by rw [ha.out]; exact putSel_none (v := undef) rfl), (((B.out.setCell G6.out _).setCell G6.out _).setCell G6.out _), fun _ h1_ => absurd ((hon 16 (by kernel_rfl)).symm.trans h1_) (by decide), Q_G5, fun _ h1_ => absurd ((up_self b 17).symm.trans h1_) (by decide), Q_G6, Q_N56, fun _ => far3 S5.out N56.out, fun _ => blk_put (blk_put (blk_put A6.out 0 _ rfl) 1 _ rfl) 2 _ rfl, Q_X14_, Q_X15_⟩
  refine steps_cons ?_ ?_
  ·rintro b a w' ⟨g5_, g6_, m14_, m15_, ha, Q_B, Q_A5, Q_G5, Q_A6, Q_G6, Q_N56, Q_S5, Q_S6, Q_X14_, Q_X15_⟩ hb_ hon hoff
   refine ⟨_, rfl, fun K hK => ?_⟩
   have e21 : a.tmps[21]? = some (.bool ok) := by rw [ha]; exact putSel_on (e := (13, 21, .bool ok)) 10 rfl rfl (hon 13 (by kernel_rfl)) rfl
   replace ha := mk0 ha
   have B := mk0 Q_B
   have G5 := mk0 (Q_G5 (hon 14 (by kernel_rfl)))
   have G6 := mk0 (Q_G6 (hon 15 (by kernel_rfl)))
   have N56 := mk0 (Q_N56 (hon 14 (by kernel_rfl)) (hon 15 (by kernel_rfl)))
   have S5 := mk0 (Q_S5 (hon 16 (by kernel_rfl)))
   have S6 := mk0 (Q_S6 (hon 17 (by kernel_rfl)))
   refine value_ (w1 := w') (v := .bool ok) (by rfl) rfl ?_ ?_
   ·go_simp
    (try simp only [i64_w])
    try rfl
   refine hK.out _ _ ⟨g5_, g6_, m14_, m15_, (by rw [ha.out]; exact putSel_upk 13 hb_ rfl rfl rfl), Q_B, fun _ h1_ => absurd ((hon 16 (by kernel_rfl)).symm.trans h1_) (by decide), Q_G5, fun _ h1_ => absurd ((hon 17 (by kernel_rfl)).symm.trans h1_) (by decide), Q_G6, Q_N56, Q_S5, Q_S6, Q_X14_, Q_X15_⟩
  exact steps_nil
 rintro b a W hall ⟨g5_, g6_, m14_, m15_, ha, Q_B, Q_A5, Q_G5, Q_A6, Q_G6, Q_N56, Q_S5, Q_S6, Q_X14_, Q_X15_⟩
 clear B
 have hb1_ := hall 1 (by kernel_rfl)
 have hb2_ := hall 2 (by kernel_rfl)
 have hb3_ := hall 3 (by kernel_rfl)
 have hb5_ := hall 5 (by kernel_rfl)
 have hb6_ := hall 6 (by kernel_rfl)
 have hb7_ := hall 7 (by kernel_rfl)
 have hb9_ := hall 9 (by kernel_rfl)
 have hb10_ := hall 10 (by kernel_rfl)
 have hb11_ := hall 11 (by kernel_rfl)
 have hb12_ := hall 12 (by kernel_rfl)
 have hb13_ := hall 13 (by kernel_rfl)
 have hb14_ := hall 14 (by kernel_rfl)
 have hb15_ := hall 15 (by kernel_rfl)
 have hb16_ := hall 16 (by kernel_rfl)
 have hb17_ := hall 17 (by kernel_rfl)
 have hb18_ := hall 18 (by kernel_rfl)
 subst ha
 obtain rfl := Q_X14_ hb14_
 obtain rfl := Q_X15_ hb15_
 simp only [putSel, hb1_, hb2_, hb3_, hb5_, hb6_, hb7_, hb9_, hb10_, hb11_, hb12_, hb13_, hb14_, hb15_, hb16_, hb17_, hb18_, if_true, Act.put, List.setIfInBounds_toArray, List.set_cons_zero, List.set_cons_succ]
 have B := mk0 Q_B
 clear Q_B
 clear Q_A5
 have G5 := mk0 (Q_G5 hb14_)
 clear Q_G5
 clear Q_A6
 have G6 := mk0 (Q_G6 hb15_)
 clear Q_G6
 have N56 := mk0 (Q_N56 hb14_ hb15_)
 clear Q_N56
 have S5 := mk0 (Q_S5 hb16_)
 clear Q_S5
 have S6 := mk0 (Q_S6 hb17_)
 clear Q_S6
 clear hall hb1_ hb2_ hb3_ hb5_ hb6_ hb7_ hb9_ hb10_ hb11_ hb12_ hb13_ hb14_ hb15_ hb16_ hb17_ hb18_
 cases ok
 ·have h := HH.out
  simp only [Bool.false_eq_true, if_false, Option.some.injEq, Prod.mk.injEq] at h
  obtain ⟨rfl, rfl, rfl, rfl⟩ := h
  clear HH
  go_wp2
  go_ret
  exact ⟨rfl, B.out.mono (Nat.le_of_lt HLT.out), fun h => absurd h (by decide)⟩
 have hn10 : W.cell? ⟨gm, 10, none⟩ = some (.slice An nt.length cn) := (blk_cell (blk_below H4.out B.out) 10).trans rfl
 have h := HH.out
 simp only [if_true] at h
 by_cases h64 : nt.length = 64
 ·rw [if_pos h64] at h
  simp only [Option.some.injEq, Prod.mk.injEq] at h
  obtain ⟨rfl, rfl, rfl, rfl⟩ := h
  clear HH
  rw [h64] at hn10
  clear h64
  go_wp2
  go_ret
  exact ⟨rfl, B.out.mono (Nat.le_of_lt HLT.out), fun h => absurd h (by decide)⟩
 ·rw [if_neg h64] at h
  simp only [Option.some.injEq, Prod.mk.injEq] at h
  obtain ⟨rfl, rfl, rfl, rfl⟩ := h
  clear HH
  have h64d : ((nt.length : Int) == 64) = false := by simpa using (fun h => h64 (by omega))
  have h64n : (nt.length == 64) = false := by simpa using h64
  have HL2 : Aside0 (nt.length < 64) := ⟨by have := HL.out; omega⟩
  clear h64
  try go_wp2
  have HM4 := mk0 (blk_below H4.out B.out)
  have HR5 := mk0 (Kd.R_below H5.out B.out)
  have HS6 := mk0 (Kd.R_below H6.out B.out)
  have HBW := mk0 B.out
  have HNW : Aside0 (N0 ≤ W.heap.size) := ⟨Nat.le_trans HN1.out B.out.size⟩
  have HNE : Aside0 (∀ k, N0 ≤ k → k ≠ gm) := ⟨fun k hk => by have := HN0.out; omega⟩
  have HBG : Aside0 (Below gm w W) := ⟨B.out.mono (Nat.le_of_lt HLT.out)⟩
  have HGW : Aside0 (gm ≤ W.heap.size) := ⟨Nat.le_trans (Nat.le_of_lt HLT.out) B.out.size⟩
  have HO5 : Aside0 (∀ k, (Value.slice An nt.length cn).ownBlock = some k → k < w.heap.size) := ⟨Kd.R_lt H5.out⟩
  have NG5 : Aside0 (g5_ ≠ gm) := ⟨by have := G5.out; have := HLT.out; omega⟩
  have NG6 : Aside0 (g6_ ≠ gm) := ⟨by have := G6.out; have := HLT.out; omega⟩
  have P := mk0 (below_drew1 (Below.refl W.heap.size W))
  have K5 := mk0 (blk_drew S5.out)
  have K6 := mk0 (blk_drew S6.out)
  clear B hn10
  refine start_ (n := 16) (S := fun w' => True) (ds := []) #[false, false, false, false, false, false, false, false, false, false, false, false, false, false, false, false] (by kernel_rfl) rfl rfl trivial (fun hHeld => ?_); refine with_tabW touchM.tab6 touchM.bits6 (fun HT_ HW_ => ?_)
  generalize W.drew = wd at P K5 K6 hHeld ⊢
  refine pure_ (i := 0) (N := some 32) (v := ?_) (a' := ?_) #[true, false, false, false, false, false, false, false, false, false, false, false, false, false, false, false] rfl rfl (any_of HT_.out (by kernel_rfl)) (fun _ _ _ h => h) (Or.inl ⟨by rfl, ?_⟩) ?_ ?_
  rotate_left
  ·intro w'
   go_simp
   with_reducible rfl
  rotate_left
  ·simp only [Act.put, List.setIfInBounds_toArray, List.set_cons_zero, List.set_cons_succ, i64_w, i32_w]
   rfl
  refine pure_ (i := 1) (N := some 33) (v := ?_) (a' := ?_) #[true, true, false, false, false, false, false, false, false, false, false, false, false, false, false, false] rfl rfl (any_of HT_.out (by kernel_rfl)) (fun _ _ _ h => h) (Or.inl ⟨by rfl, ?_⟩) ?_ ?_
  rotate_left
  ·intro w'
   go_simp
   with_reducible rfl
  rotate_left
  ·simp only [Act.put, List.setIfInBounds_toArray, List.set_cons_zero, List.set_cons_succ, i64_w, i32_w]
   rfl
  refine pure_ (i := 3) (N := some 35) (v := ?_) (a' := ?_) #[true, true, false, true, false, false, false, false, false, false, false, false, false, false, false, false] rfl rfl (any_of HT_.out (by kernel_rfl)) (fun _ _ _ h => h) (Or.inl ⟨by rfl, ?_⟩) ?_ ?_
  rotate_left
  ·intro w'
   go_simp
   with_reducible rfl
  rotate_left
  ·simp only [Act.put, List.setIfInBounds_toArray, List.set_cons_zero, List.set_cons_succ, i64_w, i32_w]
   rfl
  refine inv_at [2, 4, 5, 6, 7, 8, 9, 10, 11, 12, 13, 14, 15] (fun a0_ b a w' => ∃ (W0_ : World) (v_ : Value) (m8_ : Value), a = putSel a0_ b [(2, 34, .agg #[.int .i64 t3, .int .i64 t4, .int .i64 t5]), (4, 36, .pointer (some ⟨gm, 0, none⟩)), (5, 37, .pointer (some ⟨gm, 10, none⟩)), (6, 38, .slice An nt.length cn), (7, 39, .agg #[.int .i64 t0, .int .i64 t1, .int .i64 t2]), (8, 40, m8_), (9, 41, v_), (10, 42, .pointer (some ⟨gm, 0, none⟩)), (11, 43, .pointer (some ⟨gm, 7, none⟩)), (13, 44, .pointer (some ⟨gm, 0, none⟩)), (14, 45, .pointer (some ⟨gm, 10, none⟩))] ∧ (b 9 = false → Below W.heap.size W w') ∧ (w'.heap[g5_]? = some (.cells #[.int .i64 t0, .int .i64 t1, .int .i64 t2] 23 (0, 0))) ∧ (w'.heap[g6_]? = some (.cells #[.int .i64 t3, .int .i64 t4, .int .i64 t5] 23 (0, 0))) ∧ (b 8 = true → b 9 = false → w' = W0_.alloc (.cells #[.int .i64 t0, .int .i64 t1, .int .i64 t2] 23) ∧ Below W.heap.size W W0_) ∧ (b 9 = true → Below gm w w') ∧ (b 9 = true → Kd.R k23 23 w' gm (fun k => N0 ≤ k) v_ (nt ++ [⟨t0, t1, t2⟩])) ∧ (b 9 = true → Kd.R k76 76 w' gm (fun k => gm < k ∧ k < N0) vs sm) ∧ (b 9 = true → W.heap.size ≤ w'.heap.size) ∧ (b 9 = true → b 12 = false → w'.heap[gm]? = some (.cells #[.int .i64 s0, .int .i64 s1, .int .i64 s2, .int .i64 s3, .int .i64 s4, .int .i64 s5, .slice A l.length c, .int .i64 p.f0, .int .i64 p.f1, .int .i64 p.f2, .slice An nt.length cn, vs] 118 (0, 0))) ∧ (b 12 = true → b 15 = false → w'.heap[gm]? = some (.cells #[.int .i64 s0, .int .i64 s1, .int .i64 s2, .int .i64 s3, .int .i64 s4, .int .i64 s5, .slice A l.length c, .int .i64 t3, .int .i64 t4, .int .i64 t5, .slice An nt.length cn, vs] 118 (0, 0))) ∧ (b 15 = true → w'.heap[gm]? = some (.cells #[.int .i64 s0, .int .i64 s1, .int .i64 s2, .int .i64 s3, .int .i64 s4, .int .i64 s5, .slice A l.length c, .int .i64 t3, .int .i64 t4, .int .i64 t5, v_, vs] 118 (0, 0))) ∧ (b 8 = true → (m8_ : Value) = .slice (some ⟨W0_.heap.size, 0, none⟩) 1 1)) HT_.out HW_.out (by kernel_rfl) (by kernel_rfl) ?_ ?_ ?_
  ·exact ⟨W, .bool false, .bool false, by simp only [putSel, Bool.false_eq_true, if_false], fun _ => P.out, K5.out, K6.out, fun h_ => absurd h_ (by decide), fun h_ => absurd h_ (by decide), fun h_ => absurd h_ (by decide), fun h_ => absurd h_ (by decide), fun h_ => absurd h_ (by decide), fun h_ => absurd h_ (by decide), fun h_ => absurd h_ (by decide), fun h_ => absurd h_ (by decide), fun h_ => absurd h_ (by decide)⟩
  ·skip
   clear K5 K6 P
   refine steps_cons ?_ ?_
   ·rintro b a w' ⟨W0_, v_, m8_, ha, Q_P, Q_K5, Q_K6, Q_H8, Q_B, Q_RV, Q_SV, Q_NZ, Q_MA, Q_MB, Q_MC, Q_X8_⟩ hb_ hon hoff
    refine ⟨_, rfl, fun K hK => ?_⟩
    have e6 : a.tmps[6]? = some (.pointer (some ⟨g6_, 0, none⟩)) := by rw [ha]; exact (putSel_off rfl).trans rfl
    replace ha := mk0 ha
    have K5 := mk0 Q_K5
    have K6 := mk0 Q_K6
    have hc0_ : w'.cell? ⟨g6_, 0, none⟩ = some (.int .i64 t3) := ct K6.out 0
    have hc1_ : w'.cell? ⟨g6_, 1, none⟩ = some (.int .i64 t4) := ct K6.out 1
    have hc2_ : w'.cell? ⟨g6_, 2, none⟩ = some (.int .i64 t5) := ct K6.out 2
    refine value_ (w1 := w') (v := .agg #[.int .i64 t3, .int .i64 t4, .int .i64 t5]) (by rfl) rfl ?_ ?_
    ·go_simp
     (try simp only [i64_w])
     try rfl
    refine hK.out _ _ ⟨W0_, v_, m8_, (by rw [ha.out]; exact putSel_upk 0 hb_ rfl rfl rfl), Q_P, Q_K5, Q_K6, Q_H8, Q_B, Q_RV, Q_SV, Q_NZ, Q_MA, fun h0_ _ => absurd ((hoff 12 (by kernel_rfl)).symm.trans h0_) (by decide), fun h0_ => absurd ((hoff 15 (by kernel_rfl)).symm.trans h0_) (by decide), Q_X8_⟩
   refine steps_cons ?_ ?_
   ·rintro b a w' ⟨W0_, v_, m8_, ha, Q_P, Q_K5, Q_K6, Q_H8, Q_B, Q_RV, Q_SV, Q_NZ, Q_MA, Q_MB, Q_MC, Q_X8_⟩ hb_ hon hoff
    refine ⟨_, rfl, fun K hK => ?_⟩
    have e35 : a.tmps[35]? = some (.pointer (some ⟨gm, 0, none⟩)) := by rw [ha]; exact (putSel_off rfl).trans rfl
    replace ha := mk0 ha
    have P := mk0 (Q_P (hoff 9 (by kernel_rfl)))
    have K5 := mk0 Q_K5
    have K6 := mk0 Q_K6
    refine value_ (w1 := w') (v := .pointer (some ⟨gm, 0, none⟩)) (by rfl) rfl ?_ ?_
    ·go_simp
     (try simp only [i64_w])
     try rfl
    refine hK.out _ _ ⟨W0_, v_, m8_, (by rw [ha.out]; exact putSel_upk 1 hb_ rfl rfl rfl), Q_P, Q_K5, Q_K6, Q_H8, fun h0_ => absurd ((hoff 9 (by kernel_rfl)).symm.trans h0_) (by decide), fun h0_ => absurd ((hoff 9 (by kernel_rfl)).symm.trans h0_) (by decide), fun h0_ => absurd ((hoff 9 (by kernel_rfl)).symm.trans h0_) (by decide), fun h0_ => absurd ((hoff 9 (by kernel_rfl)).symm.trans h0_) (by decide), fun h0_ _ => absurd ((hoff 9 (by kernel_rfl)).symm.trans h0_) (by decide), fun h0_ _ => absurd ((hoff 12 (by kernel_rfl)).symm.trans h0_) (by decide), fun h0_ => absurd ((hoff 15 (by kernel_rfl)).symm.trans h0_) (by decide), Q_X8_⟩
   refine steps_cons ?_ ?_
   ·rintro b a w' ⟨W0_, v_, m8_, ha, Q_P, Q_K5, Q_K6, Q_H8, Q_B, Q_RV, Q_SV, Q_NZ, Q_MA, Q_MB, Q_MC, Q_X8_⟩ hb_ hon hoff
    refine ⟨_, rfl, fun K hK => ?_⟩
    have e36 : a.tmps[36]? = some (.pointer (some ⟨gm, 0, none⟩)) := by rw [ha]; exact putSel_on (e := (4, 36, .pointer (some ⟨gm, 0, none⟩))) 1 rfl rfl (hon 4 (by kernel_rfl)) rfl
    replace ha := mk0 ha
    have P := mk0 (Q_P (hoff 9 (by kernel_rfl)))
    have K5 := mk0 Q_K5
    have K6 := mk0 Q_K6
    refine value_ (w1 := w') (v := .pointer (some ⟨gm, 10, none⟩)) (by rfl) rfl ?_ ?_
    ·go_simp
     (try simp only [i64_w])
     try rfl
    refine hK.out _ _ ⟨W0_, v_, m8_, (by rw [ha.out]; exact putSel_upk 2 hb_ rfl rfl rfl), Q_P, Q_K5, Q_K6, Q_H8, fun h0_ => absurd ((hoff 9 (by kernel_rfl)).symm.trans h0_) (by decide), fun h0_ => absurd ((hoff 9 (by kernel_rfl)).symm.trans h0_) (by decide), fun h0_ => absurd ((hoff 9 (by kernel_rfl)).symm.trans h0_) (by decide), fun h0_ => absurd ((hoff 9 (by kernel_rfl)).symm.trans h0_) (by decide), fun h0_ _ => absurd ((hoff 9 (by kernel_rfl)).symm.trans h0_) (by decide), fun h0_ _ => absurd ((hoff 12 (by kernel_rfl)).symm.trans h0_) (by decide), fun h0_ => absurd ((hoff 15 (by kernel_rfl)).symm.trans h0_) (by decide), Q_X8_⟩
   refine steps_cons ?_ ?_
   ·rintro b a w' ⟨W0_, v_, m8_, ha, Q_P, Q_K5, Q_K6, Q_H8, Q_B, Q_RV, Q_SV, Q_NZ, Q_MA, Q_MB, Q_MC, Q_X8_⟩ hb_ hon hoff
    refine ⟨_, rfl, fun K hK => ?_⟩
    have e37 : a.tmps[37]? = some (.pointer (some ⟨gm, 10, none⟩)) := by rw [ha]; exact putSel_on (e := (5, 37, .pointer (some ⟨gm, 10, none⟩))) 2 rfl rfl (hon 5 (by kernel_rfl)) rfl
    replace ha := mk0 ha
    have P := mk0 (Q_P (hoff 9 (by kernel_rfl)))
    have K5 := mk0 Q_K5
    have K6 := mk0 Q_K6
    have hc10_ : w'.cell? ⟨gm, 10, none⟩ = some (.slice An nt.length cn) := (blk_cell (blk_below HM4.out P.out) 10).trans rfl
    refine value_ (w1 := w') (v := .slice An nt.length cn) (by rfl) rfl ?_ ?_
    ·go_simp
     (try simp only [i64_w])
     try rfl
    refine hK.out _ _ ⟨W0_, v_, m8_, (by rw [ha.out]; exact putSel_upk 3 hb_ rfl rfl rfl), Q_P, Q_K5, Q_K6, Q_H8, fun h0_ => absurd ((hoff 9 (by kernel_rfl)).symm.trans h0_) (by decide), fun h0_ => absurd ((hoff 9 (by kernel_rfl)).symm.trans h0_) (by decide), fun h0_ => absurd ((hoff 9 (by kernel_rfl)).symm.trans h0_) (by decide), fun h0_ => absurd ((hoff 9 (by kernel_rfl)).symm.trans h0_) (by decide), fun h0_ _ => absurd ((hoff 9 (by kernel_rfl)).symm.trans h0_) (by decide), fun h0_ _ => absurd ((hoff 12 (by kernel_rfl)).symm.trans h0_) (by decide), fun h0_ => absurd ((hoff 15 (by kernel_rfl)).symm.trans h0_) (by decide), Q_X8_⟩
   refine steps_cons ?_ ?_
   ·rintro b a w' ⟨W0_, v_, m8_, ha, Q_P, Q_K5, Q_K6, Q_H8, Q_B, Q_RV, Q_SV, Q_NZ, Q_MA, Q_MB, Q_MC, Q_X8_⟩ hb_ hon hoff
    refine ⟨_, rfl, fun K hK => ?_⟩
    have e5 : a.tmps[5]? = some (.pointer (some ⟨g5_, 0, none⟩)) := by rw [ha]; exact (putSel_off rfl).trans rfl
    replace ha := mk0 ha
    have P := mk0 (Q_P (hoff 9 (by kernel_rfl)))
    have K5 := mk0 Q_K5
    have K6 := mk0 Q_K6
    have hc0_ : w'.cell? ⟨g5_, 0, none⟩ = some (.int .i64 t0) := ct K5.out 0
    have hc1_ : w'.cell? ⟨g5_, 1, none⟩ = some (.int .i64 t1) := ct K5.out 1
    have hc2_ : w'.cell? ⟨g5_, 2, none⟩ = some (.int .i64 t2) := ct K5.out 2
    refine value_ (w1 := w') (v := .agg #[.int .i64 t0, .int .i64 t1, .int .i64 t2]) (by rfl) rfl ?_ ?_
    ·go_simp
     (try simp only [i64_w])
     try rfl
    refine hK.out _ _ ⟨W0_, v_, m8_, (by rw [ha.out]; exact putSel_upk 4 hb_ rfl rfl rfl), Q_P, Q_K5, Q_K6, fun h0_ _ => absurd ((hoff 8 (by kernel_rfl)).symm.trans h0_) (by decide), fun h0_ => absurd ((hoff 9 (by kernel_rfl)).symm.trans h0_) (by decide), fun h0_ => absurd ((hoff 9 (by kernel_rfl)).symm.trans h0_) (by decide), fun h0_ => absurd ((hoff 9 (by kernel_rfl)).symm.trans h0_) (by decide), fun h0_ => absurd ((hoff 9 (by kernel_rfl)).symm.trans h0_) (by decide), fun h0_ _ => absurd ((hoff 9 (by kernel_rfl)).symm.trans h0_) (by decide), fun h0_ _ => absurd ((hoff 12 (by kernel_rfl)).symm.trans h0_) (by decide), fun h0_ => absurd ((hoff 15 (by kernel_rfl)).symm.trans h0_) (by decide), fun h0_ => absurd ((hoff 8 (by kernel_rfl)).symm.trans h0_) (by decide)⟩
   refine steps_cons ?_ ?_
   ·rintro b a w' ⟨W0_, v_, m8_, ha, Q_P, Q_K5, Q_K6, Q_H8, Q_B, Q_RV, Q_SV, Q_NZ, Q_MA, Q_MB, Q_MC, Q_X8_⟩ hb_ hon hoff
    refine ⟨_, rfl, fun K hK => ?_⟩
    have e39 : a.tmps[39]? = some (.agg #[.int .i64 t0, .int .i64 t1, .int .i64 t2]) := by rw [ha]; exact putSel_on (e := (7, 39, .agg #[.int .i64 t0, .int .i64 t1, .int .i64 t2])) 4 rfl rfl (hon 7 (by kernel_rfl)) rfl
    replace ha := mk0 ha
    have P := mk0 (Q_P (hoff 9 (by kernel_rfl)))
    have K5 := mk0 Q_K5
    have K6 := mk0 Q_K6
    refine value_ (w1 := w'.alloc (.cells #[.int .i64 t0, .int .i64 t1, .int .i64 t2] 23)) (v := .slice (some ⟨w'.heap.size, 0, none⟩) 1 1) (by rfl) rfl ?_ ?_
    ·go_simp
     try rfl
    refine hK.out _ _ ⟨w', v_, (.slice (some ⟨w'.heap.size, 0, none⟩) 1 1), (by rw [ha.out]; exact putSel_upk 5 hb_ rfl rfl rfl), fun _ => below_step P.out (below_alloc (Below.refl _ _) _), blk_alloc K5.out _, blk_alloc K6.out _, fun _ _ => ⟨rfl, P.out⟩, fun h0_ => absurd ((hoff 9 (by kernel_rfl)).symm.trans h0_) (by decide), fun h0_ => absurd ((hoff 9 (by kernel_rfl)).symm.trans h0_) (by decide), fun h0_ => absurd ((hoff 9 (by kernel_rfl)).symm.trans h0_) (by decide), fun h0_ => absurd ((hoff 9 (by kernel_rfl)).symm.trans h0_) (by decide), fun h0_ _ => absurd ((hoff 9 (by kernel_rfl)).symm.trans h0_) (by decide), fun h0_ _ => absurd ((hoff 12 (by kernel_rfl)).symm.trans h0_) (by decide), fun h0_ => absurd ((hoff 15 (by kernel_rfl)).symm.trans h0_) (by decide), fun _ => rfl⟩
   refine steps_cons ?_ ?_
   ·rintro b a w' ⟨W0_, v_, m8_, ha, Q_P, Q_K5, Q_K6, Q_H8, Q_B, Q_RV, Q_SV, Q_NZ, Q_MA, Q_MB, Q_MC, Q_X8_⟩ hb_ hon hoff
    refine ⟨_, rfl, fun K hK => ?_⟩
    have e38 : a.tmps[38]? = some (.slice An nt.length cn) := by rw [ha]; exact putSel_on (e := (6, 38, .slice An nt.length cn)) 3 rfl rfl (hon 6 (by kernel_rfl)) rfl
    have e40 : a.tmps[40]? = some (m8_) := by rw [ha]; exact putSel_on (e := (8, 40, m8_)) 5 rfl rfl (hon 8 (by kernel_rfl)) rfl
    rw [Q_X8_ (hon 8 (by kernel_rfl))] at e40
    replace ha := mk0 ha
    have P := mk0 (Q_P hb_)
    have K5 := mk0 Q_K5
    have K6 := mk0 Q_K6
    have H8 := mk0 (Q_H8 (hon 8 (by kernel_rfl)) hb_)
    obtain ⟨hw_, hB_⟩ := H8.out
    subst hw_
    refine Kd.R_append_step (w0 := w) k23 gm (by rfl) (.tmp 38) (.tmp 40) 74 23 (.agg #[.int .i64 0, .int .i64 0, .int .i64 0]) 24 rfl Tryz.underlying74 info23 rfl (by decide) (by decide) (.slice An nt.length cn) nt ⟨t0, t1, t2⟩ _ (fun k => N0 ≤ k) (fun _ => False) (by simp only [Act.eval, Array.getD_eq_getD_getElem?, e38, Option.getD_some]) (by simp only [Act.eval, Array.getD_eq_getD_getElem?, e40, Option.getD_some]) (k23_mkM _ _ _ _) (fun _ h_ => h_.elim) (fun k hk => Nat.le_trans HNW.out (Nat.le_trans hB_.size hk)) (Kd.R_below HR5.out hB_) (HBG.out.trans (hB_.mono HGW.out)) (Nat.le_trans HGW.out hB_.size) (by have := HL.out; omega) ?_
    intro v1 w8 hR1 hb1 hg1 hat1
    refine hK.out _ _ ⟨W0_, v1, m8_, (by rw [ha.out]; exact putSel_upk 6 hb_ rfl rfl rfl), fun h0_ => absurd ((up_self b 9).symm.trans h0_) (by decide), (hg1.block g5_ (blk_lt (blk_below (S5.out) hB_)) (fun he => by have h0_ := HO5.out g5_ he.symm; have h1_ := G5.out; omega)).trans (blk_below (S5.out) hB_), (hg1.block g6_ (blk_lt (blk_below (S6.out) hB_)) (fun he => by have h0_ := HO5.out g6_ he.symm; have h1_ := G6.out; omega)).trans (blk_below (S6.out) hB_), fun _ h1_ => absurd ((up_self b 9).symm.trans h1_) (by decide), fun _ => hb1, fun _ => hR1, fun h0_ => Kd.R_grown (Kd.R_below HS6.out hB_) hg1 (fun k hk he => by have h0_ := HR5.out.1 k he.symm; omega), fun _ => Nat.le_trans hB_.size hg1.size, fun h0_ _ => (hg1.block gm (Nat.lt_of_lt_of_le (blk_lt HM4.out) hB_.size) (fun he => by have h0_ := HR5.out.1 gm he.symm; have := HN0.out; omega)).trans (blk_below HM4.out hB_), fun h0_ _ => absurd ((hoff 12 (by kernel_rfl)).symm.trans h0_) (by decide), fun h0_ => absurd ((hoff 15 (by kernel_rfl)).symm.trans h0_) (by decide), Q_X8_⟩
   refine steps_cons ?_ ?_
   ·rintro b a w' ⟨W0_, v_, m8_, ha, Q_P, Q_K5, Q_K6, Q_H8, Q_B, Q_RV, Q_SV, Q_NZ, Q_MA, Q_MB, Q_MC, Q_X8_⟩ hb_ hon hoff
    refine ⟨_, rfl, fun K hK => ?_⟩
    have e32 : a.tmps[32]? = some (.pointer (some ⟨gm, 0, none⟩)) := by rw [ha]; exact (putSel_off rfl).trans rfl
    replace ha := mk0 ha
    have K5 := mk0 Q_K5
    have K6 := mk0 Q_K6
    have B := mk0 (Q_B (hon 9 (by kernel_rfl)))
    have RV := mk0 (Q_RV (hon 9 (by kernel_rfl)))
    have SV := mk0 (Q_SV (hon 9 (by kernel_rfl)))
    have NZ := mk0 (Q_NZ (hon 9 (by kernel_rfl)))
    have MA := mk0 (Q_MA (hon 9 (by kernel_rfl)) (hoff 12 (by kernel_rfl)))
    refine value_ (w1 := w') (v := .pointer (some ⟨gm, 0, none⟩)) (by rfl) rfl ?_ ?_
    ·go_simp
     (try simp only [i64_w])
     try rfl
    refine hK.out _ _ ⟨W0_, v_, m8_, (by rw [ha.out]; exact putSel_upk 7 hb_ rfl rfl rfl), fun h0_ => absurd ((hon 9 (by kernel_rfl)).symm.trans h0_) (by decide), Q_K5, Q_K6, fun _ h1_ => absurd ((hon 9 (by kernel_rfl)).symm.trans h1_) (by decide), Q_B, Q_RV, Q_SV, Q_NZ, Q_MA, fun h0_ _ => absurd ((hoff 12 (by kernel_rfl)).symm.trans h0_) (by decide), fun h0_ => absurd ((hoff 15 (by kernel_rfl)).symm.trans h0_) (by decide), Q_X8_⟩
   refine steps_cons ?_ ?_
   ·rintro b a w' ⟨W0_, v_, m8_, ha, Q_P, Q_K5, Q_K6, Q_H8, Q_B, Q_RV, Q_SV, Q_NZ, Q_MA, Q_MB, Q_MC, Q_X8_⟩ hb_ hon hoff
    refine ⟨_, rfl, fun K hK => ?_⟩
    have e42 : a.tmps[42]? = some (.pointer (some ⟨gm, 0, none⟩)) := by rw [ha]; exact putSel_on (e := (10, 42, .pointer (some ⟨gm, 0, none⟩))) 7 rfl rfl (hon 10 (by kernel_rfl)) rfl
    replace ha := mk0 ha
    have K5 := mk0 Q_K5
    have K6 := mk0 Q_K6
    have B := mk0 (Q_B (hon 9 (by kernel_rfl)))
    have RV := mk0 (Q_RV (hon 9 (by kernel_rfl)))
    have SV := mk0 (Q_SV (hon 9 (by kernel_rfl)))
    have NZ := mk0 (Q_NZ (hon 9 (by kernel_rfl)))
    have MA := mk0 (Q_MA (hon 9 (by kernel_rfl)) (hoff 12 (by kernel_rfl)))
    refine value_ (w1 := w') (v := .pointer (some ⟨gm, 7, none⟩)) (by rfl) rfl ?_ ?_
    ·go_simp
     (try simp only [i64_w])
     try rfl
    refine hK.out _ _ ⟨W0_, v_, m8_, (by rw [ha.out]; exact putSel_upk 8 hb_ rfl rfl rfl), fun h0_ => absurd ((hon 9 (by kernel_rfl)).symm.trans h0_) (by decide), Q_K5, Q_K6, fun _ h1_ => absurd ((hon 9 (by kernel_rfl)).symm.trans h1_) (by decide), Q_B, Q_RV, Q_SV, Q_NZ, Q_MA, fun h0_ _ => absurd ((hoff 12 (by kernel_rfl)).symm.trans h0_) (by decide), fun h0_ => absurd ((hoff 15 (by kernel_rfl)).symm.trans h0_) (by decide), Q_X8_⟩
   refine steps_cons ?_ ?_
   ·rintro b a w' ⟨W0_, v_, m8_, ha, Q_P, Q_K5, Q_K6, Q_H8, Q_B, Q_RV, Q_SV, Q_NZ, Q_MA, Q_MB, Q_MC, Q_X8_⟩ hb_ hon hoff
    refine ⟨_, rfl, fun K hK => ?_⟩
    have e43 : a.tmps[43]? = some (.pointer (some ⟨gm, 7, none⟩)) := by rw [ha]; exact putSel_on (e := (11, 43, .pointer (some ⟨gm, 7, none⟩))) 8 rfl rfl (hon 11 (by kernel_rfl)) rfl
    have e34 : a.tmps[34]? = some (.agg #[.int .i64 t3, .int .i64 t4, .int .i64 t5]) := by rw [ha]; exact putSel_on (e := (2, 34, .agg #[.int .i64 t3, .int .i64 t4, .int .i64 t5])) 0 rfl rfl (hon 2 (by kernel_rfl)) rfl
    replace ha := mk0 ha
    have K5 := mk0 Q_K5
    have K6 := mk0 Q_K6
    have B := mk0 (Q_B (hon 9 (by kernel_rfl)))
    have RV := mk0 (Q_RV (hon 9 (by kernel_rfl)))
    have SV := mk0 (Q_SV (hon 9 (by kernel_rfl)))
    have NZ := mk0 (Q_NZ (hon 9 (by kernel_rfl)))
    have MA := mk0 (Q_MA (hon 9 (by kernel_rfl)) hb_)
    have hs7_ : w'.cell? ⟨gm, 7, none⟩ = some (.int .i64 p.f0) := ct MA.out 7
    have hs8_ : w'.cell? ⟨gm, 8, none⟩ = some (.int .i64 p.f1) := ct MA.out 8
    have hs9_ : w'.cell? ⟨gm, 9, none⟩ = some (.int .i64 p.f2) := ct MA.out 9
    have hf7_ := blk_frozen MA.out 7
    have hf8_ := blk_frozen MA.out 8
    have hf9_ := blk_frozen MA.out 9
    refine skip_ (w1 := ?_) (by rfl) rfl ?_ ?_
    rotate_left
    ·go_simp
     rfl
    refine hK.out _ _ ⟨W0_, v_, m8_, (by rw [ha.out]; exact putSel_none (v := undef) rfl), fun h0_ => absurd ((hon 9 (by kernel_rfl)).symm.trans h0_) (by decide), farm (farm (farm K5.out NG5.out) NG5.out) NG5.out, farm (farm (farm K6.out NG6.out) NG6.out) NG6.out, fun _ h1_ => absurd ((hon 9 (by kernel_rfl)).symm.trans h1_) (by decide), fun _ => (((B.out.setCell (Nat.le_refl _) _).setCell (Nat.le_refl _) _).setCell (Nat.le_refl _) _), fun _ => Kd.R_far (Kd.R_far (Kd.R_far RV.out (fun k hk => HNE.out k hk) _) (fun k hk => HNE.out k hk) _) (fun k hk => HNE.out k hk) _, fun _ => Kd.R_far (Kd.R_far (Kd.R_far SV.out (fun k hk => (Nat.ne_of_gt hk.1)) _) (fun k hk => (Nat.ne_of_gt hk.1)) _) (fun k hk => (Nat.ne_of_gt hk.1)) _, fun _ => by simpa using NZ.out, fun _ h1_ => absurd ((up_self b 12).symm.trans h1_) (by decide), fun _ _ => blk_put (blk_put (blk_put MA.out 7 _ rfl) 8 _ rfl) 9 _ rfl, fun h0_ => absurd ((hoff 15 (by kernel_rfl)).symm.trans h0_) (by decide), Q_X8_⟩
   refine steps_cons ?_ ?_
   ·rintro b a w' ⟨W0_, v_, m8_, ha, Q_P, Q_K5, Q_K6, Q_H8, Q_B, Q_RV, Q_SV, Q_NZ, Q_MA, Q_MB, Q_MC, Q_X8_⟩ hb_ hon hoff
    refine ⟨_, rfl, fun K hK => ?_⟩
    have e33 : a.tmps[33]? = some (.pointer (some ⟨gm, 0, none⟩)) := by rw [ha]; exact (putSel_off rfl).trans rfl
    replace ha := mk0 ha
    have K5 := mk0 Q_K5
    have K6 := mk0 Q_K6
    have B := mk0 (Q_B (hon 9 (by kernel_rfl)))
    have RV := mk0 (Q_RV (hon 9 (by kernel_rfl)))
    have SV := mk0 (Q_SV (hon 9 (by kernel_rfl)))
    have NZ := mk0 (Q_NZ (hon 9 (by kernel_rfl)))
    have MB := mk0 (Q_MB (hon 12 (by kernel_rfl)) (hoff 15 (by kernel_rfl)))
    refine value_ (w1 := w') (v := .pointer (some ⟨gm, 0, none⟩)) (by rfl) rfl ?_ ?_
    ·go_simp
     (try simp only [i64_w])
     try rfl
    refine hK.out _ _ ⟨W0_, v_, m8_, (by rw [ha.out]; exact putSel_upk 9 hb_ rfl rfl rfl), fun h0_ => absurd ((hon 9 (by kernel_rfl)).symm.trans h0_) (by decide), Q_K5, Q_K6, fun _ h1_ => absurd ((hon 9 (by kernel_rfl)).symm.trans h1_) (by decide), Q_B, Q_RV, Q_SV, Q_NZ, fun _ h1_ => absurd ((hon 12 (by kernel_rfl)).symm.trans h1_) (by decide), Q_MB, fun h0_ => absurd ((hoff 15 (by kernel_rfl)).symm.trans h0_) (by decide), Q_X8_⟩
   refine steps_cons ?_ ?_
   ·rintro b a w' ⟨W0_, v_, m8_, ha, Q_P, Q_K5, Q_K6, Q_H8, Q_B, Q_RV, Q_SV, Q_NZ, Q_MA, Q_MB, Q_MC, Q_X8_⟩ hb_ hon hoff
    refine ⟨_, rfl, fun K hK => ?_⟩
    have e44 : a.tmps[44]? = some (.pointer (some ⟨gm, 0, none⟩)) := by rw [ha]; exact putSel_on (e := (13, 44, .pointer (some ⟨gm, 0, none⟩))) 9 rfl rfl (hon 13 (by kernel_rfl)) rfl
    replace ha := mk0 ha
    have K5 := mk0 Q_K5
    have K6 := mk0 Q_K6
    have B := mk0 (Q_B (hon 9 (by kernel_rfl)))
    have RV := mk0 (Q_RV (hon 9 (by kernel_rfl)))
    have SV := mk0 (Q_SV (hon 9 (by kernel_rfl)))
    have NZ := mk0 (Q_NZ (hon 9 (by kernel_rfl)))
    have MB := mk0 (Q_MB (hon 12 (by kernel_rfl)) (hoff 15 (by kernel_rfl)))
    refine value_ (w1 := w') (v := .pointer (some ⟨gm, 10, none⟩)) (by rfl) rfl ?_ ?_
    ·go_simp
     (try simp only [i64_w])
     try rfl
    refine hK.out _ _ ⟨W0_, v_, m8_, (by rw [ha.out]; exact putSel_upk 10 hb_ rfl rfl rfl), fun h0_ => absurd ((hon 9 (by kernel_rfl)).symm.trans h0_) (by decide), Q_K5, Q_K6, fun _ h1_ => absurd ((hon 9 (by kernel_rfl)).symm.trans h1_) (by decide), Q_B, Q_RV, Q_SV, Q_NZ, fun _ h1_ => absurd ((hon 12 (by kernel_rfl)).symm.trans h1_) (by decide), Q_MB, fun h0_ => absurd ((hoff 15 (by kernel_rfl)).symm.trans h0_) (by decide), Q_X8_⟩
   refine steps_cons ?_ ?_
   ·rintro b a w' ⟨W0_, v_, m8_, ha, Q_P, Q_K5, Q_K6, Q_H8, Q_B, Q_RV, Q_SV, Q_NZ, Q_MA, Q_MB, Q_MC, Q_X8_⟩ hb_ hon hoff
    refine ⟨_, rfl, fun K hK => ?_⟩
    have e45 : a.tmps[45]? = some (.pointer (some ⟨gm, 10, none⟩)) := by rw [ha]; exact putSel_on (e := (14, 45, .pointer (some ⟨gm, 10, none⟩))) 10 rfl rfl (hon 14 (by kernel_rfl)) rfl
    have e41 : a.tmps[41]? = some (v_) := by rw [ha]; exact putSel_on (e := (9, 41, v_)) 6 rfl rfl (hon 9 (by kernel_rfl)) rfl
    replace ha := mk0 ha
    have K5 := mk0 Q_K5
    have K6 := mk0 Q_K6
    have B := mk0 (Q_B (hon 9 (by kernel_rfl)))
    have RV := mk0 (Q_RV (hon 9 (by kernel_rfl)))
    have SV := mk0 (Q_SV (hon 9 (by kernel_rfl)))
    have NZ := mk0 (Q_NZ (hon 9 (by kernel_rfl)))
    have MB := mk0 (Q_MB (hon 12 (by kernel_rfl)) hb_)
    obtain ⟨A9_, c9_, e9_⟩ := Kd.R_slice RV.out
    rw [List.length_append, List.length_singleton] at e9_
    subst e9_
    have hs10_ : w'.cell? ⟨gm, 10, none⟩ = some (.slice An nt.length cn) := ct MB.out 10
    have hf10_ := blk_frozen MB.out 10
    refine skip_ (w1 := ?_) (by rfl) rfl ?_ ?_
    rotate_left
    ·go_simp
     rfl
    refine hK.out _ _ ⟨W0_, .slice A9_ (nt.length + 1) c9_, m8_, (by rw [ha.out]; exact putSel_none (v := undef) rfl), fun h0_ => absurd ((hon 9 (by kernel_rfl)).symm.trans h0_) (by decide), farm K5.out NG5.out, farm K6.out NG6.out, fun _ h1_ => absurd ((hon 9 (by kernel_rfl)).symm.trans h1_) (by decide), fun _ => (B.out.setCell (Nat.le_refl _) _), fun _ => Kd.R_far RV.out (fun k hk => HNE.out k hk) _, fun _ => Kd.R_far SV.out (fun k hk => (Nat.ne_of_gt hk.1)) _, fun _ => by simpa using NZ.out, fun _ h1_ => absurd ((hon 12 (by kernel_rfl)).symm.trans h1_) (by decide), fun _ h1_ => absurd ((up_self b 15).symm.trans h1_) (by decide), fun _ => blk_put MB.out 10 _ rfl, Q_X8_⟩
   exact steps_nil
  rintro b a W2 hall ⟨W0_, v_, m8_, ha, Q_P, Q_K5, Q_K6, Q_H8, Q_B, Q_RV, Q_SV, Q_NZ, Q_MA, Q_MB, Q_MC, Q_X8_⟩
  clear K5 K6 P
  have hb2_ := hall 2 (by kernel_rfl)
  have hb4_ := hall 4 (by kernel_rfl)
  have hb5_ := hall 5 (by kernel_rfl)
  have hb6_ := hall 6 (by kernel_rfl)
  have hb7_ := hall 7 (by kernel_rfl)
  have hb8_ := hall 8 (by kernel_rfl)
  have hb9_ := hall 9 (by kernel_rfl)
  have hb10_ := hall 10 (by kernel_rfl)
  have hb11_ := hall 11 (by kernel_rfl)
  have hb12_ := hall 12 (by kernel_rfl)
  have hb13_ := hall 13 (by kernel_rfl)
  have hb14_ := hall 14 (by kernel_rfl)
  have hb15_ := hall 15 (by kernel_rfl)
  subst ha
  obtain rfl := Q_X8_ hb8_
  simp only [putSel, hb2_, hb4_, hb5_, hb6_, hb7_, hb8_, hb9_, hb10_, hb11_, hb12_, hb13_, hb14_, hb15_, if_true, Act.put, List.setIfInBounds_toArray, List.set_cons_zero, List.set_cons_succ]
  clear Q_P
  have K5 := mk0 Q_K5
  clear Q_K5
  have K6 := mk0 Q_K6
  clear Q_K6
  clear Q_H8
  have B := mk0 (Q_B hb9_)
  clear Q_B
  have RV := mk0 (Q_RV hb9_)
  clear Q_RV
  have SV := mk0 (Q_SV hb9_)
  clear Q_SV
  have NZ := mk0 (Q_NZ hb9_)
  clear Q_NZ
  clear Q_MA
  clear Q_MB
  have MC := mk0 (Q_MC hb15_)
  clear Q_MC
  clear hall hb2_ hb4_ hb5_ hb6_ hb7_ hb8_ hb9_ hb10_ hb11_ hb12_ hb13_ hb14_ hb15_
  go_wp2
  go_ret
  refine ⟨rfl, B.out, fun _ => ⟨v_, vs, N0, HN0.out, Nat.le_trans HNW.out NZ.out, by have := HL2.out; simp; omega, MC.out, RV.out, SV.out, H7.out⟩⟩
end Go.Proofs.YtolbjmaabghghaaGreatDoor.PA
