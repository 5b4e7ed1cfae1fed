/- A part of the proof. -/
import Derived.Test.YtolbjmaabghghaaGreatDoorDPAx19
import Derived.Test.YtolbjmaabghghaaGreatDoorDPAx29
import Derived.Test.YtolbjmaabghghaaGreatDoorDEWay3
namespace Go.Proofs.YtolbjmaabghghaaGreatDoor.PA
open Go.RowKit Go.PW Go.PL Go.PM
set_option linter.unusedVariables false
set_option linter.unusedSimpArgs false
def metrolabref30_Open.l0 : Nat → Int → Int → Int → Int → Int → Int → List (S92) → Int → Int → Int → Int → Int → Int → Option (Bool)
 | 0, _, _, _, _, _, _, _, _, _, _, _, _, _ => none
 | k + 1, x652000, x652001, x652002, x652003, x652004, x652005, x652006, x654000, x654001, x654002, x655000, x655001, x655002 => (metrolabref30_Full.f k x652000 x652001 x652002 x652003 x652004 x652005 x652006 x655000 x655001 x655002).bind fun t655 => (if t655 = true then (some false) else (if (x655000 == x654000 && (x655001 == x654001 && (x655002 == x654002))) = true then (some true) else ((metrolabref30_toward.f x655000 x654000).bind fun t657 => ((metrolabref30_toward.f x655001 x654001).bind fun t658 => ((metrolabref30_toward.f x655002 x654002).bind fun t659 => (metrolabref30_Open.l0 k x652000 x652001 x652002 x652003 x652004 x652005 x652006 x654000 x654001 x654002 t657 t658 t659))))))
def metrolabref30_Open.f (k : Nat) (a0_0 : Int) (a0_1 : Int) (a0_2 : Int) (a0_3 : Int) (a0_4 : Int) (a0_5 : Int) (l0_6 : List (S92)) (a1_0 : Int) (a1_1 : Int) (a1_2 : Int) (a2_0 : Int) (a2_1 : Int) (a2_2 : Int) : Option (Bool) := metrolabref30_Open.l0 k a0_0 a0_1 a0_2 a0_3 a0_4 a0_5 l0_6 a2_0 a2_1 a2_2 a1_0 a1_1 a1_2
def openR.T2 : Bool × List (List Nat × List Nat) := (true, [([], []), ([0], [0]), ([], []), ([2], [2]), ([1, 3], [1, 3]), ([], []), ([5], [5]), ([], []), ([7], [7]), ([6, 8, 4], [6, 8]), ([], []), ([10], [10]), ([], []), ([12], [12]), ([11, 13, 9], [11, 13]), ([4, 9, 14], [4, 9, 14]), ([15, 14, 0, 1, 2, 3, 4, 5, 6, 7, 8, 9, 10, 11, 12, 13, 14, 15], [15])])
def openR.B2 : List Nat := [0, 1, 0, 4, 15, 0, 32, 0, 128, 511, 0, 1024, 0, 4096, 16383, 32767, 65535]
theorem openR.tab2 : rtab .any (opsOf Tryz.f63 2) = openR.T2 := by kernel_rfl
theorem openR.bits2 : waitsOk openR.T2.2 openR.B2 = true := by kernel_rfl
set_option maxHeartbeats 8000000 in
set_option maxRecDepth 100000 in
theorem metrolabref30_Open.calls (k : Nat) (a0_0 : Int) (a0_1 : Int) (a0_2 : Int) (a0_3 : Int) (a0_4 : Int) (a0_5 : Int) (A0_6 : Option Addr) (c0_6 : Nat) (l0_6 : List (S92)) (a1_0 : Int) (a1_1 : Int) (a1_2 : Int) (a2_0 : Int) (a2_1 : Int) (a2_2 : Int) (r : Bool) (w : World) (hr0_6 : Kd.C k92 w A0_6 l0_6.length l0_6) (hc0_6 : l0_6.length ≤ c0_6) (h : metrolabref30_Open.f k a0_0 a0_1 a0_2 a0_3 a0_4 a0_5 l0_6 a1_0 a1_1 a1_2 a2_0 a2_1 a2_2 = some r) :
  Calls Tryz.prog 63 #[.agg #[.int .i64 a0_0, .int .i64 a0_1, .int .i64 a0_2, .int .i64 a0_3, .int .i64 a0_4, .int .i64 a0_5, .slice A0_6 l0_6.length c0_6], .agg #[.int .i64 a1_0, .int .i64 a1_1, .int .i64 a1_2], .agg #[.int .i64 a2_0, .int .i64 a2_1, .int .i64 a2_2]] w fun e w' => e = .returned (.bool r) ∧ Below w.heap.size w w' := by
 have hu30 := Tryz.underlying30
 have hu23 := Tryz.underlying23
 have HR := mk0 hr0_6
 have HC := mk0 hc0_6
 have HH := mk0 h
 clear hr0_6 hc0_6 h
 go_enter Tryz.func63, Tryz.ntmps63
 go_wp2
 go_loopg [7] k (fun kq v w' => ∃ (g : Nat) (p : S23), v = .pointer (some ⟨g, 0, none⟩) ∧ Aside0 (metrolabref30_Open.l0 kq a0_0 a0_1 a0_2 a0_3 a0_4 a0_5 l0_6 a2_0 a2_1 a2_2 p.f0 p.f1 p.f2 = some r) ∧ Aside0 (kq ≤ k) ∧ Aside0 (w'.heap[w.heap.size]? = some (.cells #[.int .i64 a0_0, .int .i64 a0_1, .int .i64 a0_2, .int .i64 a0_3, .int .i64 a0_4, .int .i64 a0_5, .slice A0_6 l0_6.length c0_6] 30 (0, 0))) ∧ Aside0 (w'.heap[w.heap.size + 1 + 1]? = some (.cells #[.int .i64 a2_0, .int .i64 a2_1, .int .i64 a2_2] 23 (0, 0))) ∧ Aside0 (w'.heap[g]? = some (.cells #[.int .i64 p.f0, .int .i64 p.f1, .int .i64 p.f2] 23 (0, 0))) ∧ Aside0 (Below w.heap.size w w'))
 case atStart => exact ⟨_, ⟨a1_0, a1_1, a1_2⟩, rfl, HH, ⟨Nat.le_refl _⟩, ⟨blk_alloc (blk_alloc (blk_alloc (blk_new w _) _) _) _⟩, ⟨blk_alloc (blk_newE _ _ (by simp)) _⟩, ⟨blk_newE _ _ (by simp)⟩, ⟨below_alloc (below_alloc (below_alloc (below_alloc (Below.refl _ _) _) _) _) _⟩⟩
 case round =>
  obtain ⟨g, p, rfl, HA, HK1, S0, T0, X0, B0⟩ := hrel
  clear HH
  cases gk with
  | zero => exact absurd HA.out (by simp [metrolabref30_Open.l0])
  | succ k1 =>
   have H := HA.out
   clear HA
   simp only [metrolabref30_Open.l0] at H
   obtain ⟨b, hb, H⟩ := Option.bind_eq_some_iff.1 H
   have HF := mk0 hb
   clear hb
   have x0 := ct X0.out 0
   have x1 := ct X0.out 1
   have x2 := ct X0.out 2
   have s0 := ct S0.out 0
   have s1 := ct S0.out 1
   have s2 := ct S0.out 2
   have s3 := ct S0.out 3
   have s4 := ct S0.out 4
   have s5 := ct S0.out 5
   have s6 := ct S0.out 6
   cases b
   case true =>
    simp only [if_true, Option.some.injEq] at H
    subst H
    go_wp2_with (first | (go_at_call 41; refine (metrolabref30_Full.calls k1 a0_0 a0_1 a0_2 a0_3 a0_4 a0_5 A0_6 c0_6 l0_6 p.f0 p.f1 p.f2 _ _ (Kd.C_below HR.out B0.out) HC.out HF.out).mono ?_; rintro e W3 ⟨rfl, hb⟩; have S3 := mk0 (blk_below S0.out hb); have X3 := mk0 (blk_below X0.out hb); have T3 := mk0 (blk_below T0.out hb); have B3 := mk0 (below_step B0.out hb); clear hb x0 x1 x2 s0 s1 s2 s3 s4 s5 s6; have x0 := ct X3.out 0; have x1 := ct X3.out 1; have x2 := ct X3.out 2; have t0 := ct T3.out 0; have t1 := ct T3.out 1; have t2 := ct T3.out 2))
    go_ret
    exact ⟨rfl, B3.out⟩
   simp only [Bool.false_eq_true, if_false] at H
   cases hE : (p.f0 == a2_0 && (p.f1 == a2_1 && (p.f2 == a2_2)))
   case true =>
    rw [hE] at H
    simp only [if_true, Option.some.injEq] at H
    subst H
    have hE1 := hE
    simp only [Bool.and_eq_true, beq_iff_eq] at hE1
    obtain ⟨g1, g2, g3⟩ := hE1
    have h1 : (p.f0 == a2_0) = true := beq_iff_eq.2 g1
    have h2 : (p.f1 == a2_1) = true := beq_iff_eq.2 g2
    have h3 : (p.f2 == a2_2) = true := beq_iff_eq.2 g3
    clear g1 g2 g3
    go_wp2_with (first | (go_at_call 41; refine (metrolabref30_Full.calls k1 a0_0 a0_1 a0_2 a0_3 a0_4 a0_5 A0_6 c0_6 l0_6 p.f0 p.f1 p.f2 _ _ (Kd.C_below HR.out B0.out) HC.out HF.out).mono ?_; rintro e W3 ⟨rfl, hb⟩; have S3 := mk0 (blk_below S0.out hb); have X3 := mk0 (blk_below X0.out hb); have T3 := mk0 (blk_below T0.out hb); have B3 := mk0 (below_step B0.out hb); clear hb x0 x1 x2 s0 s1 s2 s3 s4 s5 s6; have x0 := ct X3.out 0; have x1 := ct X3.out 1; have x2 := ct X3.out 2; have t0 := ct T3.out 0; have t1 := ct T3.out 1; have t2 := ct T3.out 2))
    go_ret
    exact ⟨rfl, B3.out⟩
   rw [hE] at H
   simp only [Bool.false_eq_true, if_false] at H
   obtain ⟨q0, hq0, H⟩ := Option.bind_eq_some_iff.1 H
   obtain ⟨q1, hq1, H⟩ := Option.bind_eq_some_iff.1 H
   obtain ⟨q2, hq2, H⟩ := Option.bind_eq_some_iff.1 H
   have HQ0 := mk0 hq0
   have HQ1 := mk0 hq1
   have HQ2 := mk0 hq2
   have HN := mk0 H
   clear hq0 hq1 hq2 H
   have hcase : (p.f0 == a2_0) = false ∨ ((p.f0 == a2_0) = true ∧ (p.f1 == a2_1) = false) ∨ ((p.f0 == a2_0) = true ∧ (p.f1 == a2_1) = true ∧ (p.f2 == a2_2) = false) := by
    cases h1 : (p.f0 == a2_0)
    ·exact .inl rfl
    ·cases h2 : (p.f1 == a2_1)
     ·exact .inr (.inl ⟨rfl, rfl⟩)
     ·cases h3 : (p.f2 == a2_2)
      ·exact .inr (.inr ⟨rfl, rfl, rfl⟩)
      ·rw [h1, h2, h3] at hE
       exact absurd hE (by decide)
   clear hE
   rcases hcase with h1 | ⟨h1, h2⟩ | ⟨h1, h2, h3⟩
   all_goals
    go_wp2_with (first | (go_at_call 41; refine (metrolabref30_Full.calls k1 a0_0 a0_1 a0_2 a0_3 a0_4 a0_5 A0_6 c0_6 l0_6 p.f0 p.f1 p.f2 _ _ (Kd.C_below HR.out B0.out) HC.out HF.out).mono ?_; rintro e W3 ⟨rfl, hb⟩; have S3 := mk0 (blk_below S0.out hb); have X3 := mk0 (blk_below X0.out hb); have T3 := mk0 (blk_below T0.out hb); have B3 := mk0 (below_step B0.out hb); clear hb x0 x1 x2 s0 s1 s2 s3 s4 s5 s6; have x0 := ct X3.out 0; have x1 := ct X3.out 1; have x2 := ct X3.out 2; have t0 := ct T3.out 0; have t1 := ct T3.out 1; have t2 := ct T3.out 2))
    have S := mk0 (blk_drew (blk_alloc S3.out (.cells #[.int .i64 p.f0, .int .i64 p.f1, .int .i64 p.f2] 23)))
    have TT := mk0 (blk_drew (blk_alloc T3.out (.cells #[.int .i64 p.f0, .int .i64 p.f1, .int .i64 p.f2] 23)))
    have NN := mk0 (blk_drew (blk_new W3 (.cells #[.int .i64 p.f0, .int .i64 p.f1, .int .i64 p.f2] 23)))
    have B := mk0 (below_drew1 (below_alloc B3.out (.cells #[.int .i64 p.f0, .int .i64 p.f1, .int .i64 p.f2] 23)))
    have HGN : Aside0 (w.heap.size ≤ W3.heap.size) := ⟨B3.out.size⟩
    have NS : Aside0 (w.heap.size ≠ W3.heap.size) := ⟨Nat.ne_of_lt (blk_lt S3.out)⟩
    have NT : Aside0 (w.heap.size + 1 + 1 ≠ W3.heap.size) := ⟨Nat.ne_of_lt (blk_lt T3.out)⟩
    generalize W3.alloc (.cells #[.int .i64 p.f0, .int .i64 p.f1, .int .i64 p.f2] 23) = W at S TT NN B ⊢
    generalize W3.heap.size = gn at HGN NS NT NN ⊢
    have P := mk0 (below_drew1 (Below.refl W.heap.size W))
    clear x0 x1 x2 t0 t1 t2 B3 S3 T3 X3
    refine start_ (n := 17) (S := fun w' => True) (ds := []) #[false, false, false, false, false, false, false, false, false, false, false, false, false, false, false, false, false] (by kernel_rfl) rfl rfl trivial (fun hHeld => ?_); refine with_tabW openR.tab2 openR.bits2 (fun HT_ HW_ => ?_)
    generalize W.drew = wd at P B S TT NN hHeld ⊢
    refine pure_ (i := 0) (N := some 9) (v := ?_) (a' := ?_) #[true, false, false, false, false, false, false, false, false, false, false, false, false, false, false, false, false] rfl rfl (any_of HT_.out (by kernel_rfl)) (fun _ _ _ h => h) (Or.inl ⟨by rfl, ?_⟩) ?_ ?_
    rotate_left
    ·intro w'
     go_simp
     with_reducible rfl
    rotate_left
    ·simp only [Act.put, List.setIfInBounds_toArray, List.set_cons_zero, List.set_cons_succ, i64_w, i32_w]
     rfl
    refine pure_ (i := 2) (N := some 11) (v := ?_) (a' := ?_) #[true, false, true, false, false, false, false, false, false, false, false, false, false, false, false, false, false] rfl rfl (any_of HT_.out (by kernel_rfl)) (fun _ _ _ h => h) (Or.inl ⟨by rfl, ?_⟩) ?_ ?_
    rotate_left
    ·intro w'
     go_simp
     with_reducible rfl
    rotate_left
    ·simp only [Act.put, List.setIfInBounds_toArray, List.set_cons_zero, List.set_cons_succ, i64_w, i32_w]
     rfl
    refine pure_ (i := 5) (N := some 14) (v := ?_) (a' := ?_) #[true, false, true, false, false, true, false, false, false, false, false, false, false, false, false, false, false] rfl rfl (any_of HT_.out (by kernel_rfl)) (fun _ _ _ h => h) (Or.inl ⟨by rfl, ?_⟩) ?_ ?_
    rotate_left
    ·intro w'
     go_simp
     with_reducible rfl
    rotate_left
    ·simp only [Act.put, List.setIfInBounds_toArray, List.set_cons_zero, List.set_cons_succ, i64_w, i32_w]
     rfl
    refine pure_ (i := 7) (N := some 16) (v := ?_) (a' := ?_) #[true, false, true, false, false, true, false, true, false, false, false, false, false, false, false, false, false] rfl rfl (any_of HT_.out (by kernel_rfl)) (fun _ _ _ h => h) (Or.inl ⟨by rfl, ?_⟩) ?_ ?_
    rotate_left
    ·intro w'
     go_simp
     with_reducible rfl
    rotate_left
    ·simp only [Act.put, List.setIfInBounds_toArray, List.set_cons_zero, List.set_cons_succ, i64_w, i32_w]
     rfl
    refine pure_ (i := 10) (N := some 19) (v := ?_) (a' := ?_) #[true, false, true, false, false, true, false, true, false, false, true, false, false, false, false, false, false] rfl rfl (any_of HT_.out (by kernel_rfl)) (fun _ _ _ h => h) (Or.inl ⟨by rfl, ?_⟩) ?_ ?_
    rotate_left
    ·intro w'
     go_simp
     with_reducible rfl
    rotate_left
    ·simp only [Act.put, List.setIfInBounds_toArray, List.set_cons_zero, List.set_cons_succ, i64_w, i32_w]
     rfl
    refine pure_ (i := 12) (N := some 21) (v := ?_) (a' := ?_) #[true, false, true, false, false, true, false, true, false, false, true, false, true, false, false, false, false] rfl rfl (any_of HT_.out (by kernel_rfl)) (fun _ _ _ h => h) (Or.inl ⟨by rfl, ?_⟩) ?_ ?_
    rotate_left
    ·intro w'
     go_simp
     with_reducible rfl
    rotate_left
    ·simp only [Act.put, List.setIfInBounds_toArray, List.set_cons_zero, List.set_cons_succ, i64_w, i32_w]
     rfl
    refine inv_at [1, 3, 4, 6, 8, 9, 11, 13, 14, 15, 16] (fun a0_ b a w' => a = putSel a0_ b [(1, 10, .int .i64 p.f0), (3, 12, .int .i64 a2_0), (4, 13, .int .i64 q0), (6, 15, .int .i64 p.f1), (8, 17, .int .i64 a2_1), (9, 18, .int .i64 q1), (11, 20, .int .i64 p.f2), (13, 22, .int .i64 a2_2), (14, 23, .int .i64 q2), (15, 24, .agg #[.int .i64 q0, .int .i64 q1, .int .i64 q2])] ∧ (b 16 = false → Below W.heap.size W w') ∧ (Below w.heap.size w w') ∧ (w'.heap[w.heap.size]? = some (.cells #[.int .i64 a0_0, .int .i64 a0_1, .int .i64 a0_2, .int .i64 a0_3, .int .i64 a0_4, .int .i64 a0_5, .slice A0_6 l0_6.length c0_6] 30 (0, 0))) ∧ (w'.heap[w.heap.size + 1 + 1]? = some (.cells #[.int .i64 a2_0, .int .i64 a2_1, .int .i64 a2_2] 23 (0, 0))) ∧ (b 16 = false → w'.heap[gn]? = some (.cells #[.int .i64 p.f0, .int .i64 p.f1, .int .i64 p.f2] 23 (0, 0))) ∧ (b 16 = true → w'.heap[gn]? = some (.cells #[.int .i64 q0, .int .i64 q1, .int .i64 q2] 23 (0, 0)))) HT_.out HW_.out (by kernel_rfl) (by kernel_rfl) ?_ ?_ ?_
    ·exact ⟨by simp only [putSel, Bool.false_eq_true, if_false], fun _ => P.out, B.out, S.out, TT.out, fun _ => NN.out, fun h_ => absurd h_ (by decide)⟩
    ·skip
     clear B NN P S TT
     refine steps_cons ?_ ?_
     ·rintro b a w' ⟨ha, Q_P, Q_B, Q_S, Q_TT, Q_NN, Q_MM⟩ hb_ hon hoff
      refine ⟨_, rfl, fun K hK => ?_⟩
      have e9 : a.tmps[9]? = some (.pointer (some ⟨gn, 0, none⟩)) := by rw [ha]; exact (putSel_off rfl).trans rfl
      replace ha := mk0 ha
      have P := mk0 (Q_P (hoff 16 (by kernel_rfl)))
      have B := mk0 Q_B
      have S := mk0 Q_S
      have TT := mk0 Q_TT
      have NN := mk0 (Q_NN (hoff 16 (by kernel_rfl)))
      have hc0_ : w'.cell? ⟨gn, 0, none⟩ = some (.int .i64 p.f0) := ct NN.out 0
      refine value_ (w1 := w') (v := .int .i64 p.f0) (by rfl) rfl ?_ ?_
      ·go_simp
       (try simp only [i64_w])
       try rfl
      refine hK.out _ _ ⟨(by rw [ha.out]; exact putSel_upk 0 hb_ rfl rfl rfl), Q_P, Q_B, Q_S, Q_TT, Q_NN, fun h0_ => absurd ((hoff 16 (by kernel_rfl)).symm.trans h0_) (by decide)⟩
     refine steps_cons ?_ ?_
     ·rintro b a w' ⟨ha, Q_P, Q_B, Q_S, Q_TT, Q_NN, Q_MM⟩ hb_ hon hoff
      refine ⟨_, rfl, fun K hK => ?_⟩
      have e11 : a.tmps[11]? = some (.pointer (some ⟨w.heap.size + 1 + 1, 0, none⟩)) := by rw [ha]; exact (putSel_off rfl).trans rfl
      replace ha := mk0 ha
      have P := mk0 (Q_P (hoff 16 (by kernel_rfl)))
      have B := mk0 Q_B
      have S := mk0 Q_S
      have TT := mk0 Q_TT
      have NN := mk0 (Q_NN (hoff 16 (by kernel_rfl)))
      have hd0_ : w'.cell? ⟨w.heap.size + 1 + 1, 0, none⟩ = some (.int .i64 a2_0) := ct TT.out 0
      refine value_ (w1 := w') (v := .int .i64 a2_0) (by rfl) rfl ?_ ?_
      ·go_simp
       (try simp only [i64_w])
       try rfl
      refine hK.out _ _ ⟨(by rw [ha.out]; exact putSel_upk 1 hb_ rfl rfl rfl), Q_P, Q_B, Q_S, Q_TT, Q_NN, fun h0_ => absurd ((hoff 16 (by kernel_rfl)).symm.trans h0_) (by decide)⟩
     refine steps_cons ?_ ?_
     ·rintro b a w' ⟨ha, Q_P, Q_B, Q_S, Q_TT, Q_NN, Q_MM⟩ hb_ hon hoff
      refine ⟨_, rfl, fun K hK => ?_⟩
      have e10 : a.tmps[10]? = some (.int .i64 p.f0) := by rw [ha]; exact putSel_on (e := (1, 10, .int .i64 p.f0)) 0 rfl rfl (hon 1 (by kernel_rfl)) rfl
      have e12 : a.tmps[12]? = some (.int .i64 a2_0) := by rw [ha]; exact putSel_on (e := (3, 12, .int .i64 a2_0)) 1 rfl rfl (hon 3 (by kernel_rfl)) rfl
      replace ha := mk0 ha
      have P := mk0 (Q_P (hoff 16 (by kernel_rfl)))
      have B := mk0 Q_B
      have S := mk0 Q_S
      have TT := mk0 Q_TT
      have NN := mk0 (Q_NN (hoff 16 (by kernel_rfl)))
      refine goes_ Tryz.func87 (by kernel_rfl) rfl #[.int .i64 p.f0, .int .i64 a2_0] (by rfl) rfl rfl (by first | (simp only [List.map_toArray, List.map_cons, List.map_nil, Act.eval, Array.getD_eq_getD_getElem?, Option.getD_some, e10, e12]; done) | (simp only [List.map_toArray, List.map_cons, List.map_nil, Act.eval, Array.getD_eq_getD_getElem?, Option.getD_some, e10, e12]; rfl)) ?_
      refine (metrolabref30_toward.calls p.f0 a2_0 q0 _ HQ0.out).mono ?_
      rintro e w8 ⟨rfl, ⟨⟨n_, rfl⟩⟩⟩
      refine ⟨_, rfl, ?_⟩
      refine hK.out _ _ ⟨(by rw [ha.out]; exact putSel_upk 2 hb_ rfl rfl rfl), fun _ => pw_below_drewN P.out n_, pw_below_drewN B.out n_, blk_drewN S.out n_, blk_drewN TT.out n_, fun _ => blk_drewN NN.out n_, fun h0_ => absurd ((hoff 16 (by kernel_rfl)).symm.trans h0_) (by decide)⟩
     refine steps_cons ?_ ?_
     ·rintro b a w' ⟨ha, Q_P, Q_B, Q_S, Q_TT, Q_NN, Q_MM⟩ hb_ hon hoff
      refine ⟨_, rfl, fun K hK => ?_⟩
      have e14 : a.tmps[14]? = some (.pointer (some ⟨gn, 1, none⟩)) := by rw [ha]; exact (putSel_off rfl).trans rfl
      replace ha := mk0 ha
      have P := mk0 (Q_P (hoff 16 (by kernel_rfl)))
      have B := mk0 Q_B
      have S := mk0 Q_S
      have TT := mk0 Q_TT
      have NN := mk0 (Q_NN (hoff 16 (by kernel_rfl)))
      have hc1_ : w'.cell? ⟨gn, 1, none⟩ = some (.int .i64 p.f1) := ct NN.out 1
      refine value_ (w1 := w') (v := .int .i64 p.f1) (by rfl) rfl ?_ ?_
      ·go_simp
       (try simp only [i64_w])
       try rfl
      refine hK.out _ _ ⟨(by rw [ha.out]; exact putSel_upk 3 hb_ rfl rfl rfl), Q_P, Q_B, Q_S, Q_TT, Q_NN, fun h0_ => absurd ((hoff 16 (by kernel_rfl)).symm.trans h0_) (by decide)⟩
     refine steps_cons ?_ ?_
     ·rintro b a w' ⟨ha, Q_P, Q_B, Q_S, Q_TT, Q_NN, Q_MM⟩ hb_ hon hoff
      refine ⟨_, rfl, fun K hK => ?_⟩
      have e16 : a.tmps[16]? = some (.pointer (some ⟨w.heap.size + 1 + 1, 1, none⟩)) := by rw [ha]; exact (putSel_off rfl).trans rfl
      replace ha := mk0 ha
      have P := mk0 (Q_P (hoff 16 (by kernel_rfl)))
      have B := mk0 Q_B
      have S := mk0 Q_S
      have TT := mk0 Q_TT
      have NN := mk0 (Q_NN (hoff 16 (by kernel_rfl)))
      have hd1_ : w'.cell? ⟨w.heap.size + 1 + 1, 1, none⟩ = some (.int .i64 a2_1) := ct TT.out 1
      refine value_ (w1 := w') (v := .int .i64 a2_1) (by rfl) rfl ?_ ?_
      ·go_simp
       (try simp only [i64_w])
       try rfl
      refine hK.out _ _ ⟨(by rw [ha.out]; exact putSel_upk 4 hb_ rfl rfl rfl), Q_P, Q_B, Q_S, Q_TT, Q_NN, fun h0_ => absurd ((hoff 16 (by kernel_rfl)).symm.trans h0_) (by decide)⟩
     refine steps_cons ?_ ?_
     ·rintro b a w' ⟨ha, Q_P, Q_B, Q_S, Q_TT, Q_NN, Q_MM⟩ hb_ hon hoff
      refine ⟨_, rfl, fun K hK => ?_⟩
      have e15 : a.tmps[15]? = some (.int .i64 p.f1) := by rw [ha]; exact putSel_on (e := (6, 15, .int .i64 p.f1)) 3 rfl rfl (hon 6 (by kernel_rfl)) rfl
      have e17 : a.tmps[17]? = some (.int .i64 a2_1) := by rw [ha]; exact putSel_on (e := (8, 17, .int .i64 a2_1)) 4 rfl rfl (hon 8 (by kernel_rfl)) rfl
      replace ha := mk0 ha
      have P := mk0 (Q_P (hoff 16 (by kernel_rfl)))
      have B := mk0 Q_B
      have S := mk0 Q_S
      have TT := mk0 Q_TT
      have NN := mk0 (Q_NN (hoff 16 (by kernel_rfl)))
      refine goes_ Tryz.func87 (by kernel_rfl) rfl #[.int .i64 p.f1, .int .i64 a2_1] (by rfl) rfl rfl (by first | (simp only [List.map_toArray, List.map_cons, List.map_nil, Act.eval, Array.getD_eq_getD_getElem?, Option.getD_some, e15, e17]; done) | (simp only [List.map_toArray, List.map_cons, List.map_nil, Act.eval, Array.getD_eq_getD_getElem?, Option.getD_some, e15, e17]; rfl)) ?_
      refine (metrolabref30_toward.calls p.f1 a2_1 q1 _ HQ1.out).mono ?_
      rintro e w8 ⟨rfl, ⟨⟨n_, rfl⟩⟩⟩
      refine ⟨_, rfl, ?_⟩
      refine hK.out _ _ ⟨(by rw [ha.out]; exact putSel_upk 5 hb_ rfl rfl rfl), fun _ => pw_below_drewN P.out n_, pw_below_drewN B.out n_, blk_drewN S.out n_, blk_drewN TT.out n_, fun _ => blk_drewN NN.out n_, fun h0_ => absurd ((hoff 16 (by kernel_rfl)).symm.trans h0_) (by decide)⟩
     refine steps_cons ?_ ?_
     ·rintro b a w' ⟨ha, Q_P, Q_B, Q_S, Q_TT, Q_NN, Q_MM⟩ hb_ hon hoff
      refine ⟨_, rfl, fun K hK => ?_⟩
      have e19 : a.tmps[19]? = some (.pointer (some ⟨gn, 2, none⟩)) := by rw [ha]; exact (putSel_off rfl).trans rfl
      replace ha := mk0 ha
      have P := mk0 (Q_P (hoff 16 (by kernel_rfl)))
      have B := mk0 Q_B
      have S := mk0 Q_S
      have TT := mk0 Q_TT
      have NN := mk0 (Q_NN (hoff 16 (by kernel_rfl)))
      have hc2_ : w'.cell? ⟨gn, 2, none⟩ = some (.int .i64 p.f2) := ct NN.out 2
      refine value_ (w1 := w') (v := .int .i64 p.f2) (by rfl) rfl ?_ ?_
      ·go_simp
       (try simp only [i64_w])
       try rfl
      refine hK.out _ _ ⟨(by rw [ha.out]; exact putSel_upk 6 hb_ rfl rfl rfl), Q_P, Q_B, Q_S, Q_TT, Q_NN, fun h0_ => absurd ((hoff 16 (by kernel_rfl)).symm.trans h0_) (by decide)⟩
     refine steps_cons ?_ ?_
     ·rintro b a w' ⟨ha, Q_P, Q_B, Q_S, Q_TT, Q_NN, Q_MM⟩ hb_ hon hoff
      refine ⟨_, rfl, fun K hK => ?_⟩
      have e21 : a.tmps[21]? = some (.pointer (some ⟨w.heap.size + 1 + 1, 2, none⟩)) := by rw [ha]; exact (putSel_off rfl).trans rfl
      replace ha := mk0 ha
      have P := mk0 (Q_P (hoff 16 (by kernel_rfl)))
      have B := mk0 Q_B
      have S := mk0 Q_S
      have TT := mk0 Q_TT
      have NN := mk0 (Q_NN (hoff 16 (by kernel_rfl)))
      have hd2_ : w'.cell? ⟨w.heap.size + 1 + 1, 2, none⟩ = some (.int .i64 a2_2) := ct TT.out 2
      refine value_ (w1 := w') (v := .int .i64 a2_2) (by rfl) rfl ?_ ?_
      ·go_simp
       (try simp only [i64_w])
       try rfl
      refine hK.out _ _ ⟨(by rw [ha.out]; exact putSel_upk 7 hb_ rfl rfl rfl), Q_P, Q_B, Q_S, Q_TT, Q_NN, fun h0_ => absurd ((hoff 16 (by kernel_rfl)).symm.trans h0_) (by decide)⟩
     refine steps_cons ?_ ?_
     ·rintro b a w' ⟨ha, Q_P, Q_B, Q_S, Q_TT, Q_NN, Q_MM⟩ hb_ hon hoff
      refine ⟨_, rfl, fun K hK => ?_⟩
      have e20 : a.tmps[20]? = some (.int .i64 p.f2) := by rw [ha]; exact putSel_on (e := (11, 20, .int .i64 p.f2)) 6 rfl rfl (hon 11 (by kernel_rfl)) rfl
      have e22 : a.tmps[22]? = some (.int .i64 a2_2) := by rw [ha]; exact putSel_on (e := (13, 22, .int .i64 a2_2)) 7 rfl rfl (hon 13 (by kernel_rfl)) rfl
      replace ha := mk0 ha
      have P := mk0 (Q_P (hoff 16 (by kernel_rfl)))
      have B := mk0 Q_B
      have S := mk0 Q_S
      have TT := mk0 Q_TT
      have NN := mk0 (Q_NN (hoff 16 (by kernel_rfl)))
      refine goes_ Tryz.func87 (by kernel_rfl) rfl #[.int .i64 p.f2, .int .i64 a2_2] (by rfl) rfl rfl (by first | (simp only [List.map_toArray, List.map_cons, List.map_nil, Act.eval, Array.getD_eq_getD_getElem?, Option.getD_some, e20, e22]; done) | (simp only [List.map_toArray, List.map_cons, List.map_nil, Act.eval, Array.getD_eq_getD_getElem?, Option.getD_some, e20, e22]; rfl)) ?_
      refine (metrolabref30_toward.calls p.f2 a2_2 q2 _ HQ2.out).mono ?_
      rintro e w8 ⟨rfl, ⟨⟨n_, rfl⟩⟩⟩
      refine ⟨_, rfl, ?_⟩
      refine hK.out _ _ ⟨(by rw [ha.out]; exact putSel_upk 8 hb_ rfl rfl rfl), fun _ => pw_below_drewN P.out n_, pw_below_drewN B.out n_, blk_drewN S.out n_, blk_drewN TT.out n_, fun _ => blk_drewN NN.out n_, fun h0_ => absurd ((hoff 16 (by kernel_rfl)).symm.trans h0_) (by decide)⟩
     refine steps_cons ?_ ?_
     ·rintro b a w' ⟨ha, Q_P, Q_B, Q_S, Q_TT, Q_NN, Q_MM⟩ hb_ hon hoff
      refine ⟨_, rfl, fun K hK => ?_⟩
      have e13 : a.tmps[13]? = some (.int .i64 q0) := by rw [ha]; exact putSel_on (e := (4, 13, .int .i64 q0)) 2 rfl rfl (hon 4 (by kernel_rfl)) rfl
      have e18 : a.tmps[18]? = some (.int .i64 q1) := by rw [ha]; exact putSel_on (e := (9, 18, .int .i64 q1)) 5 rfl rfl (hon 9 (by kernel_rfl)) rfl
      have e23 : a.tmps[23]? = some (.int .i64 q2) := by rw [ha]; exact putSel_on (e := (14, 23, .int .i64 q2)) 8 rfl rfl (hon 14 (by kernel_rfl)) rfl
      replace ha := mk0 ha
      have P := mk0 (Q_P (hoff 16 (by kernel_rfl)))
      have B := mk0 Q_B
      have S := mk0 Q_S
      have TT := mk0 Q_TT
      have NN := mk0 (Q_NN (hoff 16 (by kernel_rfl)))
      refine value_ (w1 := w') (v := .agg #[.int .i64 q0, .int .i64 q1, .int .i64 q2]) (by rfl) rfl ?_ ?_
      ·go_simp
       (try simp only [i64_w])
       try rfl
      refine hK.out _ _ ⟨(by rw [ha.out]; exact putSel_upk 9 hb_ rfl rfl rfl), Q_P, Q_B, Q_S, Q_TT, Q_NN, fun h0_ => absurd ((hoff 16 (by kernel_rfl)).symm.trans h0_) (by decide)⟩
     refine steps_cons ?_ ?_
     ·rintro b a w' ⟨ha, Q_P, Q_B, Q_S, Q_TT, Q_NN, Q_MM⟩ hb_ hon hoff
      refine ⟨_, rfl, fun K hK => ?_⟩
      have e7 : a.tmps[7]? = some (.pointer (some ⟨gn, 0, none⟩)) := by rw [ha]; exact (putSel_off rfl).trans rfl
      have e24 : a.tmps[24]? = some (.agg #[.int .i64 q0, .int .i64 q1, .int .i64 q2]) := by rw [ha]; exact putSel_on (e := (15, 24, .agg #[.int .i64 q0, .int .i64 q1, .int .i64 q2])) 9 rfl rfl (hon 15 (by kernel_rfl)) rfl
      replace ha := mk0 ha
      have P := mk0 (Q_P hb_)
      have B := mk0 Q_B
      have S := mk0 Q_S
      have TT := mk0 Q_TT
      have NN := mk0 (Q_NN hb_)
      have hs0_ : w'.cell? ⟨gn, 0, none⟩ = some (.int .i64 p.f0) := ct NN.out 0
      have hs1_ : w'.cell? ⟨gn, 1, none⟩ = some (.int .i64 p.f1) := ct NN.out 1
      have hs2_ : w'.cell? ⟨gn, 2, none⟩ = some (.int .i64 p.f2) := ct NN.out 2
      have hf0_ := blk_frozen NN.out 0
      have hf1_ := blk_frozen NN.out 1
      have hf2_ := blk_frozen NN.out 2
      refine skip_ (w1 := ?_) (by rfl) rfl ?_ ?_
      rotate_left
      ·go_simp
       rfl
      refine hK.out _ _ ⟨(by rw [ha.out]; exact putSel_none (v := undef) rfl), fun h0_ => absurd ((up_self b 16).symm.trans h0_) (by decide), (((B.out.setCell HGN.out _).setCell HGN.out _).setCell HGN.out _), far3 S.out NS.out, far3 TT.out NT.out, fun h0_ => absurd ((up_self b 16).symm.trans h0_) (by decide), fun _ => blk_put (blk_put (blk_put NN.out 0 _ rfl) 1 _ rfl) 2 _ rfl⟩
     exact steps_nil
    rintro b a W5 hall ⟨ha, Q_P, Q_B, Q_S, Q_TT, Q_NN, Q_MM⟩
    clear B NN P S TT
    have hb1_ := hall 1 (by kernel_rfl)
    have hb3_ := hall 3 (by kernel_rfl)
    have hb4_ := hall 4 (by kernel_rfl)
    have hb6_ := hall 6 (by kernel_rfl)
    have hb8_ := hall 8 (by kernel_rfl)
    have hb9_ := hall 9 (by kernel_rfl)
    have hb11_ := hall 11 (by kernel_rfl)
    have hb13_ := hall 13 (by kernel_rfl)
    have hb14_ := hall 14 (by kernel_rfl)
    have hb15_ := hall 15 (by kernel_rfl)
    have hb16_ := hall 16 (by kernel_rfl)
    subst ha
    simp only [putSel, hb1_, hb3_, hb4_, hb6_, hb8_, hb9_, hb11_, hb13_, hb14_, hb15_, hb16_, if_true, Act.put, List.setIfInBounds_toArray, List.set_cons_zero, List.set_cons_succ]
    clear Q_P
    have B := mk0 Q_B
    clear Q_B
    have S := mk0 Q_S
    clear Q_S
    have TT := mk0 Q_TT
    clear Q_TT
    clear Q_NN
    have MM := mk0 (Q_MM hb16_)
    clear Q_MM
    clear hall hb1_ hb3_ hb4_ hb6_ hb8_ hb9_ hb11_ hb13_ hb14_ hb15_ hb16_
    try go_wp2
    go_roundg k1
    case measure => have := HK1.out; omega
    case rel => exact ⟨gn, ⟨q0, q1, q2⟩, rfl, HN, ⟨by have := HK1.out; omega⟩, S, TT, MM, B⟩
end Go.Proofs.YtolbjmaabghghaaGreatDoor.PA
