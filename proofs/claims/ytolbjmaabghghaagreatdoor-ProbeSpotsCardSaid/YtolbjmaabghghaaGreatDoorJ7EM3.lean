/- A part of the proof. -/
import Derived.Test.YtolbjmaabghghaaGreatDoorJ7EM2
namespace Go.Proofs.YtolbjmaabghghaaGreatDoor.PA
open Go.RowKit Go.PW Go.PL Go.PM
attribute [local go_sem] Oper.semAt_some
set_option linter.unusedVariables false
set_option linter.unusedSimpArgs false
def takeM.T6 : Bool × List (List Nat × List Nat) := (true, [([], []), ([], []), ([1], [1]), ([2], [2]), ([3], [3]), ([], []), ([], []), ([], []), ([7], [7]), ([8], [8]), ([9], [9]), ([6, 10], [6, 10]), ([11], [11]), ([4, 5, 12], [4, 5, 12]), ([0, 0, 1, 2, 3, 4, 5, 6, 7, 8, 9, 10, 11, 12, 13], [0]), ([14, 0, 1, 2, 3, 4, 5, 6, 7, 8, 9, 10, 11, 12, 13], [14]), ([15, 13, 13, 0, 1, 2, 3, 4, 5, 6, 7, 8, 9, 10, 11, 12, 13], [13, 15])])
def takeM.B6 : List Nat := [0, 0, 2, 6, 14, 0, 0, 0, 128, 384, 896, 1984, 4032, 8190, 16383, 32767, 65535]
theorem takeM.tab6 : rtab .any (opsOf Tryz.f85 6) = takeM.T6 := by kernel_rfl
theorem takeM.bits6 : waitsOk takeM.T6.2 takeM.B6 = true := by kernel_rfl
theorem bsI_le (sm : List S76) (s : ByteArray) : bsI sm s ≤ sm.length := by
 have h : ∀ (k i j : Nat), i ≤ j → j ≤ sm.length → bsL sm s k i j ≤ sm.length := by
  intro k
  induction k with
  | zero => intro i j h1 h2; exact Nat.le_trans h1 h2
  | succ k ih =>
   intro i j h1 h2
   unfold bsL
   split
   ·split
    ·exact ih _ _ (by omega) h2
    ·exact ih _ _ (by omega) (by omega)
   ·omega
 exact h _ _ _ (Nat.zero_le _) (Nat.le_refl _)
set_option maxHeartbeats 16000000 in
set_option maxRecDepth 100000 in
theorem take_calls (gm : Nat) (s0 s1 s2 s3 s4 s5 : Int) (A : Option Addr) (c : Nat) (l : List S84) (s : ByteArray) (p p' : S23) (nt nt' : List S23) (sm sm' : List S76) (r : Int) (w : World) 
  (hM : MAt gm s0 s1 s2 s3 s4 s5 A l.length c w p nt sm) (h : takeF s p nt sm = some (r, p', nt', sm')) :
  Calls Tryz.prog 85 #[.pointer (some ⟨gm, 0, none⟩), .string s] w (DoPost gm s0 s1 s2 s3 s4 s5 A l.length c w r p' nt' sm') := by
 unfold takeF at h
 obtain ⟨vn, vs, N0, h1, h2, h3, h4, h5, h6, h7⟩ := hM
 obtain ⟨An, cn, rfl⟩ := Kd.R_slice h5
 obtain ⟨Av, cv, rfl, _, hCs⟩ := Kd.R_reads h6
 have HLT : Aside0 (gm < w.heap.size) := ⟨blk_lt h4⟩
 have c10 : w.cell? ⟨gm, 10, none⟩ = some (.slice An nt.length cn) := ct h4 10
 have c11 : w.cell? ⟨gm, 11, none⟩ = some (.slice Av sm.length cv) := ct h4 11
 have H4 := mk0 h4
 have H5 := mk0 h5
 have H6 := mk0 h6
 have HCS := mk0 hCs
 have HN0 := mk0 h1
 have HN1 := mk0 h2
 clear h4 h5 h6 h1 h2 hCs
 have hu76 := Tryz.underlying76
 have hu118 := Tryz.underlying118
 have hu74 := Tryz.underlying74
 have hu65 := Tryz.underlying65
 by_cases hn : nt = []
 ·rw [if_pos hn] at h
  simp only [Option.some.injEq, Prod.mk.injEq] at h
  obtain ⟨rfl, rfl, rfl, rfl⟩ := h
  subst hn
  simp only [List.length_nil] at c10
  clear h7 h3
  go_enter Tryz.func85, Tryz.ntmps85
  go_wp2
  go_ret
  exact ⟨rfl, Below.refl _ _, fun h => absurd h (by decide)⟩
 rw [if_neg hn] at h
 have hpos : 0 < nt.length := List.length_pos_iff.2 hn
 have hz1 : ((nt.length : Int) == 0) = false := by simpa using (fun h => hn (by simpa using h))
 have hz2 : (nt.length == 0) = false := by simpa using hn
 clear hn h7 h3
 by_cases hln : sm.length ≤ 8192
 case neg => rw [if_neg hln] at h; cases h
 rw [if_pos hln] at h
 have HLN := mk0 hln
 obtain ⟨iX, hiX⟩ : ∃ iX, iX = bsI sm s := ⟨_, rfl⟩
 have HIL : Aside0 (iX ≤ sm.length) := ⟨by rw [hiX]; exact bsI_le sm s⟩
 have HIX := mk0 hiX
 rw [← hiX] at h
 clear hln hiX
 by_cases hok : bsOk sm s = true
 ·rw [if_pos hok] at h
  simp only [Option.some.injEq, Prod.mk.injEq] at h
  obtain ⟨rfl, rfl, rfl, rfl⟩ := h
  have HOK := mk0 hok
  clear hok
  go_enter Tryz.func85, Tryz.ntmps85
  go_wp2_with (go_at_call 105; refine (bsf_calls Av cv sm s _ HLN.out HCS.out).mono ?_; rintro e W ⟨rfl, hb⟩; rw [HOK.out, ← HIX.out]; have HB := mk0 hb; clear hb)
  go_ret
  exact ⟨rfl, HB.out.mono (Nat.le_of_lt HLT.out), fun h => absurd h (by decide)⟩
 rw [if_neg hok] at h
 simp only [Option.some.injEq, Prod.mk.injEq] at h
 obtain ⟨rfl, rfl, rfl, h⟩ := h
 have HOK : Aside0 (bsOk sm s = false) := ⟨by simpa using hok⟩
 obtain ⟨LS, hLS⟩ : ∃ LS, LS = sm.take iX ++ ⟨s, nt⟩ :: sm.drop iX := ⟨_, rfl⟩
 rw [← hLS] at h
 subst h
 have HLS := mk0 hLS
 clear hok hLS
 go_enter Tryz.func85, Tryz.ntmps85
 try go_wp2_with (go_at_call 105; refine (bsf_calls Av cv sm s _ HLN.out HCS.out).mono ?_; rintro e W ⟨rfl, hb⟩; rw [HOK.out, ← HIX.out]; have HB := mk0 hb; clear hb)
 have HM4 := mk0 (blk_below H4.out HB.out)
 have HR5 := mk0 (Kd.R_below H5.out HB.out)
 have HS6 := mk0 (Kd.R_below H6.out HB.out)
 have HNW : Aside0 (N0 ≤ W.heap.size) := ⟨Nat.le_trans HN1.out HB.out.size⟩
 have HBG : Aside0 (Below gm w W) := ⟨HB.out.mono (Nat.le_of_lt HLT.out)⟩
 have HGW : Aside0 (gm ≤ W.heap.size) := ⟨Nat.le_trans (Nat.le_of_lt HLT.out) HB.out.size⟩
 have HGW1 : Aside0 (gm + 1 ≤ W.heap.size) := ⟨Nat.le_trans HLT.out HB.out.size⟩
 have P := mk0 (below_drew1 (Below.refl W.heap.size W))
 clear HB c10 c11 hz1 hz2 hpos
 refine start_ (n := 17) (S := fun w' => True) (ds := []) #[false, false, false, false, false, false, false, false, false, false, false, false, false, false, false, false, false] (by kernel_rfl) rfl rfl trivial (fun hHeld => ?_); refine with_tabW takeM.tab6 takeM.bits6 (fun HT_ HW_ => ?_)
 generalize W.drew = wd at P hHeld ⊢
 refine pure_ (i := 0) (N := some 23) (v := ?_) (a' := ?_) #[true, false, false, false, false, false, false, false, false, false, false, false, false, false, false, false, false] rfl rfl (any_of HT_.out (by kernel_rfl)) (fun _ _ _ h => h) (Or.inl ⟨by rfl, ?_⟩) ?_ ?_
 rotate_left
 ·intro w'
  go_simp
  with_reducible rfl
 rotate_left
 ·simp only [Act.put, List.setIfInBounds_toArray, List.set_cons_zero, List.set_cons_succ, i64_w, i32_w]
  rfl
 refine pure_ (i := 1) (N := some 24) (v := ?_) (a' := ?_) #[true, true, false, false, false, false, false, false, false, false, false, false, false, false, false, false, false] rfl rfl (any_of HT_.out (by kernel_rfl)) (fun _ _ _ h => h) (Or.inl ⟨by rfl, ?_⟩) ?_ ?_
 rotate_left
 ·intro w'
  go_simp
  with_reducible rfl
 rotate_left
 ·simp only [Act.put, List.setIfInBounds_toArray, List.set_cons_zero, List.set_cons_succ, i64_w, i32_w]
  rfl
 refine pure_ (i := 5) (N := some 28) (v := ?_) (a' := ?_) #[true, true, false, false, false, true, false, false, false, false, false, false, false, false, false, false, false] rfl rfl (any_of HT_.out (by kernel_rfl)) (fun _ _ _ h => h) (Or.inl ⟨by rfl, ?_⟩) ?_ ?_
 rotate_left
 ·intro w'
  go_simp
  with_reducible rfl
 rotate_left
 ·simp only [Act.put, List.setIfInBounds_toArray, List.set_cons_zero, List.set_cons_succ, i64_w, i32_w]
  rfl
 refine pure_ (i := 6) (N := some 29) (v := ?_) (a' := ?_) #[true, true, false, false, false, true, true, false, false, false, false, false, false, false, false, false, false] rfl rfl (any_of HT_.out (by kernel_rfl)) (fun _ _ _ h => h) (Or.inl ⟨by rfl, ?_⟩) ?_ ?_
 rotate_left
 ·intro w'
  go_simp
  with_reducible rfl
 rotate_left
 ·simp only [Act.put, List.setIfInBounds_toArray, List.set_cons_zero, List.set_cons_succ, i64_w, i32_w]
  rfl
 refine pure_ (i := 7) (N := some 30) (v := ?_) (a' := ?_) #[true, true, false, false, false, true, true, true, false, false, false, false, false, false, false, false, false] rfl rfl (any_of HT_.out (by kernel_rfl)) (fun _ _ _ h => h) (Or.inl ⟨by rfl, ?_⟩) ?_ ?_
 rotate_left
 ·intro w'
  go_simp
  with_reducible rfl
 rotate_left
 ·simp only [Act.put, List.setIfInBounds_toArray, List.set_cons_zero, List.set_cons_succ, i64_w, i32_w]
  rfl
 refine inv_at [2, 3, 4, 8, 9, 10, 11, 12, 13, 14, 15, 16] (fun a0_ b a w' => ∃ (gb_ : Nat) (v_ : Value) (m12_ : Value), a = putSel a0_ b [(2, 25, .pointer (some ⟨gm, 0, none⟩)), (3, 26, .pointer (some ⟨gm, 11, none⟩)), (4, 27, .slice Av sm.length cv), (8, 31, .pointer (some ⟨gm, 0, none⟩)), (9, 32, .pointer (some ⟨gm, 10, none⟩)), (10, 33, .slice An nt.length cn), (11, 34, .agg #[.string s, .slice An nt.length cn]), (12, 35, m12_), (13, 36, v_), (14, 37, .pointer (some ⟨gm, 0, none⟩)), (15, 38, .pointer (some ⟨gm, 11, none⟩))] ∧ (b 13 = false → Below W.heap.size W w') ∧ (b 13 = true → b 16 = false → Below (gm + 1) W w') ∧ (b 12 = true → b 13 = false → w'.heap[gb_]? = some (.cells #[.string s, .slice An nt.length cn] 76 (0, 0))) ∧ (b 12 = true → b 13 = false → N0 ≤ gb_) ∧ (b 13 = true → Kd.R k76 76 w' gm (fun k => gm < k) v_ LS) ∧ (b 16 = true → Below gm w w') ∧ (b 16 = true → N0 ≤ w'.heap.size) ∧ (b 16 = true → w'.heap[gm]? = some (.cells #[.int .i64 s0, .int .i64 s1, .int .i64 s2, .int .i64 s3, .int .i64 s4, .int .i64 s5, .slice A l.length c, .int .i64 p.f0, .int .i64 p.f1, .int .i64 p.f2, .slice An nt.length cn, v_] 118 (0, 0))) ∧ (b 12 = true → (m12_ : Value) = .slice (some ⟨gb_, 0, none⟩) 1 1)) HT_.out HW_.out (by kernel_rfl) (by kernel_rfl) ?_ ?_ ?_
 ·exact ⟨0, .bool false, .bool false, by simp only [putSel, Bool.false_eq_true, if_false], fun _ => P.out, fun h_ => absurd h_ (by decide), fun h_ => absurd h_ (by decide), fun h_ => absurd h_ (by decide), fun h_ => absurd h_ (by decide), fun h_ => absurd h_ (by decide), fun h_ => absurd h_ (by decide), fun h_ => absurd h_ (by decide), fun h_ => absurd h_ (by decide)⟩
 ·skip
  clear P
  refine steps_cons ?_ ?_
  ·rintro b a w' ⟨gb_, v_, m12_, ha, Q_P, Q_PQ, Q_A12, Q_GB, Q_SV, Q_B, Q_NZ, Q_MC, Q_X12_⟩ hb_ hon hoff
   refine ⟨_, rfl, fun K hK => ?_⟩
   have e24 : a.tmps[24]? = some (.pointer (some ⟨gm, 0, none⟩)) := by rw [ha]; exact (putSel_off rfl).trans rfl
   replace ha := mk0 ha
   have P := mk0 (Q_P (hoff 13 (by kernel_rfl)))
   refine value_ (w1 := w') (v := .pointer (some ⟨gm, 0, none⟩)) (by rfl) rfl ?_ ?_
   ·go_simp
    (try simp only [i64_w])
    try rfl
   refine hK.out _ _ ⟨gb_, v_, m12_, (by rw [ha.out]; exact putSel_upk 0 hb_ rfl rfl rfl), Q_P, fun h0_ _ => absurd ((hoff 13 (by kernel_rfl)).symm.trans h0_) (by decide), Q_A12, Q_GB, fun h0_ => absurd ((hoff 13 (by kernel_rfl)).symm.trans h0_) (by decide), fun h0_ => absurd ((hoff 16 (by kernel_rfl)).symm.trans h0_) (by decide), fun h0_ => absurd ((hoff 16 (by kernel_rfl)).symm.trans h0_) (by decide), fun h0_ => absurd ((hoff 16 (by kernel_rfl)).symm.trans h0_) (by decide), Q_X12_⟩
  refine steps_cons ?_ ?_
  ·rintro b a w' ⟨gb_, v_, m12_, ha, Q_P, Q_PQ, Q_A12, Q_GB, Q_SV, Q_B, Q_NZ, Q_MC, Q_X12_⟩ hb_ hon hoff
   refine ⟨_, rfl, fun K hK => ?_⟩
   have e25 : a.tmps[25]? = some (.pointer (some ⟨gm, 0, none⟩)) := by rw [ha]; exact putSel_on (e := (2, 25, .pointer (some ⟨gm, 0, none⟩))) 0 rfl rfl (hon 2 (by kernel_rfl)) rfl
   replace ha := mk0 ha
   have P := mk0 (Q_P (hoff 13 (by kernel_rfl)))
   refine value_ (w1 := w') (v := .pointer (some ⟨gm, 11, none⟩)) (by rfl) rfl ?_ ?_
   ·go_simp
    (try simp only [i64_w])
    try rfl
   refine hK.out _ _ ⟨gb_, v_, m12_, (by rw [ha.out]; exact putSel_upk 1 hb_ rfl rfl rfl), Q_P, fun h0_ _ => absurd ((hoff 13 (by kernel_rfl)).symm.trans h0_) (by decide), Q_A12, Q_GB, fun h0_ => absurd ((hoff 13 (by kernel_rfl)).symm.trans h0_) (by decide), fun h0_ => absurd ((hoff 16 (by kernel_rfl)).symm.trans h0_) (by decide), fun h0_ => absurd ((hoff 16 (by kernel_rfl)).symm.trans h0_) (by decide), fun h0_ => absurd ((hoff 16 (by kernel_rfl)).symm.trans h0_) (by decide), Q_X12_⟩
  refine steps_cons ?_ ?_
  ·rintro b a w' ⟨gb_, v_, m12_, ha, Q_P, Q_PQ, Q_A12, Q_GB, Q_SV, Q_B, Q_NZ, Q_MC, Q_X12_⟩ hb_ hon hoff
   refine ⟨_, rfl, fun K hK => ?_⟩
   have e26 : a.tmps[26]? = some (.pointer (some ⟨gm, 11, none⟩)) := by rw [ha]; exact putSel_on (e := (3, 26, .pointer (some ⟨gm, 11, none⟩))) 1 rfl rfl (hon 3 (by kernel_rfl)) rfl
   replace ha := mk0 ha
   have P := mk0 (Q_P (hoff 13 (by kernel_rfl)))
   have hc11_ : w'.cell? ⟨gm, 11, none⟩ = some (.slice Av sm.length cv) := (blk_cell (blk_below HM4.out P.out) 11).trans rfl
   refine value_ (w1 := w') (v := .slice Av sm.length cv) (by rfl) rfl ?_ ?_
   ·go_simp
    (try simp only [i64_w])
    try rfl
   refine hK.out _ _ ⟨gb_, v_, m12_, (by rw [ha.out]; exact putSel_upk 2 hb_ rfl rfl rfl), Q_P, fun h0_ _ => absurd ((hoff 13 (by kernel_rfl)).symm.trans h0_) (by decide), Q_A12, Q_GB, fun h0_ => absurd ((hoff 13 (by kernel_rfl)).symm.trans h0_) (by decide), fun h0_ => absurd ((hoff 16 (by kernel_rfl)).symm.trans h0_) (by decide), fun h0_ => absurd ((hoff 16 (by kernel_rfl)).symm.trans h0_) (by decide), fun h0_ => absurd ((hoff 16 (by kernel_rfl)).symm.trans h0_) (by decide), Q_X12_⟩
  refine steps_cons ?_ ?_
  ·rintro b a w' ⟨gb_, v_, m12_, ha, Q_P, Q_PQ, Q_A12, Q_GB, Q_SV, Q_B, Q_NZ, Q_MC, Q_X12_⟩ hb_ hon hoff
   refine ⟨_, rfl, fun K hK => ?_⟩
   have e30 : a.tmps[30]? = some (.pointer (some ⟨gm, 0, none⟩)) := by rw [ha]; exact (putSel_off rfl).trans rfl
   replace ha := mk0 ha
   have P := mk0 (Q_P (hoff 13 (by kernel_rfl)))
   refine value_ (w1 := w') (v := .pointer (some ⟨gm, 0, none⟩)) (by rfl) rfl ?_ ?_
   ·go_simp
    (try simp only [i64_w])
    try rfl
   refine hK.out _ _ ⟨gb_, v_, m12_, (by rw [ha.out]; exact putSel_upk 3 hb_ rfl rfl rfl), Q_P, fun h0_ _ => absurd ((hoff 13 (by kernel_rfl)).symm.trans h0_) (by decide), fun h0_ _ => absurd ((hoff 12 (by kernel_rfl)).symm.trans h0_) (by decide), fun h0_ _ => absurd ((hoff 12 (by kernel_rfl)).symm.trans h0_) (by decide), fun h0_ => absurd ((hoff 13 (by kernel_rfl)).symm.trans h0_) (by decide), fun h0_ => absurd ((hoff 16 (by kernel_rfl)).symm.trans h0_) (by decide), fun h0_ => absurd ((hoff 16 (by kernel_rfl)).symm.trans h0_) (by decide), fun h0_ => absurd ((hoff 16 (by kernel_rfl)).symm.trans h0_) (by decide), fun h0_ => absurd ((hoff 12 (by kernel_rfl)).symm.trans h0_) (by decide)⟩
  refine steps_cons ?_ ?_
  ·rintro b a w' ⟨gb_, v_, m12_, ha, Q_P, Q_PQ, Q_A12, Q_GB, Q_SV, Q_B, Q_NZ, Q_MC, Q_X12_⟩ hb_ hon hoff
   refine ⟨_, rfl, fun K hK => ?_⟩
   have e31 : a.tmps[31]? = some (.pointer (some ⟨gm, 0, none⟩)) := by rw [ha]; exact putSel_on (e := (8, 31, .pointer (some ⟨gm, 0, none⟩))) 3 rfl rfl (hon 8 (by kernel_rfl)) rfl
   replace ha := mk0 ha
   have P := mk0 (Q_P (hoff 13 (by kernel_rfl)))
   refine value_ (w1 := w') (v := .pointer (some ⟨gm, 10, none⟩)) (by rfl) rfl ?_ ?_
   ·go_simp
    (try simp only [i64_w])
    try rfl
   refine hK.out _ _ ⟨gb_, v_, m12_, (by rw [ha.out]; exact putSel_upk 4 hb_ rfl rfl rfl), Q_P, fun h0_ _ => absurd ((hoff 13 (by kernel_rfl)).symm.trans h0_) (by decide), fun h0_ _ => absurd ((hoff 12 (by kernel_rfl)).symm.trans h0_) (by decide), fun h0_ _ => absurd ((hoff 12 (by kernel_rfl)).symm.trans h0_) (by decide), fun h0_ => absurd ((hoff 13 (by kernel_rfl)).symm.trans h0_) (by decide), fun h0_ => absurd ((hoff 16 (by kernel_rfl)).symm.trans h0_) (by decide), fun h0_ => absurd ((hoff 16 (by kernel_rfl)).symm.trans h0_) (by decide), fun h0_ => absurd ((hoff 16 (by kernel_rfl)).symm.trans h0_) (by decide), fun h0_ => absurd ((hoff 12 (by kernel_rfl)).symm.trans h0_) (by decide)⟩
  refine steps_cons ?_ ?_
  ·rintro b a w' ⟨gb_, v_, m12_, ha, Q_P, Q_PQ, Q_A12, Q_GB, Q_SV, Q_B, Q_NZ, Q_MC, Q_X12_⟩ hb_ hon hoff
   refine ⟨_, rfl, fun K hK => ?_⟩
   have e32 : a.tmps[32]? = some (.pointer (some ⟨gm, 10, none⟩)) := by rw [ha]; exact putSel_on (e := (9, 32, .pointer (some ⟨gm, 10, none⟩))) 4 rfl rfl (hon 9 (by kernel_rfl)) rfl
   replace ha := mk0 ha
   have P := mk0 (Q_P (hoff 13 (by kernel_rfl)))
   have hc10_ : w'.cell? ⟨gm, 10, none⟩ = some (.slice An nt.length cn) := (blk_cell (blk_below HM4.out P.out) 10).trans rfl
   refine value_ (w1 := w') (v := .slice An nt.length cn) (by rfl) rfl ?_ ?_
   ·go_simp
    (try simp only [i64_w])
    try rfl
   refine hK.out _ _ ⟨gb_, v_, m12_, (by rw [ha.out]; exact putSel_upk 5 hb_ rfl rfl rfl), Q_P, fun h0_ _ => absurd ((hoff 13 (by kernel_rfl)).symm.trans h0_) (by decide), fun h0_ _ => absurd ((hoff 12 (by kernel_rfl)).symm.trans h0_) (by decide), fun h0_ _ => absurd ((hoff 12 (by kernel_rfl)).symm.trans h0_) (by decide), fun h0_ => absurd ((hoff 13 (by kernel_rfl)).symm.trans h0_) (by decide), fun h0_ => absurd ((hoff 16 (by kernel_rfl)).symm.trans h0_) (by decide), fun h0_ => absurd ((hoff 16 (by kernel_rfl)).symm.trans h0_) (by decide), fun h0_ => absurd ((hoff 16 (by kernel_rfl)).symm.trans h0_) (by decide), fun h0_ => absurd ((hoff 12 (by kernel_rfl)).symm.trans h0_) (by decide)⟩
  refine steps_cons ?_ ?_
  ·rintro b a w' ⟨gb_, v_, m12_, ha, Q_P, Q_PQ, Q_A12, Q_GB, Q_SV, Q_B, Q_NZ, Q_MC, Q_X12_⟩ hb_ hon hoff
   refine ⟨_, rfl, fun K hK => ?_⟩
   have e29 : a.tmps[29]? = some (.string s) := by rw [ha]; exact (putSel_off rfl).trans rfl
   have e33 : a.tmps[33]? = some (.slice An nt.length cn) := by rw [ha]; exact putSel_on (e := (10, 33, .slice An nt.length cn)) 5 rfl rfl (hon 10 (by kernel_rfl)) rfl
   replace ha := mk0 ha
   have P := mk0 (Q_P (hoff 13 (by kernel_rfl)))
   refine value_ (w1 := w') (v := .agg #[.string s, .slice An nt.length cn]) (by rfl) rfl ?_ ?_
   ·go_simp
    (try simp only [i64_w])
    try rfl
   refine hK.out _ _ ⟨gb_, v_, m12_, (by rw [ha.out]; exact putSel_upk 6 hb_ rfl rfl rfl), Q_P, fun h0_ _ => absurd ((hoff 13 (by kernel_rfl)).symm.trans h0_) (by decide), fun h0_ _ => absurd ((hoff 12 (by kernel_rfl)).symm.trans h0_) (by decide), fun h0_ _ => absurd ((hoff 12 (by kernel_rfl)).symm.trans h0_) (by decide), fun h0_ => absurd ((hoff 13 (by kernel_rfl)).symm.trans h0_) (by decide), fun h0_ => absurd ((hoff 16 (by kernel_rfl)).symm.trans h0_) (by decide), fun h0_ => absurd ((hoff 16 (by kernel_rfl)).symm.trans h0_) (by decide), fun h0_ => absurd ((hoff 16 (by kernel_rfl)).symm.trans h0_) (by decide), fun h0_ => absurd ((hoff 12 (by kernel_rfl)).symm.trans h0_) (by decide)⟩
  refine steps_cons ?_ ?_
  ·rintro b a w' ⟨gb_, v_, m12_, ha, Q_P, Q_PQ, Q_A12, Q_GB, Q_SV, Q_B, Q_NZ, Q_MC, Q_X12_⟩ hb_ hon hoff
   refine ⟨_, rfl, fun K hK => ?_⟩
   have e34 : a.tmps[34]? = some (.agg #[.string s, .slice An nt.length cn]) := by rw [ha]; exact putSel_on (e := (11, 34, .agg #[.string s, .slice An nt.length cn])) 6 rfl rfl (hon 11 (by kernel_rfl)) rfl
   replace ha := mk0 ha
   have P := mk0 (Q_P (hoff 13 (by kernel_rfl)))
   refine value_ (w1 := w'.alloc (.cells #[.string s, .slice An nt.length cn] 76)) (v := .slice (some ⟨w'.heap.size, 0, none⟩) 1 1) (by rfl) rfl ?_ ?_
   ·go_simp
    try rfl
   refine hK.out _ _ ⟨w'.heap.size, v_, (.slice (some ⟨w'.heap.size, 0, none⟩) 1 1), (by rw [ha.out]; exact putSel_upk 7 hb_ rfl rfl rfl), fun _ => below_step P.out (below_alloc (Below.refl _ _) _), fun h0_ _ => absurd ((hoff 13 (by kernel_rfl)).symm.trans h0_) (by decide), fun _ _ => blk_new _ _, fun _ _ => Nat.le_trans HNW.out P.out.size, fun h0_ => absurd ((hoff 13 (by kernel_rfl)).symm.trans h0_) (by decide), fun h0_ => absurd ((hoff 16 (by kernel_rfl)).symm.trans h0_) (by decide), fun h0_ => absurd ((hoff 16 (by kernel_rfl)).symm.trans h0_) (by decide), fun h0_ => absurd ((hoff 16 (by kernel_rfl)).symm.trans h0_) (by decide), fun _ => rfl⟩
  refine steps_cons ?_ ?_
  ·rintro b a w' ⟨gb_, v_, m12_, ha, Q_P, Q_PQ, Q_A12, Q_GB, Q_SV, Q_B, Q_NZ, Q_MC, Q_X12_⟩ hb_ hon hoff
   refine ⟨_, rfl, fun K hK => ?_⟩
   have e27 : a.tmps[27]? = some (.slice Av sm.length cv) := by rw [ha]; exact putSel_on (e := (4, 27, .slice Av sm.length cv)) 2 rfl rfl (hon 4 (by kernel_rfl)) rfl
   have e28 : a.tmps[28]? = some (.int .i64 (iX : Int)) := by rw [ha]; exact (putSel_off rfl).trans rfl
   have e35 : a.tmps[35]? = some (m12_) := by rw [ha]; exact putSel_on (e := (12, 35, m12_)) 7 rfl rfl (hon 12 (by kernel_rfl)) rfl
   rw [Q_X12_ (hon 12 (by kernel_rfl))] at e35
   replace ha := mk0 ha
   have P := mk0 (Q_P hb_)
   have A12 := mk0 (Q_A12 (hon 12 (by kernel_rfl)) hb_)
   have GB := mk0 (Q_GB (hon 12 (by kernel_rfl)) hb_)
   refine goes_ Tryz.func108 (by kernel_rfl) rfl #[.slice Av sm.length cv, .int .i64 (iX : Int), .slice (some ⟨gb_, 0, none⟩) 1 1] (by rfl) rfl rfl (by first | (simp only [List.map_toArray, List.map_cons, List.map_nil, Act.eval, Array.getD_eq_getD_getElem?, Option.getD_some, e27, e28, e35]; done) | (simp only [List.map_toArray, List.map_cons, List.map_nil, Act.eval, Array.getD_eq_getD_getElem?, Option.getD_some, e27, e28, e35]; rfl)) ?_
   refine (insert_calls gm N0 gb_ iX s _ _ nt sm _ HIL.out HLN.out (Nat.le_trans HNW.out P.out.size) HN0.out GB.out A12.out (Kd.R_below HS6.out P.out) (Kd.R_below HR5.out P.out)).mono ?_
   rintro e w8 ⟨v1, rfl, hS, hb⟩
   rw [← HLS.out] at hS
   refine ⟨_, rfl, ?_⟩
   refine hK.out _ _ ⟨gb_, v1, m12_, (by rw [ha.out]; exact putSel_upk 8 hb_ rfl rfl rfl), fun h0_ => absurd ((up_self b 13).symm.trans h0_) (by decide), fun _ _ => ((P.out.mono HGW1.out).trans hb), fun _ h1_ => absurd ((up_self b 13).symm.trans h1_) (by decide), fun _ h1_ => absurd ((up_self b 13).symm.trans h1_) (by decide), fun _ => hS, fun h0_ => absurd ((hoff 16 (by kernel_rfl)).symm.trans h0_) (by decide), fun h0_ => absurd ((hoff 16 (by kernel_rfl)).symm.trans h0_) (by decide), fun h0_ => absurd ((hoff 16 (by kernel_rfl)).symm.trans h0_) (by decide), Q_X12_⟩
  refine steps_cons ?_ ?_
  ·rintro b a w' ⟨gb_, v_, m12_, ha, Q_P, Q_PQ, Q_A12, Q_GB, Q_SV, Q_B, Q_NZ, Q_MC, Q_X12_⟩ hb_ hon hoff
   refine ⟨_, rfl, fun K hK => ?_⟩
   have e23 : a.tmps[23]? = some (.pointer (some ⟨gm, 0, none⟩)) := by rw [ha]; exact (putSel_off rfl).trans rfl
   replace ha := mk0 ha
   have PQ := mk0 (Q_PQ (hon 13 (by kernel_rfl)) (hoff 16 (by kernel_rfl)))
   have SV := mk0 (Q_SV (hon 13 (by kernel_rfl)))
   refine value_ (w1 := w') (v := .pointer (some ⟨gm, 0, none⟩)) (by rfl) rfl ?_ ?_
   ·go_simp
    (try simp only [i64_w])
    try rfl
   refine hK.out _ _ ⟨gb_, v_, m12_, (by rw [ha.out]; exact putSel_upk 9 hb_ rfl rfl rfl), fun h0_ => absurd ((hon 13 (by kernel_rfl)).symm.trans h0_) (by decide), Q_PQ, fun _ h1_ => absurd ((hon 13 (by kernel_rfl)).symm.trans h1_) (by decide), fun _ h1_ => absurd ((hon 13 (by kernel_rfl)).symm.trans h1_) (by decide), Q_SV, fun h0_ => absurd ((hoff 16 (by kernel_rfl)).symm.trans h0_) (by decide), fun h0_ => absurd ((hoff 16 (by kernel_rfl)).symm.trans h0_) (by decide), fun h0_ => absurd ((hoff 16 (by kernel_rfl)).symm.trans h0_) (by decide), Q_X12_⟩
  refine steps_cons ?_ ?_
  ·rintro b a w' ⟨gb_, v_, m12_, ha, Q_P, Q_PQ, Q_A12, Q_GB, Q_SV, Q_B, Q_NZ, Q_MC, Q_X12_⟩ hb_ hon hoff
   refine ⟨_, rfl, fun K hK => ?_⟩
   have e37 : a.tmps[37]? = some (.pointer (some ⟨gm, 0, none⟩)) := by rw [ha]; exact putSel_on (e := (14, 37, .pointer (some ⟨gm, 0, none⟩))) 9 rfl rfl (hon 14 (by kernel_rfl)) rfl
   replace ha := mk0 ha
   have PQ := mk0 (Q_PQ (hon 13 (by kernel_rfl)) (hoff 16 (by kernel_rfl)))
   have SV := mk0 (Q_SV (hon 13 (by kernel_rfl)))
   refine value_ (w1 := w') (v := .pointer (some ⟨gm, 11, none⟩)) (by rfl) rfl ?_ ?_
   ·go_simp
    (try simp only [i64_w])
    try rfl
   refine hK.out _ _ ⟨gb_, v_, m12_, (by rw [ha.out]; exact putSel_upk 10 hb_ rfl rfl rfl), fun h0_ => absurd ((hon 13 (by kernel_rfl)).symm.trans h0_) (by decide), Q_PQ, fun _ h1_ => absurd ((hon 13 (by kernel_rfl)).symm.trans h1_) (by decide), fun _ h1_ => absurd ((hon 13 (by kernel_rfl)).symm.trans h1_) (by decide), Q_SV, fun h0_ => absurd ((hoff 16 (by kernel_rfl)).symm.trans h0_) (by decide), fun h0_ => absurd ((hoff 16 (by kernel_rfl)).symm.trans h0_) (by decide), fun h0_ => absurd ((hoff 16 (by kernel_rfl)).symm.trans h0_) (by decide), Q_X12_⟩
  refine steps_cons ?_ ?_
  ·rintro b a w' ⟨gb_, v_, m12_, ha, Q_P, Q_PQ, Q_A12, Q_GB, Q_SV, Q_B, Q_NZ, Q_MC, Q_X12_⟩ hb_ hon hoff
   refine ⟨_, rfl, fun K hK => ?_⟩
   have e38 : a.tmps[38]? = some (.pointer (some ⟨gm, 11, none⟩)) := by rw [ha]; exact putSel_on (e := (15, 38, .pointer (some ⟨gm, 11, none⟩))) 10 rfl rfl (hon 15 (by kernel_rfl)) rfl
   have e36 : a.tmps[36]? = some (v_) := by rw [ha]; exact putSel_on (e := (13, 36, v_)) 8 rfl rfl (hon 13 (by kernel_rfl)) rfl
   replace ha := mk0 ha
   have PQ := mk0 (Q_PQ (hon 13 (by kernel_rfl)) hb_)
   have SV := mk0 (Q_SV (hon 13 (by kernel_rfl)))
   obtain ⟨A9_, c9_, e9_⟩ := Kd.R_slice SV.out
   subst e9_
   have MA := (PQ.out.block gm (Nat.lt_succ_self gm)).trans HM4.out
   have hs11_ : w'.cell? ⟨gm, 11, none⟩ = some (.slice Av sm.length cv) := ct MA 11
   have hf11_ := blk_frozen MA 11
   replace MA := mk0 MA
   refine skip_ (w1 := ?_) (by rfl) rfl ?_ ?_
   rotate_left
   ·go_simp
    rfl
   refine hK.out _ _ ⟨gb_, .slice A9_ LS.length c9_, m12_, (by rw [ha.out]; exact putSel_none (v := undef) rfl), fun h0_ => absurd ((hon 13 (by kernel_rfl)).symm.trans h0_) (by decide), fun _ h1_ => absurd ((up_self b 16).symm.trans h1_) (by decide), fun _ h1_ => absurd ((hon 13 (by kernel_rfl)).symm.trans h1_) (by decide), fun _ h1_ => absurd ((hon 13 (by kernel_rfl)).symm.trans h1_) (by decide), fun _ => Kd.R_far SV.out (fun k hk => Nat.ne_of_gt hk) _, fun _ => ((HBG.out.trans (PQ.out.mono (Nat.le_succ gm))).setCell (Nat.le_refl _) _), fun _ => by simpa using Nat.le_trans HNW.out PQ.out.size, fun _ => blk_put MA.out 11 _ rfl, Q_X12_⟩
  exact steps_nil
 rintro b a W2 hall ⟨gb_, v_, m12_, ha, Q_P, Q_PQ, Q_A12, Q_GB, Q_SV, Q_B, Q_NZ, Q_MC, Q_X12_⟩
 clear P
 have hb2_ := hall 2 (by kernel_rfl)
 have hb3_ := hall 3 (by kernel_rfl)
 have hb4_ := hall 4 (by kernel_rfl)
 have hb8_ := hall 8 (by kernel_rfl)
 have hb9_ := hall 9 (by kernel_rfl)
 have hb10_ := hall 10 (by kernel_rfl)
 have hb11_ := hall 11 (by kernel_rfl)
 have hb12_ := hall 12 (by kernel_rfl)
 have hb13_ := hall 13 (by kernel_rfl)
 have hb14_ := hall 14 (by kernel_rfl)
 have hb15_ := hall 15 (by kernel_rfl)
 have hb16_ := hall 16 (by kernel_rfl)
 subst ha
 obtain rfl := Q_X12_ hb12_
 simp only [putSel, hb2_, hb3_, hb4_, hb8_, hb9_, hb10_, hb11_, hb12_, hb13_, hb14_, hb15_, hb16_, if_true, Act.put, List.setIfInBounds_toArray, List.set_cons_zero, List.set_cons_succ]
 clear Q_P
 clear Q_PQ
 clear Q_A12
 clear Q_GB
 have SV := mk0 (Q_SV hb13_)
 clear Q_SV
 have B := mk0 (Q_B hb16_)
 clear Q_B
 have NZ := mk0 (Q_NZ hb16_)
 clear Q_NZ
 have MC := mk0 (Q_MC hb16_)
 clear Q_MC
 clear hall hb2_ hb3_ hb4_ hb8_ hb9_ hb10_ hb11_ hb12_ hb13_ hb14_ hb15_ hb16_
 have y10 : W2.cell? ⟨gm, 10, none⟩ = some (.slice An nt.length cn) := ct MC.out 10
 have f10 := blk_frozen MC.out 10
 go_wp2
 go_ret
 refine ⟨rfl, B.out.setCell (Nat.le_refl _) _, fun _ => ⟨.slice none 0 0, v_, W2.heap.size, Nat.lt_of_lt_of_le HN0.out NZ.out, by simp, by simp, blk_put MC.out 10 _ rfl, Kd.R_nil _ _ _ _ _, ?_, trivial⟩⟩
 exact Kd.R_mono (Kd.R_far (Kd.R_bound SV.out) (fun k hk => Nat.ne_of_gt hk.1) _) (fun k hk => ⟨hk.1, hk.2.2.1⟩)
end Go.Proofs.YtolbjmaabghghaaGreatDoor.PA
