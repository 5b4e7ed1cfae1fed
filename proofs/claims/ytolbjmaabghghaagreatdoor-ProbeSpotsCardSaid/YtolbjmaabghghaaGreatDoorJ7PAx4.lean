/- A part of the proof. -/
import Derived.Test.YtolbjmaabghghaaGreatDoorJ7PAx0
import Derived.Test.YtolbjmaabghghaaGreatDoorJ7PAx3
namespace Go.Proofs.YtolbjmaabghghaaGreatDoor.PA
open Go.RowKit Go.PW Go.PL Go.PM
attribute [local go_sem] max2_int min2_int max_two min_two max_three min_three max_four min_four   -- for this text's walks alone
set_option linter.unusedVariables false
set_option maxHeartbeats 8000000
set_option maxRecDepth 100000
set_option linter.unusedSimpArgs false
mutual
def probe_Check.j0 : Nat → Bool → Int → Int → Int → Int → Int → Int → List (S84) → Option (Int)
 | 0, _, _, _, _, _, _, _, _ => none
 | k + 1, x17, x117000, x117001, x117002, x117003, x117004, x117005, x117006 => if x17 = true then (some 2) else ((probe_of.f x117000 x117001 x117002).bind fun bt119 => ((probe_of.f x117003 x117004 x117005).bind fun bt122 => (probe_Check.l0 k 0 x117000 x117001 x117002 x117003 x117004 x117005 x117006 bt119.1 bt119.2.1 bt119.2.2 bt122.1 bt122.2.1 bt122.2.2)))
def probe_Check.l0 : Nat → Int → Int → Int → Int → Int → Int → Int → List (S84) → Int → Int → Int → Int → Int → Int → Option (Int)
 | 0, _, _, _, _, _, _, _, _, _, _, _, _, _, _ => none
 | k + 1, x24, x117000, x117001, x117002, x117003, x117004, x117005, x117006, x126000, x126001, x126002, x127000, x127001, x127002 => if x24 < 3 then (if 0 ≤ x24 then (if x24 = 0 then (if x126000 > x127000 then (some 9) else (probe_Check.l0 k (wrap64 (x24 + 1)) x117000 x117001 x117002 x117003 x117004 x117005 x117006 x126000 x126001 x126002 x127000 x127001 x127002)) else (if x24 = 1 then (if x126001 > x127001 then (some 9) else (probe_Check.l0 k (wrap64 (x24 + 1)) x117000 x117001 x117002 x117003 x117004 x117005 x117006 x126000 x126001 x126002 x127000 x127001 x127002)) else (if x24 = 2 then (if x126002 > x127002 then (some 9) else (probe_Check.l0 k (wrap64 (x24 + 1)) x117000 x117001 x117002 x117003 x117004 x117005 x117006 x126000 x126001 x126002 x127000 x127001 x127002)) else (none)))) else (none)) else (if (x117006.length : Int) > 16 then (some 5) else (probe_Check.l1 k x117006 (x117006.length : Int) 0))
def probe_Check.l1 : Nat → List (S84) → Int → Int → Option (Int)
 | 0, _, _, _ => none
 | k + 1, x40, x41, x42 => if x42 < x41 then (if 0 ≤ x42 then (if x42 < (x40.length : Int) then (if ((rd_T84 x40 x42).f0) < 0 then (probe_Check.j3 k x40 x41 x42 true ((rd_T84 x40 x42).f0) ((rd_T84 x40 x42).f1.f0) ((rd_T84 x40 x42).f1.f1) ((rd_T84 x40 x42).f2)) else (probe_Check.j3 k x40 x41 x42 (decide (((rd_T84 x40 x42).f0) ≥ 3)) ((rd_T84 x40 x42).f0) ((rd_T84 x40 x42).f1.f0) ((rd_T84 x40 x42).f1.f1) ((rd_T84 x40 x42).f2))) else (none)) else (none)) else (some 0)
def probe_Check.j3 : Nat → List (S84) → Int → Int → Bool → Int → Int → Int → Int → Option (Int)
 | 0, _, _, _, _, _, _, _, _ => none
 | k + 1, x40, x41, x42, x46, x129000, x129001, x129002, x129003 => if x46 = true then (some 1) else ((probe_within.f x129001).bind fun t129 => (if t129 = true then ((probe_within.f x129002).bind fun t130 => (if t130 = true then (if x129003 < 1 then (some 2) else (if x129003 > 100000 then (some 2) else (probe_Check.l1 k x40 x41 (wrap64 (x42 + 1))))) else (some 2))) else (some 2)))
end
def probe_Check.f (k : Nat) (a0_0 : Int) (a0_1 : Int) (a0_2 : Int) (a0_3 : Int) (a0_4 : Int) (a0_5 : Int) (l0_6 : List (S84)) : Option (Int) := (probe_right.f a0_0 a0_1 a0_2).bind fun t117 => (if t117 = true then ((probe_right.f a0_3 a0_4 a0_5).bind fun t118 => (probe_Check.j0 k (!t118) a0_0 a0_1 a0_2 a0_3 a0_4 a0_5 l0_6)) else (probe_Check.j0 k true a0_0 a0_1 a0_2 a0_3 a0_4 a0_5 l0_6))
def probe_Check.T3 : Bool × List (List Nat × List Nat) := (true, [([], []), ([0], [0]), ([1], [1]), ([], []), ([3], [3]), ([4, 2], [4]), ([], []), ([], []), ([6, 2, 5, 0, 1, 2, 6, 7], [2, 6]), ([7, 5, 8, 0, 1, 2, 3, 4, 5, 6, 7, 8], [5, 7])])
def probe_Check.B3 : List Nat := [0, 1, 3, 0, 8, 31, 0, 0, 255, 511]
theorem probe_Check.tab3 : rtab .any (opsOf Tryz.f17 3) = probe_Check.T3 := by kernel_rfl
theorem probe_Check.bits3 : waitsOk probe_Check.T3.2 probe_Check.B3 = true := by kernel_rfl
theorem probe_Check.calls (k : Nat) (a0_0 : Int) (a0_1 : Int) (a0_2 : Int) (a0_3 : Int) (a0_4 : Int) (a0_5 : Int) (A0_6 : Option Addr) (c0_6 : Nat) (l0_6 : List (S84)) (r : Int) (w : World) (hr0_6 : Kd.C k84 w A0_6 l0_6.length l0_6) (hc0_6 : l0_6.length ≤ c0_6) (h : probe_Check.f k a0_0 a0_1 a0_2 a0_3 a0_4 a0_5 l0_6 = some r) :
  Calls Tryz.prog 17 #[.agg #[.int .i64 a0_0, .int .i64 a0_1, .int .i64 a0_2, .int .i64 a0_3, .int .i64 a0_4, .int .i64 a0_5, .slice A0_6 l0_6.length c0_6]] w fun e w' => e = .returned (.int .i64 r) ∧ Below w.heap.size w w' := by
 have hu26 := Tryz.underlying26
 have hu23 := Tryz.underlying23
 have hu101 := Tryz.underlying101
 have hu84 := Tryz.underlying84
 have HR0_6 := mk0 hr0_6
 have HC0_6 := mk0 hc0_6
 clear hr0_6 hc0_6
 have HB := mk0 (Below.refl w.heap.size w)
 have H : ((probe_right.f a0_0 a0_1 a0_2).bind fun t117 => (if t117 = true then ((probe_right.f a0_3 a0_4 a0_5).bind fun t118 => (probe_Check.j0 k (!t118) a0_0 a0_1 a0_2 a0_3 a0_4 a0_5 l0_6)) else (probe_Check.j0 k true a0_0 a0_1 a0_2 a0_3 a0_4 a0_5 l0_6))) = some r := h
 clear h
 have HC2 := mk0 H
 clear H
 go_enter Tryz.func17, Tryz.ntmps17
 go_upto_region 1 with (first | ((with_reducible refine gate_dst (N := 1) rfl ?_); refine box_event ?hg (N := 1) ?hd (cs := #[.int .i64 a0_0, .int .i64 a0_1, .int .i64 a0_2, .int .i64 a0_3, .int .i64 a0_4, .int .i64 a0_5, .slice A0_6 l0_6.length c0_6]) (t := 26) ?hr ?_; (case hd => rfl); (case hg => rfl); (case hr => first | (go_simp; done) | (go_simp; rfl)); intro gb116 hg w3 hbox hb; have n0_ := mk0 (below_step (wT HB.out) hb); have n1_ := mk0 (hbox); have n2_ := mk0 ((szT HB.out hg)); have n3_ := mk0 ((szT HB.out hg)); clear HB; have HB := n0_; have BK116 := n1_; have GW116 := n2_; have GE116 := n3_; clear n0_ n1_ n2_ n3_; clear hb hbox hg))
 (try simp only [Act.put, List.setIfInBounds_toArray, List.set_cons_zero, List.set_cons_succ])
 go_cut [17] (fun v17 wc => ∃ (kq : Nat) (x17_1 : Bool), v17 = .bool x17_1 ∧ Aside0 (probe_Check.j0 kq x17_1 a0_0 a0_1 a0_2 a0_3 a0_4 a0_5 l0_6 = some r) ∧ Aside0 (kq ≤ k) ∧ Aside0 (wc.heap[gb116]? = some (.cells #[.int .i64 a0_0, .int .i64 a0_1, .int .i64 a0_2, .int .i64 a0_3, .int .i64 a0_4, .int .i64 a0_5, (.slice A0_6 l0_6.length c0_6)] 26 (0, 0))) ∧ Aside0 (Below w.heap.size w wc))
 case first =>
  have H := HC2.out
  clear HC2
  replace H := Option.bind_eq_some_iff.mp H
  obtain ⟨t117, A40, H⟩ := H
  (try dsimp only at H)
  have A4 := mk0 A40
  clear A40
  by_cases c5 : t117 = true
  ·subst c5
   have H1 : ((probe_right.f a0_3 a0_4 a0_5).bind fun t118 => (probe_Check.j0 k (!t118) a0_0 a0_1 a0_2 a0_3 a0_4 a0_5 l0_6)) = some r := by rw [if_pos rfl] at H; exact H
   clear H
   have H := H1
   clear H1
   replace H := Option.bind_eq_some_iff.mp H
   obtain ⟨t118, A60, H⟩ := H
   (try dsimp only at H)
   have A6 := mk0 A60
   clear A60
   have H' := mk0 H
   clear H
   have X7_0 := ct BK116.out 0
   have X7_1 := ct BK116.out 1
   have X7_2 := ct BK116.out 2
   have X7_3 := ct BK116.out 3
   have X7_4 := ct BK116.out 4
   have X7_5 := ct BK116.out 5
   have X7_6 := ct BK116.out 6
   have Y7_0 := blk_frozen BK116.out 0
   have Y7_1 := blk_frozen BK116.out 1
   have Y7_2 := blk_frozen BK116.out 2
   have Y7_3 := blk_frozen BK116.out 3
   have Y7_4 := blk_frozen BK116.out 4
   have Y7_5 := blk_frozen BK116.out 5
   have Y7_6 := blk_frozen BK116.out 6
   go_wp2_with (first | ((with_reducible refine gate_callee (f := 42) rfl ?_); refine goesL_ (some 10) rfl rfl Tryz.func42 (by kernel_rfl) rfl #[.agg #[.int .i64 a0_0, .int .i64 a0_1, .int .i64 a0_2]] rfl mapT ?_; (with_reducible refine (probe_right.calls a0_0 a0_1 a0_2 true _ A4.out).mono ?_); rintro e w8 ⟨rfl, hb⟩; refine ⟨_, rfl, ?_⟩; have n0_ := mk0 (bbT BK116.out hb); have n1_ := mk0 (below_step (wT HB.out) hb); clear BK116; clear HB; have BK116 := n0_; have HB := n1_; clear n0_ n1_; (try clear hb); (try clear hb2); (try clear hk); (try clear hi); have X9_0 := ct BK116.out 0; have X9_1 := ct BK116.out 1; have X9_2 := ct BK116.out 2; have X9_3 := ct BK116.out 3; have X9_4 := ct BK116.out 4; have X9_5 := ct BK116.out 5; have X9_6 := ct BK116.out 6; have Y9_0 := blk_frozen BK116.out 0; have Y9_1 := blk_frozen BK116.out 1; have Y9_2 := blk_frozen BK116.out 2; have Y9_3 := blk_frozen BK116.out 3; have Y9_4 := blk_frozen BK116.out 4; have Y9_5 := blk_frozen BK116.out 5; have Y9_6 := blk_frozen BK116.out 6) | (go_at_call 42; (with_reducible refine (probe_right.calls a0_3 a0_4 a0_5 t118 _ A6.out).mono ?_); rintro e w10 ⟨rfl, hb⟩; have n0_ := mk0 (bbT BK116.out hb); have n1_ := mk0 (below_step (wT HB.out) hb); clear BK116; clear HB; have BK116 := n0_; have HB := n1_; clear n0_ n1_; (try clear hb); (try clear hb2); (try clear hk); (try clear hi)))
   go_meet
   case rel => exact ⟨_, (!t118), (by first | rfl | (simp; done) | (simp [*]; done) | exact congrArg (Value.int .i64) (by unfold wrap64; omega)), H', ⟨by first | omega | exact Nat.le_refl _⟩, ⟨bT BK116.out⟩, ⟨wT HB.out⟩⟩
  ·replace c5 := Bool.eq_false_iff.mpr c5
   subst c5
   have H1 : (probe_Check.j0 k true a0_0 a0_1 a0_2 a0_3 a0_4 a0_5 l0_6) = some r := by rw [if_neg (show ¬ (false = true) by decide)] at H; exact H
   clear H
   have H := H1
   clear H1
   have H' := mk0 H
   clear H
   have X11_0 := ct BK116.out 0
   have X11_1 := ct BK116.out 1
   have X11_2 := ct BK116.out 2
   have X11_3 := ct BK116.out 3
   have X11_4 := ct BK116.out 4
   have X11_5 := ct BK116.out 5
   have X11_6 := ct BK116.out 6
   have Y11_0 := blk_frozen BK116.out 0
   have Y11_1 := blk_frozen BK116.out 1
   have Y11_2 := blk_frozen BK116.out 2
   have Y11_3 := blk_frozen BK116.out 3
   have Y11_4 := blk_frozen BK116.out 4
   have Y11_5 := blk_frozen BK116.out 5
   have Y11_6 := blk_frozen BK116.out 6
   go_wp2_with (first | ((with_reducible refine gate_callee (f := 42) rfl ?_); refine goesL_ (some 10) rfl rfl Tryz.func42 (by kernel_rfl) rfl #[.agg #[.int .i64 a0_0, .int .i64 a0_1, .int .i64 a0_2]] rfl mapT ?_; (with_reducible refine (probe_right.calls a0_0 a0_1 a0_2 false _ A4.out).mono ?_); rintro e w12 ⟨rfl, hb⟩; refine ⟨_, rfl, ?_⟩; have n0_ := mk0 (bbT BK116.out hb); have n1_ := mk0 (below_step (wT HB.out) hb); clear BK116; clear HB; have BK116 := n0_; have HB := n1_; clear n0_ n1_; (try clear hb); (try clear hb2); (try clear hk); (try clear hi)))
   go_meet
   case rel => exact ⟨_, (true), (by first | rfl | (simp; done) | (simp [*]; done) | exact congrArg (Value.int .i64) (by unfold wrap64; omega)), H', ⟨by first | omega | exact Nat.le_refl _⟩, ⟨bT BK116.out⟩, ⟨wT HB.out⟩⟩
 case rest =>
  clear HC2
  try clear c5
  try clear X11_0
  try clear X11_1
  try clear X11_2
  try clear X11_3
  try clear X11_4
  try clear X11_5
  try clear X11_6
  try clear X7_0
  try clear X7_1
  try clear X7_2
  try clear X7_3
  try clear X7_4
  try clear X7_5
  try clear X7_6
  try clear X9_0
  try clear X9_1
  try clear X9_2
  try clear X9_3
  try clear X9_4
  try clear X9_5
  try clear X9_6
  try clear Y11_0
  try clear Y11_1
  try clear Y11_2
  try clear Y11_3
  try clear Y11_4
  try clear Y11_5
  try clear Y11_6
  try clear Y7_0
  try clear Y7_1
  try clear Y7_2
  try clear Y7_3
  try clear Y7_4
  try clear Y7_5
  try clear Y7_6
  try clear Y9_0
  try clear Y9_1
  try clear Y9_2
  try clear Y9_3
  try clear Y9_4
  try clear Y9_5
  try clear Y9_6
  obtain ⟨kq, x17_1, rfl, HA, HJ1, BK116, HB⟩ := hcut
  cases kq with
  | zero => exact absurd HA.out (by simp [probe_Check.j0])
  | succ kj1 =>
   have H := HA.out
   clear HA
   simp only [probe_Check.j0] at H
   by_cases c13 : x17_1 = true
   ·subst c13
    have H1 : (some 2) = some r := by rw [if_pos rfl] at H; exact H
    clear H
    have H := H1
    clear H1
    obtain rfl := Option.some.inj H
    go_wp2
    go_ret
    exact ⟨eqT, wT HB.out⟩
   ·replace c13 := Bool.eq_false_iff.mpr c13
    subst c13
    have H1 : ((probe_of.f a0_0 a0_1 a0_2).bind fun bt119 => ((probe_of.f a0_3 a0_4 a0_5).bind fun bt122 => (probe_Check.l0 kj1 0 a0_0 a0_1 a0_2 a0_3 a0_4 a0_5 l0_6 bt119.1 bt119.2.1 bt119.2.2 bt122.1 bt122.2.1 bt122.2.2))) = some r := by rw [if_neg (show ¬ (false = true) by decide)] at H; exact H
    clear H
    have H := H1
    clear H1
    replace H := Option.bind_eq_some_iff.mp H
    obtain ⟨⟨t119, t120, t121⟩, A140, H⟩ := H
    (try dsimp only at H)
    have A14 := mk0 A140
    clear A140
    replace H := Option.bind_eq_some_iff.mp H
    obtain ⟨⟨t122, t123, t124⟩, A150, H⟩ := H
    (try dsimp only at H)
    have A15 := mk0 A150
    clear A150
    have H' := mk0 H
    clear H
    try go_wp2
    have n0_ := mk0 (blk_drew BK116.out)
    have n1_ := mk0 (below_drew1 HB.out)
    clear BK116
    clear HB
    have BK116 := n0_
    have HB := n1_
    clear n0_ n1_
    refine start_ (n := 10) (S := fun w' => True) (ds := []) #[false, false, false, false, false, false, false, false, false, false] (by kernel_rfl) rfl rfl trivial (fun hHeld => ?_); refine with_tabW probe_Check.tab3 probe_Check.bits3 (fun HT_ HW_ => ?_)
    generalize wc.drew = w16 at BK116 HB hHeld ⊢
    refine pure_ (i := 0) (N := some 18) (v := ?_) (a' := ?_) #[true, false, false, false, false, false, false, false, false, false] rfl rfl (any_of HT_.out (by kernel_rfl)) (fun _ _ _ h => h) (Or.inl ⟨by rfl, ?_⟩) ?_ ?_
    rotate_left
    ·intro w'
     go_simp
     with_reducible rfl
    rotate_left
    ·exact nrm
    refine pure_ (i := 3) (N := some 21) (v := ?_) (a' := ?_) #[true, false, false, true, false, false, false, false, false, false] rfl rfl (any_of HT_.out (by kernel_rfl)) (fun _ _ _ h => h) (Or.inl ⟨by rfl, ?_⟩) ?_ ?_
    rotate_left
    ·intro w'
     go_simp
     with_reducible rfl
    rotate_left
    ·exact nrm
    refine inv_at [1, 2, 4, 5, 6, 7, 8, 9] (fun a0_ b a w' => ∃ (gb125 : Nat) (gb126 : Nat) (m6_ : Value) (m7_ : Value), a = putSel a0_ b [(1, 19, .agg #[.int .i64 a0_0, .int .i64 a0_1, .int .i64 a0_2]), (2, 20, .agg #[.int .i64 t119, .int .i64 t120, .int .i64 t121]), (4, 22, .agg #[.int .i64 a0_3, .int .i64 a0_4, .int .i64 a0_5]), (5, 23, .agg #[.int .i64 t122, .int .i64 t123, .int .i64 t124]), (6, 3, m6_), (7, 4, m7_)] ∧ (w'.heap[gb116]? = some (.cells #[.int .i64 a0_0, .int .i64 a0_1, .int .i64 a0_2, .int .i64 a0_3, .int .i64 a0_4, .int .i64 a0_5, .slice A0_6 l0_6.length c0_6] 26 (0, 0))) ∧ (Below w.heap.size w w') ∧ (b 6 = true → b 7 = true → gb126 ≠ gb125) ∧ (b 6 = true → b 7 = true → gb125 ≠ gb126) ∧ (b 6 = true → b 8 = false → w'.heap[gb125]? = some (.cells #[.int .i64 0, .int .i64 0, .int .i64 0] 101 (0, 0))) ∧ (b 6 = true → w.heap.size ≤ gb125) ∧ (b 6 = true → w.heap.size ≤ gb125) ∧ (b 6 = true → gb116 ≠ gb125) ∧ (b 6 = true → gb125 ≠ gb116) ∧ (b 7 = true → b 9 = false → w'.heap[gb126]? = some (.cells #[.int .i64 0, .int .i64 0, .int .i64 0] 101 (0, 0))) ∧ (b 7 = true → w.heap.size ≤ gb126) ∧ (b 7 = true → w.heap.size ≤ gb126) ∧ (b 7 = true → gb116 ≠ gb126) ∧ (b 7 = true → gb126 ≠ gb116) ∧ (b 8 = true → w'.heap[gb125]? = some (.cells #[.int .i64 t119, .int .i64 t120, .int .i64 t121] 101 (0, 0))) ∧ (b 9 = true → w'.heap[gb126]? = some (.cells #[.int .i64 t122, .int .i64 t123, .int .i64 t124] 101 (0, 0))) ∧ (b 6 = true → (m6_ : Value) = .pointer (some ⟨gb125, 0, none⟩)) ∧ (b 7 = true → (m7_ : Value) = .pointer (some ⟨gb126, 0, none⟩))) HT_.out HW_.out (by kernel_rfl) (by kernel_rfl) ?_ ?_ ?_
    ·exact ⟨0, 0, .bool false, .bool false, by simp only [putSel, Bool.false_eq_true, if_false], BK116.out, HB.out, fun h_ => absurd h_ (by decide), fun h_ => absurd h_ (by decide), fun h_ => absurd h_ (by decide), fun h_ => absurd h_ (by decide), fun h_ => absurd h_ (by decide), fun h_ => absurd h_ (by decide), fun h_ => absurd h_ (by decide), fun h_ => absurd h_ (by decide), fun h_ => absurd h_ (by decide), fun h_ => absurd h_ (by decide), fun h_ => absurd h_ (by decide), fun h_ => absurd h_ (by decide), fun h_ => absurd h_ (by decide), fun h_ => absurd h_ (by decide), fun h_ => absurd h_ (by decide), fun h_ => absurd h_ (by decide)⟩
    ·skip
     clear BK116 HB
     refine steps_cons ?_ ?_
     ·rintro b a w' ⟨gb125, gb126, m6_, m7_, ha, Q_BK116, Q_HB, Q_NB126_125, Q_NB125_126, Q_BK125, Q_GW125, Q_GE125, Q_NB116_125, Q_NB125_116, Q_BK126, Q_GW126, Q_GE126, Q_NB116_126, Q_NB126_116, Q_BK125_e8, Q_BK126_e9, Q_X6_, Q_X7_⟩ hb_ hon hoff
      refine ⟨_, rfl, fun K hK => ?_⟩
      have e18 : a.tmps[18]? = some (.pointer (some ⟨gb116, 0, none⟩)) := by rw [ha]; exact (putSel_off rfl).trans rfl
      replace ha := mk0 ha
      have BK116 := mk0 Q_BK116
      have HB := mk0 Q_HB
      have hc0_ := ct BK116.out 0
      have hc1_ := ct BK116.out 1
      have hc2_ := ct BK116.out 2
      have hc3_ := ct BK116.out 3
      have hc4_ := ct BK116.out 4
      have hc5_ := ct BK116.out 5
      have hc6_ := ct BK116.out 6
      refine value_ (w1 := w') (v := .agg #[.int .i64 a0_0, .int .i64 a0_1, .int .i64 a0_2]) (by rfl) rfl ?_ ?_
      ·go_simp
       (try simp only [i64_w])
       try rfl
      refine hK.out _ _ ⟨gb125, gb126, m6_, m7_, (by rw [ha.out]; exact putSel_upk 0 hb_ rfl rfl rfl), Q_BK116, Q_HB, Q_NB126_125, Q_NB125_126, Q_BK125, Q_GW125, Q_GE125, Q_NB116_125, Q_NB125_116, Q_BK126, Q_GW126, Q_GE126, Q_NB116_126, Q_NB126_116, fun h0_ => absurd ((hoff 8 (by kernel_rfl)).symm.trans h0_) (by decide), fun h0_ => absurd ((hoff 9 (by kernel_rfl)).symm.trans h0_) (by decide), Q_X6_, Q_X7_⟩
     refine steps_cons ?_ ?_
     ·rintro b a w' ⟨gb125, gb126, m6_, m7_, ha, Q_BK116, Q_HB, Q_NB126_125, Q_NB125_126, Q_BK125, Q_GW125, Q_GE125, Q_NB116_125, Q_NB125_116, Q_BK126, Q_GW126, Q_GE126, Q_NB116_126, Q_NB126_116, Q_BK125_e8, Q_BK126_e9, Q_X6_, Q_X7_⟩ hb_ hon hoff
      refine ⟨_, rfl, fun K hK => ?_⟩
      have e19 : a.tmps[19]? = some (.agg #[.int .i64 a0_0, .int .i64 a0_1, .int .i64 a0_2]) := by rw [ha]; exact putSel_on (e := (1, 19, .agg #[.int .i64 a0_0, .int .i64 a0_1, .int .i64 a0_2])) 0 rfl rfl (hon 1 (by kernel_rfl)) rfl
      replace ha := mk0 ha
      have BK116 := mk0 Q_BK116
      have HB := mk0 Q_HB
      refine goes_ Tryz.func43 (by kernel_rfl) rfl #[.agg #[.int .i64 a0_0, .int .i64 a0_1, .int .i64 a0_2]] (by rfl) rfl rfl (by first | (simp only [List.map_toArray, List.map_cons, List.map_nil, Act.eval, Array.getD_eq_getD_getElem?, Option.getD_some, e19]; done) | (simp only [List.map_toArray, List.map_cons, List.map_nil, Act.eval, Array.getD_eq_getD_getElem?, Option.getD_some, e19]; rfl)) ?_
      with_reducible refine (probe_of.calls a0_0 a0_1 a0_2 t119 t120 t121 _ A14.out).mono ?_
      rintro e w17 ⟨rfl, hb⟩
      refine ⟨_, rfl, ?_⟩
      have n0_ := mk0 (bbT BK116.out hb)
      have n1_ := mk0 (below_step (wT HB.out) hb)
      have z_BK125 := fun (h0_ : b 6 = true) (h1_ : b 8 = false) => (bbT (Q_BK125 h0_ h1_) hb)
      have z_BK126 := fun (h0_ : b 7 = true) (h1_ : b 9 = false) => (bbT (Q_BK126 h0_ h1_) hb)
      clear BK116
      clear HB
      have BK116 := n0_
      have HB := n1_
      clear n0_ n1_
      (try clear hb)
      (try clear hb2)
      (try clear hk)
      (try clear hi)
      refine hK.out _ _ ⟨gb125, gb126, m6_, m7_, (by rw [ha.out]; exact putSel_upk 1 hb_ rfl rfl rfl), (bT BK116.out), (wT HB.out), Q_NB126_125, Q_NB125_126, z_BK125, Q_GW125, Q_GE125, Q_NB116_125, Q_NB125_116, z_BK126, Q_GW126, Q_GE126, Q_NB116_126, Q_NB126_116, fun h0_ => absurd ((hoff 8 (by kernel_rfl)).symm.trans h0_) (by decide), fun h0_ => absurd ((hoff 9 (by kernel_rfl)).symm.trans h0_) (by decide), Q_X6_, Q_X7_⟩
     refine steps_cons ?_ ?_
     ·rintro b a w' ⟨gb125, gb126, m6_, m7_, ha, Q_BK116, Q_HB, Q_NB126_125, Q_NB125_126, Q_BK125, Q_GW125, Q_GE125, Q_NB116_125, Q_NB125_116, Q_BK126, Q_GW126, Q_GE126, Q_NB116_126, Q_NB126_116, Q_BK125_e8, Q_BK126_e9, Q_X6_, Q_X7_⟩ hb_ hon hoff
      refine ⟨_, rfl, fun K hK => ?_⟩
      have e21 : a.tmps[21]? = some (.pointer (some ⟨gb116, 3, none⟩)) := by rw [ha]; exact (putSel_off rfl).trans rfl
      replace ha := mk0 ha
      have BK116 := mk0 Q_BK116
      have HB := mk0 Q_HB
      have hc0_ := ct BK116.out 0
      have hc1_ := ct BK116.out 1
      have hc2_ := ct BK116.out 2
      have hc3_ := ct BK116.out 3
      have hc4_ := ct BK116.out 4
      have hc5_ := ct BK116.out 5
      have hc6_ := ct BK116.out 6
      refine value_ (w1 := w') (v := .agg #[.int .i64 a0_3, .int .i64 a0_4, .int .i64 a0_5]) (by rfl) rfl ?_ ?_
      ·go_simp
       (try simp only [i64_w])
       try rfl
      refine hK.out _ _ ⟨gb125, gb126, m6_, m7_, (by rw [ha.out]; exact putSel_upk 2 hb_ rfl rfl rfl), Q_BK116, Q_HB, Q_NB126_125, Q_NB125_126, Q_BK125, Q_GW125, Q_GE125, Q_NB116_125, Q_NB125_116, Q_BK126, Q_GW126, Q_GE126, Q_NB116_126, Q_NB126_116, fun h0_ => absurd ((hoff 8 (by kernel_rfl)).symm.trans h0_) (by decide), fun h0_ => absurd ((hoff 9 (by kernel_rfl)).symm.trans h0_) (by decide), Q_X6_, Q_X7_⟩
     refine steps_cons ?_ ?_
     ·rintro b a w' ⟨gb125, gb126, m6_, m7_, ha, Q_BK116, Q_HB, Q_NB126_125, Q_NB125_126, Q_BK125, Q_GW125, Q_GE125, Q_NB116_125, Q_NB125_116, Q_BK126, Q_GW126, Q_GE126, Q_NB116_126, Q_NB126_116, Q_BK125_e8, Q_BK126_e9, Q_X6_, Q_X7_⟩ hb_ hon hoff
      refine ⟨_, rfl, fun K hK => ?_⟩
      have e22 : a.tmps[22]? = some (.agg #[.int .i64 a0_3, .int .i64 a0_4, .int .i64 a0_5]) := by rw [ha]; exact putSel_on (e := (4, 22, .agg #[.int .i64 a0_3, .int .i64 a0_4, .int .i64 a0_5])) 2 rfl rfl (hon 4 (by kernel_rfl)) rfl
      replace ha := mk0 ha
      have BK116 := mk0 Q_BK116
      have HB := mk0 Q_HB
      refine goes_ Tryz.func43 (by kernel_rfl) rfl #[.agg #[.int .i64 a0_3, .int .i64 a0_4, .int .i64 a0_5]] (by rfl) rfl rfl (by first | (simp only [List.map_toArray, List.map_cons, List.map_nil, Act.eval, Array.getD_eq_getD_getElem?, Option.getD_some, e22]; done) | (simp only [List.map_toArray, List.map_cons, List.map_nil, Act.eval, Array.getD_eq_getD_getElem?, Option.getD_some, e22]; rfl)) ?_
      with_reducible refine (probe_of.calls a0_3 a0_4 a0_5 t122 t123 t124 _ A15.out).mono ?_
      rintro e w19 ⟨rfl, hb⟩
      refine ⟨_, rfl, ?_⟩
      have n0_ := mk0 (bbT BK116.out hb)
      have n1_ := mk0 (below_step (wT HB.out) hb)
      have z_BK125 := fun (h0_ : b 6 = true) (h1_ : b 8 = false) => (bbT (Q_BK125 h0_ h1_) hb)
      have z_BK126 := fun (h0_ : b 7 = true) (h1_ : b 9 = false) => (bbT (Q_BK126 h0_ h1_) hb)
      clear BK116
      clear HB
      have BK116 := n0_
      have HB := n1_
      clear n0_ n1_
      (try clear hb)
      (try clear hb2)
      (try clear hk)
      (try clear hi)
      refine hK.out _ _ ⟨gb125, gb126, m6_, m7_, (by rw [ha.out]; exact putSel_upk 3 hb_ rfl rfl rfl), (bT BK116.out), (wT HB.out), Q_NB126_125, Q_NB125_126, z_BK125, Q_GW125, Q_GE125, Q_NB116_125, Q_NB125_116, z_BK126, Q_GW126, Q_GE126, Q_NB116_126, Q_NB126_116, fun h0_ => absurd ((hoff 8 (by kernel_rfl)).symm.trans h0_) (by decide), fun h0_ => absurd ((hoff 9 (by kernel_rfl)).symm.trans h0_) (by decide), Q_X6_, Q_X7_⟩
     refine steps_cons ?_ ?_
     ·rintro b a w' ⟨gb125, gb126, m6_, m7_, ha, Q_BK116, Q_HB, Q_NB126_125, Q_NB125_126, Q_BK125, Q_GW125, Q_GE125, Q_NB116_125, Q_NB125_116, Q_BK126, Q_GW126, Q_GE126, Q_NB116_126, Q_NB126_116, Q_BK125_e8, Q_BK126_e9, Q_X6_, Q_X7_⟩ hb_ hon hoff
      refine ⟨_, rfl, fun K hK => ?_⟩
      replace ha := mk0 ha
      have BK116 := mk0 Q_BK116
      have HB := mk0 Q_HB
      refine box_step ?hg (N := 3) ?hd (cs := #[.int .i64 0, .int .i64 0, .int .i64 0]) (t := 101) ?hr ?_; (case hd => rfl); (case hg => rfl); (case hr => first | (go_simp; done) | (go_simp; rfl))
      intro gb125 hg w17 hbox hb
      have n0_ := mk0 (bbT BK116.out hb)
      have n1_ := mk0 (below_step (wT HB.out) hb)
      have n2_ := mk0 (hbox)
      have n3_ := mk0 ((szT HB.out hg))
      have n4_ := mk0 ((szT HB.out hg))
      have n5_ := mk0 ((neL BK116.out hg))
      have n6_ := mk0 ((neG BK116.out hg))
      have z_NB126_125 := fun (h0_ : up b 6 6 = true) (h1_ : up b 6 7 = true) => (show gb126 ≠ gb125 from by rw [hg]; exact Nat.ne_of_lt ((show gb126 < w'.heap.size by cases hq_ : b 9 with | false => exact blk_lt (Q_BK126 h1_ hq_) | true => exact blk_lt (Q_BK126_e9 hq_))))
      have z_NB125_126 := fun (h0_ : up b 6 6 = true) (h1_ : up b 6 7 = true) => (show gb125 ≠ gb126 from by rw [hg]; exact Nat.ne_of_gt ((show gb126 < w'.heap.size by cases hq_ : b 9 with | false => exact blk_lt (Q_BK126 h1_ hq_) | true => exact blk_lt (Q_BK126_e9 hq_))))
      have z_BK126 := fun (h0_ : b 7 = true) (h1_ : b 9 = false) => (bbT (Q_BK126 h0_ h1_) hb)
      clear BK116
      clear HB
      have BK116 := n0_
      have HB := n1_
      have BK125 := n2_
      have GW125 := n3_
      have GE125 := n4_
      have NB116_125 := n5_
      have NB125_116 := n6_
      clear n0_ n1_ n2_ n3_ n4_ n5_ n6_
      clear hb hbox hg
      refine hK.out _ _ ⟨gb125, gb126, (.pointer (some ⟨gb125, 0, none⟩)), m7_, (by rw [ha.out]; exact putSel_upk 4 hb_ rfl rfl rfl), (bT BK116.out), (wT HB.out), z_NB126_125, z_NB125_126, fun _ _ => (bT BK125.out), fun _ => GW125.out, fun _ => GE125.out, fun _ => NB116_125.out, fun _ => NB125_116.out, z_BK126, Q_GW126, Q_GE126, Q_NB116_126, Q_NB126_116, fun h0_ => absurd ((hoff 8 (by kernel_rfl)).symm.trans h0_) (by decide), fun h0_ => absurd ((hoff 9 (by kernel_rfl)).symm.trans h0_) (by decide), fun _ => rfl, Q_X7_⟩
     refine steps_cons ?_ ?_
     ·rintro b a w' ⟨gb125, gb126, m6_, m7_, ha, Q_BK116, Q_HB, Q_NB126_125, Q_NB125_126, Q_BK125, Q_GW125, Q_GE125, Q_NB116_125, Q_NB125_116, Q_BK126, Q_GW126, Q_GE126, Q_NB116_126, Q_NB126_116, Q_BK125_e8, Q_BK126_e9, Q_X6_, Q_X7_⟩ hb_ hon hoff
      refine ⟨_, rfl, fun K hK => ?_⟩
      replace ha := mk0 ha
      have BK116 := mk0 Q_BK116
      have HB := mk0 Q_HB
      refine box_step ?hg (N := 4) ?hd (cs := #[.int .i64 0, .int .i64 0, .int .i64 0]) (t := 101) ?hr ?_; (case hd => rfl); (case hg => rfl); (case hr => first | (go_simp; done) | (go_simp; rfl))
      intro gb126 hg w17 hbox hb
      have n0_ := mk0 (bbT BK116.out hb)
      have n1_ := mk0 (below_step (wT HB.out) hb)
      have n2_ := mk0 (hbox)
      have n3_ := mk0 ((szT HB.out hg))
      have n4_ := mk0 ((szT HB.out hg))
      have n5_ := mk0 ((neL BK116.out hg))
      have n6_ := mk0 ((neG BK116.out hg))
      have z_NB126_125 := fun (h0_ : up b 7 6 = true) (h1_ : up b 7 7 = true) => (show gb126 ≠ gb125 from by rw [hg]; exact Nat.ne_of_gt ((show gb125 < w'.heap.size by cases hq_ : b 8 with | false => exact blk_lt (Q_BK125 h0_ hq_) | true => exact blk_lt (Q_BK125_e8 hq_))))
      have z_NB125_126 := fun (h0_ : up b 7 6 = true) (h1_ : up b 7 7 = true) => (show gb125 ≠ gb126 from by rw [hg]; exact Nat.ne_of_lt ((show gb125 < w'.heap.size by cases hq_ : b 8 with | false => exact blk_lt (Q_BK125 h0_ hq_) | true => exact blk_lt (Q_BK125_e8 hq_))))
      have z_BK125 := fun (h0_ : b 6 = true) (h1_ : b 8 = false) => (bbT (Q_BK125 h0_ h1_) hb)
      clear BK116
      clear HB
      have BK116 := n0_
      have HB := n1_
      have BK126 := n2_
      have GW126 := n3_
      have GE126 := n4_
      have NB116_126 := n5_
      have NB126_116 := n6_
      clear n0_ n1_ n2_ n3_ n4_ n5_ n6_
      clear hb hbox hg
      refine hK.out _ _ ⟨gb125, gb126, m6_, (.pointer (some ⟨gb126, 0, none⟩)), (by rw [ha.out]; exact putSel_upk 5 hb_ rfl rfl rfl), (bT BK116.out), (wT HB.out), z_NB126_125, z_NB125_126, z_BK125, Q_GW125, Q_GE125, Q_NB116_125, Q_NB125_116, fun _ _ => (bT BK126.out), fun _ => GW126.out, fun _ => GE126.out, fun _ => NB116_126.out, fun _ => NB126_116.out, fun h0_ => absurd ((hoff 8 (by kernel_rfl)).symm.trans h0_) (by decide), fun h0_ => absurd ((hoff 9 (by kernel_rfl)).symm.trans h0_) (by decide), Q_X6_, fun _ => rfl⟩
     refine steps_cons ?_ ?_
     ·rintro b a w' ⟨gb125, gb126, m6_, m7_, ha, Q_BK116, Q_HB, Q_NB126_125, Q_NB125_126, Q_BK125, Q_GW125, Q_GE125, Q_NB116_125, Q_NB125_116, Q_BK126, Q_GW126, Q_GE126, Q_NB116_126, Q_NB126_116, Q_BK125_e8, Q_BK126_e9, Q_X6_, Q_X7_⟩ hb_ hon hoff
      refine ⟨_, rfl, fun K hK => ?_⟩
      have e3 : a.tmps[3]? = some (m6_) := by rw [ha]; exact putSel_on (e := (6, 3, m6_)) 4 rfl rfl (hon 6 (by kernel_rfl)) rfl
      rw [Q_X6_ (hon 6 (by kernel_rfl))] at e3
      have e20 : a.tmps[20]? = some (.agg #[.int .i64 t119, .int .i64 t120, .int .i64 t121]) := by rw [ha]; exact putSel_on (e := (2, 20, .agg #[.int .i64 t119, .int .i64 t120, .int .i64 t121])) 1 rfl rfl (hon 2 (by kernel_rfl)) rfl
      replace ha := mk0 ha
      have BK116 := mk0 Q_BK116
      have HB := mk0 Q_HB
      have NB126_125 := mk0 (Q_NB126_125 (hon 6 (by kernel_rfl)) (hon 7 (by kernel_rfl)))
      have NB125_126 := mk0 (Q_NB125_126 (hon 6 (by kernel_rfl)) (hon 7 (by kernel_rfl)))
      have BK125 := mk0 (Q_BK125 (hon 6 (by kernel_rfl)) hb_)
      have GW125 := mk0 (Q_GW125 (hon 6 (by kernel_rfl)))
      have GE125 := mk0 (Q_GE125 (hon 6 (by kernel_rfl)))
      have NB116_125 := mk0 (Q_NB116_125 (hon 6 (by kernel_rfl)))
      have NB125_116 := mk0 (Q_NB125_116 (hon 6 (by kernel_rfl)))
      have BK126 := mk0 (Q_BK126 (hon 7 (by kernel_rfl)) (hoff 9 (by kernel_rfl)))
      have GW126 := mk0 (Q_GW126 (hon 7 (by kernel_rfl)))
      have GE126 := mk0 (Q_GE126 (hon 7 (by kernel_rfl)))
      have NB116_126 := mk0 (Q_NB116_126 (hon 7 (by kernel_rfl)))
      have NB126_116 := mk0 (Q_NB126_116 (hon 7 (by kernel_rfl)))
      have hs22 := ct BK125.out 0
      have hfs22 := blk_frozen BK125.out 0
      have hns22_0 := NB116_125.out
      have hns22_2 := NB126_125.out
      have hms22_0 := NB125_116.out
      have hms22_2 := NB125_126.out
      have hs23 := ct BK125.out 1
      have hfs23 := blk_frozen BK125.out 1
      have hns23_0 := NB116_125.out
      have hns23_2 := NB126_125.out
      have hms23_0 := NB125_116.out
      have hms23_2 := NB125_126.out
      have hs24 := ct BK125.out 2
      have hfs24 := blk_frozen BK125.out 2
      have hns24_0 := NB116_125.out
      have hns24_2 := NB126_125.out
      have hms24_0 := NB125_116.out
      have hms24_2 := NB125_126.out
      refine skip_ (w1 := ?_) (by rfl) rfl ?_ ?_
      rotate_left
      ·go_simp
       rfl
      refine hK.out _ _ ⟨gb125, gb126, m6_, m7_, (by rw [ha.out]; exact putSel_none (v := undef) rfl), (by (with_reducible repeat (first | refine blk_drewN ?_ _ | refine blk_drew ?_ | refine blk_alloc ?_ _)); refine blk_far ?_ NB116_125.out _; refine blk_far ?_ NB116_125.out _; refine blk_far ?_ NB116_125.out _; (with_reducible repeat (first | refine blk_drewN ?_ _ | refine blk_drew ?_ | refine blk_alloc ?_ _)); exact BK116.out), (by repeat (first | (with_reducible first | exact HB.out | apply below_alloc | apply pw_below_drewN | apply below_drew1 | refine below_set ?_ GE125.out) | exact HB.out)), fun _ _ => NB126_125.out, fun _ _ => NB125_126.out, fun _ h1_ => absurd ((up_self b 8).symm.trans h1_) (by decide), fun _ => GW125.out, fun _ => GE125.out, fun _ => NB116_125.out, fun _ => NB125_116.out, fun _ _ => (by (with_reducible repeat (first | refine blk_drewN ?_ _ | refine blk_drew ?_ | refine blk_alloc ?_ _)); refine blk_far ?_ NB126_125.out _; refine blk_far ?_ NB126_125.out _; refine blk_far ?_ NB126_125.out _; (with_reducible repeat (first | refine blk_drewN ?_ _ | refine blk_drew ?_ | refine blk_alloc ?_ _)); exact BK126.out), fun _ => GW126.out, fun _ => GE126.out, fun _ => NB116_126.out, fun _ => NB126_116.out, fun _ => (by (with_reducible repeat (first | refine blk_drewN ?_ _ | refine blk_drew ?_ | refine blk_alloc ?_ _)); refine blk_put (cs := #[.int .i64 t119, .int .i64 t120, .int .i64 0]) ?_ 2 _ rfl; refine blk_put (cs := #[.int .i64 t119, .int .i64 0, .int .i64 0]) ?_ 1 _ rfl; refine blk_put (cs := #[.int .i64 0, .int .i64 0, .int .i64 0]) ?_ 0 _ rfl; (with_reducible repeat (first | refine blk_drewN ?_ _ | refine blk_drew ?_ | refine blk_alloc ?_ _)); exact BK125.out), fun h0_ => absurd ((hoff 9 (by kernel_rfl)).symm.trans h0_) (by decide), Q_X6_, Q_X7_⟩
     refine steps_cons ?_ ?_
     ·rintro b a w' ⟨gb125, gb126, m6_, m7_, ha, Q_BK116, Q_HB, Q_NB126_125, Q_NB125_126, Q_BK125, Q_GW125, Q_GE125, Q_NB116_125, Q_NB125_116, Q_BK126, Q_GW126, Q_GE126, Q_NB116_126, Q_NB126_116, Q_BK125_e8, Q_BK126_e9, Q_X6_, Q_X7_⟩ hb_ hon hoff
      refine ⟨_, rfl, fun K hK => ?_⟩
      have e4 : a.tmps[4]? = some (m7_) := by rw [ha]; exact putSel_on (e := (7, 4, m7_)) 5 rfl rfl (hon 7 (by kernel_rfl)) rfl
      rw [Q_X7_ (hon 7 (by kernel_rfl))] at e4
      have e23 : a.tmps[23]? = some (.agg #[.int .i64 t122, .int .i64 t123, .int .i64 t124]) := by rw [ha]; exact putSel_on (e := (5, 23, .agg #[.int .i64 t122, .int .i64 t123, .int .i64 t124])) 3 rfl rfl (hon 5 (by kernel_rfl)) rfl
      replace ha := mk0 ha
      have BK116 := mk0 Q_BK116
      have HB := mk0 Q_HB
      have NB126_125 := mk0 (Q_NB126_125 (hon 6 (by kernel_rfl)) (hon 7 (by kernel_rfl)))
      have NB125_126 := mk0 (Q_NB125_126 (hon 6 (by kernel_rfl)) (hon 7 (by kernel_rfl)))
      have GW125 := mk0 (Q_GW125 (hon 6 (by kernel_rfl)))
      have GE125 := mk0 (Q_GE125 (hon 6 (by kernel_rfl)))
      have NB116_125 := mk0 (Q_NB116_125 (hon 6 (by kernel_rfl)))
      have NB125_116 := mk0 (Q_NB125_116 (hon 6 (by kernel_rfl)))
      have BK126 := mk0 (Q_BK126 (hon 7 (by kernel_rfl)) hb_)
      have GW126 := mk0 (Q_GW126 (hon 7 (by kernel_rfl)))
      have GE126 := mk0 (Q_GE126 (hon 7 (by kernel_rfl)))
      have NB116_126 := mk0 (Q_NB116_126 (hon 7 (by kernel_rfl)))
      have NB126_116 := mk0 (Q_NB126_116 (hon 7 (by kernel_rfl)))
      have BK125 := mk0 (Q_BK125_e8 (hon 8 (by kernel_rfl)))
      have hs25 := ct BK126.out 0
      have hfs25 := blk_frozen BK126.out 0
      have hns25_0 := NB116_126.out
      have hns25_1 := NB125_126.out
      have hms25_0 := NB126_116.out
      have hms25_1 := NB126_125.out
      have hs26 := ct BK126.out 1
      have hfs26 := blk_frozen BK126.out 1
      have hns26_0 := NB116_126.out
      have hns26_1 := NB125_126.out
      have hms26_0 := NB126_116.out
      have hms26_1 := NB126_125.out
      have hs27 := ct BK126.out 2
      have hfs27 := blk_frozen BK126.out 2
      have hns27_0 := NB116_126.out
      have hns27_1 := NB125_126.out
      have hms27_0 := NB126_116.out
      have hms27_1 := NB126_125.out
      refine skip_ (w1 := ?_) (by rfl) rfl ?_ ?_
      rotate_left
      ·go_simp
       rfl
      refine hK.out _ _ ⟨gb125, gb126, m6_, m7_, (by rw [ha.out]; exact putSel_none (v := undef) rfl), (by (with_reducible repeat (first | refine blk_drewN ?_ _ | refine blk_drew ?_ | refine blk_alloc ?_ _)); refine blk_far ?_ NB116_126.out _; refine blk_far ?_ NB116_126.out _; refine blk_far ?_ NB116_126.out _; (with_reducible repeat (first | refine blk_drewN ?_ _ | refine blk_drew ?_ | refine blk_alloc ?_ _)); exact BK116.out), (by repeat (first | (with_reducible first | exact HB.out | apply below_alloc | apply pw_below_drewN | apply below_drew1 | refine below_set ?_ GE126.out) | exact HB.out)), fun _ _ => NB126_125.out, fun _ _ => NB125_126.out, fun _ h1_ => absurd ((hon 8 (by kernel_rfl)).symm.trans h1_) (by decide), fun _ => GW125.out, fun _ => GE125.out, fun _ => NB116_125.out, fun _ => NB125_116.out, fun _ h1_ => absurd ((up_self b 9).symm.trans h1_) (by decide), fun _ => GW126.out, fun _ => GE126.out, fun _ => NB116_126.out, fun _ => NB126_116.out, fun _ => (by (with_reducible repeat (first | refine blk_drewN ?_ _ | refine blk_drew ?_ | refine blk_alloc ?_ _)); refine blk_far ?_ NB125_126.out _; refine blk_far ?_ NB125_126.out _; refine blk_far ?_ NB125_126.out _; (with_reducible repeat (first | refine blk_drewN ?_ _ | refine blk_drew ?_ | refine blk_alloc ?_ _)); exact BK125.out), fun _ => (by (with_reducible repeat (first | refine blk_drewN ?_ _ | refine blk_drew ?_ | refine blk_alloc ?_ _)); refine blk_put (cs := #[.int .i64 t122, .int .i64 t123, .int .i64 0]) ?_ 2 _ rfl; refine blk_put (cs := #[.int .i64 t122, .int .i64 0, .int .i64 0]) ?_ 1 _ rfl; refine blk_put (cs := #[.int .i64 0, .int .i64 0, .int .i64 0]) ?_ 0 _ rfl; (with_reducible repeat (first | refine blk_drewN ?_ _ | refine blk_drew ?_ | refine blk_alloc ?_ _)); exact BK126.out), Q_X6_, Q_X7_⟩
     exact steps_nil
    rintro b a w27 hall ⟨gb125, gb126, m6_, m7_, ha, Q_BK116, Q_HB, Q_NB126_125, Q_NB125_126, Q_BK125, Q_GW125, Q_GE125, Q_NB116_125, Q_NB125_116, Q_BK126, Q_GW126, Q_GE126, Q_NB116_126, Q_NB126_116, Q_BK125_e8, Q_BK126_e9, Q_X6_, Q_X7_⟩
    clear BK116 HB
    have hb1_ := hall 1 (by kernel_rfl)
    have hb2_ := hall 2 (by kernel_rfl)
    have hb4_ := hall 4 (by kernel_rfl)
    have hb5_ := hall 5 (by kernel_rfl)
    have hb6_ := hall 6 (by kernel_rfl)
    have hb7_ := hall 7 (by kernel_rfl)
    have hb8_ := hall 8 (by kernel_rfl)
    have hb9_ := hall 9 (by kernel_rfl)
    subst ha
    obtain rfl := Q_X6_ hb6_
    obtain rfl := Q_X7_ hb7_
    simp only [putSel, hb1_, hb2_, hb4_, hb5_, hb6_, hb7_, hb8_, hb9_, if_true, Act.put, List.setIfInBounds_toArray, List.set_cons_zero, List.set_cons_succ]
    have BK116 := mk0 Q_BK116
    clear Q_BK116
    have HB := mk0 Q_HB
    clear Q_HB
    have NB126_125 := mk0 (Q_NB126_125 hb6_ hb7_)
    clear Q_NB126_125
    have NB125_126 := mk0 (Q_NB125_126 hb6_ hb7_)
    clear Q_NB125_126
    clear Q_BK125
    have GW125 := mk0 (Q_GW125 hb6_)
    clear Q_GW125
    have GE125 := mk0 (Q_GE125 hb6_)
    clear Q_GE125
    have NB116_125 := mk0 (Q_NB116_125 hb6_)
    clear Q_NB116_125
    have NB125_116 := mk0 (Q_NB125_116 hb6_)
    clear Q_NB125_116
    clear Q_BK126
    have GW126 := mk0 (Q_GW126 hb7_)
    clear Q_GW126
    have GE126 := mk0 (Q_GE126 hb7_)
    clear Q_GE126
    have NB116_126 := mk0 (Q_NB116_126 hb7_)
    clear Q_NB116_126
    have NB126_116 := mk0 (Q_NB126_116 hb7_)
    clear Q_NB126_116
    have BK125 := mk0 (Q_BK125_e8 hb8_)
    clear Q_BK125_e8
    have BK126 := mk0 (Q_BK126_e9 hb9_)
    clear Q_BK126_e9
    clear hall hb1_ hb2_ hb4_ hb5_ hb6_ hb7_ hb8_ hb9_
    try go_wp2
    go_loopg [24] kj1 (fun kq v24 w' => ∃ (x24_2 : Int), v24 = .int .i64 x24_2 ∧ Aside0 (probe_Check.l0 kq x24_2 a0_0 a0_1 a0_2 a0_3 a0_4 a0_5 l0_6 t119 t120 t121 t122 t123 t124 = some r) ∧ Aside0 (kq ≤ kj1) ∧ Aside0 (w'.heap[gb116]? = some (.cells #[.int .i64 a0_0, .int .i64 a0_1, .int .i64 a0_2, .int .i64 a0_3, .int .i64 a0_4, .int .i64 a0_5, (.slice A0_6 l0_6.length c0_6)] 26 (0, 0))) ∧ Aside0 (w'.heap[gb125]? = some (.cells #[.int .i64 t119, .int .i64 t120, .int .i64 t121] 101 (0, 0))) ∧ Aside0 (w'.heap[gb126]? = some (.cells #[.int .i64 t122, .int .i64 t123, .int .i64 t124] 101 (0, 0))) ∧ Aside0 (Below w.heap.size w w'))
    case atStart => exact ⟨(0), (by first | rfl | (simp; done) | (simp [*]; done) | exact congrArg (Value.int .i64) (by unfold wrap64; omega)), H', ⟨Nat.le_refl _⟩, ⟨bT BK116.out⟩, ⟨bT BK125.out⟩, ⟨bT BK126.out⟩, ⟨wT HB.out⟩⟩
    case round =>
     clear H'
     try clear c5
     try clear c13
     try clear X11_0
     try clear X11_1
     try clear X11_2
     try clear X11_3
     try clear X11_4
     try clear X11_5
     try clear X11_6
     try clear X7_0
     try clear X7_1
     try clear X7_2
     try clear X7_3
     try clear X7_4
     try clear X7_5
     try clear X7_6
     try clear X9_0
     try clear X9_1
     try clear X9_2
     try clear X9_3
     try clear X9_4
     try clear X9_5
     try clear X9_6
     try clear Y11_0
     try clear Y11_1
     try clear Y11_2
     try clear Y11_3
     try clear Y11_4
     try clear Y11_5
     try clear Y11_6
     try clear Y7_0
     try clear Y7_1
     try clear Y7_2
     try clear Y7_3
     try clear Y7_4
     try clear Y7_5
     try clear Y7_6
     try clear Y9_0
     try clear Y9_1
     try clear Y9_2
     try clear Y9_3
     try clear Y9_4
     try clear Y9_5
     try clear Y9_6
     obtain ⟨x24_2, rfl, HA, HK2, BK116, BK125, BK126, HB⟩ := hrel
     cases gk with
     | zero => exact absurd HA.out (by simp [probe_Check.l0])
     | succ k2 =>
      have H := HA.out
      clear HA
      simp only [probe_Check.l0] at H
      by_cases c28 : x24_2 < 3
      ·rw [if_pos c28] at H
       have c28b0 : decide (x24_2 < 3) = true := decide_eq_true c28
       clear c28
       by_cases c29 : 0 ≤ x24_2
       ·rw [if_pos c29] at H
        have c29b0 : decide (0 ≤ x24_2) = true := decide_eq_true c29
        clear c29
        by_cases c30 : x24_2 = 0
        ·rw [if_pos c30] at H
         have c30n : (x24_2).toNat = 0 := by rw [c30]; rfl
         have c30d : x24_2 = 0 := c30
         have c30l := eq_true (show 0 ≤ x24_2 by omega)
         have c30u1 := eq_true (show x24_2 < 1 by omega)
         have c30u2 := eq_true (show x24_2 < 2 by omega)
         have c30u3 := eq_true (show x24_2 < 3 by omega)
         have c30u4 := eq_true (show x24_2 < 4 by omega)
         have c30u5 := eq_true (show x24_2 < 5 by omega)
         have c30u6 := eq_true (show x24_2 < 6 by omega)
         replace c30d := mk0 c30d
         have c30b0 : (x24_2 == 0) = true := beq_iff_eq.mpr c30
         have c30b1 : (x24_2 != 0) = false := bne_eq_false_iff_eq.mpr c30
         clear c30
         by_cases c31 : t119 > t122
         ·rw [if_pos c31] at H
          have c31b0 : decide (t122 < t119) = true := decide_eq_true c31
          clear c31
          obtain rfl := Option.some.inj H
          try go_wp2
          have n0_ := mk0 (blk_drew BK125.out)
          have n1_ := mk0 (blk_drew BK126.out)
          have n2_ := mk0 (below_drew1 HB.out)
          clear BK125
          clear BK126
          clear HB
          have BK125 := n0_
          have BK126 := n1_
          have HB := n2_
          clear n0_ n1_ n2_
          refine start_ (n := 7) (S := fun w' => w'.cell? ⟨gb125, 0, none⟩ = some (.int .i64 t119) ∧ w'.cell? ⟨gb125, 1, none⟩ = some (.int .i64 t120) ∧ w'.cell? ⟨gb125, 2, none⟩ = some (.int .i64 t121) ∧ w'.cell? ⟨gb126, 0, none⟩ = some (.int .i64 t122) ∧ w'.cell? ⟨gb126, 1, none⟩ = some (.int .i64 t123) ∧ w'.cell? ⟨gb126, 2, none⟩ = some (.int .i64 t124)) (ds := []) #[false, false, false, false, false, false, false] (by kernel_rfl) rfl rfl ⟨ct BK125.out 0, ct BK125.out 1, ct BK125.out 2, ct BK126.out 0, ct BK126.out 1, ct BK126.out 2⟩ (fun hHeld => ?_)
          generalize wr.drew = w32 at BK125 BK126 HB hHeld ⊢
          refine pure_ (i := 0) (N := some 27) (v := ?_) (a' := ?_) #[true, false, false, false, false, false, false] rfl rfl (by kernel_rfl) (fun _ _ _ h => h) (Or.inl ⟨by rfl, ?_⟩) ?_ ?_
          rotate_left
          ·intro w'
           go_simp
           with_reducible rfl
          rotate_left
          ·exact nrm
          refine pure_ (i := 1) (N := some 28) (v := ?_) (a' := ?_) #[true, true, false, false, false, false, false] rfl rfl (by kernel_rfl) (fun _ _ _ h => h) (Or.inl ⟨by rfl, ?_⟩) ?_ ?_
          rotate_left
          ·intro w'
           go_simp
           with_reducible rfl
          rotate_left
          ·exact nrm
          refine pure_ (i := 3) (N := some 30) (v := ?_) (a' := ?_) #[true, true, false, true, false, false, false] rfl rfl (by kernel_rfl) (fun _ _ _ h => h) (Or.inl ⟨by rfl, ?_⟩) ?_ ?_
          rotate_left
          ·intro w'
           go_simp
           with_reducible rfl
          rotate_left
          ·exact nrm
          refine pure_ (i := 4) (N := some 31) (v := ?_) (a' := ?_) #[true, true, false, true, true, false, false] rfl rfl (by kernel_rfl) (fun _ _ _ h => h) (Or.inl ⟨by rfl, ?_⟩) ?_ ?_
          rotate_left
          ·intro w'
           go_simp
           with_reducible rfl
          rotate_left
          ·exact nrm
          refine take_ (i := 2) (N := some 29) (v := ?_) (a' := ?_) #[true, true, true, true, true, false, false] rfl rfl (by kernel_rfl) (fun _ _ _ h => h) (Or.inl ⟨by rfl, ?_⟩) hHeld ?_ ?_
          rotate_left
          ·rintro w' ⟨s0, s1, s2, s3, s4, s5⟩
           go_simp
           with_reducible rfl
          rotate_left
          ·exact nrm
          refine take_ (i := 5) (N := some 32) (v := ?_) (a' := ?_) #[true, true, true, true, true, true, false] rfl rfl (by kernel_rfl) (fun _ _ _ h => h) (Or.inl ⟨by rfl, ?_⟩) hHeld ?_ ?_
          rotate_left
          ·rintro w' ⟨s0, s1, s2, s3, s4, s5⟩
           go_simp
           with_reducible rfl
          rotate_left
          ·exact nrm
          refine pure_ (i := 6) (N := some 33) (v := ?_) (a' := ?_) #[true, true, true, true, true, true, true] rfl rfl (by kernel_rfl) (fun _ _ _ h => h) (Or.inl ⟨by rfl, ?_⟩) ?_ ?_
          rotate_left
          ·intro w'
           go_simp
           with_reducible rfl
          rotate_left
          ·exact nrm
          refine done_ (by kernel_rfl) ?_
          try go_wp2
          go_ret
          exact ⟨eqT, wT HB.out⟩
         ·rw [if_neg c31] at H
          have c31b0 : decide (t122 < t119) = false := decide_eq_false c31
          clear c31
          have H' := mk0 H
          clear H
          try go_wp2
          have n0_ := mk0 (blk_drew BK116.out)
          have n1_ := mk0 (blk_drew BK125.out)
          have n2_ := mk0 (blk_drew BK126.out)
          have n3_ := mk0 (below_drew1 HB.out)
          clear BK116
          clear BK125
          clear BK126
          clear HB
          have BK116 := n0_
          have BK125 := n1_
          have BK126 := n2_
          have HB := n3_
          clear n0_ n1_ n2_ n3_
          refine start_ (n := 7) (S := fun w' => w'.cell? ⟨gb125, 0, none⟩ = some (.int .i64 t119) ∧ w'.cell? ⟨gb125, 1, none⟩ = some (.int .i64 t120) ∧ w'.cell? ⟨gb125, 2, none⟩ = some (.int .i64 t121) ∧ w'.cell? ⟨gb126, 0, none⟩ = some (.int .i64 t122) ∧ w'.cell? ⟨gb126, 1, none⟩ = some (.int .i64 t123) ∧ w'.cell? ⟨gb126, 2, none⟩ = some (.int .i64 t124)) (ds := []) #[false, false, false, false, false, false, false] (by kernel_rfl) rfl rfl ⟨ct BK125.out 0, ct BK125.out 1, ct BK125.out 2, ct BK126.out 0, ct BK126.out 1, ct BK126.out 2⟩ (fun hHeld => ?_)
          generalize wr.drew = w33 at BK116 BK125 BK126 HB hHeld ⊢
          refine pure_ (i := 0) (N := some 27) (v := ?_) (a' := ?_) #[true, false, false, false, false, false, false] rfl rfl (by kernel_rfl) (fun _ _ _ h => h) (Or.inl ⟨by rfl, ?_⟩) ?_ ?_
          rotate_left
          ·intro w'
           go_simp
           with_reducible rfl
          rotate_left
          ·exact nrm
          refine pure_ (i := 1) (N := some 28) (v := ?_) (a' := ?_) #[true, true, false, false, false, false, false] rfl rfl (by kernel_rfl) (fun _ _ _ h => h) (Or.inl ⟨by rfl, ?_⟩) ?_ ?_
          rotate_left
          ·intro w'
           go_simp
           with_reducible rfl
          rotate_left
          ·exact nrm
          refine pure_ (i := 3) (N := some 30) (v := ?_) (a' := ?_) #[true, true, false, true, false, false, false] rfl rfl (by kernel_rfl) (fun _ _ _ h => h) (Or.inl ⟨by rfl, ?_⟩) ?_ ?_
          rotate_left
          ·intro w'
           go_simp
           with_reducible rfl
          rotate_left
          ·exact nrm
          refine pure_ (i := 4) (N := some 31) (v := ?_) (a' := ?_) #[true, true, false, true, true, false, false] rfl rfl (by kernel_rfl) (fun _ _ _ h => h) (Or.inl ⟨by rfl, ?_⟩) ?_ ?_
          rotate_left
          ·intro w'
           go_simp
           with_reducible rfl
          rotate_left
          ·exact nrm
          refine take_ (i := 2) (N := some 29) (v := ?_) (a' := ?_) #[true, true, true, true, true, false, false] rfl rfl (by kernel_rfl) (fun _ _ _ h => h) (Or.inl ⟨by rfl, ?_⟩) hHeld ?_ ?_
          rotate_left
          ·rintro w' ⟨s0, s1, s2, s3, s4, s5⟩
           go_simp
           with_reducible rfl
          rotate_left
          ·exact nrm
          refine take_ (i := 5) (N := some 32) (v := ?_) (a' := ?_) #[true, true, true, true, true, true, false] rfl rfl (by kernel_rfl) (fun _ _ _ h => h) (Or.inl ⟨by rfl, ?_⟩) hHeld ?_ ?_
          rotate_left
          ·rintro w' ⟨s0, s1, s2, s3, s4, s5⟩
           go_simp
           with_reducible rfl
          rotate_left
          ·exact nrm
          refine pure_ (i := 6) (N := some 33) (v := ?_) (a' := ?_) #[true, true, true, true, true, true, true] rfl rfl (by kernel_rfl) (fun _ _ _ h => h) (Or.inl ⟨by rfl, ?_⟩) ?_ ?_
          rotate_left
          ·intro w'
           go_simp
           with_reducible rfl
          rotate_left
          ·exact nrm
          refine done_ (by kernel_rfl) ?_
          try go_wp2
          go_roundg k2
          case measure => have := HJ1.out; have := HK2.out; omega
          case rel => exact ⟨(wrap64 (x24_2 + 1)), (by first | rfl | (simp; done) | (simp [*]; done) | exact congrArg (Value.int .i64) (by unfold wrap64; omega)), H', ⟨by have := HJ1.out; have := HK2.out; omega⟩, ⟨bT BK116.out⟩, ⟨bT BK125.out⟩, ⟨bT BK126.out⟩, ⟨wT HB.out⟩⟩
        ·rw [if_neg c30] at H
         have c30b0 : (x24_2 == 0) = false := beq_eq_false_iff_ne.mpr c30
         have c30b1 : (x24_2 != 0) = true := bne_iff_ne.mpr c30
         by_cases c34 : x24_2 = 1
         ·rw [if_pos c34] at H
          have c34n : (x24_2).toNat = 1 := by rw [c34]; rfl
          have c34d : x24_2 = 1 := c34
          have c34l := eq_true (show 0 ≤ x24_2 by omega)
          have c34u2 := eq_true (show x24_2 < 2 by omega)
          have c34u3 := eq_true (show x24_2 < 3 by omega)
          have c34u4 := eq_true (show x24_2 < 4 by omega)
          have c34u5 := eq_true (show x24_2 < 5 by omega)
          have c34u6 := eq_true (show x24_2 < 6 by omega)
          replace c34d := mk0 c34d
          have c34b0 : (x24_2 == 1) = true := beq_iff_eq.mpr c34
          have c34b1 : (x24_2 != 1) = false := bne_eq_false_iff_eq.mpr c34
          clear c34
          by_cases c35 : t120 > t123
          ·rw [if_pos c35] at H
           have c35b0 : decide (t123 < t120) = true := decide_eq_true c35
           clear c35
           obtain rfl := Option.some.inj H
           try go_wp2
           have n0_ := mk0 (blk_drew BK125.out)
           have n1_ := mk0 (blk_drew BK126.out)
           have n2_ := mk0 (below_drew1 HB.out)
           clear BK125
           clear BK126
           clear HB
           have BK125 := n0_
           have BK126 := n1_
           have HB := n2_
           clear n0_ n1_ n2_
           refine start_ (n := 7) (S := fun w' => w'.cell? ⟨gb125, 0, none⟩ = some (.int .i64 t119) ∧ w'.cell? ⟨gb125, 1, none⟩ = some (.int .i64 t120) ∧ w'.cell? ⟨gb125, 2, none⟩ = some (.int .i64 t121) ∧ w'.cell? ⟨gb126, 0, none⟩ = some (.int .i64 t122) ∧ w'.cell? ⟨gb126, 1, none⟩ = some (.int .i64 t123) ∧ w'.cell? ⟨gb126, 2, none⟩ = some (.int .i64 t124)) (ds := []) #[false, false, false, false, false, false, false] (by kernel_rfl) rfl rfl ⟨ct BK125.out 0, ct BK125.out 1, ct BK125.out 2, ct BK126.out 0, ct BK126.out 1, ct BK126.out 2⟩ (fun hHeld => ?_)
           generalize wr.drew = w36 at BK125 BK126 HB hHeld ⊢
           refine pure_ (i := 0) (N := some 27) (v := ?_) (a' := ?_) #[true, false, false, false, false, false, false] rfl rfl (by kernel_rfl) (fun _ _ _ h => h) (Or.inl ⟨by rfl, ?_⟩) ?_ ?_
           rotate_left
           ·intro w'
            go_simp
            with_reducible rfl
           rotate_left
           ·exact nrm
           refine pure_ (i := 1) (N := some 28) (v := ?_) (a' := ?_) #[true, true, false, false, false, false, false] rfl rfl (by kernel_rfl) (fun _ _ _ h => h) (Or.inl ⟨by rfl, ?_⟩) ?_ ?_
           rotate_left
           ·intro w'
            go_simp
            with_reducible rfl
           rotate_left
           ·exact nrm
           refine pure_ (i := 3) (N := some 30) (v := ?_) (a' := ?_) #[true, true, false, true, false, false, false] rfl rfl (by kernel_rfl) (fun _ _ _ h => h) (Or.inl ⟨by rfl, ?_⟩) ?_ ?_
           rotate_left
           ·intro w'
            go_simp
            with_reducible rfl
           rotate_left
           ·exact nrm
           refine pure_ (i := 4) (N := some 31) (v := ?_) (a' := ?_) #[true, true, false, true, true, false, false] rfl rfl (by kernel_rfl) (fun _ _ _ h => h) (Or.inl ⟨by rfl, ?_⟩) ?_ ?_
           rotate_left
           ·intro w'
            go_simp
            with_reducible rfl
           rotate_left
           ·exact nrm
           refine take_ (i := 2) (N := some 29) (v := ?_) (a' := ?_) #[true, true, true, true, true, false, false] rfl rfl (by kernel_rfl) (fun _ _ _ h => h) (Or.inl ⟨by rfl, ?_⟩) hHeld ?_ ?_
           rotate_left
           ·rintro w' ⟨s0, s1, s2, s3, s4, s5⟩
            go_simp
            with_reducible rfl
           rotate_left
           ·exact nrm
           refine take_ (i := 5) (N := some 32) (v := ?_) (a' := ?_) #[true, true, true, true, true, true, false] rfl rfl (by kernel_rfl) (fun _ _ _ h => h) (Or.inl ⟨by rfl, ?_⟩) hHeld ?_ ?_
           rotate_left
           ·rintro w' ⟨s0, s1, s2, s3, s4, s5⟩
            go_simp
            with_reducible rfl
           rotate_left
           ·exact nrm
           refine pure_ (i := 6) (N := some 33) (v := ?_) (a' := ?_) #[true, true, true, true, true, true, true] rfl rfl (by kernel_rfl) (fun _ _ _ h => h) (Or.inl ⟨by rfl, ?_⟩) ?_ ?_
           rotate_left
           ·intro w'
            go_simp
            with_reducible rfl
           rotate_left
           ·exact nrm
           refine done_ (by kernel_rfl) ?_
           try go_wp2
           go_ret
           exact ⟨eqT, wT HB.out⟩
          ·rw [if_neg c35] at H
           have c35b0 : decide (t123 < t120) = false := decide_eq_false c35
           clear c35
           have H' := mk0 H
           clear H
           try go_wp2
           have n0_ := mk0 (blk_drew BK116.out)
           have n1_ := mk0 (blk_drew BK125.out)
           have n2_ := mk0 (blk_drew BK126.out)
           have n3_ := mk0 (below_drew1 HB.out)
           clear BK116
           clear BK125
           clear BK126
           clear HB
           have BK116 := n0_
           have BK125 := n1_
           have BK126 := n2_
           have HB := n3_
           clear n0_ n1_ n2_ n3_
           refine start_ (n := 7) (S := fun w' => w'.cell? ⟨gb125, 0, none⟩ = some (.int .i64 t119) ∧ w'.cell? ⟨gb125, 1, none⟩ = some (.int .i64 t120) ∧ w'.cell? ⟨gb125, 2, none⟩ = some (.int .i64 t121) ∧ w'.cell? ⟨gb126, 0, none⟩ = some (.int .i64 t122) ∧ w'.cell? ⟨gb126, 1, none⟩ = some (.int .i64 t123) ∧ w'.cell? ⟨gb126, 2, none⟩ = some (.int .i64 t124)) (ds := []) #[false, false, false, false, false, false, false] (by kernel_rfl) rfl rfl ⟨ct BK125.out 0, ct BK125.out 1, ct BK125.out 2, ct BK126.out 0, ct BK126.out 1, ct BK126.out 2⟩ (fun hHeld => ?_)
           generalize wr.drew = w37 at BK116 BK125 BK126 HB hHeld ⊢
           refine pure_ (i := 0) (N := some 27) (v := ?_) (a' := ?_) #[true, false, false, false, false, false, false] rfl rfl (by kernel_rfl) (fun _ _ _ h => h) (Or.inl ⟨by rfl, ?_⟩) ?_ ?_
           rotate_left
           ·intro w'
            go_simp
            with_reducible rfl
           rotate_left
           ·exact nrm
           refine pure_ (i := 1) (N := some 28) (v := ?_) (a' := ?_) #[true, true, false, false, false, false, false] rfl rfl (by kernel_rfl) (fun _ _ _ h => h) (Or.inl ⟨by rfl, ?_⟩) ?_ ?_
           rotate_left
           ·intro w'
            go_simp
            with_reducible rfl
           rotate_left
           ·exact nrm
           refine pure_ (i := 3) (N := some 30) (v := ?_) (a' := ?_) #[true, true, false, true, false, false, false] rfl rfl (by kernel_rfl) (fun _ _ _ h => h) (Or.inl ⟨by rfl, ?_⟩) ?_ ?_
           rotate_left
           ·intro w'
            go_simp
            with_reducible rfl
           rotate_left
           ·exact nrm
           refine pure_ (i := 4) (N := some 31) (v := ?_) (a' := ?_) #[true, true, false, true, true, false, false] rfl rfl (by kernel_rfl) (fun _ _ _ h => h) (Or.inl ⟨by rfl, ?_⟩) ?_ ?_
           rotate_left
           ·intro w'
            go_simp
            with_reducible rfl
           rotate_left
           ·exact nrm
           refine take_ (i := 2) (N := some 29) (v := ?_) (a' := ?_) #[true, true, true, true, true, false, false] rfl rfl (by kernel_rfl) (fun _ _ _ h => h) (Or.inl ⟨by rfl, ?_⟩) hHeld ?_ ?_
           rotate_left
           ·rintro w' ⟨s0, s1, s2, s3, s4, s5⟩
            go_simp
            with_reducible rfl
           rotate_left
           ·exact nrm
           refine take_ (i := 5) (N := some 32) (v := ?_) (a' := ?_) #[true, true, true, true, true, true, false] rfl rfl (by kernel_rfl) (fun _ _ _ h => h) (Or.inl ⟨by rfl, ?_⟩) hHeld ?_ ?_
           rotate_left
           ·rintro w' ⟨s0, s1, s2, s3, s4, s5⟩
            go_simp
            with_reducible rfl
           rotate_left
           ·exact nrm
           refine pure_ (i := 6) (N := some 33) (v := ?_) (a' := ?_) #[true, true, true, true, true, true, true] rfl rfl (by kernel_rfl) (fun _ _ _ h => h) (Or.inl ⟨by rfl, ?_⟩) ?_ ?_
           rotate_left
           ·intro w'
            go_simp
            with_reducible rfl
           rotate_left
           ·exact nrm
           refine done_ (by kernel_rfl) ?_
           try go_wp2
           go_roundg k2
           case measure => have := HJ1.out; have := HK2.out; omega
           case rel => exact ⟨(wrap64 (x24_2 + 1)), (by first | rfl | (simp; done) | (simp [*]; done) | exact congrArg (Value.int .i64) (by unfold wrap64; omega)), H', ⟨by have := HJ1.out; have := HK2.out; omega⟩, ⟨bT BK116.out⟩, ⟨bT BK125.out⟩, ⟨bT BK126.out⟩, ⟨wT HB.out⟩⟩
         ·rw [if_neg c34] at H
          have c34b0 : (x24_2 == 1) = false := beq_eq_false_iff_ne.mpr c34
          have c34b1 : (x24_2 != 1) = true := bne_iff_ne.mpr c34
          by_cases c38 : x24_2 = 2
          ·rw [if_pos c38] at H
           have c38n : (x24_2).toNat = 2 := by rw [c38]; rfl
           have c38d : x24_2 = 2 := c38
           have c38l := eq_true (show 0 ≤ x24_2 by omega)
           have c38u3 := eq_true (show x24_2 < 3 by omega)
           have c38u4 := eq_true (show x24_2 < 4 by omega)
           have c38u5 := eq_true (show x24_2 < 5 by omega)
           have c38u6 := eq_true (show x24_2 < 6 by omega)
           replace c38d := mk0 c38d
           have c38b0 : (x24_2 == 2) = true := beq_iff_eq.mpr c38
           have c38b1 : (x24_2 != 2) = false := bne_eq_false_iff_eq.mpr c38
           clear c38
           by_cases c39 : t121 > t124
           ·rw [if_pos c39] at H
            have c39b0 : decide (t124 < t121) = true := decide_eq_true c39
            clear c39
            obtain rfl := Option.some.inj H
            try go_wp2
            have n0_ := mk0 (blk_drew BK125.out)
            have n1_ := mk0 (blk_drew BK126.out)
            have n2_ := mk0 (below_drew1 HB.out)
            clear BK125
            clear BK126
            clear HB
            have BK125 := n0_
            have BK126 := n1_
            have HB := n2_
            clear n0_ n1_ n2_
            refine start_ (n := 7) (S := fun w' => w'.cell? ⟨gb125, 0, none⟩ = some (.int .i64 t119) ∧ w'.cell? ⟨gb125, 1, none⟩ = some (.int .i64 t120) ∧ w'.cell? ⟨gb125, 2, none⟩ = some (.int .i64 t121) ∧ w'.cell? ⟨gb126, 0, none⟩ = some (.int .i64 t122) ∧ w'.cell? ⟨gb126, 1, none⟩ = some (.int .i64 t123) ∧ w'.cell? ⟨gb126, 2, none⟩ = some (.int .i64 t124)) (ds := []) #[false, false, false, false, false, false, false] (by kernel_rfl) rfl rfl ⟨ct BK125.out 0, ct BK125.out 1, ct BK125.out 2, ct BK126.out 0, ct BK126.out 1, ct BK126.out 2⟩ (fun hHeld => ?_)
            generalize wr.drew = w40 at BK125 BK126 HB hHeld ⊢
            refine pure_ (i := 0) (N := some 27) (v := ?_) (a' := ?_) #[true, false, false, false, false, false, false] rfl rfl (by kernel_rfl) (fun _ _ _ h => h) (Or.inl ⟨by rfl, ?_⟩) ?_ ?_
            rotate_left
            ·intro w'
             go_simp
             with_reducible rfl
            rotate_left
            ·exact nrm
            refine pure_ (i := 1) (N := some 28) (v := ?_) (a' := ?_) #[true, true, false, false, false, false, false] rfl rfl (by kernel_rfl) (fun _ _ _ h => h) (Or.inl ⟨by rfl, ?_⟩) ?_ ?_
            rotate_left
            ·intro w'
             go_simp
             with_reducible rfl
            rotate_left
            ·exact nrm
            refine pure_ (i := 3) (N := some 30) (v := ?_) (a' := ?_) #[true, true, false, true, false, false, false] rfl rfl (by kernel_rfl) (fun _ _ _ h => h) (Or.inl ⟨by rfl, ?_⟩) ?_ ?_
            rotate_left
            ·intro w'
             go_simp
             with_reducible rfl
            rotate_left
            ·exact nrm
            refine pure_ (i := 4) (N := some 31) (v := ?_) (a' := ?_) #[true, true, false, true, true, false, false] rfl rfl (by kernel_rfl) (fun _ _ _ h => h) (Or.inl ⟨by rfl, ?_⟩) ?_ ?_
            rotate_left
            ·intro w'
             go_simp
             with_reducible rfl
            rotate_left
            ·exact nrm
            refine take_ (i := 2) (N := some 29) (v := ?_) (a' := ?_) #[true, true, true, true, true, false, false] rfl rfl (by kernel_rfl) (fun _ _ _ h => h) (Or.inl ⟨by rfl, ?_⟩) hHeld ?_ ?_
            rotate_left
            ·rintro w' ⟨s0, s1, s2, s3, s4, s5⟩
             go_simp
             with_reducible rfl
            rotate_left
            ·exact nrm
            refine take_ (i := 5) (N := some 32) (v := ?_) (a' := ?_) #[true, true, true, true, true, true, false] rfl rfl (by kernel_rfl) (fun _ _ _ h => h) (Or.inl ⟨by rfl, ?_⟩) hHeld ?_ ?_
            rotate_left
            ·rintro w' ⟨s0, s1, s2, s3, s4, s5⟩
             go_simp
             with_reducible rfl
            rotate_left
            ·exact nrm
            refine pure_ (i := 6) (N := some 33) (v := ?_) (a' := ?_) #[true, true, true, true, true, true, true] rfl rfl (by kernel_rfl) (fun _ _ _ h => h) (Or.inl ⟨by rfl, ?_⟩) ?_ ?_
            rotate_left
            ·intro w'
             go_simp
             with_reducible rfl
            rotate_left
            ·exact nrm
            refine done_ (by kernel_rfl) ?_
            try go_wp2
            go_ret
            exact ⟨eqT, wT HB.out⟩
           ·rw [if_neg c39] at H
            have c39b0 : decide (t124 < t121) = false := decide_eq_false c39
            clear c39
            have H' := mk0 H
            clear H
            try go_wp2
            have n0_ := mk0 (blk_drew BK116.out)
            have n1_ := mk0 (blk_drew BK125.out)
            have n2_ := mk0 (blk_drew BK126.out)
            have n3_ := mk0 (below_drew1 HB.out)
            clear BK116
            clear BK125
            clear BK126
            clear HB
            have BK116 := n0_
            have BK125 := n1_
            have BK126 := n2_
            have HB := n3_
            clear n0_ n1_ n2_ n3_
            refine start_ (n := 7) (S := fun w' => w'.cell? ⟨gb125, 0, none⟩ = some (.int .i64 t119) ∧ w'.cell? ⟨gb125, 1, none⟩ = some (.int .i64 t120) ∧ w'.cell? ⟨gb125, 2, none⟩ = some (.int .i64 t121) ∧ w'.cell? ⟨gb126, 0, none⟩ = some (.int .i64 t122) ∧ w'.cell? ⟨gb126, 1, none⟩ = some (.int .i64 t123) ∧ w'.cell? ⟨gb126, 2, none⟩ = some (.int .i64 t124)) (ds := []) #[false, false, false, false, false, false, false] (by kernel_rfl) rfl rfl ⟨ct BK125.out 0, ct BK125.out 1, ct BK125.out 2, ct BK126.out 0, ct BK126.out 1, ct BK126.out 2⟩ (fun hHeld => ?_)
            generalize wr.drew = w41 at BK116 BK125 BK126 HB hHeld ⊢
            refine pure_ (i := 0) (N := some 27) (v := ?_) (a' := ?_) #[true, false, false, false, false, false, false] rfl rfl (by kernel_rfl) (fun _ _ _ h => h) (Or.inl ⟨by rfl, ?_⟩) ?_ ?_
            rotate_left
            ·intro w'
             go_simp
             with_reducible rfl
            rotate_left
            ·exact nrm
            refine pure_ (i := 1) (N := some 28) (v := ?_) (a' := ?_) #[true, true, false, false, false, false, false] rfl rfl (by kernel_rfl) (fun _ _ _ h => h) (Or.inl ⟨by rfl, ?_⟩) ?_ ?_
            rotate_left
            ·intro w'
             go_simp
             with_reducible rfl
            rotate_left
            ·exact nrm
            refine pure_ (i := 3) (N := some 30) (v := ?_) (a' := ?_) #[true, true, false, true, false, false, false] rfl rfl (by kernel_rfl) (fun _ _ _ h => h) (Or.inl ⟨by rfl, ?_⟩) ?_ ?_
            rotate_left
            ·intro w'
             go_simp
             with_reducible rfl
            rotate_left
            ·exact nrm
            refine pure_ (i := 4) (N := some 31) (v := ?_) (a' := ?_) #[true, true, false, true, true, false, false] rfl rfl (by kernel_rfl) (fun _ _ _ h => h) (Or.inl ⟨by rfl, ?_⟩) ?_ ?_
            rotate_left
            ·intro w'
             go_simp
             with_reducible rfl
            rotate_left
            ·exact nrm
            refine take_ (i := 2) (N := some 29) (v := ?_) (a' := ?_) #[true, true, true, true, true, false, false] rfl rfl (by kernel_rfl) (fun _ _ _ h => h) (Or.inl ⟨by rfl, ?_⟩) hHeld ?_ ?_
            rotate_left
            ·rintro w' ⟨s0, s1, s2, s3, s4, s5⟩
             go_simp
             with_reducible rfl
            rotate_left
            ·exact nrm
            refine take_ (i := 5) (N := some 32) (v := ?_) (a' := ?_) #[true, true, true, true, true, true, false] rfl rfl (by kernel_rfl) (fun _ _ _ h => h) (Or.inl ⟨by rfl, ?_⟩) hHeld ?_ ?_
            rotate_left
            ·rintro w' ⟨s0, s1, s2, s3, s4, s5⟩
             go_simp
             with_reducible rfl
            rotate_left
            ·exact nrm
            refine pure_ (i := 6) (N := some 33) (v := ?_) (a' := ?_) #[true, true, true, true, true, true, true] rfl rfl (by kernel_rfl) (fun _ _ _ h => h) (Or.inl ⟨by rfl, ?_⟩) ?_ ?_
            rotate_left
            ·intro w'
             go_simp
             with_reducible rfl
            rotate_left
            ·exact nrm
            refine done_ (by kernel_rfl) ?_
            try go_wp2
            go_roundg k2
            case measure => have := HJ1.out; have := HK2.out; omega
            case rel => exact ⟨(wrap64 (x24_2 + 1)), (by first | rfl | (simp; done) | (simp [*]; done) | exact congrArg (Value.int .i64) (by unfold wrap64; omega)), H', ⟨by have := HJ1.out; have := HK2.out; omega⟩, ⟨bT BK116.out⟩, ⟨bT BK125.out⟩, ⟨bT BK126.out⟩, ⟨wT HB.out⟩⟩
          ·rw [if_neg c38] at H
           exact absurd H (by simp)
       ·rw [if_neg c29] at H
        exact absurd H (by simp)
      ·rw [if_neg c28] at H
       have c28b0 : decide (x24_2 < 3) = false := decide_eq_false c28
       clear c28
       by_cases c42 : (l0_6.length : Int) > 16
       ·rw [if_pos c42] at H
        have c42b0 : decide (16 < (l0_6.length : Int)) = true := decide_eq_true c42
        have c42b1 : decide (16 < l0_6.length) = true := decide_eq_true (by omega)
        clear c42
        obtain rfl := Option.some.inj H
        have X43_0 := ct BK116.out 0
        have X43_1 := ct BK116.out 1
        have X43_2 := ct BK116.out 2
        have X43_3 := ct BK116.out 3
        have X43_4 := ct BK116.out 4
        have X43_5 := ct BK116.out 5
        have X43_6 := ct BK116.out 6
        have Y43_0 := blk_frozen BK116.out 0
        have Y43_1 := blk_frozen BK116.out 1
        have Y43_2 := blk_frozen BK116.out 2
        have Y43_3 := blk_frozen BK116.out 3
        have Y43_4 := blk_frozen BK116.out 4
        have Y43_5 := blk_frozen BK116.out 5
        have Y43_6 := blk_frozen BK116.out 6
        go_wp2
        go_ret
        exact ⟨eqT, wT HB.out⟩
       ·rw [if_neg c42] at H
        have c42b0 : decide (16 < (l0_6.length : Int)) = false := decide_eq_false c42
        have c42b1 : decide (16 < l0_6.length) = false := decide_eq_false (by omega)
        clear c42
        have H' := mk0 H
        clear H
        have X44_0 := ct BK116.out 0
        have X44_1 := ct BK116.out 1
        have X44_2 := ct BK116.out 2
        have X44_3 := ct BK116.out 3
        have X44_4 := ct BK116.out 4
        have X44_5 := ct BK116.out 5
        have X44_6 := ct BK116.out 6
        have Y44_0 := blk_frozen BK116.out 0
        have Y44_1 := blk_frozen BK116.out 1
        have Y44_2 := blk_frozen BK116.out 2
        have Y44_3 := blk_frozen BK116.out 3
        have Y44_4 := blk_frozen BK116.out 4
        have Y44_5 := blk_frozen BK116.out 5
        have Y44_6 := blk_frozen BK116.out 6
        go_wp2
        go_loopg [42] k2 (fun kq v42 w' => ∃ (x42_3 : Int), v42 = .int .i64 x42_3 ∧ Aside0 (probe_Check.l1 kq l0_6 (l0_6.length : Int) x42_3 = some r) ∧ Aside0 (kq ≤ k2) ∧ Aside0 (Below w.heap.size w w'))
        case atStart => exact ⟨(0), (by first | rfl | (simp; done) | (simp [*]; done) | exact congrArg (Value.int .i64) (by unfold wrap64; omega)), H', ⟨Nat.le_refl _⟩, ⟨wT HB.out⟩⟩
        case round =>
         clear H'
         try clear c28
         try clear c28b0
         try clear c29
         try clear c29b0
         try clear c30
         try clear c30b0
         try clear c30b1
         try clear c31
         try clear c31b0
         try clear c34
         try clear c34b0
         try clear c34b1
         try clear c35
         try clear c35b0
         try clear c38
         try clear c38b0
         try clear c38b1
         try clear c39
         try clear c39b0
         try clear c42
         try clear c42b0
         try clear c42b1
         try clear X43_0
         try clear X43_1
         try clear X43_2
         try clear X43_3
         try clear X43_4
         try clear X43_5
         try clear X43_6
         try clear X44_0
         try clear X44_1
         try clear X44_2
         try clear X44_3
         try clear X44_4
         try clear X44_5
         try clear X44_6
         try clear Y43_0
         try clear Y43_1
         try clear Y43_2
         try clear Y43_3
         try clear Y43_4
         try clear Y43_5
         try clear Y43_6
         try clear Y44_0
         try clear Y44_1
         try clear Y44_2
         try clear Y44_3
         try clear Y44_4
         try clear Y44_5
         try clear Y44_6
         obtain ⟨x42_3, rfl, HA, HK3, HB⟩ := hrel
         cases gk with
         | zero => exact absurd HA.out (by simp [probe_Check.l1])
         | succ k3 =>
          have H := HA.out
          clear HA
          simp only [probe_Check.l1] at H
          by_cases c45 : x42_3 < (l0_6.length : Int)
          ·rw [if_pos c45] at H
           have c45b0 : decide (x42_3 < (l0_6.length : Int)) = true := decide_eq_true c45
           clear c45
           by_cases c46 : 0 ≤ x42_3
           ·rw [if_pos c46] at H
            have c46b0 : decide (0 ≤ x42_3) = true := decide_eq_true c46
            clear c46
            by_cases c47 : x42_3 < (l0_6.length : Int)
            ·rw [if_pos c47] at H
             have c47b0 : decide (x42_3 < (l0_6.length : Int)) = true := decide_eq_true c47
             clear c47
             have HC48 := mk0 H
             clear H
             have p127 : 0 ≤ (x42_3 : Int) := of_decide_eq_true (by first | (with_reducible assumption) | assumption)
             have q127 : x42_3 < (l0_6.length : Int) := of_decide_eq_true (by first | (with_reducible assumption) | assumption)
             obtain ⟨ad127, e127, hx127_0, hx127_1, hx127_2, hx127_3⟩ := at_T84 HR0_6.out x42_3 p127 q127
             cases e127
             replace hx127_0 := (HB.out.cell (World.block_lt_of_cell? w _ hx127_0)).trans hx127_0
             replace hx127_1 := (HB.out.cell (World.block_lt_of_cell? w _ hx127_1)).trans hx127_1
             replace hx127_2 := (HB.out.cell (World.block_lt_of_cell? w _ hx127_2)).trans hx127_2
             replace hx127_3 := (HB.out.cell (World.block_lt_of_cell? w _ hx127_3)).trans hx127_3
             replace p127 := eq_true p127
             replace q127 := eq_true q127
             go_upto_region 15 with (first | ((with_reducible refine gate_dst (N := 7) rfl ?_); refine box_event ?hg (N := 7) ?hd (cs := #[.int .i64 0, .int .i64 0, .int .i64 0, .int .i64 0]) (t := 84) ?hr ?_; (case hd => rfl); (case hg => rfl); (case hr => first | (go_simp; done) | (go_simp; rfl)); intro gb128 hg w49 hbox hb; have n0_ := mk0 (below_step (wT HB.out) hb); have n1_ := mk0 (hbox); have n2_ := mk0 ((szT HB.out hg)); have n3_ := mk0 ((szT HB.out hg)); clear HB; have HB := n0_; have BK128 := n1_; have GW128 := n2_; have GE128 := n3_; clear n0_ n1_ n2_ n3_; clear hb hbox hg; have X50_0 := ct BK128.out 0; have X50_1 := ct BK128.out 1; have X50_2 := ct BK128.out 2; have X50_3 := ct BK128.out 3; have Y50_0 := blk_frozen BK128.out 0; have Y50_1 := blk_frozen BK128.out 1; have Y50_2 := blk_frozen BK128.out 2; have Y50_3 := blk_frozen BK128.out 3))
             (try simp only [Act.put, List.setIfInBounds_toArray, List.set_cons_zero, List.set_cons_succ])
             go_cut [46] (fun v46 wc => ∃ (kq : Nat) (x46_47 : Bool), v46 = .bool x46_47 ∧ Aside0 (probe_Check.j3 kq l0_6 (l0_6.length : Int) x42_3 x46_47 ((rd_T84 l0_6 x42_3).f0) ((rd_T84 l0_6 x42_3).f1.f0) ((rd_T84 l0_6 x42_3).f1.f1) ((rd_T84 l0_6 x42_3).f2) = some r) ∧ Aside0 (kq ≤ k3) ∧ Aside0 (wc.heap[gb128]? = some (.cells #[.int .i64 ((rd_T84 l0_6 x42_3).f0), .int .i64 ((rd_T84 l0_6 x42_3).f1.f0), .int .i64 ((rd_T84 l0_6 x42_3).f1.f1), .int .i64 ((rd_T84 l0_6 x42_3).f2)] 84 (0, 0))) ∧ Aside0 (Below w.heap.size w wc))
             case first =>
              have H := HC48.out
              clear HC48
              by_cases c51 : ((rd_T84 l0_6 x42_3).f0) < 0
              ·rw [if_pos c51] at H
               have c51b0 : decide (((rd_T84 l0_6 x42_3).f0) < 0) = true := decide_eq_true c51
               clear c51
               (first | rw [c51b0] | (simp only [i64_w, i32_w]; rw [c51b0]) | skip)
               have H' := mk0 H
               clear H
               have X52_0 := ct BK128.out 0
               have X52_1 := ct BK128.out 1
               have X52_2 := ct BK128.out 2
               have X52_3 := ct BK128.out 3
               have Y52_0 := blk_frozen BK128.out 0
               have Y52_1 := blk_frozen BK128.out 1
               have Y52_2 := blk_frozen BK128.out 2
               have Y52_3 := blk_frozen BK128.out 3
               go_wp2
               go_meet
               case rel => exact ⟨_, (true), (by first | rfl | (simp; done) | (simp [*]; done) | exact congrArg (Value.int .i64) (by unfold wrap64; omega)), H', ⟨by have := HJ1.out; have := HK2.out; have := HK3.out; first | omega | exact Nat.le_refl _⟩, ⟨by (with_reducible repeat (first | refine blk_drewN ?_ _ | refine blk_drew ?_ | refine blk_alloc ?_ _)); refine blk_put (cs := #[.int .i64 ((rd_T84 l0_6 x42_3).f0), .int .i64 ((rd_T84 l0_6 x42_3).f1.f0), .int .i64 ((rd_T84 l0_6 x42_3).f1.f1), .int .i64 0]) ?_ 3 _ rfl; refine blk_put (cs := #[.int .i64 ((rd_T84 l0_6 x42_3).f0), .int .i64 ((rd_T84 l0_6 x42_3).f1.f0), .int .i64 0, .int .i64 0]) ?_ 2 _ rfl; refine blk_put (cs := #[.int .i64 ((rd_T84 l0_6 x42_3).f0), .int .i64 0, .int .i64 0, .int .i64 0]) ?_ 1 _ rfl; refine blk_put (cs := #[.int .i64 0, .int .i64 0, .int .i64 0, .int .i64 0]) ?_ 0 _ rfl; (with_reducible repeat (first | refine blk_drewN ?_ _ | refine blk_drew ?_ | refine blk_alloc ?_ _)); exact BK128.out⟩, ⟨by repeat (first | (with_reducible first | exact HB.out | apply below_alloc | apply pw_below_drewN | apply below_drew1 | refine below_set ?_ GE128.out) | exact HB.out)⟩⟩
              ·rw [if_neg c51] at H
               have c51b0 : decide (((rd_T84 l0_6 x42_3).f0) < 0) = false := decide_eq_false c51
               clear c51
               (first | rw [c51b0] | (simp only [i64_w, i32_w]; rw [c51b0]) | skip)
               have H' := mk0 H
               clear H
               have X53_0 := ct BK128.out 0
               have X53_1 := ct BK128.out 1
               have X53_2 := ct BK128.out 2
               have X53_3 := ct BK128.out 3
               have Y53_0 := blk_frozen BK128.out 0
               have Y53_1 := blk_frozen BK128.out 1
               have Y53_2 := blk_frozen BK128.out 2
               have Y53_3 := blk_frozen BK128.out 3
               go_wp2
               go_meet
               case rel => exact ⟨_, (decide (((rd_T84 l0_6 x42_3).f0) ≥ 3)), (by first | rfl | (simp; done) | (simp [*]; done) | exact congrArg (Value.int .i64) (by unfold wrap64; omega)), H', ⟨by have := HJ1.out; have := HK2.out; have := HK3.out; first | omega | exact Nat.le_refl _⟩, ⟨by (with_reducible repeat (first | refine blk_drewN ?_ _ | refine blk_drew ?_ | refine blk_alloc ?_ _)); refine blk_put (cs := #[.int .i64 ((rd_T84 l0_6 x42_3).f0), .int .i64 ((rd_T84 l0_6 x42_3).f1.f0), .int .i64 ((rd_T84 l0_6 x42_3).f1.f1), .int .i64 0]) ?_ 3 _ rfl; refine blk_put (cs := #[.int .i64 ((rd_T84 l0_6 x42_3).f0), .int .i64 ((rd_T84 l0_6 x42_3).f1.f0), .int .i64 0, .int .i64 0]) ?_ 2 _ rfl; refine blk_put (cs := #[.int .i64 ((rd_T84 l0_6 x42_3).f0), .int .i64 0, .int .i64 0, .int .i64 0]) ?_ 1 _ rfl; refine blk_put (cs := #[.int .i64 0, .int .i64 0, .int .i64 0, .int .i64 0]) ?_ 0 _ rfl; (with_reducible repeat (first | refine blk_drewN ?_ _ | refine blk_drew ?_ | refine blk_alloc ?_ _)); exact BK128.out⟩, ⟨by repeat (first | (with_reducible first | exact HB.out | apply below_alloc | apply pw_below_drewN | apply below_drew1 | refine below_set ?_ GE128.out) | exact HB.out)⟩⟩
             case rest =>
              clear HC48
              try clear c5
              try clear c28
              try clear c28b0
              try clear c29
              try clear c29b0
              try clear c30
              try clear c30b0
              try clear c30b1
              try clear c31
              try clear c31b0
              try clear c34
              try clear c34b0
              try clear c34b1
              try clear c35
              try clear c35b0
              try clear c38
              try clear c38b0
              try clear c38b1
              try clear c39
              try clear c39b0
              try clear c42
              try clear c42b0
              try clear c42b1
              try clear c45
              try clear c45b0
              try clear c46
              try clear c46b0
              try clear c47
              try clear c47b0
              try clear c51
              try clear c51b0
              try clear X43_0
              try clear X43_1
              try clear X43_2
              try clear X43_3
              try clear X43_4
              try clear X43_5
              try clear X43_6
              try clear X44_0
              try clear X44_1
              try clear X44_2
              try clear X44_3
              try clear X44_4
              try clear X44_5
              try clear X44_6
              try clear X50_0
              try clear X50_1
              try clear X50_2
              try clear X50_3
              try clear X52_0
              try clear X52_1
              try clear X52_2
              try clear X52_3
              try clear X53_0
              try clear X53_1
              try clear X53_2
              try clear X53_3
              try clear Y43_0
              try clear Y43_1
              try clear Y43_2
              try clear Y43_3
              try clear Y43_4
              try clear Y43_5
              try clear Y43_6
              try clear Y44_0
              try clear Y44_1
              try clear Y44_2
              try clear Y44_3
              try clear Y44_4
              try clear Y44_5
              try clear Y44_6
              try clear Y50_0
              try clear Y50_1
              try clear Y50_2
              try clear Y50_3
              try clear Y52_0
              try clear Y52_1
              try clear Y52_2
              try clear Y52_3
              try clear Y53_0
              try clear Y53_1
              try clear Y53_2
              try clear Y53_3
              try clear hx127_0
              try clear hx127_1
              try clear hx127_2
              try clear hx127_3
              try clear p127
              try clear q127
              obtain ⟨kq, x46_47, rfl, HA, HJ47, BK128, HB⟩ := hcut
              cases kq with
              | zero => exact absurd HA.out (by simp [probe_Check.j3])
              | succ kj47 =>
               have H := HA.out
               clear HA
               simp only [probe_Check.j3] at H
               by_cases c54 : x46_47 = true
               ·subst c54
                have H1 : (some 1) = some r := by rw [if_pos rfl] at H; exact H
                clear H
                have H := H1
                clear H1
                obtain rfl := Option.some.inj H
                go_wp2
                go_ret
                exact ⟨eqT, wT HB.out⟩
               ·replace c54 := Bool.eq_false_iff.mpr c54
                subst c54
                have H1 : ((probe_within.f ((rd_T84 l0_6 x42_3).f1.f0)).bind fun t129 => (if t129 = true then ((probe_within.f ((rd_T84 l0_6 x42_3).f1.f1)).bind fun t130 => (if t130 = true then (if ((rd_T84 l0_6 x42_3).f2) < 1 then (some 2) else (if ((rd_T84 l0_6 x42_3).f2) > 100000 then (some 2) else (probe_Check.l1 kj47 l0_6 (l0_6.length : Int) (wrap64 (x42_3 + 1))))) else (some 2))) else (some 2))) = some r := by rw [if_neg (show ¬ (false = true) by decide)] at H; exact H
                clear H
                have H := H1
                clear H1
                replace H := Option.bind_eq_some_iff.mp H
                obtain ⟨t129, A550, H⟩ := H
                (try dsimp only at H)
                have A55 := mk0 A550
                clear A550
                by_cases c56 : t129 = true
                ·subst c56
                 have H1 : ((probe_within.f ((rd_T84 l0_6 x42_3).f1.f1)).bind fun t130 => (if t130 = true then (if ((rd_T84 l0_6 x42_3).f2) < 1 then (some 2) else (if ((rd_T84 l0_6 x42_3).f2) > 100000 then (some 2) else (probe_Check.l1 kj47 l0_6 (l0_6.length : Int) (wrap64 (x42_3 + 1))))) else (some 2))) = some r := by rw [if_pos rfl] at H; exact H
                 clear H
                 have H := H1
                 clear H1
                 replace H := Option.bind_eq_some_iff.mp H
                 obtain ⟨t130, A570, H⟩ := H
                 (try dsimp only at H)
                 have A57 := mk0 A570
                 clear A570
                 by_cases c58 : t130 = true
                 ·subst c58
                  have H1 : (if ((rd_T84 l0_6 x42_3).f2) < 1 then (some 2) else (if ((rd_T84 l0_6 x42_3).f2) > 100000 then (some 2) else (probe_Check.l1 kj47 l0_6 (l0_6.length : Int) (wrap64 (x42_3 + 1))))) = some r := by rw [if_pos rfl] at H; exact H
                  clear H
                  have H := H1
                  clear H1
                  by_cases c59 : ((rd_T84 l0_6 x42_3).f2) < 1
                  ·rw [if_pos c59] at H
                   have c59b0 : decide (((rd_T84 l0_6 x42_3).f2) < 1) = true := decide_eq_true c59
                   clear c59
                   obtain rfl := Option.some.inj H
                   have X60_0 := ct BK128.out 0
                   have X60_1 := ct BK128.out 1
                   have X60_2 := ct BK128.out 2
                   have X60_3 := ct BK128.out 3
                   have Y60_0 := blk_frozen BK128.out 0
                   have Y60_1 := blk_frozen BK128.out 1
                   have Y60_2 := blk_frozen BK128.out 2
                   have Y60_3 := blk_frozen BK128.out 3
                   go_wp2_with (first | ((with_reducible refine gate_callee (f := 44) rfl ?_); refine goesL_ (some 59) rfl rfl Tryz.func44 (by kernel_rfl) rfl #[.int .i64 ((rd_T84 l0_6 x42_3).f1.f0)] rfl mapT ?_; (with_reducible refine (probe_within.calls ((rd_T84 l0_6 x42_3).f1.f0) true _ A55.out).mono ?_); rintro e w' ⟨rfl, ⟨nd, rfl⟩⟩; refine ⟨_, rfl, ?_⟩) | (go_at_call 44; (with_reducible refine (probe_within.calls ((rd_T84 l0_6 x42_3).f1.f1) true _ A57.out).mono ?_); rintro e w' ⟨rfl, ⟨nd, rfl⟩⟩))
                   go_ret
                   exact ⟨eqT, wT HB.out⟩
                  ·rw [if_neg c59] at H
                   have c59b0 : decide (((rd_T84 l0_6 x42_3).f2) < 1) = false := decide_eq_false c59
                   clear c59
                   by_cases c61 : ((rd_T84 l0_6 x42_3).f2) > 100000
                   ·rw [if_pos c61] at H
                    have c61b0 : decide (100000 < ((rd_T84 l0_6 x42_3).f2)) = true := decide_eq_true c61
                    clear c61
                    obtain rfl := Option.some.inj H
                    have X62_0 := ct BK128.out 0
                    have X62_1 := ct BK128.out 1
                    have X62_2 := ct BK128.out 2
                    have X62_3 := ct BK128.out 3
                    have Y62_0 := blk_frozen BK128.out 0
                    have Y62_1 := blk_frozen BK128.out 1
                    have Y62_2 := blk_frozen BK128.out 2
                    have Y62_3 := blk_frozen BK128.out 3
                    go_wp2_with (first | ((with_reducible refine gate_callee (f := 44) rfl ?_); refine goesL_ (some 59) rfl rfl Tryz.func44 (by kernel_rfl) rfl #[.int .i64 ((rd_T84 l0_6 x42_3).f1.f0)] rfl mapT ?_; (with_reducible refine (probe_within.calls ((rd_T84 l0_6 x42_3).f1.f0) true _ A55.out).mono ?_); rintro e w' ⟨rfl, ⟨nd, rfl⟩⟩; refine ⟨_, rfl, ?_⟩) | (go_at_call 44; (with_reducible refine (probe_within.calls ((rd_T84 l0_6 x42_3).f1.f1) true _ A57.out).mono ?_); rintro e w' ⟨rfl, ⟨nd, rfl⟩⟩))
                    go_ret
                    exact ⟨eqT, wT HB.out⟩
                   ·rw [if_neg c61] at H
                    have c61b0 : decide (100000 < ((rd_T84 l0_6 x42_3).f2)) = false := decide_eq_false c61
                    clear c61
                    have H' := mk0 H
                    clear H
                    have X63_0 := ct BK128.out 0
                    have X63_1 := ct BK128.out 1
                    have X63_2 := ct BK128.out 2
                    have X63_3 := ct BK128.out 3
                    have Y63_0 := blk_frozen BK128.out 0
                    have Y63_1 := blk_frozen BK128.out 1
                    have Y63_2 := blk_frozen BK128.out 2
                    have Y63_3 := blk_frozen BK128.out 3
                    go_wp2_with (first | ((with_reducible refine gate_callee (f := 44) rfl ?_); refine goesL_ (some 59) rfl rfl Tryz.func44 (by kernel_rfl) rfl #[.int .i64 ((rd_T84 l0_6 x42_3).f1.f0)] rfl mapT ?_; (with_reducible refine (probe_within.calls ((rd_T84 l0_6 x42_3).f1.f0) true _ A55.out).mono ?_); rintro e w' ⟨rfl, ⟨nd, rfl⟩⟩; refine ⟨_, rfl, ?_⟩) | (go_at_call 44; (with_reducible refine (probe_within.calls ((rd_T84 l0_6 x42_3).f1.f1) true _ A57.out).mono ?_); rintro e w' ⟨rfl, ⟨nd, rfl⟩⟩))
                    go_roundg kj47
                    case measure => have := HJ1.out; have := HK2.out; have := HK3.out; have := HJ47.out; omega
                    case rel => exact ⟨(wrap64 (x42_3 + 1)), (by first | rfl | (simp; done) | (simp [*]; done) | exact congrArg (Value.int .i64) (by unfold wrap64; omega)), H', ⟨by have := HJ1.out; have := HK2.out; have := HK3.out; have := HJ47.out; omega⟩, ⟨wT HB.out⟩⟩
                 ·replace c58 := Bool.eq_false_iff.mpr c58
                  subst c58
                  have H1 : (some 2) = some r := by rw [if_neg (show ¬ (false = true) by decide)] at H; exact H
                  clear H
                  have H := H1
                  clear H1
                  obtain rfl := Option.some.inj H
                  have X64_0 := ct BK128.out 0
                  have X64_1 := ct BK128.out 1
                  have X64_2 := ct BK128.out 2
                  have X64_3 := ct BK128.out 3
                  have Y64_0 := blk_frozen BK128.out 0
                  have Y64_1 := blk_frozen BK128.out 1
                  have Y64_2 := blk_frozen BK128.out 2
                  have Y64_3 := blk_frozen BK128.out 3
                  go_wp2_with (first | ((with_reducible refine gate_callee (f := 44) rfl ?_); refine goesL_ (some 59) rfl rfl Tryz.func44 (by kernel_rfl) rfl #[.int .i64 ((rd_T84 l0_6 x42_3).f1.f0)] rfl mapT ?_; (with_reducible refine (probe_within.calls ((rd_T84 l0_6 x42_3).f1.f0) true _ A55.out).mono ?_); rintro e w' ⟨rfl, ⟨nd, rfl⟩⟩; refine ⟨_, rfl, ?_⟩; (try clear BK128 GW128 GE128)) | (go_at_call 44; (with_reducible refine (probe_within.calls ((rd_T84 l0_6 x42_3).f1.f1) false _ A57.out).mono ?_); rintro e w' ⟨rfl, ⟨nd, rfl⟩⟩))
                  go_ret
                  exact ⟨eqT, wT HB.out⟩
                ·replace c56 := Bool.eq_false_iff.mpr c56
                 subst c56
                 have H1 : (some 2) = some r := by rw [if_neg (show ¬ (false = true) by decide)] at H; exact H
                 clear H
                 have H := H1
                 clear H1
                 obtain rfl := Option.some.inj H
                 have X65_0 := ct BK128.out 0
                 have X65_1 := ct BK128.out 1
                 have X65_2 := ct BK128.out 2
                 have X65_3 := ct BK128.out 3
                 have Y65_0 := blk_frozen BK128.out 0
                 have Y65_1 := blk_frozen BK128.out 1
                 have Y65_2 := blk_frozen BK128.out 2
                 have Y65_3 := blk_frozen BK128.out 3
                 go_wp2_with (first | ((with_reducible refine gate_callee (f := 44) rfl ?_); refine goesL_ (some 59) rfl rfl Tryz.func44 (by kernel_rfl) rfl #[.int .i64 ((rd_T84 l0_6 x42_3).f1.f0)] rfl mapT ?_; (with_reducible refine (probe_within.calls ((rd_T84 l0_6 x42_3).f1.f0) false _ A55.out).mono ?_); rintro e w' ⟨rfl, ⟨nd, rfl⟩⟩; refine ⟨_, rfl, ?_⟩))
                 go_ret
                 exact ⟨eqT, wT HB.out⟩
            ·rw [if_neg c47] at H
             exact absurd H (by simp)
           ·rw [if_neg c46] at H
            exact absurd H (by simp)
          ·rw [if_neg c45] at H
           have c45b0 : decide (x42_3 < (l0_6.length : Int)) = false := decide_eq_false c45
           clear c45
           obtain rfl := Option.some.inj H
           go_wp2
           go_ret
           exact ⟨eqT, wT HB.out⟩
end Go.Proofs.YtolbjmaabghghaaGreatDoor.PA
