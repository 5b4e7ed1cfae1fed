/- A part of the proof. -/
import Derived.Test.YtolbjmaabghghaaGreatDoorF7PAx0
import Derived.Test.YtolbjmaabghghaaGreatDoorF7PAx25
import Derived.Test.YtolbjmaabghghaaGreatDoorF7PAx26
namespace Go.Proofs.YtolbjmaabghghaaGreatDoor.PA
open Go.RowKit Go.PW Go.PL Go.PM
attribute [local go_sem] max2_int min2_int max_two min_two max_three min_three max_four min_four   -- for this text's walks alone
set_option linter.unusedVariables false
set_option maxHeartbeats 8000000
set_option maxRecDepth 100000
set_option linter.unusedSimpArgs false
mutual
def metrolabref30_guess.j0 : Nat → ByteArray → List ByteArray → Bool → Option (Int × Int × Int × Int × Int × ByteArray)
 | 0, _, _, _ => none
 | k + 1, x0, x3, x8 => if x8 = true then (if 1 < (x3.length : Int) then ((metrolabref30_Int.f k (rdOf ByteArray.empty x3 1)).bind fun t590 => (if 2 < (x3.length : Int) then ((metrolabref30_Int.f k (rdOf ByteArray.empty x3 2)).bind fun t592 => (if 3 < (x3.length : Int) then ((metrolabref30_Int.f k (rdOf ByteArray.empty x3 3)).bind fun t594 => (some (0, t590, t592, t594, 0, (⟨#[]⟩ : ByteArray)))) else (none))) else (none))) else (none)) else (if (x3.length : Int) = 2 then (if 0 < (x3.length : Int) then (metrolabref30_guess.j1 k x0 x3 ((rdOf ByteArray.empty x3 0).toList == ([116, 97, 107, 101] : List UInt8))) else (none)) else (metrolabref30_guess.j1 k x0 x3 false))
def metrolabref30_guess.j1 : Nat → ByteArray → List ByteArray → Bool → Option (Int × Int × Int × Int × Int × ByteArray)
 | 0, _, _, _ => none
 | k + 1, x0, x3, x32 => if x32 = true then (if 1 < (x3.length : Int) then (some (2, 0, 0, 0, 0, rdOf ByteArray.empty x3 1)) else (none)) else (if (x3.length : Int) = 2 then (if 0 < (x3.length : Int) then (metrolabref30_guess.j2 k x0 ((rdOf ByteArray.empty x3 0).toList == ([116, 111, 117, 99, 104] : List UInt8))) else (none)) else (metrolabref30_guess.j2 k x0 false))
def metrolabref30_guess.j2 : Nat → ByteArray → Bool → Option (Int × Int × Int × Int × Int × ByteArray)
 | 0, _, _ => none
 | k + 1, x0, x46 => if x46 = true then (metrolabref30_guess.l0 k x0 0) else (some ((-1), 0, 0, 0, 0, (⟨#[]⟩ : ByteArray)))
def metrolabref30_guess.l0 : Nat → ByteArray → Int → Option (Int × Int × Int × Int × Int × ByteArray)
 | 0, _, _ => none
 | k + 1, x0, x4 => if x4 < 6 then ((metrolabref30_Written.f k 1 0 0 0 x4 (⟨#[]⟩ : ByteArray)).bind fun t599 => (if t599.toList = x0.toList then (some (1, 0, 0, 0, x4, (⟨#[]⟩ : ByteArray))) else (metrolabref30_guess.l0 k x0 (wrap64 (x4 + 1))))) else (some ((-1), 0, 0, 0, 0, (⟨#[]⟩ : ByteArray)))
end
def metrolabref30_guess.f (k : Nat) (a0 : ByteArray) : Option (Int × Int × Int × Int × Int × ByteArray) := (metrolabref30_Split.f k a0).bind fun t585 => (if (t585.length : Int) = 4 then (if 0 < (t585.length : Int) then (metrolabref30_guess.j0 k a0 t585 ((rdOf ByteArray.empty t585 0).toList == ([109, 111, 118, 101] : List UInt8))) else (none)) else (metrolabref30_guess.j0 k a0 t585 false))
def metrolabref30_guess.T3 : Bool × List (List Nat × List Nat) := (true, [([], []), ([0], [0]), ([1], [1]), ([2], [2]), ([], []), ([4], [4]), ([5], [5]), ([6, 3], [6]), ([], []), ([8], [8]), ([9], [9]), ([10, 7], [10]), ([3, 7, 11], [3, 7, 11]), ([12], [12]), ([13, 11, 0, 1, 2, 3, 4, 5, 6, 7, 8, 9, 10, 11, 12, 13], [13])])
def metrolabref30_guess.B3 : List Nat := [0, 1, 3, 7, 0, 16, 48, 127, 0, 256, 768, 2047, 4095, 8191, 16383]
theorem metrolabref30_guess.tab3 : rtab .any (opsOf Tryz.f53 3) = metrolabref30_guess.T3 := by kernel_rfl
theorem metrolabref30_guess.bits3 : waitsOk metrolabref30_guess.T3.2 metrolabref30_guess.B3 = true := by kernel_rfl
theorem metrolabref30_guess.calls (k : Nat) (a0 : ByteArray) (r1 : Int) (r2 : Int) (r3 : Int) (r4 : Int) (r5 : Int) (r6 : ByteArray) (w : World) (h : metrolabref30_guess.f k a0 = some (r1, r2, r3, r4, r5, r6)) :
  Calls Tryz.prog 53 #[.string a0] w fun e w' => e = .returned (.agg #[.int .i64 r1, .int .i64 r2, .int .i64 r3, .int .i64 r4, .int .i64 r5, .string r6]) ∧ Below w.heap.size w w' := by
 have hu52 := Tryz.underlying52
 have hu23 := Tryz.underlying23
 have HB := mk0 (Below.refl w.heap.size w)
 have H : ((metrolabref30_Split.f k a0).bind fun t585 => (if (t585.length : Int) = 4 then (if 0 < (t585.length : Int) then (metrolabref30_guess.j0 k a0 t585 ((rdOf ByteArray.empty t585 0).toList == ([109, 111, 118, 101] : List UInt8))) else (none)) else (metrolabref30_guess.j0 k a0 t585 false))) = some (r1, r2, r3, r4, r5, r6) := h
 clear h
 replace H := Option.bind_eq_some_iff.mp H
 obtain ⟨t585, A20, H⟩ := H
 (try dsimp only at H)
 have A2 := mk0 A20
 clear A20
 have HC3 := mk0 H
 clear H
 go_enter Tryz.func53, Tryz.ntmps53
 go_upto_region 2 with (first | ((with_reducible refine gate_dst (N := 2) rfl ?_); refine box_event ?hg (N := 2) ?hd (cs := #[.int .i64 0, .int .i64 0, .int .i64 0, .int .i64 0, .int .i64 0, .string (⟨#[]⟩ : ByteArray)]) (t := 52) ?hr ?_; (case hd => rfl); (case hg => rfl); (case hr => first | (go_simp; done) | (go_simp; rfl)); intro gb584 hg w4 hbox hb; have n0_ := mk0 (below_step (wT HB.out) hb); have n1_ := mk0 (hbox); have n2_ := mk0 ((szT HB.out hg)); have n3_ := mk0 ((szT HB.out hg)); clear HB; have HB := n0_; have BK584 := n1_; have GW584 := n2_; have GE584 := n3_; clear n0_ n1_ n2_ n3_; clear hb hbox hg) | ((with_reducible refine gate_callee (f := 79) rfl ?_); refine goesL_ (some 7) rfl rfl Tryz.func79 (by kernel_rfl) rfl #[.string a0] rfl mapT ?_; (with_reducible refine (metrolabref30_Split.calls k a0 t585 _ A2.out).mono ?_); rintro e w5 ⟨v586, rfl, ho0, hb⟩; refine ⟨_, rfl, ?_⟩; have n0_ := mk0 (Kd.R_lower ho0 (below_size (wT HB.out))); have n1_ := mk0 (bbT BK584.out hb); have n2_ := mk0 (below_step (wT HB.out) hb); clear BK584; clear HB; have HO587 := n0_; have BK584 := n1_; have HB := n2_; clear n0_ n1_ n2_; (try clear hb); (try clear hb2); (try clear hk); (try clear hi); (try clear ho0)))
 (try simp only [Act.put, List.setIfInBounds_toArray, List.set_cons_zero, List.set_cons_succ])
 go_cut [8] (fun v8 wc => ∃ (kq : Nat) (x8_2 : Bool), v8 = .bool x8_2 ∧ Aside0 (metrolabref30_guess.j0 kq a0 t585 x8_2 = some (r1, r2, r3, r4, r5, r6)) ∧ Aside0 (kq ≤ k) ∧ Aside0 (Kd.R Kd.string 9 wc w.heap.size (fun _ => True) v586 t585) ∧ Aside0 (wc.heap[gb584]? = some (.cells #[.int .i64 0, .int .i64 0, .int .i64 0, .int .i64 0, .int .i64 0, .string (⟨#[]⟩ : ByteArray)] 52 (0, 0))) ∧ Aside0 (Below w.heap.size w wc))
 case first =>
  have H := HC3.out
  clear HC3
  by_cases c6 : (t585.length : Int) = 4
  ·rw [if_pos c6] at H
   have c6b0 : ((t585.length : Int) == 4) = true := beq_iff_eq.mpr c6
   have c6b1 : ((t585.length : Int) != 4) = false := bne_eq_false_iff_eq.mpr c6
   clear c6
   (first | rw [c6b0] | (simp only [i64_w, i32_w]; rw [c6b0]) | skip)
   by_cases c7 : 0 < (t585.length : Int)
   ·rw [if_pos c7] at H
    have c7b0 : decide (0 < (t585.length : Int)) = true := decide_eq_true c7
    have c7b1 : decide (0 < t585.length) = true := decide_eq_true (by omega)
    clear c7
    have H' := mk0 H
    clear H
    obtain ⟨Ao8, co8, eo8⟩ := Kd.R_slice HO587.out
    subst eo8
    have p588 : 0 ≤ (0 : Int) := (by omega)
    have q588 : 0 < (t585.length : Int) := of_decide_eq_true (by first | (with_reducible assumption) | assumption)
    obtain ⟨ad588, e588, hx588_0⟩ := Kd.at_string (Kd.R_reads' HO587.out).2.2 0 p588 q588
    cases e588
    have qi588 : (0 < t585.length) = True := eq_true (by omega)
    (try rw [show ((0 : Int)).toNat = 0 from rfl] at hx588_0)
    (try rw [Addr.add_zero'] at hx588_0)
    replace p588 := eq_true p588
    replace q588 := eq_true q588
    go_wp2
    go_meet
    case rel => exact ⟨_, (((rdOf ByteArray.empty t585 0).toList == ([109, 111, 118, 101] : List UInt8))), (by first | rfl | (simp; done) | (simp [*]; done) | exact congrArg (Value.int .i64) (by unfold wrap64; omega)), H', ⟨by first | omega | exact Nat.le_refl _⟩, ⟨rT HO587.out⟩, ⟨bT BK584.out⟩, ⟨wT HB.out⟩⟩
   ·rw [if_neg c7] at H
    exact absurd H (by simp)
  ·rw [if_neg c6] at H
   have c6b0 : ((t585.length : Int) == 4) = false := beq_eq_false_iff_ne.mpr c6
   have c6b1 : ((t585.length : Int) != 4) = true := bne_iff_ne.mpr c6
   (first | rw [c6b0] | (simp only [i64_w, i32_w]; rw [c6b0]) | skip)
   have H' := mk0 H
   clear H
   obtain ⟨Ao9, co9, eo9⟩ := Kd.R_slice HO587.out
   subst eo9
   go_wp2
   go_meet
   case rel => exact ⟨_, (false), (by first | rfl | (simp; done) | (simp [*]; done) | exact congrArg (Value.int .i64) (by unfold wrap64; omega)), H', ⟨by first | omega | exact Nat.le_refl _⟩, ⟨rT HO587.out⟩, ⟨bT BK584.out⟩, ⟨wT HB.out⟩⟩
 case rest =>
  clear HC3
  try clear c6
  try clear c6b0
  try clear c6b1
  try clear c7
  try clear c7b0
  try clear c7b1
  try clear hx588_0
  try clear p588
  try clear q588
  obtain ⟨kq, x8_2, rfl, HA, HJ2, HO_3, BK584, HB⟩ := hcut
  cases kq with
  | zero => exact absurd HA.out (by simp [metrolabref30_guess.j0])
  | succ kj2 =>
   have H := HA.out
   clear HA
   simp only [metrolabref30_guess.j0] at H
   by_cases c10 : x8_2 = true
   ·subst c10
    have H1 : (if 1 < (t585.length : Int) then ((metrolabref30_Int.f kj2 (rdOf ByteArray.empty t585 1)).bind fun t590 => (if 2 < (t585.length : Int) then ((metrolabref30_Int.f kj2 (rdOf ByteArray.empty t585 2)).bind fun t592 => (if 3 < (t585.length : Int) then ((metrolabref30_Int.f kj2 (rdOf ByteArray.empty t585 3)).bind fun t594 => (some (0, t590, t592, t594, 0, (⟨#[]⟩ : ByteArray)))) else (none))) else (none))) else (none)) = some (r1, r2, r3, r4, r5, r6) := by rw [if_pos rfl] at H; exact H
    clear H
    have H := H1
    clear H1
    by_cases c11 : 1 < (t585.length : Int)
    ·rw [if_pos c11] at H
     have c11b0 : decide (1 < (t585.length : Int)) = true := decide_eq_true c11
     have c11b1 : decide (1 < t585.length) = true := decide_eq_true (by omega)
     clear c11
     replace H := Option.bind_eq_some_iff.mp H
     obtain ⟨t590, A120, H⟩ := H
     (try dsimp only at H)
     have A12 := mk0 A120
     clear A120
     by_cases c13 : 2 < (t585.length : Int)
     ·rw [if_pos c13] at H
      have c13b0 : decide (2 < (t585.length : Int)) = true := decide_eq_true c13
      have c13b1 : decide (2 < t585.length) = true := decide_eq_true (by omega)
      clear c13
      replace H := Option.bind_eq_some_iff.mp H
      obtain ⟨t592, A140, H⟩ := H
      (try dsimp only at H)
      have A14 := mk0 A140
      clear A140
      by_cases c15 : 3 < (t585.length : Int)
      ·rw [if_pos c15] at H
       have c15b0 : decide (3 < (t585.length : Int)) = true := decide_eq_true c15
       have c15b1 : decide (3 < t585.length) = true := decide_eq_true (by omega)
       clear c15
       replace H := Option.bind_eq_some_iff.mp H
       obtain ⟨t594, A160, H⟩ := H
       (try dsimp only at H)
       have A16 := mk0 A160
       clear A160
       simp only [Option.some.injEq, Prod.mk.injEq] at H
       obtain ⟨rfl, rfl, rfl, rfl, rfl, rfl⟩ := H
       try go_wp2
       have n0_ := mk0 (Kd.R_drew HO_3.out)
       have n1_ := mk0 (blk_drew BK584.out)
       have n2_ := mk0 (below_drew1 HB.out)
       clear HO_3
       clear BK584
       clear HB
       have HO_3 := n0_
       have BK584 := n1_
       have HB := n2_
       clear n0_ n1_ n2_
       obtain ⟨Ao18, co18, eo18⟩ := Kd.R_slice HO_3.out
       (first | subst eo18 | (injection eo18 with f1_ f2_ f3_; have f4_ := f1_.symm; have f5_ := f3_.symm; clear f1_ f2_ f3_; subst f4_; subst f5_))
       have p589 : 0 ≤ (1 : Int) := (by omega)
       have q589 : 1 < (t585.length : Int) := of_decide_eq_true (by first | (with_reducible assumption) | assumption)
       obtain ⟨ad589, e589, hx589_0⟩ := Kd.at_string (Kd.R_reads' HO_3.out).2.2 1 p589 q589
       cases e589
       (try simp only [show (1 : Int).toNat = 1 from rfl, Nat.reduceMul, Nat.reduceEqDiff, Go.Addr.add, ↓reduceIte] at hx589_0)
       have qi589 : (1 < t585.length) = True := eq_true (by omega)
       (try rw [show ((1 : Int)).toNat = 1 from rfl] at hx589_0)
       replace p589 := eq_true p589
       replace q589 := eq_true q589
       have p591 : 0 ≤ (2 : Int) := (by omega)
       have q591 : 2 < (t585.length : Int) := of_decide_eq_true (by first | (with_reducible assumption) | assumption)
       obtain ⟨ad591, e591, hx591_0⟩ := Kd.at_string (Kd.R_reads' HO_3.out).2.2 2 p591 q591
       obtain rfl : ad589 = ad591 := (by injection e591)
       (try simp only [show (2 : Int).toNat = 2 from rfl, Nat.reduceMul, Nat.reduceEqDiff, Go.Addr.add, ↓reduceIte] at hx591_0)
       have qi591 : (2 < t585.length) = True := eq_true (by omega)
       (try rw [show ((2 : Int)).toNat = 2 from rfl] at hx591_0)
       replace p591 := eq_true p591
       replace q591 := eq_true q591
       have p593 : 0 ≤ (3 : Int) := (by omega)
       have q593 : 3 < (t585.length : Int) := of_decide_eq_true (by first | (with_reducible assumption) | assumption)
       obtain ⟨ad593, e593, hx593_0⟩ := Kd.at_string (Kd.R_reads' HO_3.out).2.2 3 p593 q593
       obtain rfl : ad589 = ad593 := (by injection e593)
       (try simp only [show (3 : Int).toNat = 3 from rfl, Nat.reduceMul, Nat.reduceEqDiff, Go.Addr.add, ↓reduceIte] at hx593_0)
       have qi593 : (3 < t585.length) = True := eq_true (by omega)
       (try rw [show ((3 : Int)).toNat = 3 from rfl] at hx593_0)
       replace p593 := eq_true p593
       replace q593 := eq_true q593
       refine start_ (n := 15) (S := fun w' => w'.cell? ⟨ad589.block, ad589.off + 1, none⟩ = some (.string (rdOf ByteArray.empty t585 1)) ∧ w'.cell? ⟨ad589.block, ad589.off + 2, none⟩ = some (.string (rdOf ByteArray.empty t585 2)) ∧ w'.cell? ⟨ad589.block, ad589.off + 3, none⟩ = some (.string (rdOf ByteArray.empty t585 3))) (ds := []) #[false, false, false, false, false, false, false, false, false, false, false, false, false, false, false] (by kernel_rfl) rfl rfl ⟨hx589_0, hx591_0, hx593_0⟩ (fun hHeld => ?_); refine with_tabW metrolabref30_guess.tab3 metrolabref30_guess.bits3 (fun HT_ HW_ => ?_)
       generalize wc.drew = w17 at HO_3 BK584 HB hx589_0 hx591_0 hx593_0 hHeld ⊢
       refine pure_ (i := 0) (N := some 18) (v := ?_) (a' := ?_) #[true, false, false, false, false, false, false, false, false, false, false, false, false, false, false] rfl rfl (any_of HT_.out (by kernel_rfl)) (fun _ _ _ h => h) (Or.inl ⟨by rfl, ?_⟩) ?_ ?_
       rotate_left
       ·intro w'
        go_simp
        with_reducible rfl
       rotate_left
       ·exact nrm
       refine pure_ (i := 1) (N := some 19) (v := ?_) (a' := ?_) #[true, true, false, false, false, false, false, false, false, false, false, false, false, false, false] rfl rfl (any_of HT_.out (by kernel_rfl)) (fun _ _ _ h => h) (Or.inl ⟨by rfl, ?_⟩) ?_ ?_
       rotate_left
       ·intro w'
        go_simp
        with_reducible rfl
       rotate_left
       ·exact nrm
       refine pure_ (i := 4) (N := some 22) (v := ?_) (a' := ?_) #[true, true, false, false, true, false, false, false, false, false, false, false, false, false, false] rfl rfl (any_of HT_.out (by kernel_rfl)) (fun _ _ _ h => h) (Or.inl ⟨by rfl, ?_⟩) ?_ ?_
       rotate_left
       ·intro w'
        go_simp
        with_reducible rfl
       rotate_left
       ·exact nrm
       refine pure_ (i := 5) (N := some 23) (v := ?_) (a' := ?_) #[true, true, false, false, true, true, false, false, false, false, false, false, false, false, false] rfl rfl (any_of HT_.out (by kernel_rfl)) (fun _ _ _ h => h) (Or.inl ⟨by rfl, ?_⟩) ?_ ?_
       rotate_left
       ·intro w'
        go_simp
        with_reducible rfl
       rotate_left
       ·exact nrm
       refine pure_ (i := 8) (N := some 26) (v := ?_) (a' := ?_) #[true, true, false, false, true, true, false, false, true, false, false, false, false, false, false] rfl rfl (any_of HT_.out (by kernel_rfl)) (fun _ _ _ h => h) (Or.inl ⟨by rfl, ?_⟩) ?_ ?_
       rotate_left
       ·intro w'
        go_simp
        with_reducible rfl
       rotate_left
       ·exact nrm
       refine pure_ (i := 9) (N := some 27) (v := ?_) (a' := ?_) #[true, true, false, false, true, true, false, false, true, true, false, false, false, false, false] rfl rfl (any_of HT_.out (by kernel_rfl)) (fun _ _ _ h => h) (Or.inl ⟨by rfl, ?_⟩) ?_ ?_
       rotate_left
       ·intro w'
        go_simp
        with_reducible rfl
       rotate_left
       ·exact nrm
       refine take_ (i := 2) (N := some 20) (v := ?_) (a' := ?_) #[true, true, true, false, true, true, false, false, true, true, false, false, false, false, false] rfl rfl (take_ofW HT_.out HW_.out (by kernel_rfl)) (fun _ _ _ h => h) (Or.inl ⟨by rfl, ?_⟩) hHeld ?_ ?_
       rotate_left
       ·rintro w' ⟨s0, s1, s2⟩
        go_simp
        with_reducible rfl
       rotate_left
       ·exact nrm
       refine take_ (i := 6) (N := some 24) (v := ?_) (a' := ?_) #[true, true, true, false, true, true, true, false, true, true, false, false, false, false, false] rfl rfl (take_ofW HT_.out HW_.out (by kernel_rfl)) (fun _ _ _ h => h) (Or.inl ⟨by rfl, ?_⟩) hHeld ?_ ?_
       rotate_left
       ·rintro w' ⟨s0, s1, s2⟩
        go_simp
        with_reducible rfl
       rotate_left
       ·exact nrm
       refine take_ (i := 10) (N := some 28) (v := ?_) (a' := ?_) #[true, true, true, false, true, true, true, false, true, true, true, false, false, false, false] rfl rfl (take_ofW HT_.out HW_.out (by kernel_rfl)) (fun _ _ _ h => h) (Or.inl ⟨by rfl, ?_⟩) hHeld ?_ ?_
       rotate_left
       ·rintro w' ⟨s0, s1, s2⟩
        go_simp
        with_reducible rfl
       rotate_left
       ·exact nrm
       refine one_ (i := 3) (N := some 21) #[true, true, true, true, true, true, true, false, true, true, true, false, false, false, false] rfl rfl (one_of HT_.out (by kernel_rfl)) (by decide) (fun K hK => ?_)
       refine goes_ Tryz.func80 (by kernel_rfl) rfl #[.string (rdOf ByteArray.empty t585 1)] (by rfl) rfl rfl mapT ?_
       with_reducible refine (metrolabref30_Int.calls kj2 (rdOf ByteArray.empty t585 1) t590 _ A12.out).mono ?_
       rintro e w' ⟨rfl, ⟨nd, rfl⟩⟩
       refine ⟨_, rfl, ?_⟩
       refine hK.out _ _ ⟨hHeld.1, hHeld.2.1, hHeld.2.2⟩ (fun hHeld => ?_)
       clear hK K
       refine norm_ (a' := ?_) ?_ ?_
       rotate_left
       ·show Act.put _ (some 21) _ = _
        simp only [Act.put, List.setIfInBounds_toArray, List.set_cons_zero, List.set_cons_succ, i64_w, i32_w]
        rfl
       refine one_ (i := 7) (N := some 25) #[true, true, true, true, true, true, true, true, true, true, true, false, false, false, false] rfl rfl (one_of HT_.out (by kernel_rfl)) (by decide) (fun K hK => ?_)
       refine goes_ Tryz.func80 (by kernel_rfl) rfl #[.string (rdOf ByteArray.empty t585 2)] (by rfl) rfl rfl mapT ?_
       with_reducible refine (metrolabref30_Int.calls kj2 (rdOf ByteArray.empty t585 2) t592 _ A14.out).mono ?_
       rintro e w' ⟨rfl, ⟨nd, rfl⟩⟩
       refine ⟨_, rfl, ?_⟩
       refine hK.out _ _ ⟨hHeld.1, hHeld.2.1, hHeld.2.2⟩ (fun hHeld => ?_)
       clear hK K
       refine norm_ (a' := ?_) ?_ ?_
       rotate_left
       ·show Act.put _ (some 25) _ = _
        simp only [Act.put, List.setIfInBounds_toArray, List.set_cons_zero, List.set_cons_succ, i64_w, i32_w]
        rfl
       refine one_ (i := 11) (N := some 29) #[true, true, true, true, true, true, true, true, true, true, true, true, false, false, false] rfl rfl (one_of HT_.out (by kernel_rfl)) (by decide) (fun K hK => ?_)
       refine goes_ Tryz.func80 (by kernel_rfl) rfl #[.string (rdOf ByteArray.empty t585 3)] (by rfl) rfl rfl mapT ?_
       with_reducible refine (metrolabref30_Int.calls kj2 (rdOf ByteArray.empty t585 3) t594 _ A16.out).mono ?_
       rintro e w' ⟨rfl, ⟨nd, rfl⟩⟩
       refine ⟨_, rfl, ?_⟩
       refine hK.out _ _ ⟨hHeld.1, hHeld.2.1, hHeld.2.2⟩ (fun hHeld => ?_)
       clear hK K
       refine norm_ (a' := ?_) ?_ ?_
       rotate_left
       ·show Act.put _ (some 29) _ = _
        simp only [Act.put, List.setIfInBounds_toArray, List.set_cons_zero, List.set_cons_succ, i64_w, i32_w]
        rfl
       refine pure_ (i := 12) (N := some 30) (v := ?_) (a' := ?_) #[true, true, true, true, true, true, true, true, true, true, true, true, true, false, false] rfl rfl (any_of HT_.out (by kernel_rfl)) (fun _ _ _ h => h) (Or.inl ⟨by rfl, ?_⟩) ?_ ?_
       rotate_left
       ·intro w'
        go_simp
        with_reducible rfl
       rotate_left
       ·exact nrm
       refine pure_ (i := 13) (N := some 31) (v := ?_) (a' := ?_) #[true, true, true, true, true, true, true, true, true, true, true, true, true, true, false] rfl rfl (any_of HT_.out (by kernel_rfl)) (fun _ _ _ h => h) (Or.inl ⟨by rfl, ?_⟩) ?_ ?_
       rotate_left
       ·intro w'
        go_simp
        with_reducible rfl
       rotate_left
       ·exact nrm
       refine one_ (i := 14) (N := none) #[true, true, true, true, true, true, true, true, true, true, true, true, true, true, true] rfl rfl (one_of HT_.out (by kernel_rfl)) (by decide) (fun K hK => ?_)
       have hs19 := ct BK584.out 0
       have hfs19 := blk_frozen BK584.out 0
       have hs20 := ct BK584.out 1
       have hfs20 := blk_frozen BK584.out 1
       have hs21 := ct BK584.out 2
       have hfs21 := blk_frozen BK584.out 2
       have hs22 := ct BK584.out 3
       have hfs22 := blk_frozen BK584.out 3
       have hs23 := ct BK584.out 4
       have hfs23 := blk_frozen BK584.out 4
       have hs24 := ct BK584.out 5
       have hfs24 := blk_frozen BK584.out 5
       refine skip_ (w1 := ?_) (by rfl) rfl ?_ ?_
       rotate_left
       ·go_simp
        rfl
       refine hK.out _ _ ⟨((cell_far (p := ⟨gb584, _, none⟩) (by first | exact Kd.own_blk (Kd.R_ne HO_3.out BK584.out (by decide)) | (rw [add_block]; exact Kd.own_blk (Kd.R_ne HO_3.out BK584.out (by decide))) | (show (Addr.add _ _).block ≠ _; rw [add_block]; exact Kd.own_blk (Kd.R_ne HO_3.out BK584.out (by decide))) | (dsimp only; exact Kd.own_blk (Kd.R_ne HO_3.out BK584.out (by decide)))) _).trans (((cell_far (p := ⟨gb584, _, none⟩) (by first | exact Kd.own_blk (Kd.R_ne HO_3.out BK584.out (by decide)) | (rw [add_block]; exact Kd.own_blk (Kd.R_ne HO_3.out BK584.out (by decide))) | (show (Addr.add _ _).block ≠ _; rw [add_block]; exact Kd.own_blk (Kd.R_ne HO_3.out BK584.out (by decide))) | (dsimp only; exact Kd.own_blk (Kd.R_ne HO_3.out BK584.out (by decide)))) _).trans (((cell_far (p := ⟨gb584, _, none⟩) (by first | exact Kd.own_blk (Kd.R_ne HO_3.out BK584.out (by decide)) | (rw [add_block]; exact Kd.own_blk (Kd.R_ne HO_3.out BK584.out (by decide))) | (show (Addr.add _ _).block ≠ _; rw [add_block]; exact Kd.own_blk (Kd.R_ne HO_3.out BK584.out (by decide))) | (dsimp only; exact Kd.own_blk (Kd.R_ne HO_3.out BK584.out (by decide)))) _).trans (((cell_far (p := ⟨gb584, _, none⟩) (by first | exact Kd.own_blk (Kd.R_ne HO_3.out BK584.out (by decide)) | (rw [add_block]; exact Kd.own_blk (Kd.R_ne HO_3.out BK584.out (by decide))) | (show (Addr.add _ _).block ≠ _; rw [add_block]; exact Kd.own_blk (Kd.R_ne HO_3.out BK584.out (by decide))) | (dsimp only; exact Kd.own_blk (Kd.R_ne HO_3.out BK584.out (by decide)))) _).trans (((cell_far (p := ⟨gb584, _, none⟩) (by first | exact Kd.own_blk (Kd.R_ne HO_3.out BK584.out (by decide)) | (rw [add_block]; exact Kd.own_blk (Kd.R_ne HO_3.out BK584.out (by decide))) | (show (Addr.add _ _).block ≠ _; rw [add_block]; exact Kd.own_blk (Kd.R_ne HO_3.out BK584.out (by decide))) | (dsimp only; exact Kd.own_blk (Kd.R_ne HO_3.out BK584.out (by decide)))) _).trans (((cell_far (p := ⟨gb584, _, none⟩) (by first | exact Kd.own_blk (Kd.R_ne HO_3.out BK584.out (by decide)) | (rw [add_block]; exact Kd.own_blk (Kd.R_ne HO_3.out BK584.out (by decide))) | (show (Addr.add _ _).block ≠ _; rw [add_block]; exact Kd.own_blk (Kd.R_ne HO_3.out BK584.out (by decide))) | (dsimp only; exact Kd.own_blk (Kd.R_ne HO_3.out BK584.out (by decide)))) _).trans (hHeld.1)))))))))))), ((cell_far (p := ⟨gb584, _, none⟩) (by first | exact Kd.own_blk (Kd.R_ne HO_3.out BK584.out (by decide)) | (rw [add_block]; exact Kd.own_blk (Kd.R_ne HO_3.out BK584.out (by decide))) | (show (Addr.add _ _).block ≠ _; rw [add_block]; exact Kd.own_blk (Kd.R_ne HO_3.out BK584.out (by decide))) | (dsimp only; exact Kd.own_blk (Kd.R_ne HO_3.out BK584.out (by decide)))) _).trans (((cell_far (p := ⟨gb584, _, none⟩) (by first | exact Kd.own_blk (Kd.R_ne HO_3.out BK584.out (by decide)) | (rw [add_block]; exact Kd.own_blk (Kd.R_ne HO_3.out BK584.out (by decide))) | (show (Addr.add _ _).block ≠ _; rw [add_block]; exact Kd.own_blk (Kd.R_ne HO_3.out BK584.out (by decide))) | (dsimp only; exact Kd.own_blk (Kd.R_ne HO_3.out BK584.out (by decide)))) _).trans (((cell_far (p := ⟨gb584, _, none⟩) (by first | exact Kd.own_blk (Kd.R_ne HO_3.out BK584.out (by decide)) | (rw [add_block]; exact Kd.own_blk (Kd.R_ne HO_3.out BK584.out (by decide))) | (show (Addr.add _ _).block ≠ _; rw [add_block]; exact Kd.own_blk (Kd.R_ne HO_3.out BK584.out (by decide))) | (dsimp only; exact Kd.own_blk (Kd.R_ne HO_3.out BK584.out (by decide)))) _).trans (((cell_far (p := ⟨gb584, _, none⟩) (by first | exact Kd.own_blk (Kd.R_ne HO_3.out BK584.out (by decide)) | (rw [add_block]; exact Kd.own_blk (Kd.R_ne HO_3.out BK584.out (by decide))) | (show (Addr.add _ _).block ≠ _; rw [add_block]; exact Kd.own_blk (Kd.R_ne HO_3.out BK584.out (by decide))) | (dsimp only; exact Kd.own_blk (Kd.R_ne HO_3.out BK584.out (by decide)))) _).trans (((cell_far (p := ⟨gb584, _, none⟩) (by first | exact Kd.own_blk (Kd.R_ne HO_3.out BK584.out (by decide)) | (rw [add_block]; exact Kd.own_blk (Kd.R_ne HO_3.out BK584.out (by decide))) | (show (Addr.add _ _).block ≠ _; rw [add_block]; exact Kd.own_blk (Kd.R_ne HO_3.out BK584.out (by decide))) | (dsimp only; exact Kd.own_blk (Kd.R_ne HO_3.out BK584.out (by decide)))) _).trans (((cell_far (p := ⟨gb584, _, none⟩) (by first | exact Kd.own_blk (Kd.R_ne HO_3.out BK584.out (by decide)) | (rw [add_block]; exact Kd.own_blk (Kd.R_ne HO_3.out BK584.out (by decide))) | (show (Addr.add _ _).block ≠ _; rw [add_block]; exact Kd.own_blk (Kd.R_ne HO_3.out BK584.out (by decide))) | (dsimp only; exact Kd.own_blk (Kd.R_ne HO_3.out BK584.out (by decide)))) _).trans (hHeld.2.1)))))))))))), ((cell_far (p := ⟨gb584, _, none⟩) (by first | exact Kd.own_blk (Kd.R_ne HO_3.out BK584.out (by decide)) | (rw [add_block]; exact Kd.own_blk (Kd.R_ne HO_3.out BK584.out (by decide))) | (show (Addr.add _ _).block ≠ _; rw [add_block]; exact Kd.own_blk (Kd.R_ne HO_3.out BK584.out (by decide))) | (dsimp only; exact Kd.own_blk (Kd.R_ne HO_3.out BK584.out (by decide)))) _).trans (((cell_far (p := ⟨gb584, _, none⟩) (by first | exact Kd.own_blk (Kd.R_ne HO_3.out BK584.out (by decide)) | (rw [add_block]; exact Kd.own_blk (Kd.R_ne HO_3.out BK584.out (by decide))) | (show (Addr.add _ _).block ≠ _; rw [add_block]; exact Kd.own_blk (Kd.R_ne HO_3.out BK584.out (by decide))) | (dsimp only; exact Kd.own_blk (Kd.R_ne HO_3.out BK584.out (by decide)))) _).trans (((cell_far (p := ⟨gb584, _, none⟩) (by first | exact Kd.own_blk (Kd.R_ne HO_3.out BK584.out (by decide)) | (rw [add_block]; exact Kd.own_blk (Kd.R_ne HO_3.out BK584.out (by decide))) | (show (Addr.add _ _).block ≠ _; rw [add_block]; exact Kd.own_blk (Kd.R_ne HO_3.out BK584.out (by decide))) | (dsimp only; exact Kd.own_blk (Kd.R_ne HO_3.out BK584.out (by decide)))) _).trans (((cell_far (p := ⟨gb584, _, none⟩) (by first | exact Kd.own_blk (Kd.R_ne HO_3.out BK584.out (by decide)) | (rw [add_block]; exact Kd.own_blk (Kd.R_ne HO_3.out BK584.out (by decide))) | (show (Addr.add _ _).block ≠ _; rw [add_block]; exact Kd.own_blk (Kd.R_ne HO_3.out BK584.out (by decide))) | (dsimp only; exact Kd.own_blk (Kd.R_ne HO_3.out BK584.out (by decide)))) _).trans (((cell_far (p := ⟨gb584, _, none⟩) (by first | exact Kd.own_blk (Kd.R_ne HO_3.out BK584.out (by decide)) | (rw [add_block]; exact Kd.own_blk (Kd.R_ne HO_3.out BK584.out (by decide))) | (show (Addr.add _ _).block ≠ _; rw [add_block]; exact Kd.own_blk (Kd.R_ne HO_3.out BK584.out (by decide))) | (dsimp only; exact Kd.own_blk (Kd.R_ne HO_3.out BK584.out (by decide)))) _).trans (((cell_far (p := ⟨gb584, _, none⟩) (by first | exact Kd.own_blk (Kd.R_ne HO_3.out BK584.out (by decide)) | (rw [add_block]; exact Kd.own_blk (Kd.R_ne HO_3.out BK584.out (by decide))) | (show (Addr.add _ _).block ≠ _; rw [add_block]; exact Kd.own_blk (Kd.R_ne HO_3.out BK584.out (by decide))) | (dsimp only; exact Kd.own_blk (Kd.R_ne HO_3.out BK584.out (by decide)))) _).trans (hHeld.2.2))))))))))))⟩ (fun hHeld => ?_)
       clear hK K
       refine done_ (done_of HT_.out (by kernel_rfl)) ?_
       try go_wp2
       refine bodyPost_ret (results_cell_row rfl _ _ gb584 52 #[.int .i64 0, .int .i64 t590, .int .i64 t592, .int .i64 t594, .int .i64 0, .string (⟨#[]⟩ : ByteArray)] (0, 0) _ rfl (by (with_reducible repeat (first | refine blk_drewN ?_ _ | refine blk_drew ?_ | refine blk_alloc ?_ _)); refine blk_put (cs := #[.int .i64 0, .int .i64 t590, .int .i64 t592, .int .i64 t594, .int .i64 0, .string (⟨#[]⟩ : ByteArray)]) ?_ 5 _ rfl; refine blk_put (cs := #[.int .i64 0, .int .i64 t590, .int .i64 t592, .int .i64 t594, .int .i64 0, .string (⟨#[]⟩ : ByteArray)]) ?_ 4 _ rfl; refine blk_put (cs := #[.int .i64 0, .int .i64 t590, .int .i64 t592, .int .i64 0, .int .i64 0, .string (⟨#[]⟩ : ByteArray)]) ?_ 3 _ rfl; refine blk_put (cs := #[.int .i64 0, .int .i64 t590, .int .i64 0, .int .i64 0, .int .i64 0, .string (⟨#[]⟩ : ByteArray)]) ?_ 2 _ rfl; refine blk_put (cs := #[.int .i64 0, .int .i64 0, .int .i64 0, .int .i64 0, .int .i64 0, .string (⟨#[]⟩ : ByteArray)]) ?_ 1 _ rfl; refine blk_put (cs := #[.int .i64 0, .int .i64 0, .int .i64 0, .int .i64 0, .int .i64 0, .string (⟨#[]⟩ : ByteArray)]) ?_ 0 _ rfl; (with_reducible repeat (first | refine blk_drewN ?_ _ | refine blk_drew ?_ | refine blk_alloc ?_ _)); exact BK584.out) Tryz.underlying52 rfl (by kernel_rfl)) rfl ?_
       exact ⟨eqT, by repeat (first | (with_reducible first | exact HB.out | apply below_alloc | apply pw_below_drewN | apply below_drew1 | refine below_set ?_ GE584.out) | exact HB.out)⟩
      ·rw [if_neg c15] at H
       exact absurd H (by simp)
     ·rw [if_neg c13] at H
      exact absurd H (by simp)
    ·rw [if_neg c11] at H
     exact absurd H (by simp)
   ·replace c10 := Bool.eq_false_iff.mpr c10
    subst c10
    have H1 : (if (t585.length : Int) = 2 then (if 0 < (t585.length : Int) then (metrolabref30_guess.j1 kj2 a0 t585 ((rdOf ByteArray.empty t585 0).toList == ([116, 97, 107, 101] : List UInt8))) else (none)) else (metrolabref30_guess.j1 kj2 a0 t585 false)) = some (r1, r2, r3, r4, r5, r6) := by rw [if_neg (show ¬ (false = true) by decide)] at H; exact H
    clear H
    have H := H1
    clear H1
    have HC25 := mk0 H
    clear H
    go_upto_region 4 with (fail)
    go_cut [32] (fun v32 wc => ∃ (kq : Nat) (x32_24 : Bool), v32 = .bool x32_24 ∧ Aside0 (metrolabref30_guess.j1 kq a0 t585 x32_24 = some (r1, r2, r3, r4, r5, r6)) ∧ Aside0 (kq ≤ kj2) ∧ Aside0 (Kd.R Kd.string 9 wc w.heap.size (fun _ => True) v586 t585) ∧ Aside0 (wc.heap[gb584]? = some (.cells #[.int .i64 0, .int .i64 0, .int .i64 0, .int .i64 0, .int .i64 0, .string (⟨#[]⟩ : ByteArray)] 52 (0, 0))) ∧ Aside0 (Below w.heap.size w wc))
    case first =>
     have H := HC25.out
     clear HC25
     by_cases c26 : (t585.length : Int) = 2
     ·rw [if_pos c26] at H
      have c26b0 : ((t585.length : Int) == 2) = true := beq_iff_eq.mpr c26
      have c26b1 : ((t585.length : Int) != 2) = false := bne_eq_false_iff_eq.mpr c26
      clear c26
      (first | rw [c26b0] | (simp only [i64_w, i32_w]; rw [c26b0]) | skip)
      by_cases c27 : 0 < (t585.length : Int)
      ·rw [if_pos c27] at H
       have c27b0 : decide (0 < (t585.length : Int)) = true := decide_eq_true c27
       have c27b1 : decide (0 < t585.length) = true := decide_eq_true (by omega)
       clear c27
       have H' := mk0 H
       clear H
       obtain ⟨Ao28, co28, eo28⟩ := Kd.R_slice HO_3.out
       subst eo28
       have p595 : 0 ≤ (0 : Int) := (by omega)
       have q595 : 0 < (t585.length : Int) := of_decide_eq_true (by first | (with_reducible assumption) | assumption)
       obtain ⟨ad595, e595, hx595_0⟩ := Kd.at_string (Kd.R_reads' HO_3.out).2.2 0 p595 q595
       cases e595
       have qi595 : (0 < t585.length) = True := eq_true (by omega)
       (try rw [show ((0 : Int)).toNat = 0 from rfl] at hx595_0)
       (try rw [Addr.add_zero'] at hx595_0)
       replace p595 := eq_true p595
       replace q595 := eq_true q595
       go_wp2
       go_meet
       case rel => exact ⟨_, (((rdOf ByteArray.empty t585 0).toList == ([116, 97, 107, 101] : List UInt8))), (by first | rfl | (simp; done) | (simp [*]; done) | exact congrArg (Value.int .i64) (by unfold wrap64; omega)), H', ⟨by have := HJ2.out; first | omega | exact Nat.le_refl _⟩, ⟨rT HO_3.out⟩, ⟨bT BK584.out⟩, ⟨wT HB.out⟩⟩
      ·rw [if_neg c27] at H
       exact absurd H (by simp)
     ·rw [if_neg c26] at H
      have c26b0 : ((t585.length : Int) == 2) = false := beq_eq_false_iff_ne.mpr c26
      have c26b1 : ((t585.length : Int) != 2) = true := bne_iff_ne.mpr c26
      (first | rw [c26b0] | (simp only [i64_w, i32_w]; rw [c26b0]) | skip)
      have H' := mk0 H
      clear H
      obtain ⟨Ao29, co29, eo29⟩ := Kd.R_slice HO_3.out
      subst eo29
      go_wp2
      go_meet
      case rel => exact ⟨_, (false), (by first | rfl | (simp; done) | (simp [*]; done) | exact congrArg (Value.int .i64) (by unfold wrap64; omega)), H', ⟨by have := HJ2.out; first | omega | exact Nat.le_refl _⟩, ⟨rT HO_3.out⟩, ⟨bT BK584.out⟩, ⟨wT HB.out⟩⟩
    case rest =>
     clear HC25
     try clear c6
     try clear c6b0
     try clear c6b1
     try clear c7
     try clear c7b0
     try clear c7b1
     try clear c10
     try clear c11
     try clear c11b0
     try clear c11b1
     try clear c13
     try clear c13b0
     try clear c13b1
     try clear c15
     try clear c15b0
     try clear c15b1
     try clear c26
     try clear c26b0
     try clear c26b1
     try clear c27
     try clear c27b0
     try clear c27b1
     try clear hx588_0
     try clear hx589_0
     try clear hx591_0
     try clear hx593_0
     try clear hx595_0
     try clear p588
     try clear p589
     try clear p591
     try clear p593
     try clear p595
     try clear q588
     try clear q589
     try clear q591
     try clear q593
     try clear q595
     obtain ⟨kq, x32_24, rfl, HA, HJ24, HO_3, BK584, HB⟩ := hcut
     cases kq with
     | zero => exact absurd HA.out (by simp [metrolabref30_guess.j1])
     | succ kj24 =>
      have H := HA.out
      clear HA
      simp only [metrolabref30_guess.j1] at H
      by_cases c30 : x32_24 = true
      ·subst c30
       have H1 : (if 1 < (t585.length : Int) then (some (2, 0, 0, 0, 0, rdOf ByteArray.empty t585 1)) else (none)) = some (r1, r2, r3, r4, r5, r6) := by rw [if_pos rfl] at H; exact H
       clear H
       have H := H1
       clear H1
       by_cases c31 : 1 < (t585.length : Int)
       ·rw [if_pos c31] at H
        have c31b0 : decide (1 < (t585.length : Int)) = true := decide_eq_true c31
        have c31b1 : decide (1 < t585.length) = true := decide_eq_true (by omega)
        clear c31
        simp only [Option.some.injEq, Prod.mk.injEq] at H
        obtain ⟨rfl, rfl, rfl, rfl, rfl, rfl⟩ := H
        obtain ⟨Ao32, co32, eo32⟩ := Kd.R_slice HO_3.out
        subst eo32
        have p596 : 0 ≤ (1 : Int) := (by omega)
        have q596 : 1 < (t585.length : Int) := of_decide_eq_true (by first | (with_reducible assumption) | assumption)
        obtain ⟨ad596, e596, hx596_0⟩ := Kd.at_string (Kd.R_reads' HO_3.out).2.2 1 p596 q596
        cases e596
        (try simp only [show (1 : Int).toNat = 1 from rfl, Nat.reduceMul, Nat.reduceEqDiff, Go.Addr.add, ↓reduceIte] at hx596_0)
        have qi596 : (1 < t585.length) = True := eq_true (by omega)
        (try rw [show ((1 : Int)).toNat = 1 from rfl] at hx596_0)
        replace p596 := eq_true p596
        replace q596 := eq_true q596
        have X33_0 := ct BK584.out 0
        have X33_1 := ct BK584.out 1
        have X33_2 := ct BK584.out 2
        have X33_3 := ct BK584.out 3
        have X33_4 := ct BK584.out 4
        have X33_5 := ct BK584.out 5
        have Y33_0 := blk_frozen BK584.out 0
        have Y33_1 := blk_frozen BK584.out 1
        have Y33_2 := blk_frozen BK584.out 2
        have Y33_3 := blk_frozen BK584.out 3
        have Y33_4 := blk_frozen BK584.out 4
        have Y33_5 := blk_frozen BK584.out 5
        go_wp2
        refine bodyPost_ret (results_cell_row rfl _ _ gb584 52 #[.int .i64 2, .int .i64 0, .int .i64 0, .int .i64 0, .int .i64 0, .string (rdOf ByteArray.empty t585 1)] (0, 0) _ rfl (by (with_reducible repeat (first | refine blk_drewN ?_ _ | refine blk_drew ?_ | refine blk_alloc ?_ _)); refine blk_put (cs := #[.int .i64 2, .int .i64 0, .int .i64 0, .int .i64 0, .int .i64 0, .string (⟨#[]⟩ : ByteArray)]) ?_ 5 _ rfl; refine blk_put (cs := #[.int .i64 2, .int .i64 0, .int .i64 0, .int .i64 0, .int .i64 0, .string (⟨#[]⟩ : ByteArray)]) ?_ 4 _ rfl; refine blk_put (cs := #[.int .i64 2, .int .i64 0, .int .i64 0, .int .i64 0, .int .i64 0, .string (⟨#[]⟩ : ByteArray)]) ?_ 3 _ rfl; refine blk_put (cs := #[.int .i64 2, .int .i64 0, .int .i64 0, .int .i64 0, .int .i64 0, .string (⟨#[]⟩ : ByteArray)]) ?_ 2 _ rfl; refine blk_put (cs := #[.int .i64 2, .int .i64 0, .int .i64 0, .int .i64 0, .int .i64 0, .string (⟨#[]⟩ : ByteArray)]) ?_ 1 _ rfl; refine blk_put (cs := #[.int .i64 0, .int .i64 0, .int .i64 0, .int .i64 0, .int .i64 0, .string (⟨#[]⟩ : ByteArray)]) ?_ 0 _ rfl; (with_reducible repeat (first | refine blk_drewN ?_ _ | refine blk_drew ?_ | refine blk_alloc ?_ _)); exact BK584.out) Tryz.underlying52 rfl (by kernel_rfl)) rfl ?_
        exact ⟨eqT, by repeat (first | (with_reducible first | exact HB.out | apply below_alloc | apply pw_below_drewN | apply below_drew1 | refine below_set ?_ GE584.out) | exact HB.out)⟩
       ·rw [if_neg c31] at H
        exact absurd H (by simp)
      ·replace c30 := Bool.eq_false_iff.mpr c30
       subst c30
       have H1 : (if (t585.length : Int) = 2 then (if 0 < (t585.length : Int) then (metrolabref30_guess.j2 kj24 a0 ((rdOf ByteArray.empty t585 0).toList == ([116, 111, 117, 99, 104] : List UInt8))) else (none)) else (metrolabref30_guess.j2 kj24 a0 false)) = some (r1, r2, r3, r4, r5, r6) := by rw [if_neg (show ¬ (false = true) by decide)] at H; exact H
       clear H
       have H := H1
       clear H1
       have HC34 := mk0 H
       clear H
       go_upto_region 6 with (fail)
       go_cut [46] (fun v46 wc => ∃ (kq : Nat) (x46_33 : Bool), v46 = .bool x46_33 ∧ Aside0 (metrolabref30_guess.j2 kq a0 x46_33 = some (r1, r2, r3, r4, r5, r6)) ∧ Aside0 (kq ≤ kj24) ∧ Aside0 (wc.heap[gb584]? = some (.cells #[.int .i64 0, .int .i64 0, .int .i64 0, .int .i64 0, .int .i64 0, .string (⟨#[]⟩ : ByteArray)] 52 (0, 0))) ∧ Aside0 (Below w.heap.size w wc))
       case first =>
        have H := HC34.out
        clear HC34
        by_cases c35 : (t585.length : Int) = 2
        ·rw [if_pos c35] at H
         have c35b0 : ((t585.length : Int) == 2) = true := beq_iff_eq.mpr c35
         have c35b1 : ((t585.length : Int) != 2) = false := bne_eq_false_iff_eq.mpr c35
         clear c35
         (first | rw [c35b0] | (simp only [i64_w, i32_w]; rw [c35b0]) | skip)
         by_cases c36 : 0 < (t585.length : Int)
         ·rw [if_pos c36] at H
          have c36b0 : decide (0 < (t585.length : Int)) = true := decide_eq_true c36
          have c36b1 : decide (0 < t585.length) = true := decide_eq_true (by omega)
          clear c36
          have H' := mk0 H
          clear H
          obtain ⟨Ao37, co37, eo37⟩ := Kd.R_slice HO_3.out
          subst eo37
          have p597 : 0 ≤ (0 : Int) := (by omega)
          have q597 : 0 < (t585.length : Int) := of_decide_eq_true (by first | (with_reducible assumption) | assumption)
          obtain ⟨ad597, e597, hx597_0⟩ := Kd.at_string (Kd.R_reads' HO_3.out).2.2 0 p597 q597
          cases e597
          have qi597 : (0 < t585.length) = True := eq_true (by omega)
          (try rw [show ((0 : Int)).toNat = 0 from rfl] at hx597_0)
          (try rw [Addr.add_zero'] at hx597_0)
          replace p597 := eq_true p597
          replace q597 := eq_true q597
          go_wp2
          go_meet
          case rel => exact ⟨_, (((rdOf ByteArray.empty t585 0).toList == ([116, 111, 117, 99, 104] : List UInt8))), (by first | rfl | (simp; done) | (simp [*]; done) | exact congrArg (Value.int .i64) (by unfold wrap64; omega)), H', ⟨by have := HJ2.out; have := HJ24.out; first | omega | exact Nat.le_refl _⟩, ⟨bT BK584.out⟩, ⟨wT HB.out⟩⟩
         ·rw [if_neg c36] at H
          exact absurd H (by simp)
        ·rw [if_neg c35] at H
         have c35b0 : ((t585.length : Int) == 2) = false := beq_eq_false_iff_ne.mpr c35
         have c35b1 : ((t585.length : Int) != 2) = true := bne_iff_ne.mpr c35
         (first | rw [c35b0] | (simp only [i64_w, i32_w]; rw [c35b0]) | skip)
         have H' := mk0 H
         clear H
         obtain ⟨Ao38, co38, eo38⟩ := Kd.R_slice HO_3.out
         subst eo38
         go_wp2
         go_meet
         case rel => exact ⟨_, (false), (by first | rfl | (simp; done) | (simp [*]; done) | exact congrArg (Value.int .i64) (by unfold wrap64; omega)), H', ⟨by have := HJ2.out; have := HJ24.out; first | omega | exact Nat.le_refl _⟩, ⟨bT BK584.out⟩, ⟨wT HB.out⟩⟩
       case rest =>
        clear HC34
        try clear c6
        try clear c6b0
        try clear c6b1
        try clear c7
        try clear c7b0
        try clear c7b1
        try clear c10
        try clear c11
        try clear c11b0
        try clear c11b1
        try clear c13
        try clear c13b0
        try clear c13b1
        try clear c15
        try clear c15b0
        try clear c15b1
        try clear c26
        try clear c26b0
        try clear c26b1
        try clear c27
        try clear c27b0
        try clear c27b1
        try clear c30
        try clear c31
        try clear c31b0
        try clear c31b1
        try clear c35
        try clear c35b0
        try clear c35b1
        try clear c36
        try clear c36b0
        try clear c36b1
        try clear X33_0
        try clear X33_1
        try clear X33_2
        try clear X33_3
        try clear X33_4
        try clear X33_5
        try clear Y33_0
        try clear Y33_1
        try clear Y33_2
        try clear Y33_3
        try clear Y33_4
        try clear Y33_5
        try clear hx588_0
        try clear hx589_0
        try clear hx591_0
        try clear hx593_0
        try clear hx595_0
        try clear hx596_0
        try clear hx597_0
        try clear p588
        try clear p589
        try clear p591
        try clear p593
        try clear p595
        try clear p596
        try clear p597
        try clear q588
        try clear q589
        try clear q591
        try clear q593
        try clear q595
        try clear q596
        try clear q597
        obtain ⟨kq, x46_33, rfl, HA, HJ33, BK584, HB⟩ := hcut
        cases kq with
        | zero => exact absurd HA.out (by simp [metrolabref30_guess.j2])
        | succ kj33 =>
         have H := HA.out
         clear HA
         simp only [metrolabref30_guess.j2] at H
         by_cases c39 : x46_33 = true
         ·subst c39
          have H1 : (metrolabref30_guess.l0 kj33 a0 0) = some (r1, r2, r3, r4, r5, r6) := by rw [if_pos rfl] at H; exact H
          clear H
          have H := H1
          clear H1
          have H' := mk0 H
          clear H
          go_wp2
          go_loopg [4] kj33 (fun kq v4 w' => ∃ (x4_4 : Int) (x585000_4 : Int) (x585001_4 : Int) (x585002_4 : Int) (x585003_4 : Int) (x585004_4 : Int) (x585005_4 : ByteArray), v4 = .int .i64 x4_4 ∧ Aside0 (metrolabref30_guess.l0 kq a0 x4_4 = some (r1, r2, r3, r4, r5, r6)) ∧ Aside0 (kq ≤ kj33) ∧ Aside0 (w'.heap[gb584]? = some (.cells #[.int .i64 x585000_4, .int .i64 x585001_4, .int .i64 x585002_4, .int .i64 x585003_4, .int .i64 x585004_4, .string x585005_4] 52 (0, 0))) ∧ Aside0 (Below w.heap.size w w'))
          case atStart => exact ⟨(0), (0), (0), (0), (0), (0), ((⟨#[]⟩ : ByteArray)), (by first | rfl | (simp; done) | (simp [*]; done) | exact congrArg (Value.int .i64) (by unfold wrap64; omega)), H', ⟨Nat.le_refl _⟩, ⟨bT BK584.out⟩, ⟨wT HB.out⟩⟩
          case round =>
           clear H'
           try clear c6
           try clear c6b0
           try clear c6b1
           try clear c7
           try clear c7b0
           try clear c7b1
           try clear c10
           try clear c11
           try clear c11b0
           try clear c11b1
           try clear c13
           try clear c13b0
           try clear c13b1
           try clear c15
           try clear c15b0
           try clear c15b1
           try clear c26
           try clear c26b0
           try clear c26b1
           try clear c27
           try clear c27b0
           try clear c27b1
           try clear c30
           try clear c31
           try clear c31b0
           try clear c31b1
           try clear c35
           try clear c35b0
           try clear c35b1
           try clear c36
           try clear c36b0
           try clear c36b1
           try clear c39
           try clear X33_0
           try clear X33_1
           try clear X33_2
           try clear X33_3
           try clear X33_4
           try clear X33_5
           try clear Y33_0
           try clear Y33_1
           try clear Y33_2
           try clear Y33_3
           try clear Y33_4
           try clear Y33_5
           try clear hx588_0
           try clear hx589_0
           try clear hx591_0
           try clear hx593_0
           try clear hx595_0
           try clear hx596_0
           try clear hx597_0
           try clear p588
           try clear p589
           try clear p591
           try clear p593
           try clear p595
           try clear p596
           try clear p597
           try clear q588
           try clear q589
           try clear q591
           try clear q593
           try clear q595
           try clear q596
           try clear q597
           obtain ⟨x4_4, x585000_4, x585001_4, x585002_4, x585003_4, x585004_4, x585005_4, rfl, HA, HK4, BK584, HB⟩ := hrel
           cases gk with
           | zero => exact absurd HA.out (by simp [metrolabref30_guess.l0])
           | succ k4 =>
            have H := HA.out
            clear HA
            simp only [metrolabref30_guess.l0] at H
            by_cases c40 : x4_4 < 6
            ·rw [if_pos c40] at H
             have c40b0 : decide (x4_4 < 6) = true := decide_eq_true c40
             clear c40
             replace H := Option.bind_eq_some_iff.mp H
             obtain ⟨t599, A410, H⟩ := H
             (try dsimp only at H)
             have A41 := mk0 A410
             clear A410
             by_cases c42 : t599.toList = a0.toList
             ·rw [if_pos c42] at H
              have c42b0 : (t599.toList == a0.toList) = true := beq_iff_eq.mpr c42
              have c42b1 : (t599.toList != a0.toList) = false := bne_eq_false_iff_eq.mpr c42
              clear c42
              simp only [Option.some.injEq, Prod.mk.injEq] at H
              obtain ⟨rfl, rfl, rfl, rfl, rfl, rfl⟩ := H
              go_wp2_with (first | ((with_reducible refine gate_dst (N := 5) rfl ?_); refine box_event ?hg (N := 5) ?hd (cs := #[.int .i64 0, .int .i64 0, .int .i64 0, .int .i64 0, .int .i64 0, .string (⟨#[]⟩ : ByteArray)]) (t := 52) ?hr ?_; (case hd => rfl); (case hg => rfl); (case hr => first | (go_simp; done) | (go_simp; rfl)); intro gb598 hg w43 hbox hb; have n0_ := mk0 (bbT BK584.out hb); have n1_ := mk0 (below_step (wT HB.out) hb); have n2_ := mk0 (hbox); have n3_ := mk0 ((szT HB.out hg)); have n4_ := mk0 ((szT HB.out hg)); have n5_ := mk0 ((neL BK584.out hg)); have n6_ := mk0 ((neG BK584.out hg)); clear BK584; clear HB; have BK584 := n0_; have HB := n1_; have BK598 := n2_; have GW598 := n3_; have GE598 := n4_; have NB584_598 := n5_; have NB598_584 := n6_; clear n0_ n1_ n2_ n3_ n4_ n5_ n6_; clear hb hbox hg; have hnb44 := NB598_584.out; have hnc44 := NB584_598.out; have X45_0 := ct BK598.out 0; have X45_1 := ct BK598.out 1; have X45_2 := ct BK598.out 2; have X45_3 := ct BK598.out 3; have X45_4 := ct BK598.out 4; have X45_5 := ct BK598.out 5; have Y45_0 := blk_frozen BK598.out 0; have Y45_1 := blk_frozen BK598.out 1; have Y45_2 := blk_frozen BK598.out 2; have Y45_3 := blk_frozen BK598.out 3; have Y45_4 := blk_frozen BK598.out 4; have Y45_5 := blk_frozen BK598.out 5) | ((with_reducible refine gate_callee (f := 51) rfl ?_); refine goesL_ (some 63) rfl rfl Tryz.func51 (by kernel_rfl) rfl #[.agg #[.int .i64 1, .int .i64 0, .int .i64 0, .int .i64 0, .int .i64 x4_4, .string (⟨#[]⟩ : ByteArray)]] rfl mapT ?_; (with_reducible refine (metrolabref30_Written.calls k4 1 0 0 0 x4_4 (⟨#[]⟩ : ByteArray) t599 _ A41.out).mono ?_); rintro e w46 ⟨rfl, hb⟩; refine ⟨_, rfl, ?_⟩; have n0_ := mk0 (blk_below (g := gb584) (o := .cells #[.int .i64 x585000_4, .int .i64 x585001_4, .int .i64 x585002_4, .int .i64 x585003_4, .int .i64 x585004_4, .string x585005_4] 52 (0, 0)) (by (with_reducible repeat (first | refine blk_drewN ?_ _ | refine blk_drew ?_ | refine blk_alloc ?_ _)); refine blk_far ?_ NB584_598.out _; refine blk_far ?_ NB584_598.out _; refine blk_far ?_ NB584_598.out _; refine blk_far ?_ NB584_598.out _; refine blk_far ?_ NB584_598.out _; refine blk_far ?_ NB584_598.out _; (with_reducible repeat (first | refine blk_drewN ?_ _ | refine blk_drew ?_ | refine blk_alloc ?_ _)); exact BK584.out) hb); have n1_ := mk0 (blk_below (g := gb598) (o := .cells #[.int .i64 1, .int .i64 0, .int .i64 0, .int .i64 0, .int .i64 x4_4, .string (⟨#[]⟩ : ByteArray)] 52 (0, 0)) (by (with_reducible repeat (first | refine blk_drewN ?_ _ | refine blk_drew ?_ | refine blk_alloc ?_ _)); refine blk_put (cs := #[.int .i64 1, .int .i64 0, .int .i64 0, .int .i64 0, .int .i64 x4_4, .string (⟨#[]⟩ : ByteArray)]) ?_ 5 _ rfl; refine blk_put (cs := #[.int .i64 1, .int .i64 0, .int .i64 0, .int .i64 0, .int .i64 0, .string (⟨#[]⟩ : ByteArray)]) ?_ 4 _ rfl; refine blk_put (cs := #[.int .i64 1, .int .i64 0, .int .i64 0, .int .i64 0, .int .i64 0, .string (⟨#[]⟩ : ByteArray)]) ?_ 3 _ rfl; refine blk_put (cs := #[.int .i64 1, .int .i64 0, .int .i64 0, .int .i64 0, .int .i64 0, .string (⟨#[]⟩ : ByteArray)]) ?_ 2 _ rfl; refine blk_put (cs := #[.int .i64 1, .int .i64 0, .int .i64 0, .int .i64 0, .int .i64 0, .string (⟨#[]⟩ : ByteArray)]) ?_ 1 _ rfl; refine blk_put (cs := #[.int .i64 0, .int .i64 0, .int .i64 0, .int .i64 0, .int .i64 0, .string (⟨#[]⟩ : ByteArray)]) ?_ 0 _ rfl; (with_reducible repeat (first | refine blk_drewN ?_ _ | refine blk_drew ?_ | refine blk_alloc ?_ _)); exact BK598.out) hb); have n2_ := mk0 (below_step (by repeat (first | (with_reducible first | exact HB.out | apply below_alloc | apply pw_below_drewN | apply below_drew1 | refine below_set ?_ GE598.out) | exact HB.out)) hb); clear BK584; clear BK598; clear HB; have BK584 := n0_; have BK598 := n1_; have HB := n2_; clear n0_ n1_ n2_; (try clear hb); (try clear hb2); (try clear hk); (try clear hi); have X47_0 := ct BK598.out 0; have X47_1 := ct BK598.out 1; have X47_2 := ct BK598.out 2; have X47_3 := ct BK598.out 3; have X47_4 := ct BK598.out 4; have X47_5 := ct BK598.out 5; have Y47_0 := blk_frozen BK598.out 0; have Y47_1 := blk_frozen BK598.out 1; have Y47_2 := blk_frozen BK598.out 2; have Y47_3 := blk_frozen BK598.out 3; have Y47_4 := blk_frozen BK598.out 4; have Y47_5 := blk_frozen BK598.out 5; (try clear BK598 GW598 GE598); have X48_0 := ct BK584.out 0; have X48_1 := ct BK584.out 1; have X48_2 := ct BK584.out 2; have X48_3 := ct BK584.out 3; have X48_4 := ct BK584.out 4; have X48_5 := ct BK584.out 5; have Y48_0 := blk_frozen BK584.out 0; have Y48_1 := blk_frozen BK584.out 1; have Y48_2 := blk_frozen BK584.out 2; have Y48_3 := blk_frozen BK584.out 3; have Y48_4 := blk_frozen BK584.out 4; have Y48_5 := blk_frozen BK584.out 5))
              refine bodyPost_ret (results_cell_row rfl _ _ gb584 52 #[.int .i64 1, .int .i64 0, .int .i64 0, .int .i64 0, .int .i64 x4_4, .string (⟨#[]⟩ : ByteArray)] (0, 0) _ rfl (by (with_reducible repeat (first | refine blk_drewN ?_ _ | refine blk_drew ?_ | refine blk_alloc ?_ _)); refine blk_put (cs := #[.int .i64 1, .int .i64 0, .int .i64 0, .int .i64 0, .int .i64 x4_4, .string x585005_4]) ?_ 5 _ rfl; refine blk_put (cs := #[.int .i64 1, .int .i64 0, .int .i64 0, .int .i64 0, .int .i64 x585004_4, .string x585005_4]) ?_ 4 _ rfl; refine blk_put (cs := #[.int .i64 1, .int .i64 0, .int .i64 0, .int .i64 x585003_4, .int .i64 x585004_4, .string x585005_4]) ?_ 3 _ rfl; refine blk_put (cs := #[.int .i64 1, .int .i64 0, .int .i64 x585002_4, .int .i64 x585003_4, .int .i64 x585004_4, .string x585005_4]) ?_ 2 _ rfl; refine blk_put (cs := #[.int .i64 1, .int .i64 x585001_4, .int .i64 x585002_4, .int .i64 x585003_4, .int .i64 x585004_4, .string x585005_4]) ?_ 1 _ rfl; refine blk_put (cs := #[.int .i64 x585000_4, .int .i64 x585001_4, .int .i64 x585002_4, .int .i64 x585003_4, .int .i64 x585004_4, .string x585005_4]) ?_ 0 _ rfl; (with_reducible repeat (first | refine blk_drewN ?_ _ | refine blk_drew ?_ | refine blk_alloc ?_ _)); exact BK584.out) Tryz.underlying52 rfl (by kernel_rfl)) rfl ?_
              exact ⟨eqT, by repeat (first | (with_reducible first | exact HB.out | apply below_alloc | apply pw_below_drewN | apply below_drew1 | refine below_set ?_ GE584.out) | exact HB.out)⟩
             ·rw [if_neg c42] at H
              have c42b0 : (t599.toList == a0.toList) = false := beq_eq_false_iff_ne.mpr c42
              have c42b1 : (t599.toList != a0.toList) = true := bne_iff_ne.mpr c42
              have H' := mk0 H
              clear H
              go_wp2_with (first | ((with_reducible refine gate_dst (N := 5) rfl ?_); refine box_event ?hg (N := 5) ?hd (cs := #[.int .i64 0, .int .i64 0, .int .i64 0, .int .i64 0, .int .i64 0, .string (⟨#[]⟩ : ByteArray)]) (t := 52) ?hr ?_; (case hd => rfl); (case hg => rfl); (case hr => first | (go_simp; done) | (go_simp; rfl)); intro gb598 hg w49 hbox hb; have n0_ := mk0 (bbT BK584.out hb); have n1_ := mk0 (below_step (wT HB.out) hb); have n2_ := mk0 (hbox); have n3_ := mk0 ((szT HB.out hg)); have n4_ := mk0 ((szT HB.out hg)); have n5_ := mk0 ((neL BK584.out hg)); have n6_ := mk0 ((neG BK584.out hg)); clear BK584; clear HB; have BK584 := n0_; have HB := n1_; have BK598 := n2_; have GW598 := n3_; have GE598 := n4_; have NB584_598 := n5_; have NB598_584 := n6_; clear n0_ n1_ n2_ n3_ n4_ n5_ n6_; clear hb hbox hg; have hnb50 := NB598_584.out; have hnc50 := NB584_598.out; have X51_0 := ct BK598.out 0; have X51_1 := ct BK598.out 1; have X51_2 := ct BK598.out 2; have X51_3 := ct BK598.out 3; have X51_4 := ct BK598.out 4; have X51_5 := ct BK598.out 5; have Y51_0 := blk_frozen BK598.out 0; have Y51_1 := blk_frozen BK598.out 1; have Y51_2 := blk_frozen BK598.out 2; have Y51_3 := blk_frozen BK598.out 3; have Y51_4 := blk_frozen BK598.out 4; have Y51_5 := blk_frozen BK598.out 5) | ((with_reducible refine gate_callee (f := 51) rfl ?_); refine goesL_ (some 63) rfl rfl Tryz.func51 (by kernel_rfl) rfl #[.agg #[.int .i64 1, .int .i64 0, .int .i64 0, .int .i64 0, .int .i64 x4_4, .string (⟨#[]⟩ : ByteArray)]] rfl mapT ?_; (with_reducible refine (metrolabref30_Written.calls k4 1 0 0 0 x4_4 (⟨#[]⟩ : ByteArray) t599 _ A41.out).mono ?_); rintro e w52 ⟨rfl, hb⟩; refine ⟨_, rfl, ?_⟩; have n0_ := mk0 (blk_below (g := gb584) (o := .cells #[.int .i64 x585000_4, .int .i64 x585001_4, .int .i64 x585002_4, .int .i64 x585003_4, .int .i64 x585004_4, .string x585005_4] 52 (0, 0)) (by (with_reducible repeat (first | refine blk_drewN ?_ _ | refine blk_drew ?_ | refine blk_alloc ?_ _)); refine blk_far ?_ NB584_598.out _; refine blk_far ?_ NB584_598.out _; refine blk_far ?_ NB584_598.out _; refine blk_far ?_ NB584_598.out _; refine blk_far ?_ NB584_598.out _; refine blk_far ?_ NB584_598.out _; (with_reducible repeat (first | refine blk_drewN ?_ _ | refine blk_drew ?_ | refine blk_alloc ?_ _)); exact BK584.out) hb); have n1_ := mk0 (blk_below (g := gb598) (o := .cells #[.int .i64 1, .int .i64 0, .int .i64 0, .int .i64 0, .int .i64 x4_4, .string (⟨#[]⟩ : ByteArray)] 52 (0, 0)) (by (with_reducible repeat (first | refine blk_drewN ?_ _ | refine blk_drew ?_ | refine blk_alloc ?_ _)); refine blk_put (cs := #[.int .i64 1, .int .i64 0, .int .i64 0, .int .i64 0, .int .i64 x4_4, .string (⟨#[]⟩ : ByteArray)]) ?_ 5 _ rfl; refine blk_put (cs := #[.int .i64 1, .int .i64 0, .int .i64 0, .int .i64 0, .int .i64 0, .string (⟨#[]⟩ : ByteArray)]) ?_ 4 _ rfl; refine blk_put (cs := #[.int .i64 1, .int .i64 0, .int .i64 0, .int .i64 0, .int .i64 0, .string (⟨#[]⟩ : ByteArray)]) ?_ 3 _ rfl; refine blk_put (cs := #[.int .i64 1, .int .i64 0, .int .i64 0, .int .i64 0, .int .i64 0, .string (⟨#[]⟩ : ByteArray)]) ?_ 2 _ rfl; refine blk_put (cs := #[.int .i64 1, .int .i64 0, .int .i64 0, .int .i64 0, .int .i64 0, .string (⟨#[]⟩ : ByteArray)]) ?_ 1 _ rfl; refine blk_put (cs := #[.int .i64 0, .int .i64 0, .int .i64 0, .int .i64 0, .int .i64 0, .string (⟨#[]⟩ : ByteArray)]) ?_ 0 _ rfl; (with_reducible repeat (first | refine blk_drewN ?_ _ | refine blk_drew ?_ | refine blk_alloc ?_ _)); exact BK598.out) hb); have n2_ := mk0 (below_step (by repeat (first | (with_reducible first | exact HB.out | apply below_alloc | apply pw_below_drewN | apply below_drew1 | refine below_set ?_ GE598.out) | exact HB.out)) hb); clear BK584; clear BK598; clear HB; have BK584 := n0_; have BK598 := n1_; have HB := n2_; clear n0_ n1_ n2_; (try clear hb); (try clear hb2); (try clear hk); (try clear hi)))
              go_roundg k4
              case measure => have := HJ2.out; have := HJ24.out; have := HJ33.out; have := HK4.out; omega
              case rel => exact ⟨(wrap64 (x4_4 + 1)), (x585000_4), (x585001_4), (x585002_4), (x585003_4), (x585004_4), (x585005_4), (by first | rfl | (simp; done) | (simp [*]; done) | exact congrArg (Value.int .i64) (by unfold wrap64; omega)), H', ⟨by have := HJ2.out; have := HJ24.out; have := HJ33.out; have := HK4.out; omega⟩, ⟨bT BK584.out⟩, ⟨wT HB.out⟩⟩
            ·rw [if_neg c40] at H
             have c40b0 : decide (x4_4 < 6) = false := decide_eq_false c40
             clear c40
             simp only [Option.some.injEq, Prod.mk.injEq] at H
             obtain ⟨rfl, rfl, rfl, rfl, rfl, rfl⟩ := H
             have X53_0 := ct BK584.out 0
             have X53_1 := ct BK584.out 1
             have X53_2 := ct BK584.out 2
             have X53_3 := ct BK584.out 3
             have X53_4 := ct BK584.out 4
             have X53_5 := ct BK584.out 5
             have Y53_0 := blk_frozen BK584.out 0
             have Y53_1 := blk_frozen BK584.out 1
             have Y53_2 := blk_frozen BK584.out 2
             have Y53_3 := blk_frozen BK584.out 3
             have Y53_4 := blk_frozen BK584.out 4
             have Y53_5 := blk_frozen BK584.out 5
             go_wp2
             refine bodyPost_ret (results_cell_row rfl _ _ gb584 52 #[.int .i64 (-1), .int .i64 0, .int .i64 0, .int .i64 0, .int .i64 0, .string (⟨#[]⟩ : ByteArray)] (0, 0) _ rfl (by (with_reducible repeat (first | refine blk_drewN ?_ _ | refine blk_drew ?_ | refine blk_alloc ?_ _)); refine blk_put (cs := #[.int .i64 (-1), .int .i64 0, .int .i64 0, .int .i64 0, .int .i64 0, .string x585005_4]) ?_ 5 _ rfl; refine blk_put (cs := #[.int .i64 (-1), .int .i64 0, .int .i64 0, .int .i64 0, .int .i64 x585004_4, .string x585005_4]) ?_ 4 _ rfl; refine blk_put (cs := #[.int .i64 (-1), .int .i64 0, .int .i64 0, .int .i64 x585003_4, .int .i64 x585004_4, .string x585005_4]) ?_ 3 _ rfl; refine blk_put (cs := #[.int .i64 (-1), .int .i64 0, .int .i64 x585002_4, .int .i64 x585003_4, .int .i64 x585004_4, .string x585005_4]) ?_ 2 _ rfl; refine blk_put (cs := #[.int .i64 (-1), .int .i64 x585001_4, .int .i64 x585002_4, .int .i64 x585003_4, .int .i64 x585004_4, .string x585005_4]) ?_ 1 _ rfl; refine blk_put (cs := #[.int .i64 x585000_4, .int .i64 x585001_4, .int .i64 x585002_4, .int .i64 x585003_4, .int .i64 x585004_4, .string x585005_4]) ?_ 0 _ rfl; (with_reducible repeat (first | refine blk_drewN ?_ _ | refine blk_drew ?_ | refine blk_alloc ?_ _)); exact BK584.out) Tryz.underlying52 rfl (by kernel_rfl)) rfl ?_
             exact ⟨eqT, by repeat (first | (with_reducible first | exact HB.out | apply below_alloc | apply pw_below_drewN | apply below_drew1 | refine below_set ?_ GE584.out) | exact HB.out)⟩
         ·replace c39 := Bool.eq_false_iff.mpr c39
          subst c39
          have H1 : (some ((-1), 0, 0, 0, 0, (⟨#[]⟩ : ByteArray))) = some (r1, r2, r3, r4, r5, r6) := by rw [if_neg (show ¬ (false = true) by decide)] at H; exact H
          clear H
          have H := H1
          clear H1
          simp only [Option.some.injEq, Prod.mk.injEq] at H
          obtain ⟨rfl, rfl, rfl, rfl, rfl, rfl⟩ := H
          have X54_0 := ct BK584.out 0
          have X54_1 := ct BK584.out 1
          have X54_2 := ct BK584.out 2
          have X54_3 := ct BK584.out 3
          have X54_4 := ct BK584.out 4
          have X54_5 := ct BK584.out 5
          have Y54_0 := blk_frozen BK584.out 0
          have Y54_1 := blk_frozen BK584.out 1
          have Y54_2 := blk_frozen BK584.out 2
          have Y54_3 := blk_frozen BK584.out 3
          have Y54_4 := blk_frozen BK584.out 4
          have Y54_5 := blk_frozen BK584.out 5
          go_wp2
          refine bodyPost_ret (results_cell_row rfl _ _ gb584 52 #[.int .i64 (-1), .int .i64 0, .int .i64 0, .int .i64 0, .int .i64 0, .string (⟨#[]⟩ : ByteArray)] (0, 0) _ rfl (by (with_reducible repeat (first | refine blk_drewN ?_ _ | refine blk_drew ?_ | refine blk_alloc ?_ _)); refine blk_put (cs := #[.int .i64 (-1), .int .i64 0, .int .i64 0, .int .i64 0, .int .i64 0, .string (⟨#[]⟩ : ByteArray)]) ?_ 5 _ rfl; refine blk_put (cs := #[.int .i64 (-1), .int .i64 0, .int .i64 0, .int .i64 0, .int .i64 0, .string (⟨#[]⟩ : ByteArray)]) ?_ 4 _ rfl; refine blk_put (cs := #[.int .i64 (-1), .int .i64 0, .int .i64 0, .int .i64 0, .int .i64 0, .string (⟨#[]⟩ : ByteArray)]) ?_ 3 _ rfl; refine blk_put (cs := #[.int .i64 (-1), .int .i64 0, .int .i64 0, .int .i64 0, .int .i64 0, .string (⟨#[]⟩ : ByteArray)]) ?_ 2 _ rfl; refine blk_put (cs := #[.int .i64 (-1), .int .i64 0, .int .i64 0, .int .i64 0, .int .i64 0, .string (⟨#[]⟩ : ByteArray)]) ?_ 1 _ rfl; refine blk_put (cs := #[.int .i64 0, .int .i64 0, .int .i64 0, .int .i64 0, .int .i64 0, .string (⟨#[]⟩ : ByteArray)]) ?_ 0 _ rfl; (with_reducible repeat (first | refine blk_drewN ?_ _ | refine blk_drew ?_ | refine blk_alloc ?_ _)); exact BK584.out) Tryz.underlying52 rfl (by kernel_rfl)) rfl ?_
          exact ⟨eqT, by repeat (first | (with_reducible first | exact HB.out | apply below_alloc | apply pw_below_drewN | apply below_drew1 | refine below_set ?_ GE584.out) | exact HB.out)⟩
end Go.Proofs.YtolbjmaabghghaaGreatDoor.PA
