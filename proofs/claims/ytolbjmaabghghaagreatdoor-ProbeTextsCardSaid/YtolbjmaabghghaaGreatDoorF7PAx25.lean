/- A part of the proof. -/
import Derived.Test.YtolbjmaabghghaaGreatDoorF7PAx0
import Derived.Test.YtolbjmaabghghaaGreatDoorF7PAx24
namespace Go.Proofs.YtolbjmaabghghaaGreatDoor.PA
open Go.RowKit Go.PW Go.PL Go.PM
attribute [local go_sem] max2_int min2_int max_two min_two max_three min_three max_four min_four   -- for this text's walks alone
set_option linter.unusedVariables false
set_option maxHeartbeats 8000000
set_option maxRecDepth 100000
set_option linter.unusedSimpArgs false
mutual
def metrolabref01_Of.j0 : Nat → Int → Bool → Option (ByteArray)
 | 0, _, _ => none
 | k + 1, x0, x11 => if x11 = true then (some (⟨#[45, 57, 50, 50, 51, 51, 55, 50, 48, 51, 54, 56, 53, 52, 55, 55, 53, 56, 48, 56]⟩ : ByteArray)) else (if x0 < 0 then ((metrolabref01_Of.f k (wrap64 (-x0))).bind fun t556 => ((metrolabref01_Turned.f t556).bind fun t557 => (some t557))) else (metrolabref01_Of.l0 k x0 (⟨#[]⟩ : ByteArray)))
def metrolabref01_Of.l0 : Nat → Int → ByteArray → Option (ByteArray)
 | 0, _, _ => none
 | k + 1, x0, x3 => if x0 > 9 then ((some (([(wrap64 (48 + (Int.tmod x0 10))) % 256] : List Int) : List Int)).bind fun y558 => (if (strOfNums y558).size + x3.size ≤ 9223372036854775807 then (metrolabref01_Of.l0 k (wrap64 (Int.tdiv x0 10)) ((strOfNums y558) ++ x3)) else (none))) else ((some (([(wrap64 (48 + x0)) % 256] : List Int) : List Int)).bind fun y561 => (if (strOfNums y561).size + x3.size ≤ 9223372036854775807 then (some ((strOfNums y561) ++ x3)) else (none)))
def metrolabref01_Of.f : Nat → Int → Option (ByteArray)
 | 0, _ => none
 | k + 1, a0 => if a0 = (wrap64 (-a0)) then (metrolabref01_Of.j0 k a0 (a0 != 0)) else (metrolabref01_Of.j0 k a0 false)
end
theorem metrolabref01_Of.calls (k : Nat) : ∀ (a0 : Int) (r : ByteArray) (w : World) (h : metrolabref01_Of.f k a0 = some r),
  Calls Tryz.prog 92 #[.int .i64 a0] w fun e w' => e = .returned (.string r) ∧ Below w.heap.size w w' := by
 induction k using Nat.strongRecOn with
 | _ k ih =>
 intro a0 r w h
 cases k with
 | zero => exact absurd h (by simp [metrolabref01_Of.f])
 | succ k =>
 simp only [metrolabref01_Of.f] at h
 have HB := mk0 (Below.refl w.heap.size w)
 have H : (if a0 = (wrap64 (-a0)) then (metrolabref01_Of.j0 k a0 (a0 != 0)) else (metrolabref01_Of.j0 k a0 false)) = some r := h
 clear h
 have HC2 := mk0 H
 clear H
 go_enter Tryz.func92, Tryz.ntmps92
 go_upto_region 1 with (fail)
 go_cut [11] (fun v11 wc => ∃ (kq : Nat) (x11_1 : Bool), v11 = .bool x11_1 ∧ Aside0 (metrolabref01_Of.j0 kq a0 x11_1 = some r) ∧ Aside0 (kq ≤ k) ∧ Aside0 (Below w.heap.size w wc))
 case first =>
  have H := HC2.out
  clear HC2
  by_cases c3 : a0 = (wrap64 (-a0))
  ·rw [if_pos c3] at H
   have c3b0 : (a0 == (wrap64 (-a0))) = true := beq_iff_eq.mpr c3
   have c3b1 : (a0 != (wrap64 (-a0))) = false := bne_eq_false_iff_eq.mpr c3
   clear c3
   (first | rw [c3b0] | (simp only [i64_w, i32_w]; rw [c3b0]) | skip)
   have H' := mk0 H
   clear H
   go_wp2
   go_meet
   case rel => exact ⟨_, ((a0 != 0)), (by first | rfl | (simp; done) | (simp [*]; done) | exact congrArg (Value.int .i64) (by unfold wrap64; omega)), H', ⟨by first | omega | exact Nat.le_refl _⟩, ⟨wT HB.out⟩⟩
  ·rw [if_neg c3] at H
   have c3b0 : (a0 == (wrap64 (-a0))) = false := beq_eq_false_iff_ne.mpr c3
   have c3b1 : (a0 != (wrap64 (-a0))) = true := bne_iff_ne.mpr c3
   (first | rw [c3b0] | (simp only [i64_w, i32_w]; rw [c3b0]) | skip)
   have H' := mk0 H
   clear H
   go_wp2
   go_meet
   case rel => exact ⟨_, (false), (by first | rfl | (simp; done) | (simp [*]; done) | exact congrArg (Value.int .i64) (by unfold wrap64; omega)), H', ⟨by first | omega | exact Nat.le_refl _⟩, ⟨wT HB.out⟩⟩
 case rest =>
  clear HC2
  try clear c3
  try clear c3b0
  try clear c3b1
  obtain ⟨kq, x11_1, rfl, HA, HJ1, HB⟩ := hcut
  cases kq with
  | zero => exact absurd HA.out (by simp [metrolabref01_Of.j0])
  | succ kj1 =>
   have H := HA.out
   clear HA
   simp only [metrolabref01_Of.j0] at H
   by_cases c4 : x11_1 = true
   ·subst c4
    have H1 : (some (⟨#[45, 57, 50, 50, 51, 51, 55, 50, 48, 51, 54, 56, 53, 52, 55, 55, 53, 56, 48, 56]⟩ : ByteArray)) = some r := by rw [if_pos rfl] at H; exact H
    clear H
    have H := H1
    clear H1
    obtain rfl := Option.some.inj H
    go_wp2
    go_ret
    exact ⟨eqT, wT HB.out⟩
   ·replace c4 := Bool.eq_false_iff.mpr c4
    subst c4
    have H1 : (if a0 < 0 then ((metrolabref01_Of.f kj1 (wrap64 (-a0))).bind fun t556 => ((metrolabref01_Turned.f t556).bind fun t557 => (some t557))) else (metrolabref01_Of.l0 kj1 a0 (⟨#[]⟩ : ByteArray))) = some r := by rw [if_neg (show ¬ (false = true) by decide)] at H; exact H
    clear H
    have H := H1
    clear H1
    by_cases c5 : a0 < 0
    ·rw [if_pos c5] at H
     have c5b0 : decide (a0 < 0) = true := decide_eq_true c5
     clear c5
     replace H := Option.bind_eq_some_iff.mp H
     obtain ⟨t556, A60, H⟩ := H
     (try dsimp only at H)
     have A6 := mk0 A60
     clear A60
     replace H := Option.bind_eq_some_iff.mp H
     obtain ⟨t557, A70, H⟩ := H
     (try dsimp only at H)
     have A7 := mk0 A70
     clear A70
     obtain rfl := Option.some.inj H
     go_wp2_with (first | ((with_reducible refine gate_callee (f := 92) rfl ?_); refine goesL_ (some 16) rfl rfl Tryz.func92 (by kernel_rfl) rfl #[.int .i64 (wrap64 (-a0))] rfl mapT ?_; (with_reducible refine (ih kj1 (by have := HJ1.out; omega) (wrap64 (-a0)) t556 _ A6.out).mono ?_); rintro e w8 ⟨rfl, hb⟩; refine ⟨_, rfl, ?_⟩; have n0_ := mk0 (below_step (wT HB.out) hb); clear HB; have HB := n0_; clear n0_; (try clear hb); (try clear hb2); (try clear hk); (try clear hi)) | ((with_reducible refine gate_callee (f := 113) rfl ?_); refine goesL_ (some 17) rfl rfl Tryz.func113 (by kernel_rfl) rfl #[.string t556] rfl mapT ?_; (with_reducible refine (metrolabref01_Turned.calls t556 t557 _ A7.out).mono ?_); rintro e w' ⟨rfl, ⟨nd, rfl⟩⟩; refine ⟨_, rfl, ?_⟩))
     go_ret
     exact ⟨eqT, wT HB.out⟩
    ·rw [if_neg c5] at H
     have c5b0 : decide (a0 < 0) = false := decide_eq_false c5
     clear c5
     have H' := mk0 H
     clear H
     go_wp2
     go_loopg [0, 3] kj1 (fun kq v0 v3 w' => ∃ (x0_2 : Int) (x3_2 : ByteArray), v0 = .int .i64 x0_2 ∧ v3 = .string x3_2 ∧ Aside0 (metrolabref01_Of.l0 kq x0_2 x3_2 = some r) ∧ Aside0 (kq ≤ kj1) ∧ Aside0 (Below w.heap.size w w'))
     case atStart => exact ⟨(a0), ((⟨#[]⟩ : ByteArray)), (by first | rfl | (simp; done) | (simp [*]; done) | exact congrArg (Value.int .i64) (by unfold wrap64; omega)), (by first | rfl | (simp; done) | (simp [*]; done) | exact congrArg (Value.int .i64) (by unfold wrap64; omega)), H', ⟨Nat.le_refl _⟩, ⟨wT HB.out⟩⟩
     case round =>
      clear H'
      try clear c3
      try clear c3b0
      try clear c3b1
      try clear c4
      try clear c5
      try clear c5b0
      obtain ⟨x0_2, x3_2, rfl, rfl, HA, HK2, HB⟩ := hrel
      cases gk with
      | zero => exact absurd HA.out (by simp [metrolabref01_Of.l0])
      | succ k2 =>
       have H := HA.out
       clear HA
       simp only [metrolabref01_Of.l0] at H
       by_cases c9 : x0_2 > 9
       ·rw [if_pos c9] at H
        have c9b0 : decide (9 < x0_2) = true := decide_eq_true c9
        clear c9
        obtain ⟨y558, hy558⟩ : ∃ y_ : List Int, y_ = (([(wrap64 (48 + (Int.tmod x0_2 10))) % 256] : List Int)) := ⟨_, rfl⟩
        replace H : (if (strOfNums y558).size + x3_2.size ≤ 9223372036854775807 then (metrolabref01_Of.l0 k2 (wrap64 (Int.tdiv x0_2 10)) ((strOfNums y558) ++ x3_2)) else (none)) = some r := by first | (rw [hy558]; with_reducible exact H) | (have H2_ := (Option.bind_some _ _).symm.trans H; rw [hy558]; with_reducible exact H2_) | (have H2_ := (Option.bind_some _ _).symm.trans H; with_reducible exact H2_) | with_reducible exact H | (rw [hy558]; exact H) | exact H
        have Ny558 := mk0 hy558
        clear hy558
        by_cases c10 : (strOfNums y558).size + x3_2.size ≤ 9223372036854775807
        ·rw [if_pos c10] at H
         have c10b0 := eq_true c10
         have c10b1 : decide ((strOfNums y558).size + x3_2.size ≤ 9223372036854775807) = true := decide_eq_true c10
         try have c10b2 : (9223372036854775807 < (strOfNums y558).size + x3_2.size) = False := eq_false (Nat.not_lt.2 c10)
         have H' := mk0 H
         clear H
         go_wp2_with (first | ((with_reducible refine gate_dst (N := 24) rfl ?_); refine Kd.R_lit (Kd.int .u8) _ 5 ?hg (N := 24) ?hd (xs := ([(wrap64 (48 + (Int.tmod x0_2 10))) % 256] : List Int)) (inner := [.int .u8 ((wrap64 (48 + (Int.tmod x0_2 10))) % 256)]) (ok := fun _ => True) (okp := fun _ => True) ?hr ?hp (fun _ hk => hk) trivial (Below.refl _ _) (Nat.le_refl _) (by simp) ?_; (case hd => rfl); (case hg => rfl); (case hr => first | (go_simp; done) | (go_simp; rfl)); (case hp => exact (Reps.one (show Kd.M (Kd.int .u8) _ _ _ ((wrap64 (48 + (Int.tmod x0_2 10))) % 256) [.int .u8 ((wrap64 (48 + (Int.tmod x0_2 10))) % 256)] from rfl) (Reps.none _ _))); intro v559 w11 ho12 hb hg_ hnew_; clear hg_ hnew_; (first | rw [← Ny558.out] at ho12 | (simp only [Int.reduceToNat] at ho12; rw [← Ny558.out] at ho12)); have n0_ := mk0 (Kd.R_lower ho12 (below_size (wT HB.out))); have n1_ := mk0 (below_step (wT HB.out) hb); clear HB; have HO560 := n0_; have HB := n1_; clear n0_ n1_; clear hb ho12; have hcv13 := own_string (P := Tryz.prog) Tryz.underlying144 Tryz.underlying5 Tryz.underlying9 (Kd.own_of_R HO560.out)))
         go_roundg k2
         case measure => have := HJ1.out; have := HK2.out; omega
         case rel => exact ⟨(wrap64 (Int.tdiv x0_2 10)), ((strOfNums y558) ++ x3_2), (by first | rfl | (simp; done) | (simp [*]; done) | exact congrArg (Value.int .i64) (by unfold wrap64; omega)), (by first | rfl | (simp; done) | (simp [*]; done) | exact congrArg (Value.int .i64) (by unfold wrap64; omega)), H', ⟨by have := HJ1.out; have := HK2.out; omega⟩, ⟨wT HB.out⟩⟩
        ·rw [if_neg c10] at H
         exact absurd H (by simp)
       ·rw [if_neg c9] at H
        have c9b0 : decide (9 < x0_2) = false := decide_eq_false c9
        clear c9
        obtain ⟨y561, hy561⟩ : ∃ y_ : List Int, y_ = (([(wrap64 (48 + x0_2)) % 256] : List Int)) := ⟨_, rfl⟩
        replace H : (if (strOfNums y561).size + x3_2.size ≤ 9223372036854775807 then (some ((strOfNums y561) ++ x3_2)) else (none)) = some r := by first | (rw [hy561]; with_reducible exact H) | (have H2_ := (Option.bind_some _ _).symm.trans H; rw [hy561]; with_reducible exact H2_) | (have H2_ := (Option.bind_some _ _).symm.trans H; with_reducible exact H2_) | with_reducible exact H | (rw [hy561]; exact H) | exact H
        have Ny561 := mk0 hy561
        clear hy561
        by_cases c14 : (strOfNums y561).size + x3_2.size ≤ 9223372036854775807
        ·rw [if_pos c14] at H
         have c14b0 := eq_true c14
         have c14b1 : decide ((strOfNums y561).size + x3_2.size ≤ 9223372036854775807) = true := decide_eq_true c14
         try have c14b2 : (9223372036854775807 < (strOfNums y561).size + x3_2.size) = False := eq_false (Nat.not_lt.2 c14)
         obtain rfl := Option.some.inj H
         go_wp2_with (first | ((with_reducible refine gate_dst (N := 33) rfl ?_); refine Kd.R_lit (Kd.int .u8) _ 5 ?hg (N := 33) ?hd (xs := ([(wrap64 (48 + x0_2)) % 256] : List Int)) (inner := [.int .u8 ((wrap64 (48 + x0_2)) % 256)]) (ok := fun _ => True) (okp := fun _ => True) ?hr ?hp (fun _ hk => hk) trivial (Below.refl _ _) (Nat.le_refl _) (by simp) ?_; (case hd => rfl); (case hg => rfl); (case hr => first | (go_simp; done) | (go_simp; rfl)); (case hp => exact (Reps.one (show Kd.M (Kd.int .u8) _ _ _ ((wrap64 (48 + x0_2)) % 256) [.int .u8 ((wrap64 (48 + x0_2)) % 256)] from rfl) (Reps.none _ _))); intro v562 w15 ho16 hb hg_ hnew_; clear hg_ hnew_; (first | rw [← Ny561.out] at ho16 | (simp only [Int.reduceToNat] at ho16; rw [← Ny561.out] at ho16)); have n0_ := mk0 (Kd.R_lower ho16 (below_size (wT HB.out))); have n1_ := mk0 (below_step (wT HB.out) hb); clear HB; have HO563 := n0_; have HB := n1_; clear n0_ n1_; clear hb ho16; have hcv17 := own_string (P := Tryz.prog) Tryz.underlying144 Tryz.underlying5 Tryz.underlying9 (Kd.own_of_R HO563.out)))
         go_ret
         exact ⟨eqT, wT HB.out⟩
        ·rw [if_neg c14] at H
         exact absurd H (by simp)
def metrolabref30_digits.f (k : Nat) (a0 : Int) : Option (ByteArray) := (metrolabref01_Of.f k a0).bind fun t564 => (some t564)
theorem metrolabref30_digits.calls (k : Nat) (a0 : Int) (r : ByteArray) (w : World) (h : metrolabref30_digits.f k a0 = some r) :
  Calls Tryz.prog 73 #[.int .i64 a0] w fun e w' => e = .returned (.string r) ∧ Below w.heap.size w w' := by
 have HB := mk0 (Below.refl w.heap.size w)
 have H : ((metrolabref01_Of.f k a0).bind fun t564 => (some t564)) = some r := h
 clear h
 replace H := Option.bind_eq_some_iff.mp H
 obtain ⟨t564, A20, H⟩ := H
 (try dsimp only at H)
 have A2 := mk0 A20
 clear A20
 obtain rfl := Option.some.inj H
 go_enter Tryz.func73, Tryz.ntmps73
 go_wp2_with (first | ((with_reducible refine gate_callee (f := 92) rfl ?_); refine goesL_ (some 4) rfl rfl Tryz.func92 (by kernel_rfl) rfl #[.int .i64 a0] rfl mapT ?_; (with_reducible refine (metrolabref01_Of.calls k a0 t564 _ A2.out).mono ?_); rintro e w3 ⟨rfl, hb⟩; refine ⟨_, rfl, ?_⟩; have n0_ := mk0 (below_step (wT HB.out) hb); clear HB; have HB := n0_; clear n0_; (try clear hb); (try clear hb2); (try clear hk); (try clear hi)))
 go_ret
 exact ⟨eqT, wT HB.out⟩
def metrolabref30_Written.f (k : Nat) (a0_0 : Int) (a0_1 : Int) (a0_2 : Int) (a0_3 : Int) (a0_4 : Int) (a0_5 : ByteArray) : Option (ByteArray) := if a0_0 = 0 then ((metrolabref30_digits.f k a0_1).bind fun t566 => (if 5 + t566.size ≤ 9223372036854775807 then (if ((⟨#[109, 111, 118, 101, 32]⟩ : ByteArray) ++ t566).size + 1 ≤ 9223372036854775807 then ((metrolabref30_digits.f k a0_2).bind fun t567 => (if (((⟨#[109, 111, 118, 101, 32]⟩ : ByteArray) ++ t566) ++ (⟨#[32]⟩ : ByteArray)).size + t567.size ≤ 9223372036854775807 then (if ((((⟨#[109, 111, 118, 101, 32]⟩ : ByteArray) ++ t566) ++ (⟨#[32]⟩ : ByteArray)) ++ t567).size + 1 ≤ 9223372036854775807 then ((metrolabref30_digits.f k a0_3).bind fun t568 => (if (((((⟨#[109, 111, 118, 101, 32]⟩ : ByteArray) ++ t566) ++ (⟨#[32]⟩ : ByteArray)) ++ t567) ++ (⟨#[32]⟩ : ByteArray)).size + t568.size ≤ 9223372036854775807 then (some ((((((⟨#[109, 111, 118, 101, 32]⟩ : ByteArray) ++ t566) ++ (⟨#[32]⟩ : ByteArray)) ++ t567) ++ (⟨#[32]⟩ : ByteArray)) ++ t568)) else (none))) else (none)) else (none))) else (none)) else (none))) else (if a0_0 = 1 then ((some (([(⟨#[43, 88]⟩ : ByteArray), (⟨#[45, 88]⟩ : ByteArray), (⟨#[43, 89]⟩ : ByteArray), (⟨#[45, 89]⟩ : ByteArray), (⟨#[43, 90]⟩ : ByteArray), (⟨#[45, 90]⟩ : ByteArray)] : List ByteArray) : List ByteArray)).bind fun y569 => (if 0 ≤ a0_4 then (if a0_4 < (y569.length : Int) then (if 6 + (rdOf ByteArray.empty y569 a0_4).size ≤ 9223372036854775807 then (some ((⟨#[116, 111, 117, 99, 104, 32]⟩ : ByteArray) ++ (rdOf ByteArray.empty y569 a0_4))) else (none)) else (none)) else (none))) else (if 5 + a0_5.size ≤ 9223372036854775807 then (some ((⟨#[116, 97, 107, 101, 32]⟩ : ByteArray) ++ a0_5)) else (none)))
def metrolabref30_Written.T3 : Bool × List (List Nat × List Nat) := (true, [([], []), ([0], [0]), ([1], [1]), ([2], [2]), ([3], [3]), ([4], [4]), ([], []), ([6], [6]), ([7], [7]), ([8, 3], [8]), ([5, 9], [5, 9]), ([10], [10]), ([], []), ([12], [12]), ([13], [13]), ([14, 9], [14]), ([11, 15], [11, 15]), ([16, 15, 0, 1, 2, 3, 4, 5, 6, 7, 8, 9, 10, 11, 12, 13, 14, 15, 16], [16])])
def metrolabref30_Written.B3 : List Nat := [0, 1, 3, 7, 15, 31, 0, 64, 192, 463, 1023, 2047, 0, 4096, 12288, 29647, 65535, 131071]
theorem metrolabref30_Written.tab3 : rtab .any (opsOf Tryz.f51 3) = metrolabref30_Written.T3 := by kernel_rfl
theorem metrolabref30_Written.bits3 : waitsOk metrolabref30_Written.T3.2 metrolabref30_Written.B3 = true := by kernel_rfl
theorem metrolabref30_Written.calls (k : Nat) (a0_0 : Int) (a0_1 : Int) (a0_2 : Int) (a0_3 : Int) (a0_4 : Int) (a0_5 : ByteArray) (r : ByteArray) (w : World) (h : metrolabref30_Written.f k a0_0 a0_1 a0_2 a0_3 a0_4 a0_5 = some r) :
  Calls Tryz.prog 51 #[.agg #[.int .i64 a0_0, .int .i64 a0_1, .int .i64 a0_2, .int .i64 a0_3, .int .i64 a0_4, .string a0_5]] w fun e w' => e = .returned (.string r) ∧ Below w.heap.size w w' := by
 have hu52 := Tryz.underlying52
 have HB := mk0 (Below.refl w.heap.size w)
 have H : (if a0_0 = 0 then ((metrolabref30_digits.f k a0_1).bind fun t566 => (if 5 + t566.size ≤ 9223372036854775807 then (if ((⟨#[109, 111, 118, 101, 32]⟩ : ByteArray) ++ t566).size + 1 ≤ 9223372036854775807 then ((metrolabref30_digits.f k a0_2).bind fun t567 => (if (((⟨#[109, 111, 118, 101, 32]⟩ : ByteArray) ++ t566) ++ (⟨#[32]⟩ : ByteArray)).size + t567.size ≤ 9223372036854775807 then (if ((((⟨#[109, 111, 118, 101, 32]⟩ : ByteArray) ++ t566) ++ (⟨#[32]⟩ : ByteArray)) ++ t567).size + 1 ≤ 9223372036854775807 then ((metrolabref30_digits.f k a0_3).bind fun t568 => (if (((((⟨#[109, 111, 118, 101, 32]⟩ : ByteArray) ++ t566) ++ (⟨#[32]⟩ : ByteArray)) ++ t567) ++ (⟨#[32]⟩ : ByteArray)).size + t568.size ≤ 9223372036854775807 then (some ((((((⟨#[109, 111, 118, 101, 32]⟩ : ByteArray) ++ t566) ++ (⟨#[32]⟩ : ByteArray)) ++ t567) ++ (⟨#[32]⟩ : ByteArray)) ++ t568)) else (none))) else (none)) else (none))) else (none)) else (none))) else (if a0_0 = 1 then ((some (([(⟨#[43, 88]⟩ : ByteArray), (⟨#[45, 88]⟩ : ByteArray), (⟨#[43, 89]⟩ : ByteArray), (⟨#[45, 89]⟩ : ByteArray), (⟨#[43, 90]⟩ : ByteArray), (⟨#[45, 90]⟩ : ByteArray)] : List ByteArray) : List ByteArray)).bind fun y569 => (if 0 ≤ a0_4 then (if a0_4 < (y569.length : Int) then (if 6 + (rdOf ByteArray.empty y569 a0_4).size ≤ 9223372036854775807 then (some ((⟨#[116, 111, 117, 99, 104, 32]⟩ : ByteArray) ++ (rdOf ByteArray.empty y569 a0_4))) else (none)) else (none)) else (none))) else (if 5 + a0_5.size ≤ 9223372036854775807 then (some ((⟨#[116, 97, 107, 101, 32]⟩ : ByteArray) ++ a0_5)) else (none)))) = some r := h
 clear h
 by_cases c2 : a0_0 = 0
 ·rw [if_pos c2] at H
  have c2b0 : (a0_0 == 0) = true := beq_iff_eq.mpr c2
  have c2b1 : (a0_0 != 0) = false := bne_eq_false_iff_eq.mpr c2
  clear c2
  replace H := Option.bind_eq_some_iff.mp H
  obtain ⟨t566, A30, H⟩ := H
  (try dsimp only at H)
  have A3 := mk0 A30
  clear A30
  by_cases c4 : 5 + t566.size ≤ 9223372036854775807
  ·rw [if_pos c4] at H
   have c4b0 := eq_true c4
   have c4b1 : decide (5 + t566.size ≤ 9223372036854775807) = true := decide_eq_true c4
   try have c4b2 : (9223372036854775807 < 5 + t566.size) = False := eq_false (Nat.not_lt.2 c4)
   by_cases c5 : ((⟨#[109, 111, 118, 101, 32]⟩ : ByteArray) ++ t566).size + 1 ≤ 9223372036854775807
   ·rw [if_pos c5] at H
    have c5b0 := eq_true c5
    have c5b1 : decide (((⟨#[109, 111, 118, 101, 32]⟩ : ByteArray) ++ t566).size + 1 ≤ 9223372036854775807) = true := decide_eq_true c5
    try have c5b2 : (9223372036854775807 < ((⟨#[109, 111, 118, 101, 32]⟩ : ByteArray) ++ t566).size + 1) = False := eq_false (Nat.not_lt.2 c5)
    try have c5z : (9223372036854775807 < 5 + t566.size + 1) = False := eq_false (by (have h_ := of_eq_false c5b2; (repeat rw [ByteArray.size_append] at h_); have z_ : (⟨#[109, 111, 118, 101, 32]⟩ : ByteArray).size = 5 := rfl; (try rw [z_] at h_); clear z_; omega))
    replace H := Option.bind_eq_some_iff.mp H
    obtain ⟨t567, A60, H⟩ := H
    (try dsimp only at H)
    have A6 := mk0 A60
    clear A60
    by_cases c7 : (((⟨#[109, 111, 118, 101, 32]⟩ : ByteArray) ++ t566) ++ (⟨#[32]⟩ : ByteArray)).size + t567.size ≤ 9223372036854775807
    ·rw [if_pos c7] at H
     have c7b0 := eq_true c7
     have c7b1 : decide ((((⟨#[109, 111, 118, 101, 32]⟩ : ByteArray) ++ t566) ++ (⟨#[32]⟩ : ByteArray)).size + t567.size ≤ 9223372036854775807) = true := decide_eq_true c7
     try have c7b2 : (9223372036854775807 < (((⟨#[109, 111, 118, 101, 32]⟩ : ByteArray) ++ t566) ++ (⟨#[32]⟩ : ByteArray)).size + t567.size) = False := eq_false (Nat.not_lt.2 c7)
     try have c7z : (9223372036854775807 < 5 + t566.size + 1 + t567.size) = False := eq_false (by (have h_ := of_eq_false c7b2; (repeat rw [ByteArray.size_append] at h_); have z_ : (⟨#[109, 111, 118, 101, 32]⟩ : ByteArray).size = 5 := rfl; (try rw [z_] at h_); clear z_; have z_ : (⟨#[32]⟩ : ByteArray).size = 1 := rfl; (try rw [z_] at h_); clear z_; omega))
     by_cases c8 : ((((⟨#[109, 111, 118, 101, 32]⟩ : ByteArray) ++ t566) ++ (⟨#[32]⟩ : ByteArray)) ++ t567).size + 1 ≤ 9223372036854775807
     ·rw [if_pos c8] at H
      have c8b0 := eq_true c8
      have c8b1 : decide (((((⟨#[109, 111, 118, 101, 32]⟩ : ByteArray) ++ t566) ++ (⟨#[32]⟩ : ByteArray)) ++ t567).size + 1 ≤ 9223372036854775807) = true := decide_eq_true c8
      try have c8b2 : (9223372036854775807 < ((((⟨#[109, 111, 118, 101, 32]⟩ : ByteArray) ++ t566) ++ (⟨#[32]⟩ : ByteArray)) ++ t567).size + 1) = False := eq_false (Nat.not_lt.2 c8)
      try have c8z : (9223372036854775807 < 5 + t566.size + 1 + t567.size + 1) = False := eq_false (by (have h_ := of_eq_false c8b2; (repeat rw [ByteArray.size_append] at h_); have z_ : (⟨#[109, 111, 118, 101, 32]⟩ : ByteArray).size = 5 := rfl; (try rw [z_] at h_); clear z_; have z_ : (⟨#[32]⟩ : ByteArray).size = 1 := rfl; (try rw [z_] at h_); clear z_; omega))
      replace H := Option.bind_eq_some_iff.mp H
      obtain ⟨t568, A90, H⟩ := H
      (try dsimp only at H)
      have A9 := mk0 A90
      clear A90
      by_cases c10 : (((((⟨#[109, 111, 118, 101, 32]⟩ : ByteArray) ++ t566) ++ (⟨#[32]⟩ : ByteArray)) ++ t567) ++ (⟨#[32]⟩ : ByteArray)).size + t568.size ≤ 9223372036854775807
      ·rw [if_pos c10] at H
       have c10b0 := eq_true c10
       have c10b1 : decide ((((((⟨#[109, 111, 118, 101, 32]⟩ : ByteArray) ++ t566) ++ (⟨#[32]⟩ : ByteArray)) ++ t567) ++ (⟨#[32]⟩ : ByteArray)).size + t568.size ≤ 9223372036854775807) = true := decide_eq_true c10
       try have c10b2 : (9223372036854775807 < (((((⟨#[109, 111, 118, 101, 32]⟩ : ByteArray) ++ t566) ++ (⟨#[32]⟩ : ByteArray)) ++ t567) ++ (⟨#[32]⟩ : ByteArray)).size + t568.size) = False := eq_false (Nat.not_lt.2 c10)
       try have c10z : (9223372036854775807 < 5 + t566.size + 1 + t567.size + 1 + t568.size) = False := eq_false (by (have h_ := of_eq_false c10b2; (repeat rw [ByteArray.size_append] at h_); have z_ : (⟨#[109, 111, 118, 101, 32]⟩ : ByteArray).size = 5 := rfl; (try rw [z_] at h_); clear z_; have z_ : (⟨#[32]⟩ : ByteArray).size = 1 := rfl; (try rw [z_] at h_); clear z_; omega))
       obtain rfl := Option.some.inj H
       go_enter Tryz.func51, Tryz.ntmps51
       try go_wp2_with (first | ((with_reducible refine gate_dst (N := 1) rfl ?_); refine box_event ?hg (N := 1) ?hd (cs := #[.int .i64 a0_0, .int .i64 a0_1, .int .i64 a0_2, .int .i64 a0_3, .int .i64 a0_4, .string a0_5]) (t := 52) ?hr ?_; (case hd => rfl); (case hg => rfl); (case hr => first | (go_simp; done) | (go_simp; rfl)); intro gb565 hg w11 hbox hb; have n0_ := mk0 (below_step (wT HB.out) hb); have n1_ := mk0 (hbox); have n2_ := mk0 ((szT HB.out hg)); have n3_ := mk0 ((szT HB.out hg)); clear HB; have HB := n0_; have BK565 := n1_; have GW565 := n2_; have GE565 := n3_; clear n0_ n1_ n2_ n3_; clear hb hbox hg; have X12_0 := ct BK565.out 0; have X12_1 := ct BK565.out 1; have X12_2 := ct BK565.out 2; have X12_3 := ct BK565.out 3; have X12_4 := ct BK565.out 4; have X12_5 := ct BK565.out 5; have Y12_0 := blk_frozen BK565.out 0; have Y12_1 := blk_frozen BK565.out 1; have Y12_2 := blk_frozen BK565.out 2; have Y12_3 := blk_frozen BK565.out 3; have Y12_4 := blk_frozen BK565.out 4; have Y12_5 := blk_frozen BK565.out 5))
       have n0_ := mk0 (blk_drew BK565.out)
       have n1_ := mk0 (below_drew1 HB.out)
       clear BK565
       clear HB
       have BK565 := n0_
       have HB := n1_
       clear n0_ n1_
       refine start_ (n := 18) (S := fun w' => w'.cell? ⟨gb565, 0, none⟩ = some (.int .i64 a0_0) ∧ w'.cell? ⟨gb565, 1, none⟩ = some (.int .i64 a0_1) ∧ w'.cell? ⟨gb565, 2, none⟩ = some (.int .i64 a0_2) ∧ w'.cell? ⟨gb565, 3, none⟩ = some (.int .i64 a0_3) ∧ w'.cell? ⟨gb565, 4, none⟩ = some (.int .i64 a0_4) ∧ w'.cell? ⟨gb565, 5, none⟩ = some (.string a0_5)) (ds := []) #[false, false, false, false, false, false, false, false, false, false, false, false, false, false, false, false, false, false] (by kernel_rfl) rfl rfl ⟨ct BK565.out 0, ct BK565.out 1, ct BK565.out 2, ct BK565.out 3, ct BK565.out 4, ct BK565.out 5⟩ (fun hHeld => ?_); refine with_tabW metrolabref30_Written.tab3 metrolabref30_Written.bits3 (fun HT_ HW_ => ?_)
       generalize w11.drew = w13 at BK565 HB hHeld ⊢
       refine pure_ (i := 0) (N := some 7) (v := ?_) (a' := ?_) #[true, false, false, false, false, false, false, false, false, false, false, false, false, false, false, false, false, false] rfl rfl (any_of HT_.out (by kernel_rfl)) (fun _ _ _ h => h) (Or.inl ⟨by rfl, ?_⟩) ?_ ?_
       rotate_left
       ·intro w'
        go_simp
        with_reducible rfl
       rotate_left
       ·exact nrm
       refine pure_ (i := 1) (N := some 8) (v := ?_) (a' := ?_) #[true, true, false, false, false, false, false, false, false, false, false, false, false, false, false, false, false, false] rfl rfl (any_of HT_.out (by kernel_rfl)) (fun _ _ _ h => h) (Or.inl ⟨by rfl, ?_⟩) ?_ ?_
       rotate_left
       ·intro w'
        go_simp
        with_reducible rfl
       rotate_left
       ·exact nrm
       refine pure_ (i := 6) (N := some 13) (v := ?_) (a' := ?_) #[true, true, false, false, false, false, true, false, false, false, false, false, false, false, false, false, false, false] rfl rfl (any_of HT_.out (by kernel_rfl)) (fun _ _ _ h => h) (Or.inl ⟨by rfl, ?_⟩) ?_ ?_
       rotate_left
       ·intro w'
        go_simp
        with_reducible rfl
       rotate_left
       ·exact nrm
       refine pure_ (i := 7) (N := some 14) (v := ?_) (a' := ?_) #[true, true, false, false, false, false, true, true, false, false, false, false, false, false, false, false, false, false] rfl rfl (any_of HT_.out (by kernel_rfl)) (fun _ _ _ h => h) (Or.inl ⟨by rfl, ?_⟩) ?_ ?_
       rotate_left
       ·intro w'
        go_simp
        with_reducible rfl
       rotate_left
       ·exact nrm
       refine pure_ (i := 12) (N := some 19) (v := ?_) (a' := ?_) #[true, true, false, false, false, false, true, true, false, false, false, false, true, false, false, false, false, false] rfl rfl (any_of HT_.out (by kernel_rfl)) (fun _ _ _ h => h) (Or.inl ⟨by rfl, ?_⟩) ?_ ?_
       rotate_left
       ·intro w'
        go_simp
        with_reducible rfl
       rotate_left
       ·exact nrm
       refine pure_ (i := 13) (N := some 20) (v := ?_) (a' := ?_) #[true, true, false, false, false, false, true, true, false, false, false, false, true, true, false, false, false, false] rfl rfl (any_of HT_.out (by kernel_rfl)) (fun _ _ _ h => h) (Or.inl ⟨by rfl, ?_⟩) ?_ ?_
       rotate_left
       ·intro w'
        go_simp
        with_reducible rfl
       rotate_left
       ·exact nrm
       refine take_ (i := 2) (N := some 9) (v := ?_) (a' := ?_) #[true, true, true, false, false, false, true, true, false, false, false, false, true, true, false, false, false, false] rfl rfl (take_ofW HT_.out HW_.out (by kernel_rfl)) (fun _ _ _ h => h) (Or.inl ⟨by rfl, ?_⟩) hHeld ?_ ?_
       rotate_left
       ·rintro w' ⟨s0, s1, s2, s3, s4, s5⟩
        go_simp
        with_reducible rfl
       rotate_left
       ·exact nrm
       refine take_ (i := 8) (N := some 15) (v := ?_) (a' := ?_) #[true, true, true, false, false, false, true, true, true, false, false, false, true, true, false, false, false, false] rfl rfl (take_ofW HT_.out HW_.out (by kernel_rfl)) (fun _ _ _ h => h) (Or.inl ⟨by rfl, ?_⟩) hHeld ?_ ?_
       rotate_left
       ·rintro w' ⟨s0, s1, s2, s3, s4, s5⟩
        go_simp
        with_reducible rfl
       rotate_left
       ·exact nrm
       refine take_ (i := 14) (N := some 21) (v := ?_) (a' := ?_) #[true, true, true, false, false, false, true, true, true, false, false, false, true, true, true, false, false, false] rfl rfl (take_ofW HT_.out HW_.out (by kernel_rfl)) (fun _ _ _ h => h) (Or.inl ⟨by rfl, ?_⟩) hHeld ?_ ?_
       rotate_left
       ·rintro w' ⟨s0, s1, s2, s3, s4, s5⟩
        go_simp
        with_reducible rfl
       rotate_left
       ·exact nrm
       refine one_ (i := 3) (N := some 10) #[true, true, true, true, false, false, true, true, true, false, false, false, true, true, true, false, false, false] rfl rfl (one_of HT_.out (by kernel_rfl)) (by decide) (fun K hK => ?_)
       refine goes_ Tryz.func73 (by kernel_rfl) rfl #[.int .i64 a0_1] (by rfl) rfl rfl mapT ?_
       with_reducible refine (metrolabref30_digits.calls k a0_1 t566 _ A3.out).mono ?_
       rintro e w14 ⟨rfl, hb⟩
       refine ⟨_, rfl, ?_⟩
       have n0_ := mk0 (bbT BK565.out hb)
       have n1_ := mk0 (below_step (wT HB.out) hb)
       clear BK565
       clear HB
       have BK565 := n0_
       have HB := n1_
       clear n0_ n1_
       (try clear hb)
       (try clear hb2)
       (try clear hk)
       (try clear hi)
       refine hK.out _ _ ⟨ct BK565.out 0, ct BK565.out 1, ct BK565.out 2, ct BK565.out 3, ct BK565.out 4, ct BK565.out 5⟩ (fun hHeld => ?_)
       clear hK K
       refine norm_ (a' := ?_) ?_ ?_
       rotate_left
       ·show Act.put _ (some 10) _ = _
        simp only [Act.put, List.setIfInBounds_toArray, List.set_cons_zero, List.set_cons_succ, i64_w, i32_w]
        rfl
       refine pure_ (i := 4) (N := some 11) (v := ?_) (a' := ?_) #[true, true, true, true, true, false, true, true, true, false, false, false, true, true, true, false, false, false] rfl rfl (any_of HT_.out (by kernel_rfl)) (fun _ _ _ h => h) (Or.inl ⟨by rfl, ?_⟩) ?_ ?_
       rotate_left
       ·intro w'
        go_simp
        with_reducible rfl
       rotate_left
       ·exact nrm
       refine pure_ (i := 5) (N := some 12) (v := ?_) (a' := ?_) #[true, true, true, true, true, true, true, true, true, false, false, false, true, true, true, false, false, false] rfl rfl (any_of HT_.out (by kernel_rfl)) (fun _ _ _ h => h) (Or.inl ⟨by rfl, ?_⟩) ?_ ?_
       rotate_left
       ·intro w'
        go_simp
        with_reducible rfl
       rotate_left
       ·exact nrm
       refine one_ (i := 9) (N := some 16) #[true, true, true, true, true, true, true, true, true, true, false, false, true, true, true, false, false, false] rfl rfl (one_of HT_.out (by kernel_rfl)) (by decide) (fun K hK => ?_)
       refine goes_ Tryz.func73 (by kernel_rfl) rfl #[.int .i64 a0_2] (by rfl) rfl rfl mapT ?_
       with_reducible refine (metrolabref30_digits.calls k a0_2 t567 _ A6.out).mono ?_
       rintro e w15 ⟨rfl, hb⟩
       refine ⟨_, rfl, ?_⟩
       have n0_ := mk0 (bbT BK565.out hb)
       have n1_ := mk0 (below_step (wT HB.out) hb)
       clear BK565
       clear HB
       have BK565 := n0_
       have HB := n1_
       clear n0_ n1_
       (try clear hb)
       (try clear hb2)
       (try clear hk)
       (try clear hi)
       refine hK.out _ _ ⟨ct BK565.out 0, ct BK565.out 1, ct BK565.out 2, ct BK565.out 3, ct BK565.out 4, ct BK565.out 5⟩ (fun hHeld => ?_)
       clear hK K
       refine norm_ (a' := ?_) ?_ ?_
       rotate_left
       ·show Act.put _ (some 16) _ = _
        simp only [Act.put, List.setIfInBounds_toArray, List.set_cons_zero, List.set_cons_succ, i64_w, i32_w]
        rfl
       refine pure_ (i := 10) (N := some 17) (v := ?_) (a' := ?_) #[true, true, true, true, true, true, true, true, true, true, true, false, true, true, true, false, false, false] rfl rfl (any_of HT_.out (by kernel_rfl)) (fun _ _ _ h => h) (Or.inl ⟨by rfl, ?_⟩) ?_ ?_
       rotate_left
       ·intro w'
        go_simp
        with_reducible rfl
       rotate_left
       ·exact nrm
       refine pure_ (i := 11) (N := some 18) (v := ?_) (a' := ?_) #[true, true, true, true, true, true, true, true, true, true, true, true, true, true, true, false, false, false] rfl rfl (any_of HT_.out (by kernel_rfl)) (fun _ _ _ h => h) (Or.inl ⟨by rfl, ?_⟩) ?_ ?_
       rotate_left
       ·intro w'
        go_simp
        with_reducible rfl
       rotate_left
       ·exact nrm
       refine one_ (i := 15) (N := some 22) #[true, true, true, true, true, true, true, true, true, true, true, true, true, true, true, true, false, false] rfl rfl (one_of HT_.out (by kernel_rfl)) (by decide) (fun K hK => ?_)
       refine goes_ Tryz.func73 (by kernel_rfl) rfl #[.int .i64 a0_3] (by rfl) rfl rfl mapT ?_
       with_reducible refine (metrolabref30_digits.calls k a0_3 t568 _ A9.out).mono ?_
       rintro e w16 ⟨rfl, hb⟩
       refine ⟨_, rfl, ?_⟩
       have n0_ := mk0 (bbT BK565.out hb)
       have n1_ := mk0 (below_step (wT HB.out) hb)
       clear BK565
       clear HB
       have BK565 := n0_
       have HB := n1_
       clear n0_ n1_
       (try clear hb)
       (try clear hb2)
       (try clear hk)
       (try clear hi)
       refine hK.out _ _ ⟨ct BK565.out 0, ct BK565.out 1, ct BK565.out 2, ct BK565.out 3, ct BK565.out 4, ct BK565.out 5⟩ (fun hHeld => ?_)
       clear hK K
       refine norm_ (a' := ?_) ?_ ?_
       rotate_left
       ·show Act.put _ (some 22) _ = _
        simp only [Act.put, List.setIfInBounds_toArray, List.set_cons_zero, List.set_cons_succ, i64_w, i32_w]
        rfl
       refine pure_ (i := 16) (N := some 23) (v := ?_) (a' := ?_) #[true, true, true, true, true, true, true, true, true, true, true, true, true, true, true, true, true, false] rfl rfl (any_of HT_.out (by kernel_rfl)) (fun _ _ _ h => h) (Or.inl ⟨by rfl, ?_⟩) ?_ ?_
       rotate_left
       ·intro w'
        go_simp
        with_reducible rfl
       rotate_left
       ·exact nrm
       refine pure_ (i := 17) (N := some 2) (v := ?_) (a' := ?_) #[true, true, true, true, true, true, true, true, true, true, true, true, true, true, true, true, true, true] rfl rfl (any_of HT_.out (by kernel_rfl)) (fun _ _ _ h => h) (Or.inl ⟨by rfl, ?_⟩) ?_ ?_
       rotate_left
       ·intro w'
        go_simp
        with_reducible rfl
       rotate_left
       ·exact nrm
       refine done_ (done_of HT_.out (by kernel_rfl)) ?_
       try go_wp2
       go_ret
       exact ⟨eqT, wT HB.out⟩
      ·rw [if_neg c10] at H
       exact absurd H (by simp)
     ·rw [if_neg c8] at H
      exact absurd H (by simp)
    ·rw [if_neg c7] at H
     exact absurd H (by simp)
   ·rw [if_neg c5] at H
    exact absurd H (by simp)
  ·rw [if_neg c4] at H
   exact absurd H (by simp)
 ·rw [if_neg c2] at H
  have c2b0 : (a0_0 == 0) = false := beq_eq_false_iff_ne.mpr c2
  have c2b1 : (a0_0 != 0) = true := bne_iff_ne.mpr c2
  by_cases c17 : a0_0 = 1
  ·rw [if_pos c17] at H
   have c17b0 : (a0_0 == 1) = true := beq_iff_eq.mpr c17
   have c17b1 : (a0_0 != 1) = false := bne_eq_false_iff_eq.mpr c17
   clear c17
   obtain ⟨y569, hy569⟩ : ∃ y_ : List ByteArray, y_ = (([(⟨#[43, 88]⟩ : ByteArray), (⟨#[45, 88]⟩ : ByteArray), (⟨#[43, 89]⟩ : ByteArray), (⟨#[45, 89]⟩ : ByteArray), (⟨#[43, 90]⟩ : ByteArray), (⟨#[45, 90]⟩ : ByteArray)] : List ByteArray)) := ⟨_, rfl⟩
   replace H : (if 0 ≤ a0_4 then (if a0_4 < (y569.length : Int) then (if 6 + (rdOf ByteArray.empty y569 a0_4).size ≤ 9223372036854775807 then (some ((⟨#[116, 111, 117, 99, 104, 32]⟩ : ByteArray) ++ (rdOf ByteArray.empty y569 a0_4))) else (none)) else (none)) else (none)) = some r := by first | (rw [hy569]; with_reducible exact H) | (have H2_ := (Option.bind_some _ _).symm.trans H; rw [hy569]; with_reducible exact H2_) | (have H2_ := (Option.bind_some _ _).symm.trans H; with_reducible exact H2_) | with_reducible exact H | (rw [hy569]; exact H) | exact H
   have Ny569 := mk0 hy569
   clear hy569
   by_cases c18 : 0 ≤ a0_4
   ·rw [if_pos c18] at H
    have c18b0 : decide (0 ≤ a0_4) = true := decide_eq_true c18
    clear c18
    by_cases c19 : a0_4 < (y569.length : Int)
    ·rw [if_pos c19] at H
     have c19b0 : decide (a0_4 < (y569.length : Int)) = true := decide_eq_true c19
     clear c19
     by_cases c20 : 6 + (rdOf ByteArray.empty y569 a0_4).size ≤ 9223372036854775807
     ·rw [if_pos c20] at H
      have c20b0 := eq_true c20
      have c20b1 : decide (6 + (rdOf ByteArray.empty y569 a0_4).size ≤ 9223372036854775807) = true := decide_eq_true c20
      try have c20b2 : (9223372036854775807 < 6 + (rdOf ByteArray.empty y569 a0_4).size) = False := eq_false (Nat.not_lt.2 c20)
      obtain rfl := Option.some.inj H
      go_enter Tryz.func51, Tryz.ntmps51
      go_wp2_with (first | ((with_reducible refine gate_dst (N := 1) rfl ?_); refine box_event ?hg (N := 1) ?hd (cs := #[.int .i64 a0_0, .int .i64 a0_1, .int .i64 a0_2, .int .i64 a0_3, .int .i64 a0_4, .string a0_5]) (t := 52) ?hr ?_; (case hd => rfl); (case hg => rfl); (case hr => first | (go_simp; done) | (go_simp; rfl)); intro gb565 hg w21 hbox hb; have n0_ := mk0 (below_step (wT HB.out) hb); have n1_ := mk0 (hbox); have n2_ := mk0 ((szT HB.out hg)); have n3_ := mk0 ((szT HB.out hg)); clear HB; have HB := n0_; have BK565 := n1_; have GW565 := n2_; have GE565 := n3_; clear n0_ n1_ n2_ n3_; clear hb hbox hg; have X22_0 := ct BK565.out 0; have X22_1 := ct BK565.out 1; have X22_2 := ct BK565.out 2; have X22_3 := ct BK565.out 3; have X22_4 := ct BK565.out 4; have X22_5 := ct BK565.out 5; have Y22_0 := blk_frozen BK565.out 0; have Y22_1 := blk_frozen BK565.out 1; have Y22_2 := blk_frozen BK565.out 2; have Y22_3 := blk_frozen BK565.out 3; have Y22_4 := blk_frozen BK565.out 4; have Y22_5 := blk_frozen BK565.out 5) | ((with_reducible refine gate_dst (N := 26) rfl ?_); refine Kd.R_lit Kd.string _ 9 ?hg (N := 26) ?hd (xs := ([(⟨#[43, 88]⟩ : ByteArray), (⟨#[45, 88]⟩ : ByteArray), (⟨#[43, 89]⟩ : ByteArray), (⟨#[45, 89]⟩ : ByteArray), (⟨#[43, 90]⟩ : ByteArray), (⟨#[45, 90]⟩ : ByteArray)] : List ByteArray)) (inner := [.string (⟨#[43, 88]⟩ : ByteArray), .string (⟨#[45, 88]⟩ : ByteArray), .string (⟨#[43, 89]⟩ : ByteArray), .string (⟨#[45, 89]⟩ : ByteArray), .string (⟨#[43, 90]⟩ : ByteArray), .string (⟨#[45, 90]⟩ : ByteArray)]) (ok := fun _ => True) (okp := fun _ => True) ?hr ?hp (fun _ hk => hk) trivial (Below.refl _ _) (Nat.le_refl _) (by simp) ?_; (case hd => rfl); (case hg => rfl); (case hr => first | (go_simp; done) | (go_simp; rfl)); (case hp => exact (Reps.one (show Kd.M Kd.string _ _ _ (⟨#[43, 88]⟩ : ByteArray) [.string (⟨#[43, 88]⟩ : ByteArray)] from rfl) (Reps.one (show Kd.M Kd.string _ _ _ (⟨#[45, 88]⟩ : ByteArray) [.string (⟨#[45, 88]⟩ : ByteArray)] from rfl) (Reps.one (show Kd.M Kd.string _ _ _ (⟨#[43, 89]⟩ : ByteArray) [.string (⟨#[43, 89]⟩ : ByteArray)] from rfl) (Reps.one (show Kd.M Kd.string _ _ _ (⟨#[45, 89]⟩ : ByteArray) [.string (⟨#[45, 89]⟩ : ByteArray)] from rfl) (Reps.one (show Kd.M Kd.string _ _ _ (⟨#[43, 90]⟩ : ByteArray) [.string (⟨#[43, 90]⟩ : ByteArray)] from rfl) (Reps.one (show Kd.M Kd.string _ _ _ (⟨#[45, 90]⟩ : ByteArray) [.string (⟨#[45, 90]⟩ : ByteArray)] from rfl) (Reps.none _ _)))))))); intro v570 w23 ho24 hb hg_ hnew_; clear hg_ hnew_; (first | rw [← Ny569.out] at ho24 | (simp only [Int.reduceToNat] at ho24; rw [← Ny569.out] at ho24)); have n0_ := mk0 (Kd.R_lower ho24 (below_size (wT HB.out))); have n1_ := mk0 (bbT BK565.out hb); have n2_ := mk0 (below_step (wT HB.out) hb); clear BK565; clear HB; have HO571 := n0_; have BK565 := n1_; have HB := n2_; clear n0_ n1_ n2_; clear hb ho24; have X25_0 := ct BK565.out 0; have X25_1 := ct BK565.out 1; have X25_2 := ct BK565.out 2; have X25_3 := ct BK565.out 3; have X25_4 := ct BK565.out 4; have X25_5 := ct BK565.out 5; have Y25_0 := blk_frozen BK565.out 0; have Y25_1 := blk_frozen BK565.out 1; have Y25_2 := blk_frozen BK565.out 2; have Y25_3 := blk_frozen BK565.out 3; have Y25_4 := blk_frozen BK565.out 4; have Y25_5 := blk_frozen BK565.out 5; (try clear BK565 GW565 GE565); obtain ⟨Ao26, co26, eo26⟩ := Kd.R_slice HO571.out; subst eo26; have p572 : 0 ≤ (a0_4 : Int) := of_decide_eq_true (by first | (with_reducible assumption) | assumption); have q572 : a0_4 < (y569.length : Int) := of_decide_eq_true (by first | (with_reducible assumption) | assumption); obtain ⟨ad572, e572, hx572_0⟩ := Kd.at_string (Kd.R_reads' HO571.out).2.2 a0_4 p572 q572; cases e572; replace p572 := eq_true p572; replace q572 := eq_true q572))
      go_ret
      exact ⟨eqT, wT HB.out⟩
     ·rw [if_neg c20] at H
      exact absurd H (by simp)
    ·rw [if_neg c19] at H
     exact absurd H (by simp)
   ·rw [if_neg c18] at H
    exact absurd H (by simp)
  ·rw [if_neg c17] at H
   have c17b0 : (a0_0 == 1) = false := beq_eq_false_iff_ne.mpr c17
   have c17b1 : (a0_0 != 1) = true := bne_iff_ne.mpr c17
   by_cases c27 : 5 + a0_5.size ≤ 9223372036854775807
   ·rw [if_pos c27] at H
    have c27b0 := eq_true c27
    have c27b1 : decide (5 + a0_5.size ≤ 9223372036854775807) = true := decide_eq_true c27
    try have c27b2 : (9223372036854775807 < 5 + a0_5.size) = False := eq_false (Nat.not_lt.2 c27)
    obtain rfl := Option.some.inj H
    go_enter Tryz.func51, Tryz.ntmps51
    go_wp2_with (first | ((with_reducible refine gate_dst (N := 1) rfl ?_); refine box_event ?hg (N := 1) ?hd (cs := #[.int .i64 a0_0, .int .i64 a0_1, .int .i64 a0_2, .int .i64 a0_3, .int .i64 a0_4, .string a0_5]) (t := 52) ?hr ?_; (case hd => rfl); (case hg => rfl); (case hr => first | (go_simp; done) | (go_simp; rfl)); intro gb565 hg w28 hbox hb; have n0_ := mk0 (below_step (wT HB.out) hb); have n1_ := mk0 (hbox); have n2_ := mk0 ((szT HB.out hg)); have n3_ := mk0 ((szT HB.out hg)); clear HB; have HB := n0_; have BK565 := n1_; have GW565 := n2_; have GE565 := n3_; clear n0_ n1_ n2_ n3_; clear hb hbox hg; have X29_0 := ct BK565.out 0; have X29_1 := ct BK565.out 1; have X29_2 := ct BK565.out 2; have X29_3 := ct BK565.out 3; have X29_4 := ct BK565.out 4; have X29_5 := ct BK565.out 5; have Y29_0 := blk_frozen BK565.out 0; have Y29_1 := blk_frozen BK565.out 1; have Y29_2 := blk_frozen BK565.out 2; have Y29_3 := blk_frozen BK565.out 3; have Y29_4 := blk_frozen BK565.out 4; have Y29_5 := blk_frozen BK565.out 5))
    go_ret
    exact ⟨eqT, wT HB.out⟩
   ·rw [if_neg c27] at H
    exact absurd H (by simp)
def metrolabref30_Text.f (k : Nat) (a0_0 : Int) (a0_1 : Int) (a0_2 : Int) (a0_3 : Int) (a0_4 : Int) (a0_5 : ByteArray) : Option (ByteArray × Int) := (metrolabref30_Right.f k a0_0 a0_1 a0_2 a0_3 a0_4 a0_5).bind fun t574 => (if t574 = 0 then ((metrolabref30_Written.f k a0_0 a0_1 a0_2 a0_3 a0_4 a0_5).bind fun t575 => (some (t575, 0))) else (some ((⟨#[]⟩ : ByteArray), t574)))
theorem metrolabref30_Text.calls (k : Nat) (a0_0 : Int) (a0_1 : Int) (a0_2 : Int) (a0_3 : Int) (a0_4 : Int) (a0_5 : ByteArray) (r1 : ByteArray) (r2 : Int) (w : World) (h : metrolabref30_Text.f k a0_0 a0_1 a0_2 a0_3 a0_4 a0_5 = some (r1, r2)) :
  Calls Tryz.prog 22 #[.agg #[.int .i64 a0_0, .int .i64 a0_1, .int .i64 a0_2, .int .i64 a0_3, .int .i64 a0_4, .string a0_5]] w fun e w' => e = .returned (.tuple #[.string r1, .int .i64 r2]) ∧ Below w.heap.size w w' := by
 have hu52 := Tryz.underlying52
 have HB := mk0 (Below.refl w.heap.size w)
 have H : ((metrolabref30_Right.f k a0_0 a0_1 a0_2 a0_3 a0_4 a0_5).bind fun t574 => (if t574 = 0 then ((metrolabref30_Written.f k a0_0 a0_1 a0_2 a0_3 a0_4 a0_5).bind fun t575 => (some (t575, 0))) else (some ((⟨#[]⟩ : ByteArray), t574)))) = some (r1, r2) := h
 clear h
 replace H := Option.bind_eq_some_iff.mp H
 obtain ⟨t574, A20, H⟩ := H
 (try dsimp only at H)
 have A2 := mk0 A20
 clear A20
 by_cases c3 : t574 = 0
 ·rw [if_pos c3] at H
  have c3b0 : (t574 == 0) = true := beq_iff_eq.mpr c3
  have c3b1 : (t574 != 0) = false := bne_eq_false_iff_eq.mpr c3
  clear c3
  replace H := Option.bind_eq_some_iff.mp H
  obtain ⟨t575, A40, H⟩ := H
  (try dsimp only at H)
  have A4 := mk0 A40
  clear A40
  simp only [Option.some.injEq, Prod.mk.injEq] at H
  obtain ⟨rfl, rfl⟩ := H
  go_enter Tryz.func22, Tryz.ntmps22
  go_wp2_with (first | ((with_reducible refine gate_dst (N := 1) rfl ?_); refine box_event ?hg (N := 1) ?hd (cs := #[.int .i64 a0_0, .int .i64 a0_1, .int .i64 a0_2, .int .i64 a0_3, .int .i64 a0_4, .string a0_5]) (t := 52) ?hr ?_; (case hd => rfl); (case hg => rfl); (case hr => first | (go_simp; done) | (go_simp; rfl)); intro gb573 hg w5 hbox hb; have n0_ := mk0 (below_step (wT HB.out) hb); have n1_ := mk0 (hbox); have n2_ := mk0 ((szT HB.out hg)); have n3_ := mk0 ((szT HB.out hg)); clear HB; have HB := n0_; have BK573 := n1_; have GW573 := n2_; have GE573 := n3_; clear n0_ n1_ n2_ n3_; clear hb hbox hg; have X6_0 := ct BK573.out 0; have X6_1 := ct BK573.out 1; have X6_2 := ct BK573.out 2; have X6_3 := ct BK573.out 3; have X6_4 := ct BK573.out 4; have X6_5 := ct BK573.out 5; have Y6_0 := blk_frozen BK573.out 0; have Y6_1 := blk_frozen BK573.out 1; have Y6_2 := blk_frozen BK573.out 2; have Y6_3 := blk_frozen BK573.out 3; have Y6_4 := blk_frozen BK573.out 4; have Y6_5 := blk_frozen BK573.out 5) | ((with_reducible refine gate_callee (f := 26) rfl ?_); refine goesL_ (some 6) rfl rfl Tryz.func26 (by kernel_rfl) rfl #[.agg #[.int .i64 a0_0, .int .i64 a0_1, .int .i64 a0_2, .int .i64 a0_3, .int .i64 a0_4, .string a0_5]] rfl mapT ?_; (with_reducible refine (metrolabref30_Right.calls k a0_0 a0_1 a0_2 a0_3 a0_4 a0_5 t574 _ A2.out).mono ?_); rintro e w7 ⟨rfl, hb⟩; refine ⟨_, rfl, ?_⟩; have n0_ := mk0 (bbT BK573.out hb); have n1_ := mk0 (below_step (wT HB.out) hb); clear BK573; clear HB; have BK573 := n0_; have HB := n1_; clear n0_ n1_; (try clear hb); (try clear hb2); (try clear hk); (try clear hi); have X8_0 := ct BK573.out 0; have X8_1 := ct BK573.out 1; have X8_2 := ct BK573.out 2; have X8_3 := ct BK573.out 3; have X8_4 := ct BK573.out 4; have X8_5 := ct BK573.out 5; have Y8_0 := blk_frozen BK573.out 0; have Y8_1 := blk_frozen BK573.out 1; have Y8_2 := blk_frozen BK573.out 2; have Y8_3 := blk_frozen BK573.out 3; have Y8_4 := blk_frozen BK573.out 4; have Y8_5 := blk_frozen BK573.out 5; (try clear BK573 GW573 GE573)) | ((with_reducible refine gate_callee (f := 51) rfl ?_); refine goesL_ (some 11) rfl rfl Tryz.func51 (by kernel_rfl) rfl #[.agg #[.int .i64 a0_0, .int .i64 a0_1, .int .i64 a0_2, .int .i64 a0_3, .int .i64 a0_4, .string a0_5]] rfl mapT ?_; (with_reducible refine (metrolabref30_Written.calls k a0_0 a0_1 a0_2 a0_3 a0_4 a0_5 t575 _ A4.out).mono ?_); rintro e w9 ⟨rfl, hb⟩; refine ⟨_, rfl, ?_⟩; have n0_ := mk0 (below_step (wT HB.out) hb); clear HB; have HB := n0_; clear n0_; (try clear hb); (try clear hb2); (try clear hk); (try clear hi)))
  go_ret2
  exact ⟨eqT, wT HB.out⟩
 ·rw [if_neg c3] at H
  have c3b0 : (t574 == 0) = false := beq_eq_false_iff_ne.mpr c3
  have c3b1 : (t574 != 0) = true := bne_iff_ne.mpr c3
  simp only [Option.some.injEq, Prod.mk.injEq] at H
  obtain ⟨rfl, rfl⟩ := H
  go_enter Tryz.func22, Tryz.ntmps22
  go_wp2_with (first | ((with_reducible refine gate_dst (N := 1) rfl ?_); refine box_event ?hg (N := 1) ?hd (cs := #[.int .i64 a0_0, .int .i64 a0_1, .int .i64 a0_2, .int .i64 a0_3, .int .i64 a0_4, .string a0_5]) (t := 52) ?hr ?_; (case hd => rfl); (case hg => rfl); (case hr => first | (go_simp; done) | (go_simp; rfl)); intro gb573 hg w10 hbox hb; have n0_ := mk0 (below_step (wT HB.out) hb); have n1_ := mk0 (hbox); have n2_ := mk0 ((szT HB.out hg)); have n3_ := mk0 ((szT HB.out hg)); clear HB; have HB := n0_; have BK573 := n1_; have GW573 := n2_; have GE573 := n3_; clear n0_ n1_ n2_ n3_; clear hb hbox hg; have X11_0 := ct BK573.out 0; have X11_1 := ct BK573.out 1; have X11_2 := ct BK573.out 2; have X11_3 := ct BK573.out 3; have X11_4 := ct BK573.out 4; have X11_5 := ct BK573.out 5; have Y11_0 := blk_frozen BK573.out 0; have Y11_1 := blk_frozen BK573.out 1; have Y11_2 := blk_frozen BK573.out 2; have Y11_3 := blk_frozen BK573.out 3; have Y11_4 := blk_frozen BK573.out 4; have Y11_5 := blk_frozen BK573.out 5; (try clear BK573 GW573 GE573)) | ((with_reducible refine gate_callee (f := 26) rfl ?_); refine goesL_ (some 6) rfl rfl Tryz.func26 (by kernel_rfl) rfl #[.agg #[.int .i64 a0_0, .int .i64 a0_1, .int .i64 a0_2, .int .i64 a0_3, .int .i64 a0_4, .string a0_5]] rfl mapT ?_; (with_reducible refine (metrolabref30_Right.calls k a0_0 a0_1 a0_2 a0_3 a0_4 a0_5 t574 _ A2.out).mono ?_); rintro e w12 ⟨rfl, hb⟩; refine ⟨_, rfl, ?_⟩; have n0_ := mk0 (below_step (wT HB.out) hb); clear HB; have HB := n0_; clear n0_; (try clear hb); (try clear hb2); (try clear hk); (try clear hi)))
  go_ret2
  exact ⟨eqT, wT HB.out⟩
end Go.Proofs.YtolbjmaabghghaaGreatDoor.PA
