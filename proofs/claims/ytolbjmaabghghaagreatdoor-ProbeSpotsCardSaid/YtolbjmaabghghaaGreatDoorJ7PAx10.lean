/- A part of the proof. -/
import Derived.Test.YtolbjmaabghghaaGreatDoorJ7PAx0
import Derived.Test.YtolbjmaabghghaaGreatDoorJ7PAx3
import Derived.Test.YtolbjmaabghghaaGreatDoorJ7PAx9
import Derived.Test.YtolbjmaabghghaaGreatDoorJ7EItoa
namespace Go.Proofs.YtolbjmaabghghaaGreatDoor.PA
open Go.RowKit Go.PW Go.PL Go.PM
attribute [local go_sem] max2_int min2_int max_two min_two max_three min_three max_four min_four   -- for this text's walks alone
set_option linter.unusedVariables false
set_option maxHeartbeats 8000000
set_option maxRecDepth 100000
set_option linter.unusedSimpArgs false
def probe_Text.l0 : Nat → ByteArray → Int → Int → Int → Int → Option (ByteArray × Int)
 | 0, _, _, _, _, _ => none
 | k + 1, x5, x20, x915, x916, x917 => if x20 < 3 then (if 0 ≤ x20 then ((strconv_Itoa_49.f (rd [x915, x916, x917] x20)).bind fun t236 => (if 1 + t236.size ≤ 9223372036854775807 then (if x5.size + ((⟨#[32]⟩ : ByteArray) ++ t236).size ≤ 9223372036854775807 then (probe_Text.l0 k (x5 ++ ((⟨#[32]⟩ : ByteArray) ++ t236)) (wrap64 (x20 + 1)) x915 x916 x917) else (none)) else (none))) else (none)) else (some (x5, 0))
def probe_Text.f (k : Nat) (a0_0 : Int) (a0_1 : Int) (a0_2 : Int) (a0_3 : Int) (a0_4 : Int) (a0_5 : ByteArray) : Option (ByteArray × Int) := (probe_Right.f k a0_0 a0_1 a0_2 a0_3 a0_4 a0_5).bind fun t232 => (if t232 = 0 then (if a0_0 = 0 then ((probe_of.f a0_1 a0_2 a0_3).bind fun bt233 => (probe_Text.l0 k (⟨#[109, 111, 118, 101]⟩ : ByteArray) 0 bt233.1 bt233.2.1 bt233.2.2)) else (if a0_0 = 1 then ((probe_directions.f).bind fun bt237 => (if 0 ≤ a0_4 then (if a0_4 < 6 then (if a0_4 = 0 then (if 6 + bt237.1.size ≤ 9223372036854775807 then (some ((⟨#[116, 111, 117, 99, 104, 32]⟩ : ByteArray) ++ bt237.1, 0)) else (none)) else (if a0_4 = 1 then (if 6 + bt237.2.1.size ≤ 9223372036854775807 then (some ((⟨#[116, 111, 117, 99, 104, 32]⟩ : ByteArray) ++ bt237.2.1, 0)) else (none)) else (if a0_4 = 2 then (if 6 + bt237.2.2.1.size ≤ 9223372036854775807 then (some ((⟨#[116, 111, 117, 99, 104, 32]⟩ : ByteArray) ++ bt237.2.2.1, 0)) else (none)) else (if a0_4 = 3 then (if 6 + bt237.2.2.2.1.size ≤ 9223372036854775807 then (some ((⟨#[116, 111, 117, 99, 104, 32]⟩ : ByteArray) ++ bt237.2.2.2.1, 0)) else (none)) else (if a0_4 = 4 then (if 6 + bt237.2.2.2.2.1.size ≤ 9223372036854775807 then (some ((⟨#[116, 111, 117, 99, 104, 32]⟩ : ByteArray) ++ bt237.2.2.2.2.1, 0)) else (none)) else (if a0_4 = 5 then (if 6 + bt237.2.2.2.2.2.size ≤ 9223372036854775807 then (some ((⟨#[116, 111, 117, 99, 104, 32]⟩ : ByteArray) ++ bt237.2.2.2.2.2, 0)) else (none)) else (none))))))) else (none)) else (none))) else (if 5 + a0_5.size ≤ 9223372036854775807 then (some ((⟨#[116, 97, 107, 101, 32]⟩ : ByteArray) ++ a0_5, 0)) else (none)))) else (some ((⟨#[]⟩ : ByteArray), t232)))
theorem probe_Text.calls (k : Nat) (a0_0 : Int) (a0_1 : Int) (a0_2 : Int) (a0_3 : Int) (a0_4 : Int) (a0_5 : ByteArray) (r1 : ByteArray) (r2 : Int) (w : World) (hG : GW w) (h : probe_Text.f k a0_0 a0_1 a0_2 a0_3 a0_4 a0_5 = some (r1, r2)) :
  Calls Tryz.prog 21 #[.agg #[.int .i64 a0_0, .int .i64 a0_1, .int .i64 a0_2, .int .i64 a0_3, .int .i64 a0_4, .string a0_5]] w fun e w' => e = .returned (.tuple #[.string r1, .int .i64 r2]) ∧ Below w.heap.size w w' := by
 have hu47 := Tryz.underlying47
 have hu23 := Tryz.underlying23
 have hu101 := Tryz.underlying101
 have hu109 := Tryz.underlying109
 have HG := mk0 hG
 clear hG
 have HB := mk0 (Below.refl w.heap.size w)
 have H : ((probe_Right.f k a0_0 a0_1 a0_2 a0_3 a0_4 a0_5).bind fun t232 => (if t232 = 0 then (if a0_0 = 0 then ((probe_of.f a0_1 a0_2 a0_3).bind fun bt233 => (probe_Text.l0 k (⟨#[109, 111, 118, 101]⟩ : ByteArray) 0 bt233.1 bt233.2.1 bt233.2.2)) else (if a0_0 = 1 then ((probe_directions.f).bind fun bt237 => (if 0 ≤ a0_4 then (if a0_4 < 6 then (if a0_4 = 0 then (if 6 + bt237.1.size ≤ 9223372036854775807 then (some ((⟨#[116, 111, 117, 99, 104, 32]⟩ : ByteArray) ++ bt237.1, 0)) else (none)) else (if a0_4 = 1 then (if 6 + bt237.2.1.size ≤ 9223372036854775807 then (some ((⟨#[116, 111, 117, 99, 104, 32]⟩ : ByteArray) ++ bt237.2.1, 0)) else (none)) else (if a0_4 = 2 then (if 6 + bt237.2.2.1.size ≤ 9223372036854775807 then (some ((⟨#[116, 111, 117, 99, 104, 32]⟩ : ByteArray) ++ bt237.2.2.1, 0)) else (none)) else (if a0_4 = 3 then (if 6 + bt237.2.2.2.1.size ≤ 9223372036854775807 then (some ((⟨#[116, 111, 117, 99, 104, 32]⟩ : ByteArray) ++ bt237.2.2.2.1, 0)) else (none)) else (if a0_4 = 4 then (if 6 + bt237.2.2.2.2.1.size ≤ 9223372036854775807 then (some ((⟨#[116, 111, 117, 99, 104, 32]⟩ : ByteArray) ++ bt237.2.2.2.2.1, 0)) else (none)) else (if a0_4 = 5 then (if 6 + bt237.2.2.2.2.2.size ≤ 9223372036854775807 then (some ((⟨#[116, 111, 117, 99, 104, 32]⟩ : ByteArray) ++ bt237.2.2.2.2.2, 0)) else (none)) else (none))))))) else (none)) else (none))) else (if 5 + a0_5.size ≤ 9223372036854775807 then (some ((⟨#[116, 97, 107, 101, 32]⟩ : ByteArray) ++ a0_5, 0)) else (none)))) else (some ((⟨#[]⟩ : ByteArray), t232)))) = some (r1, r2) := h
 clear h
 replace H := Option.bind_eq_some_iff.mp H
 obtain ⟨t232, A20, H⟩ := H
 (try dsimp only at H)
 have A2 := mk0 A20
 clear A20
 by_cases c3 : t232 = 0
 ·rw [if_pos c3] at H
  have c3b0 : (t232 == 0) = true := beq_iff_eq.mpr c3
  have c3b1 : (t232 != 0) = false := bne_eq_false_iff_eq.mpr c3
  clear c3
  by_cases c4 : a0_0 = 0
  ·rw [if_pos c4] at H
   have c4b0 : (a0_0 == 0) = true := beq_iff_eq.mpr c4
   have c4b1 : (a0_0 != 0) = false := bne_eq_false_iff_eq.mpr c4
   clear c4
   replace H := Option.bind_eq_some_iff.mp H
   obtain ⟨⟨t233, t234, t235⟩, A50, H⟩ := H
   (try dsimp only at H)
   have A5 := mk0 A50
   clear A50
   have H' := mk0 H
   clear H
   go_enter Tryz.func21, Tryz.ntmps21
   go_wp2_with (first | ((with_reducible refine gate_dst (N := 1) rfl ?_); refine box_event ?hg (N := 1) ?hd (cs := #[.int .i64 a0_0, .int .i64 a0_1, .int .i64 a0_2, .int .i64 a0_3, .int .i64 a0_4, .string a0_5]) (t := 47) ?hr ?_; (case hd => rfl); (case hg => rfl); (case hr => first | (go_simp; done) | (go_simp; rfl)); intro gb231 hg w6 hbox hb; have n0_ := mk0 (below_step (wT HB.out) hb); have n1_ := mk0 (hbox); have n2_ := mk0 ((szT HB.out hg)); have n3_ := mk0 ((szT HB.out hg)); clear HB; have HB := n0_; have BK231 := n1_; have GW231 := n2_; have GE231 := n3_; clear n0_ n1_ n2_ n3_; clear hb hbox hg; have X7_0 := ct BK231.out 0; have X7_1 := ct BK231.out 1; have X7_2 := ct BK231.out 2; have X7_3 := ct BK231.out 3; have X7_4 := ct BK231.out 4; have X7_5 := ct BK231.out 5; have Y7_0 := blk_frozen BK231.out 0; have Y7_1 := blk_frozen BK231.out 1; have Y7_2 := blk_frozen BK231.out 2; have Y7_3 := blk_frozen BK231.out 3; have Y7_4 := blk_frozen BK231.out 4; have Y7_5 := blk_frozen BK231.out 5) | ((with_reducible refine gate_callee (f := 25) rfl ?_); refine goesL_ (some 9) rfl rfl Tryz.func25 (by kernel_rfl) rfl #[.agg #[.int .i64 a0_0, .int .i64 a0_1, .int .i64 a0_2, .int .i64 a0_3, .int .i64 a0_4, .string a0_5]] rfl mapT ?_; (with_reducible refine (probe_Right.calls k a0_0 a0_1 a0_2 a0_3 a0_4 a0_5 t232 _ ?side1 A2.out).mono ?_); (case side1 => exact GW_below HG.out (wT HB.out)); rintro e w8 ⟨rfl, hb⟩; refine ⟨_, rfl, ?_⟩; have n0_ := mk0 (bbT BK231.out hb); have n1_ := mk0 (below_step (wT HB.out) hb); clear BK231; clear HB; have BK231 := n0_; have HB := n1_; clear n0_ n1_; (try clear hb); (try clear hb2); (try clear hk); (try clear hi); have X9_0 := ct BK231.out 0; have X9_1 := ct BK231.out 1; have X9_2 := ct BK231.out 2; have X9_3 := ct BK231.out 3; have X9_4 := ct BK231.out 4; have X9_5 := ct BK231.out 5; have Y9_0 := blk_frozen BK231.out 0; have Y9_1 := blk_frozen BK231.out 1; have Y9_2 := blk_frozen BK231.out 2; have Y9_3 := blk_frozen BK231.out 3; have Y9_4 := blk_frozen BK231.out 4; have Y9_5 := blk_frozen BK231.out 5; (try clear BK231 GW231 GE231)) | ((with_reducible refine gate_callee (f := 43) rfl ?_); refine goesL_ (some 19) rfl rfl Tryz.func43 (by kernel_rfl) rfl #[.agg #[.int .i64 a0_1, .int .i64 a0_2, .int .i64 a0_3]] rfl mapT ?_; (with_reducible refine (probe_of.calls a0_1 a0_2 a0_3 t233 t234 t235 _ A5.out).mono ?_); rintro e w10 ⟨rfl, hb⟩; refine ⟨_, rfl, ?_⟩; have n0_ := mk0 (below_step (wT HB.out) hb); clear HB; have HB := n0_; clear n0_; (try clear hb); (try clear hb2); (try clear hk); (try clear hi)))
   go_loopg [5, 20] k (fun kq v5 v20 w' => ∃ (x5_1 : ByteArray) (x20_1 : Int), v5 = .string x5_1 ∧ v20 = .int .i64 x20_1 ∧ Aside0 (probe_Text.l0 kq x5_1 x20_1 t233 t234 t235 = some (r1, r2)) ∧ Aside0 (kq ≤ k) ∧ Aside0 (Below w.heap.size w w'))
   case atStart => exact ⟨((⟨#[109, 111, 118, 101]⟩ : ByteArray)), (0), (by first | rfl | (simp; done) | (simp [*]; done) | exact congrArg (Value.int .i64) (by unfold wrap64; omega)), (by first | rfl | (simp; done) | (simp [*]; done) | exact congrArg (Value.int .i64) (by unfold wrap64; omega)), H', ⟨Nat.le_refl _⟩, ⟨wT HB.out⟩⟩
   case round =>
    clear H'
    try clear c3
    try clear c3b0
    try clear c3b1
    try clear c4
    try clear c4b0
    try clear c4b1
    try clear X7_0
    try clear X7_1
    try clear X7_2
    try clear X7_3
    try clear X7_4
    try clear X7_5
    try clear X9_0
    try clear X9_1
    try clear X9_2
    try clear X9_3
    try clear X9_4
    try clear X9_5
    try clear Y7_0
    try clear Y7_1
    try clear Y7_2
    try clear Y7_3
    try clear Y7_4
    try clear Y7_5
    try clear Y9_0
    try clear Y9_1
    try clear Y9_2
    try clear Y9_3
    try clear Y9_4
    try clear Y9_5
    obtain ⟨x5_1, x20_1, rfl, rfl, HA, HK1, HB⟩ := hrel
    cases gk with
    | zero => exact absurd HA.out (by simp [probe_Text.l0])
    | succ k1 =>
     have H := HA.out
     clear HA
     simp only [probe_Text.l0] at H
     by_cases c11 : x20_1 < 3
     ·rw [if_pos c11] at H
      have c11b0 : decide (x20_1 < 3) = true := decide_eq_true c11
      clear c11
      by_cases c12 : 0 ≤ x20_1
      ·rw [if_pos c12] at H
       have c12b0 : decide (0 ≤ x20_1) = true := decide_eq_true c12
       clear c12
       have p14 : 0 ≤ x20_1 := of_decide_eq_true (by first | (with_reducible assumption) | assumption)
       have q14 : x20_1 < 3 := of_decide_eq_true (by first | (with_reducible assumption) | assumption)
       have hix13 : ∀ w_, (Instr.index 101 (.agg #[.int .i64 t233, .int .i64 t234, .int .i64 t235]) (.int .i64 x20_1)).run Tryz.prog w_ = .ok (.int .i64 (rd [t233, t234, t235] x20_1)) w_ := fun w_ => by (rcases (show x20_1 = 0 ∨ x20_1 = 1 ∨ x20_1 = 2 by omega) with e_ | e_ | e_) <;> (rw [e_]; kernel_rfl)
       replace p14 := eq_true p14
       replace q14 := eq_true q14
       replace H := Option.bind_eq_some_iff.mp H
       obtain ⟨t236, A150, H⟩ := H
       (try dsimp only at H)
       have A15 := mk0 A150
       clear A150
       by_cases c16 : 1 + t236.size ≤ 9223372036854775807
       ·rw [if_pos c16] at H
        have c16b0 := eq_true c16
        have c16b1 : decide (1 + t236.size ≤ 9223372036854775807) = true := decide_eq_true c16
        try have c16b2 : (9223372036854775807 < 1 + t236.size) = False := eq_false (Nat.not_lt.2 c16)
        by_cases c17 : x5_1.size + ((⟨#[32]⟩ : ByteArray) ++ t236).size ≤ 9223372036854775807
        ·rw [if_pos c17] at H
         have c17b0 := eq_true c17
         have c17b1 : decide (x5_1.size + ((⟨#[32]⟩ : ByteArray) ++ t236).size ≤ 9223372036854775807) = true := decide_eq_true c17
         try have c17b2 : (9223372036854775807 < x5_1.size + ((⟨#[32]⟩ : ByteArray) ++ t236).size) = False := eq_false (Nat.not_lt.2 c17)
         have H' := mk0 H
         clear H
         go_wp2_with (first | ((with_reducible refine gate_callee (f := 49) rfl ?_); refine goesL_ (some 25) rfl rfl Tryz.func49 (by kernel_rfl) rfl #[.int .i64 (rd [t233, t234, t235] x20_1)] rfl mapT ?_; (with_reducible refine (strconv_Itoa_49.calls (rd [t233, t234, t235] x20_1) t236 _ ?side1 A15.out).mono ?_); (case side1 => exact GW_below HG.out (wT HB.out)); rintro e w18 ⟨rfl, hb⟩; refine ⟨_, rfl, ?_⟩; have n0_ := mk0 (below_step (wT HB.out) hb); clear HB; have HB := n0_; clear n0_; (try clear hb); (try clear hb2); (try clear hk); (try clear hi)))
         go_roundg k1
         case measure => have := HK1.out; omega
         case rel => exact ⟨(x5_1 ++ ((⟨#[32]⟩ : ByteArray) ++ t236)), (wrap64 (x20_1 + 1)), (by first | rfl | (simp; done) | (simp [*]; done) | exact congrArg (Value.int .i64) (by unfold wrap64; omega)), (by first | rfl | (simp; done) | (simp [*]; done) | exact congrArg (Value.int .i64) (by unfold wrap64; omega)), H', ⟨by have := HK1.out; omega⟩, ⟨wT HB.out⟩⟩
        ·rw [if_neg c17] at H
         exact absurd H (by simp)
       ·rw [if_neg c16] at H
        exact absurd H (by simp)
      ·rw [if_neg c12] at H
       exact absurd H (by simp)
     ·rw [if_neg c11] at H
      have c11b0 : decide (x20_1 < 3) = false := decide_eq_false c11
      clear c11
      simp only [Option.some.injEq, Prod.mk.injEq] at H
      obtain ⟨rfl, rfl⟩ := H
      go_wp2
      go_ret2
      exact ⟨eqT, wT HB.out⟩
  ·rw [if_neg c4] at H
   have c4b0 : (a0_0 == 0) = false := beq_eq_false_iff_ne.mpr c4
   have c4b1 : (a0_0 != 0) = true := bne_iff_ne.mpr c4
   by_cases c19 : a0_0 = 1
   ·rw [if_pos c19] at H
    have c19b0 : (a0_0 == 1) = true := beq_iff_eq.mpr c19
    have c19b1 : (a0_0 != 1) = false := bne_eq_false_iff_eq.mpr c19
    clear c19
    replace H := Option.bind_eq_some_iff.mp H
    obtain ⟨⟨t237, t238, t239, t240, t241, t242⟩, A200, H⟩ := H
    (try dsimp only at H)
    have A20 := mk0 A200
    clear A200
    by_cases c21 : 0 ≤ a0_4
    ·rw [if_pos c21] at H
     have c21b0 : decide (0 ≤ a0_4) = true := decide_eq_true c21
     clear c21
     by_cases c22 : a0_4 < 6
     ·rw [if_pos c22] at H
      have c22b0 : decide (a0_4 < 6) = true := decide_eq_true c22
      clear c22
      by_cases c23 : a0_4 = 0
      ·rw [if_pos c23] at H
       have c23n : (a0_4).toNat = 0 := by rw [c23]; rfl
       have c23d : a0_4 = 0 := c23
       have c23l := eq_true (show 0 ≤ a0_4 by omega)
       have c23u1 := eq_true (show a0_4 < 1 by omega)
       have c23u2 := eq_true (show a0_4 < 2 by omega)
       have c23u3 := eq_true (show a0_4 < 3 by omega)
       have c23u4 := eq_true (show a0_4 < 4 by omega)
       have c23u5 := eq_true (show a0_4 < 5 by omega)
       have c23u6 := eq_true (show a0_4 < 6 by omega)
       replace c23d := mk0 c23d
       have c23b0 : (a0_4 == 0) = true := beq_iff_eq.mpr c23
       have c23b1 : (a0_4 != 0) = false := bne_eq_false_iff_eq.mpr c23
       clear c23
       have hix24 : ∀ w_, (Instr.index 109 (.agg #[.string t237, .string t238, .string t239, .string t240, .string t241, .string t242]) (.int .i64 a0_4)).run Tryz.prog w_ = .ok (.string t237) w_ := fun w_ => by rw [c23d.out]; kernel_rfl
       by_cases c25 : 6 + t237.size ≤ 9223372036854775807
       ·rw [if_pos c25] at H
        have c25b0 := eq_true c25
        have c25b1 : decide (6 + t237.size ≤ 9223372036854775807) = true := decide_eq_true c25
        try have c25b2 : (9223372036854775807 < 6 + t237.size) = False := eq_false (Nat.not_lt.2 c25)
        simp only [Option.some.injEq, Prod.mk.injEq] at H
        obtain ⟨rfl, rfl⟩ := H
        go_enter Tryz.func21, Tryz.ntmps21
        try go_wp2_with (first | ((with_reducible refine gate_dst (N := 1) rfl ?_); refine box_event ?hg (N := 1) ?hd (cs := #[.int .i64 a0_0, .int .i64 a0_1, .int .i64 a0_2, .int .i64 a0_3, .int .i64 a0_4, .string a0_5]) (t := 47) ?hr ?_; (case hd => rfl); (case hg => rfl); (case hr => first | (go_simp; done) | (go_simp; rfl)); intro gb231 hg w26 hbox hb; have n0_ := mk0 (below_step (wT HB.out) hb); have n1_ := mk0 (hbox); have n2_ := mk0 ((szT HB.out hg)); have n3_ := mk0 ((szT HB.out hg)); clear HB; have HB := n0_; have BK231 := n1_; have GW231 := n2_; have GE231 := n3_; clear n0_ n1_ n2_ n3_; clear hb hbox hg; have X27_0 := ct BK231.out 0; have X27_1 := ct BK231.out 1; have X27_2 := ct BK231.out 2; have X27_3 := ct BK231.out 3; have X27_4 := ct BK231.out 4; have X27_5 := ct BK231.out 5; have Y27_0 := blk_frozen BK231.out 0; have Y27_1 := blk_frozen BK231.out 1; have Y27_2 := blk_frozen BK231.out 2; have Y27_3 := blk_frozen BK231.out 3; have Y27_4 := blk_frozen BK231.out 4; have Y27_5 := blk_frozen BK231.out 5) | ((with_reducible refine gate_callee (f := 25) rfl ?_); refine goesL_ (some 9) rfl rfl Tryz.func25 (by kernel_rfl) rfl #[.agg #[.int .i64 a0_0, .int .i64 a0_1, .int .i64 a0_2, .int .i64 a0_3, .int .i64 a0_4, .string a0_5]] rfl mapT ?_; (with_reducible refine (probe_Right.calls k a0_0 a0_1 a0_2 a0_3 a0_4 a0_5 t232 _ ?side1 A2.out).mono ?_); (case side1 => exact GW_below HG.out (wT HB.out)); rintro e w28 ⟨rfl, hb⟩; refine ⟨_, rfl, ?_⟩; have n0_ := mk0 (bbT BK231.out hb); have n1_ := mk0 (below_step (wT HB.out) hb); clear BK231; clear HB; have BK231 := n0_; have HB := n1_; clear n0_ n1_; (try clear hb); (try clear hb2); (try clear hk); (try clear hi); have X29_0 := ct BK231.out 0; have X29_1 := ct BK231.out 1; have X29_2 := ct BK231.out 2; have X29_3 := ct BK231.out 3; have X29_4 := ct BK231.out 4; have X29_5 := ct BK231.out 5; have Y29_0 := blk_frozen BK231.out 0; have Y29_1 := blk_frozen BK231.out 1; have Y29_2 := blk_frozen BK231.out 2; have Y29_3 := blk_frozen BK231.out 3; have Y29_4 := blk_frozen BK231.out 4; have Y29_5 := blk_frozen BK231.out 5))
        have n0_ := mk0 (blk_drew BK231.out)
        have n1_ := mk0 (below_drew1 HB.out)
        clear BK231
        clear HB
        have BK231 := n0_
        have HB := n1_
        clear n0_ n1_
        refine start_ (n := 7) (S := fun w' => w'.cell? ⟨gb231, 0, none⟩ = some (.int .i64 a0_0) ∧ w'.cell? ⟨gb231, 1, none⟩ = some (.int .i64 a0_1) ∧ w'.cell? ⟨gb231, 2, none⟩ = some (.int .i64 a0_2) ∧ w'.cell? ⟨gb231, 3, none⟩ = some (.int .i64 a0_3) ∧ w'.cell? ⟨gb231, 4, none⟩ = some (.int .i64 a0_4) ∧ w'.cell? ⟨gb231, 5, none⟩ = some (.string a0_5)) (ds := []) #[false, false, false, false, false, false, false] (by kernel_rfl) rfl rfl ⟨ct BK231.out 0, ct BK231.out 1, ct BK231.out 2, ct BK231.out 3, ct BK231.out 4, ct BK231.out 5⟩ (fun hHeld => ?_)
        generalize w28.drew = w30 at BK231 HB hHeld ⊢
        refine pure_ (i := 1) (N := some 33) (v := ?_) (a' := ?_) #[false, true, false, false, false, false, false] rfl rfl (by kernel_rfl) (fun _ _ _ h => h) (Or.inl ⟨by rfl, ?_⟩) ?_ ?_
        rotate_left
        ·intro w'
         go_simp
         with_reducible rfl
        rotate_left
        ·exact nrm
        refine take_ (i := 2) (N := some 34) (v := ?_) (a' := ?_) #[false, true, true, false, false, false, false] rfl rfl (by kernel_rfl) (fun _ _ _ h => h) (Or.inl ⟨by rfl, ?_⟩) hHeld ?_ ?_
        rotate_left
        ·rintro w' ⟨s0, s1, s2, s3, s4, s5⟩
         go_simp
         with_reducible rfl
        rotate_left
        ·exact nrm
        refine one_ (i := 0) (N := some 32) #[true, true, true, false, false, false, false] rfl rfl (by kernel_rfl) (by decide) (fun K hK => ?_)
        refine goes_ Tryz.func50 (by kernel_rfl) rfl #[] (by rfl) rfl rfl mapT ?_
        with_reducible refine (probe_directions.calls  t237 t238 t239 t240 t241 t242 _ A20.out).mono ?_
        rintro e w31 ⟨rfl, hb⟩
        refine ⟨_, rfl, ?_⟩
        have n0_ := mk0 (bbT BK231.out hb)
        have n1_ := mk0 (below_step (wT HB.out) hb)
        clear BK231
        clear HB
        have BK231 := n0_
        have HB := n1_
        clear n0_ n1_
        (try clear hb)
        (try clear hb2)
        (try clear hk)
        (try clear hi)
        refine hK.out _ _ ⟨ct BK231.out 0, ct BK231.out 1, ct BK231.out 2, ct BK231.out 3, ct BK231.out 4, ct BK231.out 5⟩ (fun hHeld => ?_)
        clear hK K
        refine norm_ (a' := ?_) ?_ ?_
        rotate_left
        ·show Act.put _ (some 32) _ = _
         simp only [Act.put, List.setIfInBounds_toArray, List.set_cons_zero, List.set_cons_succ, i64_w, i32_w]
         rfl
        refine take_ (i := 3) (N := some 35) (v := ?_) (a' := ?_) #[true, true, true, true, false, false, false] rfl rfl (by kernel_rfl) (fun _ _ _ h => h) (Or.inl ⟨by rfl, ?_⟩) hHeld ?_ ?_
        rotate_left
        ·rintro w' ⟨s0, s1, s2, s3, s4, s5⟩
         go_simp
         with_reducible rfl
        rotate_left
        ·exact nrm
        refine pure_ (i := 4) (N := some 36) (v := ?_) (a' := ?_) #[true, true, true, true, true, false, false] rfl rfl (by kernel_rfl) (fun _ _ _ h => h) (Or.inl ⟨by rfl, ?_⟩) ?_ ?_
        rotate_left
        ·intro w'
         go_simp
         with_reducible rfl
        rotate_left
        ·exact nrm
        refine pure_ (i := 5) (N := some 2) (v := ?_) (a' := ?_) #[true, true, true, true, true, true, false] rfl rfl (by kernel_rfl) (fun _ _ _ h => h) (Or.inl ⟨by rfl, ?_⟩) ?_ ?_
        rotate_left
        ·intro w'
         go_simp
         with_reducible rfl
        rotate_left
        ·exact nrm
        refine pure_ (i := 6) (N := some 3) (v := ?_) (a' := ?_) #[true, true, true, true, true, true, true] rfl rfl (by kernel_rfl) (fun _ _ _ h => h) (Or.inl ⟨by rfl, ?_⟩) ?_ ?_
        rotate_left
        ·intro w'
         go_simp
         with_reducible rfl
        rotate_left
        ·exact nrm
        refine done_ (by kernel_rfl) ?_
        try go_wp2
        go_ret2
        exact ⟨eqT, wT HB.out⟩
       ·rw [if_neg c25] at H
        exact absurd H (by simp)
      ·rw [if_neg c23] at H
       have c23b0 : (a0_4 == 0) = false := beq_eq_false_iff_ne.mpr c23
       have c23b1 : (a0_4 != 0) = true := bne_iff_ne.mpr c23
       by_cases c32 : a0_4 = 1
       ·rw [if_pos c32] at H
        have c32n : (a0_4).toNat = 1 := by rw [c32]; rfl
        have c32d : a0_4 = 1 := c32
        have c32l := eq_true (show 0 ≤ a0_4 by omega)
        have c32u2 := eq_true (show a0_4 < 2 by omega)
        have c32u3 := eq_true (show a0_4 < 3 by omega)
        have c32u4 := eq_true (show a0_4 < 4 by omega)
        have c32u5 := eq_true (show a0_4 < 5 by omega)
        have c32u6 := eq_true (show a0_4 < 6 by omega)
        replace c32d := mk0 c32d
        have c32b0 : (a0_4 == 1) = true := beq_iff_eq.mpr c32
        have c32b1 : (a0_4 != 1) = false := bne_eq_false_iff_eq.mpr c32
        clear c32
        have hix33 : ∀ w_, (Instr.index 109 (.agg #[.string t237, .string t238, .string t239, .string t240, .string t241, .string t242]) (.int .i64 a0_4)).run Tryz.prog w_ = .ok (.string t238) w_ := fun w_ => by rw [c32d.out]; kernel_rfl
        by_cases c34 : 6 + t238.size ≤ 9223372036854775807
        ·rw [if_pos c34] at H
         have c34b0 := eq_true c34
         have c34b1 : decide (6 + t238.size ≤ 9223372036854775807) = true := decide_eq_true c34
         try have c34b2 : (9223372036854775807 < 6 + t238.size) = False := eq_false (Nat.not_lt.2 c34)
         simp only [Option.some.injEq, Prod.mk.injEq] at H
         obtain ⟨rfl, rfl⟩ := H
         go_enter Tryz.func21, Tryz.ntmps21
         try go_wp2_with (first | ((with_reducible refine gate_dst (N := 1) rfl ?_); refine box_event ?hg (N := 1) ?hd (cs := #[.int .i64 a0_0, .int .i64 a0_1, .int .i64 a0_2, .int .i64 a0_3, .int .i64 a0_4, .string a0_5]) (t := 47) ?hr ?_; (case hd => rfl); (case hg => rfl); (case hr => first | (go_simp; done) | (go_simp; rfl)); intro gb231 hg w35 hbox hb; have n0_ := mk0 (below_step (wT HB.out) hb); have n1_ := mk0 (hbox); have n2_ := mk0 ((szT HB.out hg)); have n3_ := mk0 ((szT HB.out hg)); clear HB; have HB := n0_; have BK231 := n1_; have GW231 := n2_; have GE231 := n3_; clear n0_ n1_ n2_ n3_; clear hb hbox hg; have X36_0 := ct BK231.out 0; have X36_1 := ct BK231.out 1; have X36_2 := ct BK231.out 2; have X36_3 := ct BK231.out 3; have X36_4 := ct BK231.out 4; have X36_5 := ct BK231.out 5; have Y36_0 := blk_frozen BK231.out 0; have Y36_1 := blk_frozen BK231.out 1; have Y36_2 := blk_frozen BK231.out 2; have Y36_3 := blk_frozen BK231.out 3; have Y36_4 := blk_frozen BK231.out 4; have Y36_5 := blk_frozen BK231.out 5) | ((with_reducible refine gate_callee (f := 25) rfl ?_); refine goesL_ (some 9) rfl rfl Tryz.func25 (by kernel_rfl) rfl #[.agg #[.int .i64 a0_0, .int .i64 a0_1, .int .i64 a0_2, .int .i64 a0_3, .int .i64 a0_4, .string a0_5]] rfl mapT ?_; (with_reducible refine (probe_Right.calls k a0_0 a0_1 a0_2 a0_3 a0_4 a0_5 t232 _ ?side1 A2.out).mono ?_); (case side1 => exact GW_below HG.out (wT HB.out)); rintro e w37 ⟨rfl, hb⟩; refine ⟨_, rfl, ?_⟩; have n0_ := mk0 (bbT BK231.out hb); have n1_ := mk0 (below_step (wT HB.out) hb); clear BK231; clear HB; have BK231 := n0_; have HB := n1_; clear n0_ n1_; (try clear hb); (try clear hb2); (try clear hk); (try clear hi); have X38_0 := ct BK231.out 0; have X38_1 := ct BK231.out 1; have X38_2 := ct BK231.out 2; have X38_3 := ct BK231.out 3; have X38_4 := ct BK231.out 4; have X38_5 := ct BK231.out 5; have Y38_0 := blk_frozen BK231.out 0; have Y38_1 := blk_frozen BK231.out 1; have Y38_2 := blk_frozen BK231.out 2; have Y38_3 := blk_frozen BK231.out 3; have Y38_4 := blk_frozen BK231.out 4; have Y38_5 := blk_frozen BK231.out 5))
         have n0_ := mk0 (blk_drew BK231.out)
         have n1_ := mk0 (below_drew1 HB.out)
         clear BK231
         clear HB
         have BK231 := n0_
         have HB := n1_
         clear n0_ n1_
         refine start_ (n := 7) (S := fun w' => w'.cell? ⟨gb231, 0, none⟩ = some (.int .i64 a0_0) ∧ w'.cell? ⟨gb231, 1, none⟩ = some (.int .i64 a0_1) ∧ w'.cell? ⟨gb231, 2, none⟩ = some (.int .i64 a0_2) ∧ w'.cell? ⟨gb231, 3, none⟩ = some (.int .i64 a0_3) ∧ w'.cell? ⟨gb231, 4, none⟩ = some (.int .i64 a0_4) ∧ w'.cell? ⟨gb231, 5, none⟩ = some (.string a0_5)) (ds := []) #[false, false, false, false, false, false, false] (by kernel_rfl) rfl rfl ⟨ct BK231.out 0, ct BK231.out 1, ct BK231.out 2, ct BK231.out 3, ct BK231.out 4, ct BK231.out 5⟩ (fun hHeld => ?_)
         generalize w37.drew = w39 at BK231 HB hHeld ⊢
         refine pure_ (i := 1) (N := some 33) (v := ?_) (a' := ?_) #[false, true, false, false, false, false, false] rfl rfl (by kernel_rfl) (fun _ _ _ h => h) (Or.inl ⟨by rfl, ?_⟩) ?_ ?_
         rotate_left
         ·intro w'
          go_simp
          with_reducible rfl
         rotate_left
         ·exact nrm
         refine take_ (i := 2) (N := some 34) (v := ?_) (a' := ?_) #[false, true, true, false, false, false, false] rfl rfl (by kernel_rfl) (fun _ _ _ h => h) (Or.inl ⟨by rfl, ?_⟩) hHeld ?_ ?_
         rotate_left
         ·rintro w' ⟨s0, s1, s2, s3, s4, s5⟩
          go_simp
          with_reducible rfl
         rotate_left
         ·exact nrm
         refine one_ (i := 0) (N := some 32) #[true, true, true, false, false, false, false] rfl rfl (by kernel_rfl) (by decide) (fun K hK => ?_)
         refine goes_ Tryz.func50 (by kernel_rfl) rfl #[] (by rfl) rfl rfl mapT ?_
         with_reducible refine (probe_directions.calls  t237 t238 t239 t240 t241 t242 _ A20.out).mono ?_
         rintro e w40 ⟨rfl, hb⟩
         refine ⟨_, rfl, ?_⟩
         have n0_ := mk0 (bbT BK231.out hb)
         have n1_ := mk0 (below_step (wT HB.out) hb)
         clear BK231
         clear HB
         have BK231 := n0_
         have HB := n1_
         clear n0_ n1_
         (try clear hb)
         (try clear hb2)
         (try clear hk)
         (try clear hi)
         refine hK.out _ _ ⟨ct BK231.out 0, ct BK231.out 1, ct BK231.out 2, ct BK231.out 3, ct BK231.out 4, ct BK231.out 5⟩ (fun hHeld => ?_)
         clear hK K
         refine norm_ (a' := ?_) ?_ ?_
         rotate_left
         ·show Act.put _ (some 32) _ = _
          simp only [Act.put, List.setIfInBounds_toArray, List.set_cons_zero, List.set_cons_succ, i64_w, i32_w]
          rfl
         refine take_ (i := 3) (N := some 35) (v := ?_) (a' := ?_) #[true, true, true, true, false, false, false] rfl rfl (by kernel_rfl) (fun _ _ _ h => h) (Or.inl ⟨by rfl, ?_⟩) hHeld ?_ ?_
         rotate_left
         ·rintro w' ⟨s0, s1, s2, s3, s4, s5⟩
          go_simp
          with_reducible rfl
         rotate_left
         ·exact nrm
         refine pure_ (i := 4) (N := some 36) (v := ?_) (a' := ?_) #[true, true, true, true, true, false, false] rfl rfl (by kernel_rfl) (fun _ _ _ h => h) (Or.inl ⟨by rfl, ?_⟩) ?_ ?_
         rotate_left
         ·intro w'
          go_simp
          with_reducible rfl
         rotate_left
         ·exact nrm
         refine pure_ (i := 5) (N := some 2) (v := ?_) (a' := ?_) #[true, true, true, true, true, true, false] rfl rfl (by kernel_rfl) (fun _ _ _ h => h) (Or.inl ⟨by rfl, ?_⟩) ?_ ?_
         rotate_left
         ·intro w'
          go_simp
          with_reducible rfl
         rotate_left
         ·exact nrm
         refine pure_ (i := 6) (N := some 3) (v := ?_) (a' := ?_) #[true, true, true, true, true, true, true] rfl rfl (by kernel_rfl) (fun _ _ _ h => h) (Or.inl ⟨by rfl, ?_⟩) ?_ ?_
         rotate_left
         ·intro w'
          go_simp
          with_reducible rfl
         rotate_left
         ·exact nrm
         refine done_ (by kernel_rfl) ?_
         try go_wp2
         go_ret2
         exact ⟨eqT, wT HB.out⟩
        ·rw [if_neg c34] at H
         exact absurd H (by simp)
       ·rw [if_neg c32] at H
        have c32b0 : (a0_4 == 1) = false := beq_eq_false_iff_ne.mpr c32
        have c32b1 : (a0_4 != 1) = true := bne_iff_ne.mpr c32
        by_cases c41 : a0_4 = 2
        ·rw [if_pos c41] at H
         have c41n : (a0_4).toNat = 2 := by rw [c41]; rfl
         have c41d : a0_4 = 2 := c41
         have c41l := eq_true (show 0 ≤ a0_4 by omega)
         have c41u3 := eq_true (show a0_4 < 3 by omega)
         have c41u4 := eq_true (show a0_4 < 4 by omega)
         have c41u5 := eq_true (show a0_4 < 5 by omega)
         have c41u6 := eq_true (show a0_4 < 6 by omega)
         replace c41d := mk0 c41d
         have c41b0 : (a0_4 == 2) = true := beq_iff_eq.mpr c41
         have c41b1 : (a0_4 != 2) = false := bne_eq_false_iff_eq.mpr c41
         clear c41
         have hix42 : ∀ w_, (Instr.index 109 (.agg #[.string t237, .string t238, .string t239, .string t240, .string t241, .string t242]) (.int .i64 a0_4)).run Tryz.prog w_ = .ok (.string t239) w_ := fun w_ => by rw [c41d.out]; kernel_rfl
         by_cases c43 : 6 + t239.size ≤ 9223372036854775807
         ·rw [if_pos c43] at H
          have c43b0 := eq_true c43
          have c43b1 : decide (6 + t239.size ≤ 9223372036854775807) = true := decide_eq_true c43
          try have c43b2 : (9223372036854775807 < 6 + t239.size) = False := eq_false (Nat.not_lt.2 c43)
          simp only [Option.some.injEq, Prod.mk.injEq] at H
          obtain ⟨rfl, rfl⟩ := H
          go_enter Tryz.func21, Tryz.ntmps21
          try go_wp2_with (first | ((with_reducible refine gate_dst (N := 1) rfl ?_); refine box_event ?hg (N := 1) ?hd (cs := #[.int .i64 a0_0, .int .i64 a0_1, .int .i64 a0_2, .int .i64 a0_3, .int .i64 a0_4, .string a0_5]) (t := 47) ?hr ?_; (case hd => rfl); (case hg => rfl); (case hr => first | (go_simp; done) | (go_simp; rfl)); intro gb231 hg w44 hbox hb; have n0_ := mk0 (below_step (wT HB.out) hb); have n1_ := mk0 (hbox); have n2_ := mk0 ((szT HB.out hg)); have n3_ := mk0 ((szT HB.out hg)); clear HB; have HB := n0_; have BK231 := n1_; have GW231 := n2_; have GE231 := n3_; clear n0_ n1_ n2_ n3_; clear hb hbox hg; have X45_0 := ct BK231.out 0; have X45_1 := ct BK231.out 1; have X45_2 := ct BK231.out 2; have X45_3 := ct BK231.out 3; have X45_4 := ct BK231.out 4; have X45_5 := ct BK231.out 5; have Y45_0 := blk_frozen BK231.out 0; have Y45_1 := blk_frozen BK231.out 1; have Y45_2 := blk_frozen BK231.out 2; have Y45_3 := blk_frozen BK231.out 3; have Y45_4 := blk_frozen BK231.out 4; have Y45_5 := blk_frozen BK231.out 5) | ((with_reducible refine gate_callee (f := 25) rfl ?_); refine goesL_ (some 9) rfl rfl Tryz.func25 (by kernel_rfl) rfl #[.agg #[.int .i64 a0_0, .int .i64 a0_1, .int .i64 a0_2, .int .i64 a0_3, .int .i64 a0_4, .string a0_5]] rfl mapT ?_; (with_reducible refine (probe_Right.calls k a0_0 a0_1 a0_2 a0_3 a0_4 a0_5 t232 _ ?side1 A2.out).mono ?_); (case side1 => exact GW_below HG.out (wT HB.out)); rintro e w46 ⟨rfl, hb⟩; refine ⟨_, rfl, ?_⟩; have n0_ := mk0 (bbT BK231.out hb); have n1_ := mk0 (below_step (wT HB.out) hb); clear BK231; clear HB; have BK231 := n0_; have HB := n1_; clear n0_ n1_; (try clear hb); (try clear hb2); (try clear hk); (try clear hi); have X47_0 := ct BK231.out 0; have X47_1 := ct BK231.out 1; have X47_2 := ct BK231.out 2; have X47_3 := ct BK231.out 3; have X47_4 := ct BK231.out 4; have X47_5 := ct BK231.out 5; have Y47_0 := blk_frozen BK231.out 0; have Y47_1 := blk_frozen BK231.out 1; have Y47_2 := blk_frozen BK231.out 2; have Y47_3 := blk_frozen BK231.out 3; have Y47_4 := blk_frozen BK231.out 4; have Y47_5 := blk_frozen BK231.out 5))
          have n0_ := mk0 (blk_drew BK231.out)
          have n1_ := mk0 (below_drew1 HB.out)
          clear BK231
          clear HB
          have BK231 := n0_
          have HB := n1_
          clear n0_ n1_
          refine start_ (n := 7) (S := fun w' => w'.cell? ⟨gb231, 0, none⟩ = some (.int .i64 a0_0) ∧ w'.cell? ⟨gb231, 1, none⟩ = some (.int .i64 a0_1) ∧ w'.cell? ⟨gb231, 2, none⟩ = some (.int .i64 a0_2) ∧ w'.cell? ⟨gb231, 3, none⟩ = some (.int .i64 a0_3) ∧ w'.cell? ⟨gb231, 4, none⟩ = some (.int .i64 a0_4) ∧ w'.cell? ⟨gb231, 5, none⟩ = some (.string a0_5)) (ds := []) #[false, false, false, false, false, false, false] (by kernel_rfl) rfl rfl ⟨ct BK231.out 0, ct BK231.out 1, ct BK231.out 2, ct BK231.out 3, ct BK231.out 4, ct BK231.out 5⟩ (fun hHeld => ?_)
          generalize w46.drew = w48 at BK231 HB hHeld ⊢
          refine pure_ (i := 1) (N := some 33) (v := ?_) (a' := ?_) #[false, true, false, false, false, false, false] rfl rfl (by kernel_rfl) (fun _ _ _ h => h) (Or.inl ⟨by rfl, ?_⟩) ?_ ?_
          rotate_left
          ·intro w'
           go_simp
           with_reducible rfl
          rotate_left
          ·exact nrm
          refine take_ (i := 2) (N := some 34) (v := ?_) (a' := ?_) #[false, true, true, false, false, false, false] rfl rfl (by kernel_rfl) (fun _ _ _ h => h) (Or.inl ⟨by rfl, ?_⟩) hHeld ?_ ?_
          rotate_left
          ·rintro w' ⟨s0, s1, s2, s3, s4, s5⟩
           go_simp
           with_reducible rfl
          rotate_left
          ·exact nrm
          refine one_ (i := 0) (N := some 32) #[true, true, true, false, false, false, false] rfl rfl (by kernel_rfl) (by decide) (fun K hK => ?_)
          refine goes_ Tryz.func50 (by kernel_rfl) rfl #[] (by rfl) rfl rfl mapT ?_
          with_reducible refine (probe_directions.calls  t237 t238 t239 t240 t241 t242 _ A20.out).mono ?_
          rintro e w49 ⟨rfl, hb⟩
          refine ⟨_, rfl, ?_⟩
          have n0_ := mk0 (bbT BK231.out hb)
          have n1_ := mk0 (below_step (wT HB.out) hb)
          clear BK231
          clear HB
          have BK231 := n0_
          have HB := n1_
          clear n0_ n1_
          (try clear hb)
          (try clear hb2)
          (try clear hk)
          (try clear hi)
          refine hK.out _ _ ⟨ct BK231.out 0, ct BK231.out 1, ct BK231.out 2, ct BK231.out 3, ct BK231.out 4, ct BK231.out 5⟩ (fun hHeld => ?_)
          clear hK K
          refine norm_ (a' := ?_) ?_ ?_
          rotate_left
          ·show Act.put _ (some 32) _ = _
           simp only [Act.put, List.setIfInBounds_toArray, List.set_cons_zero, List.set_cons_succ, i64_w, i32_w]
           rfl
          refine take_ (i := 3) (N := some 35) (v := ?_) (a' := ?_) #[true, true, true, true, false, false, false] rfl rfl (by kernel_rfl) (fun _ _ _ h => h) (Or.inl ⟨by rfl, ?_⟩) hHeld ?_ ?_
          rotate_left
          ·rintro w' ⟨s0, s1, s2, s3, s4, s5⟩
           go_simp
           with_reducible rfl
          rotate_left
          ·exact nrm
          refine pure_ (i := 4) (N := some 36) (v := ?_) (a' := ?_) #[true, true, true, true, true, false, false] rfl rfl (by kernel_rfl) (fun _ _ _ h => h) (Or.inl ⟨by rfl, ?_⟩) ?_ ?_
          rotate_left
          ·intro w'
           go_simp
           with_reducible rfl
          rotate_left
          ·exact nrm
          refine pure_ (i := 5) (N := some 2) (v := ?_) (a' := ?_) #[true, true, true, true, true, true, false] rfl rfl (by kernel_rfl) (fun _ _ _ h => h) (Or.inl ⟨by rfl, ?_⟩) ?_ ?_
          rotate_left
          ·intro w'
           go_simp
           with_reducible rfl
          rotate_left
          ·exact nrm
          refine pure_ (i := 6) (N := some 3) (v := ?_) (a' := ?_) #[true, true, true, true, true, true, true] rfl rfl (by kernel_rfl) (fun _ _ _ h => h) (Or.inl ⟨by rfl, ?_⟩) ?_ ?_
          rotate_left
          ·intro w'
           go_simp
           with_reducible rfl
          rotate_left
          ·exact nrm
          refine done_ (by kernel_rfl) ?_
          try go_wp2
          go_ret2
          exact ⟨eqT, wT HB.out⟩
         ·rw [if_neg c43] at H
          exact absurd H (by simp)
        ·rw [if_neg c41] at H
         have c41b0 : (a0_4 == 2) = false := beq_eq_false_iff_ne.mpr c41
         have c41b1 : (a0_4 != 2) = true := bne_iff_ne.mpr c41
         by_cases c50 : a0_4 = 3
         ·rw [if_pos c50] at H
          have c50n : (a0_4).toNat = 3 := by rw [c50]; rfl
          have c50d : a0_4 = 3 := c50
          have c50l := eq_true (show 0 ≤ a0_4 by omega)
          have c50u4 := eq_true (show a0_4 < 4 by omega)
          have c50u5 := eq_true (show a0_4 < 5 by omega)
          have c50u6 := eq_true (show a0_4 < 6 by omega)
          replace c50d := mk0 c50d
          have c50b0 : (a0_4 == 3) = true := beq_iff_eq.mpr c50
          have c50b1 : (a0_4 != 3) = false := bne_eq_false_iff_eq.mpr c50
          clear c50
          have hix51 : ∀ w_, (Instr.index 109 (.agg #[.string t237, .string t238, .string t239, .string t240, .string t241, .string t242]) (.int .i64 a0_4)).run Tryz.prog w_ = .ok (.string t240) w_ := fun w_ => by rw [c50d.out]; kernel_rfl
          by_cases c52 : 6 + t240.size ≤ 9223372036854775807
          ·rw [if_pos c52] at H
           have c52b0 := eq_true c52
           have c52b1 : decide (6 + t240.size ≤ 9223372036854775807) = true := decide_eq_true c52
           try have c52b2 : (9223372036854775807 < 6 + t240.size) = False := eq_false (Nat.not_lt.2 c52)
           simp only [Option.some.injEq, Prod.mk.injEq] at H
           obtain ⟨rfl, rfl⟩ := H
           go_enter Tryz.func21, Tryz.ntmps21
           try go_wp2_with (first | ((with_reducible refine gate_dst (N := 1) rfl ?_); refine box_event ?hg (N := 1) ?hd (cs := #[.int .i64 a0_0, .int .i64 a0_1, .int .i64 a0_2, .int .i64 a0_3, .int .i64 a0_4, .string a0_5]) (t := 47) ?hr ?_; (case hd => rfl); (case hg => rfl); (case hr => first | (go_simp; done) | (go_simp; rfl)); intro gb231 hg w53 hbox hb; have n0_ := mk0 (below_step (wT HB.out) hb); have n1_ := mk0 (hbox); have n2_ := mk0 ((szT HB.out hg)); have n3_ := mk0 ((szT HB.out hg)); clear HB; have HB := n0_; have BK231 := n1_; have GW231 := n2_; have GE231 := n3_; clear n0_ n1_ n2_ n3_; clear hb hbox hg; have X54_0 := ct BK231.out 0; have X54_1 := ct BK231.out 1; have X54_2 := ct BK231.out 2; have X54_3 := ct BK231.out 3; have X54_4 := ct BK231.out 4; have X54_5 := ct BK231.out 5; have Y54_0 := blk_frozen BK231.out 0; have Y54_1 := blk_frozen BK231.out 1; have Y54_2 := blk_frozen BK231.out 2; have Y54_3 := blk_frozen BK231.out 3; have Y54_4 := blk_frozen BK231.out 4; have Y54_5 := blk_frozen BK231.out 5) | ((with_reducible refine gate_callee (f := 25) rfl ?_); refine goesL_ (some 9) rfl rfl Tryz.func25 (by kernel_rfl) rfl #[.agg #[.int .i64 a0_0, .int .i64 a0_1, .int .i64 a0_2, .int .i64 a0_3, .int .i64 a0_4, .string a0_5]] rfl mapT ?_; (with_reducible refine (probe_Right.calls k a0_0 a0_1 a0_2 a0_3 a0_4 a0_5 t232 _ ?side1 A2.out).mono ?_); (case side1 => exact GW_below HG.out (wT HB.out)); rintro e w55 ⟨rfl, hb⟩; refine ⟨_, rfl, ?_⟩; have n0_ := mk0 (bbT BK231.out hb); have n1_ := mk0 (below_step (wT HB.out) hb); clear BK231; clear HB; have BK231 := n0_; have HB := n1_; clear n0_ n1_; (try clear hb); (try clear hb2); (try clear hk); (try clear hi); have X56_0 := ct BK231.out 0; have X56_1 := ct BK231.out 1; have X56_2 := ct BK231.out 2; have X56_3 := ct BK231.out 3; have X56_4 := ct BK231.out 4; have X56_5 := ct BK231.out 5; have Y56_0 := blk_frozen BK231.out 0; have Y56_1 := blk_frozen BK231.out 1; have Y56_2 := blk_frozen BK231.out 2; have Y56_3 := blk_frozen BK231.out 3; have Y56_4 := blk_frozen BK231.out 4; have Y56_5 := blk_frozen BK231.out 5))
           have n0_ := mk0 (blk_drew BK231.out)
           have n1_ := mk0 (below_drew1 HB.out)
           clear BK231
           clear HB
           have BK231 := n0_
           have HB := n1_
           clear n0_ n1_
           refine start_ (n := 7) (S := fun w' => w'.cell? ⟨gb231, 0, none⟩ = some (.int .i64 a0_0) ∧ w'.cell? ⟨gb231, 1, none⟩ = some (.int .i64 a0_1) ∧ w'.cell? ⟨gb231, 2, none⟩ = some (.int .i64 a0_2) ∧ w'.cell? ⟨gb231, 3, none⟩ = some (.int .i64 a0_3) ∧ w'.cell? ⟨gb231, 4, none⟩ = some (.int .i64 a0_4) ∧ w'.cell? ⟨gb231, 5, none⟩ = some (.string a0_5)) (ds := []) #[false, false, false, false, false, false, false] (by kernel_rfl) rfl rfl ⟨ct BK231.out 0, ct BK231.out 1, ct BK231.out 2, ct BK231.out 3, ct BK231.out 4, ct BK231.out 5⟩ (fun hHeld => ?_)
           generalize w55.drew = w57 at BK231 HB hHeld ⊢
           refine pure_ (i := 1) (N := some 33) (v := ?_) (a' := ?_) #[false, true, false, false, false, false, false] rfl rfl (by kernel_rfl) (fun _ _ _ h => h) (Or.inl ⟨by rfl, ?_⟩) ?_ ?_
           rotate_left
           ·intro w'
            go_simp
            with_reducible rfl
           rotate_left
           ·exact nrm
           refine take_ (i := 2) (N := some 34) (v := ?_) (a' := ?_) #[false, true, true, false, false, false, false] rfl rfl (by kernel_rfl) (fun _ _ _ h => h) (Or.inl ⟨by rfl, ?_⟩) hHeld ?_ ?_
           rotate_left
           ·rintro w' ⟨s0, s1, s2, s3, s4, s5⟩
            go_simp
            with_reducible rfl
           rotate_left
           ·exact nrm
           refine one_ (i := 0) (N := some 32) #[true, true, true, false, false, false, false] rfl rfl (by kernel_rfl) (by decide) (fun K hK => ?_)
           refine goes_ Tryz.func50 (by kernel_rfl) rfl #[] (by rfl) rfl rfl mapT ?_
           with_reducible refine (probe_directions.calls  t237 t238 t239 t240 t241 t242 _ A20.out).mono ?_
           rintro e w58 ⟨rfl, hb⟩
           refine ⟨_, rfl, ?_⟩
           have n0_ := mk0 (bbT BK231.out hb)
           have n1_ := mk0 (below_step (wT HB.out) hb)
           clear BK231
           clear HB
           have BK231 := n0_
           have HB := n1_
           clear n0_ n1_
           (try clear hb)
           (try clear hb2)
           (try clear hk)
           (try clear hi)
           refine hK.out _ _ ⟨ct BK231.out 0, ct BK231.out 1, ct BK231.out 2, ct BK231.out 3, ct BK231.out 4, ct BK231.out 5⟩ (fun hHeld => ?_)
           clear hK K
           refine norm_ (a' := ?_) ?_ ?_
           rotate_left
           ·show Act.put _ (some 32) _ = _
            simp only [Act.put, List.setIfInBounds_toArray, List.set_cons_zero, List.set_cons_succ, i64_w, i32_w]
            rfl
           refine take_ (i := 3) (N := some 35) (v := ?_) (a' := ?_) #[true, true, true, true, false, false, false] rfl rfl (by kernel_rfl) (fun _ _ _ h => h) (Or.inl ⟨by rfl, ?_⟩) hHeld ?_ ?_
           rotate_left
           ·rintro w' ⟨s0, s1, s2, s3, s4, s5⟩
            go_simp
            with_reducible rfl
           rotate_left
           ·exact nrm
           refine pure_ (i := 4) (N := some 36) (v := ?_) (a' := ?_) #[true, true, true, true, true, false, false] rfl rfl (by kernel_rfl) (fun _ _ _ h => h) (Or.inl ⟨by rfl, ?_⟩) ?_ ?_
           rotate_left
           ·intro w'
            go_simp
            with_reducible rfl
           rotate_left
           ·exact nrm
           refine pure_ (i := 5) (N := some 2) (v := ?_) (a' := ?_) #[true, true, true, true, true, true, false] rfl rfl (by kernel_rfl) (fun _ _ _ h => h) (Or.inl ⟨by rfl, ?_⟩) ?_ ?_
           rotate_left
           ·intro w'
            go_simp
            with_reducible rfl
           rotate_left
           ·exact nrm
           refine pure_ (i := 6) (N := some 3) (v := ?_) (a' := ?_) #[true, true, true, true, true, true, true] rfl rfl (by kernel_rfl) (fun _ _ _ h => h) (Or.inl ⟨by rfl, ?_⟩) ?_ ?_
           rotate_left
           ·intro w'
            go_simp
            with_reducible rfl
           rotate_left
           ·exact nrm
           refine done_ (by kernel_rfl) ?_
           try go_wp2
           go_ret2
           exact ⟨eqT, wT HB.out⟩
          ·rw [if_neg c52] at H
           exact absurd H (by simp)
         ·rw [if_neg c50] at H
          have c50b0 : (a0_4 == 3) = false := beq_eq_false_iff_ne.mpr c50
          have c50b1 : (a0_4 != 3) = true := bne_iff_ne.mpr c50
          by_cases c59 : a0_4 = 4
          ·rw [if_pos c59] at H
           have c59n : (a0_4).toNat = 4 := by rw [c59]; rfl
           have c59d : a0_4 = 4 := c59
           have c59l := eq_true (show 0 ≤ a0_4 by omega)
           have c59u5 := eq_true (show a0_4 < 5 by omega)
           have c59u6 := eq_true (show a0_4 < 6 by omega)
           replace c59d := mk0 c59d
           have c59b0 : (a0_4 == 4) = true := beq_iff_eq.mpr c59
           have c59b1 : (a0_4 != 4) = false := bne_eq_false_iff_eq.mpr c59
           clear c59
           have hix60 : ∀ w_, (Instr.index 109 (.agg #[.string t237, .string t238, .string t239, .string t240, .string t241, .string t242]) (.int .i64 a0_4)).run Tryz.prog w_ = .ok (.string t241) w_ := fun w_ => by rw [c59d.out]; kernel_rfl
           by_cases c61 : 6 + t241.size ≤ 9223372036854775807
           ·rw [if_pos c61] at H
            have c61b0 := eq_true c61
            have c61b1 : decide (6 + t241.size ≤ 9223372036854775807) = true := decide_eq_true c61
            try have c61b2 : (9223372036854775807 < 6 + t241.size) = False := eq_false (Nat.not_lt.2 c61)
            simp only [Option.some.injEq, Prod.mk.injEq] at H
            obtain ⟨rfl, rfl⟩ := H
            go_enter Tryz.func21, Tryz.ntmps21
            try go_wp2_with (first | ((with_reducible refine gate_dst (N := 1) rfl ?_); refine box_event ?hg (N := 1) ?hd (cs := #[.int .i64 a0_0, .int .i64 a0_1, .int .i64 a0_2, .int .i64 a0_3, .int .i64 a0_4, .string a0_5]) (t := 47) ?hr ?_; (case hd => rfl); (case hg => rfl); (case hr => first | (go_simp; done) | (go_simp; rfl)); intro gb231 hg w62 hbox hb; have n0_ := mk0 (below_step (wT HB.out) hb); have n1_ := mk0 (hbox); have n2_ := mk0 ((szT HB.out hg)); have n3_ := mk0 ((szT HB.out hg)); clear HB; have HB := n0_; have BK231 := n1_; have GW231 := n2_; have GE231 := n3_; clear n0_ n1_ n2_ n3_; clear hb hbox hg; have X63_0 := ct BK231.out 0; have X63_1 := ct BK231.out 1; have X63_2 := ct BK231.out 2; have X63_3 := ct BK231.out 3; have X63_4 := ct BK231.out 4; have X63_5 := ct BK231.out 5; have Y63_0 := blk_frozen BK231.out 0; have Y63_1 := blk_frozen BK231.out 1; have Y63_2 := blk_frozen BK231.out 2; have Y63_3 := blk_frozen BK231.out 3; have Y63_4 := blk_frozen BK231.out 4; have Y63_5 := blk_frozen BK231.out 5) | ((with_reducible refine gate_callee (f := 25) rfl ?_); refine goesL_ (some 9) rfl rfl Tryz.func25 (by kernel_rfl) rfl #[.agg #[.int .i64 a0_0, .int .i64 a0_1, .int .i64 a0_2, .int .i64 a0_3, .int .i64 a0_4, .string a0_5]] rfl mapT ?_; (with_reducible refine (probe_Right.calls k a0_0 a0_1 a0_2 a0_3 a0_4 a0_5 t232 _ ?side1 A2.out).mono ?_); (case side1 => exact GW_below HG.out (wT HB.out)); rintro e w64 ⟨rfl, hb⟩; refine ⟨_, rfl, ?_⟩; have n0_ := mk0 (bbT BK231.out hb); have n1_ := mk0 (below_step (wT HB.out) hb); clear BK231; clear HB; have BK231 := n0_; have HB := n1_; clear n0_ n1_; (try clear hb); (try clear hb2); (try clear hk); (try clear hi); have X65_0 := ct BK231.out 0; have X65_1 := ct BK231.out 1; have X65_2 := ct BK231.out 2; have X65_3 := ct BK231.out 3; have X65_4 := ct BK231.out 4; have X65_5 := ct BK231.out 5; have Y65_0 := blk_frozen BK231.out 0; have Y65_1 := blk_frozen BK231.out 1; have Y65_2 := blk_frozen BK231.out 2; have Y65_3 := blk_frozen BK231.out 3; have Y65_4 := blk_frozen BK231.out 4; have Y65_5 := blk_frozen BK231.out 5))
            have n0_ := mk0 (blk_drew BK231.out)
            have n1_ := mk0 (below_drew1 HB.out)
            clear BK231
            clear HB
            have BK231 := n0_
            have HB := n1_
            clear n0_ n1_
            refine start_ (n := 7) (S := fun w' => w'.cell? ⟨gb231, 0, none⟩ = some (.int .i64 a0_0) ∧ w'.cell? ⟨gb231, 1, none⟩ = some (.int .i64 a0_1) ∧ w'.cell? ⟨gb231, 2, none⟩ = some (.int .i64 a0_2) ∧ w'.cell? ⟨gb231, 3, none⟩ = some (.int .i64 a0_3) ∧ w'.cell? ⟨gb231, 4, none⟩ = some (.int .i64 a0_4) ∧ w'.cell? ⟨gb231, 5, none⟩ = some (.string a0_5)) (ds := []) #[false, false, false, false, false, false, false] (by kernel_rfl) rfl rfl ⟨ct BK231.out 0, ct BK231.out 1, ct BK231.out 2, ct BK231.out 3, ct BK231.out 4, ct BK231.out 5⟩ (fun hHeld => ?_)
            generalize w64.drew = w66 at BK231 HB hHeld ⊢
            refine pure_ (i := 1) (N := some 33) (v := ?_) (a' := ?_) #[false, true, false, false, false, false, false] rfl rfl (by kernel_rfl) (fun _ _ _ h => h) (Or.inl ⟨by rfl, ?_⟩) ?_ ?_
            rotate_left
            ·intro w'
             go_simp
             with_reducible rfl
            rotate_left
            ·exact nrm
            refine take_ (i := 2) (N := some 34) (v := ?_) (a' := ?_) #[false, true, true, false, false, false, false] rfl rfl (by kernel_rfl) (fun _ _ _ h => h) (Or.inl ⟨by rfl, ?_⟩) hHeld ?_ ?_
            rotate_left
            ·rintro w' ⟨s0, s1, s2, s3, s4, s5⟩
             go_simp
             with_reducible rfl
            rotate_left
            ·exact nrm
            refine one_ (i := 0) (N := some 32) #[true, true, true, false, false, false, false] rfl rfl (by kernel_rfl) (by decide) (fun K hK => ?_)
            refine goes_ Tryz.func50 (by kernel_rfl) rfl #[] (by rfl) rfl rfl mapT ?_
            with_reducible refine (probe_directions.calls  t237 t238 t239 t240 t241 t242 _ A20.out).mono ?_
            rintro e w67 ⟨rfl, hb⟩
            refine ⟨_, rfl, ?_⟩
            have n0_ := mk0 (bbT BK231.out hb)
            have n1_ := mk0 (below_step (wT HB.out) hb)
            clear BK231
            clear HB
            have BK231 := n0_
            have HB := n1_
            clear n0_ n1_
            (try clear hb)
            (try clear hb2)
            (try clear hk)
            (try clear hi)
            refine hK.out _ _ ⟨ct BK231.out 0, ct BK231.out 1, ct BK231.out 2, ct BK231.out 3, ct BK231.out 4, ct BK231.out 5⟩ (fun hHeld => ?_)
            clear hK K
            refine norm_ (a' := ?_) ?_ ?_
            rotate_left
            ·show Act.put _ (some 32) _ = _
             simp only [Act.put, List.setIfInBounds_toArray, List.set_cons_zero, List.set_cons_succ, i64_w, i32_w]
             rfl
            refine take_ (i := 3) (N := some 35) (v := ?_) (a' := ?_) #[true, true, true, true, false, false, false] rfl rfl (by kernel_rfl) (fun _ _ _ h => h) (Or.inl ⟨by rfl, ?_⟩) hHeld ?_ ?_
            rotate_left
            ·rintro w' ⟨s0, s1, s2, s3, s4, s5⟩
             go_simp
             with_reducible rfl
            rotate_left
            ·exact nrm
            refine pure_ (i := 4) (N := some 36) (v := ?_) (a' := ?_) #[true, true, true, true, true, false, false] rfl rfl (by kernel_rfl) (fun _ _ _ h => h) (Or.inl ⟨by rfl, ?_⟩) ?_ ?_
            rotate_left
            ·intro w'
             go_simp
             with_reducible rfl
            rotate_left
            ·exact nrm
            refine pure_ (i := 5) (N := some 2) (v := ?_) (a' := ?_) #[true, true, true, true, true, true, false] rfl rfl (by kernel_rfl) (fun _ _ _ h => h) (Or.inl ⟨by rfl, ?_⟩) ?_ ?_
            rotate_left
            ·intro w'
             go_simp
             with_reducible rfl
            rotate_left
            ·exact nrm
            refine pure_ (i := 6) (N := some 3) (v := ?_) (a' := ?_) #[true, true, true, true, true, true, true] rfl rfl (by kernel_rfl) (fun _ _ _ h => h) (Or.inl ⟨by rfl, ?_⟩) ?_ ?_
            rotate_left
            ·intro w'
             go_simp
             with_reducible rfl
            rotate_left
            ·exact nrm
            refine done_ (by kernel_rfl) ?_
            try go_wp2
            go_ret2
            exact ⟨eqT, wT HB.out⟩
           ·rw [if_neg c61] at H
            exact absurd H (by simp)
          ·rw [if_neg c59] at H
           have c59b0 : (a0_4 == 4) = false := beq_eq_false_iff_ne.mpr c59
           have c59b1 : (a0_4 != 4) = true := bne_iff_ne.mpr c59
           by_cases c68 : a0_4 = 5
           ·rw [if_pos c68] at H
            have c68n : (a0_4).toNat = 5 := by rw [c68]; rfl
            have c68d : a0_4 = 5 := c68
            have c68l := eq_true (show 0 ≤ a0_4 by omega)
            have c68u6 := eq_true (show a0_4 < 6 by omega)
            replace c68d := mk0 c68d
            have c68b0 : (a0_4 == 5) = true := beq_iff_eq.mpr c68
            have c68b1 : (a0_4 != 5) = false := bne_eq_false_iff_eq.mpr c68
            clear c68
            have hix69 : ∀ w_, (Instr.index 109 (.agg #[.string t237, .string t238, .string t239, .string t240, .string t241, .string t242]) (.int .i64 a0_4)).run Tryz.prog w_ = .ok (.string t242) w_ := fun w_ => by rw [c68d.out]; kernel_rfl
            by_cases c70 : 6 + t242.size ≤ 9223372036854775807
            ·rw [if_pos c70] at H
             have c70b0 := eq_true c70
             have c70b1 : decide (6 + t242.size ≤ 9223372036854775807) = true := decide_eq_true c70
             try have c70b2 : (9223372036854775807 < 6 + t242.size) = False := eq_false (Nat.not_lt.2 c70)
             simp only [Option.some.injEq, Prod.mk.injEq] at H
             obtain ⟨rfl, rfl⟩ := H
             go_enter Tryz.func21, Tryz.ntmps21
             try go_wp2_with (first | ((with_reducible refine gate_dst (N := 1) rfl ?_); refine box_event ?hg (N := 1) ?hd (cs := #[.int .i64 a0_0, .int .i64 a0_1, .int .i64 a0_2, .int .i64 a0_3, .int .i64 a0_4, .string a0_5]) (t := 47) ?hr ?_; (case hd => rfl); (case hg => rfl); (case hr => first | (go_simp; done) | (go_simp; rfl)); intro gb231 hg w71 hbox hb; have n0_ := mk0 (below_step (wT HB.out) hb); have n1_ := mk0 (hbox); have n2_ := mk0 ((szT HB.out hg)); have n3_ := mk0 ((szT HB.out hg)); clear HB; have HB := n0_; have BK231 := n1_; have GW231 := n2_; have GE231 := n3_; clear n0_ n1_ n2_ n3_; clear hb hbox hg; have X72_0 := ct BK231.out 0; have X72_1 := ct BK231.out 1; have X72_2 := ct BK231.out 2; have X72_3 := ct BK231.out 3; have X72_4 := ct BK231.out 4; have X72_5 := ct BK231.out 5; have Y72_0 := blk_frozen BK231.out 0; have Y72_1 := blk_frozen BK231.out 1; have Y72_2 := blk_frozen BK231.out 2; have Y72_3 := blk_frozen BK231.out 3; have Y72_4 := blk_frozen BK231.out 4; have Y72_5 := blk_frozen BK231.out 5) | ((with_reducible refine gate_callee (f := 25) rfl ?_); refine goesL_ (some 9) rfl rfl Tryz.func25 (by kernel_rfl) rfl #[.agg #[.int .i64 a0_0, .int .i64 a0_1, .int .i64 a0_2, .int .i64 a0_3, .int .i64 a0_4, .string a0_5]] rfl mapT ?_; (with_reducible refine (probe_Right.calls k a0_0 a0_1 a0_2 a0_3 a0_4 a0_5 t232 _ ?side1 A2.out).mono ?_); (case side1 => exact GW_below HG.out (wT HB.out)); rintro e w73 ⟨rfl, hb⟩; refine ⟨_, rfl, ?_⟩; have n0_ := mk0 (bbT BK231.out hb); have n1_ := mk0 (below_step (wT HB.out) hb); clear BK231; clear HB; have BK231 := n0_; have HB := n1_; clear n0_ n1_; (try clear hb); (try clear hb2); (try clear hk); (try clear hi); have X74_0 := ct BK231.out 0; have X74_1 := ct BK231.out 1; have X74_2 := ct BK231.out 2; have X74_3 := ct BK231.out 3; have X74_4 := ct BK231.out 4; have X74_5 := ct BK231.out 5; have Y74_0 := blk_frozen BK231.out 0; have Y74_1 := blk_frozen BK231.out 1; have Y74_2 := blk_frozen BK231.out 2; have Y74_3 := blk_frozen BK231.out 3; have Y74_4 := blk_frozen BK231.out 4; have Y74_5 := blk_frozen BK231.out 5))
             have n0_ := mk0 (blk_drew BK231.out)
             have n1_ := mk0 (below_drew1 HB.out)
             clear BK231
             clear HB
             have BK231 := n0_
             have HB := n1_
             clear n0_ n1_
             refine start_ (n := 7) (S := fun w' => w'.cell? ⟨gb231, 0, none⟩ = some (.int .i64 a0_0) ∧ w'.cell? ⟨gb231, 1, none⟩ = some (.int .i64 a0_1) ∧ w'.cell? ⟨gb231, 2, none⟩ = some (.int .i64 a0_2) ∧ w'.cell? ⟨gb231, 3, none⟩ = some (.int .i64 a0_3) ∧ w'.cell? ⟨gb231, 4, none⟩ = some (.int .i64 a0_4) ∧ w'.cell? ⟨gb231, 5, none⟩ = some (.string a0_5)) (ds := []) #[false, false, false, false, false, false, false] (by kernel_rfl) rfl rfl ⟨ct BK231.out 0, ct BK231.out 1, ct BK231.out 2, ct BK231.out 3, ct BK231.out 4, ct BK231.out 5⟩ (fun hHeld => ?_)
             generalize w73.drew = w75 at BK231 HB hHeld ⊢
             refine pure_ (i := 1) (N := some 33) (v := ?_) (a' := ?_) #[false, true, false, false, false, false, false] rfl rfl (by kernel_rfl) (fun _ _ _ h => h) (Or.inl ⟨by rfl, ?_⟩) ?_ ?_
             rotate_left
             ·intro w'
              go_simp
              with_reducible rfl
             rotate_left
             ·exact nrm
             refine take_ (i := 2) (N := some 34) (v := ?_) (a' := ?_) #[false, true, true, false, false, false, false] rfl rfl (by kernel_rfl) (fun _ _ _ h => h) (Or.inl ⟨by rfl, ?_⟩) hHeld ?_ ?_
             rotate_left
             ·rintro w' ⟨s0, s1, s2, s3, s4, s5⟩
              go_simp
              with_reducible rfl
             rotate_left
             ·exact nrm
             refine one_ (i := 0) (N := some 32) #[true, true, true, false, false, false, false] rfl rfl (by kernel_rfl) (by decide) (fun K hK => ?_)
             refine goes_ Tryz.func50 (by kernel_rfl) rfl #[] (by rfl) rfl rfl mapT ?_
             with_reducible refine (probe_directions.calls  t237 t238 t239 t240 t241 t242 _ A20.out).mono ?_
             rintro e w76 ⟨rfl, hb⟩
             refine ⟨_, rfl, ?_⟩
             have n0_ := mk0 (bbT BK231.out hb)
             have n1_ := mk0 (below_step (wT HB.out) hb)
             clear BK231
             clear HB
             have BK231 := n0_
             have HB := n1_
             clear n0_ n1_
             (try clear hb)
             (try clear hb2)
             (try clear hk)
             (try clear hi)
             refine hK.out _ _ ⟨ct BK231.out 0, ct BK231.out 1, ct BK231.out 2, ct BK231.out 3, ct BK231.out 4, ct BK231.out 5⟩ (fun hHeld => ?_)
             clear hK K
             refine norm_ (a' := ?_) ?_ ?_
             rotate_left
             ·show Act.put _ (some 32) _ = _
              simp only [Act.put, List.setIfInBounds_toArray, List.set_cons_zero, List.set_cons_succ, i64_w, i32_w]
              rfl
             refine take_ (i := 3) (N := some 35) (v := ?_) (a' := ?_) #[true, true, true, true, false, false, false] rfl rfl (by kernel_rfl) (fun _ _ _ h => h) (Or.inl ⟨by rfl, ?_⟩) hHeld ?_ ?_
             rotate_left
             ·rintro w' ⟨s0, s1, s2, s3, s4, s5⟩
              go_simp
              with_reducible rfl
             rotate_left
             ·exact nrm
             refine pure_ (i := 4) (N := some 36) (v := ?_) (a' := ?_) #[true, true, true, true, true, false, false] rfl rfl (by kernel_rfl) (fun _ _ _ h => h) (Or.inl ⟨by rfl, ?_⟩) ?_ ?_
             rotate_left
             ·intro w'
              go_simp
              with_reducible rfl
             rotate_left
             ·exact nrm
             refine pure_ (i := 5) (N := some 2) (v := ?_) (a' := ?_) #[true, true, true, true, true, true, false] rfl rfl (by kernel_rfl) (fun _ _ _ h => h) (Or.inl ⟨by rfl, ?_⟩) ?_ ?_
             rotate_left
             ·intro w'
              go_simp
              with_reducible rfl
             rotate_left
             ·exact nrm
             refine pure_ (i := 6) (N := some 3) (v := ?_) (a' := ?_) #[true, true, true, true, true, true, true] rfl rfl (by kernel_rfl) (fun _ _ _ h => h) (Or.inl ⟨by rfl, ?_⟩) ?_ ?_
             rotate_left
             ·intro w'
              go_simp
              with_reducible rfl
             rotate_left
             ·exact nrm
             refine done_ (by kernel_rfl) ?_
             try go_wp2
             go_ret2
             exact ⟨eqT, wT HB.out⟩
            ·rw [if_neg c70] at H
             exact absurd H (by simp)
           ·rw [if_neg c68] at H
            exact absurd H (by simp)
     ·rw [if_neg c22] at H
      exact absurd H (by simp)
    ·rw [if_neg c21] at H
     exact absurd H (by simp)
   ·rw [if_neg c19] at H
    have c19b0 : (a0_0 == 1) = false := beq_eq_false_iff_ne.mpr c19
    have c19b1 : (a0_0 != 1) = true := bne_iff_ne.mpr c19
    by_cases c77 : 5 + a0_5.size ≤ 9223372036854775807
    ·rw [if_pos c77] at H
     have c77b0 := eq_true c77
     have c77b1 : decide (5 + a0_5.size ≤ 9223372036854775807) = true := decide_eq_true c77
     try have c77b2 : (9223372036854775807 < 5 + a0_5.size) = False := eq_false (Nat.not_lt.2 c77)
     simp only [Option.some.injEq, Prod.mk.injEq] at H
     obtain ⟨rfl, rfl⟩ := H
     go_enter Tryz.func21, Tryz.ntmps21
     go_wp2_with (first | ((with_reducible refine gate_dst (N := 1) rfl ?_); refine box_event ?hg (N := 1) ?hd (cs := #[.int .i64 a0_0, .int .i64 a0_1, .int .i64 a0_2, .int .i64 a0_3, .int .i64 a0_4, .string a0_5]) (t := 47) ?hr ?_; (case hd => rfl); (case hg => rfl); (case hr => first | (go_simp; done) | (go_simp; rfl)); intro gb231 hg w78 hbox hb; have n0_ := mk0 (below_step (wT HB.out) hb); have n1_ := mk0 (hbox); have n2_ := mk0 ((szT HB.out hg)); have n3_ := mk0 ((szT HB.out hg)); clear HB; have HB := n0_; have BK231 := n1_; have GW231 := n2_; have GE231 := n3_; clear n0_ n1_ n2_ n3_; clear hb hbox hg; have X79_0 := ct BK231.out 0; have X79_1 := ct BK231.out 1; have X79_2 := ct BK231.out 2; have X79_3 := ct BK231.out 3; have X79_4 := ct BK231.out 4; have X79_5 := ct BK231.out 5; have Y79_0 := blk_frozen BK231.out 0; have Y79_1 := blk_frozen BK231.out 1; have Y79_2 := blk_frozen BK231.out 2; have Y79_3 := blk_frozen BK231.out 3; have Y79_4 := blk_frozen BK231.out 4; have Y79_5 := blk_frozen BK231.out 5) | ((with_reducible refine gate_callee (f := 25) rfl ?_); refine goesL_ (some 9) rfl rfl Tryz.func25 (by kernel_rfl) rfl #[.agg #[.int .i64 a0_0, .int .i64 a0_1, .int .i64 a0_2, .int .i64 a0_3, .int .i64 a0_4, .string a0_5]] rfl mapT ?_; (with_reducible refine (probe_Right.calls k a0_0 a0_1 a0_2 a0_3 a0_4 a0_5 t232 _ ?side1 A2.out).mono ?_); (case side1 => exact GW_below HG.out (wT HB.out)); rintro e w80 ⟨rfl, hb⟩; refine ⟨_, rfl, ?_⟩; have n0_ := mk0 (bbT BK231.out hb); have n1_ := mk0 (below_step (wT HB.out) hb); clear BK231; clear HB; have BK231 := n0_; have HB := n1_; clear n0_ n1_; (try clear hb); (try clear hb2); (try clear hk); (try clear hi); have X81_0 := ct BK231.out 0; have X81_1 := ct BK231.out 1; have X81_2 := ct BK231.out 2; have X81_3 := ct BK231.out 3; have X81_4 := ct BK231.out 4; have X81_5 := ct BK231.out 5; have Y81_0 := blk_frozen BK231.out 0; have Y81_1 := blk_frozen BK231.out 1; have Y81_2 := blk_frozen BK231.out 2; have Y81_3 := blk_frozen BK231.out 3; have Y81_4 := blk_frozen BK231.out 4; have Y81_5 := blk_frozen BK231.out 5))
     go_ret2
     exact ⟨eqT, wT HB.out⟩
    ·rw [if_neg c77] at H
     exact absurd H (by simp)
 ·rw [if_neg c3] at H
  have c3b0 : (t232 == 0) = false := beq_eq_false_iff_ne.mpr c3
  have c3b1 : (t232 != 0) = true := bne_iff_ne.mpr c3
  simp only [Option.some.injEq, Prod.mk.injEq] at H
  obtain ⟨rfl, rfl⟩ := H
  go_enter Tryz.func21, Tryz.ntmps21
  go_wp2_with (first | ((with_reducible refine gate_dst (N := 1) rfl ?_); refine box_event ?hg (N := 1) ?hd (cs := #[.int .i64 a0_0, .int .i64 a0_1, .int .i64 a0_2, .int .i64 a0_3, .int .i64 a0_4, .string a0_5]) (t := 47) ?hr ?_; (case hd => rfl); (case hg => rfl); (case hr => first | (go_simp; done) | (go_simp; rfl)); intro gb231 hg w82 hbox hb; have n0_ := mk0 (below_step (wT HB.out) hb); have n1_ := mk0 (hbox); have n2_ := mk0 ((szT HB.out hg)); have n3_ := mk0 ((szT HB.out hg)); clear HB; have HB := n0_; have BK231 := n1_; have GW231 := n2_; have GE231 := n3_; clear n0_ n1_ n2_ n3_; clear hb hbox hg; have X83_0 := ct BK231.out 0; have X83_1 := ct BK231.out 1; have X83_2 := ct BK231.out 2; have X83_3 := ct BK231.out 3; have X83_4 := ct BK231.out 4; have X83_5 := ct BK231.out 5; have Y83_0 := blk_frozen BK231.out 0; have Y83_1 := blk_frozen BK231.out 1; have Y83_2 := blk_frozen BK231.out 2; have Y83_3 := blk_frozen BK231.out 3; have Y83_4 := blk_frozen BK231.out 4; have Y83_5 := blk_frozen BK231.out 5; (try clear BK231 GW231 GE231)) | ((with_reducible refine gate_callee (f := 25) rfl ?_); refine goesL_ (some 9) rfl rfl Tryz.func25 (by kernel_rfl) rfl #[.agg #[.int .i64 a0_0, .int .i64 a0_1, .int .i64 a0_2, .int .i64 a0_3, .int .i64 a0_4, .string a0_5]] rfl mapT ?_; (with_reducible refine (probe_Right.calls k a0_0 a0_1 a0_2 a0_3 a0_4 a0_5 t232 _ ?side1 A2.out).mono ?_); (case side1 => exact GW_below HG.out (wT HB.out)); rintro e w84 ⟨rfl, hb⟩; refine ⟨_, rfl, ?_⟩; have n0_ := mk0 (below_step (wT HB.out) hb); clear HB; have HB := n0_; clear n0_; (try clear hb); (try clear hb2); (try clear hk); (try clear hi)))
  go_ret2
  exact ⟨eqT, wT HB.out⟩
end Go.Proofs.YtolbjmaabghghaaGreatDoor.PA
