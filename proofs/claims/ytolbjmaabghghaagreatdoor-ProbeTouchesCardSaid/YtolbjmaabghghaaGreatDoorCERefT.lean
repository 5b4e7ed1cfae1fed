/- A part of the proof. -/
import Derived.Test.YtolbjmaabghghaaGreatDoorCPAx19
import Derived.Test.YtolbjmaabghghaaGreatDoorCPAx20
import Derived.Test.YtolbjmaabghghaaGreatDoorCEWay3
namespace Go.Proofs.YtolbjmaabghghaaGreatDoor.PA
open Go.RowKit Go.PW Go.PL Go.PM
set_option linter.unusedVariables false
set_option linter.unusedSimpArgs false
def metrolabref30_Touched.l0 : Nat → Int → Int → Int → Int → Int → Int → Int → List (S92) → Int → Int → Int → Option (Int × Int × Int × Int × Int × Int × Bool)
 | 0, _, _, _, _, _, _, _, _, _, _, _ => none
 | k + 1, x2, x479000, x479001, x479002, x479003, x479004, x479005, x479006, x483000, x483001, x483002 => (metrolabref07_RightSpot.f x483000 x483001 x483002).bind fun t483 => (if t483 = true then ((metrolabref30_Ahead.f x483000 x483001 x483002 x2).bind fun bt484 => ((metrolabref30_Full.f k x479000 x479001 x479002 x479003 x479004 x479005 x479006 bt484.1 bt484.2.1 bt484.2.2).bind fun t488 => (if t488 = true then (some (bt484.1, bt484.2.1, bt484.2.2, x483000, x483001, x483002, true)) else ((metrolabref30_Ahead.f x483000 x483001 x483002 x2).bind fun bt490 => (metrolabref30_Touched.l0 k x2 x479000 x479001 x479002 x479003 x479004 x479005 x479006 bt490.1 bt490.2.1 bt490.2.2))))) else (some (0, 0, 0, 0, 0, 0, false)))
def metrolabref30_Touched.f (k : Nat) (a0_0 : Int) (a0_1 : Int) (a0_2 : Int) (a0_3 : Int) (a0_4 : Int) (a0_5 : Int) (l0_6 : List (S92)) (a1_0 : Int) (a1_1 : Int) (a1_2 : Int) (a2 : Int) : Option (Int × Int × Int × Int × Int × Int × Bool) := metrolabref30_Touched.l0 k a2 a0_0 a0_1 a0_2 a0_3 a0_4 a0_5 l0_6 a1_0 a1_1 a1_2
set_option maxHeartbeats 8000000 in
set_option maxRecDepth 100000 in
theorem metrolabref30_Touched.calls (k : Nat) (a0_0 : Int) (a0_1 : Int) (a0_2 : Int) (a0_3 : Int) (a0_4 : Int) (a0_5 : Int) (A0_6 : Option Addr) (c0_6 : Nat) (l0_6 : List (S92)) (a1_0 : Int) (a1_1 : Int) (a1_2 : Int) (a2 : Int) (r1 : Int) (r2 : Int) (r3 : Int) (r4 : Int) (r5 : Int) (r6 : Int) (r7 : Bool) (w : World) (hr0_6 : Kd.C k92 w A0_6 l0_6.length l0_6) (hc0_6 : l0_6.length ≤ c0_6) (h : metrolabref30_Touched.f k a0_0 a0_1 a0_2 a0_3 a0_4 a0_5 l0_6 a1_0 a1_1 a1_2 a2 = some (r1, r2, r3, r4, r5, r6, r7)) :
  Calls Tryz.prog 48 #[.agg #[.int .i64 a0_0, .int .i64 a0_1, .int .i64 a0_2, .int .i64 a0_3, .int .i64 a0_4, .int .i64 a0_5, .slice A0_6 l0_6.length c0_6], .agg #[.int .i64 a1_0, .int .i64 a1_1, .int .i64 a1_2], .int .i64 a2] w fun e w' => e = .returned (.tuple #[.agg #[.int .i64 r1, .int .i64 r2, .int .i64 r3], .agg #[.int .i64 r4, .int .i64 r5, .int .i64 r6], .bool r7]) ∧ Below w.heap.size w w' := by
 have hu30 := Tryz.underlying30
 have hu23 := Tryz.underlying23
 have HR := mk0 hr0_6
 have HC := mk0 hc0_6
 have HH := mk0 h
 clear hr0_6 hc0_6 h
 go_enter Tryz.func48, Tryz.ntmps48
 go_wp2
 go_loopg [9] k (fun kq v w' => ∃ (g : Nat) (p : S23), v = .pointer (some ⟨g, 0, none⟩) ∧ Aside0 (metrolabref30_Touched.l0 kq a2 a0_0 a0_1 a0_2 a0_3 a0_4 a0_5 l0_6 p.f0 p.f1 p.f2 = some (r1, r2, r3, r4, r5, r6, r7)) ∧ Aside0 (kq ≤ k) ∧ Aside0 (w'.heap[w.heap.size]? = some (.cells #[.int .i64 a0_0, .int .i64 a0_1, .int .i64 a0_2, .int .i64 a0_3, .int .i64 a0_4, .int .i64 a0_5, .slice A0_6 l0_6.length c0_6] 30 (0, 0))) ∧ Aside0 (w'.heap[w.heap.size + 1 + 1]? = some (.cells #[.int .i64 0, .int .i64 0, .int .i64 0] 23 (0, 0))) ∧ Aside0 (w'.heap[w.heap.size + 1 + 1 + 1]? = some (.cells #[.int .i64 0, .int .i64 0, .int .i64 0] 23 (0, 0))) ∧ Aside0 (w.heap.size + 1 + 1 + 1 < g) ∧ Aside0 (w'.heap[g]? = some (.cells #[.int .i64 p.f0, .int .i64 p.f1, .int .i64 p.f2] 23 (0, 0))) ∧ Aside0 (Below w.heap.size w w'))
 case atStart => exact ⟨_, ⟨a1_0, a1_1, a1_2⟩, rfl, HH, ⟨Nat.le_refl _⟩, ⟨blk_alloc (blk_alloc (blk_alloc (blk_alloc (blk_new w _) _) _) _) _⟩, ⟨blk_alloc (blk_alloc (blk_newE _ _ (by simp)) _) _⟩, ⟨blk_alloc (blk_newE _ _ (by simp)) _⟩, ⟨Nat.lt_succ_self _⟩, ⟨blk_newE _ _ (by simp)⟩, ⟨below_alloc (below_alloc (below_alloc (below_alloc (below_alloc (Below.refl _ _) _) _) _) _) _⟩⟩
 case round =>
  obtain ⟨g, p, rfl, HA, HK1, S0, Y0, Z0, HG, X0, B0⟩ := hrel
  clear HH
  cases gk with
  | zero => exact absurd HA.out (by simp [metrolabref30_Touched.l0])
  | succ k1 =>
   have H := HA.out
   clear HA
   simp only [metrolabref30_Touched.l0] at H
   obtain ⟨b, hb, H⟩ := Option.bind_eq_some_iff.1 H
   have HRS := mk0 hb
   clear hb
   have x0 := ct X0.out 0
   have x1 := ct X0.out 1
   have x2 := ct X0.out 2
   have ny := HG.out
   have NY : Aside0 (w.heap.size + 1 + 1 ≠ g) := ⟨by omega⟩
   have NZ : Aside0 (w.heap.size + 1 + 1 + 1 ≠ g) := ⟨by omega⟩
   clear ny
   cases b
   ·simp only [Bool.false_eq_true, if_false, Option.some.injEq, Prod.mk.injEq] at H
    obtain ⟨rfl, rfl, rfl, rfl, rfl, rfl, rfl⟩ := H
    skip
    go_wp2_with (first | (go_at_call 45; refine (metrolabref07_RightSpot.calls p.f0 p.f1 p.f2 _ _ HRS.out).mono ?_; rintro e W1 ⟨rfl, hb⟩; have S1 := mk0 (blk_below S0.out hb); have X1 := mk0 (blk_below X0.out hb); have Y1 := mk0 (blk_below Y0.out hb); have Z1 := mk0 (blk_below Z0.out hb); have B1 := mk0 (below_step B0.out hb); clear hb x0 x1 x2; have x0 := ct X1.out 0; have x1 := ct X1.out 1; have x2 := ct X1.out 2; have y0 := ct Y1.out 0; have y1 := ct Y1.out 1; have y2 := ct Y1.out 2; have z0 := ct Z1.out 0; have z1 := ct Z1.out 1; have z2 := ct Z1.out 2; have fy0 := blk_frozen Y1.out 0; have fz0 := blk_frozen Z1.out 0; have fy1 := blk_frozen Y1.out 1; have fz1 := blk_frozen Z1.out 1; have fy2 := blk_frozen Y1.out 2; have fz2 := blk_frozen Z1.out 2))
    have by0 := far3 (u := .int .i64 0) (v := .int .i64 0) (z := .int .i64 0) (blk_put (blk_put (blk_put Y1.out 0 (.int .i64 0) rfl) 1 (.int .i64 0) rfl) 2 (.int .i64 0) rfl) (b := w.heap.size + 1 + 1 + 1) (by omega)
    have bz0 := blk_put (blk_put (blk_put (far3 (u := .int .i64 0) (v := .int .i64 0) (z := .int .i64 0) Z1.out (b := w.heap.size + 1 + 1) (by omega)) 0 (.int .i64 0) rfl) 1 (.int .i64 0) rfl) 2 (.int .i64 0) rfl
    have m0 := ct by0 0
    have m1 := ct by0 1
    have m2 := ct by0 2
    have n0 := ct bz0 0
    have n1 := ct bz0 1
    have n2 := ct bz0 2
    refine bodyPost_ret (v := .tuple #[.agg #[.int .i64 0, .int .i64 0, .int .i64 0], .agg #[.int .i64 0, .int .i64 0, .int .i64 0], .bool false]) (by simp [results, Tryz.results48, go_sem, m0, m1, m2, n0, n1, n2, hu23, run_underlying]) rfl ⟨rfl, ?_⟩
    exact (((((B1.out.setCell (by simp; omega) _).setCell (by simp; omega) _).setCell (by simp; omega) _).setCell (by simp; omega) _).setCell (by simp; omega) _).setCell (by simp; omega) _
   simp only [if_true] at H
   obtain ⟨⟨q0, q1, q2⟩, hq, H⟩ := Option.bind_eq_some_iff.1 H
   obtain ⟨t, ht, H⟩ := Option.bind_eq_some_iff.1 H
   have HQ := mk0 hq
   have HF := mk0 ht
   rw [hq] at H
   dsimp only [Option.bind_some] at H
   clear hq ht
   cases t
   ·simp only [Bool.false_eq_true, if_false] at H
    have HN := mk0 H
    clear H
    go_wp2_with (first | (go_at_call 45; refine (metrolabref07_RightSpot.calls p.f0 p.f1 p.f2 _ _ HRS.out).mono ?_; rintro e W1 ⟨rfl, hb⟩; have S1 := mk0 (blk_below S0.out hb); have X1 := mk0 (blk_below X0.out hb); have Y1 := mk0 (blk_below Y0.out hb); have Z1 := mk0 (blk_below Z0.out hb); have B1 := mk0 (below_step B0.out hb); clear hb x0 x1 x2; have x0 := ct X1.out 0; have x1 := ct X1.out 1; have x2 := ct X1.out 2) | (go_at_call 33; refine (metrolabref30_Ahead.calls p.f0 p.f1 p.f2 a2 q0 q1 q2 _ HQ.out).mono ?_; rintro e W2 ⟨rfl, hb⟩; have S2 := mk0 (blk_below S1.out hb); have X2 := mk0 (blk_below X1.out hb); have Y2 := mk0 (blk_below Y1.out hb); have Z2 := mk0 (blk_below Z1.out hb); have B2 := mk0 (below_step B1.out hb); clear hb; have hlt2 : w.heap.size < W2.heap.size := blk_lt S2.out; have s0 := ct S2.out 0; have s1 := ct S2.out 1; have s2 := ct S2.out 2; have s3 := ct S2.out 3; have s4 := ct S2.out 4; have s5 := ct S2.out 5; have s6 := ct S2.out 6) | (go_at_call 41; refine (metrolabref30_Full.calls k1 a0_0 a0_1 a0_2 a0_3 a0_4 a0_5 A0_6 c0_6 l0_6 q0 q1 q2 _ _ (Kd.C_below HR.out (below_alloc B2.out _)) HC.out HF.out).mono ?_; rintro e W3 ⟨rfl, hb⟩; have S3 := mk0 (blk_below (blk_alloc S2.out _) hb); have X3 := mk0 (blk_below (blk_alloc X2.out _) hb); have Y3 := mk0 (blk_below (blk_alloc Y2.out _) hb); have Z3 := mk0 (blk_below (blk_alloc Z2.out _) hb); have Q3 := mk0 (blk_below (blk_new W2 (.cells #[.int .i64 q0, .int .i64 q1, .int .i64 q2] 23)) hb); have B3 := mk0 (below_step (below_alloc B2.out _) hb); clear hb x0 x1 x2 s0 s1 s2 s3 s4 s5 s6 hlt2; have x0 := ct X3.out 0; have x1 := ct X3.out 1; have x2 := ct X3.out 2; have u0 := ct Q3.out 0; have u1 := ct Q3.out 1; have u2 := ct Q3.out 2; have y0 := ct Y3.out 0; have y1 := ct Y3.out 1; have y2 := ct Y3.out 2; have z0 := ct Z3.out 0; have z1 := ct Z3.out 1; have z2 := ct Z3.out 2; have fy0 := blk_frozen Y3.out 0; have fz0 := blk_frozen Z3.out 0; have fy1 := blk_frozen Y3.out 1; have fz1 := blk_frozen Z3.out 1; have fy2 := blk_frozen Y3.out 2; have fz2 := blk_frozen Z3.out 2) | (go_at_call 33; refine (metrolabref30_Ahead.calls p.f0 p.f1 p.f2 a2 q0 q1 q2 _ HQ.out).mono ?_; rintro e W4 ⟨rfl, hb⟩; have S4 := mk0 (blk_below (blk_alloc S3.out _) hb); have Y4 := mk0 (blk_below (blk_alloc Y3.out _) hb); have Z4 := mk0 (blk_below (blk_alloc Z3.out _) hb); have N4 := mk0 (blk_below (blk_new W3 (.cells #[.int .i64 p.f0, .int .i64 p.f1, .int .i64 p.f2] 23)) hb); have B4 := mk0 (below_step (below_alloc B3.out _) hb); clear hb; have n0 := ct N4.out 0; have n1 := ct N4.out 1; have n2 := ct N4.out 2; have fn0 := blk_frozen N4.out 0; have fn1 := blk_frozen N4.out 1; have fn2 := blk_frozen N4.out 2))
    go_roundg k1
    case measure => have := HK1.out; omega
    case rel =>
     have hs : w.heap.size + 1 + 1 + 1 < W3.heap.size := blk_lt Z3.out
     exact ⟨W3.heap.size, ⟨q0, q1, q2⟩, rfl, HN, ⟨by have := HK1.out; omega⟩, ⟨far3 S4.out (by omega)⟩, ⟨far3 Y4.out (by omega)⟩, ⟨far3 Z4.out (by omega)⟩, ⟨hs⟩, ⟨blk_put (blk_put (blk_put N4.out 0 _ rfl) 1 _ rfl) 2 _ rfl⟩, ⟨((B4.out.setCell (by simp; omega) _).setCell (by simp; omega) _).setCell (by simp; omega) _⟩⟩
   ·simp only [if_true, Option.some.injEq, Prod.mk.injEq] at H
    obtain ⟨rfl, rfl, rfl, rfl, rfl, rfl, rfl⟩ := H
    go_wp2_with (first | (go_at_call 45; refine (metrolabref07_RightSpot.calls p.f0 p.f1 p.f2 _ _ HRS.out).mono ?_; rintro e W1 ⟨rfl, hb⟩; have S1 := mk0 (blk_below S0.out hb); have X1 := mk0 (blk_below X0.out hb); have Y1 := mk0 (blk_below Y0.out hb); have Z1 := mk0 (blk_below Z0.out hb); have B1 := mk0 (below_step B0.out hb); clear hb x0 x1 x2; have x0 := ct X1.out 0; have x1 := ct X1.out 1; have x2 := ct X1.out 2) | (go_at_call 33; refine (metrolabref30_Ahead.calls p.f0 p.f1 p.f2 a2 q0 q1 q2 _ HQ.out).mono ?_; rintro e W2 ⟨rfl, hb⟩; have S2 := mk0 (blk_below S1.out hb); have X2 := mk0 (blk_below X1.out hb); have Y2 := mk0 (blk_below Y1.out hb); have Z2 := mk0 (blk_below Z1.out hb); have B2 := mk0 (below_step B1.out hb); clear hb; have hlt2 : w.heap.size < W2.heap.size := blk_lt S2.out; have s0 := ct S2.out 0; have s1 := ct S2.out 1; have s2 := ct S2.out 2; have s3 := ct S2.out 3; have s4 := ct S2.out 4; have s5 := ct S2.out 5; have s6 := ct S2.out 6) | (go_at_call 41; refine (metrolabref30_Full.calls k1 a0_0 a0_1 a0_2 a0_3 a0_4 a0_5 A0_6 c0_6 l0_6 q0 q1 q2 _ _ (Kd.C_below HR.out (below_alloc B2.out _)) HC.out HF.out).mono ?_; rintro e W3 ⟨rfl, hb⟩; have S3 := mk0 (blk_below (blk_alloc S2.out _) hb); have X3 := mk0 (blk_below (blk_alloc X2.out _) hb); have Y3 := mk0 (blk_below (blk_alloc Y2.out _) hb); have Z3 := mk0 (blk_below (blk_alloc Z2.out _) hb); have Q3 := mk0 (blk_below (blk_new W2 (.cells #[.int .i64 q0, .int .i64 q1, .int .i64 q2] 23)) hb); have B3 := mk0 (below_step (below_alloc B2.out _) hb); clear hb x0 x1 x2 s0 s1 s2 s3 s4 s5 s6 hlt2; have x0 := ct X3.out 0; have x1 := ct X3.out 1; have x2 := ct X3.out 2; have u0 := ct Q3.out 0; have u1 := ct Q3.out 1; have u2 := ct Q3.out 2; have y0 := ct Y3.out 0; have y1 := ct Y3.out 1; have y2 := ct Y3.out 2; have z0 := ct Z3.out 0; have z1 := ct Z3.out 1; have z2 := ct Z3.out 2; have fy0 := blk_frozen Y3.out 0; have fz0 := blk_frozen Z3.out 0; have fy1 := blk_frozen Y3.out 1; have fz1 := blk_frozen Z3.out 1; have fy2 := blk_frozen Y3.out 2; have fz2 := blk_frozen Z3.out 2))
    have hq2 : w.heap.size + 1 + 1 + 1 < W2.heap.size := blk_lt Z2.out
    have e1 : w.heap.size + 1 + 1 ≠ W2.heap.size := by omega
    have e2 : w.heap.size + 1 + 1 + 1 ≠ W2.heap.size := by omega
    have e3 : W2.heap.size ≠ w.heap.size + 1 + 1 := by omega
    have e4 : W2.heap.size ≠ w.heap.size + 1 + 1 + 1 := by omega
    have e5 : g ≠ w.heap.size + 1 + 1 := Ne.symm NY.out
    have e6 : g ≠ w.heap.size + 1 + 1 + 1 := Ne.symm NZ.out
    clear hq2
    go_region
    all_goals go_wp2
    all_goals
     have by0 := far3 (u := .int .i64 p.f0) (v := .int .i64 p.f1) (z := .int .i64 p.f2) (blk_put (blk_put (blk_put Y3.out 0 (.int .i64 q0) rfl) 1 (.int .i64 q1) rfl) 2 (.int .i64 q2) rfl) (b := w.heap.size + 1 + 1 + 1) (by omega)
     have bz0 := blk_put (blk_put (blk_put (far3 (u := .int .i64 q0) (v := .int .i64 q1) (z := .int .i64 q2) Z3.out (b := w.heap.size + 1 + 1) (by omega)) 0 (.int .i64 p.f0) rfl) 1 (.int .i64 p.f1) rfl) 2 (.int .i64 p.f2) rfl
     have m0 := (blk_cell (blk_drew by0) 0).trans rfl
     have m1 := (blk_cell (blk_drew by0) 1).trans rfl
     have m2 := (blk_cell (blk_drew by0) 2).trans rfl
     have n0 := (blk_cell (blk_drew bz0) 0).trans rfl
     have n1 := (blk_cell (blk_drew bz0) 1).trans rfl
     have n2 := (blk_cell (blk_drew bz0) 2).trans rfl
     refine bodyPost_ret (v := .tuple #[.agg #[.int .i64 q0, .int .i64 q1, .int .i64 q2], .agg #[.int .i64 p.f0, .int .i64 p.f1, .int .i64 p.f2], .bool true]) (by simp [results, Tryz.results48, go_sem, m0, m1, m2, n0, n1, n2, hu23, run_underlying]) rfl ⟨rfl, ?_⟩
     exact below_drew1 ((((((B3.out.setCell (by simp; omega) _).setCell (by simp; omega) _).setCell (by simp; omega) _).setCell (by simp; omega) _).setCell (by simp; omega) _).setCell (by simp; omega) _)
end Go.Proofs.YtolbjmaabghghaaGreatDoor.PA
