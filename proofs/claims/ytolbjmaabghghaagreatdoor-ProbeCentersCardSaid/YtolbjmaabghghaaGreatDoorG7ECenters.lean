/- A part of the proof. -/
import Derived.Test.YtolbjmaabghghaaGreatDoorG7PAx7
import Derived.Test.YtolbjmaabghghaaGreatDoorG7PAx16
import Derived.Test.YtolbjmaabghghaaGreatDoorG7EWay3
import Derived.ChangeKeysEq
namespace Go.Proofs.YtolbjmaabghghaaGreatDoor.PA
open Go.RowKit Go.PW Go.PL Go.PM
set_option linter.unusedVariables false
set_option linter.unusedSimpArgs false
theorem run_part81 (cs : Array Value) (off : Nat) (w : World) : (part 81 cs off).run Tryz.prog w = .ok (.agg (cs.extract off (off + 2))) w := by
 obtain ⟨i, hi⟩ := Option.isSome_iff_exists.1 (by kernel_rfl : (Tryz.prog.info? 81).isSome = true)
 have hc : Tryz.prog.cellsOf 81 = 2 := by kernel_rfl
 simp [part, isAgg, run_underlying Tryz.underlying81, run_sizeOf w hi, hc, Sem.run_bind]
theorem run_index82 (cs : Array Value) (i : Int) (h0 : 0 ≤ i) (h3 : i < 3) (w : World) : (Instr.index 82 (.agg cs) (.int .i64 i)).run Tryz.prog w = .ok (.agg (cs.extract (i.toNat * 2) (i.toNat * 2 + 2))) w := by
 obtain ⟨j, hj⟩ := Option.isSome_iff_exists.1 (by kernel_rfl : (Tryz.prog.info? 81).isSome = true)
 have hc : Tryz.prog.cellsOf 81 = 2 := by kernel_rfl
 simp [Instr.index, asIntOf, run_underlying Tryz.underlying82, run_sizeOf w hj, hc, Sem.run_bind, h0, h3, run_part81]
theorem run_index82_0 (a b c d e f : Value) (w : World) : (Instr.index 82 (.agg #[a, b, c, d, e, f]) (.int .i64 0)).run Tryz.prog w = .ok (.agg #[a, b]) w := by
 rw [run_index82 _ _ (by decide) (by decide)]; rfl
theorem run_index82_1 (a b c d e f : Value) (w : World) : (Instr.index 82 (.agg #[a, b, c, d, e, f]) (.int .i64 1)).run Tryz.prog w = .ok (.agg #[c, d]) w := by
 rw [run_index82 _ _ (by decide) (by decide)]; rfl
theorem run_index82_2 (a b c d e f : Value) (w : World) : (Instr.index 82 (.agg #[a, b, c, d, e, f]) (.int .i64 2)).run Tryz.prog w = .ok (.agg #[e, f]) w := by
 rw [run_index82 _ _ (by decide) (by decide)]; rfl
attribute [local go_sem] run_index82_0 run_index82_1 run_index82_2
theorem C_one84 {w : World} {g : Nat} {a x y n : Int} (h : w.heap[g]? = some (.cells #[.int .i64 a, .int .i64 x, .int .i64 y, .int .i64 n] 84 (0, 0))) : Kd.C k84 w (some ⟨g, 0, none⟩) 1 [⟨a, ⟨x, y⟩, n⟩] := by
 refine ⟨rfl, by decide, fun _ => ⟨_, rfl, fun j p hj => ?_⟩⟩
 have hj0 : j = 0 := by
  have := (List.getElem?_eq_some_iff.1 hj).1
  simpa using this
 subst hj0
 obtain rfl : (⟨a, ⟨x, y⟩, n⟩ : S84) = p := by simpa using hj
 refine ⟨_, rfl, k84_mk w ⟨a, ⟨x, y⟩, n⟩, fun i u hi => ?_⟩
 rcases i with _ | _ | _ | _ | i
 ·obtain rfl : Value.int .i64 a = u := by simpa using hi
  exact ct h 0
 ·obtain rfl : Value.int .i64 x = u := by simpa using hi
  exact ct h 1
 ·obtain rfl : Value.int .i64 y = u := by simpa using hi
  exact ct h 2
 ·obtain rfl : Value.int .i64 n = u := by simpa using hi
  exact ct h 3
 ·simp at hi
def twoT (k : Nat) (l : List S84) (x y z n d : Int) : Prop := ∃ X0 X1 X2 X3 X4 X5 Y0 Y1 Y2 Y3 Y4 Y5 : Int,
 probe_Touch.f k (-400) (-400) (-400) 400 400 400 l x y z (2 * d) = some (X0, X1, X2, X3, X4, X5, 0) ∧ probe_Touch.f k (-400) (-400) (-400) 400 400 400 l x y z (2 * d + 1) = some (Y0, Y1, Y2, Y3, Y4, Y5, 0) ∧
 ((-1000 ≤ X0 ∧ X0 ≤ 1000) ∧ (-1000 ≤ X1 ∧ X1 ≤ 1000) ∧ (-1000 ≤ X2 ∧ X2 ≤ 1000)) ∧ ((-1000 ≤ Y0 ∧ Y0 ≤ 1000) ∧ (-1000 ≤ Y1 ∧ Y1 ≤ 1000) ∧ (-1000 ≤ Y2 ∧ Y2 ≤ 1000)) ∧
 X0 + Y0 = 2 * x ∧ X1 + Y1 = 2 * y ∧ X2 + Y2 = 2 * z ∧ n ≤ 2 * (X0 - x + X1 - y + X2 - z) ∧ 2 * (X0 - x + X1 - y + X2 - z - 1) < n
set_option maxHeartbeats 8000000 in
set_option maxRecDepth 100000 in
theorem centers0.calls (K : Nat) (n0 ax x y z : Int) (hn : 0 ≤ n0 ∧ n0 ≤ 255) (ha : 0 ≤ ax ∧ ax ≤ 255) (hx : -128 ≤ x ∧ x ≤ 127) (hy : -128 ≤ y ∧ y ≤ 127) (hz : -128 ≤ z ∧ z ≤ 127) (hk : ax % 3 = 0) (w : World) (hG : GW w)
  (hA : metrolablaw30_awake.f K = some true) (h1 : twoT K [⟨0, ⟨y, z⟩, 2 + n0⟩] x y z (2 + n0) 1) (h2 : twoT K [⟨0, ⟨y, z⟩, 2 + n0⟩] x y z (2 + n0) 2) :
  Calls Tryz.prog 8 #[.int .u8 n0, .int .u8 ax, .agg #[.int .i8 x, .int .i8 y, .int .i8 z]] w fun e w' => e = .returned (.bool true) ∧ Below w.heap.size w w' := by
 obtain ⟨hn0, hn1⟩ := hn
 obtain ⟨ha0, ha1⟩ := ha
 obtain ⟨hx0, hx1⟩ := hx
 obtain ⟨hy0, hy1⟩ := hy
 obtain ⟨hz0, hz1⟩ := hz
 have HG := mk0 hG
 have HA := mk0 hA
 have H1 := mk0 h1
 have H2 := mk0 h2
 clear hG hA h1 h2
 have hu26 := Tryz.underlying26
 have hu23 := Tryz.underlying23
 go_enter Tryz.func8, Tryz.ntmps8
 go_wp2
 rw [hk]
 clear hk
 go_loopw [62] (fun i wr => ∃ k : Nat, k ≤ 3 ∧ i = .int .i64 k ∧ Aside0 (Below w.heap.size w wr) ∧ Aside0 (wr.heap[w.heap.size + 1]? = some (.cells #[.int .i64 x, .int .i64 y, .int .i64 z] 23 (0, 0))) ∧ Aside0 (wr.heap[w.heap.size + 1 + 1 + 1]? = some (.cells #[.int .i64 0, .int .i64 y, .int .i64 z, .int .i64 (2 + n0)] 84 (0, 0))) ∧ Aside0 (wr.heap[w.heap.size + 1 + 1 + 1 + 1]? = some (.cells #[.int .i64 (-400), .int .i64 (-400), .int .i64 (-400), .int .i64 400, .int .i64 400, .int .i64 400, .slice (some ⟨w.heap.size + 1 + 1 + 1, 0, none⟩) 1 1] 26 (0, 0)))) (fun i _ => 3 - (intOf i).toNat)
 case atStart =>
  refine ⟨0, by decide, rfl, ⟨below_alloc (below_alloc (below_alloc (below_alloc (below_alloc (Below.refl w.heap.size w) _) _) _) _) _⟩, ⟨?_⟩, ⟨?_⟩, ⟨?_⟩⟩
  ·exact blk_alloc (blk_alloc (blk_alloc (blk_newE _ _ (by simp)) _) _) _
  ·exact blk_alloc (blk_newE _ _ (by simp)) _
  ·exact blk_newE _ _ (by simp)
 case round =>
  rename_i wr
  obtain ⟨k, hk3, rfl, HB, B9, B10, B11⟩ := hrel
  have hkc : k = 0 ∨ k = 1 ∨ k = 2 ∨ k = 3 := by omega
  rcases hkc with rfl | rfl | rfl | rfl
  ·go_wp2
   go_roundw
   case rel => exact ⟨1, by decide, rfl, HB, B9, B10, B11⟩
   case measure => simp [intOf]
  ·obtain ⟨X0, X1, X2, X3, X4, X5, Y0, Y1, Y2, Y3, Y4, Y5, t1, t2, ⟨⟨x00, x01⟩, ⟨x10, x11⟩, x20, x21⟩, ⟨⟨y00, y01⟩, ⟨y10, y11⟩, y20, y21⟩, e0, e1, e2, f1, f2⟩ := H1.out
   have T1 := mk0 t1
   have T2 := mk0 t2
   have q0 : (X0 + Y0 != 2 * x) = false := bne_eq_false_iff_eq.2 e0
   have q1 : (X1 + Y1 != 2 * y) = false := bne_eq_false_iff_eq.2 e1
   have q2 : (X2 + Y2 != 2 * z) = false := bne_eq_false_iff_eq.2 e2
   have q3 : decide (2 * (X0 - x + X1 - y + X2 - z) < 2 + n0) = false := decide_eq_false (by omega)
   have q4 : decide (2 + n0 ≤ 2 * (X0 - x + X1 - y + X2 - z - 1)) = false := decide_eq_false (by omega)
   have q5 : decide (2 * (X0 - x + X1 - y + X2 - z - 1) ≥ 2 + n0) = false := decide_eq_false (by omega)
   clear t1 t2 e0 e1 e2 f1 f2
   have c11_0 := ct B11.out 0
   have g11_0 := blk_frozen B11.out 0
   have c11_1 := ct B11.out 1
   have g11_1 := blk_frozen B11.out 1
   have c11_2 := ct B11.out 2
   have g11_2 := blk_frozen B11.out 2
   have c11_3 := ct B11.out 3
   have g11_3 := blk_frozen B11.out 3
   have c11_4 := ct B11.out 4
   have g11_4 := blk_frozen B11.out 4
   have c11_5 := ct B11.out 5
   have g11_5 := blk_frozen B11.out 5
   have c11_6 := ct B11.out 6
   have g11_6 := blk_frozen B11.out 6
   have c9_0 := ct B9.out 0
   have g9_0 := blk_frozen B9.out 0
   have c9_1 := ct B9.out 1
   have g9_1 := blk_frozen B9.out 1
   have c9_2 := ct B9.out 2
   have g9_2 := blk_frozen B9.out 2
   go_wp2_with (first
    | (go_at_call 19; refine (probe_Touch.calls K (-400) (-400) (-400) 400 400 400 (some ⟨w.heap.size + 1 + 1 + 1, 0, none⟩) 1 [⟨0, ⟨y, z⟩, 2 + n0⟩] x y z 2 X0 X1 X2 X3 X4 X5 0 wr (C_one84 B10.out) (Nat.le_refl 1) T1.out).mono ?_; rintro e W1 ⟨rfl, hb⟩; clear T1 c11_0 g11_0 c11_1 g11_1 c11_2 g11_2 c11_3 g11_3 c11_4 g11_4 c11_5 g11_5 c11_6 g11_6 c9_0 g9_0 c9_1 g9_1 c9_2 g9_2; have HB1 := mk0 (below_step HB.out hb); have D9 := mk0 (blk_below B9.out hb); have D10 := mk0 (blk_below B10.out hb); have D11 := mk0 (blk_below B11.out hb); clear hb; have E11 := mk0 (blk_alloc (blk_alloc D11.out (.cells #[.int .i64 X0, .int .i64 X1, .int .i64 X2] 23)) (.cells #[.int .i64 X3, .int .i64 X4, .int .i64 X5] 23)); have E9 := mk0 (blk_alloc (blk_alloc D9.out (.cells #[.int .i64 X0, .int .i64 X1, .int .i64 X2] 23)) (.cells #[.int .i64 X3, .int .i64 X4, .int .i64 X5] 23)); have c11_0 := ct E11.out 0; have g11_0 := blk_frozen E11.out 0; have c11_1 := ct E11.out 1; have g11_1 := blk_frozen E11.out 1; have c11_2 := ct E11.out 2; have g11_2 := blk_frozen E11.out 2; have c11_3 := ct E11.out 3; have g11_3 := blk_frozen E11.out 3; have c11_4 := ct E11.out 4; have g11_4 := blk_frozen E11.out 4; have c11_5 := ct E11.out 5; have g11_5 := blk_frozen E11.out 5; have c11_6 := ct E11.out 6; have g11_6 := blk_frozen E11.out 6; have c9_0 := ct E9.out 0; have g9_0 := blk_frozen E9.out 0; have c9_1 := ct E9.out 1; have g9_1 := blk_frozen E9.out 1; have c9_2 := ct E9.out 2; have g9_2 := blk_frozen E9.out 2; have L1 := blk_lt D11.out)
    | (go_at_call 19; refine (probe_Touch.calls K (-400) (-400) (-400) 400 400 400 (some ⟨w.heap.size + 1 + 1 + 1, 0, none⟩) 1 [⟨0, ⟨y, z⟩, 2 + n0⟩] x y z 3 Y0 Y1 Y2 Y3 Y4 Y5 0 _ (C_one84 (blk_alloc (blk_alloc D10.out _) _)) (Nat.le_refl 1) T2.out).mono ?_; rintro e W2 ⟨rfl, hb⟩; clear T2 c11_0 g11_0 c11_1 g11_1 c11_2 g11_2 c11_3 g11_3 c11_4 g11_4 c11_5 g11_5 c11_6 g11_6 c9_0 g9_0 c9_1 g9_1 c9_2 g9_2; have HB2 := mk0 (below_step (below_alloc (below_alloc HB1.out _) _) hb); have DX := mk0 (blk_below (blk_alloc (blk_new W1 (.cells #[.int .i64 X0, .int .i64 X1, .int .i64 X2] 23)) _) hb); have R9 := mk0 (blk_below (blk_alloc (blk_alloc D9.out _) _) hb); have R10 := mk0 (blk_below (blk_alloc (blk_alloc D10.out _) _) hb); have R11 := mk0 (blk_below (blk_alloc (blk_alloc D11.out _) _) hb); clear hb; have S7 := mk0 (blk_alloc (blk_alloc DX.out (.cells #[.int .i64 Y0, .int .i64 Y1, .int .i64 Y2] 23)) (.cells #[.int .i64 Y3, .int .i64 Y4, .int .i64 Y5] 23)); have S9 := mk0 (blk_alloc (blk_alloc R9.out (.cells #[.int .i64 Y0, .int .i64 Y1, .int .i64 Y2] 23)) (.cells #[.int .i64 Y3, .int .i64 Y4, .int .i64 Y5] 23)); have c7_0 := ct S7.out 0; have g7_0 := blk_frozen S7.out 0; have c7_1 := ct S7.out 1; have g7_1 := blk_frozen S7.out 1; have c7_2 := ct S7.out 2; have g7_2 := blk_frozen S7.out 2; have c9_0 := ct S9.out 0; have g9_0 := blk_frozen S9.out 0; have c9_1 := ct S9.out 1; have g9_1 := blk_frozen S9.out 1; have c9_2 := ct S9.out 2; have g9_2 := blk_frozen S9.out 2; have L2 := blk_lt DX.out; have L3 := blk_lt R9.out))
   go_roundw
   case rel => exact ⟨2, by decide, rfl, ⟨below_alloc (below_alloc HB2.out _) _⟩, ⟨blk_alloc (blk_alloc R9.out _) _⟩, ⟨blk_alloc (blk_alloc R10.out _) _⟩, ⟨blk_alloc (blk_alloc R11.out _) _⟩⟩
   case measure => simp [intOf]
  ·obtain ⟨X0, X1, X2, X3, X4, X5, Y0, Y1, Y2, Y3, Y4, Y5, t1, t2, ⟨⟨x00, x01⟩, ⟨x10, x11⟩, x20, x21⟩, ⟨⟨y00, y01⟩, ⟨y10, y11⟩, y20, y21⟩, e0, e1, e2, f1, f2⟩ := H2.out
   have T1 := mk0 t1
   have T2 := mk0 t2
   have q0 : (X0 + Y0 != 2 * x) = false := bne_eq_false_iff_eq.2 e0
   have q1 : (X1 + Y1 != 2 * y) = false := bne_eq_false_iff_eq.2 e1
   have q2 : (X2 + Y2 != 2 * z) = false := bne_eq_false_iff_eq.2 e2
   have q3 : decide (2 * (X0 - x + X1 - y + X2 - z) < 2 + n0) = false := decide_eq_false (by omega)
   have q4 : decide (2 + n0 ≤ 2 * (X0 - x + X1 - y + X2 - z - 1)) = false := decide_eq_false (by omega)
   have q5 : decide (2 * (X0 - x + X1 - y + X2 - z - 1) ≥ 2 + n0) = false := decide_eq_false (by omega)
   clear t1 t2 e0 e1 e2 f1 f2
   have c11_0 := ct B11.out 0
   have g11_0 := blk_frozen B11.out 0
   have c11_1 := ct B11.out 1
   have g11_1 := blk_frozen B11.out 1
   have c11_2 := ct B11.out 2
   have g11_2 := blk_frozen B11.out 2
   have c11_3 := ct B11.out 3
   have g11_3 := blk_frozen B11.out 3
   have c11_4 := ct B11.out 4
   have g11_4 := blk_frozen B11.out 4
   have c11_5 := ct B11.out 5
   have g11_5 := blk_frozen B11.out 5
   have c11_6 := ct B11.out 6
   have g11_6 := blk_frozen B11.out 6
   have c9_0 := ct B9.out 0
   have g9_0 := blk_frozen B9.out 0
   have c9_1 := ct B9.out 1
   have g9_1 := blk_frozen B9.out 1
   have c9_2 := ct B9.out 2
   have g9_2 := blk_frozen B9.out 2
   go_wp2_with (first
    | (go_at_call 19; refine (probe_Touch.calls K (-400) (-400) (-400) 400 400 400 (some ⟨w.heap.size + 1 + 1 + 1, 0, none⟩) 1 [⟨0, ⟨y, z⟩, 2 + n0⟩] x y z 4 X0 X1 X2 X3 X4 X5 0 wr (C_one84 B10.out) (Nat.le_refl 1) T1.out).mono ?_; rintro e W1 ⟨rfl, hb⟩; clear T1 c11_0 g11_0 c11_1 g11_1 c11_2 g11_2 c11_3 g11_3 c11_4 g11_4 c11_5 g11_5 c11_6 g11_6 c9_0 g9_0 c9_1 g9_1 c9_2 g9_2; have HB1 := mk0 (below_step HB.out hb); have D9 := mk0 (blk_below B9.out hb); have D10 := mk0 (blk_below B10.out hb); have D11 := mk0 (blk_below B11.out hb); clear hb; have E11 := mk0 (blk_alloc (blk_alloc D11.out (.cells #[.int .i64 X0, .int .i64 X1, .int .i64 X2] 23)) (.cells #[.int .i64 X3, .int .i64 X4, .int .i64 X5] 23)); have E9 := mk0 (blk_alloc (blk_alloc D9.out (.cells #[.int .i64 X0, .int .i64 X1, .int .i64 X2] 23)) (.cells #[.int .i64 X3, .int .i64 X4, .int .i64 X5] 23)); have c11_0 := ct E11.out 0; have g11_0 := blk_frozen E11.out 0; have c11_1 := ct E11.out 1; have g11_1 := blk_frozen E11.out 1; have c11_2 := ct E11.out 2; have g11_2 := blk_frozen E11.out 2; have c11_3 := ct E11.out 3; have g11_3 := blk_frozen E11.out 3; have c11_4 := ct E11.out 4; have g11_4 := blk_frozen E11.out 4; have c11_5 := ct E11.out 5; have g11_5 := blk_frozen E11.out 5; have c11_6 := ct E11.out 6; have g11_6 := blk_frozen E11.out 6; have c9_0 := ct E9.out 0; have g9_0 := blk_frozen E9.out 0; have c9_1 := ct E9.out 1; have g9_1 := blk_frozen E9.out 1; have c9_2 := ct E9.out 2; have g9_2 := blk_frozen E9.out 2; have L1 := blk_lt D11.out)
    | (go_at_call 19; refine (probe_Touch.calls K (-400) (-400) (-400) 400 400 400 (some ⟨w.heap.size + 1 + 1 + 1, 0, none⟩) 1 [⟨0, ⟨y, z⟩, 2 + n0⟩] x y z 5 Y0 Y1 Y2 Y3 Y4 Y5 0 _ (C_one84 (blk_alloc (blk_alloc D10.out _) _)) (Nat.le_refl 1) T2.out).mono ?_; rintro e W2 ⟨rfl, hb⟩; clear T2 c11_0 g11_0 c11_1 g11_1 c11_2 g11_2 c11_3 g11_3 c11_4 g11_4 c11_5 g11_5 c11_6 g11_6 c9_0 g9_0 c9_1 g9_1 c9_2 g9_2; have HB2 := mk0 (below_step (below_alloc (below_alloc HB1.out _) _) hb); have DX := mk0 (blk_below (blk_alloc (blk_new W1 (.cells #[.int .i64 X0, .int .i64 X1, .int .i64 X2] 23)) _) hb); have R9 := mk0 (blk_below (blk_alloc (blk_alloc D9.out _) _) hb); have R10 := mk0 (blk_below (blk_alloc (blk_alloc D10.out _) _) hb); have R11 := mk0 (blk_below (blk_alloc (blk_alloc D11.out _) _) hb); clear hb; have S7 := mk0 (blk_alloc (blk_alloc DX.out (.cells #[.int .i64 Y0, .int .i64 Y1, .int .i64 Y2] 23)) (.cells #[.int .i64 Y3, .int .i64 Y4, .int .i64 Y5] 23)); have S9 := mk0 (blk_alloc (blk_alloc R9.out (.cells #[.int .i64 Y0, .int .i64 Y1, .int .i64 Y2] 23)) (.cells #[.int .i64 Y3, .int .i64 Y4, .int .i64 Y5] 23)); have c7_0 := ct S7.out 0; have g7_0 := blk_frozen S7.out 0; have c7_1 := ct S7.out 1; have g7_1 := blk_frozen S7.out 1; have c7_2 := ct S7.out 2; have g7_2 := blk_frozen S7.out 2; have c9_0 := ct S9.out 0; have g9_0 := blk_frozen S9.out 0; have c9_1 := ct S9.out 1; have g9_1 := blk_frozen S9.out 1; have c9_2 := ct S9.out 2; have g9_2 := blk_frozen S9.out 2; have L2 := blk_lt DX.out; have L3 := blk_lt R9.out))
   go_roundw
   case rel => exact ⟨3, by decide, rfl, ⟨below_alloc (below_alloc HB2.out _) _⟩, ⟨blk_alloc (blk_alloc R9.out _) _⟩, ⟨blk_alloc (blk_alloc R10.out _) _⟩, ⟨blk_alloc (blk_alloc R11.out _) _⟩⟩
   case measure => simp [intOf]
  ·go_wp2_with (go_at_call 14; refine (metrolablaw30_awake.calls K true wr (GW_below HG.out HB.out) HA.out).mono ?_; rintro e W1 ⟨rfl, hb⟩; have HB1 := mk0 (below_step HB.out hb); clear hb)
   go_ret
   exact ⟨rfl, HB1.out⟩
set_option maxHeartbeats 8000000 in
set_option maxRecDepth 100000 in
theorem centers1.calls (K : Nat) (n0 ax x y z : Int) (hn : 0 ≤ n0 ∧ n0 ≤ 255) (ha : 0 ≤ ax ∧ ax ≤ 255) (hx : -128 ≤ x ∧ x ≤ 127) (hy : -128 ≤ y ∧ y ≤ 127) (hz : -128 ≤ z ∧ z ≤ 127) (hk : ax % 3 = 1) (w : World) (hG : GW w)
  (hA : metrolablaw30_awake.f K = some true) (h0 : twoT K [⟨1, ⟨x, z⟩, 2 + n0⟩] x y z (2 + n0) 0) (h2 : twoT K [⟨1, ⟨x, z⟩, 2 + n0⟩] x y z (2 + n0) 2) :
  Calls Tryz.prog 8 #[.int .u8 n0, .int .u8 ax, .agg #[.int .i8 x, .int .i8 y, .int .i8 z]] w fun e w' => e = .returned (.bool true) ∧ Below w.heap.size w w' := by
 obtain ⟨hn0, hn1⟩ := hn
 obtain ⟨ha0, ha1⟩ := ha
 obtain ⟨hx0, hx1⟩ := hx
 obtain ⟨hy0, hy1⟩ := hy
 obtain ⟨hz0, hz1⟩ := hz
 have HG := mk0 hG
 have HA := mk0 hA
 have H0 := mk0 h0
 have H2 := mk0 h2
 clear hG hA h0 h2
 have hu26 := Tryz.underlying26
 have hu23 := Tryz.underlying23
 go_enter Tryz.func8, Tryz.ntmps8
 go_wp2
 rw [hk]
 clear hk
 go_loopw [62] (fun i wr => ∃ k : Nat, k ≤ 3 ∧ i = .int .i64 k ∧ Aside0 (Below w.heap.size w wr) ∧ Aside0 (wr.heap[w.heap.size + 1]? = some (.cells #[.int .i64 x, .int .i64 y, .int .i64 z] 23 (0, 0))) ∧ Aside0 (wr.heap[w.heap.size + 1 + 1 + 1]? = some (.cells #[.int .i64 1, .int .i64 x, .int .i64 z, .int .i64 (2 + n0)] 84 (0, 0))) ∧ Aside0 (wr.heap[w.heap.size + 1 + 1 + 1 + 1]? = some (.cells #[.int .i64 (-400), .int .i64 (-400), .int .i64 (-400), .int .i64 400, .int .i64 400, .int .i64 400, .slice (some ⟨w.heap.size + 1 + 1 + 1, 0, none⟩) 1 1] 26 (0, 0)))) (fun i _ => 3 - (intOf i).toNat)
 case atStart =>
  refine ⟨0, by decide, rfl, ⟨below_alloc (below_alloc (below_alloc (below_alloc (below_alloc (Below.refl w.heap.size w) _) _) _) _) _⟩, ⟨?_⟩, ⟨?_⟩, ⟨?_⟩⟩
  ·exact blk_alloc (blk_alloc (blk_alloc (blk_newE _ _ (by simp)) _) _) _
  ·exact blk_alloc (blk_newE _ _ (by simp)) _
  ·exact blk_newE _ _ (by simp)
 case round =>
  rename_i wr
  obtain ⟨k, hk3, rfl, HB, B9, B10, B11⟩ := hrel
  have hkc : k = 0 ∨ k = 1 ∨ k = 2 ∨ k = 3 := by omega
  rcases hkc with rfl | rfl | rfl | rfl
  ·obtain ⟨X0, X1, X2, X3, X4, X5, Y0, Y1, Y2, Y3, Y4, Y5, t1, t2, ⟨⟨x00, x01⟩, ⟨x10, x11⟩, x20, x21⟩, ⟨⟨y00, y01⟩, ⟨y10, y11⟩, y20, y21⟩, e0, e1, e2, f1, f2⟩ := H0.out
   have T1 := mk0 t1
   have T2 := mk0 t2
   have q0 : (X0 + Y0 != 2 * x) = false := bne_eq_false_iff_eq.2 e0
   have q1 : (X1 + Y1 != 2 * y) = false := bne_eq_false_iff_eq.2 e1
   have q2 : (X2 + Y2 != 2 * z) = false := bne_eq_false_iff_eq.2 e2
   have q3 : decide (2 * (X0 - x + X1 - y + X2 - z) < 2 + n0) = false := decide_eq_false (by omega)
   have q4 : decide (2 + n0 ≤ 2 * (X0 - x + X1 - y + X2 - z - 1)) = false := decide_eq_false (by omega)
   have q5 : decide (2 * (X0 - x + X1 - y + X2 - z - 1) ≥ 2 + n0) = false := decide_eq_false (by omega)
   clear t1 t2 e0 e1 e2 f1 f2
   have c11_0 := ct B11.out 0
   have g11_0 := blk_frozen B11.out 0
   have c11_1 := ct B11.out 1
   have g11_1 := blk_frozen B11.out 1
   have c11_2 := ct B11.out 2
   have g11_2 := blk_frozen B11.out 2
   have c11_3 := ct B11.out 3
   have g11_3 := blk_frozen B11.out 3
   have c11_4 := ct B11.out 4
   have g11_4 := blk_frozen B11.out 4
   have c11_5 := ct B11.out 5
   have g11_5 := blk_frozen B11.out 5
   have c11_6 := ct B11.out 6
   have g11_6 := blk_frozen B11.out 6
   have c9_0 := ct B9.out 0
   have g9_0 := blk_frozen B9.out 0
   have c9_1 := ct B9.out 1
   have g9_1 := blk_frozen B9.out 1
   have c9_2 := ct B9.out 2
   have g9_2 := blk_frozen B9.out 2
   go_wp2_with (first
    | (go_at_call 19; refine (probe_Touch.calls K (-400) (-400) (-400) 400 400 400 (some ⟨w.heap.size + 1 + 1 + 1, 0, none⟩) 1 [⟨1, ⟨x, z⟩, 2 + n0⟩] x y z 0 X0 X1 X2 X3 X4 X5 0 wr (C_one84 B10.out) (Nat.le_refl 1) T1.out).mono ?_; rintro e W1 ⟨rfl, hb⟩; clear T1 c11_0 g11_0 c11_1 g11_1 c11_2 g11_2 c11_3 g11_3 c11_4 g11_4 c11_5 g11_5 c11_6 g11_6 c9_0 g9_0 c9_1 g9_1 c9_2 g9_2; have HB1 := mk0 (below_step HB.out hb); have D9 := mk0 (blk_below B9.out hb); have D10 := mk0 (blk_below B10.out hb); have D11 := mk0 (blk_below B11.out hb); clear hb; have E11 := mk0 (blk_alloc (blk_alloc D11.out (.cells #[.int .i64 X0, .int .i64 X1, .int .i64 X2] 23)) (.cells #[.int .i64 X3, .int .i64 X4, .int .i64 X5] 23)); have E9 := mk0 (blk_alloc (blk_alloc D9.out (.cells #[.int .i64 X0, .int .i64 X1, .int .i64 X2] 23)) (.cells #[.int .i64 X3, .int .i64 X4, .int .i64 X5] 23)); have c11_0 := ct E11.out 0; have g11_0 := blk_frozen E11.out 0; have c11_1 := ct E11.out 1; have g11_1 := blk_frozen E11.out 1; have c11_2 := ct E11.out 2; have g11_2 := blk_frozen E11.out 2; have c11_3 := ct E11.out 3; have g11_3 := blk_frozen E11.out 3; have c11_4 := ct E11.out 4; have g11_4 := blk_frozen E11.out 4; have c11_5 := ct E11.out 5; have g11_5 := blk_frozen E11.out 5; have c11_6 := ct E11.out 6; have g11_6 := blk_frozen E11.out 6; have c9_0 := ct E9.out 0; have g9_0 := blk_frozen E9.out 0; have c9_1 := ct E9.out 1; have g9_1 := blk_frozen E9.out 1; have c9_2 := ct E9.out 2; have g9_2 := blk_frozen E9.out 2; have L1 := blk_lt D11.out)
    | (go_at_call 19; refine (probe_Touch.calls K (-400) (-400) (-400) 400 400 400 (some ⟨w.heap.size + 1 + 1 + 1, 0, none⟩) 1 [⟨1, ⟨x, z⟩, 2 + n0⟩] x y z 1 Y0 Y1 Y2 Y3 Y4 Y5 0 _ (C_one84 (blk_alloc (blk_alloc D10.out _) _)) (Nat.le_refl 1) T2.out).mono ?_; rintro e W2 ⟨rfl, hb⟩; clear T2 c11_0 g11_0 c11_1 g11_1 c11_2 g11_2 c11_3 g11_3 c11_4 g11_4 c11_5 g11_5 c11_6 g11_6 c9_0 g9_0 c9_1 g9_1 c9_2 g9_2; have HB2 := mk0 (below_step (below_alloc (below_alloc HB1.out _) _) hb); have DX := mk0 (blk_below (blk_alloc (blk_new W1 (.cells #[.int .i64 X0, .int .i64 X1, .int .i64 X2] 23)) _) hb); have R9 := mk0 (blk_below (blk_alloc (blk_alloc D9.out _) _) hb); have R10 := mk0 (blk_below (blk_alloc (blk_alloc D10.out _) _) hb); have R11 := mk0 (blk_below (blk_alloc (blk_alloc D11.out _) _) hb); clear hb; have S7 := mk0 (blk_alloc (blk_alloc DX.out (.cells #[.int .i64 Y0, .int .i64 Y1, .int .i64 Y2] 23)) (.cells #[.int .i64 Y3, .int .i64 Y4, .int .i64 Y5] 23)); have S9 := mk0 (blk_alloc (blk_alloc R9.out (.cells #[.int .i64 Y0, .int .i64 Y1, .int .i64 Y2] 23)) (.cells #[.int .i64 Y3, .int .i64 Y4, .int .i64 Y5] 23)); have c7_0 := ct S7.out 0; have g7_0 := blk_frozen S7.out 0; have c7_1 := ct S7.out 1; have g7_1 := blk_frozen S7.out 1; have c7_2 := ct S7.out 2; have g7_2 := blk_frozen S7.out 2; have c9_0 := ct S9.out 0; have g9_0 := blk_frozen S9.out 0; have c9_1 := ct S9.out 1; have g9_1 := blk_frozen S9.out 1; have c9_2 := ct S9.out 2; have g9_2 := blk_frozen S9.out 2; have L2 := blk_lt DX.out; have L3 := blk_lt R9.out))
   go_roundw
   case rel => exact ⟨1, by decide, rfl, ⟨below_alloc (below_alloc HB2.out _) _⟩, ⟨blk_alloc (blk_alloc R9.out _) _⟩, ⟨blk_alloc (blk_alloc R10.out _) _⟩, ⟨blk_alloc (blk_alloc R11.out _) _⟩⟩
   case measure => simp [intOf]
  ·go_wp2
   go_roundw
   case rel => exact ⟨2, by decide, rfl, HB, B9, B10, B11⟩
   case measure => simp [intOf]
  ·obtain ⟨X0, X1, X2, X3, X4, X5, Y0, Y1, Y2, Y3, Y4, Y5, t1, t2, ⟨⟨x00, x01⟩, ⟨x10, x11⟩, x20, x21⟩, ⟨⟨y00, y01⟩, ⟨y10, y11⟩, y20, y21⟩, e0, e1, e2, f1, f2⟩ := H2.out
   have T1 := mk0 t1
   have T2 := mk0 t2
   have q0 : (X0 + Y0 != 2 * x) = false := bne_eq_false_iff_eq.2 e0
   have q1 : (X1 + Y1 != 2 * y) = false := bne_eq_false_iff_eq.2 e1
   have q2 : (X2 + Y2 != 2 * z) = false := bne_eq_false_iff_eq.2 e2
   have q3 : decide (2 * (X0 - x + X1 - y + X2 - z) < 2 + n0) = false := decide_eq_false (by omega)
   have q4 : decide (2 + n0 ≤ 2 * (X0 - x + X1 - y + X2 - z - 1)) = false := decide_eq_false (by omega)
   have q5 : decide (2 * (X0 - x + X1 - y + X2 - z - 1) ≥ 2 + n0) = false := decide_eq_false (by omega)
   clear t1 t2 e0 e1 e2 f1 f2
   have c11_0 := ct B11.out 0
   have g11_0 := blk_frozen B11.out 0
   have c11_1 := ct B11.out 1
   have g11_1 := blk_frozen B11.out 1
   have c11_2 := ct B11.out 2
   have g11_2 := blk_frozen B11.out 2
   have c11_3 := ct B11.out 3
   have g11_3 := blk_frozen B11.out 3
   have c11_4 := ct B11.out 4
   have g11_4 := blk_frozen B11.out 4
   have c11_5 := ct B11.out 5
   have g11_5 := blk_frozen B11.out 5
   have c11_6 := ct B11.out 6
   have g11_6 := blk_frozen B11.out 6
   have c9_0 := ct B9.out 0
   have g9_0 := blk_frozen B9.out 0
   have c9_1 := ct B9.out 1
   have g9_1 := blk_frozen B9.out 1
   have c9_2 := ct B9.out 2
   have g9_2 := blk_frozen B9.out 2
   go_wp2_with (first
    | (go_at_call 19; refine (probe_Touch.calls K (-400) (-400) (-400) 400 400 400 (some ⟨w.heap.size + 1 + 1 + 1, 0, none⟩) 1 [⟨1, ⟨x, z⟩, 2 + n0⟩] x y z 4 X0 X1 X2 X3 X4 X5 0 wr (C_one84 B10.out) (Nat.le_refl 1) T1.out).mono ?_; rintro e W1 ⟨rfl, hb⟩; clear T1 c11_0 g11_0 c11_1 g11_1 c11_2 g11_2 c11_3 g11_3 c11_4 g11_4 c11_5 g11_5 c11_6 g11_6 c9_0 g9_0 c9_1 g9_1 c9_2 g9_2; have HB1 := mk0 (below_step HB.out hb); have D9 := mk0 (blk_below B9.out hb); have D10 := mk0 (blk_below B10.out hb); have D11 := mk0 (blk_below B11.out hb); clear hb; have E11 := mk0 (blk_alloc (blk_alloc D11.out (.cells #[.int .i64 X0, .int .i64 X1, .int .i64 X2] 23)) (.cells #[.int .i64 X3, .int .i64 X4, .int .i64 X5] 23)); have E9 := mk0 (blk_alloc (blk_alloc D9.out (.cells #[.int .i64 X0, .int .i64 X1, .int .i64 X2] 23)) (.cells #[.int .i64 X3, .int .i64 X4, .int .i64 X5] 23)); have c11_0 := ct E11.out 0; have g11_0 := blk_frozen E11.out 0; have c11_1 := ct E11.out 1; have g11_1 := blk_frozen E11.out 1; have c11_2 := ct E11.out 2; have g11_2 := blk_frozen E11.out 2; have c11_3 := ct E11.out 3; have g11_3 := blk_frozen E11.out 3; have c11_4 := ct E11.out 4; have g11_4 := blk_frozen E11.out 4; have c11_5 := ct E11.out 5; have g11_5 := blk_frozen E11.out 5; have c11_6 := ct E11.out 6; have g11_6 := blk_frozen E11.out 6; have c9_0 := ct E9.out 0; have g9_0 := blk_frozen E9.out 0; have c9_1 := ct E9.out 1; have g9_1 := blk_frozen E9.out 1; have c9_2 := ct E9.out 2; have g9_2 := blk_frozen E9.out 2; have L1 := blk_lt D11.out)
    | (go_at_call 19; refine (probe_Touch.calls K (-400) (-400) (-400) 400 400 400 (some ⟨w.heap.size + 1 + 1 + 1, 0, none⟩) 1 [⟨1, ⟨x, z⟩, 2 + n0⟩] x y z 5 Y0 Y1 Y2 Y3 Y4 Y5 0 _ (C_one84 (blk_alloc (blk_alloc D10.out _) _)) (Nat.le_refl 1) T2.out).mono ?_; rintro e W2 ⟨rfl, hb⟩; clear T2 c11_0 g11_0 c11_1 g11_1 c11_2 g11_2 c11_3 g11_3 c11_4 g11_4 c11_5 g11_5 c11_6 g11_6 c9_0 g9_0 c9_1 g9_1 c9_2 g9_2; have HB2 := mk0 (below_step (below_alloc (below_alloc HB1.out _) _) hb); have DX := mk0 (blk_below (blk_alloc (blk_new W1 (.cells #[.int .i64 X0, .int .i64 X1, .int .i64 X2] 23)) _) hb); have R9 := mk0 (blk_below (blk_alloc (blk_alloc D9.out _) _) hb); have R10 := mk0 (blk_below (blk_alloc (blk_alloc D10.out _) _) hb); have R11 := mk0 (blk_below (blk_alloc (blk_alloc D11.out _) _) hb); clear hb; have S7 := mk0 (blk_alloc (blk_alloc DX.out (.cells #[.int .i64 Y0, .int .i64 Y1, .int .i64 Y2] 23)) (.cells #[.int .i64 Y3, .int .i64 Y4, .int .i64 Y5] 23)); have S9 := mk0 (blk_alloc (blk_alloc R9.out (.cells #[.int .i64 Y0, .int .i64 Y1, .int .i64 Y2] 23)) (.cells #[.int .i64 Y3, .int .i64 Y4, .int .i64 Y5] 23)); have c7_0 := ct S7.out 0; have g7_0 := blk_frozen S7.out 0; have c7_1 := ct S7.out 1; have g7_1 := blk_frozen S7.out 1; have c7_2 := ct S7.out 2; have g7_2 := blk_frozen S7.out 2; have c9_0 := ct S9.out 0; have g9_0 := blk_frozen S9.out 0; have c9_1 := ct S9.out 1; have g9_1 := blk_frozen S9.out 1; have c9_2 := ct S9.out 2; have g9_2 := blk_frozen S9.out 2; have L2 := blk_lt DX.out; have L3 := blk_lt R9.out))
   go_roundw
   case rel => exact ⟨3, by decide, rfl, ⟨below_alloc (below_alloc HB2.out _) _⟩, ⟨blk_alloc (blk_alloc R9.out _) _⟩, ⟨blk_alloc (blk_alloc R10.out _) _⟩, ⟨blk_alloc (blk_alloc R11.out _) _⟩⟩
   case measure => simp [intOf]
  ·go_wp2_with (go_at_call 14; refine (metrolablaw30_awake.calls K true wr (GW_below HG.out HB.out) HA.out).mono ?_; rintro e W1 ⟨rfl, hb⟩; have HB1 := mk0 (below_step HB.out hb); clear hb)
   go_ret
   exact ⟨rfl, HB1.out⟩
set_option maxHeartbeats 8000000 in
set_option maxRecDepth 100000 in
theorem centers2.calls (K : Nat) (n0 ax x y z : Int) (hn : 0 ≤ n0 ∧ n0 ≤ 255) (ha : 0 ≤ ax ∧ ax ≤ 255) (hx : -128 ≤ x ∧ x ≤ 127) (hy : -128 ≤ y ∧ y ≤ 127) (hz : -128 ≤ z ∧ z ≤ 127) (hk : ax % 3 = 2) (w : World) (hG : GW w)
  (hA : metrolablaw30_awake.f K = some true) (h0 : twoT K [⟨2, ⟨x, y⟩, 2 + n0⟩] x y z (2 + n0) 0) (h1 : twoT K [⟨2, ⟨x, y⟩, 2 + n0⟩] x y z (2 + n0) 1) :
  Calls Tryz.prog 8 #[.int .u8 n0, .int .u8 ax, .agg #[.int .i8 x, .int .i8 y, .int .i8 z]] w fun e w' => e = .returned (.bool true) ∧ Below w.heap.size w w' := by
 obtain ⟨hn0, hn1⟩ := hn
 obtain ⟨ha0, ha1⟩ := ha
 obtain ⟨hx0, hx1⟩ := hx
 obtain ⟨hy0, hy1⟩ := hy
 obtain ⟨hz0, hz1⟩ := hz
 have HG := mk0 hG
 have HA := mk0 hA
 have H0 := mk0 h0
 have H1 := mk0 h1
 clear hG hA h0 h1
 have hu26 := Tryz.underlying26
 have hu23 := Tryz.underlying23
 go_enter Tryz.func8, Tryz.ntmps8
 go_wp2
 rw [hk]
 clear hk
 go_loopw [62] (fun i wr => ∃ k : Nat, k ≤ 3 ∧ i = .int .i64 k ∧ Aside0 (Below w.heap.size w wr) ∧ Aside0 (wr.heap[w.heap.size + 1]? = some (.cells #[.int .i64 x, .int .i64 y, .int .i64 z] 23 (0, 0))) ∧ Aside0 (wr.heap[w.heap.size + 1 + 1 + 1]? = some (.cells #[.int .i64 2, .int .i64 x, .int .i64 y, .int .i64 (2 + n0)] 84 (0, 0))) ∧ Aside0 (wr.heap[w.heap.size + 1 + 1 + 1 + 1]? = some (.cells #[.int .i64 (-400), .int .i64 (-400), .int .i64 (-400), .int .i64 400, .int .i64 400, .int .i64 400, .slice (some ⟨w.heap.size + 1 + 1 + 1, 0, none⟩) 1 1] 26 (0, 0)))) (fun i _ => 3 - (intOf i).toNat)
 case atStart =>
  refine ⟨0, by decide, rfl, ⟨below_alloc (below_alloc (below_alloc (below_alloc (below_alloc (Below.refl w.heap.size w) _) _) _) _) _⟩, ⟨?_⟩, ⟨?_⟩, ⟨?_⟩⟩
  ·exact blk_alloc (blk_alloc (blk_alloc (blk_newE _ _ (by simp)) _) _) _
  ·exact blk_alloc (blk_newE _ _ (by simp)) _
  ·exact blk_newE _ _ (by simp)
 case round =>
  rename_i wr
  obtain ⟨k, hk3, rfl, HB, B9, B10, B11⟩ := hrel
  have hkc : k = 0 ∨ k = 1 ∨ k = 2 ∨ k = 3 := by omega
  rcases hkc with rfl | rfl | rfl | rfl
  ·obtain ⟨X0, X1, X2, X3, X4, X5, Y0, Y1, Y2, Y3, Y4, Y5, t1, t2, ⟨⟨x00, x01⟩, ⟨x10, x11⟩, x20, x21⟩, ⟨⟨y00, y01⟩, ⟨y10, y11⟩, y20, y21⟩, e0, e1, e2, f1, f2⟩ := H0.out
   have T1 := mk0 t1
   have T2 := mk0 t2
   have q0 : (X0 + Y0 != 2 * x) = false := bne_eq_false_iff_eq.2 e0
   have q1 : (X1 + Y1 != 2 * y) = false := bne_eq_false_iff_eq.2 e1
   have q2 : (X2 + Y2 != 2 * z) = false := bne_eq_false_iff_eq.2 e2
   have q3 : decide (2 * (X0 - x + X1 - y + X2 - z) < 2 + n0) = false := decide_eq_false (by omega)
   have q4 : decide (2 + n0 ≤ 2 * (X0 - x + X1 - y + X2 - z - 1)) = false := decide_eq_false (by omega)
   have q5 : decide (2 * (X0 - x + X1 - y + X2 - z - 1) ≥ 2 + n0) = false := decide_eq_false (by omega)
   clear t1 t2 e0 e1 e2 f1 f2
   have c11_0 := ct B11.out 0
   have g11_0 := blk_frozen B11.out 0
   have c11_1 := ct B11.out 1
   have g11_1 := blk_frozen B11.out 1
   have c11_2 := ct B11.out 2
   have g11_2 := blk_frozen B11.out 2
   have c11_3 := ct B11.out 3
   have g11_3 := blk_frozen B11.out 3
   have c11_4 := ct B11.out 4
   have g11_4 := blk_frozen B11.out 4
   have c11_5 := ct B11.out 5
   have g11_5 := blk_frozen B11.out 5
   have c11_6 := ct B11.out 6
   have g11_6 := blk_frozen B11.out 6
   have c9_0 := ct B9.out 0
   have g9_0 := blk_frozen B9.out 0
   have c9_1 := ct B9.out 1
   have g9_1 := blk_frozen B9.out 1
   have c9_2 := ct B9.out 2
   have g9_2 := blk_frozen B9.out 2
   go_wp2_with (first
    | (go_at_call 19; refine (probe_Touch.calls K (-400) (-400) (-400) 400 400 400 (some ⟨w.heap.size + 1 + 1 + 1, 0, none⟩) 1 [⟨2, ⟨x, y⟩, 2 + n0⟩] x y z 0 X0 X1 X2 X3 X4 X5 0 wr (C_one84 B10.out) (Nat.le_refl 1) T1.out).mono ?_; rintro e W1 ⟨rfl, hb⟩; clear T1 c11_0 g11_0 c11_1 g11_1 c11_2 g11_2 c11_3 g11_3 c11_4 g11_4 c11_5 g11_5 c11_6 g11_6 c9_0 g9_0 c9_1 g9_1 c9_2 g9_2; have HB1 := mk0 (below_step HB.out hb); have D9 := mk0 (blk_below B9.out hb); have D10 := mk0 (blk_below B10.out hb); have D11 := mk0 (blk_below B11.out hb); clear hb; have E11 := mk0 (blk_alloc (blk_alloc D11.out (.cells #[.int .i64 X0, .int .i64 X1, .int .i64 X2] 23)) (.cells #[.int .i64 X3, .int .i64 X4, .int .i64 X5] 23)); have E9 := mk0 (blk_alloc (blk_alloc D9.out (.cells #[.int .i64 X0, .int .i64 X1, .int .i64 X2] 23)) (.cells #[.int .i64 X3, .int .i64 X4, .int .i64 X5] 23)); have c11_0 := ct E11.out 0; have g11_0 := blk_frozen E11.out 0; have c11_1 := ct E11.out 1; have g11_1 := blk_frozen E11.out 1; have c11_2 := ct E11.out 2; have g11_2 := blk_frozen E11.out 2; have c11_3 := ct E11.out 3; have g11_3 := blk_frozen E11.out 3; have c11_4 := ct E11.out 4; have g11_4 := blk_frozen E11.out 4; have c11_5 := ct E11.out 5; have g11_5 := blk_frozen E11.out 5; have c11_6 := ct E11.out 6; have g11_6 := blk_frozen E11.out 6; have c9_0 := ct E9.out 0; have g9_0 := blk_frozen E9.out 0; have c9_1 := ct E9.out 1; have g9_1 := blk_frozen E9.out 1; have c9_2 := ct E9.out 2; have g9_2 := blk_frozen E9.out 2; have L1 := blk_lt D11.out)
    | (go_at_call 19; refine (probe_Touch.calls K (-400) (-400) (-400) 400 400 400 (some ⟨w.heap.size + 1 + 1 + 1, 0, none⟩) 1 [⟨2, ⟨x, y⟩, 2 + n0⟩] x y z 1 Y0 Y1 Y2 Y3 Y4 Y5 0 _ (C_one84 (blk_alloc (blk_alloc D10.out _) _)) (Nat.le_refl 1) T2.out).mono ?_; rintro e W2 ⟨rfl, hb⟩; clear T2 c11_0 g11_0 c11_1 g11_1 c11_2 g11_2 c11_3 g11_3 c11_4 g11_4 c11_5 g11_5 c11_6 g11_6 c9_0 g9_0 c9_1 g9_1 c9_2 g9_2; have HB2 := mk0 (below_step (below_alloc (below_alloc HB1.out _) _) hb); have DX := mk0 (blk_below (blk_alloc (blk_new W1 (.cells #[.int .i64 X0, .int .i64 X1, .int .i64 X2] 23)) _) hb); have R9 := mk0 (blk_below (blk_alloc (blk_alloc D9.out _) _) hb); have R10 := mk0 (blk_below (blk_alloc (blk_alloc D10.out _) _) hb); have R11 := mk0 (blk_below (blk_alloc (blk_alloc D11.out _) _) hb); clear hb; have S7 := mk0 (blk_alloc (blk_alloc DX.out (.cells #[.int .i64 Y0, .int .i64 Y1, .int .i64 Y2] 23)) (.cells #[.int .i64 Y3, .int .i64 Y4, .int .i64 Y5] 23)); have S9 := mk0 (blk_alloc (blk_alloc R9.out (.cells #[.int .i64 Y0, .int .i64 Y1, .int .i64 Y2] 23)) (.cells #[.int .i64 Y3, .int .i64 Y4, .int .i64 Y5] 23)); have c7_0 := ct S7.out 0; have g7_0 := blk_frozen S7.out 0; have c7_1 := ct S7.out 1; have g7_1 := blk_frozen S7.out 1; have c7_2 := ct S7.out 2; have g7_2 := blk_frozen S7.out 2; have c9_0 := ct S9.out 0; have g9_0 := blk_frozen S9.out 0; have c9_1 := ct S9.out 1; have g9_1 := blk_frozen S9.out 1; have c9_2 := ct S9.out 2; have g9_2 := blk_frozen S9.out 2; have L2 := blk_lt DX.out; have L3 := blk_lt R9.out))
   go_roundw
   case rel => exact ⟨1, by decide, rfl, ⟨below_alloc (below_alloc HB2.out _) _⟩, ⟨blk_alloc (blk_alloc R9.out _) _⟩, ⟨blk_alloc (blk_alloc R10.out _) _⟩, ⟨blk_alloc (blk_alloc R11.out _) _⟩⟩
   case measure => simp [intOf]
  ·obtain ⟨X0, X1, X2, X3, X4, X5, Y0, Y1, Y2, Y3, Y4, Y5, t1, t2, ⟨⟨x00, x01⟩, ⟨x10, x11⟩, x20, x21⟩, ⟨⟨y00, y01⟩, ⟨y10, y11⟩, y20, y21⟩, e0, e1, e2, f1, f2⟩ := H1.out
   have T1 := mk0 t1
   have T2 := mk0 t2
   have q0 : (X0 + Y0 != 2 * x) = false := bne_eq_false_iff_eq.2 e0
   have q1 : (X1 + Y1 != 2 * y) = false := bne_eq_false_iff_eq.2 e1
   have q2 : (X2 + Y2 != 2 * z) = false := bne_eq_false_iff_eq.2 e2
   have q3 : decide (2 * (X0 - x + X1 - y + X2 - z) < 2 + n0) = false := decide_eq_false (by omega)
   have q4 : decide (2 + n0 ≤ 2 * (X0 - x + X1 - y + X2 - z - 1)) = false := decide_eq_false (by omega)
   have q5 : decide (2 * (X0 - x + X1 - y + X2 - z - 1) ≥ 2 + n0) = false := decide_eq_false (by omega)
   clear t1 t2 e0 e1 e2 f1 f2
   have c11_0 := ct B11.out 0
   have g11_0 := blk_frozen B11.out 0
   have c11_1 := ct B11.out 1
   have g11_1 := blk_frozen B11.out 1
   have c11_2 := ct B11.out 2
   have g11_2 := blk_frozen B11.out 2
   have c11_3 := ct B11.out 3
   have g11_3 := blk_frozen B11.out 3
   have c11_4 := ct B11.out 4
   have g11_4 := blk_frozen B11.out 4
   have c11_5 := ct B11.out 5
   have g11_5 := blk_frozen B11.out 5
   have c11_6 := ct B11.out 6
   have g11_6 := blk_frozen B11.out 6
   have c9_0 := ct B9.out 0
   have g9_0 := blk_frozen B9.out 0
   have c9_1 := ct B9.out 1
   have g9_1 := blk_frozen B9.out 1
   have c9_2 := ct B9.out 2
   have g9_2 := blk_frozen B9.out 2
   go_wp2_with (first
    | (go_at_call 19; refine (probe_Touch.calls K (-400) (-400) (-400) 400 400 400 (some ⟨w.heap.size + 1 + 1 + 1, 0, none⟩) 1 [⟨2, ⟨x, y⟩, 2 + n0⟩] x y z 2 X0 X1 X2 X3 X4 X5 0 wr (C_one84 B10.out) (Nat.le_refl 1) T1.out).mono ?_; rintro e W1 ⟨rfl, hb⟩; clear T1 c11_0 g11_0 c11_1 g11_1 c11_2 g11_2 c11_3 g11_3 c11_4 g11_4 c11_5 g11_5 c11_6 g11_6 c9_0 g9_0 c9_1 g9_1 c9_2 g9_2; have HB1 := mk0 (below_step HB.out hb); have D9 := mk0 (blk_below B9.out hb); have D10 := mk0 (blk_below B10.out hb); have D11 := mk0 (blk_below B11.out hb); clear hb; have E11 := mk0 (blk_alloc (blk_alloc D11.out (.cells #[.int .i64 X0, .int .i64 X1, .int .i64 X2] 23)) (.cells #[.int .i64 X3, .int .i64 X4, .int .i64 X5] 23)); have E9 := mk0 (blk_alloc (blk_alloc D9.out (.cells #[.int .i64 X0, .int .i64 X1, .int .i64 X2] 23)) (.cells #[.int .i64 X3, .int .i64 X4, .int .i64 X5] 23)); have c11_0 := ct E11.out 0; have g11_0 := blk_frozen E11.out 0; have c11_1 := ct E11.out 1; have g11_1 := blk_frozen E11.out 1; have c11_2 := ct E11.out 2; have g11_2 := blk_frozen E11.out 2; have c11_3 := ct E11.out 3; have g11_3 := blk_frozen E11.out 3; have c11_4 := ct E11.out 4; have g11_4 := blk_frozen E11.out 4; have c11_5 := ct E11.out 5; have g11_5 := blk_frozen E11.out 5; have c11_6 := ct E11.out 6; have g11_6 := blk_frozen E11.out 6; have c9_0 := ct E9.out 0; have g9_0 := blk_frozen E9.out 0; have c9_1 := ct E9.out 1; have g9_1 := blk_frozen E9.out 1; have c9_2 := ct E9.out 2; have g9_2 := blk_frozen E9.out 2; have L1 := blk_lt D11.out)
    | (go_at_call 19; refine (probe_Touch.calls K (-400) (-400) (-400) 400 400 400 (some ⟨w.heap.size + 1 + 1 + 1, 0, none⟩) 1 [⟨2, ⟨x, y⟩, 2 + n0⟩] x y z 3 Y0 Y1 Y2 Y3 Y4 Y5 0 _ (C_one84 (blk_alloc (blk_alloc D10.out _) _)) (Nat.le_refl 1) T2.out).mono ?_; rintro e W2 ⟨rfl, hb⟩; clear T2 c11_0 g11_0 c11_1 g11_1 c11_2 g11_2 c11_3 g11_3 c11_4 g11_4 c11_5 g11_5 c11_6 g11_6 c9_0 g9_0 c9_1 g9_1 c9_2 g9_2; have HB2 := mk0 (below_step (below_alloc (below_alloc HB1.out _) _) hb); have DX := mk0 (blk_below (blk_alloc (blk_new W1 (.cells #[.int .i64 X0, .int .i64 X1, .int .i64 X2] 23)) _) hb); have R9 := mk0 (blk_below (blk_alloc (blk_alloc D9.out _) _) hb); have R10 := mk0 (blk_below (blk_alloc (blk_alloc D10.out _) _) hb); have R11 := mk0 (blk_below (blk_alloc (blk_alloc D11.out _) _) hb); clear hb; have S7 := mk0 (blk_alloc (blk_alloc DX.out (.cells #[.int .i64 Y0, .int .i64 Y1, .int .i64 Y2] 23)) (.cells #[.int .i64 Y3, .int .i64 Y4, .int .i64 Y5] 23)); have S9 := mk0 (blk_alloc (blk_alloc R9.out (.cells #[.int .i64 Y0, .int .i64 Y1, .int .i64 Y2] 23)) (.cells #[.int .i64 Y3, .int .i64 Y4, .int .i64 Y5] 23)); have c7_0 := ct S7.out 0; have g7_0 := blk_frozen S7.out 0; have c7_1 := ct S7.out 1; have g7_1 := blk_frozen S7.out 1; have c7_2 := ct S7.out 2; have g7_2 := blk_frozen S7.out 2; have c9_0 := ct S9.out 0; have g9_0 := blk_frozen S9.out 0; have c9_1 := ct S9.out 1; have g9_1 := blk_frozen S9.out 1; have c9_2 := ct S9.out 2; have g9_2 := blk_frozen S9.out 2; have L2 := blk_lt DX.out; have L3 := blk_lt R9.out))
   go_roundw
   case rel => exact ⟨2, by decide, rfl, ⟨below_alloc (below_alloc HB2.out _) _⟩, ⟨blk_alloc (blk_alloc R9.out _) _⟩, ⟨blk_alloc (blk_alloc R10.out _) _⟩, ⟨blk_alloc (blk_alloc R11.out _) _⟩⟩
   case measure => simp [intOf]
  ·go_wp2
   go_roundw
   case rel => exact ⟨3, by decide, rfl, HB, B9, B10, B11⟩
   case measure => simp [intOf]
  ·go_wp2_with (go_at_call 14; refine (metrolablaw30_awake.calls K true wr (GW_below HG.out HB.out) HA.out).mono ?_; rintro e W1 ⟨rfl, hb⟩; have HB1 := mk0 (below_step HB.out hb); clear hb)
   go_ret
   exact ⟨rfl, HB1.out⟩
def borC (a x y z n : Int) : S84 := if a = 0 then ⟨0, ⟨y, z⟩, n⟩ else if a = 1 then ⟨1, ⟨x, z⟩, n⟩ else ⟨2, ⟨x, y⟩, n⟩
theorem centers.calls (K : Nat) (n0 ax x y z : Int) (hn : 0 ≤ n0 ∧ n0 ≤ 255) (ha : 0 ≤ ax ∧ ax ≤ 255) (hx : -128 ≤ x ∧ x ≤ 127) (hy : -128 ≤ y ∧ y ≤ 127) (hz : -128 ≤ z ∧ z ≤ 127) (w : World) (hG : GW w)
  (hA : metrolablaw30_awake.f K = some true) (hT : ∀ d : Int, 0 ≤ d → d ≤ 2 → d ≠ ax % 3 → twoT K [borC (ax % 3) x y z (2 + n0)] x y z (2 + n0) d) :
  Calls Tryz.prog 8 #[.int .u8 n0, .int .u8 ax, .agg #[.int .i8 x, .int .i8 y, .int .i8 z]] w fun e w' => e = .returned (.bool true) ∧ Below w.heap.size w w' := by
 have hc : ax % 3 = 0 ∨ ax % 3 = 1 ∨ ax % 3 = 2 := by omega
 rcases hc with h | h | h <;> rw [h] at hT
 ·exact centers0.calls K n0 ax x y z hn ha hx hy hz h w hG hA (hT 1 (by decide) (by decide) (by decide)) (hT 2 (by decide) (by decide) (by decide))
 ·exact centers1.calls K n0 ax x y z hn ha hx hy hz h w hG hA (hT 0 (by decide) (by decide) (by decide)) (hT 2 (by decide) (by decide) (by decide))
 ·exact centers2.calls K n0 ax x y z hn ha hx hy hz h w hG hA (hT 0 (by decide) (by decide) (by decide)) (hT 1 (by decide) (by decide) (by decide))
end Go.Proofs.YtolbjmaabghghaaGreatDoor.PA
