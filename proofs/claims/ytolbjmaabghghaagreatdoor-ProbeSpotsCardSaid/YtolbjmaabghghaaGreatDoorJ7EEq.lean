/- A part of the proof. -/
import Derived.Test.YtolbjmaabghghaaGreatDoorJ7PAx0
import Derived.ChangeKeysEq
namespace Go.Proofs.YtolbjmaabghghaaGreatDoor.PA
open Go.RowKit
theorem eqInt {P : Program} {k : IntKind} (hu : P.underlying 3 = some (.int k)) (d : Nat) (n m : Int) (w : World) : (Op.equalIn (d + 1) 3 (.int .i64 n) (.int .i64 m)).run P w = .ok (decide (n = m)) w := by
 simp [Op.equalIn, run_underlying hu]
 rw [Bool.eq_iff_iff]; simp
set_option maxRecDepth 100000 in
theorem eq101 (x y z a b c : Int) (w : World) : (Op.equalIn 10000 101 (.agg #[.int .i64 x, .int .i64 y, .int .i64 z]) (.agg #[.int .i64 a, .int .i64 b, .int .i64 c])).run Tryz.prog w = .ok (decide (x = a ∧ y = b ∧ z = c)) w := by
 obtain ⟨i, hi⟩ := Option.isSome_iff_exists.1 (by kernel_rfl : (Tryz.prog.info? 3).isSome = true)
 have hc : Tryz.prog.cellsOf 3 = 1 := by kernel_rfl
 rw [run_equalIn_array w 9999 _ _ Tryz.underlying101 hi, hc]
 have hp : Tryz.prog.plainKey 3 = true := by kernel_rfl
 have e3 : ∀ n m : Int, (Op.equalIn 9999 3 (.int .i64 n) (.int .i64 m)).run Tryz.prog w = .ok (decide (n = m)) w := by
  exact fun n m => eqInt Tryz.underlying3 9998 n m w
 have pp : ∀ (v0 v1 v2 : Value) (k : Nat) (v : Value), #[v0, v1, v2][k]? = some v → (part 3 #[v0, v1, v2] (k * 1)).run Tryz.prog w = .ok v w := fun v0 v1 v2 k v h => run_part_plain w hp (by rw [Nat.mul_one]; exact h)
 simp only [show List.range 3 = [0, 1, 2] from rfl, Op.eqItems, Sem.run_bind, pp _ _ _ 0 _ rfl, pp _ _ _ 1 _ rfl, pp _ _ _ 2 _ rfl, Result.andThen_ok, e3]
 by_cases h0 : x = a <;> by_cases h1 : y = b <;> by_cases h2 : z = c <;> simp [h0, h1, h2, pp _ _ _ 1 _ rfl, pp _ _ _ 2 _ rfl, e3, Sem.run_bind]
end Go.Proofs.YtolbjmaabghghaaGreatDoor.PA
