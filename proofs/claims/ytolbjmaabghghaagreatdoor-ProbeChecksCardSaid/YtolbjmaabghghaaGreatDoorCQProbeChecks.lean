/- A part of the proof. -/
import Derived.Test.YtolbjmaabghghaaGreatDoorCQAwake
import Derived.Test.YtolbjmaabghghaaGreatDoorCPAx20
namespace Go.Proofs.YtolbjmaabghghaaGreatDoor.PA
open Go.RowKit Go.PW Go.PL Go.PM
theorem probeChecks_k (hr : RunEx) (a0 a1 a2 a3 a4 a5 : Int) (l : List S84) (x y z : Int) (hl : l.length < 4398046511104) (k : Nat) (h60 : 60 ≤ k) (hk : l.length + 1 ≤ k) : metrolablaw30_ProbeChecks.f k a0 a1 a2 a3 a4 a5 l x y z = some true := by
 have ho := own_eq a0 a1 a2 a3 a4 a5 l hl k hk
 have ha := awake_all hr k h60
 have hf : metrolabref30_Few.f a0 a1 a2 a3 a4 a5 (l.map toRef) = some (decide (l.length ≤ 32)) := by
  unfold metrolabref30_Few.f
  rw [List.length_map]
  congr 1
  apply decide_eq_decide.2
  omega
 have m1 := material_eq a0 a1 a2 a3 a4 a5 l x y z k (by omega)
 have m2 := rmaterial_eq a0 a1 a2 a3 a4 a5 l x y z k (by omega)
 have c1 := check_eq a0 a1 a2 a3 a4 a5 l k (by omega)
 have c2 := rcheck_eq a0 a1 a2 a3 a4 a5 l k (by omega)
 unfold metrolablaw30_ProbeChecks.f
 simp only [ho, Option.bind_some, hf, ha, m1, m2, c1, c2, beq_self_eq_true, if_true]
 split <;> rfl
end Go.Proofs.YtolbjmaabghghaaGreatDoor.PA
