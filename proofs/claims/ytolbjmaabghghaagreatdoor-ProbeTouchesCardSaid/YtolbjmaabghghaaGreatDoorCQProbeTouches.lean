/- A part of the proof. -/
import Derived.Test.YtolbjmaabghghaaGreatDoorCQTouch
import Derived.Test.YtolbjmaabghghaaGreatDoorCPAx22
namespace Go.Proofs.YtolbjmaabghghaaGreatDoor.PA
open Go.RowKit Go.PW Go.PL Go.PM
theorem few_eq (a0 a1 a2 a3 a4 a5 : Int) (l : List S84) : metrolabref30_Few.f a0 a1 a2 a3 a4 a5 (l.map toRef) = some (decide (l.length ≤ 32)) := by
 unfold metrolabref30_Few.f
 rw [List.length_map]
 congr 1
 apply decide_eq_decide.2
 omega
theorem probeTouches_k (hr : RunEx) (a0 a1 a2 a3 a4 a5 : Int) (l : List S84) (x y z d : Int) (hl : l.length < 4398046511104) (k : Nat) (h60 : 200300 ≤ k) (hk : l.length + 1 ≤ k) : metrolablaw30_ProbeTouches.f k a0 a1 a2 a3 a4 a5 l x y z d = some true := by
 have ho := own_eq a0 a1 a2 a3 a4 a5 l hl k hk
 have ha := awake_all hr k (by omega)
 have hf := few_eq a0 a1 a2 a3 a4 a5 l
 have m1 := ptouch_eq a0 a1 a2 a3 a4 a5 l x y z d k h60
 have m2 := rtouch_eq a0 a1 a2 a3 a4 a5 l x y z d k h60
 unfold metrolablaw30_ProbeTouches.f
 simp only [ho, Option.bind_some, hf, ha, m1, m2, beq_self_eq_true, Bool.and_self, if_true]
 split <;> rfl
end Go.Proofs.YtolbjmaabghghaaGreatDoor.PA
