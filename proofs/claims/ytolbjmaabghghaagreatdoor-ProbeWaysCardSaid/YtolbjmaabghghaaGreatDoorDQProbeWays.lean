/- A part of the proof. -/
import Derived.Test.YtolbjmaabghghaaGreatDoorDQWays
namespace Go.Proofs.YtolbjmaabghghaaGreatDoor.PA
open Go.RowKit Go.PW Go.PL Go.PM
theorem few_eq' (a0 a1 a2 a3 a4 a5 : Int) (l : List S84) : metrolabref30_Few.f a0 a1 a2 a3 a4 a5 (l.map toRef) = some (decide (l.length ≤ 32)) := by
 unfold metrolabref30_Few.f
 rw [List.length_map]
 congr 1
 apply decide_eq_decide.2
 omega
theorem waysJ (hr : RunEx) (a0 a1 a2 a3 a4 a5 : Int) (l : List S84) (x y z x' y' z' : Int) (hl : l.length < 4398046511104) (k : Nat) (h60 : 700000 ≤ k) (hk : l.length + 1 ≤ k) (b : Bool) : metrolablaw30_ProbeWays.j0 (k + 1) b a0 a1 a2 a3 a4 a5 l x y z x' y' z' = some true := by
 have ho := own_eq a0 a1 a2 a3 a4 a5 l hl k hk
 have ha := awake_all hr k (by omega)
 have m1 := pfree_eq a0 a1 a2 a3 a4 a5 l x y z x' y' z' k (by omega)
 have m2 := rfree_eq a0 a1 a2 a3 a4 a5 l x y z x' y' z' k h60
 rw [metrolablaw30_ProbeWays.j0]
 simp only [ho, Option.bind_some, ha, m1, m2, beq_self_eq_true, if_true]
 split <;> rfl
theorem probeWays_k (hr : RunEx) (a0 a1 a2 a3 a4 a5 : Int) (l : List S84) (x y z x' y' z' : Int) (hl : l.length < 4398046511104) (k : Nat) (h60 : 700001 ≤ k) (hk : l.length + 2 ≤ k) : metrolablaw30_ProbeWays.f k a0 a1 a2 a3 a4 a5 l x y z x' y' z' = some true := by
 obtain ⟨k, rfl⟩ : ∃ j, k = j + 1 := ⟨k - 1, by omega⟩
 have ho := own_eq a0 a1 a2 a3 a4 a5 l hl (k + 1) (by omega)
 have hf := few_eq' a0 a1 a2 a3 a4 a5 l
 obtain ⟨b, hb⟩ := Near_some x y z x' y' z'
 unfold metrolablaw30_ProbeWays.f
 simp only [ho, Option.bind_some, hf, hb]
 split
 ·exact waysJ hr a0 a1 a2 a3 a4 a5 l x y z x' y' z' hl k (by omega) (by omega) _
 ·exact waysJ hr a0 a1 a2 a3 a4 a5 l x y z x' y' z' hl k (by omega) (by omega) _
end Go.Proofs.YtolbjmaabghghaaGreatDoor.PA
