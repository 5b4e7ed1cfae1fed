/- A part of the proof. -/
import Derived.Test.YtolbjmaabghghaaGreatDoorJ7QAw
namespace Go.Proofs.YtolbjmaabghghaaGreatDoor.PA
open Go.RowKit Go.PW Go.PL Go.PM
theorem runGiven (k : Nat) (hk : 50 ≤ k) : probe_given.f k 0 0 0 20 10 4 plateB [⟨10, 5, 2⟩] = some 0 := by
 rw [given1_eq _ _ _ _ _ _ _ _ _ _ _ hk]
 kernel_rfl
theorem runFull : fullS 0 0 0 20 10 4 plateB ⟨10, 5, 2⟩ = some false := by kernel_rfl
theorem runRight (x : S47) (h : probe_Right.f 40 x.f0 x.f1.f0 x.f1.f1 x.f1.f2 x.f2 x.f3 = some 0) : rightS x = some 0 := raise (probe_Right.mono _ _ _ _ _ _) h 60 (by decide)
theorem runR1 : probe_Right.f 40 1 0 0 0 0 ⟨#[]⟩ = some 0 := by kernel_rfl
theorem runR2 : probe_Right.f 40 0 10 5 2 0 ⟨#[]⟩ = some 0 := by kernel_rfl
theorem runR3 : probe_Right.f 40 1 0 0 0 1 ⟨#[]⟩ = some 0 := by kernel_rfl
theorem runR4 : probe_Right.f 40 2 0 0 0 0 ⟨#[104, 111, 108, 101]⟩ = some 0 := by kernel_rfl
theorem runT3 : touchedS 0 0 0 20 10 4 plateB ⟨10, 5, 2⟩ 1 = some (7, 5, 2, 8, 5, 2, true) := by kernel_rfl
theorem runS2 : straightS ⟨12, 5, 2⟩ ⟨10, 5, 2⟩ = some true := by kernel_rfl
theorem runO2 : openS 0 0 0 20 10 4 plateB ⟨12, 5, 2⟩ ⟨10, 5, 2⟩ = some true := by kernel_rfl
theorem runD1 : doF 0 0 0 20 10 4 plateB ⟨1, ⟨0, 0, 0⟩, 0, ⟨#[]⟩⟩ ⟨10, 5, 2⟩ [] [] = some (0, ⟨12, 5, 2⟩, [⟨13, 5, 2⟩], []) := by
 unfold doF
 rw [if_neg (by decide), if_pos (by decide)]
 unfold touchF
 rw [show touchedS 0 0 0 20 10 4 plateB ⟨10, 5, 2⟩ 0 = some (13, 5, 2, 12, 5, 2, true) from touched_px]
 rfl
theorem runD2 : doF 0 0 0 20 10 4 plateB ⟨0, ⟨10, 5, 2⟩, 0, ⟨#[]⟩⟩ ⟨12, 5, 2⟩ [⟨13, 5, 2⟩] [] = some (0, ⟨10, 5, 2⟩, [⟨13, 5, 2⟩], []) := by
 unfold doF
 rw [if_pos (by decide)]
 unfold moveF
 rw [runS2]
 simp only [Option.bind_some, if_true]
 rw [runO2]
 rfl
theorem runD3 : doF 0 0 0 20 10 4 plateB ⟨1, ⟨0, 0, 0⟩, 1, ⟨#[]⟩⟩ ⟨10, 5, 2⟩ [⟨13, 5, 2⟩] [] = some (0, ⟨8, 5, 2⟩, [⟨13, 5, 2⟩, ⟨7, 5, 2⟩], []) := by
 unfold doF
 rw [if_neg (by decide), if_pos (by decide)]
 unfold touchF
 rw [runT3]
 rfl
theorem runD4 : doF 0 0 0 20 10 4 plateB ⟨2, ⟨0, 0, 0⟩, 0, ⟨#[104, 111, 108, 101]⟩⟩ ⟨8, 5, 2⟩ [⟨13, 5, 2⟩, ⟨7, 5, 2⟩] [] = some (0, ⟨8, 5, 2⟩, [], [⟨⟨#[104, 111, 108, 101]⟩, [⟨13, 5, 2⟩, ⟨7, 5, 2⟩]⟩]) := by
 unfold doF
 rw [if_neg (by decide), if_neg (by decide)]
 rfl
theorem runL_step {s0 s1 s2 s3 s4 s5 : Int} {l : List S84} {x : S47} {xs : List S47} {i : Int} {p p' : S23} {nt nt' : List S23} {sm sm' : List S76} (hr : rightS x = some 0) (hd : doF s0 s1 s2 s3 s4 s5 l x p nt sm = some (0, p', nt', sm')) :
  runL s0 s1 s2 s3 s4 s5 l (x :: xs) i p nt sm = runL s0 s1 s2 s3 s4 s5 l xs (i + 1) p' nt' sm' := by
 rw [runL, hr]
 simp only [Option.bind_some, if_true, hd]
theorem runEx2 : probe_Run.f 0 0 0 20 10 4 plateB 10 5 2 steps4 = some (⟨#[]⟩, [⟨⟨#[104, 111, 108, 101]⟩, [⟨13, 5, 2⟩, ⟨7, 5, 2⟩]⟩], 0, 0) := by
 unfold probe_Run.f
 rw [show givenS 0 0 0 20 10 4 plateB ⟨10, 5, 2⟩ = some 0 from runGiven 60 (by decide)]
 simp only [Option.bind_some, if_true, runFull, Bool.false_eq_true, if_false]
 rw [if_neg (by decide)]
 unfold steps4
 rw [runL_step (runRight ⟨1, ⟨0, 0, 0⟩, 0, ⟨#[]⟩⟩ runR1) runD1, runL_step (runRight ⟨0, ⟨10, 5, 2⟩, 0, ⟨#[]⟩⟩ runR2) runD2, runL_step (runRight ⟨1, ⟨0, 0, 0⟩, 1, ⟨#[]⟩⟩ runR3) runD3, runL_step (runRight ⟨2, ⟨0, 0, 0⟩, 0, ⟨#[104, 111, 108, 101]⟩⟩ runR4) runD4]
 rfl
theorem runEx : RunEx := ⟨⟨#[]⟩, 0, runEx2⟩
end Go.Proofs.YtolbjmaabghghaaGreatDoor.PA
