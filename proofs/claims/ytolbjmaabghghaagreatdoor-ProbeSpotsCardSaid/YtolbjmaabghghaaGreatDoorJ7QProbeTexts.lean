/- A part of the proof. -/
import Derived.Test.YtolbjmaabghghaaGreatDoorJ7QRead3
import Derived.Test.YtolbjmaabghghaaGreatDoorJ7QAwake
import Derived.Test.YtolbjmaabghghaaGreatDoorJ7PAx28
namespace Go.Proofs.YtolbjmaabghghaaGreatDoor.PA
open Go.RowKit Go.PW Go.PL Go.PM
theorem pread_eq (s : ByteArray) (k : Nat) (hk : 9000 ≤ k) : probe_Read.f k s = if (s.size : Int) > 4096 then some (0, 0, 0, 0, 0, (⟨#[]⟩ : ByteArray), 17) else some (readV (guess s) s) := by
 unfold probe_Read.f
 split
 ·rfl
 ·rename_i h
  have hs : s.size ≤ 4096 := by omega
  unfold probe_guessed.f
  rw [if_pos hs]
  simp only [Option.bind_some]
  rw [pText_eq _ _ _ _ _ _ (pguess_size s hs) k (by omega)]
  simp only [Option.bind_some]
  unfold readV
  generalize textV (guess s).1 (guess s).2.1 (guess s).2.2.1 (guess s).2.2.2.1 (guess s).2.2.2.2.1 (guess s).2.2.2.2.2.data.toList = t
  obtain ⟨t1, t2⟩ := t
  by_cases h2 : t2 = 0
  ·by_cases h1 : t1 = s
   ·rw [if_pos h2, if_pos (by rw [h1]), if_pos (by rw [h1, h2])]
   ·rw [if_pos h2, if_neg (fun hh => h1 (by rw [ba_toList, ba_toList] at hh; rw [← ba_of t1, hh, ba_of])), if_neg (fun hh => h1 (congrArg Prod.fst hh))]
  ·rw [if_neg h2, if_neg (fun hh => h2 (congrArg Prod.snd hh))]
end Go.Proofs.YtolbjmaabghghaaGreatDoor.PA
