/- A part of the proof. -/
import Derived.Test.YtolbjmaabghghaaGreatDoorF7QRead3
import Derived.Test.YtolbjmaabghghaaGreatDoorF7QAwake
import Derived.Test.YtolbjmaabghghaaGreatDoorF7PAx28
namespace Go.Proofs.YtolbjmaabghghaaGreatDoor.PA
open Go.RowKit Go.PW Go.PL Go.PM
theorem pread_eq (s : ByteArray) (k : Nat) (hk : 9000 ≤ k) : probe_Read.f k s = if (s.size : Int) > 4096 then some (0, 0, 0, 0, 0, (⟨#[]⟩ : ByteArray), 17) else some (readV (guess s) s) := by
 unfold probe_Read.f
 split
 ·rfl
 ·rename_i h
  have hs : s.size ≤ 4096 := by omega
  unfold probe_guessed.f
  rw [if_pos hs]
  simp only [Option.bind_some]
  rw [pText_eq _ _ _ _ _ _ (pguess_size s hs) k (by omega)]
  simp only [Option.bind_some]
  unfold readV
  generalize textV (guess s).1 (guess s).2.1 (guess s).2.2.1 (guess s).2.2.2.1 (guess s).2.2.2.2.1 (guess s).2.2.2.2.2.data.toList = t
  obtain ⟨t1, t2⟩ := t
  by_cases h2 : t2 = 0
  ·by_cases h1 : t1 = s
   ·rw [if_pos h2, if_pos (by rw [h1]), if_pos (by rw [h1, h2])]
   ·rw [if_pos h2, if_neg (fun hh => h1 (by rw [ba_toList, ba_toList] at hh; rw [← ba_of t1, hh, ba_of])), if_neg (fun hh => h1 (congrArg Prod.fst hh))]
  ·rw [if_neg h2, if_neg (fun hh => h2 (congrArg Prod.snd hh))]
theorem rread_eq (s : ByteArray) (k : Nat) (hk : 9000 ≤ k) : metrolabref30_Read.f k s = if (s.size : Int) > 4096 then some (0, 0, 0, 0, 0, (⟨#[]⟩ : ByteArray), 17) else some (readV (guess s) s) := by
 unfold metrolabref30_Read.f
 split
 ·rfl
 ·rename_i h
  have hs : s.size ≤ 4096 := by omega
  have hsz : s.size = s.data.toList.length := by rw [← ba_of s, ba_size, ba_data]
  obtain ⟨g, hg, hgs⟩ := rguess_total s.data.toList (by omega) k hk
  rw [ba_of] at hg
  rw [read_same s g k hk hg hgs (pguess_size s hs), hg]
  simp only [Option.bind_some]
  rw [rText_eq _ _ _ _ _ _ hgs k (by omega)]
  simp only [Option.bind_some]
  unfold readV
  generalize textV g.1 g.2.1 g.2.2.1 g.2.2.2.1 g.2.2.2.2.1 g.2.2.2.2.2.data.toList = t
  obtain ⟨t1, t2⟩ := t
  by_cases h2 : t2 = 0
  ·by_cases h1 : t1 = s
   ·rw [if_pos h2, if_pos (by rw [h1]), if_pos (by rw [h1, h2])]
   ·rw [if_pos h2, if_neg (fun hh => h1 (by rw [ba_toList, ba_toList] at hh; rw [← ba_of t1, hh, ba_of])), if_neg (fun hh => h1 (congrArg Prod.fst hh))]
  ·rw [if_neg h2, if_neg (fun hh => h2 (congrArg Prod.snd hh))]
theorem probeTexts_k (hr : RunEx) (a0 a1 a2 a3 a4 : Int) (s t : ByteArray) (k : Nat) (hk : 10001 ≤ k) : metrolablaw30_ProbeTexts.f k a0 a1 a2 a3 a4 s t = some true := by
 obtain ⟨k, rfl⟩ : ∃ i, k = i + 1 := ⟨k - 1, by omega⟩
 have ha := awake_all hr k (by omega)
 have ht : ∀ b, s.size ≤ 200 ∨ b = true → metrolablaw30_ProbeTexts.j0 (k + 1) t b a0 a1 a2 a3 a4 s = some true := fun b hb => by
  rw [metrolablaw30_ProbeTexts.j0]
  by_cases h : b = true
  ·rw [if_pos h, ha]; rfl
  ·have hs : s.size ≤ 200 := by rcases hb with hb | hb; exact hb; exact absurd hb h
   rw [if_neg h, pText_eq _ _ _ _ _ _ (by omega) k (by omega), rText_eq _ _ _ _ _ _ (by omega) k (by omega), pread_eq t k (by omega), rread_eq t k (by omega), pRight_eq _ _ _ _ _ _ (by omega) k (by omega), rRight_eq _ _ _ _ _ _ (by omega) k (by omega)]
   split <;> simp only [Option.bind_some, beq_self_eq_true, Bool.and_self, if_true, ha]
 unfold metrolablaw30_ProbeTexts.f
 split
 ·exact ht _ (.inr rfl)
 ·rename_i h
  have hs : s.size ≤ 200 := by omega
  split
  ·split
   ·exact ht _ (.inr rfl)
   ·exact ht _ (.inl hs)
  ·exact ht _ (.inl hs)
end Go.Proofs.YtolbjmaabghghaaGreatDoor.PA
