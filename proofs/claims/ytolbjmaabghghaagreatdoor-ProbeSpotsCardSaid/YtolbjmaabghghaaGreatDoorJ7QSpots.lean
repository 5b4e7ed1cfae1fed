/- A part of the proof. -/
import Derived.Test.YtolbjmaabghghaaGreatDoorJ7QMach
import Derived.Test.YtolbjmaabghghaaGreatDoorJ7QProbeTexts
import Derived.Test.YtolbjmaabghghaaGreatDoorJ7QAwake
namespace Go.Proofs.YtolbjmaabghghaaGreatDoor.PA
open Go.RowKit Go.PW Go.PL Go.PM
def toRefS (x : S47) : S52 := ⟨x.f0, x.f1, x.f2, x.f3⟩
theorem steps_l0 (l : List S47) (hl : l.length < 2513169434916) : ∀ (n i k : Nat), i + n = l.length → n + 1 ≤ k → metrolablaw30_steps.l0 k ((l.take i).map toRefS) l (l.length : Int) (i : Int) = some (l.map toRefS)
 | 0, i, k, hi, hk => by
  obtain ⟨k, rfl⟩ : ∃ k', k = k' + 1 := ⟨k - 1, by omega⟩
  unfold metrolablaw30_steps.l0
  rw [if_neg (by omega), List.take_of_length_le (by omega)]
 | n + 1, i, k, hi, hk => by
  obtain ⟨k, rfl⟩ : ∃ k', k = k' + 1 := ⟨k - 1, by omega⟩
  have ih := steps_l0 l hl n (i + 1) k (by omega) (by omega)
  unfold metrolablaw30_steps.l0
  rw [if_pos (by omega), if_pos (by omega), if_pos (by omega), if_pos (by simp; omega), wrap1 (by omega) (by omega), show (i : Int) + 1 = ((i + 1 : Nat) : Int) by omega]
  rw [← ih]
  congr 1
  rw [List.take_add_one, List.map_append]
  congr 1
  rw [List.getElem?_eq_getElem (by omega)]
  simp [rd_T47, List.getD, List.getElem?_eq_getElem (show i < l.length by omega), toRefS]
theorem steps_eq (l : List S47) (hl : l.length < 2513169434916) (k : Nat) (hk : l.length + 1 ≤ k) : metrolablaw30_steps.f k l = some (l.map toRefS) := by
 have := steps_l0 l hl l.length 0 k (by omega) hk
 simpa [metrolablaw30_steps.f] using this
theorem few_l0 (L : List S52) (hL : L.length ≤ 24) : ∀ (n i k : Nat), i + n = L.length → n + 1 ≤ k → ∃ b, metrolabref30_FewSteps.l0 k L (i : Int) = some b ∧ (b = true → ∀ j (hj : j < L.length), i ≤ j → (L[j]'hj).f3.size ≤ 60)
 | 0, i, k, hi, hk => by
  obtain ⟨k, rfl⟩ : ∃ k', k = k' + 1 := ⟨k - 1, by omega⟩
  unfold metrolabref30_FewSteps.l0
  rw [if_neg (by omega)]
  exact ⟨true, rfl, fun _ j hj h => by omega⟩
 | n + 1, i, k, hi, hk => by
  obtain ⟨k, rfl⟩ : ∃ k', k = k' + 1 := ⟨k - 1, by omega⟩
  obtain ⟨b, hb, h⟩ := few_l0 L hL n (i + 1) k (by omega) (by omega)
  unfold metrolabref30_FewSteps.l0
  have hil : i < L.length := by omega
  have hrd : rd_T52 L (i : Int) = L[i] := by
   unfold rd_T52
   rw [Int.toNat_natCast, List.getD_eq_getElem?_getD, List.getElem?_eq_getElem hil]
   rfl
  obtain ⟨nb, hnb⟩ := near_some (rd_T52 L (i : Int)).f1.f0 (rd_T52 L (i : Int)).f1.f1 (rd_T52 L (i : Int)).f1.f2
  rw [if_pos (by omega), if_pos (by omega), hnb]
  simp only [Option.bind_some]
  cases nb
  ·exact ⟨false, by simp, fun h => by cases h⟩
  ·simp only [if_true]
   rw [hrd]
   by_cases h60 : ((L[i]).f3.size : Int) > 60
   ·rw [if_pos h60]
    exact ⟨false, rfl, fun h => by cases h⟩
   ·rw [if_neg h60, wrap1 (by omega) (by omega), show (i : Int) + 1 = ((i + 1 : Nat) : Int) by omega, hb]
    refine ⟨b, rfl, fun hbt j hj hij => ?_⟩
    rcases Nat.eq_or_lt_of_le hij with rfl | hlt
    ·omega
    ·exact h hbt j hj (by omega)
theorem fewSteps_ex (l : List S47) (k : Nat) (hk : 30 ≤ k) : ∃ b, metrolabref30_FewSteps.f k (l.map toRefS) = some b ∧ (b = true → l.length ≤ 4096 → ∀ x ∈ l, x.f3.size ≤ 4096) := by
 unfold metrolabref30_FewSteps.f
 rw [List.length_map]
 by_cases h24 : (l.length : Int) > 24
 ·rw [if_pos h24]
  by_cases h4 : (l.length : Int) > 4096
  ·rw [if_pos h4]
   exact ⟨_, rfl, fun _ h => by omega⟩
  ·rw [if_neg h4]
   exact ⟨false, rfl, fun h => by cases h⟩
 ·rw [if_neg h24]
  obtain ⟨b, hb, h⟩ := few_l0 (l.map toRefS) (by rw [List.length_map]; omega) l.length 0 k (by rw [List.length_map]; omega) (by omega)
  refine ⟨b, hb, fun hbt _ x hx => ?_⟩
  obtain ⟨j, hj, rfl⟩ := List.mem_iff_getElem.1 hx
  have := h hbt j (by rw [List.length_map]; exact hj) (Nat.zero_le _)
  rw [List.getElem_map] at this
  exact Nat.le_trans this (by decide)
theorem condD_free : condD (false, 0) = true := by decide
theorem spot_ok (a0 a1 a2 a3 a4 a5 : Int) (l : List S84) (hc : checkV a0 a1 a2 a3 a4 a5 l = 0) (q : S23) (h : spotV (FF a0 a1 a2 a3 a4 a5 l) q) (kf : Nat) (hk : 50 ≤ kf) : spotOk kf a0 a1 a2 a3 a4 a5 l q := by
 obtain ⟨hf, hr, d, ⟨h0, h5⟩, hrd, hfd⟩ := h
 have mat : ∀ p : S23, rightS3 p → materialV a0 a1 a2 a3 a4 a5 l p.f0 p.f1 p.f2 = (fullV a0 a1 a2 a3 a4 a5 l p.f0 p.f1 p.f2, 0) := fun p hp => by
  unfold materialV givenV
  rw [if_pos hc, if_pos ((rightB_iff p).2 hp), if_pos rfl]
 refine ⟨fun d => stepD (d : Int) q, fun d => materialV a0 a1 a2 a3 a4 a5 l (stepD (d : Int) q).f0 (stepD (d : Int) q).f1 (stepD (d : Int) q).f2, ?_, fun d hd => ⟨ahead_eq (d : Int) (by omega) (by omega) q hr, material_eq _ _ _ _ _ _ _ _ _ _ kf hk⟩, ?_⟩
 ·rw [material_eq _ _ _ _ _ _ _ _ _ _ kf hk, mat q hr, show fullV a0 a1 a2 a3 a4 a5 l q.f0 q.f1 q.f2 = true from hf]
 ·rw [List.any_eq_true]
  refine ⟨d.toNat, List.mem_range.2 (by omega), ?_⟩
  have hdd : ((d.toNat : Nat) : Int) = d := by omega
  show condD (materialV a0 a1 a2 a3 a4 a5 l (stepD ((d.toNat : Nat) : Int) q).f0 _ _) = true
  rw [hdd, mat _ hrd, show fullV a0 a1 a2 a3 a4 a5 l (stepD d q).f0 (stepD d q).f1 (stepD d q).f2 = false from hfd]
  exact condD_free
theorem writ_len {a0 a1 a2 a3 a4 : Int} {l : List UInt8} (h : rightV a0 a1 a2 a3 a4 l = 0) : (writL a0 a1 a2 a3 a4 l).length ≤ 100 := by
 unfold writL
 rcases right0 h with ⟨h0, ⟨h1, h2, h3⟩, _⟩ | ⟨h0, _⟩ | ⟨h0, hn, _⟩
 ·rw [if_pos h0]
  have e1 := itoa_len a1 h1
  have e2 := itoa_len a2 h2
  have e3 := itoa_len a3 h3
  unfold moveL
  simp only [List.length_append, List.length_cons, List.length_nil]
  omega
 ·rw [if_neg (by omega), if_pos h0]
  unfold dirL
  repeat' split
  all_goals decide
 ·rw [if_neg (by omega), if_neg (by omega)]
  have : l.length ≤ 24 := by
   unfold nameErr at hn
   split at hn
   ·cases hn
   ·split at hn
    ·split at hn
     ·cases hn
     ·split at hn
      ·cases hn
      ·omega
    ·cases hn
  simp only [List.length_append, List.length_cons, List.length_nil]
  omega
theorem step_ok (x : S47) (h : rightV x.f0 x.f1.f0 x.f1.f1 x.f1.f2 x.f2 x.f3.data.toList = 0) (hs : x.f3.size ≤ 4096) (kf : Nat) (hk : 9000 ≤ kf) : stepOk kf x := by
 refine ⟨ba (writL x.f0 x.f1.f0 x.f1.f1 x.f1.f2 x.f2 x.f3.data.toList), ?_, ?_⟩
 ·rw [pText_eq _ _ _ _ _ _ hs kf (by omega)]
  unfold textV
  rw [if_pos h]
 ·have hl := writ_len h
  rw [pread_eq _ kf hk, if_neg (by rw [ba_size]; omega), pguess_eq _ _ _ _ _ _ h]
  unfold readV
  dsimp only
  rw [if_pos (by unfold textV; rw [if_pos h])]
theorem spots_all (hR : RunEx) (a0 a1 a2 a3 a4 a5 : Int) (A : Option Addr) (c : Nat) (l : List S84) (x y z : Int) (A2 : Option Addr) (c2 : Nat) (l2 : List S47) (w : World) (hG : GW w)
  (hr : Kd.C k84 w A l.length l) (hc : l.length ≤ c) (hr2 : Kd.C k47 w A2 l2.length l2) (hc2 : l2.length ≤ c2) (hl : l.length < 4398046511104) (hl2 : l2.length < 2513169434916) :
  Calls Tryz.prog 7 #[.agg #[.int .i64 a0, .int .i64 a1, .int .i64 a2, .int .i64 a3, .int .i64 a4, .int .i64 a5, .slice A l.length c], .agg #[.int .i64 x, .int .i64 y, .int .i64 z], .slice A2 l2.length c2] w fun e w' => e = .returned (.bool true) ∧ Below w.heap.size w w' := by
 obtain ⟨k, hk1, hk2, hk3⟩ : ∃ k : Nat, 10000 ≤ k ∧ l.length + 1 ≤ k ∧ l2.length + 1 ≤ k := ⟨10000 + (l.length + 1) + (l2.length + 1), by omega, by omega, by omega⟩
 have hA := awake_all hR k (by omega)
 have hO := own_eq a0 a1 a2 a3 a4 a5 l hl k hk2
 have hF := few_eq' a0 a1 a2 a3 a4 a5 l
 obtain ⟨nb, hN⟩ := Near_some x y z x y z
 have hS := steps_eq l2 hl2 k hk3
 obtain ⟨sb, hFS, hsb⟩ := fewSteps_ex l2 k (by omega)
 cases hg : (decide (l.length ≤ 32) && nb && sb)
 ·exact spots.guard k a0 a1 a2 a3 a4 a5 A c l x y z A2 c2 l2 _ _ _ _ _ _ _ _ _ nb sb w hG hr hc hr2 hc2 hA hO hF hN hS hFS hg
 ·simp only [Bool.and_eq_true, decide_eq_true_eq] at hg
  obtain ⟨⟨h32, rfl⟩, rfl⟩ := hg
  rw [decide_eq_true h32] at hF
  obtain ⟨r1, sm, r3, e, hrun, h⟩ := run_all a0 a1 a2 a3 a4 a5 l x y z l2 (hsb rfl)
  by_cases he : e = 0
  ·subst he
   obtain ⟨hck, hsm, hasc, hst⟩ := h rfl
   refine spots.main k a0 a1 a2 a3 a4 a5 A c l x y z A2 c2 l2 _ _ _ _ _ _ _ _ r1 sm r3 w hG hr hc hr2 hc2 hA hO hF hN hS hFS hrun (fun j hj => ?_) (fun j h0 hj => ?_) (fun j hj p hp => ?_) (fun s hs => ?_)
   ·rw [rd76 sm j hj]
    exact (hsm _ (List.getElem_mem hj)).1
   ·rw [rd76 sm j hj, rd76 sm (j - 1) (by omega)]
    exact leB_false (asc_at hasc (by omega) hj)
   ·rw [rd76 sm j hj] at hp
    exact spot_ok a0 a1 a2 a3 a4 a5 l hck p ((hsm _ (List.getElem_mem hj)).2 p hp) k (by omega)
   ·exact step_ok s (hst s hs).1 (hst s hs).2 k (by omega)
  ·exact spots.runErr k a0 a1 a2 a3 a4 a5 A c l x y z A2 c2 l2 _ _ _ _ _ _ _ _ r1 sm r3 e w hG hr hc hr2 hc2 hA hO hF hN hS hFS hrun he
end Go.Proofs.YtolbjmaabghghaaGreatDoor.PA
