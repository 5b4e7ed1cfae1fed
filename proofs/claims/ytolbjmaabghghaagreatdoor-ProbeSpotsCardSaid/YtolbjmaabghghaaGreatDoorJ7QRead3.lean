/- A part of the proof. -/
import Derived.Test.YtolbjmaabghghaaGreatDoorJ7EGuessed
import Derived.Test.YtolbjmaabghghaaGreatDoorJ7EItoa
import Derived.Test.YtolbjmaabghghaaGreatDoorJ7PAx0
import Derived.Test.YtolbjmaabghghaaGreatDoorJ7PAx1
import Derived.Test.YtolbjmaabghghaaGreatDoorJ7PAx17
import Derived.Test.YtolbjmaabghghaaGreatDoorJ7QChecks
import Derived.Test.YtolbjmaabghghaaGreatDoorJ7PAx10
import Derived.Test.YtolbjmaabghghaaGreatDoorJ7ENamed
import Derived.Test.YtolbjmaabghghaaGreatDoorJ7PAx13
namespace Go.Proofs.YtolbjmaabghghaaGreatDoor.PA
open Go.RowKit Go.PW Go.PL Go.PM
def ba (l : List UInt8) : ByteArray := ⟨l.toArray⟩
theorem ba_size (l : List UInt8) : (ba l).size = l.length := by simp [ba, ByteArray.size]
theorem ba_toList (s : ByteArray) : s.toList = s.data.toList := by
 rw [Lib.toList_data]
theorem ba_data (l : List UInt8) : (ba l).data.toList = l := by simp [ba]
theorem ba_app (l m : List UInt8) : ba l ++ ba m = ba (l ++ m) := by
 apply ByteArray.ext; simp [ba]
theorem ba_of (s : ByteArray) : ba s.data.toList = s := by simp [ba]
theorem wrap_id9 {n : Int} (h : -100000000000 ≤ n ∧ n ≤ 100000000000) : wrap64 n = n := by unfold wrap64; omega
theorem digitVal_of : ∀ i : Fin 10, Lib.digitVal (UInt8.ofNat (48 + i.1)) = some i.1 := by decide
theorem digit_nat : ∀ i : Fin 10, (UInt8.ofNat (48 + i.1)).toNat = 48 + i.1 := by decide
theorem decFrom_app (l m : List UInt8) : ∀ acc, Lib.decFrom acc (l ++ m) = (Lib.decFrom acc l).bind fun a => Lib.decFrom a m := by
 induction l with
 | nil => intro acc; simp [Lib.decFrom]
 | cons b r ih =>
  intro acc
  rw [List.cons_append, Lib.decFrom, Lib.decFrom]
  cases h : Lib.digitVal b with
  | none => rfl
  | some d => exact ih _
theorem dec_unfold (u : Nat) (h : 10 ≤ u) : Lib.decDigits u = Lib.decDigits (u / 10) ++ [UInt8.ofNat (48 + u % 10)] := by
 rw [Lib.decDigits.eq_def, dif_neg (by omega)]
theorem decFrom_digits : ∀ u, Lib.decFrom 0 (Lib.decDigits u) = some u := by
 intro u
 induction u using Nat.strongRecOn with
 | _ u ih =>
  by_cases h : u < 10
  ·rw [Lib.decDigits_one h, Lib.decFrom, digitVal_of ⟨u, h⟩]
   simp [Lib.decFrom]
  ·rw [dec_unfold u (by omega), decFrom_app, ih (u / 10) (by omega)]
   simp only [Option.bind_some]
   rw [Lib.decFrom, digitVal_of ⟨u % 10, by omega⟩]
   simp only [Lib.decFrom]
   congr 1
   omega
theorem dec_chars : ∀ u, ∀ b ∈ Lib.decDigits u, 48 ≤ b.toNat ∧ b.toNat ≤ 57 := by
 intro u
 induction u using Nat.strongRecOn with
 | _ u ih =>
  intro b hb
  by_cases h : u < 10
  ·rw [Lib.decDigits_one h, List.mem_singleton] at hb
   subst hb
   rw [digit_nat ⟨u, h⟩]
   simp only
   omega
  ·rw [dec_unfold u (by omega), List.mem_append, List.mem_singleton] at hb
   rcases hb with hb | hb
   ·exact ih (u / 10) (by omega) b hb
   ·subst hb
    rw [digit_nat ⟨u % 10, by omega⟩]
    simp only
    omega
theorem dec_len (k : Nat) : ∀ u, u < 10 ^ (k + 1) → 1 ≤ (Lib.decDigits u).length ∧ (Lib.decDigits u).length ≤ k + 1 := by
 induction k with
 | zero => intro u h; rw [Lib.decDigits_one (by omega)]; simp
 | succ k ih =>
  intro u h
  by_cases h10 : u < 10
  ·rw [Lib.decDigits_one h10]; simp
  ·rw [dec_unfold u (by omega), List.length_append]
   have := ih (u / 10) (by rw [Nat.pow_succ] at h; omega)
   simp only [List.length_singleton]
   omega
theorem dec_ne (u : Nat) : Lib.decDigits u ≠ [] := by
 intro h
 by_cases h10 : u < 10
 ·rw [Lib.decDigits_one h10] at h; simp at h
 ·rw [dec_unfold u (by omega)] at h; simp at h
theorem atoi_itoa (n : Int) (h : -100000 ≤ n ∧ n ≤ 100000) : atoiV (ba (Lib.itoa n)) = n := by
 have hn : ∀ u : Nat, Lib.decNat (Lib.decDigits u) = some u := fun u => by
  unfold Lib.decNat
  rw [if_neg (by simpa using dec_ne u)]
  exact decFrom_digits u
 unfold atoiV
 rw [ba_data]
 by_cases hneg : n < 0
 ·have e : Lib.itoa n = 45 :: Lib.decDigits n.natAbs := by unfold Lib.itoa; rw [if_pos hneg]
  have hl := dec_len 5 n.natAbs (by omega)
  rw [e, Lib.atoiAll_short _ (by simp only [List.length_cons]; omega), Lib.atoi]
  simp only [beq_self_eq_true, if_true, hn, Option.map_some, Lib.NumEnd.ofOption]
  omega
 ·have e : Lib.itoa n = Lib.decDigits n.toNat := by unfold Lib.itoa; rw [if_neg hneg]
  have hl := dec_len 5 n.toNat (by omega)
  rw [e, Lib.atoiAll_short _ (by omega)]
  have hc := dec_chars n.toNat
  have hd := hn n.toNat
  cases hq : Lib.decDigits n.toNat with
  | nil => exact absurd hq (dec_ne _)
  | cons b r =>
   rw [hq] at hc hd
   have hb := hc b (by simp)
   have h45 : (b == 45) = false := by
    rw [beq_eq_false_iff_ne]; rintro rfl; exact absurd hb.1 (by decide)
   have h43 : (b == 43) = false := by
    rw [beq_eq_false_iff_ne]; rintro rfl; exact absurd hb.1 (by decide)
   rw [Lib.atoi, h45, h43]
   simp only [Bool.false_eq_true, if_false, hd, Option.map_some, Lib.NumEnd.ofOption]
   omega
end Go.Proofs.YtolbjmaabghghaaGreatDoor.PA
namespace Go.Proofs.YtolbjmaabghghaaGreatDoor.PA
open Go.RowKit Go.PW Go.PL Go.PM
theorem ba_ext (l : List UInt8) (i j : Nat) : (ba l).extract i j = ba ((l.drop i).take (j - i)) := by
 apply ByteArray.ext
 simp [ba]
end Go.Proofs.YtolbjmaabghghaaGreatDoor.PA
namespace Go.Proofs.YtolbjmaabghghaaGreatDoor.PA
open Go.RowKit Go.PW Go.PL Go.PM
def rightV (a0 a1 a2 a3 a4 : Int) (l : List UInt8) : Int :=
 if a0 = 0 then (if rightB a1 a2 a3 = true then (if a4 = 0 ∧ l = [] then 0 else 3) else 2)
 else if a0 = 1 then (if a4 < 0 ∨ 5 < a4 then 1 else if (a1 = 0 ∧ a2 = 0 ∧ a3 = 0) ∧ l = [] then 0 else 3)
 else if a0 = 2 then (if nameErr l = 0 then (if (a1 = 0 ∧ a2 = 0 ∧ a3 = 0) ∧ a4 = 0 then 0 else 3) else nameErr l) else 1
theorem zeros3 (a1 a2 a3 : Int) : (!(a1 == 0) || (!(a2 == 0) || (!(a3 == 0)))) = !decide (a1 = 0 ∧ a2 = 0 ∧ a3 = 0) := by
 by_cases h1 : a1 = 0 <;> by_cases h2 : a2 = 0 <;> by_cases h3 : a3 = 0 <;> simp [h1, h2, h3]
theorem pRight_eq (a0 a1 a2 a3 a4 : Int) (s : ByteArray) (hs : s.size ≤ 4096) (k : Nat) (hk : 5 ≤ k) : probe_Right.f k a0 a1 a2 a3 a4 s = some (rightV a0 a1 a2 a3 a4 s.data.toList) := by
 obtain ⟨k, rfl⟩ : ∃ i, k = i + 1 := ⟨k - 1, by omega⟩
 unfold probe_Right.f rightV
 by_cases h0 : a0 = 0
 ·rw [if_pos h0, if_pos h0, right_eq]
  simp only [Option.bind_some]
  by_cases hr : rightB a1 a2 a3 = true
  ·rw [if_pos hr, if_pos hr, ba_toList]
   generalize s.data.toList = l
   by_cases h4 : a4 = 0 <;> by_cases hl : l = [] <;> simp [h4, hl]
  ·rw [if_neg hr, if_neg hr]
 ·rw [if_neg h0, if_neg h0]
  by_cases h1 : a0 = 1
  ·rw [if_pos h1, if_pos h1]
   by_cases hd : a4 < 0
   ·rw [if_pos hd, if_pos (.inl hd), probe_Right.j0]; rfl
   ·rw [if_neg hd, probe_Right.j0]
    by_cases hd5 : 5 < a4
    ·rw [if_pos (by simpa using hd5), if_pos (.inr hd5)]
    ·rw [if_neg (by simpa using hd5), if_neg (show ¬ (a4 < 0 ∨ 5 < a4) by omega), ba_toList, zeros3]
     generalize s.data.toList = l
     by_cases hz : a1 = 0 ∧ a2 = 0 ∧ a3 = 0 <;> by_cases hl : l = [] <;> simp [hz, hl]
  ·rw [if_neg h1, if_neg h1]
   by_cases h2 : a0 = 2
   ·rw [if_pos h2, if_pos h2]
    unfold probe_named.f
    rw [if_pos hs]
    simp only [Option.bind_some]
    by_cases hn : nameErr s.data.toList = 0
    ·rw [if_pos hn, if_pos hn, zeros3]
     by_cases hz : a1 = 0 ∧ a2 = 0 ∧ a3 = 0 <;> by_cases h4 : a4 = 0 <;> simp [hz, h4]
    ·rw [if_neg hn, if_neg hn]
   ·rw [if_neg h2, if_neg h2]
end Go.Proofs.YtolbjmaabghghaaGreatDoor.PA
namespace Go.Proofs.YtolbjmaabghghaaGreatDoor.PA
open Go.RowKit Go.PW Go.PL Go.PM
def dirL (d : Int) : List UInt8 := if d = 0 then [43, 88] else if d = 1 then [45, 88] else if d = 2 then [43, 89] else if d = 3 then [45, 89] else if d = 4 then [43, 90] else [45, 90]
def moveL (x y z : Int) : List UInt8 := [109, 111, 118, 101] ++ 32 :: (Lib.itoa x ++ 32 :: (Lib.itoa y ++ 32 :: Lib.itoa z))
def writL (a0 a1 a2 a3 a4 : Int) (l : List UInt8) : List UInt8 := if a0 = 0 then moveL a1 a2 a3 else if a0 = 1 then [116, 111, 117, 99, 104, 32] ++ dirL a4 else [116, 97, 107, 101, 32] ++ l
def textV (a0 a1 a2 a3 a4 : Int) (l : List UInt8) : ByteArray × Int := if rightV a0 a1 a2 a3 a4 l = 0 then (ba (writL a0 a1 a2 a3 a4 l), 0) else (ba [], rightV a0 a1 a2 a3 a4 l)
theorem rightB_in {x y z : Int} (h : rightB x y z = true) : (-100000 ≤ x ∧ x ≤ 100000) ∧ (-100000 ≤ y ∧ y ≤ 100000) ∧ (-100000 ≤ z ∧ z ≤ 100000) := by
 unfold rightB inR at h
 simpa [and_assoc] using h
theorem right0 {a0 a1 a2 a3 a4 : Int} {l : List UInt8} (h : rightV a0 a1 a2 a3 a4 l = 0) :
  (a0 = 0 ∧ ((-100000 ≤ a1 ∧ a1 ≤ 100000) ∧ (-100000 ≤ a2 ∧ a2 ≤ 100000) ∧ (-100000 ≤ a3 ∧ a3 ≤ 100000)) ∧ a4 = 0 ∧ l = []) ∨ (a0 = 1 ∧ (0 ≤ a4 ∧ a4 ≤ 5) ∧ (a1 = 0 ∧ a2 = 0 ∧ a3 = 0) ∧ l = []) ∨ (a0 = 2 ∧ nameErr l = 0 ∧ (a1 = 0 ∧ a2 = 0 ∧ a3 = 0) ∧ a4 = 0) := by
 unfold rightV at h
 split at h
 ·split at h
  ·split at h
   ·exact .inl ⟨by assumption, rightB_in (by assumption), by assumption⟩
   ·cases h
  ·cases h
 ·split at h
  ·split at h
   ·cases h
   ·split at h
    ·exact .inr (.inl ⟨by assumption, by omega, by assumption⟩)
    ·cases h
  ·split at h
   ·split at h
    ·split at h
     ·exact .inr (.inr ⟨by assumption, by assumption, by assumption⟩)
     ·cases h
    ·contradiction
   ·cases h
theorem itoa_len (n : Int) (h : -100000 ≤ n ∧ n ≤ 100000) : (Lib.itoa n).length ≤ 7 := by
 unfold Lib.itoa
 split
 ·have := dec_len 5 n.natAbs (by omega); simp only [List.length_cons]; omega
 ·have := dec_len 5 n.toNat (by omega); omega
theorem text_step (k : Nat) (s : List UInt8) (i x y z n : Int) (hi : 0 ≤ i ∧ i < 3) (hn : rd [x, y, z] i = n) (hb : -100000 ≤ n ∧ n ≤ 100000) (hs : s.length ≤ 100) :
  probe_Text.l0 (k + 1) (ba s) i x y z = probe_Text.l0 k (ba (s ++ 32 :: Lib.itoa n)) (i + 1) x y z := by
 have hl := itoa_len n hb
 rw [probe_Text.l0, if_pos hi.2, if_pos hi.1, hn]
 unfold strconv_Itoa_49.f
 rw [if_pos (by omega)]
 simp only [Option.bind_some]
 have e1 : (⟨(Lib.itoa n).toArray⟩ : ByteArray) = ba (Lib.itoa n) := rfl
 have e2 : (⟨#[32]⟩ : ByteArray) = ba [32] := rfl
 rw [e1, e2, ba_app, ba_size, ba_size, ba_size, if_pos (by omega), if_pos (by simp only [List.length_append, List.length_singleton]; omega), ba_app, wrap_id9 (by omega)]
 rfl
theorem pText_eq (a0 a1 a2 a3 a4 : Int) (s : ByteArray) (hs : s.size ≤ 4096) (k : Nat) (hk : 30 ≤ k) : probe_Text.f k a0 a1 a2 a3 a4 s = some (textV a0 a1 a2 a3 a4 s.data.toList) := by
 unfold probe_Text.f textV
 rw [pRight_eq a0 a1 a2 a3 a4 s hs k (by omega)]
 simp only [Option.bind_some]
 by_cases hr : rightV a0 a1 a2 a3 a4 s.data.toList = 0
 ·rw [if_pos hr, if_pos hr]
  rcases right0 hr with ⟨h0, hb, h4, hl⟩ | ⟨h0, hd, hz, hl⟩ | ⟨h0, hn, hz, h4⟩
  ·subst h0
   rw [if_pos rfl]
   unfold probe_of.f
   simp only [Option.bind_some]
   obtain ⟨k, rfl⟩ : ∃ i, k = i + 1 + 1 + 1 + 1 := ⟨k - 4, by omega⟩
   have h1 := itoa_len a1 hb.1
   have h2 := itoa_len a2 hb.2.1
   have e0 : (⟨#[109, 111, 118, 101]⟩ : ByteArray) = ba [109, 111, 118, 101] := rfl
   rw [e0, text_step _ _ 0 a1 a2 a3 a1 (by omega) rfl hb.1 (by simp), text_step _ _ (0 + 1) a1 a2 a3 a2 (by omega) rfl hb.2.1 (by simp only [List.length_append, List.length_cons, List.length_nil]; omega), text_step _ _ (0 + 1 + 1) a1 a2 a3 a3 (by omega) rfl hb.2.2 (by simp only [List.length_append, List.length_cons, List.length_nil]; omega), probe_Text.l0, if_neg (by omega)]
   congr 2
   unfold writL moveL
   rw [if_pos rfl]
   congr 1
   simp
  ·subst h0
   rw [if_neg (by decide), if_pos rfl]
   unfold writL
   rw [if_neg (by decide), if_pos rfl]
   rcases (show a4 = 0 ∨ a4 = 1 ∨ a4 = 2 ∨ a4 = 3 ∨ a4 = 4 ∨ a4 = 5 by omega) with rfl | rfl | rfl | rfl | rfl | rfl <;> rfl
  ·subst h0
   rw [if_neg (by decide), if_neg (by decide)]
   have e0 : (⟨#[116, 97, 107, 101, 32]⟩ : ByteArray) = ba [116, 97, 107, 101, 32] := rfl
   rw [if_pos (by omega), e0]
   unfold writL
   rw [if_neg (by decide), if_neg (by decide), ← ba_app, ba_of]
 ·rw [if_neg hr, if_neg hr]
  rfl
end Go.Proofs.YtolbjmaabghghaaGreatDoor.PA
namespace Go.Proofs.YtolbjmaabghghaaGreatDoor.PA
open Go.RowKit Go.PW Go.PL Go.PM
theorem itoa_no (n : Int) : ∀ b ∈ Lib.itoa n, b ≠ 32 := by
 intro b hb
 have hd : ∀ u, b ∈ Lib.decDigits u → b ≠ 32 := fun u h => by
  have := dec_chars u b h
  rintro rfl
  exact absurd this.1 (by decide)
 unfold Lib.itoa at hb
 split at hb
 ·rcases List.mem_cons.1 hb with h | h
  ·subst h; decide
  ·exact hd _ h
 ·exact hd _ hb
theorem index_at (r : List UInt8) : ∀ v : List UInt8, (∀ b ∈ v, b ≠ 32) → Lib.index (v ++ 32 :: r) [32] = (v.length : Int) := by
 intro v
 induction v with
 | nil => intro _; rw [List.nil_append, Lib.index.eq_2, if_pos (by simp [List.isPrefixOf])]; rfl
 | cons b v ih =>
  intro h
  rw [List.cons_append, Lib.index.eq_2, ih (fun x hx => h x (by simp [hx]))]
  have : ([32] : List UInt8).isPrefixOf (b :: (v ++ 32 :: r)) = false := by
   have hb := h b (by simp)
   simp [List.isPrefixOf, Ne.symm hb]
  rw [this, if_neg (by decide), if_neg (by simp)]
  simp
theorem cut_at (v r : List UInt8) (h : ∀ b ∈ v, b ≠ 32) : Lib.cut (v ++ 32 :: r) [32] = (v, r, true) := by
 unfold Lib.cut
 rw [index_at r v h, if_pos (by omega)]
 simp
theorem verb_at (v r : List UInt8) (h : ∀ b ∈ v, b ≠ 32) : verbOf (ba (v ++ 32 :: r)) = ba v := by
 unfold verbOf
 rw [ba_data, cut_at v r h]
 rfl
theorem rest_at (v r : List UInt8) (h : ∀ b ∈ v, b ≠ 32) : restOf (ba (v ++ 32 :: r)) = ba r := by
 unfold restOf
 rw [ba_data, cut_at v r h]
 rfl
theorem split_at (v r : List UInt8) (k : Nat) (h : ∀ b ∈ v, b ≠ 32) : Lib.splitB ⟨#[32]⟩ 0 (k + 1) (ba (v ++ 32 :: r)) = ba v :: Lib.splitB ⟨#[32]⟩ 0 k (ba r) := by
 rw [Lib.splitB_hit ⟨#[32]⟩ 0 k (ba (v ++ 32 :: r)) v.length (by unfold Lib.indexB; rw [ba_data]; exact index_at r v h), ba_ext, ba_ext, ba_size]
 have e1 : ((v ++ 32 :: r).drop 0).take (v.length + 0 - 0) = v := by simp
 have e2 : ((v ++ 32 :: r).drop (v.length + (⟨#[32]⟩ : ByteArray).size)).take ((v ++ 32 :: r).length - (v.length + (⟨#[32]⟩ : ByteArray).size)) = r := by
  have : (⟨#[32]⟩ : ByteArray).size = 1 := rfl
  rw [this, ← List.drop_drop]
  simp only [List.drop_left, List.drop_succ_cons, List.drop_zero, List.length_append, List.length_cons]
  exact List.take_of_length_le (by omega)
 rw [e1, e2]
theorem ba_inj {l m : List UInt8} (h : ba l = ba m) : l = m := by rw [← ba_data l, h, ba_data]
theorem pguess_eq (a0 a1 a2 a3 a4 : Int) (s : ByteArray) (hr : rightV a0 a1 a2 a3 a4 s.data.toList = 0) : guess (ba (writL a0 a1 a2 a3 a4 s.data.toList)) = (a0, a1, a2, a3, a4, s) := by
 have nil_of : s.data.toList = [] → s = ⟨#[]⟩ := fun h => by rw [← ba_of s, h]; rfl
 unfold writL
 rcases right0 hr with ⟨h0, hb, h4, hl⟩ | ⟨h0, hd, hz, hl⟩ | ⟨h0, hn, hz, h4⟩
 ·subst h0
  rw [if_pos rfl]
  unfold moveL guess
  have hm : ∀ b ∈ ([109, 111, 118, 101] : List UInt8), b ≠ 32 := by decide
  rw [verb_at _ _ hm, rest_at _ _ hm, if_pos (show ba [109, 111, 118, 101] = ⟨#[109, 111, 118, 101]⟩ from rfl)]
  have hp : partsOf (ba (Lib.itoa a1 ++ 32 :: (Lib.itoa a2 ++ 32 :: Lib.itoa a3))) = [ba (Lib.itoa a1), ba (Lib.itoa a2), ba (Lib.itoa a3)] := by
   unfold partsOf
   rw [ba_size, show min 3 ((Lib.itoa a1 ++ 32 :: (Lib.itoa a2 ++ 32 :: Lib.itoa a3)).length + 1) - 1 = 1 + 1 by simp only [List.length_append, List.length_cons]; omega]
   rw [split_at _ _ _ (itoa_no a1), split_at _ _ _ (itoa_no a2), Lib.splitB_zero]
  rw [hp]
  unfold numOf
  simp only [List.length_cons, List.length_nil, List.getD_cons_zero, List.getD_cons_succ]
  rw [if_pos (by omega), if_pos (by omega), if_pos (by omega), atoi_itoa a1 hb.1, atoi_itoa a2 hb.2.1, atoi_itoa a3 hb.2.2, nil_of hl, h4]
 ·subst h0
  rw [if_neg (by decide), if_pos rfl, nil_of hl, hz.1, hz.2.1, hz.2.2]
  rcases (show a4 = 0 ∨ a4 = 1 ∨ a4 = 2 ∨ a4 = 3 ∨ a4 = 4 ∨ a4 = 5 by omega) with rfl | rfl | rfl | rfl | rfl | rfl <;> rfl
 ·subst h0
  rw [if_neg (by decide), if_neg (by decide)]
  unfold guess
  have hm : ∀ b ∈ ([116, 97, 107, 101] : List UInt8), b ≠ 32 := by decide
  have e : ([116, 97, 107, 101, 32] : List UInt8) ++ s.data.toList = [116, 97, 107, 101] ++ 32 :: s.data.toList := rfl
  rw [e, verb_at _ _ hm, rest_at _ _ hm, if_neg (show ¬ ba [116, 97, 107, 101] = ⟨#[109, 111, 118, 101]⟩ from fun h => absurd (ba_inj (l := [116, 97, 107, 101]) (m := [109, 111, 118, 101]) h) (by decide)), if_neg (show ¬ ba [116, 97, 107, 101] = ⟨#[116, 111, 117, 99, 104]⟩ from fun h => absurd (ba_inj (l := [116, 97, 107, 101]) (m := [116, 111, 117, 99, 104]) h) (by decide)), if_pos (show ba [116, 97, 107, 101] = ⟨#[116, 97, 107, 101]⟩ from rfl), ba_of, hz.1, hz.2.1, hz.2.2, h4]
end Go.Proofs.YtolbjmaabghghaaGreatDoor.PA
namespace Go.Proofs.YtolbjmaabghghaaGreatDoor.PA
open Go.RowKit Go.PW Go.PL Go.PM
theorem pguess_size (s : ByteArray) (hs : s.size ≤ 4096) : (guess s).2.2.2.2.2.size ≤ 4096 := by
 unfold guess
 repeat' split
 ·exact (by decide : (⟨#[]⟩ : ByteArray).size ≤ 4096)
 ·exact (by decide : (⟨#[]⟩ : ByteArray).size ≤ 4096)
 ·exact Nat.le_trans (cut_size s) hs
 ·exact (by decide : (⟨#[]⟩ : ByteArray).size ≤ 4096)
def readV (g : Int × Int × Int × Int × Int × ByteArray) (s : ByteArray) : Int × Int × Int × Int × Int × ByteArray × Int :=
 if textV g.1 g.2.1 g.2.2.1 g.2.2.2.1 g.2.2.2.2.1 g.2.2.2.2.2.data.toList = (s, 0) then (g.1, g.2.1, g.2.2.1, g.2.2.2.1, g.2.2.2.2.1, g.2.2.2.2.2, 0) else (0, 0, 0, 0, 0, ⟨#[]⟩, 4)
end Go.Proofs.YtolbjmaabghghaaGreatDoor.PA
