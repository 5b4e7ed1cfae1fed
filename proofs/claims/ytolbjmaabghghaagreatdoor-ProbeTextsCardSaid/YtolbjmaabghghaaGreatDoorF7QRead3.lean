/- A part of the proof. -/
import Derived.Test.YtolbjmaabghghaaGreatDoorF7EGuessed
import Derived.Test.YtolbjmaabghghaaGreatDoorF7EItoa
import Derived.Test.YtolbjmaabghghaaGreatDoorF7PAx26
import Derived.Test.YtolbjmaabghghaaGreatDoorF7PAx25
import Derived.Test.YtolbjmaabghghaaGreatDoorF7QChecks
import Derived.Test.YtolbjmaabghghaaGreatDoorF7PAx10
import Derived.Test.YtolbjmaabghghaaGreatDoorF7ENamed
import Derived.Test.YtolbjmaabghghaaGreatDoorF7PAx27
import Derived.Test.YtolbjmaabghghaaGreatDoorF7PAx13
namespace Go.Proofs.YtolbjmaabghghaaGreatDoor.PA
open Go.RowKit Go.PW Go.PL Go.PM
def ba (l : List UInt8) : ByteArray := ⟨l.toArray⟩
theorem ba_size (l : List UInt8) : (ba l).size = l.length := by simp [ba, ByteArray.size]
theorem ba_toList (s : ByteArray) : s.toList = s.data.toList := by
 rw [Lib.toList_data]
theorem ba_data (l : List UInt8) : (ba l).data.toList = l := by simp [ba]
theorem ba_app (l m : List UInt8) : ba l ++ ba m = ba (l ++ m) := by
 apply ByteArray.ext; simp [ba]
theorem ba_of (s : ByteArray) : ba s.data.toList = s := by simp [ba]
theorem bt_ba (l : List UInt8) (i : Nat) (h : i < l.length) : bt (ba l) (i : Int) = ((l[i]'h).toNat : Int) := by
 unfold bt
 rw [dif_pos (by rw [ba_size]; simpa using h)]
 simp [ba, ByteArray.getElem_eq_getElem_data]
theorem wrap_id9 {n : Int} (h : -100000000000 ≤ n ∧ n ≤ 100000000000) : wrap64 n = n := by unfold wrap64; omega
theorem digitVal_of : ∀ i : Fin 10, Lib.digitVal (UInt8.ofNat (48 + i.1)) = some i.1 := by decide
theorem digit_nat : ∀ i : Fin 10, (UInt8.ofNat (48 + i.1)).toNat = 48 + i.1 := by decide
theorem decFrom_app (l m : List UInt8) : ∀ acc, Lib.decFrom acc (l ++ m) = (Lib.decFrom acc l).bind fun a => Lib.decFrom a m := by
 induction l with
 | nil => intro acc; simp [Lib.decFrom]
 | cons b r ih =>
  intro acc
  rw [List.cons_append, Lib.decFrom, Lib.decFrom]
  cases h : Lib.digitVal b with
  | none => rfl
  | some d => exact ih _
theorem dec_unfold (u : Nat) (h : 10 ≤ u) : Lib.decDigits u = Lib.decDigits (u / 10) ++ [UInt8.ofNat (48 + u % 10)] := by
 rw [Lib.decDigits.eq_def, dif_neg (by omega)]
theorem decFrom_digits : ∀ u, Lib.decFrom 0 (Lib.decDigits u) = some u := by
 intro u
 induction u using Nat.strongRecOn with
 | _ u ih =>
  by_cases h : u < 10
  ·rw [Lib.decDigits_one h, Lib.decFrom, digitVal_of ⟨u, h⟩]
   simp [Lib.decFrom]
  ·rw [dec_unfold u (by omega), decFrom_app, ih (u / 10) (by omega)]
   simp only [Option.bind_some]
   rw [Lib.decFrom, digitVal_of ⟨u % 10, by omega⟩]
   simp only [Lib.decFrom]
   congr 1
   omega
theorem dec_chars : ∀ u, ∀ b ∈ Lib.decDigits u, 48 ≤ b.toNat ∧ b.toNat ≤ 57 := by
 intro u
 induction u using Nat.strongRecOn with
 | _ u ih =>
  intro b hb
  by_cases h : u < 10
  ·rw [Lib.decDigits_one h, List.mem_singleton] at hb
   subst hb
   rw [digit_nat ⟨u, h⟩]
   simp only
   omega
  ·rw [dec_unfold u (by omega), List.mem_append, List.mem_singleton] at hb
   rcases hb with hb | hb
   ·exact ih (u / 10) (by omega) b hb
   ·subst hb
    rw [digit_nat ⟨u % 10, by omega⟩]
    simp only
    omega
theorem dec_len (k : Nat) : ∀ u, u < 10 ^ (k + 1) → 1 ≤ (Lib.decDigits u).length ∧ (Lib.decDigits u).length ≤ k + 1 := by
 induction k with
 | zero => intro u h; rw [Lib.decDigits_one (by omega)]; simp
 | succ k ih =>
  intro u h
  by_cases h10 : u < 10
  ·rw [Lib.decDigits_one h10]; simp
  ·rw [dec_unfold u (by omega), List.length_append]
   have := ih (u / 10) (by rw [Nat.pow_succ] at h; omega)
   simp only [List.length_singleton]
   omega
theorem dec_ne (u : Nat) : Lib.decDigits u ≠ [] := by
 intro h
 by_cases h10 : u < 10
 ·rw [Lib.decDigits_one h10] at h; simp at h
 ·rw [dec_unfold u (by omega)] at h; simp at h
theorem atoi_itoa (n : Int) (h : -100000 ≤ n ∧ n ≤ 100000) : atoiV (ba (Lib.itoa n)) = n := by
 have hn : ∀ u : Nat, Lib.decNat (Lib.decDigits u) = some u := fun u => by
  unfold Lib.decNat
  rw [if_neg (by simpa using dec_ne u)]
  exact decFrom_digits u
 unfold atoiV
 rw [ba_data]
 by_cases hneg : n < 0
 ·have e : Lib.itoa n = 45 :: Lib.decDigits n.natAbs := by unfold Lib.itoa; rw [if_pos hneg]
  have hl := dec_len 5 n.natAbs (by omega)
  rw [e, Lib.atoiAll_short _ (by simp only [List.length_cons]; omega), Lib.atoi]
  simp only [beq_self_eq_true, if_true, hn, Option.map_some, Lib.NumEnd.ofOption]
  omega
 ·have e : Lib.itoa n = Lib.decDigits n.toNat := by unfold Lib.itoa; rw [if_neg hneg]
  have hl := dec_len 5 n.toNat (by omega)
  rw [e, Lib.atoiAll_short _ (by omega)]
  have hc := dec_chars n.toNat
  have hd := hn n.toNat
  cases hq : Lib.decDigits n.toNat with
  | nil => exact absurd hq (dec_ne _)
  | cons b r =>
   rw [hq] at hc hd
   have hb := hc b (by simp)
   have h45 : (b == 45) = false := by
    rw [beq_eq_false_iff_ne]; rintro rfl; exact absurd hb.1 (by decide)
   have h43 : (b == 43) = false := by
    rw [beq_eq_false_iff_ne]; rintro rfl; exact absurd hb.1 (by decide)
   rw [Lib.atoi, h45, h43]
   simp only [Bool.false_eq_true, if_false, hd, Option.map_some, Lib.NumEnd.ofOption]
   omega
theorem num_str (n : Nat) (h : n < 10) : strOfNums [(wrap64 (48 + (n : Int))) % 256] = ba [UInt8.ofNat (48 + n)] := by
 have e : (wrap64 (48 + (n : Int))) % 256 = ((48 + n : Nat) : Int) := by rw [wrap_id9 (by omega)]; omega
 rw [e]
 show (⟨(List.map (fun n => UInt8.ofNat n.toNat) [((48 + n : Nat) : Int)]).toArray⟩ : ByteArray) = _
 rfl
theorem of_loop : ∀ (j k n : Nat) (s : List UInt8), n < 10 ^ (j + 1) → j ≤ 9 → j + 1 ≤ k → s.length ≤ 100 - j → metrolabref01_Of.l0 k (n : Int) (ba s) = some (ba (Lib.decDigits n ++ s)) := by
 intro j
 induction j with
 | zero =>
  intro k n s hn _ hk hs
  obtain ⟨k, rfl⟩ : ∃ i, k = i + 1 := ⟨k - 1, by omega⟩
  rw [metrolabref01_Of.l0, if_neg (by omega)]
  simp only [Option.bind_some]
  rw [num_str n (by omega), ba_size, ba_size, if_pos (by simp only [List.length_singleton]; omega), ba_app, Lib.decDigits_one (by omega)]
 | succ j ih =>
  intro k n s hn hj hk hs
  obtain ⟨k, rfl⟩ : ∃ i, k = i + 1 := ⟨k - 1, by omega⟩
  rw [metrolabref01_Of.l0]
  by_cases h10 : n < 10
  ·rw [if_neg (by omega)]
   simp only [Option.bind_some]
   rw [num_str n h10, ba_size, ba_size, if_pos (by simp only [List.length_singleton]; omega), ba_app, Lib.decDigits_one h10]
  ·rw [if_pos (by omega)]
   simp only [Option.bind_some]
   have hb : n < 10 ^ 11 := Nat.lt_of_lt_of_le hn (Nat.pow_le_pow_right (by omega) (by omega))
   have e1 : Int.tmod (n : Int) 10 = ((n % 10 : Nat) : Int) := by rw [Int.tmod_eq_emod_of_nonneg (by omega)]; omega
   have e2 : wrap64 (Int.tdiv (n : Int) 10) = ((n / 10 : Nat) : Int) := by rw [Int.tdiv_eq_ediv_of_nonneg (by omega), wrap_id9 (by omega)]; omega
   rw [e1, num_str (n % 10) (by omega), ba_size, ba_size, if_pos (by simp only [List.length_singleton]; omega), ba_app, e2]
   rw [ih k (n / 10) _ (by rw [Nat.pow_succ] at hn; omega) (by omega) (by omega) (by simp only [List.length_append, List.length_singleton]; omega), dec_unfold n (by omega), List.append_assoc]
theorem of_nat (n k : Nat) (hn : n ≤ 100000) (hk : 10 ≤ k) : metrolabref01_Of.f k (n : Int) = some (ba (Lib.decDigits n)) := by
 obtain ⟨k, rfl⟩ : ∃ i, k = i + 1 + 1 := ⟨k - 2, by omega⟩
 have hl : metrolabref01_Of.l0 k (n : Int) (⟨#[]⟩ : ByteArray) = some (ba (Lib.decDigits n)) := by
  have := of_loop 5 k n [] (by omega) (by omega) (by omega) (by simp)
  rw [List.append_nil] at this
  exact this
 rw [metrolabref01_Of.f, wrap_id9 (by omega)]
 by_cases h0 : (n : Int) = -(n : Int)
 ·have e0 : ((n : Int) != 0) = false := by rw [bne_eq_false_iff_eq]; omega
  rw [if_pos h0, e0, metrolabref01_Of.j0, if_neg (by decide), if_neg (by omega), hl]
 ·rw [if_neg h0, metrolabref01_Of.j0, if_neg (by decide), if_neg (by omega), hl]
theorem dec_head (u : Nat) : ∃ b r, Lib.decDigits u = b :: r ∧ 48 ≤ b.toNat ∧ b.toNat ≤ 57 := by
 have hc := dec_chars u
 cases hq : Lib.decDigits u with
 | nil => exact absurd hq (dec_ne _)
 | cons b r => rw [hq] at hc; exact ⟨b, r, rfl, hc b (by simp)⟩
theorem dec_zero (u : Nat) (h : Lib.decDigits u = [48]) : u = 0 := by
 have h1 := decFrom_digits u
 rw [h] at h1
 have h2 : Lib.decFrom 0 [48] = some 0 := by decide
 rw [h2] at h1
 exact (Option.some.inj h1).symm
theorem of_int (n : Int) (h : -100000 ≤ n ∧ n ≤ 100000) (k : Nat) (hk : 20 ≤ k) : metrolabref30_digits.f k n = some (ba (Lib.itoa n)) := by
 unfold metrolabref30_digits.f
 by_cases hneg : n < 0
 ·obtain ⟨k, rfl⟩ : ∃ i, k = i + 1 + 1 := ⟨k - 2, by omega⟩
  have e : Lib.itoa n = 45 :: Lib.decDigits n.natAbs := by unfold Lib.itoa; rw [if_pos hneg]
  have en : wrap64 (-n) = (n.natAbs : Int) := by rw [wrap_id9 (by omega)]; omega
  rw [metrolabref01_Of.f, if_neg (by rw [en]; omega), metrolabref01_Of.j0, if_neg (by decide), if_pos hneg, en, of_nat n.natAbs k (by omega) (by omega)]
  simp only [Option.bind_some]
  obtain ⟨b, r, hq, h1, h2⟩ := dec_head n.natAbs
  have hz : Lib.decDigits n.natAbs ≠ [48] := fun hh => by have := dec_zero _ hh; omega
  have hlen := dec_len 5 n.natAbs (by omega)
  rw [e]
  rw [hq] at hz hlen ⊢
  have hb : bt (ba (b :: r)) 0 = (b.toNat : Int) := bt_ba (b :: r) 0 (by simp)
  unfold metrolabref01_Turned.f metrolabref01_size.f metrolabref01_Below.f metrolabref01_signed.f
  have hs : (0 : Int) < ((ba (b :: r)).size : Int) := by rw [ba_size]; simp only [List.length_cons]; omega
  have ht : ¬ (ba (b :: r)).toList = [] := by rw [ba_toList, ba_data]; simp
  rw [if_neg ht, if_pos hs, hb, if_neg (by omega), if_pos hs]
  simp only [Option.bind_some]
  have hbe : (((b.toNat : Int)) == 45) = false := by rw [beq_eq_false_iff_ne]; omega
  have ht2 : ¬ (ba (b :: r)).toList = [48] := by rw [ba_toList, ba_data]; exact hz
  rw [hbe, if_pos (by decide), if_neg ht2, ba_size, if_pos (by omega)]
  exact congrArg some (ba_app [45] (b :: r))
 ·have e : Lib.itoa n = Lib.decDigits n.toNat := by unfold Lib.itoa; rw [if_neg hneg]
  have en : n = (n.toNat : Int) := by omega
  rw [e, en, of_nat n.toNat k (by omega) (by omega)]
  rfl
end Go.Proofs.YtolbjmaabghghaaGreatDoor.PA
namespace Go.Proofs.YtolbjmaabghghaaGreatDoor.PA
open Go.RowKit Go.PW Go.PL Go.PM
theorem ba_ext (l : List UInt8) (i j : Nat) : (ba l).extract i j = ba ((l.drop i).take (j - i)) := by
 apply ByteArray.ext
 simp [ba]
theorem digitVal_at (b : UInt8) (h : 48 ≤ b.toNat ∧ b.toNat ≤ 57) : Lib.digitVal b = some (b.toNat - 48) := by
 have e : b = UInt8.ofNat (48 + (b.toNat - 48)) := by
  rw [show 48 + (b.toNat - 48) = b.toNat by omega, UInt8.ofNat_toNat]
 have := digitVal_of ⟨b.toNat - 48, by omega⟩
 simp only at this
 rw [← e] at this
 exact this
theorem decFrom_cons (v : Nat) (b : UInt8) (r : List UInt8) (h : 48 ≤ b.toNat ∧ b.toNat ≤ 57) : Lib.decFrom v (b :: r) = Lib.decFrom (v * 10 + (b.toNat - 48)) r := by
 rw [Lib.decFrom, digitVal_at b h]
theorem int_loop (sg : Int) : ∀ (q p : List UInt8) (v u k : Nat), (∀ b ∈ q, 48 ≤ b.toNat ∧ b.toNat ≤ 57) → v < 10 ^ p.length → p.length + q.length ≤ 9 → q.length + 1 ≤ k → Lib.decFrom v q = some u →
  metrolabref30_Int.l0 k (ba (p ++ q)) (v : Int) sg (p.length : Int) = some (wrap64 (sg * (u : Int))) := by
 intro q
 induction q with
 | nil =>
  intro p v u k _ hv hl hk hd
  obtain ⟨k, rfl⟩ : ∃ i, k = i + 1 := ⟨k - 1, by omega⟩
  rw [metrolabref30_Int.l0, List.append_nil, ba_size, if_neg (by omega)]
  rw [Lib.decFrom] at hd
  rw [Option.some.inj hd]
 | cons b q ih =>
  intro p v u k hc hv hl hk hd
  obtain ⟨k, rfl⟩ : ∃ i, k = i + 1 := ⟨k - 1, by omega⟩
  have hb := hc b (by simp)
  simp only [List.length_cons] at hl hk
  have hbt : bt (ba (p ++ b :: q)) (p.length : Int) = (b.toNat : Int) := by
   rw [bt_ba _ p.length (by simp)]
   simp
  have hp : v < 10 ^ 8 := Nat.lt_of_lt_of_le hv (Nat.pow_le_pow_right (by omega) (by omega))
  rw [metrolabref30_Int.l0, hbt, ba_size, if_pos (by simp only [List.length_append, List.length_cons]; omega), if_pos (by omega), if_neg (by omega), if_neg (by omega), if_neg (by omega)]
  rw [decFrom_cons v b q hb] at hd
  have e1 : wrap64 (wrap64 (10 * (v : Int)) + ((b.toNat : Int) - 48) % 256) = ((v * 10 + (b.toNat - 48) : Nat) : Int) := by
   rw [wrap_id9 (n := 10 * (v : Int)) (by omega), wrap_id9 (by omega)]; omega
  have e2 : wrap64 ((p.length : Int) + 1) = ((p ++ [b]).length : Int) := by
   rw [wrap_id9 (by omega)]; simp
  rw [e1, e2, show p ++ b :: q = (p ++ [b]) ++ q by simp]
  refine ih (p ++ [b]) _ u k (fun x hx => hc x (by simp [hx])) ?_ ?_ (by omega) hd
  ·rw [List.length_append, List.length_singleton, Nat.pow_succ]; omega
  ·simp only [List.length_append, List.length_singleton]; omega
theorem int_int (n : Int) (h : -100000 ≤ n ∧ n ≤ 100000) (k : Nat) (hk : 20 ≤ k) : metrolabref30_Int.f k (ba (Lib.itoa n)) = some n := by
 obtain ⟨k, rfl⟩ : ∃ i, k = i + 1 + 1 := ⟨k - 2, by omega⟩
 unfold metrolabref30_Int.f
 by_cases hneg : n < 0
 ·have e : Lib.itoa n = 45 :: Lib.decDigits n.natAbs := by unfold Lib.itoa; rw [if_pos hneg]
  have hl := dec_len 5 n.natAbs (by omega)
  have hb : bt (ba (45 :: Lib.decDigits n.natAbs)) 0 = 45 := bt_ba (45 :: Lib.decDigits n.natAbs) 0 (by simp)
  rw [e, hb, ba_size, if_pos (by simp only [List.length_cons]; omega), if_pos (by simp only [List.length_cons]; omega)]
  rw [metrolabref30_Int.j0, if_pos (by decide), ba_size, if_pos (by simp only [List.length_cons]; omega), ba_ext]
  have ex : ((45 :: Lib.decDigits n.natAbs).drop 1).take ((45 :: Lib.decDigits n.natAbs).length - 1) = Lib.decDigits n.natAbs := by simp
  rw [ex, metrolabref30_Int.j1]
  have := int_loop (-1) (Lib.decDigits n.natAbs) [] 0 n.natAbs k (dec_chars _) (by simp) (by simp only [List.length_nil]; omega) (by omega) (decFrom_digits _)
  simp only [List.nil_append, List.length_nil] at this
  refine this.trans ?_
  rw [wrap_id9 (by omega)]
  congr 1
  omega
 ·have e : Lib.itoa n = Lib.decDigits n.toNat := by unfold Lib.itoa; rw [if_neg hneg]
  have hl := dec_len 5 n.toNat (by omega)
  obtain ⟨b, r, hq, h1, h2⟩ := dec_head n.toNat
  have hb : bt (ba (b :: r)) 0 = (b.toNat : Int) := bt_ba (b :: r) 0 (by simp)
  have hbe : (((b.toNat : Int)) == 45) = false := by rw [beq_eq_false_iff_ne]; omega
  rw [e, hq, hb, hbe, ba_size, if_pos (by simp only [List.length_cons]; omega), if_pos (by simp only [List.length_cons]; omega)]
  rw [metrolabref30_Int.j0, if_neg (by decide), metrolabref30_Int.j1, ← hq]
  have := int_loop 1 (Lib.decDigits n.toNat) [] 0 n.toNat k (dec_chars _) (by simp) (by simp only [List.length_nil]; omega) (by omega) (decFrom_digits _)
  simp only [List.nil_append, List.length_nil] at this
  refine this.trans ?_
  rw [wrap_id9 (by omega)]
  congr 1
  omega
end Go.Proofs.YtolbjmaabghghaaGreatDoor.PA
namespace Go.Proofs.YtolbjmaabghghaaGreatDoor.PA
open Go.RowKit Go.PW Go.PL Go.PM
theorem alnum_all : ∀ n : Fin 256, alnum.contains (UInt8.ofNat n.1) = (decide (97 ≤ n.1 ∧ n.1 ≤ 122) || decide (48 ≤ n.1 ∧ n.1 ≤ 57)) := by decide +kernel
theorem digs_all : ∀ n : Fin 256, digs.contains (UInt8.ofNat n.1) = decide (48 ≤ n.1 ∧ n.1 ≤ 57) := by decide +kernel
theorem alnum_at (b : UInt8) : alnum.contains b = (decide (97 ≤ b.toNat ∧ b.toNat ≤ 122) || decide (48 ≤ b.toNat ∧ b.toNat ≤ 57)) := by
 have := alnum_all ⟨b.toNat, b.toNat_lt⟩
 simp only [UInt8.ofNat_toNat] at this
 exact this
theorem digs_at (b : UInt8) : digs.contains b = decide (48 ≤ b.toNat ∧ b.toNat ≤ 57) := by
 have := digs_all ⟨b.toNat, b.toNat_lt⟩
 simp only [UInt8.ofNat_toNat] at this
 exact this
theorem name_turn (p q : List UInt8) (b : UInt8) (k : Nat) (hl : (p ++ b :: q).length ≤ 10000) : metrolabref30_Name.l0 (k + 1) (ba (p ++ b :: q)) (p.length : Int) =
  if alnum.contains b = true then (if p = [] ∧ digs.contains b = true then some 3 else metrolabref30_Name.l0 k (ba (p ++ b :: q)) ((p ++ [b]).length : Int)) else some 3 := by
 have hbt : bt (ba (p ++ b :: q)) (p.length : Int) = (b.toNat : Int) := by
  rw [bt_ba _ p.length (by simp)]
  simp
 have e2 : wrap64 ((p.length : Int) + 1) = ((p ++ [b]).length : Int) := by
  rw [wrap_id9 (by simp only [List.length_append, List.length_cons] at hl; omega)]; simp
 have hp : p = [] ↔ (p.length : Int) = 0 := by rw [← List.length_eq_zero_iff]; omega
 rw [metrolabref30_Name.l0, hbt, ba_size, if_pos (by simp only [List.length_append, List.length_cons]; omega), if_pos (by omega), e2, alnum_at, digs_at]
 simp only [hp, Bool.or_eq_true, decide_eq_true_eq]
 by_cases h1 : (97 : Int) ≤ b.toNat
 ·rw [if_pos (by omega), if_pos (by omega)]
  by_cases h2 : (b.toNat : Int) ≤ 122
  ·rw [if_pos h2, if_pos (by omega), if_neg (by omega)]
  ·rw [if_neg h2, if_neg (by omega), if_neg (by omega)]
 ·rw [if_neg (by omega)]
  by_cases h2 : (48 : Int) ≤ b.toNat
  ·rw [if_pos (by omega)]
   by_cases h3 : (b.toNat : Int) ≤ 57
   ·by_cases h4 : (p.length : Int) = 0
    ·rw [if_pos h3, if_pos h4, if_pos (by omega), if_pos ⟨h4, by omega⟩]
    ·rw [if_pos h3, if_neg h4, if_pos (by omega), if_neg (fun h => h4 h.1)]
   ·rw [if_neg h3, if_neg (by omega)]
  ·rw [if_neg (by omega), if_neg (by omega)]
theorem name_loop : ∀ (q p : List UInt8) (k : Nat), p ≠ [] → (p ++ q).length ≤ 10000 → q.length + 1 ≤ k →
  metrolabref30_Name.l0 k (ba (p ++ q)) (p.length : Int) = some (if q.all (alnum.contains ·) = true then (if 24 < (p ++ q).length then 17 else 0) else 3) := by
 intro q
 induction q with
 | nil =>
  intro p k hp hl hk
  obtain ⟨k, rfl⟩ : ∃ i, k = i + 1 := ⟨k - 1, by omega⟩
  rw [metrolabref30_Name.l0, List.append_nil, ba_size, if_neg (by omega), ba_toList, ba_data, if_neg hp]
  simp only [List.all_nil, if_true]
  by_cases h : 24 < p.length
  ·rw [if_pos (by omega), if_pos h]
  ·rw [if_neg (by omega), if_neg h]
 | cons b q ih =>
  intro p k hp hl hk
  obtain ⟨k, rfl⟩ : ∃ i, k = i + 1 := ⟨k - 1, by omega⟩
  simp only [List.length_cons] at hk
  rw [name_turn p q b k hl]
  by_cases h : alnum.contains b = true
  ·rw [if_pos h, if_neg (fun hh => hp hh.1), show p ++ b :: q = (p ++ [b]) ++ q by simp, ih (p ++ [b]) k (by simp) (by rw [List.append_assoc]; exact hl) (by omega)]
   rw [List.all_cons, h, Bool.true_and]
  ·rw [if_neg h, List.all_cons]
   simp only [Bool.not_eq_true] at h
   rw [h, Bool.false_and]
   simp
theorem name_eq (s : ByteArray) (hs : s.size ≤ 8192) (k : Nat) (hk : s.size + 5 ≤ k) : metrolabref30_Name.f k s = some (nameErr s.data.toList) := by
 have hsz : s.size = s.data.toList.length := by rw [← ba_of s, ba_size, ba_data]
 unfold metrolabref30_Name.f
 rw [← ba_of s, ba_data]
 rw [hsz] at hs hk
 generalize s.data.toList = l at hs hk
 obtain ⟨k, rfl⟩ : ∃ i, k = i + 1 := ⟨k - 1, by omega⟩
 cases l with
 | nil =>
  rw [metrolabref30_Name.l0, ba_size, if_neg (by simp), ba_toList, ba_data, if_pos rfl]
  rfl
 | cons b q =>
  simp only [List.length_cons] at hs hk
  have := name_turn [] q b k (by simp only [List.nil_append, List.length_cons]; omega)
  simp only [List.nil_append, List.length_nil, List.length_singleton] at this
  refine Eq.trans this ?_
  have hne : nameErr (b :: q) = if (b :: q).all (alnum.contains ·) = true then (if digs.contains b = true then 3 else if 24 < (b :: q).length then 17 else 0) else 3 := rfl
  rw [hne, List.all_cons]
  by_cases h : alnum.contains b = true
  ·rw [if_pos h, h, Bool.true_and]
   have hq := name_loop q [b] k (by simp) (by simp only [List.cons_append, List.nil_append, List.length_cons]; omega) (by omega)
   simp only [List.cons_append, List.nil_append, List.length_singleton] at hq
   by_cases hd : digs.contains b = true
   ·rw [if_pos ⟨trivial, hd⟩, if_pos hd]
    split <;> rfl
   ·rw [if_neg (fun hh => hd hh.2), hq, if_neg hd]
  ·rw [if_neg h]
   simp only [Bool.not_eq_true] at h
   rw [h, Bool.false_and]
   simp
def rightV (a0 a1 a2 a3 a4 : Int) (l : List UInt8) : Int :=
 if a0 = 0 then (if rightB a1 a2 a3 = true then (if a4 = 0 ∧ l = [] then 0 else 3) else 2)
 else if a0 = 1 then (if a4 < 0 ∨ 5 < a4 then 1 else if (a1 = 0 ∧ a2 = 0 ∧ a3 = 0) ∧ l = [] then 0 else 3)
 else if a0 = 2 then (if nameErr l = 0 then (if (a1 = 0 ∧ a2 = 0 ∧ a3 = 0) ∧ a4 = 0 then 0 else 3) else nameErr l) else 1
theorem zeros3 (a1 a2 a3 : Int) : (!(a1 == 0) || (!(a2 == 0) || (!(a3 == 0)))) = !decide (a1 = 0 ∧ a2 = 0 ∧ a3 = 0) := by
 by_cases h1 : a1 = 0 <;> by_cases h2 : a2 = 0 <;> by_cases h3 : a3 = 0 <;> simp [h1, h2, h3]
theorem pRight_eq (a0 a1 a2 a3 a4 : Int) (s : ByteArray) (hs : s.size ≤ 4096) (k : Nat) (hk : 5 ≤ k) : probe_Right.f k a0 a1 a2 a3 a4 s = some (rightV a0 a1 a2 a3 a4 s.data.toList) := by
 obtain ⟨k, rfl⟩ : ∃ i, k = i + 1 := ⟨k - 1, by omega⟩
 unfold probe_Right.f rightV
 by_cases h0 : a0 = 0
 ·rw [if_pos h0, if_pos h0, right_eq]
  simp only [Option.bind_some]
  by_cases hr : rightB a1 a2 a3 = true
  ·rw [if_pos hr, if_pos hr, ba_toList]
   generalize s.data.toList = l
   by_cases h4 : a4 = 0 <;> by_cases hl : l = [] <;> simp [h4, hl]
  ·rw [if_neg hr, if_neg hr]
 ·rw [if_neg h0, if_neg h0]
  by_cases h1 : a0 = 1
  ·rw [if_pos h1, if_pos h1]
   by_cases hd : a4 < 0
   ·rw [if_pos hd, if_pos (.inl hd), probe_Right.j0]; rfl
   ·rw [if_neg hd, probe_Right.j0]
    by_cases hd5 : 5 < a4
    ·rw [if_pos (by simpa using hd5), if_pos (.inr hd5)]
    ·rw [if_neg (by simpa using hd5), if_neg (show ¬ (a4 < 0 ∨ 5 < a4) by omega), ba_toList, zeros3]
     generalize s.data.toList = l
     by_cases hz : a1 = 0 ∧ a2 = 0 ∧ a3 = 0 <;> by_cases hl : l = [] <;> simp [hz, hl]
  ·rw [if_neg h1, if_neg h1]
   by_cases h2 : a0 = 2
   ·rw [if_pos h2, if_pos h2]
    unfold probe_named.f
    rw [if_pos hs]
    simp only [Option.bind_some]
    by_cases hn : nameErr s.data.toList = 0
    ·rw [if_pos hn, if_pos hn, zeros3]
     by_cases hz : a1 = 0 ∧ a2 = 0 ∧ a3 = 0 <;> by_cases h4 : a4 = 0 <;> simp [hz, h4]
    ·rw [if_neg hn, if_neg hn]
   ·rw [if_neg h2, if_neg h2]
theorem rRight_eq (a0 a1 a2 a3 a4 : Int) (s : ByteArray) (hs : s.size ≤ 4096) (k : Nat) (hk : s.size + 20 ≤ k) : metrolabref30_Right.f k a0 a1 a2 a3 a4 s = some (rightV a0 a1 a2 a3 a4 s.data.toList) := by
 obtain ⟨k, rfl⟩ : ∃ i, k = i + 1 := ⟨k - 1, by omega⟩
 unfold metrolabref30_Right.f rightV
 by_cases h0 : a0 = 0
 ·rw [if_pos h0, if_pos h0, rightSpot_eq]
  simp only [Option.bind_some]
  by_cases hr : rightB a1 a2 a3 = true
  ·rw [if_pos hr, if_pos hr, ba_toList]
   generalize s.data.toList = l
   by_cases h4 : a4 = 0 <;> by_cases hl : l = [] <;> simp [h4, hl]
  ·rw [if_neg hr, if_neg hr]
 ·rw [if_neg h0, if_neg h0]
  by_cases h1 : a0 = 1
  ·rw [if_pos h1, if_pos h1]
   by_cases hd : a4 < 0
   ·rw [if_pos hd, if_pos (.inl hd), metrolabref30_Right.j0]; rfl
   ·rw [if_neg hd, metrolabref30_Right.j0]
    by_cases hd5 : 5 < a4
    ·rw [if_pos (by simpa using hd5), if_pos (.inr hd5)]
    ·rw [if_neg (by simpa using hd5), if_neg (show ¬ (a4 < 0 ∨ 5 < a4) by omega), ba_toList, zeros3]
     generalize s.data.toList = l
     by_cases hz : a1 = 0 ∧ a2 = 0 ∧ a3 = 0 <;> by_cases hl : l = [] <;> simp [hz, hl]
  ·rw [if_neg h1, if_neg h1]
   by_cases h2 : a0 = 2
   ·rw [if_pos h2, if_pos h2, name_eq s (by omega) (k + 1) (by omega)]
    simp only [Option.bind_some]
    by_cases hn : nameErr s.data.toList = 0
    ·rw [if_pos hn, if_pos hn, zeros3]
     by_cases hz : a1 = 0 ∧ a2 = 0 ∧ a3 = 0 <;> by_cases h4 : a4 = 0 <;> simp [hz, h4]
    ·rw [if_neg hn, if_neg hn]
   ·rw [if_neg h2, if_neg h2]
end Go.Proofs.YtolbjmaabghghaaGreatDoor.PA
namespace Go.Proofs.YtolbjmaabghghaaGreatDoor.PA
open Go.RowKit Go.PW Go.PL Go.PM
def dirL (d : Int) : List UInt8 := if d = 0 then [43, 88] else if d = 1 then [45, 88] else if d = 2 then [43, 89] else if d = 3 then [45, 89] else if d = 4 then [43, 90] else [45, 90]
def moveL (x y z : Int) : List UInt8 := [109, 111, 118, 101] ++ 32 :: (Lib.itoa x ++ 32 :: (Lib.itoa y ++ 32 :: Lib.itoa z))
def writL (a0 a1 a2 a3 a4 : Int) (l : List UInt8) : List UInt8 := if a0 = 0 then moveL a1 a2 a3 else if a0 = 1 then [116, 111, 117, 99, 104, 32] ++ dirL a4 else [116, 97, 107, 101, 32] ++ l
def textV (a0 a1 a2 a3 a4 : Int) (l : List UInt8) : ByteArray × Int := if rightV a0 a1 a2 a3 a4 l = 0 then (ba (writL a0 a1 a2 a3 a4 l), 0) else (ba [], rightV a0 a1 a2 a3 a4 l)
theorem rightB_in {x y z : Int} (h : rightB x y z = true) : (-100000 ≤ x ∧ x ≤ 100000) ∧ (-100000 ≤ y ∧ y ≤ 100000) ∧ (-100000 ≤ z ∧ z ≤ 100000) := by
 unfold rightB inR at h
 simpa [and_assoc] using h
theorem right0 {a0 a1 a2 a3 a4 : Int} {l : List UInt8} (h : rightV a0 a1 a2 a3 a4 l = 0) :
  (a0 = 0 ∧ ((-100000 ≤ a1 ∧ a1 ≤ 100000) ∧ (-100000 ≤ a2 ∧ a2 ≤ 100000) ∧ (-100000 ≤ a3 ∧ a3 ≤ 100000)) ∧ a4 = 0 ∧ l = []) ∨ (a0 = 1 ∧ (0 ≤ a4 ∧ a4 ≤ 5) ∧ (a1 = 0 ∧ a2 = 0 ∧ a3 = 0) ∧ l = []) ∨ (a0 = 2 ∧ nameErr l = 0 ∧ (a1 = 0 ∧ a2 = 0 ∧ a3 = 0) ∧ a4 = 0) := by
 unfold rightV at h
 split at h
 ·split at h
  ·split at h
   ·exact .inl ⟨by assumption, rightB_in (by assumption), by assumption⟩
   ·cases h
  ·cases h
 ·split at h
  ·split at h
   ·cases h
   ·split at h
    ·exact .inr (.inl ⟨by assumption, by omega, by assumption⟩)
    ·cases h
  ·split at h
   ·split at h
    ·split at h
     ·exact .inr (.inr ⟨by assumption, by assumption, by assumption⟩)
     ·cases h
    ·contradiction
   ·cases h
theorem itoa_len (n : Int) (h : -100000 ≤ n ∧ n ≤ 100000) : (Lib.itoa n).length ≤ 7 := by
 unfold Lib.itoa
 split
 ·have := dec_len 5 n.natAbs (by omega); simp only [List.length_cons]; omega
 ·have := dec_len 5 n.toNat (by omega); omega
theorem text_step (k : Nat) (s : List UInt8) (i x y z n : Int) (hi : 0 ≤ i ∧ i < 3) (hn : rd [x, y, z] i = n) (hb : -100000 ≤ n ∧ n ≤ 100000) (hs : s.length ≤ 100) :
  probe_Text.l0 (k + 1) (ba s) i x y z = probe_Text.l0 k (ba (s ++ 32 :: Lib.itoa n)) (i + 1) x y z := by
 have hl := itoa_len n hb
 rw [probe_Text.l0, if_pos hi.2, if_pos hi.1, hn]
 unfold strconv_Itoa_49.f
 rw [if_pos (by omega)]
 simp only [Option.bind_some]
 have e1 : (⟨(Lib.itoa n).toArray⟩ : ByteArray) = ba (Lib.itoa n) := rfl
 have e2 : (⟨#[32]⟩ : ByteArray) = ba [32] := rfl
 rw [e1, e2, ba_app, ba_size, ba_size, ba_size, if_pos (by omega), if_pos (by simp only [List.length_append, List.length_singleton]; omega), ba_app, wrap_id9 (by omega)]
 rfl
theorem pText_eq (a0 a1 a2 a3 a4 : Int) (s : ByteArray) (hs : s.size ≤ 4096) (k : Nat) (hk : 30 ≤ k) : probe_Text.f k a0 a1 a2 a3 a4 s = some (textV a0 a1 a2 a3 a4 s.data.toList) := by
 unfold probe_Text.f textV
 rw [pRight_eq a0 a1 a2 a3 a4 s hs k (by omega)]
 simp only [Option.bind_some]
 by_cases hr : rightV a0 a1 a2 a3 a4 s.data.toList = 0
 ·rw [if_pos hr, if_pos hr]
  rcases right0 hr with ⟨h0, hb, h4, hl⟩ | ⟨h0, hd, hz, hl⟩ | ⟨h0, hn, hz, h4⟩
  ·subst h0
   rw [if_pos rfl]
   unfold probe_of.f
   simp only [Option.bind_some]
   obtain ⟨k, rfl⟩ : ∃ i, k = i + 1 + 1 + 1 + 1 := ⟨k - 4, by omega⟩
   have h1 := itoa_len a1 hb.1
   have h2 := itoa_len a2 hb.2.1
   have e0 : (⟨#[109, 111, 118, 101]⟩ : ByteArray) = ba [109, 111, 118, 101] := rfl
   rw [e0, text_step _ _ 0 a1 a2 a3 a1 (by omega) rfl hb.1 (by simp), text_step _ _ (0 + 1) a1 a2 a3 a2 (by omega) rfl hb.2.1 (by simp only [List.length_append, List.length_cons, List.length_nil]; omega), text_step _ _ (0 + 1 + 1) a1 a2 a3 a3 (by omega) rfl hb.2.2 (by simp only [List.length_append, List.length_cons, List.length_nil]; omega), probe_Text.l0, if_neg (by omega)]
   congr 2
   unfold writL moveL
   rw [if_pos rfl]
   congr 1
   simp
  ·subst h0
   rw [if_neg (by decide), if_pos rfl]
   unfold writL
   rw [if_neg (by decide), if_pos rfl]
   rcases (show a4 = 0 ∨ a4 = 1 ∨ a4 = 2 ∨ a4 = 3 ∨ a4 = 4 ∨ a4 = 5 by omega) with rfl | rfl | rfl | rfl | rfl | rfl <;> rfl
  ·subst h0
   rw [if_neg (by decide), if_neg (by decide)]
   have e0 : (⟨#[116, 97, 107, 101, 32]⟩ : ByteArray) = ba [116, 97, 107, 101, 32] := rfl
   rw [if_pos (by omega), e0]
   unfold writL
   rw [if_neg (by decide), if_neg (by decide), ← ba_app, ba_of]
 ·rw [if_neg hr, if_neg hr]
  rfl
theorem rText_eq (a0 a1 a2 a3 a4 : Int) (s : ByteArray) (hs : s.size ≤ 4096) (k : Nat) (hk : s.size + 40 ≤ k) : metrolabref30_Text.f k a0 a1 a2 a3 a4 s = some (textV a0 a1 a2 a3 a4 s.data.toList) := by
 unfold metrolabref30_Text.f textV
 rw [rRight_eq a0 a1 a2 a3 a4 s hs k (by omega)]
 simp only [Option.bind_some]
 by_cases hr : rightV a0 a1 a2 a3 a4 s.data.toList = 0
 ·rw [if_pos hr, if_pos hr]
  unfold metrolabref30_Written.f
  rcases right0 hr with ⟨h0, hb, h4, hl⟩ | ⟨h0, hd, hz, hl⟩ | ⟨h0, hn, hz, h4⟩
  ·subst h0
   have h1 := itoa_len a1 hb.1
   have h2 := itoa_len a2 hb.2.1
   have h3 := itoa_len a3 hb.2.2
   have e0 : (⟨#[109, 111, 118, 101, 32]⟩ : ByteArray) = ba [109, 111, 118, 101, 32] := rfl
   have e2 : (⟨#[32]⟩ : ByteArray) = ba [32] := rfl
   rw [if_pos rfl, of_int a1 hb.1 k (by omega), e0, e2]
   simp only [Option.bind_some]
   rw [of_int a2 hb.2.1 k (by omega), of_int a3 hb.2.2 k (by omega)]
   simp only [Option.bind_some, ba_app, ba_size, List.length_append, List.length_cons, List.length_nil]
   rw [if_pos (by omega), if_pos (by omega), if_pos (by omega), if_pos (by omega), if_pos (by omega)]
   simp only [Option.bind_some]
   congr 2
   unfold writL moveL
   rw [if_pos rfl]
   congr 1
   simp
  ·subst h0
   rw [if_neg (by decide), if_pos rfl]
   unfold writL
   rw [if_neg (by decide), if_pos rfl]
   rcases (show a4 = 0 ∨ a4 = 1 ∨ a4 = 2 ∨ a4 = 3 ∨ a4 = 4 ∨ a4 = 5 by omega) with rfl | rfl | rfl | rfl | rfl | rfl <;> rfl
  ·subst h0
   rw [if_neg (by decide), if_neg (by decide)]
   have e0 : (⟨#[116, 97, 107, 101, 32]⟩ : ByteArray) = ba [116, 97, 107, 101, 32] := rfl
   rw [if_pos (by omega), e0]
   unfold writL
   rw [if_neg (by decide), if_neg (by decide), ← ba_app, ba_of]
   rfl
 ·rw [if_neg hr, if_neg hr]
  rfl
end Go.Proofs.YtolbjmaabghghaaGreatDoor.PA
namespace Go.Proofs.YtolbjmaabghghaaGreatDoor.PA
open Go.RowKit Go.PW Go.PL Go.PM
def pieces : List (List UInt8) → List UInt8 → List UInt8 → List (List UInt8)
 | acc, cur, [] => acc ++ [cur]
 | acc, cur, b :: r => if b = 32 then pieces (acc ++ [cur]) [] r else pieces acc (cur ++ [b]) r
theorem pieces_word (r : List UInt8) : ∀ (w : List UInt8) (acc : List (List UInt8)) (cur : List UInt8), (∀ b ∈ w, b ≠ 32) → pieces acc cur (w ++ 32 :: r) = pieces (acc ++ [cur ++ w]) [] r := by
 intro w
 induction w with
 | nil => intro acc cur _; rw [List.nil_append, pieces, if_pos rfl, List.append_nil]
 | cons b w ih =>
  intro acc cur h
  rw [List.cons_append, pieces, if_neg (h b (by simp)), ih _ _ (fun x hx => h x (by simp [hx])), List.append_assoc]
  rfl
theorem pieces_last : ∀ (w : List UInt8) (acc : List (List UInt8)) (cur : List UInt8), (∀ b ∈ w, b ≠ 32) → pieces acc cur w = acc ++ [cur ++ w] := by
 intro w
 induction w with
 | nil => intro acc cur _; rw [pieces, List.append_nil]
 | cons b w ih =>
  intro acc cur h
  rw [pieces, if_neg (h b (by simp)), ih _ _ (fun x hx => h x (by simp [hx])), List.append_assoc]
  rfl
theorem split_loop : ∀ (q p : List UInt8) (acc : List (List UInt8)) (cur : List UInt8) (k : Nat), (p ++ q).length ≤ 10000 → q.length + 1 ≤ k → acc.length ≤ p.length → cur.length ≤ p.length →
  metrolabref30_Split.l0 k (ba (p ++ q)) ((acc ++ [cur]).map ba) (p.length : Int) = some ((pieces acc cur q).map ba) := by
 intro q
 induction q with
 | nil =>
  intro p acc cur k hl hk _ _
  obtain ⟨k, rfl⟩ : ∃ i, k = i + 1 := ⟨k - 1, by omega⟩
  rw [metrolabref30_Split.l0, List.append_nil, ba_size, if_neg (by omega), pieces]
 | cons b q ih =>
  intro p acc cur k hl hk ha hc
  obtain ⟨k, rfl⟩ : ∃ i, k = i + 1 := ⟨k - 1, by omega⟩
  have hl2 := hl
  simp only [List.length_cons] at hk
  simp only [List.length_append, List.length_cons] at hl2
  have hbt : bt (ba (p ++ b :: q)) (p.length : Int) = (b.toNat : Int) := by
   rw [bt_ba _ p.length (by simp)]
   simp
  have e2 : wrap64 ((p.length : Int) + 1) = ((p ++ [b]).length : Int) := by
   rw [wrap_id9 (by omega)]; simp
  have el : ((acc ++ [cur]).map ba).length = acc.length + 1 := by simp
  have h32 : (b.toNat : Int) = 32 ↔ b = 32 := by
   constructor
   ·intro h
    have : b.toNat = (32 : UInt8).toNat := by rw [show (32 : UInt8).toNat = 32 from rfl]; omega
    exact UInt8.toNat_inj.1 this
   ·rintro rfl; rfl
  have ep : p ++ b :: q = (p ++ [b]) ++ q := by simp
  rw [metrolabref30_Split.l0, hbt, ba_size, if_pos (by simp only [List.length_append, List.length_cons]; omega), if_pos (by omega), e2]
  unfold pieces
  by_cases h : b = 32
  ·rw [if_pos (h32.2 h), if_pos (by rw [el]; omega), if_pos h]
   have := ih (p ++ [b]) (acc ++ [cur]) [] k (by rw [← ep]; exact hl) (by omega) (by simp only [List.length_append, List.length_singleton]; omega) (by simp)
   rw [← ep] at this
   rw [← this]
   congr 1
   simp [ba]
  ·rw [if_neg (fun hh => h (h32.1 hh)), if_neg h]
   have ew : wrap64 ((((acc ++ [cur]).map ba).length : Int) - 1) = (acc.length : Int) := by rw [el, wrap_id9 (by omega)]; omega
   have er : rdOf ByteArray.empty ((acc ++ [cur]).map ba) (acc.length : Int) = ba cur := by
    unfold rdOf
    simp
   have ex : (ba (p ++ b :: q)).extract ((p.length : Int)).toNat ((((p ++ [b]).length : Nat) : Int)).toNat = ba [b] := by
    rw [ba_ext]
    simp
   rw [ew, er, ex, if_pos (by omega), if_pos (by rw [el]; omega), if_pos (by simp only [List.length_append, List.length_singleton]; omega), if_pos (by simp only [List.length_append, List.length_nil, List.length_cons]; omega), ba_size, ba_size, if_pos (by simp only [List.length_singleton]; omega), ba_app]
   have := ih (p ++ [b]) acc (cur ++ [b]) k (by rw [← ep]; exact hl) (by omega) (by simp only [List.length_append, List.length_singleton]; omega) (by simp only [List.length_append, List.length_singleton]; omega)
   rw [← ep] at this
   rw [← this]
   congr 1
   simp
theorem split_eq (l : List UInt8) (hl : l.length ≤ 10000) (k : Nat) (hk : l.length + 1 ≤ k) : metrolabref30_Split.f k (ba l) = some ((pieces [] [] l).map ba) :=
 split_loop l [] [] [] k (by simpa using hl) hk (by simp) (by simp)
end Go.Proofs.YtolbjmaabghghaaGreatDoor.PA
namespace Go.Proofs.YtolbjmaabghghaaGreatDoor.PA
open Go.RowKit Go.PW Go.PL Go.PM
theorem itoa_no (n : Int) : ∀ b ∈ Lib.itoa n, b ≠ 32 := by
 intro b hb
 have hd : ∀ u, b ∈ Lib.decDigits u → b ≠ 32 := fun u h => by
  have := dec_chars u b h
  rintro rfl
  exact absurd this.1 (by decide)
 unfold Lib.itoa at hb
 split at hb
 ·rcases List.mem_cons.1 hb with h | h
  ·subst h; decide
  ·exact hd _ h
 ·exact hd _ hb
theorem name_no {l : List UInt8} (h : nameErr l = 0) : ∀ b ∈ l, b ≠ 32 := by
 intro b hb
 have ha : l.all (alnum.contains ·) = true := by
  cases l with
  | nil => cases hb
  | cons c r =>
   have hne : nameErr (c :: r) = if (c :: r).all (alnum.contains ·) = true then (if digs.contains c = true then 3 else if 24 < (c :: r).length then 17 else 0) else 3 := rfl
   rw [hne] at h
   split at h
   ·assumption
   ·cases h
 have := List.all_eq_true.1 ha b hb
 rintro rfl
 exact absurd this (by decide)
theorem index_at (r : List UInt8) : ∀ v : List UInt8, (∀ b ∈ v, b ≠ 32) → Lib.index (v ++ 32 :: r) [32] = (v.length : Int) := by
 intro v
 induction v with
 | nil => intro _; rw [List.nil_append, Lib.index.eq_2, if_pos (by simp [List.isPrefixOf])]; rfl
 | cons b v ih =>
  intro h
  rw [List.cons_append, Lib.index.eq_2, ih (fun x hx => h x (by simp [hx]))]
  have : ([32] : List UInt8).isPrefixOf (b :: (v ++ 32 :: r)) = false := by
   have hb := h b (by simp)
   simp [List.isPrefixOf, Ne.symm hb]
  rw [this, if_neg (by decide), if_neg (by simp)]
  simp
theorem cut_at (v r : List UInt8) (h : ∀ b ∈ v, b ≠ 32) : Lib.cut (v ++ 32 :: r) [32] = (v, r, true) := by
 unfold Lib.cut
 rw [index_at r v h, if_pos (by omega)]
 simp
theorem verb_at (v r : List UInt8) (h : ∀ b ∈ v, b ≠ 32) : verbOf (ba (v ++ 32 :: r)) = ba v := by
 unfold verbOf
 rw [ba_data, cut_at v r h]
 rfl
theorem rest_at (v r : List UInt8) (h : ∀ b ∈ v, b ≠ 32) : restOf (ba (v ++ 32 :: r)) = ba r := by
 unfold restOf
 rw [ba_data, cut_at v r h]
 rfl
theorem split_at (v r : List UInt8) (k : Nat) (h : ∀ b ∈ v, b ≠ 32) : Lib.splitB ⟨#[32]⟩ 0 (k + 1) (ba (v ++ 32 :: r)) = ba v :: Lib.splitB ⟨#[32]⟩ 0 k (ba r) := by
 rw [Lib.splitB_hit ⟨#[32]⟩ 0 k (ba (v ++ 32 :: r)) v.length (by unfold Lib.indexB; rw [ba_data]; exact index_at r v h), ba_ext, ba_ext, ba_size]
 have e1 : ((v ++ 32 :: r).drop 0).take (v.length + 0 - 0) = v := by simp
 have e2 : ((v ++ 32 :: r).drop (v.length + (⟨#[32]⟩ : ByteArray).size)).take ((v ++ 32 :: r).length - (v.length + (⟨#[32]⟩ : ByteArray).size)) = r := by
  have : (⟨#[32]⟩ : ByteArray).size = 1 := rfl
  rw [this, ← List.drop_drop]
  simp only [List.drop_left, List.drop_succ_cons, List.drop_zero, List.length_append, List.length_cons]
  exact List.take_of_length_le (by omega)
 rw [e1, e2]
theorem ba_inj {l m : List UInt8} (h : ba l = ba m) : l = m := by rw [← ba_data l, h, ba_data]
theorem pguess_eq (a0 a1 a2 a3 a4 : Int) (s : ByteArray) (hr : rightV a0 a1 a2 a3 a4 s.data.toList = 0) : guess (ba (writL a0 a1 a2 a3 a4 s.data.toList)) = (a0, a1, a2, a3, a4, s) := by
 have nil_of : s.data.toList = [] → s = ⟨#[]⟩ := fun h => by rw [← ba_of s, h]; rfl
 unfold writL
 rcases right0 hr with ⟨h0, hb, h4, hl⟩ | ⟨h0, hd, hz, hl⟩ | ⟨h0, hn, hz, h4⟩
 ·subst h0
  rw [if_pos rfl]
  unfold moveL guess
  have hm : ∀ b ∈ ([109, 111, 118, 101] : List UInt8), b ≠ 32 := by decide
  rw [verb_at _ _ hm, rest_at _ _ hm, if_pos (show ba [109, 111, 118, 101] = ⟨#[109, 111, 118, 101]⟩ from rfl)]
  have hp : partsOf (ba (Lib.itoa a1 ++ 32 :: (Lib.itoa a2 ++ 32 :: Lib.itoa a3))) = [ba (Lib.itoa a1), ba (Lib.itoa a2), ba (Lib.itoa a3)] := by
   unfold partsOf
   rw [ba_size, show min 3 ((Lib.itoa a1 ++ 32 :: (Lib.itoa a2 ++ 32 :: Lib.itoa a3)).length + 1) - 1 = 1 + 1 by simp only [List.length_append, List.length_cons]; omega]
   rw [split_at _ _ _ (itoa_no a1), split_at _ _ _ (itoa_no a2), Lib.splitB_zero]
  rw [hp]
  unfold numOf
  simp only [List.length_cons, List.length_nil, List.getD_cons_zero, List.getD_cons_succ]
  rw [if_pos (by omega), if_pos (by omega), if_pos (by omega), atoi_itoa a1 hb.1, atoi_itoa a2 hb.2.1, atoi_itoa a3 hb.2.2, nil_of hl, h4]
 ·subst h0
  rw [if_neg (by decide), if_pos rfl, nil_of hl, hz.1, hz.2.1, hz.2.2]
  rcases (show a4 = 0 ∨ a4 = 1 ∨ a4 = 2 ∨ a4 = 3 ∨ a4 = 4 ∨ a4 = 5 by omega) with rfl | rfl | rfl | rfl | rfl | rfl <;> rfl
 ·subst h0
  rw [if_neg (by decide), if_neg (by decide)]
  unfold guess
  have hm : ∀ b ∈ ([116, 97, 107, 101] : List UInt8), b ≠ 32 := by decide
  have e : ([116, 97, 107, 101, 32] : List UInt8) ++ s.data.toList = [116, 97, 107, 101] ++ 32 :: s.data.toList := rfl
  rw [e, verb_at _ _ hm, rest_at _ _ hm, if_neg (show ¬ ba [116, 97, 107, 101] = ⟨#[109, 111, 118, 101]⟩ from fun h => absurd (ba_inj (l := [116, 97, 107, 101]) (m := [109, 111, 118, 101]) h) (by decide)), if_neg (show ¬ ba [116, 97, 107, 101] = ⟨#[116, 111, 117, 99, 104]⟩ from fun h => absurd (ba_inj (l := [116, 97, 107, 101]) (m := [116, 111, 117, 99, 104]) h) (by decide)), if_pos (show ba [116, 97, 107, 101] = ⟨#[116, 97, 107, 101]⟩ from rfl), ba_of, hz.1, hz.2.1, hz.2.2, h4]
end Go.Proofs.YtolbjmaabghghaaGreatDoor.PA
namespace Go.Proofs.YtolbjmaabghghaaGreatDoor.PA
open Go.RowKit Go.PW Go.PL Go.PM
theorem written_dir (k : Nat) (i : Int) (h : 0 ≤ i ∧ i ≤ 5) : metrolabref30_Written.f k 1 0 0 0 i (⟨#[]⟩ : ByteArray) = some (ba ([116, 111, 117, 99, 104, 32] ++ dirL i)) := by
 rcases (show i = 0 ∨ i = 1 ∨ i = 2 ∨ i = 3 ∨ i = 4 ∨ i = 5 by omega) with rfl | rfl | rfl | rfl | rfl | rfl <;> rfl
theorem l0_step (k : Nat) (l : List UInt8) (i : Int) (h : 0 ≤ i ∧ i ≤ 5) : metrolabref30_guess.l0 (k + 1) (ba l) i = if [116, 111, 117, 99, 104, 32] ++ dirL i = l then some (1, 0, 0, 0, i, (⟨#[]⟩ : ByteArray)) else metrolabref30_guess.l0 k (ba l) (i + 1) := by
 rw [metrolabref30_guess.l0, if_pos (by omega), written_dir k i h]
 simp only [Option.bind_some]
 rw [ba_toList, ba_data, ba_toList, ba_data, wrap_id9 (by omega)]
theorem l0_dir (d : Int) (hd : 0 ≤ d ∧ d ≤ 5) (k : Nat) (hk : 10 ≤ k) : metrolabref30_guess.l0 k (ba ([116, 111, 117, 99, 104, 32] ++ dirL d)) 0 = some (1, 0, 0, 0, d, (⟨#[]⟩ : ByteArray)) := by
 obtain ⟨k, rfl⟩ : ∃ i, k = i + 1 + 1 + 1 + 1 + 1 + 1 := ⟨k - 6, by omega⟩
 rcases (show d = 0 ∨ d = 1 ∨ d = 2 ∨ d = 3 ∨ d = 4 ∨ d = 5 by omega) with rfl | rfl | rfl | rfl | rfl | rfl
 ·rw [l0_step _ _ _ (by decide), if_pos (by decide)]
 ·rw [l0_step _ _ _ (by decide), if_neg (by decide), l0_step _ _ _ (by decide), if_pos (by decide)]; rfl
 ·rw [l0_step _ _ _ (by decide), if_neg (by decide), l0_step _ _ _ (by decide), if_neg (by decide), l0_step _ _ _ (by decide), if_pos (by decide)]; rfl
 ·rw [l0_step _ _ _ (by decide), if_neg (by decide), l0_step _ _ _ (by decide), if_neg (by decide), l0_step _ _ _ (by decide), if_neg (by decide), l0_step _ _ _ (by decide), if_pos (by decide)]; rfl
 ·rw [l0_step _ _ _ (by decide), if_neg (by decide), l0_step _ _ _ (by decide), if_neg (by decide), l0_step _ _ _ (by decide), if_neg (by decide), l0_step _ _ _ (by decide), if_neg (by decide), l0_step _ _ _ (by decide), if_pos (by decide)]; rfl
 ·rw [l0_step _ _ _ (by decide), if_neg (by decide), l0_step _ _ _ (by decide), if_neg (by decide), l0_step _ _ _ (by decide), if_neg (by decide), l0_step _ _ _ (by decide), if_neg (by decide), l0_step _ _ _ (by decide), if_neg (by decide), l0_step _ _ _ (by decide), if_pos (by decide)]; rfl
theorem dirL_no (d : Int) : ∀ b ∈ dirL d, b ≠ 32 := by
 unfold dirL
 repeat' split
 all_goals decide
theorem rguess_eq (a0 a1 a2 a3 a4 : Int) (s : ByteArray) (hr : rightV a0 a1 a2 a3 a4 s.data.toList = 0) (hs : s.size ≤ 4096) (k : Nat) (hk : 9000 ≤ k) : metrolabref30_guess.f k (ba (writL a0 a1 a2 a3 a4 s.data.toList)) = some (a0, a1, a2, a3, a4, s) := by
  have nil_of : s.data.toList = [] → s = ⟨#[]⟩ := fun h => by rw [← ba_of s, h]; rfl
  have hsz : s.size = s.data.toList.length := by rw [← ba_of s, ba_size, ba_data]
  obtain ⟨k, rfl⟩ : ∃ i, k = i + 1 + 1 + 1 := ⟨k - 3, by omega⟩
  unfold writL metrolabref30_guess.f
  rcases right0 hr with ⟨h0, hb, h4, hl⟩ | ⟨h0, hd, hz, hl⟩ | ⟨h0, hn, hz, h4⟩
  · subst h0
    rw [if_pos rfl]
    unfold moveL
    have h1 := itoa_len a1 hb.1
    have h2 := itoa_len a2 hb.2.1
    have h3 := itoa_len a3 hb.2.2
    have hm : ∀ b ∈ ([109, 111, 118, 101] : List UInt8), b ≠ 32 := by decide
    rw [split_eq _ (by simp only [List.length_append, List.length_cons, List.length_nil]; omega) _ (by simp only [List.length_append, List.length_cons, List.length_nil]; omega)]
    rw [pieces_word _ _ _ _ hm, pieces_word _ _ _ _ (itoa_no a1), pieces_word _ _ _ _ (itoa_no a2), pieces_last _ _ _ (itoa_no a3)]
    simp only [Option.bind_some, List.nil_append, List.append_assoc, List.cons_append, List.map_cons, List.map_nil, List.length_cons, List.length_nil]
    rw [if_pos (by decide), if_pos (by decide)]
    have e : ((rdOf ByteArray.empty [ba [109, 111, 118, 101], ba (Lib.itoa a1), ba (Lib.itoa a2), ba (Lib.itoa a3)] 0).toList == ([109, 111, 118, 101] : List UInt8)) = true := by
      rw [beq_iff_eq, ba_toList]; exact ba_data _
    rw [e, metrolabref30_guess.j0, if_pos rfl]
    have r1 : rdOf ByteArray.empty [ba [109, 111, 118, 101], ba (Lib.itoa a1), ba (Lib.itoa a2), ba (Lib.itoa a3)] 1 = ba (Lib.itoa a1) := rfl
    have r2 : rdOf ByteArray.empty [ba [109, 111, 118, 101], ba (Lib.itoa a1), ba (Lib.itoa a2), ba (Lib.itoa a3)] 2 = ba (Lib.itoa a2) := rfl
    have r3 : rdOf ByteArray.empty [ba [109, 111, 118, 101], ba (Lib.itoa a1), ba (Lib.itoa a2), ba (Lib.itoa a3)] 3 = ba (Lib.itoa a3) := rfl
    rw [r1, r2, r3, int_int a1 hb.1 _ (by omega), int_int a2 hb.2.1 _ (by omega), int_int a3 hb.2.2 _ (by omega)]
    simp only [Option.bind_some, List.length_cons, List.length_nil]
    rw [if_pos (by decide), if_pos (by decide), if_pos (by decide), nil_of hl, h4]
  · subst h0
    rw [if_neg (by decide), if_pos rfl]
    have hm : ∀ b ∈ ([116, 111, 117, 99, 104] : List UInt8), b ≠ 32 := by decide
    have hlen : (dirL a4).length ≤ 2 := by unfold dirL; repeat' split
                                           all_goals decide
    have es : ([116, 111, 117, 99, 104, 32] : List UInt8) ++ dirL a4 = [116, 111, 117, 99, 104] ++ 32 :: dirL a4 := rfl
    rw [split_eq _ (by simp only [List.length_append, List.length_cons, List.length_nil]; omega) _ (by simp only [List.length_append, List.length_cons, List.length_nil]; omega)]
    rw [show pieces [] [] (([116, 111, 117, 99, 104, 32] : List UInt8) ++ dirL a4) = [[116, 111, 117, 99, 104], dirL a4] by rw [es, pieces_word _ _ _ _ hm, pieces_last _ _ _ (dirL_no a4)]; rfl]
    simp only [Option.bind_some, List.map_cons, List.map_nil, List.length_cons, List.length_nil]
    rw [if_neg (by decide), metrolabref30_guess.j0, if_neg (by decide)]
    simp only [List.length_cons, List.length_nil]
    rw [if_pos (by decide), if_pos (by decide)]
    have e : ((rdOf ByteArray.empty [ba [116, 111, 117, 99, 104], ba (dirL a4)] 0).toList == ([116, 97, 107, 101] : List UInt8)) = false := by
      rw [beq_eq_false_iff_ne, ba_toList]
      show (ba [116, 111, 117, 99, 104]).data.toList ≠ _
      rw [ba_data]; decide
    have e2 : ((rdOf ByteArray.empty [ba [116, 111, 117, 99, 104], ba (dirL a4)] 0).toList == ([116, 111, 117, 99, 104] : List UInt8)) = true := by
      rw [beq_iff_eq, ba_toList]; exact ba_data _
    rw [e, metrolabref30_guess.j1, if_neg (by decide)]
    simp only [List.length_cons, List.length_nil]
    rw [if_pos (by decide), if_pos (by decide), e2, metrolabref30_guess.j2, if_pos rfl, l0_dir a4 hd _ (by omega), nil_of hl, hz.1, hz.2.1, hz.2.2]
  · subst h0
    rw [if_neg (by decide), if_neg (by decide)]
    have hm : ∀ b ∈ ([116, 97, 107, 101] : List UInt8), b ≠ 32 := by decide
    have es : ([116, 97, 107, 101, 32] : List UInt8) ++ s.data.toList = [116, 97, 107, 101] ++ 32 :: s.data.toList := rfl
    rw [split_eq _ (by simp only [List.length_append, List.length_cons, List.length_nil]; omega) _ (by simp only [List.length_append, List.length_cons, List.length_nil]; omega)]
    rw [show pieces [] [] (([116, 97, 107, 101, 32] : List UInt8) ++ s.data.toList) = [[116, 97, 107, 101], s.data.toList] by rw [es, pieces_word _ _ _ _ hm, pieces_last _ _ _ (name_no hn)]; rfl]
    simp only [Option.bind_some, List.map_cons, List.map_nil, List.length_cons, List.length_nil]
    rw [if_neg (by decide), metrolabref30_guess.j0, if_neg (by decide)]
    simp only [List.length_cons, List.length_nil]
    rw [if_pos (by decide), if_pos (by decide)]
    have e : ((rdOf ByteArray.empty [ba [116, 97, 107, 101], ba s.data.toList] 0).toList == ([116, 97, 107, 101] : List UInt8)) = true := by
      rw [beq_iff_eq, ba_toList]; exact ba_data _
    rw [e, metrolabref30_guess.j1, if_pos rfl]
    simp only [List.length_cons, List.length_nil]
    rw [if_pos (by decide), hz.1, hz.2.1, hz.2.2, h4]
    exact congrArg (fun x => some ((2, 0, 0, 0, 0, x) : Int × Int × Int × Int × Int × ByteArray)) (ba_of s)
end Go.Proofs.YtolbjmaabghghaaGreatDoor.PA
namespace Go.Proofs.YtolbjmaabghghaaGreatDoor.PA
open Go.RowKit Go.PW Go.PL Go.PM
theorem int_l0_total (sg : Int) (l : List UInt8) (_hl : l.length ≤ 5000) : ∀ (j : Nat) (i v : Int) (k : Nat), 0 ≤ i → (l.length : Int) - i ≤ j → j + 1 ≤ k → ∃ r, metrolabref30_Int.l0 k (ba l) v sg i = some r := by
 intro j
 induction j with
 | zero =>
  intro i v k hi hj hk
  obtain ⟨k, rfl⟩ : ∃ q, k = q + 1 := ⟨k - 1, by omega⟩
  rw [metrolabref30_Int.l0, ba_size, if_neg (by omega)]
  exact ⟨_, rfl⟩
 | succ j ih =>
  intro i v k hi hj hk
  obtain ⟨k, rfl⟩ : ∃ q, k = q + 1 := ⟨k - 1, by omega⟩
  rw [metrolabref30_Int.l0, ba_size]
  split
  ·rename_i hlt
   split
   ·exact ⟨_, rfl⟩
   ·split
    ·exact ⟨_, rfl⟩
    ·split
     ·exact ⟨_, rfl⟩
     ·rw [wrap_id9 (n := i + 1) (by omega)]
      exact ih (i + 1) _ k (by omega) (by omega) (by omega)
  ·exact ⟨_, rfl⟩
theorem int_total (l : List UInt8) (hl : l.length ≤ 5000) (k : Nat) (hk : 6000 ≤ k) : ∃ r, metrolabref30_Int.f k (ba l) = some r := by
 obtain ⟨k, rfl⟩ : ∃ q, k = q + 1 + 1 := ⟨k - 2, by omega⟩
 have hj : ∀ (m : List UInt8) (v sg : Int), m.length ≤ 5000 → ∃ r, metrolabref30_Int.j1 (k + 1) (ba m) v sg = some r := fun m v sg hm => by
  rw [metrolabref30_Int.j1]
  exact int_l0_total sg m hm m.length 0 v k (by omega) (by omega) (by omega)
 have h0 : ∀ (b : Bool), (b = true → 1 ≤ l.length) → ∃ r, metrolabref30_Int.j0 (k + 1 + 1) (ba l) 0 1 b = some r := fun b hb => by
  rw [metrolabref30_Int.j0]
  split
  ·rename_i h
   rw [ba_size, if_pos (by have := hb h; omega), ba_ext]
   exact hj _ _ _ (by simp only [List.length_take, List.length_drop]; omega)
  ·exact hj _ _ _ hl
 unfold metrolabref30_Int.f
 rw [ba_size]
 split
 ·exact h0 _ (fun _ => by omega)
 ·exact h0 _ (fun h => absurd h (by decide))
theorem pieces_len : ∀ (q : List UInt8) (acc : List (List UInt8)) (cur : List UInt8) (n : Nat), cur.length + q.length ≤ n → (∀ p ∈ acc, p.length ≤ n) → ∀ p ∈ pieces acc cur q, p.length ≤ n := by
 intro q
 induction q with
 | nil =>
  intro acc cur n hc ha p hp
  rw [pieces, List.mem_append, List.mem_singleton] at hp
  rcases hp with hp | hp
  ·exact ha p hp
  ·subst hp; simp only [List.length_nil] at hc; omega
 | cons b q ih =>
  intro acc cur n hc ha p hp
  simp only [List.length_cons] at hc
  rw [pieces] at hp
  split at hp
  ·refine ih _ _ n (by simp only [List.length_nil]; omega) ?_ p hp
   intro x hx
   rw [List.mem_append, List.mem_singleton] at hx
   rcases hx with hx | hx
   ·exact ha x hx
   ·subst hx; omega
  ·exact ih _ _ n (by simp only [List.length_append, List.length_singleton]; omega) ha p hp
theorem rd_piece (t : List (List UInt8)) (i : Nat) (h : i < t.length) : rdOf ByteArray.empty (t.map ba) (i : Int) = ba (t[i]'h) := by
 unfold rdOf
 simp [h]
theorem l0_total (l : List UInt8) (k : Nat) : ∀ (j : Nat) (i : Int), i = 6 - (j : Int) → j ≤ 6 → ∃ g, metrolabref30_guess.l0 (k + j + 1) (ba l) i = some g ∧ g.2.2.2.2.2.size ≤ 4096 := by
 intro j
 induction j with
 | zero => intro i hi _; rw [metrolabref30_guess.l0, if_neg (by omega)]; exact ⟨_, rfl, (by decide : (⟨#[]⟩ : ByteArray).size ≤ 4096)⟩
 | succ j ih =>
  intro i hi hj
  rw [l0_step _ _ _ (by omega)]
  split
  ·exact ⟨_, rfl, (by decide : (⟨#[]⟩ : ByteArray).size ≤ 4096)⟩
  ·exact ih (i + 1) (by omega) (by omega)
theorem rguess_total (l : List UInt8) (hl : l.length ≤ 4096) (k : Nat) (hk : 9000 ≤ k) : ∃ g, metrolabref30_guess.f k (ba l) = some g ∧ g.2.2.2.2.2.size ≤ 4096 := by
 obtain ⟨k, rfl⟩ : ∃ i, k = i + 6 + 1 + 1 + 1 + 1 := ⟨k - 10, by omega⟩
 unfold metrolabref30_guess.f
 rw [split_eq l (by omega) _ (by omega)]
 have hp := pieces_len l [] [] 4096 (by simpa using hl) (by simp)
 generalize pieces [] [] l = t at hp
 simp only [Option.bind_some]
 have hlen : (t.map ba).length = t.length := by simp
 have h2 : ∀ b, ∃ g, metrolabref30_guess.j2 (k + 6 + 1 + 1) (ba l) b = some g ∧ g.2.2.2.2.2.size ≤ 4096 := fun b => by
  rw [metrolabref30_guess.j2]
  split
  ·exact l0_total l k 6 0 (by omega) (by omega)
  ·exact ⟨_, rfl, (by decide : (⟨#[]⟩ : ByteArray).size ≤ 4096)⟩
 have h1 : ∀ b, (b = true → 1 < t.length) → ∃ g, metrolabref30_guess.j1 (k + 6 + 1 + 1 + 1) (ba l) (t.map ba) b = some g ∧ g.2.2.2.2.2.size ≤ 4096 := fun b hb => by
  rw [metrolabref30_guess.j1, hlen]
  split
  ·rename_i h
   have h1 := hb h
   rw [if_pos (by omega)]
   refine ⟨_, rfl, ?_⟩
   show (rdOf ByteArray.empty (t.map ba) ((1 : Nat) : Int)).size ≤ 4096
   rw [rd_piece t 1 h1, ba_size]
   exact hp _ (List.getElem_mem h1)
  ·split
   ·rw [if_pos (by omega)]; exact h2 _
   ·exact h2 _
 have h0 : ∀ b, (b = true → t.length = 4) → ∃ g, metrolabref30_guess.j0 (k + 6 + 1 + 1 + 1 + 1) (ba l) (t.map ba) b = some g ∧ g.2.2.2.2.2.size ≤ 4096 := fun b hb => by
  rw [metrolabref30_guess.j0, hlen]
  split
  ·rename_i h
   have h4 := hb h
   have hi : ∀ i (h : i < t.length), ∃ r, metrolabref30_Int.f (k + 6 + 1 + 1 + 1) (rdOf ByteArray.empty (t.map ba) (i : Int)) = some r := fun i h => by
    rw [rd_piece t i h]
    exact int_total _ (by have := hp _ (List.getElem_mem h); omega) _ (by omega)
   obtain ⟨r1, e1⟩ := hi 1 (by omega)
   obtain ⟨r2, e2⟩ := hi 2 (by omega)
   obtain ⟨r3, e3⟩ := hi 3 (by omega)
   rw [if_pos (by omega), show (1 : Int) = ((1 : Nat) : Int) from rfl, e1]
   simp only [Option.bind_some]
   rw [if_pos (by omega), show (2 : Int) = ((2 : Nat) : Int) from rfl, e2]
   simp only [Option.bind_some]
   rw [if_pos (by omega), show (3 : Int) = ((3 : Nat) : Int) from rfl, e3]
   exact ⟨_, rfl, (by decide : (⟨#[]⟩ : ByteArray).size ≤ 4096)⟩
  ·split
   ·rw [if_pos (by omega)]; exact h1 _ (fun _ => by omega)
   ·exact h1 _ (fun h => absurd h (by decide))
 rw [hlen]
 split
 ·rw [if_pos (by omega)]; exact h0 _ (fun _ => by omega)
 ·exact h0 _ (fun h => absurd h (by decide))
theorem pguess_size (s : ByteArray) (hs : s.size ≤ 4096) : (guess s).2.2.2.2.2.size ≤ 4096 := by
 unfold guess
 repeat' split
 ·exact (by decide : (⟨#[]⟩ : ByteArray).size ≤ 4096)
 ·exact (by decide : (⟨#[]⟩ : ByteArray).size ≤ 4096)
 ·exact Nat.le_trans (cut_size s) hs
 ·exact (by decide : (⟨#[]⟩ : ByteArray).size ≤ 4096)
def readV (g : Int × Int × Int × Int × Int × ByteArray) (s : ByteArray) : Int × Int × Int × Int × Int × ByteArray × Int :=
 if textV g.1 g.2.1 g.2.2.1 g.2.2.2.1 g.2.2.2.2.1 g.2.2.2.2.2.data.toList = (s, 0) then (g.1, g.2.1, g.2.2.1, g.2.2.2.1, g.2.2.2.2.1, g.2.2.2.2.2, 0) else (0, 0, 0, 0, 0, ⟨#[]⟩, 4)
theorem text0 {a0 a1 a2 a3 a4 : Int} {l : List UInt8} {s : ByteArray} (h : textV a0 a1 a2 a3 a4 l = (s, 0)) : rightV a0 a1 a2 a3 a4 l = 0 ∧ s = ba (writL a0 a1 a2 a3 a4 l) := by
 unfold textV at h
 split at h
 ·exact ⟨by assumption, (congrArg Prod.fst h).symm⟩
 ·exact absurd (congrArg Prod.snd h) (by assumption)
theorem read_same (s : ByteArray) (g : Int × Int × Int × Int × Int × ByteArray) (k : Nat) (hk : 9000 ≤ k) (hg : metrolabref30_guess.f k s = some g) (_hs : g.2.2.2.2.2.size ≤ 4096) (hp : (guess s).2.2.2.2.2.size ≤ 4096) : readV (guess s) s = readV g s := by
 unfold readV
 by_cases h1 : textV (guess s).1 (guess s).2.1 (guess s).2.2.1 (guess s).2.2.2.1 (guess s).2.2.2.2.1 (guess s).2.2.2.2.2.data.toList = (s, 0)
 ·obtain ⟨r, e⟩ := text0 h1
  have hr := rguess_eq _ _ _ _ _ _ r hp k hk
  rw [← e, hg] at hr
  have := Option.some.inj hr
  rw [this]
 ·by_cases h2 : textV g.1 g.2.1 g.2.2.1 g.2.2.2.1 g.2.2.2.2.1 g.2.2.2.2.2.data.toList = (s, 0)
  ·obtain ⟨r, e⟩ := text0 h2
   have hr := pguess_eq _ _ _ _ _ _ r
   rw [← e] at hr
   rw [hr]
  ·rw [if_neg h1, if_neg h2]
end Go.Proofs.YtolbjmaabghghaaGreatDoor.PA
