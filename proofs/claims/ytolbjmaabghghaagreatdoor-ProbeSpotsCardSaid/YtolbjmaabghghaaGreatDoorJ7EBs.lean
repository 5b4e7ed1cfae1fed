/- A part of the proof. -/
import Derived.Test.YtolbjmaabghghaaGreatDoorJ7EWay3
import Derived.Lib.Bytealg
import Derived.Shelf.Strings.Search1
import Derived.Lib.Walk
namespace Go.Proofs.YtolbjmaabghghaaGreatDoor.PA
open Go.RowKit Go.PW Go.PL Go.PM
set_option linter.unusedVariables false
set_option linter.unusedSimpArgs false
def cmpB (a b : ByteArray) : Int := Lib.compareBytes a.data.toList b.data.toList
set_option maxHeartbeats 1000000 in
set_option maxRecDepth 100000 in
theorem cmp126 (a b : ByteArray) (w : World) : Calls Tryz.prog 126 #[.string a, .string b] w fun e w' => e = .returned (.int .i64 (cmpB a b)) ∧ w' = w := by
 go_enter Tryz.func126, Tryz.ntmps126
 go_wp2
 rw [run_callFunc_extern Tryz.func149 (by kernel_rfl) (by kernel_rfl) (by kernel_rfl) (e := Extern.BytealgCompare.compare) (by kernel_rfl), Lib.run_compareString]
 simp only [Result.andThen]
 rw [Oper.upon_value]
 go_wp2
 go_ret
 exact ⟨rfl, rfl⟩
set_option maxHeartbeats 1000000 in
set_option maxRecDepth 100000 in
theorem cmp107 (a b : ByteArray) (w : World) : Calls Tryz.prog 107 #[.string a, .string b] w fun e w' => e = .returned (.int .i64 (cmpB a b)) ∧ w' = w := by
 go_enter Tryz.func107, Tryz.ntmps107
 go_wp2_with (go_at_call 126; refine (cmp126 _ _ _).mono ?_; rintro e w' ⟨rfl, rfl⟩)
 go_ret
 exact ⟨rfl, rfl⟩
set_option maxHeartbeats 1000000 in
set_option maxRecDepth 100000 in
theorem cmp106 (x : Value) (a b : ByteArray) (w : World) : Calls Tryz.prog 106 #[.agg #[.string a, x], .string b] w fun e w' => e = .returned (.int .i64 (cmpB a b)) ∧ Below w.heap.size w w' := by
 have hu76 := Tryz.underlying76
 go_enter Tryz.func106, Tryz.ntmps106
 go_wp2_with (go_at_call 107; refine (cmp107 _ _ _).mono ?_; rintro e w' ⟨rfl, rfl⟩)
 go_ret
 exact ⟨rfl, below_alloc (Below.refl _ _) _⟩
def bsL (sm : List S76) (s : ByteArray) : Nat → Nat → Nat → Nat
 | 0, i, _ => i
 | k + 1, i, j => if i < j then (if cmpB (rd_T76 sm (((i : Int) + (j : Int)) / 2)).f0 s < 0 then bsL sm s k ((i + j) / 2 + 1) j else bsL sm s k i ((i + j) / 2)) else i
def bsI (sm : List S76) (s : ByteArray) : Nat := bsL sm s (sm.length + 1) 0 sm.length
def bsOk (sm : List S76) (s : ByteArray) : Bool := decide (bsI sm s < sm.length) && decide (cmpB (rd_T76 sm (bsI sm s : Int)).f0 s = 0)
theorem bsL_stop (sm : List S76) (s : ByteArray) (k i j : Nat) (h : ¬ i < j) : bsL sm s k i j = i := by
 cases k with
 | zero => rfl
 | succ k => unfold bsL; rw [if_neg h]
theorem at_nat {w : World} {A : Option Addr} {sm : List S76} (h : Kd.C k76 w A sm.length sm) (i : Nat) (hi : i < sm.length) : ∃ ad A1 c1, A = some ad ∧ w.cell? (ad.add (i * 2)) = some (.string (rd_T76 sm (i : Int)).f0) ∧ w.cell? ⟨(ad.add (i * 2)).block, (ad.add (i * 2)).off + 1, none⟩ = some (.slice A1 (rd_T76 sm (i : Int)).f1.length c1) := by
 obtain ⟨ad, A1, c1, e, h0, h1, _⟩ := at_T76 h (i : Int) (by omega) (by omega)
 rw [Int.toNat_natCast] at h0 h1
 exact ⟨ad, A1, c1, e, h0, h1⟩
set_option maxHeartbeats 4000000 in
set_option maxRecDepth 100000 in
theorem bsf_calls (A : Option Addr) (c : Nat) (sm : List S76) (s : ByteArray) (w : World) (hl : sm.length ≤ 8192) (hr : Kd.C k76 w A sm.length sm) :
  Calls Tryz.prog 105 #[.slice A sm.length c, .string s, .func (.func 106) #[] #[]] w fun e w' => e = .returned (.tuple #[.int .i64 (bsI sm s), .bool (bsOk sm s)]) ∧ Below w.heap.size w w' := by
 have HR := mk0 hr
 clear hr
 have hu65 := Tryz.underlying65
 have hu76 := Tryz.underlying76
 go_enter Tryz.func105, Tryz.ntmps105
 go_wp2
 go_loopw [9, 10] (fun vi vj wr => ∃ i j k : Nat, i ≤ j ∧ j ≤ sm.length ∧ j - i < k ∧ vi = .int .i64 i ∧ vj = .int .i64 j ∧ Aside0 (bsL sm s k i j = bsI sm s) ∧ Aside0 (Below w.heap.size w wr)) (fun vi vj _ => (intOf vj).toNat - (intOf vi).toNat)
 case atStart => exact ⟨0, sm.length, sm.length + 1, Nat.zero_le _, Nat.le_refl _, by omega, rfl, rfl, ⟨rfl⟩, ⟨Below.refl _ _⟩⟩
 case round =>
  rename_i wr
  obtain ⟨i, j, k, hij, hj, hk, rfl, rfl, HE, HB⟩ := hrel
  by_cases hlt : i < j
  ·obtain ⟨k, rfl⟩ : ∃ k', k = k' + 1 := ⟨k - 1, by omega⟩
   have HE2 := HE.out
   unfold bsL at HE2
   rw [if_pos hlt] at HE2
   obtain ⟨h, hh⟩ : ∃ h, h = (i + j) / 2 := ⟨_, rfl⟩
   have hh1 : i ≤ h ∧ h < j := by omega
   rw [← hh] at HE2
   replace HE2 := mk0 HE2
   obtain ⟨a, A1, cc, rfl, c0, c1⟩ := at_nat (Kd.C_below HR.out HB.out) ((i + j) / 2) (by omega)
   subst hh
   obtain ⟨R, hR⟩ : ∃ R, R = cmpB (rd_T76 sm (((i : Int) + (j : Int)) / 2)).f0 s := ⟨_, rfl⟩
   have HRR := mk0 hR
   by_cases hR0 : R < 0
   ·have q0 : decide (R < 0) = true := decide_eq_true hR0
    have HE3 : Aside0 (bsL sm s k ((i + j) / 2 + 1) j = bsI sm s) := ⟨by have := HE2.out; rw [← HRR.out, if_pos hR0] at this; exact this⟩
    clear hR hR0 HE2 HE
    go_wp2_with (go_at_call 106; refine (cmp106 _ _ s _).mono ?_; rintro e W1 ⟨rfl, hb⟩; rw [← HRR.out]; have HB1 := mk0 (below_step HB.out hb); clear hb)
    go_roundw
    case rel => exact ⟨(i + j) / 2 + 1, j, k, by omega, hj, by omega, by go_num, rfl, HE3, HB1⟩
    case measure => simp [intOf]; omega
   ·have q0 : decide (R < 0) = false := decide_eq_false hR0
    have HE3 : Aside0 (bsL sm s k i ((i + j) / 2) = bsI sm s) := ⟨by have := HE2.out; rw [← HRR.out, if_neg hR0] at this; exact this⟩
    clear hR hR0 HE2 HE
    go_wp2_with (go_at_call 106; refine (cmp106 _ _ s _).mono ?_; rintro e W1 ⟨rfl, hb⟩; rw [← HRR.out]; have HB1 := mk0 (below_step HB.out hb); clear hb)
    go_roundw
    case rel => exact ⟨i, (i + j) / 2, k, by omega, by omega, by omega, rfl, by go_num, HE3, HB1⟩
    case measure => simp [intOf]; omega
  ·have hi : bsI sm s = i := by rw [← HE.out, bsL_stop sm s k i j hlt]
   by_cases hn : i < sm.length
   ·obtain ⟨a, A1, cc, rfl, c0, c1⟩ := at_nat (Kd.C_below HR.out HB.out) i hn
    obtain ⟨R, hR⟩ : ∃ R, R = cmpB (rd_T76 sm (i : Int)).f0 s := ⟨_, rfl⟩
    have hok : bsOk sm s = (R == 0) := by
     unfold bsOk
     rw [hi, ← hR, decide_eq_true hn, Bool.true_and]
     rfl
    have HRR := mk0 hR
    have HOK := mk0 hok
    have HI := mk0 hi
    clear hR hok hi HE
    go_wp2_with (go_at_call 106; refine (cmp106 _ _ s _).mono ?_; rintro e W1 ⟨rfl, hb⟩; rw [← HRR.out]; have HB1 := mk0 (below_step HB.out hb); clear hb)
    go_ret2
    refine ⟨?_, HB1.out⟩
    show Ending.returned (.tuple #[.int .i64 (i : Int), .bool (R == 0)]) = _
    rw [HI.out, HOK.out]
   ·have hok : bsOk sm s = false := by
     unfold bsOk
     rw [hi, decide_eq_false hn, Bool.false_and]
    have HOK := mk0 hok
    have HI := mk0 hi
    clear hok hi HE
    go_wp2
    go_ret2
    refine ⟨?_, HB.out⟩
    show Ending.returned (.tuple #[.int .i64 (i : Int), .bool false]) = _
    rw [HI.out, HOK.out]
end Go.Proofs.YtolbjmaabghghaaGreatDoor.PA
