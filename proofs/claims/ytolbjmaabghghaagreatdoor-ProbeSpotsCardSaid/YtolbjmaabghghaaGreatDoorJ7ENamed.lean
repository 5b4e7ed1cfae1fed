/- A part of the proof. -/
import Derived.Test.YtolbjmaabghghaaGreatDoorJ7PAx0
import Derived.Test.YtolbjmaabghghaaGreatDoorJ7EG
import Derived.Test.YtolbjmaabghghaaGreatDoorJ7Sh
import Derived.Shelf.Strings.SlTrimAscii
namespace Go.Proofs.YtolbjmaabghghaaGreatDoor.PA
open Go.RowKit Go.PW Go.PL Go.PM
set_option linter.unusedVariables false
set_option linter.unusedSimpArgs false
def alnum : List UInt8 := [97, 98, 99, 100, 101, 102, 103, 104, 105, 106, 107, 108, 109, 110, 111, 112, 113, 114, 115, 116, 117, 118, 119, 120, 121, 122, 48, 49, 50, 51, 52, 53, 54, 55, 56, 57]
def digs : List UInt8 := [48, 49, 50, 51, 52, 53, 54, 55, 56, 57]
def nameErr (l : List UInt8) : Int := match l with
 | [] => 3
 | c :: _ => if l.all (alnum.contains ·) = true then (if digs.contains c = true then 3 else if 24 < l.length then 17 else 0) else 3
def probe_named.f (a0 : ByteArray) : Option Int := if a0.size ≤ 4096 then some (nameErr a0.data.toList) else none
theorem dropWhile_nil (p : UInt8 → Bool) : ∀ l : List UInt8, l.dropWhile p = [] ↔ ∀ x ∈ l, p x = true
 | [] => by simp
 | a :: l => by
  by_cases h : p a = true
  ·simp only [List.dropWhile_cons, h, if_true, dropWhile_nil p l, List.mem_cons, forall_eq_or_imp, true_and]
  ·simp [List.dropWhile_cons, h]
theorem mem_of_take_drop (p : UInt8 → Bool) : ∀ (l : List UInt8) (x : UInt8), x ∈ l → p x = true ∨ x ∈ l.dropWhile p
 | [], x, h => by simp at h
 | a :: l, x, h => by
  by_cases ha : p a = true
  ·rcases List.mem_cons.1 h with rfl | h
   ·exact .inl ha
   ·simp only [List.dropWhile_cons, ha, if_true]
    exact mem_of_take_drop p l x h
  ·right
   simp only [List.dropWhile_cons, ha]
   simpa using h
theorem trim_nil (l : List UInt8) : Lib.trimS l alnum = [] ↔ l.all (alnum.contains ·) = true := by
 unfold Lib.trimS Lib.trimLeftS Lib.trimRightS
 rw [dropWhile_nil, List.all_eq_true]
 constructor
 ·intro h x hx
  rcases mem_of_take_drop (alnum.contains ·) l.reverse x (List.mem_reverse.2 hx) with h' | h'
  ·exact h'
  ·exact h x (List.mem_reverse.2 h')
 ·intro h x hx
  exact h x (List.mem_reverse.1 ((List.dropWhile_sublist _).subset (List.mem_reverse.1 hx)))
theorem idx_contains (c : UInt8) : ∀ l : List UInt8, decide (0 ≤ Lib.indexByte l c) = l.contains c
 | [] => by simp [Lib.indexByte]
 | b :: l => by
  have ih := idx_contains c l
  unfold Lib.indexByte
  by_cases h : b = c
  ·subst h; simp
  ·have h' : (b == c) = false := by simpa using h
   have h2 : (c == b) = false := by simpa using fun e => h e.symm
   rw [List.contains_cons, h2, Bool.false_or, ← ih, h']
   by_cases h3 : Lib.indexByte l c = -1
   ·simp [h3]
   ·have hr := Lib.indexByte_ge l c
    simp only [beq_iff_eq, h3, if_false, Bool.false_eq_true]
    congr 1
    apply propext
    constructor <;> intro h <;> omega
theorem getD_mem (l : List UInt8) (k : Nat) (h : k < l.length) : l.getD k 0 ∈ l := by
 simp only [List.getD, List.getElem?_eq_getElem h, Option.getD_some]
 exact List.getElem_mem h
theorem enc_ascii (b : UInt8) (h : b.toNat < 128) : Utf8.encode (b.toNat : Int) = ⟨#[b]⟩ := by
 have hv : Utf8.valid (b.toNat : Int) = true := by simp [Utf8.valid]; omega
 unfold Utf8.encode
 simp only [hv, if_true, Int.toNat_natCast, h]
 simp
theorem below_bytesWorld (w : World) (e : TypeId) (s : ByteArray) : Below w.heap.size w (Lib.bytesWorld w e s) := ⟨rfl, rfl, rfl, by rw [Lib.bytesWorld_size]; omega, fun k hk => Lib.bytesWorld_at_old w e s k hk⟩
set_option maxHeartbeats 4000000 in
set_option maxRecDepth 100000 in
theorem probe_named.calls (a0 : ByteArray) (r : Int) (w : World) (hG : GW w) (h : probe_named.f a0 = some r) : Calls Tryz.prog 54 #[.string a0] w fun e w' => e = .returned (.int .i64 r) ∧ Below w.heap.size w w' := by
 unfold probe_named.f at h
 split at h
 case isFalse => cases h
 case isTrue hs =>
 have hr := Option.some.inj h
 clear h hG
 have e81 : ∀ W, Calls Tryz.prog 81 #[.string a0, .string ⟨#[97, 98, 99, 100, 101, 102, 103, 104, 105, 106, 107, 108, 109, 110, 111, 112, 113, 114, 115, 116, 117, 118, 119, 120, 121, 122, 48, 49, 50, 51, 52, 53, 54, 55, 56, 57]⟩] W fun e w' => e = .returned (.string ⟨(Lib.trimS a0.data.toList alnum).toArray⟩) ∧ Below W.heap.size W w' := fun W => Any.strings_Trim_laid Tryz.lays160 (by kernel_rfl) a0 ⟨⟨alnum⟩⟩ W (by omega) (by decide) (ascii_of_all (by decide))
 have e82 : ∀ (c : UInt8) W, Calls Tryz.prog 82 #[.string ⟨#[97, 98, 99, 100, 101, 102, 103, 104, 105, 106, 107, 108, 109, 110, 111, 112, 113, 114, 115, 116, 117, 118, 119, 120, 121, 122, 48, 49, 50, 51, 52, 53, 54, 55, 56, 57]⟩, .string ⟨#[c]⟩] W fun e w' => e = .returned (.bool (alnum.contains c)) ∧ w' = W := fun c W => by rw [← idx_contains c alnum]; exact Tryz.strings_Contains_one ⟨⟨alnum⟩⟩ c W
 have d82 : ∀ (c : UInt8) W, Calls Tryz.prog 82 #[.string ⟨#[48, 49, 50, 51, 52, 53, 54, 55, 56, 57]⟩, .string ⟨#[c]⟩] W fun e w' => e = .returned (.bool (digs.contains c)) ∧ w' = W := fun c W => by rw [← idx_contains c digs]; exact Tryz.strings_Contains_one ⟨⟨digs⟩⟩ c W
 have hz : (⟨#[]⟩ : ByteArray).toList = [] := by rw [Lib.toList_data]
 cases hl : a0.data.toList with
 | nil =>
  have ha : a0.toList = [] := by rw [Lib.toList_data, hl]
  rw [hl] at hr
  subst hr
  have ha' : a0.toList.isEmpty = true := by rw [ha]; rfl
  clear e81 e82 d82
  go_enter Tryz.func54, Tryz.ntmps54
  go_wp2
  go_ret
  exact ⟨rfl, Below.refl _ _⟩
 | cons c l =>
  have ha : a0.toList.isEmpty = false := by rw [Lib.toList_data, hl]; rfl
  have ha' : ¬ a0.toList = [] := by rw [Lib.toList_data, hl]; simp
  have hsz : 1 ≤ a0.size := by rw [Lib.size_eq, hl]; simp
  have hx : a0.extract 0 1 = ⟨#[c]⟩ := by
   rw [← Lib.mk_data (a0.extract 0 1)]
   rw [ByteArray.data_extract, Array.toList_extract, hl]
   simp
  rw [hl] at hr e81
  by_cases hall : (c :: l).all (alnum.contains ·) = true
  ·rw [(trim_nil _).2 hall] at e81
   by_cases hd : digs.contains c = true
   ·simp only [nameErr, hall, hd, if_true] at hr
    subst hr
    have hd82 := mk0 (d82 c)
    rw [hd] at hd82
    have he81 := mk0 e81
    clear e81 e82 d82
    go_enter Tryz.func54, Tryz.ntmps54
    go_wp2_with (first | (go_at_call 81; refine (he81.out _).mono ?_; rintro e w1 ⟨rfl, hb1⟩))
    refine (hd82.out _).mono ?_
    rintro e w2 ⟨rfl, rfl⟩
    go_wp2
    go_ret
    exact ⟨rfl, hb1⟩
   ·have hd' : digs.contains c = false := by simpa using hd
    simp only [nameErr, hall, hd', if_true, Bool.false_eq_true, if_false] at hr
    have hd82 := mk0 (d82 c)
    rw [hd'] at hd82
    have he81 := mk0 e81
    have he82 := mk0 e82
    have hr := mk0 hr
    have hl := mk0 hl
    have hall := mk0 hall
    clear e81 e82 d82 hd hd'
    go_enter Tryz.func54, Tryz.ntmps54
    go_wp2_with (first | (go_at_call 81; refine (he81.out _).mono ?_; rintro e w1 ⟨rfl, hb1⟩))
    refine (hd82.out _).mono ?_
    rintro e w2 ⟨rfl, rfl⟩
    have hcv := Lib.run_convert_string_bytes w2 9 144 5 a0 Tryz.underlying9 Tryz.underlying144 Tryz.underlying5
    obtain ⟨w3, hw3⟩ : ∃ w3, Lib.bytesWorld w2 5 a0 = w3 := ⟨_, rfl⟩
    obtain ⟨cp, hcp⟩ : ∃ cp, grownCap w2 a0.size 0 5 = cp := ⟨_, rfl⟩
    rw [hw3, hcp] at hcv
    have hcell := mk0 (fun j hj => Lib.bytesWorld_cell w2 5 a0 j hj)
    have hb3 : Below w2.heap.size w2 w3 := by rw [← hw3]; exact below_bytesWorld w2 5 a0
    rw [hw3] at hcell
    obtain ⟨g3, hg3⟩ : ∃ g, w2.heap.size = g := ⟨_, rfl⟩
    rw [hg3] at hcell hcv
    have HB := mk0 (hb1.trans (hb3.mono hb1.size))
    clear hb1 hb3 hw3 hcp hg3
    go_wp2
    go_loopw [20] (fun v wr => wr = w3 ∧ ∃ k : Nat, k ≤ a0.size ∧ v = .int .i64 k) (fun v _ => a0.size - (intOf v).toNat)
    case atStart => exact ⟨rfl, 0, Nat.zero_le _, rfl⟩
    case round =>
     obtain ⟨rfl, k, hk, rfl⟩ := hrel
     by_cases hlt : k < a0.size
     ·have hck := hcell.out k hlt
      obtain ⟨b, hb⟩ : ∃ b, a0.data.toList.getD k 0 = b := ⟨_, rfl⟩
      have hmem : b ∈ c :: l := by
       rw [← hl.out, ← hb]
       have hk' : k < a0.data.toList.length := by rw [← Lib.size_eq]; exact hlt
       exact getD_mem _ k hk'
      have hin : alnum.contains b = true := List.all_eq_true.1 hall.out b hmem
      have h128 : b.toNat < 128 := by
       have : b ∈ alnum := by simpa using hin
       exact of_decide_eq_true (List.all_eq_true.1 (show alnum.all (fun b => decide (b.toNat < 128)) = true by decide) b this)
      rw [hb] at hck
      have h82 := he82.out b wr
      rw [hin] at h82
      have henc : Utf8.encode (b.toNat : Int) = ⟨#[b]⟩ := enc_ascii b h128
      clear hmem hb
      go_wp2_with (go_at_call 82; refine h82.mono ?_; rintro e w' ⟨rfl, rfl⟩)
      exact ⟨⟨trivial, k + 1, by omega, by go_num⟩, by simp [intOf]; omega⟩
     ·have hkk : k = a0.size := by omega
      subst hkk
      have hlen : (c :: l).length = a0.size := by rw [← hl.out, ← Lib.size_eq]
      have hr1 := hr.out
      rw [hlen] at hr1
      by_cases h24 : 24 < a0.size
      ·rw [if_pos h24] at hr1
       subst hr1
       go_wp2
       go_ret
       exact ⟨rfl, HB.out⟩
      ·rw [if_neg h24] at hr1
       subst hr1
       go_wp2
       go_ret
       exact ⟨rfl, HB.out⟩
  ·have hall' : (c :: l).all (alnum.contains ·) = false := by simpa using hall
   simp only [nameErr, hall', Bool.false_eq_true, if_false] at hr
   subst hr
   obtain ⟨t, ht⟩ : ∃ t : ByteArray, (⟨(Lib.trimS (c :: l) alnum).toArray⟩ : ByteArray) = t := ⟨_, rfl⟩
   have htn : t.toList.isEmpty = false := by
    have : Lib.trimS (c :: l) alnum ≠ [] := fun e => hall ((trim_nil _).1 e)
    rw [← ht, Lib.toList_data]
    cases hh : Lib.trimS (c :: l) alnum with
    | nil => exact absurd hh this
    | cons _ _ => rfl
   have htn' : ¬ t.toList = [] := by intro e; rw [e] at htn; cases htn
   rw [ht] at e81
   have he81 := mk0 e81
   clear e81 e82 d82 ht hall hall'
   go_enter Tryz.func54, Tryz.ntmps54
   go_wp2_with (first | (go_at_call 81; refine (he81.out _).mono ?_; rintro e w1 ⟨rfl, hb1⟩))
   go_ret
   exact ⟨rfl, hb1⟩
end Go.Proofs.YtolbjmaabghghaaGreatDoor.PA
