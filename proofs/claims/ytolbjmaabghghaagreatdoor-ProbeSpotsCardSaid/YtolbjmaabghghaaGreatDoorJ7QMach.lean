/- A part of the proof. -/
import Derived.Test.YtolbjmaabghghaaGreatDoorJ7EBs
import Derived.Test.YtolbjmaabghghaaGreatDoorJ7ESpots
import Derived.Test.YtolbjmaabghghaaGreatDoorJ7QRead3
import Derived.Test.YtolbjmaabghghaaGreatDoorJ7QMeets
import Derived.Test.YtolbjmaabghghaaGreatDoorJ7ERun
namespace Go.Proofs.YtolbjmaabghghaaGreatDoor.PA
open Go.RowKit Go.PW Go.PL Go.PM
open Lib (compareBytes)
theorem u8_tri (a b : UInt8) : a < b ∨ a = b ∨ b < a := by
 rcases Nat.lt_trichotomy a.toNat b.toNat with h | h | h
 ·exact .inl (UInt8.lt_iff_toNat_lt.2 h)
 ·exact .inr (.inl (UInt8.toNat_inj.1 h))
 ·exact .inr (.inr (UInt8.lt_iff_toNat_lt.2 h))
theorem u8_nlt {a b : UInt8} (h : a < b) : ¬ b < a := fun g => by
 have h1 := UInt8.lt_iff_toNat_lt.1 h
 have h2 := UInt8.lt_iff_toNat_lt.1 g
 omega
theorem u8_irr (a : UInt8) : ¬ a < a := fun h => u8_nlt h h
theorem u8_trans {a b c : UInt8} (h : a < b) (g : b < c) : a < c := by
 have h1 := UInt8.lt_iff_toNat_lt.1 h
 have h2 := UInt8.lt_iff_toNat_lt.1 g
 exact UInt8.lt_iff_toNat_lt.2 (by omega)
theorem cmp_cases : ∀ a b : List UInt8, (compareBytes a b = 0 ∧ a = b) ∨ (compareBytes a b = -1 ∧ compareBytes b a = 1) ∨ (compareBytes a b = 1 ∧ compareBytes b a = -1)
 | [], [] => .inl ⟨rfl, rfl⟩
 | [], _ :: _ => .inr (.inl ⟨rfl, rfl⟩)
 | _ :: _, [] => .inr (.inr ⟨rfl, rfl⟩)
 | a :: xs, b :: ys => by
  unfold compareBytes
  rcases u8_tri a b with h | h | h
  ·rw [if_pos h, if_neg (u8_nlt h), if_pos h]; exact .inr (.inl ⟨rfl, rfl⟩)
  ·subst h
   rw [if_neg (u8_irr a), if_neg (u8_irr a), if_neg (u8_irr a), if_neg (u8_irr a)]
   rcases cmp_cases xs ys with ⟨h1, h2⟩ | h | h
   ·exact .inl ⟨h1, by rw [h2]⟩
   ·exact .inr (.inl h)
   ·exact .inr (.inr h)
  ·rw [if_neg (u8_nlt h), if_pos h, if_pos h]; exact .inr (.inr ⟨rfl, rfl⟩)
theorem cmp_trans : ∀ a b c : List UInt8, compareBytes a b = -1 → compareBytes b c = -1 → compareBytes a c = -1
 | [], b, [], h, g => by cases b <;> simp [compareBytes] at h g
 | [], _, _ :: _, _, _ => rfl
 | _ :: _, [], _, h, _ => by simp [compareBytes] at h
 | _ :: _, _ :: _, [], _, g => by simp [compareBytes] at g
 | a :: xs, b :: ys, c :: zs, h, g => by
  unfold compareBytes at h g ⊢
  rcases u8_tri a b with h1 | h1 | h1
  ·rcases u8_tri b c with h2 | h2 | h2
   ·rw [if_pos (u8_trans h1 h2)]
   ·subst h2; rw [if_pos h1]
   ·rw [if_neg (u8_nlt h2), if_pos h2] at g; simp at g
  ·subst h1
   rw [if_neg (u8_irr a), if_neg (u8_irr a)] at h
   rcases u8_tri a c with h2 | h2 | h2
   ·rw [if_pos h2]
   ·subst h2
    rw [if_neg (u8_irr a), if_neg (u8_irr a)] at g ⊢
    exact cmp_trans xs ys zs h g
   ·rw [if_neg (u8_nlt h2), if_pos h2] at g; simp at g
  ·rw [if_neg (u8_nlt h1), if_pos h1] at h; simp at h
theorem less_cmp : ∀ a b : List UInt8, Op.bytesLess a b = decide (compareBytes a b = -1)
 | [], [] => rfl
 | [], _ :: _ => rfl
 | _ :: _, [] => rfl
 | a :: xs, b :: ys => by
  unfold Op.bytesLess compareBytes
  rcases u8_tri a b with h | h | h
  ·simp [h]
  ·subst h
   simp [u8_irr, less_cmp xs ys]
  ·have hne : (a == b) = false := by
    cases e : a == b with
    | false => rfl
    | true => have := beq_iff_eq.1 e; subst this; exact absurd h (u8_irr a)
   simp [h, u8_nlt h, hne]
def ltB (a b : ByteArray) : Prop := cmpB a b = -1
theorem ltB_iff (a b : ByteArray) : cmpB a b < 0 ↔ ltB a b := by
 unfold ltB cmpB
 rcases cmp_cases a.data.toList b.data.toList with ⟨h, _⟩ | ⟨h, _⟩ | ⟨h, _⟩ <;> rw [h] <;> decide
theorem ltB_trans {a b c : ByteArray} (h : ltB a b) (g : ltB b c) : ltB a c := cmp_trans _ _ _ h g
theorem ltB_of_not {a b : ByteArray} (h : ¬ ltB a b) (g : cmpB a b ≠ 0) : ltB b a := by
 unfold ltB cmpB at *
 rcases cmp_cases a.data.toList b.data.toList with ⟨e, _⟩ | ⟨e, _⟩ | ⟨_, e⟩
 ·exact absurd e g
 ·exact absurd e h
 ·exact e
theorem ltB_irr (a : ByteArray) : ¬ ltB a a := fun h => by
 unfold ltB cmpB at h
 rcases cmp_cases a.data.toList a.data.toList with ⟨e, _⟩ | ⟨e, f⟩ | ⟨e, f⟩
 ·rw [e] at h; cases h
 ·rw [e] at f; cases f
 ·rw [e] at f; cases f
theorem leB_false {a b : ByteArray} (h : ltB b a) : leB a b = false := by
 have hn : ¬ ltB a b := fun g => ltB_irr _ (ltB_trans h g)
 unfold leB
 rw [less_cmp]
 have e1 : decide (compareBytes a.toList b.toList = -1) = false := by
  apply decide_eq_false
  rw [ba_toList, ba_toList]
  exact hn
 have e2 : (a.toList == b.toList) = false := by
  cases e : a.toList == b.toList with
  | false => rfl
  | true =>
   have := beq_iff_eq.1 e
   rw [ba_toList, ba_toList] at this
   have hab : a = b := by rw [← ba_of a, ← ba_of b, this]
   subst hab
   exact absurd h (ltB_irr _)
 rw [e1, e2]
 rfl
def asc (sm : List S76) : Prop := sm.Pairwise fun a b => ltB a.f0 b.f0
theorem rd76 (sm : List S76) (k : Nat) (h : k < sm.length) : rd_T76 sm (k : Int) = sm[k] := by
 unfold rd_T76
 rw [Int.toNat_natCast, List.getD_eq_getElem?_getD, List.getElem?_eq_getElem h]
 rfl
theorem asc_at {sm : List S76} (h : asc sm) {a b : Nat} (hab : a < b) (hb : b < sm.length) : ltB (sm[a]'(by omega)).f0 (sm[b]'hb).f0 := (List.pairwise_iff_getElem.1 h) a b (by omega) hb hab
theorem bsL_inv (sm : List S76) (s : ByteArray) (h : asc sm) : ∀ (k i j : Nat), i ≤ j → j ≤ sm.length → j - i < k → (∀ a (ha : a < sm.length), a < i → ltB (sm[a]'ha).f0 s) → (∀ a (ha : a < sm.length), j ≤ a → ¬ ltB (sm[a]'ha).f0 s) →
  (bsL sm s k i j ≤ sm.length) ∧ (∀ a (ha : a < sm.length), a < bsL sm s k i j → ltB (sm[a]'ha).f0 s) ∧ (∀ a (ha : a < sm.length), bsL sm s k i j ≤ a → ¬ ltB (sm[a]'ha).f0 s) := by
 intro k
 induction k with
 | zero => intro i j h1 h2 h3; omega
 | succ k ih =>
  intro i j hij hj hk hlo hhi
  unfold bsL
  by_cases hlt : i < j
  ·rw [if_pos hlt]
   obtain ⟨m, hm⟩ : ∃ m, m = (i + j) / 2 := ⟨_, rfl⟩
   have hmr : i ≤ m ∧ m < j := by omega
   have hml : m < sm.length := by omega
   have e : (((i : Int) + (j : Int)) / 2) = ((m : Nat) : Int) := by omega
   rw [e, ← hm, rd76 sm m hml]
   by_cases hc : cmpB (sm[m]'hml).f0 s < 0
   ·rw [if_pos hc]
    refine ih (m + 1) j (by omega) hj (by omega) (fun a ha hal => ?_) hhi
    rcases Nat.lt_or_ge a m with h1 | h1
    ·exact ltB_trans (asc_at h h1 hml) ((ltB_iff _ _).1 hc)
    ·obtain rfl : a = m := by omega
     exact (ltB_iff _ _).1 hc
   ·rw [if_neg hc]
    refine ih i m (by omega) (by omega) (by omega) hlo (fun a ha hal hl => ?_)
    rcases Nat.lt_or_ge m a with h1 | h1
    ·exact hc ((ltB_iff _ _).2 (ltB_trans (asc_at h h1 ha) hl))
    ·obtain rfl : a = m := by omega
     exact hc ((ltB_iff _ _).2 hl)
  ·rw [if_neg hlt]
   obtain rfl : i = j := by omega
   exact ⟨hj, hlo, hhi⟩
theorem bsI_inv (sm : List S76) (s : ByteArray) (h : asc sm) : (bsI sm s ≤ sm.length) ∧ (∀ a (ha : a < sm.length), a < bsI sm s → ltB (sm[a]'ha).f0 s) ∧ (∀ a (ha : a < sm.length), bsI sm s ≤ a → ¬ ltB (sm[a]'ha).f0 s) :=
 bsL_inv sm s h _ _ _ (Nat.zero_le _) (Nat.le_refl _) (by omega) (fun a _ ha => by omega) (fun a ha hl => by omega)
theorem asc_ins (sm : List S76) (x : S76) (h : asc sm) (hok : bsOk sm x.f0 = false) : asc (sm.take (bsI sm x.f0) ++ x :: sm.drop (bsI sm x.f0)) ∧ (∀ a (ha : a < sm.length), bsI sm x.f0 ≤ a → ltB x.f0 (sm[a]'ha).f0) := by
 obtain ⟨hle, hlo, hhi⟩ := bsI_inv sm x.f0 h
 have hgt : ∀ a (ha : a < sm.length), bsI sm x.f0 ≤ a → ltB x.f0 (sm[a]'ha).f0 := by
  intro a ha hal
  have hb : bsI sm x.f0 < sm.length := by omega
  have h0 : ltB x.f0 (sm[bsI sm x.f0]'hb).f0 := by
   refine ltB_of_not (hhi _ hb (Nat.le_refl _)) (fun e => ?_)
   unfold bsOk at hok
   rw [decide_eq_true hb, Bool.true_and, rd76 sm _ hb] at hok
   exact of_decide_eq_false hok e
  rcases Nat.eq_or_lt_of_le hal with e | e
  ·subst e; exact h0
  ·exact ltB_trans h0 (asc_at h e ha)
 refine ⟨?_, hgt⟩
 have hsplit : (sm.take (bsI sm x.f0) ++ sm.drop (bsI sm x.f0)).Pairwise fun a b => ltB a.f0 b.f0 := by rw [List.take_append_drop]; exact h
 obtain ⟨p1, p2, p3⟩ := List.pairwise_append.1 hsplit
 refine List.pairwise_append.2 ⟨p1, List.pairwise_cons.2 ⟨fun b hb => ?_, p2⟩, fun a ha b hb => ?_⟩
 ·obtain ⟨i, hi, rfl⟩ := List.mem_iff_getElem.1 hb
  rw [List.getElem_drop]
  exact hgt _ _ (by omega)
 ·have hax : ltB a.f0 x.f0 := by
   obtain ⟨i, hi, rfl⟩ := List.mem_iff_getElem.1 ha
   rw [List.getElem_take]
   rw [List.length_take] at hi
   exact hlo _ _ (by omega)
  rcases List.mem_cons.1 hb with rfl | hb
  ·exact hax
  ·exact p3 a ha b hb
end Go.Proofs.YtolbjmaabghghaaGreatDoor.PA
namespace Go.Proofs.YtolbjmaabghghaaGreatDoor.PA
open Go.RowKit Go.PW Go.PL Go.PM
def oppD (d : Int) : Int := if d % 2 = 0 then d + 1 else d - 1
theorem opp_step (d : Int) (h0 : 0 ≤ d) (h5 : d ≤ 5) (p : S23) : (0 ≤ oppD d ∧ oppD d ≤ 5) ∧ stepD (oppD d) (stepD d p) = p := by
 obtain ⟨a, b, c⟩ := p
 rcases dcase h0 h5 with rfl | rfl | rfl | rfl | rfl | rfl <;> simp [oppD, stepD]
def spotV (F : S23 → Bool) (q : S23) : Prop := F q = true ∧ rightS3 q ∧ ∃ d : Int, (0 ≤ d ∧ d ≤ 5) ∧ rightS3 (stepD d q) ∧ F (stepD d q) = false
def sampV (F : S23 → Bool) (x : S76) : Prop := x.f1 ≠ [] ∧ ∀ q ∈ x.f1, spotV F q
def Inv (F : S23 → Bool) (p : S23) (nt : List S23) (sm : List S76) : Prop := rightS3 p ∧ F p = false ∧ (∀ q ∈ nt, spotV F q) ∧ (∀ x ∈ sm, sampV F x) ∧ asc sm
theorem way_end (F : S23 → Bool) (q : S23) : ∀ (n : Nat) (p : S23), distS p q ≤ n → (wayL n p q).any F = false → F q = false := by
 intro n
 induction n with
 | zero =>
  intro p hd h
  have he := (dist_zero p q).1 (by omega)
  obtain ⟨a, b, c⟩ := p
  obtain ⟨x, y, z⟩ := q
  simp only at he
  obtain ⟨rfl, rfl, rfl⟩ := he
  simpa [wayL] using h
 | succ n ih =>
  intro p hd h
  unfold wayL at h
  rw [List.any_cons, Bool.or_eq_false_iff] at h
  by_cases he : p.f0 = q.f0 ∧ p.f1 = q.f1 ∧ p.f2 = q.f2
  ·obtain ⟨a, b, c⟩ := p
   obtain ⟨x, y, z⟩ := q
   simp only at he
   obtain ⟨rfl, rfl, rfl⟩ := he
   exact h.1
  ·rw [if_neg he] at h
   have h0 : distS p q ≠ 0 := fun h => he ((dist_zero p q).1 h)
   exact ih _ (by have := dist_tw p q h0; omega) h.2
section
variable (a0 a1 a2 a3 a4 a5 : Int) (l : List S84)
abbrev FF : S23 → Bool := fun p => fullV a0 a1 a2 a3 a4 a5 l p.f0 p.f1 p.f2
variable (hc : checkV a0 a1 a2 a3 a4 a5 l = 0)
include hc
theorem openS_eq (p q : S23) (hp : rightS3 p) (hq : rightS3 q) : openS a0 a1 a2 a3 a4 a5 l p q = some (openV a0 a1 a2 a3 a4 a5 l p q) := by
 unfold openS probe_Solid_open.f
 unfold rightS3 at hp hq
 rw [if_pos ⟨by unfold nearS near; dsimp only at *; omega, by unfold nearS near; dsimp only at *; omega⟩]
 have hF : fullS a0 a1 a2 a3 a4 a5 l = fun p => some (fullV a0 a1 a2 a3 a4 a5 l p.f0 p.f1 p.f2) := by
  funext p
  exact fullS_eq _ _ _ _ _ _ _ _ (check0 hc).1 (check0 hc).2
 rw [hF, openL_some (fun p => fullV a0 a1 a2 a3 a4 a5 l p.f0 p.f1 p.f2)]
 rfl
theorem move_inv (p q : S23) (nt : List S23) (sm : List S76) (hI : Inv (FF a0 a1 a2 a3 a4 a5 l) p nt sm) (hq : rightS3 q) : ∃ r p', moveF a0 a1 a2 a3 a4 a5 l q p nt sm = some (r, p', nt, sm) ∧ (r = 0 → Inv (FF a0 a1 a2 a3 a4 a5 l) p' nt sm) := by
 obtain ⟨hp, hf, hn, hs, ha⟩ := hI
 unfold moveF straightS
 obtain ⟨k, hk⟩ : ∃ k : Nat, k = 9 := ⟨_, rfl⟩
 rw [← hk, straight_eq k (by omega)]
 simp only [Option.bind_some, decide_eq_true_eq]
 by_cases hd : diffN p.f0 p.f1 p.f2 q.f0 q.f1 q.f2 ≤ 1
 ·rw [if_pos hd, openS_eq a0 a1 a2 a3 a4 a5 l hc p q hp hq]
  simp only [Option.bind_some]
  cases ho : openV a0 a1 a2 a3 a4 a5 l p q
  ·exact ⟨14, p, by simp, fun h => by cases h⟩
  ·refine ⟨0, q, by simp, fun _ => ⟨hq, ?_, hn, hs, ha⟩⟩
   unfold openV at ho
   exact way_end (FF a0 a1 a2 a3 a4 a5 l) q _ p (Nat.le_refl _) (by simpa using ho)
 ·rw [if_neg hd]
  exact ⟨3, p, rfl, fun h => by cases h⟩
theorem touch_inv (d : Int) (h0 : 0 ≤ d) (h5 : d ≤ 5) (p : S23) (nt : List S23) (sm : List S76) (hI : Inv (FF a0 a1 a2 a3 a4 a5 l) p nt sm) : ∃ r p' nt', touchF a0 a1 a2 a3 a4 a5 l d p nt sm = some (r, p', nt', sm) ∧ (r = 0 → Inv (FF a0 a1 a2 a3 a4 a5 l) p' nt' sm) := by
 obtain ⟨hp, hf, hn, hs, ha⟩ := hI
 obtain ⟨x, y, z⟩ := p
 unfold touchF touchedS
 rw [touched_eq a0 a1 a2 a3 a4 a5 l hc d h0 h5 x y z hp hf]
 simp only [Option.bind_some]
 by_cases hs7 : (scanD (fun x => fullV a0 a1 a2 a3 a4 a5 l x.f0 x.f1 x.f2) d (leftD d ⟨x, y, z⟩).toNat ⟨x, y, z⟩).2.2.2.2.2.2 = true
 ·rw [if_pos hs7]
  by_cases hl : nt.length = 64
  ·rw [if_pos hl]
   exact ⟨5, _, nt, rfl, fun h => by cases h⟩
  ·rw [if_neg hl]
   obtain ⟨j, hj, hres, hF, hfree⟩ := scan_found (FF a0 a1 a2 a3 a4 a5 l) d _ ⟨x, y, z⟩ hf hs7
   have hlm := left_nonneg d h0 h5 ⟨x, y, z⟩ hp
   have hq : rightS3 (itD d j ⟨x, y, z⟩) := it_right d h0 h5 j _ hp (by omega)
   have hpp := inside_right hc hF
   refine ⟨0, _, _, rfl, fun _ => ?_⟩
   rw [show scanD (fun x => fullV a0 a1 a2 a3 a4 a5 l x.f0 x.f1 x.f2) d (leftD d ⟨x, y, z⟩).toNat ⟨x, y, z⟩ = _ from hres]
   refine ⟨hq, hfree j (Nat.le_refl _), fun q hqm => ?_, hs, ha⟩
   rcases List.mem_append.1 hqm with h | h
   ·exact hn q h
   ·obtain rfl := List.mem_singleton.1 h
    obtain ⟨ho, hb⟩ := opp_step d h0 h5 (itD d j ⟨x, y, z⟩)
    refine ⟨hF, hpp, oppD d, ho, ?_, ?_⟩
    ·show rightS3 (stepD (oppD d) (stepD d (itD d j ⟨x, y, z⟩)))
     rw [hb]; exact hq
    ·show FF a0 a1 a2 a3 a4 a5 l (stepD (oppD d) (stepD d (itD d j ⟨x, y, z⟩))) = false
     rw [hb]; exact hfree j (Nat.le_refl _)
 ·rw [if_neg hs7]
  exact ⟨6, _, nt, rfl, fun h => by cases h⟩
omit hc in
theorem take_inv (F : S23 → Bool) (s : ByteArray) (p : S23) (nt : List S23) (sm : List S76) (hI : Inv F p nt sm) (hl : sm.length ≤ 8192) : ∃ r nt' sm', takeF s p nt sm = some (r, p, nt', sm') ∧ (r = 0 → Inv F p nt' sm' ∧ sm'.length ≤ sm.length + 1) := by
 obtain ⟨hp, hf, hn, hs, ha⟩ := hI
 unfold takeF
 by_cases he : nt = []
 ·rw [if_pos he]
  exact ⟨13, nt, sm, rfl, fun h => by cases h⟩
 ·rw [if_neg he, if_pos hl]
  cases hok : bsOk sm s
  ·refine ⟨0, [], _, by simp, fun _ => ⟨⟨hp, hf, by simp, fun x hx => ?_, (asc_ins sm ⟨s, nt⟩ ha hok).1⟩, ?_⟩⟩
   ·rcases List.mem_append.1 hx with h | h
    ·exact hs x (List.mem_of_mem_take h)
    ·rcases List.mem_cons.1 h with rfl | h
     ·exact ⟨he, hn⟩
     ·exact hs x (List.mem_of_mem_drop h)
   ·have := (bsI_inv sm s ha).1
    simp only [List.length_append, List.length_take, List.length_cons, List.length_drop]
    omega
  ·exact ⟨7, nt, sm, by simp, fun h => by cases h⟩
theorem do_inv (x : S47) (p : S23) (nt : List S23) (sm : List S76) (hx : rightV x.f0 x.f1.f0 x.f1.f1 x.f1.f2 x.f2 x.f3.data.toList = 0) (hI : Inv (FF a0 a1 a2 a3 a4 a5 l) p nt sm) (hl : sm.length ≤ 8192) :
  ∃ r p' nt' sm', doF a0 a1 a2 a3 a4 a5 l x p nt sm = some (r, p', nt', sm') ∧ (r = 0 → Inv (FF a0 a1 a2 a3 a4 a5 l) p' nt' sm' ∧ sm'.length ≤ sm.length + 1) := by
 unfold doF
 rcases right0 hx with ⟨h0, hr, _⟩ | ⟨h0, hr, _⟩ | ⟨h0, _⟩
 ·rw [if_pos h0]
  obtain ⟨r, p', e, h⟩ := move_inv a0 a1 a2 a3 a4 a5 l hc p x.f1 nt sm hI hr
  exact ⟨r, p', nt, sm, e, fun h1 => ⟨h h1, by omega⟩⟩
 ·rw [if_neg (by omega), if_pos h0]
  obtain ⟨r, p', nt', e, h⟩ := touch_inv a0 a1 a2 a3 a4 a5 l hc x.f2 hr.1 hr.2 p nt sm hI
  exact ⟨r, p', nt', sm, e, fun h1 => ⟨h h1, by omega⟩⟩
 ·rw [if_neg (by omega), if_neg (by omega)]
  obtain ⟨r, nt', sm', e, h⟩ := take_inv (FF a0 a1 a2 a3 a4 a5 l) x.f3 p nt sm hI hl
  exact ⟨r, p, nt', sm', e, h⟩
theorem run_inv : ∀ (xs : List S47) (i : Int) (p : S23) (nt : List S23) (sm : List S76), Inv (FF a0 a1 a2 a3 a4 a5 l) p nt sm → sm.length + xs.length ≤ 8192 → (∀ x ∈ xs, x.f3.size ≤ 4096) →
  ∃ r1 sm' r3 e, runL a0 a1 a2 a3 a4 a5 l xs i p nt sm = some (r1, sm', r3, e) ∧ (e = 0 → (∀ x ∈ sm', sampV (FF a0 a1 a2 a3 a4 a5 l) x) ∧ asc sm' ∧ ∀ x ∈ xs, rightV x.f0 x.f1.f0 x.f1.f1 x.f1.f2 x.f2 x.f3.data.toList = 0)
 | [], i, p, nt, sm, hI, _, _ => ⟨_, sm, 0, 0, rfl, fun _ => ⟨hI.2.2.2.1, hI.2.2.2.2, by simp⟩⟩
 | x :: xs, i, p, nt, sm, hI, hl, hn => by
  obtain ⟨k, hk⟩ : ∃ k : Nat, k = 60 := ⟨_, rfl⟩
  have hr : rightS x = some (rightV x.f0 x.f1.f0 x.f1.f1 x.f1.f2 x.f2 x.f3.data.toList) := by
   unfold rightS
   rw [← hk]
   exact pRight_eq _ _ _ _ _ _ (hn x (by simp)) k (by omega)
  unfold runL
  rw [hr]
  simp only [Option.bind_some]
  by_cases h0 : rightV x.f0 x.f1.f0 x.f1.f1 x.f1.f2 x.f2 x.f3.data.toList = 0
  ·rw [if_pos h0]
   simp only [List.length_cons] at hl
   obtain ⟨r, p', nt', sm', e, h⟩ := do_inv a0 a1 a2 a3 a4 a5 l hc x p nt sm h0 hI (by omega)
   rw [e]
   simp only [Option.bind_some]
   by_cases hr0 : r = 0
   ·rw [if_pos hr0]
    obtain ⟨hI', hl'⟩ := h hr0
    obtain ⟨r1, sm2, r3, er, e2, h2⟩ := run_inv xs (i + 1) p' nt' sm' hI' (by omega) (fun y hy => hn y (by simp [hy]))
    exact ⟨r1, sm2, r3, er, e2, fun h3 => ⟨(h2 h3).1, (h2 h3).2.1, fun y hy => by
     rcases List.mem_cons.1 hy with rfl | hy
     ·exact h0
     ·exact (h2 h3).2.2 y hy⟩⟩
   ·rw [if_neg hr0]
    exact ⟨_, _, _, _, rfl, fun h => absurd h hr0⟩
  ·rw [if_neg h0]
   exact ⟨_, _, _, _, rfl, fun h => absurd h h0⟩
end
theorem run_all (a0 a1 a2 a3 a4 a5 : Int) (l : List S84) (x y z : Int) (xs : List S47) (hn : xs.length ≤ 4096 → ∀ x ∈ xs, x.f3.size ≤ 4096) :
  ∃ r1 sm r3 e, probe_Run.f a0 a1 a2 a3 a4 a5 l x y z xs = some (r1, sm, r3, e) ∧ (e = 0 → checkV a0 a1 a2 a3 a4 a5 l = 0 ∧ (∀ x ∈ sm, sampV (FF a0 a1 a2 a3 a4 a5 l) x) ∧ asc sm ∧ ∀ x ∈ xs, rightV x.f0 x.f1.f0 x.f1.f1 x.f1.f2 x.f2 x.f3.data.toList = 0 ∧ x.f3.size ≤ 4096) := by
 unfold probe_Run.f givenS
 obtain ⟨k, hk⟩ : ∃ k : Nat, k = 60 := ⟨_, rfl⟩
 rw [← hk, given1_eq _ _ _ _ _ _ _ _ _ _ k (by omega)]
 simp only [Option.bind_some]
 by_cases hg : givenV a0 a1 a2 a3 a4 a5 l x y z = 0
 ·rw [if_pos hg]
  have hc := given0 hg
  rw [fullS_eq _ _ _ _ _ _ _ _ (check0 hc).1 (check0 hc).2]
  simp only [Option.bind_some]
  cases hf : fullV a0 a1 a2 a3 a4 a5 l x y z
  ·simp only [Bool.false_eq_true, if_false]
   by_cases hl : xs.length > 4096
   ·rw [if_pos hl]
    exact ⟨_, _, _, _, rfl, fun h => by cases h⟩
   ·rw [if_neg hl]
    obtain ⟨r1, sm, r3, e, he, h⟩ := run_inv a0 a1 a2 a3 a4 a5 l hc xs 0 ⟨x, y, z⟩ [] [] ⟨given_right hg, hf, by simp, by simp, List.Pairwise.nil⟩ (by simp; omega) (hn (by omega))
    exact ⟨r1, sm, r3, e, he, fun h0 => ⟨hc, (h h0).1, (h h0).2.1, fun y hy => ⟨(h h0).2.2 y hy, hn (by omega) y hy⟩⟩⟩
  ·simp only [if_true]
   exact ⟨_, _, _, _, rfl, fun h => by cases h⟩
 ·rw [if_neg hg]
  exact ⟨_, _, _, _, rfl, fun h => absurd h hg⟩
end Go.Proofs.YtolbjmaabghghaaGreatDoor.PA
