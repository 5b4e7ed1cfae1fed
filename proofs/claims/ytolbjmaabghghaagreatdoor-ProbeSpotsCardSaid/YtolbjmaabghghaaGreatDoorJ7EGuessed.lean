/- A part of the proof. -/
import Derived.Test.YtolbjmaabghghaaGreatDoorJ7PAx9
import Derived.Test.YtolbjmaabghghaaGreatDoorJ7EWay1
import Derived.Test.YtolbjmaabghghaaGreatDoorJ7Sh
import Derived.ChangeBears2
namespace Go.Proofs.YtolbjmaabghghaaGreatDoor.PA
open Go.RowKit Go.PW Go.PL Go.PM
set_option linter.unusedVariables false
set_option linter.unusedSimpArgs false
def atoiV (s : ByteArray) : Int := match Lib.atoiAll s.data.toList with
 | .ok v => v
 | .range => Lib.atoiSat s.data.toList
 | _ => 0
theorem below_bytesW (w : World) (e : TypeId) (s : ByteArray) : Below w.heap.size w (Lib.bytesWorld w e s) := ⟨rfl, rfl, rfl, by rw [Lib.bytesWorld_size]; omega, fun k hk => Lib.bytesWorld_at_old w e s k hk⟩
theorem atoi_calls (s : ByteArray) (hs : s.size ≤ 4096) (w : World) (hG : GW w) : Calls Tryz.prog 76 #[.string s] w fun e w' => (∃ er, e = .returned (.tuple #[.int .i64 (atoiV s), er])) ∧ Below w.heap.size w w' := by
 unfold atoiV
 rcases h : Lib.atoiAll s.data.toList with v | _ | _
 ·refine (Tryz.strconv_Atoi_ok s (by omega) v h w).mono ?_
  rintro e w' ⟨rfl, rfl | ⟨t, rfl⟩⟩
  ·exact ⟨⟨_, rfl⟩, Below.refl _ _⟩
  ·exact ⟨⟨_, rfl⟩, below_bytesW _ _ _⟩
 ·obtain ⟨tp, p, hv⟩ := hG.errSyntax
  refine (Tryz.strconv_Atoi_syntax_var s (by omega) (by rw [h]; intro v hh; cases hh) (by rw [h]; intro hh; cases hh) tp p w hv).mono ?_
  rintro e w' ⟨n, rfl, _, _, hb⟩
  exact ⟨⟨_, rfl⟩, hb⟩
 ·obtain ⟨tp, p, hv⟩ := hG.errRange
  refine (Tryz.strconv_Atoi_range_var s (by omega) h tp p w hv).mono ?_
  rintro e w' ⟨n, rfl, _, _, hb⟩
  exact ⟨⟨_, rfl⟩, hb⟩
def dirWords : List ByteArray := [⟨#[43, 88]⟩, ⟨#[45, 88]⟩, ⟨#[43, 89]⟩, ⟨#[45, 89]⟩, ⟨#[43, 90]⟩, ⟨#[45, 90]⟩]
def verbOf (s : ByteArray) : ByteArray := ⟨(Lib.cut s.data.toList [32]).1.toArray⟩
def restOf (s : ByteArray) : ByteArray := ⟨(Lib.cut s.data.toList [32]).2.1.toArray⟩
def partsOf (s : ByteArray) : List ByteArray := Lib.splitB ⟨#[32]⟩ 0 (min 3 (s.size + 1) - 1) s
def numOf (l : List ByteArray) (i : Nat) : Int := if i < l.length then atoiV (l.getD i ByteArray.empty) else 0
def guess (s : ByteArray) : Int × Int × Int × Int × Int × ByteArray :=
 if verbOf s = ⟨#[109, 111, 118, 101]⟩ then (0, numOf (partsOf (restOf s)) 0, numOf (partsOf (restOf s)) 1, numOf (partsOf (restOf s)) 2, 0, ⟨#[]⟩)
 else if verbOf s = ⟨#[116, 111, 117, 99, 104]⟩ then (1, 0, 0, 0, Lib.idxOfS dirWords (restOf s), ⟨#[]⟩)
 else if verbOf s = ⟨#[116, 97, 107, 101]⟩ then (2, 0, 0, 0, 0, restOf s)
 else (-1, 0, 0, 0, 0, ⟨#[]⟩)
def probe_guessed.f (a0 : ByteArray) : Option (Int × Int × Int × Int × Int × ByteArray) := if a0.size ≤ 4096 then some (guess a0) else none
theorem cut_size (s : ByteArray) : (restOf s).size ≤ s.size := by
 rw [Lib.size_eq, Lib.size_eq]
 unfold restOf Lib.cut
 split <;> simp
theorem ne_toList {v : ByteArray} {l : List UInt8} (h : ¬ v = ⟨⟨l⟩⟩) : (v.toList == l) = false := by
 rw [beq_eq_false_iff_ne]
 intro e
 rw [Lib.toList_data] at e
 exact h (by rw [← Lib.mk_data v, e])
theorem extract_size (s : ByteArray) (a b : Nat) : (s.extract a b).size ≤ s.size := by rw [ByteArray.size_extract]; omega
theorem splitB_size (sep : ByteArray) (save : Nat) : ∀ (k : Nat) (s p : ByteArray), p ∈ Lib.splitB sep save k s → p.size ≤ s.size
 | 0, s, p, h => by simp [Lib.splitB] at h; subst h; exact Nat.le_refl _
 | k + 1, s, p, h => by
  unfold Lib.splitB at h
  split at h
  ·simp at h; subst h; exact Nat.le_refl _
  ·rcases List.mem_cons.1 h with rfl | h
   ·exact extract_size _ _ _
   ·exact Nat.le_trans (splitB_size sep save k _ p h) (extract_size _ _ _)
theorem cellsOf_get (l : List ByteArray) (n k : Nat) (h : k < l.length) : (Lib.cellsOf l n)[k]? = some (.string (l.getD k ByteArray.empty)) := by
 simp [Lib.cellsOf, List.getElem?_append, h, List.getD]
theorem getDm (l : List ByteArray) (k : Nat) (h : k < l.length) : l.getD k ByteArray.empty ∈ l := by
 simp only [List.getD, List.getElem?_eq_getElem h, Option.getD_some]
 exact List.getElem_mem h
def vOf (l : List ByteArray) (k i : Nat) : Int := if i < k then numOf l i else 0
theorem vOf_full (l : List ByteArray) (i : Nat) : vOf l l.length i = numOf l i := by
 unfold vOf numOf
 split <;> rfl
set_option maxHeartbeats 4000000 in
set_option maxRecDepth 100000 in
theorem probe_guessed.calls (a0 : ByteArray) (r1 r2 r3 r4 r5 : Int) (r6 : ByteArray) (w : World) (hG : GW w) (h : probe_guessed.f a0 = some (r1, r2, r3, r4, r5, r6)) : Calls Tryz.prog 52 #[.string a0] w fun e w' => e = .returned (.agg #[.int .i64 r1, .int .i64 r2, .int .i64 r3, .int .i64 r4, .int .i64 r5, .string r6]) ∧ Below w.heap.size w w' := by
 unfold probe_guessed.f at h
 split at h
 case isFalse => cases h
 case isTrue hs =>
 have hr := Option.some.inj h
 clear h
 obtain ⟨m, hm⟩ := hG.maxLen
 have hm1 := hm
 have hrs := cut_size a0
 have e74 : ∀ W, W.cell? ⟨1, 0, none⟩ = some (.int .i64 m) → Calls Tryz.prog 74 #[.string a0, .string ⟨#[32]⟩] W fun e w' => e = .returned (.tuple #[.string (verbOf a0), .string (restOf a0), .bool (Lib.cut a0.data.toList [32]).2.2]) ∧ Below W.heap.size W w' := fun W hW => (Tryz.strings_Cut a0 ⟨#[32]⟩ m W (by omega) hW).mono (by rintro e w' ⟨rfl, n, rfl⟩; exact ⟨rfl, pw_below_drewN (Below.refl _ _) _⟩)
 unfold guess at hr
 generalize verbOf a0 = verb at hr e74
 generalize restOf a0 = rest at hr e74 hrs
 have hu47 := Tryz.underlying47
 have hu23 := Tryz.underlying23
 have hu101 := Tryz.underlying101
 have hu109 := Tryz.underlying109
 have hu94 := Tryz.underlying94
 have hZ := mk0 (blk_new w (.cells #[.int .i64 0, .int .i64 0, .int .i64 0, .int .i64 0, .int .i64 0, .string ⟨#[]⟩] 47))
 have HG := mk0 hG
 have hw1 : (w.alloc (.cells #[.int .i64 0, .int .i64 0, .int .i64 0, .int .i64 0, .int .i64 0, .string ⟨#[]⟩] 47)).cell? ⟨1, 0, none⟩ = some (.int .i64 m) := (Below.cell (below_alloc (Below.refl w.heap.size w) _) (World.block_lt_of_cell? w _ hm1)).trans hm1
 have h74 := mk0 (e74 _ hw1)
 have hm1 := mk0 hm1
 clear hG hm e74 hw1
 by_cases hv1 : verb = ⟨#[109, 111, 118, 101]⟩
 ·subst hv1
  simp only [if_true, Prod.mk.injEq] at hr
  obtain ⟨rfl, rfl, rfl, rfl, rfl, rfl⟩ := hr
  go_enter Tryz.func52, Tryz.ntmps52
  go_wp2_with (go_at_call 74; refine h74.out.mono ?_; rintro e w1 ⟨rfl, hb1⟩)
  have hs1 : w.heap.size < w1.heap.size := by have := hb1.size; simp at this; omega
  have hZ1 := mk0 (blk_below hZ.out hb1)
  have hB1 := mk0 (below_then (below_alloc (Below.refl w.heap.size w) _) (by simp) hb1)
  clear hb1
  obtain ⟨w2, hw2⟩ : ∃ w2, w1.alloc (.cells #[.int .i64 0, .int .i64 0, .int .i64 0] 101) = w2 := ⟨_, rfl⟩
  have hT := mk0 (blk_new w1 (.cells #[.int .i64 0, .int .i64 0, .int .i64 0] 101))
  have hZ2 := mk0 (blk_alloc hZ1.out (.cells #[.int .i64 0, .int .i64 0, .int .i64 0] 101))
  have hB2 := mk0 (below_alloc hB1.out (.cells #[.int .i64 0, .int .i64 0, .int .i64 0] 101))
  rw [hw2] at hT hZ2 hB2 ⊢
  have hm2 : w2.cell? ⟨1, 0, none⟩ = some (.int .i64 m) := (Below.cell hB2.out (World.block_lt_of_cell? w _ hm1.out)).trans hm1.out
  obtain ⟨gt, hgt⟩ : ∃ g, w1.heap.size = g := ⟨_, rfl⟩
  obtain ⟨gz, hgz⟩ : ∃ g, w.heap.size = g := ⟨_, rfl⟩
  rw [hgt] at hT hs1 ⊢
  rw [hgz] at hs1 hZ2 ⊢
  refine (Tryz.strings_SplitN rest ⟨#[32]⟩ 3 m w2 (by omega) hm2 (by decide) (by omega) (by omega)).mono ?_
  rintro e w3 ⟨rfl, rfl⟩
  obtain ⟨parts, hp⟩ : ∃ p, partsOf rest = p := ⟨_, rfl⟩
  have hp0 : Lib.splitB ⟨#[32]⟩ 0 (min 3 (rest.size + 1) - 1) rest = parts := hp
  have hlen : parts.length ≤ 3 := by rw [← hp0]; have := Lib.splitB_length_le ⟨#[32]⟩ 0 (min 3 (rest.size + 1) - 1) rest; omega
  have hsz : ∀ p ∈ parts, p.size ≤ 4096 := fun p hp' => by rw [← hp0] at hp'; have := splitB_size _ _ _ _ _ hp'; omega
  rw [hp0]
  obtain ⟨cp, hcp⟩ : ∃ c, min 3 (rest.size + 1) = c := ⟨_, rfl⟩
  rw [hcp]
  have hZ3 := mk0 (blk_alloc hZ2.out (.cells (Lib.cellsOf parts cp) 9))
  have hT3 := mk0 (blk_alloc hT.out (.cells (Lib.cellsOf parts cp) 9))
  have hP3 := mk0 (blk_new w2 (.cells (Lib.cellsOf parts cp) 9))
  have hB3 := mk0 (below_alloc hB2.out (.cells (Lib.cellsOf parts cp) 9))
  have hlt2 : gt < w2.heap.size := blk_lt hT.out
  obtain ⟨w3, hw3⟩ : ∃ w3, w2.alloc (.cells (Lib.cellsOf parts cp) 9) = w3 := ⟨_, rfl⟩
  obtain ⟨gp, hgp⟩ : ∃ g, w2.heap.size = g := ⟨_, rfl⟩
  rw [hw3] at hZ3 hT3 hP3 hB3 ⊢
  rw [hgp] at hP3 hlt2 ⊢
  have hp := mk0 hp
  clear hp0 hcp hw2 hw3 hgt hgp hZ1 hZ2 hT hB1 hB2 hm2
  have hsz := mk0 hsz
  have hgz := mk0 hgz
  go_wp2
  go_loopw [22] (fun v wr => ∃ k : Nat, k ≤ parts.length ∧ v = .int .i64 k ∧ Aside0 (wr.heap[gz]? = some (.cells #[.int .i64 0, .int .i64 0, .int .i64 0, .int .i64 0, .int .i64 0, .string ⟨#[]⟩] 47 (0, 0))) ∧ Aside0 (wr.heap[gt]? = some (.cells #[.int .i64 (vOf parts k 0), .int .i64 (vOf parts k 1), .int .i64 (vOf parts k 2)] 101 (0, 0))) ∧ Aside0 (wr.heap[gp]? = some (.cells (Lib.cellsOf parts cp) 9 (0, 0))) ∧ Aside0 (Below w.heap.size w wr)) (fun v _ => parts.length - (intOf v).toNat)
  case atStart => exact ⟨0, Nat.zero_le _, rfl, hZ3, by simpa [vOf] using hT3, hP3, hB3⟩
  case round =>
   clear hZ3 hT3 hP3 hB3
   obtain ⟨k, hk, rfl, hZ, hT, hP, hB⟩ := hrel
   by_cases hlt : k < parts.length
   ·have hck := (blk_cell hP.out k).trans (cellsOf_get parts cp k hlt)
    have hat := atoi_calls (parts.getD k ByteArray.empty) (hsz.out _ (getDm _ _ hlt)) wr (GW_below HG.out hB.out)
    have hnum : numOf parts k = atoiV (parts.getD k ByteArray.empty) := by unfold numOf; rw [if_pos hlt]
    rw [← hnum] at hat
    clear hnum
    obtain ⟨sk, hsk⟩ : ∃ s, parts.getD k ByteArray.empty = s := ⟨_, rfl⟩
    obtain ⟨nk, hnk⟩ : ∃ n, numOf parts k = n := ⟨_, rfl⟩
    rw [hsk] at hck hat
    rw [hnk] at hat
    have hnk := mk0 hnk
    clear hsk
    have hk3 : k = 0 ∨ k = 1 ∨ k = 2 := by omega
    have hlen := mk0 hlen
    rcases hk3 with rfl | rfl | rfl
    all_goals
     go_wp2_with (go_at_call 76; refine hat.mono ?_; rintro e w5 ⟨⟨er, rfl⟩, hb5⟩; have hT5 := mk0 (blk_below hT.out hb5); have y0 := ct hT5.out 0; have y1 := ct hT5.out 1; have y2 := ct hT5.out 2; have f0 := blk_frozen hT5.out 0; have f1 := blk_frozen hT5.out 1; have f2 := blk_frozen hT5.out 2; have hb5 := mk0 hb5)
    ·have hz := hgz.out
     exact ⟨⟨1, by omega, rfl, ⟨blk_far (blk_below hZ.out hb5.out) (by simp; omega) _⟩, ⟨blk_put hT5.out 0 _ (by simp [vOf, hnk.out])⟩, ⟨blk_far (blk_below hP.out hb5.out) (by simp; omega) _⟩, ⟨(below_step hB.out hb5.out).setCell (by simp; omega) _⟩⟩, by simp [intOf]; omega⟩
    ·have hz := hgz.out
     exact ⟨⟨2, by omega, rfl, ⟨blk_far (blk_below hZ.out hb5.out) (by simp; omega) _⟩, ⟨blk_put hT5.out 1 _ (by simp [vOf, hnk.out])⟩, ⟨blk_far (blk_below hP.out hb5.out) (by simp; omega) _⟩, ⟨(below_step hB.out hb5.out).setCell (by simp; omega) _⟩⟩, by simp [intOf]; omega⟩
    ·have hz := hgz.out
     exact ⟨⟨3, by omega, rfl, ⟨blk_far (blk_below hZ.out hb5.out) (by simp; omega) _⟩, ⟨blk_put hT5.out 2 _ (by simp [vOf, hnk.out])⟩, ⟨blk_far (blk_below hP.out hb5.out) (by simp; omega) _⟩, ⟨(below_step hB.out hb5.out).setCell (by simp; omega) _⟩⟩, by simp [intOf]; omega⟩
   ·have hkk : k = parts.length := by omega
    subst hkk
    rw [vOf_full, vOf_full, vOf_full] at hT
    have hpp := hp.out
    obtain ⟨n0, hn0⟩ : ∃ n, numOf parts 0 = n := ⟨_, rfl⟩
    obtain ⟨n1, hn1⟩ : ∃ n, numOf parts 1 = n := ⟨_, rfl⟩
    obtain ⟨n2, hn2⟩ : ∃ n, numOf parts 2 = n := ⟨_, rfl⟩
    rw [hn0, hn1, hn2] at hT
    have hn := mk0 (And.intro hn0 (And.intro hn1 hn2))
    clear hn0 hn1 hn2 hpp
    have y0 := ct hT.out 0
    have y1 := ct hT.out 1
    have y2 := ct hT.out 2
    go_wp2_with (go_at_call 77; refine (spotc.calls _ _ _ _ _ _ _ rfl).mono ?_; rintro e w5 ⟨rfl, hb5⟩; have hZ5 := mk0 (blk_below hZ.out hb5); have z0 := ct hZ5.out 0; have z1 := ct hZ5.out 1; have z2 := ct hZ5.out 2; have z3 := ct hZ5.out 3; have z4 := ct hZ5.out 4; have z5 := ct hZ5.out 5; have f0 := blk_frozen hZ5.out 0; have f1 := blk_frozen hZ5.out 1; have f2 := blk_frozen hZ5.out 2; have f3 := blk_frozen hZ5.out 3; have f4 := blk_frozen hZ5.out 4; have f5 := blk_frozen hZ5.out 5; have hb5 := mk0 hb5)
    refine bodyPost_ret (results_cell_row rfl _ _ gz 47 #[_, _, _, _, _, _] (0, 0) _ rfl (blk_put (blk_put (blk_put (blk_put (blk_put (blk_put hZ5.out 0 _ rfl) 1 _ rfl) 2 _ rfl) 3 _ rfl) 4 _ rfl) 5 _ rfl) Tryz.underlying47 rfl (by kernel_rfl)) rfl ?_
    have hz := hgz.out
    refine ⟨by rw [hp.out, hn.out.1, hn.out.2.1, hn.out.2.2], ?_⟩
    exact ((((((below_step hB.out hb5.out).setCell (by simp; omega) _).setCell (by simp; omega) _).setCell (by simp; omega) _).setCell (by simp; omega) _).setCell (by simp; omega) _).setCell (by simp; omega) _
 ·rw [if_neg hv1] at hr
  by_cases hv2 : verb = ⟨#[116, 111, 117, 99, 104]⟩
  ·subst hv2
   simp only [if_true, Prod.mk.injEq] at hr
   obtain ⟨rfl, rfl, rfl, rfl, rfl, rfl⟩ := hr
   have hx : ∀ (b : Nat) W, W.heap[b]? = some (.cells #[.string ⟨#[43, 88]⟩, .string ⟨#[45, 88]⟩, .string ⟨#[43, 89]⟩, .string ⟨#[45, 89]⟩, .string ⟨#[43, 90]⟩, .string ⟨#[45, 90]⟩] 109 (0, 0)) → Calls Tryz.prog 78 #[.slice (some ⟨b, 0, none⟩) 6 6, .string rest] W fun e w' => e = .returned (.int .i64 (Lib.idxOfS dirWords rest)) ∧ w' = W := fun b W hW => Tryz.slices_Index_string b 0 6 6 dirWords rest W (by decide) (by omega) (by
    intro j hj
    have hj' : j = 0 ∨ j = 1 ∨ j = 2 ∨ j = 3 ∨ j = 4 ∨ j = 5 := by have : j < 6 := hj; omega
    rcases hj' with rfl | rfl | rfl | rfl | rfl | rfl <;> exact (blk_cell hW _).trans rfl)
   obtain ⟨ix, hix⟩ : ∃ i, Lib.idxOfS dirWords rest = i := ⟨_, rfl⟩
   rw [hix] at hx
   have hx := mk0 hx
   go_enter Tryz.func52, Tryz.ntmps52
   go_wp2_with (first | (go_at_call 74; refine h74.out.mono ?_; rintro e w1 ⟨rfl, hb1⟩; have hZ5 := mk0 (blk_below hZ.out hb1); have hB5 := mk0 (below_then (below_alloc (Below.refl w.heap.size w) _) (by simp) hb1); have z0 := ct hZ5.out 0; have z1 := ct hZ5.out 1; have z2 := ct hZ5.out 2; have z3 := ct hZ5.out 3; have z4 := ct hZ5.out 4; have z5 := ct hZ5.out 5; have f0 := blk_frozen hZ5.out 0; have f1 := blk_frozen hZ5.out 1; have f2 := blk_frozen hZ5.out 2; have f3 := blk_frozen hZ5.out 3; have f4 := blk_frozen hZ5.out 4; have f5 := blk_frozen hZ5.out 5; clear hb1) | (go_at_call 50; refine (probe_directions.calls _ _ _ _ _ _ _ rfl).mono ?_; rintro e w5 ⟨rfl, hb5⟩; have hZ6 := hZ5; have hB6 := hB5; clear z0 z1 z2 z3 z4 z5 f0 f1 f2 f3 f4 f5 hZ5 hB5; have hZ5 := mk0 (blk_below hZ6.out hb5); have hB5 := mk0 (below_step hB6.out hb5); have z0 := ct hZ5.out 0; have z1 := ct hZ5.out 1; have z2 := ct hZ5.out 2; have z3 := ct hZ5.out 3; have z4 := ct hZ5.out 4; have z5 := ct hZ5.out 5; have f0 := blk_frozen hZ5.out 0; have f1 := blk_frozen hZ5.out 1; have f2 := blk_frozen hZ5.out 2; have f3 := blk_frozen hZ5.out 3; have f4 := blk_frozen hZ5.out 4; have f5 := blk_frozen hZ5.out 5; clear hb5))
   refine (hx.out w5.heap.size _ (blk_new _ _)).mono ?_
   rintro e w6 ⟨rfl, rfl⟩
   have hZ7 := mk0 (blk_alloc hZ5.out (.cells #[.string ⟨#[43, 88]⟩, .string ⟨#[45, 88]⟩, .string ⟨#[43, 89]⟩, .string ⟨#[45, 89]⟩, .string ⟨#[43, 90]⟩, .string ⟨#[45, 90]⟩] 109))
   have hB7 := mk0 (below_alloc hB5.out (.cells #[.string ⟨#[43, 88]⟩, .string ⟨#[45, 88]⟩, .string ⟨#[43, 89]⟩, .string ⟨#[45, 89]⟩, .string ⟨#[43, 90]⟩, .string ⟨#[45, 90]⟩] 109))
   obtain ⟨w7, hw7⟩ : ∃ w7, w5.alloc (.cells #[.string ⟨#[43, 88]⟩, .string ⟨#[45, 88]⟩, .string ⟨#[43, 89]⟩, .string ⟨#[45, 89]⟩, .string ⟨#[43, 90]⟩, .string ⟨#[45, 90]⟩] 109) = w7 := ⟨_, rfl⟩
   rw [hw7] at hZ7 hB7 ⊢
   clear hZ5 hB5 z0 z1 z2 z3 z4 z5 f0 f1 f2 f3 f4 f5 hw7
   have hZ5 := hZ7
   have hB5 := hB7
   have z0 := ct hZ5.out 0
   have z1 := ct hZ5.out 1
   have z2 := ct hZ5.out 2
   have z3 := ct hZ5.out 3
   have z4 := ct hZ5.out 4
   have z5 := ct hZ5.out 5
   have f0 := blk_frozen hZ5.out 0
   have f1 := blk_frozen hZ5.out 1
   have f2 := blk_frozen hZ5.out 2
   have f3 := blk_frozen hZ5.out 3
   have f4 := blk_frozen hZ5.out 4
   have f5 := blk_frozen hZ5.out 5
   go_wp2
   refine bodyPost_ret (results_cell_row rfl _ _ w.heap.size 47 #[_, _, _, _, _, _] (0, 0) _ rfl (blk_put (blk_put (blk_put (blk_put (blk_put (blk_put hZ5.out 0 _ rfl) 1 _ rfl) 2 _ rfl) 3 _ rfl) 4 _ rfl) 5 _ rfl) Tryz.underlying47 rfl (by kernel_rfl)) rfl ?_
   refine ⟨by rw [hix], ?_⟩
   exact (((((hB5.out.setCell (Nat.le_refl _) _).setCell (Nat.le_refl _) _).setCell (Nat.le_refl _) _).setCell (Nat.le_refl _) _).setCell (Nat.le_refl _) _).setCell (Nat.le_refl _) _
  ·rw [if_neg hv2] at hr
   by_cases hv3 : verb = ⟨#[116, 97, 107, 101]⟩
   ·subst hv3
    simp only [if_true, Prod.mk.injEq] at hr
    obtain ⟨rfl, rfl, rfl, rfl, rfl, rfl⟩ := hr
    go_enter Tryz.func52, Tryz.ntmps52
    go_wp2_with (go_at_call 74; refine h74.out.mono ?_; rintro e w1 ⟨rfl, hb1⟩; have hZ5 := mk0 (blk_below hZ.out hb1); have hB5 := mk0 (below_then (below_alloc (Below.refl w.heap.size w) _) (by simp) hb1); have z0 := ct hZ5.out 0; have z1 := ct hZ5.out 1; have z2 := ct hZ5.out 2; have z3 := ct hZ5.out 3; have z4 := ct hZ5.out 4; have z5 := ct hZ5.out 5; have f0 := blk_frozen hZ5.out 0; have f1 := blk_frozen hZ5.out 1; have f2 := blk_frozen hZ5.out 2; have f3 := blk_frozen hZ5.out 3; have f4 := blk_frozen hZ5.out 4; have f5 := blk_frozen hZ5.out 5; clear hb1)
    refine bodyPost_ret (results_cell_row rfl _ _ w.heap.size 47 #[_, _, _, _, _, _] (0, 0) _ rfl (blk_put (blk_put (blk_put (blk_put (blk_put (blk_put hZ5.out 0 _ rfl) 1 _ rfl) 2 _ rfl) 3 _ rfl) 4 _ rfl) 5 _ rfl) Tryz.underlying47 rfl (by kernel_rfl)) rfl ?_
    refine ⟨rfl, ?_⟩
    exact (((((hB5.out.setCell (Nat.le_refl _) _).setCell (Nat.le_refl _) _).setCell (Nat.le_refl _) _).setCell (Nat.le_refl _) _).setCell (Nat.le_refl _) _).setCell (Nat.le_refl _) _
   ·rw [if_neg hv3] at hr
    have k1 : (verb.toList == [109, 111, 118, 101]) = false := ne_toList hv1
    have k2 : (verb.toList == [116, 111, 117, 99, 104]) = false := ne_toList hv2
    have k3 : (verb.toList == [116, 97, 107, 101]) = false := ne_toList hv3
    simp only [Prod.mk.injEq] at hr
    obtain ⟨rfl, rfl, rfl, rfl, rfl, rfl⟩ := hr
    go_enter Tryz.func52, Tryz.ntmps52
    go_wp2_with (go_at_call 74; refine h74.out.mono ?_; rintro e w1 ⟨rfl, hb1⟩; have hZ5 := mk0 (blk_below hZ.out hb1); have hB5 := mk0 (below_then (below_alloc (Below.refl w.heap.size w) _) (by simp) hb1); have z0 := ct hZ5.out 0; have z1 := ct hZ5.out 1; have z2 := ct hZ5.out 2; have z3 := ct hZ5.out 3; have z4 := ct hZ5.out 4; have z5 := ct hZ5.out 5; have f0 := blk_frozen hZ5.out 0; have f1 := blk_frozen hZ5.out 1; have f2 := blk_frozen hZ5.out 2; have f3 := blk_frozen hZ5.out 3; have f4 := blk_frozen hZ5.out 4; have f5 := blk_frozen hZ5.out 5; clear hb1)
    refine bodyPost_ret (results_cell_row rfl _ _ w.heap.size 47 #[_, _, _, _, _, _] (0, 0) _ rfl (blk_put (blk_put (blk_put (blk_put (blk_put (blk_put hZ5.out 0 _ rfl) 1 _ rfl) 2 _ rfl) 3 _ rfl) 4 _ rfl) 5 _ rfl) Tryz.underlying47 rfl (by kernel_rfl)) rfl ?_
    refine ⟨rfl, ?_⟩
    exact (((((hB5.out.setCell (Nat.le_refl _) _).setCell (Nat.le_refl _) _).setCell (Nat.le_refl _) _).setCell (Nat.le_refl _) _).setCell (Nat.le_refl _) _).setCell (Nat.le_refl _) _
end Go.Proofs.YtolbjmaabghghaaGreatDoor.PA
