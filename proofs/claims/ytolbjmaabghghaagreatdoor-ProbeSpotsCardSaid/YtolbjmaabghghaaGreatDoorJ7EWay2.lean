/- A part of the proof. -/
import Derived.Test.YtolbjmaabghghaaGreatDoorJ7EWay1
import Derived.Shelf.Abstract
namespace Go.Proofs.YtolbjmaabghghaaGreatDoor.PA
open Go.RowKit Go.PW Go.PL Go.PM
attribute [local go_sem] Oper.semAt_some
set_option linter.unusedVariables false
set_option linter.unusedSimpArgs false
set_option maxHeartbeats 2000000 in
set_option maxRecDepth 100000 in
theorem way_calls (a b c a' b' c' : Int) (w : World) :
  Calls Tryz.prog 70 #[.agg #[.int .i64 a, .int .i64 b, .int .i64 c], .agg #[.int .i64 a', .int .i64 b', .int .i64 c']] w fun e w' => ∃ g h : Nat, e = .returned (.func (.func 90) #[] #[.pointer (some ⟨g, 0, none⟩), .pointer (some ⟨h, 0, none⟩)]) ∧ w'.heap[g]? = some (.cells #[.int .i64 a, .int .i64 b, .int .i64 c] 23 (0, 0)) ∧ w'.heap[h]? = some (.cells #[.int .i64 a', .int .i64 b', .int .i64 c'] 23 (0, 0)) ∧ Below w.heap.size w w' := by
 have hu23 := Tryz.underlying23
 go_enter Tryz.func70, Tryz.ntmps70
 go_wp2
 go_ret
 refine ⟨_, _, rfl, blk_alloc (blk_new _ _) _, ?_, below_alloc (below_alloc (Below.refl _ _) _) _⟩
 have := blk_new (w.alloc (.cells #[.int .i64 a, .int .i64 b, .int .i64 c] 23)) (.cells #[.int .i64 a', .int .i64 b', .int .i64 c'] 23)
 rwa [World.size_alloc] at this
def aheadP (x y z d : Int) : S23 := if d = 0 then ⟨100000, y, z⟩ else if d = 1 then ⟨-100000, y, z⟩ else if d = 2 then ⟨x, 100000, z⟩ else if d = 3 then ⟨x, -100000, z⟩ else if d = 4 then ⟨x, y, 100000⟩ else ⟨x, y, -100000⟩
set_option maxHeartbeats 4000000 in
set_option maxRecDepth 100000 in
theorem ahead_calls (x y z d : Int) (w : World) (h0 : 0 ≤ d) (h5 : d ≤ 5) :
  Calls Tryz.prog 71 #[.agg #[.int .i64 x, .int .i64 y, .int .i64 z], .int .i64 d] w fun e w' => e = .returned (.agg #[.int .i64 (aheadP x y z d).f0, .int .i64 (aheadP x y z d).f1, .int .i64 (aheadP x y z d).f2]) ∧ Below w.heap.size w w' := by
 have hu23 := Tryz.underlying23
 have hu101 := Tryz.underlying101
 have hz0 := blk_new (w.alloc (.cells #[.int .i64 x, .int .i64 y, .int .i64 z] 23)) (.cells #[.int .i64 0, .int .i64 0, .int .i64 0] 23)
 rw [World.size_alloc] at hz0
 have HZ := mk0 hz0
 clear hz0
 rcases (by omega : d = 0 ∨ d = 1 ∨ d = 2 ∨ d = 3 ∨ d = 4 ∨ d = 5) with rfl | rfl | rfl | rfl | rfl | rfl
 all_goals
  go_enter Tryz.func71, Tryz.ntmps71
  go_wp2_with (first | (go_at_call 43; refine (probe_of.calls _ _ _ _ _ _ _ rfl).mono ?_; rintro e w1 ⟨rfl, hb⟩; have HZ1 := mk0 (blk_below HZ.out hb); have HB1 := mk0 hb; clear hb) | (go_at_call 77; refine (spotc.calls _ _ _ _ _ _ _ rfl).mono ?_; rintro e w2 ⟨rfl, hb2⟩; have HZ2 := mk0 (blk_below (blk_alloc HZ1.out _) hb2); have HB2 := mk0 hb2; clear hb2; have c0 : w2.cell? ⟨w.heap.size + 1, 0, none⟩ = some (.int .i64 0) := ct HZ2.out 0; have c1 : w2.cell? ⟨w.heap.size + 1, 1, none⟩ = some (.int .i64 0) := ct HZ2.out 1; have c2 : w2.cell? ⟨w.heap.size + 1, 2, none⟩ = some (.int .i64 0) := ct HZ2.out 2; have g0 := blk_frozen HZ2.out 0; have g1 := blk_frozen HZ2.out 1; have g2 := blk_frozen HZ2.out 2))
  repeat (go_quiet (fail); go_wp2)
 all_goals
  refine bodyPost_ret (results_cell_row rfl _ _ (w.heap.size + 1) 23 #[_, _, _] (0, 0) _ rfl (blk_put (blk_put (blk_put HZ2.out 0 _ rfl) 1 _ rfl) 2 _ rfl) Tryz.underlying23 rfl (by kernel_rfl)) rfl ?_
  refine ⟨rfl, ?_⟩
  have hb1 : Below w.heap.size w w1 := below_then (below_alloc (below_alloc (Below.refl _ _) _) _) (by simp; omega) HB1.out
  have hb2 : Below w.heap.size w w2 := below_then (below_alloc hb1 _) (by have := hb1.size; simp; omega) HB2.out
  exact ((hb2.setCell (by simp) _).setCell (by simp) _).setCell (by simp) _
def openL (g : S23 → Option Bool) : List S23 → Option Bool
 | [] => some true
 | p :: l => (g p).bind fun b => if b then some false else openL g l
def touchL (g : S23 → Option Bool) : S23 → List S23 → Option (Int × Int × Int × Int × Int × Int × Bool)
 | _, [] => some (0, 0, 0, 0, 0, 0, false)
 | q, p :: l => (g p).bind fun b => if b then some (p.f0, p.f1, p.f2, q.f0, q.f1, q.f2, true) else touchL g p l
def fullS (a0_0 a0_1 a0_2 a0_3 a0_4 a0_5 : Int) (l0_6 : List S84) (p : S23) : Option Bool := probe_Solid_full.f 9 a0_0 a0_1 a0_2 a0_3 a0_4 a0_5 l0_6 p.f0 p.f1 p.f2
def probe_Solid_open.f (a0_0 a0_1 a0_2 a0_3 a0_4 a0_5 : Int) (l0_6 : List S84) (a1_0 a1_1 a1_2 a2_0 a2_1 a2_2 : Int) : Option Bool :=
 if nearS ⟨a1_0, a1_1, a1_2⟩ ∧ nearS ⟨a2_0, a2_1, a2_2⟩ then openL (fullS a0_0 a0_1 a0_2 a0_3 a0_4 a0_5 l0_6) (wayL (distS ⟨a1_0, a1_1, a1_2⟩ ⟨a2_0, a2_1, a2_2⟩) ⟨a1_0, a1_1, a1_2⟩ ⟨a2_0, a2_1, a2_2⟩) else none
set_option maxHeartbeats 4000000 in
set_option maxRecDepth 100000 in
theorem probe_Solid_open.calls (a0_0 a0_1 a0_2 a0_3 a0_4 a0_5 : Int) (A0_6 : Option Addr) (c0_6 : Nat) (l0_6 : List (S84)) (a1_0 a1_1 a1_2 a2_0 a2_1 a2_2 : Int) (r : Bool) (w : World) (hr0_6 : Kd.C k84 w A0_6 l0_6.length l0_6) (hc0_6 : l0_6.length ≤ c0_6) (h : probe_Solid_open.f a0_0 a0_1 a0_2 a0_3 a0_4 a0_5 l0_6 a1_0 a1_1 a1_2 a2_0 a2_1 a2_2 = some r) :
  Calls Tryz.prog 61 #[.agg #[.int .i64 a0_0, .int .i64 a0_1, .int .i64 a0_2, .int .i64 a0_3, .int .i64 a0_4, .int .i64 a0_5, .slice A0_6 l0_6.length c0_6], .agg #[.int .i64 a1_0, .int .i64 a1_1, .int .i64 a1_2], .agg #[.int .i64 a2_0, .int .i64 a2_1, .int .i64 a2_2]] w fun e w' => e = .returned (.bool r) ∧ Below w.heap.size w w' := by
 unfold probe_Solid_open.f at h
 split at h
 case isFalse => cases h
 case isTrue hn =>
 obtain ⟨hn1, hn2⟩ := hn
 have hu23 := Tryz.underlying23
 have hu26 := Tryz.underlying26
 have hu84 := Tryz.underlying84
 have HR := mk0 hr0_6
 have HC := mk0 hc0_6
 have HH := mk0 h
 have HN1 := mk0 hn1
 have HN2 := mk0 hn2
 clear hr0_6 hc0_6 h hn1 hn2
 refine (callsIn_wide (n := 9)).1 ?_
 refine callsIn_of_wp_marks Tryz.func61 rfl trivial ?_ rfl
 simp only [Tryz.ntmps61, List.size_toArray, List.length_cons, List.length_nil, Nat.reduceAdd, Nat.reduceSub, Array.replicate_succ, Array.replicate_zero, List.push_toArray, List.append_toArray, List.nil_append, List.cons_append]
 have b3 := mk0 (blk_alloc (blk_alloc (blk_alloc (blk_new w (.cells #[.int .i64 a0_0, .int .i64 a0_1, .int .i64 a0_2, .int .i64 a0_3, .int .i64 a0_4, .int .i64 a0_5, .slice A0_6 l0_6.length c0_6] 26)) (.cells #[.int .i64 a1_0, .int .i64 a1_1, .int .i64 a1_2] 23)) (.cells #[.int .i64 a2_0, .int .i64 a2_1, .int .i64 a2_2] 23)) (.cells #[.bool false] 4))
 have b6 := blk_new (((w.alloc (.cells #[.int .i64 a0_0, .int .i64 a0_1, .int .i64 a0_2, .int .i64 a0_3, .int .i64 a0_4, .int .i64 a0_5, .slice A0_6 l0_6.length c0_6] 26)).alloc (.cells #[.int .i64 a1_0, .int .i64 a1_1, .int .i64 a1_2] 23)).alloc (.cells #[.int .i64 a2_0, .int .i64 a2_1, .int .i64 a2_2] 23)) (.cells #[.bool false] 4)
 simp only [World.size_alloc] at b6
 replace b6 := mk0 b6
 gi_wp2_with (refine ⟨trivial, ?_⟩; gi_at_call 70; refine (callsIn_wide.2 (way_calls _ _ _ _ _ _ _)).mono ?_; rintro e w1 ⟨g1, g2, rfl, hg1, hg2, hb⟩)
 have B3 := mk0 (blk_below b3.out hb)
 have B6 := mk0 (blk_below b6.out hb)
 have HB := mk0 (below_then (below_alloc (below_alloc (below_alloc (below_alloc (Below.refl w.heap.size w) _) _) _) _) (by simp; omega) hb)
 clear b3 b6 hb
 refine wpIn_rangeFunc_M rfl (by omega) (gf := 90) (lb := #[.pointer (some ⟨g1, 0, none⟩), .pointer (some ⟨g2, 0, none⟩)]) rfl trivial (Go.Proofs.enters_of Tryz.func90 (by kernel_rfl) rfl) (way1_seq 8 _ (by omega) a1_0 a1_1 a1_2 a2_0 a2_1 a2_2 g1 g2 w1 hg1 hg2 HN1.out HN2.out (Nat.le_refl _)) (fun _ => rfl)
  (fun pre W => (∃ rest, pre ++ rest = wayL (distS ⟨a1_0, a1_1, a1_2⟩ ⟨a2_0, a2_1, a2_2⟩) ⟨a1_0, a1_1, a1_2⟩ ⟨a2_0, a2_1, a2_2⟩ ∧ openL (fullS a0_0 a0_1 a0_2 a0_3 a0_4 a0_5 l0_6) rest = some r) ∧ Below w1.heap.size w1 W)
  (fun c pre W => (c = .ret ∧ r = false ∧ W.heap[w.heap.size + 1 + 1 + 1]? = some (.cells #[.bool false] 4 (0, 0))) ∧ Below w.heap.size w W)
  (fun s A B h hb => ⟨h.1, h.2.trans hb⟩)
  (fun c s A B h hb => ⟨⟨h.1.1, h.1.2.1, (hb.block _ (blk_lt B6.out)).trans h.1.2.2⟩, h.2.trans (hb.mono HB.out.size)⟩)
  ⟨⟨_, rfl, HH.out⟩, Below.refl _ _⟩
  (fun x a W => ∃ Bx : Nat, w1.heap.size + 1 < Bx ∧ W.heap[Bx]? = some (.cells #[.int .i64 x.f0, .int .i64 x.f1, .int .i64 x.f2] 23 (0, 0)) ∧ a = { tmps := #[.agg #[.int .i64 a0_0, .int .i64 a0_1, .int .i64 a0_2, .int .i64 a0_3, .int .i64 a0_4, .int .i64 a0_5, .slice A0_6 l0_6.length c0_6], .agg #[.int .i64 a1_0, .int .i64 a1_1, .int .i64 a1_2], .agg #[.int .i64 a2_0, .int .i64 a2_1, .int .i64 a2_2], .pointer (some ⟨w.heap.size, 0, none⟩), .pointer (some ⟨w.heap.size + 1, 0, none⟩), .pointer (some ⟨w.heap.size + 1 + 1, 0, none⟩), .pointer (some ⟨w.heap.size + 1 + 1 + 1, 0, none⟩), .pointer (some ⟨Bx, 0, none⟩), .agg #[.int .i64 a1_0, .int .i64 a1_1, .int .i64 a1_2], .agg #[.int .i64 a2_0, .int .i64 a2_1, .int .i64 a2_2], .func (.func 90) #[] #[.pointer (some ⟨g1, 0, none⟩), .pointer (some ⟨g2, 0, none⟩)], .agg #[.int .i64 x.f0, .int .i64 x.f1, .int .i64 x.f2], undef, undef, undef], defers := [] })
  (by rintro x a A o ⟨Bx, h1, h2, h3⟩; exact ⟨Bx, h1, (World.putObj_heap_other (by omega)).trans h2, h3⟩) ?assign ?body ?done ?stop
 case assign =>
  intro l pre x W K hi hl hK
  dsimp only [enc23]
  gi_wp2
  exact hK _ _ (KK.of_below (below_alloc (Below.refl _ _) _)) ⟨hi.1, hi.2.trans (below_alloc (Below.refl _ _) _ |>.mono hi.2.size)⟩ ⟨W.heap.size, hl, blk_new _ _, rfl⟩
 case body =>
  rintro l pre x a₁ W ⟨⟨rest, he, ho⟩, hB⟩ ⟨Bx, h1, h2, rfl⟩ hpre hl
  obtain ⟨rest', rfl⟩ : ∃ r', rest = x :: r' := by
   obtain ⟨t, ht⟩ := hpre
   rw [← he, List.append_assoc] at ht
   exact ⟨t, (List.append_cancel_left ht).symm⟩
  obtain ⟨b, hgx, ho⟩ := Option.bind_eq_some_iff.1 ho
  have hW3 := (hB.block _ (blk_lt B3.out)).trans B3.out
  have hW6 := (hB.block _ (blk_lt B6.out)).trans B6.out
  have HBW := mk0 (HB.out.trans (hB.mono HB.out.size))
  have s0 := ct hW3 0
  have s1 := ct hW3 1
  have s2 := ct hW3 2
  have s3 := ct hW3 3
  have s4 := ct hW3 4
  have s5 := ct hW3 5
  have s6 := ct hW3 6
  have x0 := ct h2 0
  have x1 := ct h2 1
  have x2 := ct h2 2
  have hgx := mk0 hgx
  have hW6 := mk0 hW6
  have hB := mk0 hB
  clear h2 hW3
  cases b
  ·gi_wp2_with (refine ⟨trivial, ?_⟩; gi_at_call 39; refine (CallsIn.inRound l (callsIn_wide.2 (probe_Solid_full.calls 9 a0_0 a0_1 a0_2 a0_3 a0_4 a0_5 A0_6 c0_6 l0_6 x.f0 x.f1 x.f2 false W (Kd.C_below HR.out HBW.out) HC.out hgx.out))).mono ?_; rintro e w2 ⟨rfl, hb⟩)
   exact ⟨KK.of_below hb, ⟨rest', by rw [← he]; simp, ho⟩, hB.out.trans (hb.mono hB.out.size)⟩
  ·have hr0 : r = false := by simpa using ho.symm
   subst hr0
   gi_wp2_with (refine ⟨trivial, ?_⟩; gi_at_call 39; refine (CallsIn.inRound l (callsIn_wide.2 (probe_Solid_full.calls 9 a0_0 a0_1 a0_2 a0_3 a0_4 a0_5 A0_6 c0_6 l0_6 x.f0 x.f1 x.f2 true W (Kd.C_below HR.out HBW.out) HC.out hgx.out))).mono ?_; rintro e w2 ⟨rfl, hb⟩; have hc6 : w2.cell? ⟨w.heap.size + 1 + 1 + 1, 0, none⟩ = some (.bool false) := (blk_cell (blk_below hW6.out hb) 0).trans rfl; have hf6 := blk_frozen (blk_below hW6.out hb) 0)
   exact ⟨(KK.of_below hb).trans (KK.setCell _ _ _ (blk_lt B6.out)), ⟨rfl, blk_put (blk_below hW6.out hb) 0 _ rfl⟩, (HBW.out.trans (hb.mono HBW.out.size)).setCell (by simp; omega) _⟩
 case done =>
  rintro W ⟨⟨rest, he, ho⟩, hB⟩ hK
  obtain rfl : rest = [] := by simpa using he
  obtain rfl : r = true := by simpa [openL] using ho.symm
  have hW6 := (hB.block _ (blk_lt B6.out)).trans B6.out
  have hc6 : W.cell? ⟨w.heap.size + 1 + 1 + 1, 0, none⟩ = some (.bool false) := ct hW6 0
  have hf6 := blk_frozen hW6 0
  have hne : w1.heap.size ≠ w.heap.size + 1 + 1 + 1 := by have := blk_lt B6.out; omega
  have hW6 := mk0 hW6
  have hB := mk0 hB
  have hK := mk0 hK
  gi_wp2
  have hK' := (Below.heap_setCell W ⟨w.heap.size + 1 + 1 + 1, 0, none⟩ (.bool true) w1.heap.size hne).trans hK.out
  refine ⟨by simp, .inl ⟨_, _, rfl, run_takeDeferred hK', ?_⟩⟩
  have hb5 := (World.putObj_heap_other (w := W.setCell ⟨w.heap.size + 1 + 1 + 1, 0, none⟩ (.bool true)) (o := .deferred none) hne.symm).trans (blk_put hW6.out 0 (.bool true) rfl)
  have hc5 := ct hb5 0
  refine ⟨.bool true, ?_, rfl, ?_⟩
  ·simp [results, Tryz.f61, go_sem, hc5]
  ·exact ((HB.out.trans (hB.out.mono HB.out.size)).setCell (by simp; omega) _).trans (below_putObj _ _ _ _ HB.out.size hK')
 case stop =>
  rintro c pre W hpre ⟨⟨rfl, rfl, hW6⟩, hB⟩ hK
  have hne : w1.heap.size ≠ w.heap.size + 1 + 1 + 1 := by have := blk_lt B6.out; omega
  have hW6 := mk0 hW6
  have hB := mk0 hB
  have hK := mk0 hK
  gi_wp2
  refine ⟨by simp, .inl ⟨_, _, rfl, run_takeDeferred hK.out, ?_⟩⟩
  have hb5 := (World.putObj_heap_other (w := W) (o := .deferred none) hne.symm).trans hW6.out
  have hc5 := ct hb5 0
  refine ⟨.bool false, ?_, rfl, ?_⟩
  ·simp [results, Tryz.f61, go_sem, hc5]
  ·exact hB.out.trans (below_putObj _ _ _ _ HB.out.size hK.out)
end Go.Proofs.YtolbjmaabghghaaGreatDoor.PA
