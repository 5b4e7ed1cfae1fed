/- A part of the proof. -/
import Derived.Test.YtolbjmaabghghaaGreatDoorJ7EWay2
namespace Go.Proofs.YtolbjmaabghghaaGreatDoor.PA
open Go.RowKit Go.PW Go.PL Go.PM
attribute [local go_sem] Oper.semAt_some
set_option linter.unusedVariables false
set_option linter.unusedSimpArgs false
def touched.T2 : Bool × List (List Nat × List Nat) := (true, [([], []), ([], []), ([], []), ([1, 2], [1, 2]), ([0, 3, 3], [0, 3])])
def touched.B2 : List Nat := [0, 0, 0, 6, 15]
theorem touched.tab2 : rtab .any (opsOf Tryz.f47 2) = touched.T2 := by kernel_rfl
theorem touched.bits2 : waitsOk touched.T2.2 touched.B2 = true := by kernel_rfl
theorem blk_newE {g : Nat} (w : World) (o : Obj) (h : g = w.heap.size) : (w.alloc o).heap[g]? = some o := by subst h; exact blk_new w o
theorem KK.drew {B : Nat} {A A' : World} (h : KK B A A') : KK B A A'.drew := h
theorem le6 {a b c d e f g : Nat} (h : a < b ∧ b < c ∧ c < d ∧ d < e ∧ e < f ∧ g ≤ a) : g ≤ c := by omega
theorem le7 {a b c d e f g : Nat} (h : a < b ∧ b < c ∧ c < d ∧ d < e ∧ e < f ∧ g ≤ a) : g ≤ d := by omega
theorem le8 {a b c d e f g : Nat} (h : a < b ∧ b < c ∧ c < d ∧ d < e ∧ e < f ∧ g ≤ a) : g ≤ e := by omega
theorem far3 {w : World} {g b : Nat} {t : TypeId} {cs : Array Value} {u v z : Value} (h : w.heap[g]? = some (.cells cs t (0, 0))) (hne : g ≠ b) : (((w.setCell ⟨b, 0, none⟩ u).setCell ⟨b, 1, none⟩ v).setCell ⟨b, 2, none⟩ z).heap[g]? = some (.cells cs t (0, 0)) := blk_far (blk_far (blk_far h hne _) hne _) hne _
def probe_Solid_touched.f (a0_0 a0_1 a0_2 a0_3 a0_4 a0_5 : Int) (l0_6 : List S84) (a1_0 a1_1 a1_2 a2 : Int) : Option (Int × Int × Int × Int × Int × Int × Bool) :=
 if nearS ⟨a1_0, a1_1, a1_2⟩ ∧ 0 ≤ a2 ∧ a2 ≤ 5 then touchL (fullS a0_0 a0_1 a0_2 a0_3 a0_4 a0_5 l0_6) ⟨a1_0, a1_1, a1_2⟩ (wayL (distS ⟨a1_0, a1_1, a1_2⟩ (aheadP a1_0 a1_1 a1_2 a2)) ⟨a1_0, a1_1, a1_2⟩ (aheadP a1_0 a1_1 a1_2 a2)) else none
theorem near_ahead {x y z d : Int} (h : nearS ⟨x, y, z⟩) : nearS (aheadP x y z d) := by
 obtain ⟨h1, h2, h3⟩ := h
 unfold near at h1 h2 h3
 dsimp only at h1 h2 h3
 unfold aheadP nearS near
 repeat' split
 all_goals (dsimp only; omega)
set_option maxHeartbeats 8000000 in
set_option maxRecDepth 100000 in
theorem probe_Solid_touched.calls (a0_0 a0_1 a0_2 a0_3 a0_4 a0_5 : Int) (A0_6 : Option Addr) (c0_6 : Nat) (l0_6 : List (S84)) (a1_0 a1_1 a1_2 a2 : Int) (r1 r2 r3 r4 r5 r6 : Int) (r7 : Bool) (w : World) (hr0_6 : Kd.C k84 w A0_6 l0_6.length l0_6) (hc0_6 : l0_6.length ≤ c0_6) (h : probe_Solid_touched.f a0_0 a0_1 a0_2 a0_3 a0_4 a0_5 l0_6 a1_0 a1_1 a1_2 a2 = some (r1, r2, r3, r4, r5, r6, r7)) :
  Calls Tryz.prog 47 #[.agg #[.int .i64 a0_0, .int .i64 a0_1, .int .i64 a0_2, .int .i64 a0_3, .int .i64 a0_4, .int .i64 a0_5, .slice A0_6 l0_6.length c0_6], .agg #[.int .i64 a1_0, .int .i64 a1_1, .int .i64 a1_2], .int .i64 a2] w fun e w' => e = .returned (.tuple #[.agg #[.int .i64 r1, .int .i64 r2, .int .i64 r3], .agg #[.int .i64 r4, .int .i64 r5, .int .i64 r6], .bool r7]) ∧ Below w.heap.size w w' := by
 unfold probe_Solid_touched.f at h
 split at h
 case isFalse => cases h
 case isTrue hn =>
 obtain ⟨hn1, hd0, hd5⟩ := hn
 have hu23 := Tryz.underlying23
 have hu26 := Tryz.underlying26
 have hu84 := Tryz.underlying84
 have HR := mk0 hr0_6
 have HC := mk0 hc0_6
 have HH := mk0 h
 have HN1 := mk0 hn1
 have HN2 := mk0 (near_ahead (d := a2) hn1)
 have HD := mk0 (And.intro hd0 hd5)
 clear hr0_6 hc0_6 h hn1 hd0 hd5
 refine (callsIn_wide (n := 9)).1 ?_
 refine callsIn_of_wp_marks Tryz.func47 rfl trivial ?_ rfl
 simp only [Tryz.ntmps47, List.size_toArray, List.length_cons, List.length_nil, Nat.reduceAdd, Nat.reduceSub, Array.replicate_succ, Array.replicate_zero, List.push_toArray, List.append_toArray, List.nil_append, List.cons_append]
 gi_wp2
 obtain ⟨W, hW⟩ : ∃ W, (((((w.alloc (.cells #[.int .i64 a0_0, .int .i64 a0_1, .int .i64 a0_2, .int .i64 a0_3, .int .i64 a0_4, .int .i64 a0_5, .slice A0_6 l0_6.length c0_6] 26)).alloc (.cells #[.int .i64 a1_0, .int .i64 a1_1, .int .i64 a1_2] 23)).alloc (.cells #[.int .i64 0, .int .i64 0, .int .i64 0] 23)).alloc (.cells #[.int .i64 0, .int .i64 0, .int .i64 0] 23)).alloc (.cells #[.bool false] 4)).alloc (.cells #[.int .i64 a1_0, .int .i64 a1_1, .int .i64 a1_2] 23) = W := ⟨_, rfl⟩
 obtain ⟨g3, hg3⟩ : ∃ g3, w.heap.size = g3 := ⟨_, rfl⟩
 obtain ⟨g4, hg4⟩ : ∃ g, w.heap.size + 1 = g := ⟨_, rfl⟩
 obtain ⟨g6, hg6⟩ : ∃ g, w.heap.size + 1 + 1 = g := ⟨_, rfl⟩
 obtain ⟨g7, hg7⟩ : ∃ g, w.heap.size + 1 + 1 + 1 = g := ⟨_, rfl⟩
 obtain ⟨g8, hg8⟩ : ∃ g, w.heap.size + 1 + 1 + 1 + 1 = g := ⟨_, rfl⟩
 obtain ⟨g9, hg9⟩ : ∃ g, w.heap.size + 1 + 1 + 1 + 1 + 1 = g := ⟨_, rfl⟩
 have hall : Aside0 (W.heap[g3]? = some (.cells #[.int .i64 a0_0, .int .i64 a0_1, .int .i64 a0_2, .int .i64 a0_3, .int .i64 a0_4, .int .i64 a0_5, .slice A0_6 l0_6.length c0_6] 26 (0, 0))) ∧ Aside0 (W.heap[g4]? = some (.cells #[.int .i64 a1_0, .int .i64 a1_1, .int .i64 a1_2] 23 (0, 0))) ∧ Aside0 (W.heap[g6]? = some (.cells #[.int .i64 0, .int .i64 0, .int .i64 0] 23 (0, 0))) ∧ Aside0 (W.heap[g7]? = some (.cells #[.int .i64 0, .int .i64 0, .int .i64 0] 23 (0, 0))) ∧ Aside0 (W.heap[g8]? = some (.cells #[.bool false] 4 (0, 0))) ∧ Aside0 (W.heap[g9]? = some (.cells #[.int .i64 a1_0, .int .i64 a1_1, .int .i64 a1_2] 23 (0, 0))) ∧ Aside0 (Below w.heap.size w W) := by
  subst hW
  subst hg3 hg4 hg6 hg7 hg8 hg9
  refine ⟨⟨blk_alloc (blk_alloc (blk_alloc (blk_alloc (blk_alloc (blk_new w _) _) _) _) _) _⟩, ⟨blk_alloc (blk_alloc (blk_alloc (blk_alloc (blk_newE _ _ (by simp)) _) _) _) _⟩, ⟨blk_alloc (blk_alloc (blk_alloc (blk_newE _ _ (by simp)) _) _) _⟩, ⟨blk_alloc (blk_alloc (blk_newE _ _ (by simp)) _) _⟩, ⟨blk_alloc (blk_newE _ _ (by simp)) _⟩, ⟨blk_newE _ _ (by simp)⟩, ⟨by repeat (first | apply below_alloc | exact Below.refl _ _)⟩⟩
 simp only [hW]
 simp only [hg9]
 simp only [hg8]
 simp only [hg7]
 simp only [hg6]
 simp only [hg4]
 simp only [hg3]
 obtain ⟨B3, B4, B6, B7, B8, B9, HB⟩ := hall
 have NE : Aside0 (g3 < g4 ∧ g4 < g6 ∧ g6 < g7 ∧ g7 < g8 ∧ g8 < g9 ∧ w.heap.size ≤ g3) := ⟨by omega⟩
 clear hg4 hg6 hg7 hg8 hg9 hW hg3
 refine wpIn_wide.2 ?_
 try go_wp2
 rename_i hKK
 refine start_ (n := 5) (S := fun w' => True) (ds := []) #[false, false, false, false, false] (by kernel_rfl) rfl rfl trivial (fun hHeld => ?_); refine with_tabW touched.tab2 touched.bits2 (fun HT_ HW_ => ?_)
 obtain ⟨W1, B3, B4, B6, B7, B8, B9, HB, hW1⟩ : ∃ W1, Aside0 (W1.heap[g3]? = some (.cells #[.int .i64 a0_0, .int .i64 a0_1, .int .i64 a0_2, .int .i64 a0_3, .int .i64 a0_4, .int .i64 a0_5, .slice A0_6 l0_6.length c0_6] 26 (0, 0))) ∧ Aside0 (W1.heap[g4]? = some (.cells #[.int .i64 a1_0, .int .i64 a1_1, .int .i64 a1_2] 23 (0, 0))) ∧ Aside0 (W1.heap[g6]? = some (.cells #[.int .i64 0, .int .i64 0, .int .i64 0] 23 (0, 0))) ∧ Aside0 (W1.heap[g7]? = some (.cells #[.int .i64 0, .int .i64 0, .int .i64 0] 23 (0, 0))) ∧ Aside0 (W1.heap[g8]? = some (.cells #[.bool false] 4 (0, 0))) ∧ Aside0 (W1.heap[g9]? = some (.cells #[.int .i64 a1_0, .int .i64 a1_1, .int .i64 a1_2] 23 (0, 0))) ∧ Aside0 (Below w.heap.size w W1) ∧ W.drew = W1 := ⟨_, ⟨blk_drew B3.out⟩, ⟨blk_drew B4.out⟩, ⟨blk_drew B6.out⟩, ⟨blk_drew B7.out⟩, ⟨blk_drew B8.out⟩, ⟨blk_drew B9.out⟩, ⟨below_drew1 HB.out⟩, rfl⟩
 rw [hW1]
 clear hW1
 refine inv_at [0, 1, 2, 3, 4] (fun a0_ b a w' => ∃ (g1 g2 : Nat) (m4_ : Value), a = putSel a0_ b [(0, 12, .agg #[.int .i64 a1_0, .int .i64 a1_1, .int .i64 a1_2]), (1, 13, .agg #[.int .i64 a1_0, .int .i64 a1_1, .int .i64 a1_2]), (2, 14, .int .i64 a2), (3, 15, .agg #[.int .i64 (aheadP a1_0 a1_1 a1_2 a2).f0, .int .i64 (aheadP a1_0 a1_1 a1_2 a2).f1, .int .i64 (aheadP a1_0 a1_1 a1_2 a2).f2]), (4, 16, m4_)] ∧ (Aside0 (w'.heap[g3]? = some (.cells #[.int .i64 a0_0, .int .i64 a0_1, .int .i64 a0_2, .int .i64 a0_3, .int .i64 a0_4, .int .i64 a0_5, .slice A0_6 l0_6.length c0_6] 26 (0, 0))) ∧ Aside0 (w'.heap[g4]? = some (.cells #[.int .i64 a1_0, .int .i64 a1_1, .int .i64 a1_2] 23 (0, 0))) ∧ Aside0 (w'.heap[g6]? = some (.cells #[.int .i64 0, .int .i64 0, .int .i64 0] 23 (0, 0))) ∧ Aside0 (w'.heap[g7]? = some (.cells #[.int .i64 0, .int .i64 0, .int .i64 0] 23 (0, 0))) ∧ Aside0 (w'.heap[g8]? = some (.cells #[.bool false] 4 (0, 0))) ∧ Aside0 (w'.heap[g9]? = some (.cells #[.int .i64 a1_0, .int .i64 a1_1, .int .i64 a1_2] 23 (0, 0))) ∧ Aside0 (Below w.heap.size w w')) ∧ (b 4 = true → m4_ = .func (.func 90) #[] #[.pointer (some ⟨g1, 0, none⟩), .pointer (some ⟨g2, 0, none⟩)] ∧ w'.heap[g1]? = some (.cells #[.int .i64 a1_0, .int .i64 a1_1, .int .i64 a1_2] 23 (0, 0)) ∧ w'.heap[g2]? = some (.cells #[.int .i64 (aheadP a1_0 a1_1 a1_2 a2).f0, .int .i64 (aheadP a1_0 a1_1 a1_2 a2).f1, .int .i64 (aheadP a1_0 a1_1 a1_2 a2).f2] 23 (0, 0)))) HT_.out HW_.out (by kernel_rfl) (by kernel_rfl) ?_ ?_ ?_
 ·exact ⟨0, 0, .bool false, by simp only [putSel, Bool.false_eq_true, if_false], ⟨B3, B4, B6, B7, B8, B9, HB⟩, fun h_ => absurd h_ (by decide)⟩
 ·skip
  clear B3 B4 B6 B7 B8 B9 HB
  refine steps_cons ?_ ?_
  ·rintro b a w' ⟨g1, g2, m4_, ha, hF, hC⟩ hb_ hon hoff
   refine ⟨_, rfl, fun K hK => ?_⟩
   have e4 : a.tmps[4]? = some (.pointer (some ⟨g4, 0, none⟩)) := by rw [ha]; exact (putSel_off rfl).trans rfl
   replace ha := mk0 ha
   have hF := mk0 hF
   have hC := mk0 hC
   have hc0_ : w'.cell? ⟨g4, 0, none⟩ = some (.int .i64 a1_0) := (blk_cell hF.out.2.1.out 0).trans rfl
   have hc1_ : w'.cell? ⟨g4, 1, none⟩ = some (.int .i64 a1_1) := (blk_cell hF.out.2.1.out 1).trans rfl
   have hc2_ : w'.cell? ⟨g4, 2, none⟩ = some (.int .i64 a1_2) := (blk_cell hF.out.2.1.out 2).trans rfl
   refine value_ (w1 := w') (v := .agg #[.int .i64 a1_0, .int .i64 a1_1, .int .i64 a1_2]) (by rfl) rfl ?_ ?_
   ·go_simp
    (try simp only [i64_w])
    try rfl
   refine hK.out _ _ ⟨g1, g2, m4_, (by rw [ha.out]; exact putSel_upk 0 hb_ rfl rfl rfl), hF.out, hC.out⟩
  refine steps_cons ?_ ?_
  ·rintro b a w' ⟨g1, g2, m4_, ha, hF, hC⟩ hb_ hon hoff
   refine ⟨_, rfl, fun K hK => ?_⟩
   have e4 : a.tmps[4]? = some (.pointer (some ⟨g4, 0, none⟩)) := by rw [ha]; exact (putSel_off rfl).trans rfl
   replace ha := mk0 ha
   have hF := mk0 hF
   have hC := mk0 hC
   have hc0_ : w'.cell? ⟨g4, 0, none⟩ = some (.int .i64 a1_0) := (blk_cell hF.out.2.1.out 0).trans rfl
   have hc1_ : w'.cell? ⟨g4, 1, none⟩ = some (.int .i64 a1_1) := (blk_cell hF.out.2.1.out 1).trans rfl
   have hc2_ : w'.cell? ⟨g4, 2, none⟩ = some (.int .i64 a1_2) := (blk_cell hF.out.2.1.out 2).trans rfl
   refine value_ (w1 := w') (v := .agg #[.int .i64 a1_0, .int .i64 a1_1, .int .i64 a1_2]) (by rfl) rfl ?_ ?_
   ·go_simp
    (try simp only [i64_w])
    try rfl
   refine hK.out _ _ ⟨g1, g2, m4_, (by rw [ha.out]; exact putSel_upk 1 hb_ rfl rfl rfl), hF.out, hC.out⟩
  refine steps_cons ?_ ?_
  ·rintro b a w' ⟨g1, g2, m4_, ha, hF, hC⟩ hb_ hon hoff
   refine ⟨_, rfl, fun K hK => ?_⟩
   have e2 : a.tmps[2]? = some (.int .i64 a2) := by rw [ha]; exact (putSel_off rfl).trans rfl
   replace ha := mk0 ha
   have hF := mk0 hF
   have hC := mk0 hC
   refine value_ (w1 := w') (v := .int .i64 a2) (by rfl) rfl ?_ ?_
   ·go_simp
    (try simp only [i64_w])
    try rfl
   refine hK.out _ _ ⟨g1, g2, m4_, (by rw [ha.out]; exact putSel_upk 2 hb_ rfl rfl rfl), hF.out, hC.out⟩
  refine steps_cons ?_ ?_
  ·rintro b a w' ⟨g1, g2, m4_, ha, hF, hC⟩ hb_ hon hoff
   refine ⟨_, rfl, fun K hK => ?_⟩
   have e13 : a.tmps[13]? = some (.agg #[.int .i64 a1_0, .int .i64 a1_1, .int .i64 a1_2]) := by rw [ha]; exact putSel_on (e := (1, 13, .agg #[.int .i64 a1_0, .int .i64 a1_1, .int .i64 a1_2])) 1 rfl rfl (hon 1 (by kernel_rfl)) rfl
   have e14 : a.tmps[14]? = some (.int .i64 a2) := by rw [ha]; exact putSel_on (e := (2, 14, .int .i64 a2)) 2 rfl rfl (hon 2 (by kernel_rfl)) rfl
   replace ha := mk0 ha
   have hF := mk0 hF
   have hC := mk0 hC
   refine goes_ Tryz.func71 (by kernel_rfl) rfl #[.agg #[.int .i64 a1_0, .int .i64 a1_1, .int .i64 a1_2], .int .i64 a2] (by rfl) rfl rfl (by simp only [List.map_toArray, List.map_cons, List.map_nil, Act.eval, Array.getD_eq_getD_getElem?, Option.getD_some, e13, e14]) ?_
   refine (ahead_calls a1_0 a1_1 a1_2 a2 _ HD.out.1 HD.out.2).mono ?_
   rintro e w8 ⟨rfl, hb⟩
   refine ⟨_, rfl, ?_⟩
   obtain ⟨B3, B4, B6, B7, B8, B9, HB⟩ := hF.out
   refine hK.out _ _ ⟨g1, g2, m4_, (by rw [ha.out]; exact putSel_upk 3 hb_ rfl rfl rfl), ⟨⟨blk_below B3.out hb⟩, ⟨blk_below B4.out hb⟩, ⟨blk_below B6.out hb⟩, ⟨blk_below B7.out hb⟩, ⟨blk_below B8.out hb⟩, ⟨blk_below B9.out hb⟩, ⟨below_step HB.out hb⟩⟩, fun h0_ => absurd ((hoff 4 (by kernel_rfl)).symm.trans h0_) (by decide)⟩
  refine steps_cons ?_ ?_
  ·rintro b a w' ⟨g1, g2, m4_, ha, hF, hC⟩ hb_ hon hoff
   refine ⟨_, rfl, fun K hK => ?_⟩
   have e12 : a.tmps[12]? = some (.agg #[.int .i64 a1_0, .int .i64 a1_1, .int .i64 a1_2]) := by rw [ha]; exact putSel_on (e := (0, 12, .agg #[.int .i64 a1_0, .int .i64 a1_1, .int .i64 a1_2])) 0 rfl rfl (hon 0 (by kernel_rfl)) rfl
   have e15 : a.tmps[15]? = some (.agg #[.int .i64 (aheadP a1_0 a1_1 a1_2 a2).f0, .int .i64 (aheadP a1_0 a1_1 a1_2 a2).f1, .int .i64 (aheadP a1_0 a1_1 a1_2 a2).f2]) := by rw [ha]; exact putSel_on (e := (3, 15, .agg #[.int .i64 (aheadP a1_0 a1_1 a1_2 a2).f0, .int .i64 (aheadP a1_0 a1_1 a1_2 a2).f1, .int .i64 (aheadP a1_0 a1_1 a1_2 a2).f2])) 3 rfl rfl (hon 3 (by kernel_rfl)) rfl
   replace ha := mk0 ha
   have hF := mk0 hF
   have hC := mk0 hC
   refine goes_ Tryz.func70 (by kernel_rfl) rfl #[.agg #[.int .i64 a1_0, .int .i64 a1_1, .int .i64 a1_2], .agg #[.int .i64 (aheadP a1_0 a1_1 a1_2 a2).f0, .int .i64 (aheadP a1_0 a1_1 a1_2 a2).f1, .int .i64 (aheadP a1_0 a1_1 a1_2 a2).f2]] (by rfl) rfl rfl (by simp only [List.map_toArray, List.map_cons, List.map_nil, Act.eval, Array.getD_eq_getD_getElem?, Option.getD_some, e12, e15]) ?_
   refine (way_calls _ _ _ _ _ _ _).mono ?_
   rintro e w8 ⟨g1, g2, rfl, hg1, hg2, hb⟩
   refine ⟨_, rfl, ?_⟩
   obtain ⟨B3, B4, B6, B7, B8, B9, HB⟩ := hF.out
   refine hK.out _ _ ⟨g1, g2, .func (.func 90) #[] #[.pointer (some ⟨g1, 0, none⟩), .pointer (some ⟨g2, 0, none⟩)], (by rw [ha.out]; exact putSel_upk 4 hb_ rfl rfl rfl), ⟨⟨blk_below B3.out hb⟩, ⟨blk_below B4.out hb⟩, ⟨blk_below B6.out hb⟩, ⟨blk_below B7.out hb⟩, ⟨blk_below B8.out hb⟩, ⟨blk_below B9.out hb⟩, ⟨below_step HB.out hb⟩⟩, fun _ => ⟨rfl, hg1, hg2⟩⟩
  exact steps_nil
 rintro b a w1 hall ⟨g1, g2, m4_, ha, hF, hC⟩
 have hb0_ := hall 0 (by kernel_rfl)
 have hb1_ := hall 1 (by kernel_rfl)
 have hb2_ := hall 2 (by kernel_rfl)
 have hb3_ := hall 3 (by kernel_rfl)
 have hb4_ := hall 4 (by kernel_rfl)
 subst ha
 obtain ⟨rfl, hg1, hg2⟩ := hC hb4_
 simp only [putSel, hb0_, hb1_, hb2_, hb3_, hb4_, if_true, Act.put, List.setIfInBounds_toArray, List.set_cons_zero, List.set_cons_succ]
 clear hall hb0_ hb1_ hb2_ hb3_ hb4_ B3 B4 B6 B7 B8 B9 HB
 obtain ⟨B3, B4, B6, B7, B8, B9, HB⟩ := hF
 simp only [Exit.then]
 refine hKK _ _ ?_
 clear hKK hHeld HT_ HW_
 gi_wp2
 have L3 := blk_lt B3.out
 have L6 := blk_lt B6.out
 have L7 := blk_lt B7.out
 have L8 := blk_lt B8.out
 have L9 := blk_lt B9.out
 refine wpIn_rangeFunc_M rfl (by omega) (gf := 90) (lb := #[.pointer (some ⟨g1, 0, none⟩), .pointer (some ⟨g2, 0, none⟩)]) rfl trivial (Go.Proofs.enters_of Tryz.func90 (by kernel_rfl) rfl) (way1_seq 8 _ (by omega) a1_0 a1_1 a1_2 (aheadP a1_0 a1_1 a1_2 a2).f0 (aheadP a1_0 a1_1 a1_2 a2).f1 (aheadP a1_0 a1_1 a1_2 a2).f2 g1 g2 w1 hg1 hg2 HN1.out HN2.out (Nat.le_refl _)) (fun _ => rfl)
  (fun pre W => (∃ rest last, pre ++ rest = wayL (distS ⟨a1_0, a1_1, a1_2⟩ (aheadP a1_0 a1_1 a1_2 a2)) ⟨a1_0, a1_1, a1_2⟩ (aheadP a1_0 a1_1 a1_2 a2) ∧ touchL (fullS a0_0 a0_1 a0_2 a0_3 a0_4 a0_5 l0_6) last rest = some (r1, r2, r3, r4, r5, r6, r7) ∧ W.heap[g9]? = some (.cells #[.int .i64 last.f0, .int .i64 last.f1, .int .i64 last.f2] 23 (0, 0)))
   ∧ W.heap[g3]? = some (.cells #[.int .i64 a0_0, .int .i64 a0_1, .int .i64 a0_2, .int .i64 a0_3, .int .i64 a0_4, .int .i64 a0_5, .slice A0_6 l0_6.length c0_6] 26 (0, 0)) ∧ W.heap[g6]? = some (.cells #[.int .i64 0, .int .i64 0, .int .i64 0] 23 (0, 0)) ∧ W.heap[g7]? = some (.cells #[.int .i64 0, .int .i64 0, .int .i64 0] 23 (0, 0)) ∧ W.heap[g8]? = some (.cells #[.bool false] 4 (0, 0)) ∧ Below w.heap.size w W)
  (fun c pre W => c = .ret ∧ W.heap[g6]? = some (.cells #[.int .i64 r1, .int .i64 r2, .int .i64 r3] 23 (0, 0)) ∧ W.heap[g7]? = some (.cells #[.int .i64 r4, .int .i64 r5, .int .i64 r6] 23 (0, 0)) ∧ W.heap[g8]? = some (.cells #[.bool r7] 4 (0, 0)) ∧ Below w.heap.size w W)
  (fun s A B h hb => ⟨h.1.imp fun rest h => h.imp fun last h => ⟨h.1, h.2.1, (hb.block _ L9).trans h.2.2⟩, (hb.block _ L3).trans h.2.1, (hb.block _ L6).trans h.2.2.1, (hb.block _ L7).trans h.2.2.2.1, (hb.block _ L8).trans h.2.2.2.2.1, h.2.2.2.2.2.trans (hb.mono HB.out.size)⟩)
  (fun c s A B h hb => ⟨h.1, (hb.block _ L6).trans h.2.1, (hb.block _ L7).trans h.2.2.1, (hb.block _ L8).trans h.2.2.2.1, h.2.2.2.2.trans (hb.mono HB.out.size)⟩)
  ⟨⟨_, _, rfl, HH.out, B9.out⟩, B3.out, B6.out, B7.out, B8.out, HB.out⟩
  (fun x a W => ∃ Bx : Nat, w1.heap.size + 1 < Bx ∧ W.heap[Bx]? = some (.cells #[.int .i64 x.f0, .int .i64 x.f1, .int .i64 x.f2] 23 (0, 0)) ∧ a = { tmps := #[.agg #[.int .i64 a0_0, .int .i64 a0_1, .int .i64 a0_2, .int .i64 a0_3, .int .i64 a0_4, .int .i64 a0_5, .slice A0_6 l0_6.length c0_6], .agg #[.int .i64 a1_0, .int .i64 a1_1, .int .i64 a1_2], .int .i64 a2, .pointer (some ⟨g3, 0, none⟩), .pointer (some ⟨g4, 0, none⟩), undef, .pointer (some ⟨g6, 0, none⟩), .pointer (some ⟨g7, 0, none⟩), .pointer (some ⟨g8, 0, none⟩), .pointer (some ⟨g9, 0, none⟩), .pointer (some ⟨Bx, 0, none⟩), .agg #[.int .i64 a1_0, .int .i64 a1_1, .int .i64 a1_2], .agg #[.int .i64 a1_0, .int .i64 a1_1, .int .i64 a1_2], .agg #[.int .i64 a1_0, .int .i64 a1_1, .int .i64 a1_2], .int .i64 a2, .agg #[.int .i64 (aheadP a1_0 a1_1 a1_2 a2).f0, .int .i64 (aheadP a1_0 a1_1 a1_2 a2).f1, .int .i64 (aheadP a1_0 a1_1 a1_2 a2).f2], .func (.func 90) #[] #[.pointer (some ⟨g1, 0, none⟩), .pointer (some ⟨g2, 0, none⟩)], .agg #[.int .i64 x.f0, .int .i64 x.f1, .int .i64 x.f2], undef, undef, undef, undef, undef, undef, undef, undef], defers := [] })
  (by rintro x a A o ⟨Bx, h1, h2, h3⟩; exact ⟨Bx, h1, (World.putObj_heap_other (by omega)).trans h2, h3⟩) ?assign ?body ?done ?stop
 case assign =>
  rintro l pre x W K ⟨⟨rest, last, he, ho, h9⟩, h3, h6, h7, h8, hB⟩ hl hK
  dsimp only [enc23]
  gi_wp2
  exact hK _ _ (KK.of_below (below_alloc (Below.refl _ _) _)) ⟨⟨rest, last, he, ho, blk_alloc h9 _⟩, blk_alloc h3 _, blk_alloc h6 _, blk_alloc h7 _, blk_alloc h8 _, below_alloc hB _⟩ ⟨W.heap.size, hl, blk_new _ _, rfl⟩
 case body =>
  rintro l pre x a₁ W ⟨⟨rest, last, he, ho, h9⟩, h3, h6, h7, h8, hB⟩ ⟨Bx, h1, h2, rfl⟩ hpre hl
  obtain ⟨rest', rfl⟩ : ∃ r', rest = x :: r' := by
   obtain ⟨t, ht⟩ := hpre
   rw [← he, List.append_assoc] at ht
   exact ⟨t, (List.append_cancel_left ht).symm⟩
  obtain ⟨b, hgx, ho⟩ := Option.bind_eq_some_iff.1 ho
  have s0 := ct h3 0
  have s1 := ct h3 1
  have s2 := ct h3 2
  have s3 := ct h3 3
  have s4 := ct h3 4
  have s5 := ct h3 5
  have s6 := ct h3 6
  have x0 := ct h2 0
  have x1 := ct h2 1
  have x2 := ct h2 2
  have hgx := mk0 hgx
  have h2 := mk0 h2
  have h3 := mk0 h3
  have h6 := mk0 h6
  have h7 := mk0 h7
  have h8 := mk0 h8
  have h9 := mk0 h9
  have hB := mk0 hB
  have he := mk0 he
  cases b
  ·gi_wp2_with (refine ⟨trivial, ?_⟩; gi_at_call 39; refine (CallsIn.inRound l (callsIn_wide.2 (probe_Solid_full.calls 9 a0_0 a0_1 a0_2 a0_3 a0_4 a0_5 A0_6 c0_6 l0_6 x.f0 x.f1 x.f2 false W (Kd.C_below HR.out hB.out) HC.out hgx.out))).mono ?_; rintro e w2 ⟨rfl, hb⟩; have k2 := mk0 (blk_below h2.out hb); have k9 := mk0 (blk_below h9.out hb); have y0 := ct k2.out 0; have y1 := ct k2.out 1; have y2 := ct k2.out 2; have q0 := ct k9.out 0; have q1 := ct k9.out 1; have q2 := ct k9.out 2; have p0 := blk_frozen k9.out 0; have p1 := blk_frozen k9.out 1; have p2 := blk_frozen k9.out 2; have hb := mk0 hb)
   have ne9 := NE.out
   exact ⟨(KK.of_below hb.out).trans (((KK.setCell _ _ _ L9).trans (KK.setCell _ _ _ L9)).trans (KK.setCell _ _ _ L9)), ⟨rest', x, by rw [← he.out]; simp, ho, blk_put (blk_put (blk_put k9.out 0 _ rfl) 1 _ rfl) 2 _ rfl⟩, far3 (blk_below h3.out hb.out) (by omega), far3 (blk_below h6.out hb.out) (by omega), far3 (blk_below h7.out hb.out) (by omega), far3 (blk_below h8.out hb.out) (by omega), ((((hB.out.trans (hb.out.mono hB.out.size)).setCell (by simp; omega) _).setCell (by simp; omega) _).setCell (by simp; omega) _)⟩
  ·simp only [if_true, Option.some.injEq, Prod.mk.injEq] at ho
   obtain ⟨rfl, rfl, rfl, rfl, rfl, rfl, rfl⟩ := ho
   gi_wp2_with (refine ⟨trivial, ?_⟩; gi_at_call 39; refine (CallsIn.inRound l (callsIn_wide.2 (probe_Solid_full.calls 9 a0_0 a0_1 a0_2 a0_3 a0_4 a0_5 A0_6 c0_6 l0_6 x.f0 x.f1 x.f2 true W (Kd.C_below HR.out hB.out) HC.out hgx.out))).mono ?_; rintro e w2 ⟨rfl, hb⟩; have k2 := mk0 (blk_below h2.out hb); have k9 := mk0 (blk_below h9.out hb); have y0 := ct k2.out 0; have y1 := ct k2.out 1; have y2 := ct k2.out 2; have q0 := ct k9.out 0; have q1 := ct k9.out 1; have q2 := ct k9.out 2; have p0 := blk_frozen k9.out 0; have p1 := blk_frozen k9.out 1; have p2 := blk_frozen k9.out 2; have k6 := mk0 (blk_below h6.out hb); have k7 := mk0 (blk_below h7.out hb); have k8 := mk0 (blk_below h8.out hb); have m0 := ct k6.out 0; have m1 := ct k6.out 1; have m2 := ct k6.out 2; have n0 := ct k7.out 0; have n1 := ct k7.out 1; have n2 := ct k7.out 2; have o0 := ct k8.out 0; have u0 := blk_frozen k6.out 0; have u1 := blk_frozen k6.out 1; have u2 := blk_frozen k6.out 2; have v0 := blk_frozen k7.out 0; have v1 := blk_frozen k7.out 1; have v2 := blk_frozen k7.out 2; have z0 := blk_frozen k8.out 0; have hb := mk0 hb)
   have ne9 := NE.out
   have e1 : g9 ≠ g6 := by omega
   have e2 : g6 ≠ g9 := by omega
   have e3 : g7 ≠ g6 := by omega
   have e4 : g6 ≠ g7 := by omega
   have e5 : g8 ≠ g6 := by omega
   have e6 : g6 ≠ g8 := by omega
   have e7 : g8 ≠ g7 := by omega
   have e8 : g7 ≠ g8 := by omega
   have ne9 := mk0 ne9
   gi_region
   all_goals gi_wp2
   all_goals
    refine ⟨KK.drew ?_, rfl, ?_, ?_, ?_, below_drew1 ?_⟩
    ·exact (KK.of_below hb.out).trans ((((((((KK.setCell _ _ _ L6).trans (KK.setCell _ _ _ L6)).trans (KK.setCell _ _ _ L6)).trans (KK.setCell _ _ _ L7)).trans (KK.setCell _ _ _ L7)).trans (KK.setCell _ _ _ L7)).trans (KK.setCell _ _ _ L8)))
    ·exact blk_drew (blk_far (far3 (blk_put (blk_put (blk_put k6.out 0 _ rfl) 1 _ rfl) 2 _ rfl) e4) e6 _)
    ·exact blk_drew (blk_far (blk_put (blk_put (blk_put (far3 k7.out e3) 0 _ rfl) 1 _ rfl) 2 _ rfl) e8 _)
    ·exact blk_drew (blk_put (far3 (far3 k8.out e5) e7) 0 _ rfl)
    ·exact (((((((hB.out.trans (hb.out.mono hB.out.size)).setCell (le6 ne9.out) _).setCell (le6 ne9.out) _).setCell (le6 ne9.out) _).setCell (le7 ne9.out) _).setCell (le7 ne9.out) _).setCell (le7 ne9.out) _).setCell (le8 ne9.out) _
 case done =>
  rintro W ⟨⟨rest, last, he, ho, h9⟩, h3, h6, h7, h8, hB⟩ hK
  obtain rfl : rest = [] := by simpa using he
  simp only [touchL, Option.some.injEq, Prod.mk.injEq] at ho
  obtain ⟨rfl, rfl, rfl, rfl, rfl, rfl, rfl⟩ := ho
  have m0 := ct h6 0
  have m1 := ct h6 1
  have m2 := ct h6 2
  have n0 := ct h7 0
  have n1 := ct h7 1
  have n2 := ct h7 2
  have o0 := ct h8 0
  have u0 := blk_frozen h6 0
  have u1 := blk_frozen h6 1
  have u2 := blk_frozen h6 2
  have v0 := blk_frozen h7 0
  have v1 := blk_frozen h7 1
  have v2 := blk_frozen h7 2
  have z0 := blk_frozen h8 0
  have ne9 := NE.out
  have e3 : g7 ≠ g6 := by omega
  have e4 : g6 ≠ g7 := by omega
  have e5 : g8 ≠ g6 := by omega
  have e6 : g6 ≠ g8 := by omega
  have e7 : g8 ≠ g7 := by omega
  have e8 : g7 ≠ g8 := by omega
  have ne9 := mk0 ne9
  have h6 := mk0 h6
  have h7 := mk0 h7
  have h8 := mk0 h8
  have hK := mk0 hK
  have hB := mk0 hB
  gi_wp2
  have n6 : w1.heap.size ≠ g6 := by omega
  have n7 : w1.heap.size ≠ g7 := by omega
  have n8 : w1.heap.size ≠ g8 := by omega
  have n6' := n6.symm
  have n7' := n7.symm
  have n8' := n8.symm
  refine ⟨by simp, .inl ⟨_, _, rfl, run_takeDeferred ((Below.heap_setCell _ _ _ _ n8).trans ((Below.heap_setCell _ _ _ _ n7).trans ((Below.heap_setCell _ _ _ _ n7).trans ((Below.heap_setCell _ _ _ _ n7).trans ((Below.heap_setCell _ _ _ _ n6).trans ((Below.heap_setCell _ _ _ _ n6).trans ((Below.heap_setCell _ _ _ _ n6).trans hK.out))))))), ?_⟩⟩
  have b6 := (World.putObj_heap_other (o := .deferred none) n6').trans (blk_far (u := .bool false) (far3 (u := .int .i64 0) (v := .int .i64 0) (z := .int .i64 0) (blk_put (blk_put (blk_put h6.out 0 (.int .i64 0) rfl) 1 (.int .i64 0) rfl) 2 (.int .i64 0) rfl) e4) (p := ⟨g8, 0, none⟩) e6)
  have b7 := (World.putObj_heap_other (o := .deferred none) n7').trans (blk_far (u := .bool false) (p := ⟨g8, 0, none⟩) (blk_put (blk_put (blk_put (far3 (u := .int .i64 0) (v := .int .i64 0) (z := .int .i64 0) h7.out e3) 0 (.int .i64 0) rfl) 1 (.int .i64 0) rfl) 2 (.int .i64 0) rfl) e8)
  have b8 := (World.putObj_heap_other (o := .deferred none) n8').trans (blk_put (far3 (u := .int .i64 0) (v := .int .i64 0) (z := .int .i64 0) (far3 (u := .int .i64 0) (v := .int .i64 0) (z := .int .i64 0) h8.out e5) e7) 0 (.bool false) rfl)
  have m0 := ct b6 0
  have m1 := ct b6 1
  have m2 := ct b6 2
  have n0 := ct b7 0
  have n1 := ct b7 1
  have n2 := ct b7 2
  have o0 := ct b8 0
  refine ⟨_, ?_, rfl, ?_⟩
  ·simp [results, Tryz.f47, go_sem, m0, m1, m2, n0, n1, n2, o0, hu23, run_underlying]
  ·refine Below.trans ?_ (below_putObj _ _ (.deferred (some [])) _ HB.out.size ?_)
   ·exact ((((((hB.out.setCell (le6 ne9.out) _).setCell (le6 ne9.out) _).setCell (le6 ne9.out) _).setCell (le7 ne9.out) _).setCell (le7 ne9.out) _).setCell (le7 ne9.out) _).setCell (le8 ne9.out) _
   ·exact ((Below.heap_setCell _ _ _ _ n8).trans ((Below.heap_setCell _ _ _ _ n7).trans ((Below.heap_setCell _ _ _ _ n7).trans ((Below.heap_setCell _ _ _ _ n7).trans ((Below.heap_setCell _ _ _ _ n6).trans ((Below.heap_setCell _ _ _ _ n6).trans ((Below.heap_setCell _ _ _ _ n6).trans hK.out)))))))
 case stop => 
  rintro c pre W hpre ⟨rfl, h6, h7, h8, hB⟩ hK
  have n6 : g6 ≠ w1.heap.size := by omega
  have n7 : g7 ≠ w1.heap.size := by omega
  have n8 : g8 ≠ w1.heap.size := by omega
  have h6 := mk0 h6
  have h7 := mk0 h7
  have h8 := mk0 h8
  have hB := mk0 hB
  have hK := mk0 hK
  gi_wp2
  refine ⟨by simp, .inl ⟨_, _, rfl, run_takeDeferred hK.out, ?_⟩⟩
  have b6 := (World.putObj_heap_other (w := W) (o := .deferred none) n6).trans h6.out
  have b7 := (World.putObj_heap_other (w := W) (o := .deferred none) n7).trans h7.out
  have b8 := (World.putObj_heap_other (w := W) (o := .deferred none) n8).trans h8.out
  have m0 := ct b6 0
  have m1 := ct b6 1
  have m2 := ct b6 2
  have n0 := ct b7 0
  have n1 := ct b7 1
  have n2 := ct b7 2
  have o0 := ct b8 0
  refine ⟨_, ?_, rfl, hB.out.trans (below_putObj _ _ _ _ HB.out.size hK.out)⟩
  simp [results, Tryz.f47, go_sem, m0, m1, m2, n0, n1, n2, o0, hu23, run_underlying]
end Go.Proofs.YtolbjmaabghghaaGreatDoor.PA
