/- A part of the proof. -/
import Derived.Test.YtolbjmaabghghaaGreatDoorJ7PAx0
import Derived.Test.YtolbjmaabghghaaGreatDoorJ7PAx3
namespace Go.Proofs.YtolbjmaabghghaaGreatDoor.PA
open Go.RowKit Go.PW Go.PL Go.PM
attribute [local go_sem] max2_int min2_int max_two min_two max_three min_three max_four min_four   -- for this text's walks alone
set_option linter.unusedVariables false
set_option maxHeartbeats 8000000
set_option maxRecDepth 100000
set_option linter.unusedSimpArgs false
def probe_straight.l0 : Nat → Int → Int → Int → Int → Int → Int → Int → Int → Option (Bool)
 | 0, _, _, _, _, _, _, _, _ => none
 | k + 1, x5, x13, x278000, x278001, x278002, x279000, x279001, x279002 => if x13 < 3 then (if 0 ≤ x13 then (if x13 = 0 then (if x278000 = x279000 then (probe_straight.l0 k x5 (wrap64 (x13 + 1)) x278000 x278001 x278002 x279000 x279001 x279002) else (probe_straight.l0 k (wrap64 (x5 + 1)) (wrap64 (x13 + 1)) x278000 x278001 x278002 x279000 x279001 x279002)) else (if x13 = 1 then (if x278001 = x279001 then (probe_straight.l0 k x5 (wrap64 (x13 + 1)) x278000 x278001 x278002 x279000 x279001 x279002) else (probe_straight.l0 k (wrap64 (x5 + 1)) (wrap64 (x13 + 1)) x278000 x278001 x278002 x279000 x279001 x279002)) else (if x13 = 2 then (if x278002 = x279002 then (probe_straight.l0 k x5 (wrap64 (x13 + 1)) x278000 x278001 x278002 x279000 x279001 x279002) else (probe_straight.l0 k (wrap64 (x5 + 1)) (wrap64 (x13 + 1)) x278000 x278001 x278002 x279000 x279001 x279002)) else (none)))) else (none)) else (some (decide (x5 ≤ 1)))
def probe_straight.f (k : Nat) (a0_0 : Int) (a0_1 : Int) (a0_2 : Int) (a1_0 : Int) (a1_1 : Int) (a1_2 : Int) : Option (Bool) := (probe_of.f a0_0 a0_1 a0_2).bind fun bt271 => ((probe_of.f a1_0 a1_1 a1_2).bind fun bt274 => (probe_straight.l0 k 0 0 bt271.1 bt271.2.1 bt271.2.2 bt274.1 bt274.2.1 bt274.2.2))
def probe_straight.T2 : Bool × List (List Nat × List Nat) := (true, [([], []), ([0], [0]), ([], []), ([2, 1], [2]), ([], []), ([], []), ([4, 1, 3, 0, 1, 4, 5], [1, 4]), ([5, 3, 6, 0, 1, 2, 3, 4, 5, 6], [3, 5])])
def probe_straight.B2 : List Nat := [0, 1, 0, 7, 0, 0, 63, 127]
theorem probe_straight.tab2 : rtab .any (opsOf Tryz.f60 2) = probe_straight.T2 := by kernel_rfl
theorem probe_straight.bits2 : waitsOk probe_straight.T2.2 probe_straight.B2 = true := by kernel_rfl
theorem probe_straight.calls (k : Nat) (a0_0 : Int) (a0_1 : Int) (a0_2 : Int) (a1_0 : Int) (a1_1 : Int) (a1_2 : Int) (r : Bool) (w : World) (h : probe_straight.f k a0_0 a0_1 a0_2 a1_0 a1_1 a1_2 = some r) :
  Calls Tryz.prog 60 #[.agg #[.int .i64 a0_0, .int .i64 a0_1, .int .i64 a0_2], .agg #[.int .i64 a1_0, .int .i64 a1_1, .int .i64 a1_2]] w fun e w' => e = .returned (.bool r) ∧ Below w.heap.size w w' := by
 have hu23 := Tryz.underlying23
 have hu101 := Tryz.underlying101
 have HB := mk0 (Below.refl w.heap.size w)
 have H : ((probe_of.f a0_0 a0_1 a0_2).bind fun bt271 => ((probe_of.f a1_0 a1_1 a1_2).bind fun bt274 => (probe_straight.l0 k 0 0 bt271.1 bt271.2.1 bt271.2.2 bt274.1 bt274.2.1 bt274.2.2))) = some r := h
 clear h
 replace H := Option.bind_eq_some_iff.mp H
 obtain ⟨⟨t271, t272, t273⟩, A30, H⟩ := H
 (try dsimp only at H)
 have A3 := mk0 A30
 clear A30
 replace H := Option.bind_eq_some_iff.mp H
 obtain ⟨⟨t274, t275, t276⟩, A40, H⟩ := H
 (try dsimp only at H)
 have A4 := mk0 A40
 clear A40
 have H' := mk0 H
 clear H
 go_enter Tryz.func60, Tryz.ntmps60
 try go_wp2_with (first | ((with_reducible refine gate_dst (N := 2) rfl ?_); refine box_event ?hg (N := 2) ?hd (cs := #[.int .i64 a0_0, .int .i64 a0_1, .int .i64 a0_2]) (t := 23) ?hr ?_; (case hd => rfl); (case hg => rfl); (case hr => first | (go_simp; done) | (go_simp; rfl)); intro gb269 hg w5 hbox hb; have n0_ := mk0 (below_step (wT HB.out) hb); have n1_ := mk0 (hbox); have n2_ := mk0 ((szT HB.out hg)); have n3_ := mk0 ((szT HB.out hg)); clear HB; have HB := n0_; have BK269 := n1_; have GW269 := n2_; have GE269 := n3_; clear n0_ n1_ n2_ n3_; clear hb hbox hg) | ((with_reducible refine gate_dst (N := 3) rfl ?_); refine box_event ?hg (N := 3) ?hd (cs := #[.int .i64 a1_0, .int .i64 a1_1, .int .i64 a1_2]) (t := 23) ?hr ?_; (case hd => rfl); (case hg => rfl); (case hr => first | (go_simp; done) | (go_simp; rfl)); intro gb270 hg w6 hbox hb; have n0_ := mk0 (bbT BK269.out hb); have n1_ := mk0 (below_step (wT HB.out) hb); have n2_ := mk0 (hbox); have n3_ := mk0 ((szT HB.out hg)); have n4_ := mk0 ((szT HB.out hg)); have n5_ := mk0 ((neL BK269.out hg)); have n6_ := mk0 ((neG BK269.out hg)); clear BK269; clear HB; have BK269 := n0_; have HB := n1_; have BK270 := n2_; have GW270 := n3_; have GE270 := n4_; have NB269_270 := n5_; have NB270_269 := n6_; clear n0_ n1_ n2_ n3_ n4_ n5_ n6_; clear hb hbox hg))
 have n0_ := mk0 (blk_drew BK269.out)
 have n1_ := mk0 (blk_drew BK270.out)
 have n2_ := mk0 (below_drew1 HB.out)
 clear BK269
 clear BK270
 clear HB
 have BK269 := n0_
 have BK270 := n1_
 have HB := n2_
 clear n0_ n1_ n2_
 refine start_ (n := 8) (S := fun w' => True) (ds := []) #[false, false, false, false, false, false, false, false] (by kernel_rfl) rfl rfl trivial (fun hHeld => ?_); refine with_tabW probe_straight.tab2 probe_straight.bits2 (fun HT_ HW_ => ?_)
 generalize w6.drew = w7 at BK269 BK270 HB hHeld ⊢
 refine inv_at [0, 1, 2, 3, 4, 5, 6, 7] (fun a0_ b a w' => ∃ (gb277 : Nat) (gb278 : Nat) (m4_ : Value) (m5_ : Value), a = putSel a0_ b [(0, 9, .agg #[.int .i64 a0_0, .int .i64 a0_1, .int .i64 a0_2]), (1, 10, .agg #[.int .i64 t271, .int .i64 t272, .int .i64 t273]), (2, 11, .agg #[.int .i64 a1_0, .int .i64 a1_1, .int .i64 a1_2]), (3, 12, .agg #[.int .i64 t274, .int .i64 t275, .int .i64 t276]), (4, 6, m4_), (5, 7, m5_)] ∧ (w'.heap[gb269]? = some (.cells #[.int .i64 a0_0, .int .i64 a0_1, .int .i64 a0_2] 23 (0, 0))) ∧ (w'.heap[gb270]? = some (.cells #[.int .i64 a1_0, .int .i64 a1_1, .int .i64 a1_2] 23 (0, 0))) ∧ (Below w.heap.size w w') ∧ (b 4 = true → b 5 = true → gb278 ≠ gb277) ∧ (b 4 = true → b 5 = true → gb277 ≠ gb278) ∧ (b 4 = true → b 6 = false → w'.heap[gb277]? = some (.cells #[.int .i64 0, .int .i64 0, .int .i64 0] 101 (0, 0))) ∧ (b 4 = true → w.heap.size ≤ gb277) ∧ (b 4 = true → w.heap.size ≤ gb277) ∧ (b 4 = true → gb269 ≠ gb277) ∧ (b 4 = true → gb277 ≠ gb269) ∧ (b 4 = true → gb270 ≠ gb277) ∧ (b 4 = true → gb277 ≠ gb270) ∧ (b 5 = true → b 7 = false → w'.heap[gb278]? = some (.cells #[.int .i64 0, .int .i64 0, .int .i64 0] 101 (0, 0))) ∧ (b 5 = true → w.heap.size ≤ gb278) ∧ (b 5 = true → w.heap.size ≤ gb278) ∧ (b 5 = true → gb269 ≠ gb278) ∧ (b 5 = true → gb278 ≠ gb269) ∧ (b 5 = true → gb270 ≠ gb278) ∧ (b 5 = true → gb278 ≠ gb270) ∧ (b 6 = true → w'.heap[gb277]? = some (.cells #[.int .i64 t271, .int .i64 t272, .int .i64 t273] 101 (0, 0))) ∧ (b 7 = true → w'.heap[gb278]? = some (.cells #[.int .i64 t274, .int .i64 t275, .int .i64 t276] 101 (0, 0))) ∧ (b 4 = true → (m4_ : Value) = .pointer (some ⟨gb277, 0, none⟩)) ∧ (b 5 = true → (m5_ : Value) = .pointer (some ⟨gb278, 0, none⟩))) HT_.out HW_.out (by kernel_rfl) (by kernel_rfl) ?_ ?_ ?_
 ·exact ⟨0, 0, .bool false, .bool false, by simp only [putSel, Bool.false_eq_true, if_false], BK269.out, BK270.out, HB.out, fun h_ => absurd h_ (by decide), fun h_ => absurd h_ (by decide), fun h_ => absurd h_ (by decide), fun h_ => absurd h_ (by decide), fun h_ => absurd h_ (by decide), fun h_ => absurd h_ (by decide), fun h_ => absurd h_ (by decide), fun h_ => absurd h_ (by decide), fun h_ => absurd h_ (by decide), fun h_ => absurd h_ (by decide), fun h_ => absurd h_ (by decide), fun h_ => absurd h_ (by decide), fun h_ => absurd h_ (by decide), fun h_ => absurd h_ (by decide), fun h_ => absurd h_ (by decide), fun h_ => absurd h_ (by decide), fun h_ => absurd h_ (by decide), fun h_ => absurd h_ (by decide), fun h_ => absurd h_ (by decide), fun h_ => absurd h_ (by decide)⟩
 ·skip
  clear BK269 BK270 HB
  refine steps_cons ?_ ?_
  ·rintro b a w' ⟨gb277, gb278, m4_, m5_, ha, Q_BK269, Q_BK270, Q_HB, Q_NB278_277, Q_NB277_278, Q_BK277, Q_GW277, Q_GE277, Q_NB269_277, Q_NB277_269, Q_NB270_277, Q_NB277_270, Q_BK278, Q_GW278, Q_GE278, Q_NB269_278, Q_NB278_269, Q_NB270_278, Q_NB278_270, Q_BK277_e6, Q_BK278_e7, Q_X4_, Q_X5_⟩ hb_ hon hoff
   refine ⟨_, rfl, fun K hK => ?_⟩
   have e2 : a.tmps[2]? = some (.pointer (some ⟨gb269, 0, none⟩)) := by rw [ha]; exact (putSel_off rfl).trans rfl
   replace ha := mk0 ha
   have BK269 := mk0 Q_BK269
   have BK270 := mk0 Q_BK270
   have HB := mk0 Q_HB
   have hc0_ := ct BK269.out 0
   have hc1_ := ct BK269.out 1
   have hc2_ := ct BK269.out 2
   refine value_ (w1 := w') (v := .agg #[.int .i64 a0_0, .int .i64 a0_1, .int .i64 a0_2]) (by rfl) rfl ?_ ?_
   ·go_simp
    (try simp only [i64_w])
    try rfl
   refine hK.out _ _ ⟨gb277, gb278, m4_, m5_, (by rw [ha.out]; exact putSel_upk 0 hb_ rfl rfl rfl), Q_BK269, Q_BK270, Q_HB, Q_NB278_277, Q_NB277_278, Q_BK277, Q_GW277, Q_GE277, Q_NB269_277, Q_NB277_269, Q_NB270_277, Q_NB277_270, Q_BK278, Q_GW278, Q_GE278, Q_NB269_278, Q_NB278_269, Q_NB270_278, Q_NB278_270, fun h0_ => absurd ((hoff 6 (by kernel_rfl)).symm.trans h0_) (by decide), fun h0_ => absurd ((hoff 7 (by kernel_rfl)).symm.trans h0_) (by decide), Q_X4_, Q_X5_⟩
  refine steps_cons ?_ ?_
  ·rintro b a w' ⟨gb277, gb278, m4_, m5_, ha, Q_BK269, Q_BK270, Q_HB, Q_NB278_277, Q_NB277_278, Q_BK277, Q_GW277, Q_GE277, Q_NB269_277, Q_NB277_269, Q_NB270_277, Q_NB277_270, Q_BK278, Q_GW278, Q_GE278, Q_NB269_278, Q_NB278_269, Q_NB270_278, Q_NB278_270, Q_BK277_e6, Q_BK278_e7, Q_X4_, Q_X5_⟩ hb_ hon hoff
   refine ⟨_, rfl, fun K hK => ?_⟩
   have e9 : a.tmps[9]? = some (.agg #[.int .i64 a0_0, .int .i64 a0_1, .int .i64 a0_2]) := by rw [ha]; exact putSel_on (e := (0, 9, .agg #[.int .i64 a0_0, .int .i64 a0_1, .int .i64 a0_2])) 0 rfl rfl (hon 0 (by kernel_rfl)) rfl
   replace ha := mk0 ha
   have BK269 := mk0 Q_BK269
   have BK270 := mk0 Q_BK270
   have HB := mk0 Q_HB
   refine goes_ Tryz.func43 (by kernel_rfl) rfl #[.agg #[.int .i64 a0_0, .int .i64 a0_1, .int .i64 a0_2]] (by rfl) rfl rfl (by first | (simp only [List.map_toArray, List.map_cons, List.map_nil, Act.eval, Array.getD_eq_getD_getElem?, Option.getD_some, e9]; done) | (simp only [List.map_toArray, List.map_cons, List.map_nil, Act.eval, Array.getD_eq_getD_getElem?, Option.getD_some, e9]; rfl)) ?_
   with_reducible refine (probe_of.calls a0_0 a0_1 a0_2 t271 t272 t273 _ A3.out).mono ?_
   rintro e w8 ⟨rfl, hb⟩
   refine ⟨_, rfl, ?_⟩
   have n0_ := mk0 (bbT BK269.out hb)
   have n1_ := mk0 (bbT BK270.out hb)
   have n2_ := mk0 (below_step (wT HB.out) hb)
   have z_BK277 := fun (h0_ : b 4 = true) (h1_ : b 6 = false) => (bbT (Q_BK277 h0_ h1_) hb)
   have z_BK278 := fun (h0_ : b 5 = true) (h1_ : b 7 = false) => (bbT (Q_BK278 h0_ h1_) hb)
   clear BK269
   clear BK270
   clear HB
   have BK269 := n0_
   have BK270 := n1_
   have HB := n2_
   clear n0_ n1_ n2_
   (try clear hb)
   (try clear hb2)
   (try clear hk)
   (try clear hi)
   refine hK.out _ _ ⟨gb277, gb278, m4_, m5_, (by rw [ha.out]; exact putSel_upk 1 hb_ rfl rfl rfl), (bT BK269.out), (bT BK270.out), (wT HB.out), Q_NB278_277, Q_NB277_278, z_BK277, Q_GW277, Q_GE277, Q_NB269_277, Q_NB277_269, Q_NB270_277, Q_NB277_270, z_BK278, Q_GW278, Q_GE278, Q_NB269_278, Q_NB278_269, Q_NB270_278, Q_NB278_270, fun h0_ => absurd ((hoff 6 (by kernel_rfl)).symm.trans h0_) (by decide), fun h0_ => absurd ((hoff 7 (by kernel_rfl)).symm.trans h0_) (by decide), Q_X4_, Q_X5_⟩
  refine steps_cons ?_ ?_
  ·rintro b a w' ⟨gb277, gb278, m4_, m5_, ha, Q_BK269, Q_BK270, Q_HB, Q_NB278_277, Q_NB277_278, Q_BK277, Q_GW277, Q_GE277, Q_NB269_277, Q_NB277_269, Q_NB270_277, Q_NB277_270, Q_BK278, Q_GW278, Q_GE278, Q_NB269_278, Q_NB278_269, Q_NB270_278, Q_NB278_270, Q_BK277_e6, Q_BK278_e7, Q_X4_, Q_X5_⟩ hb_ hon hoff
   refine ⟨_, rfl, fun K hK => ?_⟩
   have e3 : a.tmps[3]? = some (.pointer (some ⟨gb270, 0, none⟩)) := by rw [ha]; exact (putSel_off rfl).trans rfl
   replace ha := mk0 ha
   have BK269 := mk0 Q_BK269
   have BK270 := mk0 Q_BK270
   have HB := mk0 Q_HB
   have hc0_ := ct BK270.out 0
   have hc1_ := ct BK270.out 1
   have hc2_ := ct BK270.out 2
   refine value_ (w1 := w') (v := .agg #[.int .i64 a1_0, .int .i64 a1_1, .int .i64 a1_2]) (by rfl) rfl ?_ ?_
   ·go_simp
    (try simp only [i64_w])
    try rfl
   refine hK.out _ _ ⟨gb277, gb278, m4_, m5_, (by rw [ha.out]; exact putSel_upk 2 hb_ rfl rfl rfl), Q_BK269, Q_BK270, Q_HB, Q_NB278_277, Q_NB277_278, Q_BK277, Q_GW277, Q_GE277, Q_NB269_277, Q_NB277_269, Q_NB270_277, Q_NB277_270, Q_BK278, Q_GW278, Q_GE278, Q_NB269_278, Q_NB278_269, Q_NB270_278, Q_NB278_270, fun h0_ => absurd ((hoff 6 (by kernel_rfl)).symm.trans h0_) (by decide), fun h0_ => absurd ((hoff 7 (by kernel_rfl)).symm.trans h0_) (by decide), Q_X4_, Q_X5_⟩
  refine steps_cons ?_ ?_
  ·rintro b a w' ⟨gb277, gb278, m4_, m5_, ha, Q_BK269, Q_BK270, Q_HB, Q_NB278_277, Q_NB277_278, Q_BK277, Q_GW277, Q_GE277, Q_NB269_277, Q_NB277_269, Q_NB270_277, Q_NB277_270, Q_BK278, Q_GW278, Q_GE278, Q_NB269_278, Q_NB278_269, Q_NB270_278, Q_NB278_270, Q_BK277_e6, Q_BK278_e7, Q_X4_, Q_X5_⟩ hb_ hon hoff
   refine ⟨_, rfl, fun K hK => ?_⟩
   have e11 : a.tmps[11]? = some (.agg #[.int .i64 a1_0, .int .i64 a1_1, .int .i64 a1_2]) := by rw [ha]; exact putSel_on (e := (2, 11, .agg #[.int .i64 a1_0, .int .i64 a1_1, .int .i64 a1_2])) 2 rfl rfl (hon 2 (by kernel_rfl)) rfl
   replace ha := mk0 ha
   have BK269 := mk0 Q_BK269
   have BK270 := mk0 Q_BK270
   have HB := mk0 Q_HB
   refine goes_ Tryz.func43 (by kernel_rfl) rfl #[.agg #[.int .i64 a1_0, .int .i64 a1_1, .int .i64 a1_2]] (by rfl) rfl rfl (by first | (simp only [List.map_toArray, List.map_cons, List.map_nil, Act.eval, Array.getD_eq_getD_getElem?, Option.getD_some, e11]; done) | (simp only [List.map_toArray, List.map_cons, List.map_nil, Act.eval, Array.getD_eq_getD_getElem?, Option.getD_some, e11]; rfl)) ?_
   with_reducible refine (probe_of.calls a1_0 a1_1 a1_2 t274 t275 t276 _ A4.out).mono ?_
   rintro e w10 ⟨rfl, hb⟩
   refine ⟨_, rfl, ?_⟩
   have n0_ := mk0 (bbT BK269.out hb)
   have n1_ := mk0 (bbT BK270.out hb)
   have n2_ := mk0 (below_step (wT HB.out) hb)
   have z_BK277 := fun (h0_ : b 4 = true) (h1_ : b 6 = false) => (bbT (Q_BK277 h0_ h1_) hb)
   have z_BK278 := fun (h0_ : b 5 = true) (h1_ : b 7 = false) => (bbT (Q_BK278 h0_ h1_) hb)
   clear BK269
   clear BK270
   clear HB
   have BK269 := n0_
   have BK270 := n1_
   have HB := n2_
   clear n0_ n1_ n2_
   (try clear hb)
   (try clear hb2)
   (try clear hk)
   (try clear hi)
   refine hK.out _ _ ⟨gb277, gb278, m4_, m5_, (by rw [ha.out]; exact putSel_upk 3 hb_ rfl rfl rfl), (bT BK269.out), (bT BK270.out), (wT HB.out), Q_NB278_277, Q_NB277_278, z_BK277, Q_GW277, Q_GE277, Q_NB269_277, Q_NB277_269, Q_NB270_277, Q_NB277_270, z_BK278, Q_GW278, Q_GE278, Q_NB269_278, Q_NB278_269, Q_NB270_278, Q_NB278_270, fun h0_ => absurd ((hoff 6 (by kernel_rfl)).symm.trans h0_) (by decide), fun h0_ => absurd ((hoff 7 (by kernel_rfl)).symm.trans h0_) (by decide), Q_X4_, Q_X5_⟩
  refine steps_cons ?_ ?_
  ·rintro b a w' ⟨gb277, gb278, m4_, m5_, ha, Q_BK269, Q_BK270, Q_HB, Q_NB278_277, Q_NB277_278, Q_BK277, Q_GW277, Q_GE277, Q_NB269_277, Q_NB277_269, Q_NB270_277, Q_NB277_270, Q_BK278, Q_GW278, Q_GE278, Q_NB269_278, Q_NB278_269, Q_NB270_278, Q_NB278_270, Q_BK277_e6, Q_BK278_e7, Q_X4_, Q_X5_⟩ hb_ hon hoff
   refine ⟨_, rfl, fun K hK => ?_⟩
   replace ha := mk0 ha
   have BK269 := mk0 Q_BK269
   have BK270 := mk0 Q_BK270
   have HB := mk0 Q_HB
   refine box_step ?hg (N := 6) ?hd (cs := #[.int .i64 0, .int .i64 0, .int .i64 0]) (t := 101) ?hr ?_; (case hd => rfl); (case hg => rfl); (case hr => first | (go_simp; done) | (go_simp; rfl))
   intro gb277 hg w8 hbox hb
   have n0_ := mk0 (bbT BK269.out hb)
   have n1_ := mk0 (bbT BK270.out hb)
   have n2_ := mk0 (below_step (wT HB.out) hb)
   have n3_ := mk0 (hbox)
   have n4_ := mk0 ((szT HB.out hg))
   have n5_ := mk0 ((szT HB.out hg))
   have n6_ := mk0 ((neL BK269.out hg))
   have n7_ := mk0 ((neG BK269.out hg))
   have n8_ := mk0 ((neL BK270.out hg))
   have n9_ := mk0 ((neG BK270.out hg))
   have z_NB278_277 := fun (h0_ : up b 4 4 = true) (h1_ : up b 4 5 = true) => (show gb278 ≠ gb277 from by rw [hg]; exact Nat.ne_of_lt ((show gb278 < w'.heap.size by cases hq_ : b 7 with | false => exact blk_lt (Q_BK278 h1_ hq_) | true => exact blk_lt (Q_BK278_e7 hq_))))
   have z_NB277_278 := fun (h0_ : up b 4 4 = true) (h1_ : up b 4 5 = true) => (show gb277 ≠ gb278 from by rw [hg]; exact Nat.ne_of_gt ((show gb278 < w'.heap.size by cases hq_ : b 7 with | false => exact blk_lt (Q_BK278 h1_ hq_) | true => exact blk_lt (Q_BK278_e7 hq_))))
   have z_BK278 := fun (h0_ : b 5 = true) (h1_ : b 7 = false) => (bbT (Q_BK278 h0_ h1_) hb)
   clear BK269
   clear BK270
   clear HB
   have BK269 := n0_
   have BK270 := n1_
   have HB := n2_
   have BK277 := n3_
   have GW277 := n4_
   have GE277 := n5_
   have NB269_277 := n6_
   have NB277_269 := n7_
   have NB270_277 := n8_
   have NB277_270 := n9_
   clear n0_ n1_ n2_ n3_ n4_ n5_ n6_ n7_ n8_ n9_
   clear hb hbox hg
   refine hK.out _ _ ⟨gb277, gb278, (.pointer (some ⟨gb277, 0, none⟩)), m5_, (by rw [ha.out]; exact putSel_upk 4 hb_ rfl rfl rfl), (bT BK269.out), (bT BK270.out), (wT HB.out), z_NB278_277, z_NB277_278, fun _ _ => (bT BK277.out), fun _ => GW277.out, fun _ => GE277.out, fun _ => NB269_277.out, fun _ => NB277_269.out, fun _ => NB270_277.out, fun _ => NB277_270.out, z_BK278, Q_GW278, Q_GE278, Q_NB269_278, Q_NB278_269, Q_NB270_278, Q_NB278_270, fun h0_ => absurd ((hoff 6 (by kernel_rfl)).symm.trans h0_) (by decide), fun h0_ => absurd ((hoff 7 (by kernel_rfl)).symm.trans h0_) (by decide), fun _ => rfl, Q_X5_⟩
  refine steps_cons ?_ ?_
  ·rintro b a w' ⟨gb277, gb278, m4_, m5_, ha, Q_BK269, Q_BK270, Q_HB, Q_NB278_277, Q_NB277_278, Q_BK277, Q_GW277, Q_GE277, Q_NB269_277, Q_NB277_269, Q_NB270_277, Q_NB277_270, Q_BK278, Q_GW278, Q_GE278, Q_NB269_278, Q_NB278_269, Q_NB270_278, Q_NB278_270, Q_BK277_e6, Q_BK278_e7, Q_X4_, Q_X5_⟩ hb_ hon hoff
   refine ⟨_, rfl, fun K hK => ?_⟩
   replace ha := mk0 ha
   have BK269 := mk0 Q_BK269
   have BK270 := mk0 Q_BK270
   have HB := mk0 Q_HB
   refine box_step ?hg (N := 7) ?hd (cs := #[.int .i64 0, .int .i64 0, .int .i64 0]) (t := 101) ?hr ?_; (case hd => rfl); (case hg => rfl); (case hr => first | (go_simp; done) | (go_simp; rfl))
   intro gb278 hg w8 hbox hb
   have n0_ := mk0 (bbT BK269.out hb)
   have n1_ := mk0 (bbT BK270.out hb)
   have n2_ := mk0 (below_step (wT HB.out) hb)
   have n3_ := mk0 (hbox)
   have n4_ := mk0 ((szT HB.out hg))
   have n5_ := mk0 ((szT HB.out hg))
   have n6_ := mk0 ((neL BK269.out hg))
   have n7_ := mk0 ((neG BK269.out hg))
   have n8_ := mk0 ((neL BK270.out hg))
   have n9_ := mk0 ((neG BK270.out hg))
   have z_NB278_277 := fun (h0_ : up b 5 4 = true) (h1_ : up b 5 5 = true) => (show gb278 ≠ gb277 from by rw [hg]; exact Nat.ne_of_gt ((show gb277 < w'.heap.size by cases hq_ : b 6 with | false => exact blk_lt (Q_BK277 h0_ hq_) | true => exact blk_lt (Q_BK277_e6 hq_))))
   have z_NB277_278 := fun (h0_ : up b 5 4 = true) (h1_ : up b 5 5 = true) => (show gb277 ≠ gb278 from by rw [hg]; exact Nat.ne_of_lt ((show gb277 < w'.heap.size by cases hq_ : b 6 with | false => exact blk_lt (Q_BK277 h0_ hq_) | true => exact blk_lt (Q_BK277_e6 hq_))))
   have z_BK277 := fun (h0_ : b 4 = true) (h1_ : b 6 = false) => (bbT (Q_BK277 h0_ h1_) hb)
   clear BK269
   clear BK270
   clear HB
   have BK269 := n0_
   have BK270 := n1_
   have HB := n2_
   have BK278 := n3_
   have GW278 := n4_
   have GE278 := n5_
   have NB269_278 := n6_
   have NB278_269 := n7_
   have NB270_278 := n8_
   have NB278_270 := n9_
   clear n0_ n1_ n2_ n3_ n4_ n5_ n6_ n7_ n8_ n9_
   clear hb hbox hg
   refine hK.out _ _ ⟨gb277, gb278, m4_, (.pointer (some ⟨gb278, 0, none⟩)), (by rw [ha.out]; exact putSel_upk 5 hb_ rfl rfl rfl), (bT BK269.out), (bT BK270.out), (wT HB.out), z_NB278_277, z_NB277_278, z_BK277, Q_GW277, Q_GE277, Q_NB269_277, Q_NB277_269, Q_NB270_277, Q_NB277_270, fun _ _ => (bT BK278.out), fun _ => GW278.out, fun _ => GE278.out, fun _ => NB269_278.out, fun _ => NB278_269.out, fun _ => NB270_278.out, fun _ => NB278_270.out, fun h0_ => absurd ((hoff 6 (by kernel_rfl)).symm.trans h0_) (by decide), fun h0_ => absurd ((hoff 7 (by kernel_rfl)).symm.trans h0_) (by decide), Q_X4_, fun _ => rfl⟩
  refine steps_cons ?_ ?_
  ·rintro b a w' ⟨gb277, gb278, m4_, m5_, ha, Q_BK269, Q_BK270, Q_HB, Q_NB278_277, Q_NB277_278, Q_BK277, Q_GW277, Q_GE277, Q_NB269_277, Q_NB277_269, Q_NB270_277, Q_NB277_270, Q_BK278, Q_GW278, Q_GE278, Q_NB269_278, Q_NB278_269, Q_NB270_278, Q_NB278_270, Q_BK277_e6, Q_BK278_e7, Q_X4_, Q_X5_⟩ hb_ hon hoff
   refine ⟨_, rfl, fun K hK => ?_⟩
   have e6 : a.tmps[6]? = some (m4_) := by rw [ha]; exact putSel_on (e := (4, 6, m4_)) 4 rfl rfl (hon 4 (by kernel_rfl)) rfl
   rw [Q_X4_ (hon 4 (by kernel_rfl))] at e6
   have e10 : a.tmps[10]? = some (.agg #[.int .i64 t271, .int .i64 t272, .int .i64 t273]) := by rw [ha]; exact putSel_on (e := (1, 10, .agg #[.int .i64 t271, .int .i64 t272, .int .i64 t273])) 1 rfl rfl (hon 1 (by kernel_rfl)) rfl
   replace ha := mk0 ha
   have BK269 := mk0 Q_BK269
   have BK270 := mk0 Q_BK270
   have HB := mk0 Q_HB
   have NB278_277 := mk0 (Q_NB278_277 (hon 4 (by kernel_rfl)) (hon 5 (by kernel_rfl)))
   have NB277_278 := mk0 (Q_NB277_278 (hon 4 (by kernel_rfl)) (hon 5 (by kernel_rfl)))
   have BK277 := mk0 (Q_BK277 (hon 4 (by kernel_rfl)) hb_)
   have GW277 := mk0 (Q_GW277 (hon 4 (by kernel_rfl)))
   have GE277 := mk0 (Q_GE277 (hon 4 (by kernel_rfl)))
   have NB269_277 := mk0 (Q_NB269_277 (hon 4 (by kernel_rfl)))
   have NB277_269 := mk0 (Q_NB277_269 (hon 4 (by kernel_rfl)))
   have NB270_277 := mk0 (Q_NB270_277 (hon 4 (by kernel_rfl)))
   have NB277_270 := mk0 (Q_NB277_270 (hon 4 (by kernel_rfl)))
   have BK278 := mk0 (Q_BK278 (hon 5 (by kernel_rfl)) (hoff 7 (by kernel_rfl)))
   have GW278 := mk0 (Q_GW278 (hon 5 (by kernel_rfl)))
   have GE278 := mk0 (Q_GE278 (hon 5 (by kernel_rfl)))
   have NB269_278 := mk0 (Q_NB269_278 (hon 5 (by kernel_rfl)))
   have NB278_269 := mk0 (Q_NB278_269 (hon 5 (by kernel_rfl)))
   have NB270_278 := mk0 (Q_NB270_278 (hon 5 (by kernel_rfl)))
   have NB278_270 := mk0 (Q_NB278_270 (hon 5 (by kernel_rfl)))
   have hs13 := ct BK277.out 0
   have hfs13 := blk_frozen BK277.out 0
   have hns13_0 := NB269_277.out
   have hns13_1 := NB270_277.out
   have hns13_3 := NB278_277.out
   have hms13_0 := NB277_269.out
   have hms13_1 := NB277_270.out
   have hms13_3 := NB277_278.out
   have hs14 := ct BK277.out 1
   have hfs14 := blk_frozen BK277.out 1
   have hns14_0 := NB269_277.out
   have hns14_1 := NB270_277.out
   have hns14_3 := NB278_277.out
   have hms14_0 := NB277_269.out
   have hms14_1 := NB277_270.out
   have hms14_3 := NB277_278.out
   have hs15 := ct BK277.out 2
   have hfs15 := blk_frozen BK277.out 2
   have hns15_0 := NB269_277.out
   have hns15_1 := NB270_277.out
   have hns15_3 := NB278_277.out
   have hms15_0 := NB277_269.out
   have hms15_1 := NB277_270.out
   have hms15_3 := NB277_278.out
   refine skip_ (w1 := ?_) (by rfl) rfl ?_ ?_
   rotate_left
   ·go_simp
    rfl
   refine hK.out _ _ ⟨gb277, gb278, m4_, m5_, (by rw [ha.out]; exact putSel_none (v := undef) rfl), (by (with_reducible repeat (first | refine blk_drewN ?_ _ | refine blk_drew ?_ | refine blk_alloc ?_ _)); refine blk_far ?_ NB269_277.out _; refine blk_far ?_ NB269_277.out _; refine blk_far ?_ NB269_277.out _; (with_reducible repeat (first | refine blk_drewN ?_ _ | refine blk_drew ?_ | refine blk_alloc ?_ _)); exact BK269.out), (by (with_reducible repeat (first | refine blk_drewN ?_ _ | refine blk_drew ?_ | refine blk_alloc ?_ _)); refine blk_far ?_ NB270_277.out _; refine blk_far ?_ NB270_277.out _; refine blk_far ?_ NB270_277.out _; (with_reducible repeat (first | refine blk_drewN ?_ _ | refine blk_drew ?_ | refine blk_alloc ?_ _)); exact BK270.out), (by repeat (first | (with_reducible first | exact HB.out | apply below_alloc | apply pw_below_drewN | apply below_drew1 | refine below_set ?_ GE277.out) | exact HB.out)), fun _ _ => NB278_277.out, fun _ _ => NB277_278.out, fun _ h1_ => absurd ((up_self b 6).symm.trans h1_) (by decide), fun _ => GW277.out, fun _ => GE277.out, fun _ => NB269_277.out, fun _ => NB277_269.out, fun _ => NB270_277.out, fun _ => NB277_270.out, fun _ _ => (by (with_reducible repeat (first | refine blk_drewN ?_ _ | refine blk_drew ?_ | refine blk_alloc ?_ _)); refine blk_far ?_ NB278_277.out _; refine blk_far ?_ NB278_277.out _; refine blk_far ?_ NB278_277.out _; (with_reducible repeat (first | refine blk_drewN ?_ _ | refine blk_drew ?_ | refine blk_alloc ?_ _)); exact BK278.out), fun _ => GW278.out, fun _ => GE278.out, fun _ => NB269_278.out, fun _ => NB278_269.out, fun _ => NB270_278.out, fun _ => NB278_270.out, fun _ => (by (with_reducible repeat (first | refine blk_drewN ?_ _ | refine blk_drew ?_ | refine blk_alloc ?_ _)); refine blk_put (cs := #[.int .i64 t271, .int .i64 t272, .int .i64 0]) ?_ 2 _ rfl; refine blk_put (cs := #[.int .i64 t271, .int .i64 0, .int .i64 0]) ?_ 1 _ rfl; refine blk_put (cs := #[.int .i64 0, .int .i64 0, .int .i64 0]) ?_ 0 _ rfl; (with_reducible repeat (first | refine blk_drewN ?_ _ | refine blk_drew ?_ | refine blk_alloc ?_ _)); exact BK277.out), fun h0_ => absurd ((hoff 7 (by kernel_rfl)).symm.trans h0_) (by decide), Q_X4_, Q_X5_⟩
  refine steps_cons ?_ ?_
  ·rintro b a w' ⟨gb277, gb278, m4_, m5_, ha, Q_BK269, Q_BK270, Q_HB, Q_NB278_277, Q_NB277_278, Q_BK277, Q_GW277, Q_GE277, Q_NB269_277, Q_NB277_269, Q_NB270_277, Q_NB277_270, Q_BK278, Q_GW278, Q_GE278, Q_NB269_278, Q_NB278_269, Q_NB270_278, Q_NB278_270, Q_BK277_e6, Q_BK278_e7, Q_X4_, Q_X5_⟩ hb_ hon hoff
   refine ⟨_, rfl, fun K hK => ?_⟩
   have e7 : a.tmps[7]? = some (m5_) := by rw [ha]; exact putSel_on (e := (5, 7, m5_)) 5 rfl rfl (hon 5 (by kernel_rfl)) rfl
   rw [Q_X5_ (hon 5 (by kernel_rfl))] at e7
   have e12 : a.tmps[12]? = some (.agg #[.int .i64 t274, .int .i64 t275, .int .i64 t276]) := by rw [ha]; exact putSel_on (e := (3, 12, .agg #[.int .i64 t274, .int .i64 t275, .int .i64 t276])) 3 rfl rfl (hon 3 (by kernel_rfl)) rfl
   replace ha := mk0 ha
   have BK269 := mk0 Q_BK269
   have BK270 := mk0 Q_BK270
   have HB := mk0 Q_HB
   have NB278_277 := mk0 (Q_NB278_277 (hon 4 (by kernel_rfl)) (hon 5 (by kernel_rfl)))
   have NB277_278 := mk0 (Q_NB277_278 (hon 4 (by kernel_rfl)) (hon 5 (by kernel_rfl)))
   have GW277 := mk0 (Q_GW277 (hon 4 (by kernel_rfl)))
   have GE277 := mk0 (Q_GE277 (hon 4 (by kernel_rfl)))
   have NB269_277 := mk0 (Q_NB269_277 (hon 4 (by kernel_rfl)))
   have NB277_269 := mk0 (Q_NB277_269 (hon 4 (by kernel_rfl)))
   have NB270_277 := mk0 (Q_NB270_277 (hon 4 (by kernel_rfl)))
   have NB277_270 := mk0 (Q_NB277_270 (hon 4 (by kernel_rfl)))
   have BK278 := mk0 (Q_BK278 (hon 5 (by kernel_rfl)) hb_)
   have GW278 := mk0 (Q_GW278 (hon 5 (by kernel_rfl)))
   have GE278 := mk0 (Q_GE278 (hon 5 (by kernel_rfl)))
   have NB269_278 := mk0 (Q_NB269_278 (hon 5 (by kernel_rfl)))
   have NB278_269 := mk0 (Q_NB278_269 (hon 5 (by kernel_rfl)))
   have NB270_278 := mk0 (Q_NB270_278 (hon 5 (by kernel_rfl)))
   have NB278_270 := mk0 (Q_NB278_270 (hon 5 (by kernel_rfl)))
   have BK277 := mk0 (Q_BK277_e6 (hon 6 (by kernel_rfl)))
   have hs16 := ct BK278.out 0
   have hfs16 := blk_frozen BK278.out 0
   have hns16_0 := NB269_278.out
   have hns16_1 := NB270_278.out
   have hns16_2 := NB277_278.out
   have hms16_0 := NB278_269.out
   have hms16_1 := NB278_270.out
   have hms16_2 := NB278_277.out
   have hs17 := ct BK278.out 1
   have hfs17 := blk_frozen BK278.out 1
   have hns17_0 := NB269_278.out
   have hns17_1 := NB270_278.out
   have hns17_2 := NB277_278.out
   have hms17_0 := NB278_269.out
   have hms17_1 := NB278_270.out
   have hms17_2 := NB278_277.out
   have hs18 := ct BK278.out 2
   have hfs18 := blk_frozen BK278.out 2
   have hns18_0 := NB269_278.out
   have hns18_1 := NB270_278.out
   have hns18_2 := NB277_278.out
   have hms18_0 := NB278_269.out
   have hms18_1 := NB278_270.out
   have hms18_2 := NB278_277.out
   refine skip_ (w1 := ?_) (by rfl) rfl ?_ ?_
   rotate_left
   ·go_simp
    rfl
   refine hK.out _ _ ⟨gb277, gb278, m4_, m5_, (by rw [ha.out]; exact putSel_none (v := undef) rfl), (by (with_reducible repeat (first | refine blk_drewN ?_ _ | refine blk_drew ?_ | refine blk_alloc ?_ _)); refine blk_far ?_ NB269_278.out _; refine blk_far ?_ NB269_278.out _; refine blk_far ?_ NB269_278.out _; (with_reducible repeat (first | refine blk_drewN ?_ _ | refine blk_drew ?_ | refine blk_alloc ?_ _)); exact BK269.out), (by (with_reducible repeat (first | refine blk_drewN ?_ _ | refine blk_drew ?_ | refine blk_alloc ?_ _)); refine blk_far ?_ NB270_278.out _; refine blk_far ?_ NB270_278.out _; refine blk_far ?_ NB270_278.out _; (with_reducible repeat (first | refine blk_drewN ?_ _ | refine blk_drew ?_ | refine blk_alloc ?_ _)); exact BK270.out), (by repeat (first | (with_reducible first | exact HB.out | apply below_alloc | apply pw_below_drewN | apply below_drew1 | refine below_set ?_ GE278.out) | exact HB.out)), fun _ _ => NB278_277.out, fun _ _ => NB277_278.out, fun _ h1_ => absurd ((hon 6 (by kernel_rfl)).symm.trans h1_) (by decide), fun _ => GW277.out, fun _ => GE277.out, fun _ => NB269_277.out, fun _ => NB277_269.out, fun _ => NB270_277.out, fun _ => NB277_270.out, fun _ h1_ => absurd ((up_self b 7).symm.trans h1_) (by decide), fun _ => GW278.out, fun _ => GE278.out, fun _ => NB269_278.out, fun _ => NB278_269.out, fun _ => NB270_278.out, fun _ => NB278_270.out, fun _ => (by (with_reducible repeat (first | refine blk_drewN ?_ _ | refine blk_drew ?_ | refine blk_alloc ?_ _)); refine blk_far ?_ NB277_278.out _; refine blk_far ?_ NB277_278.out _; refine blk_far ?_ NB277_278.out _; (with_reducible repeat (first | refine blk_drewN ?_ _ | refine blk_drew ?_ | refine blk_alloc ?_ _)); exact BK277.out), fun _ => (by (with_reducible repeat (first | refine blk_drewN ?_ _ | refine blk_drew ?_ | refine blk_alloc ?_ _)); refine blk_put (cs := #[.int .i64 t274, .int .i64 t275, .int .i64 0]) ?_ 2 _ rfl; refine blk_put (cs := #[.int .i64 t274, .int .i64 0, .int .i64 0]) ?_ 1 _ rfl; refine blk_put (cs := #[.int .i64 0, .int .i64 0, .int .i64 0]) ?_ 0 _ rfl; (with_reducible repeat (first | refine blk_drewN ?_ _ | refine blk_drew ?_ | refine blk_alloc ?_ _)); exact BK278.out), Q_X4_, Q_X5_⟩
  exact steps_nil
 rintro b a w18 hall ⟨gb277, gb278, m4_, m5_, ha, Q_BK269, Q_BK270, Q_HB, Q_NB278_277, Q_NB277_278, Q_BK277, Q_GW277, Q_GE277, Q_NB269_277, Q_NB277_269, Q_NB270_277, Q_NB277_270, Q_BK278, Q_GW278, Q_GE278, Q_NB269_278, Q_NB278_269, Q_NB270_278, Q_NB278_270, Q_BK277_e6, Q_BK278_e7, Q_X4_, Q_X5_⟩
 clear BK269 BK270 HB
 have hb0_ := hall 0 (by kernel_rfl)
 have hb1_ := hall 1 (by kernel_rfl)
 have hb2_ := hall 2 (by kernel_rfl)
 have hb3_ := hall 3 (by kernel_rfl)
 have hb4_ := hall 4 (by kernel_rfl)
 have hb5_ := hall 5 (by kernel_rfl)
 have hb6_ := hall 6 (by kernel_rfl)
 have hb7_ := hall 7 (by kernel_rfl)
 subst ha
 obtain rfl := Q_X4_ hb4_
 obtain rfl := Q_X5_ hb5_
 simp only [putSel, hb0_, hb1_, hb2_, hb3_, hb4_, hb5_, hb6_, hb7_, if_true, Act.put, List.setIfInBounds_toArray, List.set_cons_zero, List.set_cons_succ]
 have BK269 := mk0 Q_BK269
 clear Q_BK269
 have BK270 := mk0 Q_BK270
 clear Q_BK270
 have HB := mk0 Q_HB
 clear Q_HB
 have NB278_277 := mk0 (Q_NB278_277 hb4_ hb5_)
 clear Q_NB278_277
 have NB277_278 := mk0 (Q_NB277_278 hb4_ hb5_)
 clear Q_NB277_278
 clear Q_BK277
 have GW277 := mk0 (Q_GW277 hb4_)
 clear Q_GW277
 have GE277 := mk0 (Q_GE277 hb4_)
 clear Q_GE277
 have NB269_277 := mk0 (Q_NB269_277 hb4_)
 clear Q_NB269_277
 have NB277_269 := mk0 (Q_NB277_269 hb4_)
 clear Q_NB277_269
 have NB270_277 := mk0 (Q_NB270_277 hb4_)
 clear Q_NB270_277
 have NB277_270 := mk0 (Q_NB277_270 hb4_)
 clear Q_NB277_270
 clear Q_BK278
 have GW278 := mk0 (Q_GW278 hb5_)
 clear Q_GW278
 have GE278 := mk0 (Q_GE278 hb5_)
 clear Q_GE278
 have NB269_278 := mk0 (Q_NB269_278 hb5_)
 clear Q_NB269_278
 have NB278_269 := mk0 (Q_NB278_269 hb5_)
 clear Q_NB278_269
 have NB270_278 := mk0 (Q_NB270_278 hb5_)
 clear Q_NB270_278
 have NB278_270 := mk0 (Q_NB278_270 hb5_)
 clear Q_NB278_270
 have BK277 := mk0 (Q_BK277_e6 hb6_)
 clear Q_BK277_e6
 have BK278 := mk0 (Q_BK278_e7 hb7_)
 clear Q_BK278_e7
 clear hall hb0_ hb1_ hb2_ hb3_ hb4_ hb5_ hb6_ hb7_
 try go_wp2
 go_loopg [5, 13] k (fun kq v5 v13 w' => ∃ (x5_1 : Int) (x13_1 : Int), v5 = .int .i64 x5_1 ∧ v13 = .int .i64 x13_1 ∧ Aside0 (probe_straight.l0 kq x5_1 x13_1 t271 t272 t273 t274 t275 t276 = some r) ∧ Aside0 (kq ≤ k) ∧ Aside0 (w'.heap[gb277]? = some (.cells #[.int .i64 t271, .int .i64 t272, .int .i64 t273] 101 (0, 0))) ∧ Aside0 (w'.heap[gb278]? = some (.cells #[.int .i64 t274, .int .i64 t275, .int .i64 t276] 101 (0, 0))) ∧ Aside0 (Below w.heap.size w w'))
 case atStart => exact ⟨(0), (0), (by first | rfl | (simp; done) | (simp [*]; done) | exact congrArg (Value.int .i64) (by unfold wrap64; omega)), (by first | rfl | (simp; done) | (simp [*]; done) | exact congrArg (Value.int .i64) (by unfold wrap64; omega)), H', ⟨Nat.le_refl _⟩, ⟨bT BK277.out⟩, ⟨bT BK278.out⟩, ⟨wT HB.out⟩⟩
 case round =>
  clear H'
  obtain ⟨x5_1, x13_1, rfl, rfl, HA, HK1, BK277, BK278, HB⟩ := hrel
  cases gk with
  | zero => exact absurd HA.out (by simp [probe_straight.l0])
  | succ k1 =>
   have H := HA.out
   clear HA
   simp only [probe_straight.l0] at H
   by_cases c19 : x13_1 < 3
   ·rw [if_pos c19] at H
    have c19b0 : decide (x13_1 < 3) = true := decide_eq_true c19
    clear c19
    by_cases c20 : 0 ≤ x13_1
    ·rw [if_pos c20] at H
     have c20b0 : decide (0 ≤ x13_1) = true := decide_eq_true c20
     clear c20
     by_cases c21 : x13_1 = 0
     ·rw [if_pos c21] at H
      have c21n : (x13_1).toNat = 0 := by rw [c21]; rfl
      have c21d : x13_1 = 0 := c21
      have c21l := eq_true (show 0 ≤ x13_1 by omega)
      have c21u1 := eq_true (show x13_1 < 1 by omega)
      have c21u2 := eq_true (show x13_1 < 2 by omega)
      have c21u3 := eq_true (show x13_1 < 3 by omega)
      have c21u4 := eq_true (show x13_1 < 4 by omega)
      have c21u5 := eq_true (show x13_1 < 5 by omega)
      have c21u6 := eq_true (show x13_1 < 6 by omega)
      replace c21d := mk0 c21d
      have c21b0 : (x13_1 == 0) = true := beq_iff_eq.mpr c21
      have c21b1 : (x13_1 != 0) = false := bne_eq_false_iff_eq.mpr c21
      clear c21
      by_cases c22 : t271 = t274
      ·rw [if_pos c22] at H
       have c22b0 : (t271 == t274) = true := beq_iff_eq.mpr c22
       have c22b1 : (t271 != t274) = false := bne_eq_false_iff_eq.mpr c22
       clear c22
       have H' := mk0 H
       clear H
       try go_wp2
       have n0_ := mk0 (blk_drew BK277.out)
       have n1_ := mk0 (blk_drew BK278.out)
       have n2_ := mk0 (below_drew1 HB.out)
       clear BK277
       clear BK278
       clear HB
       have BK277 := n0_
       have BK278 := n1_
       have HB := n2_
       clear n0_ n1_ n2_
       refine start_ (n := 7) (S := fun w' => w'.cell? ⟨gb277, 0, none⟩ = some (.int .i64 t271) ∧ w'.cell? ⟨gb277, 1, none⟩ = some (.int .i64 t272) ∧ w'.cell? ⟨gb277, 2, none⟩ = some (.int .i64 t273) ∧ w'.cell? ⟨gb278, 0, none⟩ = some (.int .i64 t274) ∧ w'.cell? ⟨gb278, 1, none⟩ = some (.int .i64 t275) ∧ w'.cell? ⟨gb278, 2, none⟩ = some (.int .i64 t276)) (ds := []) #[false, false, false, false, false, false, false] (by kernel_rfl) rfl rfl ⟨ct BK277.out 0, ct BK277.out 1, ct BK277.out 2, ct BK278.out 0, ct BK278.out 1, ct BK278.out 2⟩ (fun hHeld => ?_)
       generalize wr.drew = w23 at BK277 BK278 HB hHeld ⊢
       refine pure_ (i := 0) (N := some 16) (v := ?_) (a' := ?_) #[true, false, false, false, false, false, false] rfl rfl (by kernel_rfl) (fun _ _ _ h => h) (Or.inl ⟨by rfl, ?_⟩) ?_ ?_
       rotate_left
       ·intro w'
        go_simp
        with_reducible rfl
       rotate_left
       ·exact nrm
       refine pure_ (i := 1) (N := some 17) (v := ?_) (a' := ?_) #[true, true, false, false, false, false, false] rfl rfl (by kernel_rfl) (fun _ _ _ h => h) (Or.inl ⟨by rfl, ?_⟩) ?_ ?_
       rotate_left
       ·intro w'
        go_simp
        with_reducible rfl
       rotate_left
       ·exact nrm
       refine pure_ (i := 3) (N := some 19) (v := ?_) (a' := ?_) #[true, true, false, true, false, false, false] rfl rfl (by kernel_rfl) (fun _ _ _ h => h) (Or.inl ⟨by rfl, ?_⟩) ?_ ?_
       rotate_left
       ·intro w'
        go_simp
        with_reducible rfl
       rotate_left
       ·exact nrm
       refine pure_ (i := 4) (N := some 20) (v := ?_) (a' := ?_) #[true, true, false, true, true, false, false] rfl rfl (by kernel_rfl) (fun _ _ _ h => h) (Or.inl ⟨by rfl, ?_⟩) ?_ ?_
       rotate_left
       ·intro w'
        go_simp
        with_reducible rfl
       rotate_left
       ·exact nrm
       refine take_ (i := 2) (N := some 18) (v := ?_) (a' := ?_) #[true, true, true, true, true, false, false] rfl rfl (by kernel_rfl) (fun _ _ _ h => h) (Or.inl ⟨by rfl, ?_⟩) hHeld ?_ ?_
       rotate_left
       ·rintro w' ⟨s0, s1, s2, s3, s4, s5⟩
        go_simp
        with_reducible rfl
       rotate_left
       ·exact nrm
       refine take_ (i := 5) (N := some 21) (v := ?_) (a' := ?_) #[true, true, true, true, true, true, false] rfl rfl (by kernel_rfl) (fun _ _ _ h => h) (Or.inl ⟨by rfl, ?_⟩) hHeld ?_ ?_
       rotate_left
       ·rintro w' ⟨s0, s1, s2, s3, s4, s5⟩
        go_simp
        with_reducible rfl
       rotate_left
       ·exact nrm
       refine pure_ (i := 6) (N := some 22) (v := ?_) (a' := ?_) #[true, true, true, true, true, true, true] rfl rfl (by kernel_rfl) (fun _ _ _ h => h) (Or.inl ⟨by rfl, ?_⟩) ?_ ?_
       rotate_left
       ·intro w'
        go_simp
        with_reducible rfl
       rotate_left
       ·exact nrm
       refine done_ (by kernel_rfl) ?_
       try go_wp2
       go_roundg k1
       case measure => have := HK1.out; omega
       case rel => exact ⟨(x5_1), (wrap64 (x13_1 + 1)), (by first | rfl | (simp; done) | (simp [*]; done) | exact congrArg (Value.int .i64) (by unfold wrap64; omega)), (by first | rfl | (simp; done) | (simp [*]; done) | exact congrArg (Value.int .i64) (by unfold wrap64; omega)), H', ⟨by have := HK1.out; omega⟩, ⟨bT BK277.out⟩, ⟨bT BK278.out⟩, ⟨wT HB.out⟩⟩
      ·rw [if_neg c22] at H
       have c22b0 : (t271 == t274) = false := beq_eq_false_iff_ne.mpr c22
       have c22b1 : (t271 != t274) = true := bne_iff_ne.mpr c22
       have H' := mk0 H
       clear H
       try go_wp2
       have n0_ := mk0 (blk_drew BK277.out)
       have n1_ := mk0 (blk_drew BK278.out)
       have n2_ := mk0 (below_drew1 HB.out)
       clear BK277
       clear BK278
       clear HB
       have BK277 := n0_
       have BK278 := n1_
       have HB := n2_
       clear n0_ n1_ n2_
       refine start_ (n := 7) (S := fun w' => w'.cell? ⟨gb277, 0, none⟩ = some (.int .i64 t271) ∧ w'.cell? ⟨gb277, 1, none⟩ = some (.int .i64 t272) ∧ w'.cell? ⟨gb277, 2, none⟩ = some (.int .i64 t273) ∧ w'.cell? ⟨gb278, 0, none⟩ = some (.int .i64 t274) ∧ w'.cell? ⟨gb278, 1, none⟩ = some (.int .i64 t275) ∧ w'.cell? ⟨gb278, 2, none⟩ = some (.int .i64 t276)) (ds := []) #[false, false, false, false, false, false, false] (by kernel_rfl) rfl rfl ⟨ct BK277.out 0, ct BK277.out 1, ct BK277.out 2, ct BK278.out 0, ct BK278.out 1, ct BK278.out 2⟩ (fun hHeld => ?_)
       generalize wr.drew = w24 at BK277 BK278 HB hHeld ⊢
       refine pure_ (i := 0) (N := some 16) (v := ?_) (a' := ?_) #[true, false, false, false, false, false, false] rfl rfl (by kernel_rfl) (fun _ _ _ h => h) (Or.inl ⟨by rfl, ?_⟩) ?_ ?_
       rotate_left
       ·intro w'
        go_simp
        with_reducible rfl
       rotate_left
       ·exact nrm
       refine pure_ (i := 1) (N := some 17) (v := ?_) (a' := ?_) #[true, true, false, false, false, false, false] rfl rfl (by kernel_rfl) (fun _ _ _ h => h) (Or.inl ⟨by rfl, ?_⟩) ?_ ?_
       rotate_left
       ·intro w'
        go_simp
        with_reducible rfl
       rotate_left
       ·exact nrm
       refine pure_ (i := 3) (N := some 19) (v := ?_) (a' := ?_) #[true, true, false, true, false, false, false] rfl rfl (by kernel_rfl) (fun _ _ _ h => h) (Or.inl ⟨by rfl, ?_⟩) ?_ ?_
       rotate_left
       ·intro w'
        go_simp
        with_reducible rfl
       rotate_left
       ·exact nrm
       refine pure_ (i := 4) (N := some 20) (v := ?_) (a' := ?_) #[true, true, false, true, true, false, false] rfl rfl (by kernel_rfl) (fun _ _ _ h => h) (Or.inl ⟨by rfl, ?_⟩) ?_ ?_
       rotate_left
       ·intro w'
        go_simp
        with_reducible rfl
       rotate_left
       ·exact nrm
       refine take_ (i := 2) (N := some 18) (v := ?_) (a' := ?_) #[true, true, true, true, true, false, false] rfl rfl (by kernel_rfl) (fun _ _ _ h => h) (Or.inl ⟨by rfl, ?_⟩) hHeld ?_ ?_
       rotate_left
       ·rintro w' ⟨s0, s1, s2, s3, s4, s5⟩
        go_simp
        with_reducible rfl
       rotate_left
       ·exact nrm
       refine take_ (i := 5) (N := some 21) (v := ?_) (a' := ?_) #[true, true, true, true, true, true, false] rfl rfl (by kernel_rfl) (fun _ _ _ h => h) (Or.inl ⟨by rfl, ?_⟩) hHeld ?_ ?_
       rotate_left
       ·rintro w' ⟨s0, s1, s2, s3, s4, s5⟩
        go_simp
        with_reducible rfl
       rotate_left
       ·exact nrm
       refine pure_ (i := 6) (N := some 22) (v := ?_) (a' := ?_) #[true, true, true, true, true, true, true] rfl rfl (by kernel_rfl) (fun _ _ _ h => h) (Or.inl ⟨by rfl, ?_⟩) ?_ ?_
       rotate_left
       ·intro w'
        go_simp
        with_reducible rfl
       rotate_left
       ·exact nrm
       refine done_ (by kernel_rfl) ?_
       try go_wp2
       go_roundg k1
       case measure => have := HK1.out; omega
       case rel => exact ⟨(wrap64 (x5_1 + 1)), (wrap64 (x13_1 + 1)), (by first | rfl | (simp; done) | (simp [*]; done) | exact congrArg (Value.int .i64) (by unfold wrap64; omega)), (by first | rfl | (simp; done) | (simp [*]; done) | exact congrArg (Value.int .i64) (by unfold wrap64; omega)), H', ⟨by have := HK1.out; omega⟩, ⟨bT BK277.out⟩, ⟨bT BK278.out⟩, ⟨wT HB.out⟩⟩
     ·rw [if_neg c21] at H
      have c21b0 : (x13_1 == 0) = false := beq_eq_false_iff_ne.mpr c21
      have c21b1 : (x13_1 != 0) = true := bne_iff_ne.mpr c21
      by_cases c25 : x13_1 = 1
      ·rw [if_pos c25] at H
       have c25n : (x13_1).toNat = 1 := by rw [c25]; rfl
       have c25d : x13_1 = 1 := c25
       have c25l := eq_true (show 0 ≤ x13_1 by omega)
       have c25u2 := eq_true (show x13_1 < 2 by omega)
       have c25u3 := eq_true (show x13_1 < 3 by omega)
       have c25u4 := eq_true (show x13_1 < 4 by omega)
       have c25u5 := eq_true (show x13_1 < 5 by omega)
       have c25u6 := eq_true (show x13_1 < 6 by omega)
       replace c25d := mk0 c25d
       have c25b0 : (x13_1 == 1) = true := beq_iff_eq.mpr c25
       have c25b1 : (x13_1 != 1) = false := bne_eq_false_iff_eq.mpr c25
       clear c25
       by_cases c26 : t272 = t275
       ·rw [if_pos c26] at H
        have c26b0 : (t272 == t275) = true := beq_iff_eq.mpr c26
        have c26b1 : (t272 != t275) = false := bne_eq_false_iff_eq.mpr c26
        clear c26
        have H' := mk0 H
        clear H
        try go_wp2
        have n0_ := mk0 (blk_drew BK277.out)
        have n1_ := mk0 (blk_drew BK278.out)
        have n2_ := mk0 (below_drew1 HB.out)
        clear BK277
        clear BK278
        clear HB
        have BK277 := n0_
        have BK278 := n1_
        have HB := n2_
        clear n0_ n1_ n2_
        refine start_ (n := 7) (S := fun w' => w'.cell? ⟨gb277, 0, none⟩ = some (.int .i64 t271) ∧ w'.cell? ⟨gb277, 1, none⟩ = some (.int .i64 t272) ∧ w'.cell? ⟨gb277, 2, none⟩ = some (.int .i64 t273) ∧ w'.cell? ⟨gb278, 0, none⟩ = some (.int .i64 t274) ∧ w'.cell? ⟨gb278, 1, none⟩ = some (.int .i64 t275) ∧ w'.cell? ⟨gb278, 2, none⟩ = some (.int .i64 t276)) (ds := []) #[false, false, false, false, false, false, false] (by kernel_rfl) rfl rfl ⟨ct BK277.out 0, ct BK277.out 1, ct BK277.out 2, ct BK278.out 0, ct BK278.out 1, ct BK278.out 2⟩ (fun hHeld => ?_)
        generalize wr.drew = w27 at BK277 BK278 HB hHeld ⊢
        refine pure_ (i := 0) (N := some 16) (v := ?_) (a' := ?_) #[true, false, false, false, false, false, false] rfl rfl (by kernel_rfl) (fun _ _ _ h => h) (Or.inl ⟨by rfl, ?_⟩) ?_ ?_
        rotate_left
        ·intro w'
         go_simp
         with_reducible rfl
        rotate_left
        ·exact nrm
        refine pure_ (i := 1) (N := some 17) (v := ?_) (a' := ?_) #[true, true, false, false, false, false, false] rfl rfl (by kernel_rfl) (fun _ _ _ h => h) (Or.inl ⟨by rfl, ?_⟩) ?_ ?_
        rotate_left
        ·intro w'
         go_simp
         with_reducible rfl
        rotate_left
        ·exact nrm
        refine pure_ (i := 3) (N := some 19) (v := ?_) (a' := ?_) #[true, true, false, true, false, false, false] rfl rfl (by kernel_rfl) (fun _ _ _ h => h) (Or.inl ⟨by rfl, ?_⟩) ?_ ?_
        rotate_left
        ·intro w'
         go_simp
         with_reducible rfl
        rotate_left
        ·exact nrm
        refine pure_ (i := 4) (N := some 20) (v := ?_) (a' := ?_) #[true, true, false, true, true, false, false] rfl rfl (by kernel_rfl) (fun _ _ _ h => h) (Or.inl ⟨by rfl, ?_⟩) ?_ ?_
        rotate_left
        ·intro w'
         go_simp
         with_reducible rfl
        rotate_left
        ·exact nrm
        refine take_ (i := 2) (N := some 18) (v := ?_) (a' := ?_) #[true, true, true, true, true, false, false] rfl rfl (by kernel_rfl) (fun _ _ _ h => h) (Or.inl ⟨by rfl, ?_⟩) hHeld ?_ ?_
        rotate_left
        ·rintro w' ⟨s0, s1, s2, s3, s4, s5⟩
         go_simp
         with_reducible rfl
        rotate_left
        ·exact nrm
        refine take_ (i := 5) (N := some 21) (v := ?_) (a' := ?_) #[true, true, true, true, true, true, false] rfl rfl (by kernel_rfl) (fun _ _ _ h => h) (Or.inl ⟨by rfl, ?_⟩) hHeld ?_ ?_
        rotate_left
        ·rintro w' ⟨s0, s1, s2, s3, s4, s5⟩
         go_simp
         with_reducible rfl
        rotate_left
        ·exact nrm
        refine pure_ (i := 6) (N := some 22) (v := ?_) (a' := ?_) #[true, true, true, true, true, true, true] rfl rfl (by kernel_rfl) (fun _ _ _ h => h) (Or.inl ⟨by rfl, ?_⟩) ?_ ?_
        rotate_left
        ·intro w'
         go_simp
         with_reducible rfl
        rotate_left
        ·exact nrm
        refine done_ (by kernel_rfl) ?_
        try go_wp2
        go_roundg k1
        case measure => have := HK1.out; omega
        case rel => exact ⟨(x5_1), (wrap64 (x13_1 + 1)), (by first | rfl | (simp; done) | (simp [*]; done) | exact congrArg (Value.int .i64) (by unfold wrap64; omega)), (by first | rfl | (simp; done) | (simp [*]; done) | exact congrArg (Value.int .i64) (by unfold wrap64; omega)), H', ⟨by have := HK1.out; omega⟩, ⟨bT BK277.out⟩, ⟨bT BK278.out⟩, ⟨wT HB.out⟩⟩
       ·rw [if_neg c26] at H
        have c26b0 : (t272 == t275) = false := beq_eq_false_iff_ne.mpr c26
        have c26b1 : (t272 != t275) = true := bne_iff_ne.mpr c26
        have H' := mk0 H
        clear H
        try go_wp2
        have n0_ := mk0 (blk_drew BK277.out)
        have n1_ := mk0 (blk_drew BK278.out)
        have n2_ := mk0 (below_drew1 HB.out)
        clear BK277
        clear BK278
        clear HB
        have BK277 := n0_
        have BK278 := n1_
        have HB := n2_
        clear n0_ n1_ n2_
        refine start_ (n := 7) (S := fun w' => w'.cell? ⟨gb277, 0, none⟩ = some (.int .i64 t271) ∧ w'.cell? ⟨gb277, 1, none⟩ = some (.int .i64 t272) ∧ w'.cell? ⟨gb277, 2, none⟩ = some (.int .i64 t273) ∧ w'.cell? ⟨gb278, 0, none⟩ = some (.int .i64 t274) ∧ w'.cell? ⟨gb278, 1, none⟩ = some (.int .i64 t275) ∧ w'.cell? ⟨gb278, 2, none⟩ = some (.int .i64 t276)) (ds := []) #[false, false, false, false, false, false, false] (by kernel_rfl) rfl rfl ⟨ct BK277.out 0, ct BK277.out 1, ct BK277.out 2, ct BK278.out 0, ct BK278.out 1, ct BK278.out 2⟩ (fun hHeld => ?_)
        generalize wr.drew = w28 at BK277 BK278 HB hHeld ⊢
        refine pure_ (i := 0) (N := some 16) (v := ?_) (a' := ?_) #[true, false, false, false, false, false, false] rfl rfl (by kernel_rfl) (fun _ _ _ h => h) (Or.inl ⟨by rfl, ?_⟩) ?_ ?_
        rotate_left
        ·intro w'
         go_simp
         with_reducible rfl
        rotate_left
        ·exact nrm
        refine pure_ (i := 1) (N := some 17) (v := ?_) (a' := ?_) #[true, true, false, false, false, false, false] rfl rfl (by kernel_rfl) (fun _ _ _ h => h) (Or.inl ⟨by rfl, ?_⟩) ?_ ?_
        rotate_left
        ·intro w'
         go_simp
         with_reducible rfl
        rotate_left
        ·exact nrm
        refine pure_ (i := 3) (N := some 19) (v := ?_) (a' := ?_) #[true, true, false, true, false, false, false] rfl rfl (by kernel_rfl) (fun _ _ _ h => h) (Or.inl ⟨by rfl, ?_⟩) ?_ ?_
        rotate_left
        ·intro w'
         go_simp
         with_reducible rfl
        rotate_left
        ·exact nrm
        refine pure_ (i := 4) (N := some 20) (v := ?_) (a' := ?_) #[true, true, false, true, true, false, false] rfl rfl (by kernel_rfl) (fun _ _ _ h => h) (Or.inl ⟨by rfl, ?_⟩) ?_ ?_
        rotate_left
        ·intro w'
         go_simp
         with_reducible rfl
        rotate_left
        ·exact nrm
        refine take_ (i := 2) (N := some 18) (v := ?_) (a' := ?_) #[true, true, true, true, true, false, false] rfl rfl (by kernel_rfl) (fun _ _ _ h => h) (Or.inl ⟨by rfl, ?_⟩) hHeld ?_ ?_
        rotate_left
        ·rintro w' ⟨s0, s1, s2, s3, s4, s5⟩
         go_simp
         with_reducible rfl
        rotate_left
        ·exact nrm
        refine take_ (i := 5) (N := some 21) (v := ?_) (a' := ?_) #[true, true, true, true, true, true, false] rfl rfl (by kernel_rfl) (fun _ _ _ h => h) (Or.inl ⟨by rfl, ?_⟩) hHeld ?_ ?_
        rotate_left
        ·rintro w' ⟨s0, s1, s2, s3, s4, s5⟩
         go_simp
         with_reducible rfl
        rotate_left
        ·exact nrm
        refine pure_ (i := 6) (N := some 22) (v := ?_) (a' := ?_) #[true, true, true, true, true, true, true] rfl rfl (by kernel_rfl) (fun _ _ _ h => h) (Or.inl ⟨by rfl, ?_⟩) ?_ ?_
        rotate_left
        ·intro w'
         go_simp
         with_reducible rfl
        rotate_left
        ·exact nrm
        refine done_ (by kernel_rfl) ?_
        try go_wp2
        go_roundg k1
        case measure => have := HK1.out; omega
        case rel => exact ⟨(wrap64 (x5_1 + 1)), (wrap64 (x13_1 + 1)), (by first | rfl | (simp; done) | (simp [*]; done) | exact congrArg (Value.int .i64) (by unfold wrap64; omega)), (by first | rfl | (simp; done) | (simp [*]; done) | exact congrArg (Value.int .i64) (by unfold wrap64; omega)), H', ⟨by have := HK1.out; omega⟩, ⟨bT BK277.out⟩, ⟨bT BK278.out⟩, ⟨wT HB.out⟩⟩
      ·rw [if_neg c25] at H
       have c25b0 : (x13_1 == 1) = false := beq_eq_false_iff_ne.mpr c25
       have c25b1 : (x13_1 != 1) = true := bne_iff_ne.mpr c25
       by_cases c29 : x13_1 = 2
       ·rw [if_pos c29] at H
        have c29n : (x13_1).toNat = 2 := by rw [c29]; rfl
        have c29d : x13_1 = 2 := c29
        have c29l := eq_true (show 0 ≤ x13_1 by omega)
        have c29u3 := eq_true (show x13_1 < 3 by omega)
        have c29u4 := eq_true (show x13_1 < 4 by omega)
        have c29u5 := eq_true (show x13_1 < 5 by omega)
        have c29u6 := eq_true (show x13_1 < 6 by omega)
        replace c29d := mk0 c29d
        have c29b0 : (x13_1 == 2) = true := beq_iff_eq.mpr c29
        have c29b1 : (x13_1 != 2) = false := bne_eq_false_iff_eq.mpr c29
        clear c29
        by_cases c30 : t273 = t276
        ·rw [if_pos c30] at H
         have c30b0 : (t273 == t276) = true := beq_iff_eq.mpr c30
         have c30b1 : (t273 != t276) = false := bne_eq_false_iff_eq.mpr c30
         clear c30
         have H' := mk0 H
         clear H
         try go_wp2
         have n0_ := mk0 (blk_drew BK277.out)
         have n1_ := mk0 (blk_drew BK278.out)
         have n2_ := mk0 (below_drew1 HB.out)
         clear BK277
         clear BK278
         clear HB
         have BK277 := n0_
         have BK278 := n1_
         have HB := n2_
         clear n0_ n1_ n2_
         refine start_ (n := 7) (S := fun w' => w'.cell? ⟨gb277, 0, none⟩ = some (.int .i64 t271) ∧ w'.cell? ⟨gb277, 1, none⟩ = some (.int .i64 t272) ∧ w'.cell? ⟨gb277, 2, none⟩ = some (.int .i64 t273) ∧ w'.cell? ⟨gb278, 0, none⟩ = some (.int .i64 t274) ∧ w'.cell? ⟨gb278, 1, none⟩ = some (.int .i64 t275) ∧ w'.cell? ⟨gb278, 2, none⟩ = some (.int .i64 t276)) (ds := []) #[false, false, false, false, false, false, false] (by kernel_rfl) rfl rfl ⟨ct BK277.out 0, ct BK277.out 1, ct BK277.out 2, ct BK278.out 0, ct BK278.out 1, ct BK278.out 2⟩ (fun hHeld => ?_)
         generalize wr.drew = w31 at BK277 BK278 HB hHeld ⊢
         refine pure_ (i := 0) (N := some 16) (v := ?_) (a' := ?_) #[true, false, false, false, false, false, false] rfl rfl (by kernel_rfl) (fun _ _ _ h => h) (Or.inl ⟨by rfl, ?_⟩) ?_ ?_
         rotate_left
         ·intro w'
          go_simp
          with_reducible rfl
         rotate_left
         ·exact nrm
         refine pure_ (i := 1) (N := some 17) (v := ?_) (a' := ?_) #[true, true, false, false, false, false, false] rfl rfl (by kernel_rfl) (fun _ _ _ h => h) (Or.inl ⟨by rfl, ?_⟩) ?_ ?_
         rotate_left
         ·intro w'
          go_simp
          with_reducible rfl
         rotate_left
         ·exact nrm
         refine pure_ (i := 3) (N := some 19) (v := ?_) (a' := ?_) #[true, true, false, true, false, false, false] rfl rfl (by kernel_rfl) (fun _ _ _ h => h) (Or.inl ⟨by rfl, ?_⟩) ?_ ?_
         rotate_left
         ·intro w'
          go_simp
          with_reducible rfl
         rotate_left
         ·exact nrm
         refine pure_ (i := 4) (N := some 20) (v := ?_) (a' := ?_) #[true, true, false, true, true, false, false] rfl rfl (by kernel_rfl) (fun _ _ _ h => h) (Or.inl ⟨by rfl, ?_⟩) ?_ ?_
         rotate_left
         ·intro w'
          go_simp
          with_reducible rfl
         rotate_left
         ·exact nrm
         refine take_ (i := 2) (N := some 18) (v := ?_) (a' := ?_) #[true, true, true, true, true, false, false] rfl rfl (by kernel_rfl) (fun _ _ _ h => h) (Or.inl ⟨by rfl, ?_⟩) hHeld ?_ ?_
         rotate_left
         ·rintro w' ⟨s0, s1, s2, s3, s4, s5⟩
          go_simp
          with_reducible rfl
         rotate_left
         ·exact nrm
         refine take_ (i := 5) (N := some 21) (v := ?_) (a' := ?_) #[true, true, true, true, true, true, false] rfl rfl (by kernel_rfl) (fun _ _ _ h => h) (Or.inl ⟨by rfl, ?_⟩) hHeld ?_ ?_
         rotate_left
         ·rintro w' ⟨s0, s1, s2, s3, s4, s5⟩
          go_simp
          with_reducible rfl
         rotate_left
         ·exact nrm
         refine pure_ (i := 6) (N := some 22) (v := ?_) (a' := ?_) #[true, true, true, true, true, true, true] rfl rfl (by kernel_rfl) (fun _ _ _ h => h) (Or.inl ⟨by rfl, ?_⟩) ?_ ?_
         rotate_left
         ·intro w'
          go_simp
          with_reducible rfl
         rotate_left
         ·exact nrm
         refine done_ (by kernel_rfl) ?_
         try go_wp2
         go_roundg k1
         case measure => have := HK1.out; omega
         case rel => exact ⟨(x5_1), (wrap64 (x13_1 + 1)), (by first | rfl | (simp; done) | (simp [*]; done) | exact congrArg (Value.int .i64) (by unfold wrap64; omega)), (by first | rfl | (simp; done) | (simp [*]; done) | exact congrArg (Value.int .i64) (by unfold wrap64; omega)), H', ⟨by have := HK1.out; omega⟩, ⟨bT BK277.out⟩, ⟨bT BK278.out⟩, ⟨wT HB.out⟩⟩
        ·rw [if_neg c30] at H
         have c30b0 : (t273 == t276) = false := beq_eq_false_iff_ne.mpr c30
         have c30b1 : (t273 != t276) = true := bne_iff_ne.mpr c30
         have H' := mk0 H
         clear H
         try go_wp2
         have n0_ := mk0 (blk_drew BK277.out)
         have n1_ := mk0 (blk_drew BK278.out)
         have n2_ := mk0 (below_drew1 HB.out)
         clear BK277
         clear BK278
         clear HB
         have BK277 := n0_
         have BK278 := n1_
         have HB := n2_
         clear n0_ n1_ n2_
         refine start_ (n := 7) (S := fun w' => w'.cell? ⟨gb277, 0, none⟩ = some (.int .i64 t271) ∧ w'.cell? ⟨gb277, 1, none⟩ = some (.int .i64 t272) ∧ w'.cell? ⟨gb277, 2, none⟩ = some (.int .i64 t273) ∧ w'.cell? ⟨gb278, 0, none⟩ = some (.int .i64 t274) ∧ w'.cell? ⟨gb278, 1, none⟩ = some (.int .i64 t275) ∧ w'.cell? ⟨gb278, 2, none⟩ = some (.int .i64 t276)) (ds := []) #[false, false, false, false, false, false, false] (by kernel_rfl) rfl rfl ⟨ct BK277.out 0, ct BK277.out 1, ct BK277.out 2, ct BK278.out 0, ct BK278.out 1, ct BK278.out 2⟩ (fun hHeld => ?_)
         generalize wr.drew = w32 at BK277 BK278 HB hHeld ⊢
         refine pure_ (i := 0) (N := some 16) (v := ?_) (a' := ?_) #[true, false, false, false, false, false, false] rfl rfl (by kernel_rfl) (fun _ _ _ h => h) (Or.inl ⟨by rfl, ?_⟩) ?_ ?_
         rotate_left
         ·intro w'
          go_simp
          with_reducible rfl
         rotate_left
         ·exact nrm
         refine pure_ (i := 1) (N := some 17) (v := ?_) (a' := ?_) #[true, true, false, false, false, false, false] rfl rfl (by kernel_rfl) (fun _ _ _ h => h) (Or.inl ⟨by rfl, ?_⟩) ?_ ?_
         rotate_left
         ·intro w'
          go_simp
          with_reducible rfl
         rotate_left
         ·exact nrm
         refine pure_ (i := 3) (N := some 19) (v := ?_) (a' := ?_) #[true, true, false, true, false, false, false] rfl rfl (by kernel_rfl) (fun _ _ _ h => h) (Or.inl ⟨by rfl, ?_⟩) ?_ ?_
         rotate_left
         ·intro w'
          go_simp
          with_reducible rfl
         rotate_left
         ·exact nrm
         refine pure_ (i := 4) (N := some 20) (v := ?_) (a' := ?_) #[true, true, false, true, true, false, false] rfl rfl (by kernel_rfl) (fun _ _ _ h => h) (Or.inl ⟨by rfl, ?_⟩) ?_ ?_
         rotate_left
         ·intro w'
          go_simp
          with_reducible rfl
         rotate_left
         ·exact nrm
         refine take_ (i := 2) (N := some 18) (v := ?_) (a' := ?_) #[true, true, true, true, true, false, false] rfl rfl (by kernel_rfl) (fun _ _ _ h => h) (Or.inl ⟨by rfl, ?_⟩) hHeld ?_ ?_
         rotate_left
         ·rintro w' ⟨s0, s1, s2, s3, s4, s5⟩
          go_simp
          with_reducible rfl
         rotate_left
         ·exact nrm
         refine take_ (i := 5) (N := some 21) (v := ?_) (a' := ?_) #[true, true, true, true, true, true, false] rfl rfl (by kernel_rfl) (fun _ _ _ h => h) (Or.inl ⟨by rfl, ?_⟩) hHeld ?_ ?_
         rotate_left
         ·rintro w' ⟨s0, s1, s2, s3, s4, s5⟩
          go_simp
          with_reducible rfl
         rotate_left
         ·exact nrm
         refine pure_ (i := 6) (N := some 22) (v := ?_) (a' := ?_) #[true, true, true, true, true, true, true] rfl rfl (by kernel_rfl) (fun _ _ _ h => h) (Or.inl ⟨by rfl, ?_⟩) ?_ ?_
         rotate_left
         ·intro w'
          go_simp
          with_reducible rfl
         rotate_left
         ·exact nrm
         refine done_ (by kernel_rfl) ?_
         try go_wp2
         go_roundg k1
         case measure => have := HK1.out; omega
         case rel => exact ⟨(wrap64 (x5_1 + 1)), (wrap64 (x13_1 + 1)), (by first | rfl | (simp; done) | (simp [*]; done) | exact congrArg (Value.int .i64) (by unfold wrap64; omega)), (by first | rfl | (simp; done) | (simp [*]; done) | exact congrArg (Value.int .i64) (by unfold wrap64; omega)), H', ⟨by have := HK1.out; omega⟩, ⟨bT BK277.out⟩, ⟨bT BK278.out⟩, ⟨wT HB.out⟩⟩
       ·rw [if_neg c29] at H
        exact absurd H (by simp)
    ·rw [if_neg c20] at H
     exact absurd H (by simp)
   ·rw [if_neg c19] at H
    have c19b0 : decide (x13_1 < 3) = false := decide_eq_false c19
    clear c19
    obtain rfl := Option.some.inj H
    go_wp2
    go_ret
    exact ⟨eqT, wT HB.out⟩
end Go.Proofs.YtolbjmaabghghaaGreatDoor.PA
