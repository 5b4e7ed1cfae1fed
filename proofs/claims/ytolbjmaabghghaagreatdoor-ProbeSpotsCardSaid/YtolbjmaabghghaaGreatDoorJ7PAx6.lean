/- A part of the proof. -/
import Derived.Test.YtolbjmaabghghaaGreatDoorJ7PAx0
import Derived.Test.YtolbjmaabghghaaGreatDoorJ7PAx3
import Derived.Test.YtolbjmaabghghaaGreatDoorJ7PAx5
import Derived.Test.YtolbjmaabghghaaGreatDoorJ7EHas
namespace Go.Proofs.YtolbjmaabghghaaGreatDoor.PA
open Go.RowKit Go.PW Go.PL Go.PM
attribute [local go_sem] max2_int min2_int max_two min_two max_three min_three max_four min_four   -- for this text's walks alone
set_option linter.unusedVariables false
set_option maxHeartbeats 8000000
set_option maxRecDepth 100000
set_option linter.unusedSimpArgs false
def probe_Solid_full.l0 : Nat → Int → Int → Int → Int → Int → Int → Int → Int → Int → Int → List (S84) → Int → Int → Int → Int → Int → Int → Int → Int → Int → Option (Bool)
 | 0, _, _, _, _, _, _, _, _, _, _, _, _, _, _, _, _, _, _, _, _ => none
 | k + 1, x19, x921, x922, x923, x137000, x137001, x137002, x137003, x137004, x137005, x137006, x148000, x148001, x148002, x149000, x149001, x149002, x150000, x150001, x150002 => if x19 < 3 then (if 0 ≤ x19 then (if (rd [x921, x922, x923] x19) < (rd [x149000, x149001, x149002] x19) then (some false) else (if (rd [x921, x922, x923] x19) > (rd [x150000, x150001, x150002] x19) then (some false) else (probe_Solid_full.l0 k (wrap64 (x19 + 1)) x921 x922 x923 x137000 x137001 x137002 x137003 x137004 x137005 x137006 x148000 x148001 x148002 x149000 x149001 x149002 x150000 x150001 x150002))) else (none)) else ((contains_bore.f x137006 x148000 x148001 x148002).bind fun t150 => (some (!t150)))
def probe_Solid_full.f (k : Nat) (a0_0 : Int) (a0_1 : Int) (a0_2 : Int) (a0_3 : Int) (a0_4 : Int) (a0_5 : Int) (l0_6 : List (S84)) (a1_0 : Int) (a1_1 : Int) (a1_2 : Int) : Option (Bool) := (probe_of.f a1_0 a1_1 a1_2).bind fun bt138 => ((probe_of.f a0_0 a0_1 a0_2).bind fun bt141 => ((probe_of.f a0_3 a0_4 a0_5).bind fun bt144 => (probe_Solid_full.l0 k 0 bt138.1 bt138.2.1 bt138.2.2 a0_0 a0_1 a0_2 a0_3 a0_4 a0_5 l0_6 bt138.1 bt138.2.1 bt138.2.2 bt141.1 bt141.2.1 bt141.2.2 bt144.1 bt144.2.1 bt144.2.2)))
def probe_Solid_full.T1 : Bool × List (List Nat × List Nat) := (true, [([], []), ([0], [0]), ([], []), ([2], [2]), ([3, 1], [3]), ([], []), ([5], [5]), ([6, 4], [6]), ([], []), ([], []), ([], []), ([8, 1, 7, 0, 1, 8, 9, 10], [1, 8]), ([9, 4, 11, 0, 1, 2, 3, 4, 8, 9, 10, 11], [4, 9]), ([10, 7, 12, 0, 1, 2, 3, 4, 5, 6, 7, 8, 9, 10, 11, 12], [7, 10])])
def probe_Solid_full.B1 : List Nat := [0, 1, 0, 4, 15, 0, 32, 127, 0, 0, 0, 2047, 4095, 8191]
theorem probe_Solid_full.tab1 : rtab .any (opsOf Tryz.f39 1) = probe_Solid_full.T1 := by kernel_rfl
theorem probe_Solid_full.bits1 : waitsOk probe_Solid_full.T1.2 probe_Solid_full.B1 = true := by kernel_rfl
theorem probe_Solid_full.calls (k : Nat) (a0_0 : Int) (a0_1 : Int) (a0_2 : Int) (a0_3 : Int) (a0_4 : Int) (a0_5 : Int) (A0_6 : Option Addr) (c0_6 : Nat) (l0_6 : List (S84)) (a1_0 : Int) (a1_1 : Int) (a1_2 : Int) (r : Bool) (w : World) (hr0_6 : Kd.C k84 w A0_6 l0_6.length l0_6) (hc0_6 : l0_6.length ≤ c0_6) (h : probe_Solid_full.f k a0_0 a0_1 a0_2 a0_3 a0_4 a0_5 l0_6 a1_0 a1_1 a1_2 = some r) :
  Calls Tryz.prog 39 #[.agg #[.int .i64 a0_0, .int .i64 a0_1, .int .i64 a0_2, .int .i64 a0_3, .int .i64 a0_4, .int .i64 a0_5, .slice A0_6 l0_6.length c0_6], .agg #[.int .i64 a1_0, .int .i64 a1_1, .int .i64 a1_2]] w fun e w' => e = .returned (.bool r) ∧ Below w.heap.size w w' := by
 have hu26 := Tryz.underlying26
 have hu23 := Tryz.underlying23
 have hu101 := Tryz.underlying101
 have HR0_6 := mk0 hr0_6
 have HC0_6 := mk0 hc0_6
 clear hr0_6 hc0_6
 have HB := mk0 (Below.refl w.heap.size w)
 have H : ((probe_of.f a1_0 a1_1 a1_2).bind fun bt138 => ((probe_of.f a0_0 a0_1 a0_2).bind fun bt141 => ((probe_of.f a0_3 a0_4 a0_5).bind fun bt144 => (probe_Solid_full.l0 k 0 bt138.1 bt138.2.1 bt138.2.2 a0_0 a0_1 a0_2 a0_3 a0_4 a0_5 l0_6 bt138.1 bt138.2.1 bt138.2.2 bt141.1 bt141.2.1 bt141.2.2 bt144.1 bt144.2.1 bt144.2.2)))) = some r := h
 clear h
 replace H := Option.bind_eq_some_iff.mp H
 obtain ⟨⟨t138, t139, t140⟩, A30, H⟩ := H
 (try dsimp only at H)
 have A3 := mk0 A30
 clear A30
 replace H := Option.bind_eq_some_iff.mp H
 obtain ⟨⟨t141, t142, t143⟩, A40, H⟩ := H
 (try dsimp only at H)
 have A4 := mk0 A40
 clear A40
 replace H := Option.bind_eq_some_iff.mp H
 obtain ⟨⟨t144, t145, t146⟩, A50, H⟩ := H
 (try dsimp only at H)
 have A5 := mk0 A50
 clear A50
 have H' := mk0 H
 clear H
 go_enter Tryz.func39, Tryz.ntmps39
 try go_wp2_with (first | ((with_reducible refine gate_dst (N := 2) rfl ?_); refine box_event ?hg (N := 2) ?hd (cs := #[.int .i64 a0_0, .int .i64 a0_1, .int .i64 a0_2, .int .i64 a0_3, .int .i64 a0_4, .int .i64 a0_5, .slice A0_6 l0_6.length c0_6]) (t := 26) ?hr ?_; (case hd => rfl); (case hg => rfl); (case hr => first | (go_simp; done) | (go_simp; rfl)); intro gb136 hg w6 hbox hb; have n0_ := mk0 (below_step (wT HB.out) hb); have n1_ := mk0 (hbox); have n2_ := mk0 ((szT HB.out hg)); have n3_ := mk0 ((szT HB.out hg)); clear HB; have HB := n0_; have BK136 := n1_; have GW136 := n2_; have GE136 := n3_; clear n0_ n1_ n2_ n3_; clear hb hbox hg) | ((with_reducible refine gate_dst (N := 3) rfl ?_); refine box_event ?hg (N := 3) ?hd (cs := #[.int .i64 a1_0, .int .i64 a1_1, .int .i64 a1_2]) (t := 23) ?hr ?_; (case hd => rfl); (case hg => rfl); (case hr => first | (go_simp; done) | (go_simp; rfl)); intro gb137 hg w7 hbox hb; have n0_ := mk0 (bbT BK136.out hb); have n1_ := mk0 (below_step (wT HB.out) hb); have n2_ := mk0 (hbox); have n3_ := mk0 ((szT HB.out hg)); have n4_ := mk0 ((szT HB.out hg)); have n5_ := mk0 ((neL BK136.out hg)); have n6_ := mk0 ((neG BK136.out hg)); clear BK136; clear HB; have BK136 := n0_; have HB := n1_; have BK137 := n2_; have GW137 := n3_; have GE137 := n4_; have NB136_137 := n5_; have NB137_136 := n6_; clear n0_ n1_ n2_ n3_ n4_ n5_ n6_; clear hb hbox hg))
 have n0_ := mk0 (blk_drew BK136.out)
 have n1_ := mk0 (blk_drew BK137.out)
 have n2_ := mk0 (below_drew1 HB.out)
 clear BK136
 clear BK137
 clear HB
 have BK136 := n0_
 have BK137 := n1_
 have HB := n2_
 clear n0_ n1_ n2_
 refine start_ (n := 14) (S := fun w' => True) (ds := []) #[false, false, false, false, false, false, false, false, false, false, false, false, false, false] (by kernel_rfl) rfl rfl trivial (fun hHeld => ?_); refine with_tabW probe_Solid_full.tab1 probe_Solid_full.bits1 (fun HT_ HW_ => ?_)
 generalize w7.drew = w8 at BK136 BK137 HB hHeld ⊢
 refine pure_ (i := 2) (N := some 12) (v := ?_) (a' := ?_) #[false, false, true, false, false, false, false, false, false, false, false, false, false, false] rfl rfl (any_of HT_.out (by kernel_rfl)) (fun _ _ _ h => h) (Or.inl ⟨by rfl, ?_⟩) ?_ ?_
 rotate_left
 ·intro w'
  go_simp
  with_reducible rfl
 rotate_left
 ·exact nrm
 refine pure_ (i := 5) (N := some 15) (v := ?_) (a' := ?_) #[false, false, true, false, false, true, false, false, false, false, false, false, false, false] rfl rfl (any_of HT_.out (by kernel_rfl)) (fun _ _ _ h => h) (Or.inl ⟨by rfl, ?_⟩) ?_ ?_
 rotate_left
 ·intro w'
  go_simp
  with_reducible rfl
 rotate_left
 ·exact nrm
 refine inv_at [0, 1, 3, 4, 6, 7, 8, 9, 10, 11, 12, 13] (fun a0_ b a w' => ∃ (gb147 : Nat) (gb148 : Nat) (gb149 : Nat) (m8_ : Value) (m9_ : Value) (m10_ : Value), a = putSel a0_ b [(0, 10, .agg #[.int .i64 a1_0, .int .i64 a1_1, .int .i64 a1_2]), (1, 11, .agg #[.int .i64 t138, .int .i64 t139, .int .i64 t140]), (3, 13, .agg #[.int .i64 a0_0, .int .i64 a0_1, .int .i64 a0_2]), (4, 14, .agg #[.int .i64 t141, .int .i64 t142, .int .i64 t143]), (6, 16, .agg #[.int .i64 a0_3, .int .i64 a0_4, .int .i64 a0_5]), (7, 17, .agg #[.int .i64 t144, .int .i64 t145, .int .i64 t146]), (8, 5, m8_), (9, 6, m9_), (10, 7, m10_)] ∧ (w'.heap[gb136]? = some (.cells #[.int .i64 a0_0, .int .i64 a0_1, .int .i64 a0_2, .int .i64 a0_3, .int .i64 a0_4, .int .i64 a0_5, .slice A0_6 l0_6.length c0_6] 26 (0, 0))) ∧ (w'.heap[gb137]? = some (.cells #[.int .i64 a1_0, .int .i64 a1_1, .int .i64 a1_2] 23 (0, 0))) ∧ (Below w.heap.size w w') ∧ (b 8 = true → b 9 = true → gb148 ≠ gb147) ∧ (b 8 = true → b 9 = true → gb147 ≠ gb148) ∧ (b 8 = true → b 10 = true → gb149 ≠ gb147) ∧ (b 8 = true → b 10 = true → gb147 ≠ gb149) ∧ (b 9 = true → b 10 = true → gb149 ≠ gb148) ∧ (b 9 = true → b 10 = true → gb148 ≠ gb149) ∧ (b 8 = true → b 11 = false → w'.heap[gb147]? = some (.cells #[.int .i64 0, .int .i64 0, .int .i64 0] 101 (0, 0))) ∧ (b 8 = true → w.heap.size ≤ gb147) ∧ (b 8 = true → w.heap.size ≤ gb147) ∧ (b 8 = true → gb136 ≠ gb147) ∧ (b 8 = true → gb147 ≠ gb136) ∧ (b 8 = true → gb137 ≠ gb147) ∧ (b 8 = true → gb147 ≠ gb137) ∧ (b 9 = true → b 12 = false → w'.heap[gb148]? = some (.cells #[.int .i64 0, .int .i64 0, .int .i64 0] 101 (0, 0))) ∧ (b 9 = true → w.heap.size ≤ gb148) ∧ (b 9 = true → w.heap.size ≤ gb148) ∧ (b 9 = true → gb136 ≠ gb148) ∧ (b 9 = true → gb148 ≠ gb136) ∧ (b 9 = true → gb137 ≠ gb148) ∧ (b 9 = true → gb148 ≠ gb137) ∧ (b 10 = true → b 13 = false → w'.heap[gb149]? = some (.cells #[.int .i64 0, .int .i64 0, .int .i64 0] 101 (0, 0))) ∧ (b 10 = true → w.heap.size ≤ gb149) ∧ (b 10 = true → w.heap.size ≤ gb149) ∧ (b 10 = true → gb136 ≠ gb149) ∧ (b 10 = true → gb149 ≠ gb136) ∧ (b 10 = true → gb137 ≠ gb149) ∧ (b 10 = true → gb149 ≠ gb137) ∧ (b 11 = true → w'.heap[gb147]? = some (.cells #[.int .i64 t138, .int .i64 t139, .int .i64 t140] 101 (0, 0))) ∧ (b 12 = true → w'.heap[gb148]? = some (.cells #[.int .i64 t141, .int .i64 t142, .int .i64 t143] 101 (0, 0))) ∧ (b 13 = true → w'.heap[gb149]? = some (.cells #[.int .i64 t144, .int .i64 t145, .int .i64 t146] 101 (0, 0))) ∧ (b 8 = true → (m8_ : Value) = .pointer (some ⟨gb147, 0, none⟩)) ∧ (b 9 = true → (m9_ : Value) = .pointer (some ⟨gb148, 0, none⟩)) ∧ (b 10 = true → (m10_ : Value) = .pointer (some ⟨gb149, 0, none⟩))) HT_.out HW_.out (by kernel_rfl) (by kernel_rfl) ?_ ?_ ?_
 ·exact ⟨0, 0, 0, .bool false, .bool false, .bool false, by simp only [putSel, Bool.false_eq_true, if_false], BK136.out, BK137.out, HB.out, fun h_ => absurd h_ (by decide), fun h_ => absurd h_ (by decide), fun h_ => absurd h_ (by decide), fun h_ => absurd h_ (by decide), fun h_ => absurd h_ (by decide), fun h_ => absurd h_ (by decide), fun h_ => absurd h_ (by decide), fun h_ => absurd h_ (by decide), fun h_ => absurd h_ (by decide), fun h_ => absurd h_ (by decide), fun h_ => absurd h_ (by decide), fun h_ => absurd h_ (by decide), fun h_ => absurd h_ (by decide), fun h_ => absurd h_ (by decide), fun h_ => absurd h_ (by decide), fun h_ => absurd h_ (by decide), fun h_ => absurd h_ (by decide), fun h_ => absurd h_ (by decide), fun h_ => absurd h_ (by decide), fun h_ => absurd h_ (by decide), fun h_ => absurd h_ (by decide), fun h_ => absurd h_ (by decide), fun h_ => absurd h_ (by decide), fun h_ => absurd h_ (by decide), fun h_ => absurd h_ (by decide), fun h_ => absurd h_ (by decide), fun h_ => absurd h_ (by decide), fun h_ => absurd h_ (by decide), fun h_ => absurd h_ (by decide), fun h_ => absurd h_ (by decide), fun h_ => absurd h_ (by decide), fun h_ => absurd h_ (by decide), fun h_ => absurd h_ (by decide)⟩
 ·skip
  clear BK136 BK137 HB
  refine steps_cons ?_ ?_
  ·rintro b a w' ⟨gb147, gb148, gb149, m8_, m9_, m10_, ha, Q_BK136, Q_BK137, Q_HB, Q_NB148_147, Q_NB147_148, Q_NB149_147, Q_NB147_149, Q_NB149_148, Q_NB148_149, Q_BK147, Q_GW147, Q_GE147, Q_NB136_147, Q_NB147_136, Q_NB137_147, Q_NB147_137, Q_BK148, Q_GW148, Q_GE148, Q_NB136_148, Q_NB148_136, Q_NB137_148, Q_NB148_137, Q_BK149, Q_GW149, Q_GE149, Q_NB136_149, Q_NB149_136, Q_NB137_149, Q_NB149_137, Q_BK147_e11, Q_BK148_e12, Q_BK149_e13, Q_X8_, Q_X9_, Q_X10_⟩ hb_ hon hoff
   refine ⟨_, rfl, fun K hK => ?_⟩
   have e3 : a.tmps[3]? = some (.pointer (some ⟨gb137, 0, none⟩)) := by rw [ha]; exact (putSel_off rfl).trans rfl
   replace ha := mk0 ha
   have BK136 := mk0 Q_BK136
   have BK137 := mk0 Q_BK137
   have HB := mk0 Q_HB
   have hc0_ := ct BK137.out 0
   have hc1_ := ct BK137.out 1
   have hc2_ := ct BK137.out 2
   refine value_ (w1 := w') (v := .agg #[.int .i64 a1_0, .int .i64 a1_1, .int .i64 a1_2]) (by rfl) rfl ?_ ?_
   ·go_simp
    (try simp only [i64_w])
    try rfl
   refine hK.out _ _ ⟨gb147, gb148, gb149, m8_, m9_, m10_, (by rw [ha.out]; exact putSel_upk 0 hb_ rfl rfl rfl), Q_BK136, Q_BK137, Q_HB, Q_NB148_147, Q_NB147_148, Q_NB149_147, Q_NB147_149, Q_NB149_148, Q_NB148_149, Q_BK147, Q_GW147, Q_GE147, Q_NB136_147, Q_NB147_136, Q_NB137_147, Q_NB147_137, Q_BK148, Q_GW148, Q_GE148, Q_NB136_148, Q_NB148_136, Q_NB137_148, Q_NB148_137, Q_BK149, Q_GW149, Q_GE149, Q_NB136_149, Q_NB149_136, Q_NB137_149, Q_NB149_137, fun h0_ => absurd ((hoff 11 (by kernel_rfl)).symm.trans h0_) (by decide), fun h0_ => absurd ((hoff 12 (by kernel_rfl)).symm.trans h0_) (by decide), fun h0_ => absurd ((hoff 13 (by kernel_rfl)).symm.trans h0_) (by decide), Q_X8_, Q_X9_, Q_X10_⟩
  refine steps_cons ?_ ?_
  ·rintro b a w' ⟨gb147, gb148, gb149, m8_, m9_, m10_, ha, Q_BK136, Q_BK137, Q_HB, Q_NB148_147, Q_NB147_148, Q_NB149_147, Q_NB147_149, Q_NB149_148, Q_NB148_149, Q_BK147, Q_GW147, Q_GE147, Q_NB136_147, Q_NB147_136, Q_NB137_147, Q_NB147_137, Q_BK148, Q_GW148, Q_GE148, Q_NB136_148, Q_NB148_136, Q_NB137_148, Q_NB148_137, Q_BK149, Q_GW149, Q_GE149, Q_NB136_149, Q_NB149_136, Q_NB137_149, Q_NB149_137, Q_BK147_e11, Q_BK148_e12, Q_BK149_e13, Q_X8_, Q_X9_, Q_X10_⟩ hb_ hon hoff
   refine ⟨_, rfl, fun K hK => ?_⟩
   have e10 : a.tmps[10]? = some (.agg #[.int .i64 a1_0, .int .i64 a1_1, .int .i64 a1_2]) := by rw [ha]; exact putSel_on (e := (0, 10, .agg #[.int .i64 a1_0, .int .i64 a1_1, .int .i64 a1_2])) 0 rfl rfl (hon 0 (by kernel_rfl)) rfl
   replace ha := mk0 ha
   have BK136 := mk0 Q_BK136
   have BK137 := mk0 Q_BK137
   have HB := mk0 Q_HB
   refine goes_ Tryz.func43 (by kernel_rfl) rfl #[.agg #[.int .i64 a1_0, .int .i64 a1_1, .int .i64 a1_2]] (by rfl) rfl rfl (by first | (simp only [List.map_toArray, List.map_cons, List.map_nil, Act.eval, Array.getD_eq_getD_getElem?, Option.getD_some, e10]; done) | (simp only [List.map_toArray, List.map_cons, List.map_nil, Act.eval, Array.getD_eq_getD_getElem?, Option.getD_some, e10]; rfl)) ?_
   with_reducible refine (probe_of.calls a1_0 a1_1 a1_2 t138 t139 t140 _ A3.out).mono ?_
   rintro e w9 ⟨rfl, hb⟩
   refine ⟨_, rfl, ?_⟩
   have n0_ := mk0 (bbT BK136.out hb)
   have n1_ := mk0 (bbT BK137.out hb)
   have n2_ := mk0 (below_step (wT HB.out) hb)
   have z_BK147 := fun (h0_ : b 8 = true) (h1_ : b 11 = false) => (bbT (Q_BK147 h0_ h1_) hb)
   have z_BK148 := fun (h0_ : b 9 = true) (h1_ : b 12 = false) => (bbT (Q_BK148 h0_ h1_) hb)
   have z_BK149 := fun (h0_ : b 10 = true) (h1_ : b 13 = false) => (bbT (Q_BK149 h0_ h1_) hb)
   clear BK136
   clear BK137
   clear HB
   have BK136 := n0_
   have BK137 := n1_
   have HB := n2_
   clear n0_ n1_ n2_
   (try clear hb)
   (try clear hb2)
   (try clear hk)
   (try clear hi)
   refine hK.out _ _ ⟨gb147, gb148, gb149, m8_, m9_, m10_, (by rw [ha.out]; exact putSel_upk 1 hb_ rfl rfl rfl), (bT BK136.out), (bT BK137.out), (wT HB.out), Q_NB148_147, Q_NB147_148, Q_NB149_147, Q_NB147_149, Q_NB149_148, Q_NB148_149, z_BK147, Q_GW147, Q_GE147, Q_NB136_147, Q_NB147_136, Q_NB137_147, Q_NB147_137, z_BK148, Q_GW148, Q_GE148, Q_NB136_148, Q_NB148_136, Q_NB137_148, Q_NB148_137, z_BK149, Q_GW149, Q_GE149, Q_NB136_149, Q_NB149_136, Q_NB137_149, Q_NB149_137, fun h0_ => absurd ((hoff 11 (by kernel_rfl)).symm.trans h0_) (by decide), fun h0_ => absurd ((hoff 12 (by kernel_rfl)).symm.trans h0_) (by decide), fun h0_ => absurd ((hoff 13 (by kernel_rfl)).symm.trans h0_) (by decide), Q_X8_, Q_X9_, Q_X10_⟩
  refine steps_cons ?_ ?_
  ·rintro b a w' ⟨gb147, gb148, gb149, m8_, m9_, m10_, ha, Q_BK136, Q_BK137, Q_HB, Q_NB148_147, Q_NB147_148, Q_NB149_147, Q_NB147_149, Q_NB149_148, Q_NB148_149, Q_BK147, Q_GW147, Q_GE147, Q_NB136_147, Q_NB147_136, Q_NB137_147, Q_NB147_137, Q_BK148, Q_GW148, Q_GE148, Q_NB136_148, Q_NB148_136, Q_NB137_148, Q_NB148_137, Q_BK149, Q_GW149, Q_GE149, Q_NB136_149, Q_NB149_136, Q_NB137_149, Q_NB149_137, Q_BK147_e11, Q_BK148_e12, Q_BK149_e13, Q_X8_, Q_X9_, Q_X10_⟩ hb_ hon hoff
   refine ⟨_, rfl, fun K hK => ?_⟩
   have e12 : a.tmps[12]? = some (.pointer (some ⟨gb136, 0, none⟩)) := by rw [ha]; exact (putSel_off rfl).trans rfl
   replace ha := mk0 ha
   have BK136 := mk0 Q_BK136
   have BK137 := mk0 Q_BK137
   have HB := mk0 Q_HB
   have hc0_ := ct BK136.out 0
   have hc1_ := ct BK136.out 1
   have hc2_ := ct BK136.out 2
   have hc3_ := ct BK136.out 3
   have hc4_ := ct BK136.out 4
   have hc5_ := ct BK136.out 5
   have hc6_ := ct BK136.out 6
   refine value_ (w1 := w') (v := .agg #[.int .i64 a0_0, .int .i64 a0_1, .int .i64 a0_2]) (by rfl) rfl ?_ ?_
   ·go_simp
    (try simp only [i64_w])
    try rfl
   refine hK.out _ _ ⟨gb147, gb148, gb149, m8_, m9_, m10_, (by rw [ha.out]; exact putSel_upk 2 hb_ rfl rfl rfl), Q_BK136, Q_BK137, Q_HB, Q_NB148_147, Q_NB147_148, Q_NB149_147, Q_NB147_149, Q_NB149_148, Q_NB148_149, Q_BK147, Q_GW147, Q_GE147, Q_NB136_147, Q_NB147_136, Q_NB137_147, Q_NB147_137, Q_BK148, Q_GW148, Q_GE148, Q_NB136_148, Q_NB148_136, Q_NB137_148, Q_NB148_137, Q_BK149, Q_GW149, Q_GE149, Q_NB136_149, Q_NB149_136, Q_NB137_149, Q_NB149_137, fun h0_ => absurd ((hoff 11 (by kernel_rfl)).symm.trans h0_) (by decide), fun h0_ => absurd ((hoff 12 (by kernel_rfl)).symm.trans h0_) (by decide), fun h0_ => absurd ((hoff 13 (by kernel_rfl)).symm.trans h0_) (by decide), Q_X8_, Q_X9_, Q_X10_⟩
  refine steps_cons ?_ ?_
  ·rintro b a w' ⟨gb147, gb148, gb149, m8_, m9_, m10_, ha, Q_BK136, Q_BK137, Q_HB, Q_NB148_147, Q_NB147_148, Q_NB149_147, Q_NB147_149, Q_NB149_148, Q_NB148_149, Q_BK147, Q_GW147, Q_GE147, Q_NB136_147, Q_NB147_136, Q_NB137_147, Q_NB147_137, Q_BK148, Q_GW148, Q_GE148, Q_NB136_148, Q_NB148_136, Q_NB137_148, Q_NB148_137, Q_BK149, Q_GW149, Q_GE149, Q_NB136_149, Q_NB149_136, Q_NB137_149, Q_NB149_137, Q_BK147_e11, Q_BK148_e12, Q_BK149_e13, Q_X8_, Q_X9_, Q_X10_⟩ hb_ hon hoff
   refine ⟨_, rfl, fun K hK => ?_⟩
   have e13 : a.tmps[13]? = some (.agg #[.int .i64 a0_0, .int .i64 a0_1, .int .i64 a0_2]) := by rw [ha]; exact putSel_on (e := (3, 13, .agg #[.int .i64 a0_0, .int .i64 a0_1, .int .i64 a0_2])) 2 rfl rfl (hon 3 (by kernel_rfl)) rfl
   replace ha := mk0 ha
   have BK136 := mk0 Q_BK136
   have BK137 := mk0 Q_BK137
   have HB := mk0 Q_HB
   refine goes_ Tryz.func43 (by kernel_rfl) rfl #[.agg #[.int .i64 a0_0, .int .i64 a0_1, .int .i64 a0_2]] (by rfl) rfl rfl (by first | (simp only [List.map_toArray, List.map_cons, List.map_nil, Act.eval, Array.getD_eq_getD_getElem?, Option.getD_some, e13]; done) | (simp only [List.map_toArray, List.map_cons, List.map_nil, Act.eval, Array.getD_eq_getD_getElem?, Option.getD_some, e13]; rfl)) ?_
   with_reducible refine (probe_of.calls a0_0 a0_1 a0_2 t141 t142 t143 _ A4.out).mono ?_
   rintro e w11 ⟨rfl, hb⟩
   refine ⟨_, rfl, ?_⟩
   have n0_ := mk0 (bbT BK136.out hb)
   have n1_ := mk0 (bbT BK137.out hb)
   have n2_ := mk0 (below_step (wT HB.out) hb)
   have z_BK147 := fun (h0_ : b 8 = true) (h1_ : b 11 = false) => (bbT (Q_BK147 h0_ h1_) hb)
   have z_BK148 := fun (h0_ : b 9 = true) (h1_ : b 12 = false) => (bbT (Q_BK148 h0_ h1_) hb)
   have z_BK149 := fun (h0_ : b 10 = true) (h1_ : b 13 = false) => (bbT (Q_BK149 h0_ h1_) hb)
   clear BK136
   clear BK137
   clear HB
   have BK136 := n0_
   have BK137 := n1_
   have HB := n2_
   clear n0_ n1_ n2_
   (try clear hb)
   (try clear hb2)
   (try clear hk)
   (try clear hi)
   refine hK.out _ _ ⟨gb147, gb148, gb149, m8_, m9_, m10_, (by rw [ha.out]; exact putSel_upk 3 hb_ rfl rfl rfl), (bT BK136.out), (bT BK137.out), (wT HB.out), Q_NB148_147, Q_NB147_148, Q_NB149_147, Q_NB147_149, Q_NB149_148, Q_NB148_149, z_BK147, Q_GW147, Q_GE147, Q_NB136_147, Q_NB147_136, Q_NB137_147, Q_NB147_137, z_BK148, Q_GW148, Q_GE148, Q_NB136_148, Q_NB148_136, Q_NB137_148, Q_NB148_137, z_BK149, Q_GW149, Q_GE149, Q_NB136_149, Q_NB149_136, Q_NB137_149, Q_NB149_137, fun h0_ => absurd ((hoff 11 (by kernel_rfl)).symm.trans h0_) (by decide), fun h0_ => absurd ((hoff 12 (by kernel_rfl)).symm.trans h0_) (by decide), fun h0_ => absurd ((hoff 13 (by kernel_rfl)).symm.trans h0_) (by decide), Q_X8_, Q_X9_, Q_X10_⟩
  refine steps_cons ?_ ?_
  ·rintro b a w' ⟨gb147, gb148, gb149, m8_, m9_, m10_, ha, Q_BK136, Q_BK137, Q_HB, Q_NB148_147, Q_NB147_148, Q_NB149_147, Q_NB147_149, Q_NB149_148, Q_NB148_149, Q_BK147, Q_GW147, Q_GE147, Q_NB136_147, Q_NB147_136, Q_NB137_147, Q_NB147_137, Q_BK148, Q_GW148, Q_GE148, Q_NB136_148, Q_NB148_136, Q_NB137_148, Q_NB148_137, Q_BK149, Q_GW149, Q_GE149, Q_NB136_149, Q_NB149_136, Q_NB137_149, Q_NB149_137, Q_BK147_e11, Q_BK148_e12, Q_BK149_e13, Q_X8_, Q_X9_, Q_X10_⟩ hb_ hon hoff
   refine ⟨_, rfl, fun K hK => ?_⟩
   have e15 : a.tmps[15]? = some (.pointer (some ⟨gb136, 3, none⟩)) := by rw [ha]; exact (putSel_off rfl).trans rfl
   replace ha := mk0 ha
   have BK136 := mk0 Q_BK136
   have BK137 := mk0 Q_BK137
   have HB := mk0 Q_HB
   have hc0_ := ct BK136.out 0
   have hc1_ := ct BK136.out 1
   have hc2_ := ct BK136.out 2
   have hc3_ := ct BK136.out 3
   have hc4_ := ct BK136.out 4
   have hc5_ := ct BK136.out 5
   have hc6_ := ct BK136.out 6
   refine value_ (w1 := w') (v := .agg #[.int .i64 a0_3, .int .i64 a0_4, .int .i64 a0_5]) (by rfl) rfl ?_ ?_
   ·go_simp
    (try simp only [i64_w])
    try rfl
   refine hK.out _ _ ⟨gb147, gb148, gb149, m8_, m9_, m10_, (by rw [ha.out]; exact putSel_upk 4 hb_ rfl rfl rfl), Q_BK136, Q_BK137, Q_HB, Q_NB148_147, Q_NB147_148, Q_NB149_147, Q_NB147_149, Q_NB149_148, Q_NB148_149, Q_BK147, Q_GW147, Q_GE147, Q_NB136_147, Q_NB147_136, Q_NB137_147, Q_NB147_137, Q_BK148, Q_GW148, Q_GE148, Q_NB136_148, Q_NB148_136, Q_NB137_148, Q_NB148_137, Q_BK149, Q_GW149, Q_GE149, Q_NB136_149, Q_NB149_136, Q_NB137_149, Q_NB149_137, fun h0_ => absurd ((hoff 11 (by kernel_rfl)).symm.trans h0_) (by decide), fun h0_ => absurd ((hoff 12 (by kernel_rfl)).symm.trans h0_) (by decide), fun h0_ => absurd ((hoff 13 (by kernel_rfl)).symm.trans h0_) (by decide), Q_X8_, Q_X9_, Q_X10_⟩
  refine steps_cons ?_ ?_
  ·rintro b a w' ⟨gb147, gb148, gb149, m8_, m9_, m10_, ha, Q_BK136, Q_BK137, Q_HB, Q_NB148_147, Q_NB147_148, Q_NB149_147, Q_NB147_149, Q_NB149_148, Q_NB148_149, Q_BK147, Q_GW147, Q_GE147, Q_NB136_147, Q_NB147_136, Q_NB137_147, Q_NB147_137, Q_BK148, Q_GW148, Q_GE148, Q_NB136_148, Q_NB148_136, Q_NB137_148, Q_NB148_137, Q_BK149, Q_GW149, Q_GE149, Q_NB136_149, Q_NB149_136, Q_NB137_149, Q_NB149_137, Q_BK147_e11, Q_BK148_e12, Q_BK149_e13, Q_X8_, Q_X9_, Q_X10_⟩ hb_ hon hoff
   refine ⟨_, rfl, fun K hK => ?_⟩
   have e16 : a.tmps[16]? = some (.agg #[.int .i64 a0_3, .int .i64 a0_4, .int .i64 a0_5]) := by rw [ha]; exact putSel_on (e := (6, 16, .agg #[.int .i64 a0_3, .int .i64 a0_4, .int .i64 a0_5])) 4 rfl rfl (hon 6 (by kernel_rfl)) rfl
   replace ha := mk0 ha
   have BK136 := mk0 Q_BK136
   have BK137 := mk0 Q_BK137
   have HB := mk0 Q_HB
   refine goes_ Tryz.func43 (by kernel_rfl) rfl #[.agg #[.int .i64 a0_3, .int .i64 a0_4, .int .i64 a0_5]] (by rfl) rfl rfl (by first | (simp only [List.map_toArray, List.map_cons, List.map_nil, Act.eval, Array.getD_eq_getD_getElem?, Option.getD_some, e16]; done) | (simp only [List.map_toArray, List.map_cons, List.map_nil, Act.eval, Array.getD_eq_getD_getElem?, Option.getD_some, e16]; rfl)) ?_
   with_reducible refine (probe_of.calls a0_3 a0_4 a0_5 t144 t145 t146 _ A5.out).mono ?_
   rintro e w12 ⟨rfl, hb⟩
   refine ⟨_, rfl, ?_⟩
   have n0_ := mk0 (bbT BK136.out hb)
   have n1_ := mk0 (bbT BK137.out hb)
   have n2_ := mk0 (below_step (wT HB.out) hb)
   have z_BK147 := fun (h0_ : b 8 = true) (h1_ : b 11 = false) => (bbT (Q_BK147 h0_ h1_) hb)
   have z_BK148 := fun (h0_ : b 9 = true) (h1_ : b 12 = false) => (bbT (Q_BK148 h0_ h1_) hb)
   have z_BK149 := fun (h0_ : b 10 = true) (h1_ : b 13 = false) => (bbT (Q_BK149 h0_ h1_) hb)
   clear BK136
   clear BK137
   clear HB
   have BK136 := n0_
   have BK137 := n1_
   have HB := n2_
   clear n0_ n1_ n2_
   (try clear hb)
   (try clear hb2)
   (try clear hk)
   (try clear hi)
   refine hK.out _ _ ⟨gb147, gb148, gb149, m8_, m9_, m10_, (by rw [ha.out]; exact putSel_upk 5 hb_ rfl rfl rfl), (bT BK136.out), (bT BK137.out), (wT HB.out), Q_NB148_147, Q_NB147_148, Q_NB149_147, Q_NB147_149, Q_NB149_148, Q_NB148_149, z_BK147, Q_GW147, Q_GE147, Q_NB136_147, Q_NB147_136, Q_NB137_147, Q_NB147_137, z_BK148, Q_GW148, Q_GE148, Q_NB136_148, Q_NB148_136, Q_NB137_148, Q_NB148_137, z_BK149, Q_GW149, Q_GE149, Q_NB136_149, Q_NB149_136, Q_NB137_149, Q_NB149_137, fun h0_ => absurd ((hoff 11 (by kernel_rfl)).symm.trans h0_) (by decide), fun h0_ => absurd ((hoff 12 (by kernel_rfl)).symm.trans h0_) (by decide), fun h0_ => absurd ((hoff 13 (by kernel_rfl)).symm.trans h0_) (by decide), Q_X8_, Q_X9_, Q_X10_⟩
  refine steps_cons ?_ ?_
  ·rintro b a w' ⟨gb147, gb148, gb149, m8_, m9_, m10_, ha, Q_BK136, Q_BK137, Q_HB, Q_NB148_147, Q_NB147_148, Q_NB149_147, Q_NB147_149, Q_NB149_148, Q_NB148_149, Q_BK147, Q_GW147, Q_GE147, Q_NB136_147, Q_NB147_136, Q_NB137_147, Q_NB147_137, Q_BK148, Q_GW148, Q_GE148, Q_NB136_148, Q_NB148_136, Q_NB137_148, Q_NB148_137, Q_BK149, Q_GW149, Q_GE149, Q_NB136_149, Q_NB149_136, Q_NB137_149, Q_NB149_137, Q_BK147_e11, Q_BK148_e12, Q_BK149_e13, Q_X8_, Q_X9_, Q_X10_⟩ hb_ hon hoff
   refine ⟨_, rfl, fun K hK => ?_⟩
   replace ha := mk0 ha
   have BK136 := mk0 Q_BK136
   have BK137 := mk0 Q_BK137
   have HB := mk0 Q_HB
   refine box_step ?hg (N := 5) ?hd (cs := #[.int .i64 0, .int .i64 0, .int .i64 0]) (t := 101) ?hr ?_; (case hd => rfl); (case hg => rfl); (case hr => first | (go_simp; done) | (go_simp; rfl))
   intro gb147 hg w9 hbox hb
   have n0_ := mk0 (bbT BK136.out hb)
   have n1_ := mk0 (bbT BK137.out hb)
   have n2_ := mk0 (below_step (wT HB.out) hb)
   have n3_ := mk0 (hbox)
   have n4_ := mk0 ((szT HB.out hg))
   have n5_ := mk0 ((szT HB.out hg))
   have n6_ := mk0 ((neL BK136.out hg))
   have n7_ := mk0 ((neG BK136.out hg))
   have n8_ := mk0 ((neL BK137.out hg))
   have n9_ := mk0 ((neG BK137.out hg))
   have z_NB148_147 := fun (h0_ : up b 8 8 = true) (h1_ : up b 8 9 = true) => (show gb148 ≠ gb147 from by rw [hg]; exact Nat.ne_of_lt ((show gb148 < w'.heap.size by cases hq_ : b 12 with | false => exact blk_lt (Q_BK148 h1_ hq_) | true => exact blk_lt (Q_BK148_e12 hq_))))
   have z_NB147_148 := fun (h0_ : up b 8 8 = true) (h1_ : up b 8 9 = true) => (show gb147 ≠ gb148 from by rw [hg]; exact Nat.ne_of_gt ((show gb148 < w'.heap.size by cases hq_ : b 12 with | false => exact blk_lt (Q_BK148 h1_ hq_) | true => exact blk_lt (Q_BK148_e12 hq_))))
   have z_NB149_147 := fun (h0_ : up b 8 8 = true) (h1_ : up b 8 10 = true) => (show gb149 ≠ gb147 from by rw [hg]; exact Nat.ne_of_lt ((show gb149 < w'.heap.size by cases hq_ : b 13 with | false => exact blk_lt (Q_BK149 h1_ hq_) | true => exact blk_lt (Q_BK149_e13 hq_))))
   have z_NB147_149 := fun (h0_ : up b 8 8 = true) (h1_ : up b 8 10 = true) => (show gb147 ≠ gb149 from by rw [hg]; exact Nat.ne_of_gt ((show gb149 < w'.heap.size by cases hq_ : b 13 with | false => exact blk_lt (Q_BK149 h1_ hq_) | true => exact blk_lt (Q_BK149_e13 hq_))))
   have z_BK148 := fun (h0_ : b 9 = true) (h1_ : b 12 = false) => (bbT (Q_BK148 h0_ h1_) hb)
   have z_BK149 := fun (h0_ : b 10 = true) (h1_ : b 13 = false) => (bbT (Q_BK149 h0_ h1_) hb)
   clear BK136
   clear BK137
   clear HB
   have BK136 := n0_
   have BK137 := n1_
   have HB := n2_
   have BK147 := n3_
   have GW147 := n4_
   have GE147 := n5_
   have NB136_147 := n6_
   have NB147_136 := n7_
   have NB137_147 := n8_
   have NB147_137 := n9_
   clear n0_ n1_ n2_ n3_ n4_ n5_ n6_ n7_ n8_ n9_
   clear hb hbox hg
   refine hK.out _ _ ⟨gb147, gb148, gb149, (.pointer (some ⟨gb147, 0, none⟩)), m9_, m10_, (by rw [ha.out]; exact putSel_upk 6 hb_ rfl rfl rfl), (bT BK136.out), (bT BK137.out), (wT HB.out), z_NB148_147, z_NB147_148, z_NB149_147, z_NB147_149, Q_NB149_148, Q_NB148_149, fun _ _ => (bT BK147.out), fun _ => GW147.out, fun _ => GE147.out, fun _ => NB136_147.out, fun _ => NB147_136.out, fun _ => NB137_147.out, fun _ => NB147_137.out, z_BK148, Q_GW148, Q_GE148, Q_NB136_148, Q_NB148_136, Q_NB137_148, Q_NB148_137, z_BK149, Q_GW149, Q_GE149, Q_NB136_149, Q_NB149_136, Q_NB137_149, Q_NB149_137, fun h0_ => absurd ((hoff 11 (by kernel_rfl)).symm.trans h0_) (by decide), fun h0_ => absurd ((hoff 12 (by kernel_rfl)).symm.trans h0_) (by decide), fun h0_ => absurd ((hoff 13 (by kernel_rfl)).symm.trans h0_) (by decide), fun _ => rfl, Q_X9_, Q_X10_⟩
  refine steps_cons ?_ ?_
  ·rintro b a w' ⟨gb147, gb148, gb149, m8_, m9_, m10_, ha, Q_BK136, Q_BK137, Q_HB, Q_NB148_147, Q_NB147_148, Q_NB149_147, Q_NB147_149, Q_NB149_148, Q_NB148_149, Q_BK147, Q_GW147, Q_GE147, Q_NB136_147, Q_NB147_136, Q_NB137_147, Q_NB147_137, Q_BK148, Q_GW148, Q_GE148, Q_NB136_148, Q_NB148_136, Q_NB137_148, Q_NB148_137, Q_BK149, Q_GW149, Q_GE149, Q_NB136_149, Q_NB149_136, Q_NB137_149, Q_NB149_137, Q_BK147_e11, Q_BK148_e12, Q_BK149_e13, Q_X8_, Q_X9_, Q_X10_⟩ hb_ hon hoff
   refine ⟨_, rfl, fun K hK => ?_⟩
   replace ha := mk0 ha
   have BK136 := mk0 Q_BK136
   have BK137 := mk0 Q_BK137
   have HB := mk0 Q_HB
   refine box_step ?hg (N := 6) ?hd (cs := #[.int .i64 0, .int .i64 0, .int .i64 0]) (t := 101) ?hr ?_; (case hd => rfl); (case hg => rfl); (case hr => first | (go_simp; done) | (go_simp; rfl))
   intro gb148 hg w9 hbox hb
   have n0_ := mk0 (bbT BK136.out hb)
   have n1_ := mk0 (bbT BK137.out hb)
   have n2_ := mk0 (below_step (wT HB.out) hb)
   have n3_ := mk0 (hbox)
   have n4_ := mk0 ((szT HB.out hg))
   have n5_ := mk0 ((szT HB.out hg))
   have n6_ := mk0 ((neL BK136.out hg))
   have n7_ := mk0 ((neG BK136.out hg))
   have n8_ := mk0 ((neL BK137.out hg))
   have n9_ := mk0 ((neG BK137.out hg))
   have z_NB148_147 := fun (h0_ : up b 9 8 = true) (h1_ : up b 9 9 = true) => (show gb148 ≠ gb147 from by rw [hg]; exact Nat.ne_of_gt ((show gb147 < w'.heap.size by cases hq_ : b 11 with | false => exact blk_lt (Q_BK147 h0_ hq_) | true => exact blk_lt (Q_BK147_e11 hq_))))
   have z_NB147_148 := fun (h0_ : up b 9 8 = true) (h1_ : up b 9 9 = true) => (show gb147 ≠ gb148 from by rw [hg]; exact Nat.ne_of_lt ((show gb147 < w'.heap.size by cases hq_ : b 11 with | false => exact blk_lt (Q_BK147 h0_ hq_) | true => exact blk_lt (Q_BK147_e11 hq_))))
   have z_NB149_148 := fun (h0_ : up b 9 9 = true) (h1_ : up b 9 10 = true) => (show gb149 ≠ gb148 from by rw [hg]; exact Nat.ne_of_lt ((show gb149 < w'.heap.size by cases hq_ : b 13 with | false => exact blk_lt (Q_BK149 h1_ hq_) | true => exact blk_lt (Q_BK149_e13 hq_))))
   have z_NB148_149 := fun (h0_ : up b 9 9 = true) (h1_ : up b 9 10 = true) => (show gb148 ≠ gb149 from by rw [hg]; exact Nat.ne_of_gt ((show gb149 < w'.heap.size by cases hq_ : b 13 with | false => exact blk_lt (Q_BK149 h1_ hq_) | true => exact blk_lt (Q_BK149_e13 hq_))))
   have z_BK147 := fun (h0_ : b 8 = true) (h1_ : b 11 = false) => (bbT (Q_BK147 h0_ h1_) hb)
   have z_BK149 := fun (h0_ : b 10 = true) (h1_ : b 13 = false) => (bbT (Q_BK149 h0_ h1_) hb)
   clear BK136
   clear BK137
   clear HB
   have BK136 := n0_
   have BK137 := n1_
   have HB := n2_
   have BK148 := n3_
   have GW148 := n4_
   have GE148 := n5_
   have NB136_148 := n6_
   have NB148_136 := n7_
   have NB137_148 := n8_
   have NB148_137 := n9_
   clear n0_ n1_ n2_ n3_ n4_ n5_ n6_ n7_ n8_ n9_
   clear hb hbox hg
   refine hK.out _ _ ⟨gb147, gb148, gb149, m8_, (.pointer (some ⟨gb148, 0, none⟩)), m10_, (by rw [ha.out]; exact putSel_upk 7 hb_ rfl rfl rfl), (bT BK136.out), (bT BK137.out), (wT HB.out), z_NB148_147, z_NB147_148, Q_NB149_147, Q_NB147_149, z_NB149_148, z_NB148_149, z_BK147, Q_GW147, Q_GE147, Q_NB136_147, Q_NB147_136, Q_NB137_147, Q_NB147_137, fun _ _ => (bT BK148.out), fun _ => GW148.out, fun _ => GE148.out, fun _ => NB136_148.out, fun _ => NB148_136.out, fun _ => NB137_148.out, fun _ => NB148_137.out, z_BK149, Q_GW149, Q_GE149, Q_NB136_149, Q_NB149_136, Q_NB137_149, Q_NB149_137, fun h0_ => absurd ((hoff 11 (by kernel_rfl)).symm.trans h0_) (by decide), fun h0_ => absurd ((hoff 12 (by kernel_rfl)).symm.trans h0_) (by decide), fun h0_ => absurd ((hoff 13 (by kernel_rfl)).symm.trans h0_) (by decide), Q_X8_, fun _ => rfl, Q_X10_⟩
  refine steps_cons ?_ ?_
  ·rintro b a w' ⟨gb147, gb148, gb149, m8_, m9_, m10_, ha, Q_BK136, Q_BK137, Q_HB, Q_NB148_147, Q_NB147_148, Q_NB149_147, Q_NB147_149, Q_NB149_148, Q_NB148_149, Q_BK147, Q_GW147, Q_GE147, Q_NB136_147, Q_NB147_136, Q_NB137_147, Q_NB147_137, Q_BK148, Q_GW148, Q_GE148, Q_NB136_148, Q_NB148_136, Q_NB137_148, Q_NB148_137, Q_BK149, Q_GW149, Q_GE149, Q_NB136_149, Q_NB149_136, Q_NB137_149, Q_NB149_137, Q_BK147_e11, Q_BK148_e12, Q_BK149_e13, Q_X8_, Q_X9_, Q_X10_⟩ hb_ hon hoff
   refine ⟨_, rfl, fun K hK => ?_⟩
   replace ha := mk0 ha
   have BK136 := mk0 Q_BK136
   have BK137 := mk0 Q_BK137
   have HB := mk0 Q_HB
   refine box_step ?hg (N := 7) ?hd (cs := #[.int .i64 0, .int .i64 0, .int .i64 0]) (t := 101) ?hr ?_; (case hd => rfl); (case hg => rfl); (case hr => first | (go_simp; done) | (go_simp; rfl))
   intro gb149 hg w9 hbox hb
   have n0_ := mk0 (bbT BK136.out hb)
   have n1_ := mk0 (bbT BK137.out hb)
   have n2_ := mk0 (below_step (wT HB.out) hb)
   have n3_ := mk0 (hbox)
   have n4_ := mk0 ((szT HB.out hg))
   have n5_ := mk0 ((szT HB.out hg))
   have n6_ := mk0 ((neL BK136.out hg))
   have n7_ := mk0 ((neG BK136.out hg))
   have n8_ := mk0 ((neL BK137.out hg))
   have n9_ := mk0 ((neG BK137.out hg))
   have z_NB149_147 := fun (h0_ : up b 10 8 = true) (h1_ : up b 10 10 = true) => (show gb149 ≠ gb147 from by rw [hg]; exact Nat.ne_of_gt ((show gb147 < w'.heap.size by cases hq_ : b 11 with | false => exact blk_lt (Q_BK147 h0_ hq_) | true => exact blk_lt (Q_BK147_e11 hq_))))
   have z_NB147_149 := fun (h0_ : up b 10 8 = true) (h1_ : up b 10 10 = true) => (show gb147 ≠ gb149 from by rw [hg]; exact Nat.ne_of_lt ((show gb147 < w'.heap.size by cases hq_ : b 11 with | false => exact blk_lt (Q_BK147 h0_ hq_) | true => exact blk_lt (Q_BK147_e11 hq_))))
   have z_NB149_148 := fun (h0_ : up b 10 9 = true) (h1_ : up b 10 10 = true) => (show gb149 ≠ gb148 from by rw [hg]; exact Nat.ne_of_gt ((show gb148 < w'.heap.size by cases hq_ : b 12 with | false => exact blk_lt (Q_BK148 h0_ hq_) | true => exact blk_lt (Q_BK148_e12 hq_))))
   have z_NB148_149 := fun (h0_ : up b 10 9 = true) (h1_ : up b 10 10 = true) => (show gb148 ≠ gb149 from by rw [hg]; exact Nat.ne_of_lt ((show gb148 < w'.heap.size by cases hq_ : b 12 with | false => exact blk_lt (Q_BK148 h0_ hq_) | true => exact blk_lt (Q_BK148_e12 hq_))))
   have z_BK147 := fun (h0_ : b 8 = true) (h1_ : b 11 = false) => (bbT (Q_BK147 h0_ h1_) hb)
   have z_BK148 := fun (h0_ : b 9 = true) (h1_ : b 12 = false) => (bbT (Q_BK148 h0_ h1_) hb)
   clear BK136
   clear BK137
   clear HB
   have BK136 := n0_
   have BK137 := n1_
   have HB := n2_
   have BK149 := n3_
   have GW149 := n4_
   have GE149 := n5_
   have NB136_149 := n6_
   have NB149_136 := n7_
   have NB137_149 := n8_
   have NB149_137 := n9_
   clear n0_ n1_ n2_ n3_ n4_ n5_ n6_ n7_ n8_ n9_
   clear hb hbox hg
   refine hK.out _ _ ⟨gb147, gb148, gb149, m8_, m9_, (.pointer (some ⟨gb149, 0, none⟩)), (by rw [ha.out]; exact putSel_upk 8 hb_ rfl rfl rfl), (bT BK136.out), (bT BK137.out), (wT HB.out), Q_NB148_147, Q_NB147_148, z_NB149_147, z_NB147_149, z_NB149_148, z_NB148_149, z_BK147, Q_GW147, Q_GE147, Q_NB136_147, Q_NB147_136, Q_NB137_147, Q_NB147_137, z_BK148, Q_GW148, Q_GE148, Q_NB136_148, Q_NB148_136, Q_NB137_148, Q_NB148_137, fun _ _ => (bT BK149.out), fun _ => GW149.out, fun _ => GE149.out, fun _ => NB136_149.out, fun _ => NB149_136.out, fun _ => NB137_149.out, fun _ => NB149_137.out, fun h0_ => absurd ((hoff 11 (by kernel_rfl)).symm.trans h0_) (by decide), fun h0_ => absurd ((hoff 12 (by kernel_rfl)).symm.trans h0_) (by decide), fun h0_ => absurd ((hoff 13 (by kernel_rfl)).symm.trans h0_) (by decide), Q_X8_, Q_X9_, fun _ => rfl⟩
  refine steps_cons ?_ ?_
  ·rintro b a w' ⟨gb147, gb148, gb149, m8_, m9_, m10_, ha, Q_BK136, Q_BK137, Q_HB, Q_NB148_147, Q_NB147_148, Q_NB149_147, Q_NB147_149, Q_NB149_148, Q_NB148_149, Q_BK147, Q_GW147, Q_GE147, Q_NB136_147, Q_NB147_136, Q_NB137_147, Q_NB147_137, Q_BK148, Q_GW148, Q_GE148, Q_NB136_148, Q_NB148_136, Q_NB137_148, Q_NB148_137, Q_BK149, Q_GW149, Q_GE149, Q_NB136_149, Q_NB149_136, Q_NB137_149, Q_NB149_137, Q_BK147_e11, Q_BK148_e12, Q_BK149_e13, Q_X8_, Q_X9_, Q_X10_⟩ hb_ hon hoff
   refine ⟨_, rfl, fun K hK => ?_⟩
   have e5 : a.tmps[5]? = some (m8_) := by rw [ha]; exact putSel_on (e := (8, 5, m8_)) 6 rfl rfl (hon 8 (by kernel_rfl)) rfl
   rw [Q_X8_ (hon 8 (by kernel_rfl))] at e5
   have e11 : a.tmps[11]? = some (.agg #[.int .i64 t138, .int .i64 t139, .int .i64 t140]) := by rw [ha]; exact putSel_on (e := (1, 11, .agg #[.int .i64 t138, .int .i64 t139, .int .i64 t140])) 1 rfl rfl (hon 1 (by kernel_rfl)) rfl
   replace ha := mk0 ha
   have BK136 := mk0 Q_BK136
   have BK137 := mk0 Q_BK137
   have HB := mk0 Q_HB
   have NB148_147 := mk0 (Q_NB148_147 (hon 8 (by kernel_rfl)) (hon 9 (by kernel_rfl)))
   have NB147_148 := mk0 (Q_NB147_148 (hon 8 (by kernel_rfl)) (hon 9 (by kernel_rfl)))
   have NB149_147 := mk0 (Q_NB149_147 (hon 8 (by kernel_rfl)) (hon 10 (by kernel_rfl)))
   have NB147_149 := mk0 (Q_NB147_149 (hon 8 (by kernel_rfl)) (hon 10 (by kernel_rfl)))
   have NB149_148 := mk0 (Q_NB149_148 (hon 9 (by kernel_rfl)) (hon 10 (by kernel_rfl)))
   have NB148_149 := mk0 (Q_NB148_149 (hon 9 (by kernel_rfl)) (hon 10 (by kernel_rfl)))
   have BK147 := mk0 (Q_BK147 (hon 8 (by kernel_rfl)) hb_)
   have GW147 := mk0 (Q_GW147 (hon 8 (by kernel_rfl)))
   have GE147 := mk0 (Q_GE147 (hon 8 (by kernel_rfl)))
   have NB136_147 := mk0 (Q_NB136_147 (hon 8 (by kernel_rfl)))
   have NB147_136 := mk0 (Q_NB147_136 (hon 8 (by kernel_rfl)))
   have NB137_147 := mk0 (Q_NB137_147 (hon 8 (by kernel_rfl)))
   have NB147_137 := mk0 (Q_NB147_137 (hon 8 (by kernel_rfl)))
   have BK148 := mk0 (Q_BK148 (hon 9 (by kernel_rfl)) (hoff 12 (by kernel_rfl)))
   have GW148 := mk0 (Q_GW148 (hon 9 (by kernel_rfl)))
   have GE148 := mk0 (Q_GE148 (hon 9 (by kernel_rfl)))
   have NB136_148 := mk0 (Q_NB136_148 (hon 9 (by kernel_rfl)))
   have NB148_136 := mk0 (Q_NB148_136 (hon 9 (by kernel_rfl)))
   have NB137_148 := mk0 (Q_NB137_148 (hon 9 (by kernel_rfl)))
   have NB148_137 := mk0 (Q_NB148_137 (hon 9 (by kernel_rfl)))
   have BK149 := mk0 (Q_BK149 (hon 10 (by kernel_rfl)) (hoff 13 (by kernel_rfl)))
   have GW149 := mk0 (Q_GW149 (hon 10 (by kernel_rfl)))
   have GE149 := mk0 (Q_GE149 (hon 10 (by kernel_rfl)))
   have NB136_149 := mk0 (Q_NB136_149 (hon 10 (by kernel_rfl)))
   have NB149_136 := mk0 (Q_NB149_136 (hon 10 (by kernel_rfl)))
   have NB137_149 := mk0 (Q_NB137_149 (hon 10 (by kernel_rfl)))
   have NB149_137 := mk0 (Q_NB149_137 (hon 10 (by kernel_rfl)))
   have hs16 := ct BK147.out 0
   have hfs16 := blk_frozen BK147.out 0
   have hns16_0 := NB136_147.out
   have hns16_1 := NB137_147.out
   have hns16_3 := NB148_147.out
   have hns16_4 := NB149_147.out
   have hms16_0 := NB147_136.out
   have hms16_1 := NB147_137.out
   have hms16_3 := NB147_148.out
   have hms16_4 := NB147_149.out
   have hs17 := ct BK147.out 1
   have hfs17 := blk_frozen BK147.out 1
   have hns17_0 := NB136_147.out
   have hns17_1 := NB137_147.out
   have hns17_3 := NB148_147.out
   have hns17_4 := NB149_147.out
   have hms17_0 := NB147_136.out
   have hms17_1 := NB147_137.out
   have hms17_3 := NB147_148.out
   have hms17_4 := NB147_149.out
   have hs18 := ct BK147.out 2
   have hfs18 := blk_frozen BK147.out 2
   have hns18_0 := NB136_147.out
   have hns18_1 := NB137_147.out
   have hns18_3 := NB148_147.out
   have hns18_4 := NB149_147.out
   have hms18_0 := NB147_136.out
   have hms18_1 := NB147_137.out
   have hms18_3 := NB147_148.out
   have hms18_4 := NB147_149.out
   refine skip_ (w1 := ?_) (by rfl) rfl ?_ ?_
   rotate_left
   ·go_simp
    rfl
   refine hK.out _ _ ⟨gb147, gb148, gb149, m8_, m9_, m10_, (by rw [ha.out]; exact putSel_none (v := undef) rfl), (by (with_reducible repeat (first | refine blk_drewN ?_ _ | refine blk_drew ?_ | refine blk_alloc ?_ _)); refine blk_far ?_ NB136_147.out _; refine blk_far ?_ NB136_147.out _; refine blk_far ?_ NB136_147.out _; (with_reducible repeat (first | refine blk_drewN ?_ _ | refine blk_drew ?_ | refine blk_alloc ?_ _)); exact BK136.out), (by (with_reducible repeat (first | refine blk_drewN ?_ _ | refine blk_drew ?_ | refine blk_alloc ?_ _)); refine blk_far ?_ NB137_147.out _; refine blk_far ?_ NB137_147.out _; refine blk_far ?_ NB137_147.out _; (with_reducible repeat (first | refine blk_drewN ?_ _ | refine blk_drew ?_ | refine blk_alloc ?_ _)); exact BK137.out), (by repeat (first | (with_reducible first | exact HB.out | apply below_alloc | apply pw_below_drewN | apply below_drew1 | refine below_set ?_ GE147.out) | exact HB.out)), fun _ _ => NB148_147.out, fun _ _ => NB147_148.out, fun _ _ => NB149_147.out, fun _ _ => NB147_149.out, fun _ _ => NB149_148.out, fun _ _ => NB148_149.out, fun _ h1_ => absurd ((up_self b 11).symm.trans h1_) (by decide), fun _ => GW147.out, fun _ => GE147.out, fun _ => NB136_147.out, fun _ => NB147_136.out, fun _ => NB137_147.out, fun _ => NB147_137.out, fun _ _ => (by (with_reducible repeat (first | refine blk_drewN ?_ _ | refine blk_drew ?_ | refine blk_alloc ?_ _)); refine blk_far ?_ NB148_147.out _; refine blk_far ?_ NB148_147.out _; refine blk_far ?_ NB148_147.out _; (with_reducible repeat (first | refine blk_drewN ?_ _ | refine blk_drew ?_ | refine blk_alloc ?_ _)); exact BK148.out), fun _ => GW148.out, fun _ => GE148.out, fun _ => NB136_148.out, fun _ => NB148_136.out, fun _ => NB137_148.out, fun _ => NB148_137.out, fun _ _ => (by (with_reducible repeat (first | refine blk_drewN ?_ _ | refine blk_drew ?_ | refine blk_alloc ?_ _)); refine blk_far ?_ NB149_147.out _; refine blk_far ?_ NB149_147.out _; refine blk_far ?_ NB149_147.out _; (with_reducible repeat (first | refine blk_drewN ?_ _ | refine blk_drew ?_ | refine blk_alloc ?_ _)); exact BK149.out), fun _ => GW149.out, fun _ => GE149.out, fun _ => NB136_149.out, fun _ => NB149_136.out, fun _ => NB137_149.out, fun _ => NB149_137.out, fun _ => (by (with_reducible repeat (first | refine blk_drewN ?_ _ | refine blk_drew ?_ | refine blk_alloc ?_ _)); refine blk_put (cs := #[.int .i64 t138, .int .i64 t139, .int .i64 0]) ?_ 2 _ rfl; refine blk_put (cs := #[.int .i64 t138, .int .i64 0, .int .i64 0]) ?_ 1 _ rfl; refine blk_put (cs := #[.int .i64 0, .int .i64 0, .int .i64 0]) ?_ 0 _ rfl; (with_reducible repeat (first | refine blk_drewN ?_ _ | refine blk_drew ?_ | refine blk_alloc ?_ _)); exact BK147.out), fun h0_ => absurd ((hoff 12 (by kernel_rfl)).symm.trans h0_) (by decide), fun h0_ => absurd ((hoff 13 (by kernel_rfl)).symm.trans h0_) (by decide), Q_X8_, Q_X9_, Q_X10_⟩
  refine steps_cons ?_ ?_
  ·rintro b a w' ⟨gb147, gb148, gb149, m8_, m9_, m10_, ha, Q_BK136, Q_BK137, Q_HB, Q_NB148_147, Q_NB147_148, Q_NB149_147, Q_NB147_149, Q_NB149_148, Q_NB148_149, Q_BK147, Q_GW147, Q_GE147, Q_NB136_147, Q_NB147_136, Q_NB137_147, Q_NB147_137, Q_BK148, Q_GW148, Q_GE148, Q_NB136_148, Q_NB148_136, Q_NB137_148, Q_NB148_137, Q_BK149, Q_GW149, Q_GE149, Q_NB136_149, Q_NB149_136, Q_NB137_149, Q_NB149_137, Q_BK147_e11, Q_BK148_e12, Q_BK149_e13, Q_X8_, Q_X9_, Q_X10_⟩ hb_ hon hoff
   refine ⟨_, rfl, fun K hK => ?_⟩
   have e6 : a.tmps[6]? = some (m9_) := by rw [ha]; exact putSel_on (e := (9, 6, m9_)) 7 rfl rfl (hon 9 (by kernel_rfl)) rfl
   rw [Q_X9_ (hon 9 (by kernel_rfl))] at e6
   have e14 : a.tmps[14]? = some (.agg #[.int .i64 t141, .int .i64 t142, .int .i64 t143]) := by rw [ha]; exact putSel_on (e := (4, 14, .agg #[.int .i64 t141, .int .i64 t142, .int .i64 t143])) 3 rfl rfl (hon 4 (by kernel_rfl)) rfl
   replace ha := mk0 ha
   have BK136 := mk0 Q_BK136
   have BK137 := mk0 Q_BK137
   have HB := mk0 Q_HB
   have NB148_147 := mk0 (Q_NB148_147 (hon 8 (by kernel_rfl)) (hon 9 (by kernel_rfl)))
   have NB147_148 := mk0 (Q_NB147_148 (hon 8 (by kernel_rfl)) (hon 9 (by kernel_rfl)))
   have NB149_147 := mk0 (Q_NB149_147 (hon 8 (by kernel_rfl)) (hon 10 (by kernel_rfl)))
   have NB147_149 := mk0 (Q_NB147_149 (hon 8 (by kernel_rfl)) (hon 10 (by kernel_rfl)))
   have NB149_148 := mk0 (Q_NB149_148 (hon 9 (by kernel_rfl)) (hon 10 (by kernel_rfl)))
   have NB148_149 := mk0 (Q_NB148_149 (hon 9 (by kernel_rfl)) (hon 10 (by kernel_rfl)))
   have GW147 := mk0 (Q_GW147 (hon 8 (by kernel_rfl)))
   have GE147 := mk0 (Q_GE147 (hon 8 (by kernel_rfl)))
   have NB136_147 := mk0 (Q_NB136_147 (hon 8 (by kernel_rfl)))
   have NB147_136 := mk0 (Q_NB147_136 (hon 8 (by kernel_rfl)))
   have NB137_147 := mk0 (Q_NB137_147 (hon 8 (by kernel_rfl)))
   have NB147_137 := mk0 (Q_NB147_137 (hon 8 (by kernel_rfl)))
   have BK148 := mk0 (Q_BK148 (hon 9 (by kernel_rfl)) hb_)
   have GW148 := mk0 (Q_GW148 (hon 9 (by kernel_rfl)))
   have GE148 := mk0 (Q_GE148 (hon 9 (by kernel_rfl)))
   have NB136_148 := mk0 (Q_NB136_148 (hon 9 (by kernel_rfl)))
   have NB148_136 := mk0 (Q_NB148_136 (hon 9 (by kernel_rfl)))
   have NB137_148 := mk0 (Q_NB137_148 (hon 9 (by kernel_rfl)))
   have NB148_137 := mk0 (Q_NB148_137 (hon 9 (by kernel_rfl)))
   have BK149 := mk0 (Q_BK149 (hon 10 (by kernel_rfl)) (hoff 13 (by kernel_rfl)))
   have GW149 := mk0 (Q_GW149 (hon 10 (by kernel_rfl)))
   have GE149 := mk0 (Q_GE149 (hon 10 (by kernel_rfl)))
   have NB136_149 := mk0 (Q_NB136_149 (hon 10 (by kernel_rfl)))
   have NB149_136 := mk0 (Q_NB149_136 (hon 10 (by kernel_rfl)))
   have NB137_149 := mk0 (Q_NB137_149 (hon 10 (by kernel_rfl)))
   have NB149_137 := mk0 (Q_NB149_137 (hon 10 (by kernel_rfl)))
   have BK147 := mk0 (Q_BK147_e11 (hon 11 (by kernel_rfl)))
   have hs19 := ct BK148.out 0
   have hfs19 := blk_frozen BK148.out 0
   have hns19_0 := NB136_148.out
   have hns19_1 := NB137_148.out
   have hns19_2 := NB147_148.out
   have hns19_4 := NB149_148.out
   have hms19_0 := NB148_136.out
   have hms19_1 := NB148_137.out
   have hms19_2 := NB148_147.out
   have hms19_4 := NB148_149.out
   have hs20 := ct BK148.out 1
   have hfs20 := blk_frozen BK148.out 1
   have hns20_0 := NB136_148.out
   have hns20_1 := NB137_148.out
   have hns20_2 := NB147_148.out
   have hns20_4 := NB149_148.out
   have hms20_0 := NB148_136.out
   have hms20_1 := NB148_137.out
   have hms20_2 := NB148_147.out
   have hms20_4 := NB148_149.out
   have hs21 := ct BK148.out 2
   have hfs21 := blk_frozen BK148.out 2
   have hns21_0 := NB136_148.out
   have hns21_1 := NB137_148.out
   have hns21_2 := NB147_148.out
   have hns21_4 := NB149_148.out
   have hms21_0 := NB148_136.out
   have hms21_1 := NB148_137.out
   have hms21_2 := NB148_147.out
   have hms21_4 := NB148_149.out
   refine skip_ (w1 := ?_) (by rfl) rfl ?_ ?_
   rotate_left
   ·go_simp
    rfl
   refine hK.out _ _ ⟨gb147, gb148, gb149, m8_, m9_, m10_, (by rw [ha.out]; exact putSel_none (v := undef) rfl), (by (with_reducible repeat (first | refine blk_drewN ?_ _ | refine blk_drew ?_ | refine blk_alloc ?_ _)); refine blk_far ?_ NB136_148.out _; refine blk_far ?_ NB136_148.out _; refine blk_far ?_ NB136_148.out _; (with_reducible repeat (first | refine blk_drewN ?_ _ | refine blk_drew ?_ | refine blk_alloc ?_ _)); exact BK136.out), (by (with_reducible repeat (first | refine blk_drewN ?_ _ | refine blk_drew ?_ | refine blk_alloc ?_ _)); refine blk_far ?_ NB137_148.out _; refine blk_far ?_ NB137_148.out _; refine blk_far ?_ NB137_148.out _; (with_reducible repeat (first | refine blk_drewN ?_ _ | refine blk_drew ?_ | refine blk_alloc ?_ _)); exact BK137.out), (by repeat (first | (with_reducible first | exact HB.out | apply below_alloc | apply pw_below_drewN | apply below_drew1 | refine below_set ?_ GE148.out) | exact HB.out)), fun _ _ => NB148_147.out, fun _ _ => NB147_148.out, fun _ _ => NB149_147.out, fun _ _ => NB147_149.out, fun _ _ => NB149_148.out, fun _ _ => NB148_149.out, fun _ h1_ => absurd ((hon 11 (by kernel_rfl)).symm.trans h1_) (by decide), fun _ => GW147.out, fun _ => GE147.out, fun _ => NB136_147.out, fun _ => NB147_136.out, fun _ => NB137_147.out, fun _ => NB147_137.out, fun _ h1_ => absurd ((up_self b 12).symm.trans h1_) (by decide), fun _ => GW148.out, fun _ => GE148.out, fun _ => NB136_148.out, fun _ => NB148_136.out, fun _ => NB137_148.out, fun _ => NB148_137.out, fun _ _ => (by (with_reducible repeat (first | refine blk_drewN ?_ _ | refine blk_drew ?_ | refine blk_alloc ?_ _)); refine blk_far ?_ NB149_148.out _; refine blk_far ?_ NB149_148.out _; refine blk_far ?_ NB149_148.out _; (with_reducible repeat (first | refine blk_drewN ?_ _ | refine blk_drew ?_ | refine blk_alloc ?_ _)); exact BK149.out), fun _ => GW149.out, fun _ => GE149.out, fun _ => NB136_149.out, fun _ => NB149_136.out, fun _ => NB137_149.out, fun _ => NB149_137.out, fun _ => (by (with_reducible repeat (first | refine blk_drewN ?_ _ | refine blk_drew ?_ | refine blk_alloc ?_ _)); refine blk_far ?_ NB147_148.out _; refine blk_far ?_ NB147_148.out _; refine blk_far ?_ NB147_148.out _; (with_reducible repeat (first | refine blk_drewN ?_ _ | refine blk_drew ?_ | refine blk_alloc ?_ _)); exact BK147.out), fun _ => (by (with_reducible repeat (first | refine blk_drewN ?_ _ | refine blk_drew ?_ | refine blk_alloc ?_ _)); refine blk_put (cs := #[.int .i64 t141, .int .i64 t142, .int .i64 0]) ?_ 2 _ rfl; refine blk_put (cs := #[.int .i64 t141, .int .i64 0, .int .i64 0]) ?_ 1 _ rfl; refine blk_put (cs := #[.int .i64 0, .int .i64 0, .int .i64 0]) ?_ 0 _ rfl; (with_reducible repeat (first | refine blk_drewN ?_ _ | refine blk_drew ?_ | refine blk_alloc ?_ _)); exact BK148.out), fun h0_ => absurd ((hoff 13 (by kernel_rfl)).symm.trans h0_) (by decide), Q_X8_, Q_X9_, Q_X10_⟩
  refine steps_cons ?_ ?_
  ·rintro b a w' ⟨gb147, gb148, gb149, m8_, m9_, m10_, ha, Q_BK136, Q_BK137, Q_HB, Q_NB148_147, Q_NB147_148, Q_NB149_147, Q_NB147_149, Q_NB149_148, Q_NB148_149, Q_BK147, Q_GW147, Q_GE147, Q_NB136_147, Q_NB147_136, Q_NB137_147, Q_NB147_137, Q_BK148, Q_GW148, Q_GE148, Q_NB136_148, Q_NB148_136, Q_NB137_148, Q_NB148_137, Q_BK149, Q_GW149, Q_GE149, Q_NB136_149, Q_NB149_136, Q_NB137_149, Q_NB149_137, Q_BK147_e11, Q_BK148_e12, Q_BK149_e13, Q_X8_, Q_X9_, Q_X10_⟩ hb_ hon hoff
   refine ⟨_, rfl, fun K hK => ?_⟩
   have e7 : a.tmps[7]? = some (m10_) := by rw [ha]; exact putSel_on (e := (10, 7, m10_)) 8 rfl rfl (hon 10 (by kernel_rfl)) rfl
   rw [Q_X10_ (hon 10 (by kernel_rfl))] at e7
   have e17 : a.tmps[17]? = some (.agg #[.int .i64 t144, .int .i64 t145, .int .i64 t146]) := by rw [ha]; exact putSel_on (e := (7, 17, .agg #[.int .i64 t144, .int .i64 t145, .int .i64 t146])) 5 rfl rfl (hon 7 (by kernel_rfl)) rfl
   replace ha := mk0 ha
   have BK136 := mk0 Q_BK136
   have BK137 := mk0 Q_BK137
   have HB := mk0 Q_HB
   have NB148_147 := mk0 (Q_NB148_147 (hon 8 (by kernel_rfl)) (hon 9 (by kernel_rfl)))
   have NB147_148 := mk0 (Q_NB147_148 (hon 8 (by kernel_rfl)) (hon 9 (by kernel_rfl)))
   have NB149_147 := mk0 (Q_NB149_147 (hon 8 (by kernel_rfl)) (hon 10 (by kernel_rfl)))
   have NB147_149 := mk0 (Q_NB147_149 (hon 8 (by kernel_rfl)) (hon 10 (by kernel_rfl)))
   have NB149_148 := mk0 (Q_NB149_148 (hon 9 (by kernel_rfl)) (hon 10 (by kernel_rfl)))
   have NB148_149 := mk0 (Q_NB148_149 (hon 9 (by kernel_rfl)) (hon 10 (by kernel_rfl)))
   have GW147 := mk0 (Q_GW147 (hon 8 (by kernel_rfl)))
   have GE147 := mk0 (Q_GE147 (hon 8 (by kernel_rfl)))
   have NB136_147 := mk0 (Q_NB136_147 (hon 8 (by kernel_rfl)))
   have NB147_136 := mk0 (Q_NB147_136 (hon 8 (by kernel_rfl)))
   have NB137_147 := mk0 (Q_NB137_147 (hon 8 (by kernel_rfl)))
   have NB147_137 := mk0 (Q_NB147_137 (hon 8 (by kernel_rfl)))
   have GW148 := mk0 (Q_GW148 (hon 9 (by kernel_rfl)))
   have GE148 := mk0 (Q_GE148 (hon 9 (by kernel_rfl)))
   have NB136_148 := mk0 (Q_NB136_148 (hon 9 (by kernel_rfl)))
   have NB148_136 := mk0 (Q_NB148_136 (hon 9 (by kernel_rfl)))
   have NB137_148 := mk0 (Q_NB137_148 (hon 9 (by kernel_rfl)))
   have NB148_137 := mk0 (Q_NB148_137 (hon 9 (by kernel_rfl)))
   have BK149 := mk0 (Q_BK149 (hon 10 (by kernel_rfl)) hb_)
   have GW149 := mk0 (Q_GW149 (hon 10 (by kernel_rfl)))
   have GE149 := mk0 (Q_GE149 (hon 10 (by kernel_rfl)))
   have NB136_149 := mk0 (Q_NB136_149 (hon 10 (by kernel_rfl)))
   have NB149_136 := mk0 (Q_NB149_136 (hon 10 (by kernel_rfl)))
   have NB137_149 := mk0 (Q_NB137_149 (hon 10 (by kernel_rfl)))
   have NB149_137 := mk0 (Q_NB149_137 (hon 10 (by kernel_rfl)))
   have BK147 := mk0 (Q_BK147_e11 (hon 11 (by kernel_rfl)))
   have BK148 := mk0 (Q_BK148_e12 (hon 12 (by kernel_rfl)))
   have hs22 := ct BK149.out 0
   have hfs22 := blk_frozen BK149.out 0
   have hns22_0 := NB136_149.out
   have hns22_1 := NB137_149.out
   have hns22_2 := NB147_149.out
   have hns22_3 := NB148_149.out
   have hms22_0 := NB149_136.out
   have hms22_1 := NB149_137.out
   have hms22_2 := NB149_147.out
   have hms22_3 := NB149_148.out
   have hs23 := ct BK149.out 1
   have hfs23 := blk_frozen BK149.out 1
   have hns23_0 := NB136_149.out
   have hns23_1 := NB137_149.out
   have hns23_2 := NB147_149.out
   have hns23_3 := NB148_149.out
   have hms23_0 := NB149_136.out
   have hms23_1 := NB149_137.out
   have hms23_2 := NB149_147.out
   have hms23_3 := NB149_148.out
   have hs24 := ct BK149.out 2
   have hfs24 := blk_frozen BK149.out 2
   have hns24_0 := NB136_149.out
   have hns24_1 := NB137_149.out
   have hns24_2 := NB147_149.out
   have hns24_3 := NB148_149.out
   have hms24_0 := NB149_136.out
   have hms24_1 := NB149_137.out
   have hms24_2 := NB149_147.out
   have hms24_3 := NB149_148.out
   refine skip_ (w1 := ?_) (by rfl) rfl ?_ ?_
   rotate_left
   ·go_simp
    rfl
   refine hK.out _ _ ⟨gb147, gb148, gb149, m8_, m9_, m10_, (by rw [ha.out]; exact putSel_none (v := undef) rfl), (by (with_reducible repeat (first | refine blk_drewN ?_ _ | refine blk_drew ?_ | refine blk_alloc ?_ _)); refine blk_far ?_ NB136_149.out _; refine blk_far ?_ NB136_149.out _; refine blk_far ?_ NB136_149.out _; (with_reducible repeat (first | refine blk_drewN ?_ _ | refine blk_drew ?_ | refine blk_alloc ?_ _)); exact BK136.out), (by (with_reducible repeat (first | refine blk_drewN ?_ _ | refine blk_drew ?_ | refine blk_alloc ?_ _)); refine blk_far ?_ NB137_149.out _; refine blk_far ?_ NB137_149.out _; refine blk_far ?_ NB137_149.out _; (with_reducible repeat (first | refine blk_drewN ?_ _ | refine blk_drew ?_ | refine blk_alloc ?_ _)); exact BK137.out), (by repeat (first | (with_reducible first | exact HB.out | apply below_alloc | apply pw_below_drewN | apply below_drew1 | refine below_set ?_ GE149.out) | exact HB.out)), fun _ _ => NB148_147.out, fun _ _ => NB147_148.out, fun _ _ => NB149_147.out, fun _ _ => NB147_149.out, fun _ _ => NB149_148.out, fun _ _ => NB148_149.out, fun _ h1_ => absurd ((hon 11 (by kernel_rfl)).symm.trans h1_) (by decide), fun _ => GW147.out, fun _ => GE147.out, fun _ => NB136_147.out, fun _ => NB147_136.out, fun _ => NB137_147.out, fun _ => NB147_137.out, fun _ h1_ => absurd ((hon 12 (by kernel_rfl)).symm.trans h1_) (by decide), fun _ => GW148.out, fun _ => GE148.out, fun _ => NB136_148.out, fun _ => NB148_136.out, fun _ => NB137_148.out, fun _ => NB148_137.out, fun _ h1_ => absurd ((up_self b 13).symm.trans h1_) (by decide), fun _ => GW149.out, fun _ => GE149.out, fun _ => NB136_149.out, fun _ => NB149_136.out, fun _ => NB137_149.out, fun _ => NB149_137.out, fun _ => (by (with_reducible repeat (first | refine blk_drewN ?_ _ | refine blk_drew ?_ | refine blk_alloc ?_ _)); refine blk_far ?_ NB147_149.out _; refine blk_far ?_ NB147_149.out _; refine blk_far ?_ NB147_149.out _; (with_reducible repeat (first | refine blk_drewN ?_ _ | refine blk_drew ?_ | refine blk_alloc ?_ _)); exact BK147.out), fun _ => (by (with_reducible repeat (first | refine blk_drewN ?_ _ | refine blk_drew ?_ | refine blk_alloc ?_ _)); refine blk_far ?_ NB148_149.out _; refine blk_far ?_ NB148_149.out _; refine blk_far ?_ NB148_149.out _; (with_reducible repeat (first | refine blk_drewN ?_ _ | refine blk_drew ?_ | refine blk_alloc ?_ _)); exact BK148.out), fun _ => (by (with_reducible repeat (first | refine blk_drewN ?_ _ | refine blk_drew ?_ | refine blk_alloc ?_ _)); refine blk_put (cs := #[.int .i64 t144, .int .i64 t145, .int .i64 0]) ?_ 2 _ rfl; refine blk_put (cs := #[.int .i64 t144, .int .i64 0, .int .i64 0]) ?_ 1 _ rfl; refine blk_put (cs := #[.int .i64 0, .int .i64 0, .int .i64 0]) ?_ 0 _ rfl; (with_reducible repeat (first | refine blk_drewN ?_ _ | refine blk_drew ?_ | refine blk_alloc ?_ _)); exact BK149.out), Q_X8_, Q_X9_, Q_X10_⟩
  exact steps_nil
 rintro b a w24 hall ⟨gb147, gb148, gb149, m8_, m9_, m10_, ha, Q_BK136, Q_BK137, Q_HB, Q_NB148_147, Q_NB147_148, Q_NB149_147, Q_NB147_149, Q_NB149_148, Q_NB148_149, Q_BK147, Q_GW147, Q_GE147, Q_NB136_147, Q_NB147_136, Q_NB137_147, Q_NB147_137, Q_BK148, Q_GW148, Q_GE148, Q_NB136_148, Q_NB148_136, Q_NB137_148, Q_NB148_137, Q_BK149, Q_GW149, Q_GE149, Q_NB136_149, Q_NB149_136, Q_NB137_149, Q_NB149_137, Q_BK147_e11, Q_BK148_e12, Q_BK149_e13, Q_X8_, Q_X9_, Q_X10_⟩
 clear BK136 BK137 HB
 have hb0_ := hall 0 (by kernel_rfl)
 have hb1_ := hall 1 (by kernel_rfl)
 have hb3_ := hall 3 (by kernel_rfl)
 have hb4_ := hall 4 (by kernel_rfl)
 have hb6_ := hall 6 (by kernel_rfl)
 have hb7_ := hall 7 (by kernel_rfl)
 have hb8_ := hall 8 (by kernel_rfl)
 have hb9_ := hall 9 (by kernel_rfl)
 have hb10_ := hall 10 (by kernel_rfl)
 have hb11_ := hall 11 (by kernel_rfl)
 have hb12_ := hall 12 (by kernel_rfl)
 have hb13_ := hall 13 (by kernel_rfl)
 subst ha
 obtain rfl := Q_X8_ hb8_
 obtain rfl := Q_X9_ hb9_
 obtain rfl := Q_X10_ hb10_
 simp only [putSel, hb0_, hb1_, hb3_, hb4_, hb6_, hb7_, hb8_, hb9_, hb10_, hb11_, hb12_, hb13_, if_true, Act.put, List.setIfInBounds_toArray, List.set_cons_zero, List.set_cons_succ]
 have BK136 := mk0 Q_BK136
 clear Q_BK136
 have BK137 := mk0 Q_BK137
 clear Q_BK137
 have HB := mk0 Q_HB
 clear Q_HB
 have NB148_147 := mk0 (Q_NB148_147 hb8_ hb9_)
 clear Q_NB148_147
 have NB147_148 := mk0 (Q_NB147_148 hb8_ hb9_)
 clear Q_NB147_148
 have NB149_147 := mk0 (Q_NB149_147 hb8_ hb10_)
 clear Q_NB149_147
 have NB147_149 := mk0 (Q_NB147_149 hb8_ hb10_)
 clear Q_NB147_149
 have NB149_148 := mk0 (Q_NB149_148 hb9_ hb10_)
 clear Q_NB149_148
 have NB148_149 := mk0 (Q_NB148_149 hb9_ hb10_)
 clear Q_NB148_149
 clear Q_BK147
 have GW147 := mk0 (Q_GW147 hb8_)
 clear Q_GW147
 have GE147 := mk0 (Q_GE147 hb8_)
 clear Q_GE147
 have NB136_147 := mk0 (Q_NB136_147 hb8_)
 clear Q_NB136_147
 have NB147_136 := mk0 (Q_NB147_136 hb8_)
 clear Q_NB147_136
 have NB137_147 := mk0 (Q_NB137_147 hb8_)
 clear Q_NB137_147
 have NB147_137 := mk0 (Q_NB147_137 hb8_)
 clear Q_NB147_137
 clear Q_BK148
 have GW148 := mk0 (Q_GW148 hb9_)
 clear Q_GW148
 have GE148 := mk0 (Q_GE148 hb9_)
 clear Q_GE148
 have NB136_148 := mk0 (Q_NB136_148 hb9_)
 clear Q_NB136_148
 have NB148_136 := mk0 (Q_NB148_136 hb9_)
 clear Q_NB148_136
 have NB137_148 := mk0 (Q_NB137_148 hb9_)
 clear Q_NB137_148
 have NB148_137 := mk0 (Q_NB148_137 hb9_)
 clear Q_NB148_137
 clear Q_BK149
 have GW149 := mk0 (Q_GW149 hb10_)
 clear Q_GW149
 have GE149 := mk0 (Q_GE149 hb10_)
 clear Q_GE149
 have NB136_149 := mk0 (Q_NB136_149 hb10_)
 clear Q_NB136_149
 have NB149_136 := mk0 (Q_NB149_136 hb10_)
 clear Q_NB149_136
 have NB137_149 := mk0 (Q_NB137_149 hb10_)
 clear Q_NB137_149
 have NB149_137 := mk0 (Q_NB149_137 hb10_)
 clear Q_NB149_137
 have BK147 := mk0 (Q_BK147_e11 hb11_)
 clear Q_BK147_e11
 have BK148 := mk0 (Q_BK148_e12 hb12_)
 clear Q_BK148_e12
 have BK149 := mk0 (Q_BK149_e13 hb13_)
 clear Q_BK149_e13
 clear hall hb0_ hb1_ hb3_ hb4_ hb6_ hb7_ hb8_ hb9_ hb10_ hb11_ hb12_ hb13_
 have hnb25 := NB147_136.out
 have hnc25 := NB136_147.out
 have hnb26 := NB147_148.out
 have hnc26 := NB148_147.out
 have hnb27 := NB147_149.out
 have hnc27 := NB149_147.out
 have X28_0 := ct BK147.out 0
 have X28_1 := ct BK147.out 1
 have X28_2 := ct BK147.out 2
 have Y28_0 := blk_frozen BK147.out 0
 have Y28_1 := blk_frozen BK147.out 1
 have Y28_2 := blk_frozen BK147.out 2
 try go_wp2
 go_loopg [19] k (fun kq v19 w' => ∃ (x19_1 : Int), v19 = .int .i64 x19_1 ∧ Aside0 (probe_Solid_full.l0 kq x19_1 t138 t139 t140 a0_0 a0_1 a0_2 a0_3 a0_4 a0_5 l0_6 t138 t139 t140 t141 t142 t143 t144 t145 t146 = some r) ∧ Aside0 (kq ≤ k) ∧ Aside0 (w'.heap[gb136]? = some (.cells #[.int .i64 a0_0, .int .i64 a0_1, .int .i64 a0_2, .int .i64 a0_3, .int .i64 a0_4, .int .i64 a0_5, (.slice A0_6 l0_6.length c0_6)] 26 (0, 0))) ∧ Aside0 (w'.heap[gb147]? = some (.cells #[.int .i64 t138, .int .i64 t139, .int .i64 t140] 101 (0, 0))) ∧ Aside0 (w'.heap[gb148]? = some (.cells #[.int .i64 t141, .int .i64 t142, .int .i64 t143] 101 (0, 0))) ∧ Aside0 (w'.heap[gb149]? = some (.cells #[.int .i64 t144, .int .i64 t145, .int .i64 t146] 101 (0, 0))) ∧ Aside0 (Below w.heap.size w w'))
 case atStart => exact ⟨(0), (by first | rfl | (simp; done) | (simp [*]; done) | exact congrArg (Value.int .i64) (by unfold wrap64; omega)), H', ⟨Nat.le_refl _⟩, ⟨bT BK136.out⟩, ⟨bT BK147.out⟩, ⟨bT BK148.out⟩, ⟨bT BK149.out⟩, ⟨wT HB.out⟩⟩
 case round =>
  clear H'
  try clear X28_0
  try clear X28_1
  try clear X28_2
  try clear Y28_0
  try clear Y28_1
  try clear Y28_2
  obtain ⟨x19_1, rfl, HA, HK1, BK136, BK147, BK148, BK149, HB⟩ := hrel
  cases gk with
  | zero => exact absurd HA.out (by simp [probe_Solid_full.l0])
  | succ k1 =>
   have H := HA.out
   clear HA
   simp only [probe_Solid_full.l0] at H
   by_cases c29 : x19_1 < 3
   ·rw [if_pos c29] at H
    have c29b0 : decide (x19_1 < 3) = true := decide_eq_true c29
    clear c29
    by_cases c30 : 0 ≤ x19_1
    ·rw [if_pos c30] at H
     have c30b0 : decide (0 ≤ x19_1) = true := decide_eq_true c30
     clear c30
     have p32 : 0 ≤ x19_1 := of_decide_eq_true (by first | (with_reducible assumption) | assumption)
     have q32 : x19_1 < 3 := of_decide_eq_true (by first | (with_reducible assumption) | assumption)
     have hix31 : ∀ w_, (Instr.index 101 (.agg #[.int .i64 t138, .int .i64 t139, .int .i64 t140]) (.int .i64 x19_1)).run Tryz.prog w_ = .ok (.int .i64 (rd [t138, t139, t140] x19_1)) w_ := fun w_ => by (rcases (show x19_1 = 0 ∨ x19_1 = 1 ∨ x19_1 = 2 by omega) with e_ | e_ | e_) <;> (rw [e_]; kernel_rfl)
     replace p32 := eq_true p32
     replace q32 := eq_true q32
     have p33 : 0 ≤ x19_1 := of_decide_eq_true (by first | (with_reducible assumption) | assumption)
     have q33 : x19_1 < 3 := of_decide_eq_true (by first | (with_reducible assumption) | assumption)
     replace p33 := eq_true p33
     replace q33 := eq_true q33
     by_cases c34 : (rd [t138, t139, t140] x19_1) < (rd [t141, t142, t143] x19_1)
     ·rw [if_pos c34] at H
      have c34b0 : decide ((rd [t138, t139, t140] x19_1) < (rd [t141, t142, t143] x19_1)) = true := decide_eq_true c34
      clear c34
      obtain rfl := Option.some.inj H
      have X35_0 := ct BK148.out 0
      have X35_1 := ct BK148.out 1
      have X35_2 := ct BK148.out 2
      have Y35_0 := blk_frozen BK148.out 0
      have Y35_1 := blk_frozen BK148.out 1
      have Y35_2 := blk_frozen BK148.out 2
      have hsl36 : wr.cell? ⟨gb148, x19_1.toNat, none⟩ = some (.int .i64 (rd [t141, t142, t143] x19_1)) := by rw [blk_cell BK148.out (x19_1.toNat)]; (rcases (show x19_1 = 0 ∨ x19_1 = 1 ∨ x19_1 = 2 by have := of_eq_true (by assumption : (0 ≤ x19_1) = True); have := of_eq_true (by assumption : (x19_1 < 3) = True); omega) with e_ | e_ | e_) <;> (rw [e_]; rfl)
      go_wp2
      go_ret
      exact ⟨eqT, wT HB.out⟩
     ·rw [if_neg c34] at H
      have c34b0 : decide ((rd [t138, t139, t140] x19_1) < (rd [t141, t142, t143] x19_1)) = false := decide_eq_false c34
      clear c34
      by_cases c37 : (rd [t138, t139, t140] x19_1) > (rd [t144, t145, t146] x19_1)
      ·rw [if_pos c37] at H
       have c37b0 : decide ((rd [t144, t145, t146] x19_1) < (rd [t138, t139, t140] x19_1)) = true := decide_eq_true c37
       clear c37
       obtain rfl := Option.some.inj H
       have hnb38 := NB148_149.out
       have hnc38 := NB149_148.out
       have X39_0 := ct BK148.out 0
       have X39_1 := ct BK148.out 1
       have X39_2 := ct BK148.out 2
       have Y39_0 := blk_frozen BK148.out 0
       have Y39_1 := blk_frozen BK148.out 1
       have Y39_2 := blk_frozen BK148.out 2
       have hsl40 : wr.cell? ⟨gb148, x19_1.toNat, none⟩ = some (.int .i64 (rd [t141, t142, t143] x19_1)) := by rw [blk_cell BK148.out (x19_1.toNat)]; (rcases (show x19_1 = 0 ∨ x19_1 = 1 ∨ x19_1 = 2 by have := of_eq_true (by assumption : (0 ≤ x19_1) = True); have := of_eq_true (by assumption : (x19_1 < 3) = True); omega) with e_ | e_ | e_) <;> (rw [e_]; rfl)
       have X41_0 := ct BK149.out 0
       have X41_1 := ct BK149.out 1
       have X41_2 := ct BK149.out 2
       have Y41_0 := blk_frozen BK149.out 0
       have Y41_1 := blk_frozen BK149.out 1
       have Y41_2 := blk_frozen BK149.out 2
       have hsl42 : wr.cell? ⟨gb149, x19_1.toNat, none⟩ = some (.int .i64 (rd [t144, t145, t146] x19_1)) := by rw [blk_cell BK149.out (x19_1.toNat)]; (rcases (show x19_1 = 0 ∨ x19_1 = 1 ∨ x19_1 = 2 by have := of_eq_true (by assumption : (0 ≤ x19_1) = True); have := of_eq_true (by assumption : (x19_1 < 3) = True); omega) with e_ | e_ | e_) <;> (rw [e_]; rfl)
       go_wp2
       go_ret
       exact ⟨eqT, wT HB.out⟩
      ·rw [if_neg c37] at H
       have c37b0 : decide ((rd [t144, t145, t146] x19_1) < (rd [t138, t139, t140] x19_1)) = false := decide_eq_false c37
       clear c37
       have H' := mk0 H
       clear H
       have hnb43 := NB148_136.out
       have hnc43 := NB136_148.out
       have hnb44 := NB148_147.out
       have hnc44 := NB147_148.out
       have hnb45 := NB148_149.out
       have hnc45 := NB149_148.out
       have X46_0 := ct BK148.out 0
       have X46_1 := ct BK148.out 1
       have X46_2 := ct BK148.out 2
       have Y46_0 := blk_frozen BK148.out 0
       have Y46_1 := blk_frozen BK148.out 1
       have Y46_2 := blk_frozen BK148.out 2
       have hsl47 : wr.cell? ⟨gb148, x19_1.toNat, none⟩ = some (.int .i64 (rd [t141, t142, t143] x19_1)) := by rw [blk_cell BK148.out (x19_1.toNat)]; (rcases (show x19_1 = 0 ∨ x19_1 = 1 ∨ x19_1 = 2 by have := of_eq_true (by assumption : (0 ≤ x19_1) = True); have := of_eq_true (by assumption : (x19_1 < 3) = True); omega) with e_ | e_ | e_) <;> (rw [e_]; rfl)
       have hnb48 := NB149_136.out
       have hnc48 := NB136_149.out
       have hnb49 := NB149_147.out
       have hnc49 := NB147_149.out
       have X50_0 := ct BK149.out 0
       have X50_1 := ct BK149.out 1
       have X50_2 := ct BK149.out 2
       have Y50_0 := blk_frozen BK149.out 0
       have Y50_1 := blk_frozen BK149.out 1
       have Y50_2 := blk_frozen BK149.out 2
       have hsl51 : wr.cell? ⟨gb149, x19_1.toNat, none⟩ = some (.int .i64 (rd [t144, t145, t146] x19_1)) := by rw [blk_cell BK149.out (x19_1.toNat)]; (rcases (show x19_1 = 0 ∨ x19_1 = 1 ∨ x19_1 = 2 by have := of_eq_true (by assumption : (0 ≤ x19_1) = True); have := of_eq_true (by assumption : (x19_1 < 3) = True); omega) with e_ | e_ | e_) <;> (rw [e_]; rfl)
       go_wp2
       go_roundg k1
       case measure => have := HK1.out; omega
       case rel => exact ⟨(wrap64 (x19_1 + 1)), (by first | rfl | (simp; done) | (simp [*]; done) | exact congrArg (Value.int .i64) (by unfold wrap64; omega)), H', ⟨by have := HK1.out; omega⟩, ⟨bT BK136.out⟩, ⟨bT BK147.out⟩, ⟨bT BK148.out⟩, ⟨bT BK149.out⟩, ⟨wT HB.out⟩⟩
    ·rw [if_neg c30] at H
     exact absurd H (by simp)
   ·rw [if_neg c29] at H
    have c29b0 : decide (x19_1 < 3) = false := decide_eq_false c29
    clear c29
    replace H := Option.bind_eq_some_iff.mp H
    obtain ⟨t150, A520, H⟩ := H
    (try dsimp only at H)
    have A52 := mk0 A520
    clear A520
    obtain rfl := Option.some.inj H
    have hnb53 := NB136_147.out
    have hnc53 := NB147_136.out
    have X54_0 := ct BK136.out 0
    have X54_1 := ct BK136.out 1
    have X54_2 := ct BK136.out 2
    have X54_3 := ct BK136.out 3
    have X54_4 := ct BK136.out 4
    have X54_5 := ct BK136.out 5
    have X54_6 := ct BK136.out 6
    have Y54_0 := blk_frozen BK136.out 0
    have Y54_1 := blk_frozen BK136.out 1
    have Y54_2 := blk_frozen BK136.out 2
    have Y54_3 := blk_frozen BK136.out 3
    have Y54_4 := blk_frozen BK136.out 4
    have Y54_5 := blk_frozen BK136.out 5
    have Y54_6 := blk_frozen BK136.out 6
    go_wp2_with (first | ((with_reducible refine gate_callee (f := 64) rfl ?_); refine goesL_ (some 39) rfl rfl Tryz.func64 (by kernel_rfl) rfl #[.slice A0_6 l0_6.length c0_6, .func (.func 65) #[] #[.pointer (some ⟨gb147, 0, none⟩)]] rfl mapT ?_; (with_reducible refine (contains_bore.calls _ _ l0_6 gb147 t138 t139 t140 t150 _ ?side1 ?side2 ?side3 A52.out).mono ?_); (case side1 => repeat (first | exact (Kd.C_below HR0_6.out HB.out) | (with_reducible refine Kd.C_alloc ?_ _) | (with_reducible refine Kd.C_drewN ?_ _) | (with_reducible refine Kd.C_drew ?_))); (case side2 => exact HC0_6.out); (case side3 => exact bT BK147.out); rintro e w55 ⟨rfl, hb⟩; refine ⟨_, rfl, ?_⟩; have n0_ := mk0 (bbT BK147.out hb); have n1_ := mk0 (below_step (wT HB.out) hb); clear BK147; clear HB; have BK147 := n0_; have HB := n1_; clear n0_ n1_; (try clear hb); (try clear hb2); (try clear hk); (try clear hi)))
    go_ret
    exact ⟨eqT, wT HB.out⟩
def probe_Material.f (k : Nat) (a0_0 : Int) (a0_1 : Int) (a0_2 : Int) (a0_3 : Int) (a0_4 : Int) (a0_5 : Int) (l0_6 : List (S84)) (a1_0 : Int) (a1_1 : Int) (a1_2 : Int) : Option (Bool × Int) := (probe_given.f k a0_0 a0_1 a0_2 a0_3 a0_4 a0_5 l0_6 (([(⟨a1_0, a1_1, a1_2⟩ : S23)] : List (S23)))).bind fun t156 => (if t156 = 0 then ((probe_Solid_full.f k a0_0 a0_1 a0_2 a0_3 a0_4 a0_5 l0_6 a1_0 a1_1 a1_2).bind fun t157 => (some (t157, 0))) else (some (false, t156)))
theorem probe_Material.calls (k : Nat) (a0_0 : Int) (a0_1 : Int) (a0_2 : Int) (a0_3 : Int) (a0_4 : Int) (a0_5 : Int) (A0_6 : Option Addr) (c0_6 : Nat) (l0_6 : List (S84)) (a1_0 : Int) (a1_1 : Int) (a1_2 : Int) (r1 : Bool) (r2 : Int) (w : World) (hr0_6 : Kd.C k84 w A0_6 l0_6.length l0_6) (hc0_6 : l0_6.length ≤ c0_6) (h : probe_Material.f k a0_0 a0_1 a0_2 a0_3 a0_4 a0_5 l0_6 a1_0 a1_1 a1_2 = some (r1, r2)) :
  Calls Tryz.prog 15 #[.agg #[.int .i64 a0_0, .int .i64 a0_1, .int .i64 a0_2, .int .i64 a0_3, .int .i64 a0_4, .int .i64 a0_5, .slice A0_6 l0_6.length c0_6], .agg #[.int .i64 a1_0, .int .i64 a1_1, .int .i64 a1_2]] w fun e w' => e = .returned (.tuple #[.bool r1, .int .i64 r2]) ∧ Below w.heap.size w w' := by
 have hu26 := Tryz.underlying26
 have hu23 := Tryz.underlying23
 have HR0_6 := mk0 hr0_6
 have HC0_6 := mk0 hc0_6
 clear hr0_6 hc0_6
 have HB := mk0 (Below.refl w.heap.size w)
 have H : ((probe_given.f k a0_0 a0_1 a0_2 a0_3 a0_4 a0_5 l0_6 (([(⟨a1_0, a1_1, a1_2⟩ : S23)] : List (S23)))).bind fun t156 => (if t156 = 0 then ((probe_Solid_full.f k a0_0 a0_1 a0_2 a0_3 a0_4 a0_5 l0_6 a1_0 a1_1 a1_2).bind fun t157 => (some (t157, 0))) else (some (false, t156)))) = some (r1, r2) := h
 clear h
 obtain ⟨y153, hy153⟩ : ∃ y_ : List (S23), y_ = (([(⟨a1_0, a1_1, a1_2⟩ : S23)] : List (S23))) := ⟨_, rfl⟩
 replace H : ((probe_given.f k a0_0 a0_1 a0_2 a0_3 a0_4 a0_5 l0_6 y153).bind fun t156 => (if t156 = 0 then ((probe_Solid_full.f k a0_0 a0_1 a0_2 a0_3 a0_4 a0_5 l0_6 a1_0 a1_1 a1_2).bind fun t157 => (some (t157, 0))) else (some (false, t156)))) = some (r1, r2) := by first | (rw [hy153]; with_reducible exact H) | (have H2_ := (Option.bind_some _ _).symm.trans H; rw [hy153]; with_reducible exact H2_) | (have H2_ := (Option.bind_some _ _).symm.trans H; with_reducible exact H2_) | with_reducible exact H | (rw [hy153]; exact H) | exact H
 have Ny153 := mk0 hy153
 clear hy153
 replace H := Option.bind_eq_some_iff.mp H
 obtain ⟨t156, A30, H⟩ := H
 (try dsimp only at H)
 have A3 := mk0 A30
 clear A30
 by_cases c4 : t156 = 0
 ·rw [if_pos c4] at H
  have c4b0 : (t156 == 0) = true := beq_iff_eq.mpr c4
  have c4b1 : (t156 != 0) = false := bne_eq_false_iff_eq.mpr c4
  clear c4
  replace H := Option.bind_eq_some_iff.mp H
  obtain ⟨t157, A50, H⟩ := H
  (try dsimp only at H)
  have A5 := mk0 A50
  clear A50
  simp only [Option.some.injEq, Prod.mk.injEq] at H
  obtain ⟨rfl, rfl⟩ := H
  go_enter Tryz.func15, Tryz.ntmps15
  go_wp2_with (first | ((with_reducible refine gate_dst (N := 2) rfl ?_); refine box_event ?hg (N := 2) ?hd (cs := #[.int .i64 a0_0, .int .i64 a0_1, .int .i64 a0_2, .int .i64 a0_3, .int .i64 a0_4, .int .i64 a0_5, .slice A0_6 l0_6.length c0_6]) (t := 26) ?hr ?_; (case hd => rfl); (case hg => rfl); (case hr => first | (go_simp; done) | (go_simp; rfl)); intro gb151 hg w6 hbox hb; have n0_ := mk0 (below_step (wT HB.out) hb); have n1_ := mk0 (hbox); have n2_ := mk0 ((szT HB.out hg)); have n3_ := mk0 ((szT HB.out hg)); clear HB; have HB := n0_; have BK151 := n1_; have GW151 := n2_; have GE151 := n3_; clear n0_ n1_ n2_ n3_; clear hb hbox hg) | ((with_reducible refine gate_dst (N := 3) rfl ?_); refine box_event ?hg (N := 3) ?hd (cs := #[.int .i64 a1_0, .int .i64 a1_1, .int .i64 a1_2]) (t := 23) ?hr ?_; (case hd => rfl); (case hg => rfl); (case hr => first | (go_simp; done) | (go_simp; rfl)); intro gb152 hg w7 hbox hb; have n0_ := mk0 (bbT BK151.out hb); have n1_ := mk0 (below_step (wT HB.out) hb); have n2_ := mk0 (hbox); have n3_ := mk0 ((szT HB.out hg)); have n4_ := mk0 ((szT HB.out hg)); have n5_ := mk0 ((neL BK151.out hg)); have n6_ := mk0 ((neG BK151.out hg)); clear BK151; clear HB; have BK151 := n0_; have HB := n1_; have BK152 := n2_; have GW152 := n3_; have GE152 := n4_; have NB151_152 := n5_; have NB152_151 := n6_; clear n0_ n1_ n2_ n3_ n4_ n5_ n6_; clear hb hbox hg; have hnb8 := NB151_152.out; have hnc8 := NB152_151.out; have X9_0 := ct BK151.out 0; have X9_1 := ct BK151.out 1; have X9_2 := ct BK151.out 2; have X9_3 := ct BK151.out 3; have X9_4 := ct BK151.out 4; have X9_5 := ct BK151.out 5; have X9_6 := ct BK151.out 6; have Y9_0 := blk_frozen BK151.out 0; have Y9_1 := blk_frozen BK151.out 1; have Y9_2 := blk_frozen BK151.out 2; have Y9_3 := blk_frozen BK151.out 3; have Y9_4 := blk_frozen BK151.out 4; have Y9_5 := blk_frozen BK151.out 5; have Y9_6 := blk_frozen BK151.out 6; have X10_0 := ct BK152.out 0; have X10_1 := ct BK152.out 1; have X10_2 := ct BK152.out 2; have Y10_0 := blk_frozen BK152.out 0; have Y10_1 := blk_frozen BK152.out 1; have Y10_2 := blk_frozen BK152.out 2) | ((with_reducible refine gate_dst (N := 9) rfl ?_); refine Kd.R_lit k23 _ 23 ?hg (N := 9) ?hd (xs := ([(⟨a1_0, a1_1, a1_2⟩ : S23)] : List (S23))) (inner := [.int .i64 a1_0, .int .i64 a1_1, .int .i64 a1_2]) (ok := fun _ => True) (okp := fun _ => True) ?hr ?hp (fun _ hk => hk) trivial (Below.refl _ _) (Nat.le_refl _) (by simp) ?_; (case hd => rfl); (case hg => rfl); (case hr => first | (go_simp; done) | (go_simp; rfl)); (case hp => exact (Reps.c3 (show Kd.M k23 _ _ _ (⟨a1_0, a1_1, a1_2⟩ : S23) [.int .i64 a1_0, .int .i64 a1_1, .int .i64 a1_2] from (k23_mkM _ _ _ (⟨a1_0, a1_1, a1_2⟩ : S23) )) (Reps.none _ _))); intro v154 w11 ho12 hb hg_ hnew_; clear hg_ hnew_; (first | rw [← Ny153.out] at ho12 | (simp only [Int.reduceToNat] at ho12; rw [← Ny153.out] at ho12)); have n0_ := mk0 (Kd.R_lower (Kd.R_newB ho12 (g := gb152) (o := .cells #[.int .i64 a1_0, .int .i64 a1_1, .int .i64 a1_2] 23 (0, 0)) (bT BK152.out)) (below_size (wT HB.out))); have n1_ := mk0 (bbT BK151.out hb); have n2_ := mk0 (bbT BK152.out hb); have n3_ := mk0 (below_step (wT HB.out) hb); clear BK151; clear BK152; clear HB; have HO155 := n0_; have BK151 := n1_; have BK152 := n2_; have HB := n3_; clear n0_ n1_ n2_ n3_; clear hb ho12; obtain ⟨Ao13, co13, eo13⟩ := Kd.R_slice HO155.out; subst eo13) | ((with_reducible refine gate_callee (f := 38) rfl ?_); refine goesL_ (some 10) rfl rfl Tryz.func38 (by kernel_rfl) rfl #[.agg #[.int .i64 a0_0, .int .i64 a0_1, .int .i64 a0_2, .int .i64 a0_3, .int .i64 a0_4, .int .i64 a0_5, .slice A0_6 l0_6.length c0_6], .slice Ao13 y153.length co13] rfl mapT ?_; (with_reducible refine (probe_given.calls k a0_0 a0_1 a0_2 a0_3 a0_4 a0_5 _ _ l0_6 _ _ y153 t156 _ ?side1 ?side2 ?side3 ?side4 A3.out).mono ?_); (case side1 => repeat (first | exact (Kd.C_below HR0_6.out HB.out) | (with_reducible refine Kd.C_alloc ?_ _) | (with_reducible refine Kd.C_drewN ?_ _) | (with_reducible refine Kd.C_drew ?_))); (case side2 => exact HC0_6.out); (case side3 => repeat (first | exact (Kd.R_reads' HO155.out).2.2 | (with_reducible refine Kd.C_alloc ?_ _) | (with_reducible refine Kd.C_drewN ?_ _) | (with_reducible refine Kd.C_drew ?_))); (case side4 => exact (Kd.R_reads' HO155.out).2.1); rintro e w14 ⟨rfl, hb⟩; refine ⟨_, rfl, ?_⟩; have n0_ := mk0 (Kd.R_below (rT HO155.out) hb); have n1_ := mk0 (bbT BK151.out hb); have n2_ := mk0 (bbT BK152.out hb); have n3_ := mk0 (below_step (wT HB.out) hb); clear HO155; clear BK151; clear BK152; clear HB; have HO155 := n0_; have BK151 := n1_; have BK152 := n2_; have HB := n3_; clear n0_ n1_ n2_ n3_; (try clear hb); (try clear hb2); (try clear hk); (try clear hi); have X15_0 := ct BK151.out 0; have X15_1 := ct BK151.out 1; have X15_2 := ct BK151.out 2; have X15_3 := ct BK151.out 3; have X15_4 := ct BK151.out 4; have X15_5 := ct BK151.out 5; have X15_6 := ct BK151.out 6; have Y15_0 := blk_frozen BK151.out 0; have Y15_1 := blk_frozen BK151.out 1; have Y15_2 := blk_frozen BK151.out 2; have Y15_3 := blk_frozen BK151.out 3; have Y15_4 := blk_frozen BK151.out 4; have Y15_5 := blk_frozen BK151.out 5; have Y15_6 := blk_frozen BK151.out 6; (try clear BK151 GW151 GE151); have X16_0 := ct BK152.out 0; have X16_1 := ct BK152.out 1; have X16_2 := ct BK152.out 2; have Y16_0 := blk_frozen BK152.out 0; have Y16_1 := blk_frozen BK152.out 1; have Y16_2 := blk_frozen BK152.out 2) | ((with_reducible refine gate_callee (f := 39) rfl ?_); refine goesL_ (some 16) rfl rfl Tryz.func39 (by kernel_rfl) rfl #[.agg #[.int .i64 a0_0, .int .i64 a0_1, .int .i64 a0_2, .int .i64 a0_3, .int .i64 a0_4, .int .i64 a0_5, .slice A0_6 l0_6.length c0_6], .agg #[.int .i64 a1_0, .int .i64 a1_1, .int .i64 a1_2]] rfl mapT ?_; (with_reducible refine (probe_Solid_full.calls k a0_0 a0_1 a0_2 a0_3 a0_4 a0_5 _ _ l0_6 a1_0 a1_1 a1_2 t157 _ ?side1 ?side2 A5.out).mono ?_); (case side1 => repeat (first | exact (Kd.C_below HR0_6.out HB.out) | (with_reducible refine Kd.C_alloc ?_ _) | (with_reducible refine Kd.C_drewN ?_ _) | (with_reducible refine Kd.C_drew ?_))); (case side2 => exact HC0_6.out); rintro e w17 ⟨rfl, hb⟩; refine ⟨_, rfl, ?_⟩; have n0_ := mk0 (Kd.R_below (rT HO155.out) hb); have n1_ := mk0 (bbT BK152.out hb); have n2_ := mk0 (below_step (wT HB.out) hb); clear HO155; clear BK152; clear HB; have HO155 := n0_; have BK152 := n1_; have HB := n2_; clear n0_ n1_ n2_; (try clear hb); (try clear hb2); (try clear hk); (try clear hi)))
  go_ret2
  exact ⟨eqT, wT HB.out⟩
 ·rw [if_neg c4] at H
  have c4b0 : (t156 == 0) = false := beq_eq_false_iff_ne.mpr c4
  have c4b1 : (t156 != 0) = true := bne_iff_ne.mpr c4
  simp only [Option.some.injEq, Prod.mk.injEq] at H
  obtain ⟨rfl, rfl⟩ := H
  go_enter Tryz.func15, Tryz.ntmps15
  go_wp2_with (first | ((with_reducible refine gate_dst (N := 2) rfl ?_); refine box_event ?hg (N := 2) ?hd (cs := #[.int .i64 a0_0, .int .i64 a0_1, .int .i64 a0_2, .int .i64 a0_3, .int .i64 a0_4, .int .i64 a0_5, .slice A0_6 l0_6.length c0_6]) (t := 26) ?hr ?_; (case hd => rfl); (case hg => rfl); (case hr => first | (go_simp; done) | (go_simp; rfl)); intro gb151 hg w18 hbox hb; have n0_ := mk0 (below_step (wT HB.out) hb); have n1_ := mk0 (hbox); have n2_ := mk0 ((szT HB.out hg)); have n3_ := mk0 ((szT HB.out hg)); clear HB; have HB := n0_; have BK151 := n1_; have GW151 := n2_; have GE151 := n3_; clear n0_ n1_ n2_ n3_; clear hb hbox hg) | ((with_reducible refine gate_dst (N := 3) rfl ?_); refine box_event ?hg (N := 3) ?hd (cs := #[.int .i64 a1_0, .int .i64 a1_1, .int .i64 a1_2]) (t := 23) ?hr ?_; (case hd => rfl); (case hg => rfl); (case hr => first | (go_simp; done) | (go_simp; rfl)); intro gb152 hg w19 hbox hb; have n0_ := mk0 (bbT BK151.out hb); have n1_ := mk0 (below_step (wT HB.out) hb); have n2_ := mk0 (hbox); have n3_ := mk0 ((szT HB.out hg)); have n4_ := mk0 ((szT HB.out hg)); have n5_ := mk0 ((neL BK151.out hg)); have n6_ := mk0 ((neG BK151.out hg)); clear BK151; clear HB; have BK151 := n0_; have HB := n1_; have BK152 := n2_; have GW152 := n3_; have GE152 := n4_; have NB151_152 := n5_; have NB152_151 := n6_; clear n0_ n1_ n2_ n3_ n4_ n5_ n6_; clear hb hbox hg; have hnb20 := NB151_152.out; have hnc20 := NB152_151.out; have X21_0 := ct BK151.out 0; have X21_1 := ct BK151.out 1; have X21_2 := ct BK151.out 2; have X21_3 := ct BK151.out 3; have X21_4 := ct BK151.out 4; have X21_5 := ct BK151.out 5; have X21_6 := ct BK151.out 6; have Y21_0 := blk_frozen BK151.out 0; have Y21_1 := blk_frozen BK151.out 1; have Y21_2 := blk_frozen BK151.out 2; have Y21_3 := blk_frozen BK151.out 3; have Y21_4 := blk_frozen BK151.out 4; have Y21_5 := blk_frozen BK151.out 5; have Y21_6 := blk_frozen BK151.out 6; (try clear BK151 GW151 GE151); have X22_0 := ct BK152.out 0; have X22_1 := ct BK152.out 1; have X22_2 := ct BK152.out 2; have Y22_0 := blk_frozen BK152.out 0; have Y22_1 := blk_frozen BK152.out 1; have Y22_2 := blk_frozen BK152.out 2; (try clear BK152 GW152 GE152)) | ((with_reducible refine gate_dst (N := 9) rfl ?_); refine Kd.R_lit k23 _ 23 ?hg (N := 9) ?hd (xs := ([(⟨a1_0, a1_1, a1_2⟩ : S23)] : List (S23))) (inner := [.int .i64 a1_0, .int .i64 a1_1, .int .i64 a1_2]) (ok := fun _ => True) (okp := fun _ => True) ?hr ?hp (fun _ hk => hk) trivial (Below.refl _ _) (Nat.le_refl _) (by simp) ?_; (case hd => rfl); (case hg => rfl); (case hr => first | (go_simp; done) | (go_simp; rfl)); (case hp => exact (Reps.c3 (show Kd.M k23 _ _ _ (⟨a1_0, a1_1, a1_2⟩ : S23) [.int .i64 a1_0, .int .i64 a1_1, .int .i64 a1_2] from (k23_mkM _ _ _ (⟨a1_0, a1_1, a1_2⟩ : S23) )) (Reps.none _ _))); intro v154 w23 ho24 hb hg_ hnew_; clear hg_ hnew_; (first | rw [← Ny153.out] at ho24 | (simp only [Int.reduceToNat] at ho24; rw [← Ny153.out] at ho24)); have n0_ := mk0 (Kd.R_lower ho24 (below_size (wT HB.out))); have n1_ := mk0 (below_step (wT HB.out) hb); clear HB; have HO155 := n0_; have HB := n1_; clear n0_ n1_; clear hb ho24; obtain ⟨Ao25, co25, eo25⟩ := Kd.R_slice HO155.out; subst eo25) | ((with_reducible refine gate_callee (f := 38) rfl ?_); refine goesL_ (some 10) rfl rfl Tryz.func38 (by kernel_rfl) rfl #[.agg #[.int .i64 a0_0, .int .i64 a0_1, .int .i64 a0_2, .int .i64 a0_3, .int .i64 a0_4, .int .i64 a0_5, .slice A0_6 l0_6.length c0_6], .slice Ao25 y153.length co25] rfl mapT ?_; (with_reducible refine (probe_given.calls k a0_0 a0_1 a0_2 a0_3 a0_4 a0_5 _ _ l0_6 _ _ y153 t156 _ ?side1 ?side2 ?side3 ?side4 A3.out).mono ?_); (case side1 => repeat (first | exact (Kd.C_below HR0_6.out HB.out) | (with_reducible refine Kd.C_alloc ?_ _) | (with_reducible refine Kd.C_drewN ?_ _) | (with_reducible refine Kd.C_drew ?_))); (case side2 => exact HC0_6.out); (case side3 => repeat (first | exact (Kd.R_reads' HO155.out).2.2 | (with_reducible refine Kd.C_alloc ?_ _) | (with_reducible refine Kd.C_drewN ?_ _) | (with_reducible refine Kd.C_drew ?_))); (case side4 => exact (Kd.R_reads' HO155.out).2.1); rintro e w26 ⟨rfl, hb⟩; refine ⟨_, rfl, ?_⟩; have n0_ := mk0 (Kd.R_below (rT HO155.out) hb); have n1_ := mk0 (below_step (wT HB.out) hb); clear HO155; clear HB; have HO155 := n0_; have HB := n1_; clear n0_ n1_; (try clear hb); (try clear hb2); (try clear hk); (try clear hi)))
  go_ret2
  exact ⟨eqT, wT HB.out⟩
end Go.Proofs.YtolbjmaabghghaaGreatDoor.PA
