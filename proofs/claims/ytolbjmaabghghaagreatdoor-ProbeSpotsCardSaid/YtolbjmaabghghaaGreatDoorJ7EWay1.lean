/- A part of the proof. -/
import Derived.Test.YtolbjmaabghghaaGreatDoorJ7PAx6
import Derived.Test.YtolbjmaabghghaaGreatDoorJ7ELaw
import Derived.Test.YtolbjmaabghghaaGreatDoorJ7EEq
namespace Go.Proofs.YtolbjmaabghghaaGreatDoor.PA
open Go.RowKit Go.PW Go.PL Go.PM
attribute [local go_sem] Oper.semAt_some
set_option linter.unusedVariables false
set_option linter.unusedSimpArgs false
def tw (a b : Int) : Int := if a < b then a + 1 else if b < a then a - 1 else a
def twS (p q : S23) : S23 := ⟨tw p.f0 q.f0, tw p.f1 q.f1, tw p.f2 q.f2⟩
def wayL : Nat → S23 → S23 → List S23
 | 0, p, _ => [p]
 | n + 1, p, q => p :: (if p.f0 = q.f0 ∧ p.f1 = q.f1 ∧ p.f2 = q.f2 then [] else wayL n (twS p q) q)
def near (a : Int) : Prop := -1000000 ≤ a ∧ a ≤ 1000000
def nearS (p : S23) : Prop := near p.f0 ∧ near p.f1 ∧ near p.f2
instance (a : Int) : Decidable (near a) := inferInstanceAs (Decidable (_ ∧ _))
instance (p : S23) : Decidable (nearS p) := inferInstanceAs (Decidable (_ ∧ _))
theorem near_tw {a b : Int} (ha : near a) (hb : near b) : near (tw a b) := by
 unfold near tw at *; split <;> (try split) <;> omega
def enc23 (p : S23) : Array Value := #[.agg #[.int .i64 p.f0, .int .i64 p.f1, .int .i64 p.f2]]
def dist (a b : Int) : Nat := (a - b).natAbs
theorem below_size0 {w W : World} {g : Nat} {o : Obj} (h : W.heap[g]? = some o) (hg : w.heap.size ≤ g) : w.heap.size ≤ W.heap.size := by have := blk_lt h; omega
theorem tw_dist {a b : Int} : dist (tw a b) b = dist a b - 1 := by
 unfold dist tw; split <;> (try split) <;> omega
def distS (p q : S23) : Nat := dist p.f0 q.f0 + dist p.f1 q.f1 + dist p.f2 q.f2
def cellInt (w : World) (a : Addr) : Int := intOf ((w.cell? a).getD undef)
theorem cellInt_of {w : World} {a : Addr} {n : Int} (h : w.cell? a = some (.int .i64 n)) : cellInt w a = n := by simp [cellInt, h, intOf]
def distW (w : World) (g h : Nat) : Nat := dist (cellInt w ⟨g, 0, none⟩) (cellInt w ⟨h, 0, none⟩) + dist (cellInt w ⟨g, 1, none⟩) (cellInt w ⟨h, 1, none⟩) + dist (cellInt w ⟨g, 2, none⟩) (cellInt w ⟨h, 2, none⟩)
def spotc.f (a0_0 : Int) (a0_1 : Int) (a0_2 : Int) : Option (Int × Int × Int) := some (a0_0, a0_1, a0_2)
set_option maxHeartbeats 8000000 in
set_option maxRecDepth 100000 in
theorem spotc.calls (a0_0 : Int) (a0_1 : Int) (a0_2 : Int) (r1 : Int) (r2 : Int) (r3 : Int) (w : World) (h : spotc.f a0_0 a0_1 a0_2 = some (r1, r2, r3)) :
  Calls Tryz.prog 77 #[.agg #[.int .i64 a0_0, .int .i64 a0_1, .int .i64 a0_2]] w fun e w' => e = .returned (.agg #[.int .i64 r1, .int .i64 r2, .int .i64 r3]) ∧ Below w.heap.size w w' := by
 have hu101 := Tryz.underlying101
 have hu23 := Tryz.underlying23
 have HB := mk0 (Below.refl w.heap.size w)
 have H : (some (a0_0, a0_1, a0_2)) = some (r1, r2, r3) := h
 clear h
 simp only [Option.some.injEq, Prod.mk.injEq] at H
 obtain ⟨rfl, rfl, rfl⟩ := H
 go_enter Tryz.func77, Tryz.ntmps77
 go_wp2_with (first | ((with_reducible refine gate_dst (N := 1) rfl ?_); refine box_event ?hg (N := 1) ?hd (cs := #[.int .i64 a0_0, .int .i64 a0_1, .int .i64 a0_2]) (t := 101) ?hr ?_; (case hd => rfl); (case hg => rfl); (case hr => first | (go_simp; done) | (go_simp; rfl)); intro gb158 hg w2 hbox hb; have n0_ := mk0 (below_step (by repeat (first | (with_reducible first | exact HB.out | apply below_alloc | apply pw_below_drewN | apply below_drew1) | exact HB.out)) hb); have n1_ := mk0 (hbox); have n2_ := mk0 ((by rw [hg]; exact (below_size (by repeat (first | (with_reducible first | exact HB.out | apply below_alloc | apply pw_below_drewN | apply below_drew1) | exact HB.out))) : w.heap.size ≤ gb158)); have n3_ := mk0 ((by rw [hg]; exact (below_size (by repeat (first | (with_reducible first | exact HB.out | apply below_alloc | apply pw_below_drewN | apply below_drew1) | exact HB.out))) : w.heap.size ≤ gb158)); clear HB; have HB := n0_; have BK158 := n1_; have GW158 := n2_; have GE158 := n3_; clear n0_ n1_ n2_ n3_; clear hb hbox hg) | ((with_reducible refine gate_dst (N := 2) rfl ?_); refine box_event ?hg (N := 2) ?hd (cs := #[.int .i64 0, .int .i64 0, .int .i64 0]) (t := 23) ?hr ?_; (case hd => rfl); (case hg => rfl); (case hr => first | (go_simp; done) | (go_simp; rfl)); intro gb159 hg w3 hbox hb; have n0_ := mk0 (blk_below (g := gb158) (o := .cells #[.int .i64 a0_0, .int .i64 a0_1, .int .i64 a0_2] 101 (0, 0)) (by (with_reducible repeat (first | refine blk_drewN ?_ _ | refine blk_drew ?_ | refine blk_alloc ?_ _)); exact BK158.out) hb); have n1_ := mk0 (below_step (by repeat (first | (with_reducible first | exact HB.out | apply below_alloc | apply pw_below_drewN | apply below_drew1) | exact HB.out)) hb); have n2_ := mk0 (hbox); have n3_ := mk0 ((by rw [hg]; exact (below_size (by repeat (first | (with_reducible first | exact HB.out | apply below_alloc | apply pw_below_drewN | apply below_drew1) | exact HB.out))) : w.heap.size ≤ gb159)); have n4_ := mk0 ((by rw [hg]; exact (below_size (by repeat (first | (with_reducible first | exact HB.out | apply below_alloc | apply pw_below_drewN | apply below_drew1) | exact HB.out))) : w.heap.size ≤ gb159)); have n5_ := mk0 ((by rw [hg]; exact Nat.ne_of_lt (blk_lt (g := gb158) (o := .cells #[.int .i64 a0_0, .int .i64 a0_1, .int .i64 a0_2] 101 (0, 0)) (by (with_reducible repeat (first | refine blk_drewN ?_ _ | refine blk_drew ?_ | refine blk_alloc ?_ _)); exact BK158.out)) : gb158 ≠ gb159)); have n6_ := mk0 ((by rw [hg]; exact Nat.ne_of_gt (blk_lt (g := gb158) (o := .cells #[.int .i64 a0_0, .int .i64 a0_1, .int .i64 a0_2] 101 (0, 0)) (by (with_reducible repeat (first | refine blk_drewN ?_ _ | refine blk_drew ?_ | refine blk_alloc ?_ _)); exact BK158.out)) : gb159 ≠ gb158)); clear BK158; clear HB; have BK158 := n0_; have HB := n1_; have BK159 := n2_; have GW159 := n3_; have GE159 := n4_; have NB158_159 := n5_; have NB159_158 := n6_; clear n0_ n1_ n2_ n3_ n4_ n5_ n6_; clear hb hbox hg; have hnb4 := NB158_159.out; have hnc4 := NB159_158.out; have hcz5_0 : w3.cell? ⟨gb158, 0, none⟩ = some (.int .i64 a0_0) := ct BK158.out 0; have hcz5_1 : w3.cell? ⟨gb158, 1, none⟩ = some (.int .i64 a0_1) := ct BK158.out 1; have hcz5_2 : w3.cell? ⟨gb158, 2, none⟩ = some (.int .i64 a0_2) := ct BK158.out 2; have hfz5_0 := blk_frozen BK158.out 0; have hfz5_1 := blk_frozen BK158.out 1; have hfz5_2 := blk_frozen BK158.out 2; (try clear BK158 GW158 GE158); have hcz6_0 : w3.cell? ⟨gb159, 0, none⟩ = some (.int .i64 0) := ct BK159.out 0; have hcz6_1 : w3.cell? ⟨gb159, 1, none⟩ = some (.int .i64 0) := ct BK159.out 1; have hcz6_2 : w3.cell? ⟨gb159, 2, none⟩ = some (.int .i64 0) := ct BK159.out 2; have hfz6_0 := blk_frozen BK159.out 0; have hfz6_1 := blk_frozen BK159.out 1; have hfz6_2 := blk_frozen BK159.out 2))
 refine bodyPost_ret (results_cell_row rfl _ _ gb159 23 #[.int .i64 a0_0, .int .i64 a0_1, .int .i64 a0_2] (0, 0) _ rfl (by (with_reducible repeat (first | refine blk_drewN ?_ _ | refine blk_drew ?_ | refine blk_alloc ?_ _)); refine blk_put (cs := #[.int .i64 a0_0, .int .i64 a0_1, .int .i64 0]) ?_ 2 _ rfl; (with_reducible repeat (first | refine blk_drewN ?_ _ | refine blk_drew ?_ | refine blk_alloc ?_ _)); refine blk_put (cs := #[.int .i64 a0_0, .int .i64 0, .int .i64 0]) ?_ 1 _ rfl; (with_reducible repeat (first | refine blk_drewN ?_ _ | refine blk_drew ?_ | refine blk_alloc ?_ _)); refine blk_put (cs := #[.int .i64 0, .int .i64 0, .int .i64 0]) ?_ 0 _ rfl; (with_reducible repeat (first | refine blk_drewN ?_ _ | refine blk_drew ?_ | refine blk_alloc ?_ _)); exact BK159.out) Tryz.underlying23 rfl (by kernel_rfl)) rfl ?_
 exact ⟨by first | rfl | (simp [errW_none, errW_some] <;> rfl) | (simp [*, errW_none, errW_some] <;> rfl), by repeat (first | (with_reducible first | exact HB.out | apply below_alloc | apply pw_below_drewN | apply below_drew1 | refine below_set ?_ GE159.out) | exact HB.out)⟩
def way1.T0 : Bool × List (List Nat × List Nat) := (true, [([], []), ([0], [0]), ([], []), ([2, 1], [2]), ([], []), ([], []), ([4, 1, 3, 0, 1, 4, 5], [1, 4]), ([5, 3, 6, 0, 1, 2, 3, 4, 5, 6], [3, 5])])
def way1.B0 : List Nat := [0, 1, 0, 7, 0, 0, 63, 127]
theorem way1.tab0 : rtab .any (opsOf Tryz.f90 0) = way1.T0 := by kernel_rfl
theorem way1.bits0 : waitsOk way1.T0.2 way1.B0 = true := by kernel_rfl
set_option maxHeartbeats 8000000 in
set_option maxRecDepth 100000 in
theorem way1_seq (n N : Nat) (hn : 2 ≤ n) (a0_0 a0_1 a0_2 a1_0 a1_1 a1_2 : Int) (gb269 gb270 : Nat) (w0 : World) (hf : w0.heap[gb269]? = some (.cells #[.int .i64 a0_0, .int .i64 a0_1, .int .i64 a0_2] 23 (0, 0))) (ht : w0.heap[gb270]? = some (.cells #[.int .i64 a1_0, .int .i64 a1_1, .int .i64 a1_2] 23 (0, 0)))
  (hp : nearS ⟨a0_0, a0_1, a0_2⟩) (hq : nearS ⟨a1_0, a1_1, a1_2⟩) (hN : distS ⟨a0_0, a0_1, a0_2⟩ ⟨a1_0, a1_1, a1_2⟩ ≤ N) : SeqM Fence.wide n Tryz.prog 90 #[.pointer (some ⟨gb269, 0, none⟩), .pointer (some ⟨gb270, 0, none⟩)] enc23 (wayL N ⟨a0_0, a0_1, a0_2⟩ ⟨a1_0, a1_1, a1_2⟩) w0 := fun l J Jx w hW hJ hJx hY h0 => by
 have hu23 := Tryz.underlying23
 have hu101 := Tryz.underlying101
 have BK269 := mk0 ((hW.block _ (blk_lt hf)).trans hf)
 have BK270 := mk0 ((hW.block _ (blk_lt ht)).trans ht)
 have HB := mk0 (Below.refl w.heap.size w)
 have NB269_270 := trivial
 refine callsIn_of_wp Tryz.func90 rfl trivial ?_ rfl
 simp only [Tryz.ntmps90, List.size_toArray, List.length_cons, List.length_nil, Nat.reduceAdd, Nat.reduceSub, Array.replicate_succ, Array.replicate_zero, List.push_toArray, List.append_toArray, List.nil_append, List.cons_append]
 clear hf ht hW
 have hJ := mk0 hJ
 have hJx := mk0 hJx
 have hY := mk0 hY
 have hp := mk0 hp
 have hq := mk0 hq
 have hN := mk0 hN
 have h0 := mk0 h0
 obtain ⟨w, hw, BK269, BK270, HB⟩ : ∃ W, W = w ∧ Aside0 (W.heap[gb269]? = some (.cells #[.int .i64 a0_0, .int .i64 a0_1, .int .i64 a0_2] 23 (0, 0))) ∧ Aside0 (W.heap[gb270]? = some (.cells #[.int .i64 a1_0, .int .i64 a1_1, .int .i64 a1_2] 23 (0, 0))) ∧ Aside0 (Below w.heap.size w W) := ⟨w, rfl, BK269, BK270, HB⟩
 subst hw
 refine wpIn_wide.2 ?_
 try go_wp2
 have n0_ := mk0 (blk_drew BK269.out)
 have n1_ := mk0 (blk_drew BK270.out)
 have n2_ := mk0 (below_drew1 HB.out)
 clear BK269
 clear BK270
 clear HB
 have BK269 := n0_
 have BK270 := n1_
 have HB := n2_
 clear n0_ n1_ n2_
 refine start_ (n := 8) (S := fun w' => True) (ds := []) #[false, false, false, false, false, false, false, false] (by kernel_rfl) rfl rfl trivial (fun hHeld => ?_); refine with_tabW way1.tab0 way1.bits0 (fun HT_ HW_ => ?_)
 generalize w.drew = w7 at BK269 BK270 HB hHeld ⊢
 refine inv_at [0, 1, 2, 3, 4, 5, 6, 7] (fun a0_ b a w' => ∃ (gb277 : Nat) (gb278 : Nat) (m4_ : Value) (m5_ : Value), a = putSel a0_ b [(0, 7, .agg #[.int .i64 a0_0, .int .i64 a0_1, .int .i64 a0_2]), (1, 8, .agg #[.int .i64 a0_0, .int .i64 a0_1, .int .i64 a0_2]), (2, 9, .agg #[.int .i64 a1_0, .int .i64 a1_1, .int .i64 a1_2]), (3, 10, .agg #[.int .i64 a1_0, .int .i64 a1_1, .int .i64 a1_2]), (4, 4, m4_), (5, 5, m5_)] ∧ (w'.heap[gb269]? = some (.cells #[.int .i64 a0_0, .int .i64 a0_1, .int .i64 a0_2] 23 (0, 0))) ∧ (w'.heap[gb270]? = some (.cells #[.int .i64 a1_0, .int .i64 a1_1, .int .i64 a1_2] 23 (0, 0))) ∧ (Below w.heap.size w w') ∧ (b 4 = true → b 5 = true → gb278 ≠ gb277) ∧ (b 4 = true → b 5 = true → gb277 ≠ gb278) ∧ (b 4 = true → b 6 = false → w'.heap[gb277]? = some (.cells #[.int .i64 0, .int .i64 0, .int .i64 0] 101 (0, 0))) ∧ (b 4 = true → w.heap.size ≤ gb277) ∧ (b 4 = true → w.heap.size ≤ gb277) ∧ (b 4 = true → gb269 ≠ gb277) ∧ (b 4 = true → gb277 ≠ gb269) ∧ (b 4 = true → gb270 ≠ gb277) ∧ (b 4 = true → gb277 ≠ gb270) ∧ (b 5 = true → b 7 = false → w'.heap[gb278]? = some (.cells #[.int .i64 0, .int .i64 0, .int .i64 0] 101 (0, 0))) ∧ (b 5 = true → w.heap.size ≤ gb278) ∧ (b 5 = true → w.heap.size ≤ gb278) ∧ (b 5 = true → gb269 ≠ gb278) ∧ (b 5 = true → gb278 ≠ gb269) ∧ (b 5 = true → gb270 ≠ gb278) ∧ (b 5 = true → gb278 ≠ gb270) ∧ (b 6 = true → w'.heap[gb277]? = some (.cells #[.int .i64 a0_0, .int .i64 a0_1, .int .i64 a0_2] 101 (0, 0))) ∧ (b 7 = true → w'.heap[gb278]? = some (.cells #[.int .i64 a1_0, .int .i64 a1_1, .int .i64 a1_2] 101 (0, 0))) ∧ (b 4 = true → (m4_ : Value) = .pointer (some ⟨gb277, 0, none⟩)) ∧ (b 5 = true → (m5_ : Value) = .pointer (some ⟨gb278, 0, none⟩))) HT_.out HW_.out (by kernel_rfl) (by kernel_rfl) ?_ ?_ ?_
 ·exact ⟨0, 0, .bool false, .bool false, by simp only [putSel, Bool.false_eq_true, if_false], BK269.out, BK270.out, HB.out, fun h_ => absurd h_ (by decide), fun h_ => absurd h_ (by decide), fun h_ => absurd h_ (by decide), fun h_ => absurd h_ (by decide), fun h_ => absurd h_ (by decide), fun h_ => absurd h_ (by decide), fun h_ => absurd h_ (by decide), fun h_ => absurd h_ (by decide), fun h_ => absurd h_ (by decide), fun h_ => absurd h_ (by decide), fun h_ => absurd h_ (by decide), fun h_ => absurd h_ (by decide), fun h_ => absurd h_ (by decide), fun h_ => absurd h_ (by decide), fun h_ => absurd h_ (by decide), fun h_ => absurd h_ (by decide), fun h_ => absurd h_ (by decide), fun h_ => absurd h_ (by decide), fun h_ => absurd h_ (by decide), fun h_ => absurd h_ (by decide)⟩
 ·skip
  clear BK269 BK270 HB
  refine steps_cons ?_ ?_
  ·rintro b a w' ⟨gb277, gb278, m4_, m5_, ha, Q_BK269, Q_BK270, Q_HB, Q_NB278_277, Q_NB277_278, Q_BK277, Q_GW277, Q_GE277, Q_NB269_277, Q_NB277_269, Q_NB270_277, Q_NB277_270, Q_BK278, Q_GW278, Q_GE278, Q_NB269_278, Q_NB278_269, Q_NB270_278, Q_NB278_270, Q_BK277_e6, Q_BK278_e7, Q_X4_, Q_X5_⟩ hb_ hon hoff
   refine ⟨_, rfl, fun K hK => ?_⟩
   have E1 : a.tmps[1]? = some (.pointer (some ⟨gb269, 0, none⟩)) := by rw [ha]; exact (putSel_off rfl).trans rfl
   replace ha := mk0 ha
   have BK269 := mk0 Q_BK269
   have BK270 := mk0 Q_BK270
   have HB := mk0 Q_HB
   have hc0_ : w'.cell? ⟨gb269, 0, none⟩ = some (.int .i64 a0_0) := ct BK269.out 0
   have hc1_ : w'.cell? ⟨gb269, 1, none⟩ = some (.int .i64 a0_1) := ct BK269.out 1
   have hc2_ : w'.cell? ⟨gb269, 2, none⟩ = some (.int .i64 a0_2) := ct BK269.out 2
   refine value_ (w1 := w') (v := .agg #[.int .i64 a0_0, .int .i64 a0_1, .int .i64 a0_2]) (by rfl) rfl ?_ ?_
   ·go_simp
    (try simp only [i64_w])
    try rfl
   refine hK.out _ _ ⟨gb277, gb278, m4_, m5_, (by rw [ha.out]; exact putSel_upk 0 hb_ rfl rfl rfl), Q_BK269, Q_BK270, Q_HB, Q_NB278_277, Q_NB277_278, Q_BK277, Q_GW277, Q_GE277, Q_NB269_277, Q_NB277_269, Q_NB270_277, Q_NB277_270, Q_BK278, Q_GW278, Q_GE278, Q_NB269_278, Q_NB278_269, Q_NB270_278, Q_NB278_270, fun h0_ => absurd ((hoff 6 (by kernel_rfl)).symm.trans h0_) (by decide), fun h0_ => absurd ((hoff 7 (by kernel_rfl)).symm.trans h0_) (by decide), Q_X4_, Q_X5_⟩
  refine steps_cons ?_ ?_
  ·rintro b a w' ⟨gb277, gb278, m4_, m5_, ha, Q_BK269, Q_BK270, Q_HB, Q_NB278_277, Q_NB277_278, Q_BK277, Q_GW277, Q_GE277, Q_NB269_277, Q_NB277_269, Q_NB270_277, Q_NB277_270, Q_BK278, Q_GW278, Q_GE278, Q_NB269_278, Q_NB278_269, Q_NB270_278, Q_NB278_270, Q_BK277_e6, Q_BK278_e7, Q_X4_, Q_X5_⟩ hb_ hon hoff
   refine ⟨_, rfl, fun K hK => ?_⟩
   have E7 : a.tmps[7]? = some (.agg #[.int .i64 a0_0, .int .i64 a0_1, .int .i64 a0_2]) := by rw [ha]; exact putSel_on (e := (0, 7, .agg #[.int .i64 a0_0, .int .i64 a0_1, .int .i64 a0_2])) 0 rfl rfl (hon 0 (by kernel_rfl)) rfl
   replace ha := mk0 ha
   have BK269 := mk0 Q_BK269
   have BK270 := mk0 Q_BK270
   have HB := mk0 Q_HB
   refine goes_ Tryz.func43 (by kernel_rfl) rfl #[.agg #[.int .i64 a0_0, .int .i64 a0_1, .int .i64 a0_2]] (by rfl) rfl rfl (by first | (simp only [List.map_toArray, List.map_cons, List.map_nil, Act.eval, Array.getD_eq_getD_getElem?, Option.getD_some, E7]; done) | (simp only [List.map_toArray, List.map_cons, List.map_nil, Act.eval, Array.getD_eq_getD_getElem?, Option.getD_some, E7]; rfl)) ?_
   with_reducible refine (probe_of.calls a0_0 a0_1 a0_2 a0_0 a0_1 a0_2 _ rfl).mono ?_
   rintro e w8 ⟨rfl, hb⟩
   refine ⟨_, rfl, ?_⟩
   have n0_ := mk0 (blk_below (g := gb269) (o := .cells #[.int .i64 a0_0, .int .i64 a0_1, .int .i64 a0_2] 23 (0, 0)) (by (with_reducible repeat (first | refine blk_drewN ?_ _ | refine blk_drew ?_ | refine blk_alloc ?_ _)); exact BK269.out) hb)
   have n1_ := mk0 (blk_below (g := gb270) (o := .cells #[.int .i64 a1_0, .int .i64 a1_1, .int .i64 a1_2] 23 (0, 0)) (by (with_reducible repeat (first | refine blk_drewN ?_ _ | refine blk_drew ?_ | refine blk_alloc ?_ _)); exact BK270.out) hb)
   have n2_ := mk0 (below_step (by repeat (first | (with_reducible first | exact HB.out | apply below_alloc | apply pw_below_drewN | apply below_drew1) | exact HB.out)) hb)
   have z_BK277 := fun (h0_ : b 4 = true) (h1_ : b 6 = false) => (show w8.heap[gb277]? = some (.cells #[.int .i64 0, .int .i64 0, .int .i64 0] 101 (0, 0)) from by first | exact (blk_below (g := gb277) (o := .cells #[.int .i64 0, .int .i64 0, .int .i64 0] 101 (0, 0)) (by (with_reducible repeat (first | refine blk_drewN ?_ _ | refine blk_drew ?_ | refine blk_alloc ?_ _)); exact (Q_BK277 h0_ h1_)) hb))
   have z_BK278 := fun (h0_ : b 5 = true) (h1_ : b 7 = false) => (show w8.heap[gb278]? = some (.cells #[.int .i64 0, .int .i64 0, .int .i64 0] 101 (0, 0)) from by first | exact (blk_below (g := gb278) (o := .cells #[.int .i64 0, .int .i64 0, .int .i64 0] 101 (0, 0)) (by (with_reducible repeat (first | refine blk_drewN ?_ _ | refine blk_drew ?_ | refine blk_alloc ?_ _)); exact (Q_BK278 h0_ h1_)) hb))
   clear BK269
   clear BK270
   clear HB
   have BK269 := n0_
   have BK270 := n1_
   have HB := n2_
   clear n0_ n1_ n2_
   (try clear hb)
   (try clear hb2)
   (try clear hk)
   (try clear hi)
   refine hK.out _ _ ⟨gb277, gb278, m4_, m5_, (by rw [ha.out]; exact putSel_upk 1 hb_ rfl rfl rfl), (by (with_reducible repeat (first | refine blk_drewN ?_ _ | refine blk_drew ?_ | refine blk_alloc ?_ _)); exact BK269.out), (by (with_reducible repeat (first | refine blk_drewN ?_ _ | refine blk_drew ?_ | refine blk_alloc ?_ _)); exact BK270.out), (by repeat (first | (with_reducible first | exact HB.out | apply below_alloc | apply pw_below_drewN | apply below_drew1) | exact HB.out)), Q_NB278_277, Q_NB277_278, z_BK277, Q_GW277, Q_GE277, Q_NB269_277, Q_NB277_269, Q_NB270_277, Q_NB277_270, z_BK278, Q_GW278, Q_GE278, Q_NB269_278, Q_NB278_269, Q_NB270_278, Q_NB278_270, fun h0_ => absurd ((hoff 6 (by kernel_rfl)).symm.trans h0_) (by decide), fun h0_ => absurd ((hoff 7 (by kernel_rfl)).symm.trans h0_) (by decide), Q_X4_, Q_X5_⟩
  refine steps_cons ?_ ?_
  ·rintro b a w' ⟨gb277, gb278, m4_, m5_, ha, Q_BK269, Q_BK270, Q_HB, Q_NB278_277, Q_NB277_278, Q_BK277, Q_GW277, Q_GE277, Q_NB269_277, Q_NB277_269, Q_NB270_277, Q_NB277_270, Q_BK278, Q_GW278, Q_GE278, Q_NB269_278, Q_NB278_269, Q_NB270_278, Q_NB278_270, Q_BK277_e6, Q_BK278_e7, Q_X4_, Q_X5_⟩ hb_ hon hoff
   refine ⟨_, rfl, fun K hK => ?_⟩
   have E2 : a.tmps[2]? = some (.pointer (some ⟨gb270, 0, none⟩)) := by rw [ha]; exact (putSel_off rfl).trans rfl
   replace ha := mk0 ha
   have BK269 := mk0 Q_BK269
   have BK270 := mk0 Q_BK270
   have HB := mk0 Q_HB
   have hc0_ : w'.cell? ⟨gb270, 0, none⟩ = some (.int .i64 a1_0) := ct BK270.out 0
   have hc1_ : w'.cell? ⟨gb270, 1, none⟩ = some (.int .i64 a1_1) := ct BK270.out 1
   have hc2_ : w'.cell? ⟨gb270, 2, none⟩ = some (.int .i64 a1_2) := ct BK270.out 2
   refine value_ (w1 := w') (v := .agg #[.int .i64 a1_0, .int .i64 a1_1, .int .i64 a1_2]) (by rfl) rfl ?_ ?_
   ·go_simp
    (try simp only [i64_w])
    try rfl
   refine hK.out _ _ ⟨gb277, gb278, m4_, m5_, (by rw [ha.out]; exact putSel_upk 2 hb_ rfl rfl rfl), Q_BK269, Q_BK270, Q_HB, Q_NB278_277, Q_NB277_278, Q_BK277, Q_GW277, Q_GE277, Q_NB269_277, Q_NB277_269, Q_NB270_277, Q_NB277_270, Q_BK278, Q_GW278, Q_GE278, Q_NB269_278, Q_NB278_269, Q_NB270_278, Q_NB278_270, fun h0_ => absurd ((hoff 6 (by kernel_rfl)).symm.trans h0_) (by decide), fun h0_ => absurd ((hoff 7 (by kernel_rfl)).symm.trans h0_) (by decide), Q_X4_, Q_X5_⟩
  refine steps_cons ?_ ?_
  ·rintro b a w' ⟨gb277, gb278, m4_, m5_, ha, Q_BK269, Q_BK270, Q_HB, Q_NB278_277, Q_NB277_278, Q_BK277, Q_GW277, Q_GE277, Q_NB269_277, Q_NB277_269, Q_NB270_277, Q_NB277_270, Q_BK278, Q_GW278, Q_GE278, Q_NB269_278, Q_NB278_269, Q_NB270_278, Q_NB278_270, Q_BK277_e6, Q_BK278_e7, Q_X4_, Q_X5_⟩ hb_ hon hoff
   refine ⟨_, rfl, fun K hK => ?_⟩
   have E9 : a.tmps[9]? = some (.agg #[.int .i64 a1_0, .int .i64 a1_1, .int .i64 a1_2]) := by rw [ha]; exact putSel_on (e := (2, 9, .agg #[.int .i64 a1_0, .int .i64 a1_1, .int .i64 a1_2])) 2 rfl rfl (hon 2 (by kernel_rfl)) rfl
   replace ha := mk0 ha
   have BK269 := mk0 Q_BK269
   have BK270 := mk0 Q_BK270
   have HB := mk0 Q_HB
   refine goes_ Tryz.func43 (by kernel_rfl) rfl #[.agg #[.int .i64 a1_0, .int .i64 a1_1, .int .i64 a1_2]] (by rfl) rfl rfl (by first | (simp only [List.map_toArray, List.map_cons, List.map_nil, Act.eval, Array.getD_eq_getD_getElem?, Option.getD_some, E9]; done) | (simp only [List.map_toArray, List.map_cons, List.map_nil, Act.eval, Array.getD_eq_getD_getElem?, Option.getD_some, E9]; rfl)) ?_
   with_reducible refine (probe_of.calls a1_0 a1_1 a1_2 a1_0 a1_1 a1_2 _ rfl).mono ?_
   rintro e w10 ⟨rfl, hb⟩
   refine ⟨_, rfl, ?_⟩
   have n0_ := mk0 (blk_below (g := gb269) (o := .cells #[.int .i64 a0_0, .int .i64 a0_1, .int .i64 a0_2] 23 (0, 0)) (by (with_reducible repeat (first | refine blk_drewN ?_ _ | refine blk_drew ?_ | refine blk_alloc ?_ _)); exact BK269.out) hb)
   have n1_ := mk0 (blk_below (g := gb270) (o := .cells #[.int .i64 a1_0, .int .i64 a1_1, .int .i64 a1_2] 23 (0, 0)) (by (with_reducible repeat (first | refine blk_drewN ?_ _ | refine blk_drew ?_ | refine blk_alloc ?_ _)); exact BK270.out) hb)
   have n2_ := mk0 (below_step (by repeat (first | (with_reducible first | exact HB.out | apply below_alloc | apply pw_below_drewN | apply below_drew1) | exact HB.out)) hb)
   have z_BK277 := fun (h0_ : b 4 = true) (h1_ : b 6 = false) => (show w10.heap[gb277]? = some (.cells #[.int .i64 0, .int .i64 0, .int .i64 0] 101 (0, 0)) from by first | exact (blk_below (g := gb277) (o := .cells #[.int .i64 0, .int .i64 0, .int .i64 0] 101 (0, 0)) (by (with_reducible repeat (first | refine blk_drewN ?_ _ | refine blk_drew ?_ | refine blk_alloc ?_ _)); exact (Q_BK277 h0_ h1_)) hb))
   have z_BK278 := fun (h0_ : b 5 = true) (h1_ : b 7 = false) => (show w10.heap[gb278]? = some (.cells #[.int .i64 0, .int .i64 0, .int .i64 0] 101 (0, 0)) from by first | exact (blk_below (g := gb278) (o := .cells #[.int .i64 0, .int .i64 0, .int .i64 0] 101 (0, 0)) (by (with_reducible repeat (first | refine blk_drewN ?_ _ | refine blk_drew ?_ | refine blk_alloc ?_ _)); exact (Q_BK278 h0_ h1_)) hb))
   clear BK269
   clear BK270
   clear HB
   have BK269 := n0_
   have BK270 := n1_
   have HB := n2_
   clear n0_ n1_ n2_
   (try clear hb)
   (try clear hb2)
   (try clear hk)
   (try clear hi)
   refine hK.out _ _ ⟨gb277, gb278, m4_, m5_, (by rw [ha.out]; exact putSel_upk 3 hb_ rfl rfl rfl), (by (with_reducible repeat (first | refine blk_drewN ?_ _ | refine blk_drew ?_ | refine blk_alloc ?_ _)); exact BK269.out), (by (with_reducible repeat (first | refine blk_drewN ?_ _ | refine blk_drew ?_ | refine blk_alloc ?_ _)); exact BK270.out), (by repeat (first | (with_reducible first | exact HB.out | apply below_alloc | apply pw_below_drewN | apply below_drew1) | exact HB.out)), Q_NB278_277, Q_NB277_278, z_BK277, Q_GW277, Q_GE277, Q_NB269_277, Q_NB277_269, Q_NB270_277, Q_NB277_270, z_BK278, Q_GW278, Q_GE278, Q_NB269_278, Q_NB278_269, Q_NB270_278, Q_NB278_270, fun h0_ => absurd ((hoff 6 (by kernel_rfl)).symm.trans h0_) (by decide), fun h0_ => absurd ((hoff 7 (by kernel_rfl)).symm.trans h0_) (by decide), Q_X4_, Q_X5_⟩
  refine steps_cons ?_ ?_
  ·rintro b a w' ⟨gb277, gb278, m4_, m5_, ha, Q_BK269, Q_BK270, Q_HB, Q_NB278_277, Q_NB277_278, Q_BK277, Q_GW277, Q_GE277, Q_NB269_277, Q_NB277_269, Q_NB270_277, Q_NB277_270, Q_BK278, Q_GW278, Q_GE278, Q_NB269_278, Q_NB278_269, Q_NB270_278, Q_NB278_270, Q_BK277_e6, Q_BK278_e7, Q_X4_, Q_X5_⟩ hb_ hon hoff
   refine ⟨_, rfl, fun K hK => ?_⟩
   replace ha := mk0 ha
   have BK269 := mk0 Q_BK269
   have BK270 := mk0 Q_BK270
   have HB := mk0 Q_HB
   refine box_step ?hg (N := 4) ?hd (cs := #[.int .i64 0, .int .i64 0, .int .i64 0]) (t := 101) ?hr ?_; (case hd => rfl); (case hg => rfl); (case hr => first | (go_simp; done) | (go_simp; rfl))
   intro gb277 hg w8 hbox hb
   have n0_ := mk0 (blk_below (g := gb269) (o := .cells #[.int .i64 a0_0, .int .i64 a0_1, .int .i64 a0_2] 23 (0, 0)) (by (with_reducible repeat (first | refine blk_drewN ?_ _ | refine blk_drew ?_ | refine blk_alloc ?_ _)); exact BK269.out) hb)
   have n1_ := mk0 (blk_below (g := gb270) (o := .cells #[.int .i64 a1_0, .int .i64 a1_1, .int .i64 a1_2] 23 (0, 0)) (by (with_reducible repeat (first | refine blk_drewN ?_ _ | refine blk_drew ?_ | refine blk_alloc ?_ _)); exact BK270.out) hb)
   have n2_ := mk0 (below_step (by repeat (first | (with_reducible first | exact HB.out | apply below_alloc | apply pw_below_drewN | apply below_drew1) | exact HB.out)) hb)
   have n3_ := mk0 (hbox)
   have n4_ := mk0 ((by rw [hg]; exact (below_size (by repeat (first | (with_reducible first | exact HB.out | apply below_alloc | apply pw_below_drewN | apply below_drew1) | exact HB.out))) : w.heap.size ≤ gb277))
   have n5_ := mk0 ((by rw [hg]; exact (below_size (by repeat (first | (with_reducible first | exact HB.out | apply below_alloc | apply pw_below_drewN | apply below_drew1) | exact HB.out))) : w.heap.size ≤ gb277))
   have n6_ := mk0 ((by rw [hg]; exact Nat.ne_of_lt (blk_lt (g := gb269) (o := .cells #[.int .i64 a0_0, .int .i64 a0_1, .int .i64 a0_2] 23 (0, 0)) (by (with_reducible repeat (first | refine blk_drewN ?_ _ | refine blk_drew ?_ | refine blk_alloc ?_ _)); exact BK269.out)) : gb269 ≠ gb277))
   have n7_ := mk0 ((by rw [hg]; exact Nat.ne_of_gt (blk_lt (g := gb269) (o := .cells #[.int .i64 a0_0, .int .i64 a0_1, .int .i64 a0_2] 23 (0, 0)) (by (with_reducible repeat (first | refine blk_drewN ?_ _ | refine blk_drew ?_ | refine blk_alloc ?_ _)); exact BK269.out)) : gb277 ≠ gb269))
   have n8_ := mk0 ((by rw [hg]; exact Nat.ne_of_lt (blk_lt (g := gb270) (o := .cells #[.int .i64 a1_0, .int .i64 a1_1, .int .i64 a1_2] 23 (0, 0)) (by (with_reducible repeat (first | refine blk_drewN ?_ _ | refine blk_drew ?_ | refine blk_alloc ?_ _)); exact BK270.out)) : gb270 ≠ gb277))
   have n9_ := mk0 ((by rw [hg]; exact Nat.ne_of_gt (blk_lt (g := gb270) (o := .cells #[.int .i64 a1_0, .int .i64 a1_1, .int .i64 a1_2] 23 (0, 0)) (by (with_reducible repeat (first | refine blk_drewN ?_ _ | refine blk_drew ?_ | refine blk_alloc ?_ _)); exact BK270.out)) : gb277 ≠ gb270))
   have z_NB278_277 := fun (h0_ : up b 4 4 = true) (h1_ : up b 4 5 = true) => (show gb278 ≠ gb277 from by rw [hg]; exact Nat.ne_of_lt ((show gb278 < w'.heap.size by cases hq_ : b 7 with | false => exact blk_lt (Q_BK278 h1_ hq_) | true => exact blk_lt (Q_BK278_e7 hq_))))
   have z_NB277_278 := fun (h0_ : up b 4 4 = true) (h1_ : up b 4 5 = true) => (show gb277 ≠ gb278 from by rw [hg]; exact Nat.ne_of_gt ((show gb278 < w'.heap.size by cases hq_ : b 7 with | false => exact blk_lt (Q_BK278 h1_ hq_) | true => exact blk_lt (Q_BK278_e7 hq_))))
   have z_BK278 := fun (h0_ : b 5 = true) (h1_ : b 7 = false) => (show w8.heap[gb278]? = some (.cells #[.int .i64 0, .int .i64 0, .int .i64 0] 101 (0, 0)) from by first | exact (blk_below (g := gb278) (o := .cells #[.int .i64 0, .int .i64 0, .int .i64 0] 101 (0, 0)) (by (with_reducible repeat (first | refine blk_drewN ?_ _ | refine blk_drew ?_ | refine blk_alloc ?_ _)); exact (Q_BK278 h0_ h1_)) hb))
   clear BK269
   clear BK270
   clear HB
   have BK269 := n0_
   have BK270 := n1_
   have HB := n2_
   have BK277 := n3_
   have GW277 := n4_
   have GE277 := n5_
   have NB269_277 := n6_
   have NB277_269 := n7_
   have NB270_277 := n8_
   have NB277_270 := n9_
   clear n0_ n1_ n2_ n3_ n4_ n5_ n6_ n7_ n8_ n9_
   clear hb hbox hg
   refine hK.out _ _ ⟨gb277, gb278, (.pointer (some ⟨gb277, 0, none⟩)), m5_, (by rw [ha.out]; exact putSel_upk 4 hb_ rfl rfl rfl), (by (with_reducible repeat (first | refine blk_drewN ?_ _ | refine blk_drew ?_ | refine blk_alloc ?_ _)); exact BK269.out), (by (with_reducible repeat (first | refine blk_drewN ?_ _ | refine blk_drew ?_ | refine blk_alloc ?_ _)); exact BK270.out), (by repeat (first | (with_reducible first | exact HB.out | apply below_alloc | apply pw_below_drewN | apply below_drew1) | exact HB.out)), z_NB278_277, z_NB277_278, fun _ _ => (by (with_reducible repeat (first | refine blk_drewN ?_ _ | refine blk_drew ?_ | refine blk_alloc ?_ _)); exact BK277.out), fun _ => GW277.out, fun _ => GE277.out, fun _ => NB269_277.out, fun _ => NB277_269.out, fun _ => NB270_277.out, fun _ => NB277_270.out, z_BK278, Q_GW278, Q_GE278, Q_NB269_278, Q_NB278_269, Q_NB270_278, Q_NB278_270, fun h0_ => absurd ((hoff 6 (by kernel_rfl)).symm.trans h0_) (by decide), fun h0_ => absurd ((hoff 7 (by kernel_rfl)).symm.trans h0_) (by decide), fun _ => rfl, Q_X5_⟩
  refine steps_cons ?_ ?_
  ·rintro b a w' ⟨gb277, gb278, m4_, m5_, ha, Q_BK269, Q_BK270, Q_HB, Q_NB278_277, Q_NB277_278, Q_BK277, Q_GW277, Q_GE277, Q_NB269_277, Q_NB277_269, Q_NB270_277, Q_NB277_270, Q_BK278, Q_GW278, Q_GE278, Q_NB269_278, Q_NB278_269, Q_NB270_278, Q_NB278_270, Q_BK277_e6, Q_BK278_e7, Q_X4_, Q_X5_⟩ hb_ hon hoff
   refine ⟨_, rfl, fun K hK => ?_⟩
   replace ha := mk0 ha
   have BK269 := mk0 Q_BK269
   have BK270 := mk0 Q_BK270
   have HB := mk0 Q_HB
   refine box_step ?hg (N := 5) ?hd (cs := #[.int .i64 0, .int .i64 0, .int .i64 0]) (t := 101) ?hr ?_; (case hd => rfl); (case hg => rfl); (case hr => first | (go_simp; done) | (go_simp; rfl))
   intro gb278 hg w8 hbox hb
   have n0_ := mk0 (blk_below (g := gb269) (o := .cells #[.int .i64 a0_0, .int .i64 a0_1, .int .i64 a0_2] 23 (0, 0)) (by (with_reducible repeat (first | refine blk_drewN ?_ _ | refine blk_drew ?_ | refine blk_alloc ?_ _)); exact BK269.out) hb)
   have n1_ := mk0 (blk_below (g := gb270) (o := .cells #[.int .i64 a1_0, .int .i64 a1_1, .int .i64 a1_2] 23 (0, 0)) (by (with_reducible repeat (first | refine blk_drewN ?_ _ | refine blk_drew ?_ | refine blk_alloc ?_ _)); exact BK270.out) hb)
   have n2_ := mk0 (below_step (by repeat (first | (with_reducible first | exact HB.out | apply below_alloc | apply pw_below_drewN | apply below_drew1) | exact HB.out)) hb)
   have n3_ := mk0 (hbox)
   have n4_ := mk0 ((by rw [hg]; exact (below_size (by repeat (first | (with_reducible first | exact HB.out | apply below_alloc | apply pw_below_drewN | apply below_drew1) | exact HB.out))) : w.heap.size ≤ gb278))
   have n5_ := mk0 ((by rw [hg]; exact (below_size (by repeat (first | (with_reducible first | exact HB.out | apply below_alloc | apply pw_below_drewN | apply below_drew1) | exact HB.out))) : w.heap.size ≤ gb278))
   have n6_ := mk0 ((by rw [hg]; exact Nat.ne_of_lt (blk_lt (g := gb269) (o := .cells #[.int .i64 a0_0, .int .i64 a0_1, .int .i64 a0_2] 23 (0, 0)) (by (with_reducible repeat (first | refine blk_drewN ?_ _ | refine blk_drew ?_ | refine blk_alloc ?_ _)); exact BK269.out)) : gb269 ≠ gb278))
   have n7_ := mk0 ((by rw [hg]; exact Nat.ne_of_gt (blk_lt (g := gb269) (o := .cells #[.int .i64 a0_0, .int .i64 a0_1, .int .i64 a0_2] 23 (0, 0)) (by (with_reducible repeat (first | refine blk_drewN ?_ _ | refine blk_drew ?_ | refine blk_alloc ?_ _)); exact BK269.out)) : gb278 ≠ gb269))
   have n8_ := mk0 ((by rw [hg]; exact Nat.ne_of_lt (blk_lt (g := gb270) (o := .cells #[.int .i64 a1_0, .int .i64 a1_1, .int .i64 a1_2] 23 (0, 0)) (by (with_reducible repeat (first | refine blk_drewN ?_ _ | refine blk_drew ?_ | refine blk_alloc ?_ _)); exact BK270.out)) : gb270 ≠ gb278))
   have n9_ := mk0 ((by rw [hg]; exact Nat.ne_of_gt (blk_lt (g := gb270) (o := .cells #[.int .i64 a1_0, .int .i64 a1_1, .int .i64 a1_2] 23 (0, 0)) (by (with_reducible repeat (first | refine blk_drewN ?_ _ | refine blk_drew ?_ | refine blk_alloc ?_ _)); exact BK270.out)) : gb278 ≠ gb270))
   have z_NB278_277 := fun (h0_ : up b 5 4 = true) (h1_ : up b 5 5 = true) => (show gb278 ≠ gb277 from by rw [hg]; exact Nat.ne_of_gt ((show gb277 < w'.heap.size by cases hq_ : b 6 with | false => exact blk_lt (Q_BK277 h0_ hq_) | true => exact blk_lt (Q_BK277_e6 hq_))))
   have z_NB277_278 := fun (h0_ : up b 5 4 = true) (h1_ : up b 5 5 = true) => (show gb277 ≠ gb278 from by rw [hg]; exact Nat.ne_of_lt ((show gb277 < w'.heap.size by cases hq_ : b 6 with | false => exact blk_lt (Q_BK277 h0_ hq_) | true => exact blk_lt (Q_BK277_e6 hq_))))
   have z_BK277 := fun (h0_ : b 4 = true) (h1_ : b 6 = false) => (show w8.heap[gb277]? = some (.cells #[.int .i64 0, .int .i64 0, .int .i64 0] 101 (0, 0)) from by first | exact (blk_below (g := gb277) (o := .cells #[.int .i64 0, .int .i64 0, .int .i64 0] 101 (0, 0)) (by (with_reducible repeat (first | refine blk_drewN ?_ _ | refine blk_drew ?_ | refine blk_alloc ?_ _)); exact (Q_BK277 h0_ h1_)) hb))
   clear BK269
   clear BK270
   clear HB
   have BK269 := n0_
   have BK270 := n1_
   have HB := n2_
   have BK278 := n3_
   have GW278 := n4_
   have GE278 := n5_
   have NB269_278 := n6_
   have NB278_269 := n7_
   have NB270_278 := n8_
   have NB278_270 := n9_
   clear n0_ n1_ n2_ n3_ n4_ n5_ n6_ n7_ n8_ n9_
   clear hb hbox hg
   refine hK.out _ _ ⟨gb277, gb278, m4_, (.pointer (some ⟨gb278, 0, none⟩)), (by rw [ha.out]; exact putSel_upk 5 hb_ rfl rfl rfl), (by (with_reducible repeat (first | refine blk_drewN ?_ _ | refine blk_drew ?_ | refine blk_alloc ?_ _)); exact BK269.out), (by (with_reducible repeat (first | refine blk_drewN ?_ _ | refine blk_drew ?_ | refine blk_alloc ?_ _)); exact BK270.out), (by repeat (first | (with_reducible first | exact HB.out | apply below_alloc | apply pw_below_drewN | apply below_drew1) | exact HB.out)), z_NB278_277, z_NB277_278, z_BK277, Q_GW277, Q_GE277, Q_NB269_277, Q_NB277_269, Q_NB270_277, Q_NB277_270, fun _ _ => (by (with_reducible repeat (first | refine blk_drewN ?_ _ | refine blk_drew ?_ | refine blk_alloc ?_ _)); exact BK278.out), fun _ => GW278.out, fun _ => GE278.out, fun _ => NB269_278.out, fun _ => NB278_269.out, fun _ => NB270_278.out, fun _ => NB278_270.out, fun h0_ => absurd ((hoff 6 (by kernel_rfl)).symm.trans h0_) (by decide), fun h0_ => absurd ((hoff 7 (by kernel_rfl)).symm.trans h0_) (by decide), Q_X4_, fun _ => rfl⟩
  refine steps_cons ?_ ?_
  ·rintro b a w' ⟨gb277, gb278, m4_, m5_, ha, Q_BK269, Q_BK270, Q_HB, Q_NB278_277, Q_NB277_278, Q_BK277, Q_GW277, Q_GE277, Q_NB269_277, Q_NB277_269, Q_NB270_277, Q_NB277_270, Q_BK278, Q_GW278, Q_GE278, Q_NB269_278, Q_NB278_269, Q_NB270_278, Q_NB278_270, Q_BK277_e6, Q_BK278_e7, Q_X4_, Q_X5_⟩ hb_ hon hoff
   refine ⟨_, rfl, fun K hK => ?_⟩
   have E4 : a.tmps[4]? = some (m4_) := by rw [ha]; exact putSel_on (e := (4, 4, m4_)) 4 rfl rfl (hon 4 (by kernel_rfl)) rfl
   rw [Q_X4_ (hon 4 (by kernel_rfl))] at E4
   have E8 : a.tmps[8]? = some (.agg #[.int .i64 a0_0, .int .i64 a0_1, .int .i64 a0_2]) := by rw [ha]; exact putSel_on (e := (1, 8, .agg #[.int .i64 a0_0, .int .i64 a0_1, .int .i64 a0_2])) 1 rfl rfl (hon 1 (by kernel_rfl)) rfl
   replace ha := mk0 ha
   have BK269 := mk0 Q_BK269
   have BK270 := mk0 Q_BK270
   have HB := mk0 Q_HB
   have NB278_277 := mk0 (Q_NB278_277 (hon 4 (by kernel_rfl)) (hon 5 (by kernel_rfl)))
   have NB277_278 := mk0 (Q_NB277_278 (hon 4 (by kernel_rfl)) (hon 5 (by kernel_rfl)))
   have BK277 := mk0 (Q_BK277 (hon 4 (by kernel_rfl)) hb_)
   have GW277 := mk0 (Q_GW277 (hon 4 (by kernel_rfl)))
   have GE277 := mk0 (Q_GE277 (hon 4 (by kernel_rfl)))
   have NB269_277 := mk0 (Q_NB269_277 (hon 4 (by kernel_rfl)))
   have NB277_269 := mk0 (Q_NB277_269 (hon 4 (by kernel_rfl)))
   have NB270_277 := mk0 (Q_NB270_277 (hon 4 (by kernel_rfl)))
   have NB277_270 := mk0 (Q_NB277_270 (hon 4 (by kernel_rfl)))
   have BK278 := mk0 (Q_BK278 (hon 5 (by kernel_rfl)) (hoff 7 (by kernel_rfl)))
   have GW278 := mk0 (Q_GW278 (hon 5 (by kernel_rfl)))
   have GE278 := mk0 (Q_GE278 (hon 5 (by kernel_rfl)))
   have NB269_278 := mk0 (Q_NB269_278 (hon 5 (by kernel_rfl)))
   have NB278_269 := mk0 (Q_NB278_269 (hon 5 (by kernel_rfl)))
   have NB270_278 := mk0 (Q_NB270_278 (hon 5 (by kernel_rfl)))
   have NB278_270 := mk0 (Q_NB278_270 (hon 5 (by kernel_rfl)))
   have hs13 : w'.cell? ⟨gb277, 0, none⟩ = some (.int .i64 0) := ct BK277.out 0
   have hfs13 := blk_frozen BK277.out 0
   have hns13_0 := NB269_277.out
   have hns13_1 := NB270_277.out
   have hns13_3 := NB278_277.out
   have hms13_0 := NB277_269.out
   have hms13_1 := NB277_270.out
   have hms13_3 := NB277_278.out
   have hs14 : w'.cell? ⟨gb277, 1, none⟩ = some (.int .i64 0) := ct BK277.out 1
   have hfs14 := blk_frozen BK277.out 1
   have hns14_0 := NB269_277.out
   have hns14_1 := NB270_277.out
   have hns14_3 := NB278_277.out
   have hms14_0 := NB277_269.out
   have hms14_1 := NB277_270.out
   have hms14_3 := NB277_278.out
   have hs15 : w'.cell? ⟨gb277, 2, none⟩ = some (.int .i64 0) := ct BK277.out 2
   have hfs15 := blk_frozen BK277.out 2
   have hns15_0 := NB269_277.out
   have hns15_1 := NB270_277.out
   have hns15_3 := NB278_277.out
   have hms15_0 := NB277_269.out
   have hms15_1 := NB277_270.out
   have hms15_3 := NB277_278.out
   refine skip_ (w1 := ?_) (by rfl) rfl ?_ ?_
   rotate_left
   ·go_simp
    rfl
   refine hK.out _ _ ⟨gb277, gb278, m4_, m5_, (by rw [ha.out]; exact putSel_none (v := undef) rfl), (by (with_reducible repeat (first | refine blk_drewN ?_ _ | refine blk_drew ?_ | refine blk_alloc ?_ _)); refine blk_far ?_ NB269_277.out _; (with_reducible repeat (first | refine blk_drewN ?_ _ | refine blk_drew ?_ | refine blk_alloc ?_ _)); refine blk_far ?_ NB269_277.out _; (with_reducible repeat (first | refine blk_drewN ?_ _ | refine blk_drew ?_ | refine blk_alloc ?_ _)); refine blk_far ?_ NB269_277.out _; (with_reducible repeat (first | refine blk_drewN ?_ _ | refine blk_drew ?_ | refine blk_alloc ?_ _)); exact BK269.out), (by (with_reducible repeat (first | refine blk_drewN ?_ _ | refine blk_drew ?_ | refine blk_alloc ?_ _)); refine blk_far ?_ NB270_277.out _; (with_reducible repeat (first | refine blk_drewN ?_ _ | refine blk_drew ?_ | refine blk_alloc ?_ _)); refine blk_far ?_ NB270_277.out _; (with_reducible repeat (first | refine blk_drewN ?_ _ | refine blk_drew ?_ | refine blk_alloc ?_ _)); refine blk_far ?_ NB270_277.out _; (with_reducible repeat (first | refine blk_drewN ?_ _ | refine blk_drew ?_ | refine blk_alloc ?_ _)); exact BK270.out), (by repeat (first | (with_reducible first | exact HB.out | apply below_alloc | apply pw_below_drewN | apply below_drew1 | refine below_set ?_ GE277.out) | exact HB.out)), fun _ _ => NB278_277.out, fun _ _ => NB277_278.out, fun _ h1_ => absurd ((up_self b 6).symm.trans h1_) (by decide), fun _ => GW277.out, fun _ => GE277.out, fun _ => NB269_277.out, fun _ => NB277_269.out, fun _ => NB270_277.out, fun _ => NB277_270.out, fun _ _ => (by (with_reducible repeat (first | refine blk_drewN ?_ _ | refine blk_drew ?_ | refine blk_alloc ?_ _)); refine blk_far ?_ NB278_277.out _; (with_reducible repeat (first | refine blk_drewN ?_ _ | refine blk_drew ?_ | refine blk_alloc ?_ _)); refine blk_far ?_ NB278_277.out _; (with_reducible repeat (first | refine blk_drewN ?_ _ | refine blk_drew ?_ | refine blk_alloc ?_ _)); refine blk_far ?_ NB278_277.out _; (with_reducible repeat (first | refine blk_drewN ?_ _ | refine blk_drew ?_ | refine blk_alloc ?_ _)); exact BK278.out), fun _ => GW278.out, fun _ => GE278.out, fun _ => NB269_278.out, fun _ => NB278_269.out, fun _ => NB270_278.out, fun _ => NB278_270.out, fun _ => (by (with_reducible repeat (first | refine blk_drewN ?_ _ | refine blk_drew ?_ | refine blk_alloc ?_ _)); refine blk_put (cs := #[.int .i64 a0_0, .int .i64 a0_1, .int .i64 0]) ?_ 2 _ rfl; (with_reducible repeat (first | refine blk_drewN ?_ _ | refine blk_drew ?_ | refine blk_alloc ?_ _)); refine blk_put (cs := #[.int .i64 a0_0, .int .i64 0, .int .i64 0]) ?_ 1 _ rfl; (with_reducible repeat (first | refine blk_drewN ?_ _ | refine blk_drew ?_ | refine blk_alloc ?_ _)); refine blk_put (cs := #[.int .i64 0, .int .i64 0, .int .i64 0]) ?_ 0 _ rfl; (with_reducible repeat (first | refine blk_drewN ?_ _ | refine blk_drew ?_ | refine blk_alloc ?_ _)); exact BK277.out), fun h0_ => absurd ((hoff 7 (by kernel_rfl)).symm.trans h0_) (by decide), Q_X4_, Q_X5_⟩
  refine steps_cons ?_ ?_
  ·rintro b a w' ⟨gb277, gb278, m4_, m5_, ha, Q_BK269, Q_BK270, Q_HB, Q_NB278_277, Q_NB277_278, Q_BK277, Q_GW277, Q_GE277, Q_NB269_277, Q_NB277_269, Q_NB270_277, Q_NB277_270, Q_BK278, Q_GW278, Q_GE278, Q_NB269_278, Q_NB278_269, Q_NB270_278, Q_NB278_270, Q_BK277_e6, Q_BK278_e7, Q_X4_, Q_X5_⟩ hb_ hon hoff
   refine ⟨_, rfl, fun K hK => ?_⟩
   have E5 : a.tmps[5]? = some (m5_) := by rw [ha]; exact putSel_on (e := (5, 5, m5_)) 5 rfl rfl (hon 5 (by kernel_rfl)) rfl
   rw [Q_X5_ (hon 5 (by kernel_rfl))] at E5
   have E10 : a.tmps[10]? = some (.agg #[.int .i64 a1_0, .int .i64 a1_1, .int .i64 a1_2]) := by rw [ha]; exact putSel_on (e := (3, 10, .agg #[.int .i64 a1_0, .int .i64 a1_1, .int .i64 a1_2])) 3 rfl rfl (hon 3 (by kernel_rfl)) rfl
   replace ha := mk0 ha
   have BK269 := mk0 Q_BK269
   have BK270 := mk0 Q_BK270
   have HB := mk0 Q_HB
   have NB278_277 := mk0 (Q_NB278_277 (hon 4 (by kernel_rfl)) (hon 5 (by kernel_rfl)))
   have NB277_278 := mk0 (Q_NB277_278 (hon 4 (by kernel_rfl)) (hon 5 (by kernel_rfl)))
   have GW277 := mk0 (Q_GW277 (hon 4 (by kernel_rfl)))
   have GE277 := mk0 (Q_GE277 (hon 4 (by kernel_rfl)))
   have NB269_277 := mk0 (Q_NB269_277 (hon 4 (by kernel_rfl)))
   have NB277_269 := mk0 (Q_NB277_269 (hon 4 (by kernel_rfl)))
   have NB270_277 := mk0 (Q_NB270_277 (hon 4 (by kernel_rfl)))
   have NB277_270 := mk0 (Q_NB277_270 (hon 4 (by kernel_rfl)))
   have BK278 := mk0 (Q_BK278 (hon 5 (by kernel_rfl)) hb_)
   have GW278 := mk0 (Q_GW278 (hon 5 (by kernel_rfl)))
   have GE278 := mk0 (Q_GE278 (hon 5 (by kernel_rfl)))
   have NB269_278 := mk0 (Q_NB269_278 (hon 5 (by kernel_rfl)))
   have NB278_269 := mk0 (Q_NB278_269 (hon 5 (by kernel_rfl)))
   have NB270_278 := mk0 (Q_NB270_278 (hon 5 (by kernel_rfl)))
   have NB278_270 := mk0 (Q_NB278_270 (hon 5 (by kernel_rfl)))
   have BK277 := mk0 (Q_BK277_e6 (hon 6 (by kernel_rfl)))
   have hs16 : w'.cell? ⟨gb278, 0, none⟩ = some (.int .i64 0) := ct BK278.out 0
   have hfs16 := blk_frozen BK278.out 0
   have hns16_0 := NB269_278.out
   have hns16_1 := NB270_278.out
   have hns16_2 := NB277_278.out
   have hms16_0 := NB278_269.out
   have hms16_1 := NB278_270.out
   have hms16_2 := NB278_277.out
   have hs17 : w'.cell? ⟨gb278, 1, none⟩ = some (.int .i64 0) := ct BK278.out 1
   have hfs17 := blk_frozen BK278.out 1
   have hns17_0 := NB269_278.out
   have hns17_1 := NB270_278.out
   have hns17_2 := NB277_278.out
   have hms17_0 := NB278_269.out
   have hms17_1 := NB278_270.out
   have hms17_2 := NB278_277.out
   have hs18 : w'.cell? ⟨gb278, 2, none⟩ = some (.int .i64 0) := ct BK278.out 2
   have hfs18 := blk_frozen BK278.out 2
   have hns18_0 := NB269_278.out
   have hns18_1 := NB270_278.out
   have hns18_2 := NB277_278.out
   have hms18_0 := NB278_269.out
   have hms18_1 := NB278_270.out
   have hms18_2 := NB278_277.out
   refine skip_ (w1 := ?_) (by rfl) rfl ?_ ?_
   rotate_left
   ·go_simp
    rfl
   refine hK.out _ _ ⟨gb277, gb278, m4_, m5_, (by rw [ha.out]; exact putSel_none (v := undef) rfl), (by (with_reducible repeat (first | refine blk_drewN ?_ _ | refine blk_drew ?_ | refine blk_alloc ?_ _)); refine blk_far ?_ NB269_278.out _; (with_reducible repeat (first | refine blk_drewN ?_ _ | refine blk_drew ?_ | refine blk_alloc ?_ _)); refine blk_far ?_ NB269_278.out _; (with_reducible repeat (first | refine blk_drewN ?_ _ | refine blk_drew ?_ | refine blk_alloc ?_ _)); refine blk_far ?_ NB269_278.out _; (with_reducible repeat (first | refine blk_drewN ?_ _ | refine blk_drew ?_ | refine blk_alloc ?_ _)); exact BK269.out), (by (with_reducible repeat (first | refine blk_drewN ?_ _ | refine blk_drew ?_ | refine blk_alloc ?_ _)); refine blk_far ?_ NB270_278.out _; (with_reducible repeat (first | refine blk_drewN ?_ _ | refine blk_drew ?_ | refine blk_alloc ?_ _)); refine blk_far ?_ NB270_278.out _; (with_reducible repeat (first | refine blk_drewN ?_ _ | refine blk_drew ?_ | refine blk_alloc ?_ _)); refine blk_far ?_ NB270_278.out _; (with_reducible repeat (first | refine blk_drewN ?_ _ | refine blk_drew ?_ | refine blk_alloc ?_ _)); exact BK270.out), (by repeat (first | (with_reducible first | exact HB.out | apply below_alloc | apply pw_below_drewN | apply below_drew1 | refine below_set ?_ GE278.out) | exact HB.out)), fun _ _ => NB278_277.out, fun _ _ => NB277_278.out, fun _ h1_ => absurd ((hon 6 (by kernel_rfl)).symm.trans h1_) (by decide), fun _ => GW277.out, fun _ => GE277.out, fun _ => NB269_277.out, fun _ => NB277_269.out, fun _ => NB270_277.out, fun _ => NB277_270.out, fun _ h1_ => absurd ((up_self b 7).symm.trans h1_) (by decide), fun _ => GW278.out, fun _ => GE278.out, fun _ => NB269_278.out, fun _ => NB278_269.out, fun _ => NB270_278.out, fun _ => NB278_270.out, fun _ => (by (with_reducible repeat (first | refine blk_drewN ?_ _ | refine blk_drew ?_ | refine blk_alloc ?_ _)); refine blk_far ?_ NB277_278.out _; (with_reducible repeat (first | refine blk_drewN ?_ _ | refine blk_drew ?_ | refine blk_alloc ?_ _)); refine blk_far ?_ NB277_278.out _; (with_reducible repeat (first | refine blk_drewN ?_ _ | refine blk_drew ?_ | refine blk_alloc ?_ _)); refine blk_far ?_ NB277_278.out _; (with_reducible repeat (first | refine blk_drewN ?_ _ | refine blk_drew ?_ | refine blk_alloc ?_ _)); exact BK277.out), fun _ => (by (with_reducible repeat (first | refine blk_drewN ?_ _ | refine blk_drew ?_ | refine blk_alloc ?_ _)); refine blk_put (cs := #[.int .i64 a1_0, .int .i64 a1_1, .int .i64 0]) ?_ 2 _ rfl; (with_reducible repeat (first | refine blk_drewN ?_ _ | refine blk_drew ?_ | refine blk_alloc ?_ _)); refine blk_put (cs := #[.int .i64 a1_0, .int .i64 0, .int .i64 0]) ?_ 1 _ rfl; (with_reducible repeat (first | refine blk_drewN ?_ _ | refine blk_drew ?_ | refine blk_alloc ?_ _)); refine blk_put (cs := #[.int .i64 0, .int .i64 0, .int .i64 0]) ?_ 0 _ rfl; (with_reducible repeat (first | refine blk_drewN ?_ _ | refine blk_drew ?_ | refine blk_alloc ?_ _)); exact BK278.out), Q_X4_, Q_X5_⟩
  exact steps_nil
 rintro b a w18 hall ⟨gb277, gb278, m4_, m5_, ha, Q_BK269, Q_BK270, Q_HB, Q_NB278_277, Q_NB277_278, Q_BK277, Q_GW277, Q_GE277, Q_NB269_277, Q_NB277_269, Q_NB270_277, Q_NB277_270, Q_BK278, Q_GW278, Q_GE278, Q_NB269_278, Q_NB278_269, Q_NB270_278, Q_NB278_270, Q_BK277_e6, Q_BK278_e7, Q_X4_, Q_X5_⟩
 clear BK269 BK270 HB
 have hb0_ := hall 0 (by kernel_rfl)
 have hb1_ := hall 1 (by kernel_rfl)
 have hb2_ := hall 2 (by kernel_rfl)
 have hb3_ := hall 3 (by kernel_rfl)
 have hb4_ := hall 4 (by kernel_rfl)
 have hb5_ := hall 5 (by kernel_rfl)
 have hb6_ := hall 6 (by kernel_rfl)
 have hb7_ := hall 7 (by kernel_rfl)
 subst ha
 obtain rfl := Q_X4_ hb4_
 obtain rfl := Q_X5_ hb5_
 simp only [putSel, hb0_, hb1_, hb2_, hb3_, hb4_, hb5_, hb6_, hb7_, if_true, Act.put, List.setIfInBounds_toArray, List.set_cons_zero, List.set_cons_succ]
 have BK269 := mk0 Q_BK269
 clear Q_BK269
 have BK270 := mk0 Q_BK270
 clear Q_BK270
 have HB := mk0 Q_HB
 clear Q_HB
 have NB278_277 := mk0 (Q_NB278_277 hb4_ hb5_)
 clear Q_NB278_277
 have NB277_278 := mk0 (Q_NB277_278 hb4_ hb5_)
 clear Q_NB277_278
 clear Q_BK277
 have GW277 := mk0 (Q_GW277 hb4_)
 clear Q_GW277
 have GE277 := mk0 (Q_GE277 hb4_)
 clear Q_GE277
 have NB269_277 := mk0 (Q_NB269_277 hb4_)
 clear Q_NB269_277
 have NB277_269 := mk0 (Q_NB277_269 hb4_)
 clear Q_NB277_269
 have NB270_277 := mk0 (Q_NB270_277 hb4_)
 clear Q_NB270_277
 have NB277_270 := mk0 (Q_NB277_270 hb4_)
 clear Q_NB277_270
 clear Q_BK278
 have GW278 := mk0 (Q_GW278 hb5_)
 clear Q_GW278
 have GE278 := mk0 (Q_GE278 hb5_)
 clear Q_GE278
 have NB269_278 := mk0 (Q_NB269_278 hb5_)
 clear Q_NB269_278
 have NB278_269 := mk0 (Q_NB278_269 hb5_)
 clear Q_NB278_269
 have NB270_278 := mk0 (Q_NB270_278 hb5_)
 clear Q_NB270_278
 have NB278_270 := mk0 (Q_NB278_270 hb5_)
 clear Q_NB278_270
 have BK277 := mk0 (Q_BK277_e6 hb6_)
 clear Q_BK277_e6
 have BK278 := mk0 (Q_BK278_e7 hb7_)
 clear Q_BK278_e7
 clear hall hb0_ hb1_ hb2_ hb3_ hb4_ hb5_ hb6_ hb7_
 simp only [Exit.then]
 rename_i hKK
 refine hKK _ _ ?_
 clear hKK hHeld HT_ HW_
 refine (wpIn_wide (n := n)).1 ?_
 clear BK269 BK270
 gi_wp2
 gi_loopw [] (fun wr => ∃ (pre : List S23) (x y z : Int) (m : Nat), pre ++ wayL m ⟨x, y, z⟩ ⟨a1_0, a1_1, a1_2⟩ = wayL N ⟨a0_0, a0_1, a0_2⟩ ⟨a1_0, a1_1, a1_2⟩ ∧ nearS ⟨x, y, z⟩ ∧ distS ⟨x, y, z⟩ ⟨a1_0, a1_1, a1_2⟩ ≤ m
   ∧ Aside0 (wr.heap[gb277]? = some (.cells #[.int .i64 x, .int .i64 y, .int .i64 z] 101 (0, 0))) ∧ Aside0 (wr.heap[gb278]? = some (.cells #[.int .i64 a1_0, .int .i64 a1_1, .int .i64 a1_2] 101 (0, 0))) ∧ Aside0 (J pre wr)) (fun wr => distW wr gb277 gb278)
 case atStart => exact ⟨[], a0_0, a0_1, a0_2, N, rfl, hp.out, hN.out, BK277, BK278, ⟨hJ.out _ _ _ h0.out HB.out⟩⟩
 case round =>
  clear BK277 BK278 HB h0 hp hN
  obtain ⟨pre, x, y, z, m, he, hnr, hm, BK277, BK278, hj⟩ := hrel
  have he := mk0 he
  have hnr := mk0 hnr
  have hm := mk0 hm
  have hpre : Aside0 (pre ++ [(⟨x, y, z⟩ : S23)] <+: wayL N ⟨a0_0, a0_1, a0_2⟩ ⟨a1_0, a1_1, a1_2⟩) := ⟨by
   rw [← he.out]
   cases m with
   | zero => exact ⟨[], by simp [wayL]⟩
   | succ m => exact ⟨_, by simp only [wayL, List.append_assoc, List.singleton_append]; rfl⟩⟩
  have c0 : _ = some (Value.int .i64 x) := ct BK277.out 0
  have c1 : _ = some (Value.int .i64 y) := ct BK277.out 1
  have c2 : _ = some (Value.int .i64 z) := ct BK277.out 2
  have z0 := mk0 (cellInt_of c0)
  have z1 := mk0 (cellInt_of c1)
  have z2 := mk0 (cellInt_of c2)
  have z3 := mk0 (cellInt_of (n := a1_0) (ct BK278.out 0))
  have z4 := mk0 (cellInt_of (n := a1_1) (ct BK278.out 1))
  have z5 := mk0 (cellInt_of (n := a1_2) (ct BK278.out 2))
  gi_wp2
  refine ⟨trivial, (fun _ => by omega), ?_⟩
  gi_at_call 77
  refine (callsIn_wide.2 (spotc.calls x y z x y z _ rfl)).mono ?_
  rintro e w1 ⟨rfl, hb⟩
  obtain ⟨fn, tmps, assign, body, hy, hR⟩ := hY.out pre ⟨x, y, z⟩ w1 (hJ.out _ _ _ hj.out (hb.mono (below_size0 BK277.out GE277.out))) hpre.out
  dsimp only [enc23] at hy
  gi_wp2
  refine ⟨(fun _ => by omega), hR.mono ?_⟩
  rintro e W1 (⟨rfl, hj1, hk⟩ | ⟨rfl, hjx1⟩)
  ·have hbk77 := blk_below BK277.out hb
   have hbk78 := blk_below BK278.out hb
   replace hbk77 := (hk.2 _ GE277.out (blk_lt hbk77)).trans hbk77
   replace hbk78 := (hk.2 _ GE278.out (blk_lt hbk78)).trans hbk78
   have d0 : W1.cell? ⟨gb277, 0, none⟩ = some (Value.int .i64 x) := ct hbk77 0
   have d1 : W1.cell? ⟨gb277, 1, none⟩ = some (Value.int .i64 y) := ct hbk77 1
   have d2 : W1.cell? ⟨gb277, 2, none⟩ = some (Value.int .i64 z) := ct hbk77 2
   have f0 : W1.cell? ⟨gb278, 0, none⟩ = some (Value.int .i64 a1_0) := ct hbk78 0
   have f1 : W1.cell? ⟨gb278, 1, none⟩ = some (Value.int .i64 a1_1) := ct hbk78 1
   have f2 : W1.cell? ⟨gb278, 2, none⟩ = some (Value.int .i64 a1_2) := ct hbk78 2
   have q0 := cellInt_of d0
   have q1 := cellInt_of d1
   have q2 := cellInt_of d2
   have p0 := cellInt_of f0
   have p1 := cellInt_of f1
   have p2 := cellInt_of f2
   have hj1 := mk0 hj1
   have BK277 := mk0 hbk77
   have BK278 := mk0 hbk78
   clear hbk77 hbk78 hk hb hR hy c0 c1 c2 hj
   have heq := eq101 x y z a1_0 a1_1 a1_2
   by_cases hne : x = a1_0 ∧ y = a1_1 ∧ z = a1_2
   ·obtain ⟨h1, h2, h3⟩ := hne
    subst h1; subst h2; subst h3
    simp only [and_self, decide_true] at heq
    gi_wp2
    go_end0
    refine ⟨⟨_, rfl⟩, .inl ?_⟩
    have hw1 : wayL m ⟨x, y, z⟩ ⟨x, y, z⟩ = [⟨x, y, z⟩] := by cases m <;> simp [wayL]
    rw [← he.out, hw1]
    exact hj1.out
   ·have hne' : decide (x = a1_0 ∧ y = a1_1 ∧ z = a1_2) = false := decide_eq_false hne
    simp only [hne'] at heq
    have hne := mk0 hne
    clear hne'
    gi_wp2
    have hsz := blk_lt BK278.out
    gi_loopw [20] (fun v wr => ∃ k : Nat, k ≤ 3 ∧ v = .int .i64 k ∧ Aside0 (wr.heap[gb277]? = some (.cells #[.int .i64 (if 0 < k then tw x a1_0 else x), .int .i64 (if 1 < k then tw y a1_1 else y), .int .i64 (if 2 < k then tw z a1_2 else z)] 101 (0, 0)))
     ∧ Aside0 (wr.heap[gb278]? = some (.cells #[.int .i64 a1_0, .int .i64 a1_1, .int .i64 a1_2] 101 (0, 0))) ∧ Aside0 (J (pre ++ [⟨x, y, z⟩]) wr)) (fun v _ => 3 - (intOf v).toNat)
    case atStart => exact ⟨0, by omega, rfl, BK277, BK278, hj1⟩
    case round =>
     clear d0 d1 d2 f0 f1 f2 BK277 BK278 hj1
     obtain ⟨k, hk3, rfl, BK277, BK278, hj1⟩ := hrel
     have hnr0 := hnr.out
     have hq0 := hq.out
     have e1 : ∀ a b : Int, near a → near b → a < b → wrap64 (a + 1) = tw a b := fun a b ha hb h => by unfold tw near at *; rw [if_pos h]; unfold wrap64; omega
     have e2 : ∀ a b : Int, near a → near b → b < a → wrap64 (a - 1) = tw a b := fun a b ha hb h => by unfold tw near at *; rw [if_neg (by omega), if_pos h]; unfold wrap64; omega
     have e3 : ∀ a b : Int, ¬ a < b → ¬ b < a → a = tw a b := fun a b h h' => by unfold tw; rw [if_neg h, if_neg h']
     rcases (by omega : k = 0 ∨ k = 1 ∨ k = 2 ∨ k = 3) with rfl | rfl | rfl | rfl
     ·have d0 : _ = some (Value.int .i64 x) := ct BK277.out 0
      have f0 : _ = some (Value.int .i64 a1_0) := ct BK278.out 0
      have g0 := blk_frozen BK277.out 0
      rcases Int.lt_trichotomy x a1_0 with hx | hx | hx
      ·refine wpIn_wide.2 ?_
       go_wp2
       repeat (go_quiet (fail); go_wp2)
       exact ⟨⟨1, by omega, rfl, ⟨blk_put (blk_drewN BK277.out _) 0 _ (by simp [e1 x a1_0 hnr0.1 hq0.1 hx])⟩, ⟨blk_far (blk_drewN BK278.out _) NB278_277.out _⟩, ⟨hJ.out _ _ _ hj1.out ((pw_below_drewN (Below.refl _ _) _).setCell GE277.out _)⟩⟩, by simp [intOf]⟩
      ·have hx1 : a1_0 ≤ x := by omega
       have hx2 : x ≤ a1_0 := by omega
       clear hx
       refine wpIn_wide.2 ?_
       go_wp2
       repeat (go_quiet (fail); go_wp2)
       exact ⟨⟨1, by omega, rfl, ⟨(blk_drewN BK277.out _).trans (by simp [← e3 x a1_0 (by omega) (by omega)])⟩, ⟨blk_drewN BK278.out _⟩, ⟨hJ.out _ _ _ hj1.out (pw_below_drewN (Below.refl _ _) _)⟩⟩, by simp [intOf]⟩
      ·refine wpIn_wide.2 ?_
       go_wp2
       repeat (go_quiet (fail); go_wp2)
       exact ⟨⟨1, by omega, rfl, ⟨blk_put (blk_drewN BK277.out _) 0 _ (by simp [e2 x a1_0 hnr0.1 hq0.1 hx])⟩, ⟨blk_far (blk_drewN BK278.out _) NB278_277.out _⟩, ⟨hJ.out _ _ _ hj1.out ((pw_below_drewN (Below.refl _ _) _).setCell GE277.out _)⟩⟩, by simp [intOf]⟩
     ·have d0 : _ = some (Value.int .i64 y) := ct BK277.out 1
      have f0 : _ = some (Value.int .i64 a1_1) := ct BK278.out 1
      have g0 := blk_frozen BK277.out 1
      rcases Int.lt_trichotomy y a1_1 with hx | hx | hx
      ·refine wpIn_wide.2 ?_
       go_wp2
       repeat (go_quiet (fail); go_wp2)
       exact ⟨⟨2, by omega, rfl, ⟨blk_put (blk_drewN BK277.out _) 1 _ (by simp [e1 y a1_1 hnr0.2.1 hq0.2.1 hx])⟩, ⟨blk_far (blk_drewN BK278.out _) NB278_277.out _⟩, ⟨hJ.out _ _ _ hj1.out ((pw_below_drewN (Below.refl _ _) _).setCell GE277.out _)⟩⟩, by simp [intOf]⟩
      ·have hx1 : a1_1 ≤ y := by omega
       have hx2 : y ≤ a1_1 := by omega
       clear hx
       refine wpIn_wide.2 ?_
       go_wp2
       repeat (go_quiet (fail); go_wp2)
       exact ⟨⟨2, by omega, rfl, ⟨(blk_drewN BK277.out _).trans (by simp [← e3 y a1_1 (by omega) (by omega)])⟩, ⟨blk_drewN BK278.out _⟩, ⟨hJ.out _ _ _ hj1.out (pw_below_drewN (Below.refl _ _) _)⟩⟩, by simp [intOf]⟩
      ·refine wpIn_wide.2 ?_
       go_wp2
       repeat (go_quiet (fail); go_wp2)
       exact ⟨⟨2, by omega, rfl, ⟨blk_put (blk_drewN BK277.out _) 1 _ (by simp [e2 y a1_1 hnr0.2.1 hq0.2.1 hx])⟩, ⟨blk_far (blk_drewN BK278.out _) NB278_277.out _⟩, ⟨hJ.out _ _ _ hj1.out ((pw_below_drewN (Below.refl _ _) _).setCell GE277.out _)⟩⟩, by simp [intOf]⟩
     ·have d0 : _ = some (Value.int .i64 z) := ct BK277.out 2
      have f0 : _ = some (Value.int .i64 a1_2) := ct BK278.out 2
      have g0 := blk_frozen BK277.out 2
      rcases Int.lt_trichotomy z a1_2 with hx | hx | hx
      ·refine wpIn_wide.2 ?_
       go_wp2
       repeat (go_quiet (fail); go_wp2)
       exact ⟨⟨3, by omega, rfl, ⟨blk_put (blk_drewN BK277.out _) 2 _ (by simp [e1 z a1_2 hnr0.2.2 hq0.2.2 hx])⟩, ⟨blk_far (blk_drewN BK278.out _) NB278_277.out _⟩, ⟨hJ.out _ _ _ hj1.out ((pw_below_drewN (Below.refl _ _) _).setCell GE277.out _)⟩⟩, by simp [intOf]⟩
      ·have hx1 : a1_2 ≤ z := by omega
       have hx2 : z ≤ a1_2 := by omega
       clear hx
       refine wpIn_wide.2 ?_
       go_wp2
       repeat (go_quiet (fail); go_wp2)
       exact ⟨⟨3, by omega, rfl, ⟨(blk_drewN BK277.out _).trans (by simp [← e3 z a1_2 (by omega) (by omega)])⟩, ⟨blk_drewN BK278.out _⟩, ⟨hJ.out _ _ _ hj1.out (pw_below_drewN (Below.refl _ _) _)⟩⟩, by simp [intOf]⟩
      ·refine wpIn_wide.2 ?_
       go_wp2
       repeat (go_quiet (fail); go_wp2)
       exact ⟨⟨3, by omega, rfl, ⟨blk_put (blk_drewN BK277.out _) 2 _ (by simp [e2 z a1_2 hnr0.2.2 hq0.2.2 hx])⟩, ⟨blk_far (blk_drewN BK278.out _) NB278_277.out _⟩, ⟨hJ.out _ _ _ hj1.out ((pw_below_drewN (Below.refl _ _) _).setCell GE277.out _)⟩⟩, by simp [intOf]⟩
     ·gi_wp2
      refine ⟨⟨pre ++ [⟨x, y, z⟩], tw x a1_0, tw y a1_1, tw z a1_2, m - 1, ?_, ⟨near_tw hnr0.1 hq0.1, near_tw hnr0.2.1 hq0.2.1, near_tw hnr0.2.2 hq0.2.2⟩, ?_, BK277, BK278, hj1⟩, ?_⟩
      ·rw [← he.out]
       have hm0 := hm.out
       cases m with
       | zero =>
        exact absurd (by dsimp only [distS, dist] at hm0; exact ⟨by omega, by omega, by omega⟩) hne.out
       | succ m => simp [wayL, hne.out, twS]
      ·have hm0 := hm.out
       have hne0 := hne.out
       dsimp only [distS] at hm0 ⊢
       simp only [tw_dist]
       dsimp only [dist] at hm0 ⊢
       omega
      ·have d0 : _ = some (Value.int .i64 (tw x a1_0)) := ct BK277.out 0
       have d1 : _ = some (Value.int .i64 (tw y a1_1)) := ct BK277.out 1
       have d2 : _ = some (Value.int .i64 (tw z a1_2)) := ct BK277.out 2
       have f0 : _ = some (Value.int .i64 a1_0) := ct BK278.out 0
       have f1 : _ = some (Value.int .i64 a1_1) := ct BK278.out 1
       have f2 : _ = some (Value.int .i64 a1_2) := ct BK278.out 2
       have hne0 := hne.out
       unfold distW
       rw [cellInt_of d0, cellInt_of d1, cellInt_of d2, cellInt_of f0, cellInt_of f1, cellInt_of f2, z0.out, z1.out, z2.out, z3.out, z4.out, z5.out, tw_dist, tw_dist, tw_dist]
       unfold dist
       omega
  ·clear hR hy c0 c1 c2 hj hb
   gi_wp2
   go_end0
   exact ⟨⟨_, rfl⟩, .inr ⟨_, hpre.out, hjx1⟩⟩
end Go.Proofs.YtolbjmaabghghaaGreatDoor.PA
