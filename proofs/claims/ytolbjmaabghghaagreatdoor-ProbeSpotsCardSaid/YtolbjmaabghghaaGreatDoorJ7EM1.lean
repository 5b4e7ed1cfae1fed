/- A part of the proof. -/
import Derived.Test.YtolbjmaabghghaaGreatDoorJ7EWay3
import Derived.Test.YtolbjmaabghghaaGreatDoorJ7PAx5
import Derived.Test.YtolbjmaabghghaaGreatDoorJ7PAx14
import Derived.Test.YtolbjmaabghghaaGreatDoorJ7EBs
import Derived.Test.YtolbjmaabghghaaGreatDoorJ7EIns
import Derived.StillTailTactics
namespace Go.Proofs.YtolbjmaabghghaaGreatDoor.PA
open Go.RowKit Go.PW Go.PL Go.PM
attribute [local go_sem] Oper.semAt_some
set_option linter.unusedVariables false
set_option linter.unusedSimpArgs false
theorem farm {w : World} {g b o : Nat} {t : TypeId} {cs : Array Value} {u : Value} (h : w.heap[g]? = some (.cells cs t (0, 0))) (hne : g ≠ b) : (w.setCell ⟨b, o, none⟩ u).heap[g]? = some (.cells cs t (0, 0)) := blk_far h hne u
def straightS (p q : S23) : Option Bool := probe_straight.f 9 p.f0 p.f1 p.f2 q.f0 q.f1 q.f2
def givenS (s0 s1 s2 s3 s4 s5 : Int) (l : List S84) (p : S23) : Option Int := probe_given.f 60 s0 s1 s2 s3 s4 s5 l [p]
def openS (s0 s1 s2 s3 s4 s5 : Int) (l : List S84) (p q : S23) : Option Bool := probe_Solid_open.f s0 s1 s2 s3 s4 s5 l p.f0 p.f1 p.f2 q.f0 q.f1 q.f2
def touchedS (s0 s1 s2 s3 s4 s5 : Int) (l : List S84) (p : S23) (d : Int) : Option (Int × Int × Int × Int × Int × Int × Bool) := probe_Solid_touched.f s0 s1 s2 s3 s4 s5 l p.f0 p.f1 p.f2 d
def moveF (s0 s1 s2 s3 s4 s5 : Int) (l : List S84) (q p : S23) (nt : List S23) (sm : List S76) : Option (Int × S23 × List S23 × List S76) :=
 (straightS p q).bind fun s => if s = true then (openS s0 s1 s2 s3 s4 s5 l p q).bind fun b => if b = true then some (0, q, nt, sm) else some (14, p, nt, sm) else some (3, p, nt, sm)
def touchF (s0 s1 s2 s3 s4 s5 : Int) (l : List S84) (d : Int) (p : S23) (nt : List S23) (sm : List S76) : Option (Int × S23 × List S23 × List S76) :=
 (touchedS s0 s1 s2 s3 s4 s5 l p d).bind fun t => if t.2.2.2.2.2.2 = true then (if nt.length = 64 then some (5, p, nt, sm) else some (0, ⟨t.2.2.2.1, t.2.2.2.2.1, t.2.2.2.2.2.1⟩, nt ++ [⟨t.1, t.2.1, t.2.2.1⟩], sm)) else some (6, p, nt, sm)
def takeF (s : ByteArray) (p : S23) (nt : List S23) (sm : List S76) : Option (Int × S23 × List S23 × List S76) :=
 if nt = [] then some (13, p, nt, sm) else if sm.length ≤ 8192 then (if bsOk sm s = true then some (7, p, nt, sm) else some (0, p, [], sm.take (bsI sm s) ++ ⟨s, nt⟩ :: sm.drop (bsI sm s))) else none
def doF (s0 s1 s2 s3 s4 s5 : Int) (l : List S84) (x : S47) (p : S23) (nt : List S23) (sm : List S76) : Option (Int × S23 × List S23 × List S76) :=
 if x.f0 = 0 then moveF s0 s1 s2 s3 s4 s5 l x.f1 p nt sm else if x.f0 = 1 then touchF s0 s1 s2 s3 s4 s5 l x.f2 p nt sm else takeF x.f3 p nt sm
def MAt (gm : Nat) (s0 s1 s2 s3 s4 s5 : Int) (A : Option Addr) (n c : Nat) (w : World) (p : S23) (nt : List S23) (sm : List S76) : Prop :=
 ∃ (vn vs : Value) (N0 : Nat), gm < N0 ∧ N0 ≤ w.heap.size ∧ nt.length ≤ 64 ∧
  w.heap[gm]? = some (.cells #[.int .i64 s0, .int .i64 s1, .int .i64 s2, .int .i64 s3, .int .i64 s4, .int .i64 s5, .slice A n c, .int .i64 p.f0, .int .i64 p.f1, .int .i64 p.f2, vn, vs] 118 (0, 0)) ∧
  Kd.R k23 23 w gm (fun k => N0 ≤ k) vn nt ∧ Kd.R k76 76 w gm (fun k => gm < k ∧ k < N0) vs sm ∧ True
theorem MAt.below {gm : Nat} {s0 s1 s2 s3 s4 s5 : Int} {A : Option Addr} {n c : Nat} {w w' : World} {p : S23} {nt : List S23} {sm : List S76} (h : MAt gm s0 s1 s2 s3 s4 s5 A n c w p nt sm) (hb : Below w.heap.size w w') : MAt gm s0 s1 s2 s3 s4 s5 A n c w' p nt sm := by
 obtain ⟨vn, vs, N0, h1, h2, h3, h4, h5, h6, h7⟩ := h
 exact ⟨vn, vs, N0, h1, Nat.le_trans h2 hb.size, h3, blk_below h4 hb, Kd.R_below h5 hb, Kd.R_below h6 hb, h7⟩
def DoPost (gm : Nat) (s0 s1 s2 s3 s4 s5 : Int) (A : Option Addr) (n c : Nat) (w : World) (r : Int) (p : S23) (nt : List S23) (sm : List S76) (e : Ending) (w' : World) : Prop :=
 e = .returned (.int .i64 r) ∧ Below gm w w' ∧ (r = 0 → MAt gm s0 s1 s2 s3 s4 s5 A n c w' p nt sm)
def moveM.T1 : Bool × List (List Nat × List Nat) := (true, [([], []), ([0], [0]), ([1], [1]), ([2], [2]), ([], []), ([3, 4], [3, 4]), ([5], [5]), ([6, 5], [6])])
def moveM.B1 : List Nat := [0, 1, 3, 7, 0, 31, 63, 127]
theorem moveM.tab1 : rtab .any (opsOf Tryz.f83 1) = moveM.T1 := by kernel_rfl
theorem moveM.bits1 : waitsOk moveM.T1.2 moveM.B1 = true := by kernel_rfl
def moveM.T3 : Bool × List (List Nat × List Nat) := (true, [([], []), ([0], [0]), ([1], [1]), ([2], [2]), ([], []), ([4], [4]), ([5], [5]), ([6], [6]), ([], []), ([3, 7, 8], [3, 7, 8]), ([9], [9]), ([10, 9], [10])])
def moveM.B3 : List Nat := [0, 1, 3, 7, 0, 16, 48, 112, 0, 511, 1023, 2047]
theorem moveM.tab3 : rtab .any (opsOf Tryz.f83 3) = moveM.T3 := by kernel_rfl
theorem moveM.bits3 : waitsOk moveM.T3.2 moveM.B3 = true := by kernel_rfl
set_option maxHeartbeats 8000000 in
set_option maxRecDepth 100000 in
theorem move_calls (gm : Nat) (s0 s1 s2 s3 s4 s5 : Int) (A : Option Addr) (c : Nat) (l : List S84) (p q p' : S23) (nt nt' : List S23) (sm sm' : List S76) (r : Int) (w : World) (hr : Kd.C k84 w A l.length l) (hc : l.length ≤ c)
  (hM : MAt gm s0 s1 s2 s3 s4 s5 A l.length c w p nt sm) (h : moveF s0 s1 s2 s3 s4 s5 l q p nt sm = some (r, p', nt', sm')) :
  Calls Tryz.prog 83 #[.pointer (some ⟨gm, 0, none⟩), .agg #[.int .i64 q.f0, .int .i64 q.f1, .int .i64 q.f2]] w (DoPost gm s0 s1 s2 s3 s4 s5 A l.length c w r p' nt' sm') := by
 unfold moveF at h
 obtain ⟨st, hst, h⟩ := Option.bind_eq_some_iff.1 h
 have HM := mk0 hM
 obtain ⟨vn, vs, N0, h1, h2, h3, h4, h5, h6, h7⟩ := hM
 have HLT : Aside0 (gm < w.heap.size) := ⟨blk_lt h4⟩
 have HST := mk0 hst
 have H4 := mk0 h4
 have H5 := mk0 h5
 have H6 := mk0 h6
 have H7 := mk0 h7
 have HN0 := mk0 h1
 have HN1 := mk0 h2
 have HL := mk0 h3
 have HR := mk0 hr
 have HC := mk0 hc
 have HH := mk0 h
 clear h4 h5 h6 h7 h1 h2 h3 hst hr hc h
 have hu23 := Tryz.underlying23
 have hu26 := Tryz.underlying26
 have hu118 := Tryz.underlying118
 go_enter Tryz.func83, Tryz.ntmps83
 try go_wp2_with ((with_reducible refine gate_dst (N := 3) rfl ?_); refine box_event ?hg (N := 3) ?hd (cs := #[.int .i64 q.f0, .int .i64 q.f1, .int .i64 q.f2]) (t := 23) ?hr ?_; (case hd => rfl); (case hg => rfl); (case hr => first | (go_simp; done) | (go_simp; rfl)); intro g3 hg W hbox hb; have BX := mk0 hbox; have HW := mk0 hb; clear hg hbox hb)
 have B := mk0 (below_drew1 HW.out)
 have P := mk0 (below_drew1 (Below.refl W.heap.size W))
 refine start_ (n := 8) (S := fun w' => True) (ds := []) #[false, false, false, false, false, false, false, false] (by kernel_rfl) rfl rfl trivial (fun hHeld => ?_); refine with_tabW moveM.tab1 moveM.bits1 (fun HT_ HW_ => ?_)
 generalize W.drew = wd at B P hHeld ⊢
 refine pure_ (i := 0) (N := some 6) (v := ?_) (a' := ?_) #[true, false, false, false, false, false, false, false] rfl rfl (any_of HT_.out (by kernel_rfl)) (fun _ _ _ h => h) (Or.inl ⟨by rfl, ?_⟩) ?_ ?_
 rotate_left
 ·intro w'
  go_simp
  with_reducible rfl
 rotate_left
 ·simp only [Act.put, List.setIfInBounds_toArray, List.set_cons_zero, List.set_cons_succ, i64_w, i32_w]
  rfl
 refine inv_at [1, 2, 3, 4, 5, 6, 7] (fun a0_ b a w' => a = putSel a0_ b [(1, 7, .pointer (some ⟨gm, 0, none⟩)), (2, 8, .pointer (some ⟨gm, 7, none⟩)), (3, 9, .agg #[.int .i64 p.f0, .int .i64 p.f1, .int .i64 p.f2]), (4, 10, .agg #[.int .i64 q.f0, .int .i64 q.f1, .int .i64 q.f2]), (5, 11, .bool st), (6, 12, .bool (!st)), (7, 5, .bool (!st))] ∧ (Below w.heap.size w w') ∧ (Below W.heap.size W w')) HT_.out HW_.out (by kernel_rfl) (by kernel_rfl) ?_ ?_ ?_
 ·exact ⟨by simp only [putSel, Bool.false_eq_true, if_false], B.out, P.out⟩
 ·skip
  clear B P
  refine steps_cons ?_ ?_
  ·rintro b a w' ⟨ha, Q_B, Q_P⟩ hb_ hon hoff
   refine ⟨_, rfl, fun K hK => ?_⟩
   have e6 : a.tmps[6]? = some (.pointer (some ⟨gm, 0, none⟩)) := by rw [ha]; exact (putSel_off rfl).trans rfl
   replace ha := mk0 ha
   have B := mk0 Q_B
   have P := mk0 Q_P
   refine value_ (w1 := w') (v := .pointer (some ⟨gm, 0, none⟩)) (by rfl) rfl ?_ ?_
   ·go_simp
    (try simp only [i64_w])
    try rfl
   refine hK.out _ _ ⟨(by rw [ha.out]; exact putSel_upk 0 hb_ rfl rfl rfl), Q_B, Q_P⟩
  refine steps_cons ?_ ?_
  ·rintro b a w' ⟨ha, Q_B, Q_P⟩ hb_ hon hoff
   refine ⟨_, rfl, fun K hK => ?_⟩
   have e7 : a.tmps[7]? = some (.pointer (some ⟨gm, 0, none⟩)) := by rw [ha]; exact putSel_on (e := (1, 7, .pointer (some ⟨gm, 0, none⟩))) 0 rfl rfl (hon 1 (by kernel_rfl)) rfl
   replace ha := mk0 ha
   have B := mk0 Q_B
   have P := mk0 Q_P
   refine value_ (w1 := w') (v := .pointer (some ⟨gm, 7, none⟩)) (by rfl) rfl ?_ ?_
   ·go_simp
    (try simp only [i64_w])
    try rfl
   refine hK.out _ _ ⟨(by rw [ha.out]; exact putSel_upk 1 hb_ rfl rfl rfl), Q_B, Q_P⟩
  refine steps_cons ?_ ?_
  ·rintro b a w' ⟨ha, Q_B, Q_P⟩ hb_ hon hoff
   refine ⟨_, rfl, fun K hK => ?_⟩
   have e8 : a.tmps[8]? = some (.pointer (some ⟨gm, 7, none⟩)) := by rw [ha]; exact putSel_on (e := (2, 8, .pointer (some ⟨gm, 7, none⟩))) 1 rfl rfl (hon 2 (by kernel_rfl)) rfl
   replace ha := mk0 ha
   have B := mk0 Q_B
   have P := mk0 Q_P
   have hc7_ : w'.cell? ⟨gm, 7, none⟩ = some (.int .i64 p.f0) := (blk_cell (blk_below H4.out B.out) 7).trans rfl
   have hc8_ : w'.cell? ⟨gm, 8, none⟩ = some (.int .i64 p.f1) := (blk_cell (blk_below H4.out B.out) 8).trans rfl
   have hc9_ : w'.cell? ⟨gm, 9, none⟩ = some (.int .i64 p.f2) := (blk_cell (blk_below H4.out B.out) 9).trans rfl
   refine value_ (w1 := w') (v := .agg #[.int .i64 p.f0, .int .i64 p.f1, .int .i64 p.f2]) (by rfl) rfl ?_ ?_
   ·go_simp
    (try simp only [i64_w])
    try rfl
   refine hK.out _ _ ⟨(by rw [ha.out]; exact putSel_upk 2 hb_ rfl rfl rfl), Q_B, Q_P⟩
  refine steps_cons ?_ ?_
  ·rintro b a w' ⟨ha, Q_B, Q_P⟩ hb_ hon hoff
   refine ⟨_, rfl, fun K hK => ?_⟩
   have e3 : a.tmps[3]? = some (.pointer (some ⟨g3, 0, none⟩)) := by rw [ha]; exact (putSel_off rfl).trans rfl
   replace ha := mk0 ha
   have B := mk0 Q_B
   have P := mk0 Q_P
   have hb0_ : w'.cell? ⟨g3, 0, none⟩ = some (.int .i64 q.f0) := (blk_cell (blk_below BX.out P.out) 0).trans rfl
   have hb1_ : w'.cell? ⟨g3, 1, none⟩ = some (.int .i64 q.f1) := (blk_cell (blk_below BX.out P.out) 1).trans rfl
   have hb2_ : w'.cell? ⟨g3, 2, none⟩ = some (.int .i64 q.f2) := (blk_cell (blk_below BX.out P.out) 2).trans rfl
   refine value_ (w1 := w') (v := .agg #[.int .i64 q.f0, .int .i64 q.f1, .int .i64 q.f2]) (by rfl) rfl ?_ ?_
   ·go_simp
    (try simp only [i64_w])
    try rfl
   refine hK.out _ _ ⟨(by rw [ha.out]; exact putSel_upk 3 hb_ rfl rfl rfl), Q_B, Q_P⟩
  refine steps_cons ?_ ?_
  ·rintro b a w' ⟨ha, Q_B, Q_P⟩ hb_ hon hoff
   refine ⟨_, rfl, fun K hK => ?_⟩
   have e9 : a.tmps[9]? = some (.agg #[.int .i64 p.f0, .int .i64 p.f1, .int .i64 p.f2]) := by rw [ha]; exact putSel_on (e := (3, 9, .agg #[.int .i64 p.f0, .int .i64 p.f1, .int .i64 p.f2])) 2 rfl rfl (hon 3 (by kernel_rfl)) rfl
   have e10 : a.tmps[10]? = some (.agg #[.int .i64 q.f0, .int .i64 q.f1, .int .i64 q.f2]) := by rw [ha]; exact putSel_on (e := (4, 10, .agg #[.int .i64 q.f0, .int .i64 q.f1, .int .i64 q.f2])) 3 rfl rfl (hon 4 (by kernel_rfl)) rfl
   replace ha := mk0 ha
   have B := mk0 Q_B
   have P := mk0 Q_P
   refine goes_ Tryz.func60 (by kernel_rfl) rfl #[.agg #[.int .i64 p.f0, .int .i64 p.f1, .int .i64 p.f2], .agg #[.int .i64 q.f0, .int .i64 q.f1, .int .i64 q.f2]] (by rfl) rfl rfl (by first | (simp only [List.map_toArray, List.map_cons, List.map_nil, Act.eval, Array.getD_eq_getD_getElem?, Option.getD_some, e9, e10]; done) | (simp only [List.map_toArray, List.map_cons, List.map_nil, Act.eval, Array.getD_eq_getD_getElem?, Option.getD_some, e9, e10]; rfl)) ?_
   refine (probe_straight.calls 9 p.f0 p.f1 p.f2 q.f0 q.f1 q.f2 st _ HST.out).mono ?_
   rintro e w8 ⟨rfl, hb⟩
   refine ⟨_, rfl, ?_⟩
   refine hK.out _ _ ⟨(by rw [ha.out]; exact putSel_upk 4 hb_ rfl rfl rfl), below_step B.out hb, below_step P.out hb⟩
  refine steps_cons ?_ ?_
  ·rintro b a w' ⟨ha, Q_B, Q_P⟩ hb_ hon hoff
   refine ⟨_, rfl, fun K hK => ?_⟩
   have e11 : a.tmps[11]? = some (.bool st) := by rw [ha]; exact putSel_on (e := (5, 11, .bool st)) 4 rfl rfl (hon 5 (by kernel_rfl)) rfl
   replace ha := mk0 ha
   have B := mk0 Q_B
   have P := mk0 Q_P
   refine value_ (w1 := w') (v := .bool (!st)) (by rfl) rfl ?_ ?_
   ·go_simp
    (try simp only [i64_w])
    try rfl
   refine hK.out _ _ ⟨(by rw [ha.out]; exact putSel_upk 5 hb_ rfl rfl rfl), Q_B, Q_P⟩
  refine steps_cons ?_ ?_
  ·rintro b a w' ⟨ha, Q_B, Q_P⟩ hb_ hon hoff
   refine ⟨_, rfl, fun K hK => ?_⟩
   have e12 : a.tmps[12]? = some (.bool (!st)) := by rw [ha]; exact putSel_on (e := (6, 12, .bool (!st))) 5 rfl rfl (hon 6 (by kernel_rfl)) rfl
   replace ha := mk0 ha
   have B := mk0 Q_B
   have P := mk0 Q_P
   refine value_ (w1 := w') (v := .bool (!st)) (by rfl) rfl ?_ ?_
   ·go_simp
    (try simp only [i64_w])
    try rfl
   refine hK.out _ _ ⟨(by rw [ha.out]; exact putSel_upk 6 hb_ rfl rfl rfl), Q_B, Q_P⟩
  exact steps_nil
 rintro b a W2 hall ⟨ha, Q_B, Q_P⟩
 clear B P
 have hb1_ := hall 1 (by kernel_rfl)
 have hb2_ := hall 2 (by kernel_rfl)
 have hb3_ := hall 3 (by kernel_rfl)
 have hb4_ := hall 4 (by kernel_rfl)
 have hb5_ := hall 5 (by kernel_rfl)
 have hb6_ := hall 6 (by kernel_rfl)
 have hb7_ := hall 7 (by kernel_rfl)
 subst ha
 simp only [putSel, hb1_, hb2_, hb3_, hb4_, hb5_, hb6_, hb7_, if_true, Act.put, List.setIfInBounds_toArray, List.set_cons_zero, List.set_cons_succ]
 have B := mk0 Q_B
 clear Q_B
 have P := mk0 Q_P
 clear Q_P
 clear hall hb1_ hb2_ hb3_ hb4_ hb5_ hb6_ hb7_
 have BX2 := mk0 (blk_below BX.out P.out)
 cases st
 ·have h := HH.out
  simp only [Bool.false_eq_true, if_false, Option.some.injEq, Prod.mk.injEq] at h
  obtain ⟨rfl, rfl, rfl, rfl⟩ := h
  clear HH
  go_wp2
  go_ret
  exact ⟨rfl, B.out.mono (Nat.le_of_lt HLT.out), fun h => absurd h (by decide)⟩
 ·have h := HH.out
  simp only [if_true] at h
  obtain ⟨op, hop, h⟩ := Option.bind_eq_some_iff.1 h
  have HOP := mk0 hop
  have HH := mk0 h
  clear h hop
  try go_wp2
  clear P
  have B0 := B
  clear B
  have B := mk0 (below_drew1 B0.out)
  have P := mk0 (below_drew1 (Below.refl W2.heap.size W2))
  clear B0
  refine start_ (n := 12) (S := fun w' => True) (ds := []) #[false, false, false, false, false, false, false, false, false, false, false, false] (by kernel_rfl) rfl rfl trivial (fun hHeld => ?_); refine with_tabW moveM.tab3 moveM.bits3 (fun HT_ HW_ => ?_)
  generalize W2.drew = wd at B P hHeld ⊢
  refine pure_ (i := 0) (N := some 14) (v := ?_) (a' := ?_) #[true, false, false, false, false, false, false, false, false, false, false, false] rfl rfl (any_of HT_.out (by kernel_rfl)) (fun _ _ _ h => h) (Or.inl ⟨by rfl, ?_⟩) ?_ ?_
  rotate_left
  ·intro w'
   go_simp
   with_reducible rfl
  rotate_left
  ·simp only [Act.put, List.setIfInBounds_toArray, List.set_cons_zero, List.set_cons_succ, i64_w, i32_w]
   rfl
  refine pure_ (i := 4) (N := some 18) (v := ?_) (a' := ?_) #[true, false, false, false, true, false, false, false, false, false, false, false] rfl rfl (any_of HT_.out (by kernel_rfl)) (fun _ _ _ h => h) (Or.inl ⟨by rfl, ?_⟩) ?_ ?_
  rotate_left
  ·intro w'
   go_simp
   with_reducible rfl
  rotate_left
  ·simp only [Act.put, List.setIfInBounds_toArray, List.set_cons_zero, List.set_cons_succ, i64_w, i32_w]
   rfl
  refine inv_at [1, 2, 3, 5, 6, 7, 8, 9, 10, 11] (fun a0_ b a w' => a = putSel a0_ b [(1, 15, .pointer (some ⟨gm, 0, none⟩)), (2, 16, .pointer (some ⟨gm, 0, none⟩)), (3, 17, .agg #[.int .i64 s0, .int .i64 s1, .int .i64 s2, .int .i64 s3, .int .i64 s4, .int .i64 s5, .slice A l.length c]), (5, 19, .pointer (some ⟨gm, 0, none⟩)), (6, 20, .pointer (some ⟨gm, 7, none⟩)), (7, 21, .agg #[.int .i64 p.f0, .int .i64 p.f1, .int .i64 p.f2]), (8, 22, .agg #[.int .i64 q.f0, .int .i64 q.f1, .int .i64 q.f2]), (9, 23, .bool op), (10, 24, .bool (!op)), (11, 13, .bool (!op))] ∧ (Below w.heap.size w w') ∧ (Below W2.heap.size W2 w')) HT_.out HW_.out (by kernel_rfl) (by kernel_rfl) ?_ ?_ ?_
  ·exact ⟨by simp only [putSel, Bool.false_eq_true, if_false], B.out, P.out⟩
  ·skip
   clear B P
   refine steps_cons ?_ ?_
   ·rintro b a w' ⟨ha, Q_B, Q_P⟩ hb_ hon hoff
    refine ⟨_, rfl, fun K hK => ?_⟩
    have e14 : a.tmps[14]? = some (.pointer (some ⟨gm, 0, none⟩)) := by rw [ha]; exact (putSel_off rfl).trans rfl
    replace ha := mk0 ha
    have B := mk0 Q_B
    have P := mk0 Q_P
    refine value_ (w1 := w') (v := .pointer (some ⟨gm, 0, none⟩)) (by rfl) rfl ?_ ?_
    ·go_simp
     (try simp only [i64_w])
     try rfl
    refine hK.out _ _ ⟨(by rw [ha.out]; exact putSel_upk 0 hb_ rfl rfl rfl), Q_B, Q_P⟩
   refine steps_cons ?_ ?_
   ·rintro b a w' ⟨ha, Q_B, Q_P⟩ hb_ hon hoff
    refine ⟨_, rfl, fun K hK => ?_⟩
    have e15 : a.tmps[15]? = some (.pointer (some ⟨gm, 0, none⟩)) := by rw [ha]; exact putSel_on (e := (1, 15, .pointer (some ⟨gm, 0, none⟩))) 0 rfl rfl (hon 1 (by kernel_rfl)) rfl
    replace ha := mk0 ha
    have B := mk0 Q_B
    have P := mk0 Q_P
    refine value_ (w1 := w') (v := .pointer (some ⟨gm, 0, none⟩)) (by rfl) rfl ?_ ?_
    ·go_simp
     (try simp only [i64_w])
     try rfl
    refine hK.out _ _ ⟨(by rw [ha.out]; exact putSel_upk 1 hb_ rfl rfl rfl), Q_B, Q_P⟩
   refine steps_cons ?_ ?_
   ·rintro b a w' ⟨ha, Q_B, Q_P⟩ hb_ hon hoff
    refine ⟨_, rfl, fun K hK => ?_⟩
    have e16 : a.tmps[16]? = some (.pointer (some ⟨gm, 0, none⟩)) := by rw [ha]; exact putSel_on (e := (2, 16, .pointer (some ⟨gm, 0, none⟩))) 1 rfl rfl (hon 2 (by kernel_rfl)) rfl
    replace ha := mk0 ha
    have B := mk0 Q_B
    have P := mk0 Q_P
    have hc0_ : w'.cell? ⟨gm, 0, none⟩ = some (.int .i64 s0) := (blk_cell (blk_below H4.out B.out) 0).trans rfl
    have hc1_ : w'.cell? ⟨gm, 1, none⟩ = some (.int .i64 s1) := (blk_cell (blk_below H4.out B.out) 1).trans rfl
    have hc2_ : w'.cell? ⟨gm, 2, none⟩ = some (.int .i64 s2) := (blk_cell (blk_below H4.out B.out) 2).trans rfl
    have hc3_ : w'.cell? ⟨gm, 3, none⟩ = some (.int .i64 s3) := (blk_cell (blk_below H4.out B.out) 3).trans rfl
    have hc4_ : w'.cell? ⟨gm, 4, none⟩ = some (.int .i64 s4) := (blk_cell (blk_below H4.out B.out) 4).trans rfl
    have hc5_ : w'.cell? ⟨gm, 5, none⟩ = some (.int .i64 s5) := (blk_cell (blk_below H4.out B.out) 5).trans rfl
    have hc6_ : w'.cell? ⟨gm, 6, none⟩ = some (.slice A l.length c) := (blk_cell (blk_below H4.out B.out) 6).trans rfl
    refine value_ (w1 := w') (v := .agg #[.int .i64 s0, .int .i64 s1, .int .i64 s2, .int .i64 s3, .int .i64 s4, .int .i64 s5, .slice A l.length c]) (by rfl) rfl ?_ ?_
    ·go_simp
     (try simp only [i64_w])
     try rfl
    refine hK.out _ _ ⟨(by rw [ha.out]; exact putSel_upk 2 hb_ rfl rfl rfl), Q_B, Q_P⟩
   refine steps_cons ?_ ?_
   ·rintro b a w' ⟨ha, Q_B, Q_P⟩ hb_ hon hoff
    refine ⟨_, rfl, fun K hK => ?_⟩
    have e18 : a.tmps[18]? = some (.pointer (some ⟨gm, 0, none⟩)) := by rw [ha]; exact (putSel_off rfl).trans rfl
    replace ha := mk0 ha
    have B := mk0 Q_B
    have P := mk0 Q_P
    refine value_ (w1 := w') (v := .pointer (some ⟨gm, 0, none⟩)) (by rfl) rfl ?_ ?_
    ·go_simp
     (try simp only [i64_w])
     try rfl
    refine hK.out _ _ ⟨(by rw [ha.out]; exact putSel_upk 3 hb_ rfl rfl rfl), Q_B, Q_P⟩
   refine steps_cons ?_ ?_
   ·rintro b a w' ⟨ha, Q_B, Q_P⟩ hb_ hon hoff
    refine ⟨_, rfl, fun K hK => ?_⟩
    have e19 : a.tmps[19]? = some (.pointer (some ⟨gm, 0, none⟩)) := by rw [ha]; exact putSel_on (e := (5, 19, .pointer (some ⟨gm, 0, none⟩))) 3 rfl rfl (hon 5 (by kernel_rfl)) rfl
    replace ha := mk0 ha
    have B := mk0 Q_B
    have P := mk0 Q_P
    refine value_ (w1 := w') (v := .pointer (some ⟨gm, 7, none⟩)) (by rfl) rfl ?_ ?_
    ·go_simp
     (try simp only [i64_w])
     try rfl
    refine hK.out _ _ ⟨(by rw [ha.out]; exact putSel_upk 4 hb_ rfl rfl rfl), Q_B, Q_P⟩
   refine steps_cons ?_ ?_
   ·rintro b a w' ⟨ha, Q_B, Q_P⟩ hb_ hon hoff
    refine ⟨_, rfl, fun K hK => ?_⟩
    have e20 : a.tmps[20]? = some (.pointer (some ⟨gm, 7, none⟩)) := by rw [ha]; exact putSel_on (e := (6, 20, .pointer (some ⟨gm, 7, none⟩))) 4 rfl rfl (hon 6 (by kernel_rfl)) rfl
    replace ha := mk0 ha
    have B := mk0 Q_B
    have P := mk0 Q_P
    have hc7_ : w'.cell? ⟨gm, 7, none⟩ = some (.int .i64 p.f0) := (blk_cell (blk_below H4.out B.out) 7).trans rfl
    have hc8_ : w'.cell? ⟨gm, 8, none⟩ = some (.int .i64 p.f1) := (blk_cell (blk_below H4.out B.out) 8).trans rfl
    have hc9_ : w'.cell? ⟨gm, 9, none⟩ = some (.int .i64 p.f2) := (blk_cell (blk_below H4.out B.out) 9).trans rfl
    refine value_ (w1 := w') (v := .agg #[.int .i64 p.f0, .int .i64 p.f1, .int .i64 p.f2]) (by rfl) rfl ?_ ?_
    ·go_simp
     (try simp only [i64_w])
     try rfl
    refine hK.out _ _ ⟨(by rw [ha.out]; exact putSel_upk 5 hb_ rfl rfl rfl), Q_B, Q_P⟩
   refine steps_cons ?_ ?_
   ·rintro b a w' ⟨ha, Q_B, Q_P⟩ hb_ hon hoff
    refine ⟨_, rfl, fun K hK => ?_⟩
    have e3 : a.tmps[3]? = some (.pointer (some ⟨g3, 0, none⟩)) := by rw [ha]; exact (putSel_off rfl).trans rfl
    replace ha := mk0 ha
    have B := mk0 Q_B
    have P := mk0 Q_P
    have hb0_ : w'.cell? ⟨g3, 0, none⟩ = some (.int .i64 q.f0) := (blk_cell (blk_below BX2.out P.out) 0).trans rfl
    have hb1_ : w'.cell? ⟨g3, 1, none⟩ = some (.int .i64 q.f1) := (blk_cell (blk_below BX2.out P.out) 1).trans rfl
    have hb2_ : w'.cell? ⟨g3, 2, none⟩ = some (.int .i64 q.f2) := (blk_cell (blk_below BX2.out P.out) 2).trans rfl
    refine value_ (w1 := w') (v := .agg #[.int .i64 q.f0, .int .i64 q.f1, .int .i64 q.f2]) (by rfl) rfl ?_ ?_
    ·go_simp
     (try simp only [i64_w])
     try rfl
    refine hK.out _ _ ⟨(by rw [ha.out]; exact putSel_upk 6 hb_ rfl rfl rfl), Q_B, Q_P⟩
   refine steps_cons ?_ ?_
   ·rintro b a w' ⟨ha, Q_B, Q_P⟩ hb_ hon hoff
    refine ⟨_, rfl, fun K hK => ?_⟩
    have e17 : a.tmps[17]? = some (.agg #[.int .i64 s0, .int .i64 s1, .int .i64 s2, .int .i64 s3, .int .i64 s4, .int .i64 s5, .slice A l.length c]) := by rw [ha]; exact putSel_on (e := (3, 17, .agg #[.int .i64 s0, .int .i64 s1, .int .i64 s2, .int .i64 s3, .int .i64 s4, .int .i64 s5, .slice A l.length c])) 2 rfl rfl (hon 3 (by kernel_rfl)) rfl
    have e21 : a.tmps[21]? = some (.agg #[.int .i64 p.f0, .int .i64 p.f1, .int .i64 p.f2]) := by rw [ha]; exact putSel_on (e := (7, 21, .agg #[.int .i64 p.f0, .int .i64 p.f1, .int .i64 p.f2])) 5 rfl rfl (hon 7 (by kernel_rfl)) rfl
    have e22 : a.tmps[22]? = some (.agg #[.int .i64 q.f0, .int .i64 q.f1, .int .i64 q.f2]) := by rw [ha]; exact putSel_on (e := (8, 22, .agg #[.int .i64 q.f0, .int .i64 q.f1, .int .i64 q.f2])) 6 rfl rfl (hon 8 (by kernel_rfl)) rfl
    replace ha := mk0 ha
    have B := mk0 Q_B
    have P := mk0 Q_P
    refine goes_ Tryz.func61 (by kernel_rfl) rfl #[.agg #[.int .i64 s0, .int .i64 s1, .int .i64 s2, .int .i64 s3, .int .i64 s4, .int .i64 s5, .slice A l.length c], .agg #[.int .i64 p.f0, .int .i64 p.f1, .int .i64 p.f2], .agg #[.int .i64 q.f0, .int .i64 q.f1, .int .i64 q.f2]] (by rfl) rfl rfl (by first | (simp only [List.map_toArray, List.map_cons, List.map_nil, Act.eval, Array.getD_eq_getD_getElem?, Option.getD_some, e17, e21, e22]; done) | (simp only [List.map_toArray, List.map_cons, List.map_nil, Act.eval, Array.getD_eq_getD_getElem?, Option.getD_some, e17, e21, e22]; rfl)) ?_
    refine (probe_Solid_open.calls s0 s1 s2 s3 s4 s5 A c l p.f0 p.f1 p.f2 q.f0 q.f1 q.f2 op _ (Kd.C_below HR.out B.out) HC.out HOP.out).mono ?_
    rintro e w8 ⟨rfl, hb⟩
    refine ⟨_, rfl, ?_⟩
    refine hK.out _ _ ⟨(by rw [ha.out]; exact putSel_upk 7 hb_ rfl rfl rfl), below_step B.out hb, below_step P.out hb⟩
   refine steps_cons ?_ ?_
   ·rintro b a w' ⟨ha, Q_B, Q_P⟩ hb_ hon hoff
    refine ⟨_, rfl, fun K hK => ?_⟩
    have e23 : a.tmps[23]? = some (.bool op) := by rw [ha]; exact putSel_on (e := (9, 23, .bool op)) 7 rfl rfl (hon 9 (by kernel_rfl)) rfl
    replace ha := mk0 ha
    have B := mk0 Q_B
    have P := mk0 Q_P
    refine value_ (w1 := w') (v := .bool (!op)) (by rfl) rfl ?_ ?_
    ·go_simp
     (try simp only [i64_w])
     try rfl
    refine hK.out _ _ ⟨(by rw [ha.out]; exact putSel_upk 8 hb_ rfl rfl rfl), Q_B, Q_P⟩
   refine steps_cons ?_ ?_
   ·rintro b a w' ⟨ha, Q_B, Q_P⟩ hb_ hon hoff
    refine ⟨_, rfl, fun K hK => ?_⟩
    have e24 : a.tmps[24]? = some (.bool (!op)) := by rw [ha]; exact putSel_on (e := (10, 24, .bool (!op))) 8 rfl rfl (hon 10 (by kernel_rfl)) rfl
    replace ha := mk0 ha
    have B := mk0 Q_B
    have P := mk0 Q_P
    refine value_ (w1 := w') (v := .bool (!op)) (by rfl) rfl ?_ ?_
    ·go_simp
     (try simp only [i64_w])
     try rfl
    refine hK.out _ _ ⟨(by rw [ha.out]; exact putSel_upk 9 hb_ rfl rfl rfl), Q_B, Q_P⟩
   exact steps_nil
  rintro b a W3 hall ⟨ha, Q_B, Q_P⟩
  clear B P
  have hb1_ := hall 1 (by kernel_rfl)
  have hb2_ := hall 2 (by kernel_rfl)
  have hb3_ := hall 3 (by kernel_rfl)
  have hb5_ := hall 5 (by kernel_rfl)
  have hb6_ := hall 6 (by kernel_rfl)
  have hb7_ := hall 7 (by kernel_rfl)
  have hb8_ := hall 8 (by kernel_rfl)
  have hb9_ := hall 9 (by kernel_rfl)
  have hb10_ := hall 10 (by kernel_rfl)
  have hb11_ := hall 11 (by kernel_rfl)
  subst ha
  simp only [putSel, hb1_, hb2_, hb3_, hb5_, hb6_, hb7_, hb8_, hb9_, hb10_, hb11_, if_true, Act.put, List.setIfInBounds_toArray, List.set_cons_zero, List.set_cons_succ]
  have B := mk0 Q_B
  clear Q_B
  have P := mk0 Q_P
  clear Q_P
  clear hall hb1_ hb2_ hb3_ hb5_ hb6_ hb7_ hb8_ hb9_ hb10_ hb11_
  cases op
  ·have h := HH.out
   simp only [Bool.false_eq_true, if_false, Option.some.injEq, Prod.mk.injEq] at h
   obtain ⟨rfl, rfl, rfl, rfl⟩ := h
   clear HH
   go_wp2
   go_ret
   exact ⟨rfl, B.out.mono (Nat.le_of_lt HLT.out), fun h => absurd h (by decide)⟩
  ·have h := HH.out
   simp only [if_true, Option.some.injEq, Prod.mk.injEq] at h
   obtain ⟨rfl, rfl, rfl, rfl⟩ := h
   clear HH
   have b0 := blk_below BX2.out P.out
   have y0 := ct b0 0
   have y1 := ct b0 1
   have y2 := ct b0 2
   have m0 := blk_below H4.out B.out
   have z7 := ct m0 7
   have z8 := ct m0 8
   have z9 := ct m0 9
   have f7 := blk_frozen m0 7
   have f8 := blk_frozen m0 8
   have f9 := blk_frozen m0 9
   have M0 := mk0 m0
   clear b0 m0
   go_wp2
   go_ret
   refine ⟨rfl, (((B.out.mono (Nat.le_of_lt HLT.out)).setCell (Nat.le_refl _) _).setCell (Nat.le_refl _) _).setCell (Nat.le_refl _) _, fun _ => ⟨vn, vs, N0, HN0.out, ?_, HL.out, blk_put (blk_put (blk_put M0.out 7 _ rfl) 8 _ rfl) 9 _ rfl, ?_, ?_, H7.out⟩⟩
   ·simpa using Nat.le_trans HN1.out B.out.size
   ·have hne : ∀ k, N0 ≤ k → k ≠ gm := fun k hk => by have := HN0.out; omega
    exact Kd.R_far (Kd.R_far (Kd.R_far (Kd.R_below H5.out B.out) hne _) hne _) hne _
   ·have hne : ∀ k, gm < k ∧ k < N0 → k ≠ gm := fun k hk => Nat.ne_of_gt hk.1
    exact Kd.R_far (Kd.R_far (Kd.R_far (Kd.R_below H6.out B.out) hne _) hne _) hne _
end Go.Proofs.YtolbjmaabghghaaGreatDoor.PA
