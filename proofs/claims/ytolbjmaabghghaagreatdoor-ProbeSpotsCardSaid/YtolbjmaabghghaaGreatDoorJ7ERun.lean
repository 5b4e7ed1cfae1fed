/- A part of the proof. -/
import Derived.Test.YtolbjmaabghghaaGreatDoorJ7EM3
import Derived.Test.YtolbjmaabghghaaGreatDoorJ7PAx9
namespace Go.Proofs.YtolbjmaabghghaaGreatDoor.PA
open Go.RowKit Go.PW Go.PL Go.PM
attribute [local go_sem] Oper.semAt_some
set_option linter.unusedVariables false
set_option linter.unusedSimpArgs false
theorem DoPost.of {gm : Nat} {s0 s1 s2 s3 s4 s5 : Int} {A : Option Addr} {n c : Nat} {w W : World} {r : Int} {p : S23} {nt : List S23} {sm : List S76} {e : Ending} {w' : World} (hb : Below gm w W) (h : DoPost gm s0 s1 s2 s3 s4 s5 A n c W r p nt sm e w') : DoPost gm s0 s1 s2 s3 s4 s5 A n c w r p nt sm e w' :=
 ⟨h.1, hb.trans h.2.1, h.2.2⟩
set_option maxHeartbeats 4000000 in
set_option maxRecDepth 100000 in
theorem do_calls (gm : Nat) (s0 s1 s2 s3 s4 s5 : Int) (A : Option Addr) (c : Nat) (l : List S84) (x : S47) (p p' : S23) (nt nt' : List S23) (sm sm' : List S76) (r : Int) (w : World) (hr : Kd.C k84 w A l.length l) (hc : l.length ≤ c)
  (hM : MAt gm s0 s1 s2 s3 s4 s5 A l.length c w p nt sm) (h : doF s0 s1 s2 s3 s4 s5 l x p nt sm = some (r, p', nt', sm')) :
  Calls Tryz.prog 57 #[.pointer (some ⟨gm, 0, none⟩), .agg #[.int .i64 x.f0, .int .i64 x.f1.f0, .int .i64 x.f1.f1, .int .i64 x.f1.f2, .int .i64 x.f2, .string x.f3]] w (DoPost gm s0 s1 s2 s3 s4 s5 A l.length c w r p' nt' sm') := by
 obtain ⟨f0, ⟨qx, qy, qz⟩, d, s⟩ := x
 dsimp only
 unfold doF at h
 dsimp only at h
 have hlt : gm ≤ w.heap.size := by
  obtain ⟨_, _, _, _, _, _, h4, _⟩ := hM
  exact Nat.le_of_lt (blk_lt h4)
 have hu47 := Tryz.underlying47
 have hu23 := Tryz.underlying23
 have HLT := mk0 hlt
 have HR := mk0 hr
 have HC := mk0 hc
 have HM := mk0 hM
 clear hlt hr hc hM
 by_cases h0 : f0 = 0
 ·rw [if_pos h0] at h
  subst h0
  have HH := mk0 h
  clear h
  go_enter Tryz.func57, Tryz.ntmps57
  go_wp2_with (go_at_call 83; refine (move_calls gm s0 s1 s2 s3 s4 s5 A c l p ⟨qx, qy, qz⟩ p' nt nt' sm sm' r _ (Kd.C_below HR.out (below_alloc (Below.refl _ _) _)) HC.out (HM.out.below (below_alloc (Below.refl _ _) _)) HH.out).mono ?_; rintro e W ⟨rfl, hD⟩; have HD := mk0 hD; clear hD)
  go_ret
  exact DoPost.of ((below_alloc (Below.refl w.heap.size w) _).mono HLT.out) ⟨rfl, HD.out⟩
 rw [if_neg h0] at h
 have z0 : (f0 == 0) = false := by simpa using h0
 by_cases h1 : f0 = 1
 ·rw [if_pos h1] at h
  subst h1
  have HH := mk0 h
  clear h h0 z0
  go_enter Tryz.func57, Tryz.ntmps57
  go_wp2_with (go_at_call 84; refine (touch_calls gm s0 s1 s2 s3 s4 s5 A c l d p p' nt nt' sm sm' r _ (Kd.C_below HR.out (below_alloc (Below.refl _ _) _)) HC.out (HM.out.below (below_alloc (Below.refl _ _) _)) HH.out).mono ?_; rintro e W ⟨rfl, hD⟩; have HD := mk0 hD; clear hD)
  go_ret
  exact DoPost.of ((below_alloc (Below.refl w.heap.size w) _).mono HLT.out) ⟨rfl, HD.out⟩
 rw [if_neg h1] at h
 have z1 : (f0 == 1) = false := by simpa using h1
 have HH := mk0 h
 clear h h0 h1
 go_enter Tryz.func57, Tryz.ntmps57
 go_wp2_with (go_at_call 85; refine (take_calls gm s0 s1 s2 s3 s4 s5 A c l s p p' nt nt' sm sm' r _ (HM.out.below (below_alloc (Below.refl _ _) _)) HH.out).mono ?_; rintro e W ⟨rfl, hD⟩; have HD := mk0 hD; clear hD)
 go_ret
 exact DoPost.of ((below_alloc (Below.refl w.heap.size w) _).mono HLT.out) ⟨rfl, HD.out⟩
def rightS (x : S47) : Option Int := probe_Right.f 60 x.f0 x.f1.f0 x.f1.f1 x.f1.f2 x.f2 x.f3
def runL (s0 s1 s2 s3 s4 s5 : Int) (l : List S84) : List S47 → Int → S23 → List S23 → List S76 → Option (ByteArray × List S76 × Int × Int)
 | [], i, p, nt, sm => some (⟨#[]⟩, sm, 0, 0)
 | x :: xs, i, p, nt, sm => (rightS x).bind fun e => if e = 0 then (doF s0 s1 s2 s3 s4 s5 l x p nt sm).bind fun t => if t.1 = 0 then runL s0 s1 s2 s3 s4 s5 l xs (i + 1) t.2.1 t.2.2.1 t.2.2.2 else some (⟨#[]⟩, [], i, t.1) else some (⟨#[]⟩, [], i, e)
def probe_Run.f (a0_0 a0_1 a0_2 a0_3 a0_4 a0_5 : Int) (l0_6 : List S84) (a1_0 a1_1 a1_2 : Int) (l2 : List S47) : Option (ByteArray × List S76 × Int × Int) :=
 (givenS a0_0 a0_1 a0_2 a0_3 a0_4 a0_5 l0_6 ⟨a1_0, a1_1, a1_2⟩).bind fun e => if e = 0 then (fullS a0_0 a0_1 a0_2 a0_3 a0_4 a0_5 l0_6 ⟨a1_0, a1_1, a1_2⟩).bind fun b => if b = true then some (⟨#[]⟩, [], 0, 14) else if l2.length > 4096 then some (⟨#[]⟩, [], 0, 5) else runL a0_0 a0_1 a0_2 a0_3 a0_4 a0_5 l0_6 l2 0 ⟨a1_0, a1_1, a1_2⟩ [] [] else some (⟨#[]⟩, [], 0, e)
theorem C_one23 {w : World} {g : Nat} {x y z : Int} (h : w.heap[g]? = some (.cells #[.int .i64 x, .int .i64 y, .int .i64 z] 23 (0, 0))) : Kd.C k23 w (some ⟨g, 0, none⟩) 1 [⟨x, y, z⟩] := by
 refine ⟨rfl, by decide, fun _ => ⟨_, rfl, fun j p hj => ?_⟩⟩
 have hj0 : j = 0 := by
  have := (List.getElem?_eq_some_iff.1 hj).1
  simpa using this
 subst hj0
 obtain rfl : (⟨x, y, z⟩ : S23) = p := by simpa using hj
 refine ⟨_, rfl, k23_mk w ⟨x, y, z⟩, fun i u hi => ?_⟩
 rcases i with _ | _ | _ | i
 ·obtain rfl : Value.int .i64 x = u := by simpa using hi
  exact ct h 0
 ·obtain rfl : Value.int .i64 y = u := by simpa using hi
  exact ct h 1
 ·obtain rfl : Value.int .i64 z = u := by simpa using hi
  exact ct h 2
 ·simp at hi
def RunPost (w : World) (r1 : ByteArray) (r2 : List S76) (r3 r4 : Int) (e : Ending) (w' : World) : Prop :=
 ∃ v1_ : Value, e = .returned (.tuple #[.agg #[.string r1, v1_], .int .i64 r3, .int .i64 r4]) ∧ Kd.R k76 76 w' w.heap.size (fun _ => True) v1_ r2 ∧ Below w.heap.size w w'
set_option maxHeartbeats 8000000 in
set_option maxRecDepth 100000 in
theorem run_calls (a0_0 a0_1 a0_2 a0_3 a0_4 a0_5 : Int) (A0_6 : Option Addr) (c0_6 : Nat) (l0_6 : List (S84)) (a1_0 a1_1 a1_2 : Int) (A2 : Option Addr) (c2 : Nat) (l2 : List S47) (r1 : ByteArray) (r2 : List S76) (r3 r4 : Int) (w : World) (hG : GW w) (hr0_6 : Kd.C k84 w A0_6 l0_6.length l0_6) (hc0_6 : l0_6.length ≤ c0_6) (hr2 : Kd.C k47 w A2 l2.length l2) (hc2 : l2.length ≤ c2) (h : probe_Run.f a0_0 a0_1 a0_2 a0_3 a0_4 a0_5 l0_6 a1_0 a1_1 a1_2 l2 = some (r1, r2, r3, r4)) :
  Calls Tryz.prog 30 #[.agg #[.int .i64 a0_0, .int .i64 a0_1, .int .i64 a0_2, .int .i64 a0_3, .int .i64 a0_4, .int .i64 a0_5, .slice A0_6 l0_6.length c0_6], .agg #[.int .i64 a1_0, .int .i64 a1_1, .int .i64 a1_2], .slice A2 l2.length c2] w (RunPost w r1 r2 r3 r4) := by
 unfold probe_Run.f at h
 obtain ⟨er, he, h⟩ := Option.bind_eq_some_iff.1 h
 have hu26 := Tryz.underlying26
 have hu23 := Tryz.underlying23
 have hu67 := Tryz.underlying67
 have hu74 := Tryz.underlying74
 have hu60 := Tryz.underlying60
 have hu47 := Tryz.underlying47
 have hu118 := Tryz.underlying118
 have HG := mk0 hG
 have HR := mk0 hr0_6
 have HC := mk0 hc0_6
 have HR2 := mk0 hr2
 have HC2 := mk0 hc2
 have HE := mk0 he
 have HH := mk0 h
 have hm2 : l2.length ≤ 9223372036854775807 := hr2.2.1
 clear hG hr0_6 hc0_6 hr2 hc2 he h
 by_cases her : er = 0
 case neg =>
  have h := HH.out
  rw [if_neg her] at h
  simp only [Option.some.injEq, Prod.mk.injEq] at h
  obtain ⟨rfl, rfl, rfl, rfl⟩ := h
  have he1 : (er != 0) = true := by simpa using her
  have he2 : (er == 0) = false := by simpa using her
  clear HH her
  go_enter Tryz.func30, Tryz.ntmps30
  go_wp2_with (go_at_call 38; refine (probe_given.calls 60 a0_0 a0_1 a0_2 a0_3 a0_4 a0_5 A0_6 c0_6 l0_6 (some ⟨w.heap.size + 1 + 1 + 1, 0, none⟩) 1 [⟨a1_0, a1_1, a1_2⟩] er _ (Kd.C_below HR.out (below_alloc (below_alloc (below_alloc (below_alloc (Below.refl _ _) _) _) _) _)) HC.out (C_one23 (blk_newE _ _ (by simp))) (Nat.le_refl _) HE.out).mono ?_; rintro e W1 ⟨rfl, hb⟩; have B6 := mk0 (blk_below (blk_alloc (blk_newE (g := w.heap.size + 1 + 1) ((w.alloc (.cells #[.int .i64 a0_0, .int .i64 a0_1, .int .i64 a0_2, .int .i64 a0_3, .int .i64 a0_4, .int .i64 a0_5, .slice A0_6 l0_6.length c0_6] 26)).alloc (.cells #[.int .i64 a1_0, .int .i64 a1_1, .int .i64 a1_2] 23)) (.cells #[.string ⟨#[]⟩, .slice none 0 0] 67) (by simp)) _) hb); have HB := mk0 (below_then (below_alloc (below_alloc (below_alloc (below_alloc (Below.refl w.heap.size w) _) _) _) _) (by simp; omega) hb); clear hb; have y0 := ct B6.out 0; have y1 := ct B6.out 1; have f0 := blk_frozen B6.out 0; have f1 := blk_frozen B6.out 1)
  have b6 := blk_put (blk_put B6.out 0 (.string ⟨#[]⟩) rfl) 1 (.slice none 0 0) rfl
  have m0 := ct b6 0
  have m1 := ct b6 1
  refine bodyPost_ret (v := .tuple #[.agg #[.string ⟨#[]⟩, .slice none 0 0], .int .i64 0, .int .i64 er]) (by simp [results, Tryz.results30, go_sem, m0, m1, hu67, run_underlying]) rfl ⟨_, rfl, Kd.R_nil _ _ _ _ _, ?_⟩
  exact (HB.out.setCell (by simp; omega) _).setCell (by simp; omega) _
 have h := HH.out
 rw [if_pos her] at h
 obtain ⟨b, hb, h⟩ := Option.bind_eq_some_iff.1 h
 subst her
 unfold fullS at hb
 have HF := mk0 hb
 clear hb HH
 cases b
 case true =>
  simp only [if_true, Option.some.injEq, Prod.mk.injEq] at h
  obtain ⟨rfl, rfl, rfl, rfl⟩ := h
  go_enter Tryz.func30, Tryz.ntmps30
  go_wp2_with (first | (go_at_call 38; refine (probe_given.calls 60 a0_0 a0_1 a0_2 a0_3 a0_4 a0_5 A0_6 c0_6 l0_6 (some ⟨w.heap.size + 1 + 1 + 1, 0, none⟩) 1 [⟨a1_0, a1_1, a1_2⟩] 0 _ (Kd.C_below HR.out (below_alloc (below_alloc (below_alloc (below_alloc (Below.refl _ _) _) _) _) _)) HC.out (C_one23 (blk_newE _ _ (by simp))) (Nat.le_refl _) HE.out).mono ?_; rintro e W1 ⟨rfl, hb⟩; have B6 := mk0 (blk_below (blk_alloc (blk_newE (g := w.heap.size + 1 + 1) ((w.alloc (.cells #[.int .i64 a0_0, .int .i64 a0_1, .int .i64 a0_2, .int .i64 a0_3, .int .i64 a0_4, .int .i64 a0_5, .slice A0_6 l0_6.length c0_6] 26)).alloc (.cells #[.int .i64 a1_0, .int .i64 a1_1, .int .i64 a1_2] 23)) (.cells #[.string ⟨#[]⟩, .slice none 0 0] 67) (by simp)) _) hb); have HB := mk0 (below_then (below_alloc (below_alloc (below_alloc (below_alloc (Below.refl w.heap.size w) _) _) _) _) (by simp; omega) hb); have B3 := mk0 (blk_below (blk_alloc (blk_alloc (blk_alloc (blk_new w (.cells #[.int .i64 a0_0, .int .i64 a0_1, .int .i64 a0_2, .int .i64 a0_3, .int .i64 a0_4, .int .i64 a0_5, .slice A0_6 l0_6.length c0_6] 26)) (.cells #[.int .i64 a1_0, .int .i64 a1_1, .int .i64 a1_2] 23)) (.cells #[.string ⟨#[]⟩, .slice none 0 0] 67)) (.cells #[.int .i64 a1_0, .int .i64 a1_1, .int .i64 a1_2] 23)) hb); have B4 := mk0 (blk_below (blk_alloc (blk_alloc (blk_newE (g := w.heap.size + 1) (w.alloc (.cells #[.int .i64 a0_0, .int .i64 a0_1, .int .i64 a0_2, .int .i64 a0_3, .int .i64 a0_4, .int .i64 a0_5, .slice A0_6 l0_6.length c0_6] 26)) (.cells #[.int .i64 a1_0, .int .i64 a1_1, .int .i64 a1_2] 23) (by simp)) (.cells #[.string ⟨#[]⟩, .slice none 0 0] 67)) (.cells #[.int .i64 a1_0, .int .i64 a1_1, .int .i64 a1_2] 23)) hb); clear hb; have y0 := ct B6.out 0; have y1 := ct B6.out 1; have f0 := blk_frozen B6.out 0; have f1 := blk_frozen B6.out 1; have x0 := ct B3.out 0; have x1 := ct B3.out 1; have x2 := ct B3.out 2; have x3 := ct B3.out 3; have x4 := ct B3.out 4; have x5 := ct B3.out 5; have x6 := ct B3.out 6; have z0 := ct B4.out 0; have z1 := ct B4.out 1; have z2 := ct B4.out 2) | (go_at_call 39; refine (probe_Solid_full.calls 9 a0_0 a0_1 a0_2 a0_3 a0_4 a0_5 A0_6 c0_6 l0_6 a1_0 a1_1 a1_2 _ _ (Kd.C_below HR.out HB.out) HC.out HF.out).mono ?_; rintro e W2 ⟨rfl, hb⟩; have B6b := mk0 (blk_below B6.out hb); have B3b := mk0 (blk_below B3.out hb); have B4b := mk0 (blk_below B4.out hb); have HBb := mk0 (below_step HB.out hb); clear hb y0 y1 f0 f1 x0 x1 x2 x3 x4 x5 x6 z0 z1 z2; have y0 := ct B6b.out 0; have y1 := ct B6b.out 1; have f0 := blk_frozen B6b.out 0; have f1 := blk_frozen B6b.out 1; have x0 := ct B3b.out 0; have x1 := ct B3b.out 1; have x2 := ct B3b.out 2; have x3 := ct B3b.out 3; have x4 := ct B3b.out 4; have x5 := ct B3b.out 5; have x6 := ct B3b.out 6; have z0 := ct B4b.out 0; have z1 := ct B4b.out 1; have z2 := ct B4b.out 2))
  have b6 := blk_put (blk_put B6b.out 0 (.string ⟨#[]⟩) rfl) 1 (.slice none 0 0) rfl
  have m0 := ct b6 0
  have m1 := ct b6 1
  refine bodyPost_ret (v := .tuple #[.agg #[.string ⟨#[]⟩, .slice none 0 0], .int .i64 0, .int .i64 14]) (by simp [results, Tryz.results30, go_sem, m0, m1, hu67, run_underlying]) rfl ⟨_, rfl, Kd.R_nil _ _ _ _ _, ?_⟩
  exact (HBb.out.setCell (by simp; omega) _).setCell (by simp; omega) _
 simp only [Bool.false_eq_true, if_false] at h
 by_cases hn : l2.length > 4096
 ·rw [if_pos hn] at h
  simp only [Option.some.injEq, Prod.mk.injEq] at h
  obtain ⟨rfl, rfl, rfl, rfl⟩ := h
  have hn1 : decide ((l2.length : Int) > 4096) = true := by simpa using (by omega : (4096 : Int) < l2.length)
  have hn2 : decide (l2.length > 4096) = true := by simpa using hn
  clear hn
  go_enter Tryz.func30, Tryz.ntmps30
  go_wp2_with (first | (go_at_call 38; refine (probe_given.calls 60 a0_0 a0_1 a0_2 a0_3 a0_4 a0_5 A0_6 c0_6 l0_6 (some ⟨w.heap.size + 1 + 1 + 1, 0, none⟩) 1 [⟨a1_0, a1_1, a1_2⟩] 0 _ (Kd.C_below HR.out (below_alloc (below_alloc (below_alloc (below_alloc (Below.refl _ _) _) _) _) _)) HC.out (C_one23 (blk_newE _ _ (by simp))) (Nat.le_refl _) HE.out).mono ?_; rintro e W1 ⟨rfl, hb⟩; have B6 := mk0 (blk_below (blk_alloc (blk_newE (g := w.heap.size + 1 + 1) ((w.alloc (.cells #[.int .i64 a0_0, .int .i64 a0_1, .int .i64 a0_2, .int .i64 a0_3, .int .i64 a0_4, .int .i64 a0_5, .slice A0_6 l0_6.length c0_6] 26)).alloc (.cells #[.int .i64 a1_0, .int .i64 a1_1, .int .i64 a1_2] 23)) (.cells #[.string ⟨#[]⟩, .slice none 0 0] 67) (by simp)) _) hb); have HB := mk0 (below_then (below_alloc (below_alloc (below_alloc (below_alloc (Below.refl w.heap.size w) _) _) _) _) (by simp; omega) hb); have B3 := mk0 (blk_below (blk_alloc (blk_alloc (blk_alloc (blk_new w (.cells #[.int .i64 a0_0, .int .i64 a0_1, .int .i64 a0_2, .int .i64 a0_3, .int .i64 a0_4, .int .i64 a0_5, .slice A0_6 l0_6.length c0_6] 26)) (.cells #[.int .i64 a1_0, .int .i64 a1_1, .int .i64 a1_2] 23)) (.cells #[.string ⟨#[]⟩, .slice none 0 0] 67)) (.cells #[.int .i64 a1_0, .int .i64 a1_1, .int .i64 a1_2] 23)) hb); have B4 := mk0 (blk_below (blk_alloc (blk_alloc (blk_newE (g := w.heap.size + 1) (w.alloc (.cells #[.int .i64 a0_0, .int .i64 a0_1, .int .i64 a0_2, .int .i64 a0_3, .int .i64 a0_4, .int .i64 a0_5, .slice A0_6 l0_6.length c0_6] 26)) (.cells #[.int .i64 a1_0, .int .i64 a1_1, .int .i64 a1_2] 23) (by simp)) (.cells #[.string ⟨#[]⟩, .slice none 0 0] 67)) (.cells #[.int .i64 a1_0, .int .i64 a1_1, .int .i64 a1_2] 23)) hb); clear hb; have y0 := ct B6.out 0; have y1 := ct B6.out 1; have f0 := blk_frozen B6.out 0; have f1 := blk_frozen B6.out 1; have x0 := ct B3.out 0; have x1 := ct B3.out 1; have x2 := ct B3.out 2; have x3 := ct B3.out 3; have x4 := ct B3.out 4; have x5 := ct B3.out 5; have x6 := ct B3.out 6; have z0 := ct B4.out 0; have z1 := ct B4.out 1; have z2 := ct B4.out 2) | (go_at_call 39; refine (probe_Solid_full.calls 9 a0_0 a0_1 a0_2 a0_3 a0_4 a0_5 A0_6 c0_6 l0_6 a1_0 a1_1 a1_2 _ _ (Kd.C_below HR.out HB.out) HC.out HF.out).mono ?_; rintro e W2 ⟨rfl, hb⟩; have B6b := mk0 (blk_below B6.out hb); have B3b := mk0 (blk_below B3.out hb); have B4b := mk0 (blk_below B4.out hb); have HBb := mk0 (below_step HB.out hb); clear hb y0 y1 f0 f1 x0 x1 x2 x3 x4 x5 x6 z0 z1 z2; have y0 := ct B6b.out 0; have y1 := ct B6b.out 1; have f0 := blk_frozen B6b.out 0; have f1 := blk_frozen B6b.out 1; have x0 := ct B3b.out 0; have x1 := ct B3b.out 1; have x2 := ct B3b.out 2; have x3 := ct B3b.out 3; have x4 := ct B3b.out 4; have x5 := ct B3b.out 5; have x6 := ct B3b.out 6; have z0 := ct B4b.out 0; have z1 := ct B4b.out 1; have z2 := ct B4b.out 2))
  have b6 := blk_put (blk_put B6b.out 0 (.string ⟨#[]⟩) rfl) 1 (.slice none 0 0) rfl
  have m0 := ct b6 0
  have m1 := ct b6 1
  refine bodyPost_ret (v := .tuple #[.agg #[.string ⟨#[]⟩, .slice none 0 0], .int .i64 0, .int .i64 5]) (by simp [results, Tryz.results30, go_sem, m0, m1, hu67, run_underlying]) rfl ⟨_, rfl, Kd.R_nil _ _ _ _ _, ?_⟩
  exact (HBb.out.setCell (by simp; omega) _).setCell (by simp; omega) _
 rw [if_neg hn] at h
 have HH := mk0 h
 have hn1 : decide ((l2.length : Int) > 4096) = false := by simpa using (by omega : (l2.length : Int) ≤ 4096)
 have hn2 : decide (l2.length > 4096) = false := by simpa using hn
 have HN : Aside0 (l2.length ≤ 4096) := ⟨by omega⟩
 clear hn h
 go_enter Tryz.func30, Tryz.ntmps30
 go_wp2_with (first | (go_at_call 38; refine (probe_given.calls 60 a0_0 a0_1 a0_2 a0_3 a0_4 a0_5 A0_6 c0_6 l0_6 (some ⟨w.heap.size + 1 + 1 + 1, 0, none⟩) 1 [⟨a1_0, a1_1, a1_2⟩] 0 _ (Kd.C_below HR.out (below_alloc (below_alloc (below_alloc (below_alloc (Below.refl _ _) _) _) _) _)) HC.out (C_one23 (blk_newE _ _ (by simp))) (Nat.le_refl _) HE.out).mono ?_; rintro e W1 ⟨rfl, hb⟩; have B6 := mk0 (blk_below (blk_alloc (blk_newE (g := w.heap.size + 1 + 1) ((w.alloc (.cells #[.int .i64 a0_0, .int .i64 a0_1, .int .i64 a0_2, .int .i64 a0_3, .int .i64 a0_4, .int .i64 a0_5, .slice A0_6 l0_6.length c0_6] 26)).alloc (.cells #[.int .i64 a1_0, .int .i64 a1_1, .int .i64 a1_2] 23)) (.cells #[.string ⟨#[]⟩, .slice none 0 0] 67) (by simp)) _) hb); have HB := mk0 (below_then (below_alloc (below_alloc (below_alloc (below_alloc (Below.refl w.heap.size w) _) _) _) _) (by simp; omega) hb); have B3 := mk0 (blk_below (blk_alloc (blk_alloc (blk_alloc (blk_new w (.cells #[.int .i64 a0_0, .int .i64 a0_1, .int .i64 a0_2, .int .i64 a0_3, .int .i64 a0_4, .int .i64 a0_5, .slice A0_6 l0_6.length c0_6] 26)) (.cells #[.int .i64 a1_0, .int .i64 a1_1, .int .i64 a1_2] 23)) (.cells #[.string ⟨#[]⟩, .slice none 0 0] 67)) (.cells #[.int .i64 a1_0, .int .i64 a1_1, .int .i64 a1_2] 23)) hb); have B4 := mk0 (blk_below (blk_alloc (blk_alloc (blk_newE (g := w.heap.size + 1) (w.alloc (.cells #[.int .i64 a0_0, .int .i64 a0_1, .int .i64 a0_2, .int .i64 a0_3, .int .i64 a0_4, .int .i64 a0_5, .slice A0_6 l0_6.length c0_6] 26)) (.cells #[.int .i64 a1_0, .int .i64 a1_1, .int .i64 a1_2] 23) (by simp)) (.cells #[.string ⟨#[]⟩, .slice none 0 0] 67)) (.cells #[.int .i64 a1_0, .int .i64 a1_1, .int .i64 a1_2] 23)) hb); clear hb; have y0 := ct B6.out 0; have y1 := ct B6.out 1; have f0 := blk_frozen B6.out 0; have f1 := blk_frozen B6.out 1; have x0 := ct B3.out 0; have x1 := ct B3.out 1; have x2 := ct B3.out 2; have x3 := ct B3.out 3; have x4 := ct B3.out 4; have x5 := ct B3.out 5; have x6 := ct B3.out 6; have z0 := ct B4.out 0; have z1 := ct B4.out 1; have z2 := ct B4.out 2) | (go_at_call 39; refine (probe_Solid_full.calls 9 a0_0 a0_1 a0_2 a0_3 a0_4 a0_5 A0_6 c0_6 l0_6 a1_0 a1_1 a1_2 _ _ (Kd.C_below HR.out HB.out) HC.out HF.out).mono ?_; rintro e W2 ⟨rfl, hb⟩; have B6b := mk0 (blk_below B6.out hb); have B3b := mk0 (blk_below B3.out hb); have B4b := mk0 (blk_below B4.out hb); have HBb := mk0 (below_step HB.out hb); clear hb y0 y1 f0 f1 x0 x1 x2 x3 x4 x5 x6 z0 z1 z2; have y0 := ct B6b.out 0; have y1 := ct B6b.out 1; have f0 := blk_frozen B6b.out 0; have f1 := blk_frozen B6b.out 1; have x0 := ct B3b.out 0; have x1 := ct B3b.out 1; have x2 := ct B3b.out 2; have x3 := ct B3b.out 3; have x4 := ct B3b.out 4; have x5 := ct B3b.out 5; have x6 := ct B3b.out 6; have z0 := ct B4b.out 0; have z1 := ct B4b.out 1; have z2 := ct B4b.out 2) | ((with_reducible refine gate_dst (N := 35) rfl ?_); refine box_event ?hg (N := 35) ?hd (cs := #[.int .i64 a0_0, .int .i64 a0_1, .int .i64 a0_2, .int .i64 a0_3, .int .i64 a0_4, .int .i64 a0_5, .slice A0_6 l0_6.length c0_6, .int .i64 a1_0, .int .i64 a1_1, .int .i64 a1_2, .slice none 0 0, .slice none 0 0]) (t := 118) ?hr ?_; (case hd => rfl); (case hg => rfl); (case hr => first | (go_simp; done) | (go_simp; rfl)); intro gm hg W3 hbox hb3; have GM := mk0 hg; have BM := mk0 hbox; have HB3 := mk0 hb3; clear hg hbox hb3))
 have HGW : Aside0 (w.heap.size + 1 + 1 < gm) := ⟨by have := blk_lt B6b.out; have := GM.out; omega⟩
 have HBW : Aside0 (Below w.heap.size w W3) := ⟨below_step HBb.out HB3.out⟩
 have B6c := mk0 (blk_below B6b.out HB3.out)
 have M0 : Aside0 (MAt gm a0_0 a0_1 a0_2 a0_3 a0_4 a0_5 A0_6 l0_6.length c0_6 W3 ⟨a1_0, a1_1, a1_2⟩ [] []) := ⟨.slice none 0 0, .slice none 0 0, W3.heap.size, blk_lt BM.out, Nat.le_refl _, by decide, BM.out, Kd.R_nil _ _ _ _ _, Kd.R_nil _ _ _ _ _, trivial⟩
 have HR3 : Aside0 (∀ wr, Below gm W3 wr → Below w.heap.size w wr) := ⟨fun wr h => HBW.out.trans (h.mono (by have := HGW.out; omega))⟩
 have HG6 : Aside0 (∀ wr, Below gm W3 wr → wr.heap[w.heap.size + 1 + 1]? = some (.cells #[.string ⟨#[]⟩, .slice none 0 0] 67 (0, 0))) := ⟨fun wr h => (h.block _ HGW.out).trans B6c.out⟩
 clear y0 y1 f0 f1 x0 x1 x2 x3 x4 x5 x6 z0 z1 z2
 go_loopw [38] (fun v wr => ∃ k : Nat, k ≤ l2.length ∧ v = .int .i64 k ∧ Aside0 (∃ p nt sm, MAt gm a0_0 a0_1 a0_2 a0_3 a0_4 a0_5 A0_6 l0_6.length c0_6 wr p nt sm ∧ runL a0_0 a0_1 a0_2 a0_3 a0_4 a0_5 l0_6 (l2.drop k) k p nt sm = some (r1, r2, r3, r4) ∧ Below gm W3 wr)) (fun v _ => l2.length - (intOf v).toNat)
 case atStart => exact ⟨0, Nat.zero_le _, rfl, ⟨_, _, _, M0.out, by simpa using HH.out, Below.refl _ _⟩⟩
 case round =>
  obtain ⟨k, hk, rfl, hA⟩ := hrel
  obtain ⟨p, nt, sm, hM, hrun, hB⟩ := hA.out
  clear hA
  by_cases hlt : k < l2.length
  ·obtain ⟨ad, eA, q0, q1, q2, q3, q4, q5⟩ := at_T47 (Kd.C_below HR2.out (HR3.out _ hB)) (k : Int) (by omega) (by omega)
   subst eA
   simp only [Int.toNat_natCast] at q0 q1 q2 q3 q4 q5
   obtain ⟨x, hx⟩ : ∃ x, rd_T47 l2 (k : Int) = x := ⟨_, rfl⟩
   rw [hx] at q0 q1 q2 q3 q4 q5
   have hget : l2[k]? = some x := by rw [← hx]; simp [rd_T47, List.getD, hlt]
   have hd : l2.drop k = x :: l2.drop (k + 1) := by
    rw [List.drop_eq_getElem_cons hlt]
    rw [List.getElem?_eq_getElem hlt] at hget
    rw [Option.some.inj hget]
   rw [hd] at hrun
   unfold runL at hrun
   obtain ⟨er, her, hrun⟩ := Option.bind_eq_some_iff.1 hrun
   have HER := mk0 her
   have HRUN := mk0 hrun
   have HB := mk0 hB
   have HM := mk0 hM
   clear hx hget hd hrun her hB hM
   have HGL : Aside0 (gm ≤ wr.heap.size) := ⟨by obtain ⟨_, _, _, h1, h2, _⟩ := HM.out; omega⟩
   have HSZ : Aside0 (w.heap.size ≤ wr.heap.size) := ⟨by have := HGL.out; have := HGW.out; omega⟩
   by_cases her0 : er = 0
   case neg =>
    have h := HRUN.out
    rw [if_neg her0] at h
    simp only [Option.some.injEq, Prod.mk.injEq] at h
    obtain ⟨rfl, rfl, rfl, rfl⟩ := h
    have e1 : (er != 0) = true := by simpa using her0
    have e2 : (er == 0) = false := by simpa using her0
    clear her0 HRUN
    go_wp2_with (first | (go_at_call 25; refine (probe_Right.calls 60 x.f0 x.f1.f0 x.f1.f1 x.f1.f2 x.f2 x.f3 er _ (GW_below HG.out ((HR3.out _ HB.out).trans ((below_alloc (Below.refl wr.heap.size wr) _).mono HSZ.out))) HER.out).mono ?_; rintro e W4 ⟨rfl, hb⟩; have X4 := mk0 (blk_below (blk_new wr (.cells #[.int .i64 x.f0, .int .i64 x.f1.f0, .int .i64 x.f1.f1, .int .i64 x.f1.f2, .int .i64 x.f2, .string x.f3] 47)) hb); have HB4 := mk0 (below_then (below_alloc (Below.refl wr.heap.size wr) _) (by simp) hb); clear hb; have v0 := ct X4.out 0; have v1 := ct X4.out 1; have v2 := ct X4.out 2; have v3 := ct X4.out 3; have v4 := ct X4.out 4; have v5 := ct X4.out 5; have B64 := mk0 (HG6.out _ (HB.out.trans (HB4.out.mono HGL.out))); have y0 := ct B64.out 0; have y1 := ct B64.out 1; have f0 := blk_frozen B64.out 0; have f1 := blk_frozen B64.out 1))
    have b6 := blk_put (blk_put B64.out 0 (.string ⟨#[]⟩) rfl) 1 (.slice none 0 0) rfl
    have m0 := ct b6 0
    have m1 := ct b6 1
    refine bodyPost_ret (v := .tuple #[.agg #[.string ⟨#[]⟩, .slice none 0 0], .int .i64 (k : Int), .int .i64 er]) (by simp [results, Tryz.results30, go_sem, m0, m1, hu67, run_underlying]) rfl ⟨_, rfl, Kd.R_nil _ _ _ _ _, ?_⟩
    exact ((HR3.out _ (HB.out.trans (HB4.out.mono HGL.out))).setCell (by simp; omega) _).setCell (by simp; omega) _
   have h := HRUN.out
   rw [if_pos her0] at h
   subst her0
   obtain ⟨⟨rd, p', nt', sm'⟩, hdo, h⟩ := Option.bind_eq_some_iff.1 h
   have HDO := mk0 hdo
   clear hdo HRUN
   by_cases hrd : rd = 0
   case neg =>
    rw [if_neg hrd] at h
    simp only [Option.some.injEq, Prod.mk.injEq] at h
    obtain ⟨rfl, rfl, rfl, rfl⟩ := h
    have e1 : (rd != 0) = true := by simpa using hrd
    have e2 : (rd == 0) = false := by simpa using hrd
    clear hrd
    go_wp2_with (first | (go_at_call 25; refine (probe_Right.calls 60 x.f0 x.f1.f0 x.f1.f1 x.f1.f2 x.f2 x.f3 0 _ (GW_below HG.out ((HR3.out _ HB.out).trans ((below_alloc (Below.refl wr.heap.size wr) _).mono HSZ.out))) HER.out).mono ?_; rintro e W4 ⟨rfl, hb⟩; have X4 := mk0 (blk_below (blk_new wr (.cells #[.int .i64 x.f0, .int .i64 x.f1.f0, .int .i64 x.f1.f1, .int .i64 x.f1.f2, .int .i64 x.f2, .string x.f3] 47)) hb); have HB4 := mk0 (below_then (below_alloc (Below.refl wr.heap.size wr) _) (by simp) hb); clear hb; have v0 := ct X4.out 0; have v1 := ct X4.out 1; have v2 := ct X4.out 2; have v3 := ct X4.out 3; have v4 := ct X4.out 4; have v5 := ct X4.out 5; have B64 := mk0 (HG6.out _ (HB.out.trans (HB4.out.mono HGL.out))); have y0 := ct B64.out 0; have y1 := ct B64.out 1; have f0 := blk_frozen B64.out 0; have f1 := blk_frozen B64.out 1) | (go_at_call 57; refine (do_calls gm a0_0 a0_1 a0_2 a0_3 a0_4 a0_5 A0_6 c0_6 l0_6 x p p' nt nt' sm sm' rd _ (Kd.C_below HR.out (HR3.out _ (HB.out.trans (HB4.out.mono HGL.out)))) HC.out (HM.out.below HB4.out) HDO.out).mono ?_; rintro e W5 ⟨rfl, hD1, hD2⟩; have HB5 := mk0 ((HB.out.trans (HB4.out.mono HGL.out)).trans hD1); have HM5 := mk0 hD2; clear hD1 hD2 y0 y1 f0 f1 v0 v1 v2 v3 v4 v5; have B65 := mk0 (HG6.out _ HB5.out); have y0 := ct B65.out 0; have y1 := ct B65.out 1; have f0 := blk_frozen B65.out 0; have f1 := blk_frozen B65.out 1))
    have b6 := blk_put (blk_put B65.out 0 (.string ⟨#[]⟩) rfl) 1 (.slice none 0 0) rfl
    have m0 := ct b6 0
    have m1 := ct b6 1
    refine bodyPost_ret (v := .tuple #[.agg #[.string ⟨#[]⟩, .slice none 0 0], .int .i64 (k : Int), .int .i64 rd]) (by simp [results, Tryz.results30, go_sem, m0, m1, hu67, run_underlying]) rfl ⟨_, rfl, Kd.R_nil _ _ _ _ _, ?_⟩
    exact ((HR3.out _ HB5.out).setCell (by simp; omega) _).setCell (by simp; omega) _
   rw [if_pos hrd] at h
   subst hrd
   have HH := mk0 h
   clear h
   go_wp2_with (first | (go_at_call 25; refine (probe_Right.calls 60 x.f0 x.f1.f0 x.f1.f1 x.f1.f2 x.f2 x.f3 0 _ (GW_below HG.out ((HR3.out _ HB.out).trans ((below_alloc (Below.refl wr.heap.size wr) _).mono HSZ.out))) HER.out).mono ?_; rintro e W4 ⟨rfl, hb⟩; have X4 := mk0 (blk_below (blk_new wr (.cells #[.int .i64 x.f0, .int .i64 x.f1.f0, .int .i64 x.f1.f1, .int .i64 x.f1.f2, .int .i64 x.f2, .string x.f3] 47)) hb); have HB4 := mk0 (below_then (below_alloc (Below.refl wr.heap.size wr) _) (by simp) hb); clear hb; have v0 := ct X4.out 0; have v1 := ct X4.out 1; have v2 := ct X4.out 2; have v3 := ct X4.out 3; have v4 := ct X4.out 4; have v5 := ct X4.out 5; have B64 := mk0 (HG6.out _ (HB.out.trans (HB4.out.mono HGL.out))); have y0 := ct B64.out 0; have y1 := ct B64.out 1; have f0 := blk_frozen B64.out 0; have f1 := blk_frozen B64.out 1) | (go_at_call 57; refine (do_calls gm a0_0 a0_1 a0_2 a0_3 a0_4 a0_5 A0_6 c0_6 l0_6 x p p' nt nt' sm sm' 0 _ (Kd.C_below HR.out (HR3.out _ (HB.out.trans (HB4.out.mono HGL.out)))) HC.out (HM.out.below HB4.out) HDO.out).mono ?_; rintro e W5 ⟨rfl, hD1, hD2⟩; have HB5 := mk0 ((HB.out.trans (HB4.out.mono HGL.out)).trans hD1); have HM5 := mk0 hD2; clear hD1 hD2 y0 y1 f0 f1 v0 v1 v2 v3 v4 v5; have B65 := mk0 (HG6.out _ HB5.out); have y0 := ct B65.out 0; have y1 := ct B65.out 1; have f0 := blk_frozen B65.out 0; have f1 := blk_frozen B65.out 1))
   go_roundw
   case rel => exact ⟨k + 1, by omega, by go_num, ⟨p', nt', sm', HM5.out trivial, by have := HH.out; simpa using this, HB5.out⟩⟩
   case measure => simp [intOf]; omega
  ·have hke : k = l2.length := by omega
   rw [hke, List.drop_length] at hrun
   simp only [runL, Option.some.injEq, Prod.mk.injEq] at hrun
   obtain ⟨rfl, rfl, rfl, rfl⟩ := hrun
   obtain ⟨vn, vs, N0, h1, h2, h3, h4, h5, h6, h7⟩ := hM
   obtain ⟨As, cs, rfl⟩ := Kd.R_slice h6
   have t11 := ct h4 11
   have B6w := HG6.out _ hB
   have y0 := ct B6w 0
   have y1 := ct B6w 1
   have f0 := blk_frozen B6w 0
   have f1 := blk_frozen B6w 1
   have B6w := mk0 B6w
   have H6 := mk0 h6
   have HB := mk0 hB
   clear h4 h5 h6 h7 h3 h1 h2 hB
   clear hke
   go_wp2
   have b6 := blk_put (blk_put B6w.out 0 (.string ⟨#[]⟩) rfl) 1 (.slice As sm.length cs) rfl
   have m0 := ct b6 0
   have m1 := ct b6 1
   refine bodyPost_ret (v := .tuple #[.agg #[.string ⟨#[]⟩, .slice As sm.length cs], .int .i64 0, .int .i64 0]) (by simp [results, Tryz.results30, go_sem, m0, m1, hu67, run_underlying]) rfl ⟨_, rfl, ?_, ?_⟩
   ·have hg := HGW.out
    have hne : ∀ k, gm < k ∧ k < N0 → k ≠ w.heap.size + 1 + 1 := fun k hk => by omega
    exact Kd.R_mono (Kd.R_lower (Kd.R_far (Kd.R_far H6.out hne _) hne _) (by omega)) (fun _ _ => trivial)
   ·exact ((HR3.out _ HB.out).setCell (by simp; omega) _).setCell (by simp; omega) _
theorem probe_Run.calls (a0_0 a0_1 a0_2 a0_3 a0_4 a0_5 : Int) (A0_6 : Option Addr) (c0_6 : Nat) (l0_6 : List (S84)) (a1_0 a1_1 a1_2 : Int) (A2 : Option Addr) (c2 : Nat) (l2 : List S47) (r1 : ByteArray) (r2 : List S76) (r3 r4 : Int) (w : World) (hG : GW w) (hr0_6 : Kd.C k84 w A0_6 l0_6.length l0_6) (hc0_6 : l0_6.length ≤ c0_6) (hr2 : Kd.C k47 w A2 l2.length l2) (hc2 : l2.length ≤ c2) (h : probe_Run.f a0_0 a0_1 a0_2 a0_3 a0_4 a0_5 l0_6 a1_0 a1_1 a1_2 l2 = some (r1, r2, r3, r4)) :
  Calls Tryz.prog 30 #[.agg #[.int .i64 a0_0, .int .i64 a0_1, .int .i64 a0_2, .int .i64 a0_3, .int .i64 a0_4, .int .i64 a0_5, .slice A0_6 l0_6.length c0_6], .agg #[.int .i64 a1_0, .int .i64 a1_1, .int .i64 a1_2], .slice A2 l2.length c2] w fun e w' => ∃ v1_ : Value, e = .returned (.tuple #[.agg #[.string r1, v1_], .int .i64 r3, .int .i64 r4]) ∧ Kd.R k76 76 w' w.heap.size (fun _ => True) v1_ r2 ∧ Below w.heap.size w w' :=
 run_calls _ _ _ _ _ _ _ _ _ _ _ _ _ _ _ _ _ _ _ _ hG hr0_6 hc0_6 hr2 hc2 h
end Go.Proofs.YtolbjmaabghghaaGreatDoor.PA
