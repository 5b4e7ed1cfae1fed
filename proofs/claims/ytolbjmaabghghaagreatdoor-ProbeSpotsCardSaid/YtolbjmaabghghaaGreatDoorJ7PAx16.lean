/- A part of the proof. -/
import Derived.Test.YtolbjmaabghghaaGreatDoorJ7QRun
import Derived.Test.YtolbjmaabghghaaGreatDoorJ7PAx1
namespace Go.Proofs.YtolbjmaabghghaaGreatDoor.PA
open Go.RowKit Go.PW Go.PL Go.PM
attribute [local go_sem] Oper.semAt_some
set_option linter.unusedVariables false
set_option linter.unusedSimpArgs false
def PlateAt (W : World) (v : Value) : Prop := ∃ A c, v = .agg #[.int .i64 0, .int .i64 0, .int .i64 0, .int .i64 20, .int .i64 10, .int .i64 4, .slice A 1 c] ∧ Kd.C k84 W A 1 plateB ∧ 1 ≤ c
theorem PlateAt.below {W W' : World} {v : Value} (h : PlateAt W v) (hb : Below W.heap.size W W') : PlateAt W' v := by
 obtain ⟨A, c, h1, h2, h3⟩ := h
 exact ⟨A, c, h1, Kd.C_below h2 hb, h3⟩
def PlatePost (w : World) (e : Ending) (w' : World) : Prop := ∃ v, e = .returned v ∧ PlateAt w' v ∧ Below w.heap.size w w'
theorem plate_calls (w : World) : Calls Tryz.prog 36 #[] w (PlatePost w) := by
 refine (metrolablaw30_Plate.calls 0 0 0 20 10 4 plateB w rfl).mono ?_
 rintro e w' ⟨v, rfl, hR, hb⟩
 obtain ⟨A, c, rfl, hl, hC⟩ := Kd.R_reads hR
 exact ⟨_, rfl, ⟨A, c, rfl, hC, hl⟩, hb⟩
theorem pm12 (A : Option Addr) (c : Nat) (W : World) (hC : Kd.C k84 W A 1 plateB) (hc : 1 ≤ c) : Calls Tryz.prog 15 #[.agg #[.int .i64 0, .int .i64 0, .int .i64 0, .int .i64 20, .int .i64 10, .int .i64 4, .slice A 1 c], .agg #[.int .i64 12, .int .i64 5, .int .i64 2]] W fun e w' => e = .returned (.tuple #[.bool false, .int .i64 0]) ∧ Below W.heap.size W w' :=
 probe_Material.calls 60 0 0 0 20 10 4 A c plateB 12 5 2 false 0 W hC hc (by rw [material_eq _ _ _ _ _ _ _ _ _ _ _ (by decide), mat12])
theorem pm13 (A : Option Addr) (c : Nat) (W : World) (hC : Kd.C k84 W A 1 plateB) (hc : 1 ≤ c) : Calls Tryz.prog 15 #[.agg #[.int .i64 0, .int .i64 0, .int .i64 0, .int .i64 20, .int .i64 10, .int .i64 4, .slice A 1 c], .agg #[.int .i64 13, .int .i64 5, .int .i64 2]] W fun e w' => e = .returned (.tuple #[.bool true, .int .i64 0]) ∧ Below W.heap.size W w' :=
 probe_Material.calls 60 0 0 0 20 10 4 A c plateB 13 5 2 true 0 W hC hc (by rw [material_eq _ _ _ _ _ _ _ _ _ _ _ (by decide), mat13])
theorem pt0 (A : Option Addr) (c : Nat) (W : World) (hC : Kd.C k84 W A 1 plateB) (hc : 1 ≤ c) : Calls Tryz.prog 19 #[.agg #[.int .i64 0, .int .i64 0, .int .i64 0, .int .i64 20, .int .i64 10, .int .i64 4, .slice A 1 c], .agg #[.int .i64 10, .int .i64 5, .int .i64 2], .int .i64 0] W fun e w' => e = .returned (.tuple #[.agg #[.int .i64 13, .int .i64 5, .int .i64 2], .agg #[.int .i64 12, .int .i64 5, .int .i64 2], .int .i64 0]) ∧ Below W.heap.size W w' :=
 probe_Touch.calls 60 0 0 0 20 10 4 A c plateB 10 5 2 0 13 5 2 12 5 2 0 W hC hc (touch_px 60 (by decide))
theorem pt5 (A : Option Addr) (c : Nat) (W : World) (hC : Kd.C k84 W A 1 plateB) (hc : 1 ≤ c) : Calls Tryz.prog 19 #[.agg #[.int .i64 0, .int .i64 0, .int .i64 0, .int .i64 20, .int .i64 10, .int .i64 4, .slice A 1 c], .agg #[.int .i64 10, .int .i64 5, .int .i64 9], .int .i64 5] W fun e w' => e = .returned (.tuple #[.agg #[.int .i64 0, .int .i64 0, .int .i64 0], .agg #[.int .i64 0, .int .i64 0, .int .i64 0], .int .i64 6]) ∧ Below W.heap.size W w' :=
 probe_Touch.calls 60 0 0 0 20 10 4 A c plateB 10 5 9 5 0 0 0 0 0 0 6 W hC hc (touch_none 60 (by decide))
def RunPostA (w : World) (e : Ending) (w' : World) : Prop := ∃ v, e = .returned (.tuple #[.agg #[.string ⟨#[]⟩, v], .int .i64 0, .int .i64 0]) ∧ Kd.R k76 76 w' w.heap.size (fun _ => True) v [(⟨⟨#[104, 111, 108, 101]⟩, [⟨13, 5, 2⟩, ⟨7, 5, 2⟩]⟩ : S76)] ∧ Below w.heap.size w w'
theorem prun (A : Option Addr) (c : Nat) (As : Option Addr) (cs : Nat) (W : World) (hG : GW W) (hC : Kd.C k84 W A 1 plateB) (hc : 1 ≤ c) (hS : Kd.C k47 W As 4 steps4) (hcs : 4 ≤ cs) : Calls Tryz.prog 30 #[.agg #[.int .i64 0, .int .i64 0, .int .i64 0, .int .i64 20, .int .i64 10, .int .i64 4, .slice A 1 c], .agg #[.int .i64 10, .int .i64 5, .int .i64 2], .slice As 4 cs] W (RunPostA W) :=
 probe_Run.calls 0 0 0 20 10 4 A c plateB 10 5 2 As cs steps4 ⟨#[]⟩ _ 0 0 W hG hC hc hS hcs runEx2
def textK (k : Nat) : ByteArray := texts4.getD k ByteArray.empty
def stepK (k : Nat) : S47 := steps4.getD k z47
theorem readK (k : Nat) (hk : k < 4) : probe_Read.f 40 (textK k) = some ((stepK k).f0, (stepK k).f1.f0, (stepK k).f1.f1, (stepK k).f1.f2, (stepK k).f2, (stepK k).f3, 0) := by
 rcases (by omega : k = 0 ∨ k = 1 ∨ k = 2 ∨ k = 3) with rfl | rfl | rfl | rfl
 ·exact read1
 ·exact read2
 ·exact read3
 ·exact read4
theorem pread (k : Nat) (hk : k < 4) (W : World) (hG : GW W) : Calls Tryz.prog 23 #[.string (textK k)] W fun e w' => e = .returned (.tuple #[.agg #[.int .i64 (stepK k).f0, .int .i64 (stepK k).f1.f0, .int .i64 (stepK k).f1.f1, .int .i64 (stepK k).f1.f2, .int .i64 (stepK k).f2, .string (stepK k).f3], .int .i64 0]) ∧ Below W.heap.size W w' :=
 probe_Read.calls 40 (textK k) _ _ _ _ _ _ 0 W hG (readK k hk)
theorem takeK (k : Nat) (hk : k < 4) : steps4.take (k + 1) = steps4.take k ++ [stepK k] := by
 rcases (by omega : k = 0 ∨ k = 1 ∨ k = 2 ∨ k = 3) with rfl | rfl | rfl | rfl <;> rfl
theorem k76_ne : ∀ q, q ∈ 76 :: k76.E → q ≠ 67 := by decide
theorem C_two23 {w : World} {g : Nat} (h : w.heap[g]? = some (.cells #[.int .i64 13, .int .i64 5, .int .i64 2, .int .i64 7, .int .i64 5, .int .i64 2] 23 (0, 0))) : Kd.C k23 w (some ⟨g, 0, none⟩) 2 [⟨13, 5, 2⟩, ⟨7, 5, 2⟩] := by
 refine ⟨rfl, by decide, fun _ => ⟨_, rfl, fun j p hj => ?_⟩⟩
 have hj0 : j < 2 := (List.getElem?_eq_some_iff.1 hj).1
 rcases (by omega : j = 0 ∨ j = 1) with rfl | rfl
 ·obtain rfl : (⟨13, 5, 2⟩ : S23) = p := by simpa using hj
  refine ⟨_, rfl, k23_mk w ⟨13, 5, 2⟩, fun i u hi => ?_⟩
  have hi3 : i < 3 := (List.getElem?_eq_some_iff.1 hi).1
  rcases (by omega : i = 0 ∨ i = 1 ∨ i = 2) with rfl | rfl | rfl
  ·exact (blk_cell h 0).trans hi
  ·exact (blk_cell h 1).trans hi
  ·exact (blk_cell h 2).trans hi
 ·obtain rfl : (⟨7, 5, 2⟩ : S23) = p := by simpa using hj
  refine ⟨_, rfl, k23_mk w ⟨7, 5, 2⟩, fun i u hi => ?_⟩
  have hi3 : i < 3 := (List.getElem?_eq_some_iff.1 hi).1
  rcases (by omega : i = 0 ∨ i = 1 ∨ i = 2) with rfl | rfl | rfl
  ·exact (blk_cell h 3).trans hi
  ·exact (blk_cell h 4).trans hi
  ·exact (blk_cell h 5).trans hi
def TextsAt (W : World) (g : Nat) : Prop := W.heap[g]? = some (.cells #[.string ⟨#[116, 111, 117, 99, 104, 32, 43, 88]⟩, .string ⟨#[109, 111, 118, 101, 32, 49, 48, 32, 53, 32, 50]⟩, .string ⟨#[116, 111, 117, 99, 104, 32, 45, 88]⟩, .string ⟨#[116, 97, 107, 101, 32, 104, 111, 108, 101]⟩] 9 (0, 0))
theorem TextsAt.below {W W' : World} {g : Nat} (h : TextsAt W g) (hb : Below W.heap.size W W') : TextsAt W' g := blk_below h hb
theorem TextsAt.grown {W W' : World} {g : Nat} {row : Option Nat} (h : TextsAt W g) (hg : W.grownBy W' row) (hne : some g ≠ row) : TextsAt W' g := (hg.block g (blk_lt h) hne).trans h
theorem TextsAt.cell {W : World} {g : Nat} (h : TextsAt W g) (k : Nat) (hk : k < 4) : W.cell? ⟨g, k, none⟩ = some (.string (textK k)) := by
 rcases (by omega : k = 0 ∨ k = 1 ∨ k = 2 ∨ k = 3) with rfl | rfl | rfl | rfl
 ·exact ct h 0
 ·exact ct h 1
 ·exact ct h 2
 ·exact ct h 3
theorem eqSpots : api_Spot.f 10 [⟨13, 5, 2⟩, ⟨7, 5, 2⟩] [⟨13, 5, 2⟩, ⟨7, 5, 2⟩] = some true := by kernel_rfl
def awakeA.T4 : Bool × List (List Nat × List Nat) := (true, [([], []), ([], []), ([0, 1, 0], [0, 1]), ([2], [2]), ([3], [3]), ([3], [3]), ([3], [3]), ([], []), ([], []), ([7, 4, 2, 0, 1, 2, 3, 4, 7, 8], [4, 7]), ([8, 5, 9, 0, 1, 2, 3, 4, 5, 7, 8, 9], [5, 8]), ([6, 10, 0, 1, 2, 3, 4, 5, 6, 7, 8, 9, 10], [6])])
def awakeA.B4 : List Nat := [0, 0, 3, 7, 15, 15, 15, 0, 0, 415, 959, 2047]
theorem awakeA.tab4 : rtab .any (opsOf Tryz.f14 4) = awakeA.T4 := by kernel_rfl
theorem awakeA.bits4 : waitsOk awakeA.T4.2 awakeA.B4 = true := by kernel_rfl
def awakeB.T17 : Bool × List (List Nat × List Nat) := (true, [([], []), ([], []), ([], []), ([0, 1, 2, 0], [0, 1, 2]), ([3], [3]), ([4], [4]), ([4], [4]), ([4], [4]), ([], []), ([8, 5, 3, 0, 1, 2, 3, 4, 5, 8], [5, 8]), ([6, 9, 0, 1, 2, 3, 4, 5, 6, 8, 9], [6]), ([7, 10, 0, 1, 2, 3, 4, 5, 6, 7, 8, 9, 10], [7])])
def awakeB.B17 : List Nat := [0, 0, 0, 7, 15, 31, 31, 31, 0, 319, 895, 2047]
theorem awakeB.tab17 : rtab .any (opsOf Tryz.f14 17) = awakeB.T17 := by kernel_rfl
theorem awakeB.bits17 : waitsOk awakeB.T17.2 awakeB.B17 = true := by kernel_rfl
set_option maxHeartbeats 16000000 in
set_option maxRecDepth 100000 in
theorem awake_calls (w : World) (hG : GW w) : Calls Tryz.prog 14 #[] w fun e w' => e = .returned (.bool true) ∧ Below w.heap.size w w' := by
 have hu23 := Tryz.underlying23
 have hu26 := Tryz.underlying26
 have hu47 := Tryz.underlying47
 have hu60 := Tryz.underlying60
 have hu65 := Tryz.underlying65
 have hu67 := Tryz.underlying67
 have hu74 := Tryz.underlying74
 have hu76 := Tryz.underlying76
 have hu94 := Tryz.underlying94
 have HG := mk0 hG
 clear hG
 have C0 := mk0 (blk_new w (.cells #[.int .i64 10, .int .i64 5, .int .i64 2] 23))
 have B0 := mk0 (below_alloc (Below.refl w.heap.size w) (.cells #[.int .i64 10, .int .i64 5, .int .i64 2] 23))
 have M1 : Aside0 True := ⟨trivial⟩
 have M2 := M1
 have M3 := M1
 have M4 := M1
 have M5 := M1
 have M6 := M1
 have M7 := M1
 go_enter Tryz.func14, Tryz.ntmps14
 go_wp2_with (first | (go_at_call 36; clear M1; refine (plate_calls _).mono ?_; rintro e W1 ⟨_, rfl, ⟨Ap, cp, rfl, hp1, hp2⟩, hb⟩; have C1a := mk0 (blk_below C0.out hb); have B1a := mk0 (below_step B0.out hb); clear hb; have HP1 := mk0 hp1; have HP2 := mk0 hp2; clear hp1 hp2) | (go_at_call 15; clear M2; refine (pm12 _ _ _ HP1.out HP2.out).mono ?_; rintro e W2 ⟨rfl, hb⟩; have C2 := mk0 (blk_below C1a.out hb); have B2 := mk0 (below_step B1a.out hb); clear hb) | (go_at_call 36; clear M3; refine (plate_calls _).mono ?_; rintro e W1 ⟨_, rfl, ⟨Ap, cp, rfl, hp1, hp2⟩, hb⟩; have C2a := mk0 (blk_below C2.out hb); have B2a := mk0 (below_step B2.out hb); clear hb; clear HP1 HP2; have HP1 := mk0 hp1; have HP2 := mk0 hp2; clear hp1 hp2) | (go_at_call 15; clear M4; refine (pm13 _ _ _ HP1.out HP2.out).mono ?_; rintro e W3 ⟨rfl, hb⟩; have C3 := mk0 (blk_below C2a.out hb); have B3 := mk0 (below_step B2a.out hb); clear hb))
 have B := mk0 (below_drew1 B3.out)
 have C1 := mk0 (blk_drew C3.out)
 refine start_ (n := 12) (S := fun w' => True) (ds := []) #[false, false, false, false, false, false, false, false, false, false, false, false] (by kernel_rfl) rfl rfl trivial (fun hHeld => ?_); refine with_tabW awakeA.tab4 awakeA.bits4 (fun HT_ HW_ => ?_)
 generalize W3.drew = wd at B C1 hHeld ⊢
 refine inv_at [0, 1, 2, 3, 4, 5, 6, 7, 8, 9, 10, 11] (fun a0_ b a w' => ∃ (p_ : Value) (g5_ : Nat) (g6_ : Nat) (m7_ : Value) (m8_ : Value), a = putSel a0_ b [(0, 33, p_), (1, 34, .agg #[.int .i64 10, .int .i64 5, .int .i64 2]), (2, 35, .tuple #[.agg #[.int .i64 13, .int .i64 5, .int .i64 2], .agg #[.int .i64 12, .int .i64 5, .int .i64 2], .int .i64 0]), (3, 32, .tuple #[.agg #[.int .i64 13, .int .i64 5, .int .i64 2], .agg #[.int .i64 12, .int .i64 5, .int .i64 2], .int .i64 0]), (4, 36, .agg #[.int .i64 13, .int .i64 5, .int .i64 2]), (5, 37, .agg #[.int .i64 12, .int .i64 5, .int .i64 2]), (6, 38, .int .i64 0), (7, 6, m7_), (8, 7, m8_), (11, 8, .int .i64 0)] ∧ (Below w.heap.size w w') ∧ (w'.heap[w.heap.size]? = some (.cells #[.int .i64 10, .int .i64 5, .int .i64 2] 23 (0, 0))) ∧ (b 0 = true → b 2 = false → PlateAt w' p_) ∧ (b 7 = true → b 9 = false → w'.heap[g5_]? = some (.cells #[.int .i64 0, .int .i64 0, .int .i64 0] 23 (0, 0))) ∧ (b 7 = true → w.heap.size < g5_) ∧ (b 8 = true → b 10 = false → w'.heap[g6_]? = some (.cells #[.int .i64 0, .int .i64 0, .int .i64 0] 23 (0, 0))) ∧ (b 8 = true → w.heap.size < g6_) ∧ (b 7 = true → b 8 = true → g5_ ≠ g6_) ∧ (b 9 = true → w'.heap[g5_]? = some (.cells #[.int .i64 13, .int .i64 5, .int .i64 2] 23 (0, 0))) ∧ (b 10 = true → w'.heap[g6_]? = some (.cells #[.int .i64 12, .int .i64 5, .int .i64 2] 23 (0, 0))) ∧ (b 7 = true → (m7_ : Value) = .pointer (some ⟨g5_, 0, none⟩)) ∧ (b 8 = true → (m8_ : Value) = .pointer (some ⟨g6_, 0, none⟩))) HT_.out HW_.out (by kernel_rfl) (by kernel_rfl) ?_ ?_ ?_
 ·exact ⟨.bool false, 0, 0, .bool false, .bool false, by simp only [putSel, Bool.false_eq_true, if_false], B.out, C1.out, fun h_ => absurd h_ (by decide), fun h_ => absurd h_ (by decide), fun h_ => absurd h_ (by decide), fun h_ => absurd h_ (by decide), fun h_ => absurd h_ (by decide), fun h_ => absurd h_ (by decide), fun h_ => absurd h_ (by decide), fun h_ => absurd h_ (by decide), fun h_ => absurd h_ (by decide), fun h_ => absurd h_ (by decide)⟩
 ·skip
  clear B C1
  refine steps_cons ?_ ?_
  ·rintro b a w' ⟨p_, g5_, g6_, m7_, m8_, ha, Q_B, Q_C1, Q_PL, Q_A5, Q_G5, Q_A6, Q_G6, Q_N56, Q_S5, Q_S6, Q_X7_, Q_X8_⟩ hb_ hon hoff
   refine ⟨_, rfl, fun K hK => ?_⟩
   replace ha := mk0 ha
   have B := mk0 Q_B
   have C1 := mk0 Q_C1
   refine goes_ Tryz.func36 (by kernel_rfl) rfl #[] (by rfl) rfl rfl (by first | (simp only [List.map_toArray, List.map_cons, List.map_nil, Act.eval, Array.getD_eq_getD_getElem?, Option.getD_some]; done) | (simp only [List.map_toArray, List.map_cons, List.map_nil, Act.eval, Array.getD_eq_getD_getElem?, Option.getD_some]; rfl)) ?_
   refine (plate_calls _).mono ?_
   rintro e w8 ⟨v6_, rfl, hPL, hb⟩
   refine ⟨_, rfl, ?_⟩
   refine hK.out _ _ ⟨v6_, g5_, g6_, m7_, m8_, (by rw [ha.out]; exact putSel_upk 0 hb_ rfl rfl rfl), below_step B.out hb, blk_below C1.out hb, fun _ _ => hPL, fun h0_ h1_ => blk_below (Q_A5 h0_ h1_) hb, Q_G5, fun h0_ h1_ => blk_below (Q_A6 h0_ h1_) hb, Q_G6, Q_N56, fun h0_ => absurd ((hoff 9 (by kernel_rfl)).symm.trans h0_) (by decide), fun h0_ => absurd ((hoff 10 (by kernel_rfl)).symm.trans h0_) (by decide), Q_X7_, Q_X8_⟩
  refine steps_cons ?_ ?_
  ·rintro b a w' ⟨p_, g5_, g6_, m7_, m8_, ha, Q_B, Q_C1, Q_PL, Q_A5, Q_G5, Q_A6, Q_G6, Q_N56, Q_S5, Q_S6, Q_X7_, Q_X8_⟩ hb_ hon hoff
   refine ⟨_, rfl, fun K hK => ?_⟩
   have e1 : a.tmps[1]? = some (.pointer (some ⟨w.heap.size, 0, none⟩)) := by rw [ha]; exact (putSel_off rfl).trans rfl
   replace ha := mk0 ha
   have B := mk0 Q_B
   have C1 := mk0 Q_C1
   have hc0_ : w'.cell? ⟨w.heap.size, 0, none⟩ = some (.int .i64 10) := ct C1.out 0
   have hc1_ : w'.cell? ⟨w.heap.size, 1, none⟩ = some (.int .i64 5) := ct C1.out 1
   have hc2_ : w'.cell? ⟨w.heap.size, 2, none⟩ = some (.int .i64 2) := ct C1.out 2
   refine value_ (w1 := w') (v := .agg #[.int .i64 10, .int .i64 5, .int .i64 2]) (by rfl) rfl ?_ ?_
   ·go_simp
    (try simp only [i64_w])
    try rfl
   refine hK.out _ _ ⟨p_, g5_, g6_, m7_, m8_, (by rw [ha.out]; exact putSel_upk 1 hb_ rfl rfl rfl), Q_B, Q_C1, Q_PL, Q_A5, Q_G5, Q_A6, Q_G6, Q_N56, fun h0_ => absurd ((hoff 9 (by kernel_rfl)).symm.trans h0_) (by decide), fun h0_ => absurd ((hoff 10 (by kernel_rfl)).symm.trans h0_) (by decide), Q_X7_, Q_X8_⟩
  refine steps_cons ?_ ?_
  ·rintro b a w' ⟨p_, g5_, g6_, m7_, m8_, ha, Q_B, Q_C1, Q_PL, Q_A5, Q_G5, Q_A6, Q_G6, Q_N56, Q_S5, Q_S6, Q_X7_, Q_X8_⟩ hb_ hon hoff
   refine ⟨_, rfl, fun K hK => ?_⟩
   have e33 : a.tmps[33]? = some (p_) := by rw [ha]; exact putSel_on (e := (0, 33, p_)) 0 rfl rfl (hon 0 (by kernel_rfl)) rfl
   have e34 : a.tmps[34]? = some (.agg #[.int .i64 10, .int .i64 5, .int .i64 2]) := by rw [ha]; exact putSel_on (e := (1, 34, .agg #[.int .i64 10, .int .i64 5, .int .i64 2])) 1 rfl rfl (hon 1 (by kernel_rfl)) rfl
   replace ha := mk0 ha
   have B := mk0 Q_B
   have C1 := mk0 Q_C1
   have PL := mk0 (Q_PL (hon 0 (by kernel_rfl)) hb_)
   obtain ⟨Ap_, cp_, rfl, hp1_, hp2_⟩ := PL.out
   refine goes_ Tryz.func19 (by kernel_rfl) rfl #[.agg #[.int .i64 0, .int .i64 0, .int .i64 0, .int .i64 20, .int .i64 10, .int .i64 4, .slice Ap_ 1 cp_], .agg #[.int .i64 10, .int .i64 5, .int .i64 2], .int .i64 0] (by rfl) rfl rfl (by first | (simp only [List.map_toArray, List.map_cons, List.map_nil, Act.eval, Array.getD_eq_getD_getElem?, Option.getD_some, e33, e34]; done) | (simp only [List.map_toArray, List.map_cons, List.map_nil, Act.eval, Array.getD_eq_getD_getElem?, Option.getD_some, e33, e34]; rfl)) ?_
   refine (pt0 _ _ _ hp1_ hp2_).mono ?_
   rintro e w8 ⟨rfl, hb⟩
   refine ⟨_, rfl, ?_⟩
   refine hK.out _ _ ⟨.agg #[.int .i64 0, .int .i64 0, .int .i64 0, .int .i64 20, .int .i64 10, .int .i64 4, .slice Ap_ 1 cp_], g5_, g6_, m7_, m8_, (by rw [ha.out]; exact putSel_upk 2 hb_ rfl rfl rfl), below_step B.out hb, blk_below C1.out hb, fun _ h1_ => absurd ((up_self b 2).symm.trans h1_) (by decide), fun h0_ h1_ => blk_below (Q_A5 h0_ h1_) hb, Q_G5, fun h0_ h1_ => blk_below (Q_A6 h0_ h1_) hb, Q_G6, Q_N56, fun h0_ => absurd ((hoff 9 (by kernel_rfl)).symm.trans h0_) (by decide), fun h0_ => absurd ((hoff 10 (by kernel_rfl)).symm.trans h0_) (by decide), Q_X7_, Q_X8_⟩
  refine steps_cons ?_ ?_
  ·rintro b a w' ⟨p_, g5_, g6_, m7_, m8_, ha, Q_B, Q_C1, Q_PL, Q_A5, Q_G5, Q_A6, Q_G6, Q_N56, Q_S5, Q_S6, Q_X7_, Q_X8_⟩ hb_ hon hoff
   refine ⟨_, rfl, fun K hK => ?_⟩
   have e35 : a.tmps[35]? = some (.tuple #[.agg #[.int .i64 13, .int .i64 5, .int .i64 2], .agg #[.int .i64 12, .int .i64 5, .int .i64 2], .int .i64 0]) := by rw [ha]; exact putSel_on (e := (2, 35, .tuple #[.agg #[.int .i64 13, .int .i64 5, .int .i64 2], .agg #[.int .i64 12, .int .i64 5, .int .i64 2], .int .i64 0])) 2 rfl rfl (hon 2 (by kernel_rfl)) rfl
   replace ha := mk0 ha
   have B := mk0 Q_B
   have C1 := mk0 Q_C1
   refine value_ (w1 := w') (v := .tuple #[.agg #[.int .i64 13, .int .i64 5, .int .i64 2], .agg #[.int .i64 12, .int .i64 5, .int .i64 2], .int .i64 0]) (by rfl) rfl ?_ ?_
   ·go_simp
    (try simp only [i64_w])
    try rfl
   refine hK.out _ _ ⟨p_, g5_, g6_, m7_, m8_, (by rw [ha.out]; exact putSel_upk 3 hb_ rfl rfl rfl), Q_B, Q_C1, fun _ h1_ => absurd ((hon 2 (by kernel_rfl)).symm.trans h1_) (by decide), Q_A5, Q_G5, Q_A6, Q_G6, Q_N56, fun h0_ => absurd ((hoff 9 (by kernel_rfl)).symm.trans h0_) (by decide), fun h0_ => absurd ((hoff 10 (by kernel_rfl)).symm.trans h0_) (by decide), Q_X7_, Q_X8_⟩
  refine steps_cons ?_ ?_
  ·rintro b a w' ⟨p_, g5_, g6_, m7_, m8_, ha, Q_B, Q_C1, Q_PL, Q_A5, Q_G5, Q_A6, Q_G6, Q_N56, Q_S5, Q_S6, Q_X7_, Q_X8_⟩ hb_ hon hoff
   refine ⟨_, rfl, fun K hK => ?_⟩
   have e32 : a.tmps[32]? = some (.tuple #[.agg #[.int .i64 13, .int .i64 5, .int .i64 2], .agg #[.int .i64 12, .int .i64 5, .int .i64 2], .int .i64 0]) := by rw [ha]; exact putSel_on (e := (3, 32, .tuple #[.agg #[.int .i64 13, .int .i64 5, .int .i64 2], .agg #[.int .i64 12, .int .i64 5, .int .i64 2], .int .i64 0])) 3 rfl rfl (hon 3 (by kernel_rfl)) rfl
   replace ha := mk0 ha
   have B := mk0 Q_B
   have C1 := mk0 Q_C1
   refine value_ (w1 := w') (v := .agg #[.int .i64 13, .int .i64 5, .int .i64 2]) (by rfl) rfl ?_ ?_
   ·go_simp
    (try simp only [i64_w])
    try rfl
   refine hK.out _ _ ⟨p_, g5_, g6_, m7_, m8_, (by rw [ha.out]; exact putSel_upk 4 hb_ rfl rfl rfl), Q_B, Q_C1, fun _ h1_ => absurd ((hon 2 (by kernel_rfl)).symm.trans h1_) (by decide), Q_A5, Q_G5, Q_A6, Q_G6, Q_N56, fun h0_ => absurd ((hoff 9 (by kernel_rfl)).symm.trans h0_) (by decide), fun h0_ => absurd ((hoff 10 (by kernel_rfl)).symm.trans h0_) (by decide), Q_X7_, Q_X8_⟩
  refine steps_cons ?_ ?_
  ·rintro b a w' ⟨p_, g5_, g6_, m7_, m8_, ha, Q_B, Q_C1, Q_PL, Q_A5, Q_G5, Q_A6, Q_G6, Q_N56, Q_S5, Q_S6, Q_X7_, Q_X8_⟩ hb_ hon hoff
   refine ⟨_, rfl, fun K hK => ?_⟩
   have e32 : a.tmps[32]? = some (.tuple #[.agg #[.int .i64 13, .int .i64 5, .int .i64 2], .agg #[.int .i64 12, .int .i64 5, .int .i64 2], .int .i64 0]) := by rw [ha]; exact putSel_on (e := (3, 32, .tuple #[.agg #[.int .i64 13, .int .i64 5, .int .i64 2], .agg #[.int .i64 12, .int .i64 5, .int .i64 2], .int .i64 0])) 3 rfl rfl (hon 3 (by kernel_rfl)) rfl
   replace ha := mk0 ha
   have B := mk0 Q_B
   have C1 := mk0 Q_C1
   refine value_ (w1 := w') (v := .agg #[.int .i64 12, .int .i64 5, .int .i64 2]) (by rfl) rfl ?_ ?_
   ·go_simp
    (try simp only [i64_w])
    try rfl
   refine hK.out _ _ ⟨p_, g5_, g6_, m7_, m8_, (by rw [ha.out]; exact putSel_upk 5 hb_ rfl rfl rfl), Q_B, Q_C1, fun _ h1_ => absurd ((hon 2 (by kernel_rfl)).symm.trans h1_) (by decide), Q_A5, Q_G5, Q_A6, Q_G6, Q_N56, Q_S5, fun h0_ => absurd ((hoff 10 (by kernel_rfl)).symm.trans h0_) (by decide), Q_X7_, Q_X8_⟩
  refine steps_cons ?_ ?_
  ·rintro b a w' ⟨p_, g5_, g6_, m7_, m8_, ha, Q_B, Q_C1, Q_PL, Q_A5, Q_G5, Q_A6, Q_G6, Q_N56, Q_S5, Q_S6, Q_X7_, Q_X8_⟩ hb_ hon hoff
   refine ⟨_, rfl, fun K hK => ?_⟩
   have e32 : a.tmps[32]? = some (.tuple #[.agg #[.int .i64 13, .int .i64 5, .int .i64 2], .agg #[.int .i64 12, .int .i64 5, .int .i64 2], .int .i64 0]) := by rw [ha]; exact putSel_on (e := (3, 32, .tuple #[.agg #[.int .i64 13, .int .i64 5, .int .i64 2], .agg #[.int .i64 12, .int .i64 5, .int .i64 2], .int .i64 0])) 3 rfl rfl (hon 3 (by kernel_rfl)) rfl
   replace ha := mk0 ha
   have B := mk0 Q_B
   have C1 := mk0 Q_C1
   refine value_ (w1 := w') (v := .int .i64 0) (by rfl) rfl ?_ ?_
   ·go_simp
    (try simp only [i64_w])
    try rfl
   refine hK.out _ _ ⟨p_, g5_, g6_, m7_, m8_, (by rw [ha.out]; exact putSel_upk 6 hb_ rfl rfl rfl), Q_B, Q_C1, fun _ h1_ => absurd ((hon 2 (by kernel_rfl)).symm.trans h1_) (by decide), Q_A5, Q_G5, Q_A6, Q_G6, Q_N56, Q_S5, Q_S6, Q_X7_, Q_X8_⟩
  refine steps_cons ?_ ?_
  ·rintro b a w' ⟨p_, g5_, g6_, m7_, m8_, ha, Q_B, Q_C1, Q_PL, Q_A5, Q_G5, Q_A6, Q_G6, Q_N56, Q_S5, Q_S6, Q_X7_, Q_X8_⟩ hb_ hon hoff
   refine ⟨_, rfl, fun K hK => ?_⟩
   replace ha := mk0 ha
   have B := mk0 Q_B
   have C1 := mk0 Q_C1
   refine box_step ?hg (N := 6) ?hd (cs := #[.int .i64 0, .int .i64 0, .int .i64 0]) (t := 23) ?hr ?_; (case hd => rfl); (case hg => rfl); (case hr => first | (go_simp; done) | (go_simp; rfl))
   intro gn_ hg w8 hbox hb
   refine hK.out _ _ ⟨p_, gn_, g6_, (.pointer (some ⟨gn_, 0, none⟩)), m8_, (by rw [ha.out]; exact putSel_upk 7 hb_ rfl rfl rfl), below_step B.out hb, blk_below C1.out hb, fun h0_ h1_ => (Q_PL h0_ h1_).below hb, fun _ _ => hbox, fun _ => (by rw [hg]; exact blk_lt C1.out), fun h0_ h1_ => blk_below (Q_A6 h0_ h1_) hb, Q_G6, fun _ h1_ => (by rw [hg]; exact Nat.ne_of_gt (show g6_ < w'.heap.size from blk_lt (Q_A6 h1_ (hoff 10 (by kernel_rfl))))), fun h0_ => absurd ((hoff 9 (by kernel_rfl)).symm.trans h0_) (by decide), fun h0_ => absurd ((hoff 10 (by kernel_rfl)).symm.trans h0_) (by decide), fun _ => rfl, Q_X8_⟩
  refine steps_cons ?_ ?_
  ·rintro b a w' ⟨p_, g5_, g6_, m7_, m8_, ha, Q_B, Q_C1, Q_PL, Q_A5, Q_G5, Q_A6, Q_G6, Q_N56, Q_S5, Q_S6, Q_X7_, Q_X8_⟩ hb_ hon hoff
   refine ⟨_, rfl, fun K hK => ?_⟩
   replace ha := mk0 ha
   have B := mk0 Q_B
   have C1 := mk0 Q_C1
   refine box_step ?hg (N := 7) ?hd (cs := #[.int .i64 0, .int .i64 0, .int .i64 0]) (t := 23) ?hr ?_; (case hd => rfl); (case hg => rfl); (case hr => first | (go_simp; done) | (go_simp; rfl))
   intro gn_ hg w8 hbox hb
   refine hK.out _ _ ⟨p_, g5_, gn_, m7_, (.pointer (some ⟨gn_, 0, none⟩)), (by rw [ha.out]; exact putSel_upk 8 hb_ rfl rfl rfl), below_step B.out hb, blk_below C1.out hb, fun h0_ h1_ => (Q_PL h0_ h1_).below hb, fun h0_ h1_ => blk_below (Q_A5 h0_ h1_) hb, Q_G5, fun _ _ => hbox, fun _ => (by rw [hg]; exact blk_lt C1.out), fun h0_ _ => (by rw [hg]; exact Nat.ne_of_lt (show g5_ < w'.heap.size from blk_lt (Q_A5 h0_ (hoff 9 (by kernel_rfl))))), fun h0_ => absurd ((hoff 9 (by kernel_rfl)).symm.trans h0_) (by decide), fun h0_ => absurd ((hoff 10 (by kernel_rfl)).symm.trans h0_) (by decide), Q_X7_, fun _ => rfl⟩
  refine steps_cons ?_ ?_
  ·rintro b a w' ⟨p_, g5_, g6_, m7_, m8_, ha, Q_B, Q_C1, Q_PL, Q_A5, Q_G5, Q_A6, Q_G6, Q_N56, Q_S5, Q_S6, Q_X7_, Q_X8_⟩ hb_ hon hoff
   refine ⟨_, rfl, fun K hK => ?_⟩
   have e6 : a.tmps[6]? = some (m7_) := by rw [ha]; exact putSel_on (e := (7, 6, m7_)) 7 rfl rfl (hon 7 (by kernel_rfl)) rfl
   rw [Q_X7_ (hon 7 (by kernel_rfl))] at e6
   have e36 : a.tmps[36]? = some (.agg #[.int .i64 13, .int .i64 5, .int .i64 2]) := by rw [ha]; exact putSel_on (e := (4, 36, .agg #[.int .i64 13, .int .i64 5, .int .i64 2])) 4 rfl rfl (hon 4 (by kernel_rfl)) rfl
   replace ha := mk0 ha
   have B := mk0 Q_B
   have C1 := mk0 Q_C1
   have A5 := mk0 (Q_A5 (hon 7 (by kernel_rfl)) hb_)
   have G5 := mk0 (Q_G5 (hon 7 (by kernel_rfl)))
   have A6 := mk0 (Q_A6 (hon 8 (by kernel_rfl)) (hoff 10 (by kernel_rfl)))
   have G6 := mk0 (Q_G6 (hon 8 (by kernel_rfl)))
   have N56 := mk0 (Q_N56 (hon 7 (by kernel_rfl)) (hon 8 (by kernel_rfl)))
   have hs0_ : w'.cell? ⟨g5_, 0, none⟩ = some (.int .i64 0) := ct A5.out 0
   have hs1_ : w'.cell? ⟨g5_, 1, none⟩ = some (.int .i64 0) := ct A5.out 1
   have hs2_ : w'.cell? ⟨g5_, 2, none⟩ = some (.int .i64 0) := ct A5.out 2
   have hf0_ := blk_frozen A5.out 0
   have hf1_ := blk_frozen A5.out 1
   have hf2_ := blk_frozen A5.out 2
   refine skip_ (w1 := ?_) (by rfl) rfl ?_ ?_
   rotate_left
   ·go_simp
    rfl
   refine hK.out _ _ ⟨p_, g5_, g6_, m7_, m8_, (by rw [ha.out]; exact putSel_none (v := undef) rfl), (((B.out.setCell (Nat.le_of_lt G5.out) _).setCell (Nat.le_of_lt G5.out) _).setCell (Nat.le_of_lt G5.out) _), far3 C1.out (Nat.ne_of_lt G5.out), fun _ h1_ => absurd ((hon 2 (by kernel_rfl)).symm.trans h1_) (by decide), fun _ h1_ => absurd ((up_self b 9).symm.trans h1_) (by decide), Q_G5, fun _ _ => far3 A6.out (Ne.symm N56.out), Q_G6, Q_N56, fun _ => blk_put (blk_put (blk_put A5.out 0 _ rfl) 1 _ rfl) 2 _ rfl, fun h0_ => absurd ((hoff 10 (by kernel_rfl)).symm.trans h0_) (by decide), Q_X7_, Q_X8_⟩
  refine steps_cons ?_ ?_
  ·rintro b a w' ⟨p_, g5_, g6_, m7_, m8_, ha, Q_B, Q_C1, Q_PL, Q_A5, Q_G5, Q_A6, Q_G6, Q_N56, Q_S5, Q_S6, Q_X7_, Q_X8_⟩ hb_ hon hoff
   refine ⟨_, rfl, fun K hK => ?_⟩
   have e7 : a.tmps[7]? = some (m8_) := by rw [ha]; exact putSel_on (e := (8, 7, m8_)) 8 rfl rfl (hon 8 (by kernel_rfl)) rfl
   rw [Q_X8_ (hon 8 (by kernel_rfl))] at e7
   have e37 : a.tmps[37]? = some (.agg #[.int .i64 12, .int .i64 5, .int .i64 2]) := by rw [ha]; exact putSel_on (e := (5, 37, .agg #[.int .i64 12, .int .i64 5, .int .i64 2])) 5 rfl rfl (hon 5 (by kernel_rfl)) rfl
   replace ha := mk0 ha
   have B := mk0 Q_B
   have C1 := mk0 Q_C1
   have G5 := mk0 (Q_G5 (hon 7 (by kernel_rfl)))
   have A6 := mk0 (Q_A6 (hon 8 (by kernel_rfl)) hb_)
   have G6 := mk0 (Q_G6 (hon 8 (by kernel_rfl)))
   have N56 := mk0 (Q_N56 (hon 7 (by kernel_rfl)) (hon 8 (by kernel_rfl)))
   have S5 := mk0 (Q_S5 (hon 9 (by kernel_rfl)))
   have hs0_ : w'.cell? ⟨g6_, 0, none⟩ = some (.int .i64 0) := ct A6.out 0
   have hs1_ : w'.cell? ⟨g6_, 1, none⟩ = some (.int .i64 0) := ct A6.out 1
   have hs2_ : w'.cell? ⟨g6_, 2, none⟩ = some (.int .i64 0) := ct A6.out 2
   have hf0_ := blk_frozen A6.out 0
   have hf1_ := blk_frozen A6.out 1
   have hf2_ := blk_frozen A6.out 2
   refine skip_ (w1 := ?_) (by rfl) rfl ?_ ?_
   rotate_left
   ·go_simp
    rfl
   refine hK.out _ _ ⟨p_, g5_, g6_, m7_, m8_, (by rw [ha.out]; exact putSel_none (v := undef) rfl), (((B.out.setCell (Nat.le_of_lt G6.out) _).setCell (Nat.le_of_lt G6.out) _).setCell (Nat.le_of_lt G6.out) _), far3 C1.out (Nat.ne_of_lt G6.out), fun _ h1_ => absurd ((hon 2 (by kernel_rfl)).symm.trans h1_) (by decide), fun _ h1_ => absurd ((hon 9 (by kernel_rfl)).symm.trans h1_) (by decide), Q_G5, fun _ h1_ => absurd ((up_self b 10).symm.trans h1_) (by decide), Q_G6, Q_N56, fun _ => far3 S5.out N56.out, fun _ => blk_put (blk_put (blk_put A6.out 0 _ rfl) 1 _ rfl) 2 _ rfl, Q_X7_, Q_X8_⟩
  refine steps_cons ?_ ?_
  ·rintro b a w' ⟨p_, g5_, g6_, m7_, m8_, ha, Q_B, Q_C1, Q_PL, Q_A5, Q_G5, Q_A6, Q_G6, Q_N56, Q_S5, Q_S6, Q_X7_, Q_X8_⟩ hb_ hon hoff
   refine ⟨_, rfl, fun K hK => ?_⟩
   have e38 : a.tmps[38]? = some (.int .i64 0) := by rw [ha]; exact putSel_on (e := (6, 38, .int .i64 0)) 6 rfl rfl (hon 6 (by kernel_rfl)) rfl
   replace ha := mk0 ha
   have B := mk0 Q_B
   have C1 := mk0 Q_C1
   have G5 := mk0 (Q_G5 (hon 7 (by kernel_rfl)))
   have G6 := mk0 (Q_G6 (hon 8 (by kernel_rfl)))
   have N56 := mk0 (Q_N56 (hon 7 (by kernel_rfl)) (hon 8 (by kernel_rfl)))
   have S5 := mk0 (Q_S5 (hon 9 (by kernel_rfl)))
   have S6 := mk0 (Q_S6 (hon 10 (by kernel_rfl)))
   refine value_ (w1 := w') (v := .int .i64 0) (by rfl) rfl ?_ ?_
   ·go_simp
    (try simp only [i64_w])
    try rfl
   refine hK.out _ _ ⟨p_, g5_, g6_, m7_, m8_, (by rw [ha.out]; exact putSel_upk 9 hb_ rfl rfl rfl), Q_B, Q_C1, fun _ h1_ => absurd ((hon 2 (by kernel_rfl)).symm.trans h1_) (by decide), fun _ h1_ => absurd ((hon 9 (by kernel_rfl)).symm.trans h1_) (by decide), Q_G5, fun _ h1_ => absurd ((hon 10 (by kernel_rfl)).symm.trans h1_) (by decide), Q_G6, Q_N56, Q_S5, Q_S6, Q_X7_, Q_X8_⟩
  exact steps_nil
 rintro b a W4 hall ⟨p_, g5_, g6_, m7_, m8_, ha, Q_B, Q_C1, Q_PL, Q_A5, Q_G5, Q_A6, Q_G6, Q_N56, Q_S5, Q_S6, Q_X7_, Q_X8_⟩
 clear B C1
 have hb0_ := hall 0 (by kernel_rfl)
 have hb1_ := hall 1 (by kernel_rfl)
 have hb2_ := hall 2 (by kernel_rfl)
 have hb3_ := hall 3 (by kernel_rfl)
 have hb4_ := hall 4 (by kernel_rfl)
 have hb5_ := hall 5 (by kernel_rfl)
 have hb6_ := hall 6 (by kernel_rfl)
 have hb7_ := hall 7 (by kernel_rfl)
 have hb8_ := hall 8 (by kernel_rfl)
 have hb9_ := hall 9 (by kernel_rfl)
 have hb10_ := hall 10 (by kernel_rfl)
 have hb11_ := hall 11 (by kernel_rfl)
 subst ha
 obtain rfl := Q_X7_ hb7_
 obtain rfl := Q_X8_ hb8_
 simp only [putSel, hb0_, hb1_, hb2_, hb3_, hb4_, hb5_, hb6_, hb7_, hb8_, hb9_, hb10_, hb11_, if_true, Act.put, List.setIfInBounds_toArray, List.set_cons_zero, List.set_cons_succ]
 have B := mk0 Q_B
 clear Q_B
 have C1 := mk0 Q_C1
 clear Q_C1
 clear Q_PL
 clear Q_A5
 have G5 := mk0 (Q_G5 hb7_)
 clear Q_G5
 clear Q_A6
 have G6 := mk0 (Q_G6 hb8_)
 clear Q_G6
 have N56 := mk0 (Q_N56 hb7_ hb8_)
 clear Q_N56
 have S5 := mk0 (Q_S5 hb9_)
 clear Q_S5
 have S6 := mk0 (Q_S6 hb10_)
 clear Q_S6
 clear hall hb0_ hb1_ hb2_ hb3_ hb4_ hb5_ hb6_ hb7_ hb8_ hb9_ hb10_ hb11_
 go_wp2_with (first | (go_at_call 36; clear M5; refine (plate_calls _).mono ?_; rintro e W5 ⟨_, rfl, ⟨Ap, cp, rfl, hp1, hp2⟩, hb⟩; have C1b := mk0 (blk_below C1.out hb); have B1b := mk0 (below_step B.out hb); have S5b := mk0 (blk_below S5.out hb); have S6b := mk0 (blk_below S6.out hb); clear hb HP1 HP2; have HP1 := mk0 hp1; have HP2 := mk0 hp2; clear hp1 hp2) | (go_at_call 19; clear M6; refine (pt5 _ _ _ HP1.out HP2.out).mono ?_; rintro e W6 ⟨rfl, hb⟩; have C2b := mk0 (blk_below C1b.out hb); have B2b := mk0 (below_step B1b.out hb); have S5c := mk0 (blk_below S5b.out hb); have S6c := mk0 (blk_below S6b.out hb); clear hb; have x0 := ct S5c.out 0; have x1 := ct S5c.out 1; have x2 := ct S5c.out 2; have y0 := ct S6c.out 0; have y1 := ct S6c.out 1; have y2 := ct S6c.out 2; have hl5 := blk_lt S5c.out; have hl6 := blk_lt S6c.out))
 have C3b := mk0 (blk_alloc (blk_alloc (blk_alloc C2b.out (.cells #[.int .i64 0, .int .i64 0, .int .i64 0] 23)) (.cells #[.int .i64 0, .int .i64 0, .int .i64 0] 23)) (.cells #[.string ⟨#[116, 111, 117, 99, 104, 32, 43, 88]⟩, .string ⟨#[109, 111, 118, 101, 32, 49, 48, 32, 53, 32, 50]⟩, .string ⟨#[116, 111, 117, 99, 104, 32, 45, 88]⟩, .string ⟨#[116, 97, 107, 101, 32, 104, 111, 108, 101]⟩] 9))
 have TB := mk0 (blk_newE (g := W6.heap.size + 1 + 1) ((W6.alloc (.cells #[.int .i64 0, .int .i64 0, .int .i64 0] 23)).alloc (.cells #[.int .i64 0, .int .i64 0, .int .i64 0] 23)) (.cells #[.string ⟨#[116, 111, 117, 99, 104, 32, 43, 88]⟩, .string ⟨#[109, 111, 118, 101, 32, 49, 48, 32, 53, 32, 50]⟩, .string ⟨#[116, 111, 117, 99, 104, 32, 45, 88]⟩, .string ⟨#[116, 97, 107, 101, 32, 104, 111, 108, 101]⟩] 9) (by simp))
 have B3b := mk0 (below_alloc (below_alloc (below_alloc B2b.out (.cells #[.int .i64 0, .int .i64 0, .int .i64 0] 23)) (.cells #[.int .i64 0, .int .i64 0, .int .i64 0] 23)) (.cells #[.string ⟨#[116, 111, 117, 99, 104, 32, 43, 88]⟩, .string ⟨#[109, 111, 118, 101, 32, 49, 48, 32, 53, 32, 50]⟩, .string ⟨#[116, 111, 117, 99, 104, 32, 45, 88]⟩, .string ⟨#[116, 97, 107, 101, 32, 104, 111, 108, 101]⟩] 9))
 clear x0 x1 x2 y0 y1 y2 hl5 hl6
 generalize (W6.alloc (.cells #[.int .i64 0, .int .i64 0, .int .i64 0] 23)).alloc (.cells #[.int .i64 0, .int .i64 0, .int .i64 0] 23) = Wx at C3b TB B3b ⊢
 generalize Wx.alloc (.cells #[.string ⟨#[116, 111, 117, 99, 104, 32, 43, 88]⟩, .string ⟨#[109, 111, 118, 101, 32, 49, 48, 32, 53, 32, 50]⟩, .string ⟨#[116, 111, 117, 99, 104, 32, 45, 88]⟩, .string ⟨#[116, 97, 107, 101, 32, 104, 111, 108, 101]⟩] 9) = Wl at C3b TB B3b ⊢
 go_loopw [12, 75] (fun v12 v75 wr => ∃ (k : Nat) (Al : Option Addr) (cl : Nat), k ≤ 4 ∧ v12 = .slice Al k cl ∧ v75 = .int .i64 k ∧ Aside0 (Kd.R k47 47 wr w.heap.size (fun _ => True) (.slice Al k cl) (steps4.take k)) ∧ Aside0 (Below w.heap.size w wr) ∧ Aside0 (wr.heap[w.heap.size]? = some (.cells #[.int .i64 10, .int .i64 5, .int .i64 2] 23 (0, 0))) ∧ Aside0 (TextsAt wr (W6.heap.size + 1 + 1))) (fun _ v75 _ => 4 - (intOf v75).toNat)
 case atStart => exact ⟨0, none, 0, by decide, rfl, rfl, ⟨Kd.R_nil _ _ _ _ _⟩, B3b, C3b, TB⟩
 case round =>
  obtain ⟨k, Al, cl, hk, rfl, rfl, HV, B, C1, TX⟩ := hrel
  by_cases hlt : k < 4
  ·have HK := mk0 hlt
   have tx := TX.out.cell k hlt
   go_wp2_with (first | (go_at_call 23; refine (pread k HK.out _ (GW_below HG.out B.out)).mono ?_; rintro e W8 ⟨rfl, hb⟩; have C8 := mk0 (blk_below C1.out hb); have B8 := mk0 (below_step B.out hb); have T8 := mk0 (TX.out.below hb); have V8 := mk0 (Kd.R_below HV.out hb); clear hb) | (at_builtin; refine Kd.R_append (w0 := w) k47 w.heap.size rfl (.tmp 86) (.tmp 88) 60 47 (.agg #[.int .i64 0, .int .i64 0, .int .i64 0, .int .i64 0, .int .i64 0, .string ⟨#[]⟩]) 56 rfl Tryz.underlying60 info47 rfl (by decide) (by decide) (.slice Al k cl) (steps4.take k) (stepK k) [.int .i64 (stepK k).f0, .int .i64 (stepK k).f1.f0, .int .i64 (stepK k).f1.f1, .int .i64 (stepK k).f1.f2, .int .i64 (stepK k).f2, .string (stepK k).f3] (fun _ => True) (fun _ => False) rfl (by first | (go_simp; done) | (go_simp; rfl)) ?aP (fun _ hk => hk.elim) (fun _ _ => trivial) ?aO ?aB ?aS ?aL ?_; (case aP => exact k47_mkM _ _ _ (stepK k)); (case aO => exact Kd.R_alloc V8.out _); (case aB => exact below_alloc B8.out _); (case aS => exact (below_alloc B8.out _).size); (case aL => (rw [List.length_take]; omega)); intro v1 w9 hR1 hb1 hg1 hat1))
   have R9 := mk0 hR1
   have B9 := mk0 hb1
   have C9 := mk0 ((hg1.block w.heap.size (blk_lt (blk_alloc C8.out _)) (Kd.R_ne V8.out C8.out (by decide))).trans (blk_alloc C8.out _))
   have T9 := mk0 (TextsAt.grown (T8.out.below (below_alloc (Below.refl _ _) _)) hg1 (Kd.R_ne V8.out T8.out (by decide)))
   clear hR1 hb1 hg1 hat1
   obtain ⟨A9, c9, e9⟩ := Kd.R_slice R9.out
   have hln : (steps4.take k ++ [stepK k]).length = k + 1 := by rw [← takeK k hlt]; simp [steps4]; omega
   rw [hln] at e9
   subst e9
   go_roundw
   case rel => exact ⟨k + 1, A9, c9, by omega, rfl, by go_num, ⟨by rw [takeK k hlt]; exact R9.out⟩, B9, C9, T9⟩
   case measure => simp [intOf]; omega
  ·obtain rfl : k = 4 := by omega
   go_wp2
   have ST := mk0 (show Kd.C k47 wr Al 4 steps4 from (Kd.R_reads' HV.out).2.2)
   have HCS : Aside0 (4 ≤ cl) := ⟨(Kd.R_reads' HV.out).2.1⟩
   clear HV TX HP1 HP2
   have B0k := B
   have C0k := C1
   clear B C1
   have B := mk0 (below_drew1 B0k.out)
   have C1 := mk0 (blk_drew C0k.out)
   have ST0 := ST
   clear ST
   have ST := mk0 (show Kd.C k47 wr.drew Al 4 steps4 from Kd.C_below ST0.out (below_drew1 (Below.refl _ _)))
   refine start_ (n := 12) (S := fun w' => True) (ds := []) #[false, false, false, false, false, false, false, false, false, false, false, false] (by kernel_rfl) rfl rfl trivial (fun hHeld => ?_); refine with_tabW awakeB.tab17 awakeB.bits17 (fun HT_ HW_ => ?_)
   generalize wr.drew = wd at B C1 ST hHeld ⊢
   refine pure_ (i := 2) (N := some 94) (v := ?_) (a' := ?_) #[false, false, true, false, false, false, false, false, false, false, false, false] rfl rfl (any_of HT_.out (by kernel_rfl)) (fun _ _ _ h => h) (Or.inl ⟨by rfl, ?_⟩) ?_ ?_
   rotate_left
   ·intro w'
    go_simp
    with_reducible rfl
   rotate_left
   ·simp only [Act.put, List.setIfInBounds_toArray, List.set_cons_zero, List.set_cons_succ, i64_w, i32_w]
    rfl
   refine inv_at [0, 1, 3, 4, 5, 6, 7, 8, 9, 10, 11] (fun a0_ b a w' => ∃ (p_ : Value) (v_ : Value) (g7_ : Nat) (m3_ : Value) (m4_ : Value) (m5_ : Value) (m8_ : Value), a = putSel a0_ b [(0, 92, p_), (1, 93, .agg #[.int .i64 10, .int .i64 5, .int .i64 2]), (3, 95, m3_), (4, 91, m4_), (5, 96, m5_), (6, 97, .int .i64 0), (7, 98, .int .i64 0), (8, 17, m8_), (10, 18, .int .i64 0), (11, 3, .int .i64 0)] ∧ (Below w.heap.size w w') ∧ (w'.heap[w.heap.size]? = some (.cells #[.int .i64 10, .int .i64 5, .int .i64 2] 23 (0, 0))) ∧ (b 0 = true → b 3 = false → PlateAt w' p_) ∧ (b 3 = false → Kd.C k47 w' Al 4 steps4) ∧ (b 3 = true → Kd.R k76 76 w' w.heap.size (fun _ => True) v_ [(⟨⟨#[104, 111, 108, 101]⟩, [⟨13, 5, 2⟩, ⟨7, 5, 2⟩]⟩ : S76)]) ∧ (b 8 = true → b 9 = false → w'.heap[g7_]? = some (.cells #[.string ⟨#[]⟩, .slice none 0 0] 67 (0, 0))) ∧ (b 8 = true → w.heap.size < g7_) ∧ (b 9 = true → w'.heap[g7_]? = some (.cells #[.string ⟨#[]⟩, v_] 67 (0, 0))) ∧ (b 3 = true → (m3_ : Value) = .tuple #[.agg #[.string ⟨#[]⟩, v_], .int .i64 0, .int .i64 0]) ∧ (b 4 = true → (m4_ : Value) = .tuple #[.agg #[.string ⟨#[]⟩, v_], .int .i64 0, .int .i64 0]) ∧ (b 5 = true → (m5_ : Value) = .agg #[.string ⟨#[]⟩, v_]) ∧ (b 8 = true → (m8_ : Value) = .pointer (some ⟨g7_, 0, none⟩))) HT_.out HW_.out (by kernel_rfl) (by kernel_rfl) ?_ ?_ ?_
   ·exact ⟨.bool false, .bool false, 0, .bool false, .bool false, .bool false, .bool false, by simp only [putSel, Bool.false_eq_true, if_false], B.out, C1.out, fun h_ => absurd h_ (by decide), fun _ => ST.out, fun h_ => absurd h_ (by decide), fun h_ => absurd h_ (by decide), fun h_ => absurd h_ (by decide), fun h_ => absurd h_ (by decide), fun h_ => absurd h_ (by decide), fun h_ => absurd h_ (by decide), fun h_ => absurd h_ (by decide), fun h_ => absurd h_ (by decide)⟩
   ·skip
    clear B C1 ST
    refine steps_cons ?_ ?_
    ·rintro b a w' ⟨p_, v_, g7_, m3_, m4_, m5_, m8_, ha, Q_B, Q_C1, Q_PL, Q_ST, Q_SV, Q_A7, Q_G7, Q_S7, Q_X3_, Q_X4_, Q_X5_, Q_X8_⟩ hb_ hon hoff
     refine ⟨_, rfl, fun K hK => ?_⟩
     replace ha := mk0 ha
     have B := mk0 Q_B
     have C1 := mk0 Q_C1
     have ST := mk0 (Q_ST (hoff 3 (by kernel_rfl)))
     refine goes_ Tryz.func36 (by kernel_rfl) rfl #[] (by rfl) rfl rfl (by first | (simp only [List.map_toArray, List.map_cons, List.map_nil, Act.eval, Array.getD_eq_getD_getElem?, Option.getD_some]; done) | (simp only [List.map_toArray, List.map_cons, List.map_nil, Act.eval, Array.getD_eq_getD_getElem?, Option.getD_some]; rfl)) ?_
     refine (plate_calls _).mono ?_
     rintro e w8 ⟨v6_, rfl, hPL, hb⟩
     refine ⟨_, rfl, ?_⟩
     refine hK.out _ _ ⟨v6_, v_, g7_, m3_, m4_, m5_, m8_, (by rw [ha.out]; exact putSel_upk 0 hb_ rfl rfl rfl), below_step B.out hb, blk_below C1.out hb, fun _ _ => hPL, fun _ => Kd.C_below ST.out hb, fun h0_ => absurd ((hoff 3 (by kernel_rfl)).symm.trans h0_) (by decide), fun h0_ h1_ => blk_below (Q_A7 h0_ h1_) hb, Q_G7, fun h0_ => absurd ((hoff 9 (by kernel_rfl)).symm.trans h0_) (by decide), fun h0_ => absurd ((hoff 3 (by kernel_rfl)).symm.trans h0_) (by decide), fun h0_ => absurd ((hoff 4 (by kernel_rfl)).symm.trans h0_) (by decide), fun h0_ => absurd ((hoff 5 (by kernel_rfl)).symm.trans h0_) (by decide), Q_X8_⟩
    refine steps_cons ?_ ?_
    ·rintro b a w' ⟨p_, v_, g7_, m3_, m4_, m5_, m8_, ha, Q_B, Q_C1, Q_PL, Q_ST, Q_SV, Q_A7, Q_G7, Q_S7, Q_X3_, Q_X4_, Q_X5_, Q_X8_⟩ hb_ hon hoff
     refine ⟨_, rfl, fun K hK => ?_⟩
     have e1 : a.tmps[1]? = some (.pointer (some ⟨w.heap.size, 0, none⟩)) := by rw [ha]; exact (putSel_off rfl).trans rfl
     replace ha := mk0 ha
     have B := mk0 Q_B
     have C1 := mk0 Q_C1
     have ST := mk0 (Q_ST (hoff 3 (by kernel_rfl)))
     have hc0_ : w'.cell? ⟨w.heap.size, 0, none⟩ = some (.int .i64 10) := ct C1.out 0
     have hc1_ : w'.cell? ⟨w.heap.size, 1, none⟩ = some (.int .i64 5) := ct C1.out 1
     have hc2_ : w'.cell? ⟨w.heap.size, 2, none⟩ = some (.int .i64 2) := ct C1.out 2
     refine value_ (w1 := w') (v := .agg #[.int .i64 10, .int .i64 5, .int .i64 2]) (by rfl) rfl ?_ ?_
     ·go_simp
      (try simp only [i64_w])
      try rfl
     refine hK.out _ _ ⟨p_, v_, g7_, m3_, m4_, m5_, m8_, (by rw [ha.out]; exact putSel_upk 1 hb_ rfl rfl rfl), Q_B, Q_C1, Q_PL, Q_ST, fun h0_ => absurd ((hoff 3 (by kernel_rfl)).symm.trans h0_) (by decide), Q_A7, Q_G7, fun h0_ => absurd ((hoff 9 (by kernel_rfl)).symm.trans h0_) (by decide), fun h0_ => absurd ((hoff 3 (by kernel_rfl)).symm.trans h0_) (by decide), fun h0_ => absurd ((hoff 4 (by kernel_rfl)).symm.trans h0_) (by decide), fun h0_ => absurd ((hoff 5 (by kernel_rfl)).symm.trans h0_) (by decide), Q_X8_⟩
    refine steps_cons ?_ ?_
    ·rintro b a w' ⟨p_, v_, g7_, m3_, m4_, m5_, m8_, ha, Q_B, Q_C1, Q_PL, Q_ST, Q_SV, Q_A7, Q_G7, Q_S7, Q_X3_, Q_X4_, Q_X5_, Q_X8_⟩ hb_ hon hoff
     refine ⟨_, rfl, fun K hK => ?_⟩
     have e92 : a.tmps[92]? = some (p_) := by rw [ha]; exact putSel_on (e := (0, 92, p_)) 0 rfl rfl (hon 0 (by kernel_rfl)) rfl
     have e93 : a.tmps[93]? = some (.agg #[.int .i64 10, .int .i64 5, .int .i64 2]) := by rw [ha]; exact putSel_on (e := (1, 93, .agg #[.int .i64 10, .int .i64 5, .int .i64 2])) 1 rfl rfl (hon 1 (by kernel_rfl)) rfl
     have e94 : a.tmps[94]? = some (.slice Al 4 cl) := by rw [ha]; exact (putSel_off rfl).trans rfl
     replace ha := mk0 ha
     have B := mk0 Q_B
     have C1 := mk0 Q_C1
     have PL := mk0 (Q_PL (hon 0 (by kernel_rfl)) hb_)
     have ST := mk0 (Q_ST hb_)
     obtain ⟨Ap_, cp_, rfl, hp1_, hp2_⟩ := PL.out
     refine goes_ Tryz.func30 (by kernel_rfl) rfl #[.agg #[.int .i64 0, .int .i64 0, .int .i64 0, .int .i64 20, .int .i64 10, .int .i64 4, .slice Ap_ 1 cp_], .agg #[.int .i64 10, .int .i64 5, .int .i64 2], .slice Al 4 cl] (by rfl) rfl rfl (by first | (simp only [List.map_toArray, List.map_cons, List.map_nil, Act.eval, Array.getD_eq_getD_getElem?, Option.getD_some, e92, e93, e94]; done) | (simp only [List.map_toArray, List.map_cons, List.map_nil, Act.eval, Array.getD_eq_getD_getElem?, Option.getD_some, e92, e93, e94]; rfl)) ?_
     refine (prun _ _ _ _ _ (GW_below HG.out B.out) hp1_ hp2_ ST.out HCS.out).mono ?_
     rintro e w8 ⟨v8_, rfl, hS, hb⟩
     refine ⟨_, rfl, ?_⟩
     refine hK.out _ _ ⟨.agg #[.int .i64 0, .int .i64 0, .int .i64 0, .int .i64 20, .int .i64 10, .int .i64 4, .slice Ap_ 1 cp_], v8_, g7_, (.tuple #[.agg #[.string ⟨#[]⟩, v8_], .int .i64 0, .int .i64 0]), m4_, m5_, m8_, (by rw [ha.out]; exact putSel_upk 2 hb_ rfl rfl rfl), below_step B.out hb, blk_below C1.out hb, fun _ h1_ => absurd ((up_self b 3).symm.trans h1_) (by decide), fun h0_ => absurd ((up_self b 3).symm.trans h0_) (by decide), fun _ => Kd.R_lower hS B.out.size, fun h0_ h1_ => blk_below (Q_A7 h0_ h1_) hb, Q_G7, fun h0_ => absurd ((hoff 9 (by kernel_rfl)).symm.trans h0_) (by decide), fun _ => rfl, fun h0_ => absurd ((hoff 4 (by kernel_rfl)).symm.trans h0_) (by decide), fun h0_ => absurd ((hoff 5 (by kernel_rfl)).symm.trans h0_) (by decide), Q_X8_⟩
    refine steps_cons ?_ ?_
    ·rintro b a w' ⟨p_, v_, g7_, m3_, m4_, m5_, m8_, ha, Q_B, Q_C1, Q_PL, Q_ST, Q_SV, Q_A7, Q_G7, Q_S7, Q_X3_, Q_X4_, Q_X5_, Q_X8_⟩ hb_ hon hoff
     refine ⟨_, rfl, fun K hK => ?_⟩
     have e95 : a.tmps[95]? = some (m3_) := by rw [ha]; exact putSel_on (e := (3, 95, m3_)) 2 rfl rfl (hon 3 (by kernel_rfl)) rfl
     rw [Q_X3_ (hon 3 (by kernel_rfl))] at e95
     replace ha := mk0 ha
     have B := mk0 Q_B
     have C1 := mk0 Q_C1
     have SV := mk0 (Q_SV (hon 3 (by kernel_rfl)))
     refine value_ (w1 := w') (v := .tuple #[.agg #[.string ⟨#[]⟩, v_], .int .i64 0, .int .i64 0]) (by rfl) rfl ?_ ?_
     ·go_simp
      (try simp only [i64_w])
      try rfl
     refine hK.out _ _ ⟨p_, v_, g7_, m3_, (.tuple #[.agg #[.string ⟨#[]⟩, v_], .int .i64 0, .int .i64 0]), m5_, m8_, (by rw [ha.out]; exact putSel_upk 3 hb_ rfl rfl rfl), Q_B, Q_C1, fun _ h1_ => absurd ((hon 3 (by kernel_rfl)).symm.trans h1_) (by decide), fun h0_ => absurd ((hon 3 (by kernel_rfl)).symm.trans h0_) (by decide), Q_SV, Q_A7, Q_G7, fun h0_ => absurd ((hoff 9 (by kernel_rfl)).symm.trans h0_) (by decide), Q_X3_, fun _ => rfl, fun h0_ => absurd ((hoff 5 (by kernel_rfl)).symm.trans h0_) (by decide), Q_X8_⟩
    refine steps_cons ?_ ?_
    ·rintro b a w' ⟨p_, v_, g7_, m3_, m4_, m5_, m8_, ha, Q_B, Q_C1, Q_PL, Q_ST, Q_SV, Q_A7, Q_G7, Q_S7, Q_X3_, Q_X4_, Q_X5_, Q_X8_⟩ hb_ hon hoff
     refine ⟨_, rfl, fun K hK => ?_⟩
     have e91 : a.tmps[91]? = some (m4_) := by rw [ha]; exact putSel_on (e := (4, 91, m4_)) 3 rfl rfl (hon 4 (by kernel_rfl)) rfl
     rw [Q_X4_ (hon 4 (by kernel_rfl))] at e91
     replace ha := mk0 ha
     have B := mk0 Q_B
     have C1 := mk0 Q_C1
     have SV := mk0 (Q_SV (hon 3 (by kernel_rfl)))
     refine value_ (w1 := w') (v := .agg #[.string ⟨#[]⟩, v_]) (by rfl) rfl ?_ ?_
     ·go_simp
      (try simp only [i64_w])
      try rfl
     refine hK.out _ _ ⟨p_, v_, g7_, m3_, m4_, (.agg #[.string ⟨#[]⟩, v_]), m8_, (by rw [ha.out]; exact putSel_upk 4 hb_ rfl rfl rfl), Q_B, Q_C1, fun _ h1_ => absurd ((hon 3 (by kernel_rfl)).symm.trans h1_) (by decide), fun h0_ => absurd ((hon 3 (by kernel_rfl)).symm.trans h0_) (by decide), Q_SV, Q_A7, Q_G7, fun h0_ => absurd ((hoff 9 (by kernel_rfl)).symm.trans h0_) (by decide), Q_X3_, Q_X4_, fun _ => rfl, Q_X8_⟩
    refine steps_cons ?_ ?_
    ·rintro b a w' ⟨p_, v_, g7_, m3_, m4_, m5_, m8_, ha, Q_B, Q_C1, Q_PL, Q_ST, Q_SV, Q_A7, Q_G7, Q_S7, Q_X3_, Q_X4_, Q_X5_, Q_X8_⟩ hb_ hon hoff
     refine ⟨_, rfl, fun K hK => ?_⟩
     have e91 : a.tmps[91]? = some (m4_) := by rw [ha]; exact putSel_on (e := (4, 91, m4_)) 3 rfl rfl (hon 4 (by kernel_rfl)) rfl
     rw [Q_X4_ (hon 4 (by kernel_rfl))] at e91
     replace ha := mk0 ha
     have B := mk0 Q_B
     have C1 := mk0 Q_C1
     have SV := mk0 (Q_SV (hon 3 (by kernel_rfl)))
     refine value_ (w1 := w') (v := .int .i64 0) (by rfl) rfl ?_ ?_
     ·go_simp
      (try simp only [i64_w])
      try rfl
     refine hK.out _ _ ⟨p_, v_, g7_, m3_, m4_, m5_, m8_, (by rw [ha.out]; exact putSel_upk 5 hb_ rfl rfl rfl), Q_B, Q_C1, fun _ h1_ => absurd ((hon 3 (by kernel_rfl)).symm.trans h1_) (by decide), fun h0_ => absurd ((hon 3 (by kernel_rfl)).symm.trans h0_) (by decide), Q_SV, Q_A7, Q_G7, Q_S7, Q_X3_, Q_X4_, Q_X5_, Q_X8_⟩
    refine steps_cons ?_ ?_
    ·rintro b a w' ⟨p_, v_, g7_, m3_, m4_, m5_, m8_, ha, Q_B, Q_C1, Q_PL, Q_ST, Q_SV, Q_A7, Q_G7, Q_S7, Q_X3_, Q_X4_, Q_X5_, Q_X8_⟩ hb_ hon hoff
     refine ⟨_, rfl, fun K hK => ?_⟩
     have e91 : a.tmps[91]? = some (m4_) := by rw [ha]; exact putSel_on (e := (4, 91, m4_)) 3 rfl rfl (hon 4 (by kernel_rfl)) rfl
     rw [Q_X4_ (hon 4 (by kernel_rfl))] at e91
     replace ha := mk0 ha
     have B := mk0 Q_B
     have C1 := mk0 Q_C1
     have SV := mk0 (Q_SV (hon 3 (by kernel_rfl)))
     refine value_ (w1 := w') (v := .int .i64 0) (by rfl) rfl ?_ ?_
     ·go_simp
      (try simp only [i64_w])
      try rfl
     refine hK.out _ _ ⟨p_, v_, g7_, m3_, m4_, m5_, m8_, (by rw [ha.out]; exact putSel_upk 6 hb_ rfl rfl rfl), Q_B, Q_C1, fun _ h1_ => absurd ((hon 3 (by kernel_rfl)).symm.trans h1_) (by decide), fun h0_ => absurd ((hon 3 (by kernel_rfl)).symm.trans h0_) (by decide), Q_SV, Q_A7, Q_G7, Q_S7, Q_X3_, Q_X4_, Q_X5_, Q_X8_⟩
    refine steps_cons ?_ ?_
    ·rintro b a w' ⟨p_, v_, g7_, m3_, m4_, m5_, m8_, ha, Q_B, Q_C1, Q_PL, Q_ST, Q_SV, Q_A7, Q_G7, Q_S7, Q_X3_, Q_X4_, Q_X5_, Q_X8_⟩ hb_ hon hoff
     refine ⟨_, rfl, fun K hK => ?_⟩
     replace ha := mk0 ha
     have B := mk0 Q_B
     have C1 := mk0 Q_C1
     refine box_step ?hg (N := 17) ?hd (cs := #[.string ⟨#[]⟩, .slice none 0 0]) (t := 67) ?hr ?_; (case hd => rfl); (case hg => rfl); (case hr => first | (go_simp; done) | (go_simp; rfl))
     intro gn_ hg w8 hbox hb
     refine hK.out _ _ ⟨p_, v_, gn_, m3_, m4_, m5_, (.pointer (some ⟨gn_, 0, none⟩)), (by rw [ha.out]; exact putSel_upk 7 hb_ rfl rfl rfl), below_step B.out hb, blk_below C1.out hb, fun h0_ h1_ => (Q_PL h0_ h1_).below hb, fun h0_ => Kd.C_below (Q_ST h0_) hb, fun h0_ => Kd.R_below (Q_SV h0_) hb, fun _ _ => hbox, fun _ => (by rw [hg]; exact blk_lt C1.out), fun h0_ => absurd ((hoff 9 (by kernel_rfl)).symm.trans h0_) (by decide), Q_X3_, Q_X4_, Q_X5_, fun _ => rfl⟩
    refine steps_cons ?_ ?_
    ·rintro b a w' ⟨p_, v_, g7_, m3_, m4_, m5_, m8_, ha, Q_B, Q_C1, Q_PL, Q_ST, Q_SV, Q_A7, Q_G7, Q_S7, Q_X3_, Q_X4_, Q_X5_, Q_X8_⟩ hb_ hon hoff
     refine ⟨_, rfl, fun K hK => ?_⟩
     have e17 : a.tmps[17]? = some (m8_) := by rw [ha]; exact putSel_on (e := (8, 17, m8_)) 7 rfl rfl (hon 8 (by kernel_rfl)) rfl
     rw [Q_X8_ (hon 8 (by kernel_rfl))] at e17
     have e96 : a.tmps[96]? = some (m5_) := by rw [ha]; exact putSel_on (e := (5, 96, m5_)) 4 rfl rfl (hon 5 (by kernel_rfl)) rfl
     rw [Q_X5_ (hon 5 (by kernel_rfl))] at e96
     replace ha := mk0 ha
     have B := mk0 Q_B
     have C1 := mk0 Q_C1
     have SV := mk0 (Q_SV (hon 3 (by kernel_rfl)))
     have A7 := mk0 (Q_A7 (hon 8 (by kernel_rfl)) hb_)
     have G7 := mk0 (Q_G7 (hon 8 (by kernel_rfl)))
     obtain ⟨A9_, c9_, e9_⟩ := Kd.R_slice SV.out
     simp only [List.length_cons, List.length_nil, Nat.zero_add] at e9_
     subst e9_
     have hs0_ : w'.cell? ⟨g7_, 0, none⟩ = some (.string ⟨#[]⟩) := ct A7.out 0
     have hs1_ : w'.cell? ⟨g7_, 1, none⟩ = some (.slice none 0 0) := ct A7.out 1
     have hf0_ := blk_frozen A7.out 0
     have hf1_ := blk_frozen A7.out 1
     refine skip_ (w1 := ?_) (by rfl) rfl ?_ ?_
     rotate_left
     ·go_simp
      rfl
     refine hK.out _ _ ⟨p_, .slice A9_ 1 c9_, g7_, m3_, m4_, m5_, m8_, (by rw [ha.out]; exact putSel_none (v := undef) rfl), ((B.out.setCell (Nat.le_of_lt G7.out) _).setCell (Nat.le_of_lt G7.out) _), farm (farm C1.out (Nat.ne_of_lt G7.out)) (Nat.ne_of_lt G7.out), fun _ h1_ => absurd ((hon 3 (by kernel_rfl)).symm.trans h1_) (by decide), fun h0_ => absurd ((hon 3 (by kernel_rfl)).symm.trans h0_) (by decide), fun _ => Kd.R_set (Kd.R_set SV.out A7.out k76_ne 0 _) (blk_put A7.out 0 _ rfl) k76_ne 1 _, fun _ h1_ => absurd ((up_self b 9).symm.trans h1_) (by decide), Q_G7, fun _ => blk_put (blk_put A7.out 0 _ rfl) 1 _ rfl, Q_X3_, Q_X4_, Q_X5_, Q_X8_⟩
    refine steps_cons ?_ ?_
    ·rintro b a w' ⟨p_, v_, g7_, m3_, m4_, m5_, m8_, ha, Q_B, Q_C1, Q_PL, Q_ST, Q_SV, Q_A7, Q_G7, Q_S7, Q_X3_, Q_X4_, Q_X5_, Q_X8_⟩ hb_ hon hoff
     refine ⟨_, rfl, fun K hK => ?_⟩
     have e97 : a.tmps[97]? = some (.int .i64 0) := by rw [ha]; exact putSel_on (e := (6, 97, .int .i64 0)) 5 rfl rfl (hon 6 (by kernel_rfl)) rfl
     replace ha := mk0 ha
     have B := mk0 Q_B
     have C1 := mk0 Q_C1
     have SV := mk0 (Q_SV (hon 3 (by kernel_rfl)))
     have G7 := mk0 (Q_G7 (hon 8 (by kernel_rfl)))
     have S7 := mk0 (Q_S7 (hon 9 (by kernel_rfl)))
     refine value_ (w1 := w') (v := .int .i64 0) (by rfl) rfl ?_ ?_
     ·go_simp
      (try simp only [i64_w])
      try rfl
     refine hK.out _ _ ⟨p_, v_, g7_, m3_, m4_, m5_, m8_, (by rw [ha.out]; exact putSel_upk 8 hb_ rfl rfl rfl), Q_B, Q_C1, fun _ h1_ => absurd ((hon 3 (by kernel_rfl)).symm.trans h1_) (by decide), fun h0_ => absurd ((hon 3 (by kernel_rfl)).symm.trans h0_) (by decide), Q_SV, fun _ h1_ => absurd ((hon 9 (by kernel_rfl)).symm.trans h1_) (by decide), Q_G7, Q_S7, Q_X3_, Q_X4_, Q_X5_, Q_X8_⟩
    refine steps_cons ?_ ?_
    ·rintro b a w' ⟨p_, v_, g7_, m3_, m4_, m5_, m8_, ha, Q_B, Q_C1, Q_PL, Q_ST, Q_SV, Q_A7, Q_G7, Q_S7, Q_X3_, Q_X4_, Q_X5_, Q_X8_⟩ hb_ hon hoff
     refine ⟨_, rfl, fun K hK => ?_⟩
     have e98 : a.tmps[98]? = some (.int .i64 0) := by rw [ha]; exact putSel_on (e := (7, 98, .int .i64 0)) 6 rfl rfl (hon 7 (by kernel_rfl)) rfl
     replace ha := mk0 ha
     have B := mk0 Q_B
     have C1 := mk0 Q_C1
     have SV := mk0 (Q_SV (hon 3 (by kernel_rfl)))
     have G7 := mk0 (Q_G7 (hon 8 (by kernel_rfl)))
     have S7 := mk0 (Q_S7 (hon 9 (by kernel_rfl)))
     refine value_ (w1 := w') (v := .int .i64 0) (by rfl) rfl ?_ ?_
     ·go_simp
      (try simp only [i64_w])
      try rfl
     refine hK.out _ _ ⟨p_, v_, g7_, m3_, m4_, m5_, m8_, (by rw [ha.out]; exact putSel_upk 9 hb_ rfl rfl rfl), Q_B, Q_C1, fun _ h1_ => absurd ((hon 3 (by kernel_rfl)).symm.trans h1_) (by decide), fun h0_ => absurd ((hon 3 (by kernel_rfl)).symm.trans h0_) (by decide), Q_SV, fun _ h1_ => absurd ((hon 9 (by kernel_rfl)).symm.trans h1_) (by decide), Q_G7, Q_S7, Q_X3_, Q_X4_, Q_X5_, Q_X8_⟩
    exact steps_nil
   rintro b a W7 hall ⟨p_, v_, g7_, m3_, m4_, m5_, m8_, ha, Q_B, Q_C1, Q_PL, Q_ST, Q_SV, Q_A7, Q_G7, Q_S7, Q_X3_, Q_X4_, Q_X5_, Q_X8_⟩
   clear B C1 ST
   have hb0_ := hall 0 (by kernel_rfl)
   have hb1_ := hall 1 (by kernel_rfl)
   have hb3_ := hall 3 (by kernel_rfl)
   have hb4_ := hall 4 (by kernel_rfl)
   have hb5_ := hall 5 (by kernel_rfl)
   have hb6_ := hall 6 (by kernel_rfl)
   have hb7_ := hall 7 (by kernel_rfl)
   have hb8_ := hall 8 (by kernel_rfl)
   have hb9_ := hall 9 (by kernel_rfl)
   have hb10_ := hall 10 (by kernel_rfl)
   have hb11_ := hall 11 (by kernel_rfl)
   subst ha
   obtain rfl := Q_X3_ hb3_
   obtain rfl := Q_X4_ hb4_
   obtain rfl := Q_X5_ hb5_
   obtain rfl := Q_X8_ hb8_
   simp only [putSel, hb0_, hb1_, hb3_, hb4_, hb5_, hb6_, hb7_, hb8_, hb9_, hb10_, hb11_, if_true, Act.put, List.setIfInBounds_toArray, List.set_cons_zero, List.set_cons_succ]
   have B := mk0 Q_B
   clear Q_B
   have C1 := mk0 Q_C1
   clear Q_C1
   clear Q_PL
   clear Q_ST
   have SV := mk0 (Q_SV hb3_)
   clear Q_SV
   clear Q_A7
   have G7 := mk0 (Q_G7 hb8_)
   clear Q_G7
   have S7 := mk0 (Q_S7 hb9_)
   clear Q_S7
   clear hall hb0_ hb1_ hb3_ hb4_ hb5_ hb6_ hb7_ hb8_ hb9_ hb10_ hb11_
   obtain ⟨gq, cq, rfl, hq1, hq2, _⟩ := Kd.R_form SV.out (by decide)
   have hC := (Kd.R_reads' SV.out).2.2
   obtain ⟨ad, A1, c1, ea, z0, z1, hl1, hC1⟩ := at_T76 hC 0 (by decide) (by decide)
   obtain rfl : (⟨gq, 0, none⟩ : Addr) = ad := Option.some.inj ea
   have z0' : W7.cell? ⟨gq, 0, none⟩ = some (.string ⟨#[104, 111, 108, 101]⟩) := z0
   have z1' : W7.cell? ⟨gq, 1, none⟩ = some (.slice A1 2 c1) := z1
   have HC1 := mk0 (show Kd.C k23 W7 A1 2 [⟨13, 5, 2⟩, ⟨7, 5, 2⟩] from hC1)
   have HL1 : Aside0 (2 ≤ c1) := ⟨hl1⟩
   have s0 := ct S7.out 0
   have s1 := ct S7.out 1
   clear z0 z1 hC hC1 hl1 ea
   go_wp2_with (go_at_call 37; refine (api_Spot.calls 10 A1 c1 [⟨13, 5, 2⟩, ⟨7, 5, 2⟩] (some ⟨W7.heap.size, 0, none⟩) 2 [⟨13, 5, 2⟩, ⟨7, 5, 2⟩] true _ (Kd.C_below HC1.out (below_alloc (Below.refl _ _) _)) HL1.out (C_two23 (blk_new _ _)) (Nat.le_refl _) eqSpots).mono ?_; rintro e W9 ⟨rfl, ⟨⟨n_, rfl⟩⟩⟩)
   go_ret
   exact ⟨rfl, pw_below_drewN (below_alloc B.out _) _⟩
def metrolablaw30_awake.f (k : Nat) : Option Bool := if 60 ≤ k then some true else none
theorem metrolablaw30_awake.calls (k : Nat) (r : Bool) (w : World) (hG : GW w) (h : metrolablaw30_awake.f k = some r) : Calls Tryz.prog 14 #[] w fun e w' => e = .returned (.bool r) ∧ Below w.heap.size w w' := by
 unfold metrolablaw30_awake.f at h
 split at h
 ·obtain rfl := Option.some.inj h
  exact awake_calls w hG
 ·cases h
end Go.Proofs.YtolbjmaabghghaaGreatDoor.PA
