/- A part of the proof. -/
import Derived.Test.YtolbjmaabghghaaGreatDoorJ7PAx16
import Derived.Test.YtolbjmaabghghaaGreatDoorJ7PAx20
import Derived.Test.YtolbjmaabghghaaGreatDoorJ7PAx29
namespace Go.Proofs.YtolbjmaabghghaaGreatDoor.PA
open Go.RowKit Go.PW Go.PL Go.PM
set_option linter.unusedVariables false
set_option linter.unusedSimpArgs false
attribute [local go_sem high] eqA47
def leB (a b : ByteArray) : Bool := Op.bytesLess a.toList b.toList || a.toList == b.toList
theorem str_leq (t : TypeId) (a b : ByteArray) : binOp .leq t (.string a) (.string b) = pure (.bool (leB a b)) := by simp [binOp, Op.stringOp, leB]
attribute [local go_sem] str_leq
attribute [local go_sem] Oper.semAt_some
def spotsM.T19 : Bool × List (List Nat × List Nat) := (true, [([], []), ([], []), ([], []), ([1, 2], [1, 2]), ([0, 3, 3], [0, 3]), ([4], [4]), ([5], [5]), ([5], [5]), ([6, 4, 0, 1, 2, 3, 4, 5, 6], [6]), ([7, 8, 0, 1, 2, 3, 4, 5, 6, 7, 8], [7])])
def spotsM.B19 : List Nat := [0, 0, 0, 6, 15, 31, 63, 63, 127, 511]
theorem spotsM.tab19 : rtab .any (opsOf Tryz.f7 19) = spotsM.T19 := by kernel_rfl
theorem spotsM.bits19 : waitsOk spotsM.T19.2 spotsM.B19 = true := by kernel_rfl
theorem mem_rd23 (xs : List S23) (j : Nat) (h : j < xs.length) : rd_T23 xs (j : Int) ∈ xs := by
 unfold rd_T23
 rw [Int.toNat_natCast, List.getD_eq_getElem?_getD, List.getElem?_eq_getElem h]
 exact List.getElem_mem h
theorem mem_rd47 (xs : List S47) (j : Nat) (h : j < xs.length) : rd_T47 xs (j : Int) ∈ xs := by
 unfold rd_T47
 rw [Int.toNat_natCast, List.getD_eq_getElem?_getD, List.getElem?_eq_getElem h]
 exact List.getElem_mem h
def condD (m : Bool × Int) : Bool := (m.2 == 0 && !m.1) || m.2 == 2
def spotOk (kf : Nat) (a0 a1 a2 a3 a4 a5 : Int) (l : List S84) (p : S23) : Prop := ∃ (g : Nat → S23) (m : Nat → Bool × Int), probe_Material.f kf a0 a1 a2 a3 a4 a5 l p.f0 p.f1 p.f2 = some (true, 0) ∧
 (∀ d : Nat, d < 6 → metrolabref30_Ahead.f p.f0 p.f1 p.f2 (d : Int) = some ((g d).f0, (g d).f1, (g d).f2) ∧ probe_Material.f kf a0 a1 a2 a3 a4 a5 l (g d).f0 (g d).f1 (g d).f2 = some (m d)) ∧ (List.range 6).any (fun d => condD (m d)) = true
def stepOk (kf : Nat) (s : S47) : Prop := ∃ t : ByteArray, probe_Text.f kf s.f0 s.f1.f0 s.f1.f1 s.f1.f2 s.f2 s.f3 = some (t, 0) ∧ probe_Read.f kf t = some (s.f0, s.f1.f0, s.f1.f1, s.f1.f2, s.f2, s.f3, 0)
set_option maxHeartbeats 8000000 in
set_option maxRecDepth 100000 in
theorem spots.guard (kf : Nat) (a0 a1 a2 a3 a4 a5 : Int) (A : Option Addr) (c : Nat) (l : List S84) (x y z : Int) (A2 : Option Addr) (c2 : Nat) (l2 : List S47) (o0 o1 o2 o3 o4 o5 : Int) (lo : List S92) (ls : List S52) (fb nb sb : Bool) (w : World) (hG : GW w)
  (hr : Kd.C k84 w A l.length l) (hc : l.length ≤ c) (hr2 : Kd.C k47 w A2 l2.length l2) (hc2 : l2.length ≤ c2)
  (hA : metrolablaw30_awake.f kf = some true) (hO : metrolablaw30_own.f kf a0 a1 a2 a3 a4 a5 l = some (o0, o1, o2, o3, o4, o5, lo)) (hF : metrolabref30_Few.f o0 o1 o2 o3 o4 o5 lo = some fb) (hN : metrolabref30_Near.f x y z x y z = some nb) (hS : metrolablaw30_steps.f kf l2 = some ls) (hFS : metrolabref30_FewSteps.f kf ls = some sb)
  (hb : (fb && nb && sb) = false) :
  Calls Tryz.prog 7 #[.agg #[.int .i64 a0, .int .i64 a1, .int .i64 a2, .int .i64 a3, .int .i64 a4, .int .i64 a5, .slice A l.length c], .agg #[.int .i64 x, .int .i64 y, .int .i64 z], .slice A2 l2.length c2] w fun e w' => e = .returned (.bool true) ∧ Below w.heap.size w w' := by
 have HG := mk0 hG
 have HR := mk0 hr
 have HC := mk0 hc
 have HR2 := mk0 hr2
 have HC2 := mk0 hc2
 have HA := mk0 hA
 have HO := mk0 hO
 have HF := mk0 hF
 have HN := mk0 hN
 have HS := mk0 hS
 have HFS := mk0 hFS
 clear hG hr hc hr2 hc2 hA hO hF hN hS hFS
 have hu26 := Tryz.underlying26
 have hu23 := Tryz.underlying23
 cases fb
 case false =>
  clear hb HN HS HFS
  go_enter Tryz.func7, Tryz.ntmps7
  go_wp2_with (first | (go_at_call 13; refine (metrolablaw30_own.calls kf a0 a1 a2 a3 a4 a5 A c l o0 o1 o2 o3 o4 o5 lo _ (Kd.C_below HR.out (below_alloc (below_alloc (Below.refl _ _) _) _)) HC.out HO.out).mono ?_; rintro e W1 ⟨v6, rfl, hK, hb⟩; obtain ⟨A6, c6, rfl, hle, hC⟩ := Kd.R_reads hK; have CK := mk0 hC; have LK := mk0 hle; have B1 := mk0 (below_step (below_alloc (below_alloc (Below.refl w.heap.size w) _) _) hb); have S1 := mk0 (blk_below (blk_alloc (blk_new w (.cells #[.int .i64 a0, .int .i64 a1, .int .i64 a2, .int .i64 a3, .int .i64 a4, .int .i64 a5, .slice A l.length c] 26)) (.cells #[.int .i64 x, .int .i64 y, .int .i64 z] 23)) hb); have D1 := mk0 (blk_below (blk_newE (g := w.heap.size + 1) (w.alloc (.cells #[.int .i64 a0, .int .i64 a1, .int .i64 a2, .int .i64 a3, .int .i64 a4, .int .i64 a5, .slice A l.length c] 26)) (.cells #[.int .i64 x, .int .i64 y, .int .i64 z] 23) (by simp)) hb); clear hK hC hle hb HO) | (go_at_call 12; refine (metrolabref30_Few.calls o0 o1 o2 o3 o4 o5 A6 c6 lo _ W1 CK.out LK.out HF.out).mono ?_; rintro e W2 ⟨rfl, hb⟩; have B2 := mk0 (below_step B1.out hb); have S2 := mk0 (blk_below S1.out hb); have D2 := mk0 (blk_below D1.out hb); clear hb HF; have uc0 := ct D2.out 0; have uf0 := blk_frozen D2.out 0; have uc1 := ct D2.out 1; have uf1 := blk_frozen D2.out 1; have uc2 := ct D2.out 2; have uf2 := blk_frozen D2.out 2) | (go_at_call 14; refine (metrolablaw30_awake.calls kf true _ (GW_below HG.out B2.out) HA.out).mono ?_; rintro e W9 ⟨rfl, hb⟩; have B9 := mk0 (below_step B2.out hb); clear hb))
  go_ret
  exact ⟨rfl, B9.out⟩
 cases nb
 case false =>
  clear hb HS HFS
  go_enter Tryz.func7, Tryz.ntmps7
  go_wp2_with (first | (go_at_call 13; refine (metrolablaw30_own.calls kf a0 a1 a2 a3 a4 a5 A c l o0 o1 o2 o3 o4 o5 lo _ (Kd.C_below HR.out (below_alloc (below_alloc (Below.refl _ _) _) _)) HC.out HO.out).mono ?_; rintro e W1 ⟨v6, rfl, hK, hb⟩; obtain ⟨A6, c6, rfl, hle, hC⟩ := Kd.R_reads hK; have CK := mk0 hC; have LK := mk0 hle; have B1 := mk0 (below_step (below_alloc (below_alloc (Below.refl w.heap.size w) _) _) hb); have S1 := mk0 (blk_below (blk_alloc (blk_new w (.cells #[.int .i64 a0, .int .i64 a1, .int .i64 a2, .int .i64 a3, .int .i64 a4, .int .i64 a5, .slice A l.length c] 26)) (.cells #[.int .i64 x, .int .i64 y, .int .i64 z] 23)) hb); have D1 := mk0 (blk_below (blk_newE (g := w.heap.size + 1) (w.alloc (.cells #[.int .i64 a0, .int .i64 a1, .int .i64 a2, .int .i64 a3, .int .i64 a4, .int .i64 a5, .slice A l.length c] 26)) (.cells #[.int .i64 x, .int .i64 y, .int .i64 z] 23) (by simp)) hb); clear hK hC hle hb HO) | (go_at_call 12; refine (metrolabref30_Few.calls o0 o1 o2 o3 o4 o5 A6 c6 lo _ W1 CK.out LK.out HF.out).mono ?_; rintro e W2 ⟨rfl, hb⟩; have B2 := mk0 (below_step B1.out hb); have S2 := mk0 (blk_below S1.out hb); have D2 := mk0 (blk_below D1.out hb); clear hb HF; have uc0 := ct D2.out 0; have uf0 := blk_frozen D2.out 0; have uc1 := ct D2.out 1; have uf1 := blk_frozen D2.out 1; have uc2 := ct D2.out 2; have uf2 := blk_frozen D2.out 2) | (go_at_call 27; refine (metrolabref30_Near.calls x y z x y z _ W2 HN.out).mono ?_; rintro e W3 ⟨rfl, hb⟩; have B3 := mk0 (below_step B2.out hb); have S3 := mk0 (blk_below S2.out hb); have D3 := mk0 (blk_below D2.out hb); clear hb HN; clear uc0 uf0 uc1 uf1 uc2 uf2) | (go_at_call 14; refine (metrolablaw30_awake.calls kf true _ (GW_below HG.out B3.out) HA.out).mono ?_; rintro e W9 ⟨rfl, hb⟩; have B9 := mk0 (below_step B3.out hb); clear hb))
  go_ret
  exact ⟨rfl, B9.out⟩
 obtain rfl : sb = false := by simpa using hb
 clear hb
 go_enter Tryz.func7, Tryz.ntmps7
 go_wp2_with (first | (go_at_call 13; refine (metrolablaw30_own.calls kf a0 a1 a2 a3 a4 a5 A c l o0 o1 o2 o3 o4 o5 lo _ (Kd.C_below HR.out (below_alloc (below_alloc (Below.refl _ _) _) _)) HC.out HO.out).mono ?_; rintro e W1 ⟨v6, rfl, hK, hb⟩; obtain ⟨A6, c6, rfl, hle, hC⟩ := Kd.R_reads hK; have CK := mk0 hC; have LK := mk0 hle; have B1 := mk0 (below_step (below_alloc (below_alloc (Below.refl w.heap.size w) _) _) hb); have S1 := mk0 (blk_below (blk_alloc (blk_new w (.cells #[.int .i64 a0, .int .i64 a1, .int .i64 a2, .int .i64 a3, .int .i64 a4, .int .i64 a5, .slice A l.length c] 26)) (.cells #[.int .i64 x, .int .i64 y, .int .i64 z] 23)) hb); have D1 := mk0 (blk_below (blk_newE (g := w.heap.size + 1) (w.alloc (.cells #[.int .i64 a0, .int .i64 a1, .int .i64 a2, .int .i64 a3, .int .i64 a4, .int .i64 a5, .slice A l.length c] 26)) (.cells #[.int .i64 x, .int .i64 y, .int .i64 z] 23) (by simp)) hb); clear hK hC hle hb HO) | (go_at_call 12; refine (metrolabref30_Few.calls o0 o1 o2 o3 o4 o5 A6 c6 lo _ W1 CK.out LK.out HF.out).mono ?_; rintro e W2 ⟨rfl, hb⟩; have B2 := mk0 (below_step B1.out hb); have S2 := mk0 (blk_below S1.out hb); have D2 := mk0 (blk_below D1.out hb); clear hb HF; have uc0 := ct D2.out 0; have uf0 := blk_frozen D2.out 0; have uc1 := ct D2.out 1; have uf1 := blk_frozen D2.out 1; have uc2 := ct D2.out 2; have uf2 := blk_frozen D2.out 2) | (go_at_call 27; refine (metrolabref30_Near.calls x y z x y z _ W2 HN.out).mono ?_; rintro e W3 ⟨rfl, hb⟩; have B3 := mk0 (below_step B2.out hb); have S3 := mk0 (blk_below S2.out hb); have D3 := mk0 (blk_below D2.out hb); clear hb HN; clear uc0 uf0 uc1 uf1 uc2 uf2) | (go_at_call 29; refine (metrolablaw30_steps.calls kf A2 c2 l2 ls W3 (Kd.C_below HR2.out B3.out) HC2.out HS.out).mono ?_; rintro e W4 ⟨v0, rfl, hK, hb⟩; obtain ⟨A7, c7, rfl, hle, hC⟩ := Kd.R_reads hK; have CK7 := mk0 hC; have LK7 := mk0 hle; have B4 := mk0 (below_step B3.out hb); have S4 := mk0 (blk_below S3.out hb); have D4 := mk0 (blk_below D3.out hb); clear hK hC hle hb HS) | (go_at_call 28; refine (metrolabref30_FewSteps.calls kf A7 c7 ls _ W4 CK7.out LK7.out HFS.out).mono ?_; rintro e W5 ⟨rfl, hb⟩; have B5 := mk0 (below_step B4.out hb); have S5 := mk0 (blk_below S4.out hb); have D5 := mk0 (blk_below D4.out hb); clear hb HFS; have uc0 := ct D5.out 0; have uf0 := blk_frozen D5.out 0; have uc1 := ct D5.out 1; have uf1 := blk_frozen D5.out 1; have uc2 := ct D5.out 2; have uf2 := blk_frozen D5.out 2; have sc0 := ct S5.out 0; have sf0 := blk_frozen S5.out 0; have sc1 := ct S5.out 1; have sf1 := blk_frozen S5.out 1; have sc2 := ct S5.out 2; have sf2 := blk_frozen S5.out 2; have sc3 := ct S5.out 3; have sf3 := blk_frozen S5.out 3; have sc4 := ct S5.out 4; have sf4 := blk_frozen S5.out 4; have sc5 := ct S5.out 5; have sf5 := blk_frozen S5.out 5; have sc6 := ct S5.out 6; have sf6 := blk_frozen S5.out 6) | (go_at_call 14; refine (metrolablaw30_awake.calls kf true _ (GW_below HG.out B5.out) HA.out).mono ?_; rintro e W9 ⟨rfl, hb⟩; have B9 := mk0 (below_step B5.out hb); clear hb))
 go_ret
 exact ⟨rfl, B9.out⟩
set_option maxHeartbeats 8000000 in
set_option maxRecDepth 100000 in
theorem spots.runErr (kf : Nat) (a0 a1 a2 a3 a4 a5 : Int) (A : Option Addr) (c : Nat) (l : List S84) (x y z : Int) (A2 : Option Addr) (c2 : Nat) (l2 : List S47) (o0 o1 o2 o3 o4 o5 : Int) (lo : List S92) (ls : List S52) (r1 : ByteArray) (sm : List S76) (r3 er : Int) (w : World) (hG : GW w)
  (hr : Kd.C k84 w A l.length l) (hc : l.length ≤ c) (hr2 : Kd.C k47 w A2 l2.length l2) (hc2 : l2.length ≤ c2)
  (hA : metrolablaw30_awake.f kf = some true) (hO : metrolablaw30_own.f kf a0 a1 a2 a3 a4 a5 l = some (o0, o1, o2, o3, o4, o5, lo)) (hF : metrolabref30_Few.f o0 o1 o2 o3 o4 o5 lo = some true) (hN : metrolabref30_Near.f x y z x y z = some true) (hS : metrolablaw30_steps.f kf l2 = some ls) (hFS : metrolabref30_FewSteps.f kf ls = some true)
  (hrun : probe_Run.f a0 a1 a2 a3 a4 a5 l x y z l2 = some (r1, sm, r3, er)) (her : er ≠ 0) :
  Calls Tryz.prog 7 #[.agg #[.int .i64 a0, .int .i64 a1, .int .i64 a2, .int .i64 a3, .int .i64 a4, .int .i64 a5, .slice A l.length c], .agg #[.int .i64 x, .int .i64 y, .int .i64 z], .slice A2 l2.length c2] w fun e w' => e = .returned (.bool true) ∧ Below w.heap.size w w' := by
 have HG := mk0 hG
 have HR := mk0 hr
 have HC := mk0 hc
 have HR2 := mk0 hr2
 have HC2 := mk0 hc2
 have HA := mk0 hA
 have HO := mk0 hO
 have HF := mk0 hF
 have HN := mk0 hN
 have HS := mk0 hS
 have HFS := mk0 hFS
 clear hG hr hc hr2 hc2 hA hO hF hN hS hFS
 have hu26 := Tryz.underlying26
 have hu23 := Tryz.underlying23
 have HRUN := mk0 hrun
 have q0 : (er != 0) = true := by simpa using her
 clear hrun her
 go_enter Tryz.func7, Tryz.ntmps7
 go_wp2_with (first | (go_at_call 13; refine (metrolablaw30_own.calls kf a0 a1 a2 a3 a4 a5 A c l o0 o1 o2 o3 o4 o5 lo _ (Kd.C_below HR.out (below_alloc (below_alloc (Below.refl _ _) _) _)) HC.out HO.out).mono ?_; rintro e W1 ⟨v6, rfl, hK, hb⟩; obtain ⟨A6, c6, rfl, hle, hC⟩ := Kd.R_reads hK; have CK := mk0 hC; have LK := mk0 hle; have B1 := mk0 (below_step (below_alloc (below_alloc (Below.refl w.heap.size w) _) _) hb); have S1 := mk0 (blk_below (blk_alloc (blk_new w (.cells #[.int .i64 a0, .int .i64 a1, .int .i64 a2, .int .i64 a3, .int .i64 a4, .int .i64 a5, .slice A l.length c] 26)) (.cells #[.int .i64 x, .int .i64 y, .int .i64 z] 23)) hb); have D1 := mk0 (blk_below (blk_newE (g := w.heap.size + 1) (w.alloc (.cells #[.int .i64 a0, .int .i64 a1, .int .i64 a2, .int .i64 a3, .int .i64 a4, .int .i64 a5, .slice A l.length c] 26)) (.cells #[.int .i64 x, .int .i64 y, .int .i64 z] 23) (by simp)) hb); clear hK hC hle hb HO) | (go_at_call 12; refine (metrolabref30_Few.calls o0 o1 o2 o3 o4 o5 A6 c6 lo _ W1 CK.out LK.out HF.out).mono ?_; rintro e W2 ⟨rfl, hb⟩; have B2 := mk0 (below_step B1.out hb); have S2 := mk0 (blk_below S1.out hb); have D2 := mk0 (blk_below D1.out hb); clear hb HF; have uc0 := ct D2.out 0; have uf0 := blk_frozen D2.out 0; have uc1 := ct D2.out 1; have uf1 := blk_frozen D2.out 1; have uc2 := ct D2.out 2; have uf2 := blk_frozen D2.out 2) | (go_at_call 27; refine (metrolabref30_Near.calls x y z x y z _ W2 HN.out).mono ?_; rintro e W3 ⟨rfl, hb⟩; have B3 := mk0 (below_step B2.out hb); have S3 := mk0 (blk_below S2.out hb); have D3 := mk0 (blk_below D2.out hb); clear hb HN; clear uc0 uf0 uc1 uf1 uc2 uf2) | (go_at_call 29; refine (metrolablaw30_steps.calls kf A2 c2 l2 ls W3 (Kd.C_below HR2.out B3.out) HC2.out HS.out).mono ?_; rintro e W4 ⟨v0, rfl, hK, hb⟩; obtain ⟨A7, c7, rfl, hle, hC⟩ := Kd.R_reads hK; have CK7 := mk0 hC; have LK7 := mk0 hle; have B4 := mk0 (below_step B3.out hb); have S4 := mk0 (blk_below S3.out hb); have D4 := mk0 (blk_below D3.out hb); clear hK hC hle hb HS) | (go_at_call 28; refine (metrolabref30_FewSteps.calls kf A7 c7 ls _ W4 CK7.out LK7.out HFS.out).mono ?_; rintro e W5 ⟨rfl, hb⟩; have B5 := mk0 (below_step B4.out hb); have S5 := mk0 (blk_below S4.out hb); have D5 := mk0 (blk_below D4.out hb); clear hb HFS; have uc0 := ct D5.out 0; have uf0 := blk_frozen D5.out 0; have uc1 := ct D5.out 1; have uf1 := blk_frozen D5.out 1; have uc2 := ct D5.out 2; have uf2 := blk_frozen D5.out 2; have sc0 := ct S5.out 0; have sf0 := blk_frozen S5.out 0; have sc1 := ct S5.out 1; have sf1 := blk_frozen S5.out 1; have sc2 := ct S5.out 2; have sf2 := blk_frozen S5.out 2; have sc3 := ct S5.out 3; have sf3 := blk_frozen S5.out 3; have sc4 := ct S5.out 4; have sf4 := blk_frozen S5.out 4; have sc5 := ct S5.out 5; have sf5 := blk_frozen S5.out 5; have sc6 := ct S5.out 6; have sf6 := blk_frozen S5.out 6) | (go_at_call 30; refine (probe_Run.calls a0 a1 a2 a3 a4 a5 A c l x y z A2 c2 l2 r1 sm r3 er W5 (GW_below HG.out B5.out) (Kd.C_below HR.out B5.out) HC.out (Kd.C_below HR2.out B5.out) HC2.out HRUN.out).mono ?_; rintro e W6 ⟨v1, rfl, hK, hb⟩; obtain ⟨As, cs, rfl, hle, hC⟩ := Kd.R_reads hK; have CKS := mk0 hC; have LKS := mk0 hle; have B6 := mk0 (below_step B5.out hb); have S6 := mk0 (blk_below S5.out hb); have D6 := mk0 (blk_below D5.out hb); clear hK hC hle hb HRUN; clear uc0 uf0 uc1 uf1 uc2 uf2; clear sc0 sf0 sc1 sf1 sc2 sf2 sc3 sf3 sc4 sf4 sc5 sf5 sc6 sf6) | (go_at_call 14; refine (metrolablaw30_awake.calls kf true _ (GW_below HG.out (below_alloc B6.out _)) HA.out).mono ?_; rintro e W9 ⟨rfl, hb⟩; have B9 := mk0 (below_step (below_alloc B6.out _) hb); clear hb))
 go_ret
 exact ⟨rfl, B9.out⟩
set_option maxHeartbeats 8000000 in
set_option maxRecDepth 100000 in
theorem spots.main (kf : Nat) (a0 a1 a2 a3 a4 a5 : Int) (A : Option Addr) (c : Nat) (l : List S84) (x y z : Int) (A2 : Option Addr) (c2 : Nat) (l2 : List S47) (o0 o1 o2 o3 o4 o5 : Int) (lo : List S92) (ls : List S52) (r1 : ByteArray) (sm : List S76) (r3 : Int) (w : World) (hG : GW w)
  (hr : Kd.C k84 w A l.length l) (hc : l.length ≤ c) (hr2 : Kd.C k47 w A2 l2.length l2) (hc2 : l2.length ≤ c2)
  (hA : metrolablaw30_awake.f kf = some true) (hO : metrolablaw30_own.f kf a0 a1 a2 a3 a4 a5 l = some (o0, o1, o2, o3, o4, o5, lo)) (hF : metrolabref30_Few.f o0 o1 o2 o3 o4 o5 lo = some true) (hN : metrolabref30_Near.f x y z x y z = some true) (hS : metrolablaw30_steps.f kf l2 = some ls) (hFS : metrolabref30_FewSteps.f kf ls = some true)
  (hrun : probe_Run.f a0 a1 a2 a3 a4 a5 l x y z l2 = some (r1, sm, r3, 0))
  (hne : ∀ k : Nat, k < sm.length → (rd_T76 sm (k : Int)).f1 ≠ []) (hord : ∀ k : Nat, 0 < k → k < sm.length → leB (rd_T76 sm (k : Int)).f0 (rd_T76 sm ((k - 1 : Nat) : Int)).f0 = false)
  (hsp : ∀ k : Nat, k < sm.length → ∀ p ∈ (rd_T76 sm (k : Int)).f1, spotOk kf a0 a1 a2 a3 a4 a5 l p) (hst : ∀ s ∈ l2, stepOk kf s) :
  Calls Tryz.prog 7 #[.agg #[.int .i64 a0, .int .i64 a1, .int .i64 a2, .int .i64 a3, .int .i64 a4, .int .i64 a5, .slice A l.length c], .agg #[.int .i64 x, .int .i64 y, .int .i64 z], .slice A2 l2.length c2] w fun e w' => e = .returned (.bool true) ∧ Below w.heap.size w w' := by
 have HG := mk0 hG
 have HR := mk0 hr
 have HC := mk0 hc
 have HR2 := mk0 hr2
 have HC2 := mk0 hc2
 have HA := mk0 hA
 have HO := mk0 hO
 have HF := mk0 hF
 have HN := mk0 hN
 have HS := mk0 hS
 have HFS := mk0 hFS
 clear hG hr hc hr2 hc2 hA hO hF hN hS hFS
 have hu26 := Tryz.underlying26
 have hu23 := Tryz.underlying23
 obtain ⟨er, her⟩ : ∃ er : Int, er = 0 := ⟨_, rfl⟩
 rw [← her] at hrun
 have HRUN := mk0 hrun
 have q0 : (er != 0) = false := by rw [her]; rfl
 have HNE := mk0 hne
 have HORD := mk0 hord
 have HSP := mk0 hsp
 have HST := mk0 hst
 clear hrun hne hord hsp hst
 go_enter Tryz.func7, Tryz.ntmps7
 go_wp2_with (first | (go_at_call 13; refine (metrolablaw30_own.calls kf a0 a1 a2 a3 a4 a5 A c l o0 o1 o2 o3 o4 o5 lo _ (Kd.C_below HR.out (below_alloc (below_alloc (Below.refl _ _) _) _)) HC.out HO.out).mono ?_; rintro e W1 ⟨v6, rfl, hK, hb⟩; obtain ⟨A6, c6, rfl, hle, hC⟩ := Kd.R_reads hK; have CK := mk0 hC; have LK := mk0 hle; have B1 := mk0 (below_step (below_alloc (below_alloc (Below.refl w.heap.size w) _) _) hb); have S1 := mk0 (blk_below (blk_alloc (blk_new w (.cells #[.int .i64 a0, .int .i64 a1, .int .i64 a2, .int .i64 a3, .int .i64 a4, .int .i64 a5, .slice A l.length c] 26)) (.cells #[.int .i64 x, .int .i64 y, .int .i64 z] 23)) hb); have D1 := mk0 (blk_below (blk_newE (g := w.heap.size + 1) (w.alloc (.cells #[.int .i64 a0, .int .i64 a1, .int .i64 a2, .int .i64 a3, .int .i64 a4, .int .i64 a5, .slice A l.length c] 26)) (.cells #[.int .i64 x, .int .i64 y, .int .i64 z] 23) (by simp)) hb); clear hK hC hle hb HO) | (go_at_call 12; refine (metrolabref30_Few.calls o0 o1 o2 o3 o4 o5 A6 c6 lo _ W1 CK.out LK.out HF.out).mono ?_; rintro e W2 ⟨rfl, hb⟩; have B2 := mk0 (below_step B1.out hb); have S2 := mk0 (blk_below S1.out hb); have D2 := mk0 (blk_below D1.out hb); clear hb HF; have uc0 := ct D2.out 0; have uf0 := blk_frozen D2.out 0; have uc1 := ct D2.out 1; have uf1 := blk_frozen D2.out 1; have uc2 := ct D2.out 2; have uf2 := blk_frozen D2.out 2) | (go_at_call 27; refine (metrolabref30_Near.calls x y z x y z _ W2 HN.out).mono ?_; rintro e W3 ⟨rfl, hb⟩; have B3 := mk0 (below_step B2.out hb); have S3 := mk0 (blk_below S2.out hb); have D3 := mk0 (blk_below D2.out hb); clear hb HN; clear uc0 uf0 uc1 uf1 uc2 uf2) | (go_at_call 29; refine (metrolablaw30_steps.calls kf A2 c2 l2 ls W3 (Kd.C_below HR2.out B3.out) HC2.out HS.out).mono ?_; rintro e W4 ⟨v0, rfl, hK, hb⟩; obtain ⟨A7, c7, rfl, hle, hC⟩ := Kd.R_reads hK; have CK7 := mk0 hC; have LK7 := mk0 hle; have B4 := mk0 (below_step B3.out hb); have S4 := mk0 (blk_below S3.out hb); have D4 := mk0 (blk_below D3.out hb); clear hK hC hle hb HS) | (go_at_call 28; refine (metrolabref30_FewSteps.calls kf A7 c7 ls _ W4 CK7.out LK7.out HFS.out).mono ?_; rintro e W5 ⟨rfl, hb⟩; have B5 := mk0 (below_step B4.out hb); have S5 := mk0 (blk_below S4.out hb); have D5 := mk0 (blk_below D4.out hb); clear hb HFS; have uc0 := ct D5.out 0; have uf0 := blk_frozen D5.out 0; have uc1 := ct D5.out 1; have uf1 := blk_frozen D5.out 1; have uc2 := ct D5.out 2; have uf2 := blk_frozen D5.out 2; have sc0 := ct S5.out 0; have sf0 := blk_frozen S5.out 0; have sc1 := ct S5.out 1; have sf1 := blk_frozen S5.out 1; have sc2 := ct S5.out 2; have sf2 := blk_frozen S5.out 2; have sc3 := ct S5.out 3; have sf3 := blk_frozen S5.out 3; have sc4 := ct S5.out 4; have sf4 := blk_frozen S5.out 4; have sc5 := ct S5.out 5; have sf5 := blk_frozen S5.out 5; have sc6 := ct S5.out 6; have sf6 := blk_frozen S5.out 6) | (go_at_call 30; refine (probe_Run.calls a0 a1 a2 a3 a4 a5 A c l x y z A2 c2 l2 r1 sm r3 er W5 (GW_below HG.out B5.out) (Kd.C_below HR.out B5.out) HC.out (Kd.C_below HR2.out B5.out) HC2.out HRUN.out).mono ?_; rintro e W6 ⟨v1, rfl, hK, hb⟩; obtain ⟨As, cs, rfl, hle, hC⟩ := Kd.R_reads hK; have CKS := mk0 hC; have LKS := mk0 hle; have B6 := mk0 (below_step B5.out hb); have S6 := mk0 (blk_below S5.out hb); have D6 := mk0 (blk_below D5.out hb); clear hK hC hle hb HRUN; clear uc0 uf0 uc1 uf1 uc2 uf2; clear sc0 sf0 sc1 sf1 sc2 sf2 sc3 sf3 sc4 sf4 sc5 sf5 sc6 sf6))
 have B7 := mk0 (below_alloc B6.out (.cells #[.string r1, .slice As sm.length cs] 67))
 have S7 := mk0 (blk_alloc S6.out (.cells #[.string r1, .slice As sm.length cs] 67))
 have P7 := mk0 (blk_new W6 (.cells #[.string r1, .slice As sm.length cs] 67))
 have CS7 := mk0 (Kd.C_alloc CKS.out (.cells #[.string r1, .slice As sm.length cs] 67))
 generalize W6.heap.size = gp at P7 ⊢
 generalize W6.alloc (.cells #[.string r1, .slice As sm.length cs] 67) = W7 at B7 S7 P7 CS7 ⊢
 clear CKS B6 S6 D6 B1 S1 D1 B2 S2 D2 B3 S3 D3 B4 S4 D4 B5 S5 D5 CK LK CK7 LK7
 go_loopw [57] (fun v wr => ∃ k : Nat, k ≤ sm.length ∧ v = .int .i64 k ∧ Aside0 (Below W7.heap.size W7 wr)) (fun v _ => sm.length - (intOf v).toNat)
 case atStart => exact ⟨0, Nat.zero_le _, rfl, ⟨Below.refl _ _⟩⟩
 case round =>
  obtain ⟨wa, e⟩ : ∃ wa, wa = wr := ⟨_, rfl⟩
  subst e
  obtain ⟨k, hk, rfl, HB⟩ := hrel
  have hl63 : sm.length ≤ 9223372036854775807 := CS7.out.2.1
  by_cases hlt : k < sm.length
  ·obtain ⟨ad, A1, c1, rfl, c0, c1', hle, hC⟩ := at_T76 (Kd.C_below CS7.out HB.out) (k : Int) (by omega) (by omega)
   rw [Int.toNat_natCast] at c0 c1'
   obtain ⟨X, hX⟩ : ∃ X, X = rd_T76 sm (k : Int) := ⟨_, rfl⟩
   rw [← hX] at c0 c1' hle hC
   have PB := mk0 (blk_below P7.out HB.out)
   have pc1 := ct PB.out 1
   have HC1 := mk0 hC
   have HL1 := mk0 hle
   have HX := mk0 hX
   clear hC hle hX
   have hxn : X.f1 ≠ [] := by rw [HX.out]; exact HNE.out k hlt
   have hl0 : ((X.f1.length : Int) == 0) = false := by simpa using hxn
   have hl1 : (X.f1.length == 0) = false := by simpa using hxn
   clear hxn
   rcases Nat.eq_zero_or_pos k with hk0 | hk0
   case' inl =>
    have q1 : decide ((k : Int) > 0) = false := by rw [hk0]; rfl
    have q2 : decide (0 < k) = false := by rw [hk0]; rfl
    clear hk0
   case' inr =>
    have E7 := mk0 (blk_alloc PB.out (.cells #[.string X.f0, .slice A1 X.f1.length c1] 76))
    have pc1 := ct E7.out 1
    obtain ⟨ad2, A2', c2', e2, d0, _, _⟩ := at_T76 (Kd.C_alloc (Kd.C_below CS7.out HB.out) (.cells #[.string X.f0, .slice A1 X.f1.length c1] 76)) ((k - 1 : Nat) : Int) (by omega) (by omega)
    injection e2 with e2
    subst e2
    rw [Int.toNat_natCast] at d0
    obtain ⟨Y, hY⟩ : ∃ Y, Y = rd_T76 sm ((k - 1 : Nat) : Int) := ⟨_, rfl⟩
    have q5 : leB X.f0 Y.f0 = false := by rw [HX.out, hY]; exact HORD.out k (by omega) hlt
    rw [← hY] at d0
    clear hY
    have q1 : decide ((k : Int) > 0) = true := by simp; omega
    have q2 : decide (0 < k) = true := by simp; omega
    have k1 : (1 : Int) ≤ (k : Int) := by omega
    have k0 : (0 : Int) ≤ (k : Int) - 1 := by omega
    have k2 : (k : Int) - 1 < (sm.length : Int) := by omega
    have k3 : ((k : Int) - 1).toNat = k - 1 := by omega
    have k4 : IntKind.i64.wrap ((k : Int) - 1) = (k : Int) - 1 := IntWalk.i64_in _ (by omega)
   all_goals
    go_wp2
    go_quiet (fail)
    go_wp2
    try clear k1 k0 k2 k3 k4 q5 d0 E7
    try clear pc1 q1 q2
    go_loopw [85] (fun v wb => ∃ j : Nat, j ≤ X.f1.length ∧ v = .int .i64 j ∧ Aside0 (Below wa.heap.size wa wb) ∧ Aside0 (wb.heap[wa.heap.size]? = some (.cells #[.string X.f0, .slice A1 X.f1.length c1] 76 (0, 0)))) (fun v _ => X.f1.length - (intOf v).toNat)
    case atStart => exact ⟨0, Nat.zero_le _, rfl, ⟨pw_below_drewN (below_alloc (Below.refl _ _) _) _⟩, ⟨blk_drewN (blk_new _ _) _⟩⟩
    case round =>
     obtain ⟨wb, e⟩ : ∃ wb, wb = wr := ⟨_, rfl⟩
     subst e
     obtain ⟨j, hj, rfl, HBB, HXB⟩ := hrel
     have hf63 : X.f1.length ≤ 9223372036854775807 := HC1.out.2.1
     by_cases hjl : j < X.f1.length
     ·obtain ⟨ad1, rfl, p0, p1, p2⟩ := at_T23 (Kd.C_below HC1.out HBB.out) (j : Int) (by omega) (by omega)
      rw [Int.toNat_natCast] at p0 p1 p2
      obtain ⟨P, hP⟩ : ∃ P, P = rd_T23 X.f1 (j : Int) := ⟨_, rfl⟩
      rw [← hP] at p0 p1 p2
      obtain ⟨g, m, hM, hG6, hany⟩ := HSP.out k hlt P (by rw [hP, HX.out]; rw [HX.out] at hjl; exact mem_rd23 _ _ hjl)
      have HM := mk0 hM
      have HG6 := mk0 hG6
      have HANY := mk0 hany
      clear hP hM hG6 hany
      have SB := mk0 (blk_alloc (blk_below S7.out (below_step HB.out HBB.out)) (.cells #[.int .i64 P.f0, .int .i64 P.f1, .int .i64 P.f2] 23))
      have BB := mk0 (below_alloc (below_step B7.out (below_step HB.out HBB.out)) (.cells #[.int .i64 P.f0, .int .i64 P.f1, .int .i64 P.f2] 23))
      have sc0 := ct SB.out 0
      have sf0 := blk_frozen SB.out 0
      have sc1 := ct SB.out 1
      have sf1 := blk_frozen SB.out 1
      have sc2 := ct SB.out 2
      have sf2 := blk_frozen SB.out 2
      have sc3 := ct SB.out 3
      have sf3 := blk_frozen SB.out 3
      have sc4 := ct SB.out 4
      have sf4 := blk_frozen SB.out 4
      have sc5 := ct SB.out 5
      have sf5 := blk_frozen SB.out 5
      have sc6 := ct SB.out 6
      have sf6 := blk_frozen SB.out 6
      go_wp2_with (go_at_call 15; refine (probe_Material.calls kf a0 a1 a2 a3 a4 a5 A c l P.f0 P.f1 P.f2 true 0 _ (Kd.C_below HR.out BB.out) HC.out HM.out).mono ?_; rintro e W10 ⟨rfl, hb⟩; have B10 := mk0 (below_step BB.out hb); have BX10 := mk0 (below_step (below_alloc HBB.out _) hb); have S10 := mk0 (blk_below SB.out hb); have P10 := mk0 (blk_below (blk_new wb (.cells #[.int .i64 P.f0, .int .i64 P.f1, .int .i64 P.f2] 23)) hb); have X10 := mk0 (blk_below (blk_alloc HXB.out (.cells #[.int .i64 P.f0, .int .i64 P.f1, .int .i64 P.f2] 23)) hb); clear hb sc0 sf0 sc1 sf1 sc2 sf2 sc3 sf3 sc4 sf4 sc5 sf5 sc6 sf6)
      clear p0 p1 p2 SB BB HM
      go_loopw [16, 95] (fun v16 v95 wc => ∃ (d : Nat) (bs : Bool), d ≤ 6 ∧ v95 = .int .i64 d ∧ v16 = .bool bs ∧ Aside0 (bs = (List.range d).any (fun i => condD (m i))) ∧ Aside0 (Below W10.heap.size W10 wc)) (fun _ v95 _ => 6 - (intOf v95).toNat)
      case atStart => exact ⟨0, false, by decide, rfl, rfl, ⟨rfl⟩, ⟨Below.refl _ _⟩⟩
      case round =>
       obtain ⟨wc, e⟩ : ∃ wc, wc = wr := ⟨_, rfl⟩
       subst e
       obtain ⟨d, bs, hd6, rfl, rfl, HBS, HBC⟩ := hrel
       by_cases hdl : d < 6
       ·obtain ⟨hga, hgm⟩ := HG6.out d hdl
        obtain ⟨G, hG⟩ : ∃ G, G = g d := ⟨_, rfl⟩
        obtain ⟨mb, hmb⟩ : ∃ mb, mb = (m d).1 := ⟨_, rfl⟩
        obtain ⟨me, hme⟩ : ∃ me, me = (m d).2 := ⟨_, rfl⟩
        rw [← hG] at hga hgm
        have HGA := mk0 hga
        have HGM : Aside0 (probe_Material.f kf a0 a1 a2 a3 a4 a5 l G.f0 G.f1 G.f2 = some (mb, me)) := ⟨by rw [hmb, hme]; exact hgm⟩
        have HCD : Aside0 (condD (m d) = ((me == 0 && !mb) || me == 2)) := ⟨by rw [hmb, hme]; rfl⟩
        have SC := mk0 (blk_below S10.out HBC.out)
        have PC := mk0 (blk_below P10.out HBC.out)
        have BW := mk0 (below_step B10.out HBC.out)
        clear hga hgm hG hmb hme
        go_wp2
        have B := mk0 (below_drew1 (Below.refl wc.heap.size wc))
        refine start_ (n := 10) (S := fun w' => True) (ds := []) #[false, false, false, false, false, false, false, false, false, false] (by kernel_rfl) rfl rfl trivial (fun hHeld => ?_); refine with_tabW spotsM.tab19 spotsM.bits19 (fun HT_ HW_ => ?_)
        generalize wc.drew = wd at B hHeld ⊢
        refine pure_ (i := 2) (N := some 101) (v := ?_) (a' := ?_) #[false, false, true, false, false, false, false, false, false, false] rfl rfl (any_of HT_.out (by kernel_rfl)) (fun _ _ _ h => h) (Or.inl ⟨by rfl, ?_⟩) ?_ ?_
        rotate_left
        ·intro w'
         go_simp
         with_reducible rfl
        rotate_left
        ·simp only [Act.put, List.setIfInBounds_toArray, List.set_cons_zero, List.set_cons_succ, i64_w, i32_w]
         rfl
        refine inv_at [0, 1, 3, 4, 5, 6, 7, 8, 9] (fun a0_ b a w' => a = putSel a0_ b [(0, 99, .agg #[.int .i64 a0, .int .i64 a1, .int .i64 a2, .int .i64 a3, .int .i64 a4, .int .i64 a5, .slice A l.length c]), (1, 100, .agg #[.int .i64 P.f0, .int .i64 P.f1, .int .i64 P.f2]), (3, 102, .agg #[.int .i64 G.f0, .int .i64 G.f1, .int .i64 G.f2]), (4, 103, .tuple #[.bool mb, .int .i64 me]), (5, 98, .tuple #[.bool mb, .int .i64 me]), (6, 104, .bool mb), (7, 105, .int .i64 me), (8, 18, .bool mb), (9, 19, .int .i64 me)] ∧ (Below wc.heap.size wc w')) HT_.out HW_.out (by kernel_rfl) (by kernel_rfl) ?_ ?_ ?_
        ·exact ⟨by simp only [putSel, Bool.false_eq_true, if_false], B.out⟩
        ·skip
         clear B
         refine steps_cons ?_ ?_
         ·rintro b a w' ⟨ha, Q_B⟩ hb_ hon hoff
          refine ⟨_, rfl, fun K hK => ?_⟩
          have e3 : a.tmps[3]? = some (.pointer (some ⟨w.heap.size, 0, none⟩)) := by rw [ha]; exact (putSel_off rfl).trans rfl
          replace ha := mk0 ha
          have B := mk0 Q_B
          have hzs0_ : w'.cell? ⟨w.heap.size, 0, none⟩ = some (.int .i64 a0) := (blk_cell (blk_below SC.out B.out) 0).trans rfl
          have hzs1_ : w'.cell? ⟨w.heap.size, 1, none⟩ = some (.int .i64 a1) := (blk_cell (blk_below SC.out B.out) 1).trans rfl
          have hzs2_ : w'.cell? ⟨w.heap.size, 2, none⟩ = some (.int .i64 a2) := (blk_cell (blk_below SC.out B.out) 2).trans rfl
          have hzs3_ : w'.cell? ⟨w.heap.size, 3, none⟩ = some (.int .i64 a3) := (blk_cell (blk_below SC.out B.out) 3).trans rfl
          have hzs4_ : w'.cell? ⟨w.heap.size, 4, none⟩ = some (.int .i64 a4) := (blk_cell (blk_below SC.out B.out) 4).trans rfl
          have hzs5_ : w'.cell? ⟨w.heap.size, 5, none⟩ = some (.int .i64 a5) := (blk_cell (blk_below SC.out B.out) 5).trans rfl
          have hzs6_ : w'.cell? ⟨w.heap.size, 6, none⟩ = some (.slice A l.length c) := (blk_cell (blk_below SC.out B.out) 6).trans rfl
          refine value_ (w1 := w') (v := .agg #[.int .i64 a0, .int .i64 a1, .int .i64 a2, .int .i64 a3, .int .i64 a4, .int .i64 a5, .slice A l.length c]) (by rfl) rfl ?_ ?_
          ·go_simp
           (try simp only [i64_w])
           try rfl
          refine hK.out _ _ ⟨(by rw [ha.out]; exact putSel_upk 0 hb_ rfl rfl rfl), Q_B⟩
         refine steps_cons ?_ ?_
         ·rintro b a w' ⟨ha, Q_B⟩ hb_ hon hoff
          refine ⟨_, rfl, fun K hK => ?_⟩
          have e13 : a.tmps[13]? = some (.pointer (some ⟨wb.heap.size, 0, none⟩)) := by rw [ha]; exact (putSel_off rfl).trans rfl
          replace ha := mk0 ha
          have B := mk0 Q_B
          have hzp0_ : w'.cell? ⟨wb.heap.size, 0, none⟩ = some (.int .i64 P.f0) := (blk_cell (blk_below PC.out B.out) 0).trans rfl
          have hzp1_ : w'.cell? ⟨wb.heap.size, 1, none⟩ = some (.int .i64 P.f1) := (blk_cell (blk_below PC.out B.out) 1).trans rfl
          have hzp2_ : w'.cell? ⟨wb.heap.size, 2, none⟩ = some (.int .i64 P.f2) := (blk_cell (blk_below PC.out B.out) 2).trans rfl
          refine value_ (w1 := w') (v := .agg #[.int .i64 P.f0, .int .i64 P.f1, .int .i64 P.f2]) (by rfl) rfl ?_ ?_
          ·go_simp
           (try simp only [i64_w])
           try rfl
          refine hK.out _ _ ⟨(by rw [ha.out]; exact putSel_upk 1 hb_ rfl rfl rfl), Q_B⟩
         refine steps_cons ?_ ?_
         ·rintro b a w' ⟨ha, Q_B⟩ hb_ hon hoff
          refine ⟨_, rfl, fun K hK => ?_⟩
          have e100 : a.tmps[100]? = some (.agg #[.int .i64 P.f0, .int .i64 P.f1, .int .i64 P.f2]) := by rw [ha]; exact putSel_on (e := (1, 100, .agg #[.int .i64 P.f0, .int .i64 P.f1, .int .i64 P.f2])) 1 rfl rfl (hon 1 (by kernel_rfl)) rfl
          have e101 : a.tmps[101]? = some (.int .i64 (d : Int)) := by rw [ha]; exact (putSel_off rfl).trans rfl
          replace ha := mk0 ha
          have B := mk0 Q_B
          refine goes_ Tryz.func33 (by kernel_rfl) rfl #[.agg #[.int .i64 P.f0, .int .i64 P.f1, .int .i64 P.f2], .int .i64 (d : Int)] (by rfl) rfl rfl (by first | (simp only [List.map_toArray, List.map_cons, List.map_nil, Act.eval, Array.getD_eq_getD_getElem?, Option.getD_some, e100, e101]; done) | (simp only [List.map_toArray, List.map_cons, List.map_nil, Act.eval, Array.getD_eq_getD_getElem?, Option.getD_some, e100, e101]; rfl)) ?_
          refine (metrolabref30_Ahead.calls P.f0 P.f1 P.f2 (d : Int) G.f0 G.f1 G.f2 _ HGA.out).mono ?_
          rintro e w8 ⟨rfl, hb⟩
          refine ⟨_, rfl, ?_⟩
          refine hK.out _ _ ⟨(by rw [ha.out]; exact putSel_upk 2 hb_ rfl rfl rfl), below_step B.out hb⟩
         refine steps_cons ?_ ?_
         ·rintro b a w' ⟨ha, Q_B⟩ hb_ hon hoff
          refine ⟨_, rfl, fun K hK => ?_⟩
          have e99 : a.tmps[99]? = some (.agg #[.int .i64 a0, .int .i64 a1, .int .i64 a2, .int .i64 a3, .int .i64 a4, .int .i64 a5, .slice A l.length c]) := by rw [ha]; exact putSel_on (e := (0, 99, .agg #[.int .i64 a0, .int .i64 a1, .int .i64 a2, .int .i64 a3, .int .i64 a4, .int .i64 a5, .slice A l.length c])) 0 rfl rfl (hon 0 (by kernel_rfl)) rfl
          have e102 : a.tmps[102]? = some (.agg #[.int .i64 G.f0, .int .i64 G.f1, .int .i64 G.f2]) := by rw [ha]; exact putSel_on (e := (3, 102, .agg #[.int .i64 G.f0, .int .i64 G.f1, .int .i64 G.f2])) 2 rfl rfl (hon 3 (by kernel_rfl)) rfl
          replace ha := mk0 ha
          have B := mk0 Q_B
          refine goes_ Tryz.func15 (by kernel_rfl) rfl #[.agg #[.int .i64 a0, .int .i64 a1, .int .i64 a2, .int .i64 a3, .int .i64 a4, .int .i64 a5, .slice A l.length c], .agg #[.int .i64 G.f0, .int .i64 G.f1, .int .i64 G.f2]] (by rfl) rfl rfl (by first | (simp only [List.map_toArray, List.map_cons, List.map_nil, Act.eval, Array.getD_eq_getD_getElem?, Option.getD_some, e99, e102]; done) | (simp only [List.map_toArray, List.map_cons, List.map_nil, Act.eval, Array.getD_eq_getD_getElem?, Option.getD_some, e99, e102]; rfl)) ?_
          refine (probe_Material.calls kf a0 a1 a2 a3 a4 a5 A c l G.f0 G.f1 G.f2 mb me _ (Kd.C_below HR.out (below_step BW.out B.out)) HC.out HGM.out).mono ?_
          rintro e w8 ⟨rfl, hb⟩
          refine ⟨_, rfl, ?_⟩
          refine hK.out _ _ ⟨(by rw [ha.out]; exact putSel_upk 3 hb_ rfl rfl rfl), below_step B.out hb⟩
         refine steps_cons ?_ ?_
         ·rintro b a w' ⟨ha, Q_B⟩ hb_ hon hoff
          refine ⟨_, rfl, fun K hK => ?_⟩
          have e103 : a.tmps[103]? = some (.tuple #[.bool mb, .int .i64 me]) := by rw [ha]; exact putSel_on (e := (4, 103, .tuple #[.bool mb, .int .i64 me])) 3 rfl rfl (hon 4 (by kernel_rfl)) rfl
          replace ha := mk0 ha
          have B := mk0 Q_B
          refine value_ (w1 := w') (v := .tuple #[.bool mb, .int .i64 me]) (by rfl) rfl ?_ ?_
          ·go_simp
           (try simp only [i64_w])
           try rfl
          refine hK.out _ _ ⟨(by rw [ha.out]; exact putSel_upk 4 hb_ rfl rfl rfl), Q_B⟩
         refine steps_cons ?_ ?_
         ·rintro b a w' ⟨ha, Q_B⟩ hb_ hon hoff
          refine ⟨_, rfl, fun K hK => ?_⟩
          have e98 : a.tmps[98]? = some (.tuple #[.bool mb, .int .i64 me]) := by rw [ha]; exact putSel_on (e := (5, 98, .tuple #[.bool mb, .int .i64 me])) 4 rfl rfl (hon 5 (by kernel_rfl)) rfl
          replace ha := mk0 ha
          have B := mk0 Q_B
          refine value_ (w1 := w') (v := .bool mb) (by rfl) rfl ?_ ?_
          ·go_simp
           (try simp only [i64_w])
           try rfl
          refine hK.out _ _ ⟨(by rw [ha.out]; exact putSel_upk 5 hb_ rfl rfl rfl), Q_B⟩
         refine steps_cons ?_ ?_
         ·rintro b a w' ⟨ha, Q_B⟩ hb_ hon hoff
          refine ⟨_, rfl, fun K hK => ?_⟩
          have e98 : a.tmps[98]? = some (.tuple #[.bool mb, .int .i64 me]) := by rw [ha]; exact putSel_on (e := (5, 98, .tuple #[.bool mb, .int .i64 me])) 4 rfl rfl (hon 5 (by kernel_rfl)) rfl
          replace ha := mk0 ha
          have B := mk0 Q_B
          refine value_ (w1 := w') (v := .int .i64 me) (by rfl) rfl ?_ ?_
          ·go_simp
           (try simp only [i64_w])
           try rfl
          refine hK.out _ _ ⟨(by rw [ha.out]; exact putSel_upk 6 hb_ rfl rfl rfl), Q_B⟩
         refine steps_cons ?_ ?_
         ·rintro b a w' ⟨ha, Q_B⟩ hb_ hon hoff
          refine ⟨_, rfl, fun K hK => ?_⟩
          have e104 : a.tmps[104]? = some (.bool mb) := by rw [ha]; exact putSel_on (e := (6, 104, .bool mb)) 5 rfl rfl (hon 6 (by kernel_rfl)) rfl
          replace ha := mk0 ha
          have B := mk0 Q_B
          refine value_ (w1 := w') (v := .bool mb) (by rfl) rfl ?_ ?_
          ·go_simp
           (try simp only [i64_w])
           try rfl
          refine hK.out _ _ ⟨(by rw [ha.out]; exact putSel_upk 7 hb_ rfl rfl rfl), Q_B⟩
         refine steps_cons ?_ ?_
         ·rintro b a w' ⟨ha, Q_B⟩ hb_ hon hoff
          refine ⟨_, rfl, fun K hK => ?_⟩
          have e105 : a.tmps[105]? = some (.int .i64 me) := by rw [ha]; exact putSel_on (e := (7, 105, .int .i64 me)) 6 rfl rfl (hon 7 (by kernel_rfl)) rfl
          replace ha := mk0 ha
          have B := mk0 Q_B
          refine value_ (w1 := w') (v := .int .i64 me) (by rfl) rfl ?_ ?_
          ·go_simp
           (try simp only [i64_w])
           try rfl
          refine hK.out _ _ ⟨(by rw [ha.out]; exact putSel_upk 8 hb_ rfl rfl rfl), Q_B⟩
         exact steps_nil
        rintro b a W11 hall ⟨ha, Q_B⟩
        clear B
        have hb0_ := hall 0 (by kernel_rfl)
        have hb1_ := hall 1 (by kernel_rfl)
        have hb3_ := hall 3 (by kernel_rfl)
        have hb4_ := hall 4 (by kernel_rfl)
        have hb5_ := hall 5 (by kernel_rfl)
        have hb6_ := hall 6 (by kernel_rfl)
        have hb7_ := hall 7 (by kernel_rfl)
        have hb8_ := hall 8 (by kernel_rfl)
        have hb9_ := hall 9 (by kernel_rfl)
        subst ha
        simp only [putSel, hb0_, hb1_, hb3_, hb4_, hb5_, hb6_, hb7_, hb8_, hb9_, if_true, Act.put, List.setIfInBounds_toArray, List.set_cons_zero, List.set_cons_succ]
        have B := mk0 Q_B
        clear Q_B
        clear hall hb0_ hb1_ hb3_ hb4_ hb5_ hb6_ hb7_ hb8_ hb9_
        have HE : Aside0 ((List.range (d + 1)).any (fun i => condD (m i)) = (bs || ((me == 0 && !mb) || me == 2))) := ⟨by rw [List.range_succ, List.any_append, ← HBS.out, ← HCD.out]; simp⟩
        clear HBS HCD
        cases bs <;> cases mb <;> (by_cases m0 : me = 0 <;> by_cases m2 : me = 2)
        all_goals (first | (exfalso; omega) | skip)
        all_goals
         first | have e0 : (me == 0) = true := beq_iff_eq.2 m0 | have e0 : (me == 0) = false := beq_eq_false_iff_ne.2 m0
         first | have e2 : (me == 2) = true := beq_iff_eq.2 m2 | have e2 : (me == 2) = false := beq_eq_false_iff_ne.2 m2
         have E := HE.out
         rw [e0, e2] at E
         replace E := mk0 E
         clear HE m0 m2
         go_wp2
         go_roundw
         case rel => exact ⟨d + 1, _, by omega, by go_num, rfl, ⟨E.out.symm⟩, ⟨below_step HBC.out B.out⟩⟩
         case measure => simp [intOf]; omega
       ·have hd : d = 6 := by omega
        subst hd
        have hbs : bs = true := by rw [HBS.out]; exact HANY.out
        subst hbs
        clear HBS
        go_wp2
        go_roundw
        case rel => exact ⟨j + 1, by omega, by go_num, ⟨below_step BX10.out HBC.out⟩, ⟨blk_below X10.out HBC.out⟩⟩
        case measure => simp [intOf]; omega
     ·have hje : j = X.f1.length := by omega
      subst hje
      go_wp2
      go_roundw
      case rel => exact ⟨k + 1, by omega, by go_num, ⟨below_step HB.out HBB.out⟩⟩
      case measure => simp [intOf]; omega
  ·have hke : k = sm.length := by omega
   subst hke
   go_wp2
   go_loopw [134] (fun v wd => ∃ j : Nat, j ≤ l2.length ∧ v = .int .i64 j ∧ Aside0 (Below wa.heap.size wa wd)) (fun v _ => l2.length - (intOf v).toNat)
   case atStart => exact ⟨0, Nat.zero_le _, rfl, ⟨Below.refl _ _⟩⟩
   case round =>
    obtain ⟨wd, e⟩ : ∃ wd, wd = wr := ⟨_, rfl⟩
    subst e
    obtain ⟨j, hj, rfl, HBD⟩ := hrel
    have BD := mk0 (below_step B7.out (below_step HB.out HBD.out))
    have hl63 : l2.length ≤ 9223372036854775807 := HR2.out.2.1
    by_cases hjl : j < l2.length
    ·obtain ⟨ad3, rfl, p0, p1, p2, p3, p4, p5⟩ := at_T47 (Kd.C_below HR2.out BD.out) (j : Int) (by omega) (by omega)
     rw [Int.toNat_natCast] at p0 p1 p2 p3 p4 p5
     obtain ⟨S, hS⟩ : ∃ S, S = rd_T47 l2 (j : Int) := ⟨_, rfl⟩
     rw [← hS] at p0 p1 p2 p3 p4 p5
     obtain ⟨tx, hT, hRd⟩ := HST.out S (by rw [hS]; exact mem_rd47 _ _ hjl)
     have HT := mk0 hT
     have HRD := mk0 hRd
     clear hS hT hRd
     go_wp2_with (first
      | (go_at_call 21; refine (probe_Text.calls kf S.f0 S.f1.f0 S.f1.f1 S.f1.f2 S.f2 S.f3 tx 0 _ (GW_below HG.out (below_alloc BD.out _)) HT.out).mono ?_; rintro e W12 ⟨rfl, hb⟩; have B12 := mk0 (below_step (below_alloc BD.out _) hb); have BA12 := mk0 (below_step (below_alloc HBD.out _) hb); have X12 := mk0 (blk_below (blk_new wd (.cells #[.int .i64 S.f0, .int .i64 S.f1.f0, .int .i64 S.f1.f1, .int .i64 S.f1.f2, .int .i64 S.f2, .string S.f3] 47)) hb); clear hb HT)
      | (go_at_call 23; refine (probe_Read.calls kf tx S.f0 S.f1.f0 S.f1.f1 S.f1.f2 S.f2 S.f3 0 W12 (GW_below HG.out B12.out) HRD.out).mono ?_; rintro e W13 ⟨rfl, hb⟩; have BA13 := mk0 (below_step BA12.out hb); have X13 := mk0 (blk_alloc (blk_below X12.out hb) (.cells #[.int .i64 S.f0, .int .i64 S.f1.f0, .int .i64 S.f1.f1, .int .i64 S.f1.f2, .int .i64 S.f2, .string S.f3] 47)); clear hb HRD; have xc0 := ct X13.out 0; have xf0 := blk_frozen X13.out 0; have xc1 := ct X13.out 1; have xf1 := blk_frozen X13.out 1; have xc2 := ct X13.out 2; have xf2 := blk_frozen X13.out 2; have xc3 := ct X13.out 3; have xf3 := blk_frozen X13.out 3; have xc4 := ct X13.out 4; have xf4 := blk_frozen X13.out 4; have xc5 := ct X13.out 5; have xf5 := blk_frozen X13.out 5))
     go_roundw
     case rel => exact ⟨j + 1, by omega, by go_num, ⟨below_alloc BA13.out _⟩⟩
     case measure => simp [intOf]; omega
    ·have hje : j = l2.length := by omega
     subst hje
     go_wp2_with (go_at_call 14; refine (metrolablaw30_awake.calls kf true _ (GW_below HG.out BD.out) HA.out).mono ?_; rintro e W9 ⟨rfl, hb⟩; have B9 := mk0 (below_step BD.out hb); clear hb)
     go_ret
     exact ⟨rfl, B9.out⟩
end Go.Proofs.YtolbjmaabghghaaGreatDoor.PA
