/- A part of the proof. -/
import Derived.Test.YtolbjmaabghghaaGreatDoorJ7PAx0
namespace Go.Proofs.YtolbjmaabghghaaGreatDoor.PA
open Go.RowKit Go.PW Go.PL Go.PM
set_option linter.unusedVariables false
set_option linter.unusedSimpArgs false
def hasPQ (p q x y n : Int) : Bool := decide (wrap64 (4 * wrap64 (wrap64 (wrap64 (p - x) * wrap64 (p - x)) + wrap64 (wrap64 (q - y) * wrap64 (q - y)))) < wrap64 (n * n))
def hasB (b : S84) (t0 t1 t2 : Int) : Bool :=
 if b.f0 = 0 then hasPQ t1 t2 b.f1.f0 b.f1.f1 b.f2 else if b.f0 = 1 then hasPQ t0 t2 b.f1.f0 b.f1.f1 b.f2 else hasPQ t0 t1 b.f1.f0 b.f1.f1 b.f2
set_option maxHeartbeats 2000000 in
set_option maxRecDepth 100000 in
theorem has0 (x y n t0 t1 t2 : Int) (w : World) :
  Calls Tryz.prog 66 #[.agg #[.int .i64 0, .int .i64 x, .int .i64 y, .int .i64 n], .agg #[.int .i64 t0, .int .i64 t1, .int .i64 t2]] w fun e w' => e = .returned (.bool (hasPQ t1 t2 x y n)) ∧ Below w.heap.size w w' := by
 have hu84 := Tryz.underlying84
 have hu101 := Tryz.underlying101
 have hu81 := Tryz.underlying81
 go_enter Tryz.func66, Tryz.ntmps66
 go_wp2
 repeat (go_quiet (fail); go_wp2)
 go_ret
 exact ⟨rfl, pw_below_drewN (below_alloc (below_alloc (Below.refl _ _) _) _) _⟩
set_option maxHeartbeats 2000000 in
set_option maxRecDepth 100000 in
theorem has1 (x y n t0 t1 t2 : Int) (w : World) :
  Calls Tryz.prog 66 #[.agg #[.int .i64 1, .int .i64 x, .int .i64 y, .int .i64 n], .agg #[.int .i64 t0, .int .i64 t1, .int .i64 t2]] w fun e w' => e = .returned (.bool (hasPQ t0 t2 x y n)) ∧ Below w.heap.size w w' := by
 have hu84 := Tryz.underlying84
 have hu101 := Tryz.underlying101
 have hu81 := Tryz.underlying81
 go_enter Tryz.func66, Tryz.ntmps66
 go_wp2
 repeat (go_quiet (fail); go_wp2)
 go_ret
 exact ⟨rfl, pw_below_drewN (below_alloc (below_alloc (Below.refl _ _) _) _) _⟩
set_option maxHeartbeats 2000000 in
set_option maxRecDepth 100000 in
theorem has2 (x y n t0 t1 t2 : Int) (w : World) :
  Calls Tryz.prog 66 #[.agg #[.int .i64 2, .int .i64 x, .int .i64 y, .int .i64 n], .agg #[.int .i64 t0, .int .i64 t1, .int .i64 t2]] w fun e w' => e = .returned (.bool (hasPQ t0 t1 x y n)) ∧ Below w.heap.size w w' := by
 have hu84 := Tryz.underlying84
 have hu101 := Tryz.underlying101
 have hu81 := Tryz.underlying81
 go_enter Tryz.func66, Tryz.ntmps66
 go_wp2
 repeat (go_quiet (fail); go_wp2)
 go_ret
 exact ⟨rfl, pw_below_drewN (below_alloc (below_alloc (Below.refl _ _) _) _) _⟩
theorem has_calls (b : S84) (t0 t1 t2 : Int) (w : World) (h0 : 0 ≤ b.f0) (h2 : b.f0 ≤ 2) :
  Calls Tryz.prog 66 #[.agg #[.int .i64 b.f0, .int .i64 b.f1.f0, .int .i64 b.f1.f1, .int .i64 b.f2], .agg #[.int .i64 t0, .int .i64 t1, .int .i64 t2]] w fun e w' => e = .returned (.bool (hasB b t0 t1 t2)) ∧ Below w.heap.size w w' := by
 unfold hasB
 rcases (by omega : b.f0 = 0 ∨ b.f0 = 1 ∨ b.f0 = 2) with e | e | e <;> rw [e]
 ·exact has0 _ _ _ _ _ _ _
 ·exact has1 _ _ _ _ _ _ _
 ·exact has2 _ _ _ _ _ _ _
set_option maxHeartbeats 2000000 in
set_option maxRecDepth 100000 in
theorem full1_calls (b : S84) (gb : Nat) (t0 t1 t2 : Int) (w : World) (hb : w.heap[gb]? = some (.cells #[.int .i64 t0, .int .i64 t1, .int .i64 t2] 101 (0, 0))) (h0 : 0 ≤ b.f0) (h2 : b.f0 ≤ 2) :
  Calls Tryz.prog 65 #[.agg #[.int .i64 b.f0, .int .i64 b.f1.f0, .int .i64 b.f1.f1, .int .i64 b.f2], .pointer (some ⟨gb, 0, none⟩)] w fun e w' => e = .returned (.bool (hasB b t0 t1 t2)) ∧ Below w.heap.size w w' := by
 have hu84 := Tryz.underlying84
 have hu101 := Tryz.underlying101
 have hu81 := Tryz.underlying81
 have hlt : gb < w.heap.size := blk_lt hb
 have c0 : w.cell? ⟨gb, 0, none⟩ = some (.int .i64 t0) := ct hb 0
 have c1 : w.cell? ⟨gb, 1, none⟩ = some (.int .i64 t1) := ct hb 1
 have c2 : w.cell? ⟨gb, 2, none⟩ = some (.int .i64 t2) := ct hb 2
 have HC := fun W => has_calls b t0 t1 t2 W h0 h2
 have H := mk0 HC
 clear HC hb h0 h2
 go_enter Tryz.func65, Tryz.ntmps65
 go_wp2_with (go_at_call 66; refine (H.out _).mono ?_; rintro e w' ⟨rfl, hb⟩)
 go_ret
 exact ⟨rfl, below_then (below_alloc (Below.refl _ _) _) (by simp) hb⟩
def IdxPost (p : Bool) (w : World) (e : Ending) (w' : World) : Prop := ∃ i : Int, e = .returned (.int .i64 i) ∧ decide (0 ≤ i) = p ∧ Below w.heap.size w w'
def IdxRel (l : List S84) (t0 t1 t2 : Int) (w : World) (v : Value) (w' : World) : Prop := ∃ k : Nat, k ≤ l.length ∧ v = .int .i64 k ∧ ((l.take k).any (fun b => hasB b t0 t1 t2) = false) ∧ Below w.heap.size w w'
set_option maxHeartbeats 2000000 in
set_option maxRecDepth 100000 in
theorem idx_calls (A : Option Addr) (c : Nat) (l : List S84) (gb : Nat) (t0 t1 t2 : Int) (w : World) (hr : Kd.C k84 w A l.length l) (hc : l.length ≤ c)
  (hb : w.heap[gb]? = some (.cells #[.int .i64 t0, .int .i64 t1, .int .i64 t2] 101 (0, 0))) (hax : ∀ b, b ∈ l → 0 ≤ b.f0 ∧ b.f0 ≤ 2) (hm : l.length ≤ 9223372036854775807) :
  Calls Tryz.prog 88 #[.slice A l.length c, .func (.func 65) #[] #[.pointer (some ⟨gb, 0, none⟩)]] w (IdxPost (l.any (fun b => hasB b t0 t1 t2)) w) := by
 have hu84 := Tryz.underlying84
 have HR := mk0 hr
 have HBX := mk0 hb
 have HAX := mk0 hax
 clear hr hb hax
 go_enter Tryz.func88, Tryz.ntmps88
 go_wp2
 go_loopw [8] (fun v wr => IdxRel l t0 t1 t2 w v wr) (fun v _ => l.length - (intOf v).toNat)
 case atStart => exact ⟨0, Nat.zero_le _, rfl, by simp, Below.refl _ _⟩
 case round =>
  obtain ⟨k, hk, rfl, hno, hB⟩ := hrel
  have HB := mk0 hB
  have HNO := mk0 hno
  clear hB hno
  by_cases hlt : k < l.length
  ·obtain ⟨ad, eA, q0, q1, q2, q3⟩ := at_T84 HR.out (k : Int) (by omega) (by omega)
   subst eA
   simp only [Int.toNat_natCast] at q0 q1 q2 q3
   replace q0 := (HB.out.cell (World.block_lt_of_cell? w _ q0)).trans q0
   replace q1 := (HB.out.cell (World.block_lt_of_cell? w _ q1)).trans q1
   replace q2 := (HB.out.cell (World.block_lt_of_cell? w _ q2)).trans q2
   replace q3 := (HB.out.cell (World.block_lt_of_cell? w _ q3)).trans q3
   obtain ⟨b, hbe⟩ : ∃ b, rd_T84 l (k : Int) = b := ⟨_, rfl⟩
   rw [hbe] at q0 q1 q2 q3
   have hget : l[k]? = some b := by rw [← hbe]; simp [rd_T84, List.getD, hlt]
   have hax := HAX.out b (List.mem_of_getElem? hget)
   have HF := fun W hW => full1_calls b gb t0 t1 t2 W hW hax.1 hax.2
   have H := mk0 HF
   have HG := mk0 hget
   clear HF hbe hget hax
   cases hv : hasB b t0 t1 t2
   all_goals
    rw [hv] at H
    have HV := mk0 hv
    clear hv
    go_wp2_with (go_at_call 65; refine (H.out _ (by exact blk_below HBX.out HB.out)).mono ?_; rintro e w' ⟨rfl, hb⟩)
   ·go_roundw
    case rel =>
     refine ⟨k + 1, by omega, by go_num, ?_, below_then HB.out HB.out.size hb⟩
     rw [List.take_add_one, HG.out, List.any_append, HNO.out]
     simp [HV.out]
    case measure => simp [intOf]; omega
   ·go_ret
    refine ⟨(k : Int), rfl, ?_, below_then HB.out HB.out.size hb⟩
    rw [decide_eq_true (by omega : (0 : Int) ≤ (k : Int))]
    exact (List.any_eq_true.2 ⟨b, List.mem_of_getElem? HG.out, HV.out⟩).symm
  ·go_wp2
   go_ret
   refine ⟨-1, rfl, ?_, HB.out⟩
   have : k = l.length := by omega
   have hno := HNO.out
   rw [this, List.take_length] at hno
   rw [hno]; rfl
def contains_bore.f (l : List S84) (t0 t1 t2 : Int) : Option Bool := if l.length ≤ 4096 ∧ l.all (fun b => decide (0 ≤ b.f0 ∧ b.f0 ≤ 2)) = true then some (l.any fun b => hasB b t0 t1 t2) else none
set_option maxHeartbeats 2000000 in
set_option maxRecDepth 100000 in
theorem contains_bore.calls (A : Option Addr) (c : Nat) (l : List S84) (gb : Nat) (t0 t1 t2 : Int) (r : Bool) (w : World) (hr : Kd.C k84 w A l.length l) (hc : l.length ≤ c)
  (hb : w.heap[gb]? = some (.cells #[.int .i64 t0, .int .i64 t1, .int .i64 t2] 101 (0, 0))) (h : contains_bore.f l t0 t1 t2 = some r) :
  Calls Tryz.prog 64 #[.slice A l.length c, .func (.func 65) #[] #[.pointer (some ⟨gb, 0, none⟩)]] w fun e w' => e = .returned (.bool r) ∧ Below w.heap.size w w' := by
 unfold contains_bore.f at h
 split at h
 ·rename_i hall0
  obtain ⟨hlen, hall⟩ := hall0
  obtain rfl := Option.some.inj h
  have hax : ∀ b, b ∈ l → 0 ≤ b.f0 ∧ b.f0 ≤ 2 := fun b hb => of_decide_eq_true (List.all_eq_true.1 hall b hb)
  have hm : l.length ≤ 9223372036854775807 := by omega
  have H := mk0 (idx_calls A c l gb t0 t1 t2 w hr hc hb hax hm)
  clear hr hb hax hall h
  go_enter Tryz.func64, Tryz.ntmps64
  go_wp2_with (go_at_call 88; refine (H.out).mono ?_; rintro e w' ⟨i, rfl, hi, hb⟩)
  go_ret
  exact ⟨by rw [← hi]; rfl, hb⟩
 ·cases h
end Go.Proofs.YtolbjmaabghghaaGreatDoor.PA
