/- A part of the proof. -/
import Derived.Test.YtolbjmaabghghaaGreatDoorH7EM1
namespace Go.Proofs.YtolbjmaabghghaaGreatDoor.PA
open Go.RowKit Go.PW Go.PL Go.PM
attribute [local go_sem] Oper.semAt_some
set_option linter.unusedVariables false
set_option linter.unusedSimpArgs false
set_option maxHeartbeats 2000000 in
set_option maxRecDepth 100000 in
theorem bsf_nil (s : ByteArray) (w : World) : Calls Tryz.prog 105 #[.slice none 0 0, .string s, .func (.func 106) #[] #[]] w fun e w' => e = .returned (.tuple #[.int .i64 0, .bool false]) ∧ Below w.heap.size w w' := by
 go_enter Tryz.func105, Tryz.ntmps105
 go_wp2
 go_loopw [9, 10] (fun i j wr => i = .int .i64 0 ∧ j = .int .i64 0 ∧ Aside0 (Below w.heap.size w wr)) (fun _ _ _ => 0)
 case atStart => exact ⟨rfl, rfl, ⟨Below.refl _ _⟩⟩
 case round =>
  obtain ⟨rfl, rfl, hB⟩ := hrel
  go_wp2
  go_ret2
  exact ⟨rfl, hB.out⟩
def InsPost (gm N0 : Nat) (s : ByteArray) (nt : List S23) (w : World) (e : Ending) (w' : World) : Prop :=
 ∃ v1, e = .returned v1 ∧ Kd.S k76 76 w' gm (fun k => N0 ≤ k) v1 [⟨s, nt⟩] ∧ Below w.heap.size w w'
set_option maxHeartbeats 2000000 in
set_option maxRecDepth 100000 in
theorem insert_nil (gm N0 g : Nat) (s : ByteArray) (vn : Value) (nt : List S23) (w : World) (hN : N0 ≤ w.heap.size) (hgm : gm ≤ w.heap.size) (hb : w.heap[g]? = some (.cells #[.string s, vn] 76 (0, 0))) (hR : Kd.R k23 23 w gm (fun k => N0 ≤ k) vn nt) :
  Calls Tryz.prog 108 #[.slice none 0 0, .int .i64 0, .slice (some ⟨g, 0, none⟩) 1 1] w (InsPost gm N0 s nt w) := by
 have hu65 := Tryz.underlying65
 have c0 : w.cell? ⟨g, 0, none⟩ = some (.string s) := ct hb 0
 have c1 : w.cell? ⟨g, 1, none⟩ = some vn := ct hb 1
 have HRR : Aside0 (ReadsRow (fun (x : S76 × Nat) cs => x = (⟨s, nt⟩, 0) ∧ cs = [.string s, vn]) 2 w (some ⟨g, 0, none⟩) 1 [((⟨s, nt⟩ : S76), 0)]) := by
  refine ⟨⟨rfl, by decide, fun _ => ⟨_, rfl, fun j p hj => ?_⟩⟩⟩
  have hj0 : j = 0 := by
   have := (List.getElem?_eq_some_iff.1 hj).1
   simpa using this
  subst hj0
  obtain rfl : (((⟨s, nt⟩ : S76), 0) : S76 × Nat) = p := by simpa using hj
  refine ⟨[.string s, vn], rfl, ⟨rfl, rfl⟩, fun i u hi => ?_⟩
  rcases i with _ | _ | i
  ·obtain rfl : Value.string s = u := by simpa using hi
   exact c0
  ·obtain rfl : vn = u := by simpa using hi
   exact c1
  ·simp at hi
 have HN := mk0 hN
 have HG := mk0 hgm
 have HR := mk0 hR
 clear hN hgm hR hb c0 c1
 go_enter Tryz.func108, Tryz.ntmps108
 go_wp2_with (at_builtin; refine Kd.R_append_rows (w0 := w) (Kd.tag (fun _ => 0) k76) (Rr := fun (x : S76 × Nat) cs => x = (⟨s, nt⟩, 0) ∧ cs = [.string s, vn]) gm rfl _ _ 65 76 (.agg #[.string ⟨#[]⟩, .slice none 0 0]) 40 rfl Tryz.underlying65 info76 rfl (by decide) (by decide) (.slice none 0 0) [] [(⟨s, nt⟩, 0)] (some ⟨g, 0, none⟩) 1 1 (fun k => N0 ≤ k) (fun k => N0 ≤ k) (by rfl) (by rfl) (Kd.R_nil _ _ _ _ _) HRR.out (by rintro x cs ⟨rfl, rfl⟩; exact k76_mkM _ _ _ ⟨s, nt⟩ (Kd.R_mono HR.out (fun k hk => ⟨hk, rfl⟩))) (fun k hk => ⟨hk, by simp [Value.ownBlock]⟩) (fun k hk => Nat.le_trans HN.out hk) (Below.refl _ _) HG.out (by decide) ?_; intro v1 w1 hR1 hb1 hg1 hat1; have HR1 := mk0 hR1; have HG1 := mk0 hg1; clear hR1 hb1 hg1 hat1)
 go_ret
 exact ⟨v1, rfl, ⟨fun _ => 0, HR1.out⟩, (Below.refl _ w).grown HG1.out (Nat.le_refl _) (fun k hk => by simp [Value.ownBlock] at hk)⟩
end Go.Proofs.YtolbjmaabghghaaGreatDoor.PA
