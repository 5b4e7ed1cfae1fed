/- A part of the proof. -/
import Derived.RangeFuncNested
import Derived.RangeFuncBound
import Derived.RangeFuncCalls
import Derived.RangeFuncLeaves
import Derived.WalkKit
import Derived.OwnWalkIn
import Derived.TacticsInMore
import Derived.LoopNIn
import Derived.LoopIn
namespace Go.Proofs.YtolbjmaabghghaaGreatDoor
open Go Go.RowKit
def KK (B : Nat) (A A' : World) : Prop := A.heap.size ≤ A'.heap.size ∧ ∀ k, B ≤ k → k < A.heap.size → A'.heap[k]? = A.heap[k]?
theorem KK.trans {B : Nat} {a b c : World} (h : KK B a b) (k : KK B b c) : KK B a c := ⟨Nat.le_trans h.1 k.1, fun i hi hl => (k.2 i hi (Nat.lt_of_lt_of_le hl h.1)).trans (h.2 i hi hl)⟩
theorem KK.mono {B B' : Nat} {a b : World} (h : KK B a b) (hb : B ≤ B') : KK B' a b := ⟨h.1, fun i hi hl => h.2 i (Nat.le_trans hb hi) hl⟩
theorem KK.of_below {B : Nat} {a b : World} (h : Below a.heap.size a b) : KK B a b := ⟨h.size, fun i _ hl => h.block i hl⟩
theorem KK.putObj {B : Nat} (A : World) (r : Nat) (o : Obj) (hr : r < B) : KK B A (A.putObj r o) := ⟨by simp, fun k hk _ => World.putObj_heap_other (by omega)⟩
theorem KK.setCell {B : Nat} (A : World) (p : Addr) (v : Value) (hr : p.block < B) : KK B A (A.setCell p v) := by
 exact ⟨((Below.refl 0 A).setCell (p := p) (Nat.zero_le _) v).size, fun k hk _ => Below.heap_setCell A p v k (by omega)⟩
theorem below_putObj {B : Nat} (W : World) (l : Nat) (o o' : Obj) (hl : B ≤ l) (h : W.heap[l]? = some o) : Below B W (W.putObj l o') :=
 (Below.refl B W).grown (grownBy_putObj' W l o') (by have := (Array.getElem?_eq_some_iff.1 h).1; omega) (fun k e => by cases e; omega)
def SeqM {α : Type} (F : Fence) (n : Nat) (P : Program) (g : Nat) (lb : Array Value) (encs : α → Array Value) (xs : List α) (w : World) : Prop :=
 ∀ (l : Nat) (J Jx : List α → World → Prop) (W : World), Below w.heap.size w W → (∀ s A B, J s A → Below W.heap.size A B → J s B) → (∀ s A B, Jx s A → Below W.heap.size A B → Jx s B) →
  (∀ pre x W1, J pre W1 → pre ++ [x] <+: xs → YieldAt F (n - 1) P l (encs x) W1 fun e W' =>
   (e = .returned (.bool true) ∧ J (pre ++ [x]) W' ∧ KK W.heap.size W1 W') ∨ (e = .returned (.bool false) ∧ Jx (pre ++ [x]) W')) →
  J [] W →
  CallsIn F n P g (#[.func (.yield l) #[] #[]] ++ lb) W fun e W' => (∃ v, e = .returned v) ∧ (J xs W' ∨ (∃ pre, pre <+: xs ∧ Jx pre W'))
def postM {α : Type} (B : Nat) (I : List α → World → Prop) (Ix : Code → List α → World → Prop) (xs : List α) (W : World) : Exit → Act → World → Prop
 | .normal, _, W' => KK B W W' ∧ I xs W'
 | .ret, _, W' => KK B W W' ∧ Ix .ret xs W'
 | .exit id, _, W' => KK B W W' ∧ Ix (.exit id) xs W'
 | .goto t, _, W' => KK B W W' ∧ Ix (.goto t) xs W'
 | .panic _, _, _ => False
 | .outgrown, _, _ => False
variable {F : Fence} {n : Nat} {P : Program}
theorem wpIn_rangeFunc_M {α : Type} {g : Operand} {ps : Array Tmp} {assign body : Code} {Q : Exit → Act → World → Prop} {a : Act} {w : World}
  (hro : F.round = none) (h1 : 1 ≤ n) {gf : Nat} {lb : Array Value} (hg : a.eval g = .func (.func gf) #[] lb) (hFg : F.fn gf) (eg : ∀ args w, (callFunc gf args).run P w = .ok (.enter gf args) w)
  {encs : α → Array Value} {xs : List α} (hseq : SeqM F (n - 1) P gf lb encs xs w) (hps : ∀ x, (encs x).size = ps.size)
  (I : List α → World → Prop) (Ix : Code → List α → World → Prop) (hI : ∀ s A B, I s A → Below w.heap.size A B → I s B) (hIx : ∀ c s A B, Ix c s A → Below w.heap.size A B → Ix c s B) (h0 : I [] w)
  (Ax : α → Act → World → Prop) (hAx : ∀ x a A o, Ax x a A → Ax x a (A.putObj (w.heap.size + 1) o))
  (hassign : ∀ (l : Nat) (pre : List α) (x : α) (W : World) (K : Act → World → Prop), I pre W → w.heap.size + 1 < W.heap.size → (∀ a₁ W', KK w.heap.size W W' → I pre W' → Ax x a₁ W' → K a₁ W') →
   assign.wpIn (F.inRound l) (n - 1 - 1) P (Exit.then K (fun _ _ _ => False)) { tmps := (ps.zip (encs x)).foldl (fun t (p, v) => t.setIfInBounds p v) a.tmps, defers := [] } W)
  (hbody : ∀ (l : Nat) (pre : List α) (x : α) (a₁ : Act) (W : World), I pre W → Ax x a₁ W → pre ++ [x] <+: xs → w.heap.size + 1 < W.heap.size → body.wpIn (F.inRound l) (n - 1 - 1) P (postM w.heap.size I Ix (pre ++ [x]) W) a₁ W)
  (hdone : ∀ (W : World), I xs W → W.heap[w.heap.size]? = some (.deferred (some [])) → Q .normal { a with defers := { target := .collected w.heap.size, args := #[] } :: a.defers } W)
  (hstop : ∀ (c : Code) (pre : List α) (W : World), pre <+: xs → Ix c pre W → W.heap[w.heap.size]? = some (.deferred (some [])) → c.wpIn F n P Q { a with defers := { target := .collected w.heap.size, args := #[] } :: a.defers } W) :
  (Code.rangeFunc g ps assign body).wpIn F n P Q a w := by
 refine wpIn_rangeFunc ?_
 intro fn hfn
 rw [hro]
 obtain ⟨rec, hrec⟩ : ∃ rec : LoopState → Option Code → Loop, rec = fun st pe => { state := st, pending := pe, fn, tmps := a.tmps, params := ps, assign, body, defers := w.heap.size } := ⟨_, rfl⟩
 obtain ⟨W1, hW1⟩ : ∃ W1, (w.alloc (.deferred (some []))).alloc (.loop (rec .ready none)) = W1 := ⟨_, rfl⟩
 have hL1 : W1.heap[w.heap.size + 1]? = some (.loop (rec .ready none)) := by
  rw [← hW1]; have := World.alloc_heap_new (w.alloc (.deferred (some []))) (.loop (rec .ready none)); rwa [World.size_alloc] at this
 have hK1 : W1.heap[w.heap.size]? = some (.deferred (some [])) := by
  rw [← hW1]; exact (Below.heap_alloc _ _ _ (by simp)).trans (World.alloc_heap_new w _)
 have hb1 : Below w.heap.size w W1 := by
  rw [← hW1]; exact ((Below.refl _ w).alloc (Nat.le_refl _) _).alloc (by simp) _
 have hs1 : W1.heap.size = w.heap.size + 2 := by rw [← hW1]; simp
 have hI1 : I [] W1 := hI _ _ _ h0 hb1
 refine ⟨w.heap.size + 1, [{ target := .collected w.heap.size, args := #[] }], W1, { target := .fn (.func gf) lb, args := #[.func (.yield (w.heap.size + 1)) #[] #[]] }, W1, gf,
  #[.func (.yield (w.heap.size + 1)) #[] #[]] ++ lb, W1, ?_, ?_, ?_, ?_, fun _ => h1, ?_⟩
 ·rw [← hW1, hrec]; exact run_enterLoop_outer _ _ _ _ _
 ·simp only [resolve, hg]
  simp [go_sem]
 ·intro f' hf'; simp [Target.leads] at hf'; subst hf'; exact hFg
 ·simp [invoke, go_sem, eg]
 ·refine (hseq (w.heap.size + 1)
   (fun pre W => I pre W ∧ W.heap[w.heap.size + 1]? = some (.loop (rec .ready none)) ∧ W.heap[w.heap.size]? = some (.deferred (some [])))
   (fun pre W => ∃ c, Ix c pre W ∧ W.heap[w.heap.size + 1]? = some (.loop (rec .done (some c))) ∧ W.heap[w.heap.size]? = some (.deferred (some [])))
   W1 hb1
   (fun s A B hs hb => ⟨hI s A B hs.1 (hb.mono (by omega)), (hb.block _ (by omega)).trans hs.2.1, (hb.block _ (by omega)).trans hs.2.2⟩)
   (fun s A B hs hb => by
    obtain ⟨c, hc, hl, hk⟩ := hs
    exact ⟨c, hIx c s A B hc (hb.mono (by omega)), (hb.block _ (by omega)).trans hl, (hb.block _ (by omega)).trans hk⟩)
   ?_ ⟨hI1, hL1, hK1⟩).mono ?_
  ·rintro pre x W ⟨hi, hl, hk⟩ hpre
   have hlt : w.heap.size + 1 < W.heap.size := (Array.getElem?_eq_some_iff.1 hl).1
   have hy := run_yield (P := P) (args := encs x) hl (by rw [hrec]; exact hps x)
   rw [hrec] at hy
   refine ⟨fn, _, assign, body, hy, roundIn_of_wpIn hfn (hassign _ pre x W _ hi hlt ?_)⟩
   intro a₁ Wa hka hia hax
   have hla : Wa.heap[w.heap.size + 1]? = some (.loop (rec .ready none)) := (hka.2 _ (by omega) hlt).trans hl
   have hda : Wa.heap[w.heap.size]? = some (.deferred (some [])) := (hka.2 _ (Nat.le_refl _) (by omega)).trans hk
   have hlta : w.heap.size + 1 < Wa.heap.size := (Array.getElem?_eq_some_iff.1 hla).1
   refine ⟨_, run_beginRound hla (by rw [hrec]), ?_⟩
   have hl2 : (Wa.putObj (w.heap.size + 1) (.loop { rec .ready none with state := .busy })).heap[w.heap.size + 1]? = some (.loop { rec .ready none with state := .busy }) := World.putObj_heap_same hlta
   have hk2 : (Wa.putObj (w.heap.size + 1) (.loop { rec .ready none with state := .busy })).heap[w.heap.size]? = some (.deferred (some [])) := (World.putObj_heap_other (by omega)).trans hda
   have hb2 : Below w.heap.size Wa (Wa.putObj (w.heap.size + 1) (.loop { rec .ready none with state := .busy })) := below_putObj _ _ _ _ (by omega) hla
   have hw2 : KK W1.heap.size W (Wa.putObj (w.heap.size + 1) (.loop { rec .ready none with state := .busy })) := (hka.mono (by omega)).trans (KK.putObj _ _ _ (by omega))
   refine wpIn_mono (hbody _ pre x a₁ _ (hI _ _ _ hia hb2) (hAx _ _ _ _ hax) hpre (by simp; omega)) ?_
   have fin : ∀ (jump : Option Code) (W3 : World), KK w.heap.size (Wa.putObj (w.heap.size + 1) (.loop { rec .ready none with state := .busy })) W3 →
     (Instr.endRound (w.heap.size + 1) jump).run P W3 = .ok (.bool jump.isNone) (W3.putObj (w.heap.size + 1) (.loop (rec (if jump.isNone then .ready else .done) jump))) ∧
     W3.heap[w.heap.size + 1]? = some (.loop { rec .ready none with state := .busy }) ∧
     (W3.putObj (w.heap.size + 1) (.loop (rec (if jump.isNone then .ready else .done) jump))).heap[w.heap.size + 1]? = some (.loop (rec (if jump.isNone then .ready else .done) jump)) ∧
     (W3.putObj (w.heap.size + 1) (.loop (rec (if jump.isNone then .ready else .done) jump))).heap[w.heap.size]? = some (.deferred (some [])) := fun jump W3 hk3 => by
    have hl3 := (hk3.2 _ (by omega) (by simp; omega)).trans hl2
    have := run_endRound (P := P) jump hl3
    rw [hrec] at this ⊢
    exact ⟨this, by rw [hrec] at hl3; exact hl3, World.putObj_heap_same (Array.getElem?_eq_some_iff.1 hl3).1, (World.putObj_heap_other (by omega)).trans ((hk3.2 _ (Nat.le_refl _) (by simp; omega)).trans hk2)⟩
   rintro e a3 W3 hp
   cases e with
   | normal =>
    obtain ⟨hk3, hi3⟩ := hp
    obtain ⟨hr, hl3, hl4, hk4⟩ := fin none W3 hk3
    exact ⟨_, _, hr, .inl ⟨rfl, ⟨hI _ _ _ hi3 (below_putObj _ _ _ _ (by omega) hl3), hl4, hk4⟩, (hw2.trans (hk3.mono (by omega))).trans (KK.putObj _ _ _ (by omega))⟩⟩
   | ret =>
    obtain ⟨hk3, hi3⟩ := hp
    obtain ⟨hr, hl3, hl4, hk4⟩ := fin (some .ret) W3 hk3
    exact ⟨_, _, hr, .inr ⟨rfl, .ret, hIx _ _ _ _ hi3 (below_putObj _ _ _ _ (by omega) hl3), hl4, hk4⟩⟩
   | exit id =>
    obtain ⟨hk3, hi3⟩ := hp
    obtain ⟨hr, hl3, hl4, hk4⟩ := fin (some (.exit id)) W3 hk3
    exact ⟨_, _, hr, .inr ⟨rfl, .exit id, hIx _ _ _ _ hi3 (below_putObj _ _ _ _ (by omega) hl3), hl4, hk4⟩⟩
   | goto t =>
    obtain ⟨hk3, hi3⟩ := hp
    obtain ⟨hr, hl3, hl4, hk4⟩ := fin (some (.goto t)) W3 hk3
    exact ⟨_, _, hr, .inr ⟨rfl, .goto t, hIx _ _ _ _ hi3 (below_putObj _ _ _ _ (by omega) hl3), hl4, hk4⟩⟩
   | panic ch => exact hp.elim
   | outgrown => exact hp.elim
  ·rintro e W2 ⟨⟨v, rfl⟩, (⟨hi, hl, hk⟩ | ⟨pre, hSp, c, hi, hl, hk⟩)⟩
   ·exact ⟨none, _, by have := run_endLoop (P := P) hl (by rw [hrec]; simp); rw [hrec] at this; exact this, hdone _ (hI _ _ _ hi (below_putObj _ _ _ _ (by omega) hl)) ((World.putObj_heap_other (by omega)).trans hk)⟩
   ·exact ⟨some c, _, by have := run_endLoop (P := P) hl (by rw [hrec]; simp); rw [hrec] at this; exact this, hstop c pre _ hSp (hIx _ _ _ _ hi (below_putObj _ _ _ _ (by omega) hl)) ((World.putObj_heap_other (by omega)).trans hk)⟩
end Go.Proofs.YtolbjmaabghghaaGreatDoor
