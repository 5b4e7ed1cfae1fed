/- A part of the proof. -/
import Derived.Test.YtolbjmaabghghaaGreatDoorJ7EWay3
import Derived.Laws.CopyRow
import Derived.Lib.Overlaps
import Derived.Lib.AppendZerosOnto
import Derived.Laws.NewBlocks
import Derived.Deep.RegionLaw
namespace Go.Proofs.YtolbjmaabghghaaGreatDoor.PA
open Go.RowKit Go.PW Go.PL Go.PM
set_option linter.unusedVariables false
set_option linter.unusedSimpArgs false
theorem run_copy_row2 {P : Program} (w : World) (dT sT ty elem : TypeId) (g o dLen dCap : Nat) (a : Addr) (sLen sCap : Nat) (cur : Array Value) (t : TypeId) (cs : List Value)
  (hu : P.underlying dT = some (.slice elem)) (hs : (P.info? elem).map (·.size) = some 2)
  (hg : w.heap[g]? = some (.cells cur t (0, 0))) (hn : cs.length = Nat.min sLen dLen * 2)
  (hsrc : ∀ j v, cs[j]? = some v → w.cell? (a.add j) = some v) (hfit : o + cs.length ≤ cur.size) (h1 : ∀ v ∈ cs, v.oneCell' = true) :
  (Builtin.copy_ #[dT, sT] ty #[.slice (some ⟨g, o, none⟩) dLen dCap, .slice (some a) sLen sCap]).run P w =
   .ok (goInt (Nat.min sLen dLen)) (w.setRow g (cur.toList.take o ++ cs ++ cur.toList.drop (o + cs.length)).toArray) := by
 have hl := run_loadCells_list (P := P) w a cs hsrc
 have hst := run_storeCells_at P g o t cs 0 cur w hg (by simpa using hfit) h1
 cases hq : P.info? elem with
 | none => simp [hq] at hs
 | some i =>
  have hi : i.size = 2 := by simpa [hq] using hs
  simp [Builtin.copy_, run_underlying hu, Builtin.lenOf, Builtin.firstCells, sizeOf, typeInfo, hq, hi, ← hn, hl, hst]
theorem wp_copy1 {P : Program} (w : World) {o : Oper} {a : Act} {K : Act → World → Prop} {Q : Exit → Act → World → Prop} (d s : Operand) (t t' : TypeId)
  (ho : o.op = .call { callee := .builtin .copy, args := #[d, s], argTypes := #[t, t'] }) (v u : Value) (hd : a.eval d = v) (hs : a.eval s = u) {v' : Value} {w' : World}
  (hr : (Builtin.copy_ #[t, t'] o.type #[v, u]).run P w = .ok v' w') (h : K (a.put o.dst v') w') : o.wp P a w K Q := by
 unfold Oper.wp execOp
 simp only [ho, resolve, invoke, builtin, Sem.run_bind, Sem.run_pure, Result.andThen_ok, List.map_toArray, List.map_cons, List.map_nil, hd, hs, hr]
 exact h
theorem list_copy1 {P : Program} (w : World) {ops : Array Oper} {rest : List Oper} {o : Oper} {a : Act} {Q : Exit → Act → World → Prop} (hgd : o.guard = none) (d s : Operand) (t t' : TypeId)
  (ho : o.op = .call { callee := .builtin .copy, args := #[d, s], argTypes := #[t, t'] }) (v u : Value) (hd : a.eval d = v) (hs : a.eval s = u) {v' : Value} {w' : World}
  (hr : (Builtin.copy_ #[t, t'] o.type #[v, u]).run P w = .ok v' w') (h : wpList P ops Q rest (a.put o.dst v') w') : wpList P ops Q (o :: rest) a w :=
 wpList_plain hgd fun _ hK => wp_copy1 w d s t t' ho v u hd hs hr (hK _ _ h)
theorem step_copy1 {P : Program} {ops : Array Oper} {o : Oper} {a : Act} {w : World} {K : Act → World → Prop} {Q : Exit → Act → World → Prop} {E : Prop}
  (hg : o.guard = none) (d x : Operand) (dT sT : TypeId) (hop : o.op = Op.call { callee := Callee.builtin Builtin.copy, args := #[d, x], argTypes := #[dT, sT] })
  (v u : Value) (hd : a.eval d = v) (hx : a.eval x = u) {v' : Value} {w' : World} (hr : (Builtin.copy_ #[dT, sT] o.type #[v, u]).run P w = .ok v' w') (hK : K (a.put o.dst v') w') :
  if Region.wanted o (yielded ops a.tmps) = true then Oper.wp P o a w K Q else E := by
 have hw : Region.wanted o (yielded ops a.tmps) = true := by simp [Region.wanted, hg]
 rw [if_pos hw]
 exact wp_copy1 w d x dT sT hop v u hd hx hr hK
theorem size76 : (Tryz.prog.info? 76).map (·.size) = some 2 := by kernel_rfl
theorem no_overlap (gx b o lb cb : Nat) (w : World) (hne : gx ≠ b) (cx cb' : Array Value) (hx : w.heap[gx]? = some (.cells cx 76 (0, 0))) (hb : w.heap[b]? = some (.cells cb' 76 (0, 0))) (h0 : cb'.size ≠ 0) :
  (callFunc 127 #[.slice (some ⟨gx, 0, none⟩) 1 1, .slice (some ⟨b, o, none⟩) lb cb]).run Tryz.prog w = .ok (.value (.bool false)) w := by
 have hz : ∀ w, (Go.sizeOf 76).run Tryz.prog w = .ok 2 w := fun w => by
  obtain ⟨i, hi⟩ := Option.isSome_iff_exists.1 (by kernel_rfl : (Tryz.prog.info? 76).isSome = true)
  have h := size76
  rw [hi] at h
  have h2 : i.size = 2 := by simpa using h
  simp [sizeOf, typeInfo, hi, h2]
 rw [run_callFunc_extern Tryz.func127 (by kernel_rfl) (by kernel_rfl) (by kernel_rfl) (e := Extern.SlicesOverlaps.overlaps #[65, 65] #[4]) (by kernel_rfl),
  Lib.run_overlaps_apart w 65 4 76 Tryz.underlying65 2 hz ⟨gx, 0, none⟩ ⟨b, o, none⟩ 1 1 lb cb hne 76 76 cx.size cb'.size (by simp [World.shape?, hx]) (by simp [World.shape?, hb]) h0 (blk_frozen hx 0) (blk_frozen hx cx.size)]
 rfl
theorem grown_setRow (w : World) (b : Nat) (R : Array Value) : w.grownBy (w.drew.setRow b R) (some b) :=
 ⟨rfl, rfl, rfl, by show w.heap.size ≤ (w.heap.modify b _).size; rw [Array.size_modify]; exact Nat.le_refl _, fun k _ hk => by
  have hne : b ≠ k := fun e => hk (by rw [e])
  show (w.heap.modify b _)[k]? = _
  rw [Array.getElem?_modify, if_neg hne]⟩
theorem setRow_size (w : World) (b : Nat) (R : Array Value) : (w.setRow b R).heap.size = w.heap.size := Array.size_modify
theorem setRow_far (w : World) {b k : Nat} (hne : k ≠ b) (R : Array Value) : (w.setRow b R).heap[k]? = w.heap[k]? := by
 show (w.heap.modify b _)[k]? = _
 rw [Array.getElem?_modify, if_neg (fun e => hne e.symm)]
def insCells (i n : Nat) (cur : List Value) (x : List Value) : List Value := cur.take (i * 2) ++ x ++ (cur.take (n * 2)).drop (i * 2)
set_option maxHeartbeats 8000000 in
set_option maxRecDepth 100000 in
theorem insert_shift (b i n c gx : Nat) (cur : Array Value) (s : ByteArray) (vn : Value) (w : World) (hi : i < n) (hroom : n + 1 ≤ c) (hc63 : c ≤ 9223372036854775807) (hne : gx ≠ b) (hx : w.heap[gx]? = some (.cells #[.string s, vn] 76 (0, 0)))
  (hb : w.heap[b]? = some (.cells cur 76 (0, 0))) (hsz : cur.size = c * 2) (h1c : ∀ v ∈ cur.toList.take (n * 2), v.oneCell' = true) (h1v : vn.oneCell' = true) :
  Calls Tryz.prog 108 #[.slice (some ⟨b, 0, none⟩) n c, .int .i64 i, .slice (some ⟨gx, 0, none⟩) 1 1] w fun e w' => e = .returned (.slice (some ⟨b, 0, none⟩) (n + 1) c) ∧
   ∃ row : Array Value, w'.heap[b]? = some (.cells row 76 (0, 0)) ∧ row.size = cur.size ∧ row.toList.take ((n + 1) * 2) = insCells i n cur.toList [.string s, vn] ∧ w.grownBy w' (some b) := by
 have hu65 := Tryz.underlying65
 have hov : ∀ lb cb, (callFunc 127 #[.slice (some ⟨gx, 0, none⟩) 1 1, .slice (some ⟨b, (i + 1) * 2, none⟩) lb cb]).run Tryz.prog w = .ok (.value (.bool false)) w := fun lb cb => no_overlap gx b _ lb cb w hne _ _ hx hb (by omega)
 have hz2 : ¬ ((i : Int) = (n : Int)) := by omega
 have HX := mk0 hx
 have HBB := mk0 hb
 have H1C := mk0 h1c
 have H1V := mk0 h1v
 have HSZ := mk0 hsz
 have HNE := mk0 hne
 clear hx hb h1c h1v hsz hne
 obtain ⟨L, hL⟩ : ∃ L, L = cur.toList := ⟨_, rfl⟩
 obtain ⟨cs, hcs⟩ : ∃ cs, cs = (L.take (n * 2)).drop (i * 2) := ⟨_, rfl⟩
 obtain ⟨R1, hR1⟩ : ∃ R1, R1 = (L.take ((i + 1) * 2) ++ cs ++ L.drop ((i + 1) * 2 + cs.length)).toArray := ⟨_, rfl⟩
 obtain ⟨R2, hR2⟩ : ∃ R2, R2 = (R1.toList.take (i * 2) ++ [.string s, vn] ++ R1.toList.drop (i * 2 + [Value.string s, vn].length)).toArray := ⟨_, rfl⟩
 have hLl : L.length = c * 2 := by rw [hL]; simpa using HSZ.out
 have hcl : cs.length = n * 2 - i * 2 := by rw [hcs, List.length_drop, List.length_take, hLl]; omega
 have hB : w.drew.heap[b]? = some (.cells cur 76 (0, 0)) := HBB.out
 have hcp1 : ∀ ty dc sc, (Builtin.copy_ #[65, 65] ty #[.slice (some ⟨b, (i + 1) * 2, none⟩) (n - i) dc, .slice (some ⟨b, i * 2, none⟩) (n + 1 - i) sc]).run Tryz.prog w.drew = .ok (goInt (Nat.min (n + 1 - i) (n - i))) (w.drew.setRow b R1) := fun ty dc sc => by
  rw [hR1, hL]
  refine run_copy_row2 w.drew 65 65 ty 76 b ((i + 1) * 2) (n - i) dc ⟨b, i * 2, none⟩ (n + 1 - i) sc cur 76 cs Tryz.underlying65 size76 hB (by rw [hcl]; show n * 2 - i * 2 = min (n + 1 - i) (n - i) * 2; omega) (fun j v hj => ?_) (by rw [hcl, HSZ.out]; omega) (fun v hv => H1C.out v (by rw [← hL]; rw [hcs] at hv; exact List.mem_of_mem_drop hv))
  rw [Addr.add_lit]
  have h1 : w.drew.cell? ⟨b, i * 2 + j, none⟩ = cur[i * 2 + j]? := blk_cell hB (i * 2 + j)
  rw [h1]
  rw [hcs, List.getElem?_drop, List.getElem?_take] at hj
  split at hj
  ·rw [hL, Array.getElem?_toList] at hj; exact hj
  ·cases hj
 have hB1 : (w.drew.setRow b R1).heap[b]? = some (.cells R1 76 (0, 0)) := setRow_heap w.drew b cur R1 76 (0, 0) hB
 have hX1 : ∀ j, (w.drew.setRow b R1).cell? ⟨gx, j, none⟩ = #[Value.string s, vn][j]? := fun j => by
  rw [cell_setRow_other w.drew b R1 ⟨gx, j, none⟩ HNE.out]
  exact blk_cell HX.out j
 have hR1l : R1.size = c * 2 := by rw [hR1]; simp [hLl, hcl]; omega
 have hcp2 : ∀ (W : World), W.heap[b]? = some (.cells R1 76 (0, 0)) → (∀ j, W.cell? ⟨gx, j, none⟩ = #[Value.string s, vn][j]?) → ∀ ty dc, (Builtin.copy_ #[65, 65] ty #[.slice (some ⟨b, i * 2, none⟩) (n + 1 - i) dc, .slice (some ⟨gx, 0, none⟩) 1 1]).run Tryz.prog W = .ok (goInt (Nat.min 1 (n + 1 - i))) (W.setRow b R2) := fun W hW1 hW2 ty dc => by
  rw [hR2]
  refine run_copy_row2 W 65 65 ty 76 b (i * 2) (n + 1 - i) dc ⟨gx, 0, none⟩ 1 1 R1 76 [.string s, vn] Tryz.underlying65 size76 hW1 (by show 2 = min 1 (n + 1 - i) * 2; omega) (fun j v hj => ?_) (by rw [hR1l]; simp; omega) (fun v hv => ?_)
  ·rw [Addr.add_lit, Nat.zero_add, hW2]
   rcases j with _ | _ | j
   ·exact hj
   ·exact hj
   ·simp at hj
  ·simp only [List.mem_cons, List.not_mem_nil, or_false] at hv
   rcases hv with rfl | rfl
   ·rfl
   ·exact H1V.out
 have HR1 := mk0 hR1
 have HR2 := mk0 hR2
 have HL := mk0 hL
 have HLL := mk0 hLl
 have HCS := mk0 hcs
 have HCL := mk0 hcl
 have HR1L := mk0 hR1l
 have HHB := mk0 hB
 clear hR1 hR2 hL hLl hcs hcl hR1l hB
 go_enter Tryz.func108, Tryz.ntmps108
 go_wp2_with (simp only [hov])
 have hw1 : IntKind.i64.wrap ((i : Int) + 1) = (i : Int) + 1 := by rw [IntKind.wrap_i64]; omega
 have hb1 : (0 : Int) ≤ (i : Int) + 1 := by omega
 have htn : ((i : Int) + 1).toNat = i + 1 := by omega
 have hb2 : ¬ (c = i + 1) := by omega
 have hb3 : (i : Int) ≤ (n : Int) + 1 := by omega
 have hb4 : ¬ (c = i) := by omega
 have hb5 : (i : Int) + 1 ≤ (n : Int) + 1 := by omega
 go_region_law (refine step_copy1 rfl _ _ 65 65 rfl _ _ (by simp [Act.eval, Act.put]) (by simp [Act.eval, Act.put]) (hcp1 _ _ _) ?_)
 go_wp2_with (at_builtin; refine list_copy1 _ rfl _ _ 65 65 rfl _ _ rfl rfl (hcp2 _ (by first | exact hB1 | assumption) hX1 _ _) ?_)
 go_ret
 refine ⟨rfl, R2, setRow_heap _ b R1 R2 76 (0, 0) hB1, ?_, ?_, ?_⟩
 ·rw [HR2.out, HSZ.out]
  simp [HR1L.out]
  omega
 ·have e1 : R1.toList.take (i * 2) = L.take (i * 2) := by
   rw [HR1.out]
   show (L.take ((i + 1) * 2) ++ cs ++ _).take (i * 2) = _
   rw [List.append_assoc, List.take_append_of_le_length (by rw [List.length_take, HLL.out]; omega), List.take_take]
   congr 1
   omega
  have e2 : R1.toList.drop (i * 2 + 2) = cs ++ L.drop ((i + 1) * 2 + cs.length) := by
   rw [HR1.out]
   show (L.take ((i + 1) * 2) ++ cs ++ _).drop (i * 2 + 2) = _
   rw [List.append_assoc, List.drop_left' (by rw [List.length_take, HLL.out]; omega)]
  rw [HR2.out]
  show (R1.toList.take (i * 2) ++ [Value.string s, vn] ++ R1.toList.drop (i * 2 + 2)).take ((n + 1) * 2) = _
  rw [e1, e2, ← List.append_assoc, List.take_left' (by rw [List.length_append, List.length_append, List.length_take, HLL.out, HCL.out]; simp; omega), HCS.out, HL.out]
  rfl
 ·rw [setRow_setRow]
  exact grown_setRow w b R2
theorem zero76 : ∃ i, Tryz.prog.info? 76 = some i ∧ i.zero = some (.agg #[.string ⟨#[]⟩, .slice none 0 0]) ∧ i.size = 2 ∧ i.bytes = 40 := by
 obtain ⟨i, hi, h⟩ := Option.map_eq_some_iff.1 info76
 simp only [Prod.mk.injEq] at h
 exact ⟨i, hi, h.1, h.2.1, h.2.2⟩
set_option maxHeartbeats 8000000 in
set_option maxRecDepth 100000 in
theorem insert_grow (b i n c gx : Nat) (cur : Array Value) (s : ByteArray) (vn : Value) (w : World) (hi : i < n) (hroom : c < n + 1) (hn : n ≤ 8192) (hx : w.heap[gx]? = some (.cells #[.string s, vn] 76 (0, 0)))
  (hb : w.heap[b]? = some (.cells cur 76 (0, 0))) (hnc : n ≤ c) (hsz : cur.size = c * 2) (h1c : ∀ v ∈ cur.toList.take (n * 2), v.oneCell' = true) (h1v : vn.oneCell' = true) :
  Calls Tryz.prog 108 #[.slice (some ⟨b, 0, none⟩) n c, .int .i64 i, .slice (some ⟨gx, 0, none⟩) 1 1] w fun e w' => ∃ G, e = .returned (.slice (some ⟨w.heap.size, 0, none⟩) (n + 1) G) ∧ n + 1 ≤ G ∧ G ≤ maxLen ∧
   ∃ row : Array Value, w'.heap[w.heap.size]? = some (.cells row 76 (0, 0)) ∧ row.size = G * 2 ∧ row.toList.take ((n + 1) * 2) = insCells i n cur.toList [.string s, vn] ∧ w.grownBy w' none := by
 have hu65 := Tryz.underlying65
 obtain ⟨i0, hi0, hz0, hzs, hzb⟩ := zero76
 have hbw := blk_lt hb
 have hxw := blk_lt hx
 have hz2 : ¬ ((i : Int) = (n : Int)) := by omega
 have hz3 : (c : Int) < (n : Int) + 1 := by omega
 obtain ⟨L, hL⟩ : ∃ L, L = cur.toList := ⟨_, rfl⟩
 have hLl : L.length = c * 2 := by rw [hL]; simpa using hsz
 obtain ⟨cs, hcs⟩ : ∃ cs, cs = (L.take (n * 2)).drop (i * 2) := ⟨_, rfl⟩
 have hcl : cs.length = n * 2 - i * 2 := by rw [hcs, List.length_drop, List.length_take, hLl]; omega
 have hcell : ∀ (W : World), (∀ x, W.heap[x]? = w.heap[x]? ∨ w.heap.size ≤ x) → W.heap[b]? = some (.cells cur 76 (0, 0)) ∧ W.heap[gx]? = some (.cells #[.string s, vn] 76 (0, 0)) := fun W hW => by
  constructor
  ·rcases hW b with h | h
   ·rw [h]; exact hb
   ·omega
  ·rcases hW gx with h | h
   ·rw [h]; exact hx
   ·omega
 have hold : (Builtin.firstCells i0.size i (.slice (some ⟨b, 0, none⟩) i c)).run Tryz.prog w.drew = .ok (L.take (i * 2)).toArray w.drew := by
  rw [hzs]
  have hlen : (L.take (i * 2)).length = i * 2 := by rw [List.length_take, hLl]; omega
  have hrl := run_loadCells_list (P := Tryz.prog) w.drew ⟨b, 0, none⟩ (L.take (i * 2)) (fun j v hj => by
   rw [Addr.add_lit, Nat.zero_add]
   have h1 : w.drew.cell? ⟨b, j, none⟩ = cur[j]? := blk_cell (show w.drew.heap[b]? = _ from hb) j
   rw [h1]
   rw [List.getElem?_take] at hj
   split at hj
   ·rw [hL, Array.getElem?_toList] at hj; exact hj
   ·cases hj)
  rw [hlen] at hrl
  simpa [Builtin.firstCells] using hrl
 obtain ⟨G, hG⟩ : ∃ G, G = grownCap w (n + 1) c 76 := ⟨_, rfl⟩
 have hGn : n + 1 ≤ G := by rw [hG]; exact grownCap_ge w _ _ _
 have hGm : G ≤ maxLen := by rw [hG]; exact grownCap_le_maxLen w (n + 1) c 76 (by unfold maxLen; omega)
 have hG63 : G ≤ 9223372036854775807 := by unfold maxLen at hGm; omega
 obtain ⟨ROW, hROW⟩ : ∃ ROW : Array Value, ROW = (L.take (i * 2)).toArray ++ Builtin.zeroCells (Value.agg #[.string ⟨#[]⟩, .slice none 0 0]).cells (n + 1 - i) ++ Builtin.zeroCells (Value.agg #[.string ⟨#[]⟩, .slice none 0 0]).cells (G - (n + 1)) := ⟨_, rfl⟩
 have hRl : ROW.size = G * 2 := by
  rw [hROW]
  simp [Builtin.zeroCells, Value.cells, hLl]
  omega
 have hRt : ROW.toList.take (i * 2) = L.take (i * 2) := by
  rw [hROW]
  simp only [Array.toList_append, List.append_assoc]
  rw [List.take_left' (by rw [List.length_take, hLl]; omega)]
 have hik : i + (n + 1 - i) = n + 1 := by omega
 have hkk : (n : Int) + 1 - (i : Int) = ((n + 1 - i : Nat) : Int) := by omega
 have hrz : ∀ ty, (Builtin.append_ #[65, 3] ty #[.slice (some ⟨b, 0, none⟩) i c, .int .i64 ((n : Int) + 1 - (i : Int))]).run Tryz.prog w = .ok (.slice (some ⟨w.heap.size, 0, none⟩) (n + 1) G) (w.drew.alloc (.cells ROW 76)) := fun ty => by
  have h := Lib.run_append_grow_zeros w 65 3 ty 76 i0 _ .i64 .i64 Tryz.underlying65 Tryz.underlying3 hi0 hz0 (some ⟨b, 0, none⟩) i c (L.take (i * 2)) hold (n + 1 - i) (by omega) (by omega) (by omega) (by omega) (by rw [hzb]; omega) (by rw [hzb, hik]; exact growslice_fits hroom (by omega))
  rw [hik, ← hG, ← hROW] at h
  rw [hkk]
  exact h
 obtain ⟨N, hN⟩ : ∃ N, N = w.heap.size := ⟨_, rfl⟩
 obtain ⟨R1, hR1⟩ : ∃ R1, R1 = (ROW.toList.take (i * 2) ++ [.string s, vn] ++ ROW.toList.drop (i * 2 + [Value.string s, vn].length)).toArray := ⟨_, rfl⟩
 obtain ⟨R2, hR2⟩ : ∃ R2, R2 = (R1.toList.take ((i + 1) * 2) ++ cs ++ R1.toList.drop ((i + 1) * 2 + cs.length)).toArray := ⟨_, rfl⟩
 have hR1l : R1.size = G * 2 := by rw [hR1]; simp [hRl]; omega
 have hcpA : ∀ (W : World), W.heap[w.heap.size]? = some (.cells ROW 76 (0, 0)) → W.heap[gx]? = some (.cells #[.string s, vn] 76 (0, 0)) → ∀ ty dc, (Builtin.copy_ #[65, 65] ty #[.slice (some ⟨w.heap.size, i * 2, none⟩) (n + 1 - i) dc, .slice (some ⟨gx, 0, none⟩) 1 1]).run Tryz.prog W = .ok (goInt (Nat.min 1 (n + 1 - i))) (W.setRow w.heap.size R1) := fun W hW1 hW2 ty dc => by
  rw [hR1]
  refine run_copy_row2 W 65 65 ty 76 w.heap.size (i * 2) (n + 1 - i) dc ⟨gx, 0, none⟩ 1 1 ROW 76 [.string s, vn] Tryz.underlying65 size76 hW1 (by show 2 = min 1 (n + 1 - i) * 2; omega) (fun j v hj => ?_) (by rw [hRl]; simp; omega) (fun v hv => ?_)
  ·rw [Addr.add_lit, Nat.zero_add, blk_cell hW2 j]
   rcases j with _ | _ | j
   ·exact hj
   ·exact hj
   ·simp at hj
  ·simp only [List.mem_cons, List.not_mem_nil, or_false] at hv
   rcases hv with rfl | rfl
   ·rfl
   ·exact h1v
 have hcpB : ∀ (W : World), W.heap[w.heap.size]? = some (.cells R1 76 (0, 0)) → W.heap[b]? = some (.cells cur 76 (0, 0)) → ∀ ty dc sc, (Builtin.copy_ #[65, 65] ty #[.slice (some ⟨w.heap.size, (i + 1) * 2, none⟩) (n - i) dc, .slice (some ⟨b, i * 2, none⟩) (n - i) sc]).run Tryz.prog W = .ok (goInt (Nat.min (n - i) (n - i))) (W.setRow w.heap.size R2) := fun W hW1 hW2 ty dc sc => by
  rw [hR2]
  refine run_copy_row2 W 65 65 ty 76 w.heap.size ((i + 1) * 2) (n - i) dc ⟨b, i * 2, none⟩ (n - i) sc R1 76 cs Tryz.underlying65 size76 hW1 (by rw [hcl]; show n * 2 - i * 2 = min (n - i) (n - i) * 2; omega) (fun j v hj => ?_) (by rw [hcl, hR1l]; omega) (fun v hv => h1c v (by rw [← hL]; rw [hcs] at hv; exact List.mem_of_mem_drop hv))
  rw [Addr.add_lit, blk_cell hW2 (i * 2 + j)]
  rw [hcs, List.getElem?_drop, List.getElem?_take] at hj
  split at hj
  ·rw [hL, Array.getElem?_toList] at hj; exact hj
  ·cases hj
 have hA1 : ((w.alloc (.cells ROW 76)).drew).heap[w.heap.size]? = some (.cells ROW 76 (0, 0)) := blk_new w _
 have hA2 : ((w.alloc (.cells ROW 76)).drew).heap[gx]? = some (.cells #[.string s, vn] 76 (0, 0)) := blk_alloc hx _
 have hA3 : ((w.alloc (.cells ROW 76)).drew).heap[b]? = some (.cells cur 76 (0, 0)) := blk_alloc hb _
 have hB1 : (((w.alloc (.cells ROW 76)).drew.setRow w.heap.size R1).drew).heap[w.heap.size]? = some (.cells R1 76 (0, 0)) := setRow_heap _ _ ROW R1 76 (0, 0) hA1
 have hB2 : (((w.alloc (.cells ROW 76)).drew.setRow w.heap.size R1).drew).heap[b]? = some (.cells cur 76 (0, 0)) := (setRow_far _ (by omega) R1).trans hA3
 have HR1 := mk0 hR1
 have HR2 := mk0 hR2
 have HL := mk0 hL
 have HCS := mk0 hcs
 have HCL := mk0 hcl
 have HR1L := mk0 hR1l
 have HRT := mk0 hRt
 have HRL := mk0 hRl
 have HLL := mk0 hLl
 have HGM := mk0 hGm
 clear hkk hik hold hROW hG hRl hRt hLl hL hR1 hR2 hcs hcl hR1l hi0 hz0 hzs hzb hsz hGm hcell hN hx hb h1c h1v
 have hGi : ¬ (G = i) := by omega
 have hGim : ¬ (G = i + 1) := by omega
 have hb1 : (0 : Int) ≤ (i : Int) + 1 := by omega
 have hb3 : (i : Int) ≤ (n : Int) := by omega
 have hb4 : ¬ (c = i) := by omega
 have hb5 : (i : Int) + 1 ≤ (n : Int) + 1 := by omega
 have htn : ((i : Int) + 1).toNat = i + 1 := by omega
 have hw1 : IntKind.i64.wrap ((i : Int) + 1) = (i : Int) + 1 := by rw [IntKind.wrap_i64]; omega
 go_enter Tryz.func108, Tryz.ntmps108
 go_wp2_with (first
  | (at_builtin; refine Lib.wpList_append_run _ rfl _ _ _ _ rfl _ _ rfl rfl _ _ (hrz _) ?_)
  | (refine list_copy1 _ rfl _ _ 65 65 rfl _ _ rfl rfl (hcpA _ hA1 hA2 _ _) ?_))
 go_region_law (refine step_copy1 rfl _ _ 65 65 rfl (.slice (some ⟨w.heap.size, (i + 1) * 2, none⟩) (n - i) (G - (i + 1))) (.slice (some ⟨b, i * 2, none⟩) (n - i) (c - i)) (by simp [Act.eval, Act.put]) (by simp [Act.eval, Act.put]) (hcpB _ hB1 hB2 3 (G - (i + 1)) (c - i)) ?_)
 go_wp2
 go_ret
 refine ⟨G, rfl, hGn, HGM.out, R2, setRow_heap _ _ R1 R2 76 (0, 0) hB1, ?_, ?_, ?_⟩
 ·have h1 : R1.toList.length = G * 2 := by simpa using HR1L.out
  have h2 := HCL.out
  rw [HR2.out]
  simp only [List.size_toArray, List.length_append, List.length_take, List.length_drop, h1, h2]
  omega
 ·have e1 : R1.toList.take ((i + 1) * 2) = L.take (i * 2) ++ [.string s, vn] := by
   rw [HR1.out]
   show (ROW.toList.take (i * 2) ++ [Value.string s, vn] ++ _).take ((i + 1) * 2) = _
   rw [HRT.out, List.take_left' (by rw [List.length_append, List.length_take, HLL.out]; simp; omega)]
  rw [HR2.out]
  show (R1.toList.take ((i + 1) * 2) ++ cs ++ _).take ((n + 1) * 2) = _
  rw [e1, List.take_left' (by rw [List.length_append, List.length_append, List.length_take, HLL.out, HCL.out]; simp; omega), HCS.out, HL.out]
  rfl
 ·refine ⟨rfl, rfl, rfl, ?_, fun k hk _ => ?_⟩
  ·rw [setRow_size]
   show w.heap.size ≤ ((w.alloc (.cells ROW 76)).drew.setRow w.heap.size R1).heap.size
   rw [setRow_size]
   show w.heap.size ≤ (w.alloc (.cells ROW 76)).heap.size
   simp
  ·have hne : k ≠ w.heap.size := by omega
   rw [setRow_far _ hne R2]
   show (((w.alloc (.cells ROW 76)).drew).setRow w.heap.size R1).heap[k]? = _
   rw [setRow_far _ hne R1]
   exact Below.heap_alloc w (.cells ROW 76) k hk
section
variable {α : Type} {R : α → List Value → Prop}
theorem reps_take {ps : List α} {cs : List Value} (h : Reps R 2 ps cs) (i : Nat) (hi : i ≤ ps.length) : Reps R 2 (ps.take i) (cs.take (i * 2)) := by
 obtain ⟨hl, hr⟩ := h
 refine ⟨by rw [List.length_take, List.length_take, hl]; omega, fun j p hj => ?_⟩
 rw [List.getElem?_take] at hj
 split at hj
 ·rw [List.drop_take, List.take_take, show min 2 (i * 2 - j * 2) = 2 by omega]
  exact hr j p hj
 ·cases hj
theorem reps_drop {ps : List α} {cs : List Value} (h : Reps R 2 ps cs) (i : Nat) : Reps R 2 (ps.drop i) (cs.drop (i * 2)) := by
 obtain ⟨hl, hr⟩ := h
 refine ⟨by rw [List.length_drop, List.length_drop, hl]; omega, fun j p hj => ?_⟩
 rw [List.getElem?_drop] at hj
 rw [List.drop_drop, show i * 2 + j * 2 = (i + j) * 2 by omega]
 exact hr (i + j) p hj
theorem reps_append {ps qs : List α} {cs ds : List Value} (h : Reps R 2 ps cs) (g : Reps R 2 qs ds) : Reps R 2 (ps ++ qs) (cs ++ ds) := by
 obtain ⟨hl, hr⟩ := h
 obtain ⟨gl, gr⟩ := g
 refine ⟨by rw [List.length_append, List.length_append, hl, gl]; omega, fun j p hj => ?_⟩
 rcases Nat.lt_or_ge j ps.length with hlt | hge
 ·rw [List.getElem?_append_left hlt] at hj
  rw [List.drop_append_of_le_length (by omega), List.take_append_of_le_length (by rw [List.length_drop]; omega)]
  exact hr j p hj
 ·rw [List.getElem?_append_right hge] at hj
  have := gr (j - ps.length) p hj
  rw [show j * 2 = cs.length + (j - ps.length) * 2 by omega, List.drop_append, List.drop_of_length_le (by omega), Nat.add_sub_cancel_left, List.nil_append]
  exact this
theorem reps_one {p : α} {u v : Value} (h : R p [u, v]) : Reps R 2 [p] [u, v] := by
 refine ⟨rfl, fun j q hj => ?_⟩
 obtain rfl : j = 0 := by
  have := (List.getElem?_eq_some_iff.1 hj).1
  simpa using this
 obtain rfl : p = q := by simpa using hj
 exact h
theorem reps_ins {ps : List α} {cs : List Value} (h : Reps R 2 ps cs) (i : Nat) (hi : i ≤ ps.length) {p : α} {u v : Value} (hp : R p [u, v]) : Reps R 2 (ps.take i ++ p :: ps.drop i) (cs.take (i * 2) ++ [u, v] ++ cs.drop (i * 2)) := by
 have := reps_append (reps_append (reps_take h i hi) (reps_one hp)) (reps_drop h i)
 rwa [List.append_assoc (ps.take i) [p] _] at this
theorem reps_cells {ps : List α} {cs : List Value} (h : Reps R 2 ps cs) (h1 : ∀ p c, R p c → ∀ u ∈ c, u.oneCell' = true) : ∀ v ∈ cs, v.oneCell' = true := by
 intro v hv
 obtain ⟨k, hk, rfl⟩ := List.mem_iff_getElem.1 hv
 have hl := h.1
 have hj : k / 2 < ps.length := by omega
 refine h1 _ _ (h.2 (k / 2) ps[k / 2] (List.getElem?_eq_getElem hj)) _ (List.mem_iff_getElem?.2 ⟨k % 2, ?_⟩)
 rw [List.getElem?_take_of_lt (by omega), List.getElem?_drop, show k / 2 * 2 + k % 2 = k by omega, List.getElem?_eq_getElem hk]
end
def InsPost (gm : Nat) (sm : List S76) (w : World) (e : Ending) (w' : World) : Prop :=
 ∃ v1, e = .returned v1 ∧ Kd.R k76 76 w' gm (fun k => gm < k) v1 sm ∧ Below (gm + 1) w w'
theorem ins_cells {i n : Nat} {cur : List Value} {x : List Value} (hi : i ≤ n) : insCells i n cur x = (cur.take (n * 2)).take (i * 2) ++ x ++ (cur.take (n * 2)).drop (i * 2) := by
 unfold insCells
 rw [List.take_take, show min (i * 2) (n * 2) = i * 2 by omega]
theorem ins_row {gm N0 b g cap : Nat} {w w' : World} {sm : List S76} {i : Nat} {s : ByteArray} {vn : Value} {nt : List S23} {inner : List Value} {row : Array Value} (hi : i ≤ sm.length)
  (hreps : Reps (k76.M w gm (fun k => (gm < k ∧ k < N0) ∧ some k ≠ some b)) 2 sm inner) (hR : Kd.R k23 23 w gm (fun k => N0 ≤ k) vn nt) (hN : N0 ≤ w.heap.size)
  (hm : ∀ k, gm < k → k ≠ b → k < w.heap.size → w'.heap[k]? = w.heap[k]?) (hb : b < N0) (hgm : gm < N0) (hg : gm < g) (hgo : g = b ∨ g = w.heap.size)
  (hrow : w'.heap[g]? = some (.cells row 76 (0, 0))) (hcap : sm.length + 1 ≤ cap) (hmax : cap ≤ maxLen) (hsz : row.size = cap * 2) (ht : row.toList.take ((sm.length + 1) * 2) = inner.take (i * 2) ++ [.string s, vn] ++ inner.drop (i * 2)) :
  Kd.R k76 76 w' gm (fun k => gm < k) (.slice (some ⟨g, 0, none⟩) (sm.length + 1) cap) (sm.take i ++ ⟨s, nt⟩ :: sm.drop i) := by
 have hlen : (sm.take i ++ (⟨s, nt⟩ : S76) :: sm.drop i).length = sm.length + 1 := by simp; omega
 refine ⟨fun k hk => ?_, inner.take (i * 2) ++ [.string s, vn] ++ inner.drop (i * 2), ?_, ?_⟩
 ·have : g = k := by simpa [Value.ownBlock] using hk
  omega
 ·rw [hlen]
  refine ⟨?_, .inr ⟨g, cap, row, rfl, by omega, hrow, hcap, hmax, hsz, ht⟩⟩
  have := hreps.1
  show _ = (sm.length + 1) * 2
  simp only [List.length_append, List.length_take, List.length_drop, List.length_cons, List.length_nil]
  omega
 ·have hk' : ∀ k, gm < k → k < w.heap.size → k ≠ b → gm < k ∧ some k ≠ (Value.slice (some ⟨g, 0, none⟩) (sm.length + 1) cap).ownBlock := fun k h1 h2 h3 => ⟨h1, by
   simp only [Value.ownBlock, ne_eq, Option.some.injEq]
   rcases hgo with h | h <;> omega⟩
  refine reps_ins (hreps.imp_ (fun p c hp => ?_)) i hi ?_
  ·refine k76.M_mono (fun k hk => ?_) (Kd.M_step hp (fun k hk hlt => hm k hk.1.1 (by simpa using hk.2) hlt))
   exact hk' k hk.1.1 (by omega) (by simpa using hk.2)
  ·refine k76_mkM _ _ _ ⟨s, nt⟩ ?_
   refine Kd.R_mono (Kd.R_step (Kd.R_bound hR) (fun k hk hlt => hm k (by have := hk.1; omega) (by have := hk.1; omega) hlt)) (fun k hk => ?_)
   exact hk' k (by have := hk.1; omega) hk.2.2.1 (by have := hk.1; omega)
set_option maxHeartbeats 4000000 in
set_option maxRecDepth 100000 in
theorem insert_end (gm N0 g : Nat) (s : ByteArray) (vn vs : Value) (nt : List S23) (sm : List S76) (w : World) (hlen : sm.length ≤ 8192) (hN : N0 ≤ w.heap.size) (hgm : gm < N0) (hb : w.heap[g]? = some (.cells #[.string s, vn] 76 (0, 0)))
  (hS : Kd.R k76 76 w gm (fun k => gm < k ∧ k < N0) vs sm) (hR : Kd.R k23 23 w gm (fun k => N0 ≤ k) vn nt) :
  Calls Tryz.prog 108 #[vs, .int .i64 sm.length, .slice (some ⟨g, 0, none⟩) 1 1] w (InsPost gm (sm ++ [⟨s, nt⟩]) w) := by
 have hu65 := Tryz.underlying65
 have c0 : w.cell? ⟨g, 0, none⟩ = some (.string s) := ct hb 0
 have c1 : w.cell? ⟨g, 1, none⟩ = some vn := ct hb 1
 have HRR : Aside0 (ReadsRow (fun (x : S76) cs => x = ⟨s, nt⟩ ∧ cs = [.string s, vn]) 2 w (some ⟨g, 0, none⟩) 1 [(⟨s, nt⟩ : S76)]) := by
  refine ⟨⟨rfl, by decide, fun _ => ⟨_, rfl, fun j p hj => ?_⟩⟩⟩
  have hj0 : j = 0 := by
   have := (List.getElem?_eq_some_iff.1 hj).1
   simpa using this
  subst hj0
  obtain rfl : (⟨s, nt⟩ : S76) = p := by simpa using hj
  refine ⟨[.string s, vn], rfl, ⟨rfl, rfl⟩, fun i u hi => ?_⟩
  rcases i with _ | _ | i
  ·obtain rfl : Value.string s = u := by simpa using hi
   exact c0
  ·obtain rfl : vn = u := by simpa using hi
   exact c1
  ·simp at hi
 have hok : ∀ k, vs.ownBlock = some k → gm < k ∧ k < N0 := hS.1
 have HOK := mk0 hok
 have HN := mk0 hN
 have HG := mk0 hgm
 have HR := mk0 hR
 have HS : Aside0 (Kd.R k76 76 w gm (fun k => gm < k) vs sm) := ⟨Kd.R_mono hS (fun k hk => hk.1)⟩
 have HF : Aside0 (∀ k, N0 ≤ k → gm < k ∧ some k ≠ vs.ownBlock) := ⟨fun k hk => ⟨by omega, fun e => by have := hok k e.symm; omega⟩⟩
 obtain ⟨_, inner, ⟨hil, hsl⟩, _⟩ := hS
 clear hok hN hgm hR hb c0 c1 hil
 rcases hsl with ⟨rfl, h0⟩ | ⟨b, cap, cur, rfl, _, _, hcap, hmax, _, _⟩
 ·obtain rfl : sm = [] := List.length_eq_zero_iff.1 h0
  clear h0
  go_enter Tryz.func108, Tryz.ntmps108
  go_wp2_with (at_builtin; refine Kd.R_append_rows (w0 := w) k76 (Rr := fun (x : S76) cs => x = ⟨s, nt⟩ ∧ cs = [.string s, vn]) gm rfl _ _ 65 76 (.agg #[.string ⟨#[]⟩, .slice none 0 0]) 40 rfl Tryz.underlying65 info76 rfl (by decide) (by decide) (.slice none 0 0) [] [⟨s, nt⟩] (some ⟨g, 0, none⟩) 1 1 (fun k => gm < k) (fun k => N0 ≤ k) (by rfl) (by rfl) (Kd.R_nil _ _ _ _ _) HRR.out (by rintro x cs ⟨rfl, rfl⟩; exact k76_mkM _ _ _ ⟨s, nt⟩ HR.out) HF.out (fun k hk => Nat.lt_of_lt_of_le HG.out (Nat.le_trans HN.out hk)) (Below.refl _ _) (by have := HN.out; have := HG.out; omega) (by decide) ?_; intro v1 w1 hR1 hB1 hG1 h; have HR1 := mk0 hR1; have HG1 := mk0 hG1; clear hR1 hB1 hG1 h)
  go_ret
  exact ⟨v1, rfl, HR1.out, (Below.refl _ w).grown HG1.out (by have := HN.out; have := HG.out; omega) (fun k hk => by simp [Value.ownBlock] at hk)⟩
 ·have hm63 : cap ≤ 9223372036854775807 := by unfold maxLen at hmax; omega
  clear hmax
  go_enter Tryz.func108, Tryz.ntmps108
  go_wp2_with (at_builtin; refine Kd.R_append_rows (w0 := w) k76 (Rr := fun (x : S76) cs => x = ⟨s, nt⟩ ∧ cs = [.string s, vn]) gm rfl _ _ 65 76 (.agg #[.string ⟨#[]⟩, .slice none 0 0]) 40 rfl Tryz.underlying65 info76 rfl (by decide) (by decide) (.slice (some ⟨b, 0, none⟩) sm.length cap) sm [⟨s, nt⟩] (some ⟨g, 0, none⟩) 1 1 (fun k => gm < k) (fun k => N0 ≤ k) (by rfl) (by rfl) HS.out HRR.out (by rintro x cs ⟨rfl, rfl⟩; exact k76_mkM _ _ _ ⟨s, nt⟩ HR.out) HF.out (fun k hk => Nat.lt_of_lt_of_le HG.out (Nat.le_trans HN.out hk)) (Below.refl _ _) (by have := HN.out; have := HG.out; omega) (by omega) ?_; intro v1 w1 hR1 hB1 hG1 h; have HR1 := mk0 hR1; have HG1 := mk0 hG1; clear hR1 hB1 hG1 h)
  all_goals
   go_ret
   exact ⟨v1, rfl, HR1.out, (Below.refl _ w).grown HG1.out (by have := HN.out; have := HG.out; omega) (fun k hk => by have := HOK.out k hk; omega)⟩
theorem insert_calls (gm N0 g i : Nat) (s : ByteArray) (vn vs : Value) (nt : List S23) (sm : List S76) (w : World) (hi : i ≤ sm.length) (hlen : sm.length ≤ 8192) (hN : N0 ≤ w.heap.size) (hgm : gm < N0) (hg : N0 ≤ g) (hb : w.heap[g]? = some (.cells #[.string s, vn] 76 (0, 0)))
  (hS : Kd.R k76 76 w gm (fun k => gm < k ∧ k < N0) vs sm) (hR : Kd.R k23 23 w gm (fun k => N0 ≤ k) vn nt) :
  Calls Tryz.prog 108 #[vs, .int .i64 i, .slice (some ⟨g, 0, none⟩) 1 1] w (InsPost gm (sm.take i ++ ⟨s, nt⟩ :: sm.drop i) w) := by
 rcases Nat.eq_or_lt_of_le hi with rfl | hlt
 ·rw [List.take_length, List.drop_length]
  exact insert_end gm N0 g s vn vs nt sm w hlen hN hgm hb hS hR
 have hvn : vn.oneCell' = true := by
  obtain ⟨A, c, rfl⟩ := Kd.R_slice hR
  rfl
 obtain ⟨hok, inner, ⟨hil, hsl⟩, hreps⟩ := hS
 rcases hsl with ⟨_, h0⟩ | ⟨b, cap, cur, rfl, hgb, hcur, hcap, hmax, hsz, ht⟩
 ·omega
 have hbN := hok b rfl
 have hreps' : Reps (k76.M w gm (fun k => (gm < k ∧ k < N0) ∧ some k ≠ some b)) 2 sm inner := hreps
 have h1 : ∀ v ∈ cur.toList.take (sm.length * 2), v.oneCell' = true := by
  rw [show cur.toList.take (sm.length * 2) = inner from ht]
  exact reps_cells hreps' (fun p c hp => k76.K_one (k76.K_of_M hp))
 have hic : insCells i sm.length cur.toList [Value.string s, vn] = inner.take (i * 2) ++ [.string s, vn] ++ inner.drop (i * 2) := by
  rw [ins_cells hi, show cur.toList.take (sm.length * 2) = inner from ht]
 by_cases hroom : sm.length + 1 ≤ cap
 ·refine (insert_shift b i sm.length cap g cur s vn w hlt hroom (by unfold maxLen at hmax; omega) (by omega) hb hcur hsz h1 hvn).mono ?_
  rintro e w' ⟨rfl, row, hrow, hrs, hrt, hgr⟩
  refine ⟨_, rfl, ?_, (Below.refl _ w).grown hgr (by omega) (fun k hk => by injection hk with hk; omega)⟩
  exact ins_row (g := b) hi hreps' hR hN (fun k h1 h2 h3 => hgr.block k h3 (fun e => h2 (by injection e))) hbN.2 hgm hbN.1 (.inl rfl) hrow hroom hmax (by rw [hrs]; exact hsz) (by rw [hrt, hic])
 ·refine (insert_grow b i sm.length cap g cur s vn w hlt (by omega) hlen hb hcur hcap hsz h1 hvn).mono ?_
  rintro e w' ⟨G, rfl, hGn, hGm, row, hrow, hrs, hrt, hgr⟩
  refine ⟨_, rfl, ?_, (Below.refl _ w).grown hgr (by omega) (fun k hk => by cases hk)⟩
  exact ins_row (g := w.heap.size) hi hreps' hR hN (fun k h1 h2 h3 => hgr.block k h3 (by simp)) hbN.2 hgm (by omega) (.inr rfl) hrow hGn hGm hrs (by rw [hrt, hic])
end Go.Proofs.YtolbjmaabghghaaGreatDoor.PA
