import Derived.Test.YtkehfdadplpaeaaDoorProg
import Derived.Test.YtkehfdadplpaeaaDoorVPLWWords
import Derived.Maps.OwnSet
import Derived.Maps.OwnOps
import Derived.Laws.IdiomMaps
import Derived.WideKeyElems2
import Derived.WideKeyArgs2
import Derived.ChangeSame
/- The map impl.shapes as it lies when the program stands: what a look-up in it answers; and a map of three words told on the spot. -/
namespace Go.Proofs.YtkehfdadplpaeaaDoor.Shp
open Go.RowKit Go.Proofs.YtkehfdadplpaeaaDoorW.PrintWords Go.Maps Go.WideElems Go.WideMaps Go.ChangeShapes Go.WideShapes
/-- The words, with the call's number and its fields. -/
def words : List (List UInt8 × Int × List UInt8) := [([97, 112, 112, 101, 110, 100], 8, [80, 68]), ([99, 104, 101, 99, 107, 112, 111, 105, 110, 116], 23, []), ([99, 108, 111, 115, 101], 13, [72]), ([99, 114, 101, 97, 116, 101], 1, [80]), ([102, 105, 108, 108], 6, [80, 78, 70, 87]), ([102, 115, 116, 97, 116], 16, [72]), ([102, 116, 114, 117, 110, 99], 12, [72, 83]), ([108, 105, 110, 107], 9, [80, 81]), ([108, 105, 115, 116], 20, [80]), ([108, 111, 103], 25, []), ([108, 115, 116, 97, 116], 19, [80]), ([109, 107, 100, 105, 114], 2, [80]), ([111, 112, 101, 110], 14, [80]), ([112, 114, 101, 97, 100], 15, [72, 78, 83]), ([112, 119, 114, 105, 116, 101], 11, [72, 78, 68]), ([114, 101, 97, 100], 17, [80, 78, 83]), ([114, 101, 97, 100, 108, 105, 110, 107], 21, [80]), ([114, 101, 110, 97, 109, 101], 5, [80, 81]), ([114, 109, 100, 105, 114], 4, [80]), ([115, 112, 97, 99, 101], 24, []), ([115, 116, 97, 116], 18, [80]), ([115, 121, 109, 108, 105, 110, 107], 10, [80, 81]), ([115, 121, 110, 99], 22, []), ([116, 114, 117, 110, 99], 7, [80, 83]), ([117, 110, 108, 105, 110, 107], 3, [80]), ([119, 114, 105, 116, 101], 6, [80, 78, 68])]
def find (s : List UInt8) : Option (Int × List UInt8) := (words.find? (fun x => x.1 == s)).map (·.2)
def kind (s : ByteArray) : Int := match find s.data.toList with | some x => x.1 | none => 0
def form (s : ByteArray) : ByteArray := match find s.data.toList with | some x => ⟨x.2.toArray⟩ | none => ⟨#[]⟩
def data {H : Type} : DataW H := .map (words.map (fun x => (.string x.1, .agg [.lit (.int .i64 x.2.1), .lit (.string x.2.2)])))
theorem at_data {H : Type} (s : List UInt8) (z : DataW H) : (data : DataW H).atKey (.string s) z = match find s with | some x => .agg [.lit (.int .i64 x.1), .lit (.string x.2)] | none => z := by
  unfold data find DataW.atKey
  generalize words = l
  induction l with
  | nil => rfl
  | cons a r ih =>
    simp only [List.map_cons, List.find?_cons]
    have e : (Lit.string a.1).sameKey (.string s) = (a.1 == s) := rfl
    rw [e]
    by_cases c : (a.1 == s) = true
    · rw [c]; rfl
    · rw [Bool.not_eq_true] at c
      rw [c]; exact ih
theorem kinds_pos : ∀ x ∈ words, x.2.1 ≠ 0 := by decide
theorem find_pos {s : List UInt8} {x : Int × List UInt8} (h : find s = some x) : x.1 ≠ 0 := by
  unfold find at h
  rw [Option.map_eq_some_iff] at h
  obtain ⟨y, hy, rfl⟩ := h
  exact kinds_pos y (List.mem_of_find?_eq_some hy)
section
variable {H : Type} {enc : TypeId × Value → H} {P : Program} {base : Nat} {held : Bool} {e : TypeId} {q0 : IntKind} {f0 f1 : Field}
theorem elemAt_is (he : P.underlying e = some (.struct #[f0, f1])) (o0 : f0.offset = 0) (o1 : f1.offset = 1) (h0 : P.underlying f0.type = some (.int q0)) (h1 : P.underlying f1.type = some .string) (c0 : P.cellsOf f0.type = 1) (c1 : P.cellsOf f1.type = 1) (ce : P.cellsOf e = 2)
    {W : World} {sp : Nat → Bool} {n : Nat} {v : Value} {z : DataW H × List MemPlace} (h : elemAt enc P W base sp held n e v = some z) :
    ∃ (a : Int) (b : ByteArray), v = .agg #[.int q0 a, .string b] ∧ z = (.agg [.lit (.int q0 a), .lit (.string b.data.toList)], []) := by
  unfold elemAt at h
  split at h
  · rename_i hf
    obtain ⟨y0, y1, m, rfl, hl, g0, g1⟩ := trod_struct2 he h
    obtain ⟨a, e0, rfl, wa⟩ := DataW.trod_int h0 g0
    obtain ⟨b, e1, rfl, wb⟩ := DataW.trod_string h1 g1
    cases v <;> simp [Value.formed, he] at hf
    rename_i cs
    obtain ⟨l⟩ := cs
    rw [ce] at hl
    simp [Value.cells] at hl e0 e1
    match l, hl with
    | [x0, x1], _ =>
      simp [c0, c1, o0, o1] at e0 e1
      subst e0 e1
      exact ⟨a, b, rfl, rfl⟩
  · cases h
end
/-- internal/bytealg.MaxLen holds some number; impl.shapes is the map of the words. -/
def GlobS (w : World) : Prop := (∃ m : Int, w.cell? ⟨1, 0, none⟩ = some (.int .i64 m)) ∧ ∃ (bm : Nat) (es : Array MapEntry) (clock : Nat), w.cell? ⟨0, 0, none⟩ = some (.map (some bm)) ∧ w.heap[bm]? = some (.map es clock) ∧
  ∀ W : World, W.heap[bm]? = some (.map es clock) → ∀ s : ByteArray, s.size ≤ 1048576 → (Instr.lookup 75 (.map (some bm)) (.string s) true).run Tryd.prog W = .ok (.tuple #[.agg #[.int .i64 (kind s), .string (form s)], .bool (kind s != 0)]) W
theorem cell_below {w w' : World} {g : Nat} {v : Value} (h : w.cell? ⟨g, 0, none⟩ = some v) (hB : Below w.heap.size w w') : w'.cell? ⟨g, 0, none⟩ = some v := (hB.cell (World.block_lt_of_cell? w _ h)).trans h
theorem GlobS.below {w w' : World} (h : GlobS w) (hB : Below w.heap.size w w') : GlobS w' := by
  obtain ⟨⟨m, hm⟩, bm, es, clock, h1, h2, h3⟩ := h
  exact ⟨⟨m, cell_below hm hB⟩, bm, es, clock, cell_below h1 hB, blk_below h2 hB, h3⟩
theorem zero73 (w : World) : (zeroValue 73).run Tryd.prog w = .ok (.agg #[.int .i64 0, .string (⟨#[]⟩ : ByteArray)]) w := by kernel_rfl
/-- Out of the map's datum. -/
theorem looks {w : World} {base : Nat} {sp : Nat → Bool} {held : Bool} {n : Nat} {bm : Nat} {es : Array MapEntry} {clock : Nat} {enc : TypeId × Value → Unit} (F : Fit Tryd.prog 9 (elemAt enc Tryd.prog w base sp held n 73) es clock)
    (hx : (DataW.map ((es.toList.map (rg Tryd.prog 9 (elemAt enc Tryd.prog w base sp held n 73))).foldr DataW.insert [])) = data) (W : World) (hb : W.heap[bm]? = some (.map es clock)) (s : ByteArray) (hs : s.size ≤ 1048576) :
    (Instr.lookup 75 (.map (some bm)) (.string s) true).run Tryd.prog W = .ok (.tuple #[.agg #[.int .i64 (kind s), .string (form s)], .bool (kind s != 0)]) W := by
  have hk := keyOf_string_mk (s := s) Tryd.underlying9 (Nat.le_trans hs (by decide))
  rcases fit_lookup_ok (w := W) (string_law Tryd.underlying9) Tryd.underlying75 (zero73 W) hb F hk with ⟨hrun, hat⟩ | ⟨v, y, hrun, hRv, hat, _⟩
  · have h1 := hat .nil
    rw [hx, at_data] at h1
    have hf : find s.data.toList = none := by
      cases hc : find s.data.toList with
      | none => rfl
      | some x => rw [hc] at h1; cases h1
    have e1 : kind s = 0 := by unfold kind; rw [hf]
    have e2 : form s = ⟨#[]⟩ := by unfold form; rw [hf]
    rw [e1, e2]
    exact hrun
  · obtain ⟨a, b, rfl, rfl⟩ := elemAt_is (q0 := .i64) Tryd.underlying73 rfl rfl (by kernel_rfl) (by kernel_rfl) (by kernel_rfl) (by kernel_rfl) (by kernel_rfl) hRv
    have h1 := hat .nil
    rw [hx, at_data] at h1
    cases hc : find s.data.toList with
    | none => rw [hc] at h1; cases h1
    | some x =>
      rw [hc] at h1
      simp only [DataW.agg.injEq, List.cons.injEq, DataW.lit.injEq, Lit.int.injEq, Lit.string.injEq, and_true, true_and] at h1
      obtain ⟨rfl, h2⟩ := h1
      have e1 : kind s = x.1 := by unfold kind; rw [hc]
      have e2 : form s = b := by unfold form; rw [hc]; simp only []; rw [h2]
      rw [e1, e2, hrun]
      have := find_pos hc
      simp [this]
/-! ### the plain forms that the printed text names -/
def formO (s : ByteArray) : Option ByteArray := if s.size ≤ 1048576 then some (form s) else none
def kindO (s : ByteArray) : Option Int := if s.size ≤ 1048576 then some (kind s) else none
theorem formO_eq {s t : ByteArray} (h : formO s = some t) : s.size ≤ 1048576 ∧ form s = t := by unfold formO at h; split at h; exact ⟨by assumption, Option.some.inj h⟩; cases h
theorem kindO_eq {s : ByteArray} {t : Int} (h : kindO s = some t) : s.size ≤ 1048576 ∧ kind s = t := by unfold kindO at h; split at h; exact ⟨by assumption, Option.some.inj h⟩; cases h
/-- tree, check, mount. -/
def three (s : ByteArray) : Int := if s.data.toList = [116, 114, 101, 101] then 2 else if s.data.toList = [99, 104, 101, 99, 107] then 3 else if s.data.toList = [109, 111, 117, 110, 116] then 6 else 0
def threeO (s : ByteArray) : Option Int := if s.size ≤ 1048576 then some (three s) else none
theorem threeO_eq {s : ByteArray} {t : Int} (h : threeO s = some t) : s.size ≤ 1048576 ∧ three s = t := by unfold threeO at h; split at h; exact ⟨by assumption, Option.some.inj h⟩; cases h
def hv (v : Value) : Option (DataW Value × List MemPlace) := some (.held v, [])
theorem key9 : Keyed Tryd.prog 9 := string_keyed Tryd.underlying9
theorem zero2 (w : World) : (zeroValue 2).run Tryd.prog w = .ok (.int .i64 0) w := by kernel_rfl
section
variable {P : Program} {ops : Array Oper} {rest : List Oper} {o : Oper} {a : Act} {Q : Exit → Act → World → Prop}
theorem make_event {H : Type} (k : TypeId) (R : Value → Option (DataW H × List MemPlace)) {W : World} (hgd : o.guard = none) {N : Tmp} (_hd : o.dst = some N)
    (hrun : (execOp a.eval o).run P W = .ok (.value (.map (some W.heap.size))) (W.alloc (.map #[] 0)))
    (h : ∀ g, g = W.heap.size → ∀ w1, w1.ownsMap P k R g 0 (.map []) → Below W.heap.size W w1 → wpList P ops Q rest (a.put o.dst (.map (some g))) w1) : wpList P ops Q (o :: rest) a W :=
  Kd.event_run hgd hrun (h _ rfl _ (World.ownsMap_made W P k R) (below_alloc (Below.refl _ _) _))
theorem gate_insert {t : TypeId} {m x v : Operand} {w : World} (_ho : o.op = Op.insert t m x v) (h : wpList P ops Q (o :: rest) a w) : wpList P ops Q (o :: rest) a w := h
/-- An entry of a map literal. -/
theorem insert_event {H : Type} {w : World} (hg : o.guard = none) (m x v : Operand) (t : TypeId) (hop : o.op = Op.insert t m x v)
    (k e : TypeId) (K : Keyed P k) (ht : P.underlying t = some (.map k e)) (R : Value → Option (DataW H × List MemPlace)) (b n : Nat) (D : DataW H)
    (hm : a.eval m = .map (some b)) (hown : w.ownsMap P k R b n D) (hn : n < maxLen) (key val : Value) (kl : Lit) (hx : a.eval x = key) (hv : a.eval v = val) (hkey : keyOf P k key = some kl)
    (d : DataW H) (ps : List MemPlace) (hval : R val = some (d, ps)) (hN : o.dst = none)
    (hK : ∀ w', w'.ownsMap P k R b (n + 1) (D.put kl d) → w.grownBy w' (some b) → wpList P ops Q rest a w') : wpList P ops Q (o :: rest) a w := by
  refine wpList_plain hg fun K' hK' => ?_
  obtain ⟨w', hrun, r1, r2⟩ := hown.store K ht hn hkey hval
  unfold Oper.wp
  simp [execOp, hop, hm, hx, hv, hrun, Result.andThen]
  show K' (a.put o.dst undef) w'
  rw [hN]
  exact hK' a w' (hK w' r1 r2.grown)
theorem look_event {W : World} {v : Value} (hgd : o.guard = none) (m x : Operand) (t : TypeId) (c : Bool) (hop : o.op = Op.lookup t m x c) (mv kv : Value) (hm : a.eval m = mv) (hx : a.eval x = kv)
    (hrun : (Instr.lookup t mv kv c).run P W = .ok v W) (h : wpList P ops Q rest (a.put o.dst v) W) : wpList P ops Q (o :: rest) a W := by
  refine Kd.event_run hgd (v := v) ?_ h
  simp [execOp, hop, hm, hx, hrun, Result.andThen]
end
/-- The map of the three words, and what it answers. -/
def lit3 : DataW Value := (((DataW.map []).put (.string [116, 114, 101, 101]) (.held (.int .i64 2))).put (.string [99, 104, 101, 99, 107]) (.held (.int .i64 3))).put (.string [109, 111, 117, 110, 116]) (.held (.int .i64 6))
theorem look3 {w : World} {b n : Nat} (hown : w.ownsMap Tryd.prog 9 hv b n lit3) (s : ByteArray) (hs : s.size ≤ 1048576) : (Instr.lookup 70 (.map (some b)) (.string s) false).run Tryd.prog w = .ok (.int .i64 (three s)) w := by
  obtain ⟨v, ps, hrun, hR⟩ := hown.lookup key9 Tryd.underlying70 (zero2 w) (R := hv) (zd := .held (.int .i64 0)) (zp := []) rfl (keyOf_string_mk (s := s) Tryd.underlying9 (Nat.le_trans hs (by decide)))
  have hat : lit3.atKey (.string s.data.toList) (.held (.int .i64 0)) = .held (.int .i64 (three s)) := by
    unfold lit3 three
    have i0 : IsMap (DataW.map [] : DataW Value) := isMap_empty
    have i1 := i0.put (.string [116, 114, 101, 101]) (.held (.int .i64 2))
    have i2 := i1.put (.string [99, 104, 101, 99, 107]) (.held (.int .i64 3))
    by_cases c3 : s.data.toList = [109, 111, 117, 110, 116]
    · rw [c3, atKey_put_same (k := .string [109, 111, 117, 110, 116]) i2 trivial]; rfl
    · rw [atKey_put_other (fun h => c3 (by injection h))]
      by_cases c2 : s.data.toList = [99, 104, 101, 99, 107]
      · rw [c2, atKey_put_same (k := .string [99, 104, 101, 99, 107]) i1 trivial]; rfl
      · rw [atKey_put_other (fun h => c2 (by injection h))]
        by_cases c1 : s.data.toList = [116, 114, 101, 101]
        · rw [c1, atKey_put_same (k := .string [116, 114, 101, 101]) i0 trivial]; rfl
        · rw [atKey_put_other (fun h => c1 (by injection h)), if_neg c1, if_neg c2, if_neg c3]; rfl
  rw [hat] at hR
  simp only [hv, Option.some.injEq, Prod.mk.injEq, DataW.held.injEq] at hR
  rw [← hR.1]
  exact hrun
section
variable {ops : Array Oper} {rest : List Oper} {o : Oper} {a : Act} {Q : Exit → Act → World → Prop} {w W : World} {bm : Nat} {es : Array MapEntry} {ck : Nat}
theorem glob_event {v : Value} (hgd : o.guard = none) (hop : o.op = .load 75 (.global 0)) (hc : w.cell? ⟨0, 0, none⟩ = some v) (hB : Below w.heap.size w W) (h : wpList Tryd.prog ops Q rest (a.put o.dst v) W) : wpList Tryd.prog ops Q (o :: rest) a W := by
  have hc' := cell_below hc hB
  refine Kd.event_run hgd (v := v) ?_ h
  unfold execOp
  rw [hop]
  go_simp
theorem look_shape {s t : ByteArray} {n : Int} (hgd : o.guard = none) (m x : Operand) (hop : o.op = Op.lookup 75 m x true) (hm : a.eval m = .map (some bm)) (hx : a.eval x = .string s) (hb : w.heap[bm]? = some (.map es ck)) (hB : Below w.heap.size w W)
    (hl : ∀ W : World, W.heap[bm]? = some (.map es ck) → ∀ s : ByteArray, s.size ≤ 1048576 → (Instr.lookup 75 (.map (some bm)) (.string s) true).run Tryd.prog W = .ok (.tuple #[.agg #[.int .i64 (kind s), .string (form s)], .bool (kind s != 0)]) W)
    (f : formO s = some t) (g : kindO s = some n) (h : wpList Tryd.prog ops Q rest (a.put o.dst (.tuple #[.agg #[.int .i64 n, .string t], .bool (n != 0)])) W) : wpList Tryd.prog ops Q (o :: rest) a W := by
  have hr := hl W (blk_below hb hB) s (formO_eq f).1
  rw [(formO_eq f).2, (kindO_eq g).2] at hr
  exact look_event hgd m x 75 true hop _ _ hm hx hr h
theorem look_three {s : ByteArray} {n : Int} {b nn : Nat} (hgd : o.guard = none) (m x : Operand) (hop : o.op = Op.lookup 70 m x false) (hm : a.eval m = .map (some b)) (hx : a.eval x = .string s) (hown : W.ownsMap Tryd.prog 9 hv b nn lit3) (g : threeO s = some n)
    (h : wpList Tryd.prog ops Q rest (a.put o.dst (.int .i64 n)) W) : wpList Tryd.prog ops Q (o :: rest) a W := by
  have hr := look3 hown s (threeO_eq g).1
  rw [(threeO_eq g).2] at hr
  exact look_event hgd m x 70 false hop _ _ hm hx hr h
theorem c9 {g : Nat} {t : TypeId} {a0 a1 a2 a3 a4 a5 a6 a7 a8 : Value} (h : W.heap[g]? = some (.cells #[a0, a1, a2, a3, a4, a5, a6, a7, a8] t (0, 0))) : W.cell? ⟨g, 0, none⟩ = some a0 ∧ W.cell? ⟨g, 1, none⟩ = some a1 ∧ W.cell? ⟨g, 2, none⟩ = some a2 ∧ W.cell? ⟨g, 3, none⟩ = some a3 ∧ W.cell? ⟨g, 4, none⟩ = some a4 ∧ W.cell? ⟨g, 5, none⟩ = some a5 ∧ W.cell? ⟨g, 6, none⟩ = some a6 ∧ W.cell? ⟨g, 7, none⟩ = some a7 ∧ W.cell? ⟨g, 8, none⟩ = some a8 :=
  ⟨(blk_cell h 0).trans rfl, (blk_cell h 1).trans rfl, (blk_cell h 2).trans rfl, (blk_cell h 3).trans rfl, (blk_cell h 4).trans rfl, (blk_cell h 5).trans rfl, (blk_cell h 6).trans rfl, (blk_cell h 7).trans rfl, (blk_cell h 8).trans rfl⟩
theorem f9 {g : Nat} {t : TypeId} {cs : Array Value} (h : W.heap[g]? = some (.cells cs t (0, 0))) : W.frozen? ⟨g, 0, none⟩ = false ∧ W.frozen? ⟨g, 1, none⟩ = false ∧ W.frozen? ⟨g, 2, none⟩ = false ∧ W.frozen? ⟨g, 3, none⟩ = false ∧ W.frozen? ⟨g, 4, none⟩ = false ∧ W.frozen? ⟨g, 5, none⟩ = false ∧ W.frozen? ⟨g, 6, none⟩ = false ∧ W.frozen? ⟨g, 7, none⟩ = false ∧ W.frozen? ⟨g, 8, none⟩ = false :=
  ⟨blk_frozen h 0, blk_frozen h 1, blk_frozen h 2, blk_frozen h 3, blk_frozen h 4, blk_frozen h 5, blk_frozen h 6, blk_frozen h 7, blk_frozen h 8⟩
theorem put9 {g : Nat} {t : TypeId} {a0 a1 a2 a3 a4 a5 a6 a7 a8 b0 b1 b2 b3 b4 b5 b6 b7 b8 : Value} (h : W.heap[g]? = some (.cells #[a0, a1, a2, a3, a4, a5, a6, a7, a8] t (0, 0))) :
    (((((((((W.setCell ⟨g, 0, none⟩ b0).setCell ⟨g, 1, none⟩ b1).setCell ⟨g, 2, none⟩ b2).setCell ⟨g, 3, none⟩ b3).setCell ⟨g, 4, none⟩ b4).setCell ⟨g, 5, none⟩ b5).setCell ⟨g, 6, none⟩ b6).setCell ⟨g, 7, none⟩ b7).setCell ⟨g, 8, none⟩ b8).heap[g]? = some (.cells #[b0, b1, b2, b3, b4, b5, b6, b7, b8] t (0, 0)) := by
  refine blk_put (cs := #[b0, b1, b2, b3, b4, b5, b6, b7, a8]) ?_ 8 _ rfl
  refine blk_put (cs := #[b0, b1, b2, b3, b4, b5, b6, a7, a8]) ?_ 7 _ rfl
  refine blk_put (cs := #[b0, b1, b2, b3, b4, b5, a6, a7, a8]) ?_ 6 _ rfl
  refine blk_put (cs := #[b0, b1, b2, b3, b4, a5, a6, a7, a8]) ?_ 5 _ rfl
  refine blk_put (cs := #[b0, b1, b2, b3, a4, a5, a6, a7, a8]) ?_ 4 _ rfl
  refine blk_put (cs := #[b0, b1, b2, a3, a4, a5, a6, a7, a8]) ?_ 3 _ rfl
  refine blk_put (cs := #[b0, b1, a2, a3, a4, a5, a6, a7, a8]) ?_ 2 _ rfl
  refine blk_put (cs := #[b0, a1, a2, a3, a4, a5, a6, a7, a8]) ?_ 1 _ rfl
  refine blk_put (cs := #[a0, a1, a2, a3, a4, a5, a6, a7, a8]) ?_ 0 _ rfl
  exact h
end
end Go.Proofs.YtkehfdadplpaeaaDoor.Shp
