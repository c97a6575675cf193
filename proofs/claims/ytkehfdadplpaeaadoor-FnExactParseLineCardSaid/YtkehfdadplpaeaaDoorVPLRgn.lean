import Derived.Test.YtkehfdadplpaeaaDoorVPLWLast
import Derived.Test.YtkehfdadplpaeaaDoorVPLWTab
import Derived.Test.YtkehfdadplpaeaaDoorVPLWWords
import Derived.Test.YtkehfdadplpaeaaDoorVPLWKept
import Derived.Test.YtkehfdadplpaeaaDoorVPLWApart
import Derived.Test.YtkehfdadplpaeaaDoorVPLWMore
import Derived.RowKit
import Derived.Tactics
import Derived.KernelRfl
/- A drawn region's steps with their usual proofs as defaults: what is printed stays short. -/
namespace Go.Proofs.YtkehfdadplpaeaaDoor.Rgn
open Go.RowKit Go.Proofs.YtkehfdadplpaeaaDoorW.PrintWords Go.Proofs.YtkehfdadplpaeaaDoorW.PrintLast
set_option linter.unusedVariables false
section
variable {P : Program} {ops : Array Oper} {Q : Exit → Act → World → Prop} {md : Region.Mode} {S : World → Prop} {ds : List Nat}
/-- An operation that yields in every world. -/
theorem pu {T : Bool × List (List Nat × List Nat)} (hT : rtab md ops = T) (i n : Nat) {oi : Oper} {v : Value} {fuel : Nat} {l : Array Bool} {a : Act} {w : World} {l' : Array Bool} {a' : Act}
    (h : wpAnyLast P md ops Q S ds fuel l' a' w)
    (hi : ops[i]? = some oi := by exact rfl) (hN : oi.dst = some n := by exact rfl)
    (hl : l.setIfInBounds i true = l' := by (simp only [List.setIfInBounds_toArray, List.set_cons_zero, List.set_cons_succ]; rfl))
    (hc : anyT T l.toList l'.toList i = true := by kernel_rfl)
    (hQ : ∀ c a w, Q (.panic c) (a.put oi.dst v) w → Q (.panic c) a w := by exact fun _ _ _ h => h)
    (hw : Region.wanted oi (yielded ops a.tmps) = true := by rfl)
    (hy : ∀ w, (execOp a.eval oi).run P w = .ok (.value v) w := by intro w'; go_simp; with_reducible rfl)
    (ha : a.put (some n) v = a' := by (simp only [Act.put, List.setIfInBounds_toArray, List.set_cons_zero, List.set_cons_succ, i64_w, i32_w]; rfl)) : wpAnyLast P md ops Q S ds (fuel + 1) l a w :=
  pure_ l' hi hN (any_of hT hc) hQ (Or.inl ⟨hw, hy⟩) ha h
/-- An operation that its guard leaves out. -/
theorem pn {T : Bool × List (List Nat × List Nat)} (hT : rtab md ops = T) (i n : Nat) {oi : Oper} {fuel : Nat} {l : Array Bool} {a : Act} {w : World} {l' : Array Bool} {a' : Act}
    (h : wpAnyLast P md ops Q S ds fuel l' a' w)
    (hi : ops[i]? = some oi := by exact rfl) (hN : oi.dst = some n := by exact rfl)
    (hl : l.setIfInBounds i true = l' := by (simp only [List.setIfInBounds_toArray, List.set_cons_zero, List.set_cons_succ]; rfl))
    (hc : anyT T l.toList l'.toList i = true := by kernel_rfl)
    (hQ : ∀ c a w, Q (.panic c) (a.put oi.dst undef) w → Q (.panic c) a w := by exact fun _ _ _ h => h)
    (hw : Region.wanted oi (yielded ops a.tmps) = false := by rfl)
    (ha : a.put (some n) undef = a' := by (simp only [Act.put, List.setIfInBounds_toArray, List.set_cons_zero, List.set_cons_succ, i64_w, i32_w]; rfl)) : wpAnyLast P md ops Q S ds (fuel + 1) l a w :=
  pure_ l' hi hN (any_of hT hc) hQ (Or.inr ⟨hw, rfl⟩) ha h
/-- A load. -/
theorem tk {T : Bool × List (List Nat × List Nat)} {B : List Nat} (hT : rtab md ops = T) (hB : waitsOk T.2 B = true) (i n : Nat) {oi : Oper} {v : Value} {fuel : Nat} {l : Array Bool} {a : Act} {w : World} {l' : Array Bool} {a' : Act} (hS : S w)
    (h : wpAnyLast P md ops Q S ds fuel l' a' w)
    (hi : ops[i]? = some oi := by exact rfl) (hN : oi.dst = some n := by exact rfl)
    (hl : l.setIfInBounds i true = l' := by (simp only [List.setIfInBounds_toArray, List.set_cons_zero, List.set_cons_succ]; rfl))
    (hc : takeW T B ds l.toList l'.toList i = true := by kernel_rfl)
    (hQ : ∀ c a w, Q (.panic c) (a.put oi.dst v) w → Q (.panic c) a w := by exact fun _ _ _ h => h)
    (hw : Region.wanted oi (yielded ops a.tmps) = true := by rfl)
    (hy : ∀ w, S w → (execOp a.eval oi).run P w = .ok (.value v) w := by intro w' hs_; (try dsimp only at hs_); go_simp; with_reducible rfl)
    (ha : a.put (some n) v = a' := by (simp only [Act.put, List.setIfInBounds_toArray, List.set_cons_zero, List.set_cons_succ, i64_w, i32_w]; rfl)) : wpAnyLast P md ops Q S ds (fuel + 1) l a w :=
  take_ l' hi hN (take_ofW hT hB hc) hQ (Or.inl ⟨hw, hy⟩) hS ha h
end
section
variable {w0 w W W' w1 : World} {g : Nat} {o : Obj}
theorem bq (h : Below w0.heap.size w0 W) (hq : Below w0.heap.size w0 W → Below w0.heap.size w0 W' := by intro h_; repeat (first | (with_reducible first | exact h_ | apply below_alloc | apply pw_below_drewN | apply below_drew1 | refine below_set ?_ (Aside0.out (by assumption))) | exact h_)) : Below w0.heap.size w0 W' := hq h
theorem kb (h : W.heap[g]? = some o) (hq : W.heap[g]? = some o → W'.heap[g]? = some o := by intro h_; (with_reducible repeat (first | refine blk_drewN ?_ _ | refine blk_drew ?_ | refine blk_alloc ?_ _)); exact h_) : W'.heap[g]? = some o := hq h
theorem bb (h : W.heap[g]? = some o) (hb : Below W'.heap.size W' w1) (hq : W.heap[g]? = some o → W'.heap[g]? = some o := by intro h_; (with_reducible repeat (first | refine blk_drewN ?_ _ | refine blk_drew ?_ | refine blk_alloc ?_ _)); exact h_) : w1.heap[g]? = some o := blk_below (hq h) hb
theorem kq {S : Nat → Prop} (h : Kept w W S) (hq : Kept w W S → Kept w W' S := by intro h_; repeat (first | (with_reducible first | exact h_ | apply Kept.alloc | apply Kept.drewN | apply Kept.drew) | exact h_)) : Kept w W' S := hq h
variable {α : Type} {d : Kd α} {e b n : Nat} {ok : Nat → Prop} {v : Value} {xs : List α} {A : Option Addr}
theorem rq (h : d.R e W b ok v xs) (hq : d.R e W b ok v xs → d.R e W' b ok v xs := by intro h_; (with_reducible repeat (first | apply Kd.R_alloc | apply Kd.R_drewN | apply Kd.R_drew)); exact h_) : d.R e W' b ok v xs := hq h
theorem cq (h : d.C W A n xs) (hq : d.C W A n xs → d.C W' A n xs := by intro h_; repeat (first | exact h_ | (with_reducible refine Kd.C_alloc ?_ _) | (with_reducible refine Kd.C_drewN ?_ _) | (with_reducible refine Kd.C_drew ?_))) : d.C W' A n xs := hq h
end
section
variable {P : Program} {ops : Array Oper} {Q : Exit → Act → World → Prop}
theorem gl {rest : List Oper} {oi : Oper} {a : Act} {w : World} (N : Option Tmp) {f : FuncId} {fn : Func} {as : Array Operand} {ts : Array TypeId} (hf : P.funcs[f]? = some fn) (args : Array Value)
    (h : Calls P f args w fun e w' => ∃ v, e = .returned v ∧ wpList P ops Q rest (a.put N v) w')
    (hd : oi.dst = N := by exact rfl) (hg : oi.guard = none := by exact rfl) (hname : (fn.name == "runtime.NumGoroutine") = false := by kernel_rfl) (hb : fn.body.isSome = true := by exact rfl)
    (hop : oi.op = .call { callee := .value (.func f), args := as, argTypes := ts } := by exact rfl) (hargs : as.map a.eval = args := by (try simp only [List.map_toArray, List.map_cons, List.map_nil]); first | done | rfl | (simp only [List.length_drop, List.length_take]; rfl)) : wpList P ops Q (oi :: rest) a w :=
  goesL_ N hd hg hf hname hb args hop hargs h
theorem gs {oi : Oper} {N : Option Tmp} {a : Act} {w : World} {K : Act → World → Prop} {f : FuncId} {fn : Func} {as : Array Operand} {ts : Array TypeId} (hf : P.funcs[f]? = some fn) (args : Array Value)
    (h : Calls P f args w fun e w' => ∃ v, e = .returned v ∧ K (a.put N v) w')
    (hname : (fn.name == "runtime.NumGoroutine") = false := by kernel_rfl) (hb : fn.body.isSome = true := by exact rfl)
    (hw : Region.wanted oi (yielded ops a.tmps) = true := by rfl) (hN : oi.dst = N := by exact rfl) (hop : oi.op = .call { callee := .value (.func f), args := as, argTypes := ts } := by exact rfl)
    (hargs : as.map a.eval = args := by (try simp only [List.map_toArray, List.map_cons, List.map_nil]); first | done | rfl | (simp only [List.length_drop, List.length_take]; rfl)) : if Region.wanted oi (yielded ops a.tmps) = true then Oper.wp P oi a w K Q else K (a.put N undef) w :=
  goes_ hf hname hb args hw hN hop hargs h
end
section
variable {w0 w W W' w1 : World} {g g' : Nat} {o : Obj}
theorem bs {g0 : Nat} (h : Below w0.heap.size w0 W) (hge : w0.heap.size ≤ g0) (hq : w0.heap.size ≤ g0 → Below w0.heap.size w0 W → Below w0.heap.size w0 W' := by intro hge_ h_; repeat (first | (with_reducible first | exact h_ | apply below_alloc | apply pw_below_drewN | apply below_drew1 | refine below_set ?_ hge_ | refine below_set ?_ (Aside0.out (by assumption))) | exact h_)) : Below w0.heap.size w0 W' := hq hge h
theorem kf (h : W.heap[g]? = some o) (hq : W.heap[g]? = some o → W'.heap[g]? = some o := by intro h_; (with_reducible repeat (first | refine blk_drewN ?_ _ | refine blk_drew ?_ | refine blk_alloc ?_ _ | refine blk_far ?_ (Aside0.out (by assumption)) _)); exact h_) : W'.heap[g]? = some o := hq h
theorem nl (hg : g' = W'.heap.size) (h : W.heap[g]? = some o) (hq : W.heap[g]? = some o → W'.heap[g]? = some o := by intro h_; (with_reducible repeat (first | refine blk_drewN ?_ _ | refine blk_drew ?_ | refine blk_alloc ?_ _ | refine blk_far ?_ (Aside0.out (by assumption)) _)); exact h_) : g ≠ g' := by rw [hg]; exact Nat.ne_of_lt (blk_lt (hq h))
theorem ng (hg : g' = W'.heap.size) (h : W.heap[g]? = some o) (hq : W.heap[g]? = some o → W'.heap[g]? = some o := by intro h_; (with_reducible repeat (first | refine blk_drewN ?_ _ | refine blk_drew ?_ | refine blk_alloc ?_ _ | refine blk_far ?_ (Aside0.out (by assumption)) _)); exact h_) : g' ≠ g := by rw [hg]; exact Nat.ne_of_gt (blk_lt (hq h))
theorem ge (hg : g' = W'.heap.size) (h : Below w0.heap.size w0 W) (hq : Below w0.heap.size w0 W → Below w0.heap.size w0 W' := by intro h_; repeat (first | (with_reducible first | exact h_ | apply below_alloc | apply pw_below_drewN | apply below_drew1 | refine below_set ?_ (Aside0.out (by assumption))) | exact h_)) : w0.heap.size ≤ g' := by rw [hg]; exact (hq h).size
theorem bg {row : Option Nat} (h : W.heap[g]? = some o) (hg : W'.grownBy w1 row) (hne : some g ≠ row) (hq : W.heap[g]? = some o → W'.heap[g]? = some o := by intro h_; (with_reducible repeat (first | refine blk_drewN ?_ _ | refine blk_drew ?_ | refine blk_alloc ?_ _ | refine blk_far ?_ (Aside0.out (by assumption)) _)); exact h_) : w1.heap[g]? = some o := blk_grown (hq h) hg hne
theorem hx {a : Addr} {v : Value} (h : Below w.heap.size w W) (hx : w.cell? a = some v) : W.cell? a = some v := (h.cell (World.block_lt_of_cell? w _ hx)).trans hx
variable {t : TypeId} {a b c : Value} {l : List Value}
theorem cz0 (h : W.heap[g]? = some (.cells (List.toArray (a :: l)) t (0, 0))) : W.cell? ⟨g, 0, none⟩ = some a := (blk_cell h 0).trans (by simp)
theorem cz1 (h : W.heap[g]? = some (.cells (List.toArray (b :: a :: l)) t (0, 0))) : W.cell? ⟨g, 1, none⟩ = some a := (blk_cell h 1).trans (by simp)
theorem c2 (h : W.heap[g]? = some (.cells #[a, b] t (0, 0))) : W.cell? ⟨g, 0, none⟩ = some a ∧ W.cell? ⟨g, 1, none⟩ = some b ∧ W.frozen? ⟨g, 0, none⟩ = false ∧ W.frozen? ⟨g, 1, none⟩ = false := ⟨(blk_cell h 0).trans rfl, (blk_cell h 1).trans rfl, blk_frozen h 0, blk_frozen h 1⟩
theorem c3 (h : W.heap[g]? = some (.cells #[a, b, c] t (0, 0))) : W.cell? ⟨g, 0, none⟩ = some a ∧ W.cell? ⟨g, 1, none⟩ = some b ∧ W.cell? ⟨g, 2, none⟩ = some c ∧ W.frozen? ⟨g, 0, none⟩ = false ∧ W.frozen? ⟨g, 1, none⟩ = false ∧ W.frozen? ⟨g, 2, none⟩ = false := ⟨(blk_cell h 0).trans rfl, (blk_cell h 1).trans rfl, (blk_cell h 2).trans rfl, blk_frozen h 0, blk_frozen h 1, blk_frozen h 2⟩
variable {α : Type} {d : Kd α} {e n : Nat} {ok : Nat → Prop} {v : Value} {xs : List α} {bs_ : Nat}
theorem nq (h : Kd.N d e W bs_ ok v xs) (hq : Kd.N d e W bs_ ok v xs → Kd.N d e W' bs_ ok v xs := by intro h_; (with_reducible repeat (first | apply Kd.N_alloc | apply Kd.N_drewN | apply Kd.N_drew)); exact h_) : Kd.N d e W' bs_ ok v xs := hq h
end
section
variable {P : Program} {ops : Array Oper} {rest : List Oper} {o : Oper} {a : Act} {Q : Exit → Act → World → Prop}
theorem bx {W : World} (N : Tmp) (cs : Array Value) (t : TypeId)
    (h : ∀ g, g = W.heap.size → ∀ w1, w1.heap[g]? = some (.cells cs t (0, 0)) → Below W.heap.size W w1 → wpList P ops Q rest (a.put o.dst (.pointer (some ⟨g, 0, none⟩))) w1)
    (hd : o.dst = some N := by rfl) (hgd : o.guard = none := by rfl) (hrun : (execOp a.eval o).run P W = .ok (.value (.pointer (some ⟨W.heap.size, 0, none⟩))) (W.alloc (.cells cs t (0, 0))) := by first | (go_simp; done) | (go_simp; rfl)) : wpList P ops Q (o :: rest) a W := box_event hgd hd hrun h
end
section
variable {w W : World} {g : Nat} {t : TypeId} {p a : Addr} {v : Value}
theorem nb {b : Nat} (hw : w.cell? a = some v) (hg : w.heap.size ≤ g) (hb : a.block = b := by first | rfl | exact add_block _ _) : b ≠ g := by
  subst hb
  exact Nat.ne_of_lt (Nat.lt_of_lt_of_le (World.block_lt_of_cell? _ _ hw) hg)
theorem far7 {u0 u1 u2 u3 u4 u5 u6 : Value} (hn : p.block ≠ g) (h : W.cell? p = some v) : (((((((W.setCell ⟨g, 0, none⟩ u0).setCell ⟨g, 1, none⟩ u1).setCell ⟨g, 2, none⟩ u2).setCell ⟨g, 3, none⟩ u3).setCell ⟨g, 4, none⟩ u4).setCell ⟨g, 5, none⟩ u5).setCell ⟨g, 6, none⟩ u6).cell? p = some v := ((cell_far (p := ⟨g, 6, none⟩) hn _).trans ((cell_far (p := ⟨g, 5, none⟩) hn _).trans ((cell_far (p := ⟨g, 4, none⟩) hn _).trans ((cell_far (p := ⟨g, 3, none⟩) hn _).trans ((cell_far (p := ⟨g, 2, none⟩) hn _).trans ((cell_far (p := ⟨g, 1, none⟩) hn _).trans ((cell_far (p := ⟨g, 0, none⟩) hn _).trans h)))))))
theorem put7 {a0 a1 a2 a3 a4 a5 a6 b0 b1 b2 b3 b4 b5 b6 : Value} (h : W.heap[g]? = some (.cells #[a0, a1, a2, a3, a4, a5, a6] t (0, 0))) : (((((((W.setCell ⟨g, 0, none⟩ b0).setCell ⟨g, 1, none⟩ b1).setCell ⟨g, 2, none⟩ b2).setCell ⟨g, 3, none⟩ b3).setCell ⟨g, 4, none⟩ b4).setCell ⟨g, 5, none⟩ b5).setCell ⟨g, 6, none⟩ b6).heap[g]? = some (.cells #[b0, b1, b2, b3, b4, b5, b6] t (0, 0)) := by
  refine blk_put (cs := #[b0, b1, b2, b3, b4, b5, a6]) ?_ 6 _ rfl
  refine blk_put (cs := #[b0, b1, b2, b3, b4, a5, a6]) ?_ 5 _ rfl
  refine blk_put (cs := #[b0, b1, b2, b3, a4, a5, a6]) ?_ 4 _ rfl
  refine blk_put (cs := #[b0, b1, b2, a3, a4, a5, a6]) ?_ 3 _ rfl
  refine blk_put (cs := #[b0, b1, a2, a3, a4, a5, a6]) ?_ 2 _ rfl
  refine blk_put (cs := #[b0, a1, a2, a3, a4, a5, a6]) ?_ 1 _ rfl
  refine blk_put (cs := #[a0, a1, a2, a3, a4, a5, a6]) ?_ 0 _ rfl
  exact h
theorem far9 {u0 u1 u2 u3 u4 u5 u6 u7 u8 : Value} (hn : p.block ≠ g) (h : W.cell? p = some v) : (((((((((W.setCell ⟨g, 0, none⟩ u0).setCell ⟨g, 1, none⟩ u1).setCell ⟨g, 2, none⟩ u2).setCell ⟨g, 3, none⟩ u3).setCell ⟨g, 4, none⟩ u4).setCell ⟨g, 5, none⟩ u5).setCell ⟨g, 6, none⟩ u6).setCell ⟨g, 7, none⟩ u7).setCell ⟨g, 8, none⟩ u8).cell? p = some v := ((cell_far (p := ⟨g, 8, none⟩) hn _).trans ((cell_far (p := ⟨g, 7, none⟩) hn _).trans ((cell_far (p := ⟨g, 6, none⟩) hn _).trans ((cell_far (p := ⟨g, 5, none⟩) hn _).trans ((cell_far (p := ⟨g, 4, none⟩) hn _).trans ((cell_far (p := ⟨g, 3, none⟩) hn _).trans ((cell_far (p := ⟨g, 2, none⟩) hn _).trans ((cell_far (p := ⟨g, 1, none⟩) hn _).trans ((cell_far (p := ⟨g, 0, none⟩) hn _).trans h)))))))))
theorem put9 {a0 a1 a2 a3 a4 a5 a6 a7 a8 b0 b1 b2 b3 b4 b5 b6 b7 b8 : Value} (h : W.heap[g]? = some (.cells #[a0, a1, a2, a3, a4, a5, a6, a7, a8] t (0, 0))) : (((((((((W.setCell ⟨g, 0, none⟩ b0).setCell ⟨g, 1, none⟩ b1).setCell ⟨g, 2, none⟩ b2).setCell ⟨g, 3, none⟩ b3).setCell ⟨g, 4, none⟩ b4).setCell ⟨g, 5, none⟩ b5).setCell ⟨g, 6, none⟩ b6).setCell ⟨g, 7, none⟩ b7).setCell ⟨g, 8, none⟩ b8).heap[g]? = some (.cells #[b0, b1, b2, b3, b4, b5, b6, b7, b8] t (0, 0)) := by
  refine blk_put (cs := #[b0, b1, b2, b3, b4, b5, b6, b7, a8]) ?_ 8 _ rfl
  refine blk_put (cs := #[b0, b1, b2, b3, b4, b5, b6, a7, a8]) ?_ 7 _ rfl
  refine blk_put (cs := #[b0, b1, b2, b3, b4, b5, a6, a7, a8]) ?_ 6 _ rfl
  refine blk_put (cs := #[b0, b1, b2, b3, b4, a5, a6, a7, a8]) ?_ 5 _ rfl
  refine blk_put (cs := #[b0, b1, b2, b3, a4, a5, a6, a7, a8]) ?_ 4 _ rfl
  refine blk_put (cs := #[b0, b1, b2, a3, a4, a5, a6, a7, a8]) ?_ 3 _ rfl
  refine blk_put (cs := #[b0, b1, a2, a3, a4, a5, a6, a7, a8]) ?_ 2 _ rfl
  refine blk_put (cs := #[b0, a1, a2, a3, a4, a5, a6, a7, a8]) ?_ 1 _ rfl
  refine blk_put (cs := #[a0, a1, a2, a3, a4, a5, a6, a7, a8]) ?_ 0 _ rfl
  exact h
theorem cf7 {a0 a1 a2 a3 a4 a5 a6 : Value} (h : W.heap[g]? = some (.cells #[a0, a1, a2, a3, a4, a5, a6] t (0, 0))) : W.cell? ⟨g, 0, none⟩ = some a0 ∧ W.cell? ⟨g, 1, none⟩ = some a1 ∧ W.cell? ⟨g, 2, none⟩ = some a2 ∧ W.cell? ⟨g, 3, none⟩ = some a3 ∧ W.cell? ⟨g, 4, none⟩ = some a4 ∧ W.cell? ⟨g, 5, none⟩ = some a5 ∧ W.cell? ⟨g, 6, none⟩ = some a6 ∧ W.frozen? ⟨g, 0, none⟩ = false ∧ W.frozen? ⟨g, 1, none⟩ = false ∧ W.frozen? ⟨g, 2, none⟩ = false ∧ W.frozen? ⟨g, 3, none⟩ = false ∧ W.frozen? ⟨g, 4, none⟩ = false ∧ W.frozen? ⟨g, 5, none⟩ = false ∧ W.frozen? ⟨g, 6, none⟩ = false :=
  ⟨(blk_cell h 0).trans rfl, (blk_cell h 1).trans rfl, (blk_cell h 2).trans rfl, (blk_cell h 3).trans rfl, (blk_cell h 4).trans rfl, (blk_cell h 5).trans rfl, (blk_cell h 6).trans rfl, blk_frozen h 0, blk_frozen h 1, blk_frozen h 2, blk_frozen h 3, blk_frozen h 4, blk_frozen h 5, blk_frozen h 6⟩
theorem cf9 {a0 a1 a2 a3 a4 a5 a6 a7 a8 : Value} (h : W.heap[g]? = some (.cells #[a0, a1, a2, a3, a4, a5, a6, a7, a8] t (0, 0))) : W.cell? ⟨g, 0, none⟩ = some a0 ∧ W.cell? ⟨g, 1, none⟩ = some a1 ∧ W.cell? ⟨g, 2, none⟩ = some a2 ∧ W.cell? ⟨g, 3, none⟩ = some a3 ∧ W.cell? ⟨g, 4, none⟩ = some a4 ∧ W.cell? ⟨g, 5, none⟩ = some a5 ∧ W.cell? ⟨g, 6, none⟩ = some a6 ∧ W.cell? ⟨g, 7, none⟩ = some a7 ∧ W.cell? ⟨g, 8, none⟩ = some a8 ∧ W.frozen? ⟨g, 0, none⟩ = false ∧ W.frozen? ⟨g, 1, none⟩ = false ∧ W.frozen? ⟨g, 2, none⟩ = false ∧ W.frozen? ⟨g, 3, none⟩ = false ∧ W.frozen? ⟨g, 4, none⟩ = false ∧ W.frozen? ⟨g, 5, none⟩ = false ∧ W.frozen? ⟨g, 6, none⟩ = false ∧ W.frozen? ⟨g, 7, none⟩ = false ∧ W.frozen? ⟨g, 8, none⟩ = false :=
  ⟨(blk_cell h 0).trans rfl, (blk_cell h 1).trans rfl, (blk_cell h 2).trans rfl, (blk_cell h 3).trans rfl, (blk_cell h 4).trans rfl, (blk_cell h 5).trans rfl, (blk_cell h 6).trans rfl, (blk_cell h 7).trans rfl, (blk_cell h 8).trans rfl, blk_frozen h 0, blk_frozen h 1, blk_frozen h 2, blk_frozen h 3, blk_frozen h 4, blk_frozen h 5, blk_frozen h 6, blk_frozen h 7, blk_frozen h 8⟩
theorem ip {α : Type} {c : Prop} [Decidable c] {x y z : α} (h : (if c then x else y) = z) (hc : c := by rfl) : x = z := by rwa [if_pos hc] at h
theorem im {α : Type} {c : Prop} [Decidable c] {x y z : α} (h : (if c then x else y) = z) (hc : ¬ c := by decide) : y = z := by rwa [if_neg hc] at h
end
end Go.Proofs.YtkehfdadplpaeaaDoor.Rgn
