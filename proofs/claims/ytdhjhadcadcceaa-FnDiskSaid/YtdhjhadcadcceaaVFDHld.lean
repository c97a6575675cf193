import Derived.Test.YtdhjhadcadcceaaVFDWWords
import Derived.Test.YtdhjhadcadcceaaVFDWMore
/- What lies in an interval of blocks and is looked at by nobody else: it stays as it is over any event that leaves these blocks alone. -/
namespace Go.Proofs.Ytdhjhadcadcceaa.Hld
open Go.RowKit Go.Proofs.YtdhjhadcadcceaaW.PrintWords
set_option linter.unusedVariables false

structure Held (lo hi : Nat) (p : World → Prop) (W : World) : Prop where
  top : hi ≤ W.heap.size
  now : p W
  stay : ∀ W W' : World, hi ≤ W.heap.size → (∀ k, lo ≤ k → k < hi → W'.heap[k]? = W.heap[k]?) → p W → p W'
section
variable {lo hi : Nat} {p : World → Prop} {W W1 : World} {S : Nat → Prop}
theorem Held.below (h : Held lo hi p W) (hb : Below W.heap.size W W1) : Held lo hi p W1 :=
  ⟨Nat.le_trans h.top hb.size, h.stay W W1 h.top (fun k _ hk => hb.block k (Nat.lt_of_lt_of_le hk h.top)) h.now, h.stay⟩
theorem Held.kept (h : Held lo hi p W) (hk : Kept W W1 S) (hS : ∀ k, S k → k < lo ∨ hi ≤ k) : Held lo hi p W1 :=
  ⟨Nat.le_trans h.top hk.1, h.stay W W1 h.top (fun k h1 h2 => hk.2 k (Nat.lt_of_lt_of_le h2 h.top) (fun hs => by have := hS k hs; omega)) h.now, h.stay⟩
theorem Held.drew (h : Held lo hi p W) : Held lo hi p W.drew := ⟨h.top, h.stay W W.drew h.top (fun _ _ _ => rfl) h.now, h.stay⟩
theorem Held.drewN (h : Held lo hi p W) (n : Nat) : Held lo hi p (W.drewN n) := ⟨h.top, h.stay W (W.drewN n) h.top (fun _ _ _ => rfl) h.now, h.stay⟩
theorem Held.alloc (h : Held lo hi p W) (o : Obj) : Held lo hi p (W.alloc o) := h.below (below_alloc (Below.refl _ _) o)
theorem Held.grown {g : Nat} (h : Held lo hi p W) (hg : W.grownBy W1 (some g)) (hn : g < lo ∨ hi ≤ g) : Held lo hi p W1 :=
  ⟨Nat.le_trans h.top hg.size, h.stay W W1 h.top (fun k h1 h2 => hg.block k (Nat.lt_of_lt_of_le h2 h.top) (fun e => by have := Option.some.inj e; omega)) h.now, h.stay⟩
theorem drawn_below (h : Drawn0 W W1) : Below W.heap.size W W1 := by obtain ⟨n, rfl⟩ := h; exact pw_below_drewN (Below.refl _ _) n
/-- A block of its own. -/
theorem Held.blk {g : Nat} {o : Obj} (h : W.heap[g]? = some o) : Held g (g + 1) (fun W => W.heap[g]? = some o) W :=
  ⟨blk_lt h, h, fun W W' _ hs hp => (hs g (Nat.le_refl _) (by omega)).trans hp⟩
/-- A row that a call has made. -/
theorem Held.row {α : Type} {d : Kd α} {e : Nat} {ok : Nat → Prop} {v : Value} {xs : List α} {b : Nat} (h : d.R e W1 W.heap.size ok v xs) (hW : W.heap.size ≤ W1.heap.size) (hb : b ≤ W.heap.size) :
    Held W.heap.size W1.heap.size (fun w => d.R e w b (fun k => W.heap.size ≤ k ∧ k < W1.heap.size) v xs) W1 :=
  ⟨Nat.le_refl _, Kd.R_lower (Kd.R_mono (Kd.R_bound h) (fun _ hk => ⟨hk.2.1, hk.2.2.1⟩)) hb, fun _ _ _ hs hp => Kd.R_move hp (fun k hk => hs k hk.1 hk.2)⟩
end

/-- A value of two rows, apart from each other, all within ok. -/
def Two {α β : Type} (d : Kd α) (e : Nat) (d' : Kd β) (e' : Nat) (W : World) (base : Nat) (ok : Nat → Prop) (u v : Value) (xs : List α) (ys : List β) : Prop :=
  ∃ p : Nat → Prop, d.R e W base (fun k => ok k ∧ ¬ p k) u xs ∧ Kd.S d' e' W base (fun k => ok k ∧ p k) v ys
section
variable {α β : Type} {d : Kd α} {e : Nat} {d' : Kd β} {e' : Nat} {W W1 : World} {base b : Nat} {ok ok' : Nat → Prop} {u v : Value} {xs : List α} {ys : List β}
theorem Two.mono (h : Two d e d' e' W base ok u v xs ys) (hok : ∀ k, ok k → ok' k) : Two d e d' e' W base ok' u v xs ys := by
  obtain ⟨p, h1, h2⟩ := h
  exact ⟨p, Kd.R_mono h1 (fun k hk => ⟨hok k hk.1, hk.2⟩), Kd.S_mono h2 (fun k hk => ⟨hok k hk.1, hk.2⟩)⟩
theorem Two.move (h : Two d e d' e' W base ok u v xs ys) (hm : ∀ k, ok k → W1.heap[k]? = W.heap[k]?) : Two d e d' e' W1 base ok u v xs ys := by
  obtain ⟨p, h1, h2⟩ := h
  exact ⟨p, Kd.R_move h1 (fun k hk => hm k hk.1), Kd.S_move h2 (fun k hk => hm k hk.1)⟩
theorem Two.bound (h : Two d e d' e' W base ok u v xs ys) : Two d e d' e' W base (fun k => base ≤ k ∧ k < W.heap.size) u v xs ys := by
  obtain ⟨p, h1, h2⟩ := h
  exact ⟨p, Kd.R_mono (Kd.R_bound h1) (fun k hk => ⟨⟨hk.2.1, hk.2.2.1⟩, hk.1.2⟩), Kd.S_mono (Kd.S_bound h2) (fun k hk => ⟨⟨hk.2.1, hk.2.2.1⟩, hk.1.2⟩)⟩
theorem Two.lower (h : Two d e d' e' W base ok u v xs ys) (hb : b ≤ base) : Two d e d' e' W b ok u v xs ys := by
  obtain ⟨p, h1, h2⟩ := h
  exact ⟨p, Kd.R_lower h1 hb, Kd.S_lower h2 hb⟩
/-- As a call hands it back: the first row of scalars. -/
theorem Two.of (hE : d.E = []) (h1 : d.R e W base ok u xs) (h2 : Kd.S d' e' W base (fun k => ok' k ∧ some k ≠ u.ownBlock) v ys) : Two d e d' e' W base (fun _ => True) u v xs ys :=
  ⟨fun k => some k ≠ u.ownBlock, Kd.R_mono (Kd.R_tight hE h1) (fun k hk => ⟨trivial, fun h => h hk⟩), Kd.S_mono h2 (fun k hk => ⟨trivial, hk.2⟩)⟩
theorem Two.held (h : Two d e d' e' W1 W.heap.size ok u v xs ys) (hb : b ≤ W.heap.size) :
    Held W.heap.size W1.heap.size (fun w => Two d e d' e' w b (fun k => W.heap.size ≤ k ∧ k < W1.heap.size) u v xs ys) W1 :=
  ⟨Nat.le_refl _, h.bound.lower hb, fun _ _ _ hs hp => hp.move (fun k hk => hs k hk.1 hk.2)⟩
theorem Two.slices (h : Two d e d' e' W base ok u v xs ys) : ∃ A c A' c', u = .slice A xs.length c ∧ v = .slice A' ys.length c' := by
  obtain ⟨p, h1, h2⟩ := h
  obtain ⟨A, c, e1⟩ := Kd.R_slice h1
  obtain ⟨A', c', e2⟩ := Kd.S_slice h2
  exact ⟨A, c, A', c', e1, e2⟩
variable {A A' : Option Addr} {c c' n n' : Nat}
theorem Two.c1 (h : Two d e d' e' W base ok (.slice A n c) (.slice A' n' c') xs ys) : d.C W A xs.length xs := by obtain ⟨p, h1, h2⟩ := h; exact (Kd.R_reads' h1).2.2
theorem Two.l1 (h : Two d e d' e' W base ok (.slice A n c) (.slice A' n' c') xs ys) : xs.length ≤ c := by obtain ⟨p, h1, h2⟩ := h; have := Kd.R_reads' h1; omega
theorem Two.n1 (h : Two d e d' e' W base ok (.slice A n c) (.slice A' n' c') xs ys) : n = xs.length := by obtain ⟨p, h1, h2⟩ := h; exact (Kd.R_reads' h1).1
theorem Two.c2 (h : Two d e d' e' W base ok (.slice A n c) (.slice A' n' c') xs ys) : d'.C W A' ys.length ys := by obtain ⟨p, h1, h2⟩ := h; exact (Kd.S_reads' h2).2.2
theorem Two.l2 (h : Two d e d' e' W base ok (.slice A n c) (.slice A' n' c') xs ys) : ys.length ≤ c' := by obtain ⟨p, h1, h2⟩ := h; have := Kd.S_reads' h2; omega
theorem Two.n2 (h : Two d e d' e' W base ok (.slice A n c) (.slice A' n' c') xs ys) : n' = ys.length := by obtain ⟨p, h1, h2⟩ := h; exact (Kd.S_reads' h2).1
end
end Go.Proofs.Ytdhjhadcadcceaa.Hld
