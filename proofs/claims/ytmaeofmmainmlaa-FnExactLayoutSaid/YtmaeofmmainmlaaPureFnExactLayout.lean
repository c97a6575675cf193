/- FnExactLayout: at every three numbers the program's Layout returns what the reference's returns (the plain law; the row stands beside it). -/
import Derived.Test.YtmaeofmmainmlaaPFnExactLayoutx
import Derived.Test.YtmaeofmmainmlaaHlp
namespace Go.Proofs.Ytmaeofmmainmlaa.Pure
open Go.RowKit Go.Proofs.Ytmaeofmmainmlaa.PFnExactLayout Go.Proofs.YtmaeofmmainmlaaW.PrintWords Go.Proofs.YtmaeofmmainmlaaW.PrintLast Go.Proofs.YtmaeofmmainmlaaW.PrintMore Go.Proofs.Ytmaeofmmainmlaa.Hlp
namespace LO
theorem up_ev (a b r : Int) (hb : b = 512 ∨ b = 64) (ha : a ≤ 8192) (h0 : (r - 1) * b < a) (h1 : a ≤ r * b) (hr : r ≤ 8192) (d : Nat) : ∀ n : Int, 0 ≤ n → n + d = r → Ev (fun k => spec_l7Up.l0 k a b n) r := by
  induction d with
  | zero =>
    intro n hn hd
    obtain rfl : n = r := by omega
    refine Ev.step (f := fun _ => some n) (fun k => ?_) (Ev.now _)
    simp only [spec_l7Up.l0]
    rcases hb with rfl | rfl <;> rw [w64 (by omega) (by omega), if_neg (by omega)]
  | succ d ih =>
    intro n hn hd
    refine Ev.step (f := fun k => spec_l7Up.l0 k a b (n + 1)) (fun k => ?_) (ih (n + 1) (by omega) (by omega))
    simp only [spec_l7Up.l0]
    rcases hb with rfl | rfl <;> rw [w64 (x := n * _) (by omega) (by omega), if_pos (by omega), w64 (by omega) (by omega)]
theorem up512 (a : Int) (h0 : 1 ≤ a) (h1 : a ≤ 2048) : Ev (fun k => spec_l7Up.f k a 512) ((a + 511) / 512) :=
  up_ev a 512 _ (.inl rfl) (by omega) (by omega) (by omega) (by omega) ((a + 511) / 512).toNat 0 (by omega) (by omega)
theorem up64 (a : Int) (h0 : 1 ≤ a) (h1 : a ≤ 256) : Ev (fun k => spec_l7Up.f k (a * 32) 64) ((a + 1) / 2) :=
  up_ev (a * 32) 64 _ (.inr rfl) (by omega) (by omega) (by omega) (by omega) ((a + 1) / 2).toNat 0 (by omega) (by omega)
def pl (g l i : Int) : Int × Int × Int × Int × Int × Int × Int := (2 + l, 2 + l + 1, (g + 511) / 512, 2 + l + 1 + (g + 511) / 512, (i + 1) / 2, 2 + l + 1 + (g + 511) / 512 + (i + 1) / 2, g - (2 + l + 1 + (g + 511) / 512 + (i + 1) / 2))
theorem places_ev (g l i : Int) (g0 : 1 ≤ g) (g1 : g ≤ 2048) (l0 : 16 ≤ l) (l1 : l ≤ 512) (i0 : 1 ≤ i) (i1 : i ≤ 256) : Ev (fun k => spec_l7Places.f k g l i) (pl g l i) := by
  refine Ev.congr (fun k => by unfold spec_l7Places.f; rfl) ?_
  refine (up512 g g0 g1).bind ?_
  refine Ev.congr (fun k => by rw [w64 (x := i * 32) (by omega) (by omega)]) ((up64 i i0 i1).bind ?_)
  refine Ev.congr (fun k => ?_) (Ev.now _)
  unfold pl
  rw [w64 (x := 2 + l) (by omega) (by omega), w64 (x := 2 + l + 1) (by omega) (by omega), w64 (x := 2 + l + 1 + _) (by omega) (by omega), w64 (x := 2 + l + 1 + _ + _) (by omega) (by omega), w64 (by omega) (by omega)]
theorem implPlaces (g l i : Int) (g0 : 1 ≤ g) (g1 : g ≤ 2048) (l0 : 16 ≤ l) (l1 : l ≤ 512) (i0 : 1 ≤ i) (i1 : i ≤ 256) : impl_places.f g l i = some (pl g l i) := by
  unfold impl_places.f pl
  rw [w64 (x := 2 + l) (by omega) (by omega), w64 (x := 2 + l + 1) (by omega) (by omega), w64 (x := g + 511) (by omega) (by omega), w64 (x := i + 1) (by omega) (by omega), Int.tdiv_eq_ediv_of_nonneg (by omega), Int.tdiv_eq_ediv_of_nonneg (by omega)]
  rw [w64 (x := (g + 511) / 512) (by omega) (by omega), w64 (x := (i + 1) / 2) (by omega) (by omega), w64 (x := 2 + l + 1 + _) (by omega) (by omega), w64 (x := 2 + l + 1 + _ + _) (by omega) (by omega), w64 (by omega) (by omega)]
def vgB (g l i : Int) : Bool := decide (16 ≤ l ∧ l ≤ 512 ∧ 1 ≤ i ∧ i ≤ 256 ∧ 1 ≤ g ∧ g ≤ 2048 ∧ g - (2 + l + 1 + (g + 511) / 512 + (i + 1) / 2) ≥ 1)
theorem spec_ev (g l i : Int) : Ev (fun k => spec_ValidGeometry.f k g l i) (vgB g l i) := by
  unfold vgB spec_ValidGeometry.f
  by_cases c1 : l < 16
  · exact Ev.congr (fun k => by rw [if_pos c1, decide_eq_false (by omega)]) (Ev.now _)
  by_cases c2 : l > 512
  · exact Ev.congr (fun k => by rw [if_neg c1, if_pos c2, decide_eq_false (by omega)]) (Ev.now _)
  by_cases c3 : i < 1
  · exact Ev.congr (fun k => by rw [if_neg c1, if_neg c2, if_pos c3, decide_eq_false (by omega)]) (Ev.now _)
  by_cases c4 : i > 256
  · exact Ev.congr (fun k => by rw [if_neg c1, if_neg c2, if_neg c3, if_pos c4, decide_eq_false (by omega)]) (Ev.now _)
  by_cases c5 : g < 1
  · exact Ev.congr (fun k => by rw [if_neg c1, if_neg c2, if_neg c3, if_neg c4, if_pos c5, decide_eq_false (by omega)]) (Ev.now _)
  by_cases c6 : g > 2048
  · exact Ev.congr (fun k => by rw [if_neg c1, if_neg c2, if_neg c3, if_neg c4, if_neg c5, if_pos c6, decide_eq_false (by omega)]) (Ev.now _)
  refine Ev.congr (fun k => by rw [if_neg c1, if_neg c2, if_neg c3, if_neg c4, if_neg c5, if_neg c6]) ((places_ev g l i (by omega) (by omega) (by omega) (by omega) (by omega) (by omega)).bind ?_)
  refine Ev.congr (fun k => ?_) (Ev.now _)
  congr 1
  rw [decide_eq_decide]; unfold pl; simp only; omega
theorem implVG (g l i : Int) : impl_ValidGeometry.f g l i = some (vgB g l i) := by
  unfold vgB impl_ValidGeometry.f impl_in.f
  by_cases c1 : 16 ≤ l ∧ l ≤ 512
  rotate_left
  · rw [decide_eq_false (p := _ ∧ _) (by omega)]
    by_cases c : l ≥ 16
    · rw [if_pos c]; simp only [Option.bind_some]; rw [decide_eq_false (by omega), if_neg (by simp)]
    · rw [if_neg c]; simp only [Option.bind_some]; rw [if_neg (by simp)]
  rw [if_pos (show l ≥ 16 by omega)]; simp only [Option.bind_some]; rw [decide_eq_true (show l ≤ 512 by omega), if_pos rfl]
  by_cases c2 : 1 ≤ i ∧ i ≤ 256
  rotate_left
  · rw [decide_eq_false (p := _ ∧ _) (by omega)]
    by_cases c : i ≥ 1
    · rw [if_pos c]; simp only [Option.bind_some]; rw [decide_eq_false (by omega), if_neg (by simp)]
    · rw [if_neg c]; simp only [Option.bind_some]; rw [if_neg (by simp)]
  rw [if_pos (show i ≥ 1 by omega)]; simp only [Option.bind_some]; rw [decide_eq_true (show i ≤ 256 by omega), if_pos rfl]
  by_cases c3 : 1 ≤ g ∧ g ≤ 2048
  rotate_left
  · rw [decide_eq_false (p := _ ∧ _) (by omega)]
    by_cases c : g ≥ 1
    · rw [if_pos c]; simp only [Option.bind_some]; rw [decide_eq_false (by omega), if_neg (by simp)]
    · rw [if_neg c]; simp only [Option.bind_some]; rw [if_neg (by simp)]
  rw [if_pos (show g ≥ 1 by omega)]; simp only [Option.bind_some]; rw [decide_eq_true (show g ≤ 2048 by omega), if_pos rfl]
  rw [implPlaces g l i (by omega) (by omega) (by omega) (by omega) (by omega) (by omega)]; simp only [Option.bind_some]
  congr 1
  rw [decide_eq_decide]; unfold pl; simp only; omega
def layoutOf (g l i : Int) : Int × Int × Int × Int × Int × Int × Int := if vgB g l i = true then pl g l i else (0, 0, 0, 0, 0, 0, 0)
theorem vg_bd {g l i : Int} (h : vgB g l i = true) : 16 ≤ l ∧ l ≤ 512 ∧ 1 ≤ i ∧ i ≤ 256 ∧ 1 ≤ g ∧ g ≤ 2048 := by
  unfold vgB at h; have := of_decide_eq_true h; omega
theorem layoutSpec_ev (g l i : Int) : Ev (fun k => spec_Layout.f k g l i) (layoutOf g l i) := by
  refine Ev.congr (fun k => by unfold spec_Layout.f; rfl) ?_
  refine (spec_ev g l i).bind ?_
  by_cases c : vgB g l i = true
  · have b := vg_bd c
    have e : layoutOf g l i = pl g l i := by unfold layoutOf; rw [if_pos c]
    rw [e]
    refine Ev.congr (fun k => if_pos c) ?_
    exact (places_ev g l i (by omega) (by omega) (by omega) (by omega) (by omega) (by omega)).bind (Ev.now _)
  · have e : layoutOf g l i = (0, 0, 0, 0, 0, 0, 0) := by unfold layoutOf; rw [if_neg c]
    rw [e]
    exact Ev.congr (fun k => if_neg c) (Ev.now _)
theorem layoutImpl (g l i : Int) : impl_Layout.f g l i = some (layoutOf g l i) := by
  unfold impl_Layout.f
  rw [implVG g l i, Option.bind_some]
  by_cases c : vgB g l i = true
  · have b := vg_bd c
    rw [if_pos c, implPlaces g l i (by omega) (by omega) (by omega) (by omega) (by omega) (by omega), Option.bind_some]
    unfold layoutOf; rw [if_pos c]
  · rw [if_neg c]; unfold layoutOf; rw [if_neg c]
theorem eq_same (a b c d e f g : Int) : laws_eqPlaces.f a b c d e f g a b c d e f g = some true := by unfold laws_eqPlaces.f; simp
end LO
theorem FnExactLayout (g l i : Int) (_ : (Lit.int .i64 g).wf = true) (_ : (Lit.int .i64 l).wf = true) (_ : (Lit.int .i64 i).wf = true) : ∃ k, laws_FnExactLayout.f k g l i = some true := by
  refine Ev.rounds (Ev.congr (fun k => by unfold laws_FnExactLayout.f laws_toGeometry.f; simp only [Option.bind_some]; rfl) ?_)
  refine (LO.layoutSpec_ev g l i).bind ?_
  refine Ev.congr (fun k => by rw [LO.layoutImpl g l i, Option.bind_some, LO.eq_same, Option.bind_some]) ?_
  exact Ev.congr (fun k => if_pos rfl) (Ev.now true)
end Go.Proofs.Ytmaeofmmainmlaa.Pure
