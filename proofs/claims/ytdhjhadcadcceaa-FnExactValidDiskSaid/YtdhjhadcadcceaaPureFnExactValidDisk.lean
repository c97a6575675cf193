/- FnExactValidDisk: at every disk the program's ValidDisk answers as the reference's, and the disk stays as it was. -/
import Derived.Test.YtdhjhadcadcceaaPFnExactValidDiskx
import Derived.Test.YtdhjhadcadcceaaHlp2
namespace Go.Proofs.Ytdhjhadcadcceaa.Pure
open Go.RowKit Go.Proofs.Ytdhjhadcadcceaa.PFnExactValidDisk Go.Proofs.YtdhjhadcadcceaaW.PrintWords Go.Proofs.YtdhjhadcadcceaaW.PrintLast Go.Proofs.YtdhjhadcadcceaaW.PrintMore Go.Proofs.Ytdhjhadcadcceaa.Hlp
namespace VD
theorem rd112 (l : List S112) (i : Nat) (h : i < l.length) : rd_T112 l (i : Int) = l[i] := by simp [rd_T112, h]
theorem rd62 (l : List S62) (i : Nat) (h : i < l.length) : rd_T62 l (i : Int) = l[i] := by simp [rd_T62, h]
def toH (e : S112) : S62 := ⟨e.f0, e.f1⟩
def goodH (l : List S112) : Prop := l.length ≤ maxLen ∧ ∀ y ∈ l, (Lit.int .i64 y.f0).wf = true ∧ (y.f1.length ≤ maxLen ∧ ∀ z ∈ y.f1, (Lit.int .u8 z).wf = true)
def goodI (l : List Int) : Prop := l.length ≤ maxLen ∧ ∀ y ∈ l, (Lit.int .i64 y).wf = true
/-- Lengths within the budget. -/
def fitH (l : List S112) : Prop := l.length ≤ 1048576 ∧ ∀ y ∈ l, y.f1.length ≤ 1048576
theorem mem_sum (l : List S112) (y : S112) (h : y ∈ l) : y.f1.length ≤ (l.map (fun e => e.f1.length)).sum := by
  induction l with
  | nil => cases h
  | cons a r ih =>
    rw [List.map_cons, List.sum_cons]
    rcases List.mem_cons.1 h with rfl | h
    · omega
    · have := ih h; omega
theorem szHS (l : List S112) (b : Int) (h0 : 0 ≤ b) (hb : b ≤ 1048576) (hl : goodH l) : ∃ r, Ev (fun k => laws_szWriteS.f k l b) r ∧ (r < 0 ∨ (0 ≤ r ∧ r ≤ b ∧ fitH l ∧ l.length + r ≤ b)) := by
  have hm : maxLen ≤ 9223372036854775807 := by decide
  obtain ⟨hl, hg⟩ := hl
  by_cases c : (wrap64 (b - (l.length : Int))) < 0
  · exact ⟨-1, Ev.congr (fun k => by unfold laws_szWriteS.f; rw [if_pos c]) (Ev.now _), Or.inl (by decide)⟩
  · rw [w64 (by omega) (by omega)] at c
    have hl6 : l.length ≤ 1048576 := by omega
    obtain ⟨r, h, hr⟩ := szG_ev (fun e : S112 => e.f1.length) (L := laws_szWriteS.l0) l (by
      intro i s hi h0 hs
      have hy := (hg l[i] (List.getElem_mem _)).2.1
      have hw : wrap64 ((i : Int) + 1) = ((i + 1 : Nat) : Int) := by rw [w64 (by omega) (by omega)]; rfl
      by_cases d : (l[i].f1.length : Int) ≤ s
      · refine Or.inr ⟨d, fun r h => Ev.step (fun k => ?_) h⟩
        simp only [laws_szWriteS.l0, laws_szWrite.f, laws_szByteS.f]
        rw [if_pos (by omega), if_pos (by omega), rd112 l i hi, w64 (x := s - _) (by omega) (by omega), if_neg (by omega), Option.bind_some, if_neg (by omega), Option.bind_some, if_neg (by omega), hw]
      · refine Or.inl ⟨-1, by decide, Ev.step (f := fun _ => some (-1)) (fun k => ?_) (Ev.now _)⟩
        simp only [laws_szWriteS.l0, laws_szWrite.f, laws_szByteS.f]
        rw [if_pos (by omega), if_pos (by omega), rd112 l i hi, w64 (x := s - _) (by omega) (by omega), if_pos (by omega), Option.bind_some, if_pos (by omega), Option.bind_some, if_pos (by omega)])
      (fun s => Ev.step (f := fun _ => some s) (fun k => by simp only [laws_szWriteS.l0]; rw [if_neg (by omega)]) (Ev.now _)) (b - (l.length : Int)) (by omega) (by omega)
    refine ⟨r, Ev.congr (fun k => by unfold laws_szWriteS.f; rw [w64 (by omega) (by omega), if_neg (by omega)]) h, ?_⟩
    rcases hr with h | ⟨h1, h2⟩
    · exact Or.inl h
    · refine Or.inr ⟨h1, by omega, ⟨hl6, fun y hy => ?_⟩, by omega⟩
      have := mem_sum l y hy; omega
theorem toWrite_ev (a : Int) (d : List Int) (hd : d.length ≤ 1048576) : Ev (fun k => laws_toWrite.f k a d) (a, d) := by
  refine Ev.congr (fun k => by unfold laws_toWrite.f; rfl) ?_
  refine (toS_ev (F := laws_toByteS.f) (fun _ _ => rfl) (fun _ _ _ _ => rfl) d (by omega) (by omega)).bind ?_
  exact Ev.now _
theorem toHS (l : List S112) (hf : fitH l) : Ev (fun k => laws_toWriteS.f k l) (l.map toH) := by
  obtain ⟨hl, hg⟩ := hf
  refine Ev.congr (f := fun k => laws_toWriteS.l0 k l (List.replicate l.length z62) 0) (fun k => by unfold laws_toWriteS.f; rw [if_pos (by omega), if_pos (by simp; omega)]; simp) ?_
  refine fill_ev (L := fun k x i => laws_toWriteS.l0 k l x i) l toH ?_ ?_ _ (by simp)
  · intro i x hi hx r h
    refine Ev.step (f := fun k => (laws_toWrite.f k l[i].f0 l[i].f1).bind fun t => laws_toWriteS.l0 k l (x.set i (⟨t.1, t.2⟩ : S62)) ((i + 1 : Nat) : Int)) (fun k => ?_) ?_
    · simp only [laws_toWriteS.l0]
      rw [if_pos (by omega), if_pos (by omega), w64 (by omega) (by omega), rd112 l i hi, Int.toNat_natCast]
      congr 1
      funext t
      rw [if_pos (by omega)]; rfl
    · exact (toWrite_ev _ _ (hg _ (List.getElem_mem _))).bind h
  · intro x hx
    exact Ev.step (f := fun _ => some x) (fun k => by simp only [laws_toWriteS.l0]; rw [if_neg (by omega)]) (Ev.now _)
theorem eqWrite_ev (a : Int) (d : List Int) (hd : d.length ≤ 1048576) : Ev (fun k => laws_eqWrite.f k a d a d) true := by
  refine Ev.congr (fun k => by unfold laws_eqWrite.f; rw [if_pos rfl]) ?_
  refine (eqS_ev (F := laws_eqByteS.f) (fun _ _ _ => rfl) (fun _ _ _ _ => rfl) d (by omega)).bind ?_
  exact Ev.congr (fun k => if_pos rfl) (Ev.now true)
theorem eqHS (l : List S62) (hl : l.length ≤ 1048576) (hg : ∀ y ∈ l, y.f1.length ≤ 1048576) : Ev (fun k => laws_eqWriteS.f k l l) true := by
  refine Ev.congr (f := fun k => laws_eqWriteS.l0 k l l 0) (fun k => by unfold laws_eqWriteS.f; rw [if_pos rfl]) ?_
  refine eqG_ev (L := laws_eqWriteS.l0) l ?_ ?_
  · intro i hi h
    refine Ev.step (f := fun k => (laws_eqWrite.f k l[i].f0 l[i].f1 l[i].f0 l[i].f1).bind fun t => if t = true then laws_eqWriteS.l0 k l l ((i + 1 : Nat) : Int) else some false) (fun k => ?_) ?_
    · simp only [laws_eqWriteS.l0]
      rw [if_pos (by omega), if_pos (by omega), if_pos (by omega), rd62 l i hi, w64 (by omega) (by omega)]
      rfl
    · refine (eqWrite_ev _ _ (hg _ (List.getElem_mem _))).bind ?_
      exact Ev.congr (fun k => if_pos rfl) h
  · exact Ev.step (f := fun _ => some true) (fun k => by simp only [laws_eqWriteS.l0]; rw [if_neg (by omega)]) (Ev.now _)
theorem fit_map (l : List S112) (hf : fitH l) : (l.map toH).length ≤ 1048576 ∧ ∀ y ∈ l.map toH, y.f1.length ≤ 1048576 := by
  refine ⟨by simpa using hf.1, fun y hy => ?_⟩
  obtain ⟨z, hz, rfl⟩ := List.mem_map.1 hy
  exact hf.2 z hz
theorem szD (l : List Int) (p : List S112) (hl : l.length ≤ maxLen) (hp : goodH p) : ∃ r, Ev (fun k => laws_szDisk.f k l p 1048576) r ∧ (r < 0 ∨ (l.length ≤ 1048576 ∧ fitH p)) := by
  have hm : maxLen ≤ 9223372036854775807 := by decide
  by_cases c : (wrap64 (1048576 - (l.length : Int))) < 0
  · exact ⟨-1, Ev.congr (fun k => by unfold laws_szDisk.f laws_szByteS.f; rw [if_pos c, Option.bind_some, if_pos (by decide)]) (Ev.now _), Or.inl (by decide)⟩
  · have c' := c
    rw [w64 (by omega) (by omega)] at c
    obtain ⟨r, h, hr⟩ := szHS p (1048576 - (l.length : Int)) (by omega) (by omega) hp
    refine ⟨if r < 0 then -1 else r, Ev.congr (fun k => by unfold laws_szDisk.f laws_szByteS.f; rw [w64 (by omega) (by omega), if_neg c, Option.bind_some, if_neg c]) (h.bind ?_), ?_⟩
    · by_cases d : r < 0
      · simp only [if_pos d]; exact Ev.now _
      · simp only [if_neg d]; exact Ev.now _
    · by_cases d : r < 0
      · rw [if_pos d]; exact Or.inl (by decide)
      · obtain ⟨_, _, e, _⟩ := hr.resolve_left d
        exact Or.inr ⟨by omega, e⟩
theorem toD (l : List Int) (p : List S112) (hl : l.length ≤ 1048576) (hp : fitH p) : Ev (fun k => laws_toDisk.f k l p) (l, p.map toH) := by
  refine Ev.congr (fun k => by unfold laws_toDisk.f; rfl) ?_
  refine (toS_ev (F := laws_toByteS.f) (fun _ _ => rfl) (fun _ _ _ _ => rfl) l (by omega) (by omega)).bind ?_
  refine (toHS p hp).bind ?_
  exact Ev.now _
theorem eqD (l : List Int) (p : List S62) (hl : l.length ≤ 1048576) (hp : p.length ≤ 1048576 ∧ ∀ y ∈ p, y.f1.length ≤ 1048576) : Ev (fun k => laws_eqDisk.f k l p l p) true := by
  refine Ev.congr (fun k => by unfold laws_eqDisk.f; rfl) ?_
  refine (eqS_ev (F := laws_eqByteS.f) (fun _ _ _ => rfl) (fun _ _ _ _ => rfl) l (by omega)).bind ?_
  refine Ev.congr (fun k => if_pos rfl) ?_
  refine (eqHS p hp.1 hp.2).bind ?_
  exact Ev.congr (fun k => if_pos rfl) (Ev.now true)
def okW (b : Int) (w : S62) : Bool := decide (0 ≤ w.f0 ∧ w.f0 < b ∧ w.f1.length = 64)
def validD (l : List Int) (p : List S62) : Bool := decide (l.length % 64 = 0 ∧ 1 ≤ l.length ∧ l.length ≤ 131072 ∧ p.length ≤ 600) && p.all (okW ((l.length : Int) / 64))
theorem spec_loop (l : List Int) (p : List S62) (b : Int) (hp : p.length ≤ 1048576) : Ev (fun k => spec_ValidDisk.l0 k b 0 l p) (p.all (okW b)) := by
  have := down (P := fun i => Ev (fun k => spec_ValidDisk.l0 k b (i : Int) l p) ((p.drop i).all (okW b))) p.length ?_ ?_
  · simpa using this
  · rw [List.drop_length]
    exact Ev.step (f := fun _ => some true) (fun k => by simp only [spec_ValidDisk.l0]; rw [if_neg (by omega)]) (Ev.now _)
  · intro i hi h
    have hw : wrap64 ((i : Int) + 1) = ((i + 1 : Nat) : Int) := by rw [w64 (by omega) (by omega)]; rfl
    rw [List.drop_eq_getElem_cons hi, List.all_cons]
    by_cases c : 0 ≤ p[i].f0 ∧ p[i].f0 < b ∧ p[i].f1.length = 64
    · rw [show okW b p[i] = true by unfold okW; exact decide_eq_true c, Bool.true_and]
      exact Ev.step (fun k => by simp only [spec_ValidDisk.l0]; rw [if_pos (by omega), if_pos (by omega), rd62 p i hi, if_neg (by omega), if_neg (by omega), if_pos (by omega), hw]) h
    · rw [show okW b p[i] = false by unfold okW; exact decide_eq_false c, Bool.false_and]
      refine Ev.step (f := fun _ => some false) (fun k => ?_) (Ev.now _)
      simp only [spec_ValidDisk.l0]
      rw [if_pos (by omega), if_pos (by omega), rd62 p i hi]
      by_cases c1 : p[i].f0 < 0
      · rw [if_pos c1]
      · by_cases c2 : p[i].f0 ≥ b
        · rw [if_neg c1, if_pos c2]
        · rw [if_neg c1, if_neg c2, if_neg (by omega)]
theorem impl_loop (p : List S62) (n b : Int) (hb : wrap64 (Int.tdiv n 64) = b) (hp : p.length ≤ 1048576) : Ev (fun k => impl_ValidDisk.l0 k n p (p.length : Int) 0) (p.all (okW b)) := by
  have := down (P := fun i => Ev (fun k => impl_ValidDisk.l0 k n p (p.length : Int) (i : Int)) ((p.drop i).all (okW b))) p.length ?_ ?_
  · simpa using this
  · rw [List.drop_length]
    exact Ev.step (f := fun _ => some true) (fun k => by simp only [impl_ValidDisk.l0]; rw [if_neg (by omega)]) (Ev.now _)
  · intro i hi h
    have hw : wrap64 ((i : Int) + 1) = ((i + 1 : Nat) : Int) := by rw [w64 (by omega) (by omega)]; rfl
    rw [List.drop_eq_getElem_cons hi, List.all_cons]
    by_cases c : 0 ≤ p[i].f0 ∧ p[i].f0 < b ∧ p[i].f1.length = 64
    · rw [show okW b p[i] = true by unfold okW; exact decide_eq_true c, Bool.true_and]
      exact Ev.step (fun k => by simp only [impl_ValidDisk.l0]; rw [if_pos (by omega), if_pos (by omega), if_pos (by omega), rd62 p i hi, hb, if_neg (by omega), if_neg (by omega), if_pos (by omega), hw]) h
    · rw [show okW b p[i] = false by unfold okW; exact decide_eq_false c, Bool.false_and]
      refine Ev.step (f := fun _ => some false) (fun k => ?_) (Ev.now _)
      simp only [impl_ValidDisk.l0]
      rw [if_pos (by omega), if_pos (by omega), if_pos (by omega), rd62 p i hi, hb]
      by_cases c1 : p[i].f0 < 0
      · rw [if_pos c1]
      · by_cases c2 : p[i].f0 ≥ b
        · rw [if_neg c1, if_pos c2]
        · rw [if_neg c1, if_neg c2, if_neg (by omega)]
theorem spec_ev (l : List Int) (p : List S62) (hl : l.length ≤ 1048576) (hp : p.length ≤ 1048576) : Ev (fun k => spec_ValidDisk.f k l p) (validD l p) := by
  have hw : wrap64 ((l.length : Int) / 64) = (l.length : Int) / 64 := w64 (by omega) (by omega)
  have jt : Ev (fun k => spec_ValidDisk.j0 k ((l.length : Int) / 64) true l p) false := Ev.step (f := fun _ => some false) (fun k => by simp only [spec_ValidDisk.j0]; rw [if_pos trivial]) (Ev.now _)
  have no : ¬ (l.length % 64 = 0 ∧ 1 ≤ l.length ∧ l.length ≤ 131072 ∧ p.length ≤ 600) → validD l p = false := fun h => by unfold validD; rw [decide_eq_false h, Bool.false_and]
  by_cases c1 : ((l.length : Int) % 64) = 0
  rotate_left
  · rw [no (by omega)]
    exact Ev.congr (fun k => by unfold spec_ValidDisk.f spec_l1Blocks.f; rw [Option.bind_some, if_neg c1, hw]) jt
  by_cases c2 : (l.length : Int) / 64 < 1
  · rw [no (by omega)]
    exact Ev.congr (fun k => by unfold spec_ValidDisk.f spec_l1Blocks.f; rw [Option.bind_some, if_pos c1, hw, if_pos c2]) jt
  by_cases c3 : (l.length : Int) / 64 > 2048
  · rw [no (by omega)]
    exact Ev.congr (fun k => by unfold spec_ValidDisk.f spec_l1Blocks.f; rw [Option.bind_some, if_pos c1, hw, if_neg c2, if_pos c3]) jt
  by_cases c4 : (p.length : Int) > 600
  · rw [no (by omega)]
    exact Ev.congr (fun k => by unfold spec_ValidDisk.f spec_l1Blocks.f; rw [Option.bind_some, if_pos c1, hw, if_neg c2, if_neg c3, decide_eq_true c4]) jt
  rw [show validD l p = p.all (okW ((l.length : Int) / 64)) by unfold validD; rw [decide_eq_true (by omega), Bool.true_and]]
  refine Ev.congr (fun k => by unfold spec_ValidDisk.f spec_l1Blocks.f; rw [Option.bind_some, if_pos c1, hw, if_neg c2, if_neg c3, decide_eq_false c4]) ?_
  exact Ev.step (fun k => by simp only [spec_ValidDisk.j0]; rw [if_neg (by decide)]) (spec_loop l p _ hp)
theorem impl_ev (l : List Int) (p : List S62) (hl : l.length ≤ 1048576) (hp : p.length ≤ 1048576) : Ev (fun k => impl_ValidDisk.f k l p) (validD l p) := by
  have jt : Ev (fun k => impl_ValidDisk.j0 k (l.length : Int) true l p) false := Ev.step (f := fun _ => some false) (fun k => by simp only [impl_ValidDisk.j0]; rw [if_pos trivial]) (Ev.now _)
  have no : ¬ (l.length % 64 = 0 ∧ 1 ≤ l.length ∧ l.length ≤ 131072 ∧ p.length ≤ 600) → validD l p = false := fun h => by unfold validD; rw [decide_eq_false h, Bool.false_and]
  by_cases c1 : ((l.length : Int) % 64) = 0
  rotate_left
  · rw [no (by omega)]
    exact Ev.congr (fun k => by unfold impl_ValidDisk.f; rw [if_neg c1]) jt
  by_cases c2 : (l.length : Int) = 0
  · rw [no (by omega)]
    exact Ev.congr (fun k => by unfold impl_ValidDisk.f; rw [if_pos c1, if_pos c2]) jt
  by_cases c3 : (l.length : Int) > 131072
  · rw [no (by omega)]
    exact Ev.congr (fun k => by unfold impl_ValidDisk.f; rw [if_pos c1, if_neg c2, if_pos c3]) jt
  by_cases c4 : (p.length : Int) > 600
  · rw [no (by omega)]
    exact Ev.congr (fun k => by unfold impl_ValidDisk.f; rw [if_pos c1, if_neg c2, if_neg c3, decide_eq_true c4]) jt
  rw [show validD l p = p.all (okW ((l.length : Int) / 64)) by unfold validD; rw [decide_eq_true (by omega), Bool.true_and]]
  refine Ev.congr (fun k => by unfold impl_ValidDisk.f; rw [if_pos c1, if_neg c2, if_neg c3, decide_eq_false c4]) ?_
  exact Ev.step (fun k => by simp only [impl_ValidDisk.j0]; rw [if_neg (by decide)]) (impl_loop p _ _ (by rw [Int.tdiv_eq_ediv_of_nonneg (by omega), w64 (by omega) (by omega)]) hp)
end VD
theorem FnExactValidDisk (l : List Int) (p : List S112) (g0 : l.length ≤ maxLen ∧ ∀ y ∈ l, (Lit.int .u8 y).wf = true) (g1 : p.length ≤ maxLen ∧ ∀ y ∈ p, (Lit.int .i64 y.f0).wf = true ∧ (y.f1.length ≤ maxLen ∧ ∀ z ∈ y.f1, (Lit.int .u8 z).wf = true)) : ∃ k, laws_FnExactValidDisk.f k l p = some true := by
  obtain ⟨z, hz, hz2⟩ := VD.szD l p g0.1 g1
  refine Ev.rounds (Ev.congr (fun k => by unfold laws_FnExactValidDisk.f; rfl) ?_)
  refine hz.bind ?_
  by_cases c : z < 0
  · exact Ev.congr (fun k => if_pos c) (Ev.now true)
  refine Ev.congr (fun k => if_neg c) ?_
  obtain ⟨hl, hf⟩ := hz2.resolve_left c
  have t := VD.toD l p hl hf
  have fm := VD.fit_map p hf
  refine t.bind ?_
  refine (VD.spec_ev l (p.map VD.toH) hl fm.1).bind ?_
  refine t.bind ?_
  refine (VD.impl_ev l (p.map VD.toH) hl fm.1).bind ?_
  refine Ev.congr (fun k => if_neg (by simp)) ?_
  refine t.bind ?_
  refine (VD.eqD l (p.map VD.toH) hl fm).bind ?_
  exact Ev.congr (fun k => if_pos rfl) (Ev.now true)
end Go.Proofs.Ytdhjhadcadcceaa.Pure
