/- FnExactDiskCrash: at every disk and every choice of the writes that were kept the program's DiskCrash answers as the reference's, writes into nothing and its answer is its own. -/
import Derived.Test.YtdhjhadcadcceaaPFnExactDiskCrashx
import Derived.Test.YtdhjhadcadcceaaHlp2
import Derived.Test.YtdhjhadcadcceaaHlp3
namespace Go.Proofs.Ytdhjhadcadcceaa.Pure
open Go.RowKit Go.Proofs.Ytdhjhadcadcceaa.PFnExactDiskCrash Go.Proofs.YtdhjhadcadcceaaW.PrintWords Go.Proofs.YtdhjhadcadcceaaW.PrintLast Go.Proofs.YtdhjhadcadcceaaW.PrintMore Go.Proofs.Ytdhjhadcadcceaa.Hlp
set_option linter.unusedVariables false
namespace DK
theorem rd112 (l : List S112) (i : Nat) (h : i < l.length) : rd_T112 l (i : Int) = l[i] := by simp [rd_T112, h]
theorem rd62 (l : List S62) (i : Nat) (h : i < l.length) : rd_T62 l (i : Int) = l[i] := by simp [rd_T62, h]
def toH (e : S112) : S62 := ⟨e.f0, e.f1⟩
def goodH (l : List S112) : Prop := l.length ≤ maxLen ∧ ∀ y ∈ l, (Lit.int .i64 y.f0).wf = true ∧ (y.f1.length ≤ maxLen ∧ ∀ z ∈ y.f1, (Lit.int .u8 z).wf = true)
def goodI (l : List Int) : Prop := l.length ≤ maxLen ∧ ∀ y ∈ l, (Lit.int .i64 y).wf = true
/-- Lengths within the budget. -/
def fitH (l : List S112) : Prop := l.length ≤ 1048576 ∧ ∀ y ∈ l, y.f1.length ≤ 1048576
theorem mem_sum (l : List S112) (y : S112) (h : y ∈ l) : y.f1.length ≤ (l.map (fun e => e.f1.length)).sum := by
  induction l with
  | nil => cases h
  | cons a r ih =>
    rw [List.map_cons, List.sum_cons]
    rcases List.mem_cons.1 h with rfl | h
    · omega
    · have := ih h; omega
theorem szHS (l : List S112) (b : Int) (h0 : 0 ≤ b) (hb : b ≤ 1048576) (hl : goodH l) : ∃ r, Ev (fun k => laws_szWriteS.f k l b) r ∧ (r < 0 ∨ (0 ≤ r ∧ r ≤ b ∧ fitH l ∧ l.length + r ≤ b)) := by
  have hm : maxLen ≤ 9223372036854775807 := by decide
  obtain ⟨hl, hg⟩ := hl
  by_cases c : (wrap64 (b - (l.length : Int))) < 0
  · exact ⟨-1, Ev.congr (fun k => by unfold laws_szWriteS.f; rw [if_pos c]) (Ev.now _), Or.inl (by decide)⟩
  · rw [w64 (by omega) (by omega)] at c
    have hl6 : l.length ≤ 1048576 := by omega
    obtain ⟨r, h, hr⟩ := szG_ev (fun e : S112 => e.f1.length) (L := laws_szWriteS.l0) l (by
      intro i s hi h0 hs
      have hy := (hg l[i] (List.getElem_mem _)).2.1
      have hw : wrap64 ((i : Int) + 1) = ((i + 1 : Nat) : Int) := by rw [w64 (by omega) (by omega)]; rfl
      by_cases d : (l[i].f1.length : Int) ≤ s
      · refine Or.inr ⟨d, fun r h => Ev.step (fun k => ?_) h⟩
        simp only [laws_szWriteS.l0, laws_szWrite.f, laws_szByteS.f]
        rw [if_pos (by omega), if_pos (by omega), rd112 l i hi, w64 (x := s - _) (by omega) (by omega), if_neg (by omega), Option.bind_some, if_neg (by omega), Option.bind_some, if_neg (by omega), hw]
      · refine Or.inl ⟨-1, by decide, Ev.step (f := fun _ => some (-1)) (fun k => ?_) (Ev.now _)⟩
        simp only [laws_szWriteS.l0, laws_szWrite.f, laws_szByteS.f]
        rw [if_pos (by omega), if_pos (by omega), rd112 l i hi, w64 (x := s - _) (by omega) (by omega), if_pos (by omega), Option.bind_some, if_pos (by omega), Option.bind_some, if_pos (by omega)])
      (fun s => Ev.step (f := fun _ => some s) (fun k => by simp only [laws_szWriteS.l0]; rw [if_neg (by omega)]) (Ev.now _)) (b - (l.length : Int)) (by omega) (by omega)
    refine ⟨r, Ev.congr (fun k => by unfold laws_szWriteS.f; rw [w64 (by omega) (by omega), if_neg (by omega)]) h, ?_⟩
    rcases hr with h | ⟨h1, h2⟩
    · exact Or.inl h
    · refine Or.inr ⟨h1, by omega, ⟨hl6, fun y hy => ?_⟩, by omega⟩
      have := mem_sum l y hy; omega
theorem toWrite_ev (a : Int) (d : List Int) (hd : d.length ≤ 1048576) : Ev (fun k => laws_toWrite.f k a d) (a, d) := by
  refine Ev.congr (fun k => by unfold laws_toWrite.f; rfl) ?_
  refine (toS_ev (F := laws_toByteS.f) (fun _ _ => rfl) (fun _ _ _ _ => rfl) d (by omega) (by omega)).bind ?_
  exact Ev.now _
theorem toHS (l : List S112) (hf : fitH l) : Ev (fun k => laws_toWriteS.f k l) (l.map toH) := by
  obtain ⟨hl, hg⟩ := hf
  refine Ev.congr (f := fun k => laws_toWriteS.l0 k l (List.replicate l.length z62) 0) (fun k => by unfold laws_toWriteS.f; rw [if_pos (by omega), if_pos (by simp; omega)]; simp) ?_
  refine fill_ev (L := fun k x i => laws_toWriteS.l0 k l x i) l toH ?_ ?_ _ (by simp)
  · intro i x hi hx r h
    refine Ev.step (f := fun k => (laws_toWrite.f k l[i].f0 l[i].f1).bind fun t => laws_toWriteS.l0 k l (x.set i (⟨t.1, t.2⟩ : S62)) ((i + 1 : Nat) : Int)) (fun k => ?_) ?_
    · simp only [laws_toWriteS.l0]
      rw [if_pos (by omega), if_pos (by omega), w64 (by omega) (by omega), rd112 l i hi, Int.toNat_natCast]
      congr 1
      funext t
      rw [if_pos (by omega)]; rfl
    · exact (toWrite_ev _ _ (hg _ (List.getElem_mem _))).bind h
  · intro x hx
    exact Ev.step (f := fun _ => some x) (fun k => by simp only [laws_toWriteS.l0]; rw [if_neg (by omega)]) (Ev.now _)
theorem eqWrite_ev (a : Int) (d : List Int) (hd : d.length ≤ 1048576) : Ev (fun k => laws_eqWrite.f k a d a d) true := by
  refine Ev.congr (fun k => by unfold laws_eqWrite.f; rw [if_pos rfl]) ?_
  refine (eqS_ev (F := laws_eqByteS.f) (fun _ _ _ => rfl) (fun _ _ _ _ => rfl) d (by omega)).bind ?_
  exact Ev.congr (fun k => if_pos rfl) (Ev.now true)
theorem eqHS (l : List S62) (hl : l.length ≤ 1048576) (hg : ∀ y ∈ l, y.f1.length ≤ 1048576) : Ev (fun k => laws_eqWriteS.f k l l) true := by
  refine Ev.congr (f := fun k => laws_eqWriteS.l0 k l l 0) (fun k => by unfold laws_eqWriteS.f; rw [if_pos rfl]) ?_
  refine eqG_ev (L := laws_eqWriteS.l0) l ?_ ?_
  · intro i hi h
    refine Ev.step (f := fun k => (laws_eqWrite.f k l[i].f0 l[i].f1 l[i].f0 l[i].f1).bind fun t => if t = true then laws_eqWriteS.l0 k l l ((i + 1 : Nat) : Int) else some false) (fun k => ?_) ?_
    · simp only [laws_eqWriteS.l0]
      rw [if_pos (by omega), if_pos (by omega), if_pos (by omega), rd62 l i hi, w64 (by omega) (by omega)]
      rfl
    · refine (eqWrite_ev _ _ (hg _ (List.getElem_mem _))).bind ?_
      exact Ev.congr (fun k => if_pos rfl) h
  · exact Ev.step (f := fun _ => some true) (fun k => by simp only [laws_eqWriteS.l0]; rw [if_neg (by omega)]) (Ev.now _)
theorem fit_map (l : List S112) (hf : fitH l) : (l.map toH).length ≤ 1048576 ∧ ∀ y ∈ l.map toH, y.f1.length ≤ 1048576 := by
  refine ⟨by simpa using hf.1, fun y hy => ?_⟩
  obtain ⟨z, hz, rfl⟩ := List.mem_map.1 hy
  exact hf.2 z hz
theorem szD (l : List Int) (p : List S112) (hl : l.length ≤ maxLen) (hp : goodH p) : ∃ r, Ev (fun k => laws_szDisk.f k l p 1048576) r ∧ (r < 0 ∨ (l.length ≤ 1048576 ∧ fitH p)) := by
  have hm : maxLen ≤ 9223372036854775807 := by decide
  by_cases c : (wrap64 (1048576 - (l.length : Int))) < 0
  · exact ⟨-1, Ev.congr (fun k => by unfold laws_szDisk.f laws_szByteS.f; rw [if_pos c, Option.bind_some, if_pos (by decide)]) (Ev.now _), Or.inl (by decide)⟩
  · have c' := c
    rw [w64 (by omega) (by omega)] at c
    obtain ⟨r, h, hr⟩ := szHS p (1048576 - (l.length : Int)) (by omega) (by omega) hp
    refine ⟨if r < 0 then -1 else r, Ev.congr (fun k => by unfold laws_szDisk.f laws_szByteS.f; rw [w64 (by omega) (by omega), if_neg c, Option.bind_some, if_neg c]) (h.bind ?_), ?_⟩
    · by_cases d : r < 0
      · simp only [if_pos d]; exact Ev.now _
      · simp only [if_neg d]; exact Ev.now _
    · by_cases d : r < 0
      · rw [if_pos d]; exact Or.inl (by decide)
      · obtain ⟨_, _, e, _⟩ := hr.resolve_left d
        exact Or.inr ⟨by omega, e⟩
theorem toD (l : List Int) (p : List S112) (hl : l.length ≤ 1048576) (hp : fitH p) : Ev (fun k => laws_toDisk.f k l p) (l, p.map toH) := by
  refine Ev.congr (fun k => by unfold laws_toDisk.f; rfl) ?_
  refine (toS_ev (F := laws_toByteS.f) (fun _ _ => rfl) (fun _ _ _ _ => rfl) l (by omega) (by omega)).bind ?_
  refine (toHS p hp).bind ?_
  exact Ev.now _
theorem eqD (l : List Int) (p : List S62) (hl : l.length ≤ 1048576) (hp : p.length ≤ 1048576 ∧ ∀ y ∈ p, y.f1.length ≤ 1048576) : Ev (fun k => laws_eqDisk.f k l p l p) true := by
  refine Ev.congr (fun k => by unfold laws_eqDisk.f; rfl) ?_
  refine (eqS_ev (F := laws_eqByteS.f) (fun _ _ _ => rfl) (fun _ _ _ _ => rfl) l (by omega)).bind ?_
  refine Ev.congr (fun k => if_pos rfl) ?_
  refine (eqHS p hp.1 hp.2).bind ?_
  exact Ev.congr (fun k => if_pos rfl) (Ev.now true)
def okW (b : Int) (w : S62) : Bool := decide (0 ≤ w.f0 ∧ w.f0 < b ∧ w.f1.length = 64)
def validD (l : List Int) (p : List S62) : Bool := decide (l.length % 64 = 0 ∧ 1 ≤ l.length ∧ l.length ≤ 131072 ∧ p.length ≤ 600) && p.all (okW ((l.length : Int) / 64))
theorem spec_loop (l : List Int) (p : List S62) (b : Int) (hp : p.length ≤ 1048576) : Ev (fun k => spec_ValidDisk.l0 k b 0 l p) (p.all (okW b)) := by
  have := down (P := fun i => Ev (fun k => spec_ValidDisk.l0 k b (i : Int) l p) ((p.drop i).all (okW b))) p.length ?_ ?_
  · simpa using this
  · rw [List.drop_length]
    exact Ev.step (f := fun _ => some true) (fun k => by simp only [spec_ValidDisk.l0]; rw [if_neg (by omega)]) (Ev.now _)
  · intro i hi h
    have hw : wrap64 ((i : Int) + 1) = ((i + 1 : Nat) : Int) := by rw [w64 (by omega) (by omega)]; rfl
    rw [List.drop_eq_getElem_cons hi, List.all_cons]
    by_cases c : 0 ≤ p[i].f0 ∧ p[i].f0 < b ∧ p[i].f1.length = 64
    · rw [show okW b p[i] = true by unfold okW; exact decide_eq_true c, Bool.true_and]
      exact Ev.step (fun k => by simp only [spec_ValidDisk.l0]; rw [if_pos (by omega), if_pos (by omega), rd62 p i hi, if_neg (by omega), if_neg (by omega), if_pos (by omega), hw]) h
    · rw [show okW b p[i] = false by unfold okW; exact decide_eq_false c, Bool.false_and]
      refine Ev.step (f := fun _ => some false) (fun k => ?_) (Ev.now _)
      simp only [spec_ValidDisk.l0]
      rw [if_pos (by omega), if_pos (by omega), rd62 p i hi]
      by_cases c1 : p[i].f0 < 0
      · rw [if_pos c1]
      · by_cases c2 : p[i].f0 ≥ b
        · rw [if_neg c1, if_pos c2]
        · rw [if_neg c1, if_neg c2, if_neg (by omega)]
theorem impl_loop (p : List S62) (n b : Int) (hb : wrap64 (Int.tdiv n 64) = b) (hp : p.length ≤ 1048576) : Ev (fun k => impl_ValidDisk.l0 k n p (p.length : Int) 0) (p.all (okW b)) := by
  have := down (P := fun i => Ev (fun k => impl_ValidDisk.l0 k n p (p.length : Int) (i : Int)) ((p.drop i).all (okW b))) p.length ?_ ?_
  · simpa using this
  · rw [List.drop_length]
    exact Ev.step (f := fun _ => some true) (fun k => by simp only [impl_ValidDisk.l0]; rw [if_neg (by omega)]) (Ev.now _)
  · intro i hi h
    have hw : wrap64 ((i : Int) + 1) = ((i + 1 : Nat) : Int) := by rw [w64 (by omega) (by omega)]; rfl
    rw [List.drop_eq_getElem_cons hi, List.all_cons]
    by_cases c : 0 ≤ p[i].f0 ∧ p[i].f0 < b ∧ p[i].f1.length = 64
    · rw [show okW b p[i] = true by unfold okW; exact decide_eq_true c, Bool.true_and]
      exact Ev.step (fun k => by simp only [impl_ValidDisk.l0]; rw [if_pos (by omega), if_pos (by omega), if_pos (by omega), rd62 p i hi, hb, if_neg (by omega), if_neg (by omega), if_pos (by omega), hw]) h
    · rw [show okW b p[i] = false by unfold okW; exact decide_eq_false c, Bool.false_and]
      refine Ev.step (f := fun _ => some false) (fun k => ?_) (Ev.now _)
      simp only [impl_ValidDisk.l0]
      rw [if_pos (by omega), if_pos (by omega), if_pos (by omega), rd62 p i hi, hb]
      by_cases c1 : p[i].f0 < 0
      · rw [if_pos c1]
      · by_cases c2 : p[i].f0 ≥ b
        · rw [if_neg c1, if_pos c2]
        · rw [if_neg c1, if_neg c2, if_neg (by omega)]
theorem spec_ev (l : List Int) (p : List S62) (hl : l.length ≤ 1048576) (hp : p.length ≤ 1048576) : Ev (fun k => spec_ValidDisk.f k l p) (validD l p) := by
  have hw : wrap64 ((l.length : Int) / 64) = (l.length : Int) / 64 := w64 (by omega) (by omega)
  have jt : Ev (fun k => spec_ValidDisk.j0 k ((l.length : Int) / 64) true l p) false := Ev.step (f := fun _ => some false) (fun k => by simp only [spec_ValidDisk.j0]; rw [if_pos trivial]) (Ev.now _)
  have no : ¬ (l.length % 64 = 0 ∧ 1 ≤ l.length ∧ l.length ≤ 131072 ∧ p.length ≤ 600) → validD l p = false := fun h => by unfold validD; rw [decide_eq_false h, Bool.false_and]
  by_cases c1 : ((l.length : Int) % 64) = 0
  rotate_left
  · rw [no (by omega)]
    exact Ev.congr (fun k => by unfold spec_ValidDisk.f spec_l1Blocks.f; rw [Option.bind_some, if_neg c1, hw]) jt
  by_cases c2 : (l.length : Int) / 64 < 1
  · rw [no (by omega)]
    exact Ev.congr (fun k => by unfold spec_ValidDisk.f spec_l1Blocks.f; rw [Option.bind_some, if_pos c1, hw, if_pos c2]) jt
  by_cases c3 : (l.length : Int) / 64 > 2048
  · rw [no (by omega)]
    exact Ev.congr (fun k => by unfold spec_ValidDisk.f spec_l1Blocks.f; rw [Option.bind_some, if_pos c1, hw, if_neg c2, if_pos c3]) jt
  by_cases c4 : (p.length : Int) > 600
  · rw [no (by omega)]
    exact Ev.congr (fun k => by unfold spec_ValidDisk.f spec_l1Blocks.f; rw [Option.bind_some, if_pos c1, hw, if_neg c2, if_neg c3, decide_eq_true c4]) jt
  rw [show validD l p = p.all (okW ((l.length : Int) / 64)) by unfold validD; rw [decide_eq_true (by omega), Bool.true_and]]
  refine Ev.congr (fun k => by unfold spec_ValidDisk.f spec_l1Blocks.f; rw [Option.bind_some, if_pos c1, hw, if_neg c2, if_neg c3, decide_eq_false c4]) ?_
  exact Ev.step (fun k => by simp only [spec_ValidDisk.j0]; rw [if_neg (by decide)]) (spec_loop l p _ hp)
theorem impl_ev (l : List Int) (p : List S62) (hl : l.length ≤ 1048576) (hp : p.length ≤ 1048576) : Ev (fun k => impl_ValidDisk.f k l p) (validD l p) := by
  have jt : Ev (fun k => impl_ValidDisk.j0 k (l.length : Int) true l p) false := Ev.step (f := fun _ => some false) (fun k => by simp only [impl_ValidDisk.j0]; rw [if_pos trivial]) (Ev.now _)
  have no : ¬ (l.length % 64 = 0 ∧ 1 ≤ l.length ∧ l.length ≤ 131072 ∧ p.length ≤ 600) → validD l p = false := fun h => by unfold validD; rw [decide_eq_false h, Bool.false_and]
  by_cases c1 : ((l.length : Int) % 64) = 0
  rotate_left
  · rw [no (by omega)]
    exact Ev.congr (fun k => by unfold impl_ValidDisk.f; rw [if_neg c1]) jt
  by_cases c2 : (l.length : Int) = 0
  · rw [no (by omega)]
    exact Ev.congr (fun k => by unfold impl_ValidDisk.f; rw [if_pos c1, if_pos c2]) jt
  by_cases c3 : (l.length : Int) > 131072
  · rw [no (by omega)]
    exact Ev.congr (fun k => by unfold impl_ValidDisk.f; rw [if_pos c1, if_neg c2, if_pos c3]) jt
  by_cases c4 : (p.length : Int) > 600
  · rw [no (by omega)]
    exact Ev.congr (fun k => by unfold impl_ValidDisk.f; rw [if_pos c1, if_neg c2, if_neg c3, decide_eq_true c4]) jt
  rw [show validD l p = p.all (okW ((l.length : Int) / 64)) by unfold validD; rw [decide_eq_true (by omega), Bool.true_and]]
  refine Ev.congr (fun k => by unfold impl_ValidDisk.f; rw [if_pos c1, if_neg c2, if_neg c3, decide_eq_false c4]) ?_
  exact Ev.step (fun k => by simp only [impl_ValidDisk.j0]; rw [if_neg (by decide)]) (impl_loop p _ _ (by rw [Int.tdiv_eq_ediv_of_nonneg (by omega), w64 (by omega) (by omega)]) hp)
/-- A pending write takes one number, and one for each of its bytes. -/
def wW (b : S62) : Nat := 1 + b.f1.length
def mkW (b : S62) (s : Int) : S62 := ⟨s, marks (fun x => x % 256) (s + 1) b.f1.length⟩
theorem tot_le (l : List S62) (h : ∀ y ∈ l, y.f1.length ≤ 1048576) : tot wW l ≤ 1048577 * l.length := by
  induction l with
  | nil => simp [tot]
  | cons b r ih =>
    have h1 := h b (List.mem_cons_self ..)
    have h2 := ih (fun y hy => h y (List.mem_cons_of_mem _ hy))
    simp only [tot, wW, List.length_cons, Nat.mul_succ] at h2 ⊢
    omega
theorem markWS (l : List S62) (s : Int) (h0 : 0 ≤ s) (hl : l.length ≤ 1048576) (hb : s + (tot wW l : Nat) ≤ 4611686018427387904) : Ev (fun k => laws_markWriteS.f k l s) (s + (tot wW l : Nat), marksW mkW wW s l) := by
  refine markW_ev mkW wW (L := laws_markWriteS.l0) 4611686018427387904 ?_ ?_ l s h0 (by omega) hb
  · intro i x s h hx h0 hB r hr
    simp only [wW] at hB hr
    have hw : wrap64 ((i : Int) + 1) = ((i + 1 : Nat) : Int) := by rw [w64 (by omega) (by omega)]; rfl
    have hm : Ev (fun k => laws_markByteS.f k x[i].f1 (s + 1)) _ := mark_ev (fun x => x % 256) (L := laws_markByteS.l0) (fun _ _ _ _ => rfl) x[i].f1 (s + 1) (by omega) (by omega)
    refine Ev.step (f := fun k => (laws_markByteS.f k x[i].f1 (s + 1)).bind fun t => laws_markWriteS.l0 k (x.set i (⟨s, t.2⟩ : S62)) t.1 ((i + 1 : Nat) : Int)) (fun k => ?_) (hm.bind ?_)
    · simp only [laws_markWriteS.l0]
      rw [if_pos (by omega), if_pos (by omega), rd62 x i h, w64 (x := s + 1) (by omega) (by omega), hw, Int.toNat_natCast]
    · rw [show s + 1 + (x[i].f1.length : Int) = s + ((1 + x[i].f1.length : Nat) : Int) by omega]
      exact hr
  · intro x s
    exact Ev.step (f := fun _ => some (s, x)) (fun k => by simp only [laws_markWriteS.l0]; rw [if_neg (by omega)]) (Ev.now _)
theorem heldWS (l : List S62) (s : Int) (h0 : 0 ≤ s) (hl : l.length ≤ 1048576) (hb : s + (tot wW l : Nat) ≤ 4611686018427387904) : Ev (fun k => laws_heldWriteS.f k (marksW mkW wW s l) s) (s + (tot wW l : Nat)) := by
  refine heldW_ev mkW wW (L := laws_heldWriteS.l0) 4611686018427387904 ?_ ?_ l s h0 (by omega) hb
  · intro i x s b h hxb hx h0 hB r hr
    simp only [wW] at hB hr
    have hw : wrap64 ((i : Int) + 1) = ((i + 1 : Nat) : Int) := by rw [w64 (by omega) (by omega)]; rfl
    have hm : Ev (fun k => laws_heldByteS.f k (marks (fun x => x % 256) (s + 1) b.f1.length) (s + 1)) _ := held_ev (fun x => x % 256) (L := laws_heldByteS.l0) (fun _ _ _ _ => rfl) b.f1.length (s + 1) (by omega) (by omega)
    refine Ev.step (f := fun k => (laws_heldByteS.f k (marks (fun x => x % 256) (s + 1) b.f1.length) (s + 1)).bind fun t => if t < 0 then some (-1) else laws_heldWriteS.l0 k x t ((i + 1 : Nat) : Int)) (fun k => ?_) (hm.bind ?_)
    · simp only [laws_heldWriteS.l0]
      rw [if_pos (by omega), if_pos (by omega), rd62 x i h, hxb, if_pos (show (mkW b s).f0 = s from rfl), w64 (x := s + 1) (by omega) (by omega), hw]
      rfl
    · rw [show s + 1 + (b.f1.length : Int) = s + ((1 + b.f1.length : Nat) : Int) by omega]
      exact Ev.congr (fun k => if_neg (by omega)) hr
  · intro x s
    exact Ev.step (f := fun _ => some s) (fun k => by simp only [laws_heldWriteS.l0]; rw [if_neg (by omega)]) (Ev.now _)
/-- A whole disk. -/
theorem markD (l : List Int) (p : List S62) (hl : l.length ≤ 1048576) (hp : p.length ≤ 1048576 ∧ ∀ y ∈ p, y.f1.length ≤ 1048576) : ∃ n : Int, ∃ l' p', 0 ≤ n ∧ n ≤ 4398046511104 ∧ l'.length = l.length ∧ p'.length = p.length ∧ Ev (fun k => laws_markDisk.f k l p 1) (n, l', p') ∧ Ev (fun k => laws_heldDisk.f k l' p' 1) n := by
  have ht := tot_le p hp.2
  have hm : Ev (fun k => laws_markByteS.f k l 1) _ := mark_ev (fun x => x % 256) (L := laws_markByteS.l0) (fun _ _ _ _ => rfl) l 1 (by omega) (by omega)
  have hh : Ev (fun k => laws_heldByteS.f k (marks (fun x => x % 256) 1 l.length) 1) _ := held_ev (fun x => x % 256) (L := laws_heldByteS.l0) (fun _ _ _ _ => rfl) l.length 1 (by omega) (by omega)
  refine ⟨1 + (l.length : Int) + (tot wW p : Nat), _, _, by omega, by omega, marks_len (fun x => x % 256) l.length 1, marksW_len mkW wW p (1 + (l.length : Int)), ?_, ?_⟩
  · refine Ev.congr (fun k => by unfold laws_markDisk.f; rfl) (hm.bind ?_)
    refine (markWS p (1 + (l.length : Int)) (by omega) hp.1 (by omega)).bind ?_
    exact Ev.now _
  · refine Ev.congr (fun k => by unfold laws_heldDisk.f; rfl) (hh.bind ?_)
    refine Ev.congr (fun k => if_neg (by omega)) ?_
    refine (heldWS p (1 + (l.length : Int)) (by omega) hp.1 (by omega)).bind ?_
    exact Ev.congr (fun k => if_neg (by omega)) (Ev.now _)
theorem cp_is (l : List Int) (h : l.length ≤ 1048576) : spec_l1Copy.f l = some l ∧ impl_cp.f l = some l := by
  constructor
  · unfold spec_l1Copy.f; rw [Option.bind_some, if_pos (by simp only [List.length_nil]; omega), List.nil_append]
  · unfold impl_cp.f; rw [Option.bind_some, if_pos (by simp only [List.length_nil]; omega), List.nil_append]
theorem splice_set (x d : List Int) (o i : Nat) (hi : i < d.length) (ho : o + d.length ≤ x.length) : (splice x o (d.take i)).set (o + i) d[i] = splice x o (d.take (i + 1)) := by
  have h1 : (d.take i).length = i := by rw [List.length_take]; omega
  have h2 : (d.take (i + 1)).length = i + 1 := by rw [List.length_take]; omega
  have h3 : (x.take o).length = o := by rw [List.length_take]; omega
  unfold splice
  rw [h1, h2, List.set_append_right _ _ (by omega), h3, List.set_append_right _ _ (by omega), h1, show o + i - o - i = 0 by omega, List.drop_eq_getElem_cons (show o + i < x.length by omega), List.set_cons_zero, List.take_succ_eq_append_getElem hi, List.append_assoc]
  rfl
/-- The write of one block is laid over the bytes. -/
theorem put_ev (x d : List Int) (b : Nat) (hx : x.length ≤ 131072) (hd : d.length = 64) (hb : b * 64 + 64 ≤ x.length) : Ev (fun k => spec_l1Put.f k x (b : Int) d) (splice x (b * 64) d) := by
  have e1 : wrap64 ((b : Int) * 64) = ((b * 64 : Nat) : Int) := by rw [w64 (by omega) (by omega)]; omega
  have key : ∀ y : List Int, y = splice x (b * 64) (d.take 0) → Ev (fun k => spec_l1Put.l0 k y (b : Int) d ((0 : Nat) : Int)) (splice x (b * 64) d) := by
    refine down (P := fun i => ∀ y : List Int, y = splice x (b * 64) (d.take i) → Ev (fun k => spec_l1Put.l0 k y (b : Int) d (i : Int)) (splice x (b * 64) d)) 64 ?_ ?_
    · intro y hy
      rw [List.take_of_length_le (by omega)] at hy
      subst hy
      exact Ev.step (f := fun _ => some (splice x (b * 64) d)) (fun k => by simp only [spec_l1Put.l0]; rw [if_neg (by omega)]) (Ev.now _)
    · intro i hi ih y hy
      have hl : y.length = x.length := by rw [hy, length_splice _ _ _ (by rw [List.length_take]; omega)]
      have e2 : wrap64 (((b * 64 : Nat) : Int) + (i : Int)) = ((b * 64 + i : Nat) : Int) := by rw [w64 (by omega) (by omega)]; omega
      have e3 : wrap64 ((i : Int) + 1) = ((i + 1 : Nat) : Int) := by rw [w64 (by omega) (by omega)]; rfl
      refine Ev.step (f := fun k => spec_l1Put.l0 k (y.set (b * 64 + i) d[i]) (b : Int) d ((i + 1 : Nat) : Int)) (fun k => ?_) (ih _ ?_)
      · simp only [spec_l1Put.l0]
        rw [if_pos (by omega), if_pos (by omega), if_pos (by omega), e1, e2, if_pos (by omega), if_pos (by omega), e3, Int.toNat_natCast, rd_nat d i (by omega)]
      · rw [hy]; exact splice_set x d (b * 64) i (by omega) (by omega)
  have := key x (by simp [splice])
  refine Ev.congr (f := fun k => spec_l1Put.l0 k x (b : Int) d ((0 : Nat) : Int)) (fun k => by unfold spec_l1Put.f; rfl) this
theorem lay_is (k : Nat) (x d : List Int) (b : Nat) (hx : x.length ≤ 131072) (hd : d.length = 64) (hb : b * 64 + 64 ≤ x.length) : impl_lay.f k x (wrap64 ((b : Int) * 64)) d = some (splice x (b * 64) d) := by
  have e1 : wrap64 ((b : Int) * 64) = ((b * 64 : Nat) : Int) := by rw [w64 (by omega) (by omega)]; omega
  unfold impl_lay.f
  rw [e1, if_pos (by omega), Int.toNat_natCast, if_pos (by omega), if_pos (by omega)]
/-- What a valid disk's pending writes are. -/
theorem valid_facts (l : List Int) (p : List S62) (h : validD l p = true) : l.length ≤ 131072 ∧ p.length ≤ 600 ∧ l.length % 64 = 0 ∧ ∀ (i : Nat) (hi : i < p.length), ∃ b : Nat, p[i].f0 = (b : Int) ∧ b * 64 + 64 ≤ l.length ∧ p[i].f1.length = 64 := by
  unfold validD at h
  rw [Bool.and_eq_true] at h
  have h1 := of_decide_eq_true h.1
  refine ⟨by omega, by omega, by omega, fun i hi => ?_⟩
  have h2 := List.all_eq_true.1 h.2 p[i] (List.getElem_mem hi)
  unfold okW at h2
  obtain ⟨a, b, c⟩ := of_decide_eq_true h2
  obtain ⟨n, hn⟩ := Int.eq_ofNat_of_zero_le a
  exact ⟨n, hn, by omega, c⟩
theorem crash_s1 (k : Nat) (v l0 x : List Int) (p : List S62) (i : Int) (h0 : 0 ≤ i) (h1 : i < (v.length : Int)) (h2 : i < (p.length : Int)) : spec_DiskCrash.j2 (k + 1) v i true l0 p x = if (rd v i) = 0 then spec_DiskCrash.l0 k v (wrap64 (i + 1)) l0 p x else (spec_l1Put.f k x ((rd_T62 p i).f0) ((rd_T62 p i).f1)).bind fun t => spec_DiskCrash.l0 k v (wrap64 (i + 1)) l0 p t := by
  rw [spec_DiskCrash.j2, if_pos rfl, if_pos h0, if_pos h1, if_pos h2]
theorem crash_s2 (k : Nat) (v x : List Int) (p : List S62) (i : Int) (h0 : 0 ≤ i) (h1 : i < (v.length : Int)) (h2 : i < (p.length : Int)) : impl_DiskCrash.l0 (k + 1) v p (p.length : Int) i x = if (rd v i) = 0 then impl_DiskCrash.l0 k v p (p.length : Int) (wrap64 (i + 1)) x else (impl_lay.f k x (wrap64 (((rd_T62 p i).f0) * 64)) ((rd_T62 p i).f1)).bind fun t => impl_DiskCrash.l0 k v p (p.length : Int) (wrap64 (i + 1)) t := by
  rw [impl_DiskCrash.l0, if_pos h2, if_pos h0, if_pos h2, if_pos h1]
theorem crash_skip (v : List Int) (p : List S62) (hp : p.length ≤ 600) (x : List Int) : ∀ (d i : Nat), i + d = p.length → v.length ≤ i → Ev (fun k => impl_DiskCrash.l0 k v p (p.length : Int) (i : Int) x) (x, []) := by
  intro d
  induction d with
  | zero => intro i hi _; exact Ev.step (f := fun _ => some (x, [])) (fun k => by simp only [impl_DiskCrash.l0]; rw [if_neg (by omega)]) (Ev.now _)
  | succ d ih =>
    intro i hi hv
    have hw : wrap64 ((i : Int) + 1) = ((i + 1 : Nat) : Int) := by rw [w64 (by omega) (by omega)]; rfl
    exact Ev.step (fun k => by simp only [impl_DiskCrash.l0]; rw [if_pos (by omega), if_pos (by omega), if_pos (by omega), if_neg (by omega), hw]) (ih (i + 1) (by omega) (by omega))
theorem crash_loop (l0 : List Int) (p : List S62) (v : List Int) (hv : validD l0 p = true) (hk : v.length ≤ 600) : ∀ (d i : Nat), i + d = p.length → ∀ (x : List Int), x.length = l0.length →
    ∃ r : List Int, r.length = l0.length ∧ Ev (fun k => spec_DiskCrash.l0 k v (i : Int) l0 p x) (r, []) ∧ Ev (fun k => impl_DiskCrash.l0 k v p (p.length : Int) (i : Int) x) (r, []) := by
  obtain ⟨hl, hp, _, hf⟩ := valid_facts l0 p hv
  clear hv
  have stop : ∀ (x : List Int) (i : Nat), Ev (fun k => spec_DiskCrash.j2 k v (i : Int) false l0 p x) (x, []) := fun x i => Ev.step (f := fun _ => some (x, [])) (fun k => by simp only [spec_DiskCrash.j2]; rw [if_neg (by simp)]) (Ev.now _)
  intro d
  induction d with
  | zero =>
    intro i hi x hx
    exact ⟨x, hx, Ev.step (fun k => by simp only [spec_DiskCrash.l0]; rw [if_neg (by omega)]) (stop x i), Ev.step (f := fun _ => some (x, [])) (fun k => by simp only [impl_DiskCrash.l0]; rw [if_neg (by omega)]) (Ev.now _)⟩
  | succ d ih =>
    intro i hi x hx
    have hip : i < p.length := by omega
    obtain ⟨b, hb1, hb2, hb3⟩ := hf i hip
    have hw : wrap64 ((i : Int) + 1) = ((i + 1 : Nat) : Int) := by rw [w64 (by omega) (by omega)]; rfl
    by_cases c : i < v.length
    rotate_left
    · have e : decide ((i : Int) < (v.length : Int)) = false := decide_eq_false (fun h => c (Int.ofNat_lt.mp h))
      exact ⟨x, hx, Ev.step (fun k => by simp only [spec_DiskCrash.l0]; rw [if_pos (by omega), e]) (stop x i), crash_skip v p hp x (d + 1) i hi (Nat.le_of_not_lt c)⟩
    have e : decide ((i : Int) < (v.length : Int)) = true := decide_eq_true (Int.ofNat_lt.mpr c)
    have s0 : ∀ k, spec_DiskCrash.l0 (k + 1) v (i : Int) l0 p x = spec_DiskCrash.j2 k v (i : Int) true l0 p x := fun k => by simp only [spec_DiskCrash.l0]; rw [if_pos (by omega), e]
    have s1 : ∀ k, spec_DiskCrash.j2 (k + 1) v (i : Int) true l0 p x = if v[i] = 0 then spec_DiskCrash.l0 k v ((i + 1 : Nat) : Int) l0 p x else (spec_l1Put.f k x (b : Int) p[i].f1).bind fun t => spec_DiskCrash.l0 k v ((i + 1 : Nat) : Int) l0 p t := fun k => by
      rw [crash_s1 k v l0 x p (i : Int) (Int.natCast_nonneg _) (Int.ofNat_lt.mpr c) (Int.ofNat_lt.mpr hip), rd_nat v i c, rd62 p i hip, hb1, hw]
    have s2 : ∀ k, impl_DiskCrash.l0 (k + 1) v p (p.length : Int) (i : Int) x = if v[i] = 0 then impl_DiskCrash.l0 k v p (p.length : Int) ((i + 1 : Nat) : Int) x else (impl_lay.f k x (wrap64 ((b : Int) * 64)) p[i].f1).bind fun t => impl_DiskCrash.l0 k v p (p.length : Int) ((i + 1 : Nat) : Int) t := fun k => by
      rw [crash_s2 k v x p (i : Int) (Int.natCast_nonneg _) (Int.ofNat_lt.mpr c) (Int.ofNat_lt.mpr hip), rd_nat v i c, rd62 p i hip, hb1, hw]
    by_cases c2 : v[i] = 0
    · obtain ⟨r, hr, h1, h2⟩ := ih (i + 1) (by omega) x hx
      have q1 : Ev (fun k => spec_DiskCrash.j2 k v (i : Int) true l0 p x) (r, []) := Ev.step (fun k => by rw [s1 k, if_pos c2]) h1
      have q2 : Ev (fun k => spec_DiskCrash.l0 k v (i : Int) l0 p x) (r, []) := Ev.step s0 q1
      have q3 : Ev (fun k => impl_DiskCrash.l0 k v p (p.length : Int) (i : Int) x) (r, []) := Ev.step (fun k => by rw [s2 k, if_pos c2]) h2
      exact ⟨r, hr, q2, q3⟩
    · have hs : (splice x (b * 64) p[i].f1).length = l0.length := by rw [length_splice _ _ _ (by omega)]; exact hx
      obtain ⟨r, hr, h1, h2⟩ := ih (i + 1) (by omega) _ hs
      have hp2 := put_ev x p[i].f1 b (by omega) hb3 (by omega)
      have q0 : Ev (fun k => (spec_l1Put.f k x (b : Int) p[i].f1).bind fun t => spec_DiskCrash.l0 k v ((i + 1 : Nat) : Int) l0 p t) (r, []) := hp2.bind h1
      have q1 : Ev (fun k => spec_DiskCrash.j2 k v (i : Int) true l0 p x) (r, []) := Ev.step (fun k => by rw [s1 k, if_neg c2]) q0
      have q2 : Ev (fun k => spec_DiskCrash.l0 k v (i : Int) l0 p x) (r, []) := Ev.step s0 q1
      have q3 : Ev (fun k => impl_DiskCrash.l0 k v p (p.length : Int) (i : Int) x) (r, []) := Ev.step (fun k => by rw [s2 k, if_neg c2, lay_is k x p[i].f1 b (by omega) hb3 (by omega), Option.bind_some]) h2
      exact ⟨r, hr, q2, q3⟩
theorem crash_ev (l : List Int) (p : List S62) (v : List Int) (hl : l.length ≤ 1048576) (hp : p.length ≤ 1048576) : ∃ r : List Int, r.length ≤ 1048576 ∧ Ev (fun k => spec_DiskCrash.f k l p v) (r, []) ∧ Ev (fun k => impl_DiskCrash.f k l p v) (r, []) := by
  have sv := spec_ev l p hl hp
  have iv := impl_ev l p hl hp
  obtain ⟨c1, c2⟩ := cp_is l hl
  have ts : Ev (fun k => spec_DiskCrash.j0 k v true l p) ([], []) := Ev.step (f := fun _ => some ([], [])) (fun k => by simp only [spec_DiskCrash.j0]; rw [if_pos trivial]) (Ev.now _)
  have ti : Ev (fun k => impl_DiskCrash.j0 k v true l p) ([], []) := Ev.step (f := fun _ => some ([], [])) (fun k => by simp only [impl_DiskCrash.j0]; rw [if_pos trivial]) (Ev.now _)
  by_cases cv : validD l p = true
  rotate_left
  · exact ⟨[], by simp, Ev.congr (fun k => by unfold spec_DiskCrash.f; rfl) (sv.bind (Ev.congr (fun k => if_neg cv) ts)), Ev.congr (fun k => by unfold impl_DiskCrash.f; rfl) (iv.bind (Ev.congr (fun k => if_neg cv) ti))⟩
  by_cases ck : (v.length : Int) > 600
  · have e := decide_eq_true ck
    exact ⟨[], by simp, Ev.congr (fun k => by unfold spec_DiskCrash.f; rfl) (sv.bind (Ev.congr (fun k => by rw [if_pos cv, e]) ts)), Ev.congr (fun k => by unfold impl_DiskCrash.f; rfl) (iv.bind (Ev.congr (fun k => by rw [if_pos cv, e]) ti))⟩
  have e := decide_eq_false ck
  obtain ⟨r, hr, h1, h2⟩ := crash_loop l p v cv (by omega) p.length 0 (by omega) l rfl
  refine ⟨r, by omega, Ev.congr (fun k => by unfold spec_DiskCrash.f; rfl) (sv.bind (Ev.congr (fun k => by rw [if_pos cv, e]) ?_)), Ev.congr (fun k => by unfold impl_DiskCrash.f; rfl) (iv.bind (Ev.congr (fun k => by rw [if_pos cv, e]) ?_))⟩
  · exact Ev.step (fun k => by simp only [spec_DiskCrash.j0]; rw [if_neg (by simp), c1, Option.bind_some]; rfl) h1
  · exact Ev.step (fun k => by simp only [impl_DiskCrash.j0]; rw [if_neg (by simp), c2, Option.bind_some]; rfl) h2
theorem eqI (r : List Int) (h : r.length ≤ 1048576) : Ev (fun k => laws_eqInt64S.f k r r) true := eqS_ev (F := laws_eqInt64S.f) (fun _ _ _ => rfl) (fun _ _ _ _ => rfl) r (by omega)
theorem toI (r : List Int) (h : r.length ≤ 1048576) : Ev (fun k => laws_toInt64S.f k r) r := toS_ev (F := laws_toInt64S.f) (fun _ _ => rfl) (fun _ _ _ _ => rfl) r (by omega) (by omega)
theorem markIs (r : List Int) (s : Int) (h : r.length ≤ 1048576) (h0 : 0 ≤ s) (h1 : s ≤ 4398046511104) : ∃ n : Int, ∃ r', 0 ≤ n ∧ Ev (fun k => laws_markInt64S.f k r s) (n, r') :=
  ⟨s + (r.length : Int), marks (fun x => x) s r.length, by omega, mark_ev (fun x => x) (L := laws_markInt64S.l0) (fun _ _ _ _ => rfl) r s (by omega) (by omega)⟩
end DK
theorem FnExactDiskCrash (l : List Int) (p : List S112) (d : List Int) (g0 : l.length ≤ maxLen ∧ ∀ y ∈ l, (Lit.int .u8 y).wf = true) (g1 : p.length ≤ maxLen ∧ ∀ y ∈ p, (Lit.int .i64 y.f0).wf = true ∧ (y.f1.length ≤ maxLen ∧ ∀ z ∈ y.f1, (Lit.int .u8 z).wf = true)) (_ : d.length ≤ maxLen ∧ ∀ y ∈ d, (Lit.int .i64 y).wf = true) : ∃ k, laws_FnExactDiskCrash.f k l p d = some true := by
  by_cases hd : (d.length : Int) > 1048576
  · exact Ev.rounds (Ev.congr (fun k => by unfold laws_FnExactDiskCrash.f; rw [if_pos hd]) (Ev.now true))
  have hd' : d.length ≤ 1048576 := by omega
  obtain ⟨z, hz, hz2⟩ := DK.szD l p g0.1 g1
  refine Ev.rounds (Ev.congr (fun k => by unfold laws_FnExactDiskCrash.f; rw [if_neg hd]) ?_)
  refine hz.bind ?_
  by_cases c : z < 0
  · exact Ev.congr (fun k => if_pos c) (Ev.now true)
  refine Ev.congr (fun k => if_neg c) ?_
  obtain ⟨hl, hf⟩ := hz2.resolve_left c
  have t := DK.toD l p hl hf
  have tb := DK.toI d hd'
  have fm := DK.fit_map p hf
  obtain ⟨r, r3, r1, r2⟩ := DK.crash_ev l (p.map DK.toH) d hl fm.1
  have r4 : ([] : List S62).length ≤ 1048576 ∧ ∀ y ∈ ([] : List S62), y.f1.length ≤ 1048576 := ⟨by simp, fun y hy => absurd hy (by simp)⟩
  have eg := DK.eqD r [] r3 r4
  have ed := DK.eqD l (p.map DK.toH) hl fm
  have eb := DK.eqI d hd'
  obtain ⟨n, l', p', hn, hn2, _, _, hm, _⟩ := DK.markD l (p.map DK.toH) hl fm
  obtain ⟨m, d', hm0, mb⟩ := DK.markIs d n hd' hn hn2
  obtain ⟨v, r', q', hv, _, _, _, gm, gh⟩ := DK.markD r [] r3 r4
  refine t.bind (tb.bind (r1.bind (t.bind (tb.bind (r2.bind (eg.bind (Ev.congr (fun k => if_pos rfl) ?_)))))))
  refine t.bind (ed.bind (Ev.congr (fun k => if_pos rfl) ?_))
  refine tb.bind (eb.bind (Ev.congr (fun k => if_pos rfl) ?_))
  refine hm.bind (mb.bind (Ev.congr (fun k => if_neg (by omega)) ?_))
  refine eg.bind (Ev.congr (fun k => if_pos rfl) ?_)
  refine gm.bind (gh.bind (Ev.congr (fun k => if_neg (by omega)) (Ev.congr (fun k => if_pos rfl) ?_)))
  refine t.bind (tb.bind (r2.bind (eg.bind (Ev.congr (fun k => if_pos rfl) ?_))))
  exact gh.bind (Ev.congr (fun k => if_neg (by omega)) (Ev.congr (fun k => if_pos rfl) (Ev.now _)))
end Go.Proofs.Ytdhjhadcadcceaa.Pure
