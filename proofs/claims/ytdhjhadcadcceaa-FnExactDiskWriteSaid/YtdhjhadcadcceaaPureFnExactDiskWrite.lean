/- FnExactDiskWrite: at every disk, block and data the program's DiskWrite answers as the reference's, writes into nothing and its answer is its own. -/
import Derived.Test.YtdhjhadcadcceaaPFnExactDiskWritex
import Derived.Test.YtdhjhadcadcceaaHlp2
import Derived.Test.YtdhjhadcadcceaaHlp3
namespace Go.Proofs.Ytdhjhadcadcceaa.Pure
open Go.RowKit Go.Proofs.Ytdhjhadcadcceaa.PFnExactDiskWrite Go.Proofs.YtdhjhadcadcceaaW.PrintWords Go.Proofs.YtdhjhadcadcceaaW.PrintLast Go.Proofs.YtdhjhadcadcceaaW.PrintMore Go.Proofs.Ytdhjhadcadcceaa.Hlp
namespace DK
theorem rd112 (l : List S112) (i : Nat) (h : i < l.length) : rd_T112 l (i : Int) = l[i] := by simp [rd_T112, h]
theorem rd62 (l : List S62) (i : Nat) (h : i < l.length) : rd_T62 l (i : Int) = l[i] := by simp [rd_T62, h]
def toH (e : S112) : S62 := ⟨e.f0, e.f1⟩
def goodH (l : List S112) : Prop := l.length ≤ maxLen ∧ ∀ y ∈ l, (Lit.int .i64 y.f0).wf = true ∧ (y.f1.length ≤ maxLen ∧ ∀ z ∈ y.f1, (Lit.int .u8 z).wf = true)
def goodI (l : List Int) : Prop := l.length ≤ maxLen ∧ ∀ y ∈ l, (Lit.int .i64 y).wf = true
/-- Lengths within the budget. -/
def fitH (l : List S112) : Prop := l.length ≤ 1048576 ∧ ∀ y ∈ l, y.f1.length ≤ 1048576
theorem mem_sum (l : List S112) (y : S112) (h : y ∈ l) : y.f1.length ≤ (l.map (fun e => e.f1.length)).sum := by
  induction l with
  | nil => cases h
  | cons a r ih =>
    rw [List.map_cons, List.sum_cons]
    rcases List.mem_cons.1 h with rfl | h
    · omega
    · have := ih h; omega
theorem szHS (l : List S112) (b : Int) (h0 : 0 ≤ b) (hb : b ≤ 1048576) (hl : goodH l) : ∃ r, Ev (fun k => laws_szWriteS.f k l b) r ∧ (r < 0 ∨ (0 ≤ r ∧ r ≤ b ∧ fitH l ∧ l.length + r ≤ b)) := by
  have hm : maxLen ≤ 9223372036854775807 := by decide
  obtain ⟨hl, hg⟩ := hl
  by_cases c : (wrap64 (b - (l.length : Int))) < 0
  · exact ⟨-1, Ev.congr (fun k => by unfold laws_szWriteS.f; rw [if_pos c]) (Ev.now _), Or.inl (by decide)⟩
  · rw [w64 (by omega) (by omega)] at c
    have hl6 : l.length ≤ 1048576 := by omega
    obtain ⟨r, h, hr⟩ := szG_ev (fun e : S112 => e.f1.length) (L := laws_szWriteS.l0) l (by
      intro i s hi h0 hs
      have hy := (hg l[i] (List.getElem_mem _)).2.1
      have hw : wrap64 ((i : Int) + 1) = ((i + 1 : Nat) : Int) := by rw [w64 (by omega) (by omega)]; rfl
      by_cases d : (l[i].f1.length : Int) ≤ s
      · refine Or.inr ⟨d, fun r h => Ev.step (fun k => ?_) h⟩
        simp only [laws_szWriteS.l0, laws_szWrite.f, laws_szByteS.f]
        rw [if_pos (by omega), if_pos (by omega), rd112 l i hi, w64 (x := s - _) (by omega) (by omega), if_neg (by omega), Option.bind_some, if_neg (by omega), Option.bind_some, if_neg (by omega), hw]
      · refine Or.inl ⟨-1, by decide, Ev.step (f := fun _ => some (-1)) (fun k => ?_) (Ev.now _)⟩
        simp only [laws_szWriteS.l0, laws_szWrite.f, laws_szByteS.f]
        rw [if_pos (by omega), if_pos (by omega), rd112 l i hi, w64 (x := s - _) (by omega) (by omega), if_pos (by omega), Option.bind_some, if_pos (by omega), Option.bind_some, if_pos (by omega)])
      (fun s => Ev.step (f := fun _ => some s) (fun k => by simp only [laws_szWriteS.l0]; rw [if_neg (by omega)]) (Ev.now _)) (b - (l.length : Int)) (by omega) (by omega)
    refine ⟨r, Ev.congr (fun k => by unfold laws_szWriteS.f; rw [w64 (by omega) (by omega), if_neg (by omega)]) h, ?_⟩
    rcases hr with h | ⟨h1, h2⟩
    · exact Or.inl h
    · refine Or.inr ⟨h1, by omega, ⟨hl6, fun y hy => ?_⟩, by omega⟩
      have := mem_sum l y hy; omega
theorem toWrite_ev (a : Int) (d : List Int) (hd : d.length ≤ 1048576) : Ev (fun k => laws_toWrite.f k a d) (a, d) := by
  refine Ev.congr (fun k => by unfold laws_toWrite.f; rfl) ?_
  refine (toS_ev (F := laws_toByteS.f) (fun _ _ => rfl) (fun _ _ _ _ => rfl) d (by omega) (by omega)).bind ?_
  exact Ev.now _
theorem toHS (l : List S112) (hf : fitH l) : Ev (fun k => laws_toWriteS.f k l) (l.map toH) := by
  obtain ⟨hl, hg⟩ := hf
  refine Ev.congr (f := fun k => laws_toWriteS.l0 k l (List.replicate l.length z62) 0) (fun k => by unfold laws_toWriteS.f; rw [if_pos (by omega), if_pos (by simp; omega)]; simp) ?_
  refine fill_ev (L := fun k x i => laws_toWriteS.l0 k l x i) l toH ?_ ?_ _ (by simp)
  · intro i x hi hx r h
    refine Ev.step (f := fun k => (laws_toWrite.f k l[i].f0 l[i].f1).bind fun t => laws_toWriteS.l0 k l (x.set i (⟨t.1, t.2⟩ : S62)) ((i + 1 : Nat) : Int)) (fun k => ?_) ?_
    · simp only [laws_toWriteS.l0]
      rw [if_pos (by omega), if_pos (by omega), w64 (by omega) (by omega), rd112 l i hi, Int.toNat_natCast]
      congr 1
      funext t
      rw [if_pos (by omega)]; rfl
    · exact (toWrite_ev _ _ (hg _ (List.getElem_mem _))).bind h
  · intro x hx
    exact Ev.step (f := fun _ => some x) (fun k => by simp only [laws_toWriteS.l0]; rw [if_neg (by omega)]) (Ev.now _)
theorem eqWrite_ev (a : Int) (d : List Int) (hd : d.length ≤ 1048576) : Ev (fun k => laws_eqWrite.f k a d a d) true := by
  refine Ev.congr (fun k => by unfold laws_eqWrite.f; rw [if_pos rfl]) ?_
  refine (eqS_ev (F := laws_eqByteS.f) (fun _ _ _ => rfl) (fun _ _ _ _ => rfl) d (by omega)).bind ?_
  exact Ev.congr (fun k => if_pos rfl) (Ev.now true)
theorem eqHS (l : List S62) (hl : l.length ≤ 1048576) (hg : ∀ y ∈ l, y.f1.length ≤ 1048576) : Ev (fun k => laws_eqWriteS.f k l l) true := by
  refine Ev.congr (f := fun k => laws_eqWriteS.l0 k l l 0) (fun k => by unfold laws_eqWriteS.f; rw [if_pos rfl]) ?_
  refine eqG_ev (L := laws_eqWriteS.l0) l ?_ ?_
  · intro i hi h
    refine Ev.step (f := fun k => (laws_eqWrite.f k l[i].f0 l[i].f1 l[i].f0 l[i].f1).bind fun t => if t = true then laws_eqWriteS.l0 k l l ((i + 1 : Nat) : Int) else some false) (fun k => ?_) ?_
    · simp only [laws_eqWriteS.l0]
      rw [if_pos (by omega), if_pos (by omega), if_pos (by omega), rd62 l i hi, w64 (by omega) (by omega)]
      rfl
    · refine (eqWrite_ev _ _ (hg _ (List.getElem_mem _))).bind ?_
      exact Ev.congr (fun k => if_pos rfl) h
  · exact Ev.step (f := fun _ => some true) (fun k => by simp only [laws_eqWriteS.l0]; rw [if_neg (by omega)]) (Ev.now _)
theorem fit_map (l : List S112) (hf : fitH l) : (l.map toH).length ≤ 1048576 ∧ ∀ y ∈ l.map toH, y.f1.length ≤ 1048576 := by
  refine ⟨by simpa using hf.1, fun y hy => ?_⟩
  obtain ⟨z, hz, rfl⟩ := List.mem_map.1 hy
  exact hf.2 z hz
theorem szD (l : List Int) (p : List S112) (hl : l.length ≤ maxLen) (hp : goodH p) : ∃ r, Ev (fun k => laws_szDisk.f k l p 1048576) r ∧ (r < 0 ∨ (l.length ≤ 1048576 ∧ fitH p)) := by
  have hm : maxLen ≤ 9223372036854775807 := by decide
  by_cases c : (wrap64 (1048576 - (l.length : Int))) < 0
  · exact ⟨-1, Ev.congr (fun k => by unfold laws_szDisk.f laws_szByteS.f; rw [if_pos c, Option.bind_some, if_pos (by decide)]) (Ev.now _), Or.inl (by decide)⟩
  · have c' := c
    rw [w64 (by omega) (by omega)] at c
    obtain ⟨r, h, hr⟩ := szHS p (1048576 - (l.length : Int)) (by omega) (by omega) hp
    refine ⟨if r < 0 then -1 else r, Ev.congr (fun k => by unfold laws_szDisk.f laws_szByteS.f; rw [w64 (by omega) (by omega), if_neg c, Option.bind_some, if_neg c]) (h.bind ?_), ?_⟩
    · by_cases d : r < 0
      · simp only [if_pos d]; exact Ev.now _
      · simp only [if_neg d]; exact Ev.now _
    · by_cases d : r < 0
      · rw [if_pos d]; exact Or.inl (by decide)
      · obtain ⟨_, _, e, _⟩ := hr.resolve_left d
        exact Or.inr ⟨by omega, e⟩
theorem toD (l : List Int) (p : List S112) (hl : l.length ≤ 1048576) (hp : fitH p) : Ev (fun k => laws_toDisk.f k l p) (l, p.map toH) := by
  refine Ev.congr (fun k => by unfold laws_toDisk.f; rfl) ?_
  refine (toS_ev (F := laws_toByteS.f) (fun _ _ => rfl) (fun _ _ _ _ => rfl) l (by omega) (by omega)).bind ?_
  refine (toHS p hp).bind ?_
  exact Ev.now _
theorem eqD (l : List Int) (p : List S62) (hl : l.length ≤ 1048576) (hp : p.length ≤ 1048576 ∧ ∀ y ∈ p, y.f1.length ≤ 1048576) : Ev (fun k => laws_eqDisk.f k l p l p) true := by
  refine Ev.congr (fun k => by unfold laws_eqDisk.f; rfl) ?_
  refine (eqS_ev (F := laws_eqByteS.f) (fun _ _ _ => rfl) (fun _ _ _ _ => rfl) l (by omega)).bind ?_
  refine Ev.congr (fun k => if_pos rfl) ?_
  refine (eqHS p hp.1 hp.2).bind ?_
  exact Ev.congr (fun k => if_pos rfl) (Ev.now true)
def okW (b : Int) (w : S62) : Bool := decide (0 ≤ w.f0 ∧ w.f0 < b ∧ w.f1.length = 64)
def validD (l : List Int) (p : List S62) : Bool := decide (l.length % 64 = 0 ∧ 1 ≤ l.length ∧ l.length ≤ 131072 ∧ p.length ≤ 600) && p.all (okW ((l.length : Int) / 64))
theorem spec_loop (l : List Int) (p : List S62) (b : Int) (hp : p.length ≤ 1048576) : Ev (fun k => spec_ValidDisk.l0 k b 0 l p) (p.all (okW b)) := by
  have := down (P := fun i => Ev (fun k => spec_ValidDisk.l0 k b (i : Int) l p) ((p.drop i).all (okW b))) p.length ?_ ?_
  · simpa using this
  · rw [List.drop_length]
    exact Ev.step (f := fun _ => some true) (fun k => by simp only [spec_ValidDisk.l0]; rw [if_neg (by omega)]) (Ev.now _)
  · intro i hi h
    have hw : wrap64 ((i : Int) + 1) = ((i + 1 : Nat) : Int) := by rw [w64 (by omega) (by omega)]; rfl
    rw [List.drop_eq_getElem_cons hi, List.all_cons]
    by_cases c : 0 ≤ p[i].f0 ∧ p[i].f0 < b ∧ p[i].f1.length = 64
    · rw [show okW b p[i] = true by unfold okW; exact decide_eq_true c, Bool.true_and]
      exact Ev.step (fun k => by simp only [spec_ValidDisk.l0]; rw [if_pos (by omega), if_pos (by omega), rd62 p i hi, if_neg (by omega), if_neg (by omega), if_pos (by omega), hw]) h
    · rw [show okW b p[i] = false by unfold okW; exact decide_eq_false c, Bool.false_and]
      refine Ev.step (f := fun _ => some false) (fun k => ?_) (Ev.now _)
      simp only [spec_ValidDisk.l0]
      rw [if_pos (by omega), if_pos (by omega), rd62 p i hi]
      by_cases c1 : p[i].f0 < 0
      · rw [if_pos c1]
      · by_cases c2 : p[i].f0 ≥ b
        · rw [if_neg c1, if_pos c2]
        · rw [if_neg c1, if_neg c2, if_neg (by omega)]
theorem impl_loop (p : List S62) (n b : Int) (hb : wrap64 (Int.tdiv n 64) = b) (hp : p.length ≤ 1048576) : Ev (fun k => impl_ValidDisk.l0 k n p (p.length : Int) 0) (p.all (okW b)) := by
  have := down (P := fun i => Ev (fun k => impl_ValidDisk.l0 k n p (p.length : Int) (i : Int)) ((p.drop i).all (okW b))) p.length ?_ ?_
  · simpa using this
  · rw [List.drop_length]
    exact Ev.step (f := fun _ => some true) (fun k => by simp only [impl_ValidDisk.l0]; rw [if_neg (by omega)]) (Ev.now _)
  · intro i hi h
    have hw : wrap64 ((i : Int) + 1) = ((i + 1 : Nat) : Int) := by rw [w64 (by omega) (by omega)]; rfl
    rw [List.drop_eq_getElem_cons hi, List.all_cons]
    by_cases c : 0 ≤ p[i].f0 ∧ p[i].f0 < b ∧ p[i].f1.length = 64
    · rw [show okW b p[i] = true by unfold okW; exact decide_eq_true c, Bool.true_and]
      exact Ev.step (fun k => by simp only [impl_ValidDisk.l0]; rw [if_pos (by omega), if_pos (by omega), if_pos (by omega), rd62 p i hi, hb, if_neg (by omega), if_neg (by omega), if_pos (by omega), hw]) h
    · rw [show okW b p[i] = false by unfold okW; exact decide_eq_false c, Bool.false_and]
      refine Ev.step (f := fun _ => some false) (fun k => ?_) (Ev.now _)
      simp only [impl_ValidDisk.l0]
      rw [if_pos (by omega), if_pos (by omega), if_pos (by omega), rd62 p i hi, hb]
      by_cases c1 : p[i].f0 < 0
      · rw [if_pos c1]
      · by_cases c2 : p[i].f0 ≥ b
        · rw [if_neg c1, if_pos c2]
        · rw [if_neg c1, if_neg c2, if_neg (by omega)]
theorem spec_ev (l : List Int) (p : List S62) (hl : l.length ≤ 1048576) (hp : p.length ≤ 1048576) : Ev (fun k => spec_ValidDisk.f k l p) (validD l p) := by
  have hw : wrap64 ((l.length : Int) / 64) = (l.length : Int) / 64 := w64 (by omega) (by omega)
  have jt : Ev (fun k => spec_ValidDisk.j0 k ((l.length : Int) / 64) true l p) false := Ev.step (f := fun _ => some false) (fun k => by simp only [spec_ValidDisk.j0]; rw [if_pos trivial]) (Ev.now _)
  have no : ¬ (l.length % 64 = 0 ∧ 1 ≤ l.length ∧ l.length ≤ 131072 ∧ p.length ≤ 600) → validD l p = false := fun h => by unfold validD; rw [decide_eq_false h, Bool.false_and]
  by_cases c1 : ((l.length : Int) % 64) = 0
  rotate_left
  · rw [no (by omega)]
    exact Ev.congr (fun k => by unfold spec_ValidDisk.f spec_l1Blocks.f; rw [Option.bind_some, if_neg c1, hw]) jt
  by_cases c2 : (l.length : Int) / 64 < 1
  · rw [no (by omega)]
    exact Ev.congr (fun k => by unfold spec_ValidDisk.f spec_l1Blocks.f; rw [Option.bind_some, if_pos c1, hw, if_pos c2]) jt
  by_cases c3 : (l.length : Int) / 64 > 2048
  · rw [no (by omega)]
    exact Ev.congr (fun k => by unfold spec_ValidDisk.f spec_l1Blocks.f; rw [Option.bind_some, if_pos c1, hw, if_neg c2, if_pos c3]) jt
  by_cases c4 : (p.length : Int) > 600
  · rw [no (by omega)]
    exact Ev.congr (fun k => by unfold spec_ValidDisk.f spec_l1Blocks.f; rw [Option.bind_some, if_pos c1, hw, if_neg c2, if_neg c3, decide_eq_true c4]) jt
  rw [show validD l p = p.all (okW ((l.length : Int) / 64)) by unfold validD; rw [decide_eq_true (by omega), Bool.true_and]]
  refine Ev.congr (fun k => by unfold spec_ValidDisk.f spec_l1Blocks.f; rw [Option.bind_some, if_pos c1, hw, if_neg c2, if_neg c3, decide_eq_false c4]) ?_
  exact Ev.step (fun k => by simp only [spec_ValidDisk.j0]; rw [if_neg (by decide)]) (spec_loop l p _ hp)
theorem impl_ev (l : List Int) (p : List S62) (hl : l.length ≤ 1048576) (hp : p.length ≤ 1048576) : Ev (fun k => impl_ValidDisk.f k l p) (validD l p) := by
  have jt : Ev (fun k => impl_ValidDisk.j0 k (l.length : Int) true l p) false := Ev.step (f := fun _ => some false) (fun k => by simp only [impl_ValidDisk.j0]; rw [if_pos trivial]) (Ev.now _)
  have no : ¬ (l.length % 64 = 0 ∧ 1 ≤ l.length ∧ l.length ≤ 131072 ∧ p.length ≤ 600) → validD l p = false := fun h => by unfold validD; rw [decide_eq_false h, Bool.false_and]
  by_cases c1 : ((l.length : Int) % 64) = 0
  rotate_left
  · rw [no (by omega)]
    exact Ev.congr (fun k => by unfold impl_ValidDisk.f; rw [if_neg c1]) jt
  by_cases c2 : (l.length : Int) = 0
  · rw [no (by omega)]
    exact Ev.congr (fun k => by unfold impl_ValidDisk.f; rw [if_pos c1, if_pos c2]) jt
  by_cases c3 : (l.length : Int) > 131072
  · rw [no (by omega)]
    exact Ev.congr (fun k => by unfold impl_ValidDisk.f; rw [if_pos c1, if_neg c2, if_pos c3]) jt
  by_cases c4 : (p.length : Int) > 600
  · rw [no (by omega)]
    exact Ev.congr (fun k => by unfold impl_ValidDisk.f; rw [if_pos c1, if_neg c2, if_neg c3, decide_eq_true c4]) jt
  rw [show validD l p = p.all (okW ((l.length : Int) / 64)) by unfold validD; rw [decide_eq_true (by omega), Bool.true_and]]
  refine Ev.congr (fun k => by unfold impl_ValidDisk.f; rw [if_pos c1, if_neg c2, if_neg c3, decide_eq_false c4]) ?_
  exact Ev.step (fun k => by simp only [impl_ValidDisk.j0]; rw [if_neg (by decide)]) (impl_loop p _ _ (by rw [Int.tdiv_eq_ediv_of_nonneg (by omega), w64 (by omega) (by omega)]) hp)
/-- A pending write takes one number, and one for each of its bytes. -/
def wW (b : S62) : Nat := 1 + b.f1.length
def mkW (b : S62) (s : Int) : S62 := ⟨s, marks (fun x => x % 256) (s + 1) b.f1.length⟩
theorem tot_le (l : List S62) (h : ∀ y ∈ l, y.f1.length ≤ 1048576) : tot wW l ≤ 1048577 * l.length := by
  induction l with
  | nil => simp [tot]
  | cons b r ih =>
    have h1 := h b (List.mem_cons_self ..)
    have h2 := ih (fun y hy => h y (List.mem_cons_of_mem _ hy))
    simp only [tot, wW, List.length_cons, Nat.mul_succ] at h2 ⊢
    omega
theorem markWS (l : List S62) (s : Int) (h0 : 0 ≤ s) (hl : l.length ≤ 1048576) (hb : s + (tot wW l : Nat) ≤ 4611686018427387904) : Ev (fun k => laws_markWriteS.f k l s) (s + (tot wW l : Nat), marksW mkW wW s l) := by
  refine markW_ev mkW wW (L := laws_markWriteS.l0) 4611686018427387904 ?_ ?_ l s h0 (by omega) hb
  · intro i x s h hx h0 hB r hr
    simp only [wW] at hB hr
    have hw : wrap64 ((i : Int) + 1) = ((i + 1 : Nat) : Int) := by rw [w64 (by omega) (by omega)]; rfl
    have hm : Ev (fun k => laws_markByteS.f k x[i].f1 (s + 1)) _ := mark_ev (fun x => x % 256) (L := laws_markByteS.l0) (fun _ _ _ _ => rfl) x[i].f1 (s + 1) (by omega) (by omega)
    refine Ev.step (f := fun k => (laws_markByteS.f k x[i].f1 (s + 1)).bind fun t => laws_markWriteS.l0 k (x.set i (⟨s, t.2⟩ : S62)) t.1 ((i + 1 : Nat) : Int)) (fun k => ?_) (hm.bind ?_)
    · simp only [laws_markWriteS.l0]
      rw [if_pos (by omega), if_pos (by omega), rd62 x i h, w64 (x := s + 1) (by omega) (by omega), hw, Int.toNat_natCast]
    · rw [show s + 1 + (x[i].f1.length : Int) = s + ((1 + x[i].f1.length : Nat) : Int) by omega]
      exact hr
  · intro x s
    exact Ev.step (f := fun _ => some (s, x)) (fun k => by simp only [laws_markWriteS.l0]; rw [if_neg (by omega)]) (Ev.now _)
theorem heldWS (l : List S62) (s : Int) (h0 : 0 ≤ s) (hl : l.length ≤ 1048576) (hb : s + (tot wW l : Nat) ≤ 4611686018427387904) : Ev (fun k => laws_heldWriteS.f k (marksW mkW wW s l) s) (s + (tot wW l : Nat)) := by
  refine heldW_ev mkW wW (L := laws_heldWriteS.l0) 4611686018427387904 ?_ ?_ l s h0 (by omega) hb
  · intro i x s b h hxb hx h0 hB r hr
    simp only [wW] at hB hr
    have hw : wrap64 ((i : Int) + 1) = ((i + 1 : Nat) : Int) := by rw [w64 (by omega) (by omega)]; rfl
    have hm : Ev (fun k => laws_heldByteS.f k (marks (fun x => x % 256) (s + 1) b.f1.length) (s + 1)) _ := held_ev (fun x => x % 256) (L := laws_heldByteS.l0) (fun _ _ _ _ => rfl) b.f1.length (s + 1) (by omega) (by omega)
    refine Ev.step (f := fun k => (laws_heldByteS.f k (marks (fun x => x % 256) (s + 1) b.f1.length) (s + 1)).bind fun t => if t < 0 then some (-1) else laws_heldWriteS.l0 k x t ((i + 1 : Nat) : Int)) (fun k => ?_) (hm.bind ?_)
    · simp only [laws_heldWriteS.l0]
      rw [if_pos (by omega), if_pos (by omega), rd62 x i h, hxb, if_pos (show (mkW b s).f0 = s from rfl), w64 (x := s + 1) (by omega) (by omega), hw]
      rfl
    · rw [show s + 1 + (b.f1.length : Int) = s + ((1 + b.f1.length : Nat) : Int) by omega]
      exact Ev.congr (fun k => if_neg (by omega)) hr
  · intro x s
    exact Ev.step (f := fun _ => some s) (fun k => by simp only [laws_heldWriteS.l0]; rw [if_neg (by omega)]) (Ev.now _)
/-- A whole disk. -/
theorem markD (l : List Int) (p : List S62) (hl : l.length ≤ 1048576) (hp : p.length ≤ 1048576 ∧ ∀ y ∈ p, y.f1.length ≤ 1048576) : ∃ n : Int, ∃ l' p', 0 ≤ n ∧ n ≤ 4398046511104 ∧ l'.length = l.length ∧ p'.length = p.length ∧ Ev (fun k => laws_markDisk.f k l p 1) (n, l', p') ∧ Ev (fun k => laws_heldDisk.f k l' p' 1) n := by
  have ht := tot_le p hp.2
  have hm : Ev (fun k => laws_markByteS.f k l 1) _ := mark_ev (fun x => x % 256) (L := laws_markByteS.l0) (fun _ _ _ _ => rfl) l 1 (by omega) (by omega)
  have hh : Ev (fun k => laws_heldByteS.f k (marks (fun x => x % 256) 1 l.length) 1) _ := held_ev (fun x => x % 256) (L := laws_heldByteS.l0) (fun _ _ _ _ => rfl) l.length 1 (by omega) (by omega)
  refine ⟨1 + (l.length : Int) + (tot wW p : Nat), _, _, by omega, by omega, marks_len (fun x => x % 256) l.length 1, marksW_len mkW wW p (1 + (l.length : Int)), ?_, ?_⟩
  · refine Ev.congr (fun k => by unfold laws_markDisk.f; rfl) (hm.bind ?_)
    refine (markWS p (1 + (l.length : Int)) (by omega) hp.1 (by omega)).bind ?_
    exact Ev.now _
  · refine Ev.congr (fun k => by unfold laws_heldDisk.f; rfl) (hh.bind ?_)
    refine Ev.congr (fun k => if_neg (by omega)) ?_
    refine (heldWS p (1 + (l.length : Int)) (by omega) hp.1 (by omega)).bind ?_
    exact Ev.congr (fun k => if_neg (by omega)) (Ev.now _)
theorem cp_is (l : List Int) (h : l.length ≤ 1048576) : spec_l1Copy.f l = some l ∧ impl_cp.f l = some l := by
  constructor
  · unfold spec_l1Copy.f; rw [Option.bind_some, if_pos (by simp only [List.length_nil]; omega), List.nil_append]
  · unfold impl_cp.f; rw [Option.bind_some, if_pos (by simp only [List.length_nil]; omega), List.nil_append]
theorem copy_s (l : List Int) (p : List S62) (hl : l.length ≤ 1048576) (hp : p.length ≤ 1048576 ∧ ∀ y ∈ p, y.f1.length ≤ 1048576) : Ev (fun k => spec_l1CopyDisk.f k l p) (l, p) := by
  refine Ev.congr (f := fun k => spec_l1CopyDisk.l0 k 0 l p l []) (fun k => by unfold spec_l1CopyDisk.f; rw [(cp_is l hl).1, Option.bind_some]) ?_
  have := down (P := fun i => Ev (fun k => spec_l1CopyDisk.l0 k (i : Int) l p l (p.take i)) (l, p)) p.length ?_ ?_
  · simpa using this
  · exact Ev.step (f := fun _ => some (l, p)) (fun k => by simp only [spec_l1CopyDisk.l0]; rw [if_neg (by omega), List.take_length]) (Ev.now _)
  · intro i hi h
    have hw : wrap64 ((i : Int) + 1) = ((i + 1 : Nat) : Int) := by rw [w64 (by omega) (by omega)]; rfl
    rw [List.take_succ_eq_append_getElem hi] at h
    exact Ev.step (fun k => by simp only [spec_l1CopyDisk.l0]; rw [if_pos (by omega), if_pos (by omega), rd62 p i hi, (cp_is _ (hp.2 _ (List.getElem_mem hi))).1, Option.bind_some, if_pos (by rw [List.length_take]; omega), hw]) h
theorem copy_i (l : List Int) (p : List S62) (hl : l.length ≤ 1048576) (hp : p.length ≤ 1048576 ∧ ∀ y ∈ p, y.f1.length ≤ 1048576) : Ev (fun k => impl_twin.f k l p) (l, p) := by
  refine Ev.congr (f := fun k => impl_twin.l0 k p (p.length : Int) 0 l []) (fun k => by unfold impl_twin.f; rw [(cp_is l hl).2, Option.bind_some]) ?_
  have := down (P := fun i => Ev (fun k => impl_twin.l0 k p (p.length : Int) (i : Int) l (p.take i)) (l, p)) p.length ?_ ?_
  · simpa using this
  · exact Ev.step (f := fun _ => some (l, p)) (fun k => by simp only [impl_twin.l0]; rw [if_neg (by omega), List.take_length]) (Ev.now _)
  · intro i hi h
    have hw : wrap64 ((i : Int) + 1) = ((i + 1 : Nat) : Int) := by rw [w64 (by omega) (by omega)]; rfl
    rw [List.take_succ_eq_append_getElem hi] at h
    exact Ev.step (fun k => by simp only [impl_twin.l0]; rw [if_pos (by omega), if_pos (by omega), if_pos (by omega), rd62 p i hi, (cp_is _ (hp.2 _ (List.getElem_mem hi))).2, Option.bind_some, if_pos (by rw [List.length_take]; omega), hw]) h
theorem write_ev (l : List Int) (p : List S62) (a : Int) (d : List Int) (hl : l.length ≤ 1048576) (hp : p.length ≤ 1048576 ∧ ∀ y ∈ p, y.f1.length ≤ 1048576) (hd : d.length ≤ 1048576) :
    ∃ r q, Ev (fun k => spec_DiskWrite.f k l p a d) (r, q) ∧ Ev (fun k => impl_DiskWrite.f k l p a d) (r, q) ∧ r.length ≤ 1048576 ∧ (q.length ≤ 1048576 ∧ ∀ y ∈ q, y.f1.length ≤ 1048576) := by
  have sv := spec_ev l p hl hp.1
  have iv := impl_ev l p hl hp.1
  have hw : wrap64 ((l.length : Int) / 64) = (l.length : Int) / 64 := w64 (by omega) (by omega)
  have no : ([] : List Int).length ≤ 1048576 ∧ (([] : List S62).length ≤ 1048576 ∧ ∀ y ∈ ([] : List S62), y.f1.length ≤ 1048576) := ⟨by simp, by simp, fun y hy => absurd hy (by simp)⟩
  have ts : Ev (fun k => spec_DiskWrite.j0 k a d true l p) ([], []) := Ev.step (f := fun _ => some ([], [])) (fun k => by simp only [spec_DiskWrite.j0]; rw [if_pos trivial]) (Ev.now _)
  have ti : Ev (fun k => impl_DiskWrite.j0 k a d true l p) ([], []) := Ev.step (f := fun _ => some ([], [])) (fun k => by simp only [impl_DiskWrite.j0]; rw [if_pos trivial]) (Ev.now _)
  by_cases cv : validD l p = true
  rotate_left
  · exact ⟨[], [], Ev.congr (fun k => by unfold spec_DiskWrite.f; rfl) (sv.bind (Ev.congr (fun k => if_neg cv) ts)), Ev.congr (fun k => by unfold impl_DiskWrite.f; rfl) (iv.bind (Ev.congr (fun k => if_neg cv) ti)), no⟩
  have hpv : p.length ≤ 600 := by
    unfold validD at cv
    rw [Bool.and_eq_true] at cv
    have := of_decide_eq_true cv.1
    omega
  by_cases c0 : p.length = 600
  · exact ⟨[], [], Ev.congr (fun k => by unfold spec_DiskWrite.f; rfl) (sv.bind (Ev.congr (fun k => by rw [if_pos cv, if_pos (by omega)]) ts)), Ev.congr (fun k => by unfold impl_DiskWrite.f; rfl) (iv.bind (Ev.congr (fun k => by rw [if_pos cv, if_pos (by omega)]) ti)), no⟩
  by_cases c1 : a < 0
  · exact ⟨[], [], Ev.congr (fun k => by unfold spec_DiskWrite.f; rfl) (sv.bind (Ev.congr (fun k => by rw [if_pos cv, if_neg (by omega), if_pos c1]) ts)), Ev.congr (fun k => by unfold impl_DiskWrite.f; rfl) (iv.bind (Ev.congr (fun k => by rw [if_pos cv, if_neg (by omega), if_pos c1]) ti)), no⟩
  by_cases c2 : a ≥ (l.length : Int) / 64
  · exact ⟨[], [], Ev.congr (fun k => by unfold spec_DiskWrite.f; rfl) (sv.bind (Ev.congr (fun k => by unfold spec_l1Blocks.f; rw [if_pos cv, if_neg (by omega), if_neg c1, Option.bind_some, hw, if_pos c2]) ts)), Ev.congr (fun k => by unfold impl_DiskWrite.f; rfl) (iv.bind (Ev.congr (fun k => by unfold impl_nb.f; rw [if_pos cv, if_neg (by omega), if_neg c1, Option.bind_some, hw, if_pos c2]) ti)), no⟩
  by_cases c3 : (d.length : Int) = 64
  rotate_left
  · have cb : ((d.length : Int) != 64) = true := bne_iff_ne.mpr c3
    exact ⟨[], [], Ev.congr (fun k => by unfold spec_DiskWrite.f; rfl) (sv.bind (Ev.congr (fun k => by unfold spec_l1Blocks.f; rw [if_pos cv, if_neg (by omega), if_neg c1, Option.bind_some, hw, if_neg c2, cb]) ts)), Ev.congr (fun k => by unfold impl_DiskWrite.f; rfl) (iv.bind (Ev.congr (fun k => by unfold impl_nb.f; rw [if_pos cv, if_neg (by omega), if_neg c1, Option.bind_some, hw, if_neg c2, cb]) ti)), no⟩
  have cb : ((d.length : Int) != 64) = false := bne_eq_false_iff_eq.mpr c3
  refine ⟨l, p ++ [⟨a, d⟩], Ev.congr (fun k => by unfold spec_DiskWrite.f; rfl) (sv.bind (Ev.congr (fun k => by unfold spec_l1Blocks.f; rw [if_pos cv, if_neg (by omega), if_neg c1, Option.bind_some, hw, if_neg c2, cb]) ?_)), Ev.congr (fun k => by unfold impl_DiskWrite.f; rfl) (iv.bind (Ev.congr (fun k => by unfold impl_nb.f; rw [if_pos cv, if_neg (by omega), if_neg c1, Option.bind_some, hw, if_neg c2, cb]) ?_)), hl, by rw [List.length_append, List.length_singleton]; omega, fun y hy => ?_⟩
  · refine Ev.step (fun k => by simp only [spec_DiskWrite.j0]; rw [if_neg (by simp)]) ?_
    refine (copy_s l p hl hp).bind ?_
    exact Ev.congr (fun k => by rw [(cp_is d hd).1, Option.bind_some, if_pos (by show p.length < _; omega)]) (Ev.now _)
  · refine Ev.step (fun k => by simp only [impl_DiskWrite.j0]; rw [if_neg (by simp)]) ?_
    refine (copy_i l p hl hp).bind ?_
    exact Ev.congr (fun k => by rw [(cp_is d hd).2, Option.bind_some, if_pos (by show p.length < _; omega)]) (Ev.now _)
  · rcases List.mem_append.1 hy with h | h
    · exact hp.2 y h
    · rw [List.mem_singleton] at h; subst h; exact hd
theorem eqB (r : List Int) (h : r.length ≤ 1048576) : Ev (fun k => laws_eqByteS.f k r r) true := eqS_ev (F := laws_eqByteS.f) (fun _ _ _ => rfl) (fun _ _ _ _ => rfl) r (by omega)
theorem toB (r : List Int) (h : r.length ≤ 1048576) : Ev (fun k => laws_toByteS.f k r) r := toS_ev (F := laws_toByteS.f) (fun _ _ => rfl) (fun _ _ _ _ => rfl) r (by omega) (by omega)
theorem markBs (r : List Int) (s : Int) (h : r.length ≤ 1048576) (h0 : 0 ≤ s) (h1 : s ≤ 4398046511104) : ∃ n : Int, ∃ r', 0 ≤ n ∧ Ev (fun k => laws_markByteS.f k r s) (n, r') :=
  ⟨s + (r.length : Int), marks (fun x => x % 256) s r.length, by omega, mark_ev (fun x => x % 256) (L := laws_markByteS.l0) (fun _ _ _ _ => rfl) r s (by omega) (by omega)⟩
end DK
theorem FnExactDiskWrite (l : List Int) (p : List S112) (a : Int) (d : List Int) (g0 : l.length ≤ maxLen ∧ ∀ y ∈ l, (Lit.int .u8 y).wf = true) (g1 : p.length ≤ maxLen ∧ ∀ y ∈ p, (Lit.int .i64 y.f0).wf = true ∧ (y.f1.length ≤ maxLen ∧ ∀ z ∈ y.f1, (Lit.int .u8 z).wf = true)) (_ : (Lit.int .i64 a).wf = true) (_ : d.length ≤ maxLen ∧ ∀ y ∈ d, (Lit.int .u8 y).wf = true) : ∃ k, laws_FnExactDiskWrite.f k l p a d = some true := by
  by_cases hd : (d.length : Int) > 1048576
  · exact Ev.rounds (Ev.congr (fun k => by unfold laws_FnExactDiskWrite.f; rw [if_pos hd]) (Ev.now true))
  have hd' : d.length ≤ 1048576 := by omega
  obtain ⟨z, hz, hz2⟩ := DK.szD l p g0.1 g1
  refine Ev.rounds (Ev.congr (fun k => by unfold laws_FnExactDiskWrite.f; rw [if_neg hd]) ?_)
  refine hz.bind ?_
  by_cases c : z < 0
  · exact Ev.congr (fun k => if_pos c) (Ev.now true)
  refine Ev.congr (fun k => if_neg c) ?_
  obtain ⟨hl, hf⟩ := hz2.resolve_left c
  have t := DK.toD l p hl hf
  have tb := DK.toB d hd'
  have fm := DK.fit_map p hf
  obtain ⟨r, q, r1, r2, r3, r4⟩ := DK.write_ev l (p.map DK.toH) a d hl fm hd'
  have eg := DK.eqD r q r3 r4
  have ed := DK.eqD l (p.map DK.toH) hl fm
  have eb := DK.eqB d hd'
  obtain ⟨n, l', p', hn, hn2, _, _, hm, _⟩ := DK.markD l (p.map DK.toH) hl fm
  obtain ⟨m, d', hm0, mb⟩ := DK.markBs d n hd' hn hn2
  obtain ⟨v, r', q', hv, _, _, _, gm, gh⟩ := DK.markD r q r3 r4
  refine t.bind (tb.bind (r1.bind (t.bind (tb.bind (r2.bind (eg.bind (Ev.congr (fun k => if_pos rfl) ?_)))))))
  refine t.bind (ed.bind (Ev.congr (fun k => if_pos rfl) ?_))
  refine tb.bind (eb.bind (Ev.congr (fun k => if_pos rfl) ?_))
  refine hm.bind (mb.bind (Ev.congr (fun k => if_neg (by omega)) ?_))
  refine eg.bind (Ev.congr (fun k => if_pos rfl) ?_)
  refine gm.bind (gh.bind (Ev.congr (fun k => if_neg (by omega)) (Ev.congr (fun k => if_pos rfl) ?_)))
  refine t.bind (tb.bind (r2.bind (eg.bind (Ev.congr (fun k => if_pos rfl) ?_))))
  exact gh.bind (Ev.congr (fun k => if_neg (by omega)) (Ev.congr (fun k => if_pos rfl) (Ev.now _)))
end Go.Proofs.Ytdhjhadcadcceaa.Pure
