/- FnExactDiskDo: at every disk, row of operations and limit the program's DiskDo answers as the reference's, writes into nothing and its answer is its own. -/
import Derived.Test.YtdhjhadcadcceaaPFnExactDiskDox
import Derived.Test.YtdhjhadcadcceaaVDDHlp2
import Derived.Test.YtdhjhadcadcceaaVDDHlp3
namespace Go.Proofs.Ytdhjhadcadcceaa.Pure
open Go.RowKit Go.Proofs.Ytdhjhadcadcceaa.PFnExactDiskDo Go.Proofs.YtdhjhadcadcceaaW.PrintWords Go.Proofs.YtdhjhadcadcceaaW.PrintLast Go.Proofs.YtdhjhadcadcceaaW.PrintMore Go.Proofs.Ytdhjhadcadcceaa.Hlp
namespace OP
theorem rd100 (l : List S100) (i : Nat) (h : i < l.length) : rd_T100 l (i : Int) = l[i] := by simp [rd_T100, h]
theorem rd93 (l : List S93) (i : Nat) (h : i < l.length) : rd_T93 l (i : Int) = l[i] := by simp [rd_T93, h]
def toH (e : S100) : S93 := ⟨e.f0, e.f1, e.f2⟩
def goodH (l : List S100) : Prop := l.length ≤ maxLen ∧ ∀ y ∈ l, (Lit.int .i64 y.f0).wf = true ∧ (Lit.int .i64 y.f1).wf = true ∧ (y.f2.length ≤ maxLen ∧ ∀ z ∈ y.f2, (Lit.int .u8 z).wf = true)
def goodI (l : List Int) : Prop := l.length ≤ maxLen ∧ ∀ y ∈ l, (Lit.int .i64 y).wf = true
/-- Lengths within the budget. -/
def fitH (l : List S100) : Prop := l.length ≤ 1048576 ∧ ∀ y ∈ l, y.f2.length ≤ 1048576
theorem mem_sum (l : List S100) (y : S100) (h : y ∈ l) : y.f2.length ≤ (l.map (fun e => e.f2.length)).sum := by
  induction l with
  | nil => cases h
  | cons a r ih =>
    rw [List.map_cons, List.sum_cons]
    rcases List.mem_cons.1 h with rfl | h
    · omega
    · have := ih h; omega
theorem szHS (l : List S100) (b : Int) (h0 : 0 ≤ b) (hb : b ≤ 1048576) (hl : goodH l) : ∃ r, Ev (fun k => laws_szOpS.f k l b) r ∧ (r < 0 ∨ (0 ≤ r ∧ r ≤ b ∧ fitH l ∧ l.length + r ≤ b)) := by
  have hm : maxLen ≤ 9223372036854775807 := by decide
  obtain ⟨hl, hg⟩ := hl
  by_cases c : (wrap64 (b - (l.length : Int))) < 0
  · exact ⟨-1, Ev.congr (fun k => by unfold laws_szOpS.f; rw [if_pos c]) (Ev.now _), Or.inl (by decide)⟩
  · rw [w64 (by omega) (by omega)] at c
    have hl6 : l.length ≤ 1048576 := by omega
    obtain ⟨r, h, hr⟩ := szG_ev (fun e : S100 => e.f2.length) (L := laws_szOpS.l0) l (by
      intro i s hi h0 hs
      have hy := (hg l[i] (List.getElem_mem _)).2.2.1
      have hw : wrap64 ((i : Int) + 1) = ((i + 1 : Nat) : Int) := by rw [w64 (by omega) (by omega)]; rfl
      by_cases d : (l[i].f2.length : Int) ≤ s
      · refine Or.inr ⟨d, fun r h => Ev.step (fun k => ?_) h⟩
        simp only [laws_szOpS.l0, laws_szOp.f, laws_szByteS.f]
        rw [if_pos (by omega), if_pos (by omega), rd100 l i hi, w64 (x := s - _) (by omega) (by omega), if_neg (by omega), Option.bind_some, if_neg (by omega), Option.bind_some, if_neg (by omega), hw]
      · refine Or.inl ⟨-1, by decide, Ev.step (f := fun _ => some (-1)) (fun k => ?_) (Ev.now _)⟩
        simp only [laws_szOpS.l0, laws_szOp.f, laws_szByteS.f]
        rw [if_pos (by omega), if_pos (by omega), rd100 l i hi, w64 (x := s - _) (by omega) (by omega), if_pos (by omega), Option.bind_some, if_pos (by omega), Option.bind_some, if_pos (by omega)])
      (fun s => Ev.step (f := fun _ => some s) (fun k => by simp only [laws_szOpS.l0]; rw [if_neg (by omega)]) (Ev.now _)) (b - (l.length : Int)) (by omega) (by omega)
    refine ⟨r, Ev.congr (fun k => by unfold laws_szOpS.f; rw [w64 (by omega) (by omega), if_neg (by omega)]) h, ?_⟩
    rcases hr with h | ⟨h1, h2⟩
    · exact Or.inl h
    · refine Or.inr ⟨h1, by omega, ⟨hl6, fun y hy => ?_⟩, by omega⟩
      have := mem_sum l y hy; omega
theorem toOp_ev (a b : Int) (d : List Int) (hd : d.length ≤ 1048576) : Ev (fun k => laws_toOp.f k a b d) (a, b, d) := by
  refine Ev.congr (fun k => by unfold laws_toOp.f; rfl) ?_
  refine (toS_ev (F := laws_toByteS.f) (fun _ _ => rfl) (fun _ _ _ _ => rfl) d (by omega) (by omega)).bind ?_
  exact Ev.now _
theorem toHS (l : List S100) (hf : fitH l) : Ev (fun k => laws_toOpS.f k l) (l.map toH) := by
  obtain ⟨hl, hg⟩ := hf
  refine Ev.congr (f := fun k => laws_toOpS.l0 k l (List.replicate l.length z93) 0) (fun k => by unfold laws_toOpS.f; rw [if_pos (by omega), if_pos (by simp; omega)]; simp) ?_
  refine fill_ev (L := fun k x i => laws_toOpS.l0 k l x i) l toH ?_ ?_ _ (by simp)
  · intro i x hi hx r h
    refine Ev.step (f := fun k => (laws_toOp.f k l[i].f0 l[i].f1 l[i].f2).bind fun t => laws_toOpS.l0 k l (x.set i (⟨t.1, t.2.1, t.2.2⟩ : S93)) ((i + 1 : Nat) : Int)) (fun k => ?_) ?_
    · simp only [laws_toOpS.l0]
      rw [if_pos (by omega), if_pos (by omega), w64 (by omega) (by omega), rd100 l i hi, Int.toNat_natCast]
      congr 1
      funext t
      rw [if_pos (by omega)]; rfl
    · exact (toOp_ev _ _ _ (hg _ (List.getElem_mem _))).bind h
  · intro x hx
    exact Ev.step (f := fun _ => some x) (fun k => by simp only [laws_toOpS.l0]; rw [if_neg (by omega)]) (Ev.now _)
theorem eqOp_ev (a b : Int) (d : List Int) (hd : d.length ≤ 1048576) : Ev (fun k => laws_eqOp.f k a b d a b d) true := by
  refine Ev.congr (fun k => by unfold laws_eqOp.f; rw [if_pos rfl, if_pos rfl]) ?_
  refine (eqS_ev (F := laws_eqByteS.f) (fun _ _ _ => rfl) (fun _ _ _ _ => rfl) d (by omega)).bind ?_
  exact Ev.congr (fun k => if_pos rfl) (Ev.now true)
theorem eqHS (l : List S93) (hl : l.length ≤ 1048576) (hg : ∀ y ∈ l, y.f2.length ≤ 1048576) : Ev (fun k => laws_eqOpS.f k l l) true := by
  refine Ev.congr (f := fun k => laws_eqOpS.l0 k l l 0) (fun k => by unfold laws_eqOpS.f; rw [if_pos rfl]) ?_
  refine eqG_ev (L := laws_eqOpS.l0) l ?_ ?_
  · intro i hi h
    refine Ev.step (f := fun k => (laws_eqOp.f k l[i].f0 l[i].f1 l[i].f2 l[i].f0 l[i].f1 l[i].f2).bind fun t => if t = true then laws_eqOpS.l0 k l l ((i + 1 : Nat) : Int) else some false) (fun k => ?_) ?_
    · simp only [laws_eqOpS.l0]
      rw [if_pos (by omega), if_pos (by omega), if_pos (by omega), rd93 l i hi, w64 (by omega) (by omega)]
      rfl
    · refine (eqOp_ev _ _ _ (hg _ (List.getElem_mem _))).bind ?_
      exact Ev.congr (fun k => if_pos rfl) h
  · exact Ev.step (f := fun _ => some true) (fun k => by simp only [laws_eqOpS.l0]; rw [if_neg (by omega)]) (Ev.now _)
theorem fit_map (l : List S100) (hf : fitH l) : (l.map toH).length ≤ 1048576 ∧ ∀ y ∈ l.map toH, y.f2.length ≤ 1048576 := by
  refine ⟨by simpa using hf.1, fun y hy => ?_⟩
  obtain ⟨z, hz, rfl⟩ := List.mem_map.1 hy
  exact hf.2 z hz

/-- Marks of a row of operations. -/
def wO (b : S93) : Nat := 2 + b.f2.length
def mkO (b : S93) (s : Int) : S93 := ⟨s, s + 1, marks (fun x => x % 256) (s + 2) b.f2.length⟩
theorem totO_le (l : List S93) (h : ∀ y ∈ l, y.f2.length ≤ 1048576) : tot wO l ≤ 1048578 * l.length := by
  induction l with
  | nil => simp [tot]
  | cons b r ih =>
    have h1 := h b (List.mem_cons_self ..)
    have h2 := ih (fun y hy => h y (List.mem_cons_of_mem _ hy))
    simp only [tot, wO, List.length_cons, Nat.mul_succ] at h2 ⊢
    omega
theorem markOS (l : List S93) (s : Int) (h0 : 0 ≤ s) (hl : l.length ≤ 1048576) (hb : s + (tot wO l : Nat) ≤ 4611686018427387904) : Ev (fun k => laws_markOpS.f k l s) (s + (tot wO l : Nat), marksW mkO wO s l) := by
  refine markW_ev mkO wO (L := laws_markOpS.l0) 4611686018427387904 ?_ ?_ l s h0 (by omega) hb
  · intro i x s h hx h0 hB r hr
    simp only [wO] at hB hr
    have hw : wrap64 ((i : Int) + 1) = ((i + 1 : Nat) : Int) := by rw [w64 (by omega) (by omega)]; rfl
    have hm : Ev (fun k => laws_markByteS.f k x[i].f2 (s + 2)) _ := mark_ev (fun x => x % 256) (L := laws_markByteS.l0) (fun _ _ _ _ => rfl) x[i].f2 (s + 2) (by omega) (by omega)
    refine Ev.step (f := fun k => (laws_markByteS.f k x[i].f2 (s + 2)).bind fun t => laws_markOpS.l0 k (x.set i (⟨s, s + 1, t.2⟩ : S93)) t.1 ((i + 1 : Nat) : Int)) (fun k => ?_) (hm.bind ?_)
    · simp only [laws_markOpS.l0]
      rw [if_pos (by omega), if_pos (by omega), rd93 x i h, w64 (x := s + 1) (by omega) (by omega), w64 (x := s + 1 + 1) (by omega) (by omega), hw, Int.toNat_natCast, show s + 1 + 1 = s + 2 by omega]
    · rw [show s + 2 + (x[i].f2.length : Int) = s + ((2 + x[i].f2.length : Nat) : Int) by omega]
      exact hr
  · intro x s
    exact Ev.step (f := fun _ => some (s, x)) (fun k => by simp only [laws_markOpS.l0]; rw [if_neg (by omega)]) (Ev.now _)
end OP
namespace DK
theorem rd112 (l : List S112) (i : Nat) (h : i < l.length) : rd_T112 l (i : Int) = l[i] := by simp [rd_T112, h]
theorem rd62 (l : List S62) (i : Nat) (h : i < l.length) : rd_T62 l (i : Int) = l[i] := by simp [rd_T62, h]
def toH (e : S112) : S62 := ⟨e.f0, e.f1⟩
def goodH (l : List S112) : Prop := l.length ≤ maxLen ∧ ∀ y ∈ l, (Lit.int .i64 y.f0).wf = true ∧ (y.f1.length ≤ maxLen ∧ ∀ z ∈ y.f1, (Lit.int .u8 z).wf = true)
def goodI (l : List Int) : Prop := l.length ≤ maxLen ∧ ∀ y ∈ l, (Lit.int .i64 y).wf = true
/-- Lengths within the budget. -/
def fitH (l : List S112) : Prop := l.length ≤ 1048576 ∧ ∀ y ∈ l, y.f1.length ≤ 1048576
theorem mem_sum (l : List S112) (y : S112) (h : y ∈ l) : y.f1.length ≤ (l.map (fun e => e.f1.length)).sum := by
  induction l with
  | nil => cases h
  | cons a r ih =>
    rw [List.map_cons, List.sum_cons]
    rcases List.mem_cons.1 h with rfl | h
    · omega
    · have := ih h; omega
theorem szHS (l : List S112) (b : Int) (h0 : 0 ≤ b) (hb : b ≤ 1048576) (hl : goodH l) : ∃ r, Ev (fun k => laws_szWriteS.f k l b) r ∧ (r < 0 ∨ (0 ≤ r ∧ r ≤ b ∧ fitH l ∧ l.length + r ≤ b)) := by
  have hm : maxLen ≤ 9223372036854775807 := by decide
  obtain ⟨hl, hg⟩ := hl
  by_cases c : (wrap64 (b - (l.length : Int))) < 0
  · exact ⟨-1, Ev.congr (fun k => by unfold laws_szWriteS.f; rw [if_pos c]) (Ev.now _), Or.inl (by decide)⟩
  · rw [w64 (by omega) (by omega)] at c
    have hl6 : l.length ≤ 1048576 := by omega
    obtain ⟨r, h, hr⟩ := szG_ev (fun e : S112 => e.f1.length) (L := laws_szWriteS.l0) l (by
      intro i s hi h0 hs
      have hy := (hg l[i] (List.getElem_mem _)).2.1
      have hw : wrap64 ((i : Int) + 1) = ((i + 1 : Nat) : Int) := by rw [w64 (by omega) (by omega)]; rfl
      by_cases d : (l[i].f1.length : Int) ≤ s
      · refine Or.inr ⟨d, fun r h => Ev.step (fun k => ?_) h⟩
        simp only [laws_szWriteS.l0, laws_szWrite.f, laws_szByteS.f]
        rw [if_pos (by omega), if_pos (by omega), rd112 l i hi, w64 (x := s - _) (by omega) (by omega), if_neg (by omega), Option.bind_some, if_neg (by omega), Option.bind_some, if_neg (by omega), hw]
      · refine Or.inl ⟨-1, by decide, Ev.step (f := fun _ => some (-1)) (fun k => ?_) (Ev.now _)⟩
        simp only [laws_szWriteS.l0, laws_szWrite.f, laws_szByteS.f]
        rw [if_pos (by omega), if_pos (by omega), rd112 l i hi, w64 (x := s - _) (by omega) (by omega), if_pos (by omega), Option.bind_some, if_pos (by omega), Option.bind_some, if_pos (by omega)])
      (fun s => Ev.step (f := fun _ => some s) (fun k => by simp only [laws_szWriteS.l0]; rw [if_neg (by omega)]) (Ev.now _)) (b - (l.length : Int)) (by omega) (by omega)
    refine ⟨r, Ev.congr (fun k => by unfold laws_szWriteS.f; rw [w64 (by omega) (by omega), if_neg (by omega)]) h, ?_⟩
    rcases hr with h | ⟨h1, h2⟩
    · exact Or.inl h
    · refine Or.inr ⟨h1, by omega, ⟨hl6, fun y hy => ?_⟩, by omega⟩
      have := mem_sum l y hy; omega
theorem toWrite_ev (a : Int) (d : List Int) (hd : d.length ≤ 1048576) : Ev (fun k => laws_toWrite.f k a d) (a, d) := by
  refine Ev.congr (fun k => by unfold laws_toWrite.f; rfl) ?_
  refine (toS_ev (F := laws_toByteS.f) (fun _ _ => rfl) (fun _ _ _ _ => rfl) d (by omega) (by omega)).bind ?_
  exact Ev.now _
theorem toHS (l : List S112) (hf : fitH l) : Ev (fun k => laws_toWriteS.f k l) (l.map toH) := by
  obtain ⟨hl, hg⟩ := hf
  refine Ev.congr (f := fun k => laws_toWriteS.l0 k l (List.replicate l.length z62) 0) (fun k => by unfold laws_toWriteS.f; rw [if_pos (by omega), if_pos (by simp; omega)]; simp) ?_
  refine fill_ev (L := fun k x i => laws_toWriteS.l0 k l x i) l toH ?_ ?_ _ (by simp)
  · intro i x hi hx r h
    refine Ev.step (f := fun k => (laws_toWrite.f k l[i].f0 l[i].f1).bind fun t => laws_toWriteS.l0 k l (x.set i (⟨t.1, t.2⟩ : S62)) ((i + 1 : Nat) : Int)) (fun k => ?_) ?_
    · simp only [laws_toWriteS.l0]
      rw [if_pos (by omega), if_pos (by omega), w64 (by omega) (by omega), rd112 l i hi, Int.toNat_natCast]
      congr 1
      funext t
      rw [if_pos (by omega)]; rfl
    · exact (toWrite_ev _ _ (hg _ (List.getElem_mem _))).bind h
  · intro x hx
    exact Ev.step (f := fun _ => some x) (fun k => by simp only [laws_toWriteS.l0]; rw [if_neg (by omega)]) (Ev.now _)
theorem eqWrite_ev (a : Int) (d : List Int) (hd : d.length ≤ 1048576) : Ev (fun k => laws_eqWrite.f k a d a d) true := by
  refine Ev.congr (fun k => by unfold laws_eqWrite.f; rw [if_pos rfl]) ?_
  refine (eqS_ev (F := laws_eqByteS.f) (fun _ _ _ => rfl) (fun _ _ _ _ => rfl) d (by omega)).bind ?_
  exact Ev.congr (fun k => if_pos rfl) (Ev.now true)
theorem eqHS (l : List S62) (hl : l.length ≤ 1048576) (hg : ∀ y ∈ l, y.f1.length ≤ 1048576) : Ev (fun k => laws_eqWriteS.f k l l) true := by
  refine Ev.congr (f := fun k => laws_eqWriteS.l0 k l l 0) (fun k => by unfold laws_eqWriteS.f; rw [if_pos rfl]) ?_
  refine eqG_ev (L := laws_eqWriteS.l0) l ?_ ?_
  · intro i hi h
    refine Ev.step (f := fun k => (laws_eqWrite.f k l[i].f0 l[i].f1 l[i].f0 l[i].f1).bind fun t => if t = true then laws_eqWriteS.l0 k l l ((i + 1 : Nat) : Int) else some false) (fun k => ?_) ?_
    · simp only [laws_eqWriteS.l0]
      rw [if_pos (by omega), if_pos (by omega), if_pos (by omega), rd62 l i hi, w64 (by omega) (by omega)]
      rfl
    · refine (eqWrite_ev _ _ (hg _ (List.getElem_mem _))).bind ?_
      exact Ev.congr (fun k => if_pos rfl) h
  · exact Ev.step (f := fun _ => some true) (fun k => by simp only [laws_eqWriteS.l0]; rw [if_neg (by omega)]) (Ev.now _)
theorem fit_map (l : List S112) (hf : fitH l) : (l.map toH).length ≤ 1048576 ∧ ∀ y ∈ l.map toH, y.f1.length ≤ 1048576 := by
  refine ⟨by simpa using hf.1, fun y hy => ?_⟩
  obtain ⟨z, hz, rfl⟩ := List.mem_map.1 hy
  exact hf.2 z hz
theorem szD (l : List Int) (p : List S112) (hl : l.length ≤ maxLen) (hp : goodH p) : ∃ r, Ev (fun k => laws_szDisk.f k l p 1048576) r ∧ (r < 0 ∨ (l.length ≤ 1048576 ∧ fitH p)) := by
  have hm : maxLen ≤ 9223372036854775807 := by decide
  by_cases c : (wrap64 (1048576 - (l.length : Int))) < 0
  · exact ⟨-1, Ev.congr (fun k => by unfold laws_szDisk.f laws_szByteS.f; rw [if_pos c, Option.bind_some, if_pos (by decide)]) (Ev.now _), Or.inl (by decide)⟩
  · have c' := c
    rw [w64 (by omega) (by omega)] at c
    obtain ⟨r, h, hr⟩ := szHS p (1048576 - (l.length : Int)) (by omega) (by omega) hp
    refine ⟨if r < 0 then -1 else r, Ev.congr (fun k => by unfold laws_szDisk.f laws_szByteS.f; rw [w64 (by omega) (by omega), if_neg c, Option.bind_some, if_neg c]) (h.bind ?_), ?_⟩
    · by_cases d : r < 0
      · simp only [if_pos d]; exact Ev.now _
      · simp only [if_neg d]; exact Ev.now _
    · by_cases d : r < 0
      · rw [if_pos d]; exact Or.inl (by decide)
      · obtain ⟨_, _, e, _⟩ := hr.resolve_left d
        exact Or.inr ⟨by omega, e⟩
theorem toD (l : List Int) (p : List S112) (hl : l.length ≤ 1048576) (hp : fitH p) : Ev (fun k => laws_toDisk.f k l p) (l, p.map toH) := by
  refine Ev.congr (fun k => by unfold laws_toDisk.f; rfl) ?_
  refine (toS_ev (F := laws_toByteS.f) (fun _ _ => rfl) (fun _ _ _ _ => rfl) l (by omega) (by omega)).bind ?_
  refine (toHS p hp).bind ?_
  exact Ev.now _
theorem eqD (l : List Int) (p : List S62) (hl : l.length ≤ 1048576) (hp : p.length ≤ 1048576 ∧ ∀ y ∈ p, y.f1.length ≤ 1048576) : Ev (fun k => laws_eqDisk.f k l p l p) true := by
  refine Ev.congr (fun k => by unfold laws_eqDisk.f; rfl) ?_
  refine (eqS_ev (F := laws_eqByteS.f) (fun _ _ _ => rfl) (fun _ _ _ _ => rfl) l (by omega)).bind ?_
  refine Ev.congr (fun k => if_pos rfl) ?_
  refine (eqHS p hp.1 hp.2).bind ?_
  exact Ev.congr (fun k => if_pos rfl) (Ev.now true)
def okW (b : Int) (w : S62) : Bool := decide (0 ≤ w.f0 ∧ w.f0 < b ∧ w.f1.length = 64)
def validD (l : List Int) (p : List S62) : Bool := decide (l.length % 64 = 0 ∧ 1 ≤ l.length ∧ l.length ≤ 131072 ∧ p.length ≤ 600) && p.all (okW ((l.length : Int) / 64))
theorem spec_loop (l : List Int) (p : List S62) (b : Int) (hp : p.length ≤ 1048576) : Ev (fun k => spec_ValidDisk.l0 k b 0 l p) (p.all (okW b)) := by
  have := down (P := fun i => Ev (fun k => spec_ValidDisk.l0 k b (i : Int) l p) ((p.drop i).all (okW b))) p.length ?_ ?_
  · simpa using this
  · rw [List.drop_length]
    exact Ev.step (f := fun _ => some true) (fun k => by simp only [spec_ValidDisk.l0]; rw [if_neg (by omega)]) (Ev.now _)
  · intro i hi h
    have hw : wrap64 ((i : Int) + 1) = ((i + 1 : Nat) : Int) := by rw [w64 (by omega) (by omega)]; rfl
    rw [List.drop_eq_getElem_cons hi, List.all_cons]
    by_cases c : 0 ≤ p[i].f0 ∧ p[i].f0 < b ∧ p[i].f1.length = 64
    · rw [show okW b p[i] = true by unfold okW; exact decide_eq_true c, Bool.true_and]
      exact Ev.step (fun k => by simp only [spec_ValidDisk.l0]; rw [if_pos (by omega), if_pos (by omega), rd62 p i hi, if_neg (by omega), if_neg (by omega), if_pos (by omega), hw]) h
    · rw [show okW b p[i] = false by unfold okW; exact decide_eq_false c, Bool.false_and]
      refine Ev.step (f := fun _ => some false) (fun k => ?_) (Ev.now _)
      simp only [spec_ValidDisk.l0]
      rw [if_pos (by omega), if_pos (by omega), rd62 p i hi]
      by_cases c1 : p[i].f0 < 0
      · rw [if_pos c1]
      · by_cases c2 : p[i].f0 ≥ b
        · rw [if_neg c1, if_pos c2]
        · rw [if_neg c1, if_neg c2, if_neg (by omega)]
theorem impl_loop (p : List S62) (n b : Int) (hb : wrap64 (Int.tdiv n 64) = b) (hp : p.length ≤ 1048576) : Ev (fun k => impl_ValidDisk.l0 k n p (p.length : Int) 0) (p.all (okW b)) := by
  have := down (P := fun i => Ev (fun k => impl_ValidDisk.l0 k n p (p.length : Int) (i : Int)) ((p.drop i).all (okW b))) p.length ?_ ?_
  · simpa using this
  · rw [List.drop_length]
    exact Ev.step (f := fun _ => some true) (fun k => by simp only [impl_ValidDisk.l0]; rw [if_neg (by omega)]) (Ev.now _)
  · intro i hi h
    have hw : wrap64 ((i : Int) + 1) = ((i + 1 : Nat) : Int) := by rw [w64 (by omega) (by omega)]; rfl
    rw [List.drop_eq_getElem_cons hi, List.all_cons]
    by_cases c : 0 ≤ p[i].f0 ∧ p[i].f0 < b ∧ p[i].f1.length = 64
    · rw [show okW b p[i] = true by unfold okW; exact decide_eq_true c, Bool.true_and]
      exact Ev.step (fun k => by simp only [impl_ValidDisk.l0]; rw [if_pos (by omega), if_pos (by omega), if_pos (by omega), rd62 p i hi, hb, if_neg (by omega), if_neg (by omega), if_pos (by omega), hw]) h
    · rw [show okW b p[i] = false by unfold okW; exact decide_eq_false c, Bool.false_and]
      refine Ev.step (f := fun _ => some false) (fun k => ?_) (Ev.now _)
      simp only [impl_ValidDisk.l0]
      rw [if_pos (by omega), if_pos (by omega), if_pos (by omega), rd62 p i hi, hb]
      by_cases c1 : p[i].f0 < 0
      · rw [if_pos c1]
      · by_cases c2 : p[i].f0 ≥ b
        · rw [if_neg c1, if_pos c2]
        · rw [if_neg c1, if_neg c2, if_neg (by omega)]
theorem spec_ev (l : List Int) (p : List S62) (hl : l.length ≤ 1048576) (hp : p.length ≤ 1048576) : Ev (fun k => spec_ValidDisk.f k l p) (validD l p) := by
  have hw : wrap64 ((l.length : Int) / 64) = (l.length : Int) / 64 := w64 (by omega) (by omega)
  have jt : Ev (fun k => spec_ValidDisk.j0 k ((l.length : Int) / 64) true l p) false := Ev.step (f := fun _ => some false) (fun k => by simp only [spec_ValidDisk.j0]; rw [if_pos trivial]) (Ev.now _)
  have no : ¬ (l.length % 64 = 0 ∧ 1 ≤ l.length ∧ l.length ≤ 131072 ∧ p.length ≤ 600) → validD l p = false := fun h => by unfold validD; rw [decide_eq_false h, Bool.false_and]
  by_cases c1 : ((l.length : Int) % 64) = 0
  rotate_left
  · rw [no (by omega)]
    exact Ev.congr (fun k => by unfold spec_ValidDisk.f spec_l1Blocks.f; rw [Option.bind_some, if_neg c1, hw]) jt
  by_cases c2 : (l.length : Int) / 64 < 1
  · rw [no (by omega)]
    exact Ev.congr (fun k => by unfold spec_ValidDisk.f spec_l1Blocks.f; rw [Option.bind_some, if_pos c1, hw, if_pos c2]) jt
  by_cases c3 : (l.length : Int) / 64 > 2048
  · rw [no (by omega)]
    exact Ev.congr (fun k => by unfold spec_ValidDisk.f spec_l1Blocks.f; rw [Option.bind_some, if_pos c1, hw, if_neg c2, if_pos c3]) jt
  by_cases c4 : (p.length : Int) > 600
  · rw [no (by omega)]
    exact Ev.congr (fun k => by unfold spec_ValidDisk.f spec_l1Blocks.f; rw [Option.bind_some, if_pos c1, hw, if_neg c2, if_neg c3, decide_eq_true c4]) jt
  rw [show validD l p = p.all (okW ((l.length : Int) / 64)) by unfold validD; rw [decide_eq_true (by omega), Bool.true_and]]
  refine Ev.congr (fun k => by unfold spec_ValidDisk.f spec_l1Blocks.f; rw [Option.bind_some, if_pos c1, hw, if_neg c2, if_neg c3, decide_eq_false c4]) ?_
  exact Ev.step (fun k => by simp only [spec_ValidDisk.j0]; rw [if_neg (by decide)]) (spec_loop l p _ hp)
theorem impl_ev (l : List Int) (p : List S62) (hl : l.length ≤ 1048576) (hp : p.length ≤ 1048576) : Ev (fun k => impl_ValidDisk.f k l p) (validD l p) := by
  have jt : Ev (fun k => impl_ValidDisk.j0 k (l.length : Int) true l p) false := Ev.step (f := fun _ => some false) (fun k => by simp only [impl_ValidDisk.j0]; rw [if_pos trivial]) (Ev.now _)
  have no : ¬ (l.length % 64 = 0 ∧ 1 ≤ l.length ∧ l.length ≤ 131072 ∧ p.length ≤ 600) → validD l p = false := fun h => by unfold validD; rw [decide_eq_false h, Bool.false_and]
  by_cases c1 : ((l.length : Int) % 64) = 0
  rotate_left
  · rw [no (by omega)]
    exact Ev.congr (fun k => by unfold impl_ValidDisk.f; rw [if_neg c1]) jt
  by_cases c2 : (l.length : Int) = 0
  · rw [no (by omega)]
    exact Ev.congr (fun k => by unfold impl_ValidDisk.f; rw [if_pos c1, if_pos c2]) jt
  by_cases c3 : (l.length : Int) > 131072
  · rw [no (by omega)]
    exact Ev.congr (fun k => by unfold impl_ValidDisk.f; rw [if_pos c1, if_neg c2, if_pos c3]) jt
  by_cases c4 : (p.length : Int) > 600
  · rw [no (by omega)]
    exact Ev.congr (fun k => by unfold impl_ValidDisk.f; rw [if_pos c1, if_neg c2, if_neg c3, decide_eq_true c4]) jt
  rw [show validD l p = p.all (okW ((l.length : Int) / 64)) by unfold validD; rw [decide_eq_true (by omega), Bool.true_and]]
  refine Ev.congr (fun k => by unfold impl_ValidDisk.f; rw [if_pos c1, if_neg c2, if_neg c3, decide_eq_false c4]) ?_
  exact Ev.step (fun k => by simp only [impl_ValidDisk.j0]; rw [if_neg (by decide)]) (impl_loop p _ _ (by rw [Int.tdiv_eq_ediv_of_nonneg (by omega), w64 (by omega) (by omega)]) hp)
/-- A pending write takes one number, and one for each of its bytes. -/
def wW (b : S62) : Nat := 1 + b.f1.length
def mkW (b : S62) (s : Int) : S62 := ⟨s, marks (fun x => x % 256) (s + 1) b.f1.length⟩
theorem tot_le (l : List S62) (h : ∀ y ∈ l, y.f1.length ≤ 1048576) : tot wW l ≤ 1048577 * l.length := by
  induction l with
  | nil => simp [tot]
  | cons b r ih =>
    have h1 := h b (List.mem_cons_self ..)
    have h2 := ih (fun y hy => h y (List.mem_cons_of_mem _ hy))
    simp only [tot, wW, List.length_cons, Nat.mul_succ] at h2 ⊢
    omega
theorem markWS (l : List S62) (s : Int) (h0 : 0 ≤ s) (hl : l.length ≤ 1048576) (hb : s + (tot wW l : Nat) ≤ 4611686018427387904) : Ev (fun k => laws_markWriteS.f k l s) (s + (tot wW l : Nat), marksW mkW wW s l) := by
  refine markW_ev mkW wW (L := laws_markWriteS.l0) 4611686018427387904 ?_ ?_ l s h0 (by omega) hb
  · intro i x s h hx h0 hB r hr
    simp only [wW] at hB hr
    have hw : wrap64 ((i : Int) + 1) = ((i + 1 : Nat) : Int) := by rw [w64 (by omega) (by omega)]; rfl
    have hm : Ev (fun k => laws_markByteS.f k x[i].f1 (s + 1)) _ := mark_ev (fun x => x % 256) (L := laws_markByteS.l0) (fun _ _ _ _ => rfl) x[i].f1 (s + 1) (by omega) (by omega)
    refine Ev.step (f := fun k => (laws_markByteS.f k x[i].f1 (s + 1)).bind fun t => laws_markWriteS.l0 k (x.set i (⟨s, t.2⟩ : S62)) t.1 ((i + 1 : Nat) : Int)) (fun k => ?_) (hm.bind ?_)
    · simp only [laws_markWriteS.l0]
      rw [if_pos (by omega), if_pos (by omega), rd62 x i h, w64 (x := s + 1) (by omega) (by omega), hw, Int.toNat_natCast]
    · rw [show s + 1 + (x[i].f1.length : Int) = s + ((1 + x[i].f1.length : Nat) : Int) by omega]
      exact hr
  · intro x s
    exact Ev.step (f := fun _ => some (s, x)) (fun k => by simp only [laws_markWriteS.l0]; rw [if_neg (by omega)]) (Ev.now _)
theorem heldWS (l : List S62) (s : Int) (h0 : 0 ≤ s) (hl : l.length ≤ 1048576) (hb : s + (tot wW l : Nat) ≤ 4611686018427387904) : Ev (fun k => laws_heldWriteS.f k (marksW mkW wW s l) s) (s + (tot wW l : Nat)) := by
  refine heldW_ev mkW wW (L := laws_heldWriteS.l0) 4611686018427387904 ?_ ?_ l s h0 (by omega) hb
  · intro i x s b h hxb hx h0 hB r hr
    simp only [wW] at hB hr
    have hw : wrap64 ((i : Int) + 1) = ((i + 1 : Nat) : Int) := by rw [w64 (by omega) (by omega)]; rfl
    have hm : Ev (fun k => laws_heldByteS.f k (marks (fun x => x % 256) (s + 1) b.f1.length) (s + 1)) _ := held_ev (fun x => x % 256) (L := laws_heldByteS.l0) (fun _ _ _ _ => rfl) b.f1.length (s + 1) (by omega) (by omega)
    refine Ev.step (f := fun k => (laws_heldByteS.f k (marks (fun x => x % 256) (s + 1) b.f1.length) (s + 1)).bind fun t => if t < 0 then some (-1) else laws_heldWriteS.l0 k x t ((i + 1 : Nat) : Int)) (fun k => ?_) (hm.bind ?_)
    · simp only [laws_heldWriteS.l0]
      rw [if_pos (by omega), if_pos (by omega), rd62 x i h, hxb, if_pos (show (mkW b s).f0 = s from rfl), w64 (x := s + 1) (by omega) (by omega), hw]
      rfl
    · rw [show s + 1 + (b.f1.length : Int) = s + ((1 + b.f1.length : Nat) : Int) by omega]
      exact Ev.congr (fun k => if_neg (by omega)) hr
  · intro x s
    exact Ev.step (f := fun _ => some s) (fun k => by simp only [laws_heldWriteS.l0]; rw [if_neg (by omega)]) (Ev.now _)
/-- A whole disk. -/
theorem markD (l : List Int) (p : List S62) (hl : l.length ≤ 1048576) (hp : p.length ≤ 1048576 ∧ ∀ y ∈ p, y.f1.length ≤ 1048576) : ∃ n : Int, ∃ l' p', 0 ≤ n ∧ n ≤ 4398046511104 ∧ l'.length = l.length ∧ p'.length = p.length ∧ Ev (fun k => laws_markDisk.f k l p 1) (n, l', p') ∧ Ev (fun k => laws_heldDisk.f k l' p' 1) n := by
  have ht := tot_le p hp.2
  have hm : Ev (fun k => laws_markByteS.f k l 1) _ := mark_ev (fun x => x % 256) (L := laws_markByteS.l0) (fun _ _ _ _ => rfl) l 1 (by omega) (by omega)
  have hh : Ev (fun k => laws_heldByteS.f k (marks (fun x => x % 256) 1 l.length) 1) _ := held_ev (fun x => x % 256) (L := laws_heldByteS.l0) (fun _ _ _ _ => rfl) l.length 1 (by omega) (by omega)
  refine ⟨1 + (l.length : Int) + (tot wW p : Nat), _, _, by omega, by omega, marks_len (fun x => x % 256) l.length 1, marksW_len mkW wW p (1 + (l.length : Int)), ?_, ?_⟩
  · refine Ev.congr (fun k => by unfold laws_markDisk.f; rfl) (hm.bind ?_)
    refine (markWS p (1 + (l.length : Int)) (by omega) hp.1 (by omega)).bind ?_
    exact Ev.now _
  · refine Ev.congr (fun k => by unfold laws_heldDisk.f; rfl) (hh.bind ?_)
    refine Ev.congr (fun k => if_neg (by omega)) ?_
    refine (heldWS p (1 + (l.length : Int)) (by omega) hp.1 (by omega)).bind ?_
    exact Ev.congr (fun k => if_neg (by omega)) (Ev.now _)
theorem cp_is (l : List Int) (h : l.length ≤ 1048576) : spec_l1Copy.f l = some l ∧ impl_cp.f l = some l := by
  constructor
  · unfold spec_l1Copy.f; rw [Option.bind_some, if_pos (by simp only [List.length_nil]; omega), List.nil_append]
  · unfold impl_cp.f; rw [Option.bind_some, if_pos (by simp only [List.length_nil]; omega), List.nil_append]
theorem splice_set (x d : List Int) (o i : Nat) (hi : i < d.length) (ho : o + d.length ≤ x.length) : (splice x o (d.take i)).set (o + i) d[i] = splice x o (d.take (i + 1)) := by
  have h1 : (d.take i).length = i := by rw [List.length_take]; omega
  have h2 : (d.take (i + 1)).length = i + 1 := by rw [List.length_take]; omega
  have h3 : (x.take o).length = o := by rw [List.length_take]; omega
  unfold splice
  rw [h1, h2, List.set_append_right _ _ (by omega), h3, List.set_append_right _ _ (by omega), h1, show o + i - o - i = 0 by omega, List.drop_eq_getElem_cons (show o + i < x.length by omega), List.set_cons_zero, List.take_succ_eq_append_getElem hi, List.append_assoc]
  rfl
/-- The write of one block is laid over the bytes. -/
theorem put_ev (x d : List Int) (b : Nat) (hx : x.length ≤ 131072) (hd : d.length = 64) (hb : b * 64 + 64 ≤ x.length) : Ev (fun k => spec_l1Put.f k x (b : Int) d) (splice x (b * 64) d) := by
  have e1 : wrap64 ((b : Int) * 64) = ((b * 64 : Nat) : Int) := by rw [w64 (by omega) (by omega)]; omega
  have key : ∀ y : List Int, y = splice x (b * 64) (d.take 0) → Ev (fun k => spec_l1Put.l0 k y (b : Int) d ((0 : Nat) : Int)) (splice x (b * 64) d) := by
    refine down (P := fun i => ∀ y : List Int, y = splice x (b * 64) (d.take i) → Ev (fun k => spec_l1Put.l0 k y (b : Int) d (i : Int)) (splice x (b * 64) d)) 64 ?_ ?_
    · intro y hy
      rw [List.take_of_length_le (by omega)] at hy
      subst hy
      exact Ev.step (f := fun _ => some (splice x (b * 64) d)) (fun k => by simp only [spec_l1Put.l0]; rw [if_neg (by omega)]) (Ev.now _)
    · intro i hi ih y hy
      have hl : y.length = x.length := by rw [hy, length_splice _ _ _ (by rw [List.length_take]; omega)]
      have e2 : wrap64 (((b * 64 : Nat) : Int) + (i : Int)) = ((b * 64 + i : Nat) : Int) := by rw [w64 (by omega) (by omega)]; omega
      have e3 : wrap64 ((i : Int) + 1) = ((i + 1 : Nat) : Int) := by rw [w64 (by omega) (by omega)]; rfl
      refine Ev.step (f := fun k => spec_l1Put.l0 k (y.set (b * 64 + i) d[i]) (b : Int) d ((i + 1 : Nat) : Int)) (fun k => ?_) (ih _ ?_)
      · simp only [spec_l1Put.l0]
        rw [if_pos (by omega), if_pos (by omega), if_pos (by omega), e1, e2, if_pos (by omega), if_pos (by omega), e3, Int.toNat_natCast, rd_nat d i (by omega)]
      · rw [hy]; exact splice_set x d (b * 64) i (by omega) (by omega)
  have := key x (by simp [splice])
  refine Ev.congr (f := fun k => spec_l1Put.l0 k x (b : Int) d ((0 : Nat) : Int)) (fun k => by unfold spec_l1Put.f; rfl) this
theorem lay_is (k : Nat) (x d : List Int) (b : Nat) (hx : x.length ≤ 131072) (hd : d.length = 64) (hb : b * 64 + 64 ≤ x.length) : impl_lay.f k x (wrap64 ((b : Int) * 64)) d = some (splice x (b * 64) d) := by
  have e1 : wrap64 ((b : Int) * 64) = ((b * 64 : Nat) : Int) := by rw [w64 (by omega) (by omega)]; omega
  unfold impl_lay.f
  rw [e1, if_pos (by omega), Int.toNat_natCast, if_pos (by omega), if_pos (by omega)]
/-- What a valid disk's pending writes are. -/
theorem valid_facts (l : List Int) (p : List S62) (h : validD l p = true) : l.length ≤ 131072 ∧ p.length ≤ 600 ∧ l.length % 64 = 0 ∧ ∀ (i : Nat) (hi : i < p.length), ∃ b : Nat, p[i].f0 = (b : Int) ∧ b * 64 + 64 ≤ l.length ∧ p[i].f1.length = 64 := by
  unfold validD at h
  rw [Bool.and_eq_true] at h
  have h1 := of_decide_eq_true h.1
  refine ⟨by omega, by omega, by omega, fun i hi => ?_⟩
  have h2 := List.all_eq_true.1 h.2 p[i] (List.getElem_mem hi)
  unfold okW at h2
  obtain ⟨a, b, c⟩ := of_decide_eq_true h2
  obtain ⟨n, hn⟩ := Int.eq_ofNat_of_zero_le a
  exact ⟨n, hn, by omega, c⟩
theorem copy_s (l : List Int) (p : List S62) (hl : l.length ≤ 1048576) (hp : p.length ≤ 1048576 ∧ ∀ y ∈ p, y.f1.length ≤ 1048576) : Ev (fun k => spec_l1CopyDisk.f k l p) (l, p) := by
  refine Ev.congr (f := fun k => spec_l1CopyDisk.l0 k 0 l p l []) (fun k => by unfold spec_l1CopyDisk.f; rw [(cp_is l hl).1, Option.bind_some]) ?_
  have := down (P := fun i => Ev (fun k => spec_l1CopyDisk.l0 k (i : Int) l p l (p.take i)) (l, p)) p.length ?_ ?_
  · simpa using this
  · exact Ev.step (f := fun _ => some (l, p)) (fun k => by simp only [spec_l1CopyDisk.l0]; rw [if_neg (by omega), List.take_length]) (Ev.now _)
  · intro i hi h
    have hw : wrap64 ((i : Int) + 1) = ((i + 1 : Nat) : Int) := by rw [w64 (by omega) (by omega)]; rfl
    rw [List.take_succ_eq_append_getElem hi] at h
    exact Ev.step (fun k => by simp only [spec_l1CopyDisk.l0]; rw [if_pos (by omega), if_pos (by omega), rd62 p i hi, (cp_is _ (hp.2 _ (List.getElem_mem hi))).1, Option.bind_some, if_pos (by rw [List.length_take]; omega), hw]) h
theorem copy_i (l : List Int) (p : List S62) (hl : l.length ≤ 1048576) (hp : p.length ≤ 1048576 ∧ ∀ y ∈ p, y.f1.length ≤ 1048576) : Ev (fun k => impl_twin.f k l p) (l, p) := by
  refine Ev.congr (f := fun k => impl_twin.l0 k p (p.length : Int) 0 l []) (fun k => by unfold impl_twin.f; rw [(cp_is l hl).2, Option.bind_some]) ?_
  have := down (P := fun i => Ev (fun k => impl_twin.l0 k p (p.length : Int) (i : Int) l (p.take i)) (l, p)) p.length ?_ ?_
  · simpa using this
  · exact Ev.step (f := fun _ => some (l, p)) (fun k => by simp only [impl_twin.l0]; rw [if_neg (by omega), List.take_length]) (Ev.now _)
  · intro i hi h
    have hw : wrap64 ((i : Int) + 1) = ((i + 1 : Nat) : Int) := by rw [w64 (by omega) (by omega)]; rfl
    rw [List.take_succ_eq_append_getElem hi] at h
    exact Ev.step (fun k => by simp only [impl_twin.l0]; rw [if_pos (by omega), if_pos (by omega), if_pos (by omega), rd62 p i hi, (cp_is _ (hp.2 _ (List.getElem_mem hi))).2, Option.bind_some, if_pos (by rw [List.length_take]; omega), hw]) h
theorem szD2 (l : List Int) (p : List S112) (hl : l.length ≤ maxLen) (hp : goodH p) : ∃ r, Ev (fun k => laws_szDisk.f k l p 1048576) r ∧ (r < 0 ∨ (l.length ≤ 1048576 ∧ fitH p ∧ r ≤ 1048576)) := by
  have hm : maxLen ≤ 9223372036854775807 := by decide
  by_cases c : (wrap64 (1048576 - (l.length : Int))) < 0
  · exact ⟨-1, Ev.congr (fun k => by unfold laws_szDisk.f laws_szByteS.f; rw [if_pos c, Option.bind_some, if_pos (by decide)]) (Ev.now _), Or.inl (by decide)⟩
  · have c' := c
    rw [w64 (by omega) (by omega)] at c
    obtain ⟨r, h, hr⟩ := szHS p (1048576 - (l.length : Int)) (by omega) (by omega) hp
    refine ⟨if r < 0 then -1 else r, Ev.congr (fun k => by unfold laws_szDisk.f laws_szByteS.f; rw [w64 (by omega) (by omega), if_neg c, Option.bind_some, if_neg c]) (h.bind ?_), ?_⟩
    · by_cases d : r < 0
      · simp only [if_pos d]; exact Ev.now _
      · simp only [if_neg d]; exact Ev.now _
    · by_cases d : r < 0
      · rw [if_pos d]; exact Or.inl (by decide)
      · obtain ⟨_, e1, e, _⟩ := hr.resolve_left d
        rw [if_neg d]
        exact Or.inr ⟨by omega, e, by omega⟩
/-- The flush: spec and program lay the writes alike. -/
theorem fl_loop (l0 : List Int) (p : List S62) (hv : validD l0 p = true) : ∀ (d i : Nat), i + d = p.length → ∀ (x : List Int), x.length = l0.length →
    ∃ r : List Int, r.length = l0.length ∧ Ev (fun k => spec_l1Do.l0 k (i : Int) x p) (r, [], true) ∧ Ev (fun k => impl_do.l0 k p (p.length : Int) (i : Int) x p) (r, [], true) := by
  obtain ⟨hl, hp, hm, hf⟩ := valid_facts l0 p hv
  intro d
  induction d with
  | zero =>
    intro i hi x hx
    exact ⟨x, hx, Ev.step (f := fun _ => some (x, [], true)) (fun k => by simp only [spec_l1Do.l0]; rw [if_neg (by omega)]) (Ev.now _), Ev.step (f := fun _ => some (x, [], true)) (fun k => by simp only [impl_do.l0]; rw [if_neg (by omega)]) (Ev.now _)⟩
  | succ d ih =>
    intro i hi x hx
    have hip : i < p.length := by omega
    obtain ⟨b, hb1, hb2, hb3⟩ := hf i hip
    have hw : wrap64 ((i : Int) + 1) = ((i + 1 : Nat) : Int) := by rw [w64 (by omega) (by omega)]; rfl
    have hs : (splice x (b * 64) p[i].f1).length = l0.length := by rw [length_splice _ _ _ (by omega)]; exact hx
    obtain ⟨r, hr, h1, h2⟩ := ih (i + 1) (by omega) _ hs
    refine ⟨r, hr, Ev.step (f := fun k => (spec_l1Put.f k x (b : Int) p[i].f1).bind fun t => spec_l1Do.l0 k ((i + 1 : Nat) : Int) t p) (fun k => ?_) ((put_ev x p[i].f1 b (by omega) hb3 (by omega)).bind h1), Ev.step (f := fun k => impl_do.l0 k p (p.length : Int) ((i + 1 : Nat) : Int) (splice x (b * 64) p[i].f1) p) (fun k => ?_) h2⟩
    · simp only [spec_l1Do.l0]
      rw [if_pos (by omega), if_pos (by omega), rd62 p i hip, hb1, hw]
    · simp only [impl_do.l0]
      rw [if_pos (by omega), if_pos (by omega), if_pos (by omega), rd62 p i hip, hb1, lay_is k x p[i].f1 b (by omega) hb3 (by omega), Option.bind_some, hw]
theorem nb_is (l : List Int) (p : List S62) (h : l.length ≤ 1048576) : spec_l1Blocks.f l p = some ((l.length : Int) / 64) ∧ impl_nb.f l p = some ((l.length : Int) / 64) := by
  constructor
  · unfold spec_l1Blocks.f; rw [w64 (by omega) (by omega)]
  · unfold impl_nb.f; rw [w64 (by omega) (by omega)]
theorem valid_push (l : List Int) (p : List S62) (b : Int) (d : List Int) (hv : validD l p = true) (h1 : p.length < 600) (h2 : 0 ≤ b) (h3 : b < (l.length : Int) / 64) (h4 : d.length = 64) : validD l (p ++ [⟨b, d⟩]) = true := by
  unfold validD at hv ⊢
  rw [Bool.and_eq_true] at hv
  have hd := of_decide_eq_true hv.1
  rw [List.all_append, hv.2, decide_eq_true (by rw [List.length_append]; simp only [List.length_cons, List.length_nil]; omega)]
  simp only [List.all_cons, List.all_nil, okW, Bool.true_and, Bool.and_true]
  exact decide_eq_true ⟨h2, h3, h4⟩
theorem valid_flushed (l r : List Int) (p : List S62) (hv : validD l p = true) (h : r.length = l.length) : validD r [] = true := by
  unfold validD at hv ⊢
  rw [Bool.and_eq_true] at hv
  have hd := of_decide_eq_true hv.1
  rw [decide_eq_true (by rw [h]; simp only [List.length_nil]; omega)]; rfl
/-- One operation. -/
theorem one_op (l : List Int) (p : List S62) (c b : Int) (d : List Int) (hv : validD l p = true) (hd : d.length ≤ 1048576) :
    ∃ r, Ev (fun k => spec_l1Do.f k l p c b d) r ∧ Ev (fun k => impl_do.f k l p c b d) r ∧ (r.2.2 = true → validD r.1 r.2.1 = true) := by
  obtain ⟨hl, hp, hm, hf⟩ := valid_facts l p hv
  obtain ⟨n1, n2⟩ := nb_is l p (by omega)
  obtain ⟨c1, c2⟩ := cp_is d hd
  have no : ∀ x : Bool, x = false → c ≠ 1 → Ev (fun k => spec_l1Do.j0 k x l p c b d) (l, p, false) := fun x hx hc => Ev.step (f := fun _ => some (l, p, false)) (fun k => by simp only [spec_l1Do.j0]; rw [hx, if_neg (by decide), if_neg hc]) (Ev.now _)
  by_cases k1 : c = 1
  · have s0 : ∀ k, spec_l1Do.f k l p c b d = spec_l1Do.j0 k false l p c b d := fun k => by unfold spec_l1Do.f; rw [if_neg (by omega)]
    by_cases k2 : p.length = 600
    · exact ⟨(l, p, false), Ev.congr s0 (Ev.step (f := fun _ => some (l, p, false)) (fun k => by simp only [spec_l1Do.j0]; rw [if_neg (by decide), if_pos k1, if_pos (by omega)]) (Ev.now _)), Ev.congr (fun k => by unfold impl_do.f; rw [if_pos k1, if_pos (by omega)]) (Ev.now _), fun h => by cases h⟩
    by_cases k3 : b < 0
    · exact ⟨(l, p, false), Ev.congr s0 (Ev.step (f := fun _ => some (l, p, false)) (fun k => by simp only [spec_l1Do.j0]; rw [if_neg (by decide), if_pos k1, if_neg (by omega), if_pos k3]) (Ev.now _)), Ev.congr (fun k => by unfold impl_do.f; rw [if_pos k1, if_neg (by omega), if_pos k3]) (Ev.now _), fun h => by cases h⟩
    by_cases k4 : b ≥ (l.length : Int) / 64
    · exact ⟨(l, p, false), Ev.congr s0 (Ev.step (f := fun _ => some (l, p, false)) (fun k => by simp only [spec_l1Do.j0]; rw [if_neg (by decide), if_pos k1, if_neg (by omega), if_neg k3, n1, Option.bind_some, if_pos k4]) (Ev.now _)), Ev.congr (fun k => by unfold impl_do.f; rw [if_pos k1, if_neg (by omega), if_neg k3, n2, Option.bind_some, if_pos k4]) (Ev.now _), fun h => by cases h⟩
    by_cases k5 : (d.length : Int) = 64
    · refine ⟨(l, p ++ [⟨b, d⟩], true), Ev.congr s0 (Ev.step (f := fun _ => some (l, p ++ [⟨b, d⟩], true)) (fun k => by simp only [spec_l1Do.j0]; rw [if_neg (by decide), if_pos k1, if_neg (by omega), if_neg k3, n1, Option.bind_some, if_neg k4, if_pos k5, c1, Option.bind_some, if_pos (by omega)]) (Ev.now _)), Ev.congr (fun k => by unfold impl_do.f; rw [if_pos k1, if_neg (by omega), if_neg k3, n2, Option.bind_some, if_neg k4, if_pos k5, c2, Option.bind_some, if_pos (by omega)]) (Ev.now _), fun _ => valid_push l p b d hv (by omega) (by omega) (by omega) (by omega)⟩
    · exact ⟨(l, p, false), Ev.congr s0 (Ev.step (f := fun _ => some (l, p, false)) (fun k => by simp only [spec_l1Do.j0]; rw [if_neg (by decide), if_pos k1, if_neg (by omega), if_neg k3, n1, Option.bind_some, if_neg k4, if_neg k5]) (Ev.now _)), Ev.congr (fun k => by unfold impl_do.f; rw [if_pos k1, if_neg (by omega), if_neg k3, n2, Option.bind_some, if_neg k4, if_neg k5]) (Ev.now _), fun h => by cases h⟩
  by_cases k2 : c = 2
  rotate_left
  · exact ⟨(l, p, false), Ev.congr (fun k => by unfold spec_l1Do.f; rw [if_neg k2]) (no false rfl k1), Ev.congr (fun k => by unfold impl_do.f; rw [if_neg k1, if_neg k2]) (Ev.now _), fun h => by cases h⟩
  by_cases k3 : b = 0
  rotate_left
  · exact ⟨(l, p, false), Ev.congr (fun k => by unfold spec_l1Do.f; rw [if_pos k2, if_neg k3]) (no false rfl k1), Ev.congr (fun k => by unfold impl_do.f; rw [if_neg k1, if_pos k2, if_neg k3]) (Ev.step (f := fun _ => some (l, p, false)) (fun k => by simp only [impl_do.j0]; rw [if_pos trivial]) (Ev.now _)), fun h => by cases h⟩
  by_cases k4 : (d.length : Int) = 0
  rotate_left
  · have e1 : ((d.length : Int) == 0) = false := beq_eq_false_iff_ne.mpr k4
    have e2 : ((d.length : Int) != 0) = true := bne_iff_ne.mpr k4
    exact ⟨(l, p, false), Ev.congr (fun k => by unfold spec_l1Do.f; rw [if_pos k2, if_pos k3]) (no _ e1 k1), Ev.congr (fun k => by unfold impl_do.f; rw [if_neg k1, if_pos k2, if_pos k3, e2]) (Ev.step (f := fun _ => some (l, p, false)) (fun k => by simp only [impl_do.j0]; rw [if_pos trivial]) (Ev.now _)), fun h => by cases h⟩
  have e1 : ((d.length : Int) == 0) = true := beq_iff_eq.mpr k4
  have e2 : ((d.length : Int) != 0) = false := bne_eq_false_iff_eq.mpr k4
  obtain ⟨r, hr, h1, h2⟩ := fl_loop l p hv p.length 0 (by omega) l rfl
  refine ⟨(r, [], true), Ev.congr (fun k => by unfold spec_l1Do.f; rw [if_pos k2, if_pos k3, e1]) (Ev.step (fun k => by simp only [spec_l1Do.j0]; rw [if_pos trivial]; rfl) h1), Ev.congr (fun k => by unfold impl_do.f; rw [if_neg k1, if_pos k2, if_pos k3, e2]) (Ev.step (fun k => by simp only [impl_do.j0]; rw [if_neg (by decide)]; rfl) h2), fun _ => valid_flushed l r p hv hr⟩
theorem valid_fit (l : List Int) (p : List S62) (hv : validD l p = true) : l.length ≤ 1048576 ∧ p.length ≤ 1048576 ∧ ∀ y ∈ p, y.f1.length ≤ 1048576 := by
  obtain ⟨hl, hp, hm, hf⟩ := valid_facts l p hv
  refine ⟨by omega, by omega, fun y hy => ?_⟩
  obtain ⟨i, hi, rfl⟩ := List.mem_iff_getElem.1 hy
  obtain ⟨b, _, _, h⟩ := hf i hi
  omega
def fitR (r : List Int × List S62) : Prop := r.1.length ≤ 1048576 ∧ r.2.length ≤ 1048576 ∧ ∀ y ∈ r.2, y.f1.length ≤ 1048576
/-- The operations, one behind the other, as far as the limit lets. -/
theorem ops_loop (o : List S93) (m : Int) (ho : o.length ≤ 4000) (hg : ∀ y ∈ o, y.f2.length ≤ 1048576) : ∀ (d i : Nat), i + d = o.length → ∀ (l : List Int) (p : List S62), validD l p = true →
    ∃ r, fitR r ∧ Ev (fun k => spec_DiskDo.l0 k o m (i : Int) l p) r ∧ Ev (fun k => impl_DiskDo.l0 k m o (o.length : Int) (i : Int) l p) r := by
  intro d
  induction d with
  | zero =>
    intro i hi l p hv
    refine ⟨(l, p), valid_fit l p hv, ?_, Ev.step (f := fun _ => some (l, p)) (fun k => by simp only [impl_DiskDo.l0]; rw [if_neg (by omega)]) (Ev.now _)⟩
    exact Ev.step (f := fun k => spec_DiskDo.j2 k o m (i : Int) false l p) (fun k => by simp only [spec_DiskDo.l0]; rw [if_neg (by omega)]) (Ev.step (f := fun _ => some (l, p)) (fun k => by simp only [spec_DiskDo.j2]; rw [if_neg (by decide)]) (Ev.now _))
  | succ d ih =>
    intro i hi l p hv
    have hio : i < o.length := by omega
    have hw : wrap64 ((i : Int) + 1) = ((i + 1 : Nat) : Int) := by rw [w64 (by omega) (by omega)]; rfl
    by_cases c : 0 ≤ m ∧ m ≤ (i : Int)
    · refine ⟨(l, p), valid_fit l p hv, ?_, ?_⟩
      · exact Ev.step (f := fun k => spec_DiskDo.j2 k o m (i : Int) false l p) (fun k => by simp only [spec_DiskDo.l0]; rw [if_pos (by omega), if_neg (by omega), decide_eq_false (by omega)]) (Ev.step (f := fun _ => some (l, p)) (fun k => by simp only [spec_DiskDo.j2]; rw [if_neg (by decide)]) (Ev.now _))
      · exact Ev.step (f := fun k => impl_DiskDo.j2 k m o (o.length : Int) (i : Int) true l p o[i].f0 o[i].f1 o[i].f2) (fun k => by simp only [impl_DiskDo.l0]; rw [if_pos (by omega), if_pos (by omega), if_pos (by omega), if_pos (by omega), decide_eq_true (by omega), OP.rd93 o i hio]) (Ev.step (f := fun _ => some (l, p)) (fun k => by simp only [impl_DiskDo.j2]; rw [if_pos trivial]) (Ev.now _))
    obtain ⟨q, q1, q2, q3⟩ := one_op l p o[i].f0 o[i].f1 o[i].f2 hv (hg _ (List.getElem_mem hio))
    have key : ∃ r, fitR r ∧ Ev (fun k => if q.2.2 = true then spec_DiskDo.l0 k o m ((i + 1 : Nat) : Int) q.1 q.2.1 else some (([] : List Int), ([] : List S62))) r ∧ Ev (fun k => if q.2.2 = true then impl_DiskDo.l0 k m o (o.length : Int) ((i + 1 : Nat) : Int) q.1 q.2.1 else some (([] : List Int), ([] : List S62))) r := by
      by_cases e : q.2.2 = true
      · obtain ⟨r, hr, h1, h2⟩ := ih (i + 1) (by omega) q.1 q.2.1 (q3 e)
        exact ⟨r, hr, Ev.congr (fun k => if_pos e) h1, Ev.congr (fun k => if_pos e) h2⟩
      · exact ⟨([], []), ⟨by simp, by simp, fun y hy => absurd hy (by simp)⟩, Ev.congr (fun k => if_neg e) (Ev.now _), Ev.congr (fun k => if_neg e) (Ev.now _)⟩
    obtain ⟨r, hr, h1, h2⟩ := key
    refine ⟨r, hr, ?_, ?_⟩
    · have st : Ev (fun k => spec_DiskDo.j2 k o m (i : Int) true l p) r := Ev.step (fun k => by simp only [spec_DiskDo.j2]; rw [if_pos trivial, if_pos (by omega), if_pos (by omega), OP.rd93 o i hio, hw]) (q1.bind h1)
      by_cases e : m < 0
      · exact Ev.step (fun k => by simp only [spec_DiskDo.l0]; rw [if_pos (by omega), if_pos e]) st
      · exact Ev.step (fun k => by simp only [spec_DiskDo.l0]; rw [if_pos (by omega), if_neg e, decide_eq_true (by omega)]) st
    · have st : Ev (fun k => impl_DiskDo.j2 k m o (o.length : Int) (i : Int) false l p o[i].f0 o[i].f1 o[i].f2) r := Ev.step (fun k => by simp only [impl_DiskDo.j2]; rw [if_neg (by decide), hw]) (q2.bind h2)
      by_cases e : m ≥ 0
      · exact Ev.step (fun k => by simp only [impl_DiskDo.l0]; rw [if_pos (by omega), if_pos (by omega), if_pos (by omega), if_pos e, decide_eq_false (by omega), OP.rd93 o i hio]) st
      · exact Ev.step (fun k => by simp only [impl_DiskDo.l0]; rw [if_pos (by omega), if_pos (by omega), if_pos (by omega), if_neg e, OP.rd93 o i hio]) st
theorem do_ev (l : List Int) (p : List S62) (o : List S93) (m : Int) (hl : l.length ≤ 1048576) (hp : p.length ≤ 1048576 ∧ ∀ y ∈ p, y.f1.length ≤ 1048576) (ho : o.length ≤ 1048576) (hg : ∀ y ∈ o, y.f2.length ≤ 1048576) :
    ∃ r : List Int × List S62, fitR r ∧ Ev (fun k => spec_DiskDo.f k l p o m) r ∧ Ev (fun k => impl_DiskDo.f k l p o m) r := by
  have sv := spec_ev l p hl hp.1
  have iv := impl_ev l p hl hp.1
  have nil : fitR ([], []) := ⟨by simp, by simp, fun y hy => absurd hy (by simp)⟩
  have no1 : Ev (fun k => spec_DiskDo.j0 k o m true l p) ([], []) := Ev.step (f := fun _ => some ([], [])) (fun k => by simp only [spec_DiskDo.j0]; rw [if_pos trivial]) (Ev.now _)
  have no2 : Ev (fun k => impl_DiskDo.j0 k o m true l p) ([], []) := Ev.step (f := fun _ => some ([], [])) (fun k => by simp only [impl_DiskDo.j0]; rw [if_pos trivial]) (Ev.now _)
  by_cases cv : validD l p = true
  rotate_left
  · exact ⟨_, nil, Ev.congr (fun k => by unfold spec_DiskDo.f; rfl) (sv.bind (Ev.congr (fun k => if_neg cv) no1)), Ev.congr (fun k => by unfold impl_DiskDo.f; rfl) (iv.bind (Ev.congr (fun k => if_neg cv) no2))⟩
  by_cases c : (o.length : Int) > 4000
  · exact ⟨_, nil, Ev.congr (fun k => by unfold spec_DiskDo.f; rfl) (sv.bind (Ev.congr (fun k => by rw [if_pos cv, decide_eq_true c]) no1)), Ev.congr (fun k => by unfold impl_DiskDo.f; rfl) (iv.bind (Ev.congr (fun k => by rw [if_pos cv, decide_eq_true c]) no2))⟩
  obtain ⟨r, hr, h1, h2⟩ := ops_loop o m (by omega) hg o.length 0 (by omega) l p cv
  refine ⟨r, hr, Ev.congr (fun k => by unfold spec_DiskDo.f; rfl) (sv.bind (Ev.congr (fun k => by rw [if_pos cv, decide_eq_false c]) ?_)), Ev.congr (fun k => by unfold impl_DiskDo.f; rfl) (iv.bind (Ev.congr (fun k => by rw [if_pos cv, decide_eq_false c]) ?_))⟩
  · exact Ev.step (fun k => by simp only [spec_DiskDo.j0]; rw [if_neg (by decide)]) ((copy_s l p hl hp).bind h1)
  · exact Ev.step (fun k => by simp only [impl_DiskDo.j0]; rw [if_neg (by decide)]) ((copy_i l p hl hp).bind h2)
end DK
theorem FnExactDiskDo (l : List Int) (p : List S112) (o : List S100) (a : Int) (g0 : l.length ≤ maxLen ∧ ∀ y ∈ l, (Lit.int .u8 y).wf = true) (g1 : p.length ≤ maxLen ∧ ∀ y ∈ p, (Lit.int .i64 y.f0).wf = true ∧ (y.f1.length ≤ maxLen ∧ ∀ z ∈ y.f1, (Lit.int .u8 z).wf = true)) (g2 : o.length ≤ maxLen ∧ ∀ y ∈ o, (Lit.int .i64 y.f0).wf = true ∧ (Lit.int .i64 y.f1).wf = true ∧ (y.f2.length ≤ maxLen ∧ ∀ z ∈ y.f2, (Lit.int .u8 z).wf = true)) (_ : (Lit.int .i64 a).wf = true) : ∃ k, laws_FnExactDiskDo.f k l p o a = some true := by
  obtain ⟨z, hz, hz2⟩ := DK.szD2 l p g0.1 g1
  refine Ev.rounds (Ev.congr (fun k => by unfold laws_FnExactDiskDo.f; rfl) ?_)
  refine hz.bind ?_
  by_cases c : z < 0
  · exact Ev.congr (fun k => if_pos c) (Ev.now true)
  refine Ev.congr (fun k => if_neg c) ?_
  obtain ⟨hl, hf, hz3⟩ := hz2.resolve_left c
  obtain ⟨y, hy, hy2⟩ := OP.szHS o z (by omega) hz3 g2
  refine hy.bind ?_
  by_cases c2 : y < 0
  · exact Ev.congr (fun k => if_pos c2) (Ev.now true)
  refine Ev.congr (fun k => if_neg c2) ?_
  obtain ⟨_, _, hof, _⟩ := hy2.resolve_left c2
  have t := DK.toD l p hl hf
  have tb := OP.toHS o hof
  have fm := DK.fit_map p hf
  have fo := OP.fit_map o hof
  obtain ⟨⟨r, q⟩, r3, r1, r2⟩ := DK.do_ev l (p.map DK.toH) (o.map OP.toH) a hl fm fo.1 fo.2
  have eg := DK.eqD r q r3.1 r3.2
  have ed := DK.eqD l (p.map DK.toH) hl fm
  have eb := OP.eqHS (o.map OP.toH) fo.1 fo.2
  obtain ⟨n, l', p', hn, hn2, _, _, hm, _⟩ := DK.markD l (p.map DK.toH) hl fm
  have ht := OP.totO_le (o.map OP.toH) fo.2
  have fo1 := fo.1
  have mb := OP.markOS (o.map OP.toH) n hn fo.1 (by omega)
  obtain ⟨v, r', q', hv, _, _, _, gm, gh⟩ := DK.markD r q r3.1 r3.2
  refine t.bind (tb.bind (r1.bind (t.bind (tb.bind (r2.bind (eg.bind (Ev.congr (fun k => if_pos rfl) ?_)))))))
  refine t.bind (ed.bind (Ev.congr (fun k => if_pos rfl) ?_))
  refine tb.bind (eb.bind (Ev.congr (fun k => if_pos rfl) ?_))
  refine hm.bind (mb.bind (Ev.congr (fun k => if_neg (by dsimp only; omega)) ?_))
  refine eg.bind (Ev.congr (fun k => if_pos rfl) ?_)
  refine gm.bind (gh.bind (Ev.congr (fun k => if_neg (by omega)) (Ev.congr (fun k => if_pos rfl) ?_)))
  refine t.bind (tb.bind (r2.bind (eg.bind (Ev.congr (fun k => if_pos rfl) ?_))))
  exact gh.bind (Ev.congr (fun k => if_neg (by omega)) (Ev.congr (fun k => if_pos rfl) (Ev.now _)))
end Go.Proofs.Ytdhjhadcadcceaa.Pure
