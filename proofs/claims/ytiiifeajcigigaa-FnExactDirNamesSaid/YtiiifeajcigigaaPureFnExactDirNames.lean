/- FnExactDirNames: at every list of entries the program's DirNames returns what the reference's returns, in memory of its own; the entries stay as they were (the plain law; the row stands beside it). -/
import Derived.Test.YtiiifeajcigigaaPFnExactDirNamesx
import Derived.Test.YtiiifeajcigigaaHlp2
namespace Go.Proofs.Ytiiifeajcigigaa.Pure
open Go.RowKit Go.Proofs.Ytiiifeajcigigaa.PFnExactDirNames Go.Proofs.YtiiifeajcigigaaW.PrintWords Go.Proofs.YtiiifeajcigigaaW.PrintLast Go.Proofs.YtiiifeajcigigaaW.PrintMore Go.Proofs.Ytiiifeajcigigaa.Hlp
set_option linter.unusedVariables false
namespace DR
theorem rd105 (l : List S23) (i : Nat) (h : i < l.length) : rd_T23 l (i : Int) = l[i] := by simp [rd_T23, h]
theorem rd106 (l : List S27) (i : Nat) (h : i < l.length) : rd_T27 l (i : Int) = l[i] := by simp [rd_T27, h]
def toE (e : S23) : S27 := ⟨e.f0, e.f1⟩
theorem szE (l : List S23) (hl : l.length ≤ maxLen) (hg : ∀ y ∈ l, (Lit.int .i64 y.f0).wf = true ∧ y.f1.size ≤ maxLen) :
    ∃ r, Ev (fun k => laws_szEntryS.f k l 1048576) r ∧ (r < 0 ∨ (l.length ≤ 1048576 ∧ (l.map (fun e => e.f1.size)).sum ≤ 1048576)) := by
  have hm : maxLen ≤ 9223372036854775807 := by decide
  by_cases c : (wrap64 (1048576 - (l.length : Int))) < 0
  · exact ⟨-1, Ev.congr (fun k => by unfold laws_szEntryS.f; rw [if_pos c]) (Ev.now _), Or.inl (by decide)⟩
  · rw [w64 (by omega) (by omega)] at c
    have hl6 : l.length ≤ 1048576 := by omega
    obtain ⟨r, h, hr⟩ := szG_ev (fun e : S23 => e.f1.size) (L := laws_szEntryS.l0) l (by
      intro i s hi h0 hs
      have hy := (hg l[i] (List.getElem_mem _)).2
      have hw : wrap64 ((i : Int) + 1) = ((i + 1 : Nat) : Int) := by rw [w64 (by omega) (by omega)]; rfl
      by_cases d : (l[i].f1.size : Int) ≤ s
      · refine Or.inr ⟨d, fun r h => Ev.step (fun k => ?_) h⟩
        simp only [laws_szEntryS.l0, laws_szEntry.f]
        rw [if_pos (by omega), if_pos (by omega), rd105 l i hi, w64 (x := s - _) (by omega) (by omega), if_neg (by omega), Option.bind_some, if_neg (by omega), hw]
      · refine Or.inl ⟨-1, by decide, Ev.step (f := fun _ => some (-1)) (fun k => ?_) (Ev.now _)⟩
        simp only [laws_szEntryS.l0, laws_szEntry.f]
        rw [if_pos (by omega), if_pos (by omega), rd105 l i hi, w64 (x := s - _) (by omega) (by omega), if_pos (by omega), Option.bind_some, if_pos (by omega)])
      (fun s => Ev.step (f := fun _ => some s) (fun k => by simp only [laws_szEntryS.l0]; rw [if_neg (by omega)]) (Ev.now _)) (1048576 - (l.length : Int)) (by omega) (by omega)
    refine ⟨r, Ev.congr (fun k => by unfold laws_szEntryS.f; rw [w64 (by omega) (by omega), if_neg (by omega)]) h, ?_⟩
    rcases hr with h | ⟨h1, h2⟩
    · exact Or.inl h
    · exact Or.inr (by omega)
theorem toES (l : List S23) (hl : l.length ≤ 1048576) : Ev (fun k => laws_toEntryS.f k l) (l.map toE) := by
  refine Ev.congr (f := fun k => laws_toEntryS.l0 k l (List.replicate l.length z27) 0) (fun k => by unfold laws_toEntryS.f; rw [if_pos (by omega), if_pos (by simp; omega)]; simp) ?_
  refine fill_ev (L := fun k x i => laws_toEntryS.l0 k l x i) l toE ?_ ?_ _ (by simp)
  · intro i x hi hx r h
    refine Ev.step (fun k => ?_) h
    simp only [laws_toEntryS.l0, laws_toEntry.f]
    rw [if_pos (by omega), if_pos (by omega), Option.bind_some, if_pos (by omega), w64 (by omega) (by omega), rd105 l i hi]
    rfl
  · intro x hx
    exact Ev.step (f := fun _ => some x) (fun k => by simp only [laws_toEntryS.l0]; rw [if_neg (by omega)]) (Ev.now _)
theorem eqES (l : List S27) (hl : l.length ≤ 281474976710656) : Ev (fun k => laws_eqEntryS.f k l l) true := by
  refine Ev.congr (f := fun k => laws_eqEntryS.l0 k l l 0) (fun k => by unfold laws_eqEntryS.f; rw [if_pos rfl]) ?_
  refine eqG_ev (L := laws_eqEntryS.l0) l ?_ ?_
  · intro i hi h
    refine Ev.step (fun k => ?_) h
    simp only [laws_eqEntryS.l0, laws_eqEntry.f]
    rw [if_pos (by omega), if_pos (by omega), if_pos (by omega), w64 (by omega) (by omega)]
    simp
  · exact Ev.step (f := fun _ => some true) (fun k => by simp only [laws_eqEntryS.l0]; rw [if_neg (by omega)]) (Ev.now _)
theorem text_loop (n : Nat) : ∀ (x : Int) (s : ByteArray), 0 ≤ x → x ≤ n → x + s.size ≤ 4611686018427387904 → ∃ r, Ev (fun k => laws_markText.l0 k x s) r := by
  induction n with
  | zero =>
    intro x s h0 h1 h2
    exact ⟨_, Ev.step (f := fun _ => some ((⟨#[109]⟩ : ByteArray) ++ s)) (fun k => by simp only [laws_markText.l0]; rw [if_neg (by omega), if_pos (by omega)]) (Ev.now _)⟩
  | succ n ih =>
    intro x s h0 h1 h2
    by_cases c : x > 0
    · have ht : Int.tdiv x 10 = x / 10 := Int.tdiv_eq_ediv_of_nonneg h0
      have hs : ∀ l : List Int, l.length = 1 → ((strOfNums l) ++ s).size = 1 + s.size := fun l hl => by rw [ByteArray.size_append, strOfNums_size, hl]
      obtain ⟨r, h⟩ := ih (x / 10) ((strOfNums [(wrap64 (48 + (Int.tmod x 10))) % 256]) ++ s) (by omega) (by omega) (by rw [hs _ rfl]; omega)
      exact ⟨r, Ev.step (fun k => by simp only [laws_markText.l0, Option.bind_some]; rw [if_pos c, if_pos (by rw [strOfNums_size]; simp only [List.length_cons, List.length_nil]; omega), ht, w64 (x := x / 10) (by omega) (by omega)]) h⟩
    · exact ⟨_, Ev.step (f := fun _ => some ((⟨#[109]⟩ : ByteArray) ++ s)) (fun k => by simp only [laws_markText.l0]; rw [if_neg c, if_pos (by omega)]) (Ev.now _)⟩
theorem text_some (n : Int) (h : n ≤ 4611686018427387904) : ∃ r, Ev (fun k => laws_markText.f k n) r := by
  by_cases c : n ≤ 0
  · exact ⟨_, Ev.congr (fun k => by unfold laws_markText.f; rw [if_pos c]) (Ev.now (⟨#[109, 48]⟩ : ByteArray))⟩
  · obtain ⟨r, h⟩ := text_loop n.toNat n ⟨#[]⟩ (by omega) (by omega) (by simp [ByteArray.size]; omega)
    exact ⟨r, Ev.congr (fun k => by unfold laws_markText.f; rw [if_neg c]) h⟩
open Classical in
noncomputable def textOf (n : Int) : ByteArray := if h : ∃ t, Ev (fun k => laws_markText.f k n) t then Classical.choose h else ⟨#[]⟩
theorem text_ev (n : Int) (h : n ≤ 4611686018427387904) : Ev (fun k => laws_markText.f k n) (textOf n) := by
  have := text_some n h
  unfold textOf; rw [dif_pos this]; exact Classical.choose_spec this
noncomputable def mkE (_ : S27) (s : Int) : S27 := ⟨s, textOf (s + 1)⟩
theorem markES (l : List S27) (s : Int) (h0 : 0 ≤ s) (hl : l.length ≤ 1048576) (hb : s + (2 * l.length : Nat) ≤ 4194304) : Ev (fun k => laws_markEntryS.f k l s) (s + (2 * l.length : Nat), marksG mkE 2 s l) := by
  refine markG_ev mkE 2 (L := laws_markEntryS.l0) 4194304 ?_ ?_ l s h0 (by omega) hb
  · intro i x s hi hx h0 hs r h
    have hw : wrap64 ((i : Int) + 1) = ((i + 1 : Nat) : Int) := by rw [w64 (by omega) (by omega)]; rfl
    have hs2 : wrap64 (s + 1) = s + 1 := w64 (by omega) (by omega)
    have hs3 : wrap64 (s + 1 + 1) = s + ((2 : Nat) : Int) := by rw [w64 (by omega) (by omega)]; omega
    refine Ev.step (f := fun k => (laws_markText.f k (s + 1)).bind fun t => laws_markEntryS.l0 k (x.set i (⟨s, t⟩ : S27)) (s + ((2 : Nat) : Int)) ((i + 1 : Nat) : Int)) (fun k => ?_) ?_
    · simp only [laws_markEntryS.l0, Option.bind_some]
      rw [if_pos (by omega), if_pos (by omega), hw, hs2, hs3]
      congr 1
      funext t
      rw [Int.toNat_natCast, List.set_set, rd106 _ i (by simpa using hi), List.getElem_set]
      simp
    · exact (text_ev (s + 1) (by omega)).bind h
  · intro x s
    exact Ev.step (f := fun _ => some (s, x)) (fun k => by simp only [laws_markEntryS.l0]; rw [if_neg (by omega)]) (Ev.now _)
end DR
namespace DN
open DR
def D (s : ByteArray) : List UInt8 := s.data.toList
def unD (l : List UInt8) : ByteArray := ⟨l.toArray⟩
theorem unD_D (s : ByteArray) : unD (D s) = s := rfl
theorem D_unD (l : List UInt8) : D (unD l) = l := rfl
theorem le_tr (a b c : List UInt8) (h1 : a ≤ b) (h2 : b ≤ c) : a ≤ c := List.le_trans h1 h2
theorem le_tot (a b : List UInt8) : a ≤ b ∨ b ≤ a := List.le_total a b
theorem le_asy (a b : List UInt8) (h1 : a ≤ b) (h2 : b ≤ a) : a = b := List.le_antisymm h1 h2
theorem sort_sorted (l : List (List UInt8)) : (l.mergeSort (fun x y => decide (x ≤ y))).Pairwise (fun x y => x ≤ y) := by
  have := List.pairwise_mergeSort (le := fun x y : List UInt8 => decide (x ≤ y)) (by intro a b c; simpa using le_tr a b c) (by intro a b; simpa using le_tot a b) l
  simpa using this
def namesOf (l : List S27) : List ByteArray := ((l.map (fun e => D e.f1)).mergeSort (fun x y => decide (x ≤ y))).map unD
theorem names_len (l : List S27) : (namesOf l).length = l.length := by simp [namesOf]
theorem impl_names (l : List S27) (hl : l.length ≤ 1000) : Ev (fun k => impl_DirNames.f k l) (namesOf l) := by
  have key := down (P := fun i => Ev (fun k => impl_DirNames.l0 k ((l.map (·.f1)).take i) l (l.length : Int) (i : Int)) (namesOf l)) l.length ?_ ?_
  · refine Ev.congr (fun k => by unfold impl_DirNames.f; rw [if_neg (by omega)]) ?_
    simpa using key
  · refine Ev.step (f := fun k => (sort_Strings.f ((l.map (·.f1)).take l.length)).bind fun t152 => (some t152)) (fun k => by simp only [impl_DirNames.l0]; rw [if_neg (by omega)]) (Ev.congr (f := fun _ => some (namesOf l)) (fun k => ?_) (Ev.now _))
    rw [List.take_of_length_le (by simp)]
    unfold sort_Strings.f
    rw [if_pos (by simp; omega), Option.bind_some, List.map_map]
    rfl
  · intro i hi h
    have hw : wrap64 ((i : Int) + 1) = ((i + 1 : Nat) : Int) := by rw [w64 (by omega) (by omega)]; rfl
    rw [List.take_succ_eq_append_getElem (by simpa using hi)] at h
    refine Ev.step (fun k => ?_) h
    simp only [impl_DirNames.l0]
    rw [if_pos (by omega), if_pos (by omega), if_pos (by omega), if_pos (by rw [List.length_take, List.length_map]; omega), hw, rd106 l i hi, List.getElem_map]
theorem rdS (l : List ByteArray) (i : Nat) (h : i < l.length) : rdOf ByteArray.empty l (i : Int) = l[i] := by simp [rdOf, h]
theorem blt (x y : ByteArray) : Op.bytesLess x.toList y.toList = decide (D x < D y) := by rw [ByteArray.toList_eq, ByteArray.toList_eq, bytesLess_eq]; rfl
/-- Where a text is put: behind the last one that is not greater. -/
def pos (s : ByteArray) (o : List ByteArray) : Nat → Nat
  | 0 => 0
  | j + 1 => if D s < D (o.getD j ByteArray.empty) then pos s o j else j + 1
theorem pos_le (s : ByteArray) (o : List ByteArray) : ∀ j, pos s o j ≤ j
  | 0 => Nat.le_refl _
  | j + 1 => by simp only [pos]; split; · have := pos_le s o j; omega
                · omega
theorem pos_above (s : ByteArray) (o : List ByteArray) : ∀ j, ∀ i (h : i < o.length), pos s o j ≤ i → i < j → D s < D o[i]
  | 0, i, _, _, h => by omega
  | j + 1, i, h, h1, h2 => by
    simp only [pos] at h1
    split at h1
    · rename_i c
      by_cases e : i = j
      · subst e; rwa [List.getD_eq_getElem?_getD, List.getElem?_eq_getElem h] at c
      · exact pos_above s o j i h h1 (by omega)
    · omega
theorem pos_below (s : ByteArray) (o : List ByteArray) : ∀ j, ∀ i (h : i < o.length), i + 1 = pos s o j → D o[i] ≤ D s
  | 0, i, _, h => by simp [pos] at h
  | j + 1, i, h, h1 => by
    simp only [pos] at h1
    split at h1
    · exact pos_below s o j i h h1
    · rename_i c
      obtain rfl : i = j := by omega
      rw [List.getD_eq_getElem?_getD, List.getElem?_eq_getElem h] at c
      exact List.not_lt.1 c
def ins (s : ByteArray) (o : List ByteArray) : List ByteArray := o.take (pos s o o.length) ++ s :: o.drop (pos s o o.length)
def Srt (o : List ByteArray) : Prop := o.Pairwise (fun x y => D x ≤ D y)
theorem ins_perm (s : ByteArray) (o : List ByteArray) : (ins s o).Perm (s :: o) := by
  unfold ins
  have h := List.perm_middle (a := s) (l₁ := o.take (pos s o o.length)) (l₂ := o.drop (pos s o o.length))
  rwa [List.take_append_drop] at h
theorem ins_srt (s : ByteArray) (o : List ByteArray) (h : Srt o) : Srt (ins s o) := by
  unfold ins Srt
  have hp := pos_le s o o.length
  have hd : ∀ y ∈ o.drop (pos s o o.length), D s ≤ D y := by
    intro y hy
    obtain ⟨i, hi, rfl⟩ := List.getElem_of_mem hy
    rw [List.getElem_drop]
    exact List.le_of_lt (pos_above s o o.length _ (by rw [List.length_drop] at hi; omega) (by omega) (by rw [List.length_drop] at hi; omega))
  have ht : ∀ y ∈ o.take (pos s o o.length), D y ≤ D s := by
    intro y hy
    obtain ⟨i, hi, rfl⟩ := List.getElem_of_mem hy
    rw [List.length_take] at hi
    rw [List.getElem_take]
    have hb := pos_below s o o.length (pos s o o.length - 1) (by omega) (by omega)
    by_cases e : i = pos s o o.length - 1
    · subst e; exact hb
    · exact le_tr _ _ _ (List.pairwise_iff_getElem.1 h i (pos s o o.length - 1) (by omega) (by omega) (by omega)) hb
  refine List.pairwise_append.2 ⟨List.Pairwise.take h, List.pairwise_cons.2 ⟨hd, List.Pairwise.drop h⟩, fun a ha b hb => ?_⟩
  rcases List.mem_cons.1 hb with rfl | hb
  · exact ht a ha
  · exact le_tr _ _ _ (ht a ha) (hd b hb)
theorem shift (x0 o : List ByteArray) (i : Nat) (hi : i < x0.length) (hx : x0.length ≤ 1000) (ho : o.length ≤ 1000) (p : Nat) (r : List ByteArray) (h : Ev (fun k => spec_l10Sorted.l0 k x0 (o.take p ++ x0[i] :: o.drop p) ((i + 1 : Nat) : Int)) r) :
    ∀ (d : Nat) (g : ByteArray), p + d ≤ o.length → Ev (fun k => spec_l10Sorted.l2 k x0 (o.take (p + d) ++ g :: o.drop (p + d)) (i : Int) (p : Int) ((p + d : Nat) : Int)) r := by
  have hw : wrap64 ((i : Int) + 1) = ((i + 1 : Nat) : Int) := by rw [w64 (by omega) (by omega)]; rfl
  intro d
  induction d with
  | zero =>
    intro g hp
    refine Ev.step (fun k => ?_) h
    have hl : (o.take (p + 0) ++ g :: o.drop (p + 0)).length = o.length + 1 := by simp; omega
    simp only [spec_l10Sorted.l2]
    rw [if_neg (by omega), if_pos (by omega), if_pos (by omega), if_pos (by omega), if_pos (by omega), hw, rdS x0 i hi, Int.toNat_natCast]
    have e : (o.take (p + 0) ++ g :: o.drop (p + 0)).set p x0[i] = o.take p ++ x0[i] :: o.drop p := by
      rw [Nat.add_zero, List.set_append_right _ _ (by rw [List.length_take]; omega)]
      rw [show p - (o.take p).length = 0 by rw [List.length_take]; omega]
      rfl
    rw [e]
  | succ d ih =>
    intro g hp
    have hl : (o.take (p + (d + 1)) ++ g :: o.drop (p + (d + 1))).length = o.length + 1 := by simp; omega
    have hw2 : wrap64 (((p + (d + 1) : Nat) : Int) - 1) = ((p + d : Nat) : Int) := by rw [w64 (by omega) (by omega)]; omega
    refine Ev.step (fun k => ?_) (ih (o[p + d]'(by omega)) (by omega))
    simp only [spec_l10Sorted.l2]
    rw [if_pos (by omega), hw2, if_pos (by omega), if_pos (by omega), if_pos (by omega), if_pos (by omega), rdS _ (p + d) (by omega), Int.toNat_natCast]
    have e1 : (o.take (p + (d + 1)) ++ g :: o.drop (p + (d + 1)))[p + d]'(by omega) = o[p + d]'(by omega) := by
      rw [List.getElem_append_left (by rw [List.length_take]; omega), List.getElem_take]
    have e2 : (o.take (p + (d + 1)) ++ g :: o.drop (p + (d + 1))).set (p + (d + 1)) (o[p + d]'(by omega)) = o.take (p + d) ++ o[p + d]'(by omega) :: o.drop (p + d) := by
      rw [List.set_append_right _ _ (by rw [List.length_take]; omega), show p + (d + 1) - (o.take (p + (d + 1))).length = 0 by rw [List.length_take]; omega, List.set_cons_zero]
      rw [show p + (d + 1) = (p + d) + 1 by omega, List.take_succ_eq_append_getElem (by omega), List.drop_eq_getElem_cons (by omega : p + d < o.length), List.append_assoc]
      rfl
    rw [e1, e2]
theorem search (x0 o : List ByteArray) (i : Nat) (hi : i < x0.length) (hx : x0.length ≤ 1000) (ho : o.length ≤ 1000) (r : List ByteArray) : ∀ j : Nat, j ≤ o.length → Ev (fun k => spec_l10Sorted.j2 k x0 o (i : Int) ((pos x0[i] o j : Nat) : Int)) r → Ev (fun k => spec_l10Sorted.l1 k x0 o (i : Int) (j : Int)) r := by
  intro j
  induction j with
  | zero =>
    intro _ h
    refine Ev.step (fun k => ?_) h
    simp only [spec_l10Sorted.l1]
    rw [if_neg (by omega)]; rfl
  | succ j ih =>
    intro hj h
    have hw2 : wrap64 (((j + 1 : Nat) : Int) - 1) = (j : Int) := by rw [w64 (by omega) (by omega)]; omega
    simp only [pos] at h
    rw [List.getD_eq_getElem?_getD, List.getElem?_eq_getElem (by omega : j < o.length), Option.getD_some] at h
    by_cases c : D x0[i] < D (o[j]'(by omega))
    · rw [if_pos c] at h
      refine Ev.step (fun k => ?_) (ih (by omega) h)
      simp only [spec_l10Sorted.l1]
      rw [if_pos (by omega), hw2, if_pos (by omega), if_pos (by omega), if_pos (by omega), if_pos (by omega), rdS x0 i hi, rdS o j (by omega), blt, if_pos (decide_eq_true c)]
    · rw [if_neg c] at h
      refine Ev.step (fun k => ?_) h
      simp only [spec_l10Sorted.l1]
      rw [if_pos (by omega), hw2, if_pos (by omega), if_pos (by omega), if_pos (by omega), if_pos (by omega), rdS x0 i hi, rdS o j (by omega), blt, if_neg (by simpa using c)]
theorem sorted_loop (x0 : List ByteArray) (hx : x0.length ≤ 1000) : ∀ (d i : Nat), i + d = x0.length → ∀ o, o.length = i → Srt o → o.Perm (x0.take i) → ∃ r, Ev (fun k => spec_l10Sorted.l0 k x0 o (i : Int)) r ∧ Srt r ∧ r.Perm x0 := by
  intro d
  induction d with
  | zero =>
    intro i hi o ho hs hp
    refine ⟨o, Ev.step (f := fun _ => some o) (fun k => by simp only [spec_l10Sorted.l0]; rw [if_neg (by omega)]) (Ev.now _), hs, ?_⟩
    rwa [List.take_of_length_le (by omega)] at hp
  | succ d ih =>
    intro i hi o ho hs hp
    have hil : i < x0.length := by omega
    have hlen : (ins x0[i] o).length = i + 1 := by rw [(ins_perm x0[i] o).length_eq]; simp [ho]
    obtain ⟨r, h1, h2, h3⟩ := ih (i + 1) (by omega) (ins x0[i] o) hlen (ins_srt _ _ hs) (by
      rw [List.take_succ_eq_append_getElem hil]
      exact (ins_perm x0[i] o).trans ((hp.cons _).trans (List.perm_append_singleton _ _).symm))
    refine ⟨r, ?_, h2, h3⟩
    have hpl := pos_le x0[i] o o.length
    have hsh := shift x0 o i hil hx (by omega) (pos x0[i] o o.length) r h1 (o.length - pos x0[i] o o.length) (⟨#[]⟩ : ByteArray) (by omega)
    rw [show pos x0[i] o o.length + (o.length - pos x0[i] o o.length) = o.length by omega, List.take_length, List.drop_length] at hsh
    have hj : Ev (fun k => spec_l10Sorted.j2 k x0 o (i : Int) ((pos x0[i] o o.length : Nat) : Int)) r := by
      refine Ev.step (fun k => ?_) hsh
      simp only [spec_l10Sorted.j2]
      have hle : (o ++ [(⟨#[]⟩ : ByteArray)]).length = o.length + 1 := by simp
      rw [if_pos (by omega), Option.bind_some, w64 (by omega) (by omega), hle]
      congr 1
      omega
    refine Ev.step (fun k => ?_) (search x0 o i hil hx (by omega) r o.length (Nat.le_refl _) hj)
    simp only [spec_l10Sorted.l0]
    rw [if_pos (by omega)]
theorem spec_names (l : List S27) (hl : l.length ≤ 1000) : Ev (fun k => spec_DirNames.l0 k l [] 0) (namesOf l) := by
  obtain ⟨r, h1, h2, h3⟩ := sorted_loop (l.map (·.f1)) (by simpa using hl) (l.map (·.f1)).length 0 (by omega) [] rfl List.Pairwise.nil (by simp)
  have hr : r = namesOf l := by
    have e : r.map D = (l.map (fun e => D e.f1)).mergeSort (fun x y => decide (x ≤ y)) := by
      refine List.Perm.eq_of_pairwise (le := fun x y => x ≤ y) (fun a b _ _ => le_asy a b) (List.pairwise_map.2 h2) (sort_sorted _) ?_
      refine (h3.map D).trans ?_
      rw [List.map_map]
      exact (List.mergeSort_perm _ _).symm
    unfold namesOf
    rw [← e, List.map_map]
    have : (unD ∘ D) = id := by funext s; rfl
    rw [this, List.map_id]
  subst hr
  have key := down (P := fun i => Ev (fun k => spec_DirNames.l0 k l ((l.map (·.f1)).take i) (i : Int)) (namesOf l)) l.length ?_ ?_
  · simpa using key
  · refine Ev.step (fun k => by simp only [spec_DirNames.l0]; rw [if_neg (by omega), List.take_of_length_le (by simp)]) ?_
    exact h1.bind (Ev.now _)
  · intro i hi h
    have hw : wrap64 ((i : Int) + 1) = ((i + 1 : Nat) : Int) := by rw [w64 (by omega) (by omega)]; rfl
    rw [List.take_succ_eq_append_getElem (by simpa using hi)] at h
    refine Ev.step (fun k => ?_) h
    simp only [spec_DirNames.l0]
    rw [if_pos (by omega), if_pos (by omega), if_pos (by rw [List.length_take, List.length_map]; omega), hw, rd106 l i hi, List.getElem_map]
theorem both (l : List S27) : ∃ r, Ev (fun k => spec_DirNames.f k l) r ∧ Ev (fun k => impl_DirNames.f k l) r ∧ r.length ≤ 1000 := by
  by_cases c : (l.length : Int) > 1000
  · exact ⟨[], Ev.congr (fun k => by unfold spec_DirNames.f; rw [Option.bind_some, if_pos c]) (Ev.now _), Ev.congr (fun k => by unfold impl_DirNames.f; rw [if_pos c]) (Ev.now _), by simp⟩
  · exact ⟨namesOf l, Ev.congr (fun k => by unfold spec_DirNames.f; rw [Option.bind_some, if_neg c]) (spec_names l (by omega)), impl_names l (by omega), by rw [names_len]; omega⟩
theorem eqSS (l : List ByteArray) (hl : l.length ≤ 281474976710656) : Ev (fun k => laws_eqStringS.f k l l) true := by
  refine Ev.congr (f := fun k => laws_eqStringS.l0 k l l 0) (fun k => by unfold laws_eqStringS.f; rw [if_pos rfl]) ?_
  refine eqG_ev (L := laws_eqStringS.l0) l ?_ ?_
  · intro i hi h
    refine Ev.step (fun k => ?_) h
    simp only [laws_eqStringS.l0]
    rw [if_pos (by omega), if_pos (by omega), if_pos (by omega), if_pos trivial, w64 (by omega) (by omega)]; rfl
  · exact Ev.step (f := fun _ => some true) (fun k => by simp only [laws_eqStringS.l0]; rw [if_neg (by omega)]) (Ev.now _)
noncomputable def mkS (_ : ByteArray) (s : Int) : ByteArray := textOf s
theorem markSS (l : List ByteArray) (s : Int) (h0 : 0 ≤ s) (hl : l.length ≤ 1048576) (hb : s + (1 * l.length : Nat) ≤ 4194304) : Ev (fun k => laws_markStringS.f k l s) (s + (1 * l.length : Nat), marksG mkS 1 s l) := by
  refine markG_ev mkS 1 (L := laws_markStringS.l0) 4194304 ?_ ?_ l s h0 (by omega) hb
  · intro i x s hi hx h0 hs r h
    have hw : wrap64 ((i : Int) + 1) = ((i + 1 : Nat) : Int) := by rw [w64 (by omega) (by omega)]; rfl
    have hs2 : wrap64 (s + 1) = s + ((1 : Nat) : Int) := w64 (by omega) (by omega)
    refine Ev.step (fun k => by simp only [laws_markStringS.l0]; rw [if_pos (by omega), hw, hs2]) ?_
    exact (text_ev s (by omega)).bind (Ev.congr (fun k => by rw [if_pos (by omega), Int.toNat_natCast]; rfl) h)
  · intro x s
    exact Ev.step (f := fun _ => some (s, x)) (fun k => by simp only [laws_markStringS.l0]; rw [if_neg (by omega)]) (Ev.now _)
theorem heldSS (l : List ByteArray) (s : Int) (h0 : 0 ≤ s) (hl : l.length ≤ 1048576) (hb : s + (1 * l.length : Nat) ≤ 4194304) : Ev (fun k => laws_heldStringS.f k (marksG mkS 1 s l) s) (s + (1 * l.length : Nat)) := by
  refine heldG_ev mkS 1 (L := laws_heldStringS.l0) 4194304 ?_ ?_ l s h0 (by omega) hb
  · intro i x s b hi hxi hx h0 hs r h
    have hw : wrap64 ((i : Int) + 1) = ((i + 1 : Nat) : Int) := by rw [w64 (by omega) (by omega)]; rfl
    have hs2 : wrap64 (s + 1) = s + ((1 : Nat) : Int) := w64 (by omega) (by omega)
    refine Ev.step (fun k => by simp only [laws_heldStringS.l0]; rw [if_pos (by omega), if_pos (by omega), rdS x i hi, hxi, hw, hs2]) ?_
    exact (text_ev s (by omega)).bind (Ev.congr (fun k => if_pos rfl) h)
  · intro x s
    exact Ev.step (f := fun _ => some s) (fun k => by simp only [laws_heldStringS.l0]; rw [if_neg (by omega)]) (Ev.now _)
end DN
theorem FnExactDirNames (l : List S23) (g : l.length ≤ maxLen ∧ ∀ y ∈ l, (Lit.int .i64 y.f0).wf = true ∧ y.f1.size ≤ maxLen) : ∃ k, laws_FnExactDirNames.f k l = some true := by
  obtain ⟨z, hz, hz2⟩ := DR.szE l g.1 g.2
  refine Ev.rounds (Ev.congr (fun k => by unfold laws_FnExactDirNames.f; rfl) ?_)
  refine hz.bind ?_
  by_cases c : z < 0
  · exact Ev.congr (fun k => if_pos c) (Ev.now true)
  refine Ev.congr (fun k => if_neg c) ?_
  have hl : l.length ≤ 1048576 := (hz2.resolve_left c).1
  have t := DR.toES l hl
  have hl2 : (l.map DR.toE).length ≤ 1048576 := by simpa using hl
  have et := DR.eqES (l.map DR.toE) (by omega)
  have mt := DR.markES (l.map DR.toE) 1 (by omega) hl2 (by omega)
  obtain ⟨r, s, i, hr⟩ := DN.both (l.map DR.toE)
  have e := DN.eqSS r (by omega)
  have m := DN.markSS r 1 (by omega) (by omega) (by omega)
  have hd := DN.heldSS r 1 (by omega) (by omega) (by omega)
  refine t.bind ?_
  refine s.bind ?_
  refine t.bind ?_
  refine i.bind ?_
  refine e.bind ?_
  refine Ev.congr (fun k => if_pos rfl) ?_
  refine t.bind ?_
  refine et.bind ?_
  refine Ev.congr (fun k => if_pos rfl) ?_
  refine mt.bind ?_
  refine Ev.congr (fun k => if_neg (by simp only; omega)) ?_
  refine e.bind ?_
  refine Ev.step (fun k => by simp only [laws_FnExactDirNames.j0]; rw [if_neg (by decide)]) ?_
  refine m.bind ?_
  refine hd.bind ?_
  refine Ev.congr (fun k => if_neg (by omega)) ?_
  refine Ev.congr (fun k => if_pos rfl) ?_
  refine t.bind ?_
  refine i.bind ?_
  refine e.bind ?_
  refine Ev.congr (fun k => if_pos rfl) ?_
  refine hd.bind ?_
  refine Ev.congr (fun k => if_neg (by omega)) ?_
  exact Ev.congr (fun k => if_pos rfl) (Ev.now true)
end Go.Proofs.Ytiiifeajcigigaa.Pure
