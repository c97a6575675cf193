/- FnExactSplitPath: at every text the program's SplitPath returns what the reference's returns. -/
import Derived.Test.YtjaiolojmglmiaaDoorPFnExactSplitPathx
import Derived.Test.YtjaiolojmglmiaaDoorHlp2
namespace Go.Proofs.YtjaiolojmglmiaaDoor.Pure
open Go.RowKit Go.Proofs.YtjaiolojmglmiaaDoor.PFnExactSplitPath Go.Proofs.YtjaiolojmglmiaaDoorW.PrintWords Go.Proofs.YtjaiolojmglmiaaDoorW.PrintLast Go.Proofs.YtjaiolojmglmiaaDoorW.PrintMore Go.Proofs.YtjaiolojmglmiaaDoor.Hlp
set_option linter.unusedVariables false
namespace SP
theorem bytes_some (s : ByteArray) (hs : s.size ≤ 1048576) (d : Nat) : ∀ i : Nat, i + d = s.size → ∃ r, Ev (fun k => spec_l10Bytes.l0 k s (i : Int)) r := by
  induction d with
  | zero =>
    intro i hi
    exact ⟨true, Ev.step (f := fun _ => some true) (fun k => by simp only [spec_l10Bytes.l0]; rw [if_neg (by omega)]) (Ev.now _)⟩
  | succ d ih =>
    intro i hi
    by_cases h1 : bt s (i : Int) < 33
    · exact ⟨false, Ev.step (f := fun _ => some false) (fun k => by simp only [spec_l10Bytes.l0]; rw [if_pos (by omega), if_pos (by omega), if_pos h1]) (Ev.now _)⟩
    · by_cases h2 : bt s (i : Int) > 126
      · exact ⟨false, Ev.step (f := fun _ => some false) (fun k => by simp only [spec_l10Bytes.l0]; rw [if_pos (by omega), if_pos (by omega), if_neg h1, if_pos h2]) (Ev.now _)⟩
      · obtain ⟨r, h⟩ := ih (i + 1) (by omega)
        exact ⟨r, Ev.step (fun k => by simp only [spec_l10Bytes.l0]; rw [if_pos (by omega), if_pos (by omega), if_neg h1, if_neg h2, show wrap64 ((i : Int) + 1) = ((i + 1 : Nat) : Int) by unfold wrap64; omega]) h⟩
theorem cut_some (s : ByteArray) (c : Int) (hs : s.size ≤ 1048576) (d : Nat) : ∀ (i q : Nat) (a : List ByteArray), i + d = s.size → q ≤ i → a.length ≤ i → ∃ r, Ev (fun k => spec_l10Cut.l0 k s c a (q : Int) (i : Int)) r := by
  induction d with
  | zero =>
    intro i q a hi hq ha
    exact ⟨_, Ev.step (f := fun _ => some (a ++ [s.extract q s.size])) (fun k => by simp only [spec_l10Cut.l0]; rw [if_neg (by omega), if_pos (by omega), if_pos (by omega), if_pos (by omega)]; simp) (Ev.now _)⟩
  | succ d ih =>
    intro i q a hi hq ha
    have hw : wrap64 ((i : Int) + 1) = ((i + 1 : Nat) : Int) := by unfold wrap64; omega
    by_cases h1 : bt s (i : Int) = c
    · obtain ⟨r, h⟩ := ih (i + 1) (i + 1) (a ++ [s.extract q i]) (by omega) (Nat.le_refl _) (by simp; omega)
      exact ⟨r, Ev.step (fun k => by simp only [spec_l10Cut.l0]; rw [if_pos (by omega), if_pos (by omega), if_pos h1, if_pos (by omega), if_pos (by omega), if_pos (by omega), if_pos (by omega), hw]; rfl) h⟩
    · obtain ⟨r, h⟩ := ih (i + 1) q a (by omega) (by omega) (by omega)
      exact ⟨r, Ev.step (fun k => by simp only [spec_l10Cut.l0]; rw [if_pos (by omega), if_pos (by omega), if_neg h1, hw]) h⟩
theorem spec_some (s : ByteArray) (hs : s.size ≤ 1048576) : ∃ r, Ev (fun k => spec_ValidName.f k s) r := by
  obtain ⟨b, hb⟩ := bytes_some s hs s.size 0 (by omega)
  obtain ⟨c, hc⟩ := cut_some s 47 hs s.size 0 0 [] (by omega) (Nat.le_refl _) (by simp)
  have hb' : Ev (fun k => spec_l10Bytes.f k s) b := hb
  have hc' : Ev (fun k => spec_l10Cut.f k s 47) c := hc
  have key : ∃ r, Ev (fun k => (if b = true then (if (s.size : Int) < 1 then (some false) else (if (s.size : Int) > 13 then (some false) else (if s.toList = ([46] : List UInt8) then (some false) else (if s.toList = ([46, 46] : List UInt8) then (some false) else ((spec_l10Cut.f k s 47).bind fun t111 => (some ((t111.length : Int) == 1))))))) else (some false))) r := by
    by_cases h1 : b = true
    · by_cases h2 : (s.size : Int) < 1
      · exact ⟨false, Ev.congr (fun k => by rw [if_pos h1, if_pos h2]) (Ev.now _)⟩
      · by_cases h3 : (s.size : Int) > 13
        · exact ⟨false, Ev.congr (fun k => by rw [if_pos h1, if_neg h2, if_pos h3]) (Ev.now _)⟩
        · by_cases h4 : s.toList = ([46] : List UInt8)
          · exact ⟨false, Ev.congr (fun k => by rw [if_pos h1, if_neg h2, if_neg h3, if_pos h4]) (Ev.now _)⟩
          · by_cases h5 : s.toList = ([46, 46] : List UInt8)
            · exact ⟨false, Ev.congr (fun k => by rw [if_pos h1, if_neg h2, if_neg h3, if_neg h4, if_pos h5]) (Ev.now _)⟩
            · exact ⟨_, Ev.congr (fun k => by rw [if_pos h1, if_neg h2, if_neg h3, if_neg h4, if_neg h5]) (hc'.bind (Ev.now _))⟩
    · exact ⟨false, Ev.congr (fun k => by rw [if_neg h1]) (Ev.now _)⟩
  obtain ⟨r, hr⟩ := key
  exact ⟨r, hb'.bind hr⟩
theorem text_loop (n : Nat) : ∀ (x : Int) (s : ByteArray), 0 ≤ x → x ≤ n → x + s.size ≤ 4611686018427387904 → ∃ r, Ev (fun k => laws_markText.l0 k x s) r := by
  induction n with
  | zero =>
    intro x s h0 h1 h2
    exact ⟨_, Ev.step (f := fun _ => some ((⟨#[109]⟩ : ByteArray) ++ s)) (fun k => by simp only [laws_markText.l0]; rw [if_neg (by omega), if_pos (by omega)]) (Ev.now _)⟩
  | succ n ih =>
    intro x s h0 h1 h2
    by_cases c : x > 0
    · have ht : Int.tdiv x 10 = x / 10 := Int.tdiv_eq_ediv_of_nonneg h0
      have hs : ∀ l : List Int, l.length = 1 → ((strOfNums l) ++ s).size = 1 + s.size := fun l hl => by rw [ByteArray.size_append, strOfNums_size, hl]
      obtain ⟨r, h⟩ := ih (x / 10) ((strOfNums [(wrap64 (48 + (Int.tmod x 10))) % 256]) ++ s) (by omega) (by omega) (by rw [hs _ rfl]; omega)
      exact ⟨r, Ev.step (fun k => by simp only [laws_markText.l0, Option.bind_some]; rw [if_pos c, if_pos (by rw [strOfNums_size]; simp only [List.length_cons, List.length_nil]; omega), ht, w64 (x := x / 10) (by omega) (by omega)]) h⟩
    · exact ⟨_, Ev.step (f := fun _ => some ((⟨#[109]⟩ : ByteArray) ++ s)) (fun k => by simp only [laws_markText.l0]; rw [if_neg c, if_pos (by omega)]) (Ev.now _)⟩
theorem text_some (n : Int) (h : n ≤ 4611686018427387904) : ∃ r, Ev (fun k => laws_markText.f k n) r := by
  by_cases c : n ≤ 0
  · exact ⟨_, Ev.congr (fun k => by unfold laws_markText.f; rw [if_pos c]) (Ev.now (⟨#[109, 48]⟩ : ByteArray))⟩
  · obtain ⟨r, h⟩ := text_loop n.toNat n ⟨#[]⟩ (by omega) (by omega) (by simp [ByteArray.size]; omega)
    exact ⟨r, Ev.congr (fun k => by unfold laws_markText.f; rw [if_neg c]) h⟩
open Classical in
noncomputable def textOf (n : Int) : ByteArray := if h : ∃ t, Ev (fun k => laws_markText.f k n) t then Classical.choose h else ⟨#[]⟩
theorem text_ev (n : Int) (h : n ≤ 4611686018427387904) : Ev (fun k => laws_markText.f k n) (textOf n) := by
  have := text_some n h
  unfold textOf; rw [dif_pos this]; exact Classical.choose_spec this
theorem rdS (l : List ByteArray) (i : Nat) (h : i < l.length) : rdOf ByteArray.empty l (i : Int) = l[i] := by simp [rdOf, h]
theorem eqSS (l : List ByteArray) (hl : l.length ≤ 281474976710656) : Ev (fun k => laws_eqStringS.f k l l) true := by
  refine Ev.congr (f := fun k => laws_eqStringS.l0 k l l 0) (fun k => by unfold laws_eqStringS.f; rw [if_pos rfl]) ?_
  refine eqG_ev (L := laws_eqStringS.l0) l ?_ ?_
  · intro i hi h
    refine Ev.step (fun k => ?_) h
    simp only [laws_eqStringS.l0]
    rw [if_pos (by omega), if_pos (by omega), if_pos (by omega), if_pos trivial, w64 (by omega) (by omega)]; rfl
  · exact Ev.step (f := fun _ => some true) (fun k => by simp only [laws_eqStringS.l0]; rw [if_neg (by omega)]) (Ev.now _)
noncomputable def mkS (_ : ByteArray) (s : Int) : ByteArray := textOf s
theorem markSS (l : List ByteArray) (s : Int) (h0 : 0 ≤ s) (hl : l.length ≤ 1048576) (hb : s + (1 * l.length : Nat) ≤ 4194304) : Ev (fun k => laws_markStringS.f k l s) (s + (1 * l.length : Nat), marksG mkS 1 s l) := by
  refine markG_ev mkS 1 (L := laws_markStringS.l0) 4194304 ?_ ?_ l s h0 (by omega) hb
  · intro i x s hi hx h0 hs r h
    have hw : wrap64 ((i : Int) + 1) = ((i + 1 : Nat) : Int) := by rw [w64 (by omega) (by omega)]; rfl
    have hs2 : wrap64 (s + 1) = s + ((1 : Nat) : Int) := w64 (by omega) (by omega)
    refine Ev.step (fun k => by simp only [laws_markStringS.l0]; rw [if_pos (by omega), hw, hs2]) ?_
    exact (text_ev s (by omega)).bind (Ev.congr (fun k => by rw [if_pos (by omega), Int.toNat_natCast]; rfl) h)
  · intro x s
    exact Ev.step (f := fun _ => some (s, x)) (fun k => by simp only [laws_markStringS.l0]; rw [if_neg (by omega)]) (Ev.now _)
theorem heldSS (l : List ByteArray) (s : Int) (h0 : 0 ≤ s) (hl : l.length ≤ 1048576) (hb : s + (1 * l.length : Nat) ≤ 4194304) : Ev (fun k => laws_heldStringS.f k (marksG mkS 1 s l) s) (s + (1 * l.length : Nat)) := by
  refine heldG_ev mkS 1 (L := laws_heldStringS.l0) 4194304 ?_ ?_ l s h0 (by omega) hb
  · intro i x s b hi hxi hx h0 hs r h
    have hw : wrap64 ((i : Int) + 1) = ((i + 1 : Nat) : Int) := by rw [w64 (by omega) (by omega)]; rfl
    have hs2 : wrap64 (s + 1) = s + ((1 : Nat) : Int) := w64 (by omega) (by omega)
    refine Ev.step (fun k => by simp only [laws_heldStringS.l0]; rw [if_pos (by omega), if_pos (by omega), rdS x i hi, hxi, hw, hs2]) ?_
    exact (text_ev s (by omega)).bind (Ev.congr (fun k => if_pos rfl) h)
  · intro x s
    exact Ev.step (f := fun _ => some s) (fun k => by simp only [laws_heldStringS.l0]; rw [if_neg (by omega)]) (Ev.now _)
def sl : ByteArray := ⟨#[47]⟩
theorem sl_list : sl.data.toList = [47] := rfl
theorem bt_data (s : ByteArray) (i : Nat) (h : i < s.size) : bt s (i : Int) = ((s.data.toList[i]'(by simpa using h)).toNat : Int) := by
  have e : s[(i : Int).toNat]'(by simpa using h) = s.data.toList[i]'(by simpa using h) := rfl
  unfold bt
  rw [dif_pos (by simpa using h), e]
theorem occ_iff (l : List UInt8) (j : Nat) : Lib.occAt l [47] j = true ↔ l[j]? = some 47 := by
  unfold Lib.occAt
  rw [← List.head?_drop]
  cases h : l.drop j with
  | nil => simp
  | cons a t =>
    simp only [List.isPrefixOf, List.head?_cons, Option.some.injEq, Bool.and_true, beq_iff_eq]
    exact eq_comm
theorem ext_data (s : ByteArray) (q : Nat) : (s.extract q s.size).data.toList = s.data.toList.drop q := by
  rw [ByteArray.data_extract]
  simp only [Array.toList_extract, List.extract_eq_take_drop]
  rw [List.take_of_length_le]
  simp
/-- What indexB says of the text from q on. -/
theorem at_q (s : ByteArray) (q : Nat) (hq : q ≤ s.size) :
    (Lib.indexB (s.extract q s.size) sl = -1 ∧ ∀ j, q ≤ j → (h : j < s.size) → bt s (j : Int) ≠ 47) ∨
    (∃ i : Nat, Lib.indexB (s.extract q s.size) sl = i ∧ q + i < s.size ∧ bt s ((q + i : Nat) : Int) = 47 ∧ ∀ j, q ≤ j → j < q + i → bt s (j : Int) ≠ 47) := by
  have key : ∀ j, q ≤ j → (h : j < s.size) → (bt s (j : Int) = 47 ↔ Lib.occAt (s.extract q s.size).data.toList [47] (j - q) = true) := by
    intro j hj h
    rw [occ_iff, ext_data, List.getElem?_drop, show q + (j - q) = j by omega, bt_data s j h, List.getElem?_eq_getElem (by simpa using h)]
    constructor
    · intro e
      have : (s.data.toList[j]'(by simpa using h)).toNat = 47 := by omega
      rw [Option.some.injEq]
      exact UInt8.toNat_inj.1 this
    · intro e
      rw [Option.some.injEq] at e
      rw [e]; rfl
  have hl : (s.extract q s.size).data.toList.length = s.size - q := by rw [ext_data]; simp
  rcases Lib.index_spec (s.extract q s.size).data.toList [47] with ⟨e, hn⟩ | ⟨i, e, hi, ho, hn⟩
  · left
    refine ⟨e, fun j hj h c => ?_⟩
    have := (key j hj h).1 c
    rw [hn (j - q) (by omega)] at this
    cases this
  · right
    have hlt : i < s.size - q := by
      have := (occ_iff _ i).1 ho
      have h2 := List.getElem?_eq_some_iff.1 this
      obtain ⟨h3, _⟩ := h2
      omega
    refine ⟨i, e, by omega, ?_, fun j hj h c => ?_⟩
    · have := key (q + i) (by omega) (by omega)
      rw [show q + i - q = i by omega] at this
      exact this.2 ho
    · have := (key j hj (by omega)).1 c
      rw [hn (j - q) (by omega)] at this
      cases this
/-- The reference's loop runs over bytes that are no slash. -/
theorem cut_skip (s : ByteArray) (hs : s.size ≤ 1048576) (acc : List ByteArray) (q : Nat) (r : List ByteArray) (n : Nat) (hn : n ≤ s.size) (fin : Ev (fun k => spec_l10Cut.l0 k s 47 acc (q : Int) (n : Int)) r) :
    ∀ d i : Nat, i + d = n → (∀ j, i ≤ j → j < n → bt s (j : Int) ≠ 47) → Ev (fun k => spec_l10Cut.l0 k s 47 acc (q : Int) (i : Int)) r := by
  intro d
  induction d with
  | zero => intro i hi _; obtain rfl : i = n := by omega
            exact fin
  | succ d ih =>
    intro i hi hno
    have hw : wrap64 ((i : Int) + 1) = ((i + 1 : Nat) : Int) := by unfold wrap64; omega
    refine Ev.step (fun k => ?_) (ih (i + 1) (by omega) (fun j h1 h2 => hno j (by omega) h2))
    simp only [spec_l10Cut.l0]
    rw [if_pos (by omega), if_pos (by omega), if_neg (hno i (by omega) (by omega)), hw]
theorem ext_ext0 (s : ByteArray) (q i : Nat) (h : q + i ≤ s.size) : (s.extract q s.size).extract 0 (i + 0) = s.extract q (q + i) := by
  apply ByteArray.ext
  apply Array.toList_inj.1
  rw [ByteArray.data_extract, ByteArray.data_extract, ByteArray.data_extract]
  simp only [Array.toList_extract, List.extract_eq_take_drop, List.drop_zero, Nat.sub_zero, Nat.add_zero]
  rw [List.take_take, show q + i - q = i by omega]
  congr 1
  omega
theorem ext_ext1 (s : ByteArray) (q i : Nat) (h : q + i < s.size) : (s.extract q s.size).extract (i + sl.size) (s.extract q s.size).size = s.extract (q + i + 1) s.size := by
  apply ByteArray.ext
  apply Array.toList_inj.1
  rw [ext_data, ext_data, ext_data, List.drop_drop]
  congr 1
theorem sub_size (s : ByteArray) (q n : Nat) : (s.extract q n).size ≤ s.size := by rw [ByteArray.size_extract]; omega
/-- The reference's cut at a slash is the library's Split. -/
theorem cut_ev (s : ByteArray) (hs : s.size ≤ 1048576) : ∀ (m q : Nat) (acc : List ByteArray), s.size - q ≤ m → q ≤ s.size → acc.length ≤ q →
    Ev (fun k => spec_l10Cut.l0 k s 47 acc (q : Int) (q : Int)) (acc ++ Lib.splitB sl 0 (Lib.countB (s.extract q s.size) sl) (s.extract q s.size)) := by
  intro m
  have h1 : 1 ≤ sl.size := by decide
  induction m with
  | zero =>
    intro q acc hm hq ha
    obtain rfl : q = s.size := by omega
    have e : Lib.indexB (s.extract s.size s.size) sl = -1 := by
      rcases at_q s s.size (Nat.le_refl _) with h | ⟨i, _, h, _⟩
      · exact h.1
      · omega
    rw [Lib.splitB_miss _ _ _ _ e]
    refine Ev.step (f := fun _ => some (acc ++ [s.extract s.size s.size])) (fun k => ?_) (Ev.now _)
    simp only [spec_l10Cut.l0]
    rw [if_neg (by omega), if_pos (by omega), if_pos (by omega), if_pos (by omega), Int.toNat_natCast]
  | succ m ih =>
    intro q acc hm hq ha
    rcases at_q s q hq with ⟨e, hno⟩ | ⟨i, e, hi, h47, hno⟩
    · rw [Lib.splitB_miss _ _ _ _ e]
      refine cut_skip s hs acc q _ s.size (Nat.le_refl _) ?_ (s.size - q) q (by omega) (fun j h1 h2 => hno j h1 h2)
      refine Ev.step (f := fun _ => some (acc ++ [s.extract q s.size])) (fun k => ?_) (Ev.now _)
      simp only [spec_l10Cut.l0]
      rw [if_neg (by omega), if_pos (by omega), if_pos (by omega), if_pos (by omega), Int.toNat_natCast]
    · rw [Lib.countB_hit _ _ i h1 e, ext_ext1 s q i hi, Nat.add_comm 1, Lib.splitB_hit _ _ _ _ i e, ext_ext1 s q i hi, ext_ext0 s q i (by omega)]
      refine cut_skip s hs acc q _ (q + i) (by omega) ?_ i q (by omega) (fun j h1 h2 => hno j h1 h2)
      have hw : wrap64 (((q + i : Nat) : Int) + 1) = ((q + i + 1 : Nat) : Int) := by unfold wrap64; omega
      have := ih (q + i + 1) (acc ++ [s.extract q (q + i)]) (by omega) (by omega) (by simp; omega)
      rw [List.append_assoc, List.singleton_append] at this
      refine Ev.step (fun k => ?_) this
      simp only [spec_l10Cut.l0]
      rw [if_pos (by omega), if_pos (by omega), if_pos h47, if_pos (by omega), if_pos (by omega), if_pos (by omega), if_pos (by omega), hw, Int.toNat_natCast, Int.toNat_natCast]
/-- The pieces are no longer than the whole. -/
theorem split_small (sep : ByteArray) (B : Nat) : ∀ (k : Nat) (s : ByteArray), s.size ≤ B → ∀ p ∈ Lib.splitB sep 0 k s, p.size ≤ B
  | 0, s, h, p, hp => by rw [Lib.splitB_zero, List.mem_singleton] at hp; subst hp; exact h
  | k + 1, s, h, p, hp => by
    unfold Lib.splitB at hp
    split at hp
    · rw [List.mem_singleton] at hp; subst hp; exact h
    · rcases List.mem_cons.1 hp with e | e
      · subst e; exact Nat.le_trans (sub_size _ _ _) h
      · exact split_small sep B k _ (Nat.le_trans (sub_size _ _ _) h) p e
theorem false_run (p : ByteArray) (hp : p.size ≤ 1048576) (d : Nat) : ∀ i : Nat, i + d = p.size → Ev (fun k => impl_SplitPath.l1 k p false (p.size : Int) (i : Int)) (30, ([] : List ByteArray)) := by
  induction d with
  | zero => intro i hi; exact Ev.step (f := fun _ => some (30, [])) (fun k => by simp only [impl_SplitPath.l1]; rw [if_neg (by omega), if_neg (by decide)]) (Ev.now _)
  | succ d ih =>
    intro i hi
    have hw : wrap64 ((i : Int) + 1) = ((i + 1 : Nat) : Int) := by unfold wrap64; omega
    refine Ev.step (fun k => ?_) (ih (i + 1) (by omega))
    simp only [impl_SplitPath.l1]
    rw [if_pos (by omega), if_neg (by decide), hw]
theorem bytes_both (p : ByteArray) (hp : p.size ≤ 1048576) (d : Nat) : ∀ i : Nat, i + d = p.size → ∃ b : Bool, Ev (fun k => spec_l10Bytes.l0 k p (i : Int)) b ∧ Ev (fun k => impl_SplitPath.l1 k p true (p.size : Int) (i : Int)) (if b = true then 31 else 30, ([] : List ByteArray)) := by
  induction d with
  | zero =>
    intro i hi
    exact ⟨true, Ev.step (f := fun _ => some true) (fun k => by simp only [spec_l10Bytes.l0]; rw [if_neg (by omega)]) (Ev.now _), Ev.step (f := fun _ => some (31, [])) (fun k => by simp only [impl_SplitPath.l1]; rw [if_neg (by omega), if_pos trivial]) (Ev.now _)⟩
  | succ d ih =>
    intro i hi
    have hw : wrap64 ((i : Int) + 1) = ((i + 1 : Nat) : Int) := by unfold wrap64; omega
    have stop : ∀ b : Bool, (impl_plainByte.f (bt p (i : Int)) = some b) → (fun k => impl_SplitPath.l1 (k + 1) p true (p.size : Int) (i : Int)) = fun k => impl_SplitPath.l1 k p b (p.size : Int) ((i + 1 : Nat) : Int) := by
      intro b hb
      funext k
      simp only [impl_SplitPath.l1]
      rw [if_pos (by omega), if_pos trivial, if_pos (by omega), if_pos (by omega), hb, Option.bind_some, hw]
    by_cases h1 : bt p (i : Int) < 33
    · refine ⟨false, Ev.step (f := fun _ => some false) (fun k => by simp only [spec_l10Bytes.l0]; rw [if_pos (by omega), if_pos (by omega), if_pos h1]) (Ev.now _), ?_⟩
      exact Ev.step (fun k => congrFun (stop false (by unfold impl_plainByte.f; rw [if_neg (by omega)])) k) (false_run p hp d (i + 1) (by omega))
    · by_cases h2 : bt p (i : Int) > 126
      · refine ⟨false, Ev.step (f := fun _ => some false) (fun k => by simp only [spec_l10Bytes.l0]; rw [if_pos (by omega), if_pos (by omega), if_neg h1, if_pos h2]) (Ev.now _), ?_⟩
        exact Ev.step (fun k => congrFun (stop false (by unfold impl_plainByte.f; rw [if_pos (by omega), decide_eq_false (by omega)])) k) (false_run p hp d (i + 1) (by omega))
      · obtain ⟨b, hb, hb2⟩ := ih (i + 1) (by omega)
        refine ⟨b, Ev.step (fun k => by simp only [spec_l10Bytes.l0]; rw [if_pos (by omega), if_pos (by omega), if_neg h1, if_neg h2, hw]) hb, ?_⟩
        exact Ev.step (fun k => congrFun (stop true (by unfold impl_plainByte.f; rw [if_pos (by omega), decide_eq_true (by omega)])) k) hb2
theorem parts_both (L : List ByteArray) (hL : L.length ≤ 1048577) (hp : ∀ p ∈ L, p.size ≤ 1048576) (d : Nat) : ∀ i : Nat, i + d = L.length →
    ∃ r : Int × List ByteArray, r.2.length ≤ 16 ∧ Ev (fun k => spec_SplitPath.l0 k L (i : Int)) r ∧ Ev (fun k => impl_SplitPath.l0 k L L (L.length : Int) (i : Int)) r := by
  induction d with
  | zero =>
    intro i hi
    by_cases c : (L.length : Int) > 16
    · exact ⟨(30, []), by simp, Ev.step (f := fun _ => some (30, [])) (fun k => by simp only [spec_SplitPath.l0]; rw [if_neg (by omega), if_pos c]) (Ev.now _), Ev.step (f := fun _ => some (30, [])) (fun k => by simp only [impl_SplitPath.l0]; rw [if_neg (by omega), if_pos c]) (Ev.now _)⟩
    · exact ⟨(0, L), by show L.length ≤ 16; omega, Ev.step (f := fun _ => some (0, L)) (fun k => by simp only [spec_SplitPath.l0]; rw [if_neg (by omega), if_neg c]) (Ev.now _), Ev.step (f := fun _ => some (0, L)) (fun k => by simp only [impl_SplitPath.l0]; rw [if_neg (by omega), if_neg c]) (Ev.now _)⟩
  | succ d ih =>
    intro i hi
    have hw : wrap64 ((i : Int) + 1) = ((i + 1 : Nat) : Int) := by unfold wrap64; omega
    have hil : i < L.length := by omega
    have hsz := hp _ (List.getElem_mem hil)
    obtain ⟨v, hv⟩ := spec_some L[i] hsz
    have hv' : Ev (fun k => impl_ValidName.f k L[i]) v := hv
    by_cases c : v = true
    · obtain ⟨r, h1, h2, h3⟩ := ih (i + 1) (by omega)
      refine ⟨r, h1, Ev.step (fun k => by simp only [spec_SplitPath.l0]; rw [if_pos (by omega), if_pos (by omega), rdS L i hil, hw]) (hv.bind (Ev.congr (fun k => if_pos c) h2)), ?_⟩
      exact Ev.step (fun k => by simp only [impl_SplitPath.l0]; rw [if_pos (by omega), if_pos (by omega), if_pos (by omega), rdS L i hil, hw]) (hv'.bind (Ev.congr (fun k => if_pos c) h3))
    · obtain ⟨b, hb, hb2⟩ := bytes_both L[i] hsz L[i].size 0 (by omega)
      have hb' : Ev (fun k => spec_l10Bytes.f k L[i]) b := hb
      by_cases hl : (L[i].size : Int) > 13
      · refine ⟨(if b = true then 31 else 30, []), by simp, Ev.step (fun k => by simp only [spec_SplitPath.l0]; rw [if_pos (by omega), if_pos (by omega), rdS L i hil]) (hv.bind (Ev.congr (fun k => if_neg c) (hb'.bind ?_))), ?_⟩
        · by_cases cb : b = true
          · exact Ev.congr (fun k => by rw [if_pos cb, if_pos hl]) (by rw [if_pos cb]; exact Ev.now _)
          · exact Ev.congr (fun k => by rw [if_neg cb]) (by rw [if_neg cb]; exact Ev.now _)
        · exact Ev.step (fun k => by simp only [impl_SplitPath.l0]; rw [if_pos (by omega), if_pos (by omega), if_pos (by omega), rdS L i hil]) (hv'.bind (Ev.congr (fun k => by rw [if_neg c, if_pos hl]; rfl) hb2))
      · refine ⟨(30, []), by simp, Ev.step (fun k => by simp only [spec_SplitPath.l0]; rw [if_pos (by omega), if_pos (by omega), rdS L i hil]) (hv.bind (Ev.congr (fun k => if_neg c) (hb'.bind ?_))), ?_⟩
        · by_cases cb : b = true
          · exact Ev.congr (fun k => by rw [if_pos cb, if_neg hl]) (Ev.now _)
          · exact Ev.congr (fun k => by rw [if_neg cb]) (Ev.now _)
        · exact Ev.step (fun k => by simp only [impl_SplitPath.l0]; rw [if_pos (by omega), if_pos (by omega), if_pos (by omega), rdS L i hil]) (hv'.bind (Ev.congr (fun k => by rw [if_neg c, if_neg hl]) (Ev.now _)))
theorem j_both (a : ByteArray) (hs : a.size ≤ 1048576) (h1 : 1 ≤ a.size) (x : Bool) : ∃ r : Int × List ByteArray, r.2.length ≤ 16 ∧ Ev (fun k => spec_SplitPath.j0 k a x) r ∧ Ev (fun k => impl_SplitPath.j0 k a x) r := by
  by_cases cx : x = true
  · exact ⟨(30, []), by simp, Ev.step (f := fun _ => some (30, [])) (fun k => by simp only [spec_SplitPath.j0]; rw [if_pos cx]) (Ev.now _), Ev.step (f := fun _ => some (30, [])) (fun k => by simp only [impl_SplitPath.j0]; rw [if_pos cx]) (Ev.now _)⟩
  · by_cases c : a.toList = ([47] : List UInt8)
    · exact ⟨(0, []), by simp, Ev.step (f := fun _ => some (0, [])) (fun k => by simp only [spec_SplitPath.j0]; rw [if_neg cx, if_pos c]) (Ev.now _), Ev.step (f := fun _ => some (0, [])) (fun k => by simp only [impl_SplitPath.j0]; rw [if_neg cx, if_pos c]) (Ev.now _)⟩
    · have hsz := sub_size a 1 a.size
      have hc := cut_ev (a.extract 1 a.size) (by omega) (a.extract 1 a.size).size 0 [] (by omega) (by omega) (by simp)
      have ee : (a.extract 1 a.size).extract 0 (a.extract 1 a.size).size = a.extract 1 a.size := by
        apply ByteArray.ext; apply Array.toList_inj.1; rw [ext_data]; rfl
      rw [ee, List.nil_append] at hc
      obtain ⟨L, hLd⟩ : ∃ L, L = Lib.splitB sl 0 (Lib.countB (a.extract 1 a.size) sl) (a.extract 1 a.size) := ⟨_, rfl⟩
      have hLl : L.length ≤ 1048577 := by
        have := Lib.splitB_length_le sl 0 (Lib.countB (a.extract 1 a.size) sl) (a.extract 1 a.size)
        have h2 := Lib.countB_le sl (by decide) _ (a.extract 1 a.size) (Nat.le_refl _)
        rw [hLd]; omega
      have hsm := split_small sl 1048576 (Lib.countB (a.extract 1 a.size) sl) (a.extract 1 a.size) (by omega)
      rw [← hLd] at hsm hc
      obtain ⟨r, h2, h3, h4⟩ := parts_both L hLl hsm L.length 0 (by omega)
      have hc' : Ev (fun k => spec_l10Cut.f k (a.extract 1 a.size) 47) L := hc
      have hsp : strings_Split.f (a.extract 1 a.size) (⟨#[47]⟩ : ByteArray) = some L := by
        unfold strings_Split.f
        rw [if_pos ⟨by omega, rfl⟩, hLd]; rfl
      refine ⟨r, h2, Ev.step (fun k => by simp only [spec_SplitPath.j0]; rw [if_neg cx, if_neg c, if_pos (by omega)]) (hc'.bind h3), ?_⟩
      exact Ev.step (fun k => by simp only [impl_SplitPath.j0]; rw [if_neg cx, if_neg c, if_pos (by omega), hsp, Option.bind_some]; rfl) h4
theorem toList_nil (a : ByteArray) : a.toList = ([] : List UInt8) ↔ a.size = 0 := by
  have e : a.toList = a.data.toList := ByteArray.toList_eq a
  rw [e]
  constructor
  · intro h
    have := congrArg List.length h
    simpa using this
  · intro h
    exact List.eq_nil_of_length_eq_zero (by simpa using h)
theorem both (a : ByteArray) (hs : a.size ≤ 1048576) : ∃ r : Int × List ByteArray, r.2.length ≤ 16 ∧ Ev (fun k => spec_SplitPath.f k a) r ∧ Ev (fun k => impl_SplitPath.f k a) r := by
  have hj : Ev (fun k => spec_SplitPath.j0 k a true) (30, []) ∧ Ev (fun k => impl_SplitPath.j0 k a true) (30, []) :=
    ⟨Ev.step (f := fun _ => some (30, [])) (fun k => by simp only [spec_SplitPath.j0]; rw [if_pos trivial]) (Ev.now _), Ev.step (f := fun _ => some (30, [])) (fun k => by simp only [impl_SplitPath.j0]; rw [if_pos trivial]) (Ev.now _)⟩
  by_cases c0 : a.size = 0
  · exact ⟨(30, []), by simp, Ev.congr (fun k => by unfold spec_SplitPath.f; rw [if_pos (by omega)]) hj.1, Ev.congr (fun k => by unfold impl_SplitPath.f; rw [if_pos ((toList_nil a).2 c0)]) hj.2⟩
  have cn : ¬ a.toList = ([] : List UInt8) := fun e => c0 ((toList_nil a).1 e)
  by_cases c1 : (a.size : Int) > 240
  · exact ⟨(30, []), by simp, Ev.congr (fun k => by unfold spec_SplitPath.f; rw [if_neg (by omega), if_pos c1]) hj.1, Ev.congr (fun k => by unfold impl_SplitPath.f; rw [if_neg cn, if_pos c1]) hj.2⟩
  obtain ⟨r, h1, h2, h3⟩ := j_both a hs (by omega) ((bt a 0) != 47)
  exact ⟨r, h1, Ev.congr (fun k => by unfold spec_SplitPath.f; rw [if_neg (by omega), if_neg c1, if_pos (by omega)]) h2, Ev.congr (fun k => by unfold impl_SplitPath.f; rw [if_neg cn, if_neg c1, if_pos (by omega)]) h3⟩
end SP
theorem FnExactSplitPath : laws_FnExactSplitPath.Pure := by
  intro a _
  by_cases c : (a.size : Int) > 1048576
  · exact ⟨0, by unfold laws_FnExactSplitPath.f; rw [if_pos c]⟩
  obtain ⟨r, hl, s, i⟩ := SP.both a (by omega)
  have e := SP.eqSS r.2 (by omega)
  have m := SP.markSS r.2 1 (by omega) (by omega) (by omega)
  have hd := SP.heldSS r.2 1 (by omega) (by omega) (by omega)
  have eq : Ev (fun k => laws_eqPathResult.f k r.1 r.2 r.1 r.2) true := Ev.congr (fun k => by unfold laws_eqPathResult.f; rw [if_pos rfl]) (e.bind (Ev.congr (fun k => if_pos rfl) (Ev.now true)))
  have mk : Ev (fun k => laws_markPathResult.f k r.1 r.2 1) (1 + (1 * r.2.length : Nat), marksG SP.mkS 1 1 r.2) := m.bind (Ev.now _)
  have hh : Ev (fun k => laws_heldPathResult.f k r.1 (marksG SP.mkS 1 1 r.2) 1) (1 + (1 * r.2.length : Nat)) := hd.bind (Ev.congr (fun k => if_neg (by omega)) (Ev.now _))
  refine Ev.rounds (Ev.congr (fun k => by unfold laws_FnExactSplitPath.f; rw [if_neg c]) ?_)
  refine s.bind ?_
  refine i.bind ?_
  refine eq.bind ?_
  refine Ev.congr (fun k => if_pos rfl) ?_
  refine mk.bind ?_
  refine hh.bind ?_
  refine Ev.congr (fun k => if_neg (by omega)) ?_
  refine Ev.congr (fun k => if_pos rfl) ?_
  refine i.bind ?_
  refine eq.bind ?_
  refine Ev.congr (fun k => if_pos rfl) ?_
  refine hh.bind ?_
  refine Ev.congr (fun k => if_neg (by omega)) ?_
  exact Ev.congr (fun k => if_pos rfl) (Ev.now true)
end Go.Proofs.YtjaiolojmglmiaaDoor.Pure
