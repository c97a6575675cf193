/- FnPaths: of a drawn path the program's SplitPath says what the reference says; the names of a good one are good and make the path again; with a slash behind, or a letter ahead, it is none. -/
import Derived.Test.YtjaiolojmglmiaaDoorPFnPathsx
import Derived.Test.YtjaiolojmglmiaaDoorHlp2
namespace Go.Proofs.YtjaiolojmglmiaaDoor.Pure
open Go.RowKit Go.Proofs.YtjaiolojmglmiaaDoor.PFnPaths Go.Proofs.YtjaiolojmglmiaaDoorW.PrintWords Go.Proofs.YtjaiolojmglmiaaDoorW.PrintLast Go.Proofs.YtjaiolojmglmiaaDoorW.PrintMore Go.Proofs.YtjaiolojmglmiaaDoor.Hlp
set_option linter.unusedVariables false
namespace FP
theorem bytes_some (s : ByteArray) (hs : s.size ≤ 1048576) (d : Nat) : ∀ i : Nat, i + d = s.size → ∃ r, Ev (fun k => spec_l10Bytes.l0 k s (i : Int)) r := by
  induction d with
  | zero =>
    intro i hi
    exact ⟨true, Ev.step (f := fun _ => some true) (fun k => by simp only [spec_l10Bytes.l0]; rw [if_neg (by omega)]) (Ev.now _)⟩
  | succ d ih =>
    intro i hi
    by_cases h1 : bt s (i : Int) < 33
    · exact ⟨false, Ev.step (f := fun _ => some false) (fun k => by simp only [spec_l10Bytes.l0]; rw [if_pos (by omega), if_pos (by omega), if_pos h1]) (Ev.now _)⟩
    · by_cases h2 : bt s (i : Int) > 126
      · exact ⟨false, Ev.step (f := fun _ => some false) (fun k => by simp only [spec_l10Bytes.l0]; rw [if_pos (by omega), if_pos (by omega), if_neg h1, if_pos h2]) (Ev.now _)⟩
      · obtain ⟨r, h⟩ := ih (i + 1) (by omega)
        exact ⟨r, Ev.step (fun k => by simp only [spec_l10Bytes.l0]; rw [if_pos (by omega), if_pos (by omega), if_neg h1, if_neg h2, show wrap64 ((i : Int) + 1) = ((i + 1 : Nat) : Int) by unfold wrap64; omega]) h⟩
theorem cut_some (s : ByteArray) (c : Int) (hs : s.size ≤ 1048576) (d : Nat) : ∀ (i q : Nat) (a : List ByteArray), i + d = s.size → q ≤ i → a.length ≤ i → ∃ r, Ev (fun k => spec_l10Cut.l0 k s c a (q : Int) (i : Int)) r := by
  induction d with
  | zero =>
    intro i q a hi hq ha
    exact ⟨_, Ev.step (f := fun _ => some (a ++ [s.extract q s.size])) (fun k => by simp only [spec_l10Cut.l0]; rw [if_neg (by omega), if_pos (by omega), if_pos (by omega), if_pos (by omega)]; simp) (Ev.now _)⟩
  | succ d ih =>
    intro i q a hi hq ha
    have hw : wrap64 ((i : Int) + 1) = ((i + 1 : Nat) : Int) := by unfold wrap64; omega
    by_cases h1 : bt s (i : Int) = c
    · obtain ⟨r, h⟩ := ih (i + 1) (i + 1) (a ++ [s.extract q i]) (by omega) (Nat.le_refl _) (by simp; omega)
      exact ⟨r, Ev.step (fun k => by simp only [spec_l10Cut.l0]; rw [if_pos (by omega), if_pos (by omega), if_pos h1, if_pos (by omega), if_pos (by omega), if_pos (by omega), if_pos (by omega), hw]; rfl) h⟩
    · obtain ⟨r, h⟩ := ih (i + 1) q a (by omega) (by omega) (by omega)
      exact ⟨r, Ev.step (fun k => by simp only [spec_l10Cut.l0]; rw [if_pos (by omega), if_pos (by omega), if_neg h1, hw]) h⟩
theorem spec_some (s : ByteArray) (hs : s.size ≤ 1048576) : ∃ r, Ev (fun k => spec_ValidName.f k s) r := by
  obtain ⟨b, hb⟩ := bytes_some s hs s.size 0 (by omega)
  obtain ⟨c, hc⟩ := cut_some s 47 hs s.size 0 0 [] (by omega) (Nat.le_refl _) (by simp)
  have hb' : Ev (fun k => spec_l10Bytes.f k s) b := hb
  have hc' : Ev (fun k => spec_l10Cut.f k s 47) c := hc
  have key : ∃ r, Ev (fun k => (if b = true then (if (s.size : Int) < 1 then (some false) else (if (s.size : Int) > 13 then (some false) else (if s.toList = ([46] : List UInt8) then (some false) else (if s.toList = ([46, 46] : List UInt8) then (some false) else ((spec_l10Cut.f k s 47).bind fun t111 => (some ((t111.length : Int) == 1))))))) else (some false))) r := by
    by_cases h1 : b = true
    · by_cases h2 : (s.size : Int) < 1
      · exact ⟨false, Ev.congr (fun k => by rw [if_pos h1, if_pos h2]) (Ev.now _)⟩
      · by_cases h3 : (s.size : Int) > 13
        · exact ⟨false, Ev.congr (fun k => by rw [if_pos h1, if_neg h2, if_pos h3]) (Ev.now _)⟩
        · by_cases h4 : s.toList = ([46] : List UInt8)
          · exact ⟨false, Ev.congr (fun k => by rw [if_pos h1, if_neg h2, if_neg h3, if_pos h4]) (Ev.now _)⟩
          · by_cases h5 : s.toList = ([46, 46] : List UInt8)
            · exact ⟨false, Ev.congr (fun k => by rw [if_pos h1, if_neg h2, if_neg h3, if_neg h4, if_pos h5]) (Ev.now _)⟩
            · exact ⟨_, Ev.congr (fun k => by rw [if_pos h1, if_neg h2, if_neg h3, if_neg h4, if_neg h5]) (hc'.bind (Ev.now _))⟩
    · exact ⟨false, Ev.congr (fun k => by rw [if_neg h1]) (Ev.now _)⟩
  obtain ⟨r, hr⟩ := key
  exact ⟨r, hb'.bind hr⟩
theorem rdS (l : List ByteArray) (i : Nat) (h : i < l.length) : rdOf ByteArray.empty l (i : Int) = l[i] := by simp [rdOf, h]
def sl : ByteArray := ⟨#[47]⟩
theorem sl_list : sl.data.toList = [47] := rfl
theorem bt_data (s : ByteArray) (i : Nat) (h : i < s.size) : bt s (i : Int) = ((s.data.toList[i]'(by simpa using h)).toNat : Int) := by
  have e : s[(i : Int).toNat]'(by simpa using h) = s.data.toList[i]'(by simpa using h) := rfl
  unfold bt
  rw [dif_pos (by simpa using h), e]
theorem occ_iff (l : List UInt8) (j : Nat) : Lib.occAt l [47] j = true ↔ l[j]? = some 47 := by
  unfold Lib.occAt
  rw [← List.head?_drop]
  cases h : l.drop j with
  | nil => simp
  | cons a t =>
    simp only [List.isPrefixOf, List.head?_cons, Option.some.injEq, Bool.and_true, beq_iff_eq]
    exact eq_comm
theorem ext_data (s : ByteArray) (q : Nat) : (s.extract q s.size).data.toList = s.data.toList.drop q := by
  rw [ByteArray.data_extract]
  simp only [Array.toList_extract, List.extract_eq_take_drop]
  rw [List.take_of_length_le]
  simp
/-- What indexB says of the text from q on. -/
theorem at_q (s : ByteArray) (q : Nat) (hq : q ≤ s.size) :
    (Lib.indexB (s.extract q s.size) sl = -1 ∧ ∀ j, q ≤ j → (h : j < s.size) → bt s (j : Int) ≠ 47) ∨
    (∃ i : Nat, Lib.indexB (s.extract q s.size) sl = i ∧ q + i < s.size ∧ bt s ((q + i : Nat) : Int) = 47 ∧ ∀ j, q ≤ j → j < q + i → bt s (j : Int) ≠ 47) := by
  have key : ∀ j, q ≤ j → (h : j < s.size) → (bt s (j : Int) = 47 ↔ Lib.occAt (s.extract q s.size).data.toList [47] (j - q) = true) := by
    intro j hj h
    rw [occ_iff, ext_data, List.getElem?_drop, show q + (j - q) = j by omega, bt_data s j h, List.getElem?_eq_getElem (by simpa using h)]
    constructor
    · intro e
      have : (s.data.toList[j]'(by simpa using h)).toNat = 47 := by omega
      rw [Option.some.injEq]
      exact UInt8.toNat_inj.1 this
    · intro e
      rw [Option.some.injEq] at e
      rw [e]; rfl
  have hl : (s.extract q s.size).data.toList.length = s.size - q := by rw [ext_data]; simp
  rcases Lib.index_spec (s.extract q s.size).data.toList [47] with ⟨e, hn⟩ | ⟨i, e, hi, ho, hn⟩
  · left
    refine ⟨e, fun j hj h c => ?_⟩
    have := (key j hj h).1 c
    rw [hn (j - q) (by omega)] at this
    cases this
  · right
    have hlt : i < s.size - q := by
      have := (occ_iff _ i).1 ho
      have h2 := List.getElem?_eq_some_iff.1 this
      obtain ⟨h3, _⟩ := h2
      omega
    refine ⟨i, e, by omega, ?_, fun j hj h c => ?_⟩
    · have := key (q + i) (by omega) (by omega)
      rw [show q + i - q = i by omega] at this
      exact this.2 ho
    · have := (key j hj (by omega)).1 c
      rw [hn (j - q) (by omega)] at this
      cases this
/-- The reference's loop runs over bytes that are no slash. -/
theorem cut_skip (s : ByteArray) (hs : s.size ≤ 1048576) (acc : List ByteArray) (q : Nat) (r : List ByteArray) (n : Nat) (hn : n ≤ s.size) (fin : Ev (fun k => spec_l10Cut.l0 k s 47 acc (q : Int) (n : Int)) r) :
    ∀ d i : Nat, i + d = n → (∀ j, i ≤ j → j < n → bt s (j : Int) ≠ 47) → Ev (fun k => spec_l10Cut.l0 k s 47 acc (q : Int) (i : Int)) r := by
  intro d
  induction d with
  | zero => intro i hi _; obtain rfl : i = n := by omega
            exact fin
  | succ d ih =>
    intro i hi hno
    have hw : wrap64 ((i : Int) + 1) = ((i + 1 : Nat) : Int) := by unfold wrap64; omega
    refine Ev.step (fun k => ?_) (ih (i + 1) (by omega) (fun j h1 h2 => hno j (by omega) h2))
    simp only [spec_l10Cut.l0]
    rw [if_pos (by omega), if_pos (by omega), if_neg (hno i (by omega) (by omega)), hw]
theorem ext_ext0 (s : ByteArray) (q i : Nat) (h : q + i ≤ s.size) : (s.extract q s.size).extract 0 (i + 0) = s.extract q (q + i) := by
  apply ByteArray.ext
  apply Array.toList_inj.1
  rw [ByteArray.data_extract, ByteArray.data_extract, ByteArray.data_extract]
  simp only [Array.toList_extract, List.extract_eq_take_drop, List.drop_zero, Nat.sub_zero, Nat.add_zero]
  rw [List.take_take, show q + i - q = i by omega]
  congr 1
  omega
theorem ext_ext1 (s : ByteArray) (q i : Nat) (h : q + i < s.size) : (s.extract q s.size).extract (i + sl.size) (s.extract q s.size).size = s.extract (q + i + 1) s.size := by
  apply ByteArray.ext
  apply Array.toList_inj.1
  rw [ext_data, ext_data, ext_data, List.drop_drop]
  congr 1
theorem sub_size (s : ByteArray) (q n : Nat) : (s.extract q n).size ≤ s.size := by rw [ByteArray.size_extract]; omega
/-- The reference's cut at a slash is the library's Split. -/
theorem cut_ev (s : ByteArray) (hs : s.size ≤ 1048576) : ∀ (m q : Nat) (acc : List ByteArray), s.size - q ≤ m → q ≤ s.size → acc.length ≤ q →
    Ev (fun k => spec_l10Cut.l0 k s 47 acc (q : Int) (q : Int)) (acc ++ Lib.splitB sl 0 (Lib.countB (s.extract q s.size) sl) (s.extract q s.size)) := by
  intro m
  have h1 : 1 ≤ sl.size := by decide
  induction m with
  | zero =>
    intro q acc hm hq ha
    obtain rfl : q = s.size := by omega
    have e : Lib.indexB (s.extract s.size s.size) sl = -1 := by
      rcases at_q s s.size (Nat.le_refl _) with h | ⟨i, _, h, _⟩
      · exact h.1
      · omega
    rw [Lib.splitB_miss _ _ _ _ e]
    refine Ev.step (f := fun _ => some (acc ++ [s.extract s.size s.size])) (fun k => ?_) (Ev.now _)
    simp only [spec_l10Cut.l0]
    rw [if_neg (by omega), if_pos (by omega), if_pos (by omega), if_pos (by omega), Int.toNat_natCast]
  | succ m ih =>
    intro q acc hm hq ha
    rcases at_q s q hq with ⟨e, hno⟩ | ⟨i, e, hi, h47, hno⟩
    · rw [Lib.splitB_miss _ _ _ _ e]
      refine cut_skip s hs acc q _ s.size (Nat.le_refl _) ?_ (s.size - q) q (by omega) (fun j h1 h2 => hno j h1 h2)
      refine Ev.step (f := fun _ => some (acc ++ [s.extract q s.size])) (fun k => ?_) (Ev.now _)
      simp only [spec_l10Cut.l0]
      rw [if_neg (by omega), if_pos (by omega), if_pos (by omega), if_pos (by omega), Int.toNat_natCast]
    · rw [Lib.countB_hit _ _ i h1 e, ext_ext1 s q i hi, Nat.add_comm 1, Lib.splitB_hit _ _ _ _ i e, ext_ext1 s q i hi, ext_ext0 s q i (by omega)]
      refine cut_skip s hs acc q _ (q + i) (by omega) ?_ i q (by omega) (fun j h1 h2 => hno j h1 h2)
      have hw : wrap64 (((q + i : Nat) : Int) + 1) = ((q + i + 1 : Nat) : Int) := by unfold wrap64; omega
      have := ih (q + i + 1) (acc ++ [s.extract q (q + i)]) (by omega) (by omega) (by simp; omega)
      rw [List.append_assoc, List.singleton_append] at this
      refine Ev.step (fun k => ?_) this
      simp only [spec_l10Cut.l0]
      rw [if_pos (by omega), if_pos (by omega), if_pos h47, if_pos (by omega), if_pos (by omega), if_pos (by omega), if_pos (by omega), hw, Int.toNat_natCast, Int.toNat_natCast]
/-- The pieces are no longer than the whole. -/
theorem split_small (sep : ByteArray) (B : Nat) : ∀ (k : Nat) (s : ByteArray), s.size ≤ B → ∀ p ∈ Lib.splitB sep 0 k s, p.size ≤ B
  | 0, s, h, p, hp => by rw [Lib.splitB_zero, List.mem_singleton] at hp; subst hp; exact h
  | k + 1, s, h, p, hp => by
    unfold Lib.splitB at hp
    split at hp
    · rw [List.mem_singleton] at hp; subst hp; exact h
    · rcases List.mem_cons.1 hp with e | e
      · subst e; exact Nat.le_trans (sub_size _ _ _) h
      · exact split_small sep B k _ (Nat.le_trans (sub_size _ _ _) h) p e
theorem false_run (p : ByteArray) (hp : p.size ≤ 1048576) (d : Nat) : ∀ i : Nat, i + d = p.size → Ev (fun k => impl_SplitPath.l1 k p false (p.size : Int) (i : Int)) (30, ([] : List ByteArray)) := by
  induction d with
  | zero => intro i hi; exact Ev.step (f := fun _ => some (30, [])) (fun k => by simp only [impl_SplitPath.l1]; rw [if_neg (by omega), if_neg (by decide)]) (Ev.now _)
  | succ d ih =>
    intro i hi
    have hw : wrap64 ((i : Int) + 1) = ((i + 1 : Nat) : Int) := by unfold wrap64; omega
    refine Ev.step (fun k => ?_) (ih (i + 1) (by omega))
    simp only [impl_SplitPath.l1]
    rw [if_pos (by omega), if_neg (by decide), hw]
theorem bytes_both (p : ByteArray) (hp : p.size ≤ 1048576) (d : Nat) : ∀ i : Nat, i + d = p.size → ∃ b : Bool, Ev (fun k => spec_l10Bytes.l0 k p (i : Int)) b ∧ Ev (fun k => impl_SplitPath.l1 k p true (p.size : Int) (i : Int)) (if b = true then 31 else 30, ([] : List ByteArray)) := by
  induction d with
  | zero =>
    intro i hi
    exact ⟨true, Ev.step (f := fun _ => some true) (fun k => by simp only [spec_l10Bytes.l0]; rw [if_neg (by omega)]) (Ev.now _), Ev.step (f := fun _ => some (31, [])) (fun k => by simp only [impl_SplitPath.l1]; rw [if_neg (by omega), if_pos trivial]) (Ev.now _)⟩
  | succ d ih =>
    intro i hi
    have hw : wrap64 ((i : Int) + 1) = ((i + 1 : Nat) : Int) := by unfold wrap64; omega
    have stop : ∀ b : Bool, (impl_plainByte.f (bt p (i : Int)) = some b) → (fun k => impl_SplitPath.l1 (k + 1) p true (p.size : Int) (i : Int)) = fun k => impl_SplitPath.l1 k p b (p.size : Int) ((i + 1 : Nat) : Int) := by
      intro b hb
      funext k
      simp only [impl_SplitPath.l1]
      rw [if_pos (by omega), if_pos trivial, if_pos (by omega), if_pos (by omega), hb, Option.bind_some, hw]
    by_cases h1 : bt p (i : Int) < 33
    · refine ⟨false, Ev.step (f := fun _ => some false) (fun k => by simp only [spec_l10Bytes.l0]; rw [if_pos (by omega), if_pos (by omega), if_pos h1]) (Ev.now _), ?_⟩
      exact Ev.step (fun k => congrFun (stop false (by unfold impl_plainByte.f; rw [if_neg (by omega)])) k) (false_run p hp d (i + 1) (by omega))
    · by_cases h2 : bt p (i : Int) > 126
      · refine ⟨false, Ev.step (f := fun _ => some false) (fun k => by simp only [spec_l10Bytes.l0]; rw [if_pos (by omega), if_pos (by omega), if_neg h1, if_pos h2]) (Ev.now _), ?_⟩
        exact Ev.step (fun k => congrFun (stop false (by unfold impl_plainByte.f; rw [if_pos (by omega), decide_eq_false (by omega)])) k) (false_run p hp d (i + 1) (by omega))
      · obtain ⟨b, hb, hb2⟩ := ih (i + 1) (by omega)
        refine ⟨b, Ev.step (fun k => by simp only [spec_l10Bytes.l0]; rw [if_pos (by omega), if_pos (by omega), if_neg h1, if_neg h2, hw]) hb, ?_⟩
        exact Ev.step (fun k => congrFun (stop true (by unfold impl_plainByte.f; rw [if_pos (by omega), decide_eq_true (by omega)])) k) hb2
theorem parts_both (L : List ByteArray) (hL : L.length ≤ 1048577) (hp : ∀ p ∈ L, p.size ≤ 1048576) (d : Nat) : ∀ i : Nat, i + d = L.length →
    ∃ r : Int × List ByteArray, r.2.length ≤ 16 ∧ Ev (fun k => spec_SplitPath.l0 k L (i : Int)) r ∧ Ev (fun k => impl_SplitPath.l0 k L L (L.length : Int) (i : Int)) r ∧
      (r.1 = 0 → r.2 = L ∧ ∀ j (h : j < L.length), i ≤ j → Ev (fun k => spec_ValidName.f k L[j]) true) ∧ (r.1 ≠ 0 → r.2 = []) := by
  induction d with
  | zero =>
    intro i hi
    by_cases c : (L.length : Int) > 16
    · exact ⟨(30, []), by simp, Ev.step (f := fun _ => some (30, [])) (fun k => by simp only [spec_SplitPath.l0]; rw [if_neg (by omega), if_pos c]) (Ev.now _), Ev.step (f := fun _ => some (30, [])) (fun k => by simp only [impl_SplitPath.l0]; rw [if_neg (by omega), if_pos c]) (Ev.now _), (fun h => by cases h), fun _ => rfl⟩
    · exact ⟨(0, L), by show L.length ≤ 16; omega, Ev.step (f := fun _ => some (0, L)) (fun k => by simp only [spec_SplitPath.l0]; rw [if_neg (by omega), if_neg c]) (Ev.now _), Ev.step (f := fun _ => some (0, L)) (fun k => by simp only [impl_SplitPath.l0]; rw [if_neg (by omega), if_neg c]) (Ev.now _), fun _ => ⟨rfl, fun j h h2 => by omega⟩, fun h => absurd rfl h⟩
  | succ d ih =>
    intro i hi
    have hw : wrap64 ((i : Int) + 1) = ((i + 1 : Nat) : Int) := by unfold wrap64; omega
    have hil : i < L.length := by omega
    have hsz := hp _ (List.getElem_mem hil)
    obtain ⟨v, hv⟩ := spec_some L[i] hsz
    have hv' : Ev (fun k => impl_ValidName.f k L[i]) v := hv
    by_cases c : v = true
    · obtain ⟨r, h1, h2, h3, h4, h5⟩ := ih (i + 1) (by omega)
      refine ⟨r, h1, Ev.step (fun k => by simp only [spec_SplitPath.l0]; rw [if_pos (by omega), if_pos (by omega), rdS L i hil, hw]) (hv.bind (Ev.congr (fun k => if_pos c) h2)), ?_, fun hz => ⟨(h4 hz).1, fun j hj hij => ?_⟩, h5⟩
      · exact Ev.step (fun k => by simp only [impl_SplitPath.l0]; rw [if_pos (by omega), if_pos (by omega), if_pos (by omega), rdS L i hil, hw]) (hv'.bind (Ev.congr (fun k => if_pos c) h3))
      · by_cases e : j = i
        · subst e; rw [c] at hv; exact hv
        · exact (h4 hz).2 j hj (by omega)
    · obtain ⟨b, hb, hb2⟩ := bytes_both L[i] hsz L[i].size 0 (by omega)
      have hb' : Ev (fun k => spec_l10Bytes.f k L[i]) b := hb
      by_cases hl : (L[i].size : Int) > 13
      · refine ⟨(if b = true then 31 else 30, []), by simp, Ev.step (fun k => by simp only [spec_SplitPath.l0]; rw [if_pos (by omega), if_pos (by omega), rdS L i hil]) (hv.bind (Ev.congr (fun k => if_neg c) (hb'.bind ?_))), ?_, (fun h => by cases b <;> cases h), fun _ => rfl⟩
        · by_cases cb : b = true
          · exact Ev.congr (fun k => by rw [if_pos cb, if_pos hl]) (by rw [if_pos cb]; exact Ev.now _)
          · exact Ev.congr (fun k => by rw [if_neg cb]) (by rw [if_neg cb]; exact Ev.now _)
        · exact Ev.step (fun k => by simp only [impl_SplitPath.l0]; rw [if_pos (by omega), if_pos (by omega), if_pos (by omega), rdS L i hil]) (hv'.bind (Ev.congr (fun k => by rw [if_neg c, if_pos hl]; rfl) hb2))
      · refine ⟨(30, []), by simp, Ev.step (fun k => by simp only [spec_SplitPath.l0]; rw [if_pos (by omega), if_pos (by omega), rdS L i hil]) (hv.bind (Ev.congr (fun k => if_neg c) (hb'.bind ?_))), ?_, (fun h => by cases h), fun _ => rfl⟩
        · by_cases cb : b = true
          · exact Ev.congr (fun k => by rw [if_pos cb, if_neg hl]) (Ev.now _)
          · exact Ev.congr (fun k => by rw [if_neg cb]) (Ev.now _)
        · exact Ev.step (fun k => by simp only [impl_SplitPath.l0]; rw [if_pos (by omega), if_pos (by omega), if_pos (by omega), rdS L i hil]) (hv'.bind (Ev.congr (fun k => by rw [if_neg c, if_neg hl]) (Ev.now _)))
/-- The pieces of a path behind its first byte. -/
def pieces (a : ByteArray) : List ByteArray := Lib.splitB sl 0 (Lib.countB (a.extract 1 a.size) sl) (a.extract 1 a.size)
theorem j_both (a : ByteArray) (hs : a.size ≤ 1048576) (h1 : 1 ≤ a.size) (x : Bool) : ∃ r : Int × List ByteArray, r.2.length ≤ 16 ∧ Ev (fun k => spec_SplitPath.j0 k a x) r ∧ Ev (fun k => impl_SplitPath.j0 k a x) r ∧
    (r.1 = 0 → ((a.toList = ([47] : List UInt8) ∧ r.2 = []) ∨ (r.2 = pieces a ∧ ∀ p ∈ r.2, Ev (fun k => spec_ValidName.f k p) true))) ∧ (r.1 ≠ 0 → r.2 = []) ∧ (x = true → r.1 = 30) := by
  by_cases cx : x = true
  · exact ⟨(30, []), by simp, Ev.step (f := fun _ => some (30, [])) (fun k => by simp only [spec_SplitPath.j0]; rw [if_pos cx]) (Ev.now _), Ev.step (f := fun _ => some (30, [])) (fun k => by simp only [impl_SplitPath.j0]; rw [if_pos cx]) (Ev.now _), (fun h => by cases h), (fun _ => rfl), fun _ => rfl⟩
  · by_cases c : a.toList = ([47] : List UInt8)
    · exact ⟨(0, []), by simp, Ev.step (f := fun _ => some (0, [])) (fun k => by simp only [spec_SplitPath.j0]; rw [if_neg cx, if_pos c]) (Ev.now _), Ev.step (f := fun _ => some (0, [])) (fun k => by simp only [impl_SplitPath.j0]; rw [if_neg cx, if_pos c]) (Ev.now _), (fun _ => .inl ⟨c, rfl⟩), (fun h => absurd rfl h), fun h => absurd h cx⟩
    · have hsz := sub_size a 1 a.size
      have hc := cut_ev (a.extract 1 a.size) (by omega) (a.extract 1 a.size).size 0 [] (by omega) (by omega) (by simp)
      have ee : (a.extract 1 a.size).extract 0 (a.extract 1 a.size).size = a.extract 1 a.size := by
        apply ByteArray.ext; apply Array.toList_inj.1; rw [ext_data]; rfl
      rw [ee, List.nil_append] at hc
      obtain ⟨L, hLd⟩ : ∃ L, L = Lib.splitB sl 0 (Lib.countB (a.extract 1 a.size) sl) (a.extract 1 a.size) := ⟨_, rfl⟩
      have hLl : L.length ≤ 1048577 := by
        have := Lib.splitB_length_le sl 0 (Lib.countB (a.extract 1 a.size) sl) (a.extract 1 a.size)
        have h2 := Lib.countB_le sl (by decide) _ (a.extract 1 a.size) (Nat.le_refl _)
        rw [hLd]; omega
      have hsm := split_small sl 1048576 (Lib.countB (a.extract 1 a.size) sl) (a.extract 1 a.size) (by omega)
      rw [← hLd] at hsm hc
      obtain ⟨r, h2, h3, h4, h5, h6⟩ := parts_both L hLl hsm L.length 0 (by omega)
      have hc' : Ev (fun k => spec_l10Cut.f k (a.extract 1 a.size) 47) L := hc
      have hsp : strings_Split.f (a.extract 1 a.size) (⟨#[47]⟩ : ByteArray) = some L := by
        unfold strings_Split.f
        rw [if_pos ⟨by omega, rfl⟩, hLd]; rfl
      refine ⟨r, h2, Ev.step (fun k => by simp only [spec_SplitPath.j0]; rw [if_neg cx, if_neg c, if_pos (by omega)]) (hc'.bind h3), ?_, (fun hz => .inr ⟨(h5 hz).1.trans hLd, fun p hp => ?_⟩), h6, fun h => absurd h cx⟩
      · exact Ev.step (fun k => by simp only [impl_SplitPath.j0]; rw [if_neg cx, if_neg c, if_pos (by omega), hsp, Option.bind_some]; rfl) h4
      · rw [(h5 hz).1] at hp
        obtain ⟨j, hj, e⟩ := List.getElem_of_mem hp
        rw [← e]
        exact (h5 hz).2 j hj (Nat.zero_le _)
theorem toList_nil (a : ByteArray) : a.toList = ([] : List UInt8) ↔ a.size = 0 := by
  have e : a.toList = a.data.toList := ByteArray.toList_eq a
  rw [e]
  constructor
  · intro h
    have := congrArg List.length h
    simpa using this
  · intro h
    exact List.eq_nil_of_length_eq_zero (by simpa using h)
theorem both (a : ByteArray) (hs : a.size ≤ 1048576) : ∃ r : Int × List ByteArray, r.2.length ≤ 16 ∧ Ev (fun k => spec_SplitPath.f k a) r ∧ Ev (fun k => impl_SplitPath.f k a) r ∧
    (r.1 = 0 → 1 ≤ a.size ∧ bt a 0 = 47 ∧ ((a.toList = ([47] : List UInt8) ∧ r.2 = []) ∨ (r.2 = pieces a ∧ ∀ p ∈ r.2, Ev (fun k => spec_ValidName.f k p) true))) ∧ (r.1 ≠ 0 → r.2 = []) ∧ (1 ≤ a.size → bt a 0 ≠ 47 → r.1 = 30) := by
  have hj : Ev (fun k => spec_SplitPath.j0 k a true) (30, []) ∧ Ev (fun k => impl_SplitPath.j0 k a true) (30, []) :=
    ⟨Ev.step (f := fun _ => some (30, [])) (fun k => by simp only [spec_SplitPath.j0]; rw [if_pos trivial]) (Ev.now _), Ev.step (f := fun _ => some (30, [])) (fun k => by simp only [impl_SplitPath.j0]; rw [if_pos trivial]) (Ev.now _)⟩
  by_cases c0 : a.size = 0
  · exact ⟨(30, []), by simp, Ev.congr (fun k => by unfold spec_SplitPath.f; rw [if_pos (by omega)]) hj.1, Ev.congr (fun k => by unfold impl_SplitPath.f; rw [if_pos ((toList_nil a).2 c0)]) hj.2, (fun h => by cases h), (fun _ => rfl), fun h => by omega⟩
  have cn : ¬ a.toList = ([] : List UInt8) := fun e => c0 ((toList_nil a).1 e)
  by_cases c1 : (a.size : Int) > 240
  · exact ⟨(30, []), by simp, Ev.congr (fun k => by unfold spec_SplitPath.f; rw [if_neg (by omega), if_pos c1]) hj.1, Ev.congr (fun k => by unfold impl_SplitPath.f; rw [if_neg cn, if_pos c1]) hj.2, (fun h => by cases h), (fun _ => rfl), fun _ _ => rfl⟩
  obtain ⟨r, h1, h2, h3, h4, h5, h6⟩ := j_both a hs (by omega) ((bt a 0) != 47)
  exact ⟨r, h1, Ev.congr (fun k => by unfold spec_SplitPath.f; rw [if_neg (by omega), if_neg c1, if_pos (by omega)]) h2, Ev.congr (fun k => by unfold impl_SplitPath.f; rw [if_neg cn, if_neg c1, if_pos (by omega)]) h3, (fun hz => ⟨by omega, by
    by_cases e : bt a 0 = 47
    · exact e
    · have := h6 (bne_iff_ne.2 e); omega, h4 hz⟩), h5, fun _ hne => h6 (bne_iff_ne.2 hne)⟩
/-- The state of a reader: the bytes, how many draws there were. -/
def okS (c : List Int) (a : Int) : Prop := c.length ≤ 1048576 ∧ (∀ x ∈ c, 0 ≤ x ∧ x ≤ 255) ∧ 0 ≤ a
theorem next_ev (c : List Int) (a z n : Int) (hc : c.length ≤ 1048576) (hb : ∀ x ∈ c, 0 ≤ x ∧ x ≤ 255) (h0 : 0 ≤ a) (h1 : a ≤ 1000000) (hn : n ≤ 1000000) : ∃ v, spec_l1Next.f c a z n = some (v, a + 1, z) ∧ 0 ≤ v ∧ (0 < n → v < n) ∧ (n < 1 → v = 0) := by
  unfold spec_l1Next.f
  have w1 : wrap64 (a + 1) = a + 1 := w64 (by omega) (by omega)
  have w2 : wrap64 (a + 1 - 1) = a := by rw [w64 (by omega) (by omega)]; omega
  rw [w1, w2, w1]
  by_cases c1 : n < 1
  · exact ⟨0, by rw [if_pos c1], by omega, fun h => by omega, fun _ => rfl⟩
  rw [if_neg c1]
  have modk : ∀ x : Int, 0 ≤ x → 0 ≤ Int.tmod x n ∧ (0 < n → Int.tmod x n < n) := fun x hx => by
    rw [Int.tmod_eq_emod_of_nonneg hx]
    exact ⟨Int.emod_nonneg _ (by omega), fun h => Int.emod_lt_of_pos _ h⟩
  by_cases c2 : (c.length : Int) = 0
  · have := modk (wrap64 (a * 7)) (by rw [w64 (by omega) (by omega)]; omega)
    exact ⟨_, by rw [if_pos c2, if_neg (by omega)], this.1, this.2, fun h => by omega⟩
  rw [if_neg c2]
  have hk : 0 < (c.length : Int) := by omega
  have m1 : 0 ≤ Int.tmod a (c.length : Int) ∧ Int.tmod a (c.length : Int) < (c.length : Int) := by
    rw [Int.tmod_eq_emod_of_nonneg h0]
    exact ⟨Int.emod_nonneg _ (by omega), Int.emod_lt_of_pos _ hk⟩
  have w3 : wrap64 (a + 1) = a + 1 := w1
  have m2 : 0 ≤ Int.tmod (a + 1) (c.length : Int) ∧ Int.tmod (a + 1) (c.length : Int) < (c.length : Int) := by
    rw [Int.tmod_eq_emod_of_nonneg (by omega)]
    exact ⟨Int.emod_nonneg _ (by omega), Int.emod_lt_of_pos _ hk⟩
  have r1 := hb _ (rd_mem m1.1 m1.2)
  have r2 := hb _ (rd_mem m2.1 m2.2)
  have d1 : 0 ≤ Int.tdiv a (c.length : Int) ∧ Int.tdiv a (c.length : Int) ≤ a := by
    rw [Int.tdiv_eq_ediv_of_nonneg h0]
    refine ⟨Int.ediv_nonneg h0 (by omega), Int.ediv_le_self _ h0⟩
  obtain ⟨y1, hy1⟩ : ∃ y, rd c (Int.tmod a (c.length : Int)) = y := ⟨_, rfl⟩
  obtain ⟨y2, hy2⟩ : ∃ y, rd c (Int.tmod (a + 1) (c.length : Int)) = y := ⟨_, rfl⟩
  obtain ⟨q, hq⟩ : ∃ y, Int.tdiv a (c.length : Int) = y := ⟨_, rfl⟩
  rw [hy1] at r1
  rw [hy2] at r2
  rw [hq] at d1
  rw [if_pos m1.1, if_pos m1.2, hy1, hq, hy2]
  have w4 : wrap64 y1 = y1 := w64 (by omega) (by omega)
  have w5 : wrap64 q = q := w64 (by omega) (by omega)
  have w6 : wrap64 (q * 37) = q * 37 := w64 (by omega) (by omega)
  have w7 : wrap64 (y1 + q * 37) = y1 + q * 37 := w64 (by omega) (by omega)
  rw [w4, w5, w6, w7]
  by_cases c3 : n > 200
  · have w8 : wrap64 ((y1 + q * 37) * 251) = (y1 + q * 37) * 251 := w64 (by omega) (by omega)
    have w9 : wrap64 (wrap64 y2 * 13) = y2 * 13 := by rw [w64 (x := y2) (by omega) (by omega), w64 (by omega) (by omega)]
    have wa : wrap64 ((y1 + q * 37) * 251 + y2 * 13) = (y1 + q * 37) * 251 + y2 * 13 := w64 (by omega) (by omega)
    have wb : wrap64 ((y1 + q * 37) * 251 + y2 * 13 + a) = (y1 + q * 37) * 251 + y2 * 13 + a := w64 (by omega) (by omega)
    rw [if_pos c3, if_pos m2.1, if_pos m2.2, if_neg (by omega), w8, w9, wa, wb]
    have := modk ((y1 + q * 37) * 251 + y2 * 13 + a) (by omega)
    exact ⟨_, rfl, this.1, this.2, fun h => by omega⟩
  · rw [if_neg c3, if_neg (by omega)]
    have := modk (y1 + q * 37) (by omega)
    exact ⟨_, rfl, this.1, this.2, fun h => by omega⟩
theorem chance_ev (c : List Int) (a z n : Int) (hc : c.length ≤ 1048576) (hb : ∀ x ∈ c, 0 ≤ x ∧ x ≤ 255) (h0 : 0 ≤ a) (h1 : a ≤ 1000000) (hn : n ≤ 1000000) : ∃ b, spec_l1Chance.f c a z n = some (b, a + 1, z) := by
  obtain ⟨v, h, _⟩ := next_ev c a z n hc hb h0 h1 hn
  exact ⟨_, by unfold spec_l1Chance.f; rw [h, Option.bind_some]⟩
theorem source_ev (c : List Int) (hc : c.length ≤ 1048576) : ∃ z, spec_l1Source.f c = some (c, 0, z) ∧ 0 ≤ z ∧ z ≤ 12 := by
  unfold spec_l1Source.f
  by_cases h : (wrap64 ((c.length : Int) / 16)) > 12
  · exact ⟨12, by rw [if_pos h], by omega, by omega⟩
  · rw [w64 (by omega) (by omega)] at h
    exact ⟨(c.length : Int) / 16, by rw [w64 (by omega) (by omega), if_neg h], by omega, by omega⟩
theorem odd_ev (c : List Int) (a z : Int) (hc : c.length ≤ 1048576) (hb : ∀ x ∈ c, 0 ≤ x ∧ x ≤ 255) (h0 : 0 ≤ a) (h1 : a ≤ 1000000) : ∃ s, spec_l10DrawOdd.f c a z = some (s, a + 1, z) ∧ s.size ≤ 16 := by
  unfold spec_l10DrawOdd.f
  simp only [Option.bind_some]
  have hm : ∀ L : List ByteArray, L.length = 12 → (∀ x ∈ L, x.size ≤ 16) → ∃ s, ((spec_l1Next.f c a z (L.length : Int)).bind fun bt140 => (if 0 ≤ bt140.1 then (if bt140.1 < (L.length : Int) then (some (rdOf ByteArray.empty L bt140.1, bt140.2.1, bt140.2.2)) else (none)) else (none))) = some (s, a + 1, z) ∧ s.size ≤ 16 := by
    intro L hL hx
    obtain ⟨v, hv, v0, v1, _⟩ := next_ev c a z (L.length : Int) hc hb h0 h1 (by omega)
    have v2 := v1 (by omega)
    refine ⟨rdOf ByteArray.empty L v, by rw [hv, Option.bind_some, if_pos v0, if_pos v2], ?_⟩
    obtain ⟨n, rfl⟩ := Int.eq_ofNat_of_zero_le v0
    rw [rdS L n (by omega)]
    exact hx _ (List.getElem_mem _)
  exact hm _ rfl (by decide)
theorem name_ev (c : List Int) (a z : Int) (hc : c.length ≤ 1048576) (hb : ∀ x ∈ c, 0 ≤ x ∧ x ≤ 255) (h0 : 0 ≤ a) (h1 : a ≤ 900000) : ∃ s a', spec_l10DrawName.f c a z = some (s, a', z) ∧ s.size ≤ 13 ∧ 0 ≤ a' ∧ a' ≤ a + 2 := by
  unfold spec_l10DrawName.f
  obtain ⟨v, hv, _⟩ := next_ev c a z 40 hc hb h0 (by omega) (by omega)
  rw [hv, Option.bind_some]
  by_cases c1 : v = 0
  · exact ⟨_, a + 1, by rw [if_pos c1], by decide, by omega, by omega⟩
  by_cases c2 : v = 1
  · exact ⟨_, a + 1, by rw [if_neg c1, if_pos c2], by decide, by omega, by omega⟩
  obtain ⟨u, hu, _⟩ := next_ev c (a + 1) z 5 hc hb (by omega) (by omega) (by omega)
  exact ⟨_, a + 1 + 1, by rw [if_neg c1, if_neg c2, hu, Option.bind_some], by rw [strOfNums_size]; simp, by omega, by omega⟩
theorem run1 (c : List Int) (z : Int) (hc : c.length ≤ 1048576) (hb : ∀ x ∈ c, 0 ≤ x ∧ x ≤ 255) (n : Nat) : ∀ (s : ByteArray) (a : Int), s.size + n = 400 → 0 ≤ a → a + n ≤ 900000 →
    ∃ r a', Ev (fun k => spec_l10DrawPath.l1 k s c a z) (r, a', z) ∧ r.size ≤ 400 := by
  induction n with
  | zero =>
    intro s a hs h0 h1
    obtain ⟨v, hv, v0, v1, _⟩ := next_ev c a z 2 hc hb h0 (by omega) (by omega)
    have := v1 (by omega)
    have hw : wrap64 (240 + v) = 240 + v := w64 (by omega) (by omega)
    refine ⟨s, a + 1, Ev.step (f := fun _ => some (s, a + 1, z)) (fun k => ?_) (Ev.now _), by omega⟩
    rw [spec_l10DrawPath.l1, hv, Option.bind_some, hw, if_neg (by omega)]
  | succ n ih =>
    intro s a hs h0 h1
    obtain ⟨v, hv, v0, v1, _⟩ := next_ev c a z 2 hc hb h0 (by omega) (by omega)
    have := v1 (by omega)
    have hw : wrap64 (240 + v) = 240 + v := w64 (by omega) (by omega)
    by_cases q : (s.size : Int) < 240 + v
    · have hz : (s ++ (⟨#[120]⟩ : ByteArray)).size = s.size + 1 := by rw [ByteArray.size_append]; rfl
      obtain ⟨r, a', h2, h3⟩ := ih (s ++ (⟨#[120]⟩ : ByteArray)) (a + 1) (by omega) (by omega) (by omega)
      refine ⟨r, a', Ev.step (fun k => ?_) h2, h3⟩
      rw [spec_l10DrawPath.l1, hv, Option.bind_some, hw, if_pos q, if_pos (by omega)]
    · refine ⟨s, a + 1, Ev.step (f := fun _ => some (s, a + 1, z)) (fun k => ?_) (Ev.now _), by omega⟩
      rw [spec_l10DrawPath.l1, hv, Option.bind_some, hw, if_neg q]
theorem run3 (c : List Int) (z : Int) (hc : c.length ≤ 1048576) (hb : ∀ x ∈ c, 0 ≤ x ∧ x ≤ 255) (n : Nat) : ∀ (s : ByteArray) (a : Int), s.size + n = 400 → 0 ≤ a → a + n ≤ 900000 →
    ∃ r a', Ev (fun k => spec_l10DrawPath.l3 k s c a z) (r, a', z) ∧ r.size ≤ 400 := by
  induction n with
  | zero =>
    intro s a hs h0 h1
    obtain ⟨v, hv, v0, v1, _⟩ := next_ev c a z 2 hc hb h0 (by omega) (by omega)
    have := v1 (by omega)
    have hw : wrap64 (240 + v) = 240 + v := w64 (by omega) (by omega)
    refine ⟨s, a + 1, Ev.step (f := fun _ => some (s, a + 1, z)) (fun k => ?_) (Ev.now _), by omega⟩
    rw [spec_l10DrawPath.l3, hv, Option.bind_some, hw, if_neg (by omega)]
  | succ n ih =>
    intro s a hs h0 h1
    obtain ⟨v, hv, v0, v1, _⟩ := next_ev c a z 2 hc hb h0 (by omega) (by omega)
    have := v1 (by omega)
    have hw : wrap64 (240 + v) = 240 + v := w64 (by omega) (by omega)
    by_cases q : (s.size : Int) < 240 + v
    · have hz : (s ++ (⟨#[47]⟩ : ByteArray)).size = s.size + 1 := by rw [ByteArray.size_append]; rfl
      obtain ⟨r, a', h2, h3⟩ := ih (s ++ (⟨#[47]⟩ : ByteArray)) (a + 1) (by omega) (by omega) (by omega)
      refine ⟨r, a', Ev.step (fun k => ?_) h2, h3⟩
      rw [spec_l10DrawPath.l3, hv, Option.bind_some, hw, if_pos q, if_pos (by omega)]
    · refine ⟨s, a + 1, Ev.step (f := fun _ => some (s, a + 1, z)) (fun k => ?_) (Ev.now _), by omega⟩
      rw [spec_l10DrawPath.l3, hv, Option.bind_some, hw, if_neg q]
theorem run2 (c : List Int) (z : Int) (hc : c.length ≤ 1048576) (hb : ∀ x ∈ c, 0 ≤ x ∧ x ≤ 255) (n : Nat) : ∀ (s : ByteArray) (a : Int), s.size ≤ 240 → 240 ≤ s.size + n → 0 ≤ a → a ≤ 800000 →
    ∃ r a', Ev (fun k => spec_l10DrawPath.l2 k s c a z) (r, a', z) ∧ r.size ≤ 400 := by
  have fin : ∀ (s : ByteArray) (a : Int), s.size ≤ 240 → 0 ≤ a → a ≤ 800000 → ¬ (s.size : Int) < 226 → ∃ r a', Ev (fun k => spec_l10DrawPath.l2 k s c a z) (r, a', z) ∧ r.size ≤ 400 := by
    intro s a hs h0 h1 q
    obtain ⟨r, a', h2, h3⟩ := run3 c z hc hb (400 - s.size) s a (by omega) h0 (by omega)
    refine ⟨r, a', Ev.step (fun k => ?_) h2, h3⟩
    rw [spec_l10DrawPath.l2, if_neg q]
  induction n with
  | zero => intro s a hs hn h0 h1; exact fin s a hs h0 h1 (by omega)
  | succ n ih =>
    intro s a hs hn h0 h1
    by_cases q : (s.size : Int) < 226
    · have hz : (s ++ (⟨#[47, 97, 98, 99, 100, 101, 102, 103, 104, 105, 106, 107, 108, 109]⟩ : ByteArray)).size = s.size + 14 := by rw [ByteArray.size_append]; rfl
      obtain ⟨r, a', h2, h3⟩ := ih (s ++ (⟨#[47, 97, 98, 99, 100, 101, 102, 103, 104, 105, 106, 107, 108, 109]⟩ : ByteArray)) a (by omega) (by omega) h0 h1
      refine ⟨r, a', Ev.step (fun k => ?_) h2, h3⟩
      rw [spec_l10DrawPath.l2, if_pos q, if_pos (by omega)]
    · exact fin s a hs h0 h1 q
theorem tail_ev (c : List Int) (z : Int) (hc : c.length ≤ 1048576) (hb : ∀ x ∈ c, 0 ≤ x ∧ x ≤ 255) (s : ByteArray) (n x5 i a : Int) (hs : s.size ≤ 300) (h0 : 0 ≤ a) (h1 : a ≤ 1000) (hin : ¬ i < n) (hx : x5 = 3 → 1 ≤ s.size) :
    ∃ r a', Ev (fun k => spec_l10DrawPath.l0 k s n x5 i c a z) (r, a', z) ∧ r.size ≤ 400 := by
  have hz : (s ++ (⟨#[47]⟩ : ByteArray)).size = s.size + 1 := by rw [ByteArray.size_append]; rfl
  by_cases e1 : x5 = 1
  · exact ⟨⟨#[47]⟩, a, Ev.step (f := fun _ => some (⟨#[47]⟩, a, z)) (fun k => by rw [spec_l10DrawPath.l0, if_neg hin, if_pos e1]) (Ev.now _), by decide⟩
  by_cases e2 : x5 = 2
  · exact ⟨s ++ (⟨#[47]⟩ : ByteArray), a, Ev.step (f := fun _ => some (s ++ (⟨#[47]⟩ : ByteArray), a, z)) (fun k => by rw [spec_l10DrawPath.l0, if_neg hin, if_neg e1, if_pos e2, if_pos (by omega)]) (Ev.now _), by omega⟩
  by_cases e3 : x5 = 3
  · have := hx e3
    have h2 := sub_size s 1 s.size
    exact ⟨s.extract 1 s.size, a, Ev.step (f := fun _ => some (s.extract 1 s.size, a, z)) (fun k => by rw [spec_l10DrawPath.l0, if_neg hin, if_neg e1, if_neg e2, if_pos e3, if_pos (by omega)]) (Ev.now _), by omega⟩
  by_cases e4 : x5 = 4
  · obtain ⟨o, ho, hos⟩ := odd_ev c a z hc hb h0 (by omega)
    have h2 : ((s ++ (⟨#[47]⟩ : ByteArray)) ++ o).size = s.size + 1 + o.size := by rw [ByteArray.size_append, hz]
    refine ⟨(s ++ (⟨#[47]⟩ : ByteArray)) ++ o, a + 1, Ev.step (f := fun _ => some ((s ++ (⟨#[47]⟩ : ByteArray)) ++ o, a + 1, z)) (fun k => ?_) (Ev.now _), by omega⟩
    rw [spec_l10DrawPath.l0, if_neg hin, if_neg e1, if_neg e2, if_neg e3, if_pos e4, if_pos (by omega), ho, Option.bind_some, if_pos (by simp only; omega)]
  by_cases e5 : x5 = 5
  · obtain ⟨o, ho, hos⟩ := odd_ev c a z hc hb h0 (by omega)
    have h3 : ((⟨#[47]⟩ : ByteArray) ++ o).size = 1 + o.size := by rw [ByteArray.size_append]; rfl
    have h2 : (((⟨#[47]⟩ : ByteArray) ++ o) ++ s).size = 1 + o.size + s.size := by rw [ByteArray.size_append, h3]
    refine ⟨((⟨#[47]⟩ : ByteArray) ++ o) ++ s, a + 1, Ev.step (f := fun _ => some (((⟨#[47]⟩ : ByteArray) ++ o) ++ s, a + 1, z)) (fun k => ?_) (Ev.now _), by omega⟩
    rw [spec_l10DrawPath.l0, if_neg hin, if_neg e1, if_neg e2, if_neg e3, if_neg e4, if_pos e5, ho, Option.bind_some, if_pos (by simp only; omega), if_pos (by simp only; omega)]
  by_cases e6 : x5 = 6
  · obtain ⟨r, a', h2, h3⟩ := run1 c z hc hb (400 - s.size) s a (by omega) h0 (by omega)
    refine ⟨r, a', Ev.step (fun k => ?_) h2, h3⟩
    rw [spec_l10DrawPath.l0, if_neg hin, if_neg e1, if_neg e2, if_neg e3, if_neg e4, if_neg e5, if_pos e6]
  by_cases e7 : x5 = 7
  · obtain ⟨r, a', h2, h3⟩ := run2 c z hc hb 300 ⟨#[]⟩ a (by decide) (by decide) h0 (by omega)
    refine ⟨r, a', Ev.step (fun k => ?_) h2, h3⟩
    rw [spec_l10DrawPath.l0, if_neg hin, if_neg e1, if_neg e2, if_neg e3, if_neg e4, if_neg e5, if_neg e6, if_pos e7]
  · exact ⟨s, a, Ev.step (f := fun _ => some (s, a, z)) (fun k => by rw [spec_l10DrawPath.l0, if_neg hin, if_neg e1, if_neg e2, if_neg e3, if_neg e4, if_neg e5, if_neg e6, if_neg e7]) (Ev.now _), by omega⟩
theorem names_ev (c : List Int) (z : Int) (hc : c.length ≤ 1048576) (hb : ∀ x ∈ c, 0 ≤ x ∧ x ≤ 255) (n x5 : Int) (hn : n ≤ 18) (d : Nat) : ∀ (s : ByteArray) (i a : Int), 1 ≤ n → 0 ≤ i → n - i ≤ d → i ≤ n → s.size ≤ 14 * i → (0 < i → 1 ≤ s.size) → 0 ≤ a → a ≤ 100 + 2 * i →
    ∃ r a', Ev (fun k => spec_l10DrawPath.l0 k s n x5 i c a z) (r, a', z) ∧ r.size ≤ 400 := by
  induction d with
  | zero => intro s i a h1 hi hd hin hs hp h0 ha; exact tail_ev c z hc hb s n x5 i a (by omega) h0 (by omega) (by omega) (fun _ => hp (by omega))
  | succ d ih =>
    intro s i a h1 hi hd hin hs hp h0 ha
    by_cases q : i < n
    · obtain ⟨o, a', ho, hos, ha0, ha1⟩ := name_ev c a z hc hb h0 (by omega)
      have hz : (s ++ (⟨#[47]⟩ : ByteArray)).size = s.size + 1 := by rw [ByteArray.size_append]; rfl
      have h2 : ((s ++ (⟨#[47]⟩ : ByteArray)) ++ o).size = s.size + 1 + o.size := by rw [ByteArray.size_append, hz]
      have hw : wrap64 (i + 1) = i + 1 := w64 (by omega) (by omega)
      obtain ⟨r, a'', h3, h4⟩ := ih ((s ++ (⟨#[47]⟩ : ByteArray)) ++ o) (i + 1) a' h1 (by omega) (by omega) (by omega) (by omega) (fun _ => by omega) ha0 (by omega)
      refine ⟨r, a'', Ev.step (fun k => ?_) h3, h4⟩
      rw [spec_l10DrawPath.l0, if_pos q, if_pos (by omega), ho, Option.bind_some, if_pos (by simp only; omega), hw]
    · exact tail_ev c z hc hb s n x5 i a (by omega) h0 (by omega) q (fun _ => hp (by omega))
theorem path_ev (c : List Int) (a z : Int) (hc : c.length ≤ 1048576) (hb : ∀ x ∈ c, 0 ≤ x ∧ x ≤ 255) (h0 : 0 ≤ a) (h1 : a ≤ 90) : ∃ r a', Ev (fun k => spec_l10DrawPath.f k c a z) (r, a', z) ∧ r.size ≤ 400 := by
  obtain ⟨v, hv, v0, v1, _⟩ := next_ev c a z 3 hc hb h0 (by omega) (by omega)
  have v2 := v1 (by omega)
  obtain ⟨u, hu, u0, _, _⟩ := next_ev c (a + 1) z 50 hc hb (by omega) (by omega) (by omega)
  by_cases cu : u = 0
  · obtain ⟨t, ht, t0, t1, _⟩ := next_ev c (a + 1 + 1) z 2 hc hb (by omega) (by omega) (by omega)
    have t2 := t1 (by omega)
    have hw : wrap64 (16 + t) = 16 + t := w64 (by omega) (by omega)
    obtain ⟨r, a', h, hr⟩ := names_ev c z hc hb (16 + t) u (by omega) 18 ⟨#[]⟩ 0 (a + 1 + 1 + 1) (by omega) (by omega) (by omega) (by omega) (by decide) (fun h => by omega) (by omega) (by omega)
    refine ⟨r, a', Ev.congr (fun k => ?_) (Ev.step (f := fun k => spec_l10DrawPath.l0 k ⟨#[]⟩ (16 + t) u 0 c (a + 1 + 1 + 1) z) (g := fun k => spec_l10DrawPath.j0 k ⟨#[]⟩ (16 + t) u c (a + 1 + 1 + 1) z) (fun k => by rw [spec_l10DrawPath.j0]) h), hr⟩
    unfold spec_l10DrawPath.f
    rw [hv, Option.bind_some, hu, Option.bind_some, if_pos cu, ht, Option.bind_some, hw]
  · have hw : wrap64 (1 + v) = 1 + v := w64 (by omega) (by omega)
    obtain ⟨r, a', h, hr⟩ := names_ev c z hc hb (1 + v) u (by omega) 18 ⟨#[]⟩ 0 (a + 1 + 1) (by omega) (by omega) (by omega) (by omega) (by decide) (fun h => by omega) (by omega) (by omega)
    refine ⟨r, a', Ev.congr (fun k => ?_) (Ev.step (f := fun k => spec_l10DrawPath.l0 k ⟨#[]⟩ (1 + v) u 0 c (a + 1 + 1) z) (g := fun k => spec_l10DrawPath.j0 k ⟨#[]⟩ (1 + v) u c (a + 1 + 1) z) (fun k => by rw [spec_l10DrawPath.j0]) h), hr⟩
    unfold spec_l10DrawPath.f
    rw [hv, Option.bind_some, hu, Option.bind_some, if_neg cu, hw]
theorem draw_ev (c : List Int) (hc : c.length ≤ 1048576) (hb : ∀ x ∈ c, 0 ≤ x ∧ x ≤ 255) : ∃ p, Ev (fun k => spec_DrawSplitPath.f k c) p ∧ p.size ≤ 500 := by
  obtain ⟨z, hz, _, _⟩ := source_ev c hc
  obtain ⟨b, hbb⟩ := chance_ev c 0 z 3 hc hb (by omega) (by omega) (by omega)
  by_cases cb : b = true
  · have hw : wrap64 (0 + 1 + 9) = 10 := by rw [w64 (by omega) (by omega)]; rfl
    obtain ⟨o, ho, hos⟩ := odd_ev c 10 z hc hb (by omega) (by omega)
    obtain ⟨r, a', h, hr⟩ := path_ev c (10 + 1) z hc hb (by omega) (by omega)
    have h3 : ((⟨#[47]⟩ : ByteArray) ++ o).size = 1 + o.size := by rw [ByteArray.size_append]; rfl
    have h2 : (((⟨#[47]⟩ : ByteArray) ++ o) ++ r).size = 1 + o.size + r.size := by rw [ByteArray.size_append, h3]
    refine ⟨((⟨#[47]⟩ : ByteArray) ++ o) ++ r, Ev.congr (f := fun k => (spec_l10DrawPath.f k c (10 + 1) z).bind fun bt187 => (if ((⟨#[47]⟩ : ByteArray) ++ o).size + bt187.1.size ≤ 9223372036854775807 then (some (((⟨#[47]⟩ : ByteArray) ++ o) ++ bt187.1)) else (none))) (fun k => ?_) (h.bind (Ev.congr (fun k => by rw [if_pos (by simp only; omega)]) (Ev.now _))), by omega⟩
    unfold spec_DrawSplitPath.f
    rw [hz, Option.bind_some, hbb, Option.bind_some, if_pos cb, hw, ho, Option.bind_some, if_pos (by simp only; omega)]
  · obtain ⟨r, a', h, hr⟩ := path_ev c (0 + 1) z hc hb (by omega) (by omega)
    refine ⟨r, Ev.congr (f := fun k => (spec_l10DrawPath.f k c (0 + 1) z).bind fun bt190 => (some bt190.1)) (fun k => ?_) (h.bind (Ev.now _)), by omega⟩
    unfold spec_DrawSplitPath.f
    rw [hz, Option.bind_some, hbb, Option.bind_some, if_neg cb]
theorem ext0 (s : ByteArray) : s.extract 0 s.size = s := by
  apply ByteArray.ext; apply Array.toList_inj.1; rw [ext_data]; rfl
/-- The names, each with a slash ahead. -/
def tl (L : List ByteArray) : List UInt8 := L.flatMap fun p => 47 :: p.data.toList
theorem tl_cons (p : ByteArray) (L : List ByteArray) : tl (p :: L) = 47 :: (p.data.toList ++ tl L) := by simp [tl]
theorem tl_split (n : Nat) : ∀ t : ByteArray, t.size ≤ n → t.size ≤ 1048576 → tl (Lib.splitB sl 0 (Lib.countB t sl) t) = 47 :: t.data.toList := by
  have miss : ∀ t : ByteArray, Lib.indexB t sl = -1 → tl (Lib.splitB sl 0 (Lib.countB t sl) t) = 47 :: t.data.toList := by
    intro t e
    rw [Lib.splitB_miss _ _ _ _ e, tl_cons]; simp [tl]
  induction n with
  | zero =>
    intro t ht _
    have := at_q t 0 (by omega)
    rw [ext0] at this
    rcases this with ⟨e, _⟩ | ⟨i, _, hi, _⟩
    · exact miss t e
    · omega
  | succ n ih =>
    intro t ht hb
    have := at_q t 0 (by omega)
    rw [ext0] at this
    rcases this with ⟨e, _⟩ | ⟨i, e, hi, h47, _⟩
    · exact miss t e
    · rw [Nat.zero_add] at hi h47
      have e1 : t.extract (i + sl.size) t.size = t.extract (i + 1) t.size := rfl
      have hsz : (t.extract (i + 1) t.size).size = t.size - (i + 1) := by rw [ByteArray.size_extract]; omega
      have hil : i < t.data.toList.length := by simpa using hi
      have h8 : t.data.toList[i] = 47 := by
        rw [bt_data t i hi] at h47
        exact UInt8.toNat_inj.1 (by show _ = 47; omega)
      have he : (t.extract 0 (i + 0)).data.toList = t.data.toList.take i := by
        rw [ByteArray.data_extract]; simp
      rw [Lib.countB_hit _ _ i (by decide) e, e1, Nat.add_comm 1, Lib.splitB_hit _ _ _ _ i e, e1, tl_cons, ih _ (by omega) (by omega), he, ext_data]
      congr 1
      conv => rhs; rw [← List.take_append_drop i t.data.toList]
      rw [List.drop_eq_getElem_cons hil, h8]
theorem valid_facts (s : ByteArray) (hs : s.size ≤ 1048576) (h : Ev (fun k => spec_ValidName.f k s) true) : 1 ≤ s.size ∧ ∀ j (hj : j < s.size), bt s (j : Int) ≠ 47 := by
  have hc := cut_ev s hs s.size 0 [] (by omega) (by omega) (by simp)
  rw [ext0, List.nil_append] at hc
  obtain ⟨N, hN⟩ := h
  obtain ⟨M, hM⟩ := hc
  have h1 := hN (max N M) (Nat.le_max_left _ _)
  have h2 : spec_l10Cut.f (max N M) s 47 = some _ := hM (max N M) (Nat.le_max_right _ _)
  simp only at h1
  unfold spec_ValidName.f at h1
  rw [Option.bind_eq_some_iff] at h1
  obtain ⟨b, hb, h1⟩ := h1
  by_cases c1 : b = true
  · rw [if_pos c1] at h1
    by_cases c2 : (s.size : Int) < 1
    · rw [if_pos c2] at h1; cases h1
    rw [if_neg c2] at h1
    by_cases c3 : (s.size : Int) > 13
    · rw [if_pos c3] at h1; cases h1
    rw [if_neg c3] at h1
    by_cases c4 : s.toList = ([46] : List UInt8)
    · rw [if_pos c4] at h1; cases h1
    rw [if_neg c4] at h1
    by_cases c5 : s.toList = ([46, 46] : List UInt8)
    · rw [if_pos c5] at h1; cases h1
    rw [if_neg c5, h2, Option.bind_some] at h1
    have hl := Lib.splitB_all sl (by decide) 0 _ s rfl
    have h3 := Option.some.inj h1
    rw [hl] at h3
    have h4 : ((Lib.countB s sl + 1 : Nat) : Int) = 1 := by simpa using h3
    refine ⟨by omega, ?_⟩
    have := at_q s 0 (by omega)
    rw [ext0] at this
    rcases this with ⟨_, hn⟩ | ⟨i, e, _⟩
    · exact fun j hj => hn j (Nat.zero_le _) hj
    · rw [Lib.countB_hit _ _ i (by decide) e] at h4; omega
  · rw [if_neg c1] at h1; cases h1
theorem last_ne : ∀ L : List ByteArray, L ≠ [] → (∀ p ∈ L, 1 ≤ p.size ∧ ∀ j (hj : j < p.size), bt p (j : Int) ≠ 47) → (tl L).getLast? ≠ some 47
  | [], h, _ => absurd rfl h
  | [p], _, hp => by
    obtain ⟨h1, h2⟩ := hp p (List.mem_singleton.2 rfl)
    have hl : p.data.toList.length = p.size := by simp
    have h3 := h2 (p.size - 1) (by omega)
    rw [bt_data p (p.size - 1) (by omega)] at h3
    have e : tl [p] = 47 :: p.data.toList := by rw [tl_cons]; simp [tl]
    rw [e, List.getLast?_cons, List.getLast?_eq_getElem?, hl, List.getElem?_eq_getElem (by omega)]
    intro hh
    rw [Option.getD_some, Option.some.injEq] at hh
    rw [hh] at h3
    exact h3 rfl
  | p :: q :: L, _, hp => by
    have ih := last_ne (q :: L) (by simp) (fun x hx => hp x (List.mem_cons_of_mem _ hx))
    rw [tl_cons, ← List.cons_append, List.getLast?_append]
    cases e : (tl (q :: L)).getLast? with
    | none => rw [tl_cons] at e; simp at e
    | some x => rw [e] at ih; exact ih
theorem app_data (a b : ByteArray) : (a ++ b).data.toList = a.data.toList ++ b.data.toList := by simp
theorem slash_bad (p : ByteArray) (hp : p.size ≤ 500) (h1 : 1 ≤ p.size) : ∃ r : Int × List ByteArray, r.1 ≠ 0 ∧ Ev (fun k => impl_SplitPath.f k (p ++ (⟨#[47]⟩ : ByteArray))) r := by
  have hsz : (p ++ (⟨#[47]⟩ : ByteArray)).size = p.size + 1 := by rw [ByteArray.size_append]; rfl
  obtain ⟨r, h16, s, i, hz, _⟩ := both (p ++ (⟨#[47]⟩ : ByteArray)) (by omega)
  refine ⟨r, fun e => ?_, i⟩
  obtain ⟨_, _, ⟨hc, _⟩ | ⟨hc, hv⟩⟩ := hz e
  · have := congrArg List.length hc
    rw [ByteArray.toList_eq] at this
    have h2 : (p ++ (⟨#[47]⟩ : ByteArray)).data.toList.length = (p ++ (⟨#[47]⟩ : ByteArray)).size := Array.length_toList
    rw [h2, hsz] at this
    have h3 : p.size + 1 = 1 := this
    omega
  · have hs2 := sub_size (p ++ (⟨#[47]⟩ : ByteArray)) 1 (p ++ (⟨#[47]⟩ : ByteArray)).size
    have ht := tl_split _ ((p ++ (⟨#[47]⟩ : ByteArray)).extract 1 (p ++ (⟨#[47]⟩ : ByteArray)).size) (Nat.le_refl _) (by omega)
    rw [ext_data, app_data, List.drop_append_of_le_length (by simpa using h1)] at ht
    have hcp : r.2 = Lib.splitB sl 0 (Lib.countB ((p ++ (⟨#[47]⟩ : ByteArray)).extract 1 (p ++ (⟨#[47]⟩ : ByteArray)).size) sl) ((p ++ (⟨#[47]⟩ : ByteArray)).extract 1 (p ++ (⟨#[47]⟩ : ByteArray)).size) := hc
    rw [← hcp] at ht
    have hsm := split_small sl 600 (Lib.countB ((p ++ (⟨#[47]⟩ : ByteArray)).extract 1 (p ++ (⟨#[47]⟩ : ByteArray)).size) sl) ((p ++ (⟨#[47]⟩ : ByteArray)).extract 1 (p ++ (⟨#[47]⟩ : ByteArray)).size) (by omega)
    rw [← hcp] at hsm
    refine last_ne r.2 (fun e0 => ?_) (fun x hx => valid_facts x (by have := hsm x hx; omega) (hv x hx)) ?_
    · rw [e0] at ht; cases ht
    · rw [ht, ← List.cons_append, List.getLast?_append]; rfl
theorem x_bad (p : ByteArray) (hp : p.size ≤ 500) : ∃ r : Int × List ByteArray, r.1 = 30 ∧ Ev (fun k => impl_SplitPath.f k ((⟨#[120]⟩ : ByteArray) ++ p)) r := by
  have hsz : ((⟨#[120]⟩ : ByteArray) ++ p).size = 1 + p.size := by rw [ByteArray.size_append]; rfl
  obtain ⟨r, h16, s, i, _, _, h30⟩ := both ((⟨#[120]⟩ : ByteArray) ++ p) (by omega)
  refine ⟨r, h30 (by omega) ?_, i⟩
  have := bt_data ((⟨#[120]⟩ : ByteArray) ++ p) 0 (by omega)
  intro e
  rw [show (0 : Int) = ((0 : Nat) : Int) from rfl, this] at e
  have h2 : ((⟨#[120]⟩ : ByteArray) ++ p).data.toList = 120 :: p.data.toList := by rw [app_data]; rfl
  simp only [h2, List.getElem_cons_zero] at e
  exact absurd e (by decide)
theorem end_ev (p : ByteArray) (hp : p.size ≤ 500) (h1 : 1 ≤ p.size) (h47 : bt p 0 = 47) (L : List ByteArray) (hL : L.length ≤ 16) :
    Ev (fun k => if (L.length : Int) ≤ 16 then (if p.size + 1 ≤ 9223372036854775807 then ((impl_SplitPath.f k (p ++ (⟨#[47]⟩ : ByteArray))).bind fun bt206 => (if bt206.1 = 0 then (some false) else (if 1 + p.size ≤ 9223372036854775807 then ((impl_SplitPath.f k ((⟨#[120]⟩ : ByteArray) ++ p)).bind fun bt210 => (if bt210.1 = 30 then ((impl_ValidName.f k p).bind fun t214 => (some (!t214))) else (some false))) else (none)))) else (none)) else (some false)) true := by
  obtain ⟨r, h2, h3⟩ := slash_bad p hp h1
  obtain ⟨q, h4, h5⟩ := x_bad p hp
  obtain ⟨v, hv⟩ := spec_some p (by omega)
  have hf : v = false := by
    cases v with
    | false => rfl
    | true => exact absurd h47 ((valid_facts p (by omega) hv).2 0 (by omega))
  subst hf
  have hv' : Ev (fun k => impl_ValidName.f k p) false := hv
  refine Ev.congr (fun k => by rw [if_pos (by omega), if_pos (by omega)]) (h3.bind (Ev.congr (fun k => by rw [if_neg h2, if_pos (by omega)]) (h5.bind (Ev.congr (fun k => if_pos h4) (hv'.bind (Ev.now _))))))
theorem loop_ev (p : ByteArray) (L : List ByteArray) (c : Int) (hL : L.length ≤ 16) (hs : ∀ x ∈ L, x.size ≤ 500) (hv : ∀ x ∈ L, Ev (fun k => spec_ValidName.f k x) true) (d : Nat) : ∀ (i : Nat) (y : ByteArray), i + d = L.length → y.size ≤ 501 * i →
    (∀ y2 : ByteArray, y2.data.toList = y.data.toList ++ tl (L.drop i) → Ev (fun k => laws_FnPaths.l0 k p y2 (L.length : Int) c L) true) → Ev (fun k => laws_FnPaths.l0 k p y (i : Int) c L) true := by
  induction d with
  | zero =>
    intro i y hi hy fin
    obtain rfl : i = L.length := by omega
    exact fin y (by simp [tl])
  | succ d ih =>
    intro i y hi hy fin
    have hil : i < L.length := by omega
    have hx := hs _ (List.getElem_mem hil)
    have hvx : Ev (fun k => impl_ValidName.f k L[i]) true := hv _ (List.getElem_mem hil)
    have hw : wrap64 ((i : Int) + 1) = ((i + 1 : Nat) : Int) := by unfold wrap64; omega
    have hz : (y ++ (⟨#[47]⟩ : ByteArray)).size = y.size + 1 := by rw [ByteArray.size_append]; rfl
    have hz2 : ((y ++ (⟨#[47]⟩ : ByteArray)) ++ L[i]).size = y.size + 1 + L[i].size := by rw [ByteArray.size_append, hz]
    have := ih (i + 1) ((y ++ (⟨#[47]⟩ : ByteArray)) ++ L[i]) (by omega) (by omega) (fun y2 h2 => fin y2 (by
      rw [h2, app_data, app_data, List.drop_eq_getElem_cons hil, tl_cons, List.append_assoc, List.append_assoc]; rfl))
    refine Ev.step (f := fun k => (impl_ValidName.f k L[i]).bind fun t204 => (if t204 = true then (if y.size + 1 ≤ 9223372036854775807 then (if (y ++ (⟨#[47]⟩ : ByteArray)).size + L[i].size ≤ 9223372036854775807 then (laws_FnPaths.l0 k p ((y ++ (⟨#[47]⟩ : ByteArray)) ++ L[i]) ((i + 1 : Nat) : Int) c L) else (none)) else (none)) else (some false))) (fun k => ?_) (hvx.bind (Ev.congr (fun k => by rw [if_pos rfl, if_pos (by omega), if_pos (by omega)]) this))
    simp only [laws_FnPaths.l0]
    rw [if_pos (by omega), if_pos (by omega), rdS L i hil, hw]
end FP
theorem FnPaths : laws_FnPaths.Pure := by
  intro l hl _ hb
  by_cases c : (l.length : Int) > 1048576
  · exact ⟨0, by unfold laws_FnPaths.f; rw [if_pos c]⟩
  obtain ⟨p, hp, hps⟩ := FP.draw_ev l (by omega) (fun x hx => wfb (hb x hx))
  obtain ⟨r, h16, s, i, hz, hnz, _⟩ := FP.both p (by omega)
  refine Ev.rounds (Ev.congr (fun k => by unfold laws_FnPaths.f; rw [if_neg c]) ?_)
  refine hp.bind ?_
  refine i.bind ?_
  refine s.bind ?_
  refine Ev.congr (fun k => if_pos rfl) ?_
  by_cases c0 : r.1 = 0
  · refine Ev.congr (fun k => if_pos c0) ?_
    obtain ⟨h1, h47, hcase⟩ := hz c0
    have he := FP.end_ev p hps h1 h47 r.2 h16
    rcases hcase with ⟨hs, hn⟩ | ⟨hpc, hv⟩
    · rw [hn] at he ⊢
      refine Ev.step (fun k => ?_) he
      simp only [laws_FnPaths.l0]
      rw [if_neg (by simp), if_pos (by simp), if_pos hs.symm]
    · have hsz := FP.sub_size p 1 p.size
      have hsm := FP.split_small FP.sl 500 (Lib.countB (p.extract 1 p.size) FP.sl) (p.extract 1 p.size) (by omega)
      have hpc' : r.2 = Lib.splitB FP.sl 0 (Lib.countB (p.extract 1 p.size) FP.sl) (p.extract 1 p.size) := hpc
      have ht := FP.tl_split _ (p.extract 1 p.size) (Nat.le_refl _) (by omega)
      rw [← hpc'] at hsm ht
      have hl1 : r.2 ≠ [] := fun e => by rw [e] at ht; cases ht
      have hp47 : 47 :: (p.extract 1 p.size).data.toList = p.data.toList := by
        have hpl : 0 < p.data.toList.length := by rw [Array.length_toList]; exact h1
        have h8 : p.data.toList[0] = 47 := by
          have := FP.bt_data p 0 (by omega)
          rw [show ((0 : Nat) : Int) = 0 from rfl, h47] at this
          exact UInt8.toNat_inj.1 (by show _ = 47; omega)
        rw [FP.ext_data]
        conv => rhs; rw [← List.drop_zero (l := p.data.toList), List.drop_eq_getElem_cons hpl, h8]
      refine FP.loop_ev p r.2 r.1 h16 hsm hv r.2.length 0 ⟨#[]⟩ (by omega) (by decide) (fun y2 h2 => ?_)
      have hy : y2.toList = p.toList := by
        rw [ByteArray.toList_eq, ByteArray.toList_eq, h2, List.drop_zero, ht, hp47]; rfl
      refine Ev.step (fun k => ?_) he
      simp only [laws_FnPaths.l0]
      rw [if_neg (by omega), if_neg (by have := List.length_pos_iff.2 hl1; omega), if_pos hy]
  · refine Ev.congr (fun k => if_neg c0) ?_
    rw [hnz c0]
    exact Ev.now true
end Go.Proofs.YtjaiolojmglmiaaDoor.Pure
