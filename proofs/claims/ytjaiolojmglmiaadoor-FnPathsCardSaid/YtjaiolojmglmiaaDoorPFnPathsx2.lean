-- written by a program of this session (wip/src/print2.py)
import Derived.Test.YtjaiolojmglmiaaDoorPFnPathsx0
import Derived.Test.YtjaiolojmglmiaaDoorPFnPathsx1
namespace Go.Proofs.YtjaiolojmglmiaaDoor.PFnPaths
open Go.RowKit Go.Proofs.YtjaiolojmglmiaaDoorW.PrintWords Go.Proofs.YtjaiolojmglmiaaDoorW.PrintLast Go.Proofs.YtjaiolojmglmiaaDoorW.PrintMore
attribute [local go_sem] max2_int min2_int max_two min_two max_three min_three max_four min_four   -- for this text's walks alone
set_option linter.unusedVariables false
set_option linter.unusedSimpArgs false

/-! ### impl_ValidName: function 11 -/
def impl_ValidName.f (k : Nat) (a0 : ByteArray) : Option (Bool) := spec_ValidName.f k a0
theorem impl_ValidName.mono : ∀ a0 k, LeO (impl_ValidName.f k a0) (impl_ValidName.f (k + 1) a0) :=spec_ValidName.mono

/-- Byte j is one of a name's. -/
def vnGood (s : ByteArray) (j : Nat) : Prop := 33 ≤ bt s (j : Int) ∧ bt s (j : Int) ≤ 126 ∧ bt s (j : Int) ≠ 47
def vnAll (s : ByteArray) : Prop := 1 ≤ s.size ∧ s.size ≤ 13 ∧ s.toList ≠ [46] ∧ s.toList ≠ [46, 46] ∧ ∀ j, j < s.size → vnGood s j
theorem vn_bytes (s : ByteArray) (hs : s.size ≤ 13) : ∀ (k i : Nat) (r : Bool), spec_l10Bytes.l0 k s (i : Int) = some r → (r = true ↔ ∀ j, i ≤ j → j < s.size → 33 ≤ bt s (j : Int) ∧ bt s (j : Int) ≤ 126) := by
  intro k
  induction k with
  | zero => intro i r h; simp [spec_l10Bytes.l0] at h
  | succ k ih =>
    intro i r h
    simp only [spec_l10Bytes.l0] at h
    by_cases h1 : (i : Int) < (s.size : Int)
    · rw [if_pos h1, if_pos (by omega)] at h
      by_cases h2 : bt s (i : Int) < 33
      · rw [if_pos h2] at h; cases h
        constructor
        · intro h; cases h
        · intro h; have := h i (Nat.le_refl _) (by omega); omega
      · rw [if_neg h2] at h
        by_cases h3 : bt s (i : Int) > 126
        · rw [if_pos h3] at h; cases h
          constructor
          · intro h; cases h
          · intro h; have := h i (Nat.le_refl _) (by omega); omega
        · rw [if_neg h3, show wrap64 ((i : Int) + 1) = ((i + 1 : Nat) : Int) by unfold wrap64; omega] at h
          rw [ih _ _ h]
          constructor
          · intro h4 j hj hl
            rcases Nat.lt_or_eq_of_le hj with h5 | h5
            · exact h4 j h5 hl
            · subst h5; omega
          · intro h4 j hj hl; exact h4 j (by omega) hl
    · rw [if_neg h1] at h; cases h
      exact ⟨fun _ j hj hl => by omega, fun _ => rfl⟩
theorem vn_cut (s : ByteArray) (hs : s.size ≤ 13) : ∀ (k i : Nat) (a : List ByteArray) (q : Int) (r : List ByteArray), spec_l10Cut.l0 k s 47 a q (i : Int) = some r → a.length + 1 ≤ r.length ∧ (r.length = a.length + 1 ↔ ∀ j, i ≤ j → j < s.size → bt s (j : Int) ≠ 47) := by
  intro k
  induction k with
  | zero => intro i a q r h; simp [spec_l10Cut.l0] at h
  | succ k ih =>
    intro i a q r h
    simp only [spec_l10Cut.l0] at h
    by_cases h1 : (i : Int) < (s.size : Int)
    · rw [if_pos h1, if_pos (by omega)] at h
      by_cases h2 : bt s (i : Int) = 47
      · rw [if_pos h2] at h
        split at h
        · split at h
          · split at h
            · split at h
              · rw [show wrap64 ((i : Int) + 1) = ((i + 1 : Nat) : Int) by unfold wrap64; omega] at h
                have h3 := (ih _ _ _ _ h).1
                rw [List.length_append] at h3
                simp at h3
                exact ⟨by omega, fun h4 => by omega, fun h4 => absurd h2 (h4 i (Nat.le_refl _) (by omega))⟩
              · cases h
            · cases h
          · cases h
        · cases h
      · rw [if_neg h2, show wrap64 ((i : Int) + 1) = ((i + 1 : Nat) : Int) by unfold wrap64; omega] at h
        have h3 := ih _ _ _ _ h
        refine ⟨h3.1, h3.2.trans ⟨fun h4 j hj hl => ?_, fun h4 j hj hl => h4 j (by omega) hl⟩⟩
        rcases Nat.lt_or_eq_of_le hj with h5 | h5
        · exact h4 j h5 hl
        · subst h5; exact h2
    · rw [if_neg h1] at h
      split at h
      · split at h
        · split at h
          · cases h
            have e : ∀ x : ByteArray, (a ++ [x]).length = a.length + 1 := fun x => by simp
            rw [e]
            exact ⟨Nat.le_refl _, fun _ j hj hl => absurd hl (by omega), fun _ => rfl⟩
          · cases h
        · cases h
      · cases h
theorem vn_of {k : Nat} {s : ByteArray} {r : Bool} (h : spec_ValidName.f k s = some r) : r = true ↔ vnAll s := by
  unfold spec_ValidName.f at h
  obtain ⟨t, h1, h⟩ := Option.bind_eq_some_iff.1 h
  unfold spec_l10Bytes.f at h1
  by_cases hs : s.size ≤ 13
  rotate_left
  · have : ¬ vnAll s := fun h => by have := h.2.1; omega
    by_cases ht : t = true
    · rw [if_pos ht] at h
      by_cases h2 : (s.size : Int) < 1
      · omega
      · rw [if_neg h2, if_pos (by omega)] at h; cases h; simp [this]
    · rw [if_neg ht] at h; cases h; simp [this]
  have hb := vn_bytes s hs k 0 t h1
  by_cases ht : t = true
  rotate_left
  · rw [if_neg ht] at h; cases h
    constructor
    · intro h; cases h
    · intro h; exact absurd (hb.2 fun j _ hl => ⟨(h.2.2.2.2 j hl).1, (h.2.2.2.2 j hl).2.1⟩) ht
  rw [if_pos ht] at h
  by_cases h2 : (s.size : Int) < 1
  · rw [if_pos h2] at h; cases h
    constructor
    · intro h; cases h
    · intro h; have := h.1; omega
  rw [if_neg h2, if_neg (by omega)] at h
  by_cases h3 : s.toList = [46]
  · rw [if_pos h3] at h; cases h
    exact ⟨fun h => (by cases h), fun h => absurd h3 h.2.2.1⟩
  rw [if_neg h3] at h
  by_cases h4 : s.toList = [46, 46]
  · rw [if_pos h4] at h; cases h
    exact ⟨fun h => (by cases h), fun h => absurd h4 h.2.2.2.1⟩
  rw [if_neg h4] at h
  obtain ⟨l, h5, h⟩ := Option.bind_eq_some_iff.1 h
  unfold spec_l10Cut.f at h5
  have hc := vn_cut s hs k 0 [] 0 l h5
  have hr : r = ((l.length : Int) == 1) := (Option.some.inj h).symm
  have hl : r = true ↔ l.length = 0 + 1 := by rw [hr, beq_iff_eq]; omega
  rw [hl]
  refine hc.2.trans ⟨fun h6 => ⟨by omega, hs, h3, h4, fun j hl => ?_⟩, fun h6 j _ hl => (h6.2.2.2.2 j hl).2.2⟩
  have := hb.1 ht j (Nat.zero_le _) hl
  exact ⟨this.1, this.2, h6 j (Nat.zero_le _) hl⟩
theorem vn_bt (s : ByteArray) (j : Nat) (h : j < s.size) : bt s (j : Int) = ((s[j]'h).toNat : Int) := by
  unfold bt; simp [h]
set_option maxHeartbeats 8000000 in
set_option maxRecDepth 100000 in
theorem impl_ValidName.calls (k : Nat) (a0 : ByteArray) (r : Bool) (w : World) (h : impl_ValidName.f k a0 = some r) :
    Calls Tryd.prog 11 #[.string a0] w fun e w' => e = .returned (.bool r) ∧ Below w.heap.size w w' := by
  have hv : r = true ↔ vnAll a0 := vn_of h
  clear h
  by_cases c1 : a0.size < 1
  · obtain rfl : r = false := Bool.eq_false_iff.2 fun e => by have := (hv.1 e).1; omega
    have c1b : decide ((a0.size : Int) < 1) = true := decide_eq_true (by omega)
    have c1c : decide (a0.size < 1) = true := decide_eq_true c1
    clear hv c1
    go_enter Tryd.func11, Tryd.ntmps11
    go_wp2
    go_ret
    exact ⟨rfl, Below.refl _ _⟩
  have c1b : decide ((a0.size : Int) < 1) = false := decide_eq_false (by omega)
  have c1c : decide (a0.size < 1) = false := decide_eq_false c1
  by_cases c2 : 13 < a0.size
  · obtain rfl : r = false := Bool.eq_false_iff.2 fun e => by have := (hv.1 e).2.1; omega
    have c2b : decide (13 < (a0.size : Int)) = true := decide_eq_true (by omega)
    have c2c : decide (13 < a0.size) = true := decide_eq_true c2
    clear hv c1 c2
    go_enter Tryd.func11, Tryd.ntmps11
    go_wp2
    go_ret
    exact ⟨rfl, Below.refl _ _⟩
  have c2b : decide (13 < (a0.size : Int)) = false := decide_eq_false (by omega)
  have c2c : decide (13 < a0.size) = false := decide_eq_false c2
  by_cases c3 : a0.toList = ([46] : List UInt8)
  · obtain rfl : r = false := Bool.eq_false_iff.2 fun e => (hv.1 e).2.2.1 c3
    have c3b : (a0.toList == ([46] : List UInt8)) = true := beq_iff_eq.mpr c3
    clear hv c1 c2 c3
    go_enter Tryd.func11, Tryd.ntmps11
    go_wp2
    go_ret
    exact ⟨rfl, Below.refl _ _⟩
  have c3b : (a0.toList == ([46] : List UInt8)) = false := beq_eq_false_iff_ne.mpr c3
  by_cases c4 : a0.toList = ([46, 46] : List UInt8)
  · obtain rfl : r = false := Bool.eq_false_iff.2 fun e => (hv.1 e).2.2.2.1 c4
    have c4b : (a0.toList == ([46, 46] : List UInt8)) = true := beq_iff_eq.mpr c4
    clear hv c1 c2 c3 c4
    go_enter Tryd.func11, Tryd.ntmps11
    go_wp2
    go_ret
    exact ⟨rfl, Below.refl _ _⟩
  have c4b : (a0.toList == ([46, 46] : List UInt8)) = false := beq_eq_false_iff_ne.mpr c4
  have HV : Hid (r = true ↔ ∀ j, j < a0.size → vnGood a0 j) := by
    refine hv.trans ⟨fun h => h.2.2.2.2, fun h => ⟨by omega, by omega, c3, c4, h⟩⟩
  clear hv c3 c4
  have hsz : a0.size ≤ 13 := by omega
  clear c1 c2
  go_enter Tryd.func11, Tryd.ntmps11
  go_wp2
  go_loopw [4] (fun _ wr => ∃ pos : Nat, wr = w.iter a0 pos ∧ pos ≤ a0.size ∧ Hid (∀ j, j < pos → vnGood a0 j)) (fun _ wr => a0.size - wr.iterPos w.heap.size)
  case atStart => exact ⟨0, rfl, Nat.zero_le _, fun j hj => absurd hj (Nat.not_lt_zero _)⟩
  case round =>
    obtain ⟨pos, rfl, hp, HG⟩ := hrel
    by_cases hlt : pos < a0.size
    · by_cases hg : vnGood a0 pos
      · have hb := vn_bt a0 pos hlt
        obtain ⟨g1, g2, g3⟩ := hg
        rw [hb] at g1 g2 g3
        have hnx : ∀ ty, (Instr.next (.pointer (some ⟨w.heap.size, 0, none⟩)) true ty).run Tryd.prog (w.iter a0 pos) = _ := fun ty => run_next_ascii w a0 pos ty hlt (by omega)
        have t1 : decide (((a0[pos]'hlt).toNat : Int) < 33) = false := decide_eq_false (by omega)
        have t2 : decide (126 < ((a0[pos]'hlt).toNat : Int)) = false := decide_eq_false (by omega)
        have t3 : (((a0[pos]'hlt).toNat : Int) == 47) = false := beq_eq_false_iff_ne.mpr g3
        have HG2 : Hid (∀ j, j < pos + 1 → vnGood a0 j) := fun j hj => by
          rcases Nat.lt_or_eq_of_le (Nat.le_of_lt_succ hj) with h5 | h5
          · exact HG.out j h5
          · subst h5; exact ⟨by omega, by omega, by rw [hb]; exact g3⟩
        clear hb g1 g2 g3 HG
        go_wp2
        go_roundw
        case rel => exact ⟨pos + 1, rfl, by omega, HG2⟩
        case measure => simp; omega
      · obtain rfl : r = false := Bool.eq_false_iff.2 fun e => hg (HV.out.1 e pos hlt)
        have hb := vn_bt a0 pos hlt
        by_cases ha : (a0[pos]'hlt).toNat < 128
        · have hnx : ∀ ty, (Instr.next (.pointer (some ⟨w.heap.size, 0, none⟩)) true ty).run Tryd.prog (w.iter a0 pos) = _ := fun ty => run_next_ascii w a0 pos ty hlt ha
          have hg' : ((a0[pos]'hlt).toNat : Int) < 33 ∨ 126 < ((a0[pos]'hlt).toNat : Int) ∨ ((a0[pos]'hlt).toNat : Int) = 47 := by
            unfold vnGood at hg; rw [hb] at hg; omega
          clear hb hg HV HG ha
          by_cases q1 : ((a0[pos]'hlt).toNat : Int) < 33
          · have t1 : decide (((a0[pos]'hlt).toNat : Int) < 33) = true := decide_eq_true q1
            clear hg' q1
            go_wp2
            go_ret
            exact ⟨rfl, (Below.refl _ _).alloc (Nat.le_refl _) _⟩
          have t1 : decide (((a0[pos]'hlt).toNat : Int) < 33) = false := decide_eq_false q1
          by_cases q2 : 126 < ((a0[pos]'hlt).toNat : Int)
          · have t2 : decide (126 < ((a0[pos]'hlt).toNat : Int)) = true := decide_eq_true q2
            clear hg' q1 q2
            go_wp2
            go_ret
            exact ⟨rfl, (Below.refl _ _).alloc (Nat.le_refl _) _⟩
          have t2 : decide (126 < ((a0[pos]'hlt).toNat : Int)) = false := decide_eq_false q2
          have t3 : (((a0[pos]'hlt).toNat : Int) == 47) = true := beq_iff_eq.mpr (by omega)
          clear hg' q1 q2
          go_wp2
          go_ret
          exact ⟨rfl, (Below.refl _ _).alloc (Nat.le_refl _) _⟩
        · have hd := decode_high a0 pos hlt (by omega)
          have hnx : ∀ ty, (Instr.next (.pointer (some ⟨w.heap.size, 0, none⟩)) true ty).run Tryd.prog (w.iter a0 pos) = _ := fun ty => run_next_any w a0 pos ty hlt
          have t1 : decide (((Utf8.decode a0 pos).1 : Int) < 33) = false := decide_eq_false (by omega)
          have t2 : decide (126 < ((Utf8.decode a0 pos).1 : Int)) = true := decide_eq_true (by omega)
          clear hb hg HV HG ha hd
          go_wp2
          go_ret
          exact ⟨rfl, (Below.refl _ _).alloc (Nat.le_refl _) _⟩
    · obtain rfl : pos = a0.size := by omega
      obtain rfl : r = true := HV.out.2 HG.out
      have hnx : ∀ ty, (Instr.next (.pointer (some ⟨w.heap.size, 0, none⟩)) true ty).run Tryd.prog (w.iter a0 a0.size) = _ := fun ty => run_next_end w a0 a0.size ty hlt
      clear HV HG
      go_wp2
      go_ret
      exact ⟨rfl, (Below.refl _ _).alloc (Nat.le_refl _) _⟩


/-! ### strings_Split: function 15 -/
/-- internal/bytealg.MaxLen holds some number. -/
def GlobM (w : World) : Prop := ∃ m : Int, w.cell? ⟨0, 0, none⟩ = some (.int .i64 m)
theorem GlobM.below {w w' : World} (h : GlobM w) (hB : Below w.heap.size w w') : GlobM w' := by
  obtain ⟨m, hm⟩ := h
  refine ⟨m, (hB.cell ?_).trans hm⟩
  rcases Nat.lt_or_ge 0 w.heap.size with h0 | h0
  · exact h0
  · rw [World.cell?, Array.getElem?_eq_none (by show w.heap.size ≤ 0; omega)] at hm; cases hm
/-- strings.Split at "/": the pieces. -/
def strings_Split.f (s sep : ByteArray) : Option (List ByteArray) := if s.size ≤ 1048576 ∧ sep.size = 1 then some (Lib.splitB sep 0 (Lib.countB s sep) s) else none
theorem strings_Split.calls (s sep : ByteArray) (r : List ByteArray) (w : World) (h : strings_Split.f s sep = some r) (hG : GlobM w) :
    Calls Tryd.prog 15 #[.string s, .string sep] w fun e w' => ∃ v0_ : Value, e = .returned (v0_) ∧ Kd.R Kd.string 9 w' w.heap.size (fun _ => True) v0_ r ∧ Below w.heap.size w w' := by
  obtain ⟨m, hm⟩ := hG
  unfold strings_Split.f at h
  by_cases c : s.size ≤ 1048576 ∧ sep.size = 1
  · rw [if_pos c] at h
    have hr := Option.some.inj h
    have hle := Lib.countB_le sep (by omega) s.size s (Nat.le_refl _)
    have hlen : r.length = Lib.countB s sep + 1 := by rw [← hr]; exact Lib.splitB_all sep (by omega) 0 _ s rfl
    refine (Tryd.strings_Split s sep m w (by omega) hm (by omega)).mono fun e w' ⟨he, hw⟩ => ?_
    subst hw
    refine ⟨_, he, Kd.R_of_own ?_ (fun _ _ => trivial), (Below.refl _ _).alloc (Nat.le_refl _) _⟩
    refine ⟨by simp [encs], .inr ⟨w.heap.size, _, _, by rw [hlen], Nat.le_refl _, blk_new w _, Nat.le_of_eq hlen, ?_, ?_, ?_⟩⟩
    · unfold maxLen; omega
    · rw [List.size_toArray, List.length_map, hr, hlen]; omega
    · rw [hr]; show List.take _ (List.map Value.string r) = List.map Value.string r
      rw [List.take_of_length_le (by simp)]
  · rw [if_neg c] at h; cases h


/-! ### impl_plainByte: function 16 -/
def impl_plainByte.f (a0 : Int) : Option (Bool) := if a0 ≥ 33 then (some (decide (a0 ≤ 126))) else (some false)
set_option maxHeartbeats 8000000 in
set_option maxRecDepth 100000 in
theorem impl_plainByte.calls (a0 : Int) (r : Bool) (w : World) (h : impl_plainByte.f a0 = some r) :
    Calls Tryd.prog 16 #[.int .u8 a0] w fun e w' => e = .returned (.bool r) ∧ Drawn0 w w' := by
  have H : (if a0 ≥ 33 then (some (decide (a0 ≤ 126))) else (some false)) = some r := h
  clear h
  by_cases c2 : a0 ≥ 33
  · rw [if_pos c2] at H
    have c2b0 : decide (33 ≤ a0) = true := decide_eq_true c2
    clear c2
    obtain rfl := Option.some.inj H
    go_enter Tryd.func16, Tryd.ntmps16
    go_wp2
    go_ret
    exact ⟨by first | rfl | (simp; done) | (simp [*]; done), by repeat (first | exact Drawn0.refl _ | apply Drawn0.step)⟩
  · rw [if_neg c2] at H
    have c2b0 : decide (33 ≤ a0) = false := decide_eq_false c2
    clear c2
    obtain rfl := Option.some.inj H
    go_enter Tryd.func16, Tryd.ntmps16
    go_wp2
    go_ret
    exact ⟨by first | rfl | (simp; done) | (simp [*]; done), by repeat (first | exact Drawn0.refl _ | apply Drawn0.step)⟩

/-! ### impl_SplitPath: function 6 -/
mutual
def impl_SplitPath.j0 : Nat → ByteArray → Bool → Option (Int × List ByteArray)
  | 0, _, _ => none
  | k + 1, x0, x19 => if x19 = true then (some (30, ([] : List ByteArray))) else (if x0.toList = ([47] : List UInt8) then (some (0, ([] : List ByteArray))) else (if 1 ≤ (x0.size : Int) then ((strings_Split.f (x0.extract 1 x0.size) (⟨#[47]⟩ : ByteArray)).bind fun t124 => (impl_SplitPath.l0 k t124 t124 (t124.length : Int) 0)) else (none)))
def impl_SplitPath.l0 : Nat → List ByteArray → List ByteArray → Int → Int → Option (Int × List ByteArray)
  | 0, _, _, _, _ => none
  | k + 1, x3, x27, x28, x29 => if x29 < x28 then (if 0 ≤ x29 then (if x29 < (x27.length : Int) then ((impl_ValidName.f k (rdOf ByteArray.empty x27 x29)).bind fun t128 => (if t128 = true then (impl_SplitPath.l0 k x3 x27 x28 (wrap64 (x29 + 1))) else (if ((rdOf ByteArray.empty x27 x29).size : Int) > 13 then (impl_SplitPath.l1 k (rdOf ByteArray.empty x27 x29) true ((rdOf ByteArray.empty x27 x29).size : Int) 0) else (some (30, ([] : List ByteArray)))))) else (none)) else (none)) else (if (x3.length : Int) > 16 then (some (30, ([] : List ByteArray))) else (some (0, x3)))
def impl_SplitPath.l1 : Nat → ByteArray → Bool → Int → Int → Option (Int × List ByteArray)
  | 0, _, _, _, _ => none
  | k + 1, x5, x6, x39, x40 => if x40 < x39 then (if x6 = true then (if 0 ≤ x40 then (if x40 < (x5.size : Int) then ((impl_plainByte.f (bt x5 x40)).bind fun t129 => (impl_SplitPath.l1 k x5 t129 x39 (wrap64 (x40 + 1)))) else (none)) else (none)) else (impl_SplitPath.l1 k x5 false x39 (wrap64 (x40 + 1)))) else (if x6 = true then (some (31, ([] : List ByteArray))) else (some (30, ([] : List ByteArray))))
end
def impl_SplitPath.f (k : Nat) (a0 : ByteArray) : Option (Int × List ByteArray) := if a0.toList = ([] : List UInt8) then (impl_SplitPath.j0 k a0 true) else (if (a0.size : Int) > 240 then (impl_SplitPath.j0 k a0 true) else (if 0 < (a0.size : Int) then (impl_SplitPath.j0 k a0 ((bt a0 0) != 47)) else (none)))
theorem impl_SplitPath.mono_l : ∀ k, (∀ y0 y1, LeO (impl_SplitPath.j0 k y0 y1) (impl_SplitPath.j0 (k + 1) y0 y1)) ∧ (∀ y0 y1 y2 y3, LeO (impl_SplitPath.l0 k y0 y1 y2 y3) (impl_SplitPath.l0 (k + 1) y0 y1 y2 y3)) ∧ (∀ y0 y1 y2 y3, LeO (impl_SplitPath.l1 k y0 y1 y2 y3) (impl_SplitPath.l1 (k + 1) y0 y1 y2 y3))
  | 0 => ⟨fun _ _ r h => by simp [impl_SplitPath.j0] at h, fun _ _ _ _ r h => by simp [impl_SplitPath.l0] at h, fun _ _ _ _ r h => by simp [impl_SplitPath.l1] at h⟩
  | k + 1 => by
    obtain ⟨ih0, ih1, ih2⟩ := impl_SplitPath.mono_l k
    refine ⟨?_, ?_, ?_⟩
    · intro y0 y1
      unfold impl_SplitPath.j0
      repeat' first
      | (with_reducible exact ih0 _ _)
      | (with_reducible exact ih1 _ _ _ _)
      | (with_reducible exact ih2 _ _ _ _)
      | (with_reducible exact impl_ValidName.mono _ _)
      | (with_reducible exact LeO.refl _)
      | (with_reducible exact LeO.none _)
      | (with_reducible refine LeO.ite ?_ ?_)
      | (with_reducible refine LeO.bind ?_ (fun _ => ?_))
      | exact ih0 _ _
      | exact ih1 _ _ _ _
      | exact ih2 _ _ _ _
      | exact impl_ValidName.mono _ _
      | exact LeO.none _
      | refine LeO.ite ?_ ?_
      | refine LeO.bind ?_ (fun _ => ?_)
    · intro y0 y1 y2 y3
      unfold impl_SplitPath.l0
      repeat' first
      | (with_reducible exact ih0 _ _)
      | (with_reducible exact ih1 _ _ _ _)
      | (with_reducible exact ih2 _ _ _ _)
      | (with_reducible exact impl_ValidName.mono _ _)
      | (with_reducible exact LeO.refl _)
      | (with_reducible exact LeO.none _)
      | (with_reducible refine LeO.ite ?_ ?_)
      | (with_reducible refine LeO.bind ?_ (fun _ => ?_))
      | exact ih0 _ _
      | exact ih1 _ _ _ _
      | exact ih2 _ _ _ _
      | exact impl_ValidName.mono _ _
      | exact LeO.none _
      | refine LeO.ite ?_ ?_
      | refine LeO.bind ?_ (fun _ => ?_)
    · intro y0 y1 y2 y3
      unfold impl_SplitPath.l1
      repeat' first
      | (with_reducible exact ih0 _ _)
      | (with_reducible exact ih1 _ _ _ _)
      | (with_reducible exact ih2 _ _ _ _)
      | (with_reducible exact impl_ValidName.mono _ _)
      | (with_reducible exact LeO.refl _)
      | (with_reducible exact LeO.none _)
      | (with_reducible refine LeO.ite ?_ ?_)
      | (with_reducible refine LeO.bind ?_ (fun _ => ?_))
      | exact ih0 _ _
      | exact ih1 _ _ _ _
      | exact ih2 _ _ _ _
      | exact impl_ValidName.mono _ _
      | exact LeO.none _
      | refine LeO.ite ?_ ?_
      | refine LeO.bind ?_ (fun _ => ?_)
theorem impl_SplitPath.mono : ∀ a0 k, LeO (impl_SplitPath.f k a0) (impl_SplitPath.f (k + 1) a0) := by
  intro a0 k
  obtain ⟨ih0, ih1, ih2⟩ := impl_SplitPath.mono_l k
  unfold impl_SplitPath.f
  repeat' first
      | (with_reducible exact ih0 _ _)
      | (with_reducible exact ih1 _ _ _ _)
      | (with_reducible exact ih2 _ _ _ _)
      | (with_reducible exact impl_ValidName.mono _ _)
      | (with_reducible exact LeO.refl _)
      | (with_reducible exact LeO.none _)
      | (with_reducible refine LeO.ite ?_ ?_)
      | (with_reducible refine LeO.bind ?_ (fun _ => ?_))
      | exact ih0 _ _
      | exact ih1 _ _ _ _
      | exact ih2 _ _ _ _
      | exact impl_ValidName.mono _ _
      | exact LeO.none _
      | refine LeO.ite ?_ ?_
      | refine LeO.bind ?_ (fun _ => ?_)
set_option maxHeartbeats 8000000 in
set_option maxRecDepth 100000 in
theorem impl_SplitPath.calls (k : Nat) (a0 : ByteArray) (r1 : Int) (r2 : List ByteArray) (w : World) (h : impl_SplitPath.f k a0 = some (r1, r2)) (hG0 : GlobM w) :
    Calls Tryd.prog 6 #[.string a0] w fun e w' => ∃ v1_ : Value, e = .returned (.agg #[.int .i64 r1, v1_]) ∧ Kd.R Kd.string 9 w' w.heap.size (fun _ => True) v1_ r2 ∧ Below w.heap.size w w' := by
  have hu24 := Tryd.underlying24
  have HB := Aside0.mk (Below.refl w.heap.size w)
  have H : (if a0.toList = ([] : List UInt8) then (impl_SplitPath.j0 k a0 true) else (if (a0.size : Int) > 240 then (impl_SplitPath.j0 k a0 true) else (if 0 < (a0.size : Int) then (impl_SplitPath.j0 k a0 ((bt a0 0) != 47)) else (none)))) = some (r1, r2) := h
  clear h
  have HC2 := Aside0.mk H
  clear H
  go_enter Tryd.func6, Tryd.ntmps6
  go_upto_region 1 with (first | ((with_reducible refine gate_dst (N := 2) rfl ?_); (try (refine gate_guard (by rfl) ?_; dsimp only)); refine box_event ?hg (N := 2) ?hd (cs := #[.int .i64 0, .slice none 0 0]) (t := 24) ?hr ?_; (case hd => rfl); (case hg => rfl); (case hr => first | (go_simp; done) | (go_simp; rfl)); intro gb123 hg w3 hbox hb; have n0_ := Aside0.mk (below_step (by repeat (first | (with_reducible first | exact HB.out | apply below_alloc | apply pw_below_drewN | apply below_drew1) | exact HB.out)) hb); have n1_ := Aside0.mk (hbox); have n2_ := Aside0.mk ((by rw [hg]; exact (below_size (by repeat (first | (with_reducible first | exact HB.out | apply below_alloc | apply pw_below_drewN | apply below_drew1) | exact HB.out))) : w.heap.size ≤ gb123)); have n3_ := Aside0.mk ((by rw [hg]; exact (below_size (by repeat (first | (with_reducible first | exact HB.out | apply below_alloc | apply pw_below_drewN | apply below_drew1) | exact HB.out))) : w.heap.size ≤ gb123)); clear HB; have HB := n0_; have BK123 := n1_; have GW123 := n2_; have GE123 := n3_; clear n0_ n1_ n2_ n3_; clear hb hbox hg))
  (try simp only [Act.put, List.setIfInBounds_toArray, List.set_cons_zero, List.set_cons_succ])
  go_cut [19] (fun v19 wc => ∃ (kq : Nat) (x19_1 : Bool), v19 = .bool x19_1 ∧ Aside0 (impl_SplitPath.j0 kq a0 x19_1 = some (r1, r2)) ∧ Aside0 (kq ≤ k) ∧ Aside0 (wc.heap[gb123]? = some (.cells #[.int .i64 0, (.slice none 0 0)] 24 (0, 0))) ∧ Aside0 (Below w.heap.size w wc))
  case first =>
    have H := HC2.out
    clear HC2
    by_cases c4 : a0.toList = ([] : List UInt8)
    · rw [if_pos c4] at H
      have c4b0 : (a0.toList == ([] : List UInt8)) = true := beq_iff_eq.mpr c4
      have c4b1 : (a0.toList != ([] : List UInt8)) = false := bne_eq_false_iff_eq.mpr c4
      clear c4
      (first | rw [c4b0] | (simp only [i64_w, i32_w]; rw [c4b0]) | skip)
      have H' := Aside0.mk H
      clear H
      go_wp2
      go_meet
      case rel => exact ⟨_, (true), (by first | rfl | (simp; done) | (simp [*]; done)), H', ⟨by first | omega | exact Nat.le_refl _⟩, ⟨by (with_reducible repeat (first | refine blk_drewN ?_ _ | refine blk_drew ?_ | refine blk_alloc ?_ _)); exact BK123.out⟩, ⟨by repeat (first | (with_reducible first | exact HB.out | apply below_alloc | apply pw_below_drewN | apply below_drew1 | refine below_set ?_ GE123.out) | exact HB.out)⟩⟩
    · rw [if_neg c4] at H
      have c4b0 : (a0.toList == ([] : List UInt8)) = false := beq_eq_false_iff_ne.mpr c4
      have c4b1 : (a0.toList != ([] : List UInt8)) = true := bne_iff_ne.mpr c4
      (first | rw [c4b0] | (simp only [i64_w, i32_w]; rw [c4b0]) | skip)
      by_cases c5 : (a0.size : Int) > 240
      · rw [if_pos c5] at H
        have c5b0 : decide (240 < (a0.size : Int)) = true := decide_eq_true c5
        have c5b1 : decide (240 < a0.size) = true := decide_eq_true (by omega)
        clear c5
        have H' := Aside0.mk H
        clear H
        go_wp2
        go_meet
        case rel => exact ⟨_, (true), (by first | rfl | (simp; done) | (simp [*]; done)), H', ⟨by first | omega | exact Nat.le_refl _⟩, ⟨by (with_reducible repeat (first | refine blk_drewN ?_ _ | refine blk_drew ?_ | refine blk_alloc ?_ _)); exact BK123.out⟩, ⟨by repeat (first | (with_reducible first | exact HB.out | apply below_alloc | apply pw_below_drewN | apply below_drew1 | refine below_set ?_ GE123.out) | exact HB.out)⟩⟩
      · rw [if_neg c5] at H
        have c5b0 : decide (240 < (a0.size : Int)) = false := decide_eq_false c5
        have c5b1 : decide (240 < a0.size) = false := decide_eq_false (by omega)
        clear c5
        by_cases c6 : 0 < (a0.size : Int)
        · rw [if_pos c6] at H
          have c6b0 : decide (0 < (a0.size : Int)) = true := decide_eq_true c6
          have c6b1 : decide (0 < a0.size) = true := decide_eq_true (by omega)
          clear c6
          have H' := Aside0.mk H
          clear H
          have p7 : 0 ≤ (0 : Int) := (by omega)
          have q7 : 0 < a0.size := (by have : (0 : Int) < (a0.size : Int) := of_decide_eq_true (by first | (with_reducible assumption) | assumption); omega)
          have hx7 : ∀ h : 0 < a0.size, ((a0[0]'h).toNat : Int) = bt a0 0 := bt_at a0 0
          clear p7
          have qi7 : (0 < (a0.size : Int)) = True := eq_true (of_decide_eq_true (by first | (with_reducible assumption) | assumption))
          replace q7 := eq_true q7
          go_wp2
          go_meet
          case rel => exact ⟨_, (((bt a0 0) != 47)), (by first | rfl | (simp; done) | (simp [*]; done)), H', ⟨by first | omega | exact Nat.le_refl _⟩, ⟨by (with_reducible repeat (first | refine blk_drewN ?_ _ | refine blk_drew ?_ | refine blk_alloc ?_ _)); exact BK123.out⟩, ⟨by repeat (first | (with_reducible first | exact HB.out | apply below_alloc | apply pw_below_drewN | apply below_drew1 | refine below_set ?_ GE123.out) | exact HB.out)⟩⟩
        · rw [if_neg c6] at H
          exact absurd H (by simp)
  case rest =>
    clear HC2
    try clear p2
    try clear c4
    try clear c4b0
    try clear c4b1
    try clear c5
    try clear c5b0
    try clear c5b1
    try clear c6
    try clear c6b0
    try clear c6b1
    try clear p7
    try clear q7
    try clear hx7
    try clear qi7
    try clear p7
    try clear q7
    obtain ⟨kq, x19_1, rfl, HA, HJ1, BK123, HB⟩ := hcut
    cases kq with
    | zero => exact absurd HA.out (by simp [impl_SplitPath.j0])
    | succ kj1 =>
      have H := HA.out
      clear HA
      simp only [impl_SplitPath.j0] at H
      by_cases c8 : x19_1 = true
      · subst c8
        have H1 : (some (30, ([] : List ByteArray))) = some (r1, r2) := by rw [if_pos rfl] at H; exact H
        clear H
        have H := H1
        clear H1
        simp only [Option.some.injEq, Prod.mk.injEq] at H
        obtain ⟨rfl, rfl⟩ := H
        have hcz9_0 : wc.cell? ⟨gb123, 0, none⟩ = some (.int .i64 0) := (blk_cell BK123.out 0).trans rfl
        have hcz9_1 : wc.cell? ⟨gb123, 1, none⟩ = some (.slice none 0 0) := (blk_cell BK123.out 1).trans rfl
        have hfz9_0 := blk_frozen BK123.out 0
        have hfz9_1 := blk_frozen BK123.out 1
        go_wp2
        refine bodyPost_ret (results_cell_row rfl _ _ gb123 24 #[.int .i64 30, .slice none 0 0] (0, 0) _ rfl (by (with_reducible repeat (first | refine blk_drewN ?_ _ | refine blk_drew ?_ | refine blk_alloc ?_ _)); refine blk_put (cs := #[.int .i64 30, .slice none 0 0]) ?_ 1 _ rfl; (with_reducible repeat (first | refine blk_drewN ?_ _ | refine blk_drew ?_ | refine blk_alloc ?_ _)); refine blk_put (cs := #[.int .i64 0, .slice none 0 0]) ?_ 0 _ rfl; (with_reducible repeat (first | refine blk_drewN ?_ _ | refine blk_drew ?_ | refine blk_alloc ?_ _)); exact BK123.out) Tryd.underlying24 rfl (by kernel_rfl)) rfl ?_
        exact ⟨_, by first | rfl | (simp [errW_none, errW_some] <;> rfl) | (simp [*, errW_none, errW_some] <;> rfl), by first | exact Kd.R_nil _ _ _ _ _ | exact Kd.N_nil _ _ _ _ _ | exact Kd.V_nil _ _ _ _ _ | exact Kd.Q_nil _ _ _ _ _ | exact Kd.S_nil _ _ _ _ _, by repeat (first | (with_reducible first | exact HB.out | apply below_alloc | apply pw_below_drewN | apply below_drew1 | refine below_set ?_ GE123.out) | exact HB.out)⟩
      · replace c8 := Bool.eq_false_iff.mpr c8
        subst c8
        have H1 : (if a0.toList = ([47] : List UInt8) then (some (0, ([] : List ByteArray))) else (if 1 ≤ (a0.size : Int) then ((strings_Split.f (a0.extract 1 a0.size) (⟨#[47]⟩ : ByteArray)).bind fun t124 => (impl_SplitPath.l0 kj1 t124 t124 (t124.length : Int) 0)) else (none))) = some (r1, r2) := by rw [if_neg (show ¬ (false = true) by decide)] at H; exact H
        clear H
        have H := H1
        clear H1
        by_cases c10 : a0.toList = ([47] : List UInt8)
        · rw [if_pos c10] at H
          have c10b0 : (a0.toList == ([47] : List UInt8)) = true := beq_iff_eq.mpr c10
          have c10b1 : (a0.toList != ([47] : List UInt8)) = false := bne_eq_false_iff_eq.mpr c10
          clear c10
          simp only [Option.some.injEq, Prod.mk.injEq] at H
          obtain ⟨rfl, rfl⟩ := H
          have hcz11_0 : wc.cell? ⟨gb123, 0, none⟩ = some (.int .i64 0) := (blk_cell BK123.out 0).trans rfl
          have hcz11_1 : wc.cell? ⟨gb123, 1, none⟩ = some (.slice none 0 0) := (blk_cell BK123.out 1).trans rfl
          have hfz11_0 := blk_frozen BK123.out 0
          have hfz11_1 := blk_frozen BK123.out 1
          go_wp2
          refine bodyPost_ret (results_cell_row rfl _ _ gb123 24 #[.int .i64 0, .slice none 0 0] (0, 0) _ rfl (by (with_reducible repeat (first | refine blk_drewN ?_ _ | refine blk_drew ?_ | refine blk_alloc ?_ _)); refine blk_put (cs := #[.int .i64 0, .slice none 0 0]) ?_ 1 _ rfl; (with_reducible repeat (first | refine blk_drewN ?_ _ | refine blk_drew ?_ | refine blk_alloc ?_ _)); refine blk_put (cs := #[.int .i64 0, .slice none 0 0]) ?_ 0 _ rfl; (with_reducible repeat (first | refine blk_drewN ?_ _ | refine blk_drew ?_ | refine blk_alloc ?_ _)); exact BK123.out) Tryd.underlying24 rfl (by kernel_rfl)) rfl ?_
          exact ⟨_, by first | rfl | (simp [errW_none, errW_some] <;> rfl) | (simp [*, errW_none, errW_some] <;> rfl), by first | exact Kd.R_nil _ _ _ _ _ | exact Kd.N_nil _ _ _ _ _ | exact Kd.V_nil _ _ _ _ _ | exact Kd.Q_nil _ _ _ _ _ | exact Kd.S_nil _ _ _ _ _, by repeat (first | (with_reducible first | exact HB.out | apply below_alloc | apply pw_below_drewN | apply below_drew1 | refine below_set ?_ GE123.out) | exact HB.out)⟩
        · rw [if_neg c10] at H
          have c10b0 : (a0.toList == ([47] : List UInt8)) = false := beq_eq_false_iff_ne.mpr c10
          have c10b1 : (a0.toList != ([47] : List UInt8)) = true := bne_iff_ne.mpr c10
          by_cases c12 : 1 ≤ (a0.size : Int)
          · rw [if_pos c12] at H
            have c12b0 := eq_true c12
            have c12b1 : decide (1 ≤ (a0.size : Int)) = true := decide_eq_true c12
            clear c12
            replace H := Option.bind_eq_some_iff.mp H
            obtain ⟨t124, A130, H⟩ := H
            replace H : (impl_SplitPath.l0 kj1 t124 t124 (t124.length : Int) 0) = some (r1, r2) := H
            have A13 := Aside0.mk A130
            clear A130
            have H' := Aside0.mk H
            clear H
            go_wp2_with (first | ((with_reducible refine gate_callee (f := 15) rfl ?_); refine goesL_ (some 26) rfl rfl Tryd.func15 (by kernel_rfl) rfl #[.string (a0.extract 1 a0.size), .string (⟨#[47]⟩ : ByteArray)] rfl (by (try simp only [List.map_toArray, List.map_cons, List.map_nil]); first | done | rfl | (simp only [List.length_drop, List.length_take]; rfl)) ?_; (with_reducible refine (strings_Split.calls (a0.extract 1 a0.size) (⟨#[47]⟩ : ByteArray) t124 _ A13.out (hG0.below (by repeat (first | (with_reducible first | exact HB.out | apply below_alloc | apply pw_below_drewN | apply below_drew1 | refine below_set ?_ GE123.out) | exact HB.out)))).mono ?_); rintro e w14 ⟨v125, rfl, ho0, hb⟩; refine ⟨_, rfl, ?_⟩; have n0_ := Aside0.mk (Kd.R_lower ho0 (below_size (by repeat (first | (with_reducible first | exact HB.out | apply below_alloc | apply pw_below_drewN | apply below_drew1 | refine below_set ?_ GE123.out) | exact HB.out)))); have n1_ := Aside0.mk (blk_below (g := gb123) (o := .cells #[.int .i64 0, .slice none 0 0] 24 (0, 0)) (by (with_reducible repeat (first | refine blk_drewN ?_ _ | refine blk_drew ?_ | refine blk_alloc ?_ _)); exact BK123.out) hb); have n2_ := Aside0.mk (below_step (by repeat (first | (with_reducible first | exact HB.out | apply below_alloc | apply pw_below_drewN | apply below_drew1 | refine below_set ?_ GE123.out) | exact HB.out)) hb); clear BK123; clear HB; have HO126 := n0_; have BK123 := n1_; have HB := n2_; clear n0_ n1_ n2_; (try clear hb); (try clear hb2); (try clear hk); (try clear hi); (try clear ho0); obtain ⟨Ao15, co15, eo15⟩ := Kd.R_slice HO126.out; subst eo15))
            go_loopg [29] kj1 (fun kq v29 w' => ∃ (x29_2 : Int) (x124000_2 : Int), v29 = .int .i64 x29_2 ∧ Aside0 (impl_SplitPath.l0 kq t124 t124 (t124.length : Int) x29_2 = some (r1, r2)) ∧ Aside0 (kq ≤ kj1) ∧ Aside0 (Kd.R Kd.string 9 w' w.heap.size (fun _ => True) (.slice Ao15 t124.length co15) t124) ∧ Aside0 (Kd.R Kd.string 9 w' w.heap.size (fun _ => True) (.slice Ao15 t124.length co15) t124) ∧ Aside0 (w'.heap[gb123]? = some (.cells #[.int .i64 x124000_2, (.slice none 0 0)] 24 (0, 0))) ∧ Aside0 (Below w.heap.size w w'))
            case atStart => exact ⟨(0), (0), (by first | rfl | (simp; done) | (simp [*]; done)), H', ⟨Nat.le_refl _⟩, ⟨by (with_reducible repeat (first | apply Kd.R_alloc | apply Kd.R_drewN | apply Kd.R_drew)); exact HO126.out⟩, ⟨by (with_reducible repeat (first | apply Kd.R_alloc | apply Kd.R_drewN | apply Kd.R_drew)); exact HO126.out⟩, ⟨by (with_reducible repeat (first | refine blk_drewN ?_ _ | refine blk_drew ?_ | refine blk_alloc ?_ _)); exact BK123.out⟩, ⟨by repeat (first | (with_reducible first | exact HB.out | apply below_alloc | apply pw_below_drewN | apply below_drew1 | refine below_set ?_ GE123.out) | exact HB.out)⟩⟩
            case round =>
              clear H'
              try clear c1
              try clear p2
              try clear c4
              try clear c4b0
              try clear c4b1
              try clear c5
              try clear c5b0
              try clear c5b1
              try clear c6
              try clear c6b0
              try clear c6b1
              try clear p7
              try clear q7
              try clear hx7
              try clear qi7
              try clear c8
              try clear c10
              try clear c10b0
              try clear c10b1
              try clear c12
              try clear c12b0
              try clear c12b1
              try clear c15
              try clear hcz11_0
              try clear hcz11_1
              try clear hcz9_0
              try clear hcz9_1
              try clear hfz11_0
              try clear hfz11_1
              try clear hfz9_0
              try clear hfz9_1
              try clear p2
              try clear p7
              try clear q7
              obtain ⟨x29_2, x124000_2, rfl, HA, HK2, HO_3, HO_27, BK123, HB⟩ := hrel
              cases gk with
              | zero => exact absurd HA.out (by simp [impl_SplitPath.l0])
              | succ k2 =>
                have H := HA.out
                clear HA
                simp only [impl_SplitPath.l0] at H
                by_cases c16 : x29_2 < (t124.length : Int)
                · rw [if_pos c16] at H
                  have c16b0 : decide (x29_2 < (t124.length : Int)) = true := decide_eq_true c16
                  clear c16
                  by_cases c17 : 0 ≤ x29_2
                  · rw [if_pos c17] at H
                    have c17b0 : decide (0 ≤ x29_2) = true := decide_eq_true c17
                    clear c17
                    by_cases c18 : x29_2 < (t124.length : Int)
                    · rw [if_pos c18] at H
                      have c18b0 : decide (x29_2 < (t124.length : Int)) = true := decide_eq_true c18
                      clear c18
                      replace H := Option.bind_eq_some_iff.mp H
                      obtain ⟨t128, A190, H⟩ := H
                      replace H : (if t128 = true then (impl_SplitPath.l0 k2 t124 t124 (t124.length : Int) (wrap64 (x29_2 + 1))) else (if ((rdOf ByteArray.empty t124 x29_2).size : Int) > 13 then (impl_SplitPath.l1 k2 (rdOf ByteArray.empty t124 x29_2) true ((rdOf ByteArray.empty t124 x29_2).size : Int) 0) else (some (30, ([] : List ByteArray))))) = some (r1, r2) := H
                      have A19 := Aside0.mk A190
                      clear A190
                      by_cases c20 : t128 = true
                      · subst c20
                        have H1 : (impl_SplitPath.l0 k2 t124 t124 (t124.length : Int) (wrap64 (x29_2 + 1))) = some (r1, r2) := by rw [if_pos rfl] at H; exact H
                        clear H
                        have H := H1
                        clear H1
                        have H' := Aside0.mk H
                        clear H
                        have p127 : 0 ≤ (x29_2 : Int) := of_decide_eq_true (by first | (with_reducible assumption) | assumption)
                        have q127 : x29_2 < (t124.length : Int) := of_decide_eq_true (by first | (with_reducible assumption) | assumption)
                        obtain ⟨ad127, e127, hx127_0⟩ := Kd.at_string (Kd.R_reads' HO_27.out).2.2 x29_2 p127 q127
                        cases e127
                        replace p127 := eq_true p127
                        replace q127 := eq_true q127
                        go_wp2_with (first | ((with_reducible refine gate_callee (f := 11) rfl ?_); refine goesL_ (some 34) rfl rfl Tryd.func11 (by kernel_rfl) rfl #[.string (rdOf ByteArray.empty t124 x29_2)] rfl (by (try simp only [List.map_toArray, List.map_cons, List.map_nil]); first | done | rfl | (simp only [List.length_drop, List.length_take]; rfl)) ?_; (with_reducible refine (impl_ValidName.calls k2 (rdOf ByteArray.empty t124 x29_2) true _ A19.out).mono ?_); rintro e w21 ⟨rfl, hb⟩; refine ⟨_, rfl, ?_⟩; have n0_ := Aside0.mk (Kd.R_below (by (with_reducible repeat (first | apply Kd.R_alloc | apply Kd.R_drewN | apply Kd.R_drew)); exact HO_3.out) hb); have n1_ := Aside0.mk (Kd.R_below (by (with_reducible repeat (first | apply Kd.R_alloc | apply Kd.R_drewN | apply Kd.R_drew)); exact HO_27.out) hb); have n2_ := Aside0.mk (blk_below (g := gb123) (o := .cells #[.int .i64 x124000_2, .slice none 0 0] 24 (0, 0)) (by (with_reducible repeat (first | refine blk_drewN ?_ _ | refine blk_drew ?_ | refine blk_alloc ?_ _)); exact BK123.out) hb); have n3_ := Aside0.mk (below_step (by repeat (first | (with_reducible first | exact HB.out | apply below_alloc | apply pw_below_drewN | apply below_drew1 | refine below_set ?_ GE123.out) | exact HB.out)) hb); clear HO_3; clear HO_27; clear BK123; clear HB; have HO_3 := n0_; have HO_27 := n1_; have BK123 := n2_; have HB := n3_; clear n0_ n1_ n2_ n3_; (try clear hb); (try clear hb2); (try clear hk); (try clear hi)))
                        go_roundg k2
                        case measure => have := HJ1.out; have := HK2.out; omega
                        case rel => exact ⟨(wrap64 (x29_2 + 1)), (x124000_2), (by first | rfl | (simp; done) | (simp [*]; done)), H', ⟨by have := HJ1.out; have := HK2.out; omega⟩, ⟨by (with_reducible repeat (first | apply Kd.R_alloc | apply Kd.R_drewN | apply Kd.R_drew)); exact HO_3.out⟩, ⟨by (with_reducible repeat (first | apply Kd.R_alloc | apply Kd.R_drewN | apply Kd.R_drew)); exact HO_27.out⟩, ⟨by (with_reducible repeat (first | refine blk_drewN ?_ _ | refine blk_drew ?_ | refine blk_alloc ?_ _)); exact BK123.out⟩, ⟨by repeat (first | (with_reducible first | exact HB.out | apply below_alloc | apply pw_below_drewN | apply below_drew1 | refine below_set ?_ GE123.out) | exact HB.out)⟩⟩
                      · replace c20 := Bool.eq_false_iff.mpr c20
                        subst c20
                        have H1 : (if ((rdOf ByteArray.empty t124 x29_2).size : Int) > 13 then (impl_SplitPath.l1 k2 (rdOf ByteArray.empty t124 x29_2) true ((rdOf ByteArray.empty t124 x29_2).size : Int) 0) else (some (30, ([] : List ByteArray)))) = some (r1, r2) := by rw [if_neg (show ¬ (false = true) by decide)] at H; exact H
                        clear H
                        have H := H1
                        clear H1
                        by_cases c22 : ((rdOf ByteArray.empty t124 x29_2).size : Int) > 13
                        · rw [if_pos c22] at H
                          have c22b0 : decide (13 < ((rdOf ByteArray.empty t124 x29_2).size : Int)) = true := decide_eq_true c22
                          have c22b1 : decide (13 < (rdOf ByteArray.empty t124 x29_2).size) = true := decide_eq_true (by omega)
                          clear c22
                          have H' := Aside0.mk H
                          clear H
                          have p127 : 0 ≤ (x29_2 : Int) := of_decide_eq_true (by first | (with_reducible assumption) | assumption)
                          have q127 : x29_2 < (t124.length : Int) := of_decide_eq_true (by first | (with_reducible assumption) | assumption)
                          obtain ⟨ad127, e127, hx127_0⟩ := Kd.at_string (Kd.R_reads' HO_27.out).2.2 x29_2 p127 q127
                          cases e127
                          replace p127 := eq_true p127
                          replace q127 := eq_true q127
                          go_wp2_with (first | ((with_reducible refine gate_callee (f := 11) rfl ?_); refine goesL_ (some 34) rfl rfl Tryd.func11 (by kernel_rfl) rfl #[.string (rdOf ByteArray.empty t124 x29_2)] rfl (by (try simp only [List.map_toArray, List.map_cons, List.map_nil]); first | done | rfl | (simp only [List.length_drop, List.length_take]; rfl)) ?_; (with_reducible refine (impl_ValidName.calls k2 (rdOf ByteArray.empty t124 x29_2) false _ A19.out).mono ?_); rintro e w23 ⟨rfl, hb⟩; refine ⟨_, rfl, ?_⟩; have n0_ := Aside0.mk (Kd.R_below (by (with_reducible repeat (first | apply Kd.R_alloc | apply Kd.R_drewN | apply Kd.R_drew)); exact HO_3.out) hb); have n1_ := Aside0.mk (Kd.R_below (by (with_reducible repeat (first | apply Kd.R_alloc | apply Kd.R_drewN | apply Kd.R_drew)); exact HO_27.out) hb); have n2_ := Aside0.mk (blk_below (g := gb123) (o := .cells #[.int .i64 x124000_2, .slice none 0 0] 24 (0, 0)) (by (with_reducible repeat (first | refine blk_drewN ?_ _ | refine blk_drew ?_ | refine blk_alloc ?_ _)); exact BK123.out) hb); have n3_ := Aside0.mk (below_step (by repeat (first | (with_reducible first | exact HB.out | apply below_alloc | apply pw_below_drewN | apply below_drew1 | refine below_set ?_ GE123.out) | exact HB.out)) hb); clear HO_3; clear HO_27; clear BK123; clear HB; have HO_3 := n0_; have HO_27 := n1_; have BK123 := n2_; have HB := n3_; clear n0_ n1_ n2_ n3_; (try clear hb); (try clear hb2); (try clear hk); (try clear hi)))
                          go_loopg [6, 40] k2 (fun kq v6 v40 w' => ∃ (x6_3 : Bool) (x40_3 : Int), v6 = .bool x6_3 ∧ v40 = .int .i64 x40_3 ∧ Aside0 (impl_SplitPath.l1 kq (rdOf ByteArray.empty t124 x29_2) x6_3 ((rdOf ByteArray.empty t124 x29_2).size : Int) x40_3 = some (r1, r2)) ∧ Aside0 (kq ≤ k2) ∧ Aside0 (w'.heap[gb123]? = some (.cells #[.int .i64 x124000_2, (.slice none 0 0)] 24 (0, 0))) ∧ Aside0 (Below w.heap.size w w'))
                          case atStart => exact ⟨(true), (0), (by first | rfl | (simp; done) | (simp [*]; done)), (by first | rfl | (simp; done) | (simp [*]; done)), H', ⟨Nat.le_refl _⟩, ⟨by (with_reducible repeat (first | refine blk_drewN ?_ _ | refine blk_drew ?_ | refine blk_alloc ?_ _)); exact BK123.out⟩, ⟨by repeat (first | (with_reducible first | exact HB.out | apply below_alloc | apply pw_below_drewN | apply below_drew1 | refine below_set ?_ GE123.out) | exact HB.out)⟩⟩
                          case round =>
                            clear H'
                            try clear c1
                            try clear p1
                            try clear q1
                            try clear hx1
                            try clear c2
                            try clear p2
                            try clear c4
                            try clear c4b0
                            try clear c4b1
                            try clear c5
                            try clear c5b0
                            try clear c5b1
                            try clear c6
                            try clear c6b0
                            try clear c6b1
                            try clear p6
                            try clear p7
                            try clear q7
                            try clear hx7
                            try clear qi7
                            try clear c8
                            try clear c10
                            try clear c10b0
                            try clear c10b1
                            try clear c11
                            try clear c12
                            try clear c12b0
                            try clear c12b1
                            try clear p12
                            try clear q12
                            try clear hx12
                            try clear c15
                            try clear c16
                            try clear c16b0
                            try clear c17
                            try clear c17b0
                            try clear c18
                            try clear c18b0
                            try clear c20
                            try clear c22
                            try clear c22b0
                            try clear c22b1
                            try clear hcz11_0
                            try clear hcz11_1
                            try clear hcz9_0
                            try clear hcz9_1
                            try clear hfz11_0
                            try clear hfz11_1
                            try clear hfz9_0
                            try clear hfz9_1
                            try clear hx127_0
                            try clear p127
                            try clear p2
                            try clear p7
                            try clear q127
                            try clear q7
                            obtain ⟨x6_3, x40_3, rfl, rfl, HA, HK3, BK123, HB⟩ := hrel
                            cases gk with
                            | zero => exact absurd HA.out (by simp [impl_SplitPath.l1])
                            | succ k3 =>
                              have H := HA.out
                              clear HA
                              simp only [impl_SplitPath.l1] at H
                              by_cases c24 : x40_3 < ((rdOf ByteArray.empty t124 x29_2).size : Int)
                              · rw [if_pos c24] at H
                                have c24b0 : decide (x40_3 < ((rdOf ByteArray.empty t124 x29_2).size : Int)) = true := decide_eq_true c24
                                clear c24
                                by_cases c25 : x6_3 = true
                                · subst c25
                                  have H1 : (if 0 ≤ x40_3 then (if x40_3 < ((rdOf ByteArray.empty t124 x29_2).size : Int) then ((impl_plainByte.f (bt (rdOf ByteArray.empty t124 x29_2) x40_3)).bind fun t129 => (impl_SplitPath.l1 k3 (rdOf ByteArray.empty t124 x29_2) t129 ((rdOf ByteArray.empty t124 x29_2).size : Int) (wrap64 (x40_3 + 1)))) else (none)) else (none)) = some (r1, r2) := by rw [if_pos rfl] at H; exact H
                                  clear H
                                  have H := H1
                                  clear H1
                                  by_cases c26 : 0 ≤ x40_3
                                  · rw [if_pos c26] at H
                                    have c26b0 : decide (0 ≤ x40_3) = true := decide_eq_true c26
                                    clear c26
                                    by_cases c27 : x40_3 < ((rdOf ByteArray.empty t124 x29_2).size : Int)
                                    · rw [if_pos c27] at H
                                      have c27b0 : decide (x40_3 < ((rdOf ByteArray.empty t124 x29_2).size : Int)) = true := decide_eq_true c27
                                      clear c27
                                      replace H := Option.bind_eq_some_iff.mp H
                                      obtain ⟨t129, A290, H⟩ := H
                                      replace H : (impl_SplitPath.l1 k3 (rdOf ByteArray.empty t124 x29_2) t129 ((rdOf ByteArray.empty t124 x29_2).size : Int) (wrap64 (x40_3 + 1))) = some (r1, r2) := H
                                      have A29 := Aside0.mk A290
                                      clear A290
                                      have H' := Aside0.mk H
                                      clear H
                                      have p28 : 0 ≤ (x40_3 : Int) := of_decide_eq_true (by first | (with_reducible assumption) | assumption)
                                      have q28 : x40_3 < ((rdOf ByteArray.empty t124 x29_2).size : Int) := of_decide_eq_true (by first | (with_reducible assumption) | assumption)
                                      have hx28 := bt_at (rdOf ByteArray.empty t124 x29_2) x40_3
                                      replace p28 := eq_true p28
                                      replace q28 := eq_true q28
                                      go_wp2_with (first | (go_at_call 16; (with_reducible refine (impl_plainByte.calls (bt (rdOf ByteArray.empty t124 x29_2) x40_3) t129 _ A29.out).mono ?_); rintro e w' ⟨rfl, ⟨nd, rfl⟩⟩))
                                      go_roundg k3
                                      case measure => have := HJ1.out; have := HK2.out; have := HK3.out; omega
                                      case rel => exact ⟨(t129), (wrap64 (x40_3 + 1)), (by first | rfl | (simp; done) | (simp [*]; done)), (by first | rfl | (simp; done) | (simp [*]; done)), H', ⟨by have := HJ1.out; have := HK2.out; have := HK3.out; omega⟩, ⟨by (with_reducible repeat (first | refine blk_drewN ?_ _ | refine blk_drew ?_ | refine blk_alloc ?_ _)); exact BK123.out⟩, ⟨by repeat (first | (with_reducible first | exact HB.out | apply below_alloc | apply pw_below_drewN | apply below_drew1 | refine below_set ?_ GE123.out) | exact HB.out)⟩⟩
                                    · rw [if_neg c27] at H
                                      exact absurd H (by simp)
                                  · rw [if_neg c26] at H
                                    exact absurd H (by simp)
                                · replace c25 := Bool.eq_false_iff.mpr c25
                                  subst c25
                                  have H1 : (impl_SplitPath.l1 k3 (rdOf ByteArray.empty t124 x29_2) false ((rdOf ByteArray.empty t124 x29_2).size : Int) (wrap64 (x40_3 + 1))) = some (r1, r2) := by rw [if_neg (show ¬ (false = true) by decide)] at H; exact H
                                  clear H
                                  have H := H1
                                  clear H1
                                  have H' := Aside0.mk H
                                  clear H
                                  go_wp2
                                  go_roundg k3
                                  case measure => have := HJ1.out; have := HK2.out; have := HK3.out; omega
                                  case rel => exact ⟨(false), (wrap64 (x40_3 + 1)), (by first | rfl | (simp; done) | (simp [*]; done)), (by first | rfl | (simp; done) | (simp [*]; done)), H', ⟨by have := HJ1.out; have := HK2.out; have := HK3.out; omega⟩, ⟨by (with_reducible repeat (first | refine blk_drewN ?_ _ | refine blk_drew ?_ | refine blk_alloc ?_ _)); exact BK123.out⟩, ⟨by repeat (first | (with_reducible first | exact HB.out | apply below_alloc | apply pw_below_drewN | apply below_drew1 | refine below_set ?_ GE123.out) | exact HB.out)⟩⟩
                              · rw [if_neg c24] at H
                                have c24b0 : decide (x40_3 < ((rdOf ByteArray.empty t124 x29_2).size : Int)) = false := decide_eq_false c24
                                clear c24
                                by_cases c30 : x6_3 = true
                                · subst c30
                                  have H1 : (some (31, ([] : List ByteArray))) = some (r1, r2) := by rw [if_pos rfl] at H; exact H
                                  clear H
                                  have H := H1
                                  clear H1
                                  simp only [Option.some.injEq, Prod.mk.injEq] at H
                                  obtain ⟨rfl, rfl⟩ := H
                                  have hcz31_0 : wr.cell? ⟨gb123, 0, none⟩ = some (.int .i64 x124000_2) := (blk_cell BK123.out 0).trans rfl
                                  have hcz31_1 : wr.cell? ⟨gb123, 1, none⟩ = some (.slice none 0 0) := (blk_cell BK123.out 1).trans rfl
                                  have hfz31_0 := blk_frozen BK123.out 0
                                  have hfz31_1 := blk_frozen BK123.out 1
                                  go_wp2
                                  refine bodyPost_ret (results_cell_row rfl _ _ gb123 24 #[.int .i64 31, .slice none 0 0] (0, 0) _ rfl (by (with_reducible repeat (first | refine blk_drewN ?_ _ | refine blk_drew ?_ | refine blk_alloc ?_ _)); refine blk_put (cs := #[.int .i64 31, .slice none 0 0]) ?_ 1 _ rfl; (with_reducible repeat (first | refine blk_drewN ?_ _ | refine blk_drew ?_ | refine blk_alloc ?_ _)); refine blk_put (cs := #[.int .i64 x124000_2, .slice none 0 0]) ?_ 0 _ rfl; (with_reducible repeat (first | refine blk_drewN ?_ _ | refine blk_drew ?_ | refine blk_alloc ?_ _)); exact BK123.out) Tryd.underlying24 rfl (by kernel_rfl)) rfl ?_
                                  exact ⟨_, by first | rfl | (simp [errW_none, errW_some] <;> rfl) | (simp [*, errW_none, errW_some] <;> rfl), by first | exact Kd.R_nil _ _ _ _ _ | exact Kd.N_nil _ _ _ _ _ | exact Kd.V_nil _ _ _ _ _ | exact Kd.Q_nil _ _ _ _ _ | exact Kd.S_nil _ _ _ _ _, by repeat (first | (with_reducible first | exact HB.out | apply below_alloc | apply pw_below_drewN | apply below_drew1 | refine below_set ?_ GE123.out) | exact HB.out)⟩
                                · replace c30 := Bool.eq_false_iff.mpr c30
                                  subst c30
                                  have H1 : (some (30, ([] : List ByteArray))) = some (r1, r2) := by rw [if_neg (show ¬ (false = true) by decide)] at H; exact H
                                  clear H
                                  have H := H1
                                  clear H1
                                  simp only [Option.some.injEq, Prod.mk.injEq] at H
                                  obtain ⟨rfl, rfl⟩ := H
                                  have hcz32_0 : wr.cell? ⟨gb123, 0, none⟩ = some (.int .i64 x124000_2) := (blk_cell BK123.out 0).trans rfl
                                  have hcz32_1 : wr.cell? ⟨gb123, 1, none⟩ = some (.slice none 0 0) := (blk_cell BK123.out 1).trans rfl
                                  have hfz32_0 := blk_frozen BK123.out 0
                                  have hfz32_1 := blk_frozen BK123.out 1
                                  go_wp2
                                  refine bodyPost_ret (results_cell_row rfl _ _ gb123 24 #[.int .i64 30, .slice none 0 0] (0, 0) _ rfl (by (with_reducible repeat (first | refine blk_drewN ?_ _ | refine blk_drew ?_ | refine blk_alloc ?_ _)); refine blk_put (cs := #[.int .i64 30, .slice none 0 0]) ?_ 1 _ rfl; (with_reducible repeat (first | refine blk_drewN ?_ _ | refine blk_drew ?_ | refine blk_alloc ?_ _)); refine blk_put (cs := #[.int .i64 x124000_2, .slice none 0 0]) ?_ 0 _ rfl; (with_reducible repeat (first | refine blk_drewN ?_ _ | refine blk_drew ?_ | refine blk_alloc ?_ _)); exact BK123.out) Tryd.underlying24 rfl (by kernel_rfl)) rfl ?_
                                  exact ⟨_, by first | rfl | (simp [errW_none, errW_some] <;> rfl) | (simp [*, errW_none, errW_some] <;> rfl), by first | exact Kd.R_nil _ _ _ _ _ | exact Kd.N_nil _ _ _ _ _ | exact Kd.V_nil _ _ _ _ _ | exact Kd.Q_nil _ _ _ _ _ | exact Kd.S_nil _ _ _ _ _, by repeat (first | (with_reducible first | exact HB.out | apply below_alloc | apply pw_below_drewN | apply below_drew1 | refine below_set ?_ GE123.out) | exact HB.out)⟩
                        · rw [if_neg c22] at H
                          have c22b0 : decide (13 < ((rdOf ByteArray.empty t124 x29_2).size : Int)) = false := decide_eq_false c22
                          have c22b1 : decide (13 < (rdOf ByteArray.empty t124 x29_2).size) = false := decide_eq_false (by omega)
                          clear c22
                          simp only [Option.some.injEq, Prod.mk.injEq] at H
                          obtain ⟨rfl, rfl⟩ := H
                          have p127 : 0 ≤ (x29_2 : Int) := of_decide_eq_true (by first | (with_reducible assumption) | assumption)
                          have q127 : x29_2 < (t124.length : Int) := of_decide_eq_true (by first | (with_reducible assumption) | assumption)
                          obtain ⟨ad127, e127, hx127_0⟩ := Kd.at_string (Kd.R_reads' HO_27.out).2.2 x29_2 p127 q127
                          cases e127
                          replace p127 := eq_true p127
                          replace q127 := eq_true q127
                          go_wp2_with (first | ((with_reducible refine gate_callee (f := 11) rfl ?_); refine goesL_ (some 34) rfl rfl Tryd.func11 (by kernel_rfl) rfl #[.string (rdOf ByteArray.empty t124 x29_2)] rfl (by (try simp only [List.map_toArray, List.map_cons, List.map_nil]); first | done | rfl | (simp only [List.length_drop, List.length_take]; rfl)) ?_; (with_reducible refine (impl_ValidName.calls k2 (rdOf ByteArray.empty t124 x29_2) false _ A19.out).mono ?_); rintro e w33 ⟨rfl, hb⟩; refine ⟨_, rfl, ?_⟩; have n0_ := Aside0.mk (Kd.R_below (by (with_reducible repeat (first | apply Kd.R_alloc | apply Kd.R_drewN | apply Kd.R_drew)); exact HO_3.out) hb); have n1_ := Aside0.mk (Kd.R_below (by (with_reducible repeat (first | apply Kd.R_alloc | apply Kd.R_drewN | apply Kd.R_drew)); exact HO_27.out) hb); have n2_ := Aside0.mk (blk_below (g := gb123) (o := .cells #[.int .i64 x124000_2, .slice none 0 0] 24 (0, 0)) (by (with_reducible repeat (first | refine blk_drewN ?_ _ | refine blk_drew ?_ | refine blk_alloc ?_ _)); exact BK123.out) hb); have n3_ := Aside0.mk (below_step (by repeat (first | (with_reducible first | exact HB.out | apply below_alloc | apply pw_below_drewN | apply below_drew1 | refine below_set ?_ GE123.out) | exact HB.out)) hb); clear HO_3; clear HO_27; clear BK123; clear HB; have HO_3 := n0_; have HO_27 := n1_; have BK123 := n2_; have HB := n3_; clear n0_ n1_ n2_ n3_; (try clear hb); (try clear hb2); (try clear hk); (try clear hi); have hcz34_0 : w33.cell? ⟨gb123, 0, none⟩ = some (.int .i64 x124000_2) := (blk_cell BK123.out 0).trans rfl; have hcz34_1 : w33.cell? ⟨gb123, 1, none⟩ = some (.slice none 0 0) := (blk_cell BK123.out 1).trans rfl; have hfz34_0 := blk_frozen BK123.out 0; have hfz34_1 := blk_frozen BK123.out 1))
                          refine bodyPost_ret (results_cell_row rfl _ _ gb123 24 #[.int .i64 30, .slice none 0 0] (0, 0) _ rfl (by (with_reducible repeat (first | refine blk_drewN ?_ _ | refine blk_drew ?_ | refine blk_alloc ?_ _)); refine blk_put (cs := #[.int .i64 30, .slice none 0 0]) ?_ 1 _ rfl; (with_reducible repeat (first | refine blk_drewN ?_ _ | refine blk_drew ?_ | refine blk_alloc ?_ _)); refine blk_put (cs := #[.int .i64 x124000_2, .slice none 0 0]) ?_ 0 _ rfl; (with_reducible repeat (first | refine blk_drewN ?_ _ | refine blk_drew ?_ | refine blk_alloc ?_ _)); exact BK123.out) Tryd.underlying24 rfl (by kernel_rfl)) rfl ?_
                          exact ⟨_, by first | rfl | (simp [errW_none, errW_some] <;> rfl) | (simp [*, errW_none, errW_some] <;> rfl), by first | exact Kd.R_nil _ _ _ _ _ | exact Kd.N_nil _ _ _ _ _ | exact Kd.V_nil _ _ _ _ _ | exact Kd.Q_nil _ _ _ _ _ | exact Kd.S_nil _ _ _ _ _, by repeat (first | (with_reducible first | exact HB.out | apply below_alloc | apply pw_below_drewN | apply below_drew1 | refine below_set ?_ GE123.out) | exact HB.out)⟩
                    · rw [if_neg c18] at H
                      exact absurd H (by simp)
                  · rw [if_neg c17] at H
                    exact absurd H (by simp)
                · rw [if_neg c16] at H
                  have c16b0 : decide (x29_2 < (t124.length : Int)) = false := decide_eq_false c16
                  clear c16
                  by_cases c35 : (t124.length : Int) > 16
                  · rw [if_pos c35] at H
                    have c35b0 : decide (16 < (t124.length : Int)) = true := decide_eq_true c35
                    have c35b1 : decide (16 < t124.length) = true := decide_eq_true (by omega)
                    clear c35
                    simp only [Option.some.injEq, Prod.mk.injEq] at H
                    obtain ⟨rfl, rfl⟩ := H
                    have hcz36_0 : wr.cell? ⟨gb123, 0, none⟩ = some (.int .i64 x124000_2) := (blk_cell BK123.out 0).trans rfl
                    have hcz36_1 : wr.cell? ⟨gb123, 1, none⟩ = some (.slice none 0 0) := (blk_cell BK123.out 1).trans rfl
                    have hfz36_0 := blk_frozen BK123.out 0
                    have hfz36_1 := blk_frozen BK123.out 1
                    go_wp2
                    refine bodyPost_ret (results_cell_row rfl _ _ gb123 24 #[.int .i64 30, .slice none 0 0] (0, 0) _ rfl (by (with_reducible repeat (first | refine blk_drewN ?_ _ | refine blk_drew ?_ | refine blk_alloc ?_ _)); refine blk_put (cs := #[.int .i64 30, .slice none 0 0]) ?_ 1 _ rfl; (with_reducible repeat (first | refine blk_drewN ?_ _ | refine blk_drew ?_ | refine blk_alloc ?_ _)); refine blk_put (cs := #[.int .i64 x124000_2, .slice none 0 0]) ?_ 0 _ rfl; (with_reducible repeat (first | refine blk_drewN ?_ _ | refine blk_drew ?_ | refine blk_alloc ?_ _)); exact BK123.out) Tryd.underlying24 rfl (by kernel_rfl)) rfl ?_
                    exact ⟨_, by first | rfl | (simp [errW_none, errW_some] <;> rfl) | (simp [*, errW_none, errW_some] <;> rfl), by first | exact Kd.R_nil _ _ _ _ _ | exact Kd.N_nil _ _ _ _ _ | exact Kd.V_nil _ _ _ _ _ | exact Kd.Q_nil _ _ _ _ _ | exact Kd.S_nil _ _ _ _ _, by repeat (first | (with_reducible first | exact HB.out | apply below_alloc | apply pw_below_drewN | apply below_drew1 | refine below_set ?_ GE123.out) | exact HB.out)⟩
                  · rw [if_neg c35] at H
                    have c35b0 : decide (16 < (t124.length : Int)) = false := decide_eq_false c35
                    have c35b1 : decide (16 < t124.length) = false := decide_eq_false (by omega)
                    clear c35
                    simp only [Option.some.injEq, Prod.mk.injEq] at H
                    obtain ⟨rfl, rfl⟩ := H
                    have hcz37_0 : wr.cell? ⟨gb123, 0, none⟩ = some (.int .i64 x124000_2) := (blk_cell BK123.out 0).trans rfl
                    have hcz37_1 : wr.cell? ⟨gb123, 1, none⟩ = some (.slice none 0 0) := (blk_cell BK123.out 1).trans rfl
                    have hfz37_0 := blk_frozen BK123.out 0
                    have hfz37_1 := blk_frozen BK123.out 1
                    go_wp2
                    refine bodyPost_ret (results_cell_row rfl _ _ gb123 24 #[.int .i64 0, .slice Ao15 t124.length co15] (0, 0) _ rfl (by (with_reducible repeat (first | refine blk_drewN ?_ _ | refine blk_drew ?_ | refine blk_alloc ?_ _)); refine blk_put (cs := #[.int .i64 0, .slice none 0 0]) ?_ 1 _ rfl; (with_reducible repeat (first | refine blk_drewN ?_ _ | refine blk_drew ?_ | refine blk_alloc ?_ _)); refine blk_put (cs := #[.int .i64 x124000_2, .slice none 0 0]) ?_ 0 _ rfl; (with_reducible repeat (first | refine blk_drewN ?_ _ | refine blk_drew ?_ | refine blk_alloc ?_ _)); exact BK123.out) Tryd.underlying24 rfl (by kernel_rfl)) rfl ?_
                    exact ⟨_, by first | rfl | (simp [errW_none, errW_some] <;> rfl) | (simp [*, errW_none, errW_some] <;> rfl), by (with_reducible repeat (first | apply Kd.R_alloc | apply Kd.R_drewN | apply Kd.R_drew)); exact Kd.R_mono (Kd.R_far (p := ⟨gb123, 1, none⟩) (Kd.R_far (p := ⟨gb123, 0, none⟩) (Kd.R_types HO_3.out BK123.out (by decide)) (fun _ hk => hk.2) (.int .i64 0)) (fun _ hk => hk.2) (.slice Ao15 t124.length co15)) (fun _ hk => trivial), by repeat (first | (with_reducible first | exact HB.out | apply below_alloc | apply pw_below_drewN | apply below_drew1 | refine below_set ?_ GE123.out) | exact HB.out)⟩
          · rw [if_neg c12] at H
            exact absurd H (by simp)

end Go.Proofs.YtjaiolojmglmiaaDoor.PFnPaths
