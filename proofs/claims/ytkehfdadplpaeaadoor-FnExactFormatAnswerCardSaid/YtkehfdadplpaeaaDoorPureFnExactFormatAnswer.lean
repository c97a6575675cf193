/- FnExactFormatAnswer: of every call and answer the program's FormatAnswer says the line that the reference's says, and leaves the answer as it was. -/
import Derived.Test.YtkehfdadplpaeaaDoorPFnExactFormatAnswerx6
import Derived.Test.YtkehfdadplpaeaaDoorHlp2
import Derived.Lib.ItoaLen
import Derived.Lib.Join
namespace Go.Proofs.YtkehfdadplpaeaaDoor.Pure
open Go.RowKit Go.Proofs.YtkehfdadplpaeaaDoor.PFnExactFormatAnswer Go.Proofs.YtkehfdadplpaeaaDoorW.PrintWords Go.Proofs.YtkehfdadplpaeaaDoorW.PrintLast Go.Proofs.YtkehfdadplpaeaaDoorW.PrintMore Go.Proofs.YtkehfdadplpaeaaDoor.Hlp Go.Proofs.YtkehfdadplpaeaaDoor.Qt
set_option linter.unusedVariables false
set_option linter.unusedSectionVars false
namespace FA
/-- A number as text. -/
def D (v : Int) : ByteArray := ⟨(Lib.itoa v).toArray⟩
def Rg (v : Int) : Prop := -9223372036854775808 ≤ v ∧ v ≤ 9223372036854775807
theorem D_len {v : Int} (h : Rg v) : (D v).size ≤ 21 := by
  have := Lib.itoa_length_le v h.1 h.2
  show (Lib.itoa v).toArray.size ≤ 21
  rw [List.size_toArray]; omega
theorem D_app (a b : List UInt8) : (⟨a.toArray⟩ : ByteArray) ++ ⟨b.toArray⟩ = ⟨(a ++ b).toArray⟩ := by
  apply ByteArray.ext; simp
theorem D_small (n : Nat) (h : n < 10) : strOfNums [(wrap64 (48 + (n : Int))) % 256] = D n := by
  have : ∀ n : Fin 10, strOfNums [(wrap64 (48 + (((n.1 : Nat)) : Int))) % 256] = (⟨#[UInt8.ofNat (48 + n.1)]⟩ : ByteArray) := by decide +kernel
  rw [this ⟨n, h⟩]
  unfold D
  rw [Lib.itoa_nonneg, Lib.decDigits, dif_pos h]
theorem D_big (n : Nat) (h : ¬ n < 10) : D n = D ((n / 10 : Nat) : Int) ++ D ((n % 10 : Nat) : Int) := by
  unfold D
  rw [D_app, Lib.itoa_nonneg, Lib.itoa_nonneg, Lib.itoa_nonneg]
  rw [Lib.decDigits, dif_neg h, Lib.decDigits_one (i := n % 10) (by omega)]
theorem D_neg_small (n : Nat) (h1 : 1 ≤ n) : D (-(n : Int)) = (⟨#[45]⟩ : ByteArray) ++ D n := by
  unfold D
  rw [Lib.itoa_neg n h1, Lib.itoa_nonneg]
  exact (D_app [45] (Lib.decDigits n)).symm
theorem D_neg_big (n : Nat) (h : ¬ n < 10) : D (-(n : Int)) = D (-((n / 10 : Nat) : Int)) ++ D ((n % 10 : Nat) : Int) := by
  unfold D
  rw [D_app, Lib.itoa_neg n (by omega), Lib.itoa_neg (n / 10) (by omega), Lib.itoa_nonneg]
  rw [Lib.decDigits, dif_neg h, Lib.decDigits_one (i := n % 10) (by omega)]
  rfl
theorem dec_nat : ∀ (m n : Nat), n ≤ m → (n : Int) ≤ 9223372036854775808 → Rg (n : Int) → Ev (fun k => spec_l14Dec.f k (n : Int)) (D n) := by
  intro m
  induction m with
  | zero =>
    intro n hn _ hr
    obtain rfl : n = 0 := by omega
    exact Ev.step (f := fun _ => some (D ((0 : Nat) : Int))) (fun k => by simp only [spec_l14Dec.f]; rw [if_neg (by omega), if_pos (by omega), D_small 0 (by omega)]) (Ev.now _)
  | succ m ih =>
    intro n hn hb hr
    by_cases h : n < 10
    · exact Ev.step (f := fun _ => some (D (n : Int))) (fun k => by simp only [spec_l14Dec.f]; rw [if_neg (by omega), if_pos (by omega), D_small n h]) (Ev.now _)
    · have e1 : wrap64 (Int.tdiv (n : Int) 10) = ((n / 10 : Nat) : Int) := by
        rw [Int.tdiv_eq_ediv_of_nonneg (by omega), w64 (by have := hr.2; omega) (by have := hr.2; omega)]; omega
      have e2 : Int.tmod (n : Int) 10 = ((n % 10 : Nat) : Int) := by rw [Int.tmod_eq_emod_of_nonneg (by omega)]; omega
      have r1 : Rg ((n / 10 : Nat) : Int) := ⟨by omega, by have := hr.2; omega⟩
      have r2 : Rg ((n % 10 : Nat) : Int) := ⟨by omega, by omega⟩
      have l1 := D_len r1
      have l2 := D_len r2
      refine Ev.step (f := fun k => (spec_l14Dec.f k ((n / 10 : Nat) : Int)).bind fun t111 => ((spec_l14Dec.f k ((n % 10 : Nat) : Int)).bind fun t112 => (if t111.size + t112.size ≤ 9223372036854775807 then (some (t111 ++ t112)) else (none)))) (fun k => ?_) ?_
      · simp only [spec_l14Dec.f]
        rw [if_neg (by omega), if_neg (by omega), e1, e2]
      · refine (ih (n / 10) (by omega) (by omega) r1).bind ((ih (n % 10) (by omega) (by omega) r2).bind ?_)
        rw [if_pos (by omega), ← D_big n h]
        exact Ev.now _
theorem dec_ev (v : Int) (hr : Rg v) : Ev (fun k => spec_l14Dec.f k v) (D v) := by
  by_cases hv : 0 ≤ v
  · obtain ⟨n, rfl⟩ := Int.eq_ofNat_of_zero_le hv
    exact dec_nat n n (Nat.le_refl _) (by have := hr.2; omega) hr
  have key : ∀ (m n : Nat), n ≤ m → 1 ≤ n → Rg (-(n : Int)) → Ev (fun k => spec_l14Dec.f k (-(n : Int))) (D (-(n : Int))) := by
    intro m
    induction m with
    | zero => intro n h1 h2; omega
    | succ m ih =>
      intro n hn h1 hr
      by_cases h : n < 10
      · have e1 : wrap64 (-(-(n : Int))) = (n : Int) := by rw [w64 (by omega) (by omega)]; omega
        have r1 : Rg (n : Int) := ⟨by omega, by omega⟩
        have l1 := D_len r1
        refine Ev.step (f := fun k => (spec_l14Dec.f k (n : Int)).bind fun t107 => (if 1 + t107.size ≤ 9223372036854775807 then (some ((⟨#[45]⟩ : ByteArray) ++ t107)) else (none))) (fun k => ?_) ?_
        · simp only [spec_l14Dec.f]
          rw [if_pos (by omega), if_neg (by omega), e1]
        · refine (dec_nat n n (Nat.le_refl _) (by omega) r1).bind ?_
          rw [if_pos (by omega), ← D_neg_small n h1]
          exact Ev.now _
      · have hq : Int.tdiv (-(n : Int)) 10 = -((n / 10 : Nat) : Int) := by
          rw [Int.neg_tdiv, Int.tdiv_eq_ediv_of_nonneg (by omega)]; omega
        have hm : Int.tmod (-(n : Int)) 10 = -((n % 10 : Nat) : Int) := by
          rw [Int.neg_tmod, Int.tmod_eq_emod_of_nonneg (by omega)]; omega
        have e1 : wrap64 (Int.tdiv (-(n : Int)) 10) = -((n / 10 : Nat) : Int) := by
          rw [hq, w64 (by have := hr.1; omega) (by omega)]
        have e2 : wrap64 (-(Int.tmod (-(n : Int)) 10)) = ((n % 10 : Nat) : Int) := by
          rw [hm, w64 (by omega) (by omega)]; omega
        have r1 : Rg (-((n / 10 : Nat) : Int)) := ⟨by have := hr.1; omega, by omega⟩
        have r2 : Rg ((n % 10 : Nat) : Int) := ⟨by omega, by omega⟩
        have l1 := D_len r1
        have l2 := D_len r2
        refine Ev.step (f := fun k => (spec_l14Dec.f k (-((n / 10 : Nat) : Int))).bind fun t105 => ((spec_l14Dec.f k ((n % 10 : Nat) : Int)).bind fun t106 => (if t105.size + t106.size ≤ 9223372036854775807 then (some (t105 ++ t106)) else (none)))) (fun k => ?_) ?_
        · simp only [spec_l14Dec.f]
          rw [if_pos (by omega), if_pos (by omega), e1, e2]
        · refine (ih (n / 10) (by omega) (by omega) r1).bind ((dec_nat (n % 10) (n % 10) (Nat.le_refl _) (by omega) r2).bind ?_)
          rw [if_pos (by omega), ← D_neg_big n h]
          exact Ev.now _
  obtain ⟨n, hn⟩ := Int.eq_ofNat_of_zero_le (show 0 ≤ -v by omega)
  obtain rfl : v = -(n : Int) := by omega
  exact key n n (Nat.le_refl _) (by omega) hr
theorem dec_impl (v : Int) (hr : Rg v) : impl_dec.f v = some (D v) := by unfold impl_dec.f; exact if_pos hr
/-- A word, and numbers behind it. -/
def sayF (w : ByteArray) : List Int → ByteArray
  | [] => w
  | n :: r => sayF (w ++ (⟨#[32]⟩ : ByteArray) ++ D n) r
theorem say_loop (l : List Int) (hl : l.length ≤ 100) (hr : ∀ x ∈ l, Rg x) : ∀ (d i : Nat) (w : ByteArray), i + d = l.length → w.size ≤ 1000 + 30 * i → Ev (fun k => spec_l14Say.l0 k w l (i : Int)) (sayF w (l.drop i)) := by
  intro d
  induction d with
  | zero =>
    intro i w hi hw
    rw [List.drop_eq_nil_of_le (by omega), sayF]
    exact Ev.step (f := fun _ => some w) (fun k => by simp only [spec_l14Say.l0]; rw [if_neg (by omega)]) (Ev.now _)
  | succ d ih =>
    intro i w hi hw
    have hi' : i < l.length := by omega
    rw [List.drop_eq_getElem_cons hi', sayF]
    have hd := D_len (hr l[i] (List.getElem_mem _))
    have e1 : wrap64 ((i : Int) + 1) = ((i + 1 : Nat) : Int) := by rw [w64 (by omega) (by omega)]; rfl
    have hs : (w ++ (⟨#[32]⟩ : ByteArray)).size = w.size + 1 := by rw [ByteArray.size_append]; rfl
    refine Ev.step (f := fun k => (spec_l14Dec.f k l[i]).bind fun t114 => (if (w ++ (⟨#[32]⟩ : ByteArray)).size + t114.size ≤ 9223372036854775807 then (spec_l14Say.l0 k ((w ++ (⟨#[32]⟩ : ByteArray)) ++ t114) l ((i + 1 : Nat) : Int)) else (none))) (fun k => ?_) ?_
    · simp only [spec_l14Say.l0]
      rw [if_pos (by omega), if_pos (by omega), if_pos (by omega), rd_nat l i hi', e1]
    · refine (dec_ev l[i] (hr _ (List.getElem_mem _))).bind ?_
      refine Ev.congr (fun k => if_pos (by rw [hs]; omega)) ?_
      refine ih (i + 1) _ (by omega) ?_
      rw [ByteArray.size_append, hs]; omega
theorem say_ev (w : ByteArray) (l : List Int) (hw : w.size ≤ 1000) (hl : l.length ≤ 100) (hr : ∀ x ∈ l, Rg x) : Ev (fun k => spec_l14Say.f k w l) (sayF w l) := by
  have := say_loop l hl hr l.length 0 w (by omega) (by omega)
  rw [List.drop_zero] at this
  exact this
theorem rdS (l : List ByteArray) (i : Nat) (h : i < l.length) : rdOf ByteArray.empty l (i : Int) = l[i] := by simp [rdOf, h]
/-- The names, each behind a blank. -/
def namesF (l : List ByteArray) : List UInt8 := Lib.joinTail [32] (l.map (·.data.toList))
theorem strOf (l : List UInt8) : strOfNums (l.map fun c => (c.toNat : Int)) = ⟨l.toArray⟩ := spec_Quote.str l
theorem names_loop (x0 : Int) (x1 : ByteArray) (l : List ByteArray) (y3 y4 y5 y6 y7 y8 y9 y10 y11 y12 : Int) (hl : l.length ≤ 1048576) (hs : (l.map (·.size)).sum ≤ 1048576) :
    ∀ (d i : Nat) (acc : List UInt8), i + d = l.length → acc.length + d + ((l.drop i).map (·.size)).sum ≤ 4000000 → Ev (fun k => spec_FormatAnswer.l0 k (acc.map fun c => (c.toNat : Int)) (i : Int) x0 x1 l y3 y4 y5 y6 y7 y8 y9 y10 y11 y12) (⟨(acc ++ namesF (l.drop i)).toArray⟩ : ByteArray) := by
  intro d
  induction d with
  | zero =>
    intro i acc hi hb
    rw [List.drop_eq_nil_of_le (by omega)]
    refine Ev.step (f := fun _ => some (⟨(acc ++ namesF []).toArray⟩ : ByteArray)) (fun k => ?_) (Ev.now _)
    simp only [spec_FormatAnswer.l0]
    rw [if_neg (by omega), strOf]
    simp [namesF, Lib.joinTail]
  | succ d ih =>
    intro i acc hi hb
    have hi' : i < l.length := by omega
    rw [List.drop_eq_getElem_cons hi'] at hb ⊢
    simp only [List.map_cons, List.sum_cons] at hb
    have e1 : wrap64 ((i : Int) + 1) = ((i + 1 : Nat) : Int) := by rw [w64 (by omega) (by omega)]; rfl
    have hsz : ((⟨#[32]⟩ : ByteArray) ++ l[i]).size = 1 + l[i].size := by rw [ByteArray.size_append]; rfl
    have e2 : bytesOf ((⟨#[32]⟩ : ByteArray) ++ l[i]) = ((32 : UInt8) :: l[i].data.toList).map fun c => (c.toNat : Int) := by
      simp [bytesOf]
    have e3 : acc ++ namesF (l[i] :: l.drop (i + 1)) = (acc ++ (32 : UInt8) :: l[i].data.toList) ++ namesF (l.drop (i + 1)) := by
      generalize l.drop (i + 1) = rr
      simp [namesF, Lib.joinTail]
    have e4 : l[i].data.toList.length = l[i].size := data_length _
    have e5 : (acc.map fun c => (c.toNat : Int)).length + ((⟨#[32]⟩ : ByteArray) ++ l[i]).size < 140737488355328 := by rw [hsz, List.length_map]; omega
    rw [e3]
    refine Ev.step (fun k => ?_) (ih (i + 1) (acc ++ (32 : UInt8) :: l[i].data.toList) (by omega) ?_)
    · simp only [spec_FormatAnswer.l0]
      rw [if_pos (by omega), if_pos (by omega), rdS l i hi', if_pos (by omega), if_pos e5, e1, e2, List.map_append]
    · rw [List.length_append, List.length_cons, e4]; omega
/-- What both say. -/
noncomputable def ans (c0 : Int) (a0 : Int) (a1 : ByteArray) (l : List ByteArray) (a3 a4 a5 a6 a7 a8 a9 a10 a11 a12 : Int) : ByteArray :=
  if a0 = 0 then
    (if c0 = 17 ∨ c0 = 15 ∨ c0 = 21 then (⟨#[100, 97, 116, 97, 32]⟩ : ByteArray) ++ (qF a1).getD ⟨#[]⟩
     else if c0 = 14 then (⟨#[104, 97, 110, 100, 108, 101, 32]⟩ : ByteArray) ++ D a3
     else if c0 = 18 ∨ c0 = 19 ∨ c0 = 16 then ((((((⟨#[115, 116, 97, 116, 32]⟩ : ByteArray) ++ D a4) ++ (⟨#[32]⟩ : ByteArray)) ++ D a5) ++ (⟨#[32]⟩ : ByteArray)) ++ D a6) ++ (⟨#[32]⟩ : ByteArray) ++ D a7
     else if c0 = 24 then (((⟨#[115, 112, 97, 99, 101, 32]⟩ : ByteArray) ++ D a6) ++ (⟨#[32]⟩ : ByteArray)) ++ D a7
     else if c0 = 25 then (((((((((⟨#[108, 111, 103, 32]⟩ : ByteArray) ++ D a8) ++ (⟨#[32]⟩ : ByteArray)) ++ D a9) ++ (⟨#[32]⟩ : ByteArray)) ++ D a10) ++ (⟨#[32]⟩ : ByteArray)) ++ D a11) ++ (⟨#[32]⟩ : ByteArray)) ++ D a12
     else if c0 = 20 then ⟨([110, 97, 109, 101, 115] ++ namesF l).toArray⟩
     else (⟨#[111, 107]⟩ : ByteArray))
  else (⟨#[101, 114, 114, 111, 114, 32]⟩ : ByteArray) ++ D a0
theorem qF_some (s : ByteArray) : ∃ q, qF s = some q ∧ q.size ≤ 196608 := by
  unfold qF
  by_cases h1 : s.size > 65536
  · exact ⟨_, by rw [if_pos h1], by decide⟩
  rw [if_neg h1]
  by_cases h2 : s.size = 0
  · exact ⟨_, by rw [if_pos h2], by decide⟩
  have h3 := ql_len s.data.toList
  have h4 : s.data.toList.length = s.size := data_length s
  have h5 : (⟨(ql s.data.toList).toArray⟩ : ByteArray).size = (ql s.data.toList).length := rfl
  exact ⟨_, by rw [if_neg h2], by omega⟩
section
variable (c0 a0 : Int) (a1 : ByteArray) (l : List ByteArray) (a3 a4 a5 a6 a7 a8 a9 a10 a11 a12 : Int)
variable (r0 : Rg a0) (r3 : Rg a3) (r4 : Rg a4) (r5 : Rg a5) (r6 : Rg a6) (r7 : Rg a7) (r8 : Rg a8) (r9 : Rg a9) (r10 : Rg a10) (r11 : Rg a11) (r12 : Rg a12)
variable (hl : l.length ≤ 1048576) (hs : (l.map (·.size)).sum ≤ 1048576)
include r0 r3 r4 r5 r6 r7 r8 r9 r10 r11 r12 hl hs
theorem spec_j1 (h0 : a0 = 0) (h1 : ¬ (c0 = 17 ∨ c0 = 15 ∨ c0 = 21)) (h2 : ¬ c0 = 14) : Ev (fun k => spec_FormatAnswer.j1 k c0 (decide (c0 = 18 ∨ c0 = 19 ∨ c0 = 16)) a0 a1 l a3 a4 a5 a6 a7 a8 a9 a10 a11 a12) (ans c0 a0 a1 l a3 a4 a5 a6 a7 a8 a9 a10 a11 a12) := by
  unfold ans
  rw [if_pos h0, if_neg h1, if_neg h2]
  by_cases h3 : c0 = 18 ∨ c0 = 19 ∨ c0 = 16
  · rw [if_pos h3]
    refine Ev.step (fun k => by simp only [spec_FormatAnswer.j1]; rw [if_pos (decide_eq_true h3)]) ?_
    exact (say_ev (⟨#[115, 116, 97, 116]⟩ : ByteArray) [a4, a5, a6, a7] (by decide) (by simp) (by simp; exact ⟨r4, r5, r6, r7⟩)).bind (Ev.now _)
  rw [if_neg h3]
  have hd : ¬ (decide (c0 = 18 ∨ c0 = 19 ∨ c0 = 16) = true) := by rw [decide_eq_true_eq]; exact h3
  by_cases h4 : c0 = 24
  · rw [if_pos h4]
    refine Ev.step (fun k => by simp only [spec_FormatAnswer.j1]; rw [if_neg hd, if_pos h4]) ?_
    exact (say_ev (⟨#[115, 112, 97, 99, 101]⟩ : ByteArray) [a6, a7] (by decide) (by simp) (by simp; exact ⟨r6, r7⟩)).bind (Ev.now _)
  rw [if_neg h4]
  by_cases h5 : c0 = 25
  · rw [if_pos h5]
    refine Ev.step (fun k => by simp only [spec_FormatAnswer.j1]; rw [if_neg hd, if_neg h4, if_pos h5]) ?_
    exact (say_ev (⟨#[108, 111, 103]⟩ : ByteArray) [a8, a9, a10, a11, a12] (by decide) (by simp) (by simp; exact ⟨r8, r9, r10, r11, r12⟩)).bind (Ev.now _)
  rw [if_neg h5]
  by_cases h6 : c0 = 20
  · rw [if_pos h6]
    refine Ev.step (fun k => by simp only [spec_FormatAnswer.j1]; rw [if_neg hd, if_neg h4, if_neg h5, if_pos h6]) ?_
    have := names_loop a0 a1 l a3 a4 a5 a6 a7 a8 a9 a10 a11 a12 hl hs l.length 0 [110, 97, 109, 101, 115] (by omega) (by simp; omega)
    rw [List.drop_zero] at this
    exact this
  rw [if_neg h6]
  exact Ev.step (f := fun _ => some (⟨#[111, 107]⟩ : ByteArray)) (fun k => by simp only [spec_FormatAnswer.j1]; rw [if_neg hd, if_neg h4, if_neg h5, if_neg h6]) (Ev.now _)
theorem spec_j0 (h0 : a0 = 0) : Ev (fun k => spec_FormatAnswer.j0 k c0 (decide (c0 = 17 ∨ c0 = 15 ∨ c0 = 21)) a0 a1 l a3 a4 a5 a6 a7 a8 a9 a10 a11 a12) (ans c0 a0 a1 l a3 a4 a5 a6 a7 a8 a9 a10 a11 a12) := by
  by_cases h1 : c0 = 17 ∨ c0 = 15 ∨ c0 = 21
  · unfold ans
    rw [if_pos h0, if_pos h1]
    obtain ⟨q, hq, hq2⟩ := qF_some a1
    refine Ev.step (f := fun _ => some ((⟨#[100, 97, 116, 97, 32]⟩ : ByteArray) ++ (qF a1).getD ⟨#[]⟩)) (fun k => ?_) (Ev.now _)
    simp only [spec_FormatAnswer.j0]
    unfold spec_Quote.f
    rw [if_pos (decide_eq_true h1), hq, Option.bind_some, if_pos (by omega)]; rfl
  have hd : ¬ (decide (c0 = 17 ∨ c0 = 15 ∨ c0 = 21) = true) := by rw [decide_eq_true_eq]; exact h1
  by_cases h2 : c0 = 14
  · unfold ans
    rw [if_pos h0, if_neg h1, if_pos h2]
    refine Ev.step (fun k => by simp only [spec_FormatAnswer.j0]; rw [if_neg hd, if_pos h2]) ?_
    exact (say_ev (⟨#[104, 97, 110, 100, 108, 101]⟩ : ByteArray) [a3] (by decide) (by simp) (by simp; exact r3)).bind (Ev.now _)
  have hj := spec_j1 c0 a0 a1 l a3 a4 a5 a6 a7 a8 a9 a10 a11 a12 r0 r3 r4 r5 r6 r7 r8 r9 r10 r11 r12 hl hs h0 h1 h2
  refine Ev.step (fun k => ?_) hj
  simp only [spec_FormatAnswer.j0]
  rw [if_neg hd, if_neg h2]
  by_cases e1 : c0 = 18
  · rw [if_pos e1, show (c0 == 18) = decide (c0 = 18 ∨ c0 = 19 ∨ c0 = 16) from by simp [e1]]
  rw [if_neg e1]
  by_cases e2 : c0 = 19
  · rw [if_pos e2, show (c0 == 19) = decide (c0 = 18 ∨ c0 = 19 ∨ c0 = 16) from by simp [e2]]
  rw [if_neg e2, show (c0 == 16) = decide (c0 = 18 ∨ c0 = 19 ∨ c0 = 16) from by rw [Bool.eq_iff_iff, beq_iff_eq, decide_eq_true_eq]; omega]
theorem spec_ans (c1 c2 : ByteArray) (c3 c4 c5 : Int) (c6 : ByteArray) : Ev (fun k => spec_FormatAnswer.f k c0 c1 c2 c3 c4 c5 c6 a0 a1 l a3 a4 a5 a6 a7 a8 a9 a10 a11 a12) (ans c0 a0 a1 l a3 a4 a5 a6 a7 a8 a9 a10 a11 a12) := by
  by_cases h0 : a0 = 0
  rotate_left
  · unfold ans
    rw [if_neg h0]
    refine Ev.congr (fun k => by unfold spec_FormatAnswer.f; rw [if_neg h0]) ?_
    exact (say_ev (⟨#[101, 114, 114, 111, 114]⟩ : ByteArray) [a0] (by decide) (by simp) (by simp; exact r0)).bind (Ev.now _)
  refine Ev.congr (fun k => ?_) (spec_j0 c0 a0 a1 l a3 a4 a5 a6 a7 a8 a9 a10 a11 a12 r0 r3 r4 r5 r6 r7 r8 r9 r10 r11 r12 hl hs h0)
  unfold spec_FormatAnswer.f
  rw [if_pos h0]
  by_cases e1 : c0 = 17
  · rw [if_pos e1, show (c0 == 17) = decide (c0 = 17 ∨ c0 = 15 ∨ c0 = 21) from by simp [e1]]
  rw [if_neg e1]
  by_cases e2 : c0 = 15
  · rw [if_pos e2, show (c0 == 15) = decide (c0 = 17 ∨ c0 = 15 ∨ c0 = 21) from by simp [e2]]
  rw [if_neg e2, show (c0 == 21) = decide (c0 = 17 ∨ c0 = 15 ∨ c0 = 21) from by rw [Bool.eq_iff_iff, beq_iff_eq, decide_eq_true_eq]; omega]
theorem impl_j1 (h0 : a0 = 0) (h1 : ¬ (c0 = 17 ∨ c0 = 15 ∨ c0 = 21)) (h2 : ¬ c0 = 14) : Ev (fun k => impl_FormatAnswer.j1 k c0 (decide (c0 = 18 ∨ c0 = 19 ∨ c0 = 16)) a0 a1 l a3 a4 a5 a6 a7 a8 a9 a10 a11 a12 a4 a5 a6 a7) (ans c0 a0 a1 l a3 a4 a5 a6 a7 a8 a9 a10 a11 a12) := by
  have l4 := D_len r4; have l5 := D_len r5; have l6 := D_len r6; have l7 := D_len r7; have l8 := D_len r8; have l9 := D_len r9; have l10 := D_len r10; have l11 := D_len r11; have l12 := D_len r12
  have s32 : (⟨#[32]⟩ : ByteArray).size = 1 := rfl
  unfold ans
  rw [if_pos h0, if_neg h1, if_neg h2]
  by_cases h3 : c0 = 18 ∨ c0 = 19 ∨ c0 = 16
  · rw [if_pos h3]
    have sw : (⟨#[115, 116, 97, 116, 32]⟩ : ByteArray).size = 5 := rfl
    refine Ev.step (fun k => by simp only [impl_FormatAnswer.j1]; rw [if_pos (decide_eq_true h3)]) ?_
    refine Ev.congr (f := fun _ => some _) (fun k => ?_) (Ev.now _)
    simp only [dec_impl a4 r4, dec_impl a5 r5, dec_impl a6 r6, dec_impl a7 r7, Option.bind_some, ByteArray.size_append, sw, s32]
    rw [if_pos (by omega), if_pos (by omega), if_pos (by omega), if_pos (by omega), if_pos (by omega), if_pos (by omega), if_pos (by omega)]
  rw [if_neg h3]
  have hd : ¬ (decide (c0 = 18 ∨ c0 = 19 ∨ c0 = 16) = true) := by rw [decide_eq_true_eq]; exact h3
  by_cases h6 : c0 = 20
  · rw [if_neg (by omega), if_neg (by omega), if_pos h6]
    refine Ev.step (f := fun _ => some (⟨([110, 97, 109, 101, 115] ++ namesF l).toArray⟩ : ByteArray)) (fun k => ?_) (Ev.now _)
    have hlen : ([(⟨#[110, 97, 109, 101, 115]⟩ : ByteArray)] : List ByteArray).length + l.length < 8796093022208 := by simp; omega
    have hj : Lib.join (([(⟨#[110, 97, 109, 101, 115]⟩ : ByteArray)] ++ l).map (·.data.toList)) ((⟨#[32]⟩ : ByteArray)).data.toList = [110, 97, 109, 101, 115] ++ namesF l := by
      rw [List.singleton_append, List.map_cons, Lib.join_cons]; rfl
    have hn : (namesF l).length = l.length + (l.map (·.size)).sum := by
      clear hs hl hj hlen
      induction l with
      | nil => rfl
      | cons x r ih =>
        have : namesF (x :: r) = (32 : UInt8) :: x.data.toList ++ namesF r := by simp [namesF, Lib.joinTail]
        rw [this, List.length_append, ih, List.length_cons, List.length_cons, List.map_cons, List.sum_cons, data_length]; omega
    simp only [impl_FormatAnswer.j1]
    rw [if_neg hd, if_pos h6, Option.bind_some, if_pos hlen]
    unfold strings_Join.f
    rw [hj, if_pos (by simp), if_pos (by rw [List.length_append, List.length_singleton]; omega), if_pos (by rw [List.length_append, hn]; simp; omega), Option.bind_some]
  by_cases h4 : c0 = 24
  · rw [if_pos h4]
    have sw : (⟨#[115, 112, 97, 99, 101, 32]⟩ : ByteArray).size = 6 := rfl
    refine Ev.step (fun k => by simp only [impl_FormatAnswer.j1]; rw [if_neg hd, if_neg h6, if_pos h4]) ?_
    refine Ev.congr (f := fun _ => some _) (fun k => ?_) (Ev.now _)
    simp only [dec_impl a6 r6, dec_impl a7 r7, Option.bind_some, ByteArray.size_append, sw, s32]
    rw [if_pos (by omega), if_pos (by omega), if_pos (by omega)]
  rw [if_neg h4]
  by_cases h5 : c0 = 25
  · rw [if_pos h5]
    have sw : (⟨#[108, 111, 103, 32]⟩ : ByteArray).size = 4 := rfl
    refine Ev.step (fun k => by simp only [impl_FormatAnswer.j1]; rw [if_neg hd, if_neg h6, if_neg h4, if_pos h5]) ?_
    refine Ev.congr (f := fun _ => some _) (fun k => ?_) (Ev.now _)
    simp only [dec_impl a8 r8, dec_impl a9 r9, dec_impl a10 r10, dec_impl a11 r11, dec_impl a12 r12, Option.bind_some, ByteArray.size_append, sw, s32]
    rw [if_pos (by omega), if_pos (by omega), if_pos (by omega), if_pos (by omega), if_pos (by omega), if_pos (by omega), if_pos (by omega), if_pos (by omega), if_pos (by omega)]
  rw [if_neg h5, if_neg h6]
  exact Ev.step (f := fun _ => some (⟨#[111, 107]⟩ : ByteArray)) (fun k => by simp only [impl_FormatAnswer.j1]; rw [if_neg hd, if_neg h6, if_neg h4, if_neg h5]) (Ev.now _)
theorem impl_j0 (h0 : a0 = 0) : Ev (fun k => impl_FormatAnswer.j0 k c0 (decide (c0 = 17 ∨ c0 = 15 ∨ c0 = 21)) a0 a1 l a3 a4 a5 a6 a7 a8 a9 a10 a11 a12 a4 a5 a6 a7) (ans c0 a0 a1 l a3 a4 a5 a6 a7 a8 a9 a10 a11 a12) := by
  by_cases h1 : c0 = 17 ∨ c0 = 15 ∨ c0 = 21
  · unfold ans
    rw [if_pos h0, if_pos h1]
    obtain ⟨q, hq, hq2⟩ := qF_some a1
    refine Ev.step (f := fun _ => some ((⟨#[100, 97, 116, 97, 32]⟩ : ByteArray) ++ (qF a1).getD ⟨#[]⟩)) (fun k => ?_) (Ev.now _)
    simp only [impl_FormatAnswer.j0]
    unfold impl_Quote.f
    rw [if_pos (decide_eq_true h1), hq, Option.bind_some, if_pos (by omega)]; rfl
  have hd : ¬ (decide (c0 = 17 ∨ c0 = 15 ∨ c0 = 21) = true) := by rw [decide_eq_true_eq]; exact h1
  by_cases h2 : c0 = 14
  · unfold ans
    have l3 := D_len r3
    rw [if_pos h0, if_neg h1, if_pos h2]
    refine Ev.step (fun k => by simp only [impl_FormatAnswer.j0]; rw [if_neg hd, if_pos h2, dec_impl a3 r3, Option.bind_some, if_pos (by omega)]) (Ev.now _)
  have hj := impl_j1 c0 a0 a1 l a3 a4 a5 a6 a7 a8 a9 a10 a11 a12 r0 r3 r4 r5 r6 r7 r8 r9 r10 r11 r12 hl hs h0 h1 h2
  refine Ev.step (fun k => ?_) hj
  simp only [impl_FormatAnswer.j0]
  rw [if_neg hd, if_neg h2]
  by_cases e1 : c0 = 18
  · rw [if_pos e1, show (c0 == 18) = decide (c0 = 18 ∨ c0 = 19 ∨ c0 = 16) from by simp [e1]]
  rw [if_neg e1]
  by_cases e2 : c0 = 19
  · rw [if_pos e2, show (c0 == 19) = decide (c0 = 18 ∨ c0 = 19 ∨ c0 = 16) from by simp [e2]]
  rw [if_neg e2, show (c0 == 16) = decide (c0 = 18 ∨ c0 = 19 ∨ c0 = 16) from by rw [Bool.eq_iff_iff, beq_iff_eq, decide_eq_true_eq]; omega]
theorem impl_ans (c1 c2 : ByteArray) (c3 c4 c5 : Int) (c6 : ByteArray) : Ev (fun k => impl_FormatAnswer.f k c0 c1 c2 c3 c4 c5 c6 a0 a1 l a3 a4 a5 a6 a7 a8 a9 a10 a11 a12) (ans c0 a0 a1 l a3 a4 a5 a6 a7 a8 a9 a10 a11 a12) := by
  by_cases h0 : a0 = 0
  rotate_left
  · unfold ans
    have l0 := D_len r0
    rw [if_neg h0]
    exact Ev.congr (fun k => by unfold impl_FormatAnswer.f; rw [if_neg h0, dec_impl a0 r0, Option.bind_some, if_pos (by omega)]) (Ev.now _)
  refine Ev.congr (fun k => ?_) (impl_j0 c0 a0 a1 l a3 a4 a5 a6 a7 a8 a9 a10 a11 a12 r0 r3 r4 r5 r6 r7 r8 r9 r10 r11 r12 hl hs h0)
  unfold impl_FormatAnswer.f
  rw [if_pos h0]
  by_cases e1 : c0 = 17
  · rw [if_pos e1, show (c0 == 17) = decide (c0 = 17 ∨ c0 = 15 ∨ c0 = 21) from by simp [e1]]
  rw [if_neg e1]
  by_cases e2 : c0 = 15
  · rw [if_pos e2, show (c0 == 15) = decide (c0 = 17 ∨ c0 = 15 ∨ c0 = 21) from by simp [e2]]
  rw [if_neg e2, show (c0 == 21) = decide (c0 = 17 ∨ c0 = 15 ∨ c0 = 21) from by rw [Bool.eq_iff_iff, beq_iff_eq, decide_eq_true_eq]; omega]
end
theorem eqSS (l : List ByteArray) (hl : l.length ≤ 281474976710656) : Ev (fun k => laws_eqStringS.f k l l) true := by
  refine Ev.congr (f := fun k => laws_eqStringS.l0 k l l 0) (fun k => by unfold laws_eqStringS.f; rw [if_pos rfl]) ?_
  refine eqG_ev (L := laws_eqStringS.l0) l ?_ ?_
  · intro i hi h
    refine Ev.step (fun k => ?_) h
    simp only [laws_eqStringS.l0]
    rw [if_pos (by omega), if_pos (by omega), if_pos (by omega), if_pos trivial, w64 (by omega) (by omega)]; rfl
  · exact Ev.step (f := fun _ => some true) (fun k => by simp only [laws_eqStringS.l0]; rw [if_neg (by omega)]) (Ev.now _)
theorem toSS (l : List ByteArray) (hl : l.length ≤ 1048576) : Ev (fun k => laws_toStringS.f k l) l := by
  have h1 : ((l.length : Int) : Int).toNat = l.length := by omega
  refine Ev.congr (f := fun k => laws_toStringS.l0 k l (List.replicate l.length (⟨#[]⟩ : ByteArray)) 0) (fun k => by unfold laws_toStringS.f; rw [h1, if_pos (by omega), if_pos (by omega)]) ?_
  have := fill_ev (L := fun k x i => laws_toStringS.l0 k l x i) l (fun x => x) ?_ ?_ (List.replicate l.length (⟨#[]⟩ : ByteArray)) (by simp)
  · rw [List.map_id'] at this; exact this
  · intro i x hi hx r h
    refine Ev.step (fun k => ?_) h
    have e1 : wrap64 ((i : Int) + 1) = ((i + 1 : Nat) : Int) := by rw [w64 (by omega) (by omega)]; rfl
    simp only [laws_toStringS.l0]
    rw [if_pos (by omega), if_pos (by omega), if_pos (by omega), rdS l i hi, e1, Int.toNat_natCast]
  · intro x hx
    exact Ev.step (f := fun _ => some x) (fun k => by simp only [laws_toStringS.l0]; rw [if_neg (by omega)]) (Ev.now _)
theorem szSS (l : List ByteArray) (s : Int) (hl : l.length ≤ maxLen) (hy : ∀ y ∈ l, y.size ≤ maxLen) (h0 : 0 ≤ s) (h1 : s ≤ 1048576) : ∃ r, Ev (fun k => laws_szStringS.f k l s) r ∧ (r < 0 ∨ (0 ≤ r ∧ l.length ≤ 1048576 ∧ (l.map (·.size)).sum ≤ 1048576)) := by
  have hm : (maxLen : Int) ≤ 9223372036854775807 := by decide
  have hw : wrap64 (s - (l.length : Int)) = s - (l.length : Int) := w64 (by omega) (by omega)
  by_cases c : s - (l.length : Int) < 0
  · exact ⟨-1, Ev.congr (fun k => by unfold laws_szStringS.f; rw [hw, if_pos c]) (Ev.now _), .inl (by omega)⟩
  obtain ⟨r, hr, hr2⟩ := szG_ev (fun y : ByteArray => y.size) (L := laws_szStringS.l0) l (fun i s hi hs0 hs1 => by
    have hz := hy l[i] (List.getElem_mem _)
    have e1 : wrap64 ((i : Int) + 1) = ((i + 1 : Nat) : Int) := by rw [w64 (by omega) (by omega)]; rfl
    have e2 : wrap64 (s - (l[i].size : Int)) = s - (l[i].size : Int) := w64 (by omega) (by omega)
    by_cases c2 : s - (l[i].size : Int) < 0
    · refine .inl ⟨-1, by omega, Ev.step (f := fun _ => some (-1)) (fun k => ?_) (Ev.now _)⟩
      simp only [laws_szStringS.l0]
      rw [if_pos (by omega), if_pos (by omega), rdS l i hi, e2, if_pos c2]
    · refine .inr ⟨by omega, fun r h => Ev.step (fun k => ?_) h⟩
      simp only [laws_szStringS.l0]
      rw [if_pos (by omega), if_pos (by omega), rdS l i hi, e2, if_neg c2, e1]) (fun s => Ev.step (f := fun _ => some s) (fun k => by simp only [laws_szStringS.l0]; rw [if_neg (by omega)]) (Ev.now _)) (s - (l.length : Int)) (by omega) (by omega)
  refine ⟨r, Ev.congr (fun k => by unfold laws_szStringS.f; rw [hw, if_neg c]) hr, ?_⟩
  rcases hr2 with h | ⟨h, e⟩
  · exact .inl h
  · exact .inr ⟨h, by omega, by omega⟩
end FA
theorem FnExactFormatAnswer (c0 : Int) (c1 c2 : ByteArray) (c3 c4 c5 : Int) (c6 : ByteArray) (a0 : Int) (a1 : ByteArray) (l : List ByteArray) (a3 a4 a5 a6 a7 a8 a9 a10 a11 a12 : Int)
    (_ : (Lit.int .i64 c0).wf = true) (g1 : c1.size ≤ maxLen) (g2 : c2.size ≤ maxLen) (_ : (Lit.int .i64 c3).wf = true) (_ : (Lit.int .i64 c4).wf = true) (_ : (Lit.int .i64 c5).wf = true) (g6 : c6.size ≤ maxLen)
    (r0 : (Lit.int .i64 a0).wf = true) (ga : a1.size ≤ maxLen) (gl : l.length ≤ maxLen ∧ ∀ y ∈ l, y.size ≤ maxLen) (r3 : (Lit.int .i64 a3).wf = true) (r4 : (Lit.int .i64 a4).wf = true) (r5 : (Lit.int .i64 a5).wf = true) (r6 : (Lit.int .i64 a6).wf = true) (r7 : (Lit.int .i64 a7).wf = true) (r8 : (Lit.int .i64 a8).wf = true) (r9 : (Lit.int .i64 a9).wf = true) (r10 : (Lit.int .i64 a10).wf = true) (r11 : (Lit.int .i64 a11).wf = true) (r12 : (Lit.int .i64 a12).wf = true) :
    ∃ k, laws_FnExactFormatAnswer.f k c0 c1 c2 c3 c4 c5 c6 a0 a1 l a3 a4 a5 a6 a7 a8 a9 a10 a11 a12 = some true := by
  have hm : (maxLen : Int) ≤ 9223372036854775807 := by decide
  have sz : ∃ t, laws_szCall.f c0 c1 c2 c3 c4 c5 c6 1048576 = some t ∧ t ≤ 1048576 := by
    unfold laws_szCall.f
    have w1 : wrap64 (1048576 - (c1.size : Int)) = 1048576 - (c1.size : Int) := w64 (by omega) (by omega)
    rw [w1]
    by_cases q1 : 1048576 - (c1.size : Int) < 0
    · exact ⟨-1, by rw [if_pos q1], by omega⟩
    rw [if_neg q1]
    have w2 : wrap64 (1048576 - (c1.size : Int) - (c2.size : Int)) = 1048576 - (c1.size : Int) - (c2.size : Int) := w64 (by omega) (by omega)
    rw [w2]
    by_cases q2 : 1048576 - (c1.size : Int) - (c2.size : Int) < 0
    · exact ⟨-1, by rw [if_pos q2], by omega⟩
    rw [if_neg q2]
    have w3 : wrap64 (1048576 - (c1.size : Int) - (c2.size : Int) - (c6.size : Int)) = 1048576 - (c1.size : Int) - (c2.size : Int) - (c6.size : Int) := w64 (by omega) (by omega)
    rw [w3]
    by_cases q3 : 1048576 - (c1.size : Int) - (c2.size : Int) - (c6.size : Int) < 0
    · exact ⟨-1, by rw [if_pos q3], by omega⟩
    exact ⟨_, by rw [if_neg q3], by omega⟩
  obtain ⟨t, ht, ht2⟩ := sz
  refine Ev.rounds (Ev.congr (fun k => by unfold laws_FnExactFormatAnswer.f; rw [ht, Option.bind_some]) ?_)
  by_cases q : t < 0
  · exact Ev.congr (fun k => if_pos q) (Ev.now true)
  refine Ev.congr (fun k => if_neg q) ?_
  have sa : ∃ u, Ev (fun k => laws_szAnswer.f k a0 a1 l a3 a4 a5 a6 a7 a8 a9 a10 a11 a12 t) u ∧ (u < 0 ∨ (0 ≤ u ∧ l.length ≤ 1048576 ∧ (l.map (·.size)).sum ≤ 1048576)) := by
    have w1 : wrap64 (t - (a1.size : Int)) = t - (a1.size : Int) := w64 (by omega) (by omega)
    by_cases q1 : t - (a1.size : Int) < 0
    · exact ⟨-1, Ev.congr (fun k => by unfold laws_szAnswer.f; rw [w1, if_pos q1]) (Ev.now _), .inl (by omega)⟩
    obtain ⟨r, hr, hr2⟩ := FA.szSS l (t - (a1.size : Int)) gl.1 gl.2 (by omega) (by omega)
    rcases hr2 with h | h
    · exact ⟨-1, Ev.congr (fun k => by unfold laws_szAnswer.f; rw [w1, if_neg q1]) (hr.bind (Ev.congr (fun k => if_pos h) (Ev.now _))), .inl (by omega)⟩
    · exact ⟨r, Ev.congr (fun k => by unfold laws_szAnswer.f; rw [w1, if_neg q1]) (hr.bind (Ev.congr (fun k => if_neg (show ¬ r < 0 by omega)) (Ev.now _))), .inr h⟩
  obtain ⟨u, hu, hu2⟩ := sa
  refine hu.bind ?_
  by_cases q2 : u < 0
  · exact Ev.congr (fun k => if_pos q2) (Ev.now true)
  refine Ev.congr (fun k => if_neg q2) ?_
  obtain ⟨_, hl, hs⟩ := hu2.resolve_left q2
  have ta : Ev (fun k => laws_toAnswer.f k a0 a1 l a3 a4 a5 a6 a7 a8 a9 a10 a11 a12) (a0, a1, l, a3, a4, a5, a6, a7, a8, a9, a10, a11, a12) :=
    Ev.congr (f := fun k => (laws_toStringS.f k l).bind fun t162 => some (a0, a1, t162, a3, a4, a5, a6, a7, a8, a9, a10, a11, a12)) (fun k => rfl) ((FA.toSS l hl).bind (Ev.now _))
  have hsp := FA.spec_ans c0 a0 a1 l a3 a4 a5 a6 a7 a8 a9 a10 a11 a12 (wfi r0) (wfi r3) (wfi r4) (wfi r5) (wfi r6) (wfi r7) (wfi r8) (wfi r9) (wfi r10) (wfi r11) (wfi r12) hl hs c1 c2 c3 c4 c5 c6
  have him := FA.impl_ans c0 a0 a1 l a3 a4 a5 a6 a7 a8 a9 a10 a11 a12 (wfi r0) (wfi r3) (wfi r4) (wfi r5) (wfi r6) (wfi r7) (wfi r8) (wfi r9) (wfi r10) (wfi r11) (wfi r12) hl hs c1 c2 c3 c4 c5 c6
  refine Ev.congr (fun k => by unfold laws_toCall.f; rw [Option.bind_some]) ?_
  refine ta.bind (hsp.bind (ta.bind ?_))
  refine Ev.congr (fun k => by rw [Option.bind_some]) ?_
  refine him.bind ?_
  refine Ev.congr (fun k => if_pos rfl) ?_
  refine ta.bind ?_
  have he : Ev (fun k => laws_eqAnswer.f k a0 a1 l a3 a4 a5 a6 a7 a8 a9 a10 a11 a12 a0 a1 l a3 a4 a5 a6 a7 a8 a9 a10 a11 a12) true := by
    refine Ev.congr (fun k => by unfold laws_eqAnswer.f; rw [if_pos rfl, if_pos rfl]) ((FA.eqSS l (by omega)).bind ?_)
    refine Ev.congr (f := fun _ => some true) (fun k => ?_) (Ev.now _)
    unfold laws_eqStat.f laws_eqTxnState.f
    simp
  exact he.bind (Ev.congr (fun k => if_pos rfl) (Ev.now _))
end Go.Proofs.YtkehfdadplpaeaaDoor.Pure
