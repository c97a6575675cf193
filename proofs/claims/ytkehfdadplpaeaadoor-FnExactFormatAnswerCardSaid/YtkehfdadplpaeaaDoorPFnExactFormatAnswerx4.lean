-- written by a program of this session (wip/src/print2.py)
import Derived.Test.YtkehfdadplpaeaaDoorPFnExactFormatAnswerx0
import Derived.Test.YtkehfdadplpaeaaDoorPFnExactFormatAnswerx3
namespace Go.Proofs.YtkehfdadplpaeaaDoor.PFnExactFormatAnswer
open Go.RowKit Go.Proofs.YtkehfdadplpaeaaDoorW.PrintWords Go.Proofs.YtkehfdadplpaeaaDoorW.PrintLast Go.Proofs.YtkehfdadplpaeaaDoorW.PrintMore
attribute [local go_sem] max2_int min2_int max_two min_two max_three min_three max_four min_four   -- for this text's walks alone
set_option linter.unusedVariables false
set_option linter.unusedSimpArgs false

/-! ### impl_FormatAnswer: function 24 -/
set_option maxRecDepth 20000 in
mutual
def impl_FormatAnswer.j0 : Nat → Int → Bool → Int → ByteArray → List ByteArray → Int → Int → Int → Int → Int → Int → Int → Int → Int → Int → Int → Int → Int → Int → Option (ByteArray)
  | 0, _, _, _, _, _, _, _, _, _, _, _, _, _, _, _, _, _, _, _ => none
  | k + 1, x17, x18, x176000, x176001, x176002, x176003, x176004, x176005, x176006, x176007, x176008, x176009, x176010, x176011, x176012, x178000, x178001, x178002, x178003 => if x18 = true then ((impl_Quote.f x176001).bind fun t178 => (if 5 + t178.size ≤ 9223372036854775807 then (some ((⟨#[100, 97, 116, 97, 32]⟩ : ByteArray) ++ t178)) else (none))) else (if x17 = 14 then ((impl_dec.f x176003).bind fun t179 => (if 7 + t179.size ≤ 9223372036854775807 then (some ((⟨#[104, 97, 110, 100, 108, 101, 32]⟩ : ByteArray) ++ t179)) else (none))) else (if x17 = 18 then (impl_FormatAnswer.j1 k x17 (x17 == 18) x176000 x176001 x176002 x176003 x176004 x176005 x176006 x176007 x176008 x176009 x176010 x176011 x176012 x178000 x178001 x178002 x178003) else (if x17 = 19 then (impl_FormatAnswer.j1 k x17 (x17 == 19) x176000 x176001 x176002 x176003 x176004 x176005 x176006 x176007 x176008 x176009 x176010 x176011 x176012 x178000 x178001 x178002 x178003) else (impl_FormatAnswer.j1 k x17 (x17 == 16) x176000 x176001 x176002 x176003 x176004 x176005 x176006 x176007 x176008 x176009 x176010 x176011 x176012 x178000 x178001 x178002 x178003))))
def impl_FormatAnswer.j1 : Nat → Int → Bool → Int → ByteArray → List ByteArray → Int → Int → Int → Int → Int → Int → Int → Int → Int → Int → Int → Int → Int → Int → Option (ByteArray)
  | 0, _, _, _, _, _, _, _, _, _, _, _, _, _, _, _, _, _, _, _ => none
  | k + 1, x17, x34, x176000, x176001, x176002, x176003, x176004, x176005, x176006, x176007, x176008, x176009, x176010, x176011, x176012, x178000, x178001, x178002, x178003 => if x34 = true then ((impl_dec.f x178000).bind fun t180 => (if 5 + t180.size ≤ 9223372036854775807 then (if ((⟨#[115, 116, 97, 116, 32]⟩ : ByteArray) ++ t180).size + 1 ≤ 9223372036854775807 then ((impl_dec.f x178001).bind fun t181 => (if (((⟨#[115, 116, 97, 116, 32]⟩ : ByteArray) ++ t180) ++ (⟨#[32]⟩ : ByteArray)).size + t181.size ≤ 9223372036854775807 then (if ((((⟨#[115, 116, 97, 116, 32]⟩ : ByteArray) ++ t180) ++ (⟨#[32]⟩ : ByteArray)) ++ t181).size + 1 ≤ 9223372036854775807 then ((impl_dec.f x178002).bind fun t182 => (if (((((⟨#[115, 116, 97, 116, 32]⟩ : ByteArray) ++ t180) ++ (⟨#[32]⟩ : ByteArray)) ++ t181) ++ (⟨#[32]⟩ : ByteArray)).size + t182.size ≤ 9223372036854775807 then (if ((((((⟨#[115, 116, 97, 116, 32]⟩ : ByteArray) ++ t180) ++ (⟨#[32]⟩ : ByteArray)) ++ t181) ++ (⟨#[32]⟩ : ByteArray)) ++ t182).size + 1 ≤ 9223372036854775807 then ((impl_dec.f x178003).bind fun t183 => (if (((((((⟨#[115, 116, 97, 116, 32]⟩ : ByteArray) ++ t180) ++ (⟨#[32]⟩ : ByteArray)) ++ t181) ++ (⟨#[32]⟩ : ByteArray)) ++ t182) ++ (⟨#[32]⟩ : ByteArray)).size + t183.size ≤ 9223372036854775807 then (some ((((((((⟨#[115, 116, 97, 116, 32]⟩ : ByteArray) ++ t180) ++ (⟨#[32]⟩ : ByteArray)) ++ t181) ++ (⟨#[32]⟩ : ByteArray)) ++ t182) ++ (⟨#[32]⟩ : ByteArray)) ++ t183)) else (none))) else (none)) else (none))) else (none)) else (none))) else (none)) else (none))) else (if x17 = 20 then ((some (([(⟨#[110, 97, 109, 101, 115]⟩ : ByteArray)] : List ByteArray) : List ByteArray)).bind fun y184 => (if y184.length + x176002.length < 8796093022208 then ((strings_Join.f (y184 ++ x176002) (⟨#[32]⟩ : ByteArray)).bind fun t190 => (some t190)) else (none))) else (if x17 = 24 then ((impl_dec.f x178002).bind fun t191 => (if 6 + t191.size ≤ 9223372036854775807 then (if ((⟨#[115, 112, 97, 99, 101, 32]⟩ : ByteArray) ++ t191).size + 1 ≤ 9223372036854775807 then ((impl_dec.f x178003).bind fun t192 => (if (((⟨#[115, 112, 97, 99, 101, 32]⟩ : ByteArray) ++ t191) ++ (⟨#[32]⟩ : ByteArray)).size + t192.size ≤ 9223372036854775807 then (some ((((⟨#[115, 112, 97, 99, 101, 32]⟩ : ByteArray) ++ t191) ++ (⟨#[32]⟩ : ByteArray)) ++ t192)) else (none))) else (none)) else (none))) else (if x17 = 25 then ((impl_dec.f x176008).bind fun t194 => (if 4 + t194.size ≤ 9223372036854775807 then (if ((⟨#[108, 111, 103, 32]⟩ : ByteArray) ++ t194).size + 1 ≤ 9223372036854775807 then ((impl_dec.f x176009).bind fun t195 => (if (((⟨#[108, 111, 103, 32]⟩ : ByteArray) ++ t194) ++ (⟨#[32]⟩ : ByteArray)).size + t195.size ≤ 9223372036854775807 then (if ((((⟨#[108, 111, 103, 32]⟩ : ByteArray) ++ t194) ++ (⟨#[32]⟩ : ByteArray)) ++ t195).size + 1 ≤ 9223372036854775807 then ((impl_dec.f x176010).bind fun t196 => (if (((((⟨#[108, 111, 103, 32]⟩ : ByteArray) ++ t194) ++ (⟨#[32]⟩ : ByteArray)) ++ t195) ++ (⟨#[32]⟩ : ByteArray)).size + t196.size ≤ 9223372036854775807 then (if ((((((⟨#[108, 111, 103, 32]⟩ : ByteArray) ++ t194) ++ (⟨#[32]⟩ : ByteArray)) ++ t195) ++ (⟨#[32]⟩ : ByteArray)) ++ t196).size + 1 ≤ 9223372036854775807 then ((impl_dec.f x176011).bind fun t197 => (if (((((((⟨#[108, 111, 103, 32]⟩ : ByteArray) ++ t194) ++ (⟨#[32]⟩ : ByteArray)) ++ t195) ++ (⟨#[32]⟩ : ByteArray)) ++ t196) ++ (⟨#[32]⟩ : ByteArray)).size + t197.size ≤ 9223372036854775807 then (if ((((((((⟨#[108, 111, 103, 32]⟩ : ByteArray) ++ t194) ++ (⟨#[32]⟩ : ByteArray)) ++ t195) ++ (⟨#[32]⟩ : ByteArray)) ++ t196) ++ (⟨#[32]⟩ : ByteArray)) ++ t197).size + 1 ≤ 9223372036854775807 then ((impl_dec.f x176012).bind fun t198 => (if (((((((((⟨#[108, 111, 103, 32]⟩ : ByteArray) ++ t194) ++ (⟨#[32]⟩ : ByteArray)) ++ t195) ++ (⟨#[32]⟩ : ByteArray)) ++ t196) ++ (⟨#[32]⟩ : ByteArray)) ++ t197) ++ (⟨#[32]⟩ : ByteArray)).size + t198.size ≤ 9223372036854775807 then (some ((((((((((⟨#[108, 111, 103, 32]⟩ : ByteArray) ++ t194) ++ (⟨#[32]⟩ : ByteArray)) ++ t195) ++ (⟨#[32]⟩ : ByteArray)) ++ t196) ++ (⟨#[32]⟩ : ByteArray)) ++ t197) ++ (⟨#[32]⟩ : ByteArray)) ++ t198)) else (none))) else (none)) else (none))) else (none)) else (none))) else (none)) else (none))) else (none)) else (none))) else (some (⟨#[111, 107]⟩ : ByteArray)))))
end
def impl_FormatAnswer.f (k : Nat) (a0_0 : Int) (a0_1 : ByteArray) (a0_2 : ByteArray) (a0_3 : Int) (a0_4 : Int) (a0_5 : Int) (a0_6 : ByteArray) (a1_0 : Int) (a1_1 : ByteArray) (l1_2 : List ByteArray) (a1_3 : Int) (a1_4 : Int) (a1_5 : Int) (a1_6 : Int) (a1_7 : Int) (a1_8 : Int) (a1_9 : Int) (a1_10 : Int) (a1_11 : Int) (a1_12 : Int) : Option (ByteArray) := if a1_0 = 0 then (if a0_0 = 17 then (impl_FormatAnswer.j0 k a0_0 (a0_0 == 17) a1_0 a1_1 l1_2 a1_3 a1_4 a1_5 a1_6 a1_7 a1_8 a1_9 a1_10 a1_11 a1_12 a1_4 a1_5 a1_6 a1_7) else (if a0_0 = 15 then (impl_FormatAnswer.j0 k a0_0 (a0_0 == 15) a1_0 a1_1 l1_2 a1_3 a1_4 a1_5 a1_6 a1_7 a1_8 a1_9 a1_10 a1_11 a1_12 a1_4 a1_5 a1_6 a1_7) else (impl_FormatAnswer.j0 k a0_0 (a0_0 == 21) a1_0 a1_1 l1_2 a1_3 a1_4 a1_5 a1_6 a1_7 a1_8 a1_9 a1_10 a1_11 a1_12 a1_4 a1_5 a1_6 a1_7))) else ((impl_dec.f a1_0).bind fun t176 => (if 6 + t176.size ≤ 9223372036854775807 then (some ((⟨#[101, 114, 114, 111, 114, 32]⟩ : ByteArray) ++ t176)) else (none)))
theorem impl_FormatAnswer.mono_l : ∀ k, (∀ y0 y1 y2 y3 y4 y5 y6 y7 y8 y9 y10 y11 y12 y13 y14 y15 y16 y17 y18, LeO (impl_FormatAnswer.j0 k y0 y1 y2 y3 y4 y5 y6 y7 y8 y9 y10 y11 y12 y13 y14 y15 y16 y17 y18) (impl_FormatAnswer.j0 (k + 1) y0 y1 y2 y3 y4 y5 y6 y7 y8 y9 y10 y11 y12 y13 y14 y15 y16 y17 y18)) ∧ (∀ y0 y1 y2 y3 y4 y5 y6 y7 y8 y9 y10 y11 y12 y13 y14 y15 y16 y17 y18, LeO (impl_FormatAnswer.j1 k y0 y1 y2 y3 y4 y5 y6 y7 y8 y9 y10 y11 y12 y13 y14 y15 y16 y17 y18) (impl_FormatAnswer.j1 (k + 1) y0 y1 y2 y3 y4 y5 y6 y7 y8 y9 y10 y11 y12 y13 y14 y15 y16 y17 y18))
  | 0 => ⟨fun _ _ _ _ _ _ _ _ _ _ _ _ _ _ _ _ _ _ _ r h => by simp [impl_FormatAnswer.j0] at h, fun _ _ _ _ _ _ _ _ _ _ _ _ _ _ _ _ _ _ _ r h => by simp [impl_FormatAnswer.j1] at h⟩
  | k + 1 => by
    obtain ⟨ih0, ih1⟩ := impl_FormatAnswer.mono_l k
    refine ⟨?_, ?_⟩
    · intro y0 y1 y2 y3 y4 y5 y6 y7 y8 y9 y10 y11 y12 y13 y14 y15 y16 y17 y18
      unfold impl_FormatAnswer.j0
      repeat' first
      | (with_reducible exact ih0 _ _ _ _ _ _ _ _ _ _ _ _ _ _ _ _ _ _ _)
      | (with_reducible exact ih1 _ _ _ _ _ _ _ _ _ _ _ _ _ _ _ _ _ _ _)
      | (with_reducible exact LeO.refl _)
      | (with_reducible exact LeO.none _)
      | (with_reducible refine LeO.ite ?_ ?_)
      | (with_reducible refine LeO.bind ?_ (fun _ => ?_))
      | exact ih0 _ _ _ _ _ _ _ _ _ _ _ _ _ _ _ _ _ _ _
      | exact ih1 _ _ _ _ _ _ _ _ _ _ _ _ _ _ _ _ _ _ _
      | exact LeO.none _
      | refine LeO.ite ?_ ?_
      | refine LeO.bind ?_ (fun _ => ?_)
    · intro y0 y1 y2 y3 y4 y5 y6 y7 y8 y9 y10 y11 y12 y13 y14 y15 y16 y17 y18
      unfold impl_FormatAnswer.j1
      repeat' first
      | (with_reducible exact ih0 _ _ _ _ _ _ _ _ _ _ _ _ _ _ _ _ _ _ _)
      | (with_reducible exact ih1 _ _ _ _ _ _ _ _ _ _ _ _ _ _ _ _ _ _ _)
      | (with_reducible exact LeO.refl _)
      | (with_reducible exact LeO.none _)
      | (with_reducible refine LeO.ite ?_ ?_)
      | (with_reducible refine LeO.bind ?_ (fun _ => ?_))
      | exact ih0 _ _ _ _ _ _ _ _ _ _ _ _ _ _ _ _ _ _ _
      | exact ih1 _ _ _ _ _ _ _ _ _ _ _ _ _ _ _ _ _ _ _
      | exact LeO.none _
      | refine LeO.ite ?_ ?_
      | refine LeO.bind ?_ (fun _ => ?_)
theorem impl_FormatAnswer.mono : ∀ a0 a1 a2 a3 a4 a5 a6 a7 a8 a9 a10 a11 a12 a13 a14 a15 a16 a17 a18 a19 k, LeO (impl_FormatAnswer.f k a0 a1 a2 a3 a4 a5 a6 a7 a8 a9 a10 a11 a12 a13 a14 a15 a16 a17 a18 a19) (impl_FormatAnswer.f (k + 1) a0 a1 a2 a3 a4 a5 a6 a7 a8 a9 a10 a11 a12 a13 a14 a15 a16 a17 a18 a19) := by
  intro a0 a1 a2 a3 a4 a5 a6 a7 a8 a9 a10 a11 a12 a13 a14 a15 a16 a17 a18 a19 k
  obtain ⟨ih0, ih1⟩ := impl_FormatAnswer.mono_l k
  unfold impl_FormatAnswer.f
  repeat' first
      | (with_reducible exact ih0 _ _ _ _ _ _ _ _ _ _ _ _ _ _ _ _ _ _ _)
      | (with_reducible exact ih1 _ _ _ _ _ _ _ _ _ _ _ _ _ _ _ _ _ _ _)
      | (with_reducible exact LeO.refl _)
      | (with_reducible exact LeO.none _)
      | (with_reducible refine LeO.ite ?_ ?_)
      | (with_reducible refine LeO.bind ?_ (fun _ => ?_))
      | exact ih0 _ _ _ _ _ _ _ _ _ _ _ _ _ _ _ _ _ _ _
      | exact ih1 _ _ _ _ _ _ _ _ _ _ _ _ _ _ _ _ _ _ _
      | exact LeO.none _
      | refine LeO.ite ?_ ?_
      | refine LeO.bind ?_ (fun _ => ?_)
def impl_FormatAnswer.T14 : Bool × List (List Nat × List Nat) := (true, [([], []), ([0], [0]), ([1], [1]), ([2], [2]), ([3], [3]), ([], []), ([5], [5]), ([6, 2], [6]), ([4, 7], [4, 7]), ([8], [8]), ([], []), ([10], [10]), ([11, 7], [11]), ([9, 12], [9, 12]), ([13], [13]), ([], []), ([15], [15]), ([16, 12], [16]), ([14, 17], [14, 17]), ([18, 17, 0, 1, 2, 3, 4, 5, 6, 7, 8, 9, 10, 11, 12, 13, 14, 15, 16, 17, 18], [18])])
def impl_FormatAnswer.B14 : List Nat := [0, 1, 3, 7, 15, 0, 32, 103, 255, 511, 0, 1024, 3303, 8191, 16383, 0, 32768, 105703, 262143, 524287]
theorem impl_FormatAnswer.tab14 : rtab .any (opsOf Tryd.f24 14) = impl_FormatAnswer.T14 := by kernel_rfl
theorem impl_FormatAnswer.bits14 : waitsOk impl_FormatAnswer.T14.2 impl_FormatAnswer.B14 = true := by kernel_rfl
def impl_FormatAnswer.T18 : Bool × List (List Nat × List Nat) := (true, [([], []), ([0], [0]), ([1], [1]), ([2], [2]), ([3], [3]), ([], []), ([5], [5]), ([6, 2], [6]), ([4, 7], [4, 7]), ([8, 7, 0, 1, 2, 3, 4, 5, 6, 7, 8], [8])])
def impl_FormatAnswer.B18 : List Nat := [0, 1, 3, 7, 15, 0, 32, 103, 255, 511]
theorem impl_FormatAnswer.tab18 : rtab .any (opsOf Tryd.f24 18) = impl_FormatAnswer.T18 := by kernel_rfl
theorem impl_FormatAnswer.bits18 : waitsOk impl_FormatAnswer.T18.2 impl_FormatAnswer.B18 = true := by kernel_rfl
def impl_FormatAnswer.T21 : Bool × List (List Nat × List Nat) := (true, [([], []), ([0], [0]), ([1], [1]), ([2], [2]), ([3], [3]), ([], []), ([5], [5]), ([6, 2], [6]), ([4, 7], [4, 7]), ([8], [8]), ([], []), ([10], [10]), ([11, 7], [11]), ([9, 12], [9, 12]), ([13], [13]), ([], []), ([15], [15]), ([16, 12], [16]), ([14, 17], [14, 17]), ([18], [18]), ([], []), ([20], [20]), ([21, 17], [21]), ([19, 22], [19, 22]), ([23, 22, 0, 1, 2, 3, 4, 5, 6, 7, 8, 9, 10, 11, 12, 13, 14, 15, 16, 17, 18, 19, 20, 21, 22, 23], [23])])
def impl_FormatAnswer.B21 : List Nat := [0, 1, 3, 7, 15, 0, 32, 103, 255, 511, 0, 1024, 3303, 8191, 16383, 0, 32768, 105703, 262143, 524287, 0, 1048576, 3382503, 8388607, 16777215]
theorem impl_FormatAnswer.tab21 : rtab .any (opsOf Tryd.f24 21) = impl_FormatAnswer.T21 := by kernel_rfl
theorem impl_FormatAnswer.bits21 : waitsOk impl_FormatAnswer.T21.2 impl_FormatAnswer.B21 = true := by kernel_rfl
set_option maxHeartbeats 8000000 in
set_option maxRecDepth 100000 in
theorem impl_FormatAnswer.calls (k : Nat) (a0_0 : Int) (a0_1 : ByteArray) (a0_2 : ByteArray) (a0_3 : Int) (a0_4 : Int) (a0_5 : Int) (a0_6 : ByteArray) (a1_0 : Int) (a1_1 : ByteArray) (A1_2 : Option Addr) (c1_2 : Nat) (l1_2 : List ByteArray) (a1_3 : Int) (a1_4 : Int) (a1_5 : Int) (a1_6 : Int) (a1_7 : Int) (a1_8 : Int) (a1_9 : Int) (a1_10 : Int) (a1_11 : Int) (a1_12 : Int) (r : ByteArray) (w : World) (hr1_2 : Kd.C Kd.string w A1_2 l1_2.length l1_2) (hc1_2 : l1_2.length ≤ c1_2) (h : impl_FormatAnswer.f k a0_0 a0_1 a0_2 a0_3 a0_4 a0_5 a0_6 a1_0 a1_1 l1_2 a1_3 a1_4 a1_5 a1_6 a1_7 a1_8 a1_9 a1_10 a1_11 a1_12 = some r) (hG0 : GlobT w) :
    Calls Tryd.prog 24 #[.agg #[.int .i64 a0_0, .string a0_1, .string a0_2, .int .i64 a0_3, .int .i64 a0_4, .int .i64 a0_5, .string a0_6], .agg #[.int .i64 a1_0, .string a1_1, .slice A1_2 l1_2.length c1_2, .int .i64 a1_3, .int .i64 a1_4, .int .i64 a1_5, .int .i64 a1_6, .int .i64 a1_7, .int .i64 a1_8, .int .i64 a1_9, .int .i64 a1_10, .int .i64 a1_11, .int .i64 a1_12]] w fun e w' => e = .returned (.string r) ∧ Below w.heap.size w w' := by
  have hu24 := Tryd.underlying24
  have hu60 := Tryd.underlying60
  have hu57 := Tryd.underlying57
  have hu58 := Tryd.underlying58
  have HR1_2 := Aside0.mk hr1_2
  have HC1_2 := Aside0.mk hc1_2
  clear hr1_2 hc1_2
  have HB := Aside0.mk (Below.refl w.heap.size w)
  have H : (if a1_0 = 0 then (if a0_0 = 17 then (impl_FormatAnswer.j0 k a0_0 (a0_0 == 17) a1_0 a1_1 l1_2 a1_3 a1_4 a1_5 a1_6 a1_7 a1_8 a1_9 a1_10 a1_11 a1_12 a1_4 a1_5 a1_6 a1_7) else (if a0_0 = 15 then (impl_FormatAnswer.j0 k a0_0 (a0_0 == 15) a1_0 a1_1 l1_2 a1_3 a1_4 a1_5 a1_6 a1_7 a1_8 a1_9 a1_10 a1_11 a1_12 a1_4 a1_5 a1_6 a1_7) else (impl_FormatAnswer.j0 k a0_0 (a0_0 == 21) a1_0 a1_1 l1_2 a1_3 a1_4 a1_5 a1_6 a1_7 a1_8 a1_9 a1_10 a1_11 a1_12 a1_4 a1_5 a1_6 a1_7))) else ((impl_dec.f a1_0).bind fun t176 => (if 6 + t176.size ≤ 9223372036854775807 then (some ((⟨#[101, 114, 114, 111, 114, 32]⟩ : ByteArray) ++ t176)) else (none)))) = some r := h
  clear h
  by_cases c3 : a1_0 = 0
  · rw [if_pos c3] at H
    have c3b0 : (a1_0 == 0) = true := beq_iff_eq.mpr c3
    have c3b1 : (a1_0 != 0) = false := bne_eq_false_iff_eq.mpr c3
    clear c3
    have HC4 := Aside0.mk H
    clear H
    go_enter Tryd.func24, Tryd.ntmps24
    go_upto_if 18 with (first | ((with_reducible refine gate_dst (N := 2) rfl ?_); refine box_event ?hg (N := 2) ?hd (cs := #[.int .i64 a0_0, .string a0_1, .string a0_2, .int .i64 a0_3, .int .i64 a0_4, .int .i64 a0_5, .string a0_6]) (t := 24) ?hr ?_; (case hd => rfl); (case hg => rfl); (case hr => first | (go_simp; done) | (go_simp; rfl)); intro gb174 hg w5 hbox hb; have n0_ := Aside0.mk (below_step (by repeat (first | (with_reducible first | exact HB.out | apply below_alloc | apply pw_below_drewN | apply below_drew1) | exact HB.out)) hb); have n1_ := Aside0.mk (hbox); have n2_ := Aside0.mk ((by rw [hg]; exact (below_size (by repeat (first | (with_reducible first | exact HB.out | apply below_alloc | apply pw_below_drewN | apply below_drew1) | exact HB.out))) : w.heap.size ≤ gb174)); have n3_ := Aside0.mk ((by rw [hg]; exact (below_size (by repeat (first | (with_reducible first | exact HB.out | apply below_alloc | apply pw_below_drewN | apply below_drew1) | exact HB.out))) : w.heap.size ≤ gb174)); clear HB; have HB := n0_; have BK174 := n1_; have GW174 := n2_; have GE174 := n3_; clear n0_ n1_ n2_ n3_; clear hb hbox hg) | ((with_reducible refine gate_dst (N := 3) rfl ?_); refine box_event ?hg (N := 3) ?hd (cs := #[.int .i64 a1_0, .string a1_1, .slice A1_2 l1_2.length c1_2, .int .i64 a1_3, .int .i64 a1_4, .int .i64 a1_5, .int .i64 a1_6, .int .i64 a1_7, .int .i64 a1_8, .int .i64 a1_9, .int .i64 a1_10, .int .i64 a1_11, .int .i64 a1_12]) (t := 60) ?hr ?_; (case hd => rfl); (case hg => rfl); (case hr => first | (go_simp; done) | (go_simp; rfl)); intro gb175 hg w6 hbox hb; have n0_ := Aside0.mk (blk_below (g := gb174) (o := .cells #[.int .i64 a0_0, .string a0_1, .string a0_2, .int .i64 a0_3, .int .i64 a0_4, .int .i64 a0_5, .string a0_6] 24 (0, 0)) (by (with_reducible repeat (first | refine blk_drewN ?_ _ | refine blk_drew ?_ | refine blk_alloc ?_ _)); exact BK174.out) hb); have n1_ := Aside0.mk (below_step (by repeat (first | (with_reducible first | exact HB.out | apply below_alloc | apply pw_below_drewN | apply below_drew1 | refine below_set ?_ GE174.out) | exact HB.out)) hb); have n2_ := Aside0.mk (hbox); have n3_ := Aside0.mk ((by rw [hg]; exact (below_size (by repeat (first | (with_reducible first | exact HB.out | apply below_alloc | apply pw_below_drewN | apply below_drew1 | refine below_set ?_ GE174.out) | exact HB.out))) : w.heap.size ≤ gb175)); have n4_ := Aside0.mk ((by rw [hg]; exact (below_size (by repeat (first | (with_reducible first | exact HB.out | apply below_alloc | apply pw_below_drewN | apply below_drew1 | refine below_set ?_ GE174.out) | exact HB.out))) : w.heap.size ≤ gb175)); have n5_ := Aside0.mk ((by rw [hg]; exact Nat.ne_of_lt (blk_lt (g := gb174) (o := .cells #[.int .i64 a0_0, .string a0_1, .string a0_2, .int .i64 a0_3, .int .i64 a0_4, .int .i64 a0_5, .string a0_6] 24 (0, 0)) (by (with_reducible repeat (first | refine blk_drewN ?_ _ | refine blk_drew ?_ | refine blk_alloc ?_ _)); exact BK174.out)) : gb174 ≠ gb175)); have n6_ := Aside0.mk ((by rw [hg]; exact Nat.ne_of_gt (blk_lt (g := gb174) (o := .cells #[.int .i64 a0_0, .string a0_1, .string a0_2, .int .i64 a0_3, .int .i64 a0_4, .int .i64 a0_5, .string a0_6] 24 (0, 0)) (by (with_reducible repeat (first | refine blk_drewN ?_ _ | refine blk_drew ?_ | refine blk_alloc ?_ _)); exact BK174.out)) : gb175 ≠ gb174)); clear BK174; clear HB; have BK174 := n0_; have HB := n1_; have BK175 := n2_; have GW175 := n3_; have GE175 := n4_; have NB174_175 := n5_; have NB175_174 := n6_; clear n0_ n1_ n2_ n3_ n4_ n5_ n6_; clear hb hbox hg; have hnb7 := NB175_174.out; have hnc7 := NB174_175.out; have hcz8_0 : w6.cell? ⟨gb175, 0, none⟩ = some (.int .i64 a1_0) := (blk_cell BK175.out 0).trans rfl; have hcz8_1 : w6.cell? ⟨gb175, 1, none⟩ = some (.string a1_1) := (blk_cell BK175.out 1).trans rfl; have hcz8_2 : w6.cell? ⟨gb175, 2, none⟩ = some (.slice A1_2 l1_2.length c1_2) := (blk_cell BK175.out 2).trans rfl; have hcz8_3 : w6.cell? ⟨gb175, 3, none⟩ = some (.int .i64 a1_3) := (blk_cell BK175.out 3).trans rfl; have hcz8_4 : w6.cell? ⟨gb175, 4, none⟩ = some (.int .i64 a1_4) := (blk_cell BK175.out 4).trans rfl; have hcz8_5 : w6.cell? ⟨gb175, 5, none⟩ = some (.int .i64 a1_5) := (blk_cell BK175.out 5).trans rfl; have hcz8_6 : w6.cell? ⟨gb175, 6, none⟩ = some (.int .i64 a1_6) := (blk_cell BK175.out 6).trans rfl; have hcz8_7 : w6.cell? ⟨gb175, 7, none⟩ = some (.int .i64 a1_7) := (blk_cell BK175.out 7).trans rfl; have hcz8_8 : w6.cell? ⟨gb175, 8, none⟩ = some (.int .i64 a1_8) := (blk_cell BK175.out 8).trans rfl; have hcz8_9 : w6.cell? ⟨gb175, 9, none⟩ = some (.int .i64 a1_9) := (blk_cell BK175.out 9).trans rfl; have hcz8_10 : w6.cell? ⟨gb175, 10, none⟩ = some (.int .i64 a1_10) := (blk_cell BK175.out 10).trans rfl; have hcz8_11 : w6.cell? ⟨gb175, 11, none⟩ = some (.int .i64 a1_11) := (blk_cell BK175.out 11).trans rfl; have hcz8_12 : w6.cell? ⟨gb175, 12, none⟩ = some (.int .i64 a1_12) := (blk_cell BK175.out 12).trans rfl; have hfz8_0 := blk_frozen BK175.out 0; have hfz8_1 := blk_frozen BK175.out 1; have hfz8_2 := blk_frozen BK175.out 2; have hfz8_3 := blk_frozen BK175.out 3; have hfz8_4 := blk_frozen BK175.out 4; have hfz8_5 := blk_frozen BK175.out 5; have hfz8_6 := blk_frozen BK175.out 6; have hfz8_7 := blk_frozen BK175.out 7; have hfz8_8 := blk_frozen BK175.out 8; have hfz8_9 := blk_frozen BK175.out 9; have hfz8_10 := blk_frozen BK175.out 10; have hfz8_11 := blk_frozen BK175.out 11; have hfz8_12 := blk_frozen BK175.out 12) | ((with_reducible refine gate_dst (N := 5) rfl ?_); refine box_event ?hg (N := 5) ?hd (cs := #[.int .i64 0, .int .i64 0, .int .i64 0, .int .i64 0]) (t := 57) ?hr ?_; (case hd => rfl); (case hg => rfl); (case hr => first | (go_simp; done) | (go_simp; rfl)); intro gb177 hg w9 hbox hb; have n0_ := Aside0.mk (blk_below (g := gb174) (o := .cells #[.int .i64 a0_0, .string a0_1, .string a0_2, .int .i64 a0_3, .int .i64 a0_4, .int .i64 a0_5, .string a0_6] 24 (0, 0)) (by (with_reducible repeat (first | refine blk_drewN ?_ _ | refine blk_drew ?_ | refine blk_alloc ?_ _)); exact BK174.out) hb); have n1_ := Aside0.mk (blk_below (g := gb175) (o := .cells #[.int .i64 a1_0, .string a1_1, .slice A1_2 l1_2.length c1_2, .int .i64 a1_3, .int .i64 a1_4, .int .i64 a1_5, .int .i64 a1_6, .int .i64 a1_7, .int .i64 a1_8, .int .i64 a1_9, .int .i64 a1_10, .int .i64 a1_11, .int .i64 a1_12] 60 (0, 0)) (by (with_reducible repeat (first | refine blk_drewN ?_ _ | refine blk_drew ?_ | refine blk_alloc ?_ _)); exact BK175.out) hb); have n2_ := Aside0.mk (below_step (by repeat (first | (with_reducible first | exact HB.out | apply below_alloc | apply pw_below_drewN | apply below_drew1 | refine below_set ?_ GE174.out | refine below_set ?_ GE175.out) | exact HB.out)) hb); have n3_ := Aside0.mk (hbox); have n4_ := Aside0.mk ((by rw [hg]; exact (below_size (by repeat (first | (with_reducible first | exact HB.out | apply below_alloc | apply pw_below_drewN | apply below_drew1 | refine below_set ?_ GE174.out | refine below_set ?_ GE175.out) | exact HB.out))) : w.heap.size ≤ gb177)); have n5_ := Aside0.mk ((by rw [hg]; exact (below_size (by repeat (first | (with_reducible first | exact HB.out | apply below_alloc | apply pw_below_drewN | apply below_drew1 | refine below_set ?_ GE174.out | refine below_set ?_ GE175.out) | exact HB.out))) : w.heap.size ≤ gb177)); have n6_ := Aside0.mk ((by rw [hg]; exact Nat.ne_of_lt (blk_lt (g := gb174) (o := .cells #[.int .i64 a0_0, .string a0_1, .string a0_2, .int .i64 a0_3, .int .i64 a0_4, .int .i64 a0_5, .string a0_6] 24 (0, 0)) (by (with_reducible repeat (first | refine blk_drewN ?_ _ | refine blk_drew ?_ | refine blk_alloc ?_ _)); exact BK174.out)) : gb174 ≠ gb177)); have n7_ := Aside0.mk ((by rw [hg]; exact Nat.ne_of_gt (blk_lt (g := gb174) (o := .cells #[.int .i64 a0_0, .string a0_1, .string a0_2, .int .i64 a0_3, .int .i64 a0_4, .int .i64 a0_5, .string a0_6] 24 (0, 0)) (by (with_reducible repeat (first | refine blk_drewN ?_ _ | refine blk_drew ?_ | refine blk_alloc ?_ _)); exact BK174.out)) : gb177 ≠ gb174)); have n8_ := Aside0.mk ((by rw [hg]; exact Nat.ne_of_lt (blk_lt (g := gb175) (o := .cells #[.int .i64 a1_0, .string a1_1, .slice A1_2 l1_2.length c1_2, .int .i64 a1_3, .int .i64 a1_4, .int .i64 a1_5, .int .i64 a1_6, .int .i64 a1_7, .int .i64 a1_8, .int .i64 a1_9, .int .i64 a1_10, .int .i64 a1_11, .int .i64 a1_12] 60 (0, 0)) (by (with_reducible repeat (first | refine blk_drewN ?_ _ | refine blk_drew ?_ | refine blk_alloc ?_ _)); exact BK175.out)) : gb175 ≠ gb177)); have n9_ := Aside0.mk ((by rw [hg]; exact Nat.ne_of_gt (blk_lt (g := gb175) (o := .cells #[.int .i64 a1_0, .string a1_1, .slice A1_2 l1_2.length c1_2, .int .i64 a1_3, .int .i64 a1_4, .int .i64 a1_5, .int .i64 a1_6, .int .i64 a1_7, .int .i64 a1_8, .int .i64 a1_9, .int .i64 a1_10, .int .i64 a1_11, .int .i64 a1_12] 60 (0, 0)) (by (with_reducible repeat (first | refine blk_drewN ?_ _ | refine blk_drew ?_ | refine blk_alloc ?_ _)); exact BK175.out)) : gb177 ≠ gb175)); clear BK174; clear BK175; clear HB; have BK174 := n0_; have BK175 := n1_; have HB := n2_; have BK177 := n3_; have GW177 := n4_; have GE177 := n5_; have NB174_177 := n6_; have NB177_174 := n7_; have NB175_177 := n8_; have NB177_175 := n9_; clear n0_ n1_ n2_ n3_ n4_ n5_ n6_ n7_ n8_ n9_; clear hb hbox hg; have hnb10 := NB177_174.out; have hnc10 := NB174_177.out; have hnb11 := NB177_175.out; have hnc11 := NB175_177.out; have hcz12_0 : w9.cell? ⟨gb177, 0, none⟩ = some (.int .i64 0) := (blk_cell BK177.out 0).trans rfl; have hcz12_1 : w9.cell? ⟨gb177, 1, none⟩ = some (.int .i64 0) := (blk_cell BK177.out 1).trans rfl; have hcz12_2 : w9.cell? ⟨gb177, 2, none⟩ = some (.int .i64 0) := (blk_cell BK177.out 2).trans rfl; have hcz12_3 : w9.cell? ⟨gb177, 3, none⟩ = some (.int .i64 0) := (blk_cell BK177.out 3).trans rfl; have hfz12_0 := blk_frozen BK177.out 0; have hfz12_1 := blk_frozen BK177.out 1; have hfz12_2 := blk_frozen BK177.out 2; have hfz12_3 := blk_frozen BK177.out 3; have hcz13_0 : w9.cell? ⟨gb174, 0, none⟩ = some (.int .i64 a0_0) := (blk_cell BK174.out 0).trans rfl; have hcz13_1 : w9.cell? ⟨gb174, 1, none⟩ = some (.string a0_1) := (blk_cell BK174.out 1).trans rfl; have hcz13_2 : w9.cell? ⟨gb174, 2, none⟩ = some (.string a0_2) := (blk_cell BK174.out 2).trans rfl; have hcz13_3 : w9.cell? ⟨gb174, 3, none⟩ = some (.int .i64 a0_3) := (blk_cell BK174.out 3).trans rfl; have hcz13_4 : w9.cell? ⟨gb174, 4, none⟩ = some (.int .i64 a0_4) := (blk_cell BK174.out 4).trans rfl; have hcz13_5 : w9.cell? ⟨gb174, 5, none⟩ = some (.int .i64 a0_5) := (blk_cell BK174.out 5).trans rfl; have hcz13_6 : w9.cell? ⟨gb174, 6, none⟩ = some (.string a0_6) := (blk_cell BK174.out 6).trans rfl; have hfz13_0 := blk_frozen BK174.out 0; have hfz13_1 := blk_frozen BK174.out 1; have hfz13_2 := blk_frozen BK174.out 2; have hfz13_3 := blk_frozen BK174.out 3; have hfz13_4 := blk_frozen BK174.out 4; have hfz13_5 := blk_frozen BK174.out 5; have hfz13_6 := blk_frozen BK174.out 6))
    (try simp only [Act.put, List.setIfInBounds_toArray, List.set_cons_zero, List.set_cons_succ])
    go_cut [18] (fun v18 wc => ∃ (kq : Nat) (x18_3 : Bool), v18 = .bool x18_3 ∧ Aside0 (impl_FormatAnswer.j0 kq a0_0 x18_3 a1_0 a1_1 l1_2 a1_3 a1_4 a1_5 a1_6 a1_7 a1_8 a1_9 a1_10 a1_11 a1_12 a1_4 a1_5 a1_6 a1_7 = some r) ∧ Aside0 (kq ≤ k) ∧ Aside0 (wc.heap[gb174]? = some (.cells #[.int .i64 a0_0, .string a0_1, .string a0_2, .int .i64 a0_3, .int .i64 a0_4, .int .i64 a0_5, .string a0_6] 24 (0, 0))) ∧ Aside0 (wc.heap[gb175]? = some (.cells #[.int .i64 a1_0, .string a1_1, (.slice A1_2 l1_2.length c1_2), .int .i64 a1_3, .int .i64 a1_4, .int .i64 a1_5, .int .i64 a1_6, .int .i64 a1_7, .int .i64 a1_8, .int .i64 a1_9, .int .i64 a1_10, .int .i64 a1_11, .int .i64 a1_12] 60 (0, 0))) ∧ Aside0 (wc.heap[gb177]? = some (.cells #[.int .i64 a1_4, .int .i64 a1_5, .int .i64 a1_6, .int .i64 a1_7] 57 (0, 0))) ∧ Aside0 (Below w.heap.size w wc))
    case first =>
      have H := HC4.out
      clear HC4
      by_cases c14 : a0_0 = 17
      · rw [if_pos c14] at H
        have c14b0 : (a0_0 == 17) = true := beq_iff_eq.mpr c14
        have c14b1 : (a0_0 != 17) = false := bne_eq_false_iff_eq.mpr c14
        clear c14
        (first | rw [c14b0] | (simp only [i64_w, i32_w]; rw [c14b0]) | skip)
        have H' := Aside0.mk H
        clear H
        go_wp2
        go_meet
        case rel => exact ⟨_, ((a0_0 == 17)), (by first | rfl | (simp; done) | (simp [*]; done)), H', ⟨by first | omega | exact Nat.le_refl _⟩, ⟨by (with_reducible repeat (first | refine blk_drewN ?_ _ | refine blk_drew ?_ | refine blk_alloc ?_ _)); refine blk_far ?_ NB174_177.out _; (with_reducible repeat (first | refine blk_drewN ?_ _ | refine blk_drew ?_ | refine blk_alloc ?_ _)); refine blk_far ?_ NB174_177.out _; (with_reducible repeat (first | refine blk_drewN ?_ _ | refine blk_drew ?_ | refine blk_alloc ?_ _)); refine blk_far ?_ NB174_177.out _; (with_reducible repeat (first | refine blk_drewN ?_ _ | refine blk_drew ?_ | refine blk_alloc ?_ _)); refine blk_far ?_ NB174_177.out _; (with_reducible repeat (first | refine blk_drewN ?_ _ | refine blk_drew ?_ | refine blk_alloc ?_ _)); exact BK174.out⟩, ⟨by (with_reducible repeat (first | refine blk_drewN ?_ _ | refine blk_drew ?_ | refine blk_alloc ?_ _)); refine blk_far ?_ NB175_177.out _; (with_reducible repeat (first | refine blk_drewN ?_ _ | refine blk_drew ?_ | refine blk_alloc ?_ _)); refine blk_far ?_ NB175_177.out _; (with_reducible repeat (first | refine blk_drewN ?_ _ | refine blk_drew ?_ | refine blk_alloc ?_ _)); refine blk_far ?_ NB175_177.out _; (with_reducible repeat (first | refine blk_drewN ?_ _ | refine blk_drew ?_ | refine blk_alloc ?_ _)); refine blk_far ?_ NB175_177.out _; (with_reducible repeat (first | refine blk_drewN ?_ _ | refine blk_drew ?_ | refine blk_alloc ?_ _)); exact BK175.out⟩, ⟨by (with_reducible repeat (first | refine blk_drewN ?_ _ | refine blk_drew ?_ | refine blk_alloc ?_ _)); refine blk_put (cs := #[.int .i64 a1_4, .int .i64 a1_5, .int .i64 a1_6, .int .i64 0]) ?_ 3 _ rfl; (with_reducible repeat (first | refine blk_drewN ?_ _ | refine blk_drew ?_ | refine blk_alloc ?_ _)); refine blk_put (cs := #[.int .i64 a1_4, .int .i64 a1_5, .int .i64 0, .int .i64 0]) ?_ 2 _ rfl; (with_reducible repeat (first | refine blk_drewN ?_ _ | refine blk_drew ?_ | refine blk_alloc ?_ _)); refine blk_put (cs := #[.int .i64 a1_4, .int .i64 0, .int .i64 0, .int .i64 0]) ?_ 1 _ rfl; (with_reducible repeat (first | refine blk_drewN ?_ _ | refine blk_drew ?_ | refine blk_alloc ?_ _)); refine blk_put (cs := #[.int .i64 0, .int .i64 0, .int .i64 0, .int .i64 0]) ?_ 0 _ rfl; (with_reducible repeat (first | refine blk_drewN ?_ _ | refine blk_drew ?_ | refine blk_alloc ?_ _)); exact BK177.out⟩, ⟨by repeat (first | (with_reducible first | exact HB.out | apply below_alloc | apply pw_below_drewN | apply below_drew1 | refine below_set ?_ GE174.out | refine below_set ?_ GE175.out | refine below_set ?_ GE177.out) | exact HB.out)⟩⟩
      · rw [if_neg c14] at H
        have c14b0 : (a0_0 == 17) = false := beq_eq_false_iff_ne.mpr c14
        have c14b1 : (a0_0 != 17) = true := bne_iff_ne.mpr c14
        (first | rw [c14b0] | (simp only [i64_w, i32_w]; rw [c14b0]) | skip)
        by_cases c15 : a0_0 = 15
        · rw [if_pos c15] at H
          have c15b0 : (a0_0 == 15) = true := beq_iff_eq.mpr c15
          have c15b1 : (a0_0 != 15) = false := bne_eq_false_iff_eq.mpr c15
          clear c15
          have H' := Aside0.mk H
          clear H
          go_wp2
          go_meet
          case rel => exact ⟨_, ((a0_0 == 15)), (by first | rfl | (simp; done) | (simp [*]; done)), H', ⟨by first | omega | exact Nat.le_refl _⟩, ⟨by (with_reducible repeat (first | refine blk_drewN ?_ _ | refine blk_drew ?_ | refine blk_alloc ?_ _)); refine blk_far ?_ NB174_177.out _; (with_reducible repeat (first | refine blk_drewN ?_ _ | refine blk_drew ?_ | refine blk_alloc ?_ _)); refine blk_far ?_ NB174_177.out _; (with_reducible repeat (first | refine blk_drewN ?_ _ | refine blk_drew ?_ | refine blk_alloc ?_ _)); refine blk_far ?_ NB174_177.out _; (with_reducible repeat (first | refine blk_drewN ?_ _ | refine blk_drew ?_ | refine blk_alloc ?_ _)); refine blk_far ?_ NB174_177.out _; (with_reducible repeat (first | refine blk_drewN ?_ _ | refine blk_drew ?_ | refine blk_alloc ?_ _)); exact BK174.out⟩, ⟨by (with_reducible repeat (first | refine blk_drewN ?_ _ | refine blk_drew ?_ | refine blk_alloc ?_ _)); refine blk_far ?_ NB175_177.out _; (with_reducible repeat (first | refine blk_drewN ?_ _ | refine blk_drew ?_ | refine blk_alloc ?_ _)); refine blk_far ?_ NB175_177.out _; (with_reducible repeat (first | refine blk_drewN ?_ _ | refine blk_drew ?_ | refine blk_alloc ?_ _)); refine blk_far ?_ NB175_177.out _; (with_reducible repeat (first | refine blk_drewN ?_ _ | refine blk_drew ?_ | refine blk_alloc ?_ _)); refine blk_far ?_ NB175_177.out _; (with_reducible repeat (first | refine blk_drewN ?_ _ | refine blk_drew ?_ | refine blk_alloc ?_ _)); exact BK175.out⟩, ⟨by (with_reducible repeat (first | refine blk_drewN ?_ _ | refine blk_drew ?_ | refine blk_alloc ?_ _)); refine blk_put (cs := #[.int .i64 a1_4, .int .i64 a1_5, .int .i64 a1_6, .int .i64 0]) ?_ 3 _ rfl; (with_reducible repeat (first | refine blk_drewN ?_ _ | refine blk_drew ?_ | refine blk_alloc ?_ _)); refine blk_put (cs := #[.int .i64 a1_4, .int .i64 a1_5, .int .i64 0, .int .i64 0]) ?_ 2 _ rfl; (with_reducible repeat (first | refine blk_drewN ?_ _ | refine blk_drew ?_ | refine blk_alloc ?_ _)); refine blk_put (cs := #[.int .i64 a1_4, .int .i64 0, .int .i64 0, .int .i64 0]) ?_ 1 _ rfl; (with_reducible repeat (first | refine blk_drewN ?_ _ | refine blk_drew ?_ | refine blk_alloc ?_ _)); refine blk_put (cs := #[.int .i64 0, .int .i64 0, .int .i64 0, .int .i64 0]) ?_ 0 _ rfl; (with_reducible repeat (first | refine blk_drewN ?_ _ | refine blk_drew ?_ | refine blk_alloc ?_ _)); exact BK177.out⟩, ⟨by repeat (first | (with_reducible first | exact HB.out | apply below_alloc | apply pw_below_drewN | apply below_drew1 | refine below_set ?_ GE174.out | refine below_set ?_ GE175.out | refine below_set ?_ GE177.out) | exact HB.out)⟩⟩
        · rw [if_neg c15] at H
          have c15b0 : (a0_0 == 15) = false := beq_eq_false_iff_ne.mpr c15
          have c15b1 : (a0_0 != 15) = true := bne_iff_ne.mpr c15
          have H' := Aside0.mk H
          clear H
          go_wp2
          go_meet
          case rel => exact ⟨_, ((a0_0 == 21)), (by first | rfl | (simp; done) | (simp [*]; done)), H', ⟨by first | omega | exact Nat.le_refl _⟩, ⟨by (with_reducible repeat (first | refine blk_drewN ?_ _ | refine blk_drew ?_ | refine blk_alloc ?_ _)); refine blk_far ?_ NB174_177.out _; (with_reducible repeat (first | refine blk_drewN ?_ _ | refine blk_drew ?_ | refine blk_alloc ?_ _)); refine blk_far ?_ NB174_177.out _; (with_reducible repeat (first | refine blk_drewN ?_ _ | refine blk_drew ?_ | refine blk_alloc ?_ _)); refine blk_far ?_ NB174_177.out _; (with_reducible repeat (first | refine blk_drewN ?_ _ | refine blk_drew ?_ | refine blk_alloc ?_ _)); refine blk_far ?_ NB174_177.out _; (with_reducible repeat (first | refine blk_drewN ?_ _ | refine blk_drew ?_ | refine blk_alloc ?_ _)); exact BK174.out⟩, ⟨by (with_reducible repeat (first | refine blk_drewN ?_ _ | refine blk_drew ?_ | refine blk_alloc ?_ _)); refine blk_far ?_ NB175_177.out _; (with_reducible repeat (first | refine blk_drewN ?_ _ | refine blk_drew ?_ | refine blk_alloc ?_ _)); refine blk_far ?_ NB175_177.out _; (with_reducible repeat (first | refine blk_drewN ?_ _ | refine blk_drew ?_ | refine blk_alloc ?_ _)); refine blk_far ?_ NB175_177.out _; (with_reducible repeat (first | refine blk_drewN ?_ _ | refine blk_drew ?_ | refine blk_alloc ?_ _)); refine blk_far ?_ NB175_177.out _; (with_reducible repeat (first | refine blk_drewN ?_ _ | refine blk_drew ?_ | refine blk_alloc ?_ _)); exact BK175.out⟩, ⟨by (with_reducible repeat (first | refine blk_drewN ?_ _ | refine blk_drew ?_ | refine blk_alloc ?_ _)); refine blk_put (cs := #[.int .i64 a1_4, .int .i64 a1_5, .int .i64 a1_6, .int .i64 0]) ?_ 3 _ rfl; (with_reducible repeat (first | refine blk_drewN ?_ _ | refine blk_drew ?_ | refine blk_alloc ?_ _)); refine blk_put (cs := #[.int .i64 a1_4, .int .i64 a1_5, .int .i64 0, .int .i64 0]) ?_ 2 _ rfl; (with_reducible repeat (first | refine blk_drewN ?_ _ | refine blk_drew ?_ | refine blk_alloc ?_ _)); refine blk_put (cs := #[.int .i64 a1_4, .int .i64 0, .int .i64 0, .int .i64 0]) ?_ 1 _ rfl; (with_reducible repeat (first | refine blk_drewN ?_ _ | refine blk_drew ?_ | refine blk_alloc ?_ _)); refine blk_put (cs := #[.int .i64 0, .int .i64 0, .int .i64 0, .int .i64 0]) ?_ 0 _ rfl; (with_reducible repeat (first | refine blk_drewN ?_ _ | refine blk_drew ?_ | refine blk_alloc ?_ _)); exact BK177.out⟩, ⟨by repeat (first | (with_reducible first | exact HB.out | apply below_alloc | apply pw_below_drewN | apply below_drew1 | refine below_set ?_ GE174.out | refine below_set ?_ GE175.out | refine below_set ?_ GE177.out) | exact HB.out)⟩⟩
    case rest =>
      clear HC4
      try clear c1
      try clear c2
      try clear p2
      try clear c3
      try clear c3b0
      try clear c3b1
      try clear c7
      try clear c10
      try clear c11
      try clear c14
      try clear c14b0
      try clear c14b1
      try clear c15
      try clear c15b0
      try clear c15b1
      try clear hcz12_0
      try clear hcz12_1
      try clear hcz12_2
      try clear hcz12_3
      try clear hcz13_0
      try clear hcz13_1
      try clear hcz13_2
      try clear hcz13_3
      try clear hcz13_4
      try clear hcz13_5
      try clear hcz13_6
      try clear hcz8_0
      try clear hcz8_1
      try clear hcz8_10
      try clear hcz8_11
      try clear hcz8_12
      try clear hcz8_2
      try clear hcz8_3
      try clear hcz8_4
      try clear hcz8_5
      try clear hcz8_6
      try clear hcz8_7
      try clear hcz8_8
      try clear hcz8_9
      try clear hfz12_0
      try clear hfz12_1
      try clear hfz12_2
      try clear hfz12_3
      try clear hfz13_0
      try clear hfz13_1
      try clear hfz13_2
      try clear hfz13_3
      try clear hfz13_4
      try clear hfz13_5
      try clear hfz13_6
      try clear hfz8_0
      try clear hfz8_1
      try clear hfz8_10
      try clear hfz8_11
      try clear hfz8_12
      try clear hfz8_2
      try clear hfz8_3
      try clear hfz8_4
      try clear hfz8_5
      try clear hfz8_6
      try clear hfz8_7
      try clear hfz8_8
      try clear hfz8_9
      obtain ⟨kq, x18_3, rfl, HA, HJ3, BK174, BK175, BK177, HB⟩ := hcut
      cases kq with
      | zero => exact absurd HA.out (by simp [impl_FormatAnswer.j0])
      | succ kj3 =>
        have H := HA.out
        clear HA
        simp only [impl_FormatAnswer.j0] at H
        by_cases c16 : x18_3 = true
        · subst c16
          have H1 : ((impl_Quote.f a1_1).bind fun t178 => (if 5 + t178.size ≤ 9223372036854775807 then (some ((⟨#[100, 97, 116, 97, 32]⟩ : ByteArray) ++ t178)) else (none))) = some r := by rw [if_pos rfl] at H; exact H
          clear H
          have H := H1
          clear H1
          replace H := Option.bind_eq_some_iff.mp H
          obtain ⟨t178, A170, H⟩ := H
          replace H : (if 5 + t178.size ≤ 9223372036854775807 then (some ((⟨#[100, 97, 116, 97, 32]⟩ : ByteArray) ++ t178)) else (none)) = some r := H
          have A17 := Aside0.mk A170
          clear A170
          by_cases c18 : 5 + t178.size ≤ 9223372036854775807
          · rw [if_pos c18] at H
            have c18b0 := eq_true c18
            have c18b1 : decide (5 + t178.size ≤ 9223372036854775807) = true := decide_eq_true c18
            try have c18b2 : (9223372036854775807 < 5 + t178.size) = False := eq_false (Nat.not_lt.2 c18)
            obtain rfl := Option.some.inj H
            have hnb19 := NB175_174.out
            have hnc19 := NB174_175.out
            have hnb20 := NB175_177.out
            have hnc20 := NB177_175.out
            have hcz21_0 : wc.cell? ⟨gb175, 0, none⟩ = some (.int .i64 a1_0) := (blk_cell BK175.out 0).trans rfl
            have hcz21_1 : wc.cell? ⟨gb175, 1, none⟩ = some (.string a1_1) := (blk_cell BK175.out 1).trans rfl
            have hcz21_2 : wc.cell? ⟨gb175, 2, none⟩ = some (.slice A1_2 l1_2.length c1_2) := (blk_cell BK175.out 2).trans rfl
            have hcz21_3 : wc.cell? ⟨gb175, 3, none⟩ = some (.int .i64 a1_3) := (blk_cell BK175.out 3).trans rfl
            have hcz21_4 : wc.cell? ⟨gb175, 4, none⟩ = some (.int .i64 a1_4) := (blk_cell BK175.out 4).trans rfl
            have hcz21_5 : wc.cell? ⟨gb175, 5, none⟩ = some (.int .i64 a1_5) := (blk_cell BK175.out 5).trans rfl
            have hcz21_6 : wc.cell? ⟨gb175, 6, none⟩ = some (.int .i64 a1_6) := (blk_cell BK175.out 6).trans rfl
            have hcz21_7 : wc.cell? ⟨gb175, 7, none⟩ = some (.int .i64 a1_7) := (blk_cell BK175.out 7).trans rfl
            have hcz21_8 : wc.cell? ⟨gb175, 8, none⟩ = some (.int .i64 a1_8) := (blk_cell BK175.out 8).trans rfl
            have hcz21_9 : wc.cell? ⟨gb175, 9, none⟩ = some (.int .i64 a1_9) := (blk_cell BK175.out 9).trans rfl
            have hcz21_10 : wc.cell? ⟨gb175, 10, none⟩ = some (.int .i64 a1_10) := (blk_cell BK175.out 10).trans rfl
            have hcz21_11 : wc.cell? ⟨gb175, 11, none⟩ = some (.int .i64 a1_11) := (blk_cell BK175.out 11).trans rfl
            have hcz21_12 : wc.cell? ⟨gb175, 12, none⟩ = some (.int .i64 a1_12) := (blk_cell BK175.out 12).trans rfl
            have hfz21_0 := blk_frozen BK175.out 0
            have hfz21_1 := blk_frozen BK175.out 1
            have hfz21_2 := blk_frozen BK175.out 2
            have hfz21_3 := blk_frozen BK175.out 3
            have hfz21_4 := blk_frozen BK175.out 4
            have hfz21_5 := blk_frozen BK175.out 5
            have hfz21_6 := blk_frozen BK175.out 6
            have hfz21_7 := blk_frozen BK175.out 7
            have hfz21_8 := blk_frozen BK175.out 8
            have hfz21_9 := blk_frozen BK175.out 9
            have hfz21_10 := blk_frozen BK175.out 10
            have hfz21_11 := blk_frozen BK175.out 11
            have hfz21_12 := blk_frozen BK175.out 12
            go_wp2_with (first | ((with_reducible refine gate_callee (f := 54) rfl ?_); refine goesL_ (some 24) rfl rfl Tryd.func54 (by kernel_rfl) rfl #[.string a1_1] rfl (by (try simp only [List.map_toArray, List.map_cons, List.map_nil]); first | done | rfl | (simp only [List.length_drop, List.length_take]; rfl)) ?_; (with_reducible refine (impl_Quote.calls a1_1 t178 _ A17.out).mono ?_); rintro e w22 ⟨rfl, hb⟩; refine ⟨_, rfl, ?_⟩; have n0_ := Aside0.mk (blk_below (g := gb174) (o := .cells #[.int .i64 a0_0, .string a0_1, .string a0_2, .int .i64 a0_3, .int .i64 a0_4, .int .i64 a0_5, .string a0_6] 24 (0, 0)) (by (with_reducible repeat (first | refine blk_drewN ?_ _ | refine blk_drew ?_ | refine blk_alloc ?_ _)); exact BK174.out) hb); have n1_ := Aside0.mk (blk_below (g := gb175) (o := .cells #[.int .i64 a1_0, .string a1_1, .slice A1_2 l1_2.length c1_2, .int .i64 a1_3, .int .i64 a1_4, .int .i64 a1_5, .int .i64 a1_6, .int .i64 a1_7, .int .i64 a1_8, .int .i64 a1_9, .int .i64 a1_10, .int .i64 a1_11, .int .i64 a1_12] 60 (0, 0)) (by (with_reducible repeat (first | refine blk_drewN ?_ _ | refine blk_drew ?_ | refine blk_alloc ?_ _)); exact BK175.out) hb); have n2_ := Aside0.mk (blk_below (g := gb177) (o := .cells #[.int .i64 a1_4, .int .i64 a1_5, .int .i64 a1_6, .int .i64 a1_7] 57 (0, 0)) (by (with_reducible repeat (first | refine blk_drewN ?_ _ | refine blk_drew ?_ | refine blk_alloc ?_ _)); exact BK177.out) hb); have n3_ := Aside0.mk (below_step (by repeat (first | (with_reducible first | exact HB.out | apply below_alloc | apply pw_below_drewN | apply below_drew1 | refine below_set ?_ GE174.out | refine below_set ?_ GE175.out | refine below_set ?_ GE177.out) | exact HB.out)) hb); clear BK174; clear BK175; clear BK177; clear HB; have BK174 := n0_; have BK175 := n1_; have BK177 := n2_; have HB := n3_; clear n0_ n1_ n2_ n3_; (try clear hb); (try clear hb2); (try clear hk); (try clear hi)))
            go_ret
            exact ⟨by first | rfl | (simp [errW_none, errW_some] <;> rfl) | (simp [*, errW_none, errW_some] <;> rfl), by repeat (first | (with_reducible first | exact HB.out | apply below_alloc | apply pw_below_drewN | apply below_drew1 | refine below_set ?_ GE174.out | refine below_set ?_ GE175.out | refine below_set ?_ GE177.out) | exact HB.out)⟩
          · rw [if_neg c18] at H
            exact absurd H (by simp)
        · replace c16 := Bool.eq_false_iff.mpr c16
          subst c16
          have H1 : (if a0_0 = 14 then ((impl_dec.f a1_3).bind fun t179 => (if 7 + t179.size ≤ 9223372036854775807 then (some ((⟨#[104, 97, 110, 100, 108, 101, 32]⟩ : ByteArray) ++ t179)) else (none))) else (if a0_0 = 18 then (impl_FormatAnswer.j1 kj3 a0_0 (a0_0 == 18) a1_0 a1_1 l1_2 a1_3 a1_4 a1_5 a1_6 a1_7 a1_8 a1_9 a1_10 a1_11 a1_12 a1_4 a1_5 a1_6 a1_7) else (if a0_0 = 19 then (impl_FormatAnswer.j1 kj3 a0_0 (a0_0 == 19) a1_0 a1_1 l1_2 a1_3 a1_4 a1_5 a1_6 a1_7 a1_8 a1_9 a1_10 a1_11 a1_12 a1_4 a1_5 a1_6 a1_7) else (impl_FormatAnswer.j1 kj3 a0_0 (a0_0 == 16) a1_0 a1_1 l1_2 a1_3 a1_4 a1_5 a1_6 a1_7 a1_8 a1_9 a1_10 a1_11 a1_12 a1_4 a1_5 a1_6 a1_7)))) = some r := by rw [if_neg (show ¬ (false = true) by decide)] at H; exact H
          clear H
          have H := H1
          clear H1
          by_cases c23 : a0_0 = 14
          · rw [if_pos c23] at H
            have c23b0 : (a0_0 == 14) = true := beq_iff_eq.mpr c23
            have c23b1 : (a0_0 != 14) = false := bne_eq_false_iff_eq.mpr c23
            clear c23
            replace H := Option.bind_eq_some_iff.mp H
            obtain ⟨t179, A240, H⟩ := H
            replace H : (if 7 + t179.size ≤ 9223372036854775807 then (some ((⟨#[104, 97, 110, 100, 108, 101, 32]⟩ : ByteArray) ++ t179)) else (none)) = some r := H
            have A24 := Aside0.mk A240
            clear A240
            by_cases c25 : 7 + t179.size ≤ 9223372036854775807
            · rw [if_pos c25] at H
              have c25b0 := eq_true c25
              have c25b1 : decide (7 + t179.size ≤ 9223372036854775807) = true := decide_eq_true c25
              try have c25b2 : (9223372036854775807 < 7 + t179.size) = False := eq_false (Nat.not_lt.2 c25)
              obtain rfl := Option.some.inj H
              have hnb26 := NB175_174.out
              have hnc26 := NB174_175.out
              have hnb27 := NB175_177.out
              have hnc27 := NB177_175.out
              have hcz28_0 : wc.cell? ⟨gb175, 0, none⟩ = some (.int .i64 a1_0) := (blk_cell BK175.out 0).trans rfl
              have hcz28_1 : wc.cell? ⟨gb175, 1, none⟩ = some (.string a1_1) := (blk_cell BK175.out 1).trans rfl
              have hcz28_2 : wc.cell? ⟨gb175, 2, none⟩ = some (.slice A1_2 l1_2.length c1_2) := (blk_cell BK175.out 2).trans rfl
              have hcz28_3 : wc.cell? ⟨gb175, 3, none⟩ = some (.int .i64 a1_3) := (blk_cell BK175.out 3).trans rfl
              have hcz28_4 : wc.cell? ⟨gb175, 4, none⟩ = some (.int .i64 a1_4) := (blk_cell BK175.out 4).trans rfl
              have hcz28_5 : wc.cell? ⟨gb175, 5, none⟩ = some (.int .i64 a1_5) := (blk_cell BK175.out 5).trans rfl
              have hcz28_6 : wc.cell? ⟨gb175, 6, none⟩ = some (.int .i64 a1_6) := (blk_cell BK175.out 6).trans rfl
              have hcz28_7 : wc.cell? ⟨gb175, 7, none⟩ = some (.int .i64 a1_7) := (blk_cell BK175.out 7).trans rfl
              have hcz28_8 : wc.cell? ⟨gb175, 8, none⟩ = some (.int .i64 a1_8) := (blk_cell BK175.out 8).trans rfl
              have hcz28_9 : wc.cell? ⟨gb175, 9, none⟩ = some (.int .i64 a1_9) := (blk_cell BK175.out 9).trans rfl
              have hcz28_10 : wc.cell? ⟨gb175, 10, none⟩ = some (.int .i64 a1_10) := (blk_cell BK175.out 10).trans rfl
              have hcz28_11 : wc.cell? ⟨gb175, 11, none⟩ = some (.int .i64 a1_11) := (blk_cell BK175.out 11).trans rfl
              have hcz28_12 : wc.cell? ⟨gb175, 12, none⟩ = some (.int .i64 a1_12) := (blk_cell BK175.out 12).trans rfl
              have hfz28_0 := blk_frozen BK175.out 0
              have hfz28_1 := blk_frozen BK175.out 1
              have hfz28_2 := blk_frozen BK175.out 2
              have hfz28_3 := blk_frozen BK175.out 3
              have hfz28_4 := blk_frozen BK175.out 4
              have hfz28_5 := blk_frozen BK175.out 5
              have hfz28_6 := blk_frozen BK175.out 6
              have hfz28_7 := blk_frozen BK175.out 7
              have hfz28_8 := blk_frozen BK175.out 8
              have hfz28_9 := blk_frozen BK175.out 9
              have hfz28_10 := blk_frozen BK175.out 10
              have hfz28_11 := blk_frozen BK175.out 11
              have hfz28_12 := blk_frozen BK175.out 12
              go_wp2_with (first | ((with_reducible refine gate_callee (f := 55) rfl ?_); refine goesL_ (some 33) rfl rfl Tryd.func55 (by kernel_rfl) rfl #[.slice (some ⟨_, 0, none⟩) 2 2] rfl (by (try simp only [List.map_toArray, List.map_cons, List.map_nil]); first | done | rfl | (simp only [List.length_drop, List.length_take]; rfl)) ?_; (refine (impl_said.calls (⟨#[104, 97, 110, 100, 108, 101, 32]⟩ : ByteArray) a1_3 t179 _ _ (heap_alloc_new _ _) A24.out (by decide) (impl_dec.small A24.out) (hG0.below (by repeat (first | (with_reducible first | exact HB.out | apply below_alloc | apply pw_below_drewN | apply below_drew1 | refine below_set ?_ GE174.out | refine below_set ?_ GE175.out | refine below_set ?_ GE177.out) | exact HB.out)))).mono ?_); rintro e w29 ⟨rfl, hb⟩; refine ⟨_, rfl, ?_⟩; have n0_ := Aside0.mk (blk_below (g := gb174) (o := .cells #[.int .i64 a0_0, .string a0_1, .string a0_2, .int .i64 a0_3, .int .i64 a0_4, .int .i64 a0_5, .string a0_6] 24 (0, 0)) (by (with_reducible repeat (first | refine blk_drewN ?_ _ | refine blk_drew ?_ | refine blk_alloc ?_ _)); exact BK174.out) hb); have n1_ := Aside0.mk (blk_below (g := gb175) (o := .cells #[.int .i64 a1_0, .string a1_1, .slice A1_2 l1_2.length c1_2, .int .i64 a1_3, .int .i64 a1_4, .int .i64 a1_5, .int .i64 a1_6, .int .i64 a1_7, .int .i64 a1_8, .int .i64 a1_9, .int .i64 a1_10, .int .i64 a1_11, .int .i64 a1_12] 60 (0, 0)) (by (with_reducible repeat (first | refine blk_drewN ?_ _ | refine blk_drew ?_ | refine blk_alloc ?_ _)); exact BK175.out) hb); have n2_ := Aside0.mk (blk_below (g := gb177) (o := .cells #[.int .i64 a1_4, .int .i64 a1_5, .int .i64 a1_6, .int .i64 a1_7] 57 (0, 0)) (by (with_reducible repeat (first | refine blk_drewN ?_ _ | refine blk_drew ?_ | refine blk_alloc ?_ _)); exact BK177.out) hb); have n3_ := Aside0.mk (below_step (by repeat (first | (with_reducible first | exact HB.out | apply below_alloc | apply pw_below_drewN | apply below_drew1 | refine below_set ?_ GE174.out | refine below_set ?_ GE175.out | refine below_set ?_ GE177.out) | exact HB.out)) hb); clear BK174; clear BK175; clear BK177; clear HB; have BK174 := n0_; have BK175 := n1_; have BK177 := n2_; have HB := n3_; clear n0_ n1_ n2_ n3_; (try clear hb); (try clear hb2); (try clear hk); (try clear hi)))
              go_ret
              exact ⟨by first | rfl | (simp [errW_none, errW_some] <;> rfl) | (simp [*, errW_none, errW_some] <;> rfl), by repeat (first | (with_reducible first | exact HB.out | apply below_alloc | apply pw_below_drewN | apply below_drew1 | refine below_set ?_ GE174.out | refine below_set ?_ GE175.out | refine below_set ?_ GE177.out) | exact HB.out)⟩
            · rw [if_neg c25] at H
              exact absurd H (by simp)
          · rw [if_neg c23] at H
            have c23b0 : (a0_0 == 14) = false := beq_eq_false_iff_ne.mpr c23
            have c23b1 : (a0_0 != 14) = true := bne_iff_ne.mpr c23
            have HC30 := Aside0.mk H
            clear H
            go_upto_if 34 with (fail)
            go_cut [34] (fun v34 wc => ∃ (kq : Nat) (x34_29 : Bool), v34 = .bool x34_29 ∧ Aside0 (impl_FormatAnswer.j1 kq a0_0 x34_29 a1_0 a1_1 l1_2 a1_3 a1_4 a1_5 a1_6 a1_7 a1_8 a1_9 a1_10 a1_11 a1_12 a1_4 a1_5 a1_6 a1_7 = some r) ∧ Aside0 (kq ≤ kj3) ∧ Aside0 (wc.heap[gb174]? = some (.cells #[.int .i64 a0_0, .string a0_1, .string a0_2, .int .i64 a0_3, .int .i64 a0_4, .int .i64 a0_5, .string a0_6] 24 (0, 0))) ∧ Aside0 (wc.heap[gb175]? = some (.cells #[.int .i64 a1_0, .string a1_1, (.slice A1_2 l1_2.length c1_2), .int .i64 a1_3, .int .i64 a1_4, .int .i64 a1_5, .int .i64 a1_6, .int .i64 a1_7, .int .i64 a1_8, .int .i64 a1_9, .int .i64 a1_10, .int .i64 a1_11, .int .i64 a1_12] 60 (0, 0))) ∧ Aside0 (wc.heap[gb177]? = some (.cells #[.int .i64 a1_4, .int .i64 a1_5, .int .i64 a1_6, .int .i64 a1_7] 57 (0, 0))) ∧ Aside0 (Below w.heap.size w wc))
            case first =>
              have H := HC30.out
              clear HC30
              by_cases c31 : a0_0 = 18
              · rw [if_pos c31] at H
                have c31b0 : (a0_0 == 18) = true := beq_iff_eq.mpr c31
                have c31b1 : (a0_0 != 18) = false := bne_eq_false_iff_eq.mpr c31
                clear c31
                (first | rw [c31b0] | (simp only [i64_w, i32_w]; rw [c31b0]) | skip)
                have H' := Aside0.mk H
                clear H
                go_wp2
                go_meet
                case rel => exact ⟨_, ((a0_0 == 18)), (by first | rfl | (simp; done) | (simp [*]; done)), H', ⟨by have := HJ3.out; first | omega | exact Nat.le_refl _⟩, ⟨by (with_reducible repeat (first | refine blk_drewN ?_ _ | refine blk_drew ?_ | refine blk_alloc ?_ _)); exact BK174.out⟩, ⟨by (with_reducible repeat (first | refine blk_drewN ?_ _ | refine blk_drew ?_ | refine blk_alloc ?_ _)); exact BK175.out⟩, ⟨by (with_reducible repeat (first | refine blk_drewN ?_ _ | refine blk_drew ?_ | refine blk_alloc ?_ _)); exact BK177.out⟩, ⟨by repeat (first | (with_reducible first | exact HB.out | apply below_alloc | apply pw_below_drewN | apply below_drew1 | refine below_set ?_ GE174.out | refine below_set ?_ GE175.out | refine below_set ?_ GE177.out) | exact HB.out)⟩⟩
              · rw [if_neg c31] at H
                have c31b0 : (a0_0 == 18) = false := beq_eq_false_iff_ne.mpr c31
                have c31b1 : (a0_0 != 18) = true := bne_iff_ne.mpr c31
                (first | rw [c31b0] | (simp only [i64_w, i32_w]; rw [c31b0]) | skip)
                by_cases c32 : a0_0 = 19
                · rw [if_pos c32] at H
                  have c32b0 : (a0_0 == 19) = true := beq_iff_eq.mpr c32
                  have c32b1 : (a0_0 != 19) = false := bne_eq_false_iff_eq.mpr c32
                  clear c32
                  have H' := Aside0.mk H
                  clear H
                  go_wp2
                  go_meet
                  case rel => exact ⟨_, ((a0_0 == 19)), (by first | rfl | (simp; done) | (simp [*]; done)), H', ⟨by have := HJ3.out; first | omega | exact Nat.le_refl _⟩, ⟨by (with_reducible repeat (first | refine blk_drewN ?_ _ | refine blk_drew ?_ | refine blk_alloc ?_ _)); exact BK174.out⟩, ⟨by (with_reducible repeat (first | refine blk_drewN ?_ _ | refine blk_drew ?_ | refine blk_alloc ?_ _)); exact BK175.out⟩, ⟨by (with_reducible repeat (first | refine blk_drewN ?_ _ | refine blk_drew ?_ | refine blk_alloc ?_ _)); exact BK177.out⟩, ⟨by repeat (first | (with_reducible first | exact HB.out | apply below_alloc | apply pw_below_drewN | apply below_drew1 | refine below_set ?_ GE174.out | refine below_set ?_ GE175.out | refine below_set ?_ GE177.out) | exact HB.out)⟩⟩
                · rw [if_neg c32] at H
                  have c32b0 : (a0_0 == 19) = false := beq_eq_false_iff_ne.mpr c32
                  have c32b1 : (a0_0 != 19) = true := bne_iff_ne.mpr c32
                  have H' := Aside0.mk H
                  clear H
                  go_wp2
                  go_meet
                  case rel => exact ⟨_, ((a0_0 == 16)), (by first | rfl | (simp; done) | (simp [*]; done)), H', ⟨by have := HJ3.out; first | omega | exact Nat.le_refl _⟩, ⟨by (with_reducible repeat (first | refine blk_drewN ?_ _ | refine blk_drew ?_ | refine blk_alloc ?_ _)); exact BK174.out⟩, ⟨by (with_reducible repeat (first | refine blk_drewN ?_ _ | refine blk_drew ?_ | refine blk_alloc ?_ _)); exact BK175.out⟩, ⟨by (with_reducible repeat (first | refine blk_drewN ?_ _ | refine blk_drew ?_ | refine blk_alloc ?_ _)); exact BK177.out⟩, ⟨by repeat (first | (with_reducible first | exact HB.out | apply below_alloc | apply pw_below_drewN | apply below_drew1 | refine below_set ?_ GE174.out | refine below_set ?_ GE175.out | refine below_set ?_ GE177.out) | exact HB.out)⟩⟩
            case rest =>
              clear HC30
              try clear c1
              try clear c2
              try clear p2
              try clear c3
              try clear c3b0
              try clear c3b1
              try clear c5
              try clear c7
              try clear c10
              try clear c11
              try clear c14
              try clear c14b0
              try clear c14b1
              try clear c15
              try clear c15b0
              try clear c15b1
              try clear c16
              try clear c18
              try clear c18b0
              try clear c18b1
              try clear c18b2
              try clear c19
              try clear c20
              try clear c23
              try clear c23b0
              try clear c23b1
              try clear c24
              try clear c25
              try clear c25b0
              try clear c25b1
              try clear c25b2
              try clear c26
              try clear c27
              try clear c31
              try clear c31b0
              try clear c31b1
              try clear c32
              try clear c32b0
              try clear c32b1
              try clear hcz12_0
              try clear hcz12_1
              try clear hcz12_2
              try clear hcz12_3
              try clear hcz13_0
              try clear hcz13_1
              try clear hcz13_2
              try clear hcz13_3
              try clear hcz13_4
              try clear hcz13_5
              try clear hcz13_6
              try clear hcz21_0
              try clear hcz21_1
              try clear hcz21_10
              try clear hcz21_11
              try clear hcz21_12
              try clear hcz21_2
              try clear hcz21_3
              try clear hcz21_4
              try clear hcz21_5
              try clear hcz21_6
              try clear hcz21_7
              try clear hcz21_8
              try clear hcz21_9
              try clear hcz28_0
              try clear hcz28_1
              try clear hcz28_10
              try clear hcz28_11
              try clear hcz28_12
              try clear hcz28_2
              try clear hcz28_3
              try clear hcz28_4
              try clear hcz28_5
              try clear hcz28_6
              try clear hcz28_7
              try clear hcz28_8
              try clear hcz28_9
              try clear hcz8_0
              try clear hcz8_1
              try clear hcz8_10
              try clear hcz8_11
              try clear hcz8_12
              try clear hcz8_2
              try clear hcz8_3
              try clear hcz8_4
              try clear hcz8_5
              try clear hcz8_6
              try clear hcz8_7
              try clear hcz8_8
              try clear hcz8_9
              try clear hfz12_0
              try clear hfz12_1
              try clear hfz12_2
              try clear hfz12_3
              try clear hfz13_0
              try clear hfz13_1
              try clear hfz13_2
              try clear hfz13_3
              try clear hfz13_4
              try clear hfz13_5
              try clear hfz13_6
              try clear hfz21_0
              try clear hfz21_1
              try clear hfz21_10
              try clear hfz21_11
              try clear hfz21_12
              try clear hfz21_2
              try clear hfz21_3
              try clear hfz21_4
              try clear hfz21_5
              try clear hfz21_6
              try clear hfz21_7
              try clear hfz21_8
              try clear hfz21_9
              try clear hfz28_0
              try clear hfz28_1
              try clear hfz28_10
              try clear hfz28_11
              try clear hfz28_12
              try clear hfz28_2
              try clear hfz28_3
              try clear hfz28_4
              try clear hfz28_5
              try clear hfz28_6
              try clear hfz28_7
              try clear hfz28_8
              try clear hfz28_9
              try clear hfz8_0
              try clear hfz8_1
              try clear hfz8_10
              try clear hfz8_11
              try clear hfz8_12
              try clear hfz8_2
              try clear hfz8_3
              try clear hfz8_4
              try clear hfz8_5
              try clear hfz8_6
              try clear hfz8_7
              try clear hfz8_8
              try clear hfz8_9
              try clear p2
              obtain ⟨kq, x34_29, rfl, HA, HJ29, BK174, BK175, BK177, HB⟩ := hcut
              cases kq with
              | zero => exact absurd HA.out (by simp [impl_FormatAnswer.j1])
              | succ kj29 =>
                have H := HA.out
                clear HA
                simp only [impl_FormatAnswer.j1] at H
                by_cases c33 : x34_29 = true
                · subst c33
                  have H1 : ((impl_dec.f a1_4).bind fun t180 => (if 5 + t180.size ≤ 9223372036854775807 then (if ((⟨#[115, 116, 97, 116, 32]⟩ : ByteArray) ++ t180).size + 1 ≤ 9223372036854775807 then ((impl_dec.f a1_5).bind fun t181 => (if (((⟨#[115, 116, 97, 116, 32]⟩ : ByteArray) ++ t180) ++ (⟨#[32]⟩ : ByteArray)).size + t181.size ≤ 9223372036854775807 then (if ((((⟨#[115, 116, 97, 116, 32]⟩ : ByteArray) ++ t180) ++ (⟨#[32]⟩ : ByteArray)) ++ t181).size + 1 ≤ 9223372036854775807 then ((impl_dec.f a1_6).bind fun t182 => (if (((((⟨#[115, 116, 97, 116, 32]⟩ : ByteArray) ++ t180) ++ (⟨#[32]⟩ : ByteArray)) ++ t181) ++ (⟨#[32]⟩ : ByteArray)).size + t182.size ≤ 9223372036854775807 then (if ((((((⟨#[115, 116, 97, 116, 32]⟩ : ByteArray) ++ t180) ++ (⟨#[32]⟩ : ByteArray)) ++ t181) ++ (⟨#[32]⟩ : ByteArray)) ++ t182).size + 1 ≤ 9223372036854775807 then ((impl_dec.f a1_7).bind fun t183 => (if (((((((⟨#[115, 116, 97, 116, 32]⟩ : ByteArray) ++ t180) ++ (⟨#[32]⟩ : ByteArray)) ++ t181) ++ (⟨#[32]⟩ : ByteArray)) ++ t182) ++ (⟨#[32]⟩ : ByteArray)).size + t183.size ≤ 9223372036854775807 then (some ((((((((⟨#[115, 116, 97, 116, 32]⟩ : ByteArray) ++ t180) ++ (⟨#[32]⟩ : ByteArray)) ++ t181) ++ (⟨#[32]⟩ : ByteArray)) ++ t182) ++ (⟨#[32]⟩ : ByteArray)) ++ t183)) else (none))) else (none)) else (none))) else (none)) else (none))) else (none)) else (none))) = some r := by rw [if_pos rfl] at H; exact H
                  clear H
                  have H := H1
                  clear H1
                  replace H := Option.bind_eq_some_iff.mp H
                  obtain ⟨t180, A340, H⟩ := H
                  replace H : (if 5 + t180.size ≤ 9223372036854775807 then (if ((⟨#[115, 116, 97, 116, 32]⟩ : ByteArray) ++ t180).size + 1 ≤ 9223372036854775807 then ((impl_dec.f a1_5).bind fun t181 => (if (((⟨#[115, 116, 97, 116, 32]⟩ : ByteArray) ++ t180) ++ (⟨#[32]⟩ : ByteArray)).size + t181.size ≤ 9223372036854775807 then (if ((((⟨#[115, 116, 97, 116, 32]⟩ : ByteArray) ++ t180) ++ (⟨#[32]⟩ : ByteArray)) ++ t181).size + 1 ≤ 9223372036854775807 then ((impl_dec.f a1_6).bind fun t182 => (if (((((⟨#[115, 116, 97, 116, 32]⟩ : ByteArray) ++ t180) ++ (⟨#[32]⟩ : ByteArray)) ++ t181) ++ (⟨#[32]⟩ : ByteArray)).size + t182.size ≤ 9223372036854775807 then (if ((((((⟨#[115, 116, 97, 116, 32]⟩ : ByteArray) ++ t180) ++ (⟨#[32]⟩ : ByteArray)) ++ t181) ++ (⟨#[32]⟩ : ByteArray)) ++ t182).size + 1 ≤ 9223372036854775807 then ((impl_dec.f a1_7).bind fun t183 => (if (((((((⟨#[115, 116, 97, 116, 32]⟩ : ByteArray) ++ t180) ++ (⟨#[32]⟩ : ByteArray)) ++ t181) ++ (⟨#[32]⟩ : ByteArray)) ++ t182) ++ (⟨#[32]⟩ : ByteArray)).size + t183.size ≤ 9223372036854775807 then (some ((((((((⟨#[115, 116, 97, 116, 32]⟩ : ByteArray) ++ t180) ++ (⟨#[32]⟩ : ByteArray)) ++ t181) ++ (⟨#[32]⟩ : ByteArray)) ++ t182) ++ (⟨#[32]⟩ : ByteArray)) ++ t183)) else (none))) else (none)) else (none))) else (none)) else (none))) else (none)) else (none)) = some r := H
                  have A34 := Aside0.mk A340
                  clear A340
                  by_cases c35 : 5 + t180.size ≤ 9223372036854775807
                  · rw [if_pos c35] at H
                    have c35b0 := eq_true c35
                    have c35b1 : decide (5 + t180.size ≤ 9223372036854775807) = true := decide_eq_true c35
                    try have c35b2 : (9223372036854775807 < 5 + t180.size) = False := eq_false (Nat.not_lt.2 c35)
                    by_cases c36 : ((⟨#[115, 116, 97, 116, 32]⟩ : ByteArray) ++ t180).size + 1 ≤ 9223372036854775807
                    · rw [if_pos c36] at H
                      have c36b0 := eq_true c36
                      have c36n : 5 + t180.size + 1 ≤ 9223372036854775807 := by have h_ := c36; simp only [ByteArray.size_append] at h_; first | exact h_ | (simp at h_ ⊢; omega)
                      have c36n0 := eq_true c36n
                      have c36n1 : decide (5 + t180.size + 1 ≤ 9223372036854775807) = true := decide_eq_true c36n
                      have c36n2 : (9223372036854775807 < 5 + t180.size + 1) = False := eq_false (Nat.not_lt.2 c36n)
                      have c36b1 : decide (((⟨#[115, 116, 97, 116, 32]⟩ : ByteArray) ++ t180).size + 1 ≤ 9223372036854775807) = true := decide_eq_true c36
                      try have c36b2 : (9223372036854775807 < ((⟨#[115, 116, 97, 116, 32]⟩ : ByteArray) ++ t180).size + 1) = False := eq_false (Nat.not_lt.2 c36)
                      replace H := Option.bind_eq_some_iff.mp H
                      obtain ⟨t181, A370, H⟩ := H
                      replace H : (if (((⟨#[115, 116, 97, 116, 32]⟩ : ByteArray) ++ t180) ++ (⟨#[32]⟩ : ByteArray)).size + t181.size ≤ 9223372036854775807 then (if ((((⟨#[115, 116, 97, 116, 32]⟩ : ByteArray) ++ t180) ++ (⟨#[32]⟩ : ByteArray)) ++ t181).size + 1 ≤ 9223372036854775807 then ((impl_dec.f a1_6).bind fun t182 => (if (((((⟨#[115, 116, 97, 116, 32]⟩ : ByteArray) ++ t180) ++ (⟨#[32]⟩ : ByteArray)) ++ t181) ++ (⟨#[32]⟩ : ByteArray)).size + t182.size ≤ 9223372036854775807 then (if ((((((⟨#[115, 116, 97, 116, 32]⟩ : ByteArray) ++ t180) ++ (⟨#[32]⟩ : ByteArray)) ++ t181) ++ (⟨#[32]⟩ : ByteArray)) ++ t182).size + 1 ≤ 9223372036854775807 then ((impl_dec.f a1_7).bind fun t183 => (if (((((((⟨#[115, 116, 97, 116, 32]⟩ : ByteArray) ++ t180) ++ (⟨#[32]⟩ : ByteArray)) ++ t181) ++ (⟨#[32]⟩ : ByteArray)) ++ t182) ++ (⟨#[32]⟩ : ByteArray)).size + t183.size ≤ 9223372036854775807 then (some ((((((((⟨#[115, 116, 97, 116, 32]⟩ : ByteArray) ++ t180) ++ (⟨#[32]⟩ : ByteArray)) ++ t181) ++ (⟨#[32]⟩ : ByteArray)) ++ t182) ++ (⟨#[32]⟩ : ByteArray)) ++ t183)) else (none))) else (none)) else (none))) else (none)) else (none)) = some r := H
                      have A37 := Aside0.mk A370
                      clear A370
                      by_cases c38 : (((⟨#[115, 116, 97, 116, 32]⟩ : ByteArray) ++ t180) ++ (⟨#[32]⟩ : ByteArray)).size + t181.size ≤ 9223372036854775807
                      · rw [if_pos c38] at H
                        have c38b0 := eq_true c38
                        have c38n : 5 + t180.size + 1 + t181.size ≤ 9223372036854775807 := by have h_ := c38; simp only [ByteArray.size_append] at h_; first | exact h_ | (simp at h_ ⊢; omega)
                        have c38n0 := eq_true c38n
                        have c38n1 : decide (5 + t180.size + 1 + t181.size ≤ 9223372036854775807) = true := decide_eq_true c38n
                        have c38n2 : (9223372036854775807 < 5 + t180.size + 1 + t181.size) = False := eq_false (Nat.not_lt.2 c38n)
                        have c38b1 : decide ((((⟨#[115, 116, 97, 116, 32]⟩ : ByteArray) ++ t180) ++ (⟨#[32]⟩ : ByteArray)).size + t181.size ≤ 9223372036854775807) = true := decide_eq_true c38
                        try have c38b2 : (9223372036854775807 < (((⟨#[115, 116, 97, 116, 32]⟩ : ByteArray) ++ t180) ++ (⟨#[32]⟩ : ByteArray)).size + t181.size) = False := eq_false (Nat.not_lt.2 c38)
                        by_cases c39 : ((((⟨#[115, 116, 97, 116, 32]⟩ : ByteArray) ++ t180) ++ (⟨#[32]⟩ : ByteArray)) ++ t181).size + 1 ≤ 9223372036854775807
                        · rw [if_pos c39] at H
                          have c39b0 := eq_true c39
                          have c39n : 5 + t180.size + 1 + t181.size + 1 ≤ 9223372036854775807 := by have h_ := c39; simp only [ByteArray.size_append] at h_; first | exact h_ | (simp at h_ ⊢; omega)
                          have c39n0 := eq_true c39n
                          have c39n1 : decide (5 + t180.size + 1 + t181.size + 1 ≤ 9223372036854775807) = true := decide_eq_true c39n
                          have c39n2 : (9223372036854775807 < 5 + t180.size + 1 + t181.size + 1) = False := eq_false (Nat.not_lt.2 c39n)
                          have c39b1 : decide (((((⟨#[115, 116, 97, 116, 32]⟩ : ByteArray) ++ t180) ++ (⟨#[32]⟩ : ByteArray)) ++ t181).size + 1 ≤ 9223372036854775807) = true := decide_eq_true c39
                          try have c39b2 : (9223372036854775807 < ((((⟨#[115, 116, 97, 116, 32]⟩ : ByteArray) ++ t180) ++ (⟨#[32]⟩ : ByteArray)) ++ t181).size + 1) = False := eq_false (Nat.not_lt.2 c39)
                          replace H := Option.bind_eq_some_iff.mp H
                          obtain ⟨t182, A400, H⟩ := H
                          replace H : (if (((((⟨#[115, 116, 97, 116, 32]⟩ : ByteArray) ++ t180) ++ (⟨#[32]⟩ : ByteArray)) ++ t181) ++ (⟨#[32]⟩ : ByteArray)).size + t182.size ≤ 9223372036854775807 then (if ((((((⟨#[115, 116, 97, 116, 32]⟩ : ByteArray) ++ t180) ++ (⟨#[32]⟩ : ByteArray)) ++ t181) ++ (⟨#[32]⟩ : ByteArray)) ++ t182).size + 1 ≤ 9223372036854775807 then ((impl_dec.f a1_7).bind fun t183 => (if (((((((⟨#[115, 116, 97, 116, 32]⟩ : ByteArray) ++ t180) ++ (⟨#[32]⟩ : ByteArray)) ++ t181) ++ (⟨#[32]⟩ : ByteArray)) ++ t182) ++ (⟨#[32]⟩ : ByteArray)).size + t183.size ≤ 9223372036854775807 then (some ((((((((⟨#[115, 116, 97, 116, 32]⟩ : ByteArray) ++ t180) ++ (⟨#[32]⟩ : ByteArray)) ++ t181) ++ (⟨#[32]⟩ : ByteArray)) ++ t182) ++ (⟨#[32]⟩ : ByteArray)) ++ t183)) else (none))) else (none)) else (none)) = some r := H
                          have A40 := Aside0.mk A400
                          clear A400
                          by_cases c41 : (((((⟨#[115, 116, 97, 116, 32]⟩ : ByteArray) ++ t180) ++ (⟨#[32]⟩ : ByteArray)) ++ t181) ++ (⟨#[32]⟩ : ByteArray)).size + t182.size ≤ 9223372036854775807
                          · rw [if_pos c41] at H
                            have c41b0 := eq_true c41
                            have c41n : 5 + t180.size + 1 + t181.size + 1 + t182.size ≤ 9223372036854775807 := by have h_ := c41; simp only [ByteArray.size_append] at h_; first | exact h_ | (simp at h_ ⊢; omega)
                            have c41n0 := eq_true c41n
                            have c41n1 : decide (5 + t180.size + 1 + t181.size + 1 + t182.size ≤ 9223372036854775807) = true := decide_eq_true c41n
                            have c41n2 : (9223372036854775807 < 5 + t180.size + 1 + t181.size + 1 + t182.size) = False := eq_false (Nat.not_lt.2 c41n)
                            have c41b1 : decide ((((((⟨#[115, 116, 97, 116, 32]⟩ : ByteArray) ++ t180) ++ (⟨#[32]⟩ : ByteArray)) ++ t181) ++ (⟨#[32]⟩ : ByteArray)).size + t182.size ≤ 9223372036854775807) = true := decide_eq_true c41
                            try have c41b2 : (9223372036854775807 < (((((⟨#[115, 116, 97, 116, 32]⟩ : ByteArray) ++ t180) ++ (⟨#[32]⟩ : ByteArray)) ++ t181) ++ (⟨#[32]⟩ : ByteArray)).size + t182.size) = False := eq_false (Nat.not_lt.2 c41)
                            by_cases c42 : ((((((⟨#[115, 116, 97, 116, 32]⟩ : ByteArray) ++ t180) ++ (⟨#[32]⟩ : ByteArray)) ++ t181) ++ (⟨#[32]⟩ : ByteArray)) ++ t182).size + 1 ≤ 9223372036854775807
                            · rw [if_pos c42] at H
                              have c42b0 := eq_true c42
                              have c42n : 5 + t180.size + 1 + t181.size + 1 + t182.size + 1 ≤ 9223372036854775807 := by have h_ := c42; simp only [ByteArray.size_append] at h_; first | exact h_ | (simp at h_ ⊢; omega)
                              have c42n0 := eq_true c42n
                              have c42n1 : decide (5 + t180.size + 1 + t181.size + 1 + t182.size + 1 ≤ 9223372036854775807) = true := decide_eq_true c42n
                              have c42n2 : (9223372036854775807 < 5 + t180.size + 1 + t181.size + 1 + t182.size + 1) = False := eq_false (Nat.not_lt.2 c42n)
                              have c42b1 : decide (((((((⟨#[115, 116, 97, 116, 32]⟩ : ByteArray) ++ t180) ++ (⟨#[32]⟩ : ByteArray)) ++ t181) ++ (⟨#[32]⟩ : ByteArray)) ++ t182).size + 1 ≤ 9223372036854775807) = true := decide_eq_true c42
                              try have c42b2 : (9223372036854775807 < ((((((⟨#[115, 116, 97, 116, 32]⟩ : ByteArray) ++ t180) ++ (⟨#[32]⟩ : ByteArray)) ++ t181) ++ (⟨#[32]⟩ : ByteArray)) ++ t182).size + 1) = False := eq_false (Nat.not_lt.2 c42)
                              replace H := Option.bind_eq_some_iff.mp H
                              obtain ⟨t183, A430, H⟩ := H
                              replace H : (if (((((((⟨#[115, 116, 97, 116, 32]⟩ : ByteArray) ++ t180) ++ (⟨#[32]⟩ : ByteArray)) ++ t181) ++ (⟨#[32]⟩ : ByteArray)) ++ t182) ++ (⟨#[32]⟩ : ByteArray)).size + t183.size ≤ 9223372036854775807 then (some ((((((((⟨#[115, 116, 97, 116, 32]⟩ : ByteArray) ++ t180) ++ (⟨#[32]⟩ : ByteArray)) ++ t181) ++ (⟨#[32]⟩ : ByteArray)) ++ t182) ++ (⟨#[32]⟩ : ByteArray)) ++ t183)) else (none)) = some r := H
                              have A43 := Aside0.mk A430
                              clear A430
                              by_cases c44 : (((((((⟨#[115, 116, 97, 116, 32]⟩ : ByteArray) ++ t180) ++ (⟨#[32]⟩ : ByteArray)) ++ t181) ++ (⟨#[32]⟩ : ByteArray)) ++ t182) ++ (⟨#[32]⟩ : ByteArray)).size + t183.size ≤ 9223372036854775807
                              · rw [if_pos c44] at H
                                have c44b0 := eq_true c44
                                have c44n : 5 + t180.size + 1 + t181.size + 1 + t182.size + 1 + t183.size ≤ 9223372036854775807 := by have h_ := c44; simp only [ByteArray.size_append] at h_; first | exact h_ | (simp at h_ ⊢; omega)
                                have c44n0 := eq_true c44n
                                have c44n1 : decide (5 + t180.size + 1 + t181.size + 1 + t182.size + 1 + t183.size ≤ 9223372036854775807) = true := decide_eq_true c44n
                                have c44n2 : (9223372036854775807 < 5 + t180.size + 1 + t181.size + 1 + t182.size + 1 + t183.size) = False := eq_false (Nat.not_lt.2 c44n)
                                have c44b1 : decide ((((((((⟨#[115, 116, 97, 116, 32]⟩ : ByteArray) ++ t180) ++ (⟨#[32]⟩ : ByteArray)) ++ t181) ++ (⟨#[32]⟩ : ByteArray)) ++ t182) ++ (⟨#[32]⟩ : ByteArray)).size + t183.size ≤ 9223372036854775807) = true := decide_eq_true c44
                                try have c44b2 : (9223372036854775807 < (((((((⟨#[115, 116, 97, 116, 32]⟩ : ByteArray) ++ t180) ++ (⟨#[32]⟩ : ByteArray)) ++ t181) ++ (⟨#[32]⟩ : ByteArray)) ++ t182) ++ (⟨#[32]⟩ : ByteArray)).size + t183.size) = False := eq_false (Nat.not_lt.2 c44)
                                obtain rfl := Option.some.inj H
                                try go_wp2
                                have n0_ := Aside0.mk (blk_drew BK174.out)
                                have n1_ := Aside0.mk (blk_drew BK175.out)
                                have n2_ := Aside0.mk (blk_drew BK177.out)
                                have n3_ := Aside0.mk (below_drew1 HB.out)
                                clear BK174
                                clear BK175
                                clear BK177
                                clear HB
                                have BK174 := n0_
                                have BK175 := n1_
                                have BK177 := n2_
                                have HB := n3_
                                clear n0_ n1_ n2_ n3_
                                refine start_ (n := 20) (S := fun w' => w'.cell? ⟨gb177, 0, none⟩ = some (.int .i64 a1_4) ∧ w'.cell? ⟨gb177, 1, none⟩ = some (.int .i64 a1_5) ∧ w'.cell? ⟨gb177, 2, none⟩ = some (.int .i64 a1_6) ∧ w'.cell? ⟨gb177, 3, none⟩ = some (.int .i64 a1_7)) (ds := []) #[false, false, false, false, false, false, false, false, false, false, false, false, false, false, false, false, false, false, false, false] (by kernel_rfl) rfl rfl ⟨(blk_cell BK177.out 0).trans rfl, (blk_cell BK177.out 1).trans rfl, (blk_cell BK177.out 2).trans rfl, (blk_cell BK177.out 3).trans rfl⟩ (fun hHeld => ?_); refine with_tabW impl_FormatAnswer.tab14 impl_FormatAnswer.bits14 (fun HT_ HW_ => ?_)
                                generalize wc.drew = w45 at BK174 BK175 BK177 HB hHeld ⊢
                                refine pure_ (i := 0) (N := some 38) (v := ?_) (a' := ?_) #[true, false, false, false, false, false, false, false, false, false, false, false, false, false, false, false, false, false, false, false] rfl rfl (any_of HT_.out (by kernel_rfl)) (fun _ _ _ h => h) (Or.inl ⟨by rfl, ?_⟩) ?_ ?_
                                rotate_left
                                · intro w'
                                  go_simp
                                  with_reducible rfl
                                rotate_left
                                · simp only [Act.put, List.setIfInBounds_toArray, List.set_cons_zero, List.set_cons_succ, i64_w, i32_w]
                                  rfl
                                refine pure_ (i := 5) (N := some 43) (v := ?_) (a' := ?_) #[true, false, false, false, false, true, false, false, false, false, false, false, false, false, false, false, false, false, false, false] rfl rfl (any_of HT_.out (by kernel_rfl)) (fun _ _ _ h => h) (Or.inl ⟨by rfl, ?_⟩) ?_ ?_
                                rotate_left
                                · intro w'
                                  go_simp
                                  with_reducible rfl
                                rotate_left
                                · simp only [Act.put, List.setIfInBounds_toArray, List.set_cons_zero, List.set_cons_succ, i64_w, i32_w]
                                  rfl
                                refine pure_ (i := 10) (N := some 48) (v := ?_) (a' := ?_) #[true, false, false, false, false, true, false, false, false, false, true, false, false, false, false, false, false, false, false, false] rfl rfl (any_of HT_.out (by kernel_rfl)) (fun _ _ _ h => h) (Or.inl ⟨by rfl, ?_⟩) ?_ ?_
                                rotate_left
                                · intro w'
                                  go_simp
                                  with_reducible rfl
                                rotate_left
                                · simp only [Act.put, List.setIfInBounds_toArray, List.set_cons_zero, List.set_cons_succ, i64_w, i32_w]
                                  rfl
                                refine pure_ (i := 15) (N := some 53) (v := ?_) (a' := ?_) #[true, false, false, false, false, true, false, false, false, false, true, false, false, false, false, true, false, false, false, false] rfl rfl (any_of HT_.out (by kernel_rfl)) (fun _ _ _ h => h) (Or.inl ⟨by rfl, ?_⟩) ?_ ?_
                                rotate_left
                                · intro w'
                                  go_simp
                                  with_reducible rfl
                                rotate_left
                                · simp only [Act.put, List.setIfInBounds_toArray, List.set_cons_zero, List.set_cons_succ, i64_w, i32_w]
                                  rfl
                                refine take_ (i := 1) (N := some 39) (v := ?_) (a' := ?_) #[true, true, false, false, false, true, false, false, false, false, true, false, false, false, false, true, false, false, false, false] rfl rfl (take_ofW HT_.out HW_.out (by kernel_rfl)) (fun _ _ _ h => h) (Or.inl ⟨by rfl, ?_⟩) hHeld ?_ ?_
                                rotate_left
                                · rintro w' ⟨s0, s1, s2, s3⟩
                                  go_simp
                                  with_reducible rfl
                                rotate_left
                                · simp only [Act.put, List.setIfInBounds_toArray, List.set_cons_zero, List.set_cons_succ, i64_w, i32_w]
                                  rfl
                                refine take_ (i := 6) (N := some 44) (v := ?_) (a' := ?_) #[true, true, false, false, false, true, true, false, false, false, true, false, false, false, false, true, false, false, false, false] rfl rfl (take_ofW HT_.out HW_.out (by kernel_rfl)) (fun _ _ _ h => h) (Or.inl ⟨by rfl, ?_⟩) hHeld ?_ ?_
                                rotate_left
                                · rintro w' ⟨s0, s1, s2, s3⟩
                                  go_simp
                                  with_reducible rfl
                                rotate_left
                                · simp only [Act.put, List.setIfInBounds_toArray, List.set_cons_zero, List.set_cons_succ, i64_w, i32_w]
                                  rfl
                                refine take_ (i := 11) (N := some 49) (v := ?_) (a' := ?_) #[true, true, false, false, false, true, true, false, false, false, true, true, false, false, false, true, false, false, false, false] rfl rfl (take_ofW HT_.out HW_.out (by kernel_rfl)) (fun _ _ _ h => h) (Or.inl ⟨by rfl, ?_⟩) hHeld ?_ ?_
                                rotate_left
                                · rintro w' ⟨s0, s1, s2, s3⟩
                                  go_simp
                                  with_reducible rfl
                                rotate_left
                                · simp only [Act.put, List.setIfInBounds_toArray, List.set_cons_zero, List.set_cons_succ, i64_w, i32_w]
                                  rfl
                                refine take_ (i := 16) (N := some 54) (v := ?_) (a' := ?_) #[true, true, false, false, false, true, true, false, false, false, true, true, false, false, false, true, true, false, false, false] rfl rfl (take_ofW HT_.out HW_.out (by kernel_rfl)) (fun _ _ _ h => h) (Or.inl ⟨by rfl, ?_⟩) hHeld ?_ ?_
                                rotate_left
                                · rintro w' ⟨s0, s1, s2, s3⟩
                                  go_simp
                                  with_reducible rfl
                                rotate_left
                                · simp only [Act.put, List.setIfInBounds_toArray, List.set_cons_zero, List.set_cons_succ, i64_w, i32_w]
                                  rfl
                                refine one_ (i := 2) (N := some 40) #[true, true, true, false, false, true, true, false, false, false, true, true, false, false, false, true, true, false, false, false] rfl rfl (one_of HT_.out (by kernel_rfl)) (by decide) (fun K hK => ?_)
                                refine goes_ Tryd.func53 (by kernel_rfl) rfl #[.int .i64 a1_4] (by rfl) rfl rfl (by (try simp only [List.map_toArray, List.map_cons, List.map_nil]); first | done | rfl | (simp only [List.length_drop, List.length_take]; rfl)) ?_
                                with_reducible refine (impl_dec.calls a1_4 t180 _ A34.out (hG0.below (by repeat (first | (with_reducible first | exact HB.out | apply below_alloc | apply pw_below_drewN | apply below_drew1 | refine below_set ?_ GE174.out | refine below_set ?_ GE175.out | refine below_set ?_ GE177.out) | exact HB.out)))).mono ?_
                                rintro e w46 ⟨rfl, hb⟩
                                refine ⟨_, rfl, ?_⟩
                                have n0_ := Aside0.mk (blk_below (g := gb174) (o := .cells #[.int .i64 a0_0, .string a0_1, .string a0_2, .int .i64 a0_3, .int .i64 a0_4, .int .i64 a0_5, .string a0_6] 24 (0, 0)) (by (with_reducible repeat (first | refine blk_drewN ?_ _ | refine blk_drew ?_ | refine blk_alloc ?_ _)); exact BK174.out) hb)
                                have n1_ := Aside0.mk (blk_below (g := gb175) (o := .cells #[.int .i64 a1_0, .string a1_1, .slice A1_2 l1_2.length c1_2, .int .i64 a1_3, .int .i64 a1_4, .int .i64 a1_5, .int .i64 a1_6, .int .i64 a1_7, .int .i64 a1_8, .int .i64 a1_9, .int .i64 a1_10, .int .i64 a1_11, .int .i64 a1_12] 60 (0, 0)) (by (with_reducible repeat (first | refine blk_drewN ?_ _ | refine blk_drew ?_ | refine blk_alloc ?_ _)); exact BK175.out) hb)
                                have n2_ := Aside0.mk (blk_below (g := gb177) (o := .cells #[.int .i64 a1_4, .int .i64 a1_5, .int .i64 a1_6, .int .i64 a1_7] 57 (0, 0)) (by (with_reducible repeat (first | refine blk_drewN ?_ _ | refine blk_drew ?_ | refine blk_alloc ?_ _)); exact BK177.out) hb)
                                have n3_ := Aside0.mk (below_step (by repeat (first | (with_reducible first | exact HB.out | apply below_alloc | apply pw_below_drewN | apply below_drew1 | refine below_set ?_ GE174.out | refine below_set ?_ GE175.out | refine below_set ?_ GE177.out) | exact HB.out)) hb)
                                clear BK174
                                clear BK175
                                clear BK177
                                clear HB
                                have BK174 := n0_
                                have BK175 := n1_
                                have BK177 := n2_
                                have HB := n3_
                                clear n0_ n1_ n2_ n3_
                                (try clear hb)
                                (try clear hb2)
                                (try clear hk)
                                (try clear hi)
                                refine hK.out _ _ ⟨(blk_cell BK177.out 0).trans rfl, (blk_cell BK177.out 1).trans rfl, (blk_cell BK177.out 2).trans rfl, (blk_cell BK177.out 3).trans rfl⟩ (fun hHeld => ?_)
                                clear hK K
                                refine norm_ (a' := ?_) ?_ ?_
                                rotate_left
                                · show Act.put _ (some 40) _ = _
                                  simp only [Act.put, List.setIfInBounds_toArray, List.set_cons_zero, List.set_cons_succ, i64_w, i32_w]
                                  rfl
                                refine pure_ (i := 3) (N := some 41) (v := ?_) (a' := ?_) #[true, true, true, true, false, true, true, false, false, false, true, true, false, false, false, true, true, false, false, false] rfl rfl (any_of HT_.out (by kernel_rfl)) (fun _ _ _ h => h) (Or.inl ⟨by rfl, ?_⟩) ?_ ?_
                                rotate_left
                                · intro w'
                                  go_simp
                                  with_reducible rfl
                                rotate_left
                                · simp only [Act.put, List.setIfInBounds_toArray, List.set_cons_zero, List.set_cons_succ, i64_w, i32_w]
                                  rfl
                                refine pure_ (i := 4) (N := some 42) (v := ?_) (a' := ?_) #[true, true, true, true, true, true, true, false, false, false, true, true, false, false, false, true, true, false, false, false] rfl rfl (any_of HT_.out (by kernel_rfl)) (fun _ _ _ h => h) (Or.inl ⟨by rfl, ?_⟩) ?_ ?_
                                rotate_left
                                · intro w'
                                  go_simp
                                  with_reducible rfl
                                rotate_left
                                · simp only [Act.put, List.setIfInBounds_toArray, List.set_cons_zero, List.set_cons_succ, i64_w, i32_w]
                                  rfl
                                refine one_ (i := 7) (N := some 45) #[true, true, true, true, true, true, true, true, false, false, true, true, false, false, false, true, true, false, false, false] rfl rfl (one_of HT_.out (by kernel_rfl)) (by decide) (fun K hK => ?_)
                                refine goes_ Tryd.func53 (by kernel_rfl) rfl #[.int .i64 a1_5] (by rfl) rfl rfl (by (try simp only [List.map_toArray, List.map_cons, List.map_nil]); first | done | rfl | (simp only [List.length_drop, List.length_take]; rfl)) ?_
                                with_reducible refine (impl_dec.calls a1_5 t181 _ A37.out (hG0.below (by repeat (first | (with_reducible first | exact HB.out | apply below_alloc | apply pw_below_drewN | apply below_drew1 | refine below_set ?_ GE174.out | refine below_set ?_ GE175.out | refine below_set ?_ GE177.out) | exact HB.out)))).mono ?_
                                rintro e w47 ⟨rfl, hb⟩
                                refine ⟨_, rfl, ?_⟩
                                have n0_ := Aside0.mk (blk_below (g := gb174) (o := .cells #[.int .i64 a0_0, .string a0_1, .string a0_2, .int .i64 a0_3, .int .i64 a0_4, .int .i64 a0_5, .string a0_6] 24 (0, 0)) (by (with_reducible repeat (first | refine blk_drewN ?_ _ | refine blk_drew ?_ | refine blk_alloc ?_ _)); exact BK174.out) hb)
                                have n1_ := Aside0.mk (blk_below (g := gb175) (o := .cells #[.int .i64 a1_0, .string a1_1, .slice A1_2 l1_2.length c1_2, .int .i64 a1_3, .int .i64 a1_4, .int .i64 a1_5, .int .i64 a1_6, .int .i64 a1_7, .int .i64 a1_8, .int .i64 a1_9, .int .i64 a1_10, .int .i64 a1_11, .int .i64 a1_12] 60 (0, 0)) (by (with_reducible repeat (first | refine blk_drewN ?_ _ | refine blk_drew ?_ | refine blk_alloc ?_ _)); exact BK175.out) hb)
                                have n2_ := Aside0.mk (blk_below (g := gb177) (o := .cells #[.int .i64 a1_4, .int .i64 a1_5, .int .i64 a1_6, .int .i64 a1_7] 57 (0, 0)) (by (with_reducible repeat (first | refine blk_drewN ?_ _ | refine blk_drew ?_ | refine blk_alloc ?_ _)); exact BK177.out) hb)
                                have n3_ := Aside0.mk (below_step (by repeat (first | (with_reducible first | exact HB.out | apply below_alloc | apply pw_below_drewN | apply below_drew1 | refine below_set ?_ GE174.out | refine below_set ?_ GE175.out | refine below_set ?_ GE177.out) | exact HB.out)) hb)
                                clear BK174
                                clear BK175
                                clear BK177
                                clear HB
                                have BK174 := n0_
                                have BK175 := n1_
                                have BK177 := n2_
                                have HB := n3_
                                clear n0_ n1_ n2_ n3_
                                (try clear hb)
                                (try clear hb2)
                                (try clear hk)
                                (try clear hi)
                                refine hK.out _ _ ⟨(blk_cell BK177.out 0).trans rfl, (blk_cell BK177.out 1).trans rfl, (blk_cell BK177.out 2).trans rfl, (blk_cell BK177.out 3).trans rfl⟩ (fun hHeld => ?_)
                                clear hK K
                                refine norm_ (a' := ?_) ?_ ?_
                                rotate_left
                                · show Act.put _ (some 45) _ = _
                                  simp only [Act.put, List.setIfInBounds_toArray, List.set_cons_zero, List.set_cons_succ, i64_w, i32_w]
                                  rfl
                                refine pure_ (i := 8) (N := some 46) (v := ?_) (a' := ?_) #[true, true, true, true, true, true, true, true, true, false, true, true, false, false, false, true, true, false, false, false] rfl rfl (any_of HT_.out (by kernel_rfl)) (fun _ _ _ h => h) (Or.inl ⟨by rfl, ?_⟩) ?_ ?_
                                rotate_left
                                · intro w'
                                  go_simp
                                  with_reducible rfl
                                rotate_left
                                · simp only [Act.put, List.setIfInBounds_toArray, List.set_cons_zero, List.set_cons_succ, i64_w, i32_w]
                                  rfl
                                refine pure_ (i := 9) (N := some 47) (v := ?_) (a' := ?_) #[true, true, true, true, true, true, true, true, true, true, true, true, false, false, false, true, true, false, false, false] rfl rfl (any_of HT_.out (by kernel_rfl)) (fun _ _ _ h => h) (Or.inl ⟨by rfl, ?_⟩) ?_ ?_
                                rotate_left
                                · intro w'
                                  go_simp
                                  with_reducible rfl
                                rotate_left
                                · simp only [Act.put, List.setIfInBounds_toArray, List.set_cons_zero, List.set_cons_succ, i64_w, i32_w]
                                  rfl
                                refine one_ (i := 12) (N := some 50) #[true, true, true, true, true, true, true, true, true, true, true, true, true, false, false, true, true, false, false, false] rfl rfl (one_of HT_.out (by kernel_rfl)) (by decide) (fun K hK => ?_)
                                refine goes_ Tryd.func53 (by kernel_rfl) rfl #[.int .i64 a1_6] (by rfl) rfl rfl (by (try simp only [List.map_toArray, List.map_cons, List.map_nil]); first | done | rfl | (simp only [List.length_drop, List.length_take]; rfl)) ?_
                                with_reducible refine (impl_dec.calls a1_6 t182 _ A40.out (hG0.below (by repeat (first | (with_reducible first | exact HB.out | apply below_alloc | apply pw_below_drewN | apply below_drew1 | refine below_set ?_ GE174.out | refine below_set ?_ GE175.out | refine below_set ?_ GE177.out) | exact HB.out)))).mono ?_
                                rintro e w48 ⟨rfl, hb⟩
                                refine ⟨_, rfl, ?_⟩
                                have n0_ := Aside0.mk (blk_below (g := gb174) (o := .cells #[.int .i64 a0_0, .string a0_1, .string a0_2, .int .i64 a0_3, .int .i64 a0_4, .int .i64 a0_5, .string a0_6] 24 (0, 0)) (by (with_reducible repeat (first | refine blk_drewN ?_ _ | refine blk_drew ?_ | refine blk_alloc ?_ _)); exact BK174.out) hb)
                                have n1_ := Aside0.mk (blk_below (g := gb175) (o := .cells #[.int .i64 a1_0, .string a1_1, .slice A1_2 l1_2.length c1_2, .int .i64 a1_3, .int .i64 a1_4, .int .i64 a1_5, .int .i64 a1_6, .int .i64 a1_7, .int .i64 a1_8, .int .i64 a1_9, .int .i64 a1_10, .int .i64 a1_11, .int .i64 a1_12] 60 (0, 0)) (by (with_reducible repeat (first | refine blk_drewN ?_ _ | refine blk_drew ?_ | refine blk_alloc ?_ _)); exact BK175.out) hb)
                                have n2_ := Aside0.mk (blk_below (g := gb177) (o := .cells #[.int .i64 a1_4, .int .i64 a1_5, .int .i64 a1_6, .int .i64 a1_7] 57 (0, 0)) (by (with_reducible repeat (first | refine blk_drewN ?_ _ | refine blk_drew ?_ | refine blk_alloc ?_ _)); exact BK177.out) hb)
                                have n3_ := Aside0.mk (below_step (by repeat (first | (with_reducible first | exact HB.out | apply below_alloc | apply pw_below_drewN | apply below_drew1 | refine below_set ?_ GE174.out | refine below_set ?_ GE175.out | refine below_set ?_ GE177.out) | exact HB.out)) hb)
                                clear BK174
                                clear BK175
                                clear BK177
                                clear HB
                                have BK174 := n0_
                                have BK175 := n1_
                                have BK177 := n2_
                                have HB := n3_
                                clear n0_ n1_ n2_ n3_
                                (try clear hb)
                                (try clear hb2)
                                (try clear hk)
                                (try clear hi)
                                refine hK.out _ _ ⟨(blk_cell BK177.out 0).trans rfl, (blk_cell BK177.out 1).trans rfl, (blk_cell BK177.out 2).trans rfl, (blk_cell BK177.out 3).trans rfl⟩ (fun hHeld => ?_)
                                clear hK K
                                refine norm_ (a' := ?_) ?_ ?_
                                rotate_left
                                · show Act.put _ (some 50) _ = _
                                  simp only [Act.put, List.setIfInBounds_toArray, List.set_cons_zero, List.set_cons_succ, i64_w, i32_w]
                                  rfl
                                refine pure_ (i := 13) (N := some 51) (v := ?_) (a' := ?_) #[true, true, true, true, true, true, true, true, true, true, true, true, true, true, false, true, true, false, false, false] rfl rfl (any_of HT_.out (by kernel_rfl)) (fun _ _ _ h => h) (Or.inl ⟨by rfl, ?_⟩) ?_ ?_
                                rotate_left
                                · intro w'
                                  go_simp
                                  with_reducible rfl
                                rotate_left
                                · simp only [Act.put, List.setIfInBounds_toArray, List.set_cons_zero, List.set_cons_succ, i64_w, i32_w]
                                  rfl
                                refine pure_ (i := 14) (N := some 52) (v := ?_) (a' := ?_) #[true, true, true, true, true, true, true, true, true, true, true, true, true, true, true, true, true, false, false, false] rfl rfl (any_of HT_.out (by kernel_rfl)) (fun _ _ _ h => h) (Or.inl ⟨by rfl, ?_⟩) ?_ ?_
                                rotate_left
                                · intro w'
                                  go_simp
                                  with_reducible rfl
                                rotate_left
                                · simp only [Act.put, List.setIfInBounds_toArray, List.set_cons_zero, List.set_cons_succ, i64_w, i32_w]
                                  rfl
                                refine one_ (i := 17) (N := some 55) #[true, true, true, true, true, true, true, true, true, true, true, true, true, true, true, true, true, true, false, false] rfl rfl (one_of HT_.out (by kernel_rfl)) (by decide) (fun K hK => ?_)
                                refine goes_ Tryd.func53 (by kernel_rfl) rfl #[.int .i64 a1_7] (by rfl) rfl rfl (by (try simp only [List.map_toArray, List.map_cons, List.map_nil]); first | done | rfl | (simp only [List.length_drop, List.length_take]; rfl)) ?_
                                with_reducible refine (impl_dec.calls a1_7 t183 _ A43.out (hG0.below (by repeat (first | (with_reducible first | exact HB.out | apply below_alloc | apply pw_below_drewN | apply below_drew1 | refine below_set ?_ GE174.out | refine below_set ?_ GE175.out | refine below_set ?_ GE177.out) | exact HB.out)))).mono ?_
                                rintro e w49 ⟨rfl, hb⟩
                                refine ⟨_, rfl, ?_⟩
                                have n0_ := Aside0.mk (blk_below (g := gb174) (o := .cells #[.int .i64 a0_0, .string a0_1, .string a0_2, .int .i64 a0_3, .int .i64 a0_4, .int .i64 a0_5, .string a0_6] 24 (0, 0)) (by (with_reducible repeat (first | refine blk_drewN ?_ _ | refine blk_drew ?_ | refine blk_alloc ?_ _)); exact BK174.out) hb)
                                have n1_ := Aside0.mk (blk_below (g := gb175) (o := .cells #[.int .i64 a1_0, .string a1_1, .slice A1_2 l1_2.length c1_2, .int .i64 a1_3, .int .i64 a1_4, .int .i64 a1_5, .int .i64 a1_6, .int .i64 a1_7, .int .i64 a1_8, .int .i64 a1_9, .int .i64 a1_10, .int .i64 a1_11, .int .i64 a1_12] 60 (0, 0)) (by (with_reducible repeat (first | refine blk_drewN ?_ _ | refine blk_drew ?_ | refine blk_alloc ?_ _)); exact BK175.out) hb)
                                have n2_ := Aside0.mk (blk_below (g := gb177) (o := .cells #[.int .i64 a1_4, .int .i64 a1_5, .int .i64 a1_6, .int .i64 a1_7] 57 (0, 0)) (by (with_reducible repeat (first | refine blk_drewN ?_ _ | refine blk_drew ?_ | refine blk_alloc ?_ _)); exact BK177.out) hb)
                                have n3_ := Aside0.mk (below_step (by repeat (first | (with_reducible first | exact HB.out | apply below_alloc | apply pw_below_drewN | apply below_drew1 | refine below_set ?_ GE174.out | refine below_set ?_ GE175.out | refine below_set ?_ GE177.out) | exact HB.out)) hb)
                                clear BK174
                                clear BK175
                                clear BK177
                                clear HB
                                have BK174 := n0_
                                have BK175 := n1_
                                have BK177 := n2_
                                have HB := n3_
                                clear n0_ n1_ n2_ n3_
                                (try clear hb)
                                (try clear hb2)
                                (try clear hk)
                                (try clear hi)
                                refine hK.out _ _ ⟨(blk_cell BK177.out 0).trans rfl, (blk_cell BK177.out 1).trans rfl, (blk_cell BK177.out 2).trans rfl, (blk_cell BK177.out 3).trans rfl⟩ (fun hHeld => ?_)
                                clear hK K
                                refine norm_ (a' := ?_) ?_ ?_
                                rotate_left
                                · show Act.put _ (some 55) _ = _
                                  simp only [Act.put, List.setIfInBounds_toArray, List.set_cons_zero, List.set_cons_succ, i64_w, i32_w]
                                  rfl
                                refine pure_ (i := 18) (N := some 56) (v := ?_) (a' := ?_) #[true, true, true, true, true, true, true, true, true, true, true, true, true, true, true, true, true, true, true, false] rfl rfl (any_of HT_.out (by kernel_rfl)) (fun _ _ _ h => h) (Or.inl ⟨by rfl, ?_⟩) ?_ ?_
                                rotate_left
                                · intro w'
                                  go_simp
                                  with_reducible rfl
                                rotate_left
                                · simp only [Act.put, List.setIfInBounds_toArray, List.set_cons_zero, List.set_cons_succ, i64_w, i32_w]
                                  rfl
                                refine pure_ (i := 19) (N := some 4) (v := ?_) (a' := ?_) #[true, true, true, true, true, true, true, true, true, true, true, true, true, true, true, true, true, true, true, true] rfl rfl (any_of HT_.out (by kernel_rfl)) (fun _ _ _ h => h) (Or.inl ⟨by rfl, ?_⟩) ?_ ?_
                                rotate_left
                                · intro w'
                                  go_simp
                                  with_reducible rfl
                                rotate_left
                                · simp only [Act.put, List.setIfInBounds_toArray, List.set_cons_zero, List.set_cons_succ, i64_w, i32_w]
                                  rfl
                                refine done_ (done_of HT_.out (by kernel_rfl)) ?_
                                try go_wp2
                                go_ret
                                exact ⟨by first | rfl | (simp [errW_none, errW_some] <;> rfl) | (simp [*, errW_none, errW_some] <;> rfl), by repeat (first | (with_reducible first | exact HB.out | apply below_alloc | apply pw_below_drewN | apply below_drew1 | refine below_set ?_ GE174.out | refine below_set ?_ GE175.out | refine below_set ?_ GE177.out) | exact HB.out)⟩
                              · rw [if_neg c44] at H
                                exact absurd H (by simp)
                            · rw [if_neg c42] at H
                              exact absurd H (by simp)
                          · rw [if_neg c41] at H
                            exact absurd H (by simp)
                        · rw [if_neg c39] at H
                          exact absurd H (by simp)
                      · rw [if_neg c38] at H
                        exact absurd H (by simp)
                    · rw [if_neg c36] at H
                      exact absurd H (by simp)
                  · rw [if_neg c35] at H
                    exact absurd H (by simp)
                · replace c33 := Bool.eq_false_iff.mpr c33
                  subst c33
                  have H1 : (if a0_0 = 20 then ((some (([(⟨#[110, 97, 109, 101, 115]⟩ : ByteArray)] : List ByteArray) : List ByteArray)).bind fun y184 => (if y184.length + l1_2.length < 8796093022208 then ((strings_Join.f (y184 ++ l1_2) (⟨#[32]⟩ : ByteArray)).bind fun t190 => (some t190)) else (none))) else (if a0_0 = 24 then ((impl_dec.f a1_6).bind fun t191 => (if 6 + t191.size ≤ 9223372036854775807 then (if ((⟨#[115, 112, 97, 99, 101, 32]⟩ : ByteArray) ++ t191).size + 1 ≤ 9223372036854775807 then ((impl_dec.f a1_7).bind fun t192 => (if (((⟨#[115, 112, 97, 99, 101, 32]⟩ : ByteArray) ++ t191) ++ (⟨#[32]⟩ : ByteArray)).size + t192.size ≤ 9223372036854775807 then (some ((((⟨#[115, 112, 97, 99, 101, 32]⟩ : ByteArray) ++ t191) ++ (⟨#[32]⟩ : ByteArray)) ++ t192)) else (none))) else (none)) else (none))) else (if a0_0 = 25 then ((impl_dec.f a1_8).bind fun t194 => (if 4 + t194.size ≤ 9223372036854775807 then (if ((⟨#[108, 111, 103, 32]⟩ : ByteArray) ++ t194).size + 1 ≤ 9223372036854775807 then ((impl_dec.f a1_9).bind fun t195 => (if (((⟨#[108, 111, 103, 32]⟩ : ByteArray) ++ t194) ++ (⟨#[32]⟩ : ByteArray)).size + t195.size ≤ 9223372036854775807 then (if ((((⟨#[108, 111, 103, 32]⟩ : ByteArray) ++ t194) ++ (⟨#[32]⟩ : ByteArray)) ++ t195).size + 1 ≤ 9223372036854775807 then ((impl_dec.f a1_10).bind fun t196 => (if (((((⟨#[108, 111, 103, 32]⟩ : ByteArray) ++ t194) ++ (⟨#[32]⟩ : ByteArray)) ++ t195) ++ (⟨#[32]⟩ : ByteArray)).size + t196.size ≤ 9223372036854775807 then (if ((((((⟨#[108, 111, 103, 32]⟩ : ByteArray) ++ t194) ++ (⟨#[32]⟩ : ByteArray)) ++ t195) ++ (⟨#[32]⟩ : ByteArray)) ++ t196).size + 1 ≤ 9223372036854775807 then ((impl_dec.f a1_11).bind fun t197 => (if (((((((⟨#[108, 111, 103, 32]⟩ : ByteArray) ++ t194) ++ (⟨#[32]⟩ : ByteArray)) ++ t195) ++ (⟨#[32]⟩ : ByteArray)) ++ t196) ++ (⟨#[32]⟩ : ByteArray)).size + t197.size ≤ 9223372036854775807 then (if ((((((((⟨#[108, 111, 103, 32]⟩ : ByteArray) ++ t194) ++ (⟨#[32]⟩ : ByteArray)) ++ t195) ++ (⟨#[32]⟩ : ByteArray)) ++ t196) ++ (⟨#[32]⟩ : ByteArray)) ++ t197).size + 1 ≤ 9223372036854775807 then ((impl_dec.f a1_12).bind fun t198 => (if (((((((((⟨#[108, 111, 103, 32]⟩ : ByteArray) ++ t194) ++ (⟨#[32]⟩ : ByteArray)) ++ t195) ++ (⟨#[32]⟩ : ByteArray)) ++ t196) ++ (⟨#[32]⟩ : ByteArray)) ++ t197) ++ (⟨#[32]⟩ : ByteArray)).size + t198.size ≤ 9223372036854775807 then (some ((((((((((⟨#[108, 111, 103, 32]⟩ : ByteArray) ++ t194) ++ (⟨#[32]⟩ : ByteArray)) ++ t195) ++ (⟨#[32]⟩ : ByteArray)) ++ t196) ++ (⟨#[32]⟩ : ByteArray)) ++ t197) ++ (⟨#[32]⟩ : ByteArray)) ++ t198)) else (none))) else (none)) else (none))) else (none)) else (none))) else (none)) else (none))) else (none)) else (none))) else (some (⟨#[111, 107]⟩ : ByteArray))))) = some r := by rw [if_neg (show ¬ (false = true) by decide)] at H; exact H
                  clear H
                  have H := H1
                  clear H1
                  by_cases c50 : a0_0 = 20
                  · rw [if_pos c50] at H
                    have c50b0 : (a0_0 == 20) = true := beq_iff_eq.mpr c50
                    have c50b1 : (a0_0 != 20) = false := bne_eq_false_iff_eq.mpr c50
                    clear c50
                    obtain ⟨y184, hy184⟩ : ∃ y_ : List ByteArray, y_ = (([(⟨#[110, 97, 109, 101, 115]⟩ : ByteArray)] : List ByteArray)) := ⟨_, rfl⟩
                    replace H : (if y184.length + l1_2.length < 8796093022208 then ((strings_Join.f (y184 ++ l1_2) (⟨#[32]⟩ : ByteArray)).bind fun t190 => (some t190)) else (none)) = some r := by first | (rw [hy184]; with_reducible exact H) | (have H2_ := (Option.bind_some _ _).symm.trans H; rw [hy184]; with_reducible exact H2_) | (have H2_ := (Option.bind_some _ _).symm.trans H; with_reducible exact H2_) | with_reducible exact H | (rw [hy184]; exact H) | exact H
                    have Ny184 := Aside0.mk hy184
                    clear hy184
                    by_cases c51 : y184.length + l1_2.length < 8796093022208
                    · rw [if_pos c51] at H
                      have LMc51 := Aside0.mk c51
                      clear c51
                      obtain ⟨y187, hy187⟩ : ∃ y_ : List ByteArray, y_ = (y184 ++ l1_2) := ⟨_, rfl⟩
                      replace H : ((strings_Join.f y187 (⟨#[32]⟩ : ByteArray)).bind fun t190 => (some t190)) = some r := by first | (rw [hy187]; with_reducible exact H) | (have H2_ := (Option.bind_some _ _).symm.trans H; rw [hy187]; with_reducible exact H2_) | (have H2_ := (Option.bind_some _ _).symm.trans H; with_reducible exact H2_) | with_reducible exact H | (rw [hy187]; exact H) | exact H
                      have Ny187 := Aside0.mk hy187
                      clear hy187
                      replace H := Option.bind_eq_some_iff.mp H
                      obtain ⟨t190, A520, H⟩ := H
                      replace H : (some t190) = some r := H
                      have A52 := Aside0.mk A520
                      clear A520
                      obtain rfl := Option.some.inj H
                      go_wp2_with (first | ((with_reducible refine gate_dst (N := 59) rfl ?_); refine Kd.R_lit Kd.string _ 9 ?hg (N := 59) ?hd (xs := ([(⟨#[110, 97, 109, 101, 115]⟩ : ByteArray)] : List ByteArray)) (inner := [.string (⟨#[110, 97, 109, 101, 115]⟩ : ByteArray)]) (ok := fun _ => True) (okp := fun _ => True) ?hr ?hp (fun _ hk => hk) trivial (Below.refl _ _) (Nat.le_refl _) (by simp) ?_; (case hd => rfl); (case hg => rfl); (case hr => first | (go_simp; done) | (go_simp; rfl)); (case hp => exact (Reps.one (show Kd.M Kd.string _ _ _ (⟨#[110, 97, 109, 101, 115]⟩ : ByteArray) [.string (⟨#[110, 97, 109, 101, 115]⟩ : ByteArray)] from rfl) (Reps.none _ _))); intro v185 w53 ho54 hb hg_ hnew_; clear hg_ hnew_; (first | rw [← Ny184.out] at ho54 | (simp only [Int.reduceToNat] at ho54; rw [← Ny184.out] at ho54)); have n0_ := Aside0.mk (Kd.R_lower ho54 (below_size (by repeat (first | (with_reducible first | exact HB.out | apply below_alloc | apply pw_below_drewN | apply below_drew1 | refine below_set ?_ GE174.out | refine below_set ?_ GE175.out | refine below_set ?_ GE177.out) | exact HB.out)))); have n1_ := Aside0.mk (blk_below (g := gb174) (o := .cells #[.int .i64 a0_0, .string a0_1, .string a0_2, .int .i64 a0_3, .int .i64 a0_4, .int .i64 a0_5, .string a0_6] 24 (0, 0)) (by (with_reducible repeat (first | refine blk_drewN ?_ _ | refine blk_drew ?_ | refine blk_alloc ?_ _)); exact BK174.out) hb); have n2_ := Aside0.mk (blk_below (g := gb175) (o := .cells #[.int .i64 a1_0, .string a1_1, .slice A1_2 l1_2.length c1_2, .int .i64 a1_3, .int .i64 a1_4, .int .i64 a1_5, .int .i64 a1_6, .int .i64 a1_7, .int .i64 a1_8, .int .i64 a1_9, .int .i64 a1_10, .int .i64 a1_11, .int .i64 a1_12] 60 (0, 0)) (by (with_reducible repeat (first | refine blk_drewN ?_ _ | refine blk_drew ?_ | refine blk_alloc ?_ _)); exact BK175.out) hb); have n3_ := Aside0.mk (blk_below (g := gb177) (o := .cells #[.int .i64 a1_4, .int .i64 a1_5, .int .i64 a1_6, .int .i64 a1_7] 57 (0, 0)) (by (with_reducible repeat (first | refine blk_drewN ?_ _ | refine blk_drew ?_ | refine blk_alloc ?_ _)); exact BK177.out) hb); have n4_ := Aside0.mk (below_step (by repeat (first | (with_reducible first | exact HB.out | apply below_alloc | apply pw_below_drewN | apply below_drew1 | refine below_set ?_ GE174.out | refine below_set ?_ GE175.out | refine below_set ?_ GE177.out) | exact HB.out)) hb); clear BK174; clear BK175; clear BK177; clear HB; have HO186 := n0_; have BK174 := n1_; have BK175 := n2_; have BK177 := n3_; have HB := n4_; clear n0_ n1_ n2_ n3_ n4_; clear hb ho54; have hnb55 := NB175_174.out; have hnc55 := NB174_175.out; have hnb56 := NB175_177.out; have hnc56 := NB177_175.out; have hcz57_0 : w53.cell? ⟨gb175, 0, none⟩ = some (.int .i64 a1_0) := (blk_cell BK175.out 0).trans rfl; have hcz57_1 : w53.cell? ⟨gb175, 1, none⟩ = some (.string a1_1) := (blk_cell BK175.out 1).trans rfl; have hcz57_2 : w53.cell? ⟨gb175, 2, none⟩ = some (.slice A1_2 l1_2.length c1_2) := (blk_cell BK175.out 2).trans rfl; have hcz57_3 : w53.cell? ⟨gb175, 3, none⟩ = some (.int .i64 a1_3) := (blk_cell BK175.out 3).trans rfl; have hcz57_4 : w53.cell? ⟨gb175, 4, none⟩ = some (.int .i64 a1_4) := (blk_cell BK175.out 4).trans rfl; have hcz57_5 : w53.cell? ⟨gb175, 5, none⟩ = some (.int .i64 a1_5) := (blk_cell BK175.out 5).trans rfl; have hcz57_6 : w53.cell? ⟨gb175, 6, none⟩ = some (.int .i64 a1_6) := (blk_cell BK175.out 6).trans rfl; have hcz57_7 : w53.cell? ⟨gb175, 7, none⟩ = some (.int .i64 a1_7) := (blk_cell BK175.out 7).trans rfl; have hcz57_8 : w53.cell? ⟨gb175, 8, none⟩ = some (.int .i64 a1_8) := (blk_cell BK175.out 8).trans rfl; have hcz57_9 : w53.cell? ⟨gb175, 9, none⟩ = some (.int .i64 a1_9) := (blk_cell BK175.out 9).trans rfl; have hcz57_10 : w53.cell? ⟨gb175, 10, none⟩ = some (.int .i64 a1_10) := (blk_cell BK175.out 10).trans rfl; have hcz57_11 : w53.cell? ⟨gb175, 11, none⟩ = some (.int .i64 a1_11) := (blk_cell BK175.out 11).trans rfl; have hcz57_12 : w53.cell? ⟨gb175, 12, none⟩ = some (.int .i64 a1_12) := (blk_cell BK175.out 12).trans rfl; have hfz57_0 := blk_frozen BK175.out 0; have hfz57_1 := blk_frozen BK175.out 1; have hfz57_2 := blk_frozen BK175.out 2; have hfz57_3 := blk_frozen BK175.out 3; have hfz57_4 := blk_frozen BK175.out 4; have hfz57_5 := blk_frozen BK175.out 5; have hfz57_6 := blk_frozen BK175.out 6; have hfz57_7 := blk_frozen BK175.out 7; have hfz57_8 := blk_frozen BK175.out 8; have hfz57_9 := blk_frozen BK175.out 9; have hfz57_10 := blk_frozen BK175.out 10; have hfz57_11 := blk_frozen BK175.out 11; have hfz57_12 := blk_frozen BK175.out 12) | ((with_reducible refine gate_builtin (b := .append) (xs := #[.tmp 59, .tmp 61]) rfl ?_); at_builtin; refine Kd.R_append_rows Kd.string (w0 := w) w.heap.size rfl (.tmp 59) (.tmp 61) 46 9 (.string ⟨#[]⟩) 16 rfl Tryd.underlying46 info9 rfl (by decide) (by omega) v185 y184 l1_2 _ _ _ (fun _ => True) (fun _ => False) rfl rfl ?aO ?aR (fun _ _ h => h) (fun _ h => h.elim) ?aF ?aB ?aS ?aL ?_; (case aR => repeat (first | exact (Kd.C_below HR1_2.out HB.out) | (with_reducible refine Kd.C_alloc ?_ _) | (with_reducible refine Kd.C_drewN ?_ _) | (with_reducible refine Kd.C_drew ?_))); (case aB => exact (by repeat (first | (with_reducible first | exact HB.out | apply below_alloc | apply pw_below_drewN | apply below_drew1 | refine below_set ?_ GE174.out | refine below_set ?_ GE175.out | refine below_set ?_ GE177.out) | exact HB.out))); (case aF => exact (fun _ _ => trivial)); (case aO => exact (by (with_reducible repeat (first | apply Kd.R_alloc | apply Kd.R_drewN | apply Kd.R_drew)); exact HO186.out)); (case aS => exact (below_size (by repeat (first | (with_reducible first | exact HB.out | apply below_alloc | apply pw_below_drewN | apply below_drew1 | refine below_set ?_ GE174.out | refine below_set ?_ GE175.out | refine below_set ?_ GE177.out) | exact HB.out)))); (case aL => have := LMc51.out; omega); intro v188 w58 ho hb hg hat; rw [← Ny187.out] at ho; have n0_ := Aside0.mk (blk_grown (g := gb174) (o := .cells #[.int .i64 a0_0, .string a0_1, .string a0_2, .int .i64 a0_3, .int .i64 a0_4, .int .i64 a0_5, .string a0_6] 24 (0, 0)) (by (with_reducible repeat (first | refine blk_drewN ?_ _ | refine blk_drew ?_ | refine blk_alloc ?_ _)); exact BK174.out) hg (Kd.R_ne HO186.out BK174.out (by decide))); have n1_ := Aside0.mk (blk_grown (g := gb175) (o := .cells #[.int .i64 a1_0, .string a1_1, .slice A1_2 l1_2.length c1_2, .int .i64 a1_3, .int .i64 a1_4, .int .i64 a1_5, .int .i64 a1_6, .int .i64 a1_7, .int .i64 a1_8, .int .i64 a1_9, .int .i64 a1_10, .int .i64 a1_11, .int .i64 a1_12] 60 (0, 0)) (by (with_reducible repeat (first | refine blk_drewN ?_ _ | refine blk_drew ?_ | refine blk_alloc ?_ _)); exact BK175.out) hg (Kd.R_ne HO186.out BK175.out (by decide))); have n2_ := Aside0.mk (blk_grown (g := gb177) (o := .cells #[.int .i64 a1_4, .int .i64 a1_5, .int .i64 a1_6, .int .i64 a1_7] 57 (0, 0)) (by (with_reducible repeat (first | refine blk_drewN ?_ _ | refine blk_drew ?_ | refine blk_alloc ?_ _)); exact BK177.out) hg (Kd.R_ne HO186.out BK177.out (by decide))); have n3_ := Aside0.mk (hb); have n4_ := Aside0.mk (ho); clear BK174; clear BK175; clear BK177; clear HB; clear HO186; have BK174 := n0_; have BK175 := n1_; have BK177 := n2_; have HB := n3_; have HO189 := n4_; clear n0_ n1_ n2_ n3_ n4_; clear ho hb hg hat; obtain ⟨Ao59, co59, eo59⟩ := Kd.R_slice HO189.out; subst eo59) | ((with_reducible refine gate_callee (f := 56) rfl ?_); refine goesL_ (some 63) rfl rfl Tryd.func56 (by kernel_rfl) rfl #[.slice Ao59 y187.length co59, .string (⟨#[32]⟩ : ByteArray)] rfl (by (try simp only [List.map_toArray, List.map_cons, List.map_nil]); first | done | rfl | (simp only [List.length_drop, List.length_take]; rfl)) ?_; (with_reducible refine (strings_Join.calls _ _ y187 (⟨#[32]⟩ : ByteArray) t190 _ ?side1 ?side2 A52.out).mono ?_); (case side1 => repeat (first | exact (Kd.R_reads' HO189.out).2.2 | (with_reducible refine Kd.C_alloc ?_ _) | (with_reducible refine Kd.C_drewN ?_ _) | (with_reducible refine Kd.C_drew ?_))); (case side2 => exact (Kd.R_reads' HO189.out).2.1); rintro e w60 ⟨rfl, hb⟩; refine ⟨_, rfl, ?_⟩; have n0_ := Aside0.mk (Kd.R_below (by (with_reducible repeat (first | apply Kd.R_alloc | apply Kd.R_drewN | apply Kd.R_drew)); exact HO189.out) hb); have n1_ := Aside0.mk (blk_below (g := gb174) (o := .cells #[.int .i64 a0_0, .string a0_1, .string a0_2, .int .i64 a0_3, .int .i64 a0_4, .int .i64 a0_5, .string a0_6] 24 (0, 0)) (by (with_reducible repeat (first | refine blk_drewN ?_ _ | refine blk_drew ?_ | refine blk_alloc ?_ _)); exact BK174.out) hb); have n2_ := Aside0.mk (blk_below (g := gb175) (o := .cells #[.int .i64 a1_0, .string a1_1, .slice A1_2 l1_2.length c1_2, .int .i64 a1_3, .int .i64 a1_4, .int .i64 a1_5, .int .i64 a1_6, .int .i64 a1_7, .int .i64 a1_8, .int .i64 a1_9, .int .i64 a1_10, .int .i64 a1_11, .int .i64 a1_12] 60 (0, 0)) (by (with_reducible repeat (first | refine blk_drewN ?_ _ | refine blk_drew ?_ | refine blk_alloc ?_ _)); exact BK175.out) hb); have n3_ := Aside0.mk (blk_below (g := gb177) (o := .cells #[.int .i64 a1_4, .int .i64 a1_5, .int .i64 a1_6, .int .i64 a1_7] 57 (0, 0)) (by (with_reducible repeat (first | refine blk_drewN ?_ _ | refine blk_drew ?_ | refine blk_alloc ?_ _)); exact BK177.out) hb); have n4_ := Aside0.mk (below_step (by repeat (first | (with_reducible first | exact HB.out | apply below_alloc | apply pw_below_drewN | apply below_drew1 | refine below_set ?_ GE174.out | refine below_set ?_ GE175.out | refine below_set ?_ GE177.out) | exact HB.out)) hb); clear HO189; clear BK174; clear BK175; clear BK177; clear HB; have HO189 := n0_; have BK174 := n1_; have BK175 := n2_; have BK177 := n3_; have HB := n4_; clear n0_ n1_ n2_ n3_ n4_; (try clear hb); (try clear hb2); (try clear hk); (try clear hi)))
                      go_ret
                      exact ⟨by first | rfl | (simp [errW_none, errW_some] <;> rfl) | (simp [*, errW_none, errW_some] <;> rfl), by repeat (first | (with_reducible first | exact HB.out | apply below_alloc | apply pw_below_drewN | apply below_drew1 | refine below_set ?_ GE174.out | refine below_set ?_ GE175.out | refine below_set ?_ GE177.out) | exact HB.out)⟩
                    · rw [if_neg c51] at H
                      exact absurd H (by simp)
                  · rw [if_neg c50] at H
                    have c50b0 : (a0_0 == 20) = false := beq_eq_false_iff_ne.mpr c50
                    have c50b1 : (a0_0 != 20) = true := bne_iff_ne.mpr c50
                    by_cases c61 : a0_0 = 24
                    · rw [if_pos c61] at H
                      have c61b0 : (a0_0 == 24) = true := beq_iff_eq.mpr c61
                      have c61b1 : (a0_0 != 24) = false := bne_eq_false_iff_eq.mpr c61
                      clear c61
                      replace H := Option.bind_eq_some_iff.mp H
                      obtain ⟨t191, A620, H⟩ := H
                      replace H : (if 6 + t191.size ≤ 9223372036854775807 then (if ((⟨#[115, 112, 97, 99, 101, 32]⟩ : ByteArray) ++ t191).size + 1 ≤ 9223372036854775807 then ((impl_dec.f a1_7).bind fun t192 => (if (((⟨#[115, 112, 97, 99, 101, 32]⟩ : ByteArray) ++ t191) ++ (⟨#[32]⟩ : ByteArray)).size + t192.size ≤ 9223372036854775807 then (some ((((⟨#[115, 112, 97, 99, 101, 32]⟩ : ByteArray) ++ t191) ++ (⟨#[32]⟩ : ByteArray)) ++ t192)) else (none))) else (none)) else (none)) = some r := H
                      have A62 := Aside0.mk A620
                      clear A620
                      by_cases c63 : 6 + t191.size ≤ 9223372036854775807
                      · rw [if_pos c63] at H
                        have c63b0 := eq_true c63
                        have c63b1 : decide (6 + t191.size ≤ 9223372036854775807) = true := decide_eq_true c63
                        try have c63b2 : (9223372036854775807 < 6 + t191.size) = False := eq_false (Nat.not_lt.2 c63)
                        by_cases c64 : ((⟨#[115, 112, 97, 99, 101, 32]⟩ : ByteArray) ++ t191).size + 1 ≤ 9223372036854775807
                        · rw [if_pos c64] at H
                          have c64b0 := eq_true c64
                          have c64n : 6 + t191.size + 1 ≤ 9223372036854775807 := by have h_ := c64; simp only [ByteArray.size_append] at h_; first | exact h_ | (simp at h_ ⊢; omega)
                          have c64n0 := eq_true c64n
                          have c64n1 : decide (6 + t191.size + 1 ≤ 9223372036854775807) = true := decide_eq_true c64n
                          have c64n2 : (9223372036854775807 < 6 + t191.size + 1) = False := eq_false (Nat.not_lt.2 c64n)
                          have c64b1 : decide (((⟨#[115, 112, 97, 99, 101, 32]⟩ : ByteArray) ++ t191).size + 1 ≤ 9223372036854775807) = true := decide_eq_true c64
                          try have c64b2 : (9223372036854775807 < ((⟨#[115, 112, 97, 99, 101, 32]⟩ : ByteArray) ++ t191).size + 1) = False := eq_false (Nat.not_lt.2 c64)
                          replace H := Option.bind_eq_some_iff.mp H
                          obtain ⟨t192, A650, H⟩ := H
                          replace H : (if (((⟨#[115, 112, 97, 99, 101, 32]⟩ : ByteArray) ++ t191) ++ (⟨#[32]⟩ : ByteArray)).size + t192.size ≤ 9223372036854775807 then (some ((((⟨#[115, 112, 97, 99, 101, 32]⟩ : ByteArray) ++ t191) ++ (⟨#[32]⟩ : ByteArray)) ++ t192)) else (none)) = some r := H
                          have A65 := Aside0.mk A650
                          clear A650
                          by_cases c66 : (((⟨#[115, 112, 97, 99, 101, 32]⟩ : ByteArray) ++ t191) ++ (⟨#[32]⟩ : ByteArray)).size + t192.size ≤ 9223372036854775807
                          · rw [if_pos c66] at H
                            have c66b0 := eq_true c66
                            have c66n : 6 + t191.size + 1 + t192.size ≤ 9223372036854775807 := by have h_ := c66; simp only [ByteArray.size_append] at h_; first | exact h_ | (simp at h_ ⊢; omega)
                            have c66n0 := eq_true c66n
                            have c66n1 : decide (6 + t191.size + 1 + t192.size ≤ 9223372036854775807) = true := decide_eq_true c66n
                            have c66n2 : (9223372036854775807 < 6 + t191.size + 1 + t192.size) = False := eq_false (Nat.not_lt.2 c66n)
                            have c66b1 : decide ((((⟨#[115, 112, 97, 99, 101, 32]⟩ : ByteArray) ++ t191) ++ (⟨#[32]⟩ : ByteArray)).size + t192.size ≤ 9223372036854775807) = true := decide_eq_true c66
                            try have c66b2 : (9223372036854775807 < (((⟨#[115, 112, 97, 99, 101, 32]⟩ : ByteArray) ++ t191) ++ (⟨#[32]⟩ : ByteArray)).size + t192.size) = False := eq_false (Nat.not_lt.2 c66)
                            obtain rfl := Option.some.inj H
                            try go_wp2
                            have n0_ := Aside0.mk (blk_drew BK174.out)
                            have n1_ := Aside0.mk (blk_drew BK175.out)
                            have n2_ := Aside0.mk (blk_drew BK177.out)
                            have n3_ := Aside0.mk (below_drew1 HB.out)
                            clear BK174
                            clear BK175
                            clear BK177
                            clear HB
                            have BK174 := n0_
                            have BK175 := n1_
                            have BK177 := n2_
                            have HB := n3_
                            clear n0_ n1_ n2_ n3_
                            refine start_ (n := 10) (S := fun w' => w'.cell? ⟨gb177, 0, none⟩ = some (.int .i64 a1_4) ∧ w'.cell? ⟨gb177, 1, none⟩ = some (.int .i64 a1_5) ∧ w'.cell? ⟨gb177, 2, none⟩ = some (.int .i64 a1_6) ∧ w'.cell? ⟨gb177, 3, none⟩ = some (.int .i64 a1_7)) (ds := []) #[false, false, false, false, false, false, false, false, false, false] (by kernel_rfl) rfl rfl ⟨(blk_cell BK177.out 0).trans rfl, (blk_cell BK177.out 1).trans rfl, (blk_cell BK177.out 2).trans rfl, (blk_cell BK177.out 3).trans rfl⟩ (fun hHeld => ?_); refine with_tabW impl_FormatAnswer.tab18 impl_FormatAnswer.bits18 (fun HT_ HW_ => ?_)
                            generalize wc.drew = w67 at BK174 BK175 BK177 HB hHeld ⊢
                            refine pure_ (i := 0) (N := some 66) (v := ?_) (a' := ?_) #[true, false, false, false, false, false, false, false, false, false] rfl rfl (any_of HT_.out (by kernel_rfl)) (fun _ _ _ h => h) (Or.inl ⟨by rfl, ?_⟩) ?_ ?_
                            rotate_left
                            · intro w'
                              go_simp
                              with_reducible rfl
                            rotate_left
                            · simp only [Act.put, List.setIfInBounds_toArray, List.set_cons_zero, List.set_cons_succ, i64_w, i32_w]
                              rfl
                            refine pure_ (i := 5) (N := some 71) (v := ?_) (a' := ?_) #[true, false, false, false, false, true, false, false, false, false] rfl rfl (any_of HT_.out (by kernel_rfl)) (fun _ _ _ h => h) (Or.inl ⟨by rfl, ?_⟩) ?_ ?_
                            rotate_left
                            · intro w'
                              go_simp
                              with_reducible rfl
                            rotate_left
                            · simp only [Act.put, List.setIfInBounds_toArray, List.set_cons_zero, List.set_cons_succ, i64_w, i32_w]
                              rfl
                            refine take_ (i := 1) (N := some 67) (v := ?_) (a' := ?_) #[true, true, false, false, false, true, false, false, false, false] rfl rfl (take_ofW HT_.out HW_.out (by kernel_rfl)) (fun _ _ _ h => h) (Or.inl ⟨by rfl, ?_⟩) hHeld ?_ ?_
                            rotate_left
                            · rintro w' ⟨s0, s1, s2, s3⟩
                              go_simp
                              with_reducible rfl
                            rotate_left
                            · simp only [Act.put, List.setIfInBounds_toArray, List.set_cons_zero, List.set_cons_succ, i64_w, i32_w]
                              rfl
                            refine take_ (i := 6) (N := some 72) (v := ?_) (a' := ?_) #[true, true, false, false, false, true, true, false, false, false] rfl rfl (take_ofW HT_.out HW_.out (by kernel_rfl)) (fun _ _ _ h => h) (Or.inl ⟨by rfl, ?_⟩) hHeld ?_ ?_
                            rotate_left
                            · rintro w' ⟨s0, s1, s2, s3⟩
                              go_simp
                              with_reducible rfl
                            rotate_left
                            · simp only [Act.put, List.setIfInBounds_toArray, List.set_cons_zero, List.set_cons_succ, i64_w, i32_w]
                              rfl
                            refine one_ (i := 2) (N := some 68) #[true, true, true, false, false, true, true, false, false, false] rfl rfl (one_of HT_.out (by kernel_rfl)) (by decide) (fun K hK => ?_)
                            refine goes_ Tryd.func53 (by kernel_rfl) rfl #[.int .i64 a1_6] (by rfl) rfl rfl (by (try simp only [List.map_toArray, List.map_cons, List.map_nil]); first | done | rfl | (simp only [List.length_drop, List.length_take]; rfl)) ?_
                            with_reducible refine (impl_dec.calls a1_6 t191 _ A62.out (hG0.below (by repeat (first | (with_reducible first | exact HB.out | apply below_alloc | apply pw_below_drewN | apply below_drew1 | refine below_set ?_ GE174.out | refine below_set ?_ GE175.out | refine below_set ?_ GE177.out) | exact HB.out)))).mono ?_
                            rintro e w68 ⟨rfl, hb⟩
                            refine ⟨_, rfl, ?_⟩
                            have n0_ := Aside0.mk (blk_below (g := gb174) (o := .cells #[.int .i64 a0_0, .string a0_1, .string a0_2, .int .i64 a0_3, .int .i64 a0_4, .int .i64 a0_5, .string a0_6] 24 (0, 0)) (by (with_reducible repeat (first | refine blk_drewN ?_ _ | refine blk_drew ?_ | refine blk_alloc ?_ _)); exact BK174.out) hb)
                            have n1_ := Aside0.mk (blk_below (g := gb175) (o := .cells #[.int .i64 a1_0, .string a1_1, .slice A1_2 l1_2.length c1_2, .int .i64 a1_3, .int .i64 a1_4, .int .i64 a1_5, .int .i64 a1_6, .int .i64 a1_7, .int .i64 a1_8, .int .i64 a1_9, .int .i64 a1_10, .int .i64 a1_11, .int .i64 a1_12] 60 (0, 0)) (by (with_reducible repeat (first | refine blk_drewN ?_ _ | refine blk_drew ?_ | refine blk_alloc ?_ _)); exact BK175.out) hb)
                            have n2_ := Aside0.mk (blk_below (g := gb177) (o := .cells #[.int .i64 a1_4, .int .i64 a1_5, .int .i64 a1_6, .int .i64 a1_7] 57 (0, 0)) (by (with_reducible repeat (first | refine blk_drewN ?_ _ | refine blk_drew ?_ | refine blk_alloc ?_ _)); exact BK177.out) hb)
                            have n3_ := Aside0.mk (below_step (by repeat (first | (with_reducible first | exact HB.out | apply below_alloc | apply pw_below_drewN | apply below_drew1 | refine below_set ?_ GE174.out | refine below_set ?_ GE175.out | refine below_set ?_ GE177.out) | exact HB.out)) hb)
                            clear BK174
                            clear BK175
                            clear BK177
                            clear HB
                            have BK174 := n0_
                            have BK175 := n1_
                            have BK177 := n2_
                            have HB := n3_
                            clear n0_ n1_ n2_ n3_
                            (try clear hb)
                            (try clear hb2)
                            (try clear hk)
                            (try clear hi)
                            refine hK.out _ _ ⟨(blk_cell BK177.out 0).trans rfl, (blk_cell BK177.out 1).trans rfl, (blk_cell BK177.out 2).trans rfl, (blk_cell BK177.out 3).trans rfl⟩ (fun hHeld => ?_)
                            clear hK K
                            refine norm_ (a' := ?_) ?_ ?_
                            rotate_left
                            · show Act.put _ (some 68) _ = _
                              simp only [Act.put, List.setIfInBounds_toArray, List.set_cons_zero, List.set_cons_succ, i64_w, i32_w]
                              rfl
                            refine pure_ (i := 3) (N := some 69) (v := ?_) (a' := ?_) #[true, true, true, true, false, true, true, false, false, false] rfl rfl (any_of HT_.out (by kernel_rfl)) (fun _ _ _ h => h) (Or.inl ⟨by rfl, ?_⟩) ?_ ?_
                            rotate_left
                            · intro w'
                              go_simp
                              with_reducible rfl
                            rotate_left
                            · simp only [Act.put, List.setIfInBounds_toArray, List.set_cons_zero, List.set_cons_succ, i64_w, i32_w]
                              rfl
                            refine pure_ (i := 4) (N := some 70) (v := ?_) (a' := ?_) #[true, true, true, true, true, true, true, false, false, false] rfl rfl (any_of HT_.out (by kernel_rfl)) (fun _ _ _ h => h) (Or.inl ⟨by rfl, ?_⟩) ?_ ?_
                            rotate_left
                            · intro w'
                              go_simp
                              with_reducible rfl
                            rotate_left
                            · simp only [Act.put, List.setIfInBounds_toArray, List.set_cons_zero, List.set_cons_succ, i64_w, i32_w]
                              rfl
                            refine one_ (i := 7) (N := some 73) #[true, true, true, true, true, true, true, true, false, false] rfl rfl (one_of HT_.out (by kernel_rfl)) (by decide) (fun K hK => ?_)
                            refine goes_ Tryd.func53 (by kernel_rfl) rfl #[.int .i64 a1_7] (by rfl) rfl rfl (by (try simp only [List.map_toArray, List.map_cons, List.map_nil]); first | done | rfl | (simp only [List.length_drop, List.length_take]; rfl)) ?_
                            with_reducible refine (impl_dec.calls a1_7 t192 _ A65.out (hG0.below (by repeat (first | (with_reducible first | exact HB.out | apply below_alloc | apply pw_below_drewN | apply below_drew1 | refine below_set ?_ GE174.out | refine below_set ?_ GE175.out | refine below_set ?_ GE177.out) | exact HB.out)))).mono ?_
                            rintro e w69 ⟨rfl, hb⟩
                            refine ⟨_, rfl, ?_⟩
                            have n0_ := Aside0.mk (blk_below (g := gb174) (o := .cells #[.int .i64 a0_0, .string a0_1, .string a0_2, .int .i64 a0_3, .int .i64 a0_4, .int .i64 a0_5, .string a0_6] 24 (0, 0)) (by (with_reducible repeat (first | refine blk_drewN ?_ _ | refine blk_drew ?_ | refine blk_alloc ?_ _)); exact BK174.out) hb)
                            have n1_ := Aside0.mk (blk_below (g := gb175) (o := .cells #[.int .i64 a1_0, .string a1_1, .slice A1_2 l1_2.length c1_2, .int .i64 a1_3, .int .i64 a1_4, .int .i64 a1_5, .int .i64 a1_6, .int .i64 a1_7, .int .i64 a1_8, .int .i64 a1_9, .int .i64 a1_10, .int .i64 a1_11, .int .i64 a1_12] 60 (0, 0)) (by (with_reducible repeat (first | refine blk_drewN ?_ _ | refine blk_drew ?_ | refine blk_alloc ?_ _)); exact BK175.out) hb)
                            have n2_ := Aside0.mk (blk_below (g := gb177) (o := .cells #[.int .i64 a1_4, .int .i64 a1_5, .int .i64 a1_6, .int .i64 a1_7] 57 (0, 0)) (by (with_reducible repeat (first | refine blk_drewN ?_ _ | refine blk_drew ?_ | refine blk_alloc ?_ _)); exact BK177.out) hb)
                            have n3_ := Aside0.mk (below_step (by repeat (first | (with_reducible first | exact HB.out | apply below_alloc | apply pw_below_drewN | apply below_drew1 | refine below_set ?_ GE174.out | refine below_set ?_ GE175.out | refine below_set ?_ GE177.out) | exact HB.out)) hb)
                            clear BK174
                            clear BK175
                            clear BK177
                            clear HB
                            have BK174 := n0_
                            have BK175 := n1_
                            have BK177 := n2_
                            have HB := n3_
                            clear n0_ n1_ n2_ n3_
                            (try clear hb)
                            (try clear hb2)
                            (try clear hk)
                            (try clear hi)
                            refine hK.out _ _ ⟨(blk_cell BK177.out 0).trans rfl, (blk_cell BK177.out 1).trans rfl, (blk_cell BK177.out 2).trans rfl, (blk_cell BK177.out 3).trans rfl⟩ (fun hHeld => ?_)
                            clear hK K
                            refine norm_ (a' := ?_) ?_ ?_
                            rotate_left
                            · show Act.put _ (some 73) _ = _
                              simp only [Act.put, List.setIfInBounds_toArray, List.set_cons_zero, List.set_cons_succ, i64_w, i32_w]
                              rfl
                            refine pure_ (i := 8) (N := some 74) (v := ?_) (a' := ?_) #[true, true, true, true, true, true, true, true, true, false] rfl rfl (any_of HT_.out (by kernel_rfl)) (fun _ _ _ h => h) (Or.inl ⟨by rfl, ?_⟩) ?_ ?_
                            rotate_left
                            · intro w'
                              go_simp
                              with_reducible rfl
                            rotate_left
                            · simp only [Act.put, List.setIfInBounds_toArray, List.set_cons_zero, List.set_cons_succ, i64_w, i32_w]
                              rfl
                            refine pure_ (i := 9) (N := some 4) (v := ?_) (a' := ?_) #[true, true, true, true, true, true, true, true, true, true] rfl rfl (any_of HT_.out (by kernel_rfl)) (fun _ _ _ h => h) (Or.inl ⟨by rfl, ?_⟩) ?_ ?_
                            rotate_left
                            · intro w'
                              go_simp
                              with_reducible rfl
                            rotate_left
                            · simp only [Act.put, List.setIfInBounds_toArray, List.set_cons_zero, List.set_cons_succ, i64_w, i32_w]
                              rfl
                            refine done_ (done_of HT_.out (by kernel_rfl)) ?_
                            try go_wp2
                            go_ret
                            exact ⟨by first | rfl | (simp [errW_none, errW_some] <;> rfl) | (simp [*, errW_none, errW_some] <;> rfl), by repeat (first | (with_reducible first | exact HB.out | apply below_alloc | apply pw_below_drewN | apply below_drew1 | refine below_set ?_ GE174.out | refine below_set ?_ GE175.out | refine below_set ?_ GE177.out) | exact HB.out)⟩
                          · rw [if_neg c66] at H
                            exact absurd H (by simp)
                        · rw [if_neg c64] at H
                          exact absurd H (by simp)
                      · rw [if_neg c63] at H
                        exact absurd H (by simp)
                    · rw [if_neg c61] at H
                      have c61b0 : (a0_0 == 24) = false := beq_eq_false_iff_ne.mpr c61
                      have c61b1 : (a0_0 != 24) = true := bne_iff_ne.mpr c61
                      by_cases c70 : a0_0 = 25
                      · rw [if_pos c70] at H
                        have c70b0 : (a0_0 == 25) = true := beq_iff_eq.mpr c70
                        have c70b1 : (a0_0 != 25) = false := bne_eq_false_iff_eq.mpr c70
                        clear c70
                        replace H := Option.bind_eq_some_iff.mp H
                        obtain ⟨t194, A710, H⟩ := H
                        replace H : (if 4 + t194.size ≤ 9223372036854775807 then (if ((⟨#[108, 111, 103, 32]⟩ : ByteArray) ++ t194).size + 1 ≤ 9223372036854775807 then ((impl_dec.f a1_9).bind fun t195 => (if (((⟨#[108, 111, 103, 32]⟩ : ByteArray) ++ t194) ++ (⟨#[32]⟩ : ByteArray)).size + t195.size ≤ 9223372036854775807 then (if ((((⟨#[108, 111, 103, 32]⟩ : ByteArray) ++ t194) ++ (⟨#[32]⟩ : ByteArray)) ++ t195).size + 1 ≤ 9223372036854775807 then ((impl_dec.f a1_10).bind fun t196 => (if (((((⟨#[108, 111, 103, 32]⟩ : ByteArray) ++ t194) ++ (⟨#[32]⟩ : ByteArray)) ++ t195) ++ (⟨#[32]⟩ : ByteArray)).size + t196.size ≤ 9223372036854775807 then (if ((((((⟨#[108, 111, 103, 32]⟩ : ByteArray) ++ t194) ++ (⟨#[32]⟩ : ByteArray)) ++ t195) ++ (⟨#[32]⟩ : ByteArray)) ++ t196).size + 1 ≤ 9223372036854775807 then ((impl_dec.f a1_11).bind fun t197 => (if (((((((⟨#[108, 111, 103, 32]⟩ : ByteArray) ++ t194) ++ (⟨#[32]⟩ : ByteArray)) ++ t195) ++ (⟨#[32]⟩ : ByteArray)) ++ t196) ++ (⟨#[32]⟩ : ByteArray)).size + t197.size ≤ 9223372036854775807 then (if ((((((((⟨#[108, 111, 103, 32]⟩ : ByteArray) ++ t194) ++ (⟨#[32]⟩ : ByteArray)) ++ t195) ++ (⟨#[32]⟩ : ByteArray)) ++ t196) ++ (⟨#[32]⟩ : ByteArray)) ++ t197).size + 1 ≤ 9223372036854775807 then ((impl_dec.f a1_12).bind fun t198 => (if (((((((((⟨#[108, 111, 103, 32]⟩ : ByteArray) ++ t194) ++ (⟨#[32]⟩ : ByteArray)) ++ t195) ++ (⟨#[32]⟩ : ByteArray)) ++ t196) ++ (⟨#[32]⟩ : ByteArray)) ++ t197) ++ (⟨#[32]⟩ : ByteArray)).size + t198.size ≤ 9223372036854775807 then (some ((((((((((⟨#[108, 111, 103, 32]⟩ : ByteArray) ++ t194) ++ (⟨#[32]⟩ : ByteArray)) ++ t195) ++ (⟨#[32]⟩ : ByteArray)) ++ t196) ++ (⟨#[32]⟩ : ByteArray)) ++ t197) ++ (⟨#[32]⟩ : ByteArray)) ++ t198)) else (none))) else (none)) else (none))) else (none)) else (none))) else (none)) else (none))) else (none)) else (none)) = some r := H
                        have A71 := Aside0.mk A710
                        clear A710
                        by_cases c72 : 4 + t194.size ≤ 9223372036854775807
                        · rw [if_pos c72] at H
                          have c72b0 := eq_true c72
                          have c72b1 : decide (4 + t194.size ≤ 9223372036854775807) = true := decide_eq_true c72
                          try have c72b2 : (9223372036854775807 < 4 + t194.size) = False := eq_false (Nat.not_lt.2 c72)
                          by_cases c73 : ((⟨#[108, 111, 103, 32]⟩ : ByteArray) ++ t194).size + 1 ≤ 9223372036854775807
                          · rw [if_pos c73] at H
                            have c73b0 := eq_true c73
                            have c73n : 4 + t194.size + 1 ≤ 9223372036854775807 := by have h_ := c73; simp only [ByteArray.size_append] at h_; first | exact h_ | (simp at h_ ⊢; omega)
                            have c73n0 := eq_true c73n
                            have c73n1 : decide (4 + t194.size + 1 ≤ 9223372036854775807) = true := decide_eq_true c73n
                            have c73n2 : (9223372036854775807 < 4 + t194.size + 1) = False := eq_false (Nat.not_lt.2 c73n)
                            have c73b1 : decide (((⟨#[108, 111, 103, 32]⟩ : ByteArray) ++ t194).size + 1 ≤ 9223372036854775807) = true := decide_eq_true c73
                            try have c73b2 : (9223372036854775807 < ((⟨#[108, 111, 103, 32]⟩ : ByteArray) ++ t194).size + 1) = False := eq_false (Nat.not_lt.2 c73)
                            replace H := Option.bind_eq_some_iff.mp H
                            obtain ⟨t195, A740, H⟩ := H
                            replace H : (if (((⟨#[108, 111, 103, 32]⟩ : ByteArray) ++ t194) ++ (⟨#[32]⟩ : ByteArray)).size + t195.size ≤ 9223372036854775807 then (if ((((⟨#[108, 111, 103, 32]⟩ : ByteArray) ++ t194) ++ (⟨#[32]⟩ : ByteArray)) ++ t195).size + 1 ≤ 9223372036854775807 then ((impl_dec.f a1_10).bind fun t196 => (if (((((⟨#[108, 111, 103, 32]⟩ : ByteArray) ++ t194) ++ (⟨#[32]⟩ : ByteArray)) ++ t195) ++ (⟨#[32]⟩ : ByteArray)).size + t196.size ≤ 9223372036854775807 then (if ((((((⟨#[108, 111, 103, 32]⟩ : ByteArray) ++ t194) ++ (⟨#[32]⟩ : ByteArray)) ++ t195) ++ (⟨#[32]⟩ : ByteArray)) ++ t196).size + 1 ≤ 9223372036854775807 then ((impl_dec.f a1_11).bind fun t197 => (if (((((((⟨#[108, 111, 103, 32]⟩ : ByteArray) ++ t194) ++ (⟨#[32]⟩ : ByteArray)) ++ t195) ++ (⟨#[32]⟩ : ByteArray)) ++ t196) ++ (⟨#[32]⟩ : ByteArray)).size + t197.size ≤ 9223372036854775807 then (if ((((((((⟨#[108, 111, 103, 32]⟩ : ByteArray) ++ t194) ++ (⟨#[32]⟩ : ByteArray)) ++ t195) ++ (⟨#[32]⟩ : ByteArray)) ++ t196) ++ (⟨#[32]⟩ : ByteArray)) ++ t197).size + 1 ≤ 9223372036854775807 then ((impl_dec.f a1_12).bind fun t198 => (if (((((((((⟨#[108, 111, 103, 32]⟩ : ByteArray) ++ t194) ++ (⟨#[32]⟩ : ByteArray)) ++ t195) ++ (⟨#[32]⟩ : ByteArray)) ++ t196) ++ (⟨#[32]⟩ : ByteArray)) ++ t197) ++ (⟨#[32]⟩ : ByteArray)).size + t198.size ≤ 9223372036854775807 then (some ((((((((((⟨#[108, 111, 103, 32]⟩ : ByteArray) ++ t194) ++ (⟨#[32]⟩ : ByteArray)) ++ t195) ++ (⟨#[32]⟩ : ByteArray)) ++ t196) ++ (⟨#[32]⟩ : ByteArray)) ++ t197) ++ (⟨#[32]⟩ : ByteArray)) ++ t198)) else (none))) else (none)) else (none))) else (none)) else (none))) else (none)) else (none)) = some r := H
                            have A74 := Aside0.mk A740
                            clear A740
                            by_cases c75 : (((⟨#[108, 111, 103, 32]⟩ : ByteArray) ++ t194) ++ (⟨#[32]⟩ : ByteArray)).size + t195.size ≤ 9223372036854775807
                            · rw [if_pos c75] at H
                              have c75b0 := eq_true c75
                              have c75n : 4 + t194.size + 1 + t195.size ≤ 9223372036854775807 := by have h_ := c75; simp only [ByteArray.size_append] at h_; first | exact h_ | (simp at h_ ⊢; omega)
                              have c75n0 := eq_true c75n
                              have c75n1 : decide (4 + t194.size + 1 + t195.size ≤ 9223372036854775807) = true := decide_eq_true c75n
                              have c75n2 : (9223372036854775807 < 4 + t194.size + 1 + t195.size) = False := eq_false (Nat.not_lt.2 c75n)
                              have c75b1 : decide ((((⟨#[108, 111, 103, 32]⟩ : ByteArray) ++ t194) ++ (⟨#[32]⟩ : ByteArray)).size + t195.size ≤ 9223372036854775807) = true := decide_eq_true c75
                              try have c75b2 : (9223372036854775807 < (((⟨#[108, 111, 103, 32]⟩ : ByteArray) ++ t194) ++ (⟨#[32]⟩ : ByteArray)).size + t195.size) = False := eq_false (Nat.not_lt.2 c75)
                              by_cases c76 : ((((⟨#[108, 111, 103, 32]⟩ : ByteArray) ++ t194) ++ (⟨#[32]⟩ : ByteArray)) ++ t195).size + 1 ≤ 9223372036854775807
                              · rw [if_pos c76] at H
                                have c76b0 := eq_true c76
                                have c76n : 4 + t194.size + 1 + t195.size + 1 ≤ 9223372036854775807 := by have h_ := c76; simp only [ByteArray.size_append] at h_; first | exact h_ | (simp at h_ ⊢; omega)
                                have c76n0 := eq_true c76n
                                have c76n1 : decide (4 + t194.size + 1 + t195.size + 1 ≤ 9223372036854775807) = true := decide_eq_true c76n
                                have c76n2 : (9223372036854775807 < 4 + t194.size + 1 + t195.size + 1) = False := eq_false (Nat.not_lt.2 c76n)
                                have c76b1 : decide (((((⟨#[108, 111, 103, 32]⟩ : ByteArray) ++ t194) ++ (⟨#[32]⟩ : ByteArray)) ++ t195).size + 1 ≤ 9223372036854775807) = true := decide_eq_true c76
                                try have c76b2 : (9223372036854775807 < ((((⟨#[108, 111, 103, 32]⟩ : ByteArray) ++ t194) ++ (⟨#[32]⟩ : ByteArray)) ++ t195).size + 1) = False := eq_false (Nat.not_lt.2 c76)
                                replace H := Option.bind_eq_some_iff.mp H
                                obtain ⟨t196, A770, H⟩ := H
                                replace H : (if (((((⟨#[108, 111, 103, 32]⟩ : ByteArray) ++ t194) ++ (⟨#[32]⟩ : ByteArray)) ++ t195) ++ (⟨#[32]⟩ : ByteArray)).size + t196.size ≤ 9223372036854775807 then (if ((((((⟨#[108, 111, 103, 32]⟩ : ByteArray) ++ t194) ++ (⟨#[32]⟩ : ByteArray)) ++ t195) ++ (⟨#[32]⟩ : ByteArray)) ++ t196).size + 1 ≤ 9223372036854775807 then ((impl_dec.f a1_11).bind fun t197 => (if (((((((⟨#[108, 111, 103, 32]⟩ : ByteArray) ++ t194) ++ (⟨#[32]⟩ : ByteArray)) ++ t195) ++ (⟨#[32]⟩ : ByteArray)) ++ t196) ++ (⟨#[32]⟩ : ByteArray)).size + t197.size ≤ 9223372036854775807 then (if ((((((((⟨#[108, 111, 103, 32]⟩ : ByteArray) ++ t194) ++ (⟨#[32]⟩ : ByteArray)) ++ t195) ++ (⟨#[32]⟩ : ByteArray)) ++ t196) ++ (⟨#[32]⟩ : ByteArray)) ++ t197).size + 1 ≤ 9223372036854775807 then ((impl_dec.f a1_12).bind fun t198 => (if (((((((((⟨#[108, 111, 103, 32]⟩ : ByteArray) ++ t194) ++ (⟨#[32]⟩ : ByteArray)) ++ t195) ++ (⟨#[32]⟩ : ByteArray)) ++ t196) ++ (⟨#[32]⟩ : ByteArray)) ++ t197) ++ (⟨#[32]⟩ : ByteArray)).size + t198.size ≤ 9223372036854775807 then (some ((((((((((⟨#[108, 111, 103, 32]⟩ : ByteArray) ++ t194) ++ (⟨#[32]⟩ : ByteArray)) ++ t195) ++ (⟨#[32]⟩ : ByteArray)) ++ t196) ++ (⟨#[32]⟩ : ByteArray)) ++ t197) ++ (⟨#[32]⟩ : ByteArray)) ++ t198)) else (none))) else (none)) else (none))) else (none)) else (none)) = some r := H
                                have A77 := Aside0.mk A770
                                clear A770
                                by_cases c78 : (((((⟨#[108, 111, 103, 32]⟩ : ByteArray) ++ t194) ++ (⟨#[32]⟩ : ByteArray)) ++ t195) ++ (⟨#[32]⟩ : ByteArray)).size + t196.size ≤ 9223372036854775807
                                · rw [if_pos c78] at H
                                  have c78b0 := eq_true c78
                                  have c78n : 4 + t194.size + 1 + t195.size + 1 + t196.size ≤ 9223372036854775807 := by have h_ := c78; simp only [ByteArray.size_append] at h_; first | exact h_ | (simp at h_ ⊢; omega)
                                  have c78n0 := eq_true c78n
                                  have c78n1 : decide (4 + t194.size + 1 + t195.size + 1 + t196.size ≤ 9223372036854775807) = true := decide_eq_true c78n
                                  have c78n2 : (9223372036854775807 < 4 + t194.size + 1 + t195.size + 1 + t196.size) = False := eq_false (Nat.not_lt.2 c78n)
                                  have c78b1 : decide ((((((⟨#[108, 111, 103, 32]⟩ : ByteArray) ++ t194) ++ (⟨#[32]⟩ : ByteArray)) ++ t195) ++ (⟨#[32]⟩ : ByteArray)).size + t196.size ≤ 9223372036854775807) = true := decide_eq_true c78
                                  try have c78b2 : (9223372036854775807 < (((((⟨#[108, 111, 103, 32]⟩ : ByteArray) ++ t194) ++ (⟨#[32]⟩ : ByteArray)) ++ t195) ++ (⟨#[32]⟩ : ByteArray)).size + t196.size) = False := eq_false (Nat.not_lt.2 c78)
                                  by_cases c79 : ((((((⟨#[108, 111, 103, 32]⟩ : ByteArray) ++ t194) ++ (⟨#[32]⟩ : ByteArray)) ++ t195) ++ (⟨#[32]⟩ : ByteArray)) ++ t196).size + 1 ≤ 9223372036854775807
                                  · rw [if_pos c79] at H
                                    have c79b0 := eq_true c79
                                    have c79n : 4 + t194.size + 1 + t195.size + 1 + t196.size + 1 ≤ 9223372036854775807 := by have h_ := c79; simp only [ByteArray.size_append] at h_; first | exact h_ | (simp at h_ ⊢; omega)
                                    have c79n0 := eq_true c79n
                                    have c79n1 : decide (4 + t194.size + 1 + t195.size + 1 + t196.size + 1 ≤ 9223372036854775807) = true := decide_eq_true c79n
                                    have c79n2 : (9223372036854775807 < 4 + t194.size + 1 + t195.size + 1 + t196.size + 1) = False := eq_false (Nat.not_lt.2 c79n)
                                    have c79b1 : decide (((((((⟨#[108, 111, 103, 32]⟩ : ByteArray) ++ t194) ++ (⟨#[32]⟩ : ByteArray)) ++ t195) ++ (⟨#[32]⟩ : ByteArray)) ++ t196).size + 1 ≤ 9223372036854775807) = true := decide_eq_true c79
                                    try have c79b2 : (9223372036854775807 < ((((((⟨#[108, 111, 103, 32]⟩ : ByteArray) ++ t194) ++ (⟨#[32]⟩ : ByteArray)) ++ t195) ++ (⟨#[32]⟩ : ByteArray)) ++ t196).size + 1) = False := eq_false (Nat.not_lt.2 c79)
                                    replace H := Option.bind_eq_some_iff.mp H
                                    obtain ⟨t197, A800, H⟩ := H
                                    replace H : (if (((((((⟨#[108, 111, 103, 32]⟩ : ByteArray) ++ t194) ++ (⟨#[32]⟩ : ByteArray)) ++ t195) ++ (⟨#[32]⟩ : ByteArray)) ++ t196) ++ (⟨#[32]⟩ : ByteArray)).size + t197.size ≤ 9223372036854775807 then (if ((((((((⟨#[108, 111, 103, 32]⟩ : ByteArray) ++ t194) ++ (⟨#[32]⟩ : ByteArray)) ++ t195) ++ (⟨#[32]⟩ : ByteArray)) ++ t196) ++ (⟨#[32]⟩ : ByteArray)) ++ t197).size + 1 ≤ 9223372036854775807 then ((impl_dec.f a1_12).bind fun t198 => (if (((((((((⟨#[108, 111, 103, 32]⟩ : ByteArray) ++ t194) ++ (⟨#[32]⟩ : ByteArray)) ++ t195) ++ (⟨#[32]⟩ : ByteArray)) ++ t196) ++ (⟨#[32]⟩ : ByteArray)) ++ t197) ++ (⟨#[32]⟩ : ByteArray)).size + t198.size ≤ 9223372036854775807 then (some ((((((((((⟨#[108, 111, 103, 32]⟩ : ByteArray) ++ t194) ++ (⟨#[32]⟩ : ByteArray)) ++ t195) ++ (⟨#[32]⟩ : ByteArray)) ++ t196) ++ (⟨#[32]⟩ : ByteArray)) ++ t197) ++ (⟨#[32]⟩ : ByteArray)) ++ t198)) else (none))) else (none)) else (none)) = some r := H
                                    have A80 := Aside0.mk A800
                                    clear A800
                                    by_cases c81 : (((((((⟨#[108, 111, 103, 32]⟩ : ByteArray) ++ t194) ++ (⟨#[32]⟩ : ByteArray)) ++ t195) ++ (⟨#[32]⟩ : ByteArray)) ++ t196) ++ (⟨#[32]⟩ : ByteArray)).size + t197.size ≤ 9223372036854775807
                                    · rw [if_pos c81] at H
                                      have c81b0 := eq_true c81
                                      have c81n : 4 + t194.size + 1 + t195.size + 1 + t196.size + 1 + t197.size ≤ 9223372036854775807 := by have h_ := c81; simp only [ByteArray.size_append] at h_; first | exact h_ | (simp at h_ ⊢; omega)
                                      have c81n0 := eq_true c81n
                                      have c81n1 : decide (4 + t194.size + 1 + t195.size + 1 + t196.size + 1 + t197.size ≤ 9223372036854775807) = true := decide_eq_true c81n
                                      have c81n2 : (9223372036854775807 < 4 + t194.size + 1 + t195.size + 1 + t196.size + 1 + t197.size) = False := eq_false (Nat.not_lt.2 c81n)
                                      have c81b1 : decide ((((((((⟨#[108, 111, 103, 32]⟩ : ByteArray) ++ t194) ++ (⟨#[32]⟩ : ByteArray)) ++ t195) ++ (⟨#[32]⟩ : ByteArray)) ++ t196) ++ (⟨#[32]⟩ : ByteArray)).size + t197.size ≤ 9223372036854775807) = true := decide_eq_true c81
                                      try have c81b2 : (9223372036854775807 < (((((((⟨#[108, 111, 103, 32]⟩ : ByteArray) ++ t194) ++ (⟨#[32]⟩ : ByteArray)) ++ t195) ++ (⟨#[32]⟩ : ByteArray)) ++ t196) ++ (⟨#[32]⟩ : ByteArray)).size + t197.size) = False := eq_false (Nat.not_lt.2 c81)
                                      by_cases c82 : ((((((((⟨#[108, 111, 103, 32]⟩ : ByteArray) ++ t194) ++ (⟨#[32]⟩ : ByteArray)) ++ t195) ++ (⟨#[32]⟩ : ByteArray)) ++ t196) ++ (⟨#[32]⟩ : ByteArray)) ++ t197).size + 1 ≤ 9223372036854775807
                                      · rw [if_pos c82] at H
                                        have c82b0 := eq_true c82
                                        have c82n : 4 + t194.size + 1 + t195.size + 1 + t196.size + 1 + t197.size + 1 ≤ 9223372036854775807 := by have h_ := c82; simp only [ByteArray.size_append] at h_; first | exact h_ | (simp at h_ ⊢; omega)
                                        have c82n0 := eq_true c82n
                                        have c82n1 : decide (4 + t194.size + 1 + t195.size + 1 + t196.size + 1 + t197.size + 1 ≤ 9223372036854775807) = true := decide_eq_true c82n
                                        have c82n2 : (9223372036854775807 < 4 + t194.size + 1 + t195.size + 1 + t196.size + 1 + t197.size + 1) = False := eq_false (Nat.not_lt.2 c82n)
                                        have c82b1 : decide (((((((((⟨#[108, 111, 103, 32]⟩ : ByteArray) ++ t194) ++ (⟨#[32]⟩ : ByteArray)) ++ t195) ++ (⟨#[32]⟩ : ByteArray)) ++ t196) ++ (⟨#[32]⟩ : ByteArray)) ++ t197).size + 1 ≤ 9223372036854775807) = true := decide_eq_true c82
                                        try have c82b2 : (9223372036854775807 < ((((((((⟨#[108, 111, 103, 32]⟩ : ByteArray) ++ t194) ++ (⟨#[32]⟩ : ByteArray)) ++ t195) ++ (⟨#[32]⟩ : ByteArray)) ++ t196) ++ (⟨#[32]⟩ : ByteArray)) ++ t197).size + 1) = False := eq_false (Nat.not_lt.2 c82)
                                        replace H := Option.bind_eq_some_iff.mp H
                                        obtain ⟨t198, A830, H⟩ := H
                                        replace H : (if (((((((((⟨#[108, 111, 103, 32]⟩ : ByteArray) ++ t194) ++ (⟨#[32]⟩ : ByteArray)) ++ t195) ++ (⟨#[32]⟩ : ByteArray)) ++ t196) ++ (⟨#[32]⟩ : ByteArray)) ++ t197) ++ (⟨#[32]⟩ : ByteArray)).size + t198.size ≤ 9223372036854775807 then (some ((((((((((⟨#[108, 111, 103, 32]⟩ : ByteArray) ++ t194) ++ (⟨#[32]⟩ : ByteArray)) ++ t195) ++ (⟨#[32]⟩ : ByteArray)) ++ t196) ++ (⟨#[32]⟩ : ByteArray)) ++ t197) ++ (⟨#[32]⟩ : ByteArray)) ++ t198)) else (none)) = some r := H
                                        have A83 := Aside0.mk A830
                                        clear A830
                                        by_cases c84 : (((((((((⟨#[108, 111, 103, 32]⟩ : ByteArray) ++ t194) ++ (⟨#[32]⟩ : ByteArray)) ++ t195) ++ (⟨#[32]⟩ : ByteArray)) ++ t196) ++ (⟨#[32]⟩ : ByteArray)) ++ t197) ++ (⟨#[32]⟩ : ByteArray)).size + t198.size ≤ 9223372036854775807
                                        · rw [if_pos c84] at H
                                          have c84b0 := eq_true c84
                                          have c84n : 4 + t194.size + 1 + t195.size + 1 + t196.size + 1 + t197.size + 1 + t198.size ≤ 9223372036854775807 := by have h_ := c84; simp only [ByteArray.size_append] at h_; first | exact h_ | (simp at h_ ⊢; omega)
                                          have c84n0 := eq_true c84n
                                          have c84n1 : decide (4 + t194.size + 1 + t195.size + 1 + t196.size + 1 + t197.size + 1 + t198.size ≤ 9223372036854775807) = true := decide_eq_true c84n
                                          have c84n2 : (9223372036854775807 < 4 + t194.size + 1 + t195.size + 1 + t196.size + 1 + t197.size + 1 + t198.size) = False := eq_false (Nat.not_lt.2 c84n)
                                          have c84b1 : decide ((((((((((⟨#[108, 111, 103, 32]⟩ : ByteArray) ++ t194) ++ (⟨#[32]⟩ : ByteArray)) ++ t195) ++ (⟨#[32]⟩ : ByteArray)) ++ t196) ++ (⟨#[32]⟩ : ByteArray)) ++ t197) ++ (⟨#[32]⟩ : ByteArray)).size + t198.size ≤ 9223372036854775807) = true := decide_eq_true c84
                                          try have c84b2 : (9223372036854775807 < (((((((((⟨#[108, 111, 103, 32]⟩ : ByteArray) ++ t194) ++ (⟨#[32]⟩ : ByteArray)) ++ t195) ++ (⟨#[32]⟩ : ByteArray)) ++ t196) ++ (⟨#[32]⟩ : ByteArray)) ++ t197) ++ (⟨#[32]⟩ : ByteArray)).size + t198.size) = False := eq_false (Nat.not_lt.2 c84)
                                          obtain rfl := Option.some.inj H
                                          have hnb85 := NB175_174.out
                                          have hnc85 := NB174_175.out
                                          have hnb86 := NB175_177.out
                                          have hnc86 := NB177_175.out
                                          have hcz87_0 : wc.cell? ⟨gb175, 0, none⟩ = some (.int .i64 a1_0) := (blk_cell BK175.out 0).trans rfl
                                          have hcz87_1 : wc.cell? ⟨gb175, 1, none⟩ = some (.string a1_1) := (blk_cell BK175.out 1).trans rfl
                                          have hcz87_2 : wc.cell? ⟨gb175, 2, none⟩ = some (.slice A1_2 l1_2.length c1_2) := (blk_cell BK175.out 2).trans rfl
                                          have hcz87_3 : wc.cell? ⟨gb175, 3, none⟩ = some (.int .i64 a1_3) := (blk_cell BK175.out 3).trans rfl
                                          have hcz87_4 : wc.cell? ⟨gb175, 4, none⟩ = some (.int .i64 a1_4) := (blk_cell BK175.out 4).trans rfl
                                          have hcz87_5 : wc.cell? ⟨gb175, 5, none⟩ = some (.int .i64 a1_5) := (blk_cell BK175.out 5).trans rfl
                                          have hcz87_6 : wc.cell? ⟨gb175, 6, none⟩ = some (.int .i64 a1_6) := (blk_cell BK175.out 6).trans rfl
                                          have hcz87_7 : wc.cell? ⟨gb175, 7, none⟩ = some (.int .i64 a1_7) := (blk_cell BK175.out 7).trans rfl
                                          have hcz87_8 : wc.cell? ⟨gb175, 8, none⟩ = some (.int .i64 a1_8) := (blk_cell BK175.out 8).trans rfl
                                          have hcz87_9 : wc.cell? ⟨gb175, 9, none⟩ = some (.int .i64 a1_9) := (blk_cell BK175.out 9).trans rfl
                                          have hcz87_10 : wc.cell? ⟨gb175, 10, none⟩ = some (.int .i64 a1_10) := (blk_cell BK175.out 10).trans rfl
                                          have hcz87_11 : wc.cell? ⟨gb175, 11, none⟩ = some (.int .i64 a1_11) := (blk_cell BK175.out 11).trans rfl
                                          have hcz87_12 : wc.cell? ⟨gb175, 12, none⟩ = some (.int .i64 a1_12) := (blk_cell BK175.out 12).trans rfl
                                          have hfz87_0 := blk_frozen BK175.out 0
                                          have hfz87_1 := blk_frozen BK175.out 1
                                          have hfz87_2 := blk_frozen BK175.out 2
                                          have hfz87_3 := blk_frozen BK175.out 3
                                          have hfz87_4 := blk_frozen BK175.out 4
                                          have hfz87_5 := blk_frozen BK175.out 5
                                          have hfz87_6 := blk_frozen BK175.out 6
                                          have hfz87_7 := blk_frozen BK175.out 7
                                          have hfz87_8 := blk_frozen BK175.out 8
                                          have hfz87_9 := blk_frozen BK175.out 9
                                          have hfz87_10 := blk_frozen BK175.out 10
                                          have hfz87_11 := blk_frozen BK175.out 11
                                          have hfz87_12 := blk_frozen BK175.out 12
                                          try go_wp2_with (first | ((with_reducible refine gate_dst (N := 6) rfl ?_); refine box_event ?hg (N := 6) ?hd (cs := #[.int .i64 0, .int .i64 0, .int .i64 0, .int .i64 0, .int .i64 0]) (t := 58) ?hr ?_; (case hd => rfl); (case hg => rfl); (case hr => first | (go_simp; done) | (go_simp; rfl)); intro gb193 hg w88 hbox hb; have n0_ := Aside0.mk (blk_below (g := gb174) (o := .cells #[.int .i64 a0_0, .string a0_1, .string a0_2, .int .i64 a0_3, .int .i64 a0_4, .int .i64 a0_5, .string a0_6] 24 (0, 0)) (by (with_reducible repeat (first | refine blk_drewN ?_ _ | refine blk_drew ?_ | refine blk_alloc ?_ _)); exact BK174.out) hb); have n1_ := Aside0.mk (blk_below (g := gb175) (o := .cells #[.int .i64 a1_0, .string a1_1, .slice A1_2 l1_2.length c1_2, .int .i64 a1_3, .int .i64 a1_4, .int .i64 a1_5, .int .i64 a1_6, .int .i64 a1_7, .int .i64 a1_8, .int .i64 a1_9, .int .i64 a1_10, .int .i64 a1_11, .int .i64 a1_12] 60 (0, 0)) (by (with_reducible repeat (first | refine blk_drewN ?_ _ | refine blk_drew ?_ | refine blk_alloc ?_ _)); exact BK175.out) hb); have n2_ := Aside0.mk (blk_below (g := gb177) (o := .cells #[.int .i64 a1_4, .int .i64 a1_5, .int .i64 a1_6, .int .i64 a1_7] 57 (0, 0)) (by (with_reducible repeat (first | refine blk_drewN ?_ _ | refine blk_drew ?_ | refine blk_alloc ?_ _)); exact BK177.out) hb); have n3_ := Aside0.mk (below_step (by repeat (first | (with_reducible first | exact HB.out | apply below_alloc | apply pw_below_drewN | apply below_drew1 | refine below_set ?_ GE174.out | refine below_set ?_ GE175.out | refine below_set ?_ GE177.out) | exact HB.out)) hb); have n4_ := Aside0.mk (hbox); have n5_ := Aside0.mk ((by rw [hg]; exact (below_size (by repeat (first | (with_reducible first | exact HB.out | apply below_alloc | apply pw_below_drewN | apply below_drew1 | refine below_set ?_ GE174.out | refine below_set ?_ GE175.out | refine below_set ?_ GE177.out) | exact HB.out))) : w.heap.size ≤ gb193)); have n6_ := Aside0.mk ((by rw [hg]; exact (below_size (by repeat (first | (with_reducible first | exact HB.out | apply below_alloc | apply pw_below_drewN | apply below_drew1 | refine below_set ?_ GE174.out | refine below_set ?_ GE175.out | refine below_set ?_ GE177.out) | exact HB.out))) : w.heap.size ≤ gb193)); have n7_ := Aside0.mk ((by rw [hg]; exact Nat.ne_of_lt (blk_lt (g := gb174) (o := .cells #[.int .i64 a0_0, .string a0_1, .string a0_2, .int .i64 a0_3, .int .i64 a0_4, .int .i64 a0_5, .string a0_6] 24 (0, 0)) (by (with_reducible repeat (first | refine blk_drewN ?_ _ | refine blk_drew ?_ | refine blk_alloc ?_ _)); exact BK174.out)) : gb174 ≠ gb193)); have n8_ := Aside0.mk ((by rw [hg]; exact Nat.ne_of_gt (blk_lt (g := gb174) (o := .cells #[.int .i64 a0_0, .string a0_1, .string a0_2, .int .i64 a0_3, .int .i64 a0_4, .int .i64 a0_5, .string a0_6] 24 (0, 0)) (by (with_reducible repeat (first | refine blk_drewN ?_ _ | refine blk_drew ?_ | refine blk_alloc ?_ _)); exact BK174.out)) : gb193 ≠ gb174)); have n9_ := Aside0.mk ((by rw [hg]; exact Nat.ne_of_lt (blk_lt (g := gb175) (o := .cells #[.int .i64 a1_0, .string a1_1, .slice A1_2 l1_2.length c1_2, .int .i64 a1_3, .int .i64 a1_4, .int .i64 a1_5, .int .i64 a1_6, .int .i64 a1_7, .int .i64 a1_8, .int .i64 a1_9, .int .i64 a1_10, .int .i64 a1_11, .int .i64 a1_12] 60 (0, 0)) (by (with_reducible repeat (first | refine blk_drewN ?_ _ | refine blk_drew ?_ | refine blk_alloc ?_ _)); exact BK175.out)) : gb175 ≠ gb193)); have n10_ := Aside0.mk ((by rw [hg]; exact Nat.ne_of_gt (blk_lt (g := gb175) (o := .cells #[.int .i64 a1_0, .string a1_1, .slice A1_2 l1_2.length c1_2, .int .i64 a1_3, .int .i64 a1_4, .int .i64 a1_5, .int .i64 a1_6, .int .i64 a1_7, .int .i64 a1_8, .int .i64 a1_9, .int .i64 a1_10, .int .i64 a1_11, .int .i64 a1_12] 60 (0, 0)) (by (with_reducible repeat (first | refine blk_drewN ?_ _ | refine blk_drew ?_ | refine blk_alloc ?_ _)); exact BK175.out)) : gb193 ≠ gb175)); have n11_ := Aside0.mk ((by rw [hg]; exact Nat.ne_of_lt (blk_lt (g := gb177) (o := .cells #[.int .i64 a1_4, .int .i64 a1_5, .int .i64 a1_6, .int .i64 a1_7] 57 (0, 0)) (by (with_reducible repeat (first | refine blk_drewN ?_ _ | refine blk_drew ?_ | refine blk_alloc ?_ _)); exact BK177.out)) : gb177 ≠ gb193)); have n12_ := Aside0.mk ((by rw [hg]; exact Nat.ne_of_gt (blk_lt (g := gb177) (o := .cells #[.int .i64 a1_4, .int .i64 a1_5, .int .i64 a1_6, .int .i64 a1_7] 57 (0, 0)) (by (with_reducible repeat (first | refine blk_drewN ?_ _ | refine blk_drew ?_ | refine blk_alloc ?_ _)); exact BK177.out)) : gb193 ≠ gb177)); clear BK174; clear BK175; clear BK177; clear HB; have BK174 := n0_; have BK175 := n1_; have BK177 := n2_; have HB := n3_; have BK193 := n4_; have GW193 := n5_; have GE193 := n6_; have NB174_193 := n7_; have NB193_174 := n8_; have NB175_193 := n9_; have NB193_175 := n10_; have NB177_193 := n11_; have NB193_177 := n12_; clear n0_ n1_ n2_ n3_ n4_ n5_ n6_ n7_ n8_ n9_ n10_ n11_ n12_; clear hb hbox hg; have hnb89 := NB193_174.out; have hnc89 := NB174_193.out; have hnb90 := NB193_175.out; have hnc90 := NB175_193.out; have hnb91 := NB193_177.out; have hnc91 := NB177_193.out; have hcz92_0 : w88.cell? ⟨gb193, 0, none⟩ = some (.int .i64 0) := (blk_cell BK193.out 0).trans rfl; have hcz92_1 : w88.cell? ⟨gb193, 1, none⟩ = some (.int .i64 0) := (blk_cell BK193.out 1).trans rfl; have hcz92_2 : w88.cell? ⟨gb193, 2, none⟩ = some (.int .i64 0) := (blk_cell BK193.out 2).trans rfl; have hcz92_3 : w88.cell? ⟨gb193, 3, none⟩ = some (.int .i64 0) := (blk_cell BK193.out 3).trans rfl; have hcz92_4 : w88.cell? ⟨gb193, 4, none⟩ = some (.int .i64 0) := (blk_cell BK193.out 4).trans rfl; have hfz92_0 := blk_frozen BK193.out 0; have hfz92_1 := blk_frozen BK193.out 1; have hfz92_2 := blk_frozen BK193.out 2; have hfz92_3 := blk_frozen BK193.out 3; have hfz92_4 := blk_frozen BK193.out 4))
                                          have n0_ : Aside0 ((((((w88.setCell ⟨gb193, 0, none⟩ (.int .i64 a1_8)).setCell ⟨gb193, 1, none⟩ (.int .i64 a1_9)).setCell ⟨gb193, 2, none⟩ (.int .i64 a1_10)).setCell ⟨gb193, 3, none⟩ (.int .i64 a1_11)).setCell ⟨gb193, 4, none⟩ (.int .i64 a1_12)).heap[gb174]? = some (.cells #[.int .i64 a0_0, .string a0_1, .string a0_2, .int .i64 a0_3, .int .i64 a0_4, .int .i64 a0_5, .string a0_6] 24 (0, 0))) := ⟨by (with_reducible repeat (first | refine blk_drewN ?_ _ | refine blk_drew ?_ | refine blk_alloc ?_ _)); refine blk_far ?_ NB174_193.out _; (with_reducible repeat (first | refine blk_drewN ?_ _ | refine blk_drew ?_ | refine blk_alloc ?_ _)); refine blk_far ?_ NB174_193.out _; (with_reducible repeat (first | refine blk_drewN ?_ _ | refine blk_drew ?_ | refine blk_alloc ?_ _)); refine blk_far ?_ NB174_193.out _; (with_reducible repeat (first | refine blk_drewN ?_ _ | refine blk_drew ?_ | refine blk_alloc ?_ _)); refine blk_far ?_ NB174_193.out _; (with_reducible repeat (first | refine blk_drewN ?_ _ | refine blk_drew ?_ | refine blk_alloc ?_ _)); refine blk_far ?_ NB174_193.out _; (with_reducible repeat (first | refine blk_drewN ?_ _ | refine blk_drew ?_ | refine blk_alloc ?_ _)); exact BK174.out⟩
                                          have n1_ : Aside0 ((((((w88.setCell ⟨gb193, 0, none⟩ (.int .i64 a1_8)).setCell ⟨gb193, 1, none⟩ (.int .i64 a1_9)).setCell ⟨gb193, 2, none⟩ (.int .i64 a1_10)).setCell ⟨gb193, 3, none⟩ (.int .i64 a1_11)).setCell ⟨gb193, 4, none⟩ (.int .i64 a1_12)).heap[gb175]? = some (.cells #[.int .i64 a1_0, .string a1_1, .slice A1_2 l1_2.length c1_2, .int .i64 a1_3, .int .i64 a1_4, .int .i64 a1_5, .int .i64 a1_6, .int .i64 a1_7, .int .i64 a1_8, .int .i64 a1_9, .int .i64 a1_10, .int .i64 a1_11, .int .i64 a1_12] 60 (0, 0))) := ⟨by (with_reducible repeat (first | refine blk_drewN ?_ _ | refine blk_drew ?_ | refine blk_alloc ?_ _)); refine blk_far ?_ NB175_193.out _; (with_reducible repeat (first | refine blk_drewN ?_ _ | refine blk_drew ?_ | refine blk_alloc ?_ _)); refine blk_far ?_ NB175_193.out _; (with_reducible repeat (first | refine blk_drewN ?_ _ | refine blk_drew ?_ | refine blk_alloc ?_ _)); refine blk_far ?_ NB175_193.out _; (with_reducible repeat (first | refine blk_drewN ?_ _ | refine blk_drew ?_ | refine blk_alloc ?_ _)); refine blk_far ?_ NB175_193.out _; (with_reducible repeat (first | refine blk_drewN ?_ _ | refine blk_drew ?_ | refine blk_alloc ?_ _)); refine blk_far ?_ NB175_193.out _; (with_reducible repeat (first | refine blk_drewN ?_ _ | refine blk_drew ?_ | refine blk_alloc ?_ _)); exact BK175.out⟩
                                          have n2_ : Aside0 ((((((w88.setCell ⟨gb193, 0, none⟩ (.int .i64 a1_8)).setCell ⟨gb193, 1, none⟩ (.int .i64 a1_9)).setCell ⟨gb193, 2, none⟩ (.int .i64 a1_10)).setCell ⟨gb193, 3, none⟩ (.int .i64 a1_11)).setCell ⟨gb193, 4, none⟩ (.int .i64 a1_12)).heap[gb177]? = some (.cells #[.int .i64 a1_4, .int .i64 a1_5, .int .i64 a1_6, .int .i64 a1_7] 57 (0, 0))) := ⟨by (with_reducible repeat (first | refine blk_drewN ?_ _ | refine blk_drew ?_ | refine blk_alloc ?_ _)); refine blk_far ?_ NB177_193.out _; (with_reducible repeat (first | refine blk_drewN ?_ _ | refine blk_drew ?_ | refine blk_alloc ?_ _)); refine blk_far ?_ NB177_193.out _; (with_reducible repeat (first | refine blk_drewN ?_ _ | refine blk_drew ?_ | refine blk_alloc ?_ _)); refine blk_far ?_ NB177_193.out _; (with_reducible repeat (first | refine blk_drewN ?_ _ | refine blk_drew ?_ | refine blk_alloc ?_ _)); refine blk_far ?_ NB177_193.out _; (with_reducible repeat (first | refine blk_drewN ?_ _ | refine blk_drew ?_ | refine blk_alloc ?_ _)); refine blk_far ?_ NB177_193.out _; (with_reducible repeat (first | refine blk_drewN ?_ _ | refine blk_drew ?_ | refine blk_alloc ?_ _)); exact BK177.out⟩
                                          have n3_ : Aside0 ((((((w88.setCell ⟨gb193, 0, none⟩ (.int .i64 a1_8)).setCell ⟨gb193, 1, none⟩ (.int .i64 a1_9)).setCell ⟨gb193, 2, none⟩ (.int .i64 a1_10)).setCell ⟨gb193, 3, none⟩ (.int .i64 a1_11)).setCell ⟨gb193, 4, none⟩ (.int .i64 a1_12)).heap[gb193]? = some (.cells #[.int .i64 a1_8, .int .i64 a1_9, .int .i64 a1_10, .int .i64 a1_11, .int .i64 a1_12] 58 (0, 0))) := ⟨by (with_reducible repeat (first | refine blk_drewN ?_ _ | refine blk_drew ?_ | refine blk_alloc ?_ _)); refine blk_put (cs := #[.int .i64 a1_8, .int .i64 a1_9, .int .i64 a1_10, .int .i64 a1_11, .int .i64 0]) ?_ 4 _ rfl; (with_reducible repeat (first | refine blk_drewN ?_ _ | refine blk_drew ?_ | refine blk_alloc ?_ _)); refine blk_put (cs := #[.int .i64 a1_8, .int .i64 a1_9, .int .i64 a1_10, .int .i64 0, .int .i64 0]) ?_ 3 _ rfl; (with_reducible repeat (first | refine blk_drewN ?_ _ | refine blk_drew ?_ | refine blk_alloc ?_ _)); refine blk_put (cs := #[.int .i64 a1_8, .int .i64 a1_9, .int .i64 0, .int .i64 0, .int .i64 0]) ?_ 2 _ rfl; (with_reducible repeat (first | refine blk_drewN ?_ _ | refine blk_drew ?_ | refine blk_alloc ?_ _)); refine blk_put (cs := #[.int .i64 a1_8, .int .i64 0, .int .i64 0, .int .i64 0, .int .i64 0]) ?_ 1 _ rfl; (with_reducible repeat (first | refine blk_drewN ?_ _ | refine blk_drew ?_ | refine blk_alloc ?_ _)); refine blk_put (cs := #[.int .i64 0, .int .i64 0, .int .i64 0, .int .i64 0, .int .i64 0]) ?_ 0 _ rfl; (with_reducible repeat (first | refine blk_drewN ?_ _ | refine blk_drew ?_ | refine blk_alloc ?_ _)); exact BK193.out⟩
                                          have n4_ : Aside0 (Below w.heap.size w (((((w88.setCell ⟨gb193, 0, none⟩ (.int .i64 a1_8)).setCell ⟨gb193, 1, none⟩ (.int .i64 a1_9)).setCell ⟨gb193, 2, none⟩ (.int .i64 a1_10)).setCell ⟨gb193, 3, none⟩ (.int .i64 a1_11)).setCell ⟨gb193, 4, none⟩ (.int .i64 a1_12))) := ⟨by repeat (first | (with_reducible first | exact HB.out | apply below_alloc | apply pw_below_drewN | apply below_drew1 | refine below_set ?_ GE174.out | refine below_set ?_ GE175.out | refine below_set ?_ GE177.out | refine below_set ?_ GE193.out) | exact HB.out)⟩
                                          (try clear BK174)
                                          (try clear BK175)
                                          (try clear BK177)
                                          (try clear BK193)
                                          (try clear HB)
                                          generalize (((((w88.setCell ⟨gb193, 0, none⟩ (.int .i64 a1_8)).setCell ⟨gb193, 1, none⟩ (.int .i64 a1_9)).setCell ⟨gb193, 2, none⟩ (.int .i64 a1_10)).setCell ⟨gb193, 3, none⟩ (.int .i64 a1_11)).setCell ⟨gb193, 4, none⟩ (.int .i64 a1_12)) = w93 at n0_ n1_ n2_ n3_ n4_ ⊢
                                          have BK174 := n0_
                                          have BK175 := n1_
                                          have BK177 := n2_
                                          have BK193 := n3_
                                          have HB := n4_
                                          clear n0_ n1_ n2_ n3_ n4_
                                          have n0_ := Aside0.mk (blk_drew BK174.out)
                                          have n1_ := Aside0.mk (blk_drew BK175.out)
                                          have n2_ := Aside0.mk (blk_drew BK177.out)
                                          have n3_ := Aside0.mk (blk_drew BK193.out)
                                          have n4_ := Aside0.mk (below_drew1 HB.out)
                                          clear BK174
                                          clear BK175
                                          clear BK177
                                          clear BK193
                                          clear HB
                                          have BK174 := n0_
                                          have BK175 := n1_
                                          have BK177 := n2_
                                          have BK193 := n3_
                                          have HB := n4_
                                          clear n0_ n1_ n2_ n3_ n4_
                                          refine start_ (n := 25) (S := fun w' => w'.cell? ⟨gb193, 0, none⟩ = some (.int .i64 a1_8) ∧ w'.cell? ⟨gb193, 1, none⟩ = some (.int .i64 a1_9) ∧ w'.cell? ⟨gb193, 2, none⟩ = some (.int .i64 a1_10) ∧ w'.cell? ⟨gb193, 3, none⟩ = some (.int .i64 a1_11) ∧ w'.cell? ⟨gb193, 4, none⟩ = some (.int .i64 a1_12)) (ds := []) #[false, false, false, false, false, false, false, false, false, false, false, false, false, false, false, false, false, false, false, false, false, false, false, false, false] (by kernel_rfl) rfl rfl ⟨(blk_cell BK193.out 0).trans rfl, (blk_cell BK193.out 1).trans rfl, (blk_cell BK193.out 2).trans rfl, (blk_cell BK193.out 3).trans rfl, (blk_cell BK193.out 4).trans rfl⟩ (fun hHeld => ?_); refine with_tabW impl_FormatAnswer.tab21 impl_FormatAnswer.bits21 (fun HT_ HW_ => ?_)
                                          generalize w93.drew = w94 at BK174 BK175 BK177 BK193 HB hHeld ⊢
                                          refine pure_ (i := 0) (N := some 79) (v := ?_) (a' := ?_) #[true, false, false, false, false, false, false, false, false, false, false, false, false, false, false, false, false, false, false, false, false, false, false, false, false] rfl rfl (any_of HT_.out (by kernel_rfl)) (fun _ _ _ h => h) (Or.inl ⟨by rfl, ?_⟩) ?_ ?_
                                          rotate_left
                                          · intro w'
                                            go_simp
                                            with_reducible rfl
                                          rotate_left
                                          · simp only [Act.put, List.setIfInBounds_toArray, List.set_cons_zero, List.set_cons_succ, i64_w, i32_w]
                                            rfl
                                          refine pure_ (i := 5) (N := some 84) (v := ?_) (a' := ?_) #[true, false, false, false, false, true, false, false, false, false, false, false, false, false, false, false, false, false, false, false, false, false, false, false, false] rfl rfl (any_of HT_.out (by kernel_rfl)) (fun _ _ _ h => h) (Or.inl ⟨by rfl, ?_⟩) ?_ ?_
                                          rotate_left
                                          · intro w'
                                            go_simp
                                            with_reducible rfl
                                          rotate_left
                                          · simp only [Act.put, List.setIfInBounds_toArray, List.set_cons_zero, List.set_cons_succ, i64_w, i32_w]
                                            rfl
                                          refine pure_ (i := 10) (N := some 89) (v := ?_) (a' := ?_) #[true, false, false, false, false, true, false, false, false, false, true, false, false, false, false, false, false, false, false, false, false, false, false, false, false] rfl rfl (any_of HT_.out (by kernel_rfl)) (fun _ _ _ h => h) (Or.inl ⟨by rfl, ?_⟩) ?_ ?_
                                          rotate_left
                                          · intro w'
                                            go_simp
                                            with_reducible rfl
                                          rotate_left
                                          · simp only [Act.put, List.setIfInBounds_toArray, List.set_cons_zero, List.set_cons_succ, i64_w, i32_w]
                                            rfl
                                          refine pure_ (i := 15) (N := some 94) (v := ?_) (a' := ?_) #[true, false, false, false, false, true, false, false, false, false, true, false, false, false, false, true, false, false, false, false, false, false, false, false, false] rfl rfl (any_of HT_.out (by kernel_rfl)) (fun _ _ _ h => h) (Or.inl ⟨by rfl, ?_⟩) ?_ ?_
                                          rotate_left
                                          · intro w'
                                            go_simp
                                            with_reducible rfl
                                          rotate_left
                                          · simp only [Act.put, List.setIfInBounds_toArray, List.set_cons_zero, List.set_cons_succ, i64_w, i32_w]
                                            rfl
                                          refine pure_ (i := 20) (N := some 99) (v := ?_) (a' := ?_) #[true, false, false, false, false, true, false, false, false, false, true, false, false, false, false, true, false, false, false, false, true, false, false, false, false] rfl rfl (any_of HT_.out (by kernel_rfl)) (fun _ _ _ h => h) (Or.inl ⟨by rfl, ?_⟩) ?_ ?_
                                          rotate_left
                                          · intro w'
                                            go_simp
                                            with_reducible rfl
                                          rotate_left
                                          · simp only [Act.put, List.setIfInBounds_toArray, List.set_cons_zero, List.set_cons_succ, i64_w, i32_w]
                                            rfl
                                          refine take_ (i := 1) (N := some 80) (v := ?_) (a' := ?_) #[true, true, false, false, false, true, false, false, false, false, true, false, false, false, false, true, false, false, false, false, true, false, false, false, false] rfl rfl (take_ofW HT_.out HW_.out (by kernel_rfl)) (fun _ _ _ h => h) (Or.inl ⟨by rfl, ?_⟩) hHeld ?_ ?_
                                          rotate_left
                                          · rintro w' ⟨s0, s1, s2, s3, s4⟩
                                            go_simp
                                            with_reducible rfl
                                          rotate_left
                                          · simp only [Act.put, List.setIfInBounds_toArray, List.set_cons_zero, List.set_cons_succ, i64_w, i32_w]
                                            rfl
                                          refine take_ (i := 6) (N := some 85) (v := ?_) (a' := ?_) #[true, true, false, false, false, true, true, false, false, false, true, false, false, false, false, true, false, false, false, false, true, false, false, false, false] rfl rfl (take_ofW HT_.out HW_.out (by kernel_rfl)) (fun _ _ _ h => h) (Or.inl ⟨by rfl, ?_⟩) hHeld ?_ ?_
                                          rotate_left
                                          · rintro w' ⟨s0, s1, s2, s3, s4⟩
                                            go_simp
                                            with_reducible rfl
                                          rotate_left
                                          · simp only [Act.put, List.setIfInBounds_toArray, List.set_cons_zero, List.set_cons_succ, i64_w, i32_w]
                                            rfl
                                          refine take_ (i := 11) (N := some 90) (v := ?_) (a' := ?_) #[true, true, false, false, false, true, true, false, false, false, true, true, false, false, false, true, false, false, false, false, true, false, false, false, false] rfl rfl (take_ofW HT_.out HW_.out (by kernel_rfl)) (fun _ _ _ h => h) (Or.inl ⟨by rfl, ?_⟩) hHeld ?_ ?_
                                          rotate_left
                                          · rintro w' ⟨s0, s1, s2, s3, s4⟩
                                            go_simp
                                            with_reducible rfl
                                          rotate_left
                                          · simp only [Act.put, List.setIfInBounds_toArray, List.set_cons_zero, List.set_cons_succ, i64_w, i32_w]
                                            rfl
                                          refine take_ (i := 16) (N := some 95) (v := ?_) (a' := ?_) #[true, true, false, false, false, true, true, false, false, false, true, true, false, false, false, true, true, false, false, false, true, false, false, false, false] rfl rfl (take_ofW HT_.out HW_.out (by kernel_rfl)) (fun _ _ _ h => h) (Or.inl ⟨by rfl, ?_⟩) hHeld ?_ ?_
                                          rotate_left
                                          · rintro w' ⟨s0, s1, s2, s3, s4⟩
                                            go_simp
                                            with_reducible rfl
                                          rotate_left
                                          · simp only [Act.put, List.setIfInBounds_toArray, List.set_cons_zero, List.set_cons_succ, i64_w, i32_w]
                                            rfl
                                          refine take_ (i := 21) (N := some 100) (v := ?_) (a' := ?_) #[true, true, false, false, false, true, true, false, false, false, true, true, false, false, false, true, true, false, false, false, true, true, false, false, false] rfl rfl (take_ofW HT_.out HW_.out (by kernel_rfl)) (fun _ _ _ h => h) (Or.inl ⟨by rfl, ?_⟩) hHeld ?_ ?_
                                          rotate_left
                                          · rintro w' ⟨s0, s1, s2, s3, s4⟩
                                            go_simp
                                            with_reducible rfl
                                          rotate_left
                                          · simp only [Act.put, List.setIfInBounds_toArray, List.set_cons_zero, List.set_cons_succ, i64_w, i32_w]
                                            rfl
                                          refine one_ (i := 2) (N := some 81) #[true, true, true, false, false, true, true, false, false, false, true, true, false, false, false, true, true, false, false, false, true, true, false, false, false] rfl rfl (one_of HT_.out (by kernel_rfl)) (by decide) (fun K hK => ?_)
                                          refine goes_ Tryd.func53 (by kernel_rfl) rfl #[.int .i64 a1_8] (by rfl) rfl rfl (by (try simp only [List.map_toArray, List.map_cons, List.map_nil]); first | done | rfl | (simp only [List.length_drop, List.length_take]; rfl)) ?_
                                          with_reducible refine (impl_dec.calls a1_8 t194 _ A71.out (hG0.below (by repeat (first | (with_reducible first | exact HB.out | apply below_alloc | apply pw_below_drewN | apply below_drew1 | refine below_set ?_ GE174.out | refine below_set ?_ GE175.out | refine below_set ?_ GE177.out | refine below_set ?_ GE193.out) | exact HB.out)))).mono ?_
                                          rintro e w95 ⟨rfl, hb⟩
                                          refine ⟨_, rfl, ?_⟩
                                          have n0_ := Aside0.mk (blk_below (g := gb174) (o := .cells #[.int .i64 a0_0, .string a0_1, .string a0_2, .int .i64 a0_3, .int .i64 a0_4, .int .i64 a0_5, .string a0_6] 24 (0, 0)) (by (with_reducible repeat (first | refine blk_drewN ?_ _ | refine blk_drew ?_ | refine blk_alloc ?_ _)); exact BK174.out) hb)
                                          have n1_ := Aside0.mk (blk_below (g := gb175) (o := .cells #[.int .i64 a1_0, .string a1_1, .slice A1_2 l1_2.length c1_2, .int .i64 a1_3, .int .i64 a1_4, .int .i64 a1_5, .int .i64 a1_6, .int .i64 a1_7, .int .i64 a1_8, .int .i64 a1_9, .int .i64 a1_10, .int .i64 a1_11, .int .i64 a1_12] 60 (0, 0)) (by (with_reducible repeat (first | refine blk_drewN ?_ _ | refine blk_drew ?_ | refine blk_alloc ?_ _)); exact BK175.out) hb)
                                          have n2_ := Aside0.mk (blk_below (g := gb177) (o := .cells #[.int .i64 a1_4, .int .i64 a1_5, .int .i64 a1_6, .int .i64 a1_7] 57 (0, 0)) (by (with_reducible repeat (first | refine blk_drewN ?_ _ | refine blk_drew ?_ | refine blk_alloc ?_ _)); exact BK177.out) hb)
                                          have n3_ := Aside0.mk (blk_below (g := gb193) (o := .cells #[.int .i64 a1_8, .int .i64 a1_9, .int .i64 a1_10, .int .i64 a1_11, .int .i64 a1_12] 58 (0, 0)) (by (with_reducible repeat (first | refine blk_drewN ?_ _ | refine blk_drew ?_ | refine blk_alloc ?_ _)); exact BK193.out) hb)
                                          have n4_ := Aside0.mk (below_step (by repeat (first | (with_reducible first | exact HB.out | apply below_alloc | apply pw_below_drewN | apply below_drew1 | refine below_set ?_ GE174.out | refine below_set ?_ GE175.out | refine below_set ?_ GE177.out | refine below_set ?_ GE193.out) | exact HB.out)) hb)
                                          clear BK174
                                          clear BK175
                                          clear BK177
                                          clear BK193
                                          clear HB
                                          have BK174 := n0_
                                          have BK175 := n1_
                                          have BK177 := n2_
                                          have BK193 := n3_
                                          have HB := n4_
                                          clear n0_ n1_ n2_ n3_ n4_
                                          (try clear hb)
                                          (try clear hb2)
                                          (try clear hk)
                                          (try clear hi)
                                          refine hK.out _ _ ⟨(blk_cell BK193.out 0).trans rfl, (blk_cell BK193.out 1).trans rfl, (blk_cell BK193.out 2).trans rfl, (blk_cell BK193.out 3).trans rfl, (blk_cell BK193.out 4).trans rfl⟩ (fun hHeld => ?_)
                                          clear hK K
                                          refine norm_ (a' := ?_) ?_ ?_
                                          rotate_left
                                          · show Act.put _ (some 81) _ = _
                                            simp only [Act.put, List.setIfInBounds_toArray, List.set_cons_zero, List.set_cons_succ, i64_w, i32_w]
                                            rfl
                                          refine pure_ (i := 3) (N := some 82) (v := ?_) (a' := ?_) #[true, true, true, true, false, true, true, false, false, false, true, true, false, false, false, true, true, false, false, false, true, true, false, false, false] rfl rfl (any_of HT_.out (by kernel_rfl)) (fun _ _ _ h => h) (Or.inl ⟨by rfl, ?_⟩) ?_ ?_
                                          rotate_left
                                          · intro w'
                                            go_simp
                                            with_reducible rfl
                                          rotate_left
                                          · simp only [Act.put, List.setIfInBounds_toArray, List.set_cons_zero, List.set_cons_succ, i64_w, i32_w]
                                            rfl
                                          refine pure_ (i := 4) (N := some 83) (v := ?_) (a' := ?_) #[true, true, true, true, true, true, true, false, false, false, true, true, false, false, false, true, true, false, false, false, true, true, false, false, false] rfl rfl (any_of HT_.out (by kernel_rfl)) (fun _ _ _ h => h) (Or.inl ⟨by rfl, ?_⟩) ?_ ?_
                                          rotate_left
                                          · intro w'
                                            go_simp
                                            with_reducible rfl
                                          rotate_left
                                          · simp only [Act.put, List.setIfInBounds_toArray, List.set_cons_zero, List.set_cons_succ, i64_w, i32_w]
                                            rfl
                                          refine one_ (i := 7) (N := some 86) #[true, true, true, true, true, true, true, true, false, false, true, true, false, false, false, true, true, false, false, false, true, true, false, false, false] rfl rfl (one_of HT_.out (by kernel_rfl)) (by decide) (fun K hK => ?_)
                                          refine goes_ Tryd.func53 (by kernel_rfl) rfl #[.int .i64 a1_9] (by rfl) rfl rfl (by (try simp only [List.map_toArray, List.map_cons, List.map_nil]); first | done | rfl | (simp only [List.length_drop, List.length_take]; rfl)) ?_
                                          with_reducible refine (impl_dec.calls a1_9 t195 _ A74.out (hG0.below (by repeat (first | (with_reducible first | exact HB.out | apply below_alloc | apply pw_below_drewN | apply below_drew1 | refine below_set ?_ GE174.out | refine below_set ?_ GE175.out | refine below_set ?_ GE177.out | refine below_set ?_ GE193.out) | exact HB.out)))).mono ?_
                                          rintro e w96 ⟨rfl, hb⟩
                                          refine ⟨_, rfl, ?_⟩
                                          have n0_ := Aside0.mk (blk_below (g := gb174) (o := .cells #[.int .i64 a0_0, .string a0_1, .string a0_2, .int .i64 a0_3, .int .i64 a0_4, .int .i64 a0_5, .string a0_6] 24 (0, 0)) (by (with_reducible repeat (first | refine blk_drewN ?_ _ | refine blk_drew ?_ | refine blk_alloc ?_ _)); exact BK174.out) hb)
                                          have n1_ := Aside0.mk (blk_below (g := gb175) (o := .cells #[.int .i64 a1_0, .string a1_1, .slice A1_2 l1_2.length c1_2, .int .i64 a1_3, .int .i64 a1_4, .int .i64 a1_5, .int .i64 a1_6, .int .i64 a1_7, .int .i64 a1_8, .int .i64 a1_9, .int .i64 a1_10, .int .i64 a1_11, .int .i64 a1_12] 60 (0, 0)) (by (with_reducible repeat (first | refine blk_drewN ?_ _ | refine blk_drew ?_ | refine blk_alloc ?_ _)); exact BK175.out) hb)
                                          have n2_ := Aside0.mk (blk_below (g := gb177) (o := .cells #[.int .i64 a1_4, .int .i64 a1_5, .int .i64 a1_6, .int .i64 a1_7] 57 (0, 0)) (by (with_reducible repeat (first | refine blk_drewN ?_ _ | refine blk_drew ?_ | refine blk_alloc ?_ _)); exact BK177.out) hb)
                                          have n3_ := Aside0.mk (blk_below (g := gb193) (o := .cells #[.int .i64 a1_8, .int .i64 a1_9, .int .i64 a1_10, .int .i64 a1_11, .int .i64 a1_12] 58 (0, 0)) (by (with_reducible repeat (first | refine blk_drewN ?_ _ | refine blk_drew ?_ | refine blk_alloc ?_ _)); exact BK193.out) hb)
                                          have n4_ := Aside0.mk (below_step (by repeat (first | (with_reducible first | exact HB.out | apply below_alloc | apply pw_below_drewN | apply below_drew1 | refine below_set ?_ GE174.out | refine below_set ?_ GE175.out | refine below_set ?_ GE177.out | refine below_set ?_ GE193.out) | exact HB.out)) hb)
                                          clear BK174
                                          clear BK175
                                          clear BK177
                                          clear BK193
                                          clear HB
                                          have BK174 := n0_
                                          have BK175 := n1_
                                          have BK177 := n2_
                                          have BK193 := n3_
                                          have HB := n4_
                                          clear n0_ n1_ n2_ n3_ n4_
                                          (try clear hb)
                                          (try clear hb2)
                                          (try clear hk)
                                          (try clear hi)
                                          refine hK.out _ _ ⟨(blk_cell BK193.out 0).trans rfl, (blk_cell BK193.out 1).trans rfl, (blk_cell BK193.out 2).trans rfl, (blk_cell BK193.out 3).trans rfl, (blk_cell BK193.out 4).trans rfl⟩ (fun hHeld => ?_)
                                          clear hK K
                                          refine norm_ (a' := ?_) ?_ ?_
                                          rotate_left
                                          · show Act.put _ (some 86) _ = _
                                            simp only [Act.put, List.setIfInBounds_toArray, List.set_cons_zero, List.set_cons_succ, i64_w, i32_w]
                                            rfl
                                          refine pure_ (i := 8) (N := some 87) (v := ?_) (a' := ?_) #[true, true, true, true, true, true, true, true, true, false, true, true, false, false, false, true, true, false, false, false, true, true, false, false, false] rfl rfl (any_of HT_.out (by kernel_rfl)) (fun _ _ _ h => h) (Or.inl ⟨by rfl, ?_⟩) ?_ ?_
                                          rotate_left
                                          · intro w'
                                            go_simp
                                            with_reducible rfl
                                          rotate_left
                                          · simp only [Act.put, List.setIfInBounds_toArray, List.set_cons_zero, List.set_cons_succ, i64_w, i32_w]
                                            rfl
                                          refine pure_ (i := 9) (N := some 88) (v := ?_) (a' := ?_) #[true, true, true, true, true, true, true, true, true, true, true, true, false, false, false, true, true, false, false, false, true, true, false, false, false] rfl rfl (any_of HT_.out (by kernel_rfl)) (fun _ _ _ h => h) (Or.inl ⟨by rfl, ?_⟩) ?_ ?_
                                          rotate_left
                                          · intro w'
                                            go_simp
                                            with_reducible rfl
                                          rotate_left
                                          · simp only [Act.put, List.setIfInBounds_toArray, List.set_cons_zero, List.set_cons_succ, i64_w, i32_w]
                                            rfl
                                          refine one_ (i := 12) (N := some 91) #[true, true, true, true, true, true, true, true, true, true, true, true, true, false, false, true, true, false, false, false, true, true, false, false, false] rfl rfl (one_of HT_.out (by kernel_rfl)) (by decide) (fun K hK => ?_)
                                          refine goes_ Tryd.func53 (by kernel_rfl) rfl #[.int .i64 a1_10] (by rfl) rfl rfl (by (try simp only [List.map_toArray, List.map_cons, List.map_nil]); first | done | rfl | (simp only [List.length_drop, List.length_take]; rfl)) ?_
                                          with_reducible refine (impl_dec.calls a1_10 t196 _ A77.out (hG0.below (by repeat (first | (with_reducible first | exact HB.out | apply below_alloc | apply pw_below_drewN | apply below_drew1 | refine below_set ?_ GE174.out | refine below_set ?_ GE175.out | refine below_set ?_ GE177.out | refine below_set ?_ GE193.out) | exact HB.out)))).mono ?_
                                          rintro e w97 ⟨rfl, hb⟩
                                          refine ⟨_, rfl, ?_⟩
                                          have n0_ := Aside0.mk (blk_below (g := gb174) (o := .cells #[.int .i64 a0_0, .string a0_1, .string a0_2, .int .i64 a0_3, .int .i64 a0_4, .int .i64 a0_5, .string a0_6] 24 (0, 0)) (by (with_reducible repeat (first | refine blk_drewN ?_ _ | refine blk_drew ?_ | refine blk_alloc ?_ _)); exact BK174.out) hb)
                                          have n1_ := Aside0.mk (blk_below (g := gb175) (o := .cells #[.int .i64 a1_0, .string a1_1, .slice A1_2 l1_2.length c1_2, .int .i64 a1_3, .int .i64 a1_4, .int .i64 a1_5, .int .i64 a1_6, .int .i64 a1_7, .int .i64 a1_8, .int .i64 a1_9, .int .i64 a1_10, .int .i64 a1_11, .int .i64 a1_12] 60 (0, 0)) (by (with_reducible repeat (first | refine blk_drewN ?_ _ | refine blk_drew ?_ | refine blk_alloc ?_ _)); exact BK175.out) hb)
                                          have n2_ := Aside0.mk (blk_below (g := gb177) (o := .cells #[.int .i64 a1_4, .int .i64 a1_5, .int .i64 a1_6, .int .i64 a1_7] 57 (0, 0)) (by (with_reducible repeat (first | refine blk_drewN ?_ _ | refine blk_drew ?_ | refine blk_alloc ?_ _)); exact BK177.out) hb)
                                          have n3_ := Aside0.mk (blk_below (g := gb193) (o := .cells #[.int .i64 a1_8, .int .i64 a1_9, .int .i64 a1_10, .int .i64 a1_11, .int .i64 a1_12] 58 (0, 0)) (by (with_reducible repeat (first | refine blk_drewN ?_ _ | refine blk_drew ?_ | refine blk_alloc ?_ _)); exact BK193.out) hb)
                                          have n4_ := Aside0.mk (below_step (by repeat (first | (with_reducible first | exact HB.out | apply below_alloc | apply pw_below_drewN | apply below_drew1 | refine below_set ?_ GE174.out | refine below_set ?_ GE175.out | refine below_set ?_ GE177.out | refine below_set ?_ GE193.out) | exact HB.out)) hb)
                                          clear BK174
                                          clear BK175
                                          clear BK177
                                          clear BK193
                                          clear HB
                                          have BK174 := n0_
                                          have BK175 := n1_
                                          have BK177 := n2_
                                          have BK193 := n3_
                                          have HB := n4_
                                          clear n0_ n1_ n2_ n3_ n4_
                                          (try clear hb)
                                          (try clear hb2)
                                          (try clear hk)
                                          (try clear hi)
                                          refine hK.out _ _ ⟨(blk_cell BK193.out 0).trans rfl, (blk_cell BK193.out 1).trans rfl, (blk_cell BK193.out 2).trans rfl, (blk_cell BK193.out 3).trans rfl, (blk_cell BK193.out 4).trans rfl⟩ (fun hHeld => ?_)
                                          clear hK K
                                          refine norm_ (a' := ?_) ?_ ?_
                                          rotate_left
                                          · show Act.put _ (some 91) _ = _
                                            simp only [Act.put, List.setIfInBounds_toArray, List.set_cons_zero, List.set_cons_succ, i64_w, i32_w]
                                            rfl
                                          refine pure_ (i := 13) (N := some 92) (v := ?_) (a' := ?_) #[true, true, true, true, true, true, true, true, true, true, true, true, true, true, false, true, true, false, false, false, true, true, false, false, false] rfl rfl (any_of HT_.out (by kernel_rfl)) (fun _ _ _ h => h) (Or.inl ⟨by rfl, ?_⟩) ?_ ?_
                                          rotate_left
                                          · intro w'
                                            go_simp
                                            with_reducible rfl
                                          rotate_left
                                          · simp only [Act.put, List.setIfInBounds_toArray, List.set_cons_zero, List.set_cons_succ, i64_w, i32_w]
                                            rfl
                                          refine pure_ (i := 14) (N := some 93) (v := ?_) (a' := ?_) #[true, true, true, true, true, true, true, true, true, true, true, true, true, true, true, true, true, false, false, false, true, true, false, false, false] rfl rfl (any_of HT_.out (by kernel_rfl)) (fun _ _ _ h => h) (Or.inl ⟨by rfl, ?_⟩) ?_ ?_
                                          rotate_left
                                          · intro w'
                                            go_simp
                                            with_reducible rfl
                                          rotate_left
                                          · simp only [Act.put, List.setIfInBounds_toArray, List.set_cons_zero, List.set_cons_succ, i64_w, i32_w]
                                            rfl
                                          refine one_ (i := 17) (N := some 96) #[true, true, true, true, true, true, true, true, true, true, true, true, true, true, true, true, true, true, false, false, true, true, false, false, false] rfl rfl (one_of HT_.out (by kernel_rfl)) (by decide) (fun K hK => ?_)
                                          refine goes_ Tryd.func53 (by kernel_rfl) rfl #[.int .i64 a1_11] (by rfl) rfl rfl (by (try simp only [List.map_toArray, List.map_cons, List.map_nil]); first | done | rfl | (simp only [List.length_drop, List.length_take]; rfl)) ?_
                                          with_reducible refine (impl_dec.calls a1_11 t197 _ A80.out (hG0.below (by repeat (first | (with_reducible first | exact HB.out | apply below_alloc | apply pw_below_drewN | apply below_drew1 | refine below_set ?_ GE174.out | refine below_set ?_ GE175.out | refine below_set ?_ GE177.out | refine below_set ?_ GE193.out) | exact HB.out)))).mono ?_
                                          rintro e w98 ⟨rfl, hb⟩
                                          refine ⟨_, rfl, ?_⟩
                                          have n0_ := Aside0.mk (blk_below (g := gb174) (o := .cells #[.int .i64 a0_0, .string a0_1, .string a0_2, .int .i64 a0_3, .int .i64 a0_4, .int .i64 a0_5, .string a0_6] 24 (0, 0)) (by (with_reducible repeat (first | refine blk_drewN ?_ _ | refine blk_drew ?_ | refine blk_alloc ?_ _)); exact BK174.out) hb)
                                          have n1_ := Aside0.mk (blk_below (g := gb175) (o := .cells #[.int .i64 a1_0, .string a1_1, .slice A1_2 l1_2.length c1_2, .int .i64 a1_3, .int .i64 a1_4, .int .i64 a1_5, .int .i64 a1_6, .int .i64 a1_7, .int .i64 a1_8, .int .i64 a1_9, .int .i64 a1_10, .int .i64 a1_11, .int .i64 a1_12] 60 (0, 0)) (by (with_reducible repeat (first | refine blk_drewN ?_ _ | refine blk_drew ?_ | refine blk_alloc ?_ _)); exact BK175.out) hb)
                                          have n2_ := Aside0.mk (blk_below (g := gb177) (o := .cells #[.int .i64 a1_4, .int .i64 a1_5, .int .i64 a1_6, .int .i64 a1_7] 57 (0, 0)) (by (with_reducible repeat (first | refine blk_drewN ?_ _ | refine blk_drew ?_ | refine blk_alloc ?_ _)); exact BK177.out) hb)
                                          have n3_ := Aside0.mk (blk_below (g := gb193) (o := .cells #[.int .i64 a1_8, .int .i64 a1_9, .int .i64 a1_10, .int .i64 a1_11, .int .i64 a1_12] 58 (0, 0)) (by (with_reducible repeat (first | refine blk_drewN ?_ _ | refine blk_drew ?_ | refine blk_alloc ?_ _)); exact BK193.out) hb)
                                          have n4_ := Aside0.mk (below_step (by repeat (first | (with_reducible first | exact HB.out | apply below_alloc | apply pw_below_drewN | apply below_drew1 | refine below_set ?_ GE174.out | refine below_set ?_ GE175.out | refine below_set ?_ GE177.out | refine below_set ?_ GE193.out) | exact HB.out)) hb)
                                          clear BK174
                                          clear BK175
                                          clear BK177
                                          clear BK193
                                          clear HB
                                          have BK174 := n0_
                                          have BK175 := n1_
                                          have BK177 := n2_
                                          have BK193 := n3_
                                          have HB := n4_
                                          clear n0_ n1_ n2_ n3_ n4_
                                          (try clear hb)
                                          (try clear hb2)
                                          (try clear hk)
                                          (try clear hi)
                                          refine hK.out _ _ ⟨(blk_cell BK193.out 0).trans rfl, (blk_cell BK193.out 1).trans rfl, (blk_cell BK193.out 2).trans rfl, (blk_cell BK193.out 3).trans rfl, (blk_cell BK193.out 4).trans rfl⟩ (fun hHeld => ?_)
                                          clear hK K
                                          refine norm_ (a' := ?_) ?_ ?_
                                          rotate_left
                                          · show Act.put _ (some 96) _ = _
                                            simp only [Act.put, List.setIfInBounds_toArray, List.set_cons_zero, List.set_cons_succ, i64_w, i32_w]
                                            rfl
                                          refine pure_ (i := 18) (N := some 97) (v := ?_) (a' := ?_) #[true, true, true, true, true, true, true, true, true, true, true, true, true, true, true, true, true, true, true, false, true, true, false, false, false] rfl rfl (any_of HT_.out (by kernel_rfl)) (fun _ _ _ h => h) (Or.inl ⟨by rfl, ?_⟩) ?_ ?_
                                          rotate_left
                                          · intro w'
                                            go_simp
                                            with_reducible rfl
                                          rotate_left
                                          · simp only [Act.put, List.setIfInBounds_toArray, List.set_cons_zero, List.set_cons_succ, i64_w, i32_w]
                                            rfl
                                          refine pure_ (i := 19) (N := some 98) (v := ?_) (a' := ?_) #[true, true, true, true, true, true, true, true, true, true, true, true, true, true, true, true, true, true, true, true, true, true, false, false, false] rfl rfl (any_of HT_.out (by kernel_rfl)) (fun _ _ _ h => h) (Or.inl ⟨by rfl, ?_⟩) ?_ ?_
                                          rotate_left
                                          · intro w'
                                            go_simp
                                            with_reducible rfl
                                          rotate_left
                                          · simp only [Act.put, List.setIfInBounds_toArray, List.set_cons_zero, List.set_cons_succ, i64_w, i32_w]
                                            rfl
                                          refine one_ (i := 22) (N := some 101) #[true, true, true, true, true, true, true, true, true, true, true, true, true, true, true, true, true, true, true, true, true, true, true, false, false] rfl rfl (one_of HT_.out (by kernel_rfl)) (by decide) (fun K hK => ?_)
                                          refine goes_ Tryd.func53 (by kernel_rfl) rfl #[.int .i64 a1_12] (by rfl) rfl rfl (by (try simp only [List.map_toArray, List.map_cons, List.map_nil]); first | done | rfl | (simp only [List.length_drop, List.length_take]; rfl)) ?_
                                          with_reducible refine (impl_dec.calls a1_12 t198 _ A83.out (hG0.below (by repeat (first | (with_reducible first | exact HB.out | apply below_alloc | apply pw_below_drewN | apply below_drew1 | refine below_set ?_ GE174.out | refine below_set ?_ GE175.out | refine below_set ?_ GE177.out | refine below_set ?_ GE193.out) | exact HB.out)))).mono ?_
                                          rintro e w99 ⟨rfl, hb⟩
                                          refine ⟨_, rfl, ?_⟩
                                          have n0_ := Aside0.mk (blk_below (g := gb174) (o := .cells #[.int .i64 a0_0, .string a0_1, .string a0_2, .int .i64 a0_3, .int .i64 a0_4, .int .i64 a0_5, .string a0_6] 24 (0, 0)) (by (with_reducible repeat (first | refine blk_drewN ?_ _ | refine blk_drew ?_ | refine blk_alloc ?_ _)); exact BK174.out) hb)
                                          have n1_ := Aside0.mk (blk_below (g := gb175) (o := .cells #[.int .i64 a1_0, .string a1_1, .slice A1_2 l1_2.length c1_2, .int .i64 a1_3, .int .i64 a1_4, .int .i64 a1_5, .int .i64 a1_6, .int .i64 a1_7, .int .i64 a1_8, .int .i64 a1_9, .int .i64 a1_10, .int .i64 a1_11, .int .i64 a1_12] 60 (0, 0)) (by (with_reducible repeat (first | refine blk_drewN ?_ _ | refine blk_drew ?_ | refine blk_alloc ?_ _)); exact BK175.out) hb)
                                          have n2_ := Aside0.mk (blk_below (g := gb177) (o := .cells #[.int .i64 a1_4, .int .i64 a1_5, .int .i64 a1_6, .int .i64 a1_7] 57 (0, 0)) (by (with_reducible repeat (first | refine blk_drewN ?_ _ | refine blk_drew ?_ | refine blk_alloc ?_ _)); exact BK177.out) hb)
                                          have n3_ := Aside0.mk (blk_below (g := gb193) (o := .cells #[.int .i64 a1_8, .int .i64 a1_9, .int .i64 a1_10, .int .i64 a1_11, .int .i64 a1_12] 58 (0, 0)) (by (with_reducible repeat (first | refine blk_drewN ?_ _ | refine blk_drew ?_ | refine blk_alloc ?_ _)); exact BK193.out) hb)
                                          have n4_ := Aside0.mk (below_step (by repeat (first | (with_reducible first | exact HB.out | apply below_alloc | apply pw_below_drewN | apply below_drew1 | refine below_set ?_ GE174.out | refine below_set ?_ GE175.out | refine below_set ?_ GE177.out | refine below_set ?_ GE193.out) | exact HB.out)) hb)
                                          clear BK174
                                          clear BK175
                                          clear BK177
                                          clear BK193
                                          clear HB
                                          have BK174 := n0_
                                          have BK175 := n1_
                                          have BK177 := n2_
                                          have BK193 := n3_
                                          have HB := n4_
                                          clear n0_ n1_ n2_ n3_ n4_
                                          (try clear hb)
                                          (try clear hb2)
                                          (try clear hk)
                                          (try clear hi)
                                          refine hK.out _ _ ⟨(blk_cell BK193.out 0).trans rfl, (blk_cell BK193.out 1).trans rfl, (blk_cell BK193.out 2).trans rfl, (blk_cell BK193.out 3).trans rfl, (blk_cell BK193.out 4).trans rfl⟩ (fun hHeld => ?_)
                                          clear hK K
                                          refine norm_ (a' := ?_) ?_ ?_
                                          rotate_left
                                          · show Act.put _ (some 101) _ = _
                                            simp only [Act.put, List.setIfInBounds_toArray, List.set_cons_zero, List.set_cons_succ, i64_w, i32_w]
                                            rfl
                                          refine pure_ (i := 23) (N := some 102) (v := ?_) (a' := ?_) #[true, true, true, true, true, true, true, true, true, true, true, true, true, true, true, true, true, true, true, true, true, true, true, true, false] rfl rfl (any_of HT_.out (by kernel_rfl)) (fun _ _ _ h => h) (Or.inl ⟨by rfl, ?_⟩) ?_ ?_
                                          rotate_left
                                          · intro w'
                                            go_simp
                                            with_reducible rfl
                                          rotate_left
                                          · simp only [Act.put, List.setIfInBounds_toArray, List.set_cons_zero, List.set_cons_succ, i64_w, i32_w]
                                            rfl
                                          refine pure_ (i := 24) (N := some 4) (v := ?_) (a' := ?_) #[true, true, true, true, true, true, true, true, true, true, true, true, true, true, true, true, true, true, true, true, true, true, true, true, true] rfl rfl (any_of HT_.out (by kernel_rfl)) (fun _ _ _ h => h) (Or.inl ⟨by rfl, ?_⟩) ?_ ?_
                                          rotate_left
                                          · intro w'
                                            go_simp
                                            with_reducible rfl
                                          rotate_left
                                          · simp only [Act.put, List.setIfInBounds_toArray, List.set_cons_zero, List.set_cons_succ, i64_w, i32_w]
                                            rfl
                                          refine done_ (done_of HT_.out (by kernel_rfl)) ?_
                                          try go_wp2
                                          go_ret
                                          exact ⟨by first | rfl | (simp [errW_none, errW_some] <;> rfl) | (simp [*, errW_none, errW_some] <;> rfl), by repeat (first | (with_reducible first | exact HB.out | apply below_alloc | apply pw_below_drewN | apply below_drew1 | refine below_set ?_ GE174.out | refine below_set ?_ GE175.out | refine below_set ?_ GE177.out | refine below_set ?_ GE193.out) | exact HB.out)⟩
                                        · rw [if_neg c84] at H
                                          exact absurd H (by simp)
                                      · rw [if_neg c82] at H
                                        exact absurd H (by simp)
                                    · rw [if_neg c81] at H
                                      exact absurd H (by simp)
                                  · rw [if_neg c79] at H
                                    exact absurd H (by simp)
                                · rw [if_neg c78] at H
                                  exact absurd H (by simp)
                              · rw [if_neg c76] at H
                                exact absurd H (by simp)
                            · rw [if_neg c75] at H
                              exact absurd H (by simp)
                          · rw [if_neg c73] at H
                            exact absurd H (by simp)
                        · rw [if_neg c72] at H
                          exact absurd H (by simp)
                      · rw [if_neg c70] at H
                        have c70b0 : (a0_0 == 25) = false := beq_eq_false_iff_ne.mpr c70
                        have c70b1 : (a0_0 != 25) = true := bne_iff_ne.mpr c70
                        obtain rfl := Option.some.inj H
                        go_wp2
                        go_ret
                        exact ⟨by first | rfl | (simp [errW_none, errW_some] <;> rfl) | (simp [*, errW_none, errW_some] <;> rfl), by repeat (first | (with_reducible first | exact HB.out | apply below_alloc | apply pw_below_drewN | apply below_drew1 | refine below_set ?_ GE174.out | refine below_set ?_ GE175.out | refine below_set ?_ GE177.out) | exact HB.out)⟩
  · rw [if_neg c3] at H
    have c3b0 : (a1_0 == 0) = false := beq_eq_false_iff_ne.mpr c3
    have c3b1 : (a1_0 != 0) = true := bne_iff_ne.mpr c3
    replace H := Option.bind_eq_some_iff.mp H
    obtain ⟨t176, A1000, H⟩ := H
    replace H : (if 6 + t176.size ≤ 9223372036854775807 then (some ((⟨#[101, 114, 114, 111, 114, 32]⟩ : ByteArray) ++ t176)) else (none)) = some r := H
    have A100 := Aside0.mk A1000
    clear A1000
    by_cases c101 : 6 + t176.size ≤ 9223372036854775807
    · rw [if_pos c101] at H
      have c101b0 := eq_true c101
      have c101b1 : decide (6 + t176.size ≤ 9223372036854775807) = true := decide_eq_true c101
      try have c101b2 : (9223372036854775807 < 6 + t176.size) = False := eq_false (Nat.not_lt.2 c101)
      obtain rfl := Option.some.inj H
      go_enter Tryd.func24, Tryd.ntmps24
      go_wp2_with (first | ((with_reducible refine gate_dst (N := 2) rfl ?_); refine box_event ?hg (N := 2) ?hd (cs := #[.int .i64 a0_0, .string a0_1, .string a0_2, .int .i64 a0_3, .int .i64 a0_4, .int .i64 a0_5, .string a0_6]) (t := 24) ?hr ?_; (case hd => rfl); (case hg => rfl); (case hr => first | (go_simp; done) | (go_simp; rfl)); intro gb174 hg w102 hbox hb; have n0_ := Aside0.mk (below_step (by repeat (first | (with_reducible first | exact HB.out | apply below_alloc | apply pw_below_drewN | apply below_drew1) | exact HB.out)) hb); have n1_ := Aside0.mk (hbox); have n2_ := Aside0.mk ((by rw [hg]; exact (below_size (by repeat (first | (with_reducible first | exact HB.out | apply below_alloc | apply pw_below_drewN | apply below_drew1) | exact HB.out))) : w.heap.size ≤ gb174)); have n3_ := Aside0.mk ((by rw [hg]; exact (below_size (by repeat (first | (with_reducible first | exact HB.out | apply below_alloc | apply pw_below_drewN | apply below_drew1) | exact HB.out))) : w.heap.size ≤ gb174)); clear HB; have HB := n0_; have BK174 := n1_; have GW174 := n2_; have GE174 := n3_; clear n0_ n1_ n2_ n3_; clear hb hbox hg) | ((with_reducible refine gate_dst (N := 3) rfl ?_); refine box_event ?hg (N := 3) ?hd (cs := #[.int .i64 a1_0, .string a1_1, .slice A1_2 l1_2.length c1_2, .int .i64 a1_3, .int .i64 a1_4, .int .i64 a1_5, .int .i64 a1_6, .int .i64 a1_7, .int .i64 a1_8, .int .i64 a1_9, .int .i64 a1_10, .int .i64 a1_11, .int .i64 a1_12]) (t := 60) ?hr ?_; (case hd => rfl); (case hg => rfl); (case hr => first | (go_simp; done) | (go_simp; rfl)); intro gb175 hg w103 hbox hb; have n0_ := Aside0.mk (blk_below (g := gb174) (o := .cells #[.int .i64 a0_0, .string a0_1, .string a0_2, .int .i64 a0_3, .int .i64 a0_4, .int .i64 a0_5, .string a0_6] 24 (0, 0)) (by (with_reducible repeat (first | refine blk_drewN ?_ _ | refine blk_drew ?_ | refine blk_alloc ?_ _)); exact BK174.out) hb); have n1_ := Aside0.mk (below_step (by repeat (first | (with_reducible first | exact HB.out | apply below_alloc | apply pw_below_drewN | apply below_drew1 | refine below_set ?_ GE174.out) | exact HB.out)) hb); have n2_ := Aside0.mk (hbox); have n3_ := Aside0.mk ((by rw [hg]; exact (below_size (by repeat (first | (with_reducible first | exact HB.out | apply below_alloc | apply pw_below_drewN | apply below_drew1 | refine below_set ?_ GE174.out) | exact HB.out))) : w.heap.size ≤ gb175)); have n4_ := Aside0.mk ((by rw [hg]; exact (below_size (by repeat (first | (with_reducible first | exact HB.out | apply below_alloc | apply pw_below_drewN | apply below_drew1 | refine below_set ?_ GE174.out) | exact HB.out))) : w.heap.size ≤ gb175)); have n5_ := Aside0.mk ((by rw [hg]; exact Nat.ne_of_lt (blk_lt (g := gb174) (o := .cells #[.int .i64 a0_0, .string a0_1, .string a0_2, .int .i64 a0_3, .int .i64 a0_4, .int .i64 a0_5, .string a0_6] 24 (0, 0)) (by (with_reducible repeat (first | refine blk_drewN ?_ _ | refine blk_drew ?_ | refine blk_alloc ?_ _)); exact BK174.out)) : gb174 ≠ gb175)); have n6_ := Aside0.mk ((by rw [hg]; exact Nat.ne_of_gt (blk_lt (g := gb174) (o := .cells #[.int .i64 a0_0, .string a0_1, .string a0_2, .int .i64 a0_3, .int .i64 a0_4, .int .i64 a0_5, .string a0_6] 24 (0, 0)) (by (with_reducible repeat (first | refine blk_drewN ?_ _ | refine blk_drew ?_ | refine blk_alloc ?_ _)); exact BK174.out)) : gb175 ≠ gb174)); clear BK174; clear HB; have BK174 := n0_; have HB := n1_; have BK175 := n2_; have GW175 := n3_; have GE175 := n4_; have NB174_175 := n5_; have NB175_174 := n6_; clear n0_ n1_ n2_ n3_ n4_ n5_ n6_; clear hb hbox hg; have hnb104 := NB175_174.out; have hnc104 := NB174_175.out; have hcz105_0 : w103.cell? ⟨gb175, 0, none⟩ = some (.int .i64 a1_0) := (blk_cell BK175.out 0).trans rfl; have hcz105_1 : w103.cell? ⟨gb175, 1, none⟩ = some (.string a1_1) := (blk_cell BK175.out 1).trans rfl; have hcz105_2 : w103.cell? ⟨gb175, 2, none⟩ = some (.slice A1_2 l1_2.length c1_2) := (blk_cell BK175.out 2).trans rfl; have hcz105_3 : w103.cell? ⟨gb175, 3, none⟩ = some (.int .i64 a1_3) := (blk_cell BK175.out 3).trans rfl; have hcz105_4 : w103.cell? ⟨gb175, 4, none⟩ = some (.int .i64 a1_4) := (blk_cell BK175.out 4).trans rfl; have hcz105_5 : w103.cell? ⟨gb175, 5, none⟩ = some (.int .i64 a1_5) := (blk_cell BK175.out 5).trans rfl; have hcz105_6 : w103.cell? ⟨gb175, 6, none⟩ = some (.int .i64 a1_6) := (blk_cell BK175.out 6).trans rfl; have hcz105_7 : w103.cell? ⟨gb175, 7, none⟩ = some (.int .i64 a1_7) := (blk_cell BK175.out 7).trans rfl; have hcz105_8 : w103.cell? ⟨gb175, 8, none⟩ = some (.int .i64 a1_8) := (blk_cell BK175.out 8).trans rfl; have hcz105_9 : w103.cell? ⟨gb175, 9, none⟩ = some (.int .i64 a1_9) := (blk_cell BK175.out 9).trans rfl; have hcz105_10 : w103.cell? ⟨gb175, 10, none⟩ = some (.int .i64 a1_10) := (blk_cell BK175.out 10).trans rfl; have hcz105_11 : w103.cell? ⟨gb175, 11, none⟩ = some (.int .i64 a1_11) := (blk_cell BK175.out 11).trans rfl; have hcz105_12 : w103.cell? ⟨gb175, 12, none⟩ = some (.int .i64 a1_12) := (blk_cell BK175.out 12).trans rfl; have hfz105_0 := blk_frozen BK175.out 0; have hfz105_1 := blk_frozen BK175.out 1; have hfz105_2 := blk_frozen BK175.out 2; have hfz105_3 := blk_frozen BK175.out 3; have hfz105_4 := blk_frozen BK175.out 4; have hfz105_5 := blk_frozen BK175.out 5; have hfz105_6 := blk_frozen BK175.out 6; have hfz105_7 := blk_frozen BK175.out 7; have hfz105_8 := blk_frozen BK175.out 8; have hfz105_9 := blk_frozen BK175.out 9; have hfz105_10 := blk_frozen BK175.out 10; have hfz105_11 := blk_frozen BK175.out 11; have hfz105_12 := blk_frozen BK175.out 12) | ((with_reducible refine gate_callee (f := 53) rfl ?_); refine goesL_ (some 12) rfl rfl Tryd.func53 (by kernel_rfl) rfl #[.int .i64 a1_0] rfl (by (try simp only [List.map_toArray, List.map_cons, List.map_nil]); first | done | rfl | (simp only [List.length_drop, List.length_take]; rfl)) ?_; (with_reducible refine (impl_dec.calls a1_0 t176 _ A100.out (hG0.below (by repeat (first | (with_reducible first | exact HB.out | apply below_alloc | apply pw_below_drewN | apply below_drew1 | refine below_set ?_ GE174.out | refine below_set ?_ GE175.out) | exact HB.out)))).mono ?_); rintro e w106 ⟨rfl, hb⟩; refine ⟨_, rfl, ?_⟩; have n0_ := Aside0.mk (blk_below (g := gb174) (o := .cells #[.int .i64 a0_0, .string a0_1, .string a0_2, .int .i64 a0_3, .int .i64 a0_4, .int .i64 a0_5, .string a0_6] 24 (0, 0)) (by (with_reducible repeat (first | refine blk_drewN ?_ _ | refine blk_drew ?_ | refine blk_alloc ?_ _)); exact BK174.out) hb); have n1_ := Aside0.mk (blk_below (g := gb175) (o := .cells #[.int .i64 a1_0, .string a1_1, .slice A1_2 l1_2.length c1_2, .int .i64 a1_3, .int .i64 a1_4, .int .i64 a1_5, .int .i64 a1_6, .int .i64 a1_7, .int .i64 a1_8, .int .i64 a1_9, .int .i64 a1_10, .int .i64 a1_11, .int .i64 a1_12] 60 (0, 0)) (by (with_reducible repeat (first | refine blk_drewN ?_ _ | refine blk_drew ?_ | refine blk_alloc ?_ _)); exact BK175.out) hb); have n2_ := Aside0.mk (below_step (by repeat (first | (with_reducible first | exact HB.out | apply below_alloc | apply pw_below_drewN | apply below_drew1 | refine below_set ?_ GE174.out | refine below_set ?_ GE175.out) | exact HB.out)) hb); clear BK174; clear BK175; clear HB; have BK174 := n0_; have BK175 := n1_; have HB := n2_; clear n0_ n1_ n2_; (try clear hb); (try clear hb2); (try clear hk); (try clear hi)))
      go_ret
      exact ⟨by first | rfl | (simp [errW_none, errW_some] <;> rfl) | (simp [*, errW_none, errW_some] <;> rfl), by repeat (first | (with_reducible first | exact HB.out | apply below_alloc | apply pw_below_drewN | apply below_drew1 | refine below_set ?_ GE174.out | refine below_set ?_ GE175.out) | exact HB.out)⟩
    · rw [if_neg c101] at H
      exact absurd H (by simp)

end Go.Proofs.YtkehfdadplpaeaaDoor.PFnExactFormatAnswer
