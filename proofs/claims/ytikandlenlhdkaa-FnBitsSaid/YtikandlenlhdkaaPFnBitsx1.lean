-- written by a program of this session (wip/src/print2.py)
import Derived.Test.YtikandlenlhdkaaPFnBitsx0
namespace Go.Proofs.Ytikandlenlhdkaa.PFnBits
open Go.RowKit Go.Proofs.YtikandlenlhdkaaW.PrintWords Go.Proofs.YtikandlenlhdkaaW.PrintLast Go.Proofs.YtikandlenlhdkaaW.PrintMore
attribute [local go_sem] max2_int min2_int max_two min_two max_three min_three max_four min_four   -- for this text's walks alone
set_option linter.unusedVariables false
set_option linter.unusedSimpArgs false

/-! ### impl_bitlen: function 33 -/
def impl_bitlen.f (l0 : List Int) : Option (Int) := if (l0.length : Int) > 2048 then (some 0) else (some (wrap64 ((l0.length : Int) * 8)))
set_option maxHeartbeats 8000000 in
set_option maxRecDepth 100000 in
theorem impl_bitlen.calls (A0 : Option Addr) (c0 : Nat) (l0 : List Int) (r : Int) (w : World) (hr0 : Kd.C (Kd.int .u8) w A0 l0.length l0) (hc0 : l0.length ≤ c0) (h : impl_bitlen.f l0 = some r) :
    Calls Try.prog 33 #[.slice A0 l0.length c0] w fun e w' => e = .returned (.int .i64 r) ∧ Drawn0 w w' := by
  have HR0 := Aside0.mk hr0
  have HC0 := Aside0.mk hc0
  clear hr0 hc0
  have H : (if (l0.length : Int) > 2048 then (some 0) else (some (wrap64 ((l0.length : Int) * 8)))) = some r := h
  clear h
  by_cases c2 : (l0.length : Int) > 2048
  · rw [if_pos c2] at H
    have c2b0 : decide (2048 < (l0.length : Int)) = true := decide_eq_true c2
    have c2b1 : decide (2048 < l0.length) = true := decide_eq_true (by omega)
    clear c2
    obtain rfl := Option.some.inj H
    go_enter Try.func33, Try.ntmps33
    go_wp2
    go_ret
    exact ⟨by first | rfl | (simp; done) | (simp [*]; done), by repeat (first | exact Drawn0.refl _ | apply Drawn0.step)⟩
  · rw [if_neg c2] at H
    have c2b0 : decide (2048 < (l0.length : Int)) = false := decide_eq_false c2
    have c2b1 : decide (2048 < l0.length) = false := decide_eq_false (by omega)
    clear c2
    obtain rfl := Option.some.inj H
    go_enter Try.func33, Try.ntmps33
    go_wp2
    go_ret
    exact ⟨by first | rfl | (simp; done) | (simp [*]; done), by repeat (first | exact Drawn0.refl _ | apply Drawn0.step)⟩

/-! ### impl_BitGet: function 20 -/
def impl_BitGet.f (l0 : List Int) (a1 : Int) : Option (Bool) := if a1 ≥ 0 then ((impl_bitlen.f l0).bind fun t101 => (if a1 < t101 then (if 0 ≤ (wrap64 (Int.tdiv a1 8)) then (if (wrap64 (Int.tdiv a1 8)) < (l0.length : Int) then (if 0 ≤ (Int.tmod a1 8) then (some ((Go.bits .and .u8 (shr .u8 (rd l0 (wrap64 (Int.tdiv a1 8))) (Int.tmod a1 8)) 1) == 1)) else (none)) else (none)) else (none)) else (some false))) else (some false)
set_option maxHeartbeats 8000000 in
set_option maxRecDepth 100000 in
theorem impl_BitGet.calls (A0 : Option Addr) (c0 : Nat) (l0 : List Int) (a1 : Int) (r : Bool) (w : World) (hr0 : Kd.C (Kd.int .u8) w A0 l0.length l0) (hc0 : l0.length ≤ c0) (h : impl_BitGet.f l0 a1 = some r) :
    Calls Try.prog 20 #[.slice A0 l0.length c0, .int .i64 a1] w fun e w' => e = .returned (.bool r) ∧ Drawn0 w w' := by
  have HR0 := Aside0.mk hr0
  have HC0 := Aside0.mk hc0
  clear hr0 hc0
  have H : (if a1 ≥ 0 then ((impl_bitlen.f l0).bind fun t101 => (if a1 < t101 then (if 0 ≤ (wrap64 (Int.tdiv a1 8)) then (if (wrap64 (Int.tdiv a1 8)) < (l0.length : Int) then (if 0 ≤ (Int.tmod a1 8) then (some ((Go.bits .and .u8 (shr .u8 (rd l0 (wrap64 (Int.tdiv a1 8))) (Int.tmod a1 8)) 1) == 1)) else (none)) else (none)) else (none)) else (some false))) else (some false)) = some r := h
  clear h
  by_cases c3 : a1 ≥ 0
  · rw [if_pos c3] at H
    have c3b0 : decide (0 ≤ a1) = true := decide_eq_true c3
    clear c3
    replace H := Option.bind_eq_some_iff.mp H
    obtain ⟨t101, A40, H⟩ := H
    replace H : (if a1 < t101 then (if 0 ≤ (wrap64 (Int.tdiv a1 8)) then (if (wrap64 (Int.tdiv a1 8)) < (l0.length : Int) then (if 0 ≤ (Int.tmod a1 8) then (some ((Go.bits .and .u8 (shr .u8 (rd l0 (wrap64 (Int.tdiv a1 8))) (Int.tmod a1 8)) 1) == 1)) else (none)) else (none)) else (none)) else (some false)) = some r := H
    have A4 := Aside0.mk A40
    clear A40
    by_cases c5 : a1 < t101
    · rw [if_pos c5] at H
      have c5b0 : decide (a1 < t101) = true := decide_eq_true c5
      clear c5
      obtain ⟨ji6, hji6⟩ : ∃ j_ : Int, (wrap64 (Int.tdiv a1 8)) = j_ := ⟨_, rfl⟩
      replace H : (if 0 ≤ (ji6) then (if (ji6) < (l0.length : Int) then (if 0 ≤ (Int.tmod a1 8) then (some ((Go.bits .and .u8 (shr .u8 (rd l0 (ji6)) (Int.tmod a1 8)) 1) == 1)) else (none)) else (none)) else (none)) = some r := by first | (rw [hji6] at H; exact H) | (simp only [hji6] at H ⊢; exact H)
      (try rw [hji6] at A4)
      have hji6w : (IntKind.i64.wrap (Int.tdiv a1 8)) = ji6 := (i64_w _).trans hji6
      by_cases c7 : 0 ≤ (ji6)
      · rw [if_pos c7] at H
        have c7b0 : decide (0 ≤ (ji6)) = true := decide_eq_true c7
        clear c7
        by_cases c8 : (ji6) < (l0.length : Int)
        · rw [if_pos c8] at H
          have c8b0 : decide ((ji6) < (l0.length : Int)) = true := decide_eq_true c8
          clear c8
          obtain ⟨ji9, hji9⟩ : ∃ j_ : Int, (Int.tmod a1 8) = j_ := ⟨_, rfl⟩
          replace H : (if 0 ≤ (ji9) then (some ((Go.bits .and .u8 (shr .u8 (rd l0 (ji6)) (ji9)) 1) == 1)) else (none)) = some r := by first | (rw [hji9] at H; exact H) | (simp only [hji9] at H ⊢; exact H)
          (try rw [hji9] at A4)
          by_cases c10 : 0 ≤ (ji9)
          · rw [if_pos c10] at H
            have c10b0 := eq_true c10
            have c10b1 : decide (0 ≤ (ji9)) = true := decide_eq_true c10
            clear c10
            obtain ⟨ji11, hji11⟩ : ∃ j_ : Int, (shr .u8 (rd l0 (ji6)) (ji9)) = j_ := ⟨_, rfl⟩
            replace H : (some ((Go.bits .and .u8 (ji11) 1) == 1)) = some r := by first | (rw [hji11] at H; exact H) | (simp only [hji11] at H ⊢; exact H)
            (try rw [hji11] at A4)
            have hji11_ : ((rd l0 (ji6)) / 2 ^ min (ji9).toNat 8) = ji11 := hji11
            have hji11z : (ji9) ≤ 8 → ((rd l0 (ji6)) / 2 ^ (ji9).toNat) = ji11 := shr_small hji11
            obtain rfl := Option.some.inj H
            go_enter Try.func20, Try.ntmps20
            go_wp2_with (first | (go_at_call 33; (with_reducible refine (impl_bitlen.calls _ _ l0 t101 _ ?side1 ?side2 A4.out).mono ?_); (case side1 => repeat (first | exact HR0.out | (with_reducible refine Kd.C_alloc ?_ _) | (with_reducible refine Kd.C_drewN ?_ _) | (with_reducible refine Kd.C_drew ?_))); (case side2 => exact HC0.out); rintro e w' ⟨rfl, ⟨nd, rfl⟩⟩; have p102 : 0 ≤ ((ji6) : Int) := of_decide_eq_true (by first | (with_reducible assumption) | assumption); have q102 : (ji6) < (l0.length : Int) := of_decide_eq_true (by first | (with_reducible assumption) | assumption); obtain ⟨ad102, e102, hx102_0⟩ := Kd.at_int HR0.out (ji6) p102 q102; cases e102; replace p102 := eq_true p102; replace q102 := eq_true q102))
            go_ret
            exact ⟨by first | rfl | (simp; done) | (simp only [← hji6, ← hji9, ← hji11] <;> (first | rfl | simp)) | (simp [*]; done), by repeat (first | exact Drawn0.refl _ | apply Drawn0.step)⟩
          · rw [if_neg c10] at H
            exact absurd H (by simp)
        · rw [if_neg c8] at H
          exact absurd H (by simp)
      · rw [if_neg c7] at H
        exact absurd H (by simp)
    · rw [if_neg c5] at H
      have c5b0 : decide (a1 < t101) = false := decide_eq_false c5
      clear c5
      obtain rfl := Option.some.inj H
      go_enter Try.func20, Try.ntmps20
      go_wp2_with (first | (go_at_call 33; (with_reducible refine (impl_bitlen.calls _ _ l0 t101 _ ?side1 ?side2 A4.out).mono ?_); (case side1 => repeat (first | exact HR0.out | (with_reducible refine Kd.C_alloc ?_ _) | (with_reducible refine Kd.C_drewN ?_ _) | (with_reducible refine Kd.C_drew ?_))); (case side2 => exact HC0.out); rintro e w' ⟨rfl, ⟨nd, rfl⟩⟩))
      go_ret
      exact ⟨by first | rfl | (simp; done) | (simp [*]; done), by repeat (first | exact Drawn0.refl _ | apply Drawn0.step)⟩
  · rw [if_neg c3] at H
    have c3b0 : decide (0 ≤ a1) = false := decide_eq_false c3
    clear c3
    obtain rfl := Option.some.inj H
    go_enter Try.func20, Try.ntmps20
    go_wp2
    go_ret
    exact ⟨by first | rfl | (simp; done) | (simp [*]; done), by repeat (first | exact Drawn0.refl _ | apply Drawn0.step)⟩

/-! ### impl_BitRuns: function 10 -/
section
open Go.Shelf
attribute [local go_sem] Oper.semAt_some
/-- Bit i is on. -/
def brOn (l : List Int) (i : Nat) : Bool := (impl_BitGet.f l (i : Int)).getD false
theorem brOn_is (l : List Int) (i : Nat) (h : i < 8 * l.length) (hl : l.length ≤ 2048) : impl_BitGet.f l (i : Int) = some (brOn l i) := by
  have h1 : wrap64 (Int.tdiv (i : Int) 8) = ((i / 8 : Nat) : Int) := by
    rw [Int.tdiv_eq_ediv_of_nonneg (Int.natCast_nonneg _)]; unfold wrap64; omega
  have h2 : Int.tmod (i : Int) 8 = ((i % 8 : Nat) : Int) := by
    rw [Int.tmod_eq_emod_of_nonneg (Int.natCast_nonneg _)]; omega
  have h3 : ∃ b, impl_BitGet.f l (i : Int) = some b := by
    refine ⟨(Go.bits .and .u8 (shr .u8 (rd l ((i / 8 : Nat) : Int)) ((i % 8 : Nat) : Int)) 1) == 1, ?_⟩
    unfold impl_BitGet.f impl_bitlen.f
    rw [if_pos (by omega), if_neg (by omega), Option.bind_some, if_pos (by unfold wrap64; omega), h1, h2, if_pos (by omega), if_pos (by omega), if_pos (by omega)]
  obtain ⟨b, hb⟩ := h3
  unfold brOn
  rw [hb]; rfl
/-- One more bit: the last run is longer by one, or a run begins. -/
def brStep (l : List Int) (acc : List S35) (i : Nat) : List S35 :=
  if brOn l i = true then acc else
  match acc.getLast? with
  | some x => if x.f0 + x.f1 = (i : Int) then acc.dropLast ++ [⟨x.f0, x.f1 + 1⟩] else acc ++ [⟨(i : Int), 1⟩]
  | none => acc ++ [⟨(i : Int), 1⟩]
def brUp (l : List Int) (lo : Nat) : Nat → List S35
  | 0 => []
  | n + 1 => brStep l (brUp l lo n) (lo + n)
theorem brStep_len (l : List Int) (acc : List S35) (i : Nat) : (brStep l acc i).length ≤ acc.length + 1 := by
  unfold brStep
  split
  · omega
  · split
    · split
      · simp
      · simp
    · simp
theorem brUp_len (l : List Int) (lo : Nat) : ∀ n, (brUp l lo n).length ≤ n
  | 0 => by simp [brUp]
  | n + 1 => by
    have h1 := brStep_len l (brUp l lo n) (lo + n)
    have h2 := brUp_len l lo n
    simp only [brUp]; omega
/-- A run of c bits from i on behind runs that end ahead of i. -/
theorem brUp_run (l : List Int) (lo i : Nat) (h0 : lo ≤ i) (hlt : ∀ x, (brUp l lo (i - lo)).getLast? = some x → x.f0 + x.f1 < (i : Int)) : ∀ c, (∀ j, j < c + 1 → brOn l (i + j) = false) → brUp l lo (i + (c + 1) - lo) = brUp l lo (i - lo) ++ [⟨(i : Int), ((c + 1 : Nat) : Int)⟩]
  | 0, hoff => by
    have e : i + (0 + 1) - lo = (i - lo) + 1 := by omega
    have e2 : lo + (i - lo) = i := by omega
    rw [e, brUp, e2]
    unfold brStep
    rw [if_neg (by rw [show brOn l i = false from hoff 0 (by omega)]; simp)]
    cases hl : (brUp l lo (i - lo)).getLast? with
    | none => rfl
    | some x =>
      have := hlt x hl
      simp only
      rw [if_neg (by omega)]; rfl
  | c + 1, hoff => by
    have ih := brUp_run l lo i h0 hlt c (fun j hj => hoff j (by omega))
    have e : i + (c + 1 + 1) - lo = (i + (c + 1) - lo) + 1 := by omega
    have e2 : lo + (i + (c + 1) - lo) = i + (c + 1) := by omega
    rw [e, brUp, e2, ih]
    unfold brStep
    rw [if_neg (by rw [show brOn l (i + (c + 1)) = false from hoff (c + 1) (by omega)]; simp), List.getLast?_concat, List.dropLast_concat]
    simp only
    rw [if_pos (by omega)]
    congr 2
theorem brUp_on (l : List Int) (lo i : Nat) (h0 : lo ≤ i) (h : brOn l i = true) : brUp l lo (i + 1 - lo) = brUp l lo (i - lo) := by
  have e : i + 1 - lo = (i - lo) + 1 := by omega
  have e2 : lo + (i - lo) = i := by omega
  rw [e, brUp, e2]
  unfold brStep
  rw [if_pos h]
/-- How many bits there are to be asked for. -/
def brLen (l : List Int) : Int := if (l.length : Int) > 2048 then 0 else 8 * (l.length : Int)
def impl_BitRuns.f (l0 : List Int) (a1 a2 : Int) : Option (List S35) :=
  if -9223372036854775808 ≤ a1 ∧ a1 ≤ 9223372036854775807 ∧ -9223372036854775808 ≤ a2 ∧ a2 ≤ 9223372036854775807 then some (brUp l0 (max a1 0).toNat ((min a2 (brLen l0)).toNat - (max a1 0).toNat)) else none
def brCells (xs : List S35) : List Value := xs.flatMap fun x => [.int .i64 x.f0, .int .i64 x.f1]
theorem brCells_snoc (xs : List S35) (x : S35) : brCells (xs ++ [x]) = brCells xs ++ [.int .i64 x.f0, .int .i64 x.f1] := by simp [brCells]
/-- What a round keeps: whatever lay below n₀, and the three captured variables. -/
def brKp (n₀ B : Nat) (W W' : World) : Prop := Below n₀ W W' ∧ W'.heap[B]? = W.heap[B]? ∧ W'.heap[B + 1]? = W.heap[B + 1]? ∧ W'.heap[B + 2]? = W.heap[B + 2]?
theorem brKp_t {n₀ B : Nat} {X Y Z : World} (h : brKp n₀ B X Y) (k : brKp n₀ B Y Z) : brKp n₀ B X Z := ⟨h.1.trans k.1, k.2.1.trans h.2.1, k.2.2.1.trans h.2.2.1, k.2.2.2.trans h.2.2.2⟩
theorem brKp_b {n₀ B : Nat} {w : World} (hn : n₀ ≤ w.heap.size) (hB : B + 2 < w.heap.size) (W : World) (l : Nat) (o o' : Obj) (hl : w.heap.size ≤ l) (h : W.heap[l]? = some o) (h1 : o.isCells = false) (h2 : o.isWalk = false) : brKp n₀ B W (W.putObj l o') := by
  have hg := grownBy_putObj' W l o'
  have hlt := (Array.getElem?_eq_some_iff.1 h).1
  exact ⟨belowK_b hn W l o o' hl h h1 h2, hg.block B (by omega) (by simp; omega), hg.block (B + 1) (by omega) (by simp; omega), hg.block (B + 2) (by omega) (by simp; omega)⟩
set_option maxHeartbeats 8000000 in
set_option maxRecDepth 100000 in
/-- The iterator: the runs one after the other. -/
theorem br_runs1 (n : Nat) (hn : 1 ≤ n) (lY B : Nat) (A0 : Option Addr) (c0 : Nat) (l0 : List Int) (lo : Nat) (hi : Int) (w : World)
    (hlo : lo ≤ 9223372036854775807) (hhi0 : -9223372036854775808 ≤ hi) (hhi : hi ≤ 8 * (l0.length : Int)) (hl : l0.length ≤ 2048 ∨ hi ≤ 0)
    (hr0 : Kd.C (Kd.int .u8) w A0 l0.length l0) (hc0 : l0.length ≤ c0)
    (J Jx : List S35 → World → Prop) (W : World) (hJ : AbidesFrom W.heap.size J)
    (hY : ∀ pre x W1, J pre W1 → pre.length < 16385 → YieldAt Fence.wide (n - 1) Try.prog lY #[.agg #[.int .i64 x.f0, .int .i64 x.f1]] W1 fun e W' =>
      (e = .returned (.bool true) ∧ J (pre ++ [x]) W' ∧ brKp w.heap.size B W1 W') ∨ (e = .returned (.bool false) ∧ Jx (pre ++ [x]) W'))
    (hB0 : Below w.heap.size w W) (hB1 : Boxed W B 22 (.slice A0 l0.length c0)) (hB2 : Boxed W (B + 1) 2 (.int .i64 (lo : Int))) (hB3 : Boxed W (B + 2) 2 (.int .i64 hi)) (h0 : J [] W) :
    CallsIn Fence.wide n Try.prog 49 #[.func (.yield lY) #[] #[], .pointer (some ⟨B + 1, 0, none⟩), .pointer (some ⟨B + 2, 0, none⟩), .pointer (some ⟨B, 0, none⟩)] W fun e W' => (∃ v, e = .returned v) ∧
      ((∃ ys, ys = brUp l0 lo (hi.toNat - lo) ∧ J ys W') ∨ (∃ pre, True ∧ Jx pre W')) := by
  have HL := Aside0.mk hl
  have HR := Aside0.mk hr0
  have HC := Aside0.mk hc0
  have HJ := Aside0.mk @hJ
  have HY := Aside0.mk hY
  have HBW := Aside0.mk hB0
  have HX1 := Aside0.mk hB1
  have HX2 := Aside0.mk hB2
  have HX3 := Aside0.mk hB3
  have HH := Aside0.mk hhi
  have H0 := Aside0.mk h0
  clear hl hr0 hc0 hJ hY hB0 h0 hhi
  have k1 := hB1.cell
  have k2 := hB2.cell
  have k3 := hB3.cell
  refine callsIn_of_wp Try.func49 rfl trivial ?_ rfl
  simp only [Try.ntmps49, List.size_toArray, List.length_cons, List.length_nil, Nat.reduceAdd, Nat.reduceSub, Array.replicate_succ, Array.replicate_zero, List.push_toArray, List.append_toArray, List.nil_append, List.cons_append]
  gi_wp2
  gi_loopw [5] (fun t5 wr => ∃ (i : Nat) (pre : List S35), t5 = .int .i64 (i : Int) ∧ Aside0 (lo ≤ i) ∧ Aside0 (((i : Int) ≤ hi ∧ pre = brUp l0 lo (i - lo) ∧ ∀ x, pre.getLast? = some x → x.f0 + x.f1 < (i : Int)) ∨ (hi < (i : Int) ∧ pre = brUp l0 lo (hi.toNat - lo))) ∧ Aside0 (J pre wr) ∧ Aside0 (Below w.heap.size w wr) ∧ Aside0 (W.heap.size ≤ wr.heap.size) ∧ Aside0 (Boxed wr B 22 (.slice A0 l0.length c0) ∧ Boxed wr (B + 2) 2 (.int .i64 hi)))
    (fun t5 _ => (hi + 1 - intOf t5).toNat)
  case atStart =>
    refine ⟨lo, [], rfl, ⟨Nat.le_refl _⟩, ⟨?_⟩, H0, HBW, ⟨Nat.le_refl _⟩, ⟨HX1.out, HX3.out⟩⟩
    by_cases h : (lo : Int) ≤ hi
    · exact .inl ⟨h, by rw [Nat.sub_self]; rfl, fun x hx => by cases hx⟩
    · exact .inr ⟨by omega, by rw [show hi.toNat - lo = 0 by omega]; rfl⟩
  case round =>
    clear H0 HBW HX1 HX2 HX3 k1 k2 k3
    obtain ⟨w0, hw0⟩ : ∃ w0, w0 = wr := ⟨_, rfl⟩
    subst hw0
    obtain ⟨i, pre, rfl, HLO, HI, HJP, HB, HS, HX⟩ := hrel
    have k1 := HX.out.1.cell
    have k3 := HX.out.2.cell
    by_cases c1 : (i : Int) < hi
    rotate_left
    · have c1b : decide ((i : Int) < hi) = false := decide_eq_false c1
      have HE := Aside0.mk (show pre = brUp l0 lo (hi.toNat - lo) by
        rcases HI.out with ⟨h1, h2, _⟩ | ⟨_, h2⟩
        · rw [h2, show i - lo = hi.toNat - lo by omega]
        · exact h2)
      clear HI c1
      gi_wp2
      go_end0
      exact ⟨⟨_, rfl⟩, .inl ⟨pre, HE.out, HJP.out⟩⟩
    · have c1b : decide ((i : Int) < hi) = true := decide_eq_true c1
      have hpre := HI.out.resolve_right (fun h => by omega)
      have HP := Aside0.mk hpre
      have hll : l0.length ≤ 2048 := HL.out.resolve_right (by omega)
      have hi8 : i < 8 * l0.length := by have := HH.out; omega
      have HG := Aside0.mk (brOn_is l0 i hi8 hll)
      have HI2 := Aside0.mk c1
      have hib : i ≤ 16384 := by omega
      clear hpre HI c1
      cases c2 : brOn l0 i with
      | true =>
        rw [c2] at HG
        have HO := Aside0.mk c2
        clear c2
        gi_wp2_with (refine ⟨trivial, ?_⟩; gi_at_call 20; refine (callsIn_wide.2 (impl_BitGet.calls A0 c0 l0 _ true _ (Kd.C_below HR.out HB.out) HC.out HG.out)).mono ?_; rintro e w1 ⟨rfl, hd⟩; obtain ⟨nq, rfl⟩ := hd.out; clear hd)
        go_roundw
        case rel =>
          refine ⟨i + 1, pre, by go_num, ⟨by have := HLO.out; omega⟩, ⟨.inl ⟨by have := HI2.out; omega, ?_, fun x hx => by have := HP.out.2.2 x hx; omega⟩⟩, ⟨HJ.out pre w0 _ none HJP.out (grown_of_below (pw_below_drewN (Below.refl _ _) nq) none) (by simp)⟩, ⟨pw_below_drewN HB.out nq⟩, HS, HX⟩
          rw [brUp_on l0 lo i HLO.out HO.out]; exact HP.out.2.1
        case measure => have := HI2.out; simp [intOf]; omega
      | false =>
        rw [c2] at HG
        have HO := Aside0.mk c2
        clear c2
        have hb0 : ∀ nq : Nat, ((w0.drewN nq).alloc (.cells #[.int .i64 0, .int .i64 0] 35)).heap[w0.heap.size]? = some (.cells #[.int .i64 0, .int .i64 0] 35 (0, 0)) := fun nq => Array.getElem?_push_size
        have hb1 : ∀ nq : Nat, (((w0.drewN nq).alloc (.cells #[.int .i64 0, .int .i64 0] 35)).setCell ⟨w0.heap.size, 0, none⟩ (.int .i64 (i : Int))).heap[w0.heap.size]? = some (.cells #[.int .i64 (i : Int), .int .i64 0] 35 (0, 0)) := fun nq => blk_set (hb0 nq) 0 _
        have hb2 : ∀ nq : Nat, ((((w0.drewN nq).alloc (.cells #[.int .i64 0, .int .i64 0] 35)).setCell ⟨w0.heap.size, 0, none⟩ (.int .i64 (i : Int))).setCell ⟨w0.heap.size, 1, none⟩ (.int .i64 0)).heap[w0.heap.size]? = some (.cells #[.int .i64 (i : Int), .int .i64 0] 35 (0, 0)) := fun nq => blk_set (hb1 nq) 1 _
        have hc0 := fun nq => blk_cell (hb0 nq) 0
        have hc1 := fun nq => blk_cell (hb1 nq) 1
        have hf0 := fun nq => blk_frozen (hb0 nq) 0
        have hf1 := fun nq => blk_frozen (hb1 nq) 1
        have HB2 := Aside0.mk hb2
        clear hb0 hb1 hb2
        gi_wp2_with (first
          | (refine ⟨trivial, ?_⟩; gi_at_call 20; refine (callsIn_wide.2 (impl_BitGet.calls A0 c0 l0 _ false _ (Kd.C_below HR.out HB.out) HC.out HG.out)).mono ?_; rintro e w1 ⟨rfl, hd⟩; obtain ⟨nq, rfl⟩ := hd.out; clear hd)
          | fail)
        gi_loopw [5] (fun t5 w' => ∃ c : Nat, t5 = .int .i64 (((i + c : Nat)) : Int) ∧ Aside0 (((i + c : Nat) : Int) ≤ hi) ∧ Aside0 (∀ j, j < c → brOn l0 (i + j) = false) ∧ Aside0 (w'.heap[w0.heap.size]? = some (.cells #[.int .i64 (i : Int), .int .i64 (c : Int)] 35 (0, 0))) ∧ Aside0 (Below w0.heap.size w0 w')) (fun t5 _ => (hi - intOf t5).toNat)
        case atStart => exact ⟨0, rfl, ⟨by have := HI2.out; omega⟩, ⟨fun j hj => absurd hj (Nat.not_lt_zero j)⟩, ⟨HB2.out nq⟩, ⟨(((pw_below_drewN (Below.refl _ _) nq).alloc (Nat.le_refl _) _).setCell (p := ⟨w0.heap.size, 0, none⟩) (Nat.le_refl _) _).setCell (p := ⟨w0.heap.size, 1, none⟩) (Nat.le_refl _) _⟩⟩
        case round =>
          clear hc0 hc1 hf0 hf1 HB2
          obtain ⟨c, rfl, HCI, HOF, HBX, HW2⟩ := hrel
          have HXW := Aside0.mk (show Boxed wr B 22 (.slice A0 l0.length c0) ∧ Boxed wr (B + 2) 2 (.int .i64 hi) from ⟨HX.out.1.kept (grown_of_below HW2.out none) (by simp), HX.out.2.kept (grown_of_below HW2.out none) (by simp)⟩)
          have k4 := HXW.out.1.cell
          have k5 := HXW.out.2.cell
          have HBR := Aside0.mk (Below.trans HB.out (HW2.out.mono HB.out.size))
          have HPL := Aside0.mk (show pre.length < 16385 by rw [HP.out.2.1]; have := brUp_len l0 lo (i - lo); omega)
          have hcb : c ≤ 16384 := by have := HCI.out; have := HH.out; omega
          have hr0 := blk_cell HBX.out 0
          have hr1 := blk_cell HBX.out 1
          have hrf := blk_frozen HBX.out 1
          have hr0' : wr.cell? ⟨w0.heap.size, 0, none⟩ = some (.int .i64 (i : Int)) := hr0
          have hr1' : wr.cell? ⟨w0.heap.size, 1, none⟩ = some (.int .i64 (c : Int)) := hr1
          clear hr0 hr1 k1 k3
          by_cases c3 : ((i + c : Nat) : Int) < hi
          rotate_left
          · have c3b : decide (((i + c : Nat) : Int) < hi) = false := decide_eq_false c3
            have c3c : decide ((i : Int) + (c : Int) < hi) = false := decide_eq_false (by omega)
            have HCP := Aside0.mk (show 0 < c by have := HI2.out; omega)
            have HE := Aside0.mk (show (((i + c + 1 : Nat) : Int) ≤ hi ∧ pre ++ [⟨(i : Int), (c : Int)⟩] = brUp l0 lo (i + c + 1 - lo) ∧ ∀ x, (pre ++ [(⟨(i : Int), (c : Int)⟩ : S35)]).getLast? = some x → x.f0 + x.f1 < ((i + c + 1 : Nat) : Int)) ∨ (hi < ((i + c + 1 : Nat) : Int) ∧ pre ++ [⟨(i : Int), (c : Int)⟩] = brUp l0 lo (hi.toNat - lo)) by
              refine .inr ⟨by omega, ?_⟩
              have hq := brUp_run l0 lo i HLO.out (by rw [← HP.out.2.1]; exact HP.out.2.2) (c - 1) (fun j hj => HOF.out j (by have := HCP.out; omega))
              rw [show c - 1 + 1 = c by have := HCP.out; omega, ← HP.out.2.1] at hq
              rw [← hq]
              congr 1
              have := HCI.out; omega)
            clear c3
            obtain ⟨fn, tmps, assign, body, hy, hR⟩ := HY.out pre ⟨(i : Int), (c : Int)⟩ wr (HJ.out pre w0 _ none HJP.out (grown_of_below HW2.out none) (by simp)) HPL.out
            gi_wp2
            refine ⟨trivial, ?_⟩
            gi_wp2
            refine hR.mono ?_
            rintro e W3 (⟨rfl, hJ3, hk3⟩ | ⟨rfl, hJx3⟩)
            · gi_wp2
              go_roundw
              case rel => exact ⟨i + c + 1, pre ++ [⟨(i : Int), (c : Int)⟩], by go_num, ⟨by have := HLO.out; omega⟩, ⟨HE.out⟩, ⟨hJ3⟩, ⟨(Below.trans HB.out (HW2.out.mono HB.out.size)).trans hk3.1⟩, ⟨Nat.le_trans HS.out (Nat.le_trans (Nat.le_trans HW2.out.size (Nat.le_refl _)) hk3.1.size)⟩, ⟨hk3.2.1.trans HXW.out.1, hk3.2.2.2.trans HXW.out.2⟩⟩
              case measure => have := HI2.out; have := HCP.out; simp [intOf]; omega
            · gi_wp2
              refine bodyPost_ret (results_none rfl _ _ _) rfl ?_
              exact ⟨⟨_, rfl⟩, .inr ⟨_, trivial, hJx3⟩⟩
          · have c3b : decide (((i + c : Nat) : Int) < hi) = true := decide_eq_true c3
            have c3c : decide ((i : Int) + (c : Int) < hi) = true := decide_eq_true (by omega)
            have HG2 := Aside0.mk (show impl_BitGet.f l0 ((i : Int) + (c : Int)) = some (brOn l0 (i + c)) by rw [← Int.natCast_add]; exact brOn_is l0 (i + c) (by have := HH.out; omega) hll)
            have HC3 := Aside0.mk c3
            clear c3
            cases c4 : brOn l0 (i + c) with
            | true =>
              rw [c4] at HG2
              have HCP := Aside0.mk (show 0 < c by
                rcases Nat.eq_zero_or_pos c with h | h
                · rw [h, Nat.add_zero, HO.out] at c4; cases c4
                · exact h)
              have HE := Aside0.mk (show (((i + c + 1 : Nat) : Int) ≤ hi ∧ pre ++ [⟨(i : Int), (c : Int)⟩] = brUp l0 lo (i + c + 1 - lo) ∧ ∀ x, (pre ++ [(⟨(i : Int), (c : Int)⟩ : S35)]).getLast? = some x → x.f0 + x.f1 < ((i + c + 1 : Nat) : Int)) ∨ (hi < ((i + c + 1 : Nat) : Int) ∧ pre ++ [⟨(i : Int), (c : Int)⟩] = brUp l0 lo (hi.toNat - lo)) by
                refine .inl ⟨by have := HC3.out; omega, ?_, fun x hx => ?_⟩
                · have hq := brUp_run l0 lo i HLO.out (by rw [← HP.out.2.1]; exact HP.out.2.2) (c - 1) (fun j hj => HOF.out j (by have := HCP.out; omega))
                  rw [show c - 1 + 1 = c by have := HCP.out; omega, ← HP.out.2.1] at hq
                  rw [← hq]
                  exact (brUp_on l0 lo (i + c) (by have := HLO.out; omega) c4).symm
                · rw [List.getLast?_concat] at hx
                  cases hx
                  show (i : Int) + (c : Int) < _
                  omega)
              clear c4
              gi_wp2_with (refine ⟨trivial, ?_⟩; gi_at_call 20; refine (callsIn_wide.2 (impl_BitGet.calls A0 c0 l0 _ true _ (Kd.C_below HR.out HBR.out) HC.out HG2.out)).mono ?_; rintro e w1 ⟨rfl, hd⟩; obtain ⟨nq, rfl⟩ := hd.out; clear hd; obtain ⟨fn, tmps, assign, body, hy, hR⟩ := HY.out pre ⟨(i : Int), (c : Int)⟩ (wr.drewN nq) (HJ.out pre w0 _ none HJP.out (grown_of_below (pw_below_drewN HW2.out nq) none) (by simp)) HPL.out)
              refine hR.mono ?_
              rintro e W3 (⟨rfl, hJ3, hk3⟩ | ⟨rfl, hJx3⟩)
              · gi_wp2
                go_roundw
                case rel => exact ⟨i + c + 1, pre ++ [⟨(i : Int), (c : Int)⟩], by go_num, ⟨by have := HLO.out; omega⟩, ⟨HE.out⟩, ⟨hJ3⟩, ⟨(pw_below_drewN HBR.out nq).trans hk3.1⟩, ⟨Nat.le_trans HS.out (Nat.le_trans HW2.out.size hk3.1.size)⟩, ⟨hk3.2.1.trans HXW.out.1, hk3.2.2.2.trans HXW.out.2⟩⟩
                case measure => have := HI2.out; have := HCP.out; simp [intOf]; omega
              · gi_wp2
                refine bodyPost_ret (results_none rfl _ _ _) rfl ?_
                exact ⟨⟨_, rfl⟩, .inr ⟨_, trivial, hJx3⟩⟩
            | false =>
              rw [c4] at HG2
              have HF := Aside0.mk c4
              clear c4
              gi_wp2_with (refine ⟨trivial, ?_⟩; gi_at_call 20; refine (callsIn_wide.2 (impl_BitGet.calls A0 c0 l0 _ false _ (Kd.C_below HR.out HBR.out) HC.out HG2.out)).mono ?_; rintro e w1 ⟨rfl, hd⟩; obtain ⟨nq, rfl⟩ := hd.out; clear hd)
              go_roundw
              case rel =>
                refine ⟨c + 1, by go_num, ⟨by have := HC3.out; omega⟩, ⟨fun j hj => ?_⟩, ⟨?_⟩, ⟨(pw_below_drewN HW2.out nq).setCell (p := ⟨w0.heap.size, 1, none⟩) (Nat.le_refl _) _⟩⟩
                · rcases Nat.lt_or_ge j c with h | h
                  · exact HOF.out j h
                  · rw [show j = c by omega]; exact HF.out
                · exact blk_set (w := wr.drewN nq) HBX.out 1 _
              case measure => have := HC3.out; simp [intOf]; omega
theorem br_cells2 {W : World} {B : Nat} {t : TypeId} {cs : Array Value} (h : W.heap[B]? = some (.cells cs t (0, 0))) {W' : World} {row : Option Nat} (hg : W.grownBy W' row) (hr : ∀ r, row = some r → ∃ o : Obj, W.heap[r]? = some o ∧ o.isCells = false) : W'.heap[B]? = some (.cells cs t (0, 0)) :=
  (hg.block B (blk_lt h) (fun e => by obtain ⟨o, ho, hc⟩ := hr B e.symm; rw [h] at ho; cases ho; cases hc)).trans h
theorem brReps (R : S35 → List Value → Prop) (hR : ∀ x, R x [.int .i64 x.f0, .int .i64 x.f1]) : ∀ xs, Reps R 2 xs (brCells xs) := by
  have : ∀ (n : Nat) (xs : List S35), xs.length = n → Reps R 2 xs (brCells xs) := by
    intro n
    induction n with
    | zero =>
      intro xs h
      obtain rfl := List.eq_nil_of_length_eq_zero h
      exact Reps.none _ _
    | succ n ih =>
      intro xs h
      have hne : xs ≠ [] := by intro e; rw [e] at h; cases h
      have e := List.dropLast_concat_getLast hne
      rw [← e, brCells_snoc]
      exact (ih xs.dropLast (by simp [h])).snoc (hR _) rfl
  exact fun xs => this _ xs rfl
theorem br_runs (A0 : Option Addr) (n0 c0 : Nat) (lo hi : Int) (m : Nat) (w : World) :
    CallsIn Fence.wide m Try.prog 32 #[.slice A0 n0 c0, .int .i64 lo, .int .i64 hi] w fun e w' => e = .returned (.func (.func 49) #[] #[.pointer (some ⟨w.heap.size + 1, 0, none⟩), .pointer (some ⟨w.heap.size + 1 + 1, 0, none⟩), .pointer (some ⟨w.heap.size, 0, none⟩)]) ∧ w' = ((w.alloc (.cells #[.slice A0 n0 c0] 22)).alloc (.cells #[.int .i64 lo] 2)).alloc (.cells #[.int .i64 hi] 2) := by
  refine callsIn_of_wp Try.func32 rfl trivial ?_ rfl
  simp only [Try.ntmps32, List.size_toArray, List.length_cons, List.length_nil, Nat.reduceAdd, Nat.reduceSub, Array.replicate_succ, Array.replicate_zero, List.push_toArray, List.append_toArray, List.nil_append, List.cons_append]
  gi_wp2
  go_ret
  exact ⟨rfl, rfl⟩
set_option maxHeartbeats 8000000 in
set_option maxRecDepth 100000 in
theorem impl_BitRuns.calls (A0 : Option Addr) (c0 : Nat) (l0 : List Int) (a1 : Int) (a2 : Int) (r : List S35) (w : World) (hr0 : Kd.C (Kd.int .u8) w A0 l0.length l0) (hc0 : l0.length ≤ c0) (h : impl_BitRuns.f l0 a1 a2 = some r) :
    Calls Try.prog 10 #[.slice A0 l0.length c0, .int .i64 a1, .int .i64 a2] w fun e w' => ∃ v0_ : Value, e = .returned (v0_) ∧ Kd.R k35 35 w' w.heap.size (fun _ => True) v0_ r ∧ Below w.heap.size w w' := by
  unfold impl_BitRuns.f at h
  by_cases hb : -9223372036854775808 ≤ a1 ∧ a1 ≤ 9223372036854775807 ∧ -9223372036854775808 ≤ a2 ∧ a2 ≤ 9223372036854775807
  rotate_left
  · rw [if_neg hb] at h; cases h
  rw [if_pos hb] at h
  obtain rfl := Option.some.inj h
  clear h
  have HBD := Aside0.mk hb
  clear hb
  have HR := Aside0.mk hr0
  have HC := Aside0.mk hc0
  clear hr0 hc0
  have HBL := Aside0.mk (show impl_bitlen.f l0 = some (brLen l0) by
    unfold impl_bitlen.f brLen
    split
    · rfl
    · rw [show wrap64 ((l0.length : Int) * 8) = 8 * (l0.length : Int) by unfold wrap64; omega])
  have hinf : (Try.prog.info? 35).map (fun i => (i.zero, i.size, i.bytes)) = some (some (.agg #[.int .i64 0, .int .i64 0]), 2, 16) := by kernel_rfl
  obtain ⟨i0, hi0, hz0, hz1, hz2⟩ := info_parts hinf
  have HI0 := Aside0.mk hi0
  have HZ0 := Aside0.mk hz0
  have HZ1 := Aside0.mk hz1
  have HZ2 := Aside0.mk hz2
  clear hinf hi0 hz0 hz1 hz2
  obtain ⟨lo, hlo⟩ : ∃ lo : Nat, lo = (max a1 0).toNat := ⟨_, rfl⟩
  have hlo' : max a1 0 = (lo : Int) := by omega
  obtain ⟨hi, hhi⟩ : ∃ hi : Int, hi = min a2 (brLen l0) := ⟨_, rfl⟩
  have HLO := Aside0.mk hlo
  have HLO' := Aside0.mk hlo'
  have HHI := Aside0.mk hhi
  have hmx : (if a1 < 0 then (0 : Int) else a1) = (lo : Int) := by rw [← hlo']; omega
  have hmn : (if brLen l0 < a2 then brLen l0 else a2) = hi := by rw [hhi]; omega
  rw [← hlo, ← hhi]
  clear hlo hhi hlo'
  refine (callsIn_wide (n := 6)).1 ?_
  refine callsIn_of_wp_marks Try.func10 rfl trivial ?_ rfl
  simp only [Try.ntmps10, List.size_toArray, List.length_cons, List.length_nil, Nat.reduceAdd, Nat.reduceSub, Array.replicate_succ, Array.replicate_zero, List.push_toArray, List.append_toArray, List.nil_append, List.cons_append]
  gi_wp2_with (first
    | (refine ⟨trivial, ?_⟩; gi_at_call 33; refine (callsIn_wide.2 (impl_bitlen.calls A0 c0 l0 (brLen l0) _ (Kd.C_below HR.out (below_alloc (Below.refl _ _) _)) HC.out HBL.out)).mono ?_; rintro e w1 ⟨rfl, hd⟩; obtain ⟨nq, rfl⟩ := hd.out; clear hd)
    | (refine ⟨trivial, ?_⟩; gi_at_call 32; refine (br_runs A0 l0.length c0 _ _ _ _).mono ?_; rintro e w2 ⟨rfl, rfl⟩))
  clear hmx hmn
  obtain ⟨W0, hW0⟩ : ∃ W0, ((((w.alloc (.cells #[.slice none 0 0] 23)).drewN nq).alloc (.cells #[.slice A0 l0.length c0] 22)).alloc (.cells #[.int .i64 (lo : Int)] 2)).alloc (.cells #[.int .i64 hi] 2) = W0 := ⟨_, rfl⟩
  have hB0 : Below w.heap.size w W0 := by
    rw [← hW0]; exact ((((((Below.refl _ w).alloc (Nat.le_refl _) _) : Below w.heap.size w (w.alloc (.cells #[.slice none 0 0] 23))) |> (pw_below_drewN · nq)).alloc (by simp) _).alloc (by simp; omega) _).alloc (by simp; omega) _
  have hsz : W0.heap.size = w.heap.size + 4 := by rw [← hW0]; simp
  have bL : Boxed W0 w.heap.size 23 (.slice none 0 0) := by
    rw [← hW0]; exact ((show Boxed ((w.alloc (.cells #[.slice none 0 0] 23)).drewN nq) w.heap.size 23 (.slice none 0 0) from Boxed.new w _ _).alloc _).alloc _ |>.alloc _
  have b1 : Boxed W0 (w.heap.size + 1) 22 (.slice A0 l0.length c0) := by
    rw [← hW0]
    have h := ((Boxed.new ((w.alloc (.cells #[.slice none 0 0] 23)).drewN nq) 22 (.slice A0 l0.length c0)).alloc (.cells #[.int .i64 (lo : Int)] 2)).alloc (.cells #[.int .i64 hi] 2)
    rwa [show ((w.alloc (.cells #[.slice none 0 0] 23)).drewN nq).heap.size = w.heap.size + 1 from World.size_alloc _ _] at h
  have b2 : Boxed W0 (w.heap.size + 1 + 1) 2 (.int .i64 (lo : Int)) := by
    rw [← hW0]
    have h := (Boxed.new (((w.alloc (.cells #[.slice none 0 0] 23)).drewN nq).alloc (.cells #[.slice A0 l0.length c0] 22)) 2 (.int .i64 (lo : Int))).alloc (.cells #[.int .i64 hi] 2)
    rwa [World.size_alloc, show ((w.alloc (.cells #[.slice none 0 0] 23)).drewN nq).heap.size = w.heap.size + 1 from World.size_alloc _ _] at h
  have b3 : Boxed W0 (w.heap.size + 1 + 1 + 1) 2 (.int .i64 hi) := by
    rw [← hW0]
    have h := Boxed.new ((((w.alloc (.cells #[.slice none 0 0] 23)).drewN nq).alloc (.cells #[.slice A0 l0.length c0] 22)).alloc (.cells #[.int .i64 (lo : Int)] 2)) 2 (.int .i64 hi)
    rwa [World.size_alloc, World.size_alloc, show ((w.alloc (.cells #[.slice none 0 0] 23)).drewN nq).heap.size = w.heap.size + 1 from World.size_alloc _ _] at h
  rw [hW0]
  have hlo1 : lo ≤ 9223372036854775807 := by have h1 := HBD.out; have h2 := HLO.out; omega
  have hbl : 0 ≤ brLen l0 ∧ brLen l0 ≤ 8 * (l0.length : Int) ∧ (l0.length ≤ 2048 ∨ brLen l0 = 0) := by unfold brLen; split <;> omega
  have hhi0 : -9223372036854775808 ≤ hi := by have h1 := HBD.out; have h2 := HHI.out; omega
  have hhi1 : hi ≤ 8 * (l0.length : Int) := by have h2 := HHI.out; omega
  have hhi2 : l0.length ≤ 2048 ∨ hi ≤ 0 := by have h2 := HHI.out; omega
  clear hW0 hbl
  refine wpIn_rangeFunc_ownH (F := Fence.wide) (n := 6) rfl (by omega) (gf := 49) (lb := #[.pointer (some ⟨w.heap.size + 1 + 1, 0, none⟩), .pointer (some ⟨w.heap.size + 1 + 1 + 1, 0, none⟩), .pointer (some ⟨w.heap.size + 1, 0, none⟩)]) rfl trivial (enters_of Try.func49 (by kernel_rfl) rfl)
    (encs := fun x : S35 => #[.agg #[.int .i64 x.f0, .int .i64 x.f1]]) (Kp := brKp w.heap.size (w.heap.size + 1)) (S := fun ys => ys = brUp l0 lo (hi.toNat - lo)) (Sp := fun _ => True) (N := 16385) (w0 := W0)
    (fun l J Jx W hW hJ _ hY h0 => br_runs1 (6 - 1) (by omega) l (w.heap.size + 1) A0 c0 l0 lo hi w hlo1 hhi0 hhi1 hhi2 HR.out HC.out J Jx W hJ hY (hB0.trans (hW.mono hB0.size)) (b1.kept (grown_of_below hW none) (by simp)) (b2.kept (grown_of_below hW none) (by simp)) (b3.kept (grown_of_below hW none) (by simp)) h0)
    brKp_t (brKp_b hB0.size (by omega)) (Below.refl _ _) (fun _ => rfl)
    (fun pre W => (∃ v, Boxed W w.heap.size 23 v ∧ W.ownsRow w.heap.size 35 2 v pre.length (brCells pre) ∧ True) ∧ (Boxed W (w.heap.size + 1) 22 (.slice A0 l0.length c0) ∧ Boxed W (w.heap.size + 1 + 1) 2 (.int .i64 (lo : Int)) ∧ Boxed W (w.heap.size + 1 + 1 + 1) 2 (.int .i64 hi)) ∧ Below w.heap.size w W ∧ W0.heap.size ≤ W.heap.size)
    (fun _ _ _ => False)
    (OwnFrom.and (Own.from (holdsRow_own w.heap.size w.heap.size 23 35 2 (fun pre : List S35 => pre.length) brCells (fun _ _ => True)) _) (OwnFrom.and (OwnFrom.and (Own.from (boxed_own _ _ (fun _ => _)) _) (OwnFrom.and (Own.from (boxed_own _ _ (fun _ => _)) _) (Own.from (boxed_own _ _ (fun _ => _)) _))) (OwnFrom.and (ownFrom_below (Nat.le_refl _) hB0.size) (fun _ _ _ _ hs hg _ => Nat.le_trans hs hg.size))))
    (fun _ _ _ _ _ hs _ _ => hs)
    ⟨⟨_, bL, World.ownsRow_nil _ _ _ _, trivial⟩, ⟨b1, b2, b3⟩, hB0, Nat.le_refl _⟩
    (fun x a' W => ∃ Bx, W0.heap.size ≤ Bx ∧ W.heap[Bx]? = some (.cells #[.int .i64 x.f0, .int .i64 x.f1] 35 (0, 0)) ∧ a' = { tmps := #[.slice A0 l0.length c0, .int .i64 a1, .int .i64 a2, undef, undef, undef, .slice none 0 0, .pointer (some ⟨w.heap.size, 0, none⟩), .pointer (some ⟨Bx, 0, none⟩), .slice A0 l0.length c0, .int .i64 a1, .int .i64 (lo : Int), .int .i64 a2, .slice A0 l0.length c0, .int .i64 (brLen l0), .int .i64 hi, .func (.func 49) #[] #[.pointer (some ⟨w.heap.size + 1 + 1, 0, none⟩), .pointer (some ⟨w.heap.size + 1 + 1 + 1, 0, none⟩), .pointer (some ⟨w.heap.size + 1, 0, none⟩)], .agg #[.int .i64 x.f0, .int .i64 x.f1], undef, undef, undef, undef, undef], defers := [] })
    (fun x a' _ X Y row hs hg hr => by obtain ⟨Bx, h1, h2, h3⟩ := hs; exact ⟨Bx, h1, br_cells2 h2 hg (fun r e => (hr r e).2), h3⟩)
    ?assign ?body ?done ?stop
  case assign =>
    rintro l pre x W K ⟨⟨v, hv, hrow, _⟩, ⟨b1', b2', b3'⟩, hB1, hs1⟩ hK
    gi_wp2
    have hbW := (Below.refl W.heap.size W).alloc (Nat.le_refl _) (.cells #[.int .i64 x.f0, .int .i64 x.f1] 35)
    have hG := grown_of_below hbW none
    have n1 := b1'.kept hG (by simp)
    have n2 := b2'.kept hG (by simp)
    have n3 := b3'.kept hG (by simp)
    exact hK _ _ ((KeepsOthers.alloc _ _).from _) ⟨hbW.mono hB1.size, Eq.trans n1 (Eq.symm b1'), Eq.trans n2 (Eq.symm b2'), Eq.trans n3 (Eq.symm b3')⟩ ⟨⟨v, hv.kept hG (by simp), pw_own_below hrow hbW, trivial⟩, ⟨n1, n2, n3⟩, hB1.trans (hbW.mono hB1.size), Nat.le_trans hs1 hbW.size⟩ ⟨W.heap.size, hs1, Array.getElem?_push_size, rfl⟩
  case body =>
    rintro l pre x a' W hl ⟨r, hr⟩ ⟨⟨v, hv, hrow, _⟩, ⟨b1', b2', b3'⟩, hB1, hs1⟩ ⟨Bx, hBx, bX, rfl⟩ hlt
    have hc := hv.cell
    have hx0 := blk_cell bX 0
    have hx1 := blk_cell bX 1
    have hx0' : W.cell? ⟨Bx, 0, none⟩ = some (.int .i64 x.f0) := hx0
    have hx1' : W.cell? ⟨Bx, 1, none⟩ = some (.int .i64 x.f1) := hx1
    clear hx0 hx1
    gi_wp2_with (gi_at_builtin; refine wpListIn_append_own _ rfl _ _ 23 rfl w.heap.size 35 i0 (.agg #[.int .i64 0, .int .i64 0]) 2 16 Try.underlying23 HI0.out HZ0.out HZ1.out HZ2.out rfl (by decide) _ _ _ rfl (hrow.alloc _) ⟨W.heap.size, 0, none⟩ 1 1 [.int .i64 x.f0, .int .i64 x.f1] rfl rfl (World.news_of_block (cs := #[.int .i64 x.f0, .int .i64 x.f1]) (t := 35) (fr := (0, 0)) (heap_alloc_new W _)) (by simp [Value.oneCell']) (by unfold maxLen; omega) (by omega) (by have := hB1.size; simp; omega) ?_; intro v' w1 hown' hgrow _; obtain ⟨g', cap', rfl⟩ := ownsRow_succ hown'; obtain ⟨hv1, hv2, hr2, hk2, hb2⟩ := hv.appended (by decide) hrow hB1.size (Nat.le_refl _) hown' hgrow; have hc1 := hv1.cell; have hf1 := hv1.frozen)
    have n1 := ((b1'.alloc _).kept hgrow (b1'.not_row (by decide) hrow)).other (B' := w.heap.size) (by omega) (.slice (some ⟨g', 0, none⟩) (pre.length + 1) cap')
    have n2 := ((b2'.alloc _).kept hgrow (b2'.not_row (by decide) hrow)).other (B' := w.heap.size) (by omega) (.slice (some ⟨g', 0, none⟩) (pre.length + 1) cap')
    have n3 := ((b3'.alloc _).kept hgrow (b3'.not_row (by decide) hrow)).other (B' := w.heap.size) (by omega) (.slice (some ⟨g', 0, none⟩) (pre.length + 1) cap')
    exact ⟨hk2.from _, ⟨hb2, Eq.trans n1 (Eq.symm b1'), Eq.trans n2 (Eq.symm b2'), Eq.trans n3 (Eq.symm b3')⟩, ⟨⟨_, hv2, by rw [brCells_snoc]; simpa using hr2, trivial⟩, ⟨n1, n2, n3⟩, hB1.trans hb2, Nat.le_trans hs1 hb2.size⟩⟩
  case done =>
    rintro D ys W hD rfl ⟨⟨v, hv, hrow, _⟩, _, hB1, _⟩ hK
    have hc := hv.cell
    gi_wp2
    refine ⟨by simp, .inl ⟨_, _, rfl, run_takeDeferred hK, ?_⟩⟩
    exact ⟨_, results_tmp rfl _ _ _, v, rfl, ⟨fun _ _ => trivial, _, ownsRow_putObj hrow _ hK rfl, brReps _ (fun x => k35_mkM _ _ _ x) _⟩, hB1.trans (belowK_b (w := w) (Nat.le_refl _) W D _ _ (by have := hB0.size; omega) hK rfl rfl)⟩
  case stop =>
    rintro D c pre W _ _ h _
    exact h.elim
end


/-- A state of type 75 at block g of W; what its slices lead to came in by w0. -/
def IsS75 (w0 W : World) (g : Nat) (f0 : List Int) (f1 : Int) (f2 : Int) : Prop := ∃ A0 c0, W.heap[g]? = some (.cells #[.slice A0 f0.length c0, .int .i64 f1, .int .i64 f2] 75 (0, 0)) ∧ w0.heap.size ≤ g ∧ Kd.C (Kd.int .u8) w0 A0 f0.length f0
theorem IsS75.grown {w0 W : World} {g : Nat} {f0 : List Int} {f1 : Int} {f2 : Int} {W1 : World} {row : Option Nat} (h : IsS75 w0 W g f0 f1 f2) (hw : W.grownBy W1 row) (hne : some g ≠ row) : IsS75 w0 W1 g f0 f1 f2 := by
  obtain ⟨A0, c0, hb, hg, hr0⟩ := h
  exact ⟨A0, c0, blk_grown hb hw hne, hg, hr0⟩
theorem IsS75.own_neN {w0 W : World} {g : Nat} {f0 : List Int} {f1 : Int} {f2 : Int} {α : Type} {d : Kd α} {e : Nat} {base : Nat} {ok : Nat → Prop} {v : Value} {xs : List α} (h : IsS75 w0 W g f0 f1 f2) (ho : Kd.N d e W base ok v xs) (ht : e ≠ 75) : some g ≠ v.ownBlock := by
  obtain ⟨A0, c0, hb, hg, hr0⟩ := h
  exact Kd.N_ne ho hb ht
theorem IsS75.fresh {w0 W : World} {g : Nat} {f0 : List Int} {f1 : Int} {f2 : Int} (h : IsS75 w0 W g f0 f1 f2) : ∀ k, W.heap.size ≤ k → k ≠ g := by
  obtain ⟨A0, c0, hb, hg, hr0⟩ := h
  exact Kd.freshB hb
theorem IsS75.kept {w0 W : World} {g : Nat} {f0 : List Int} {f1 : Int} {f2 : Int} {W1 : World} {S : Nat → Prop} (h : IsS75 w0 W g f0 f1 f2) (hk : Kept W W1 S) (hne : ¬ S g) : IsS75 w0 W1 g f0 f1 f2 := by
  obtain ⟨A0, c0, hb, hg, hr0⟩ := h
  exact ⟨A0, c0, blk_kept hb hk hne, hg, hr0⟩
theorem IsS75.below {w0 W : World} {g : Nat} {f0 : List Int} {f1 : Int} {f2 : Int} {W1 : World} (h : IsS75 w0 W g f0 f1 f2) (hw : Below W.heap.size W W1) : IsS75 w0 W1 g f0 f1 f2 := h.grown (grown_of_below hw none) (by simp)
theorem IsS75.alloc {w0 W : World} {g : Nat} {f0 : List Int} {f1 : Int} {f2 : Int} (h : IsS75 w0 W g f0 f1 f2) (o : Obj) : IsS75 w0 (W.alloc o) g f0 f1 f2 := h.below (below_alloc (Below.refl _ _) o)
theorem IsS75.drewN {w0 W : World} {g : Nat} {f0 : List Int} {f1 : Int} {f2 : Int} (h : IsS75 w0 W g f0 f1 f2) (m : Nat) : IsS75 w0 (W.drewN m) g f0 f1 f2 := h
theorem IsS75.drew {w0 W : World} {g : Nat} {f0 : List Int} {f1 : Int} {f2 : Int} (h : IsS75 w0 W g f0 f1 f2) : IsS75 w0 W.drew g f0 f1 f2 := h
theorem IsS75.at_ {w0 W : World} {g : Nat} {f0 : List Int} {f1 : Int} {f2 : Int} {w' : World} {m : Nat} (hq : W.drewN m = w') (h : IsS75 w0 W g f0 f1 f2) : IsS75 w0 w' g f0 f1 f2 := by subst hq; exact IsS75.drewN h m
theorem IsS75.apart {w0 W : World} {g : Nat} {f0 : List Int} {f1 : Int} {f2 : Int} {α : Type} {d : Kd α} {e : Nat} {base : Nat} {ok : Nat → Prop} {v : Value} {xs : List α} (h : IsS75 w0 W g f0 f1 f2) (ho : d.R e W base ok v xs) (ht : ∀ q, q ∈ e :: d.E → q ≠ 75) : d.R e W base (fun k => ok k ∧ k ≠ g) v xs := by
  obtain ⟨A0, c0, hb, hg, hr0⟩ := h
  exact Kd.R_types ho hb ht
theorem IsS75.own_ne {w0 W : World} {g : Nat} {f0 : List Int} {f1 : Int} {f2 : Int} {α : Type} {d : Kd α} {e : Nat} {base : Nat} {ok : Nat → Prop} {v : Value} {xs : List α} (h : IsS75 w0 W g f0 f1 f2) (ho : d.R e W base ok v xs) (ht : e ≠ 75) : some g ≠ v.ownBlock := by
  obtain ⟨A0, c0, hb, hg, hr0⟩ := h
  exact Kd.R_ne ho hb ht
theorem IsS75.apartQ {w0 W : World} {g : Nat} {f0 : List Int} {f1 : Int} {f2 : Int} {α : Type} {d : Kd α} {e : Nat} {base : Nat} {ok : Nat → Prop} {v : Value} {xs : List α} (h : IsS75 w0 W g f0 f1 f2) (ho : d.Q e W base ok v xs) (ht : ∀ q, q ∈ e :: d.E → q ≠ 75) : d.Q e W base (fun k => ok k ∧ k ≠ g) v xs := by
  obtain ⟨A0, c0, hb, hg, hr0⟩ := h
  exact Kd.Q_types ho hb ht
theorem IsS75.own_neQ {w0 W : World} {g : Nat} {f0 : List Int} {f1 : Int} {f2 : Int} {α : Type} {d : Kd α} {e : Nat} {base : Nat} {ok : Nat → Prop} {v : Value} {xs : List α} (h : IsS75 w0 W g f0 f1 f2) (ho : d.Q e W base ok v xs) (ht : e ≠ 75) : some g ≠ v.ownBlock := by
  obtain ⟨A0, c0, hb, hg, hr0⟩ := h
  exact Kd.Q_ne ho hb ht
theorem IsS75.apartS {w0 W : World} {g : Nat} {f0 : List Int} {f1 : Int} {f2 : Int} {α : Type} {d : Kd α} {e : Nat} {base : Nat} {ok : Nat → Prop} {v : Value} {xs : List α} (h : IsS75 w0 W g f0 f1 f2) (ho : d.S e W base ok v xs) (ht : ∀ q, q ∈ e :: d.E → q ≠ 75) : d.S e W base (fun k => ok k ∧ k ≠ g) v xs := by
  obtain ⟨A0, c0, hb, hg, hr0⟩ := h
  exact Kd.S_types ho hb ht
theorem IsS75.own_neS {w0 W : World} {g : Nat} {f0 : List Int} {f1 : Int} {f2 : Int} {α : Type} {d : Kd α} {e : Nat} {base : Nat} {ok : Nat → Prop} {v : Value} {xs : List α} (h : IsS75 w0 W g f0 f1 f2) (ho : d.S e W base ok v xs) (ht : e ≠ 75) : some g ≠ v.ownBlock := by
  obtain ⟨A0, c0, hb, hg, hr0⟩ := h
  exact Kd.S_ne ho hb ht
theorem IsS75.lt {w0 W : World} {g : Nat} {f0 : List Int} {f1 : Int} {f2 : Int} (h : IsS75 w0 W g f0 f1 f2) : g < W.heap.size := by
  obtain ⟨A0, c0, hb, hg, hr0⟩ := h
  exact blk_lt hb
theorem IsS75.ge {w0 W : World} {g : Nat} {f0 : List Int} {f1 : Int} {f2 : Int} (h : IsS75 w0 W g f0 f1 f2) : w0.heap.size ≤ g := by
  obtain ⟨A0, c0, hb, hg, hr0⟩ := h
  exact hg
theorem IsS75.ne_blk {w0 W : World} {g : Nat} {f0 : List Int} {f1 : Int} {f2 : Int} {a : Nat} {cs : Array Value} {t : TypeId} {fr : Nat × Nat} (h : IsS75 w0 W g f0 f1 f2) (hb2 : W.heap[a]? = some (.cells cs t fr)) (ht : t ≠ 75) : g ≠ a := by
  obtain ⟨A0, c0, hb, hg, hr0⟩ := h
  rintro rfl
  rw [hb] at hb2
  injection hb2 with hb2
  injection hb2 with _ ht2
  exact ht ht2.symm
theorem IsS75.far {w0 W : World} {g : Nat} {f0 : List Int} {f1 : Int} {f2 : Int} {p : Addr} (h : IsS75 w0 W g f0 f1 f2) (hne : g ≠ p.block) (u : Value) : IsS75 w0 (W.setCell p u) g f0 f1 f2 := by
  obtain ⟨A0, c0, hb, hg, hr0⟩ := h
  exact ⟨A0, c0, blk_far hb hne u, hg, hr0⟩
theorem cellS75_0 {W : World} {g : Nat} {A0 : Option Addr} {c0 : Nat} {f0 : List Int} {f1 : Int} {f2 : Int} (h : W.heap[g]? = some (.cells #[.slice A0 f0.length c0, .int .i64 f1, .int .i64 f2] 75 (0, 0))) : W.cell? ⟨g, 0, none⟩ = some (.slice A0 f0.length c0) := (blk_cell h 0).trans rfl
theorem cellS75_1 {W : World} {g : Nat} {A0 : Option Addr} {c0 : Nat} {f0 : List Int} {f1 : Int} {f2 : Int} (h : W.heap[g]? = some (.cells #[.slice A0 f0.length c0, .int .i64 f1, .int .i64 f2] 75 (0, 0))) : W.cell? ⟨g, 1, none⟩ = some (.int .i64 f1) := (blk_cell h 1).trans rfl
theorem IsS75.set_1 {w0 W : World} {g : Nat} {f0 : List Int} {f1 : Int} {f2 : Int} (h : IsS75 w0 W g f0 f1 f2) (x : Int) : IsS75 w0 (W.setCell ⟨g, 1, none⟩ (.int .i64 x)) g f0 x f2 := by
  obtain ⟨A0, c0, hb, hg, hr0⟩ := h
  exact ⟨A0, c0, by simpa using blk_set hb 1 (.int .i64 x), hg, hr0⟩
theorem cellS75_2 {W : World} {g : Nat} {A0 : Option Addr} {c0 : Nat} {f0 : List Int} {f1 : Int} {f2 : Int} (h : W.heap[g]? = some (.cells #[.slice A0 f0.length c0, .int .i64 f1, .int .i64 f2] 75 (0, 0))) : W.cell? ⟨g, 2, none⟩ = some (.int .i64 f2) := (blk_cell h 2).trans rfl
theorem IsS75.set_2 {w0 W : World} {g : Nat} {f0 : List Int} {f1 : Int} {f2 : Int} (h : IsS75 w0 W g f0 f1 f2) (x : Int) : IsS75 w0 (W.setCell ⟨g, 2, none⟩ (.int .i64 x)) g f0 f1 x := by
  obtain ⟨A0, c0, hb, hg, hr0⟩ := h
  exact ⟨A0, c0, by simpa using blk_set hb 2 (.int .i64 x), hg, hr0⟩
theorem IsS75.new (w0 W : World) (A0 : Option Addr) (c0 : Nat) (f0 : List Int) (f1 : Int) (f2 : Int) (hB : Below w0.heap.size w0 W) (hr0 : Kd.C (Kd.int .u8) w0 A0 f0.length f0) : IsS75 w0 (W.alloc (.cells #[.slice A0 f0.length c0, .int .i64 f1, .int .i64 f2] 75)) W.heap.size f0 f1 f2 := ⟨A0, c0, by simpa using heap_alloc_new W _, hB.size, hr0⟩

/-! ### spec_l1Next: function 45 -/
def spec_l1Next.f (s0_0 : List Int) (s0_1 : Int) (s0_2 : Int) (a1 : Int) : Option (Int × Int × Int) := if a1 < 1 then (some (0, wrap64 (s0_1 + 1), s0_2)) else (if (s0_0.length : Int) = 0 then (if a1 = 0 then (none) else (some (Int.tmod (wrap64 ((wrap64 ((wrap64 (s0_1 + 1)) - 1)) * 7)) a1, wrap64 (s0_1 + 1), s0_2))) else (if 0 ≤ (Int.tmod (wrap64 ((wrap64 (s0_1 + 1)) - 1)) (s0_0.length : Int)) then (if (Int.tmod (wrap64 ((wrap64 (s0_1 + 1)) - 1)) (s0_0.length : Int)) < (s0_0.length : Int) then (if a1 > 200 then (if 0 ≤ (Int.tmod (wrap64 ((wrap64 ((wrap64 (s0_1 + 1)) - 1)) + 1)) (s0_0.length : Int)) then (if (Int.tmod (wrap64 ((wrap64 ((wrap64 (s0_1 + 1)) - 1)) + 1)) (s0_0.length : Int)) < (s0_0.length : Int) then (if a1 = 0 then (none) else (some (Int.tmod (wrap64 ((wrap64 ((wrap64 ((wrap64 ((wrap64 (rd s0_0 (Int.tmod (wrap64 ((wrap64 (s0_1 + 1)) - 1)) (s0_0.length : Int)))) + (wrap64 ((wrap64 (Int.tdiv (wrap64 ((wrap64 (s0_1 + 1)) - 1)) (s0_0.length : Int))) * 37)))) * 251)) + (wrap64 ((wrap64 (rd s0_0 (Int.tmod (wrap64 ((wrap64 ((wrap64 (s0_1 + 1)) - 1)) + 1)) (s0_0.length : Int)))) * 13)))) + (wrap64 ((wrap64 (s0_1 + 1)) - 1)))) a1, wrap64 (s0_1 + 1), s0_2))) else (none)) else (none)) else (if a1 = 0 then (none) else (some (Int.tmod (wrap64 ((wrap64 (rd s0_0 (Int.tmod (wrap64 ((wrap64 (s0_1 + 1)) - 1)) (s0_0.length : Int)))) + (wrap64 ((wrap64 (Int.tdiv (wrap64 ((wrap64 (s0_1 + 1)) - 1)) (s0_0.length : Int))) * 37)))) a1, wrap64 (s0_1 + 1), s0_2)))) else (none)) else (none)))
set_option maxHeartbeats 8000000 in
set_option maxRecDepth 100000 in
theorem spec_l1Next.calls (g : Nat) (s0_0 : List Int) (s0_1 : Int) (s0_2 : Int) (a1 : Int) (r1 : Int) (r2 : Int) (r3 : Int) (w0 w : World) (hI : IsS75 w0 w g s0_0 s0_1 s0_2) (hB : Below w0.heap.size w0 w) (h : spec_l1Next.f s0_0 s0_1 s0_2 a1 = some (r1, r2, r3)) :
    Calls Try.prog 45 #[.pointer (some ⟨g, 0, none⟩), .int .i64 a1] w fun e w' => e = .returned (.int .i64 r1) ∧ IsS75 w0 w' g s0_0 r2 r3 ∧ Below w0.heap.size w0 w' ∧ KeepBut w w' g none := by
  have HI0 := Aside0.mk hI
  have HK := Aside0.mk (KeepBut.refl w g none)
  have HL := Aside0.mk hB.size
  clear hI
  have HW0 := Aside0.mk hB.size
  have HB := Aside0.mk hB
  clear hB
  have H : (if a1 < 1 then (some (0, wrap64 (s0_1 + 1), s0_2)) else (if (s0_0.length : Int) = 0 then (if a1 = 0 then (none) else (some (Int.tmod (wrap64 ((wrap64 ((wrap64 (s0_1 + 1)) - 1)) * 7)) a1, wrap64 (s0_1 + 1), s0_2))) else (if 0 ≤ (Int.tmod (wrap64 ((wrap64 (s0_1 + 1)) - 1)) (s0_0.length : Int)) then (if (Int.tmod (wrap64 ((wrap64 (s0_1 + 1)) - 1)) (s0_0.length : Int)) < (s0_0.length : Int) then (if a1 > 200 then (if 0 ≤ (Int.tmod (wrap64 ((wrap64 ((wrap64 (s0_1 + 1)) - 1)) + 1)) (s0_0.length : Int)) then (if (Int.tmod (wrap64 ((wrap64 ((wrap64 (s0_1 + 1)) - 1)) + 1)) (s0_0.length : Int)) < (s0_0.length : Int) then (if a1 = 0 then (none) else (some (Int.tmod (wrap64 ((wrap64 ((wrap64 ((wrap64 ((wrap64 (rd s0_0 (Int.tmod (wrap64 ((wrap64 (s0_1 + 1)) - 1)) (s0_0.length : Int)))) + (wrap64 ((wrap64 (Int.tdiv (wrap64 ((wrap64 (s0_1 + 1)) - 1)) (s0_0.length : Int))) * 37)))) * 251)) + (wrap64 ((wrap64 (rd s0_0 (Int.tmod (wrap64 ((wrap64 ((wrap64 (s0_1 + 1)) - 1)) + 1)) (s0_0.length : Int)))) * 13)))) + (wrap64 ((wrap64 (s0_1 + 1)) - 1)))) a1, wrap64 (s0_1 + 1), s0_2))) else (none)) else (none)) else (if a1 = 0 then (none) else (some (Int.tmod (wrap64 ((wrap64 (rd s0_0 (Int.tmod (wrap64 ((wrap64 (s0_1 + 1)) - 1)) (s0_0.length : Int)))) + (wrap64 ((wrap64 (Int.tdiv (wrap64 ((wrap64 (s0_1 + 1)) - 1)) (s0_0.length : Int))) * 37)))) a1, wrap64 (s0_1 + 1), s0_2)))) else (none)) else (none)))) = some (r1, r2, r3) := h
  clear h
  by_cases c3 : a1 < 1
  · rw [if_pos c3] at H
    have c3b0 : decide (a1 < 1) = true := decide_eq_true c3
    clear c3
    simp only [Option.some.injEq, Prod.mk.injEq] at H
    obtain ⟨rfl, rfl, rfl⟩ := H
    obtain ⟨ASz4_0, cSz4_0, HGz4, hgz4, HSz4_0⟩ := HI0.out
    have hcz4_0 := cellS75_0 HGz4
    have hcz4_1 := cellS75_1 HGz4
    have hcz4_2 := cellS75_2 HGz4
    have hfz4_1 := blk_frozen HGz4 1
    have hfz4_2 := blk_frozen HGz4 2
    clear HGz4 hgz4
    go_enter Try.func45, Try.ntmps45
    go_wp2
    repeat (go_quiet (fail); try go_wp2)
    go_ret
    exact ⟨by first | rfl | (simp [errW_none, errW_some] <;> rfl) | (simp [*, errW_none, errW_some] <;> rfl), by repeat (first | (with_reducible first | exact HI0.out | apply IsS75.alloc | apply IsS75.drewN | apply IsS75.drew | apply IsS75.set_1 | apply IsS75.set_2) | exact HI0.out), by repeat (first | (with_reducible first | exact HB.out | apply below_alloc | apply pw_below_drewN | apply below_drew1 | refine below_set ?_ (IsS75.ge HI0.out)) | exact HB.out), by repeat (first | (with_reducible first | exact HK.out | apply KeepBut.set_ | apply keep_drewN | apply keep_drew | apply keep_alloc) | exact HK.out)⟩
  · rw [if_neg c3] at H
    have c3b0 : decide (a1 < 1) = false := decide_eq_false c3
    clear c3
    by_cases c5 : (s0_0.length : Int) = 0
    · rw [if_pos c5] at H
      have c5b0 : ((s0_0.length : Int) == 0) = true := beq_iff_eq.mpr c5
      have c5b1 : ((s0_0.length : Int) != 0) = false := bne_eq_false_iff_eq.mpr c5
      clear c5
      by_cases c6 : a1 = 0
      · rw [if_pos c6] at H
        exact absurd H (by simp)
      · rw [if_neg c6] at H
        have c6b0 : (a1 == 0) = false := beq_eq_false_iff_ne.mpr c6
        have c6b1 : (a1 != 0) = true := bne_iff_ne.mpr c6
        simp only [Option.some.injEq, Prod.mk.injEq] at H
        obtain ⟨rfl, rfl, rfl⟩ := H
        obtain ⟨ASz7_0, cSz7_0, HGz7, hgz7, HSz7_0⟩ := HI0.out
        have hcz7_0 := cellS75_0 HGz7
        have hcz7_1 := cellS75_1 HGz7
        have hcz7_2 := cellS75_2 HGz7
        have hfz7_1 := blk_frozen HGz7 1
        have hfz7_2 := blk_frozen HGz7 2
        clear HGz7 hgz7
        go_enter Try.func45, Try.ntmps45
        go_wp2
        repeat (go_quiet (fail); try go_wp2)
        go_ret
        exact ⟨by first | rfl | (simp [errW_none, errW_some] <;> rfl) | (simp [*, errW_none, errW_some] <;> rfl), by repeat (first | (with_reducible first | exact HI0.out | apply IsS75.alloc | apply IsS75.drewN | apply IsS75.drew | apply IsS75.set_1 | apply IsS75.set_2) | exact HI0.out), by repeat (first | (with_reducible first | exact HB.out | apply below_alloc | apply pw_below_drewN | apply below_drew1 | refine below_set ?_ (IsS75.ge HI0.out)) | exact HB.out), by repeat (first | (with_reducible first | exact HK.out | apply KeepBut.set_ | apply keep_drewN | apply keep_drew | apply keep_alloc) | exact HK.out)⟩
    · rw [if_neg c5] at H
      have c5b0 : ((s0_0.length : Int) == 0) = false := beq_eq_false_iff_ne.mpr c5
      have c5b1 : ((s0_0.length : Int) != 0) = true := bne_iff_ne.mpr c5
      have c5b2 : ¬ (s0_0 = []) := fun h_ => c5 (by rw [h_]; rfl)
      obtain ⟨ji8, hji8⟩ : ∃ j_ : Int, (Int.tmod (wrap64 ((wrap64 (s0_1 + 1)) - 1)) (s0_0.length : Int)) = j_ := ⟨_, rfl⟩
      replace H : (if 0 ≤ (ji8) then (if (ji8) < (s0_0.length : Int) then (if a1 > 200 then (if 0 ≤ (Int.tmod (wrap64 ((wrap64 ((wrap64 (s0_1 + 1)) - 1)) + 1)) (s0_0.length : Int)) then (if (Int.tmod (wrap64 ((wrap64 ((wrap64 (s0_1 + 1)) - 1)) + 1)) (s0_0.length : Int)) < (s0_0.length : Int) then (if a1 = 0 then (none) else (some (Int.tmod (wrap64 ((wrap64 ((wrap64 ((wrap64 ((wrap64 (rd s0_0 (ji8))) + (wrap64 ((wrap64 (Int.tdiv (wrap64 ((wrap64 (s0_1 + 1)) - 1)) (s0_0.length : Int))) * 37)))) * 251)) + (wrap64 ((wrap64 (rd s0_0 (Int.tmod (wrap64 ((wrap64 ((wrap64 (s0_1 + 1)) - 1)) + 1)) (s0_0.length : Int)))) * 13)))) + (wrap64 ((wrap64 (s0_1 + 1)) - 1)))) a1, wrap64 (s0_1 + 1), s0_2))) else (none)) else (none)) else (if a1 = 0 then (none) else (some (Int.tmod (wrap64 ((wrap64 (rd s0_0 (ji8))) + (wrap64 ((wrap64 (Int.tdiv (wrap64 ((wrap64 (s0_1 + 1)) - 1)) (s0_0.length : Int))) * 37)))) a1, wrap64 (s0_1 + 1), s0_2)))) else (none)) else (none)) = some (r1, r2, r3) := by first | (rw [hji8] at H; exact H) | (simp only [hji8] at H ⊢; exact H)
      by_cases c9 : 0 ≤ (ji8)
      · rw [if_pos c9] at H
        have c9b0 : decide (0 ≤ (ji8)) = true := decide_eq_true c9
        clear c9
        by_cases c10 : (ji8) < (s0_0.length : Int)
        · rw [if_pos c10] at H
          have c10b0 : decide ((ji8) < (s0_0.length : Int)) = true := decide_eq_true c10
          clear c10
          by_cases c11 : a1 > 200
          · rw [if_pos c11] at H
            have c11b0 : decide (200 < a1) = true := decide_eq_true c11
            clear c11
            obtain ⟨ji12, hji12⟩ : ∃ j_ : Int, (Int.tmod (wrap64 ((wrap64 ((wrap64 (s0_1 + 1)) - 1)) + 1)) (s0_0.length : Int)) = j_ := ⟨_, rfl⟩
            replace H : (if 0 ≤ (ji12) then (if (ji12) < (s0_0.length : Int) then (if a1 = 0 then (none) else (some (Int.tmod (wrap64 ((wrap64 ((wrap64 ((wrap64 ((wrap64 (rd s0_0 (ji8))) + (wrap64 ((wrap64 (Int.tdiv (wrap64 ((wrap64 (s0_1 + 1)) - 1)) (s0_0.length : Int))) * 37)))) * 251)) + (wrap64 ((wrap64 (rd s0_0 (ji12))) * 13)))) + (wrap64 ((wrap64 (s0_1 + 1)) - 1)))) a1, wrap64 (s0_1 + 1), s0_2))) else (none)) else (none)) = some (r1, r2, r3) := by first | (rw [hji12] at H; exact H) | (simp only [hji12] at H ⊢; exact H)
            by_cases c13 : 0 ≤ (ji12)
            · rw [if_pos c13] at H
              have c13b0 : decide (0 ≤ (ji12)) = true := decide_eq_true c13
              clear c13
              by_cases c14 : (ji12) < (s0_0.length : Int)
              · rw [if_pos c14] at H
                have c14b0 : decide ((ji12) < (s0_0.length : Int)) = true := decide_eq_true c14
                clear c14
                by_cases c15 : a1 = 0
                · rw [if_pos c15] at H
                  exact absurd H (by simp)
                · rw [if_neg c15] at H
                  have c15b0 : (a1 == 0) = false := beq_eq_false_iff_ne.mpr c15
                  have c15b1 : (a1 != 0) = true := bne_iff_ne.mpr c15
                  simp only [Option.some.injEq, Prod.mk.injEq] at H
                  obtain ⟨rfl, rfl, rfl⟩ := H
                  obtain ⟨ASz16_0, cSz16_0, HGz16, hgz16, HSz16_0⟩ := HI0.out
                  have hcz16_0 := cellS75_0 HGz16
                  have hcz16_1 := cellS75_1 HGz16
                  have hcz16_2 := cellS75_2 HGz16
                  have hfz16_1 := blk_frozen HGz16 1
                  have hfz16_2 := blk_frozen HGz16 2
                  clear HGz16 hgz16
                  have p103 : 0 ≤ ((ji8) : Int) := of_decide_eq_true (by first | (with_reducible assumption) | assumption)
                  have q103 : (ji8) < (s0_0.length : Int) := of_decide_eq_true (by first | (with_reducible assumption) | assumption)
                  obtain ⟨ad103, e103, hx103_0⟩ := Kd.at_int HSz16_0 (ji8) p103 q103
                  cases e103
                  have hn103_0 : ad103.block ≠ g := Nat.ne_of_lt (Nat.lt_of_lt_of_le (by have := World.block_lt_of_cell? _ _ hx103_0; first | rwa [add_block] at this | exact this) (IsS75.ge HI0.out))
                  replace hx103_0 := pw_cell_below HB.out hx103_0
                  replace hx103_0 := (cell_far (p := ⟨g, 1, none⟩) (by first | (rw [add_block]; exact hn103_0) | (show (Addr.add _ _).block ≠ _; rw [add_block]; exact hn103_0) | exact hn103_0) (.int .i64 (wrap64 (s0_1 + 1)))).trans hx103_0
                  (try have hy103_0 := fun (n_ : Nat) => (show (((w.drewN n_).setCell ⟨g, 1, none⟩ (.int .i64 (wrap64 (s0_1 + 1))))).cell? _ = some _ from hx103_0))
                  clear hn103_0
                  replace p103 := eq_true p103
                  replace q103 := eq_true q103
                  have p104 : 0 ≤ ((ji12) : Int) := of_decide_eq_true (by first | (with_reducible assumption) | assumption)
                  have q104 : (ji12) < (s0_0.length : Int) := of_decide_eq_true (by first | (with_reducible assumption) | assumption)
                  obtain ⟨ad104, e104, hx104_0⟩ := Kd.at_int HSz16_0 (ji12) p104 q104
                  obtain rfl : ad103 = ad104 := (by injection e104)
                  have hn104_0 : ad103.block ≠ g := Nat.ne_of_lt (Nat.lt_of_lt_of_le (by have := World.block_lt_of_cell? _ _ hx104_0; first | rwa [add_block] at this | exact this) (IsS75.ge HI0.out))
                  replace hx104_0 := pw_cell_below HB.out hx104_0
                  replace hx104_0 := (cell_far (p := ⟨g, 1, none⟩) (by first | (rw [add_block]; exact hn104_0) | (show (Addr.add _ _).block ≠ _; rw [add_block]; exact hn104_0) | exact hn104_0) (.int .i64 (wrap64 (s0_1 + 1)))).trans hx104_0
                  (try have hy104_0 := fun (n_ : Nat) => (show (((w.drewN n_).setCell ⟨g, 1, none⟩ (.int .i64 (wrap64 (s0_1 + 1))))).cell? _ = some _ from hx104_0))
                  clear hn104_0
                  replace p104 := eq_true p104
                  replace q104 := eq_true q104
                  go_enter Try.func45, Try.ntmps45
                  go_wp2
                  repeat (go_quiet (fail); try go_wp2)
                  go_ret
                  exact ⟨by first | rfl | (simp [errW_none, errW_some] <;> rfl) | (simp only [← hji8, ← hji12]; first | rfl | (simp [errW_none, errW_some] <;> rfl)) | (simp [*, errW_none, errW_some] <;> rfl), by repeat (first | (with_reducible first | exact HI0.out | apply IsS75.alloc | apply IsS75.drewN | apply IsS75.drew | apply IsS75.set_1 | apply IsS75.set_2) | exact HI0.out), by repeat (first | (with_reducible first | exact HB.out | apply below_alloc | apply pw_below_drewN | apply below_drew1 | refine below_set ?_ (IsS75.ge HI0.out)) | exact HB.out), by repeat (first | (with_reducible first | exact HK.out | apply KeepBut.set_ | apply keep_drewN | apply keep_drew | apply keep_alloc) | exact HK.out)⟩
              · rw [if_neg c14] at H
                exact absurd H (by simp)
            · rw [if_neg c13] at H
              exact absurd H (by simp)
          · rw [if_neg c11] at H
            have c11b0 : decide (200 < a1) = false := decide_eq_false c11
            clear c11
            by_cases c17 : a1 = 0
            · rw [if_pos c17] at H
              exact absurd H (by simp)
            · rw [if_neg c17] at H
              have c17b0 : (a1 == 0) = false := beq_eq_false_iff_ne.mpr c17
              have c17b1 : (a1 != 0) = true := bne_iff_ne.mpr c17
              simp only [Option.some.injEq, Prod.mk.injEq] at H
              obtain ⟨rfl, rfl, rfl⟩ := H
              obtain ⟨ASz18_0, cSz18_0, HGz18, hgz18, HSz18_0⟩ := HI0.out
              have hcz18_0 := cellS75_0 HGz18
              have hcz18_1 := cellS75_1 HGz18
              have hcz18_2 := cellS75_2 HGz18
              have hfz18_1 := blk_frozen HGz18 1
              have hfz18_2 := blk_frozen HGz18 2
              clear HGz18 hgz18
              have p103 : 0 ≤ ((ji8) : Int) := of_decide_eq_true (by first | (with_reducible assumption) | assumption)
              have q103 : (ji8) < (s0_0.length : Int) := of_decide_eq_true (by first | (with_reducible assumption) | assumption)
              obtain ⟨ad103, e103, hx103_0⟩ := Kd.at_int HSz18_0 (ji8) p103 q103
              cases e103
              have hn103_0 : ad103.block ≠ g := Nat.ne_of_lt (Nat.lt_of_lt_of_le (by have := World.block_lt_of_cell? _ _ hx103_0; first | rwa [add_block] at this | exact this) (IsS75.ge HI0.out))
              replace hx103_0 := pw_cell_below HB.out hx103_0
              replace hx103_0 := (cell_far (p := ⟨g, 1, none⟩) (by first | (rw [add_block]; exact hn103_0) | (show (Addr.add _ _).block ≠ _; rw [add_block]; exact hn103_0) | exact hn103_0) (.int .i64 (wrap64 (s0_1 + 1)))).trans hx103_0
              (try have hy103_0 := fun (n_ : Nat) => (show (((w.drewN n_).setCell ⟨g, 1, none⟩ (.int .i64 (wrap64 (s0_1 + 1))))).cell? _ = some _ from hx103_0))
              clear hn103_0
              replace p103 := eq_true p103
              replace q103 := eq_true q103
              go_enter Try.func45, Try.ntmps45
              go_wp2
              repeat (go_quiet (fail); try go_wp2)
              go_ret
              exact ⟨by first | rfl | (simp [errW_none, errW_some] <;> rfl) | (simp only [← hji8]; first | rfl | (simp [errW_none, errW_some] <;> rfl)) | (simp [*, errW_none, errW_some] <;> rfl), by repeat (first | (with_reducible first | exact HI0.out | apply IsS75.alloc | apply IsS75.drewN | apply IsS75.drew | apply IsS75.set_1 | apply IsS75.set_2) | exact HI0.out), by repeat (first | (with_reducible first | exact HB.out | apply below_alloc | apply pw_below_drewN | apply below_drew1 | refine below_set ?_ (IsS75.ge HI0.out)) | exact HB.out), by repeat (first | (with_reducible first | exact HK.out | apply KeepBut.set_ | apply keep_drewN | apply keep_drew | apply keep_alloc) | exact HK.out)⟩
        · rw [if_neg c10] at H
          exact absurd H (by simp)
      · rw [if_neg c9] at H
        exact absurd H (by simp)

/-! ### spec_l1Chance: function 47 -/
def spec_l1Chance.f (s0_0 : List Int) (s0_1 : Int) (s0_2 : Int) (a1 : Int) : Option (Bool × Int × Int) := (spec_l1Next.f s0_0 s0_1 s0_2 a1).bind fun bt105 => (some ((bt105.1 == 0), bt105.2.1, bt105.2.2))
set_option maxHeartbeats 8000000 in
set_option maxRecDepth 100000 in
theorem spec_l1Chance.calls (g : Nat) (s0_0 : List Int) (s0_1 : Int) (s0_2 : Int) (a1 : Int) (r1 : Bool) (r2 : Int) (r3 : Int) (w0 w : World) (hI : IsS75 w0 w g s0_0 s0_1 s0_2) (hB : Below w0.heap.size w0 w) (h : spec_l1Chance.f s0_0 s0_1 s0_2 a1 = some (r1, r2, r3)) :
    Calls Try.prog 47 #[.pointer (some ⟨g, 0, none⟩), .int .i64 a1] w fun e w' => e = .returned (.bool r1) ∧ IsS75 w0 w' g s0_0 r2 r3 ∧ Below w0.heap.size w0 w' ∧ KeepBut w w' g none := by
  have HI0 := Aside0.mk hI
  have HK := Aside0.mk (KeepBut.refl w g none)
  have HL := Aside0.mk hB.size
  clear hI
  have HW0 := Aside0.mk hB.size
  have HB := Aside0.mk hB
  clear hB
  have H : ((spec_l1Next.f s0_0 s0_1 s0_2 a1).bind fun bt105 => (some ((bt105.1 == 0), bt105.2.1, bt105.2.2))) = some (r1, r2, r3) := h
  clear h
  replace H := Option.bind_eq_some_iff.mp H
  obtain ⟨⟨t105, t106, t107⟩, A30, H⟩ := H
  replace H : (some ((t105 == 0), t106, t107)) = some (r1, r2, r3) := H
  have A3 := Aside0.mk A30
  clear A30
  simp only [Option.some.injEq, Prod.mk.injEq] at H
  obtain ⟨rfl, rfl, rfl⟩ := H
  go_enter Try.func47, Try.ntmps47
  go_wp2_with (first | ((with_reducible refine gate_callee (f := 45) rfl ?_); refine goesL_ (some 7) rfl rfl Try.func45 (by kernel_rfl) rfl #[.pointer (some ⟨g, 0, none⟩), .int .i64 a1] rfl (by (try simp only [List.map_toArray, List.map_cons, List.map_nil]); first | done | rfl | (simp only [List.length_drop, List.length_take]; rfl)) ?_; (with_reducible refine (spec_l1Next.calls g s0_0 s0_1 s0_2 a1 t105 t106 t107 w0 _ ?side1 ?side2 A3.out).mono ?_); (case side1 => repeat (first | (with_reducible first | exact HI0.out | apply IsS75.alloc | apply IsS75.drewN | apply IsS75.drew | apply IsS75.set_1 | apply IsS75.set_2) | exact HI0.out)); (case side2 => repeat (first | (with_reducible first | exact HB.out | apply below_alloc | apply pw_below_drewN | apply below_drew1 | refine below_set ?_ (IsS75.ge HI0.out)) | exact HB.out)); rintro e w4 ⟨rfl, hi, hb, hk⟩; refine ⟨_, rfl, ?_⟩; have n0_ := Aside0.mk (KeepBut.trans (by repeat (first | (with_reducible first | exact HK.out | apply KeepBut.set_ | apply keep_drewN | apply keep_drew | apply keep_alloc) | exact HK.out)) hk (.inl rfl)); have n1_ := Aside0.mk (hb); have n2_ := Aside0.mk (hi); clear HK; clear HB; clear HI0; have HK := n0_; have HB := n1_; have HI0 := n2_; clear n0_ n1_ n2_; (try clear hb); (try clear hb2); (try clear hk); (try clear hi)))
  go_ret
  exact ⟨by first | rfl | (simp [errW_none, errW_some] <;> rfl) | (simp [*, errW_none, errW_some] <;> rfl), by repeat (first | (with_reducible first | exact HI0.out | apply IsS75.alloc | apply IsS75.drewN | apply IsS75.drew | apply IsS75.set_1 | apply IsS75.set_2) | exact HI0.out), by repeat (first | (with_reducible first | exact HB.out | apply below_alloc | apply pw_below_drewN | apply below_drew1 | refine below_set ?_ (IsS75.ge HI0.out)) | exact HB.out), by repeat (first | (with_reducible first | exact HK.out | apply KeepBut.set_ | apply keep_drewN | apply keep_drew | apply keep_alloc) | exact HK.out)⟩

end Go.Proofs.Ytikandlenlhdkaa.PFnBits
