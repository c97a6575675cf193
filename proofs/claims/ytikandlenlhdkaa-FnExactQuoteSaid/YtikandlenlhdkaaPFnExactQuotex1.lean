-- written by a program of this session (wip/src/print2.py)
import Derived.Test.YtikandlenlhdkaaPFnExactQuotex0
namespace Go.Proofs.Ytikandlenlhdkaa.PFnExactQuote
open Go.RowKit Go.Proofs.YtikandlenlhdkaaW.PrintWords Go.Proofs.YtikandlenlhdkaaW.PrintLast Go.Proofs.YtikandlenlhdkaaW.PrintMore
attribute [local go_sem] max2_int min2_int max_two min_two max_three min_three max_four min_four   -- for this text's walks alone
set_option linter.unusedVariables false
set_option linter.unusedSimpArgs false

/-! ### spec_l14Plain: function 38 -/
def spec_l14Plain.f (a0 : Int) : Option (Bool) := if a0 ≥ 33 then (if a0 ≤ 126 then (some (a0 != 37)) else (some false)) else (some false)
set_option maxHeartbeats 8000000 in
set_option maxRecDepth 100000 in
theorem spec_l14Plain.calls (a0 : Int) (r : Bool) (w : World) (h : spec_l14Plain.f a0 = some r) :
    Calls Try.prog 38 #[.int .u8 a0] w fun e w' => e = .returned (.bool r) ∧ Drawn0 w w' := by
  have H : (if a0 ≥ 33 then (if a0 ≤ 126 then (some (a0 != 37)) else (some false)) else (some false)) = some r := h
  clear h
  by_cases c2 : a0 ≥ 33
  · rw [if_pos c2] at H
    have c2b0 : decide (33 ≤ a0) = true := decide_eq_true c2
    clear c2
    by_cases c3 : a0 ≤ 126
    · rw [if_pos c3] at H
      have c3b0 : decide (a0 ≤ 126) = true := decide_eq_true c3
      clear c3
      obtain rfl := Option.some.inj H
      go_enter Try.func38, Try.ntmps38
      go_wp2
      go_ret
      exact ⟨by first | rfl | (simp; done) | (simp [*]; done), by repeat (first | exact Drawn0.refl _ | apply Drawn0.step)⟩
    · rw [if_neg c3] at H
      have c3b0 : decide (a0 ≤ 126) = false := decide_eq_false c3
      clear c3
      obtain rfl := Option.some.inj H
      go_enter Try.func38, Try.ntmps38
      go_wp2
      go_ret
      exact ⟨by first | rfl | (simp; done) | (simp [*]; done), by repeat (first | exact Drawn0.refl _ | apply Drawn0.step)⟩
  · rw [if_neg c2] at H
    have c2b0 : decide (33 ≤ a0) = false := decide_eq_false c2
    clear c2
    obtain rfl := Option.some.inj H
    go_enter Try.func38, Try.ntmps38
    go_wp2
    go_ret
    exact ⟨by first | rfl | (simp; done) | (simp [*]; done), by repeat (first | exact Drawn0.refl _ | apply Drawn0.step)⟩

/-! ### spec_l14Hex: function 39 -/
def spec_l14Hex.f (a0 : Int) : Option (ByteArray) := if 0 ≤ a0 then (if a0 ≤ ((a0 + 1) % 256) then (if ((a0 + 1) % 256) ≤ 16 then (some ((⟨#[48, 49, 50, 51, 52, 53, 54, 55, 56, 57, 97, 98, 99, 100, 101, 102]⟩ : ByteArray).extract (a0 : Int).toNat (((a0 + 1) % 256) : Int).toNat)) else (none)) else (none)) else (none)
set_option maxHeartbeats 8000000 in
set_option maxRecDepth 100000 in
theorem spec_l14Hex.calls (a0 : Int) (r : ByteArray) (w : World) (h : spec_l14Hex.f a0 = some r) :
    Calls Try.prog 39 #[.int .u8 a0] w fun e w' => e = .returned (.string r) ∧ Drawn0 w w' := by
  have H : (if 0 ≤ a0 then (if a0 ≤ ((a0 + 1) % 256) then (if ((a0 + 1) % 256) ≤ 16 then (some ((⟨#[48, 49, 50, 51, 52, 53, 54, 55, 56, 57, 97, 98, 99, 100, 101, 102]⟩ : ByteArray).extract (a0 : Int).toNat (((a0 + 1) % 256) : Int).toNat)) else (none)) else (none)) else (none)) = some r := h
  clear h
  by_cases c2 : 0 ≤ a0
  · rw [if_pos c2] at H
    have c2b0 := eq_true c2
    have c2b1 : decide (0 ≤ a0) = true := decide_eq_true c2
    clear c2
    by_cases c3 : a0 ≤ ((a0 + 1) % 256)
    · rw [if_pos c3] at H
      have c3b0 := eq_true c3
      have c3b1 : decide (a0 ≤ ((a0 + 1) % 256)) = true := decide_eq_true c3
      by_cases c4 : ((a0 + 1) % 256) ≤ 16
      · rw [if_pos c4] at H
        have c4b0 := eq_true c4
        have c4b1 : decide (((a0 + 1) % 256) ≤ 16) = true := decide_eq_true c4
        obtain rfl := Option.some.inj H
        go_enter Try.func39, Try.ntmps39
        go_wp2
        go_ret
        exact ⟨by first | rfl | (simp; done) | (simp [*]; done), by repeat (first | exact Drawn0.refl _ | apply Drawn0.step)⟩
      · rw [if_neg c4] at H
        exact absurd H (by simp)
    · rw [if_neg c3] at H
      exact absurd H (by simp)
  · rw [if_neg c2] at H
    exact absurd H (by simp)

/-! ### spec_Quote: function 24 -/
section
open Go.Proofs.Ytikandlenlhdkaa.Qt
/-- spec.Quote. -/
def spec_Quote.f (s : ByteArray) : Option ByteArray := qF s
def spec_Quote.qi (l : List UInt8) : List Int := (ql l).map fun c => (c.toNat : Int)
theorem spec_Quote.str (l : List UInt8) : strOfNums (l.map fun c => (c.toNat : Int)) = ⟨l.toArray⟩ := by
  have : ∀ l : List UInt8, (l.map fun c => (c.toNat : Int)).map (fun n => UInt8.ofNat n.toNat) = l := by
    intro l
    induction l with
    | nil => rfl
    | cons c r ih => simp only [List.map_cons, ih, Int.toNat_natCast]; congr 1; exact UInt8.ofNat_toNat
  unfold strOfNums
  rw [this]
theorem spec_Quote.hexs (n : Nat) (h : n < 16) : (⟨#[48, 49, 50, 51, 52, 53, 54, 55, 56, 57, 97, 98, 99, 100, 101, 102]⟩ : ByteArray).extract n (n + 1) = ⟨#[hx n]⟩ := by
  match n, h with
  | 0, _ | 1, _ | 2, _ | 3, _ | 4, _ | 5, _ | 6, _ | 7, _ | 8, _ | 9, _ | 10, _ | 11, _ | 12, _ | 13, _ | 14, _ | 15, _ => decide +kernel
  | n + 16, h => exact absurd h (by omega)
theorem spec_Quote.hex (a0 : Int) (h0 : 0 ≤ a0) (h1 : a0 < 16) (w : World) :
    Calls Try.prog 39 #[.int .u8 a0] w fun e w' => e = .returned (.string ⟨#[hx a0.toNat]⟩) ∧ w' = w := by
  have HX := Aside0.mk (spec_Quote.hexs a0.toNat (by omega))
  have c2b0 := eq_true h0
  have c3b0 := eq_true (show a0 ≤ a0 + 1 by omega)
  have c4b0 := eq_true (show a0 + 1 ≤ 16 by omega)
  have c3b1 : decide (a0 ≤ a0 + 1) = true := decide_eq_true (by omega)
  have c4b1 : decide (a0 + 1 ≤ 16) = true := decide_eq_true (by omega)
  have HY := Aside0.mk (show (a0 + 1).toNat = a0.toNat + 1 by omega)
  go_enter Try.func39, Try.ntmps39
  go_wp2
  go_ret
  exact ⟨by first | (simp; rw [HY.out, HX.out]), rfl⟩
theorem spec_Quote.three (a b : UInt8) : ((⟨#[37]⟩ : ByteArray) ++ ⟨#[a]⟩ ++ ⟨#[b]⟩).size = 3 := rfl
theorem spec_Quote.three_bytes (m n : Int) : bytesOf ((⟨#[37]⟩ : ByteArray) ++ ⟨#[hx m.toNat]⟩ ++ ⟨#[hx n.toNat]⟩) = [37, ((hx m.toNat).toNat : Int), ((hx n.toNat).toNat : Int)] := rfl
theorem spec_Quote.plainT (c : UInt8) : spec_l14Plain.f (c.toNat : Int) = some (qp c) := by
  unfold qp spec_l14Plain.f
  by_cases h1 : 33 ≤ c.toNat
  · rw [if_pos (by omega), decide_eq_true h1]
    by_cases h2 : c.toNat ≤ 126
    · rw [if_pos (by omega), decide_eq_true h2]
      by_cases h3 : c.toNat = 37
      · rw [h3]; rfl
      · rw [decide_eq_true h3, bne_iff_ne.mpr (by omega : (c.toNat : Int) ≠ 37)]; rfl
    · rw [if_neg (by omega), decide_eq_false h2]; rfl
  · rw [if_neg (by omega), decide_eq_false h1]; rfl
set_option maxHeartbeats 8000000 in
set_option maxRecDepth 100000 in
theorem spec_Quote.calls (s : ByteArray) (r : ByteArray) (w : World) (h : spec_Quote.f s = some r) :
    Calls Try.prog 24 #[.string s] w fun e w' => e = .returned (.string r) ∧ Below w.heap.size w w' := by
  have hinf : (Try.prog.info? 5).map (fun i => (i.zero, i.size, i.bytes)) = some (some (.int .u8 0), 1, 1) := by kernel_rfl
  unfold spec_Quote.f qF at h
  by_cases c1 : s.size > 65536
  · rw [if_pos c1] at h
    obtain rfl := Option.some.inj h
    have c1b : decide (65536 < (s.size : Int)) = true := decide_eq_true (by omega)
    have c1c : decide (65536 < s.size) = true := decide_eq_true (by omega)
    clear h c1 hinf
    go_enter Try.func24, Try.ntmps24
    go_wp2
    go_ret
    exact ⟨rfl, Below.refl _ _⟩
  rw [if_neg c1] at h
  have c1b : decide (65536 < (s.size : Int)) = false := decide_eq_false (by omega)
  have c1c : decide (65536 < s.size) = false := decide_eq_false (by omega)
  have HL := Aside0.mk (show s.size ≤ 65536 by omega)
  have HH := Aside0.mk h
  have HF := Aside0.mk hinf
  clear c1 h hinf
  go_enter Try.func24, Try.ntmps24
  go_wp2
  go_loopw [3, 4] (fun v3 v4 w' => ∃ k : Nat, v4 = .int .i64 (k : Int) ∧ Aside0 (k ≤ s.size) ∧ Aside0 (w'.ownsRow w.heap.size 5 1 v3 (spec_Quote.qi (s.data.toList.take k)).length (nums .u8 (spec_Quote.qi (s.data.toList.take k)))) ∧ Aside0 (Below w.heap.size w w')) (fun _ v4 _ => s.size - (intOf v4).toNat)
  case atStart => exact ⟨0, rfl, ⟨Nat.zero_le _⟩, ⟨own_lit w w.heap.size 5 .u8 [] (Nat.le_refl _) (by simp)⟩, ⟨below_alloc (Below.refl _ _) _⟩⟩
  case round =>
    obtain ⟨k, rfl, HK, HO, HB⟩ := hrel
    by_cases c3 : k < s.size
    rotate_left
    · have c3b : decide ((k : Int) < (s.size : Int)) = false := decide_eq_false (by omega)
      have c3c : decide (k < s.size) = false := decide_eq_false c3
      have ho := HO.out
      rw [show k = s.size by have := HK.out; omega, take_all] at ho
      have hcv := own_string (P := Try.prog) Try.underlying22 Try.underlying5 Try.underlying9 ho
      rw [show strOfNums (spec_Quote.qi s.data.toList) = _ from spec_Quote.str _] at hcv
      have h := HH.out
      by_cases c2 : s.size = 0
      · rw [if_pos c2] at h
        obtain rfl := Option.some.inj h
        have c4b : ((s.size : Int) == 0) = true := beq_iff_eq.mpr (by omega)
        clear c3 ho HO h HH c2 HK hcv
        go_wp2
        go_ret
        exact ⟨rfl, HB.out⟩
      · rw [if_neg c2] at h
        obtain rfl := Option.some.inj h
        have c4b : ((s.size : Int) == 0) = false := beq_eq_false_iff_ne.mpr (by omega)
        clear c3 ho HO h HH c2 HK
        go_wp2
        go_ret
        exact ⟨rfl, HB.out⟩
    · have c3b : decide ((k : Int) < (s.size : Int)) = true := decide_eq_true (by omega)
      have c3c : decide (k < s.size) = true := decide_eq_true c3
      have HN := Aside0.mk (show (spec_Quote.qi (s.data.toList.take k)).length + 3 ≤ 140737488355328 by
        have h1 := ql_len (s.data.toList.take k)
        have h2 : (s.data.toList.take k).length ≤ k := List.length_take_le _ _
        have h3 := HL.out
        simp only [spec_Quote.qi, List.length_map]; omega)
      have HS := Aside0.mk (ql_snoc s k c3)
      have hk : k ≤ 65536 := by have := HL.out; omega
      have HP := Aside0.mk (spec_Quote.plainT s[k])
      have hb8 : s[k].toNat < 256 := UInt8.toNat_lt _
      cases c4 : qp s[k] with
      | true =>
        have HQ := Aside0.mk (show qb s[k] = [s[k]] from if_pos c4)
        rw [c4] at HP
        clear c4
        go_wp2_with (first
          | (go_at_call 38; refine (spec_l14Plain.calls _ true _ HP.out).mono ?_; rintro e w1 ⟨rfl, hd⟩; obtain ⟨nq, rfl⟩ := hd.out; have HB0 := Aside0.mk (pw_below_drewN HB.out nq); have HO0 := Aside0.mk (pw_own_drewN HO.out nq); clear hd HP HO HB)
          | (at_builtin; refine print_append_num (w0 := w) w.heap.size rfl (.tmp 19) (.tmp 23) 22 5 .u8 1 rfl Try.underlying22 HF.out (by decide) _ (spec_Quote.qi (s.data.toList.take k)) (s[k].toNat : Int) rfl rfl HO0.out HB0.out HB0.out.size (by have := HN.out; omega) ?_; intro v1 w2 ho hb hg ht; have HO1 := Aside0.mk ho; have HB1 := Aside0.mk hb; clear HO0 HB0 ho hb hg ht)
          | fail)
        go_roundw
        case rel => exact ⟨k + 1, by go_num, ⟨by omega⟩, ⟨by unfold spec_Quote.qi; rw [HS.out, HQ.out]; simpa [spec_Quote.qi] using HO1.out⟩, HB1⟩
        case measure => simp [intOf]; omega
      | false =>
        have HQ := Aside0.mk (show qb s[k] = [37, hx (s[k].toNat / 16), hx (s[k].toNat % 16)] from if_neg (by rw [c4]; simp))
        rw [c4] at HP
        clear c4
        have HX1 := Aside0.mk (fun w => spec_Quote.hex ((s[k].toNat : Int) / 16) (by omega) (by omega) w)
        have HX2 := Aside0.mk (fun w => spec_Quote.hex ((s[k].toNat : Int) % 16) (by omega) (by omega) w)
        go_wp2_with (first
          | (go_at_call 38; refine (spec_l14Plain.calls _ false _ HP.out).mono ?_; rintro e w1 ⟨rfl, hd⟩; obtain ⟨nq, rfl⟩ := hd.out; have HB0 := Aside0.mk (pw_below_drewN HB.out nq); have HO0 := Aside0.mk (pw_own_drewN HO.out nq); clear hd HP HO HB)
          | fail)
        have hw1 : IntKind.u8.wrap ((s[k].toNat : Int) / 16) = (s[k].toNat : Int) / 16 := by rw [IntKind.wrap_u8]; omega
        have hw2 : IntKind.u8.wrap ((s[k].toNat : Int) % 16) = (s[k].toNat : Int) % 16 := by rw [IntKind.wrap_u8]; omega
        refine wp_region_still_tail 13 (by kernel_rfl) (by kernel_rfl) ?_
        simp only [List.take_succ_cons, List.take_zero, List.drop_succ_cons, List.drop_zero]
        repeat still_step
        still_call (HX1.out _)
        repeat still_step
        still_call (HX2.out _)
        repeat still_step
        refine wpStill_nil ?_
        change wpList _ _ _ _ _ (wr.drewN nq).drew
        have HO1 := Aside0.mk (own_drew HO0.out)
        have HB1 := Aside0.mk (below_drew HB0.out)
        generalize (wr.drewN nq).drew = w3 at HO1 HB1 ⊢
        clear HO0 HB0
        go_wp2_with (first
          | (at_builtin; refine print_append_str (w0 := w) w.heap.size rfl (.tmp 25) (.tmp 37) 22 9 5 rfl Try.underlying22 Try.underlying9 HF.out _ (spec_Quote.qi (s.data.toList.take k)) _ rfl rfl HO1.out HB1.out HB1.out.size ?aL ?_; (case aL => have := HN.out; simp only [spec_Quote.three]; omega); intro v4 w4 ho hb hg; have HO2 := Aside0.mk ho; have HB2 := Aside0.mk hb; clear HO1 HB1 ho hb hg)
          | fail)
        go_roundw
        case rel => exact ⟨k + 1, by go_num, ⟨by omega⟩, ⟨by unfold spec_Quote.qi; rw [HS.out, HQ.out]; have h2 := HO2.out; rw [spec_Quote.three_bytes, spec_Quote.qi] at h2; rw [List.map_append]; exact h2⟩, HB2⟩
        case measure => simp [intOf]; omega
end


/-! ### impl_plainByte: function 40 -/
def impl_plainByte.f (a0 : Int) : Option (Bool) := if a0 ≥ 33 then (some (decide (a0 ≤ 126))) else (some false)
set_option maxHeartbeats 8000000 in
set_option maxRecDepth 100000 in
theorem impl_plainByte.calls (a0 : Int) (r : Bool) (w : World) (h : impl_plainByte.f a0 = some r) :
    Calls Try.prog 40 #[.int .u8 a0] w fun e w' => e = .returned (.bool r) ∧ Drawn0 w w' := by
  have H : (if a0 ≥ 33 then (some (decide (a0 ≤ 126))) else (some false)) = some r := h
  clear h
  by_cases c2 : a0 ≥ 33
  · rw [if_pos c2] at H
    have c2b0 : decide (33 ≤ a0) = true := decide_eq_true c2
    clear c2
    obtain rfl := Option.some.inj H
    go_enter Try.func40, Try.ntmps40
    go_wp2
    go_ret
    exact ⟨by first | rfl | (simp; done) | (simp [*]; done), by repeat (first | exact Drawn0.refl _ | apply Drawn0.step)⟩
  · rw [if_neg c2] at H
    have c2b0 : decide (33 ≤ a0) = false := decide_eq_false c2
    clear c2
    obtain rfl := Option.some.inj H
    go_enter Try.func40, Try.ntmps40
    go_wp2
    go_ret
    exact ⟨by first | rfl | (simp; done) | (simp [*]; done), by repeat (first | exact Drawn0.refl _ | apply Drawn0.step)⟩

/-! ### impl_Quote: function 25 -/
section
open Go.Proofs.Ytikandlenlhdkaa.Qt
/-! The builder's methods, walked at this program: copyCheck and WriteByte; String by the shelf's contract. -/
theorem bld_used (b : Nat) (w : World) (h0 : w.cell? ⟨b, 0, none⟩ = some (.pointer (some ⟨b, 0, none⟩))) :
    Calls Try.prog 52 #[.pointer (some ⟨b, 0, none⟩)] w fun e w' => e = .returned (.tuple #[]) ∧ w' = w := by
  have hs : (Try.prog.info? 59).map (·.size) = some 2 := by kernel_rfl
  obtain ⟨j, hj, _⟩ := Option.map_eq_some_iff.1 hs
  clear hs
  have hq := Lib.run_neq_ptr_same (P := Try.prog) w ⟨b, 0, none⟩ Try.underlying57 hj
  go_enter Try.func52, Try.ntmps52
  go_wp2
  go_end0
  exact ⟨rfl, rfl⟩
theorem bld_fresh (b : Nat) (w : World) (h0 : w.cell? ⟨b, 0, none⟩ = some (.pointer none)) (hsh : w.shape? b = some (59, 2)) (hfz : w.frozen? ⟨b, 0, none⟩ = false) :
    Calls Try.prog 52 #[.pointer (some ⟨b, 0, none⟩)] w fun e w' => e = .returned (.tuple #[]) ∧ w' = w.setCell ⟨b, 0, none⟩ (.pointer (some ⟨b, 0, none⟩)) := by
  have hs : (Try.prog.info? 59).map (·.size) = some 2 := by kernel_rfl
  obtain ⟨j, hj, hjs⟩ := Option.map_eq_some_iff.1 hs
  clear hs
  have c1 := Lib.run_to_unsafe w ⟨b, 0, none⟩ Try.underlying57 Try.underlying77 hj (by rw [hjs]; decide) hsh (Nat.zero_lt_succ 1)
  have c2 := Lib.run_from_unsafe w ⟨b, 0, none⟩ Try.underlying77 Try.underlying57 hj hsh (by kernel_rfl)
  have hx := @run_callFunc_extern Try.prog 55 _ Extern.AbiNoEscape.same Try.func55 (by kernel_rfl) (by kernel_rfl) (by kernel_rfl) (by kernel_rfl)
  have hn := fun x => Lib.run_noEscape (P := Try.prog) w x
  go_enter Try.func52, Try.ntmps52
  go_wp2
  go_end0
  exact ⟨rfl, rfl⟩
theorem bld_check (B b : Nat) (bs : List Value) (w : World) (h : Lib.IsBuilder 59 5 B b bs w) :
    Calls Try.prog 52 #[.pointer (some ⟨b, 0, none⟩)] w fun e w' => e = .returned (.tuple #[]) ∧ (Lib.BuilderAt 59 5 B b (.pointer (some ⟨b, 0, none⟩)) bs w' ∧ Below B w w') := by
  rcases h with h | h
  · exact (bld_fresh b w h.cell0 h.shape h.frozen0).mono fun e w' ⟨he, hw⟩ => by subst hw; exact ⟨he, h.used _, (Below.refl B w).setCell (p := ⟨b, 0, none⟩) h.1 _⟩
  · exact (bld_used b w h.cell0).mono fun e w' ⟨he, hw⟩ => by subst hw; exact ⟨he, h, Below.refl B _⟩
set_option maxHeartbeats 4000000 in
set_option maxRecDepth 100000 in
theorem bld_byte (B b : Nat) (bs : List Value) (c : Int) (w : World) (h : Lib.IsBuilder 59 5 B b bs w) (hlen : bs.length + 1 ≤ 140737488355328) (hBw : B ≤ w.heap.size) :
    Calls Try.prog 41 #[.pointer (some ⟨b, 0, none⟩), .int .u8 c] w fun e w' => e = .returned .nilIface ∧ (Lib.IsBuilder 59 5 B b (bs ++ [.int .u8 c]) w' ∧ Below B w w') := by
  have hinf : (Try.prog.info? 5).map (fun i => (i.zero, i.size, i.bytes)) = some (some (.int .u8 0), 1, 1) := by kernel_rfl
  obtain ⟨i0, hi, hz0, hz1, hz2⟩ := info_parts hinf
  go_enter Try.func41, Try.ntmps41
  go_wp2_with (go_at_call 52; refine (bld_check B b bs _ h).mono ?_)
  rintro e w1 ⟨rfl, h1, hb1⟩
  obtain ⟨hB, v, hbk, hown, hne⟩ := h1
  have c0 : w1.cell? ⟨b, 0, none⟩ = some (.pointer (some ⟨b, 0, none⟩)) := by rw [Lib.cell_of_heap hbk]; rfl
  have c1 : w1.cell? ⟨b, 1, none⟩ = some v := by rw [Lib.cell_of_heap hbk]; rfl
  go_wp2_with (at_builtin; refine wpList_append_own _ rfl _ _ 22 rfl B 5 i0 (.int .u8 0) 1 1 Try.underlying22 hi hz0 hz1 hz2 rfl (by decide) _ _ _ rfl (hown.alloc _) ⟨w1.heap.size, 0, none⟩ 1 1 [.int .u8 c] rfl rfl ?c1 ?c2 ?c3 ?c4 ?c5 ?_)
  case c1 =>
    intro j u hj
    match j, hj with
    | 0, hj => simp at hj; subst hj; simp [Addr.add]
  case c2 => intro u hu; simp at hu; subst hu; rfl
  case c3 => unfold maxLen; omega
  case c4 => omega
  case c5 => have := hb1.size; simp; omega
  intro v' w2 hown' hgrow _
  have hlt := blk_lt hbk
  have hb2 : w2.heap[b]? = some (.cells #[.pointer (some ⟨b, 0, none⟩), v] 59 (0, 0)) := by
    rw [hgrow.block b (by simp; omega) (fun e => hne e.symm), Lib.alloc_old w1 _ b hlt]
    exact hbk
  have d0 : w2.cell? ⟨b, 0, none⟩ = some (.pointer (some ⟨b, 0, none⟩)) := by rw [Lib.cell_of_heap hb2]; rfl
  have d1 : w2.cell? ⟨b, 1, none⟩ = some v := by rw [Lib.cell_of_heap hb2]; rfl
  have f1 : w2.frozen? ⟨b, 1, none⟩ = false := Lib.frozen_of_heap hb2 1
  obtain ⟨g, cap, rfl⟩ : ∃ g cap, v' = .slice (some ⟨g, 0, none⟩) (bs.length + 1) cap := by
    rcases hown'.2 with ⟨_, h0⟩ | ⟨g, cap, cur, hv, _⟩
    · omega
    · exact ⟨g, cap, hv⟩
  go_wp2
  go_ret
  refine ⟨rfl, .inr ?_, ?_⟩
  · exact Lib.BuilderAt.put (T := 59) (e := 5) hB hb2 (bs' := bs ++ [.int .u8 c]) (by simpa using hown') (by decide)
  · exact ((hb1.alloc (by have := hb1.size; omega) _).grown hgrow (by have := hb1.size; simp; omega) (fun k hk => (hown.lt k hk).1)).setCell (p := ⟨b, 1, none⟩) hB _
/-- impl.Quote. -/
def impl_Quote.f (s : ByteArray) : Option ByteArray := qF s
theorem impl_Quote.plain (c : UInt8) (h : qp c = true) : impl_plainByte.f (c.toNat : Int) = some true ∧ ((c.toNat : Int) != 37) = true := by
  unfold qp at h
  simp only [Bool.and_eq_true, decide_eq_true_eq] at h
  exact ⟨by unfold impl_plainByte.f; rw [if_pos (by omega), decide_eq_true (by omega)], bne_iff_ne.mpr (by omega)⟩
theorem impl_Quote.other (c : UInt8) (h : ¬ qp c = true) : (impl_plainByte.f (c.toNat : Int) = some true ∧ ((c.toNat : Int) != 37) = false) ∨ impl_plainByte.f (c.toNat : Int) = some false := by
  unfold qp at h
  simp only [Bool.and_eq_true, decide_eq_true_eq] at h
  unfold impl_plainByte.f
  by_cases h1 : (c.toNat : Int) ≥ 33
  · rw [if_pos h1]
    by_cases h2 : (c.toNat : Int) ≤ 126
    · rw [decide_eq_true h2]
      exact .inl ⟨rfl, bne_eq_false_iff_eq.mpr (by omega)⟩
    · rw [decide_eq_false h2]; exact .inr rfl
  · rw [if_neg h1]; exact .inr rfl
set_option maxHeartbeats 8000000 in
set_option maxRecDepth 100000 in
theorem impl_Quote.calls (s : ByteArray) (r : ByteArray) (w : World) (h : impl_Quote.f s = some r) :
    Calls Try.prog 25 #[.string s] w fun e w' => e = .returned (.string r) ∧ Below w.heap.size w w' := by
  unfold impl_Quote.f qF at h
  by_cases c1 : s.size > 65536
  · rw [if_pos c1] at h
    obtain rfl := Option.some.inj h
    have c1b : decide (65536 < (s.size : Int)) = true := decide_eq_true (by omega)
    have c1c : decide (65536 < s.size) = true := decide_eq_true (by omega)
    clear h c1
    go_enter Try.func25, Try.ntmps25
    go_wp2
    go_ret
    exact ⟨rfl, Below.refl _ _⟩
  rw [if_neg c1] at h
  have c1b : decide (65536 < (s.size : Int)) = false := decide_eq_false (by omega)
  have c1c : decide (65536 < s.size) = false := decide_eq_false (by omega)
  have HL := Aside0.mk (show s.size ≤ 65536 by omega)
  clear c1
  by_cases c2 : s.size = 0
  · rw [if_pos c2] at h
    obtain rfl := Option.some.inj h
    obtain rfl : s = ⟨#[]⟩ := by
      rcases s with ⟨a⟩
      have : a = #[] := Array.eq_empty_of_size_eq_zero c2
      rw [this]
    clear h c2 c1b c1c
    go_enter Try.func25, Try.ntmps25
    go_wp2
    go_ret
    exact ⟨rfl, Below.refl _ _⟩
  rw [if_neg c2] at h
  obtain rfl := Option.some.inj h
  have c2b : s.toList.isEmpty = false := by
    rw [Lib.toList_data]
    cases e : s.data.toList with
    | nil => exact absurd (by rw [← data_length, e]; rfl) c2
    | cons x l => rfl
  clear h c2
  go_enter Try.func25, Try.ntmps25
  go_wp2
  go_loopw [13] (fun v13 w' => ∃ k : Nat, v13 = .int .i64 (k : Int) ∧ Aside0 (k ≤ s.size) ∧ Aside0 (Lib.IsBuilder 59 5 w.heap.size w.heap.size (Lib.byteCells (ql (s.data.toList.take k))) w') ∧ Aside0 (Below w.heap.size w w')) (fun v13 _ => s.size - (intOf v13).toNat)
  case atStart =>
    refine ⟨0, rfl, ⟨Nat.zero_le _⟩, ⟨.inl ⟨Nat.le_refl _, .slice none 0 0, ?_, own_nil _ _ _ _, by simp [Value.ownBlock]⟩⟩, ⟨below_alloc (Below.refl _ _) _⟩⟩
    exact Array.getElem?_push_size
  case round =>
    obtain ⟨k, rfl, HK, HI, HB⟩ := hrel
    by_cases c3 : k < s.size
    rotate_left
    · have c3b : decide ((k : Int) < (s.size : Int)) = false := decide_eq_false (by omega)
      have c3c : decide (k < s.size) = false := decide_eq_false c3
      have hI := HI.out
      rw [show k = s.size by have := HK.out; omega, take_all] at hI
      have HI' := Aside0.mk hI
      clear hI HI c3
      go_wp2_with (go_at_call 42; refine (Try.Builder_String_any w.heap.size w.heap.size _ _ HI'.out HB.out.size).mono ?_; rintro e w2 ⟨rfl, hb⟩; have HB2 := Aside0.mk (Below.trans HB.out hb); clear HB hb)
      go_ret
      exact ⟨rfl, HB2.out⟩
    · have c3b : decide ((k : Int) < (s.size : Int)) = true := decide_eq_true (by omega)
      have c3c : decide (k < s.size) = true := decide_eq_true c3
      have HN := Aside0.mk (show (Lib.byteCells (ql (s.data.toList.take k))).length + 3 ≤ 140737488355328 by
        have h1 := ql_len (s.data.toList.take k)
        have h2 : (s.data.toList.take k).length ≤ k := List.length_take_le _ _
        have h3 := HL.out
        simp only [Lib.byteCells, List.length_map]; omega)
      have HS := Aside0.mk (ql_snoc s k c3)
      have hk : k ≤ 65536 := by have := HL.out; omega
      by_cases c4 : qp s[k] = true
      · have hp := impl_Quote.plain _ c4
        have HP := Aside0.mk hp.1
        have c5 := hp.2
        have HQ := Aside0.mk (show qb s[k] = [s[k]] from if_pos c4)
        clear hp c4
        go_wp2_with (first
          | (go_at_call 40; refine (impl_plainByte.calls _ true _ HP.out).mono ?_; rintro e w1 ⟨rfl, hd⟩; obtain ⟨nq, rfl⟩ := hd.out; have HB0 := Aside0.mk (pw_below_drewN HB.out nq); have HI0 := Aside0.mk (show Lib.IsBuilder 59 5 w.heap.size w.heap.size (Lib.byteCells (ql (s.data.toList.take k))) (wr.drewN nq) from HI.out); clear hd HP HI HB)
          | (go_at_call 41; refine (bld_byte w.heap.size w.heap.size _ _ _ HI0.out (by have := HN.out; omega) HB0.out.size).mono ?_; rintro e w2 ⟨rfl, hi, hb⟩; have HI1 := Aside0.mk hi; have HB1 := Aside0.mk (Below.trans HB0.out hb); clear HI0 HB0 hi hb)
          | fail)
        go_roundw
        case rel => exact ⟨k + 1, by go_num, ⟨by omega⟩, ⟨by rw [HS.out, HQ.out]; simpa [Lib.byteCells] using HI1.out⟩, HB1⟩
        case measure => simp [intOf]; omega
      · have HQ := Aside0.mk (show qb s[k] = [37, hx (s[k].toNat / 16), hx (s[k].toNat % 16)] from if_neg c4)
        have hc := impl_Quote.other _ c4
        clear c4
        have hb8 : s[k].toNat < 256 := UInt8.toNat_lt _
        rcases hc with ⟨h1, c5⟩ | h1
        · have HP := Aside0.mk h1
          clear h1
          go_wp2_with (first
            | (go_at_call 40; refine (impl_plainByte.calls _ true _ HP.out).mono ?_; rintro e w1 ⟨rfl, hd⟩; obtain ⟨nq, rfl⟩ := hd.out; have HB0 := Aside0.mk (pw_below_drewN HB.out nq); have HI0 := Aside0.mk (show Lib.IsBuilder 59 5 w.heap.size w.heap.size (Lib.byteCells (ql (s.data.toList.take k))) (wr.drewN nq) from HI.out); clear hd HP HI HB)
            | (go_at_call 41; refine (bld_byte w.heap.size w.heap.size _ 37 _ HI0.out (by have := HN.out; omega) HB0.out.size).mono ?_; rintro e w2 ⟨rfl, hi, hb⟩; have HI1 := Aside0.mk hi; have HB1 := Aside0.mk (Below.trans HB0.out hb); clear HI0 HB0 hi hb)
            | (go_at_call 41; refine (bld_byte w.heap.size w.heap.size _ _ _ HI1.out (by have := HN.out; simp only [List.length_append, List.length_singleton]; omega) HB1.out.size).mono ?_; rintro e w3 ⟨rfl, hi, hb⟩; have HI2 := Aside0.mk hi; have HB2 := Aside0.mk (Below.trans HB1.out hb); clear HI1 HB1 hi hb)
            | (go_at_call 41; refine (bld_byte w.heap.size w.heap.size _ _ _ HI2.out (by have := HN.out; simp only [List.length_append, List.length_singleton]; omega) HB2.out.size).mono ?_; rintro e w4 ⟨rfl, hi, hb⟩; have HI3 := Aside0.mk hi; have HB3 := Aside0.mk (Below.trans HB2.out hb); clear HI2 HB2 hi hb)
            | fail)
          have h3 := HI3.out
          rw [hex_at _ (by omega), hex_at _ (by omega)] at h3
          go_roundw
          case rel => exact ⟨k + 1, by go_num, ⟨by omega⟩, ⟨by rw [HS.out, HQ.out]; simpa [Lib.byteCells] using h3⟩, HB3⟩
          case measure => simp [intOf]; omega
        · have HP := Aside0.mk h1
          clear h1
          go_wp2_with (first
            | (go_at_call 40; refine (impl_plainByte.calls _ false _ HP.out).mono ?_; rintro e w1 ⟨rfl, hd⟩; obtain ⟨nq, rfl⟩ := hd.out; have HB0 := Aside0.mk (pw_below_drewN HB.out nq); have HI0 := Aside0.mk (show Lib.IsBuilder 59 5 w.heap.size w.heap.size (Lib.byteCells (ql (s.data.toList.take k))) (wr.drewN nq) from HI.out); clear hd HP HI HB)
            | (go_at_call 41; refine (bld_byte w.heap.size w.heap.size _ 37 _ HI0.out (by have := HN.out; omega) HB0.out.size).mono ?_; rintro e w2 ⟨rfl, hi, hb⟩; have HI1 := Aside0.mk hi; have HB1 := Aside0.mk (Below.trans HB0.out hb); clear HI0 HB0 hi hb)
            | (go_at_call 41; refine (bld_byte w.heap.size w.heap.size _ _ _ HI1.out (by have := HN.out; simp only [List.length_append, List.length_singleton]; omega) HB1.out.size).mono ?_; rintro e w3 ⟨rfl, hi, hb⟩; have HI2 := Aside0.mk hi; have HB2 := Aside0.mk (Below.trans HB1.out hb); clear HI1 HB1 hi hb)
            | (go_at_call 41; refine (bld_byte w.heap.size w.heap.size _ _ _ HI2.out (by have := HN.out; simp only [List.length_append, List.length_singleton]; omega) HB2.out.size).mono ?_; rintro e w4 ⟨rfl, hi, hb⟩; have HI3 := Aside0.mk hi; have HB3 := Aside0.mk (Below.trans HB2.out hb); clear HI2 HB2 hi hb)
            | fail)
          have h3 := HI3.out
          rw [hex_at _ (by omega), hex_at _ (by omega)] at h3
          go_roundw
          case rel => exact ⟨k + 1, by go_num, ⟨by omega⟩, ⟨by rw [HS.out, HQ.out]; simpa [Lib.byteCells] using h3⟩, HB3⟩
          case measure => simp [intOf]; omega
end


/-! ### laws_FnExactQuote: function 5 -/
def laws_FnExactQuote.f (a0 : ByteArray) : Option (Bool) := if (a0.size : Int) > 1048576 then (some true) else ((spec_Quote.f a0).bind fun t101 => ((impl_Quote.f a0).bind fun t102 => (if t102.toList = t101.toList then (some true) else (some false))))
set_option maxHeartbeats 8000000 in
set_option maxRecDepth 100000 in
theorem laws_FnExactQuote.calls (a0 : ByteArray) (r : Bool) (w : World) (h : laws_FnExactQuote.f a0 = some r) (hrt : Aside0 (r = true)) :
    Calls Try.prog 5 #[.string a0] w fun e w' => e = .returned (.bool r) ∧ Below w.heap.size w w' := by
  have HB := Aside0.mk (Below.refl w.heap.size w)
  have H : (if (a0.size : Int) > 1048576 then (some true) else ((spec_Quote.f a0).bind fun t101 => ((impl_Quote.f a0).bind fun t102 => (if t102.toList = t101.toList then (some true) else (some false))))) = some r := h
  clear h
  by_cases c2 : (a0.size : Int) > 1048576
  · rw [if_pos c2] at H
    have c2b0 : decide (1048576 < (a0.size : Int)) = true := decide_eq_true c2
    have c2b1 : decide (1048576 < a0.size) = true := decide_eq_true (by omega)
    clear c2
    obtain rfl := Option.some.inj H
    go_enter Try.func5, Try.ntmps5
    go_wp2
    go_ret
    exact ⟨by first | rfl | (simp [errW_none, errW_some] <;> rfl) | (simp [*, errW_none, errW_some] <;> rfl), by repeat (first | (with_reducible first | exact HB.out | apply below_alloc | apply pw_below_drewN | apply below_drew1) | exact HB.out)⟩
  · rw [if_neg c2] at H
    have c2b0 : decide (1048576 < (a0.size : Int)) = false := decide_eq_false c2
    have c2b1 : decide (1048576 < a0.size) = false := decide_eq_false (by omega)
    clear c2
    replace H := Option.bind_eq_some_iff.mp H
    obtain ⟨t101, A30, H⟩ := H
    replace H : ((impl_Quote.f a0).bind fun t102 => (if t102.toList = t101.toList then (some true) else (some false))) = some r := H
    have A3 := Aside0.mk A30
    clear A30
    replace H := Option.bind_eq_some_iff.mp H
    obtain ⟨t102, A40, H⟩ := H
    replace H : (if t102.toList = t101.toList then (some true) else (some false)) = some r := H
    have A4 := Aside0.mk A40
    clear A40
    by_cases c5 : t102.toList = t101.toList
    · rw [if_pos c5] at H
      have c5b0 : (t102.toList == t101.toList) = true := beq_iff_eq.mpr c5
      have c5b1 : (t102.toList != t101.toList) = false := bne_eq_false_iff_eq.mpr c5
      clear c5
      obtain rfl := Option.some.inj H
      go_enter Try.func5, Try.ntmps5
      go_wp2_with (first | ((with_reducible refine gate_callee (f := 24) rfl ?_); refine goesL_ (some 9) rfl rfl Try.func24 (by kernel_rfl) rfl #[.string a0] rfl (by (try simp only [List.map_toArray, List.map_cons, List.map_nil]); first | done | rfl | (simp only [List.length_drop, List.length_take]; rfl)) ?_; (with_reducible refine (spec_Quote.calls a0 t101 _ A3.out).mono ?_); rintro e w6 ⟨rfl, hb⟩; refine ⟨_, rfl, ?_⟩; have n0_ := Aside0.mk (below_step (by repeat (first | (with_reducible first | exact HB.out | apply below_alloc | apply pw_below_drewN | apply below_drew1) | exact HB.out)) hb); clear HB; have HB := n0_; clear n0_; (try clear hb); (try clear hb2); (try clear hk); (try clear hi)) | ((with_reducible refine gate_callee (f := 25) rfl ?_); refine goesL_ (some 11) rfl rfl Try.func25 (by kernel_rfl) rfl #[.string a0] rfl (by (try simp only [List.map_toArray, List.map_cons, List.map_nil]); first | done | rfl | (simp only [List.length_drop, List.length_take]; rfl)) ?_; (with_reducible refine (impl_Quote.calls a0 t102 _ A4.out).mono ?_); rintro e w7 ⟨rfl, hb⟩; refine ⟨_, rfl, ?_⟩; have n0_ := Aside0.mk (below_step (by repeat (first | (with_reducible first | exact HB.out | apply below_alloc | apply pw_below_drewN | apply below_drew1) | exact HB.out)) hb); clear HB; have HB := n0_; clear n0_; (try clear hb); (try clear hb2); (try clear hk); (try clear hi)))
      go_ret
      exact ⟨by first | rfl | (simp [errW_none, errW_some] <;> rfl) | (simp [*, errW_none, errW_some] <;> rfl), by repeat (first | (with_reducible first | exact HB.out | apply below_alloc | apply pw_below_drewN | apply below_drew1) | exact HB.out)⟩
    · rw [if_neg c5] at H
      have c5b0 : (t102.toList == t101.toList) = false := beq_eq_false_iff_ne.mpr c5
      have c5b1 : (t102.toList != t101.toList) = true := bne_iff_ne.mpr c5
      exact absurd ((Option.some.inj H).trans hrt.out) (by simp)

/-- THE ONE PURE STATEMENT of laws_FnExactQuote: yours. -/
def laws_FnExactQuote.Pure : Prop := ∀ (a0 : ByteArray), a0.size ≤ 140737488351232 → laws_FnExactQuote.f a0 = some true
theorem laws_FnExactQuote.walk (P : laws_FnExactQuote.Pure) (a0 : ByteArray) (w : World) (w0 : a0.size ≤ 140737488351232) :
    Calls Try.prog 5 #[.string a0] w fun e w' => e = .returned (.bool true) ∧ Below w.heap.size w w' := by
  have h := P a0 w0
  refine (laws_FnExactQuote.calls a0 true w h ⟨rfl⟩).mono ?_
  rintro e w' ⟨rfl, hd⟩
  exact ⟨rfl, hd⟩

end Go.Proofs.Ytikandlenlhdkaa.PFnExactQuote
