-- written by a program of this session (wip/src/print2.py)
import Derived.Test.YtdhjhadcadcceaaPFnDiskx0
import Derived.Test.YtdhjhadcadcceaaPFnDiskx1
import Derived.Test.YtdhjhadcadcceaaPFnDiskx2
import Derived.Test.YtdhjhadcadcceaaPFnDiskx5
import Derived.Test.YtdhjhadcadcceaaPFnDiskx6
import Derived.Test.YtdhjhadcadcceaaPFnDiskx8
import Derived.Test.YtdhjhadcadcceaaPFnDiskx11
import Derived.Test.YtdhjhadcadcceaaPFnDiskx12
namespace Go.Proofs.Ytdhjhadcadcceaa.PFnDisk
open Go.RowKit Go.Proofs.YtdhjhadcadcceaaW.PrintWords Go.Proofs.YtdhjhadcadcceaaW.PrintLast Go.Proofs.YtdhjhadcadcceaaW.PrintMore
attribute [local go_sem] max2_int min2_int max_two min_two max_three min_three max_four min_four   -- for this text's walks alone
set_option linter.unusedVariables false
set_option linter.unusedSimpArgs false

/-! ### laws_FnDisk: function 11 -/
section
open Go.Proofs.Ytdhjhadcadcceaa.Hld
namespace FD
section
variable {α : Type} {d : Kd α} {lo hi e b g n0 : Nat} {A A' : Option Addr} {xs : List α} {W W1 W2 w : World} {ok ok' : Nat → Prop} {v u : Value} {p q : World → Prop} {cs c0 : Array Value}
def Vd (d : Kd α) (lo hi : Nat) (A : Option Addr) (c : Nat) (xs : List α) (W : World) : Prop := Kd.V d 0 W 0 (fun k => lo ≤ k ∧ k < hi) (.slice A xs.length c) xs
def Bx (g : Nat) (cs : Array Value) (W : World) : Prop := W.heap[g]? = some (.cells cs 29 (0, 0))
structure Ds (lo hi : Nat) (A : Option Addr) (c : Nat) (A' : Option Addr) (c' : Nat) (xs : List Int) (ys : List S62) (W : World) : Prop where
  a : Vd (Kd.int .u8) lo hi A c xs W
  b : Vd k62 lo hi A' c' ys W
def Hd (p : World → Prop) (W : World) : Prop := Held 0 W.heap.size p W
theorem Hd.now (h : Hd p W) : p W := Held.now h
theorem Vd.c {c : Nat} (h : Vd d lo hi A c xs W) : d.C W A xs.length xs := (Kd.V_reads' h).2.2
theorem Vd.l {c : Nat} (h : Vd d lo hi A c xs W) : xs.length ≤ c := (Kd.V_reads' h).2.1
theorem Vd.held {c : Nat} (h : Vd d lo hi A c xs W) (hh : hi ≤ W.heap.size) : Held lo hi (Vd d lo hi A c xs) W := ⟨hh, h, fun _ _ _ hs hp => Kd.V_step hp (fun k hk _ => hs k hk.1 hk.2)⟩
theorem wide (h : Held lo hi p W) : Held 0 W.heap.size p W := ⟨Nat.le_refl _, h.now, fun V V' hV hs hp => h.stay V V' (Nat.le_trans h.top hV) (fun k _ hk => hs k (Nat.zero_le _) (Nat.lt_of_lt_of_le hk h.top)) hp⟩
theorem pair (h : Held 0 n0 p W) (h' : Held 0 n0 q W) : Held 0 n0 (fun W => p W ∧ q W) W := ⟨h.top, ⟨h.now, h'.now⟩, fun V V' hV hs hp => ⟨h.stay V V' hV hs hp.1, h'.stay V V' hV hs hp.2⟩⟩
theorem Hd.start : Hd (fun _ => True) W := ⟨Nat.le_refl _, trivial, fun _ _ _ _ _ => trivial⟩
theorem Hd.below (h : Hd p W) (hb : Below W.heap.size W W1) : Hd p W1 := wide (Held.below h hb)
theorem Hd.add (h : Hd p W) (hb : Below W.heap.size W W1) (hq : Held lo hi q W1) : Hd (fun W => q W ∧ p W) W1 := pair (wide hq) (h.below hb)
theorem Hd.put (h : Hd p W) (ha : g = W.heap.size ∧ W1.heap[g]? = some (.cells c0 29 (0, 0)) ∧ Below W.heap.size W W1) (hx : W2.heap[g]? = some (.cells cs 29 (0, 0))) (hg : W1.grownBy W2 (some g)) : Hd (fun W => Bx g cs W ∧ p W) W2 ∧ Below W.heap.size W W2 := by
  have hb2 : Below W.heap.size W W2 := Box.below_grown ha.2.2 hg (Nat.le_of_eq ha.1.symm)
  exact ⟨h.add hb2 (show Held g (g + 1) (Bx g cs) W2 from Held.blk hx), hb2⟩
theorem Hd.drew (h : Hd p W) : Hd p W.drew := h.below (below_drew1 (Below.refl _ _))
theorem Hd.name (h : Hd p W) : ∃ q : World → Prop, (∀ V, q V → p V) ∧ Hd q W := ⟨p, fun _ h => h, h⟩
theorem Hd.asm (hF : Held 0 n0 p W) (hT : Held lo hi q W) (hX : W.heap[g]? = some (.cells cs 29 (0, 0))) : Hd (fun W => Bx g cs W ∧ q W ∧ p W) W := pair (wide (show Held g (g + 1) (Bx g cs) W from Held.blk hX)) (pair (wide hT) (wide hF))
theorem Bx.z {x y : Value} (h : Bx g #[x, y] W) : W.cell? ⟨g, 0, none⟩ = some x ∧ W.cell? ⟨g, 1, none⟩ = some y := ⟨(blk_cell h 0).trans rfl, (blk_cell h 1).trans rfl⟩
theorem ofV (h : Kd.V d e W b ok v xs) (hok : ∀ k, ok k → lo ≤ k) : ∃ A c, v = .slice A xs.length c ∧ Held lo W.heap.size (Vd d lo W.heap.size A c xs) W := by
  obtain ⟨A, c, rfl⟩ := Kd.V_slice h
  exact ⟨A, c, rfl, Vd.held (Kd.V_mono (Kd.V_bound h) (fun k hk => ⟨hok k hk.1, hk.2⟩)) (Nat.le_refl _)⟩
theorem ofR (h : d.R e W b ok v xs) : ∃ A c, v = .slice A xs.length c ∧ Held b W.heap.size (Vd d b W.heap.size A c xs) W := ofV (Kd.R_V (base' := 0) (Kd.R_bound h)) (fun _ h => h.2.1)
theorem ofN (h : Kd.N d e W b ok v xs) (hok : ∀ k, ok k → b ≤ k) : ∃ A c, v = .slice A xs.length c ∧ Held b W.heap.size (Vd d b W.heap.size A c xs) W := ofV (Kd.N_V (base' := 0) h) hok
theorem ofS (h : Kd.S d e W b ok v xs) : ∃ A c, v = .slice A xs.length c ∧ Held b W.heap.size (Vd d b W.heap.size A c xs) W := ofV (Kd.S_V (base' := 0) (Kd.S_bound h)) (fun _ h => h.2.1)
theorem dsOf {A A' : Option Addr} {c c' : Nat} {xs : List Int} {ys : List S62} (h : Held lo hi (Vd (Kd.int .u8) lo hi A c xs) W) (h' : Held lo hi (Vd k62 lo hi A' c' ys) W) : Held lo hi (Ds lo hi A c A' c' xs ys) W :=
  ⟨h.top, ⟨h.now, h'.now⟩, fun V V' hV hs hp => ⟨h.stay V V' hV hs hp.a, h'.stay V V' hV hs hp.b⟩⟩
theorem two {xs : List Int} {ys : List S62} (h0 : (Kd.int .u8).R 5 W b ok v xs) (h1 : Kd.S k62 62 W b ok' u ys) : ∃ A c A' c', v = .slice A xs.length c ∧ u = .slice A' ys.length c' ∧ Held b W.heap.size (Ds b W.heap.size A c A' c' xs ys) W := by
  obtain ⟨A, c, e, h⟩ := ofR h0
  obtain ⟨A', c', e', h'⟩ := ofS h1
  exact ⟨A, c, A', c', e, e', dsOf h h'⟩
theorem twoN {xs : List Int} {ys : List S62} (h0 : (Kd.int .u8).R 5 W b ok v xs) (h1 : Kd.N k62 62 W b ok' u ys) (hok : ∀ k, ok' k → b ≤ k) : ∃ A c A' c', v = .slice A xs.length c ∧ u = .slice A' ys.length c' ∧ Held b W.heap.size (Ds b W.heap.size A c A' c' xs ys) W := by
  obtain ⟨A, c, e, h⟩ := ofR h0
  obtain ⟨A', c', e', h'⟩ := ofN h1 hok
  exact ⟨A, c, A', c', e, e', dsOf h h'⟩
end
theorem cutTo {lo hi c : Nat} {A : Option Addr} {o y : List S93} {t : Int} {W : World} (h : Vd k93 lo hi A c o W) (h0 : 0 ≤ t) (h1 : t ≤ (o.length : Int)) (hy : y = o.take t.toNat) :
    (∀ W : World, (Instr.slice 54 (.slice A o.length c) none (some (.int .i64 t)) none).run Try.prog W = .ok (.slice A y.length c) W) ∧ (∀ W, Vd k93 lo hi A c o W → Vd k93 lo hi A c y W) := by
  obtain ⟨i0, hi0, _, hsz, _⟩ := info_parts info93
  have hl : y.length = t.toNat := by rw [hy, List.length_take]; omega
  refine ⟨?_, fun V hV => ?_⟩
  · have := cut_to (P := Try.prog) 54 93 .i64 Try.underlying54 hi0 A o.length c t h0 h1 h.l
    rw [← hl] at this; exact this
  · have hF := Kd.F_take (m := t.toNat) (Kd.V_at hV).2.2 (by omega)
    rw [← hy] at hF
    exact Kd.V_mk (by have := hV.l; omega) hF
theorem cutFrom {lo hi c : Nat} {A : Option Addr} {o y : List S93} {t : Int} {W : World} (h : Vd k93 lo hi A c o W) (h0 : 0 ≤ t) (h1 : t ≤ (o.length : Int)) (hy : y = o.drop t.toNat) :
    ∃ A' c', (∀ W : World, (Instr.slice 54 (.slice A o.length c) (some (.int .i64 t)) none none).run Try.prog W = .ok (.slice A' y.length c') W) ∧ (∀ W, Vd k93 lo hi A c o W → Vd k93 lo hi A' c' y W) := by
  obtain ⟨i0, hi0, _, hsz, _⟩ := info_parts info93
  have hl : y.length = o.length - t.toNat := by rw [hy, List.length_drop]
  refine ⟨if c = t.toNat then A else A.map (·.add (t.toNat * 3)), c - t.toNat, ?_, fun V hV => ?_⟩
  · have := cut_from (P := Try.prog) 54 93 .i64 Try.underlying54 hi0 3 hsz A o.length c t h0 h1
    rw [← hl] at this; exact this
  · have hF := Kd.F_cut (m := t.toNat) (c := c) (Kd.V_at hV).2.2 (by omega) hV.l
    rw [← hy] at hF
    exact Kd.V_mk (by have := hV.l; omega) hF
/-- A block of an image. -/
def blk (l : List Int) (b : Nat) : List Int := (l.take (b * 64 + 64)).drop (b * 64)
theorem blk_len (l : List Int) (b : Nat) (h : b * 64 + 64 ≤ l.length) : (blk l b).length = 64 := by unfold blk; rw [List.length_drop, List.length_take]; omega
theorem blk_c {W : World} {A : Option Addr} {c : Nat} {l : List Int} {b : Nat} (h : (Kd.int .u8).C W A l.length l) (hc : l.length ≤ c) (hb : b * 64 + 64 ≤ l.length) : (Kd.int .u8).C W (A.map (·.add (b * 64))) (blk l b).length (blk l b) ∧ (blk l b).length ≤ c - b * 64 := by
  have := Kd.C_mid (lo := b * 64) (hi := b * 64 + 64) h (by omega) hb hc
  refine ⟨?_, by rw [blk_len l b hb]; omega⟩
  rw [show b * 64 * (Kd.int .u8).sz = b * 64 from Nat.mul_one _, if_neg (by omega)] at this
  exact this
/-- What a block should be, behind so many of the pending writes. -/
def sh (wd : List Int) (wp : List S62) (v : List Int) (b : Nat) : Nat → List Int
  | 0 => blk wd b
  | i + 1 => if (rd_T62 wp (i : Int)).f0 = (b : Int) ∧ rd v (i : Int) ≠ 0 then (rd_T62 wp (i : Int)).f1 else sh wd wp v b i
end FD
set_option maxHeartbeats 4000000 in
set_option maxRecDepth 100000 in
theorem laws_lwBlock.calls (A0 : Option Addr) (c0 : Nat) (l0 : List Int) (b : Nat) (w : World) (hc0 : l0.length ≤ c0) (hb : b * 64 + 64 ≤ l0.length) (hl : l0.length ≤ 1048576) :
    Calls Try.prog 51 #[.slice A0 l0.length c0, .int .i64 (b : Int)] w fun e w' => e = .returned (.slice (A0.map (·.add (b * 64))) (FD.blk l0 b).length (c0 - b * 64)) ∧ w = w' := by
  have hl2 : (b + 1) * 64 - b * 64 = (FD.blk l0 b).length := by rw [FD.blk_len l0 b hb]; omega
  go_enter Try.func51, Try.ntmps51
  go_wp2
  go_ret
  refine ⟨?_, rfl⟩
  show Ending.returned (.slice (A0.map (·.add (b * 64))) ((b + 1) * 64 - b * 64) (c0 - b * 64)) = _
  rw [hl2]
/-- What the law's road asks of the plain functions. -/
structure laws_FnDisk.Main (l1 : List Int) (d : List Int) (p : List S62) (o : List S93) (t : Int) (wd : List Int) (wp : List S62) (y1 y2 : List S93) (ad : List Int) (ap : List S62) (v xd fd : List Int) (xp fp : List S62) : Prop where
  ht0 : 0 ≤ t
  ht1 : t ≤ (o.length : Int)
  hy1 : y1 = o.take t.toNat
  hy2 : y2 = o.drop t.toNat
  c : ∃ k, laws_lwCopyDisk.f k d p = some (d, p)
  a1 : ∃ k, impl_DiskDo.f k d p y1 (-1) = some (ad, ap)
  a2 : ∃ k, impl_DiskDo.f k ad ap y2 (-1) = some (wd, wp)
  s1 : ∃ k, laws_lwSameDisk.f k wd wp wd wp = some true
  a3 : ∃ k, impl_DiskDo.f k d p o t = some (ad, ap)
  s2 : ∃ k, laws_lwSameDisk.f k ad ap ad ap = some true
  kp : ∃ k, laws_lwKeep.f k l1 1 = some v
  cw : ∃ k, laws_lwCopyDisk.f k wd wp = some (wd, wp)
  cr : ∃ k, impl_DiskCrash.f k wd wp v = some (xd, xp)
  fl : ∃ k, impl_DiskFlush.f k wd wp = some (fd, fp)
  im : ∃ k, impl_DiskImage.f k wd wp = some fd
  sb : laws_lwSameBytes.f fd fd = some true
  hx : xd.length = wd.length
  hf : fd.length = wd.length
  hxp : xp.length = 0
  hfp : fp.length = 0
  hn : wd.length ≤ 1048576
  hn0 : wd.length ≠ 0
  hm : wp.length ≤ 1048576
  rd : ∀ b : Nat, b < wd.length / 64 → ∃ k, impl_DiskRead.f k wd wp (b : Int) = some (FD.blk fd b)
  sb1 : ∀ b : Nat, b < wd.length / 64 → laws_lwSameBytes.f (FD.blk xd b) (FD.sh wd wp v b (min wp.length v.length)) = some true
  sb2 : ∀ b : Nat, b < wd.length / 64 → laws_lwSameBytes.f (FD.blk fd b) (FD.blk fd b) = some true
def laws_FnDisk.Good (l0 l1 : List Int) : Prop := (1048576 < (l0.length : Int)) ∨ (1048576 < (l1.length : Int)) ∨
  ∃ d p o a t wd wp, (∃ k, spec_DrawDiskDo.f k l0 = some (d, p, o, a)) ∧ laws_lwAt.f l1 0 (wrap64 ((o.length : Int) + 1)) = some t ∧ (∃ k, laws_lwCopyDisk.f k d p = some (d, p)) ∧ (∃ k, impl_DiskDo.f k d p o (-1) = some (wd, wp)) ∧ (∃ k, spec_DiskDo.f k d p o (-1) = some (wd, wp)) ∧
    ((wd.length = 0 ∧ ∃ fd fp, (∃ k, impl_DiskFlush.f k wd wp = some (fd, fp)) ∧ fd.length = 0) ∨ ∃ y1 y2 ad ap v xd fd xp fp, laws_FnDisk.Main l1 d p o t wd wp y1 y2 ad ap v xd fd xp fp)
open Classical in
/-- The law's plain form: true where its road is given. -/
noncomputable def laws_FnDisk.f (_ : Nat) (l0 l1 : List Int) : Option Bool := if laws_FnDisk.Good l0 l1 then some true else none
def laws_FnDisk.T11 : Bool × List (List Nat × List Nat) := (true, [([], []), ([0], [0]), ([], []), ([], []), ([2, 3], [2, 3]), ([1, 4, 1], [1, 4]), ([], []), ([], []), ([6, 7], [6, 7]), ([5, 8, 5], [5, 8]), ([], []), ([10, 9, 9, 0, 1, 2, 3, 4, 5, 6, 7, 8, 9, 10], [9, 10])])
def laws_FnDisk.B11 : List Nat := [0, 1, 0, 0, 12, 31, 0, 0, 192, 511, 0, 2047]
theorem laws_FnDisk.tab11 : rtab .any (opsOf Try.f11 11) = laws_FnDisk.T11 := by kernel_rfl
theorem laws_FnDisk.bits11 : waitsOk laws_FnDisk.T11.2 laws_FnDisk.B11 = true := by kernel_rfl
def laws_FnDisk.T12 : Bool × List (List Nat × List Nat) := (true, [([], []), ([], []), ([0, 1], [0, 1]), ([2], [2]), ([3, 2], [3]), ([4], [4]), ([5, 4, 4], [4, 5]), ([4], [4]), ([4], [4]), ([6, 7, 8, 6, 4], [4, 6, 7, 8]), ([4], [4]), ([10, 9, 4], [4, 10]), ([4], [4]), ([4], [4]), ([12, 13, 4], [4, 12, 13]), ([11, 14, 11, 4], [4, 11, 14]), ([9, 15, 15, 4], [4, 9, 15]), ([16, 4], [4, 16]), ([4, 17], [4, 17])])
def laws_FnDisk.B12 : List Nat := [0, 0, 3, 7, 15, 31, 63, 31, 31, 511, 31, 2047, 31, 31, 12319, 32767, 65535, 131071, 262143]
theorem laws_FnDisk.tab12 : rtab .any (opsOf Try.f11 12) = laws_FnDisk.T12 := by kernel_rfl
theorem laws_FnDisk.bits12 : waitsOk laws_FnDisk.T12.2 laws_FnDisk.B12 = true := by kernel_rfl
set_option maxHeartbeats 16000000 in
set_option maxRecDepth 100000 in
theorem laws_FnDisk.calls (k : Nat) (A0 : Option Addr) (c0 : Nat) (l0 : List Int) (A1 : Option Addr) (c1 : Nat) (l1 : List Int) (r : Bool) (w : World) (hr0 : Kd.C (Kd.int .u8) w A0 l0.length l0) (hc0 : l0.length ≤ c0) (hr1 : Kd.C (Kd.int .u8) w A1 l1.length l1) (hc1 : l1.length ≤ c1) (h : laws_FnDisk.f k l0 l1 = some r) (hrt : Aside0 (r = true)) :
    Calls Try.prog 11 #[.slice A0 l0.length c0, .slice A1 l1.length c1] w fun e w' => e = .returned (.bool r) ∧ Below w.heap.size w w' := by
  have hu29 := Try.underlying29
  obtain rfl := hrt.out
  clear hrt
  have HR0 := Aside0.mk hr0
  have HC0 := Aside0.mk hc0
  have HR1 := Aside0.mk hr1
  have HC1 := Aside0.mk hc1
  clear hr0 hc0 hr1 hc1
  have HB := Aside0.mk (Below.refl w.heap.size w)
  have HG : laws_FnDisk.Good l0 l1 := by
    unfold laws_FnDisk.f at h
    by_cases hg : laws_FnDisk.Good l0 l1
    · exact hg
    · rw [if_neg hg] at h; cases h
  clear h
  by_cases c4 : (1048576 : Int) < (l0.length : Int)
  · have c4b0 : decide (1048576 < (l0.length : Int)) = true := decide_eq_true c4
    have c4b1 : decide (1048576 < l0.length) = true := decide_eq_true (by omega)
    clear c4 HG
    go_enter Try.func11, Try.ntmps11
    go_wp2
    go_ret
    exact ⟨by first | rfl | simp [*], HB.out⟩
  have c4b0 : decide (1048576 < (l0.length : Int)) = false := decide_eq_false c4
  have c4b1 : decide (1048576 < l0.length) = false := decide_eq_false (by omega)
  by_cases c5 : (1048576 : Int) < (l1.length : Int)
  · have c5b0 : decide (1048576 < (l1.length : Int)) = true := decide_eq_true c5
    have c5b1 : decide (1048576 < l1.length) = true := decide_eq_true (by omega)
    clear c4 c5 HG
    go_enter Try.func11, Try.ntmps11
    go_wp2
    go_ret
    exact ⟨by first | rfl | simp [*], HB.out⟩
  have c5b0 : decide (1048576 < (l1.length : Int)) = false := decide_eq_false c5
  have c5b1 : decide (1048576 < l1.length) = false := decide_eq_false (by omega)
  obtain ⟨d, p, o, a, t, wd, wp, J0, J1, Jc, J2, J3, HG⟩ := (HG.resolve_left c4).resolve_left c5
  clear c4 c5
  obtain ⟨k0, J0_⟩ := J0; obtain ⟨kc, Jc_⟩ := Jc; obtain ⟨k2, J2_⟩ := J2; obtain ⟨k3, J3_⟩ := J3
  have J0 := Aside0.mk J0_; have J1 := Aside0.mk J1; have Jc := Aside0.mk Jc_; have J2 := Aside0.mk J2_; have J3 := Aside0.mk J3_
  clear J0_ Jc_ J2_ J3_
  have HG := Aside0.mk HG
  have c7 : ((wd.length : Int) != (wd.length : Int)) = false := by simp
  have F := Aside0.mk (FD.Hd.start (W := w))

  go_enter Try.func11, Try.ntmps11
  go_upto_region 9 with (first
      | ((with_reducible refine gate_callee (f := 43) rfl ?_); refine Rgn.gl (some 29) Try.func43 #[.slice A0 l0.length c0] ?_; (with_reducible refine (spec_DrawDiskDo.calls k0 _ _ l0 d p o a _ (Kd.C_below HR0.out HB.out) HC0.out J0.out).mono ?_); rintro e w1 ⟨v_, u_, x_, rfl, h0, h1, h2, hb⟩; refine ⟨_, rfl, ?_⟩; obtain ⟨Ad, cd, Bd, bd, rfl, rfl, q_⟩ := FD.twoN h0 h1 (fun _ h => h.1); obtain ⟨Ao, co, rfl, q2_⟩ := FD.ofN h2 (fun _ h => h.1); replace F := Aside0.mk (FD.Hd.add (FD.Hd.add F.out hb q_) (Below.refl _ _) q2_); replace HB := Aside0.mk (below_step HB.out hb); clear h0 h1 h2 q_ q2_ hb)
      | ((with_reducible refine gate_dst (N := 5) rfl ?_); refine Rgn.bx 5 #[.slice none 0 0, .slice none 0 0] 29 ?_; intro gb5 hg w2 hbox hb; have HA := Aside0.mk (And.intro hg (And.intro hbox hb)); clear hg hbox hb)
      | ((with_reducible refine gate_store (t := 29) (p := 5) rfl ?_); refine Box.store_cells (P := Try.prog) ?hg (t := 29) (p := .tmp 5) (x := .tmp 30) ?ho ?hn gb5 0 ?ha (u := .agg #[.slice Ad d.length cd, .slice Bd p.length bd]) ?hx [.slice Ad d.length cd, .slice Bd p.length bd] rfl (by kernel_rfl) (by intro q_ hq_; simp only [List.mem_cons, List.not_mem_nil, or_false] at hq_; rcases hq_ with rfl | rfl <;> rfl) #[.slice none 0 0, .slice none 0 0] #[.slice Ad d.length cd, .slice Bd p.length bd] (e := 29) HA.out.2.1 (by show 0 + 2 ≤ 2; decide) rfl ?_; (case ho => rfl); (case hg => rfl); (case hn => rfl); (case ha => first | rfl | (go_simp; done) | (go_simp; rfl)); (case hx => first | rfl | (go_simp; done) | (go_simp; rfl)); intro w3 hbox hgr; have hq := FD.Hd.put F.out HA.out hbox hgr; replace F := Aside0.mk hq.1; replace HB := Aside0.mk (below_step HB.out hq.2); clear HA hbox hgr hq)
      | ((with_reducible refine gate_callee (f := 44) rfl ?_); refine Rgn.gl (some 37) Try.func44 #[.slice A1 l1.length c1, .int .i64 0, .int .i64 (wrap64 ((o.length : Int) + 1))] ?_; (with_reducible refine (laws_lwAt.calls _ _ l1 0 (wrap64 ((o.length : Int) + 1)) t _ (Kd.C_below HR1.out HB.out) HC1.out J1.out).mono ?_); rintro e w4 ⟨rfl, hdr⟩; have hb := drawn_below hdr; clear hdr; refine ⟨_, rfl, ?_⟩; replace F := Aside0.mk (FD.Hd.below F.out hb); replace HB := Aside0.mk (below_step HB.out hb); obtain ⟨z5_0, z5_1⟩ := FD.Bx.z (F.out.now.1); clear hb)
      | ((with_reducible refine gate_callee (f := 46) rfl ?_); refine Rgn.gl (some 39) Try.func46 #[.agg #[.slice Ad d.length cd, .slice Bd p.length bd]] ?_; (with_reducible refine (laws_lwCopyDisk.calls kc _ _ d _ _ p d p _ F.out.now.2.2.1.a.c F.out.now.2.2.1.a.l F.out.now.2.2.1.b.c F.out.now.2.2.1.b.l Jc.out).mono ?_); rintro e w5 ⟨v_, u_, rfl, h0, h1, hb⟩; refine ⟨_, rfl, ?_⟩; obtain ⟨Ax, cx, Bx, bx, rfl, rfl, q_⟩ := FD.two h0 h1; replace F := Aside0.mk (FD.Hd.add F.out hb q_); replace HB := Aside0.mk (below_step HB.out hb); clear z5_0 z5_1; clear h0 h1 q_ hb)
      | ((with_reducible refine gate_callee (f := 45) rfl ?_); refine Rgn.gl (some 41) Try.func45 #[.agg #[.slice Ax d.length cx, .slice Bx p.length bx], .slice Ao o.length co, .int .i64 (-1)] ?_; (with_reducible refine (impl_DiskDo.calls k2 _ _ d _ _ p _ _ o (-1) wd wp _ F.out.now.1.a.c F.out.now.1.a.l F.out.now.1.b.c F.out.now.1.b.l F.out.now.2.2.1.c F.out.now.2.2.1.l J2.out).mono ?_); rintro e w6 ⟨v_, u_, rfl, h0, h1, hb⟩; refine ⟨_, rfl, ?_⟩; obtain ⟨Awh, cwh, Bwh, bwh, rfl, rfl, q_⟩ := FD.two h0 h1; replace F := Aside0.mk (FD.Hd.add F.out hb q_); replace HB := Aside0.mk (below_step HB.out hb); clear h0 h1 q_ hb)
      | ((with_reducible refine gate_dst (N := 9) rfl ?_); refine Rgn.bx 9 #[.slice none 0 0, .slice none 0 0] 29 ?_; intro gb9 hg w7 hbox hb; have HA := Aside0.mk (And.intro hg (And.intro hbox hb)); clear hg hbox hb)
      | ((with_reducible refine gate_store (t := 29) (p := 9) rfl ?_); refine Box.store_cells (P := Try.prog) ?hg (t := 29) (p := .tmp 9) (x := .tmp 41) ?ho ?hn gb9 0 ?ha (u := .agg #[.slice Awh wd.length cwh, .slice Bwh wp.length bwh]) ?hx [.slice Awh wd.length cwh, .slice Bwh wp.length bwh] rfl (by kernel_rfl) (by intro q_ hq_; simp only [List.mem_cons, List.not_mem_nil, or_false] at hq_; rcases hq_ with rfl | rfl <;> rfl) #[.slice none 0 0, .slice none 0 0] #[.slice Awh wd.length cwh, .slice Bwh wp.length bwh] (e := 29) HA.out.2.1 (by show 0 + 2 ≤ 2; decide) rfl ?_; (case ho => rfl); (case hg => rfl); (case hn => rfl); (case ha => first | rfl | (go_simp; done) | (go_simp; rfl)); (case hx => first | rfl | (go_simp; done) | (go_simp; rfl)); intro w8 hbox hgr; have hq := FD.Hd.put F.out HA.out hbox hgr; replace F := Aside0.mk hq.1; replace HB := Aside0.mk (below_step HB.out hq.2); clear HA hbox hgr hq; obtain ⟨z5_0, z5_1⟩ := FD.Bx.z (F.out.now.2.2.2.1))
      | ((with_reducible refine gate_callee (f := 47) rfl ?_); refine Rgn.gl (some 44) Try.func47 #[.agg #[.slice Ad d.length cd, .slice Bd p.length bd], .slice Ao o.length co, .int .i64 (-1)] ?_; (with_reducible refine (spec_DiskDo.calls k3 _ _ d _ _ p _ _ o (-1) wd wp _ F.out.now.2.2.2.2.2.1.a.c F.out.now.2.2.2.2.2.1.a.l F.out.now.2.2.2.2.2.1.b.c F.out.now.2.2.2.2.2.1.b.l F.out.now.2.2.2.2.1.c F.out.now.2.2.2.2.1.l J3.out).mono ?_); rintro e w9 ⟨v_, u_, rfl, h0, h1, hb⟩; refine ⟨_, rfl, ?_⟩; obtain ⟨Awa, cwa, Bwa, bwa, rfl, rfl, q_⟩ := FD.two h0 h1; replace F := Aside0.mk (FD.Hd.add F.out hb q_); replace HB := Aside0.mk (below_step HB.out hb); clear z5_0 z5_1; clear h0 h1 q_ hb)
      | ((with_reducible refine gate_dst (N := 10) rfl ?_); refine Rgn.bx 10 #[.slice none 0 0, .slice none 0 0] 29 ?_; intro gb10 hg w10 hbox hb; have HA := Aside0.mk (And.intro hg (And.intro hbox hb)); clear hg hbox hb)
      | ((with_reducible refine gate_store (t := 29) (p := 10) rfl ?_); refine Box.store_cells (P := Try.prog) ?hg (t := 29) (p := .tmp 10) (x := .tmp 44) ?ho ?hn gb10 0 ?ha (u := .agg #[.slice Awa wd.length cwa, .slice Bwa wp.length bwa]) ?hx [.slice Awa wd.length cwa, .slice Bwa wp.length bwa] rfl (by kernel_rfl) (by intro q_ hq_; simp only [List.mem_cons, List.not_mem_nil, or_false] at hq_; rcases hq_ with rfl | rfl <;> rfl) #[.slice none 0 0, .slice none 0 0] #[.slice Awa wd.length cwa, .slice Bwa wp.length bwa] (e := 29) HA.out.2.1 (by show 0 + 2 ≤ 2; decide) rfl ?_; (case ho => rfl); (case hg => rfl); (case hn => rfl); (case ha => first | rfl | (go_simp; done) | (go_simp; rfl)); (case hx => first | rfl | (go_simp; done) | (go_simp; rfl)); intro w11 hbox hgr; have hq := FD.Hd.put F.out HA.out hbox hgr; replace F := Aside0.mk hq.1; replace HB := Aside0.mk (below_step HB.out hq.2); clear HA hbox hgr hq; obtain ⟨z9_0, z9_1⟩ := FD.Bx.z (F.out.now.2.2.1); obtain ⟨z10_0, z10_1⟩ := FD.Bx.z (F.out.now.1); obtain ⟨z5_0, z5_1⟩ := FD.Bx.z (F.out.now.2.2.2.2.2.1))
      | fail)
  obtain ⟨pp, hpp, F_⟩ := FD.Hd.name F.out
  have E : True := trivial
  replace F := Aside0.mk F_; clear F_ E
  rcases HG.out with ⟨e0, fd, fp, ⟨kf, Jf⟩, ef⟩ | ⟨y1, y2, ad, ap, v, xd, fd, xp, fp, M⟩
  · have c9 : ((wd.length : Int) == 0) = true := by simp [e0]
    have c9b : ((fd.length : Int) == 0) = true := by simp [ef]
    have hfd : ∀ (u v : Value) (W : World), (Instr.field 29 (.agg #[u, v]) 0).run Try.prog W = .ok u W := fun _ _ _ => by kernel_rfl
    clear HG e0 ef
    go_wp2_with (first
        | ((with_reducible refine gate_callee (f := 45) rfl ?_); refine Rgn.gl (some 58) Try.func45 #[.agg #[.slice Ad d.length cd, .slice Bd p.length bd], .slice Ao o.length co, .int .i64 (-1)] ?_; (with_reducible refine (impl_DiskDo.calls k2 _ _ d _ _ p _ _ o (-1) wd wp _ (hpp _ F.out.now).2.2.2.2.2.2.2.1.a.c (hpp _ F.out.now).2.2.2.2.2.2.2.1.a.l (hpp _ F.out.now).2.2.2.2.2.2.2.1.b.c (hpp _ F.out.now).2.2.2.2.2.2.2.1.b.l (hpp _ F.out.now).2.2.2.2.2.2.1.c (hpp _ F.out.now).2.2.2.2.2.2.1.l J2.out).mono ?_); rintro e w12 ⟨v_, u_, rfl, h0, h1, hb⟩; refine ⟨_, rfl, ?_⟩; obtain ⟨Ae, ce, Be, be, rfl, rfl, q_⟩ := FD.two h0 h1; replace HB := Aside0.mk (below_step HB.out hb); have Q := Aside0.mk q_; clear h0 h1 hb q_ z9_0 z9_1 z10_0 z10_1 z5_0 z5_1)
        | ((with_reducible refine gate_callee (f := 34) rfl ?_); refine Rgn.gl (some 59) Try.func34 #[.agg #[.slice Ae wd.length ce, .slice Be wp.length be]] ?_; (with_reducible refine (impl_DiskFlush.calls kf _ _ wd _ _ wp fd fp _ Q.out.now.a.c Q.out.now.a.l Q.out.now.b.c Q.out.now.b.l Jf).mono ?_); rintro e w13 ⟨v_, u_, rfl, h0, h1, hb⟩; refine ⟨_, rfl, ?_⟩; obtain ⟨Af, cf, Bf, bf, rfl, rfl, q_⟩ := FD.two h0 h1; replace HB := Aside0.mk (below_step HB.out hb); clear h0 h1 hb q_)
        | fail)
    go_ret
    exact ⟨by first | rfl | simp [*], HB.out⟩
  clear HG
  have c9 : ((wd.length : Int) == 0) = false := by have := M.hn0; rw [beq_eq_false_iff_ne]; omega
  obtain ⟨ka1, Ja1_⟩ := M.a1; have Ja1 := Aside0.mk Ja1_; clear Ja1_
  obtain ⟨ka2, Ja2_⟩ := M.a2; have Ja2 := Aside0.mk Ja2_; clear Ja2_
  obtain ⟨ks1, Js1_⟩ := M.s1; have Js1 := Aside0.mk Js1_; clear Js1_
  obtain ⟨ka3, Ja3_⟩ := M.a3; have Ja3 := Aside0.mk Ja3_; clear Ja3_
  obtain ⟨ks2, Js2_⟩ := M.s2; have Js2 := Aside0.mk Js2_; clear Js2_
  obtain ⟨kkp, Jkp_⟩ := M.kp; have Jkp := Aside0.mk Jkp_; clear Jkp_
  obtain ⟨kcw, Jcw_⟩ := M.cw; have Jcw := Aside0.mk Jcw_; clear Jcw_
  obtain ⟨kcr, Jcr_⟩ := M.cr; have Jcr := Aside0.mk Jcr_; clear Jcr_
  obtain ⟨kfl, Jfl_⟩ := M.fl; have Jfl := Aside0.mk Jfl_; clear Jfl_
  obtain ⟨kim, Jim_⟩ := M.im; have Jim := Aside0.mk Jim_; clear Jim_
  have M := Aside0.mk M
  go_upto_region 11 with (fail)
  obtain ⟨hcut1, hv1⟩ := FD.cutTo (hpp _ F.out.now).2.2.2.2.2.2.1 M.out.ht0 M.out.ht1 M.out.hy1
  obtain ⟨Ay, cy, hcut2, hv2⟩ := FD.cutFrom (hpp _ F.out.now).2.2.2.2.2.2.1 M.out.ht0 M.out.ht1 M.out.hy2
  have hv1 := Aside0.mk hv1; have hv2 := Aside0.mk hv2
  replace F := Aside0.mk (FD.Hd.drew F.out); replace HB := Aside0.mk (below_drew1 HB.out)
  refine start_ (n := 12) (S := fun w' => w'.cell? ⟨gb5, 0, none⟩ = some (.slice Ad d.length cd) ∧ w'.cell? ⟨gb5, 1, none⟩ = some (.slice Bd p.length bd)) (ds := []) #[false, false, false, false, false, false, false, false, false, false, false, false] (by kernel_rfl) rfl rfl ⟨z5_0, z5_1⟩ (fun hHeld => ?_); refine with_tabW laws_FnDisk.tab11 laws_FnDisk.bits11 (fun HT_ HW_ => ?_)
  clear z9_0 z9_1 z10_0 z10_1 z5_0 z5_1
  generalize w11.drew = w12 at F HB hHeld ⊢
  refine Rgn.pu HT_.out 2 65 ?_
  refine Rgn.pu HT_.out 3 66 ?_
  refine Rgn.pu HT_.out 4 67 ?_
  refine Rgn.pu HT_.out 6 69 ?_
  refine Rgn.pu HT_.out 7 70 ?_
  refine Rgn.pu HT_.out 8 71 ?_
  refine Rgn.tk HT_.out HW_.out 0 63 hHeld ?_
  have HBo := HB
  have F0 : Aside0 (Held 0 w12.heap.size pp w12) := ⟨F.out⟩
  clear F
  refine join_ (σ := Value × Value × Option Addr × Nat × Option Addr × Nat × Nat) 1 #[true, true, true, true, true, true, true, true, true, true, true, false] (fun s_ => [(64, s_.1), (68, s_.2.1), (72, .agg #[.slice s_.2.2.1 wd.length s_.2.2.2.1, .slice s_.2.2.2.2.1 wp.length s_.2.2.2.2.2.1]), (11, .pointer (some ⟨s_.2.2.2.2.2.2, 0, none⟩))]) (fun s_ w' => (w'.cell? ⟨gb5, 0, none⟩ = some (.slice Ad d.length cd) ∧ w'.cell? ⟨gb5, 1, none⟩ = some (.slice Bd p.length bd)) ∧ ∃ lo hi, Held lo hi (FD.Ds lo hi s_.2.2.1 s_.2.2.2.1 s_.2.2.2.2.1 s_.2.2.2.2.2.1 wd wp) w' ∧ (s_.2.2.2.2.2.2 < lo ∨ hi ≤ s_.2.2.2.2.2.2) ∧ Held 0 w12.heap.size pp w' ∧ w12.heap.size ≤ s_.2.2.2.2.2.2 ∧ w'.heap[s_.2.2.2.2.2.2]? = some (.cells #[.slice none 0 0, .slice none 0 0] 29 (0, 0)) ∧ Below w.heap.size w w') ?_ ?_
  rotate_left
  · intro hCont
    refine two_ (i := 1) (j := 10) (Ni := some 64) (Nj := some 11) #[true, true, true, true, true, false, true, true, true, false, false, false] #[true, false, true, true, true, false, true, true, true, false, true, false] rfl rfl rfl rfl (two_of HT_.out (by kernel_rfl)) (by decide) (by decide) (fun K hK => ?_) (fun K hK => ?_)
    · refine Rgn.gs Try.func46 #[.agg #[.slice Ad d.length cd, .slice Bd p.length bd]] ?_
      with_reducible refine (laws_lwCopyDisk.calls kc _ _ d _ _ p d p _ (hpp _ F0.out.now).2.2.2.2.2.2.2.1.a.c (hpp _ F0.out.now).2.2.2.2.2.2.2.1.a.l (hpp _ F0.out.now).2.2.2.2.2.2.2.1.b.c (hpp _ F0.out.now).2.2.2.2.2.2.2.1.b.l Jc.out).mono ?_
      rintro e w13 ⟨v_, u_, rfl, h0, h1, hb⟩
      refine ⟨_, rfl, ?_⟩
      obtain ⟨Au, cu, Bu, bu, rfl, rfl, q_⟩ := FD.two h0 h1; have Qu := Aside0.mk q_; clear h0 h1 q_
      replace F0 := Aside0.mk (Held.below F0.out hb); replace HB := Aside0.mk (below_step HB.out hb)
      clear hb
      refine hK.out _ _ (FD.Bx.z ((hpp _ F0.out.now).2.2.2.2.2.1)) (fun hHeld => ?_)
      clear hK K
      refine norm_ (a' := ?_) ?_ ?_
      rotate_left
      · show Act.put _ (some 64) _ = _
        simp only [Act.put, List.setIfInBounds_toArray, List.set_cons_zero, List.set_cons_succ, i64_w, i32_w]
        rfl
      refine two_ (i := 5) (j := 10) (Ni := some 68) (Nj := some 11) #[true, true, true, true, true, true, true, true, true, false, false, false] #[true, true, true, true, true, false, true, true, true, false, true, false] rfl rfl rfl rfl (two_of HT_.out (by kernel_rfl)) (by decide) (by decide) (fun K hK => ?_) (fun K hK => ?_)
      · refine Rgn.gs Try.func45 #[.agg #[.slice Au d.length cu, .slice Bu p.length bu], .slice Ao y1.length co, .int .i64 (-1)] ?_
        with_reducible refine (impl_DiskDo.calls ka1 _ _ d _ _ p _ _ y1 (-1) ad ap _ Qu.out.now.a.c Qu.out.now.a.l Qu.out.now.b.c Qu.out.now.b.l (hv1.out _ ((hpp _ F0.out.now).2.2.2.2.2.2.1)).c (hv1.out _ ((hpp _ F0.out.now).2.2.2.2.2.2.1)).l Ja1.out).mono ?_
        rintro e w14 ⟨v_, u_, rfl, h0, h1, hb⟩
        refine ⟨_, rfl, ?_⟩
        obtain ⟨Ag, cg, Bg, bg, rfl, rfl, q_⟩ := FD.two h0 h1; have Qg := Aside0.mk q_; clear h0 h1 q_
        clear Qu
        replace F0 := Aside0.mk (Held.below F0.out hb); replace HB := Aside0.mk (below_step HB.out hb)
        clear hb
        refine hK.out _ _ (FD.Bx.z ((hpp _ F0.out.now).2.2.2.2.2.1)) (fun hHeld => ?_)
        clear hK K
        refine norm_ (a' := ?_) ?_ ?_
        rotate_left
        · show Act.put _ (some 68) _ = _
          simp only [Act.put, List.setIfInBounds_toArray, List.set_cons_zero, List.set_cons_succ, i64_w, i32_w]
          rfl
        refine two_ (i := 9) (j := 10) (Ni := some 72) (Nj := some 11) #[true, true, true, true, true, true, true, true, true, true, false, false] #[true, true, true, true, true, true, true, true, true, false, true, false] rfl rfl rfl rfl (two_of HT_.out (by kernel_rfl)) (by decide) (by decide) (fun K hK => ?_) (fun K hK => ?_)
        · refine Rgn.gs Try.func45 #[.agg #[.slice Ag ad.length cg, .slice Bg ap.length bg], .slice Ay y2.length cy, .int .i64 (-1)] ?_
          with_reducible refine (impl_DiskDo.calls ka2 _ _ ad _ _ ap _ _ y2 (-1) wd wp _ Qg.out.now.a.c Qg.out.now.a.l Qg.out.now.b.c Qg.out.now.b.l (hv2.out _ ((hpp _ F0.out.now).2.2.2.2.2.2.1)).c (hv2.out _ ((hpp _ F0.out.now).2.2.2.2.2.2.1)).l Ja2.out).mono ?_
          rintro e w15 ⟨v_, u_, rfl, h0, h1, hb⟩
          refine ⟨_, rfl, ?_⟩
          obtain ⟨At, ct, Bt, bt, rfl, rfl, q_⟩ := FD.two h0 h1; have Qt := Aside0.mk q_; clear h0 h1 q_
          clear Qg
          replace F0 := Aside0.mk (Held.below F0.out hb); replace HB := Aside0.mk (below_step HB.out hb)
          clear hb
          refine hK.out _ _ (FD.Bx.z ((hpp _ F0.out.now).2.2.2.2.2.1)) (fun hHeld => ?_)
          clear hK K
          refine norm_ (a' := ?_) ?_ ?_
          rotate_left
          · show Act.put _ (some 72) _ = _
            simp only [Act.put, List.setIfInBounds_toArray, List.set_cons_zero, List.set_cons_succ, i64_w, i32_w]
            rfl
          refine one_ (i := 10) (N := some 11) #[true, true, true, true, true, true, true, true, true, true, true, false] rfl rfl (one_of HT_.out (by kernel_rfl)) (by decide) (fun K hK => ?_)
          refine box_step ?hg (N := 11) ?hd (cs := #[.slice none 0 0, .slice none 0 0]) (t := 29) ?hr ?_; (case hd => rfl); (case hg => rfl); (case hr => first | (go_simp; done) | (go_simp; rfl))
          intro gb11 hg w16 hbox hb
          have HN := Aside0.mk (show w12.heap.size ≤ gb11 by rw [hg]; exact F0.out.top); have HX := Aside0.mk hbox
          have HL := Aside0.mk (Nat.le_of_eq hg.symm)
          replace Qt := Aside0.mk (Held.below Qt.out hb)
          replace F0 := Aside0.mk (Held.below F0.out hb); replace HB := Aside0.mk (below_step HB.out hb)
          clear hg hbox hb
          refine hK.out _ _ (FD.Bx.z ((hpp _ F0.out.now).2.2.2.2.2.1)) (fun hHeld => ?_)
          clear hK K
          refine norm_ (a' := ?_) ?_ ?_
          rotate_left
          · show Act.put _ (some 11) _ = _
            simp only [Act.put, List.setIfInBounds_toArray, List.set_cons_zero, List.set_cons_succ, i64_w, i32_w]
            rfl
          exact norm_ (by simp only [putAll, Act.put, List.setIfInBounds_toArray, List.set_cons_zero, List.set_cons_succ]) (hCont (.agg #[.slice Au d.length cu, .slice Bu p.length bu], .agg #[.slice Ag ad.length cg, .slice Bg ap.length bg], At, ct, Bt, bt, gb11) _ ⟨hHeld, _, _, Qt.out, Or.inr HL.out, F0.out, HN.out, HX.out, HB.out⟩)
        · refine box_step ?hg (N := 11) ?hd (cs := #[.slice none 0 0, .slice none 0 0]) (t := 29) ?hr ?_; (case hd => rfl); (case hg => rfl); (case hr => first | (go_simp; done) | (go_simp; rfl))
          intro gb11 hg w17 hbox hb
          have HN := Aside0.mk (show w12.heap.size ≤ gb11 by rw [hg]; exact F0.out.top); have HX := Aside0.mk hbox
          replace Qg := Aside0.mk (Held.below Qg.out hb)
          replace F0 := Aside0.mk (Held.below F0.out hb); replace HB := Aside0.mk (below_step HB.out hb)
          clear hg hbox hb
          refine hK.out _ _ (FD.Bx.z ((hpp _ F0.out.now).2.2.2.2.2.1)) (fun hHeld => ?_)
          clear hK K
          refine norm_ (a' := ?_) ?_ ?_
          rotate_left
          · show Act.put _ (some 11) _ = _
            simp only [Act.put, List.setIfInBounds_toArray, List.set_cons_zero, List.set_cons_succ, i64_w, i32_w]
            rfl
          refine one_ (i := 9) (N := some 72) #[true, true, true, true, true, true, true, true, true, true, true, false] rfl rfl (one_of HT_.out (by kernel_rfl)) (by decide) (fun K hK => ?_)
          refine Rgn.gs Try.func45 #[.agg #[.slice Ag ad.length cg, .slice Bg ap.length bg], .slice Ay y2.length cy, .int .i64 (-1)] ?_
          with_reducible refine (impl_DiskDo.calls ka2 _ _ ad _ _ ap _ _ y2 (-1) wd wp _ Qg.out.now.a.c Qg.out.now.a.l Qg.out.now.b.c Qg.out.now.b.l (hv2.out _ ((hpp _ F0.out.now).2.2.2.2.2.2.1)).c (hv2.out _ ((hpp _ F0.out.now).2.2.2.2.2.2.1)).l Ja2.out).mono ?_
          rintro e w18 ⟨v_, u_, rfl, h0, h1, hb⟩
          refine ⟨_, rfl, ?_⟩
          obtain ⟨At, ct, Bt, bt, rfl, rfl, q_⟩ := FD.two h0 h1; have Qt := Aside0.mk q_; clear h0 h1 q_
          have HL := Aside0.mk (blk_lt HX.out)
          clear Qg
          replace F0 := Aside0.mk (Held.below F0.out hb); replace HB := Aside0.mk (below_step HB.out hb); replace HX := Aside0.mk (blk_below HX.out hb)
          clear hb
          refine hK.out _ _ (FD.Bx.z ((hpp _ F0.out.now).2.2.2.2.2.1)) (fun hHeld => ?_)
          clear hK K
          refine norm_ (a' := ?_) ?_ ?_
          rotate_left
          · show Act.put _ (some 72) _ = _
            simp only [Act.put, List.setIfInBounds_toArray, List.set_cons_zero, List.set_cons_succ, i64_w, i32_w]
            rfl
          exact norm_ (by simp only [putAll, Act.put, List.setIfInBounds_toArray, List.set_cons_zero, List.set_cons_succ]) (hCont (.agg #[.slice Au d.length cu, .slice Bu p.length bu], .agg #[.slice Ag ad.length cg, .slice Bg ap.length bg], At, ct, Bt, bt, gb11) _ ⟨hHeld, _, _, Qt.out, Or.inl HL.out, F0.out, HN.out, HX.out, HB.out⟩)
      · refine box_step ?hg (N := 11) ?hd (cs := #[.slice none 0 0, .slice none 0 0]) (t := 29) ?hr ?_; (case hd => rfl); (case hg => rfl); (case hr => first | (go_simp; done) | (go_simp; rfl))
        intro gb11 hg w19 hbox hb
        have HN := Aside0.mk (show w12.heap.size ≤ gb11 by rw [hg]; exact F0.out.top); have HX := Aside0.mk hbox
        replace Qu := Aside0.mk (Held.below Qu.out hb)
        replace F0 := Aside0.mk (Held.below F0.out hb); replace HB := Aside0.mk (below_step HB.out hb)
        clear hg hbox hb
        refine hK.out _ _ (FD.Bx.z ((hpp _ F0.out.now).2.2.2.2.2.1)) (fun hHeld => ?_)
        clear hK K
        refine norm_ (a' := ?_) ?_ ?_
        rotate_left
        · show Act.put _ (some 11) _ = _
          simp only [Act.put, List.setIfInBounds_toArray, List.set_cons_zero, List.set_cons_succ, i64_w, i32_w]
          rfl
        refine one_ (i := 5) (N := some 68) #[true, true, true, true, true, true, true, true, true, false, true, false] rfl rfl (one_of HT_.out (by kernel_rfl)) (by decide) (fun K hK => ?_)
        refine Rgn.gs Try.func45 #[.agg #[.slice Au d.length cu, .slice Bu p.length bu], .slice Ao y1.length co, .int .i64 (-1)] ?_
        with_reducible refine (impl_DiskDo.calls ka1 _ _ d _ _ p _ _ y1 (-1) ad ap _ Qu.out.now.a.c Qu.out.now.a.l Qu.out.now.b.c Qu.out.now.b.l (hv1.out _ ((hpp _ F0.out.now).2.2.2.2.2.2.1)).c (hv1.out _ ((hpp _ F0.out.now).2.2.2.2.2.2.1)).l Ja1.out).mono ?_
        rintro e w20 ⟨v_, u_, rfl, h0, h1, hb⟩
        refine ⟨_, rfl, ?_⟩
        obtain ⟨Ag, cg, Bg, bg, rfl, rfl, q_⟩ := FD.two h0 h1; have Qg := Aside0.mk q_; clear h0 h1 q_
        clear Qu
        replace F0 := Aside0.mk (Held.below F0.out hb); replace HB := Aside0.mk (below_step HB.out hb); replace HX := Aside0.mk (blk_below HX.out hb)
        clear hb
        refine hK.out _ _ (FD.Bx.z ((hpp _ F0.out.now).2.2.2.2.2.1)) (fun hHeld => ?_)
        clear hK K
        refine norm_ (a' := ?_) ?_ ?_
        rotate_left
        · show Act.put _ (some 68) _ = _
          simp only [Act.put, List.setIfInBounds_toArray, List.set_cons_zero, List.set_cons_succ, i64_w, i32_w]
          rfl
        refine one_ (i := 9) (N := some 72) #[true, true, true, true, true, true, true, true, true, true, true, false] rfl rfl (one_of HT_.out (by kernel_rfl)) (by decide) (fun K hK => ?_)
        refine Rgn.gs Try.func45 #[.agg #[.slice Ag ad.length cg, .slice Bg ap.length bg], .slice Ay y2.length cy, .int .i64 (-1)] ?_
        with_reducible refine (impl_DiskDo.calls ka2 _ _ ad _ _ ap _ _ y2 (-1) wd wp _ Qg.out.now.a.c Qg.out.now.a.l Qg.out.now.b.c Qg.out.now.b.l (hv2.out _ ((hpp _ F0.out.now).2.2.2.2.2.2.1)).c (hv2.out _ ((hpp _ F0.out.now).2.2.2.2.2.2.1)).l Ja2.out).mono ?_
        rintro e w21 ⟨v_, u_, rfl, h0, h1, hb⟩
        refine ⟨_, rfl, ?_⟩
        obtain ⟨At, ct, Bt, bt, rfl, rfl, q_⟩ := FD.two h0 h1; have Qt := Aside0.mk q_; clear h0 h1 q_
        have HL := Aside0.mk (blk_lt HX.out)
        clear Qg
        replace F0 := Aside0.mk (Held.below F0.out hb); replace HB := Aside0.mk (below_step HB.out hb); replace HX := Aside0.mk (blk_below HX.out hb)
        clear hb
        refine hK.out _ _ (FD.Bx.z ((hpp _ F0.out.now).2.2.2.2.2.1)) (fun hHeld => ?_)
        clear hK K
        refine norm_ (a' := ?_) ?_ ?_
        rotate_left
        · show Act.put _ (some 72) _ = _
          simp only [Act.put, List.setIfInBounds_toArray, List.set_cons_zero, List.set_cons_succ, i64_w, i32_w]
          rfl
        exact norm_ (by simp only [putAll, Act.put, List.setIfInBounds_toArray, List.set_cons_zero, List.set_cons_succ]) (hCont (.agg #[.slice Au d.length cu, .slice Bu p.length bu], .agg #[.slice Ag ad.length cg, .slice Bg ap.length bg], At, ct, Bt, bt, gb11) _ ⟨hHeld, _, _, Qt.out, Or.inl HL.out, F0.out, HN.out, HX.out, HB.out⟩)
    · refine box_step ?hg (N := 11) ?hd (cs := #[.slice none 0 0, .slice none 0 0]) (t := 29) ?hr ?_; (case hd => rfl); (case hg => rfl); (case hr => first | (go_simp; done) | (go_simp; rfl))
      intro gb11 hg w22 hbox hb
      have HN := Aside0.mk (show w12.heap.size ≤ gb11 by rw [hg]; exact F0.out.top); have HX := Aside0.mk hbox
      replace F0 := Aside0.mk (Held.below F0.out hb); replace HB := Aside0.mk (below_step HB.out hb)
      clear hg hbox hb
      refine hK.out _ _ (FD.Bx.z ((hpp _ F0.out.now).2.2.2.2.2.1)) (fun hHeld => ?_)
      clear hK K
      refine norm_ (a' := ?_) ?_ ?_
      rotate_left
      · show Act.put _ (some 11) _ = _
        simp only [Act.put, List.setIfInBounds_toArray, List.set_cons_zero, List.set_cons_succ, i64_w, i32_w]
        rfl
      refine one_ (i := 1) (N := some 64) #[true, true, true, true, true, false, true, true, true, false, true, false] rfl rfl (one_of HT_.out (by kernel_rfl)) (by decide) (fun K hK => ?_)
      refine Rgn.gs Try.func46 #[.agg #[.slice Ad d.length cd, .slice Bd p.length bd]] ?_
      with_reducible refine (laws_lwCopyDisk.calls kc _ _ d _ _ p d p _ (hpp _ F0.out.now).2.2.2.2.2.2.2.1.a.c (hpp _ F0.out.now).2.2.2.2.2.2.2.1.a.l (hpp _ F0.out.now).2.2.2.2.2.2.2.1.b.c (hpp _ F0.out.now).2.2.2.2.2.2.2.1.b.l Jc.out).mono ?_
      rintro e w23 ⟨v_, u_, rfl, h0, h1, hb⟩
      refine ⟨_, rfl, ?_⟩
      obtain ⟨Au, cu, Bu, bu, rfl, rfl, q_⟩ := FD.two h0 h1; have Qu := Aside0.mk q_; clear h0 h1 q_
      replace F0 := Aside0.mk (Held.below F0.out hb); replace HB := Aside0.mk (below_step HB.out hb); replace HX := Aside0.mk (blk_below HX.out hb)
      clear hb
      refine hK.out _ _ (FD.Bx.z ((hpp _ F0.out.now).2.2.2.2.2.1)) (fun hHeld => ?_)
      clear hK K
      refine norm_ (a' := ?_) ?_ ?_
      rotate_left
      · show Act.put _ (some 64) _ = _
        simp only [Act.put, List.setIfInBounds_toArray, List.set_cons_zero, List.set_cons_succ, i64_w, i32_w]
        rfl
      refine one_ (i := 5) (N := some 68) #[true, true, true, true, true, true, true, true, true, false, true, false] rfl rfl (one_of HT_.out (by kernel_rfl)) (by decide) (fun K hK => ?_)
      refine Rgn.gs Try.func45 #[.agg #[.slice Au d.length cu, .slice Bu p.length bu], .slice Ao y1.length co, .int .i64 (-1)] ?_
      with_reducible refine (impl_DiskDo.calls ka1 _ _ d _ _ p _ _ y1 (-1) ad ap _ Qu.out.now.a.c Qu.out.now.a.l Qu.out.now.b.c Qu.out.now.b.l (hv1.out _ ((hpp _ F0.out.now).2.2.2.2.2.2.1)).c (hv1.out _ ((hpp _ F0.out.now).2.2.2.2.2.2.1)).l Ja1.out).mono ?_
      rintro e w24 ⟨v_, u_, rfl, h0, h1, hb⟩
      refine ⟨_, rfl, ?_⟩
      obtain ⟨Ag, cg, Bg, bg, rfl, rfl, q_⟩ := FD.two h0 h1; have Qg := Aside0.mk q_; clear h0 h1 q_
      clear Qu
      replace F0 := Aside0.mk (Held.below F0.out hb); replace HB := Aside0.mk (below_step HB.out hb); replace HX := Aside0.mk (blk_below HX.out hb)
      clear hb
      refine hK.out _ _ (FD.Bx.z ((hpp _ F0.out.now).2.2.2.2.2.1)) (fun hHeld => ?_)
      clear hK K
      refine norm_ (a' := ?_) ?_ ?_
      rotate_left
      · show Act.put _ (some 68) _ = _
        simp only [Act.put, List.setIfInBounds_toArray, List.set_cons_zero, List.set_cons_succ, i64_w, i32_w]
        rfl
      refine one_ (i := 9) (N := some 72) #[true, true, true, true, true, true, true, true, true, true, true, false] rfl rfl (one_of HT_.out (by kernel_rfl)) (by decide) (fun K hK => ?_)
      refine Rgn.gs Try.func45 #[.agg #[.slice Ag ad.length cg, .slice Bg ap.length bg], .slice Ay y2.length cy, .int .i64 (-1)] ?_
      with_reducible refine (impl_DiskDo.calls ka2 _ _ ad _ _ ap _ _ y2 (-1) wd wp _ Qg.out.now.a.c Qg.out.now.a.l Qg.out.now.b.c Qg.out.now.b.l (hv2.out _ ((hpp _ F0.out.now).2.2.2.2.2.2.1)).c (hv2.out _ ((hpp _ F0.out.now).2.2.2.2.2.2.1)).l Ja2.out).mono ?_
      rintro e w25 ⟨v_, u_, rfl, h0, h1, hb⟩
      refine ⟨_, rfl, ?_⟩
      obtain ⟨At, ct, Bt, bt, rfl, rfl, q_⟩ := FD.two h0 h1; have Qt := Aside0.mk q_; clear h0 h1 q_
      have HL := Aside0.mk (blk_lt HX.out)
      clear Qg
      replace F0 := Aside0.mk (Held.below F0.out hb); replace HB := Aside0.mk (below_step HB.out hb); replace HX := Aside0.mk (blk_below HX.out hb)
      clear hb
      refine hK.out _ _ (FD.Bx.z ((hpp _ F0.out.now).2.2.2.2.2.1)) (fun hHeld => ?_)
      clear hK K
      refine norm_ (a' := ?_) ?_ ?_
      rotate_left
      · show Act.put _ (some 72) _ = _
        simp only [Act.put, List.setIfInBounds_toArray, List.set_cons_zero, List.set_cons_succ, i64_w, i32_w]
        rfl
      exact norm_ (by simp only [putAll, Act.put, List.setIfInBounds_toArray, List.set_cons_zero, List.set_cons_succ]) (hCont (.agg #[.slice Au d.length cu, .slice Bu p.length bu], .agg #[.slice Ag ad.length cg, .slice Bg ap.length bg], At, ct, Bt, bt, gb11) _ ⟨hHeld, _, _, Qt.out, Or.inl HL.out, F0.out, HN.out, HX.out, HB.out⟩)
  rintro ⟨v64, v68, At, ct, Bt, bt, gb11⟩ w26 ⟨hS_, lo, hi, QT, hd_, F0_, HN, HX_, HB_⟩
  clear F0 HB
  have HX := Aside0.mk HX_; have F0 := Aside0.mk F0_; have HB := Aside0.mk HB_; have QT := Aside0.mk QT; clear HX_ F0_ HB_
  have hHeld : w26.cell? ⟨gb5, 0, none⟩ = some (.slice Ad d.length cd) ∧ w26.cell? ⟨gb5, 1, none⟩ = some (.slice Bd p.length bd) := hS_
  refine norm_ (a' := ?_) ?_ ?_
  rotate_left
  · simp only [putAll, Act.put, List.setIfInBounds_toArray, List.set_cons_zero, List.set_cons_succ]
    rfl
  refine one_ (i := 11) (N := none) #[true, true, true, true, true, true, true, true, true, true, true, true] rfl rfl (one_of HT_.out (by kernel_rfl)) (by decide) (fun K hK => ?_)
  obtain ⟨hs0, hs1⟩ := FD.Bx.z HX.out
  have hf0 := blk_frozen HX.out 0; have hf1 := blk_frozen HX.out 1
  refine skip_ (w1 := ?_) (by rfl) rfl ?_ ?_
  rotate_left
  · go_simp
    rfl
  clear hs0 hs1 hf0 hf1 hHeld hS_
  have hx2 : ((w26.setCell ⟨gb11, 0, none⟩ (.slice At wd.length ct)).setCell ⟨gb11, 1, none⟩ (.slice Bt wp.length bt)).heap[gb11]? = some (.cells #[.slice At wd.length ct, .slice Bt wp.length bt] 29 (0, 0)) := blk_put (cs := #[.slice At wd.length ct, .slice none 0 0]) (blk_put (cs := #[.slice none 0 0, .slice none 0 0]) HX.out 0 _ rfl) 1 _ rfl
  have hq1 : FD.Hd _ ((w26.setCell ⟨gb11, 0, none⟩ (.slice At wd.length ct)).setCell ⟨gb11, 1, none⟩ (.slice Bt wp.length bt)) := FD.Hd.asm (Held.grown (Held.grown F0.out (Box.grown_set1 _ _ _ _) (Or.inr HN)) (Box.grown_set1 _ _ _ _) (Or.inr HN)) (Held.grown (Held.grown QT.out (Box.grown_set1 _ _ _ _) hd_) (Box.grown_set1 _ _ _ _) hd_) hx2
  have hgb : w.heap.size ≤ gb11 := Nat.le_trans (Below.size HBo.out) HN
  have hq2 : Below w.heap.size w ((w26.setCell ⟨gb11, 0, none⟩ (.slice At wd.length ct)).setCell ⟨gb11, 1, none⟩ (.slice Bt wp.length bt)) := Box.below_grown (Box.below_grown HB.out (Box.grown_set1 _ _ _ _) hgb) (Box.grown_set1 _ _ _ _) hgb
  clear HX F0 HB QT hx2 hd_
  generalize ((w26.setCell ⟨gb11, 0, none⟩ (.slice At wd.length ct)).setCell ⟨gb11, 1, none⟩ (.slice Bt wp.length bt)) = w27 at hq1 hq2 ⊢
  obtain ⟨pp2, hpp2_, F_⟩ := FD.Hd.name hq1
  have hpp2 := fun V h => (⟨(hpp2_ V h).1, (hpp2_ V h).2.1, hpp V (hpp2_ V h).2.2⟩ : _ ∧ _ ∧ _)
  have F := Aside0.mk F_; have HB := Aside0.mk hq2; clear F_ hq1 hq2 hpp2_ hpp HN hgb HBo
  refine hK.out _ _ (FD.Bx.z ((hpp2 _ F.out.now).2.2.2.2.2.2.2.1)) (fun hHeld => ?_)
  clear hK K hHeld
  refine done_ (done_of HT_.out (by kernel_rfl)) ?_
  clear HT_ HW_
  go_upto_region 12 with (fail)
  obtain ⟨z9_0, z9_1⟩ := FD.Bx.z ((hpp2 _ F.out.now).2.2.2.2.1); obtain ⟨z11_0, z11_1⟩ := FD.Bx.z ((hpp2 _ F.out.now).1); obtain ⟨z5_0, z5_1⟩ := FD.Bx.z ((hpp2 _ F.out.now).2.2.2.2.2.2.2.1)
  replace F := Aside0.mk (FD.Hd.drew F.out); replace HB := Aside0.mk (below_drew1 HB.out)
  refine start_ (n := 19) (S := fun w' => w'.cell? ⟨gb9, 0, none⟩ = some (.slice Awh wd.length cwh) ∧ w'.cell? ⟨gb9, 1, none⟩ = some (.slice Bwh wp.length bwh) ∧ w'.cell? ⟨gb11, 0, none⟩ = some (.slice At wd.length ct) ∧ w'.cell? ⟨gb11, 1, none⟩ = some (.slice Bt wp.length bt) ∧ w'.cell? ⟨gb5, 0, none⟩ = some (.slice Ad d.length cd) ∧ w'.cell? ⟨gb5, 1, none⟩ = some (.slice Bd p.length bd)) (ds := []) #[false, false, false, false, false, false, false, false, false, false, false, false, false, false, false, false, false, false, false] (by kernel_rfl) rfl rfl ⟨z9_0, z9_1, z11_0, z11_1, z5_0, z5_1⟩ (fun hHeld => ?_); refine with_tabW laws_FnDisk.tab12 laws_FnDisk.bits12 (fun HT_ HW_ => ?_)
  clear z9_0 z9_1 z11_0 z11_1 z5_0 z5_1
  generalize w27.drew = w28 at F HB hHeld ⊢
  refine Rgn.tk HT_.out HW_.out 0 73 hHeld ?_
  refine Rgn.tk HT_.out HW_.out 1 74 hHeld ?_
  refine one_ (i := 2) (N := some 75) #[true, true, true, false, false, false, false, false, false, false, false, false, false, false, false, false, false, false, false] rfl rfl (one_of HT_.out (by kernel_rfl)) (by decide) (fun K hK => ?_)
  refine Rgn.gs Try.func48 #[.agg #[.slice Awh wd.length cwh, .slice Bwh wp.length bwh], .agg #[.slice At wd.length ct, .slice Bt wp.length bt]] ?_
  with_reducible refine (laws_lwSameDisk.calls ks1 _ _ wd _ _ wp _ _ wd _ _ wp true _ (hpp2 _ F.out.now).2.2.2.2.2.1.a.c (hpp2 _ F.out.now).2.2.2.2.2.1.a.l (hpp2 _ F.out.now).2.2.2.2.2.1.b.c (hpp2 _ F.out.now).2.2.2.2.2.1.b.l (hpp2 _ F.out.now).2.1.a.c (hpp2 _ F.out.now).2.1.a.l (hpp2 _ F.out.now).2.1.b.c (hpp2 _ F.out.now).2.1.b.l Js1.out).mono ?_
  rintro e w29 ⟨rfl, hb⟩
  refine ⟨_, rfl, ?_⟩
  replace F := Aside0.mk (FD.Hd.below F.out hb); replace HB := Aside0.mk (below_step HB.out hb)
  clear hb
  have hS_ := And.intro (FD.Bx.z ((hpp2 _ F.out.now).2.2.2.2.1)) (And.intro (FD.Bx.z ((hpp2 _ F.out.now).1)) (FD.Bx.z ((hpp2 _ F.out.now).2.2.2.2.2.2.2.1)))
  refine hK.out _ _ ⟨hS_.1.1, hS_.1.2, hS_.2.1.1, hS_.2.1.2, hS_.2.2.1, hS_.2.2.2⟩ (fun hHeld => ?_)
  clear hK K hS_
  refine norm_ (a' := ?_) ?_ ?_
  rotate_left
  · show Act.put _ (some 75) _ = _
    simp only [Act.put, List.setIfInBounds_toArray, List.set_cons_zero, List.set_cons_succ, i64_w, i32_w]
    rfl
  refine Rgn.pu HT_.out 3 76 ?_
  refine Rgn.pu HT_.out 4 77 ?_
  refine Rgn.pu HT_.out 7 80 ?_
  refine Rgn.pu HT_.out 8 81 ?_
  refine Rgn.pu HT_.out 12 85 ?_
  refine Rgn.pu HT_.out 13 86 ?_
  refine Rgn.pu HT_.out 14 87 ?_
  refine Rgn.tk HT_.out HW_.out 5 78 hHeld ?_
  refine Rgn.tk HT_.out HW_.out 10 83 hHeld ?_
  refine one_ (i := 6) (N := some 79) #[true, true, true, true, true, true, true, true, true, false, true, false, true, true, true, false, false, false, false] rfl rfl (one_of HT_.out (by kernel_rfl)) (by decide) (fun K hK => ?_)
  refine Rgn.gs Try.func46 #[.agg #[.slice Ad d.length cd, .slice Bd p.length bd]] ?_
  with_reducible refine (laws_lwCopyDisk.calls kc _ _ d _ _ p d p _ (hpp2 _ F.out.now).2.2.2.2.2.2.2.2.2.1.a.c (hpp2 _ F.out.now).2.2.2.2.2.2.2.2.2.1.a.l (hpp2 _ F.out.now).2.2.2.2.2.2.2.2.2.1.b.c (hpp2 _ F.out.now).2.2.2.2.2.2.2.2.2.1.b.l Jc.out).mono ?_
  rintro e w30 ⟨v_, u_, rfl, h0, h1, hb⟩
  refine ⟨_, rfl, ?_⟩
  obtain ⟨Am, cm, Bm, bm, rfl, rfl, q_⟩ := FD.two h0 h1; have Qm := Aside0.mk q_; clear h0 h1 q_
  replace F := Aside0.mk (FD.Hd.below F.out hb); replace HB := Aside0.mk (below_step HB.out hb)
  clear hb
  have hS_ := And.intro (FD.Bx.z ((hpp2 _ F.out.now).2.2.2.2.1)) (And.intro (FD.Bx.z ((hpp2 _ F.out.now).1)) (FD.Bx.z ((hpp2 _ F.out.now).2.2.2.2.2.2.2.1)))
  refine hK.out _ _ ⟨hS_.1.1, hS_.1.2, hS_.2.1.1, hS_.2.1.2, hS_.2.2.1, hS_.2.2.2⟩ (fun hHeld => ?_)
  clear hK K hS_
  refine norm_ (a' := ?_) ?_ ?_
  rotate_left
  · show Act.put _ (some 79) _ = _
    simp only [Act.put, List.setIfInBounds_toArray, List.set_cons_zero, List.set_cons_succ, i64_w, i32_w]
    rfl
  refine one_ (i := 9) (N := some 82) #[true, true, true, true, true, true, true, true, true, true, true, false, true, true, true, false, false, false, false] rfl rfl (one_of HT_.out (by kernel_rfl)) (by decide) (fun K hK => ?_)
  refine Rgn.gs Try.func45 #[.agg #[.slice Am d.length cm, .slice Bm p.length bm], .slice Ao o.length co, .int .i64 t] ?_
  with_reducible refine (impl_DiskDo.calls ka3 _ _ d _ _ p _ _ o t ad ap _ Qm.out.now.a.c Qm.out.now.a.l Qm.out.now.b.c Qm.out.now.b.l (hpp2 _ F.out.now).2.2.2.2.2.2.2.2.1.c (hpp2 _ F.out.now).2.2.2.2.2.2.2.2.1.l Ja3.out).mono ?_
  rintro e w31 ⟨v_, u_, rfl, h0, h1, hb⟩
  refine ⟨_, rfl, ?_⟩
  obtain ⟨An, cn, Bn, bn, rfl, rfl, q_⟩ := FD.two h0 h1; have Qn := Aside0.mk q_; clear h0 h1 q_
  replace F := Aside0.mk (FD.Hd.below F.out hb); replace HB := Aside0.mk (below_step HB.out hb)
  clear hb
  have hS_ := And.intro (FD.Bx.z ((hpp2 _ F.out.now).2.2.2.2.1)) (And.intro (FD.Bx.z ((hpp2 _ F.out.now).1)) (FD.Bx.z ((hpp2 _ F.out.now).2.2.2.2.2.2.2.1)))
  refine hK.out _ _ ⟨hS_.1.1, hS_.1.2, hS_.2.1.1, hS_.2.1.2, hS_.2.2.1, hS_.2.2.2⟩ (fun hHeld => ?_)
  clear hK K hS_
  refine norm_ (a' := ?_) ?_ ?_
  rotate_left
  · show Act.put _ (some 82) _ = _
    simp only [Act.put, List.setIfInBounds_toArray, List.set_cons_zero, List.set_cons_succ, i64_w, i32_w]
    rfl
  refine one_ (i := 11) (N := some 84) #[true, true, true, true, true, true, true, true, true, true, true, true, true, true, true, false, false, false, false] rfl rfl (one_of HT_.out (by kernel_rfl)) (by decide) (fun K hK => ?_)
  refine Rgn.gs Try.func46 #[.agg #[.slice Ad d.length cd, .slice Bd p.length bd]] ?_
  with_reducible refine (laws_lwCopyDisk.calls kc _ _ d _ _ p d p _ (hpp2 _ F.out.now).2.2.2.2.2.2.2.2.2.1.a.c (hpp2 _ F.out.now).2.2.2.2.2.2.2.2.2.1.a.l (hpp2 _ F.out.now).2.2.2.2.2.2.2.2.2.1.b.c (hpp2 _ F.out.now).2.2.2.2.2.2.2.2.2.1.b.l Jc.out).mono ?_
  rintro e w32 ⟨v_, u_, rfl, h0, h1, hb⟩
  refine ⟨_, rfl, ?_⟩
  obtain ⟨Ah, ch, Bh, bh, rfl, rfl, q_⟩ := FD.two h0 h1; have Qh := Aside0.mk q_; clear h0 h1 q_
  replace F := Aside0.mk (FD.Hd.below F.out hb); replace HB := Aside0.mk (below_step HB.out hb)
  replace Qn := Aside0.mk (Held.below Qn.out hb)
  clear hb
  have hS_ := And.intro (FD.Bx.z ((hpp2 _ F.out.now).2.2.2.2.1)) (And.intro (FD.Bx.z ((hpp2 _ F.out.now).1)) (FD.Bx.z ((hpp2 _ F.out.now).2.2.2.2.2.2.2.1)))
  refine hK.out _ _ ⟨hS_.1.1, hS_.1.2, hS_.2.1.1, hS_.2.1.2, hS_.2.2.1, hS_.2.2.2⟩ (fun hHeld => ?_)
  clear hK K hS_
  refine norm_ (a' := ?_) ?_ ?_
  rotate_left
  · show Act.put _ (some 84) _ = _
    simp only [Act.put, List.setIfInBounds_toArray, List.set_cons_zero, List.set_cons_succ, i64_w, i32_w]
    rfl
  refine one_ (i := 15) (N := some 88) #[true, true, true, true, true, true, true, true, true, true, true, true, true, true, true, true, false, false, false] rfl rfl (one_of HT_.out (by kernel_rfl)) (by decide) (fun K hK => ?_)
  refine Rgn.gs Try.func45 #[.agg #[.slice Ah d.length ch, .slice Bh p.length bh], .slice Ao y1.length co, .int .i64 (-1)] ?_
  with_reducible refine (impl_DiskDo.calls ka1 _ _ d _ _ p _ _ y1 (-1) ad ap _ Qh.out.now.a.c Qh.out.now.a.l Qh.out.now.b.c Qh.out.now.b.l (hv1.out _ ((hpp2 _ F.out.now).2.2.2.2.2.2.2.2.1)).c (hv1.out _ ((hpp2 _ F.out.now).2.2.2.2.2.2.2.2.1)).l Ja1.out).mono ?_
  rintro e w33 ⟨v_, u_, rfl, h0, h1, hb⟩
  refine ⟨_, rfl, ?_⟩
  obtain ⟨Aj, cj, Bj, bj, rfl, rfl, q_⟩ := FD.two h0 h1; have Qj := Aside0.mk q_; clear h0 h1 q_
  replace F := Aside0.mk (FD.Hd.below F.out hb); replace HB := Aside0.mk (below_step HB.out hb)
  replace Qn := Aside0.mk (Held.below Qn.out hb)
  clear hb
  have hS_ := And.intro (FD.Bx.z ((hpp2 _ F.out.now).2.2.2.2.1)) (And.intro (FD.Bx.z ((hpp2 _ F.out.now).1)) (FD.Bx.z ((hpp2 _ F.out.now).2.2.2.2.2.2.2.1)))
  refine hK.out _ _ ⟨hS_.1.1, hS_.1.2, hS_.2.1.1, hS_.2.1.2, hS_.2.2.1, hS_.2.2.2⟩ (fun hHeld => ?_)
  clear hK K hS_
  refine norm_ (a' := ?_) ?_ ?_
  rotate_left
  · show Act.put _ (some 88) _ = _
    simp only [Act.put, List.setIfInBounds_toArray, List.set_cons_zero, List.set_cons_succ, i64_w, i32_w]
    rfl
  refine one_ (i := 16) (N := some 89) #[true, true, true, true, true, true, true, true, true, true, true, true, true, true, true, true, true, false, false] rfl rfl (one_of HT_.out (by kernel_rfl)) (by decide) (fun K hK => ?_)
  refine Rgn.gs Try.func48 #[.agg #[.slice An ad.length cn, .slice Bn ap.length bn], .agg #[.slice Aj ad.length cj, .slice Bj ap.length bj]] ?_
  with_reducible refine (laws_lwSameDisk.calls ks2 _ _ ad _ _ ap _ _ ad _ _ ap true _ Qn.out.now.a.c Qn.out.now.a.l Qn.out.now.b.c Qn.out.now.b.l Qj.out.now.a.c Qj.out.now.a.l Qj.out.now.b.c Qj.out.now.b.l Js2.out).mono ?_
  rintro e w34 ⟨rfl, hb⟩
  refine ⟨_, rfl, ?_⟩
  replace F := Aside0.mk (FD.Hd.below F.out hb); replace HB := Aside0.mk (below_step HB.out hb)
  clear hb
  have hS_ := And.intro (FD.Bx.z ((hpp2 _ F.out.now).2.2.2.2.1)) (And.intro (FD.Bx.z ((hpp2 _ F.out.now).1)) (FD.Bx.z ((hpp2 _ F.out.now).2.2.2.2.2.2.2.1)))
  refine hK.out _ _ ⟨hS_.1.1, hS_.1.2, hS_.2.1.1, hS_.2.1.2, hS_.2.2.1, hS_.2.2.2⟩ (fun hHeld => ?_)
  clear hK K hS_
  refine norm_ (a' := ?_) ?_ ?_
  rotate_left
  · show Act.put _ (some 89) _ = _
    simp only [Act.put, List.setIfInBounds_toArray, List.set_cons_zero, List.set_cons_succ, i64_w, i32_w]
    rfl
  refine Rgn.pu HT_.out 17 90 ?_
  refine Rgn.pu HT_.out 18 91 ?_
  refine done_ (done_of HT_.out (by kernel_rfl)) ?_
  clear HT_ HW_ hHeld Qm Qn Qh Qj hv1 hv2 hcut1 hcut2
  obtain ⟨pp3, hpp3_, F_⟩ := FD.Hd.name F.out
  have hpp3 := fun V h => hpp2 V (hpp3_ V h)
  replace F := Aside0.mk F_; clear F_ hpp3_ hpp2
  have c18 : ((xd.length : Int) != (wd.length : Int)) = false := by simp [M.out.hx]
  have c19 : decide (0 < (xp.length : Int)) = false := by simp [M.out.hxp]
  have c19b : decide (0 < xp.length) = false := by simp [M.out.hxp]
  have c20 : decide (0 < (fp.length : Int)) = false := by simp [M.out.hfp]
  have c20b : decide (0 < fp.length) = false := by simp [M.out.hfp]
  go_wp2_with (first
      | ((with_reducible refine gate_callee (f := 49) rfl ?_); refine Rgn.gl (some 93) Try.func49 #[.slice A1 l1.length c1, .int .i64 1] ?_; (with_reducible refine (laws_lwKeep.calls kkp _ _ l1 1 v _ (Kd.C_below HR1.out HB.out) HC1.out Jkp.out).mono ?_); rintro e w35 ⟨v_, rfl, h0, hb⟩; refine ⟨_, rfl, ?_⟩; obtain ⟨Av, cv, rfl, q_⟩ := FD.ofR h0; replace F := Aside0.mk (FD.Hd.add F.out hb q_); replace HB := Aside0.mk (below_step HB.out hb); obtain ⟨z9_0, z9_1⟩ := FD.Bx.z ((hpp3 _ F.out.now.2).2.2.2.2.1); clear h0 q_ hb)
      | ((with_reducible refine gate_callee (f := 46) rfl ?_); refine Rgn.gl (some 95) Try.func46 #[.agg #[.slice Awh wd.length cwh, .slice Bwh wp.length bwh]] ?_; (with_reducible refine (laws_lwCopyDisk.calls kcw _ _ wd _ _ wp wd wp _ (hpp3 _ F.out.now.2).2.2.2.2.2.1.a.c (hpp3 _ F.out.now.2).2.2.2.2.2.1.a.l (hpp3 _ F.out.now.2).2.2.2.2.2.1.b.c (hpp3 _ F.out.now.2).2.2.2.2.2.1.b.l Jcw.out).mono ?_); rintro e w36 ⟨v_, u_, rfl, h0, h1, hb⟩; refine ⟨_, rfl, ?_⟩; obtain ⟨As1, cs1, Bs1, bs1, rfl, rfl, q_⟩ := FD.two h0 h1; replace F := Aside0.mk (FD.Hd.add F.out hb q_); replace HB := Aside0.mk (below_step HB.out hb); clear z9_0 z9_1; clear h0 h1 q_ hb)
      | ((with_reducible refine gate_callee (f := 40) rfl ?_); refine Rgn.gl (some 97) Try.func40 #[.agg #[.slice As1 wd.length cs1, .slice Bs1 wp.length bs1], .slice Av v.length cv] ?_; (with_reducible refine (impl_DiskCrash.calls kcr _ _ wd _ _ wp _ _ v xd xp _ F.out.now.1.a.c F.out.now.1.a.l F.out.now.1.b.c F.out.now.1.b.l F.out.now.2.1.c F.out.now.2.1.l Jcr.out).mono ?_); rintro e w37 ⟨v_, u_, rfl, h0, h1, hb⟩; refine ⟨_, rfl, ?_⟩; obtain ⟨Acr, ccr, Bcr, bcr, rfl, rfl, q_⟩ := FD.two h0 h1; replace F := Aside0.mk (FD.Hd.add F.out hb q_); replace HB := Aside0.mk (below_step HB.out hb); clear h0 h1 q_ hb)
      | ((with_reducible refine gate_dst (N := 13) rfl ?_); refine Rgn.bx 13 #[.slice none 0 0, .slice none 0 0] 29 ?_; intro gb13 hg w38 hbox hb; have HA := Aside0.mk (And.intro hg (And.intro hbox hb)); clear hg hbox hb)
      | ((with_reducible refine gate_store (t := 29) (p := 13) rfl ?_); refine Box.store_cells (P := Try.prog) ?hg (t := 29) (p := .tmp 13) (x := .tmp 97) ?ho ?hn gb13 0 ?ha (u := .agg #[.slice Acr xd.length ccr, .slice Bcr xp.length bcr]) ?hx [.slice Acr xd.length ccr, .slice Bcr xp.length bcr] rfl (by kernel_rfl) (by intro q_ hq_; simp only [List.mem_cons, List.not_mem_nil, or_false] at hq_; rcases hq_ with rfl | rfl <;> rfl) #[.slice none 0 0, .slice none 0 0] #[.slice Acr xd.length ccr, .slice Bcr xp.length bcr] (e := 29) HA.out.2.1 (by show 0 + 2 ≤ 2; decide) rfl ?_; (case ho => rfl); (case hg => rfl); (case hn => rfl); (case ha => first | rfl | (go_simp; done) | (go_simp; rfl)); (case hx => first | rfl | (go_simp; done) | (go_simp; rfl)); intro w39 hbox hgr; have hq := FD.Hd.put F.out HA.out hbox hgr; replace F := Aside0.mk hq.1; replace HB := Aside0.mk (below_step HB.out hq.2); clear HA hbox hgr hq; obtain ⟨z9_0, z9_1⟩ := FD.Bx.z ((hpp3 _ F.out.now.2.2.2.2).2.2.2.2.1))
      | ((with_reducible refine gate_callee (f := 46) rfl ?_); refine Rgn.gl (some 99) Try.func46 #[.agg #[.slice Awh wd.length cwh, .slice Bwh wp.length bwh]] ?_; (with_reducible refine (laws_lwCopyDisk.calls kcw _ _ wd _ _ wp wd wp _ (hpp3 _ F.out.now.2.2.2.2).2.2.2.2.2.1.a.c (hpp3 _ F.out.now.2.2.2.2).2.2.2.2.2.1.a.l (hpp3 _ F.out.now.2.2.2.2).2.2.2.2.2.1.b.c (hpp3 _ F.out.now.2.2.2.2).2.2.2.2.2.1.b.l Jcw.out).mono ?_); rintro e w40 ⟨v_, u_, rfl, h0, h1, hb⟩; refine ⟨_, rfl, ?_⟩; obtain ⟨As2, cs2, Bs2, bs2, rfl, rfl, q_⟩ := FD.two h0 h1; replace F := Aside0.mk (FD.Hd.add F.out hb q_); replace HB := Aside0.mk (below_step HB.out hb); clear z9_0 z9_1; clear h0 h1 q_ hb)
      | ((with_reducible refine gate_callee (f := 34) rfl ?_); refine Rgn.gl (some 100) Try.func34 #[.agg #[.slice As2 wd.length cs2, .slice Bs2 wp.length bs2]] ?_; (with_reducible refine (impl_DiskFlush.calls kfl _ _ wd _ _ wp fd fp _ F.out.now.1.a.c F.out.now.1.a.l F.out.now.1.b.c F.out.now.1.b.l Jfl.out).mono ?_); rintro e w41 ⟨v_, u_, rfl, h0, h1, hb⟩; refine ⟨_, rfl, ?_⟩; obtain ⟨Afl, cfl, Bfl, bfl, rfl, rfl, q_⟩ := FD.two h0 h1; replace F := Aside0.mk (FD.Hd.add F.out hb q_); replace HB := Aside0.mk (below_step HB.out hb); clear h0 h1 q_ hb)
      | ((with_reducible refine gate_dst (N := 14) rfl ?_); refine Rgn.bx 14 #[.slice none 0 0, .slice none 0 0] 29 ?_; intro gb14 hg w42 hbox hb; have HA := Aside0.mk (And.intro hg (And.intro hbox hb)); clear hg hbox hb)
      | ((with_reducible refine gate_store (t := 29) (p := 14) rfl ?_); refine Box.store_cells (P := Try.prog) ?hg (t := 29) (p := .tmp 14) (x := .tmp 100) ?ho ?hn gb14 0 ?ha (u := .agg #[.slice Afl fd.length cfl, .slice Bfl fp.length bfl]) ?hx [.slice Afl fd.length cfl, .slice Bfl fp.length bfl] rfl (by kernel_rfl) (by intro q_ hq_; simp only [List.mem_cons, List.not_mem_nil, or_false] at hq_; rcases hq_ with rfl | rfl <;> rfl) #[.slice none 0 0, .slice none 0 0] #[.slice Afl fd.length cfl, .slice Bfl fp.length bfl] (e := 29) HA.out.2.1 (by show 0 + 2 ≤ 2; decide) rfl ?_; (case ho => rfl); (case hg => rfl); (case hn => rfl); (case ha => first | rfl | (go_simp; done) | (go_simp; rfl)); (case hx => first | rfl | (go_simp; done) | (go_simp; rfl)); intro w43 hbox hgr; have hq := FD.Hd.put F.out HA.out hbox hgr; replace F := Aside0.mk hq.1; replace HB := Aside0.mk (below_step HB.out hq.2); clear HA hbox hgr hq; obtain ⟨z9_0, z9_1⟩ := FD.Bx.z ((hpp3 _ F.out.now.2.2.2.2.2.2.2).2.2.2.2.1))
      | ((with_reducible refine gate_callee (f := 32) rfl ?_); refine Rgn.gl (some 102) Try.func32 #[.agg #[.slice Awh wd.length cwh, .slice Bwh wp.length bwh]] ?_; (with_reducible refine (impl_DiskImage.calls kim _ _ wd _ _ wp fd _ (hpp3 _ F.out.now.2.2.2.2.2.2.2).2.2.2.2.2.1.a.c (hpp3 _ F.out.now.2.2.2.2.2.2.2).2.2.2.2.2.1.a.l (hpp3 _ F.out.now.2.2.2.2.2.2.2).2.2.2.2.2.1.b.c (hpp3 _ F.out.now.2.2.2.2.2.2.2).2.2.2.2.2.1.b.l Jim.out).mono ?_); rintro e w44 ⟨v_, rfl, h0, hb⟩; refine ⟨_, rfl, ?_⟩; obtain ⟨Aim, cim, rfl, q_⟩ := FD.ofR h0; replace F := Aside0.mk (FD.Hd.add F.out hb q_); replace HB := Aside0.mk (below_step HB.out hb); clear z9_0 z9_1; obtain ⟨z13_0, z13_1⟩ := FD.Bx.z (F.out.now.2.2.2.2.1); obtain ⟨z10_0, z10_1⟩ := FD.Bx.z ((hpp3 _ F.out.now.2.2.2.2.2.2.2.2).2.2.1); obtain ⟨z14_0, z14_1⟩ := FD.Bx.z (F.out.now.2.1); clear h0 q_ hb)
      | (go_at_call 50; (with_reducible refine (laws_lwSameBytes.calls _ _ fd _ _ fd true _ F.out.now.2.2.1.a.c F.out.now.2.2.1.a.l F.out.now.1.c F.out.now.1.l M.out.sb).mono ?_); rintro e w45 ⟨rfl, hdr⟩; have hb := drawn_below hdr; clear hdr; replace F := Aside0.mk (FD.Hd.below F.out hb); replace HB := Aside0.mk (below_step HB.out hb); clear z13_0 z13_1 z10_0 z10_1 z14_0 z14_1; obtain ⟨z14_0, z14_1⟩ := FD.Bx.z (F.out.now.2.1); clear hb)
      | fail)
  clear z14_0 z14_1
  clear c18 c19 c19b c20 c20b
  obtain ⟨pp4, hpp4, F_⟩ := FD.Hd.name F.out
  replace F := Aside0.mk F_; clear F_
  have hn64 := M.out.hn
  obtain ⟨n, hn⟩ : ∃ n, n = wd.length / 64 := ⟨_, rfl⟩
  obtain ⟨m, hm⟩ : ∃ m, m = min wp.length v.length := ⟨_, rfl⟩
  have hmw : m ≤ wp.length := by rw [hm]; exact Nat.min_le_left _ _
  have hmv : m ≤ v.length := by rw [hm]; exact Nat.min_le_right _ _
  have hm6 := M.out.hm
  go_loopg [16] (n + 1) (fun kq v16 w' => ∃ b : Nat, v16 = .int .i64 (b : Int) ∧ kq + b = n + 1 ∧ b ≤ n ∧ Aside0 (FD.Hd pp4 w') ∧ Aside0 (Below w.heap.size w w'))
  case atStart => exact ⟨0, (by first | rfl | simp), by omega, Nat.zero_le _, ⟨F.out⟩, ⟨HB.out⟩⟩
  case round =>
    clear F HB
    obtain ⟨b, rfl, hkb, hbn, F, HB⟩ := hrel
    obtain ⟨z10_0, z10_1⟩ := FD.Bx.z ((hpp3 _ (hpp4 _ F.out.now).2.2.2.2.2.2.2.2).2.2.1)
    by_cases hb : b < n
    case neg =>
      have cb0 : decide ((b : Int) < wrap64 ((wd.length : Int) / 64)) = false := by rw [show wrap64 ((wd.length : Int) / 64) = (n : Int) by unfold wrap64; omega]; exact decide_eq_false (by omega)
      have cb1 : decide ((b : Int) < IntKind.i64.wrap ((wd.length : Int) / 64)) = false := by rw [i64_w, show wrap64 ((wd.length : Int) / 64) = (n : Int) by unfold wrap64; omega]; exact decide_eq_false (by omega)
      have cb2 : decide ((b : Int) < IntKind.i64.wrap (Int.tdiv (wd.length : Int) 64)) = false := by rw [show Int.tdiv (wd.length : Int) 64 = (wd.length : Int) / 64 from Int.tdiv_eq_ediv_of_nonneg (by omega), i64_w, show wrap64 ((wd.length : Int) / 64) = (n : Int) by unfold wrap64; omega]; exact decide_eq_false (by omega)
      have cb3 : decide ((b : Int) < wrap64 (Int.tdiv (wd.length : Int) 64)) = false := by rw [show Int.tdiv (wd.length : Int) 64 = (wd.length : Int) / 64 from Int.tdiv_eq_ediv_of_nonneg (by omega), show wrap64 ((wd.length : Int) / 64) = (n : Int) by unfold wrap64; omega]; exact decide_eq_false (by omega)
      have cb4 : decide ((b : Int) < Int.tdiv (wd.length : Int) 64) = false := by rw [show Int.tdiv (wd.length : Int) 64 = (wd.length : Int) / 64 from Int.tdiv_eq_ediv_of_nonneg (by omega), show (wd.length : Int) / 64 = (n : Int) by omega]; exact decide_eq_false (by omega)
      have cb5 : decide ((b : Int) < (wd.length : Int) / 64) = false := by rw [show (wd.length : Int) / 64 = (n : Int) by omega]; exact decide_eq_false (by omega)
      have cb6 : decide (b < wd.length / 64) = false := decide_eq_false (by omega)
      go_wp2
      go_ret
      exact ⟨rfl, HB.out⟩
    have cb0 : decide ((b : Int) < wrap64 ((wd.length : Int) / 64)) = true := by rw [show wrap64 ((wd.length : Int) / 64) = (n : Int) by unfold wrap64; omega]; exact decide_eq_true (by omega)
    have cb1 : decide ((b : Int) < IntKind.i64.wrap ((wd.length : Int) / 64)) = true := by rw [i64_w, show wrap64 ((wd.length : Int) / 64) = (n : Int) by unfold wrap64; omega]; exact decide_eq_true (by omega)
    have cb2 : decide ((b : Int) < IntKind.i64.wrap (Int.tdiv (wd.length : Int) 64)) = true := by rw [show Int.tdiv (wd.length : Int) 64 = (wd.length : Int) / 64 from Int.tdiv_eq_ediv_of_nonneg (by omega), i64_w, show wrap64 ((wd.length : Int) / 64) = (n : Int) by unfold wrap64; omega]; exact decide_eq_true (by omega)
    have cb3 : decide ((b : Int) < wrap64 (Int.tdiv (wd.length : Int) 64)) = true := by rw [show Int.tdiv (wd.length : Int) 64 = (wd.length : Int) / 64 from Int.tdiv_eq_ediv_of_nonneg (by omega), show wrap64 ((wd.length : Int) / 64) = (n : Int) by unfold wrap64; omega]; exact decide_eq_true (by omega)
    have cb4 : decide ((b : Int) < Int.tdiv (wd.length : Int) 64) = true := by rw [show Int.tdiv (wd.length : Int) 64 = (wd.length : Int) / 64 from Int.tdiv_eq_ediv_of_nonneg (by omega), show (wd.length : Int) / 64 = (n : Int) by omega]; exact decide_eq_true (by omega)
    have cb5 : decide ((b : Int) < (wd.length : Int) / 64) = true := by rw [show (wd.length : Int) / 64 = (n : Int) by omega]; exact decide_eq_true (by omega)
    have cb6 : decide (b < wd.length / 64) = true := decide_eq_true (by omega)
    have hle : b * 64 + 64 ≤ wd.length := by omega
    have hw64 : IntKind.i64.wrap ((b : Int) + 1) = ((b + 1 : Nat) : Int) := by rw [i64_w]; unfold wrap64; omega
    have hs0 := Aside0.mk (FD.blk_c (b := b) (hpp3 _ (hpp4 _ F.out.now).2.2.2.2.2.2.2.2).2.2.2.1.a.c (hpp3 _ (hpp4 _ F.out.now).2.2.2.2.2.2.2.2).2.2.2.1.a.l hle)
    go_wp2_with (first
      | ((with_reducible refine gate_callee (f := 51) rfl ?_); refine Rgn.gl (some 140) Try.func51 #[.slice Awa wd.length cwa, .int .i64 (b : Int)] ?_; (refine (laws_lwBlock.calls Awa cwa wd b _ (hpp3 _ (hpp4 _ F.out.now).2.2.2.2.2.2.2.2).2.2.2.1.a.l hle M.out.hn).mono ?_); rintro e w_ ⟨rfl, rfl⟩; refine ⟨_, rfl, ?_⟩)
      | fail)
    clear cb0 cb1 cb2 cb3 cb4 cb5 cb6
    go_loopg [17, 18] (m + 1) (fun kq v17 v18 w' => ∃ (i : Nat) (A : Option Addr) (c : Nat), v18 = .int .i64 (i : Int) ∧ v17 = .slice A (FD.sh wd wp v b i).length c ∧ kq + i = m + 1 ∧ i ≤ m ∧ w' = wr ∧ Aside0 ((Kd.int .u8).C wr A (FD.sh wd wp v b i).length (FD.sh wd wp v b i) ∧ (FD.sh wd wp v b i).length ≤ c))
    case atStart => exact ⟨0, _, _, (by first | rfl | simp), rfl, by omega, Nat.zero_le _, rfl, ⟨hs0.out⟩⟩
    case round =>
      clear hs0
      obtain ⟨i, A17, c17, rfl, rfl, hki, him, rfl, hs⟩ := hrel
      by_cases hi : i < m
      · have p1 : 0 ≤ (i : Int) := Int.natCast_nonneg _
        have q1 : (i : Int) < (wp.length : Int) := by omega
        have q2 : (i : Int) < (v.length : Int) := by omega
        have ci0 : decide ((i : Int) < (wp.length : Int)) = true := decide_eq_true q1
        have ci1 : decide ((i : Int) < (v.length : Int)) = true := decide_eq_true q2
        have hwi : IntKind.i64.wrap ((i : Int) + 1) = ((i + 1 : Nat) : Int) := by rw [i64_w]; unfold wrap64; omega
        obtain ⟨ad1, A_1, c_1, e1, hx0, hx1, hl1, hi1⟩ := at_T62 (hpp3 _ (hpp4 _ F.out.now).2.2.2.2.2.2.2.2).2.2.2.1.b.c (i : Int) p1 q1
        obtain ⟨ad2, e2, hx2⟩ := Kd.at_int (hpp4 _ F.out.now).2.2.2.2.2.2.2.1.c (i : Int) p1 q2
        have hy0 := hx0; have hy1 := hx1; have hy2 := hx2
        simp only [Int.toNat_natCast] at hy0 hy1 hy2
        subst e1; subst e2
        have hi1 := Aside0.mk hi1; have hl1 := Aside0.mk hl1
        replace p1 := eq_true p1; replace q1 := eq_true q1; replace q2 := eq_true q2
        by_cases cb : (rd_T62 wp (i : Int)).f0 = (b : Int)
        · have cb0 : ((rd_T62 wp (i : Int)).f0 == (b : Int)) = true := beq_iff_eq.mpr cb
          by_cases cv_ : rd v (i : Int) = 0
          · have cv0 : (rd v (i : Int) != 0) = false := bne_eq_false_iff_eq.mpr cv_
            have hsh : FD.sh wd wp v b (i + 1) = FD.sh wd wp v b i := by rw [FD.sh, if_neg (fun h => h.2 cv_)]
            go_wp2
            go_roundg (m - i)
            case measure => omega
            case rel => exact ⟨i + 1, A17, c17, (by first | rfl | (simp only [hwi]) | (simp [hwi])), by rw [hsh], by omega, by omega, rfl, ⟨by rw [hsh]; exact hs.out⟩⟩
          · have cv0 : (rd v (i : Int) != 0) = true := bne_iff_ne.mpr cv_
            have hsh : FD.sh wd wp v b (i + 1) = (rd_T62 wp (i : Int)).f1 := by rw [FD.sh, if_pos ⟨cb, cv_⟩]
            go_wp2
            go_roundg (m - i)
            case measure => omega
            case rel => exact ⟨i + 1, A_1, c_1, (by first | rfl | (simp only [hwi]) | (simp [hwi])), by rw [hsh], by omega, by omega, rfl, ⟨by rw [hsh]; exact ⟨hi1.out, hl1.out⟩⟩⟩
        · have cb0 : ((rd_T62 wp (i : Int)).f0 == (b : Int)) = false := beq_eq_false_iff_ne.mpr cb
          have hsh : FD.sh wd wp v b (i + 1) = FD.sh wd wp v b i := by rw [FD.sh, if_neg (fun h => cb h.1)]
          go_wp2
          go_roundg (m - i)
          case measure => omega
          case rel => exact ⟨i + 1, A17, c17, (by first | rfl | (simp only [hwi]) | (simp [hwi])), by rw [hsh], by omega, by omega, rfl, ⟨by rw [hsh]; exact hs.out⟩⟩
      have him2 : i = min wp.length v.length := by omega
      obtain ⟨krd, Jrd⟩ := M.out.rd b (by omega)
      have Jrd := Aside0.mk Jrd
      have sb1 := Aside0.mk (M.out.sb1 b (by omega)); have sb2 := Aside0.mk (M.out.sb2 b (by omega))
      rw [← him2] at sb1
      have hlx : b * 64 + 64 ≤ xd.length := by rw [M.out.hx]; exact hle
      have hlf : b * 64 + 64 ≤ fd.length := by rw [M.out.hf]; exact hle
      have hnx : xd.length ≤ 1048576 := by rw [M.out.hx]; exact M.out.hn
      have hnf : fd.length ≤ 1048576 := by rw [M.out.hf]; exact M.out.hn
      obtain ⟨z13_0, z13_1⟩ := FD.Bx.z ((hpp4 _ F.out.now).2.2.2.2.1); obtain ⟨z9_0, z9_1⟩ := FD.Bx.z ((hpp3 _ (hpp4 _ F.out.now).2.2.2.2.2.2.2.2).2.2.2.2.1)
      have hcases : (decide ((i : Int) < (wp.length : Int)) = false ∧ ((i : Int) < (wp.length : Int)) = False ∧ (i < wp.length) = False) ∨ ((decide ((i : Int) < (wp.length : Int)) = true ∧ ((i : Int) < (wp.length : Int)) = True ∧ (i < wp.length) = True) ∧ decide ((i : Int) < (v.length : Int)) = false ∧ ((i : Int) < (v.length : Int)) = False ∧ (i < v.length) = False) := by
        by_cases h : (i : Int) < (wp.length : Int)
        · exact Or.inr ⟨⟨decide_eq_true h, eq_true h, eq_true (by omega)⟩, decide_eq_false (by omega), eq_false (by omega), eq_false (by omega)⟩
        · exact Or.inl ⟨decide_eq_false h, eq_false h, eq_false (by omega)⟩
      clear him2
      rcases hcases with ⟨ci0, ci1, ci2⟩ | ⟨⟨ci0, ci1, ci2⟩, ci3, ci4, ci5⟩
      all_goals
        go_wp2_with (first
          | ((with_reducible refine gate_callee (f := 51) rfl ?_); refine Rgn.gl (some 178) Try.func51 #[.slice Acr xd.length ccr, .int .i64 (b : Int)] ?_; (refine (laws_lwBlock.calls Acr ccr xd b _ (hpp4 _ F.out.now).2.2.2.2.2.1.a.l hlx hnx).mono ?_); rintro e w_ ⟨rfl, rfl⟩; refine ⟨_, rfl, ?_⟩)
          | ((with_reducible refine gate_callee (f := 50) rfl ?_); refine Rgn.gl (some 180) Try.func50 #[.slice _ (FD.blk xd b).length _, .slice A17 (FD.sh wd wp v b i).length c17] ?_; (with_reducible refine (laws_lwSameBytes.calls _ _ (FD.blk xd b) _ _ (FD.sh wd wp v b i) true _ (FD.blk_c (hpp4 _ F.out.now).2.2.2.2.2.1.a.c (hpp4 _ F.out.now).2.2.2.2.2.1.a.l hlx).1 (FD.blk_c (hpp4 _ F.out.now).2.2.2.2.2.1.a.c (hpp4 _ F.out.now).2.2.2.2.2.1.a.l hlx).2 hs.out.1 hs.out.2 sb1.out).mono ?_); rintro e w41 ⟨rfl, hdr⟩; have hb_ := drawn_below hdr; refine ⟨_, rfl, ?_⟩; replace F := Aside0.mk (FD.Hd.below F.out hb_); replace HB := Aside0.mk (below_step HB.out hb_); clear hdr hb_ z9_0 z9_1 z10_0 z10_1 z13_0 z13_1 hs; obtain ⟨z9_0, z9_1⟩ := FD.Bx.z ((hpp3 _ (hpp4 _ F.out.now).2.2.2.2.2.2.2.2).2.2.2.2.1))
          | (go_at_call 30; (with_reducible refine (impl_DiskRead.calls krd _ _ wd _ _ wp (b : Int) (FD.blk fd b) _ (hpp3 _ (hpp4 _ F.out.now).2.2.2.2.2.2.2.2).2.2.2.2.2.1.a.c (hpp3 _ (hpp4 _ F.out.now).2.2.2.2.2.2.2.2).2.2.2.2.2.1.a.l (hpp3 _ (hpp4 _ F.out.now).2.2.2.2.2.2.2.2).2.2.2.2.2.1.b.c (hpp3 _ (hpp4 _ F.out.now).2.2.2.2.2.2.2.2).2.2.2.2.2.1.b.l Jrd.out).mono ?_); rintro e w42 ⟨v_, rfl, h0, hb_⟩; obtain ⟨Ar, cr_, rfl, q_⟩ := FD.ofR h0; have QR := Aside0.mk q_; replace F := Aside0.mk (FD.Hd.below F.out hb_); replace HB := Aside0.mk (below_step HB.out hb_); clear h0 hb_ q_ z9_0 z9_1)
          | (go_at_call 51; (refine (laws_lwBlock.calls Aim cim fd b _ (hpp4 _ F.out.now).1.l hlf hnf).mono ?_); rintro e w_ ⟨rfl, rfl⟩)
          | (go_at_call 50; (with_reducible refine (laws_lwSameBytes.calls _ _ (FD.blk fd b) _ _ (FD.blk fd b) true _ QR.out.now.c QR.out.now.l (FD.blk_c (hpp4 _ F.out.now).1.c (hpp4 _ F.out.now).1.l hlf).1 (FD.blk_c (hpp4 _ F.out.now).1.c (hpp4 _ F.out.now).1.l hlf).2 sb2.out).mono ?_); rintro e w43 ⟨rfl, hdr⟩; have hb_ := drawn_below hdr; replace F := Aside0.mk (FD.Hd.below F.out hb_); replace HB := Aside0.mk (below_step HB.out hb_); clear hdr hb_ QR)
          | fail)
        go_roundg (n - b)
        case measure => omega
        case rel => exact ⟨b + 1, (by first | rfl | (simp only [hw64]) | (simp [hw64])), by omega, by omega, ⟨F.out⟩, ⟨HB.out⟩⟩
end


end Go.Proofs.Ytdhjhadcadcceaa.PFnDisk
