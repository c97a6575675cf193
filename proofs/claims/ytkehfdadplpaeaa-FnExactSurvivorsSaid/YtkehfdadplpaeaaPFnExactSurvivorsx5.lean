-- written by a program of this session (wip/src/print2.py)
import Derived.Test.YtkehfdadplpaeaaPFnExactSurvivorsx0
import Derived.Test.YtkehfdadplpaeaaPFnExactSurvivorsx4
namespace Go.Proofs.Ytkehfdadplpaeaa.PFnExactSurvivors
open Go.RowKit Go.Proofs.YtkehfdadplpaeaaW.PrintWords Go.Proofs.YtkehfdadplpaeaaW.PrintLast Go.Proofs.YtkehfdadplpaeaaW.PrintMore
attribute [local go_sem] max2_int min2_int max_two min_two max_three min_three max_four min_four   -- for this text's walks alone
set_option linter.unusedVariables false
set_option linter.unusedSimpArgs false

/-! ### impl_Survivors: function 15 -/
section
open Go.Maps Go.Proofs
/-- A value of the map as it stands. -/
def MP.hv (v : Value) : Option (DataW Value × List MemPlace) := some (.held v, [])
theorem MP.key2 : Keyed Try.prog 2 := int_keyed Try.underlying2
theorem MP.zero59 (w : World) : (zeroValue 59).run Try.prog w = .ok (.slice none 0 0) w := by kernel_rfl
/-- The map says just what the list of homes says, which rises. -/
structure MP.Agree (b : Nat) (al : List S61) (D : DataW Value) (W : World) : Prop where
  tidy : Tidy D
  keys : ∀ k : Int, has D (.int .i64 k) = al.any (fun h => h.f0 == k)
  vals : ∀ h ∈ al, ∃ A c, (∀ z, D.atKey (.int .i64 h.f0) z = .held (.slice A h.f1.length c)) ∧ Kd.V (Kd.int .u8) 0 W 0 (fun k => k ≠ b) (.slice A h.f1.length c) h.f1
  up : al.Pairwise (fun x y => x.f0 < y.f0)
  wf : ∀ h ∈ al, (Lit.int .i64 h.f0).wf = true
theorem MP.perm {w : World} {b nn : Nat} {D : DataW Value} {al : List S61} {W : World} (hown : w.ownsMap Try.prog 2 hv b nn D) (ha : Agree b al D W) : (al.map (fun h => h.f0)).Perm (intKeys D) := by
  obtain ⟨es, hes, hpw, hk⟩ := hown.entries key2
  have hnd : (al.map (fun h => h.f0)).Nodup := by
    rw [List.nodup_iff_pairwise_ne, List.pairwise_map]
    exact ha.up.imp (fun h => Int.ne_of_lt h)
  have hk2 : ∀ p ∈ es, ∃ x, p.1 = .int .i64 x := by
    obtain ⟨es', hD', hko⟩ := hown.keysOf
    obtain rfl : es = es' := by rw [hes] at hD'; simpa using hD'
    intro p hp'
    obtain ⟨v, hv⟩ := hko p hp'
    obtain ⟨x, _, hx, _⟩ := Maps.keyOf_i64 Try.underlying2 hv
    exact ⟨x, hx⟩
  rw [hes]
  refine perm_intKeys hpw hk2 hnd (fun x => ?_)
  rw [← hes, ha.keys x, List.any_eq_true, List.mem_map]
  constructor
  · rintro ⟨h, hm, rfl⟩; exact ⟨h, hm, by simp⟩
  · rintro ⟨h, hm, e⟩; exact ⟨h, hm, by simpa using e⟩
theorem MP.row {w : World} {base : Nat} {v : Value} {al : List S61} (h : w.ownsRow base 2 1 v al.length ((al.map (fun h => h.f0)).map encZ)) : Kd.R (Kd.int .i64) 2 w base (fun _ => True) v (al.map (fun h => h.f0)) :=
  Kd.R_of_own (by rw [List.length_map]; exact h) (fun _ _ => trivial)
theorem MP.order {w : World} {b nn : Nat} {D : DataW Value} {al : List S61} {W : World} (hown : w.ownsMap Try.prog 2 hv b nn D) (ha : Agree b al D W) {ss : List Int} (hp : ss.Perm (intKeys D)) : ss.mergeSort (fun x y => decide (x ≤ y)) = al.map (fun h => h.f0) := by
  have h1 := perm hown ha
  have h2 : (ss.mergeSort (fun x y => decide (x ≤ y))).Perm (al.map (fun h => h.f0)) := (List.mergeSort_perm _ _).trans (hp.trans h1.symm)
  refine h2.eq_of_pairwise (le := fun x y => x ≤ y) (fun a b _ _ h h' => Int.le_antisymm h h') ?_ ?_
  · exact (List.pairwise_mergeSort (le := fun x y => decide (x ≤ y)) (fun a b c h h' => by simp at *; omega) (fun a b => by simp; omega) ss).imp (fun h => by simpa using h)
  · rw [List.pairwise_map]; exact ha.up.imp (fun h => Int.le_of_lt h)
/-- What the map hands back at a key that it has. -/
theorem MP.look {w : World} {b nn : Nat} {D : DataW Value} {al : List S61} {W : World} (hown : w.ownsMap Try.prog 2 hv b nn D) (ha : Agree b al D W) {h : S61} (hm : h ∈ al) :
    ∃ A c, (Instr.lookup 62 (.map (some b)) (.int .i64 h.f0) false).run Try.prog w = .ok (.slice A h.f1.length c) w ∧ Kd.V (Kd.int .u8) 0 W 0 (fun k => k ≠ b) (.slice A h.f1.length c) h.f1 := by
  obtain ⟨A, c, h1, h2⟩ := ha.vals h hm
  obtain ⟨v, ps, hrun, hR⟩ := hown.lookup key2 Try.underlying62 (zero59 w) (R := hv) (zd := .held (.slice none 0 0)) (zp := []) rfl (keyOf_int_mk Try.underlying2 (ha.wf h hm))
  rw [h1] at hR
  have e : v = .slice A h.f1.length c := by
    simp only [hv, Option.some.injEq, Prod.mk.injEq, DataW.held.injEq] at hR
    exact hR.1
  exact ⟨A, c, by rw [← e]; exact hrun, h2⟩
theorem MP.Agree.below {b : Nat} {al : List S61} {D : DataW Value} {W W1 : World} (h : Agree b al D W) (hb : Below W.heap.size W W1) : Agree b al D W1 :=
  ⟨h.tidy, h.keys, fun x hx => by obtain ⟨A, c, h1, h2⟩ := h.vals x hx; exact ⟨A, c, h1, Kd.V_below h2 hb⟩, h.up, h.wf⟩
set_option maxHeartbeats 8000000 in
set_option maxRecDepth 100000 in
/-- The homes of a map, in the order of their blocks. -/
theorem impl_homes.calls (b nn : Nat) (D : DataW Value) (al : List S61) (w : World) (hown : w.ownsMap Try.prog 2 MP.hv b nn D) (ha : MP.Agree b al D w) (hn : nn ≤ 1000000) (hl : al.length ≤ 1000000) (hd : ∀ h ∈ al, h.f1.length ≤ 1048576) :
    Calls Try.prog 35 #[.map (some b)] w fun e w' => ∃ v0_ : Value, e = .returned (v0_) ∧ Kd.S k61 61 w' w.heap.size (fun _ => True) v0_ al ∧ Below w.heap.size w w' := by
  have hu61 := Try.underlying61
  have hu74 := Try.underlying74
  have HA := Aside0.mk ha
  have HM := Aside0.mk hown
  have HL := Aside0.mk hl
  have HD := Aside0.mk hd
  have HN := Aside0.mk hn
  clear ha hown hl hd hn
  have HB := Aside0.mk (Below.refl w.heap.size w)
  go_enter Try.func35, Try.ntmps35
  go_wp2_with (first
    | ((with_reducible refine gate_dst (N := 4) rfl ?_); refine box_event ?hg (N := 4) ?hd (cs := #[.map none]) (t := 74) ?hr ?_; (case hd => rfl); (case hg => rfl); (case hr => first | (go_simp; done) | (go_simp; rfl)); intro gb4 hg w1 hbox hb; have HX := Aside0.mk (And.intro hg hbox); replace HB := Aside0.mk (below_step HB.out hb); clear hg hbox hb)
    | ((with_reducible refine gate_store (t := 74) (p := 4) rfl ?_); refine Box.store_cells (P := Try.prog) ?hg (t := 74) (p := .tmp 4) (x := .tmp 8) ?ho ?hn gb4 0 ?ha (u := .agg #[.map (some b)]) ?hx [.map (some b)] rfl (by kernel_rfl) (by intro q_ hq_; simp only [List.mem_cons, List.not_mem_nil, or_false] at hq_; subst hq_; rfl) #[.map none] #[.map (some b)] (e := 74) HX.out.2 (by show 0 + 1 ≤ 1; decide) rfl ?_; (case ho => rfl); (case hg => rfl); (case hn => rfl); (case ha => first | rfl | (go_simp; done) | (go_simp; rfl)); (case hx => first | rfl | (go_simp; done) | (go_simp; rfl)); intro w2 hbox hgr; replace HB := Aside0.mk (Box.below_grown HB.out hgr (Nat.le_of_eq HX.out.1.symm)); have HY := Aside0.mk hbox; clear hbox hgr; have hz : w2.cell? ⟨gb4, 0, none⟩ = some (.map (some b)) := (blk_cell HY.out 0).trans rfl)
    | ((with_reducible refine gate_callee (f := 48) rfl ?_); refine Rgn.gl (some 10) Try.func48 #[.agg #[.map (some b)]] ?_; (refine (Mpk.keys b nn D MP.hv _ (HM.out.kept (grown_of_below HB.out none) (by simp)) (Nat.le_trans HM.out.size_le (Nat.le_trans HN.out (by unfold maxLen; omega))) (by have := HM.out.size_le; have := HN.out; omega)).mono ?_); rintro e w3 ⟨v_, ss, rfl, hp, hrow, hb⟩; refine ⟨_, rfl, ?_⟩; rw [MP.order HM.out HA.out hp] at hrow; have hlen := (hp.trans (MP.perm HM.out HA.out).symm).length_eq; rw [List.length_map] at hlen; rw [hlen] at hrow; have HK := Aside0.mk (MP.row hrow); have HBK := HB; replace HB := Aside0.mk (below_step HB.out hb); clear hz hp hrow hb hlen HX HY; obtain ⟨AK, cK, eK⟩ := Kd.R_slice HK.out; subst eK; rw [List.length_map])
    | fail)
  go_loopg [3, 12] (al.length + 1) (fun kq v3 v12 w' => ∃ i : Nat, v12 = .int .i64 (i : Int) ∧ kq + i = al.length + 1 ∧ i ≤ al.length ∧ Aside0 (Kd.S k61 61 w' w.heap.size (fun _ => True) v3 (al.take i)) ∧ Aside0 (Kd.R (Kd.int .i64) 2 w' w.heap.size (fun _ => True) (.slice AK (al.map (fun h => h.f0)).length cK) (al.map (fun h => h.f0))) ∧ Aside0 (Below w.heap.size w w'))
  case atStart => exact ⟨0, (by first | rfl | simp), by omega, Nat.zero_le _, ⟨Kd.S_nil _ _ _ _ _⟩, ⟨Kd.R_lower HK.out HBK.out.size⟩, ⟨HB.out⟩⟩
  case round =>
    clear HB HK HBK
    obtain ⟨i, rfl, hki, hil, HS, HK, HB⟩ := hrel
    by_cases hi : i < al.length
    case neg =>
      obtain rfl : i = al.length := by omega
      have ci : decide ((al.length : Int) < (al.length : Int)) = false := decide_eq_false (by omega)
      rw [List.take_length] at HS
      go_wp2
      go_ret
      exact ⟨_, rfl, HS.out, HB.out⟩
    have p1 : 0 ≤ (i : Int) := Int.natCast_nonneg _
    have q1 : (i : Int) < (al.length : Int) := by omega
    have ci : decide ((i : Int) < (al.length : Int)) = true := decide_eq_true q1
    have hwi : IntKind.i64.wrap ((i : Int) + 1) = ((i + 1 : Nat) : Int) := by have := HL.out; rw [i64_w]; unfold wrap64; omega
    obtain ⟨x, hx⟩ : ∃ x, al[i] = x := ⟨_, rfl⟩
    have hm : x ∈ al := hx ▸ List.getElem_mem hi
    have hT : al.take (i + 1) = al.take i ++ [(⟨x.f0, x.f1⟩ : S61)] := by rw [List.take_succ_eq_append_getElem hi, hx]
    have hlm : (al.map (fun h => h.f0)).length = al.length := List.length_map _
    obtain ⟨ad1, e1, hx1⟩ := Kd.at_int (Kd.R_reads' HK.out).2.2 (i : Int) p1 (by rw [hlm]; exact q1)
    have hrd : rd (al.map (fun h => h.f0)) (i : Int) = x.f0 := by simp [rd, hi, hx]
    rw [hrd, Int.toNat_natCast] at hx1
    subst e1
    obtain ⟨Av, cv, hlk, hV⟩ := MP.look (HM.out.kept (grown_of_below HB.out none) (by simp)) (HA.out.below HB.out) hm
    have hcp : impl_cp.f x.f1 = some x.f1 := by have := HD.out x hm; unfold impl_cp.f; rw [Option.bind_some, if_pos (by simp only [List.length_nil]; omega), List.nil_append]
    have HV := Aside0.mk hV; have HT := Aside0.mk hT; have HCP := Aside0.mk hcp; have HI := Aside0.mk hi
    replace p1 := eq_true p1; replace q1 := eq_true q1
    clear hV hT hcp hrd hm hx hlm
    clear hi
    go_wp2_with (first
      | ((with_reducible refine gate_callee (f := 34) rfl ?_); refine Rgn.gl (some 21) Try.func34 #[.slice Av x.f1.length cv] ?_; (with_reducible refine (impl_cp.calls _ _ x.f1 x.f1 _ (Kd.V_reads' HV.out).2.2 (Kd.V_reads' HV.out).2.1 HCP.out).mono ?_); rintro e w11 ⟨v346, rfl, ho0, hb⟩; refine ⟨_, rfl, ?_⟩; replace HS := Aside0.mk (Kd.S_elder' HS.out (Kd.R_base ho0) hb); replace HK := Aside0.mk (Kd.R_below HK.out hb); have HO := Aside0.mk (Kd.R_lower ho0 HB.out.size); replace HB := Aside0.mk (below_step HB.out hb); clear hb ho0 hlk hx1; obtain ⟨Ao12, co12, eo12⟩ := Kd.R_slice HO.out; subst eo12)
      | ((with_reducible refine gate_builtin (b := .append) (xs := #[.tmp 16, .tmp 23]) rfl ?_); at_builtin; refine Kd.S_append k61 (w0 := w) w.heap.size rfl (.tmp 16) (.tmp 23) 32 61 (.agg #[(.int .i64 0), (.slice none 0 0)]) 32 rfl Try.underlying32 info61 rfl (by decide) (by omega) u3 (al.take i) (⟨x.f0, x.f1⟩ : S61) [.int .i64 x.f0, .slice Ao12 x.f1.length co12] (fun _ => True) (fun k_ => some k_ = (.slice Ao12 x.f1.length co12 : Value).ownBlock) rfl rfl ?aP (fun k_ hk_ => ((Kd.R_mono (ok' := fun k_ => ((fun _ => True)) k_ ∧ some k_ ≠ (u3 : Value).ownBlock) (Kd.R_apart' (HO.out) (Kd.S_typed HS.out) (by decide)) (fun k_ hk => ⟨trivial, hk.2⟩))).1 k_ hk_.symm) ?aF ?aO ?aB ?aS ?aL ?_; (case aP => exact k61_mkM _ _ _ (⟨x.f0, x.f1⟩ : S61) (Kd.R_mono (Kd.R_tight rfl (Kd.R_mono (ok' := fun k_ => ((fun _ => True)) k_ ∧ some k_ ≠ (u3 : Value).ownBlock) (Kd.R_apart' (HO.out) (Kd.S_typed HS.out) (by decide)) (fun k_ hk => ⟨trivial, hk.2⟩))) (fun _ h_ => h_))); (case aB => exact (Rgn.bq HB.out)); (case aF => exact (fun _ _ => trivial)); (case aO => exact (Rgn.sq (Kd.S_mono HS.out (fun k_ hk => ⟨trivial, fun e_ => hk.2 e_⟩)))); (case aS => exact (below_size (Rgn.bq HB.out))); (case aL => have := HL.out; have := HI.out; rw [List.length_take]; omega); intro v349 w13 ho hb hg hat; rw [← HT.out] at ho; replace HK := Aside0.mk (Kd.R_over' (Rgn.rq HK.out) (Kd.S_typed (Rgn.sq HS.out)) (by decide) hg); replace HB := Aside0.mk (hb); clear HS; have HS := Aside0.mk ho; clear HO ho hb hg hat)
      | fail)
    go_roundg (al.length - i)
    case measure => have := HI.out; omega
    case rel => exact ⟨i + 1, (by first | rfl | (simp only [hwi]) | (simp [hwi])), by have := HI.out; omega, by have := HI.out; omega, HS, HK, HB⟩
end
/-! ### the plain form of Survivors -/
section
open Go.Maps Go.Proofs
/-- Without the home of a block. -/
def SV.wo (al : List S61) (r : Int) : List S61 := al.filter (fun h => h.f0 != r)
/-- With one more home, or another in its place. -/
def SV.wi (al : List S61) (h : S61) : List S61 := al.filter (fun x => decide (x.f0 < h.f0)) ++ h :: al.filter (fun x => decide (h.f0 < x.f0))
def SV.tx (al : List S61) (t : S34) : List S61 := t.f1.foldl wi (t.f2.foldl wo al)
def SV.sv (l0 : List S34) : List S61 := l0.foldl tx []
def SV.cnt (l0 : List S34) : Nat := (l0.map (fun t => t.f1.length + t.f2.length)).sum
structure SV.Fit (l0 : List S34) : Prop where
  len : l0.length ≤ 1048576
  sum : cnt l0 ≤ 4398046511104
  rev : ∀ t ∈ l0, ∀ r ∈ t.f2, (Lit.int .i64 r).wf = true
  hom : ∀ t ∈ l0, ∀ h ∈ t.f1, (Lit.int .i64 h.f0).wf = true ∧ h.f1.length ≤ 1048576
def SV.f (l0 : List S34) : List S61 := if 512 < l0.length ∨ 10000 < cnt l0 then [] else sv l0
theorem SV.cnt_take {l0 : List S34} {i : Nat} (hi : i < l0.length) : cnt (l0.take (i + 1)) = cnt (l0.take i) + (l0[i].f1.length + l0[i].f2.length) := by
  unfold cnt; rw [List.take_succ_eq_append_getElem hi, List.map_append, List.sum_append]; simp only [List.map_cons, List.map_nil, List.sum_cons, List.sum_nil, Nat.add_zero]
theorem SV.cnt_le (l0 : List S34) (i : Nat) : cnt (l0.take i) ≤ cnt l0 := by
  have h := List.take_append_drop i l0
  calc cnt (l0.take i) ≤ cnt (l0.take i) + cnt (l0.drop i) := Nat.le_add_right _ _
    _ = cnt (l0.take i ++ l0.drop i) := by unfold cnt; rw [List.map_append, List.sum_append]
    _ = cnt l0 := by rw [h]
theorem SV.cnt_mem {l0 : List S34} {t : S34} (h : t ∈ l0) : t.f1.length + t.f2.length ≤ cnt l0 := by
  unfold cnt
  induction l0 with
  | nil => simp at h
  | cons a r ih =>
    rw [List.map_cons, List.sum_cons]
    rcases List.mem_cons.mp h with rfl | h
    · omega
    · have := ih h; omega
theorem SV.sv_take {l0 : List S34} {i : Nat} (hi : i < l0.length) : sv (l0.take (i + 1)) = tx (sv (l0.take i)) l0[i] := by
  unfold sv; rw [List.take_succ_eq_append_getElem hi, List.foldl_append]; rfl
theorem SV.fold_take {α β : Type} (f : β → α → β) (b : β) (l : List α) {i : Nat} (hi : i < l.length) : (l.take (i + 1)).foldl f b = f ((l.take i).foldl f b) l[i] := by
  rw [List.take_succ_eq_append_getElem hi, List.foldl_append]; rfl
theorem SV.wrap_small {x : Int} (h0 : 0 ≤ x) (h1 : x ≤ 17592186044416) : wrap64 x = x := by unfold wrap64; omega
/-- What stands in the list is a home that came in; there are at most so many. -/
structure SV.Of (l0 : List S34) (n : Nat) (al : List S61) : Prop where
  mem : ∀ h ∈ al, ∃ t ∈ l0, h ∈ t.f1
  len : al.length ≤ n
theorem SV.Of.wo {l0 : List S34} {n : Nat} {al : List S61} (h : Of l0 n al) (r : Int) : Of l0 n (SV.wo al r) :=
  ⟨fun x hx => h.mem x ((List.mem_filter.mp hx).1), Nat.le_trans (List.length_filter_le _ _) h.len⟩
theorem SV.two_filter (al : List S61) (k : Int) : (al.filter (fun x => decide (x.f0 < k))).length + (al.filter (fun x => decide (k < x.f0))).length ≤ al.length := by
  induction al with
  | nil => simp
  | cons a r ih =>
    simp only [List.filter_cons, List.length_cons]
    by_cases h1 : a.f0 < k
    · have h2 : ¬ k < a.f0 := by omega
      simp only [h1, h2, decide_true, decide_false, if_true, Bool.false_eq_true, if_false, List.length_cons]; omega
    · by_cases h2 : k < a.f0
      · simp only [h1, h2, decide_true, decide_false, if_true, Bool.false_eq_true, if_false, List.length_cons]; omega
      · simp only [h1, h2, decide_false, Bool.false_eq_true, if_false]; omega
theorem SV.Of.wi {l0 : List S34} {n : Nat} {al : List S61} (h : Of l0 n al) {x : S61} (hx : ∃ t ∈ l0, x ∈ t.f1) : Of l0 (n + 1) (SV.wi al x) := by
  refine ⟨fun y hy => ?_, ?_⟩
  · unfold SV.wi at hy
    rw [List.mem_append, List.mem_cons] at hy
    rcases hy with hy | rfl | hy
    · exact h.mem y ((List.mem_filter.mp hy).1)
    · exact hx
    · exact h.mem y ((List.mem_filter.mp hy).1)
  · unfold SV.wi
    rw [List.length_append, List.length_cons]
    have := two_filter al x.f0
    have := h.len
    omega
theorem SV.Of.wider {l0 : List S34} {n m : Nat} {al : List S61} (h : Of l0 n al) (hm : n ≤ m) : Of l0 m al := ⟨h.mem, Nat.le_trans h.len hm⟩
theorem MP.nil (b : Nat) (W : World) : Agree b [] (.map []) W :=
  ⟨⟨[], rfl, List.Pairwise.nil⟩, fun k => rfl, fun h hh => by simp at hh, List.Pairwise.nil, fun h hh => by simp at hh⟩
theorem MP.Agree.over {b : Nat} {al : List S61} {D : DataW Value} {W W1 : World} (h : Agree b al D W) (hg : W.grownBy W1 (some b)) : Agree b al D W1 :=
  ⟨h.tidy, h.keys, fun x hx => by obtain ⟨A, c, h1, h2⟩ := h.vals x hx; exact ⟨A, c, h1, Kd.V_grown h2 hg (fun k hk e => hk (Option.some.inj e))⟩, h.up, h.wf⟩
theorem MP.Agree.del {b : Nat} {al : List S61} {D : DataW Value} {W : World} (h : Agree b al D W) (r : Int) : Agree b (SV.wo al r) (D.del (.int .i64 r)) W := by
  refine ⟨h.tidy.del _, fun k => ?_, fun x hx => ?_, h.up.filter _, fun x hx => h.wf x ((List.mem_filter.mp hx).1)⟩
  · by_cases e : k = r
    · subst e
      rw [has_del_same]
      symm
      rw [List.any_eq_false]
      intro x hx
      have := (List.mem_filter.mp hx).2
      simpa using this
    · rw [has_del_other (fun h_ => e (by injection h_)), h.keys k]
      unfold SV.wo
      rw [List.any_filter]
      congr 1
      funext x
      by_cases e2 : x.f0 = k
      · simp [e2, e]
      · simp [e2]
  · obtain ⟨hx1, hx2⟩ := List.mem_filter.mp hx
    obtain ⟨A, c, h1, h2⟩ := h.vals x hx1
    refine ⟨A, c, fun z => ?_, h2⟩
    rw [atKey_del_other (fun h_ => by injection h_ with _ h_; simp [h_] at hx2), h1]
theorem MP.Agree.put {b : Nat} {al : List S61} {D : DataW Value} {W : World} (h : Agree b al D W) (x : S61) (hwf : (Lit.int .i64 x.f0).wf = true) {A : Option Addr} {c : Nat} (hV : Kd.V (Kd.int .u8) 0 W 0 (fun k => k ≠ b) (.slice A x.f1.length c) x.f1) :
    Agree b (SV.wi al x) (D.put (.int .i64 x.f0) (.held (.slice A x.f1.length c))) W := by
  refine ⟨h.tidy.put (k := .int .i64 x.f0) trivial _, fun k => ?_, fun y hy => ?_, ?_, fun y hy => ?_⟩
  · unfold SV.wi
    rw [List.any_append, List.any_cons, List.any_filter, List.any_filter]
    by_cases e : k = x.f0
    · subst e
      rw [has_put_same (k := .int .i64 x.f0) h.tidy.isMap trivial]
      simp
    · rw [has_put_other (fun h_ => e (by injection h_)), h.keys k]
      have e' : (x.f0 == k) = false := by simp; exact fun h_ => e h_.symm
      rw [e', Bool.false_or]
      generalize al = l
      induction l with
      | nil => rfl
      | cons a r ih =>
        simp only [List.any_cons]
        rw [ih]
        by_cases e2 : a.f0 = k
        · subst e2
          rcases Int.lt_trichotomy a.f0 x.f0 with h1 | h1 | h1
          · simp [h1]
          · exact absurd h1 e
          · simp [h1]
        · have e3 : (a.f0 == k) = false := by simp; exact e2
          simp [e3]
  · unfold SV.wi at hy
    rw [List.mem_append, List.mem_cons] at hy
    have key : ∀ y ∈ al, y.f0 ≠ x.f0 → ∃ A' c', (∀ z, (D.put (.int .i64 x.f0) (.held (.slice A x.f1.length c))).atKey (.int .i64 y.f0) z = .held (.slice A' y.f1.length c')) ∧ Kd.V (Kd.int .u8) 0 W 0 (fun k => k ≠ b) (.slice A' y.f1.length c') y.f1 := by
      intro y hy hne
      obtain ⟨A', c', h1, h2⟩ := h.vals y hy
      exact ⟨A', c', fun z => by rw [atKey_put_other (fun h_ => hne (by injection h_)), h1], h2⟩
    rcases hy with hy | rfl | hy
    · obtain ⟨hy1, hy2⟩ := List.mem_filter.mp hy
      exact key y hy1 (by have := of_decide_eq_true hy2; omega)
    · exact ⟨A, c, fun z => atKey_put_same (k := .int .i64 y.f0) h.tidy.isMap trivial _ _, hV⟩
    · obtain ⟨hy1, hy2⟩ := List.mem_filter.mp hy
      exact key y hy1 (by have := of_decide_eq_true hy2; omega)
  · unfold SV.wi
    rw [List.pairwise_append, List.pairwise_cons]
    refine ⟨h.up.filter _, ⟨fun y hy => of_decide_eq_true (List.mem_filter.mp hy).2, h.up.filter _⟩, fun y hy z hz => ?_⟩
    have h1 := of_decide_eq_true (List.mem_filter.mp hy).2
    rw [List.mem_cons] at hz
    rcases hz with rfl | hz
    · exact h1
    · have h2 := of_decide_eq_true (List.mem_filter.mp hz).2
      exact Int.lt_trans h1 h2
  · unfold SV.wi at hy
    rw [List.mem_append, List.mem_cons] at hy
    rcases hy with hy | rfl | hy
    · exact h.wf y ((List.mem_filter.mp hy).1)
    · exact hwf
    · exact h.wf y ((List.mem_filter.mp hy).1)
section
variable {P : Program} {ops : Array Oper} {Q : Exit → Act → World → Prop} {Kc : Act → World → Prop}
/-- 'm[k] = v' where operations' order is drawn. -/
theorem MP.upd_step {H : Type} {o : Oper} {a : Act} {w : World} (hw : Region.wanted o (yielded ops a.tmps) = true) {N : Option Tmp} (hN : o.dst = N) (m x v : Operand) (t : TypeId) (hop : o.op = Op.mapUpdate t m x v)
    (k e : TypeId) (K : Keyed P k) (ht : P.underlying t = some (.map k e)) (R : Value → Option (DataW H × List MemPlace)) (b n : Nat) (D : DataW H)
    (hm : a.eval m = .map (some b)) (hown : w.ownsMap P k R b n D) (hn : n < maxLen) (key val : Value) (kl : Lit) (hx : a.eval x = key) (hv : a.eval v = val) (hkey : keyOf P k key = some kl)
    (d : DataW H) (ps : List MemPlace) (hval : R val = some (d, ps))
    (hK : ∀ w', w'.ownsMap P k R b (n + 1) (D.put kl d) → w.grownBy w' (some b) → Kc (a.put N undef) w') : if Region.wanted o (yielded ops a.tmps) = true then Oper.wp P o a w Kc Q else Kc (a.put N undef) w := by
  subst hN
  rw [if_pos hw]
  obtain ⟨w', hrun, r1, r2⟩ := hown.store K ht hn hkey hval
  unfold Oper.wp
  simp [execOp, hop, hm, hx, hv, hrun, Result.andThen]
  exact hK w' r1 r2.grown
end
end
section
open Go.Maps Go.Proofs
section
variable {P : Program} {ops : Array Oper} {rest : List Oper} {o : Oper} {a : Act} {Q : Exit → Act → World → Prop}
/-- 'make(map[K]V)'. -/
theorem MP.make_event {H : Type} (k : TypeId) (R : Value → Option (DataW H × List MemPlace)) {W : World} (hgd : o.guard = none) {N : Tmp} (_hd : o.dst = some N)
    (hrun : (execOp a.eval o).run P W = .ok (.value (.map (some W.heap.size))) (W.alloc (.map #[] 0)))
    (h : ∀ g, g = W.heap.size → ∀ w1, w1.ownsMap P k R g 0 (.map []) → Below W.heap.size W w1 → wpList P ops Q rest (a.put o.dst (.map (some g))) w1) : wpList P ops Q (o :: rest) a W :=
  Kd.event_run hgd hrun (h _ rfl _ (World.ownsMap_made W P k R) (below_alloc (Below.refl _ _) _))
end
def impl_Survivors.T21 : Bool × List (List Nat × List Nat) := (true, [([], []), ([], []), ([1], [1]), ([], []), ([3], [3]), ([4], [4]), ([0, 2, 5, 5, 0, 1, 2, 3, 4, 5], [0, 2, 5])])
def impl_Survivors.B21 : List Nat := [0, 0, 2, 0, 8, 24, 63]
theorem impl_Survivors.tab21 : rtab .any (opsOf Try.f15 21) = impl_Survivors.T21 := by kernel_rfl
theorem impl_Survivors.bits21 : waitsOk impl_Survivors.T21.2 impl_Survivors.B21 = true := by kernel_rfl
set_option maxHeartbeats 8000000 in
set_option maxRecDepth 100000 in
/-- What the log's transactions leave. -/
theorem impl_Survivors.calls (A0 : Option Addr) (c0 : Nat) (l0 : List S34) (w : World) (hr0 : Kd.C k34 w A0 l0.length l0) (hc0 : l0.length ≤ c0) (hf : SV.Fit l0) :
    Calls Try.prog 15 #[.slice A0 l0.length c0] w fun e w' => ∃ v0_ : Value, e = .returned (v0_) ∧ Kd.S k61 61 w' w.heap.size (fun _ => True) v0_ (SV.f l0) ∧ Below w.heap.size w w' := by
  have hu34 := Try.underlying34
  have hu61 := Try.underlying61
  have HR0 := Aside0.mk hr0
  have HC0 := Aside0.mk hc0
  have HF := Aside0.mk hf
  clear hr0 hc0 hf
  have HB := Aside0.mk (Below.refl w.heap.size w)
  go_enter Try.func15, Try.ntmps15
  go_wp2
  go_loopg [3, 15] (l0.length + 1) (fun kq v3 v15 w' => ∃ i : Nat, v3 = .int .i64 ((SV.cnt (l0.take i) : Nat) : Int) ∧ v15 = .int .i64 (i : Int) ∧ kq + i = l0.length + 1 ∧ i ≤ l0.length ∧ Aside0 (Below w.heap.size w w'))
  case atStart => exact ⟨0, (by first | rfl | simp [SV.cnt]), (by first | rfl | simp), by omega, Nat.zero_le _, ⟨HB.out⟩⟩
  case round =>
    clear HB
    obtain ⟨i, rfl, rfl, hki, hil, HB⟩ := hrel
    by_cases hi : i < l0.length
    case pos =>
      have p1 : 0 ≤ (i : Int) := Int.natCast_nonneg _
      have q1 : (i : Int) < (l0.length : Int) := by omega
      have ci : decide ((i : Int) < (l0.length : Int)) = true := decide_eq_true q1
      have hwi : IntKind.i64.wrap ((i : Int) + 1) = ((i + 1 : Nat) : Int) := by have := HF.out.len; rw [i64_w]; unfold wrap64; omega
      obtain ⟨ad, A1, c1, A2, c2, e1, hx0, hx1, hx2, hl1, hi1, hl2, hi2⟩ := at_T34 HR0.out (i : Int) p1 q1
      have hrt : rd_T34 l0 (i : Int) = l0[i] := by simp [rd_T34, hi]
      have hct := SV.cnt_take hi
      have hcl := SV.cnt_le l0 (i + 1)
      rw [hrt] at hx0 hx1 hx2 hl1 hi1 hl2 hi2
      rw [Int.toNat_natCast] at hx0 hx1 hx2
      obtain ⟨t, htt⟩ : ∃ t, l0[i] = t := ⟨_, rfl⟩
      rw [htt] at hx0 hx1 hx2 hl1 hi1 hl2 hi2 hct
      subst e1
      rw [hct] at hcl
      have hwn : wrap64 (((SV.cnt (l0.take i) : Nat) : Int) + wrap64 ((t.f1.length : Int) + (t.f2.length : Int))) = ((SV.cnt (l0.take (i + 1)) : Nat) : Int) := by
        have hsum := HF.out.sum
        rw [SV.wrap_small (x := (t.f1.length : Int) + (t.f2.length : Int)) (by omega) (by omega), SV.wrap_small (by omega) (by omega)]
        omega
      replace hx0 := Rgn.hx HB.out hx0
      replace hx1 := Rgn.hx HB.out hx1
      replace hx2 := Rgn.hx HB.out hx2
      have HI := Aside0.mk hi
      clear hi hrt hct hcl htt hl1 hi1 hl2 hi2
      replace p1 := eq_true p1; replace q1 := eq_true q1
      go_wp2_with (first
        | ((with_reducible refine gate_dst (N := 5) rfl ?_); refine box_event ?hg (N := 5) ?hd (cs := #[.int .i64 0, .slice none 0 0, .slice none 0 0]) (t := 34) ?hr ?_; (case hd => rfl); (case hg => rfl); (case hr => first | (go_simp; done) | (go_simp; rfl)); intro gb5 hg w1 hbox hb; have HX := Aside0.mk hbox; have HG := Aside0.mk (by rw [hg]; exact below_size HB.out : w.heap.size ≤ gb5); replace HB := Aside0.mk (below_step HB.out hb); clear hg hbox hb hx0 hx1 hx2)
        | ((with_reducible refine gate_store (t := 34) (p := 5) rfl ?_); refine Box.store_cells (P := Try.prog) ?hg (t := 34) (p := .tmp 5) (x := .tmp 18) ?ho ?hn gb5 0 ?ha (u := .agg #[.int .i64 t.f0, .slice A1 t.f1.length c1, .slice A2 t.f2.length c2]) ?hx [.int .i64 t.f0, .slice A1 t.f1.length c1, .slice A2 t.f2.length c2] rfl (by kernel_rfl) (by intro q_ hq_; simp only [List.mem_cons, List.not_mem_nil, or_false] at hq_; rcases hq_ with rfl | rfl | rfl <;> rfl) #[.int .i64 0, .slice none 0 0, .slice none 0 0] #[.int .i64 t.f0, .slice A1 t.f1.length c1, .slice A2 t.f2.length c2] (e := 34) HX.out (by show 0 + 3 ≤ 3; decide) rfl ?_; (case ho => rfl); (case hg => rfl); (case hn => rfl); (case ha => first | rfl | (go_simp; done) | (go_simp; rfl)); (case hx => first | rfl | (go_simp; done) | (go_simp; rfl)); intro w2 hbox hgr; replace HB := Aside0.mk (Box.below_grown HB.out hgr HG.out); have hz1 := Rgn.cz1 hbox; have hz2 := Rgn.cz2 hbox; clear hbox hgr HX HG)
        | fail)
      go_roundg (l0.length - i)
      case measure => have := HI.out; omega
      case rel => exact ⟨i + 1, (by first | rfl | (simp only [hwn]) | (simp [hwn])), (by first | rfl | (simp only [hwi]) | (simp [hwi])), by have := HI.out; omega, by have := HI.out; omega, HB⟩
    obtain rfl : i = l0.length := by omega
    have ci : decide ((l0.length : Int) < (l0.length : Int)) = false := decide_eq_false (by omega)
    rw [List.take_length]
    clear hi hki hil
    by_cases h1 : 512 < l0.length
    · have c1 : decide (512 < (l0.length : Int)) = true := decide_eq_true (by omega)
      have c1' : decide (512 < l0.length) = true := decide_eq_true h1
      have hfl : SV.f l0 = [] := if_pos (Or.inl h1)
      clear h1
      go_wp2
      go_ret
      exact ⟨_, rfl, by rw [hfl]; exact Kd.S_nil _ _ _ _ _, HB.out⟩
    have c1 : decide (512 < (l0.length : Int)) = false := decide_eq_false (by omega)
    have c1' : decide (512 < l0.length) = false := decide_eq_false h1
    by_cases h2 : 10000 < SV.cnt l0
    · have c2 : decide (10000 < ((SV.cnt l0 : Nat) : Int)) = true := decide_eq_true (by omega)
      have c2' : decide (10000 < SV.cnt l0) = true := decide_eq_true h2
      have hfl : SV.f l0 = [] := if_pos (Or.inr h2)
      clear h1 h2
      go_wp2
      go_ret
      exact ⟨_, rfl, by rw [hfl]; exact Kd.S_nil _ _ _ _ _, HB.out⟩
    have c2 : decide (10000 < ((SV.cnt l0 : Nat) : Int)) = false := decide_eq_false (by omega)
    have c2' : decide (10000 < SV.cnt l0) = false := decide_eq_false h2
    have hfl : SV.f l0 = SV.sv l0 := if_neg (by omega)
    have HFL := Aside0.mk hfl
    have HL := Aside0.mk (show l0.length ≤ 512 by omega)
    have HN := Aside0.mk (show SV.cnt l0 ≤ 10000 by omega)
    clear hfl h1 h2
    go_wp2_with (first
      | ((with_reducible refine gate_dst (N := 36) rfl ?_); refine MP.make_event 2 MP.hv ?hg (N := 36) ?hd ?hr ?_; (case hd => rfl); (case hg => rfl); (case hr => first | (go_simp; done) | (go_simp; rfl)); intro b hg w1 hown hb; have HM := Aside0.mk hown; have HG := Aside0.mk (by rw [hg]; exact below_size HB.out : w.heap.size ≤ b); replace HB := Aside0.mk (below_step HB.out hb); clear hg hown hb)
      | fail)
    go_loopg [39] (l0.length + 1) (fun kq v39 w' => ∃ (i nn : Nat) (D : DataW Value), v39 = .int .i64 (i : Int) ∧ kq + i = l0.length + 1 ∧ i ≤ l0.length ∧ Aside0 (nn ≤ SV.cnt (l0.take i)) ∧ Aside0 (w'.ownsMap Try.prog 2 MP.hv b nn D) ∧ Aside0 (MP.Agree b (SV.sv (l0.take i)) D w') ∧ Aside0 (SV.Of l0 (SV.cnt (l0.take i)) (SV.sv (l0.take i))) ∧ Aside0 (Below w.heap.size w w'))
    case atStart => exact ⟨0, 0, .map [], (by first | rfl | simp), by omega, Nat.zero_le _, ⟨Nat.zero_le _⟩, ⟨HM.out⟩, ⟨MP.nil _ _⟩, ⟨⟨fun h hh => by simp [SV.sv] at hh, by simp [SV.sv]⟩⟩, ⟨HB.out⟩⟩
    case round =>
      clear HB HM c1 c1' c2 c2' ci
      obtain ⟨i, nn, D, rfl, hki, hil, HQ, HM, HA, HO, HB⟩ := hrel
      by_cases hi : i < l0.length
      case neg =>
        obtain rfl : i = l0.length := by omega
        have ci : decide ((l0.length : Int) < (l0.length : Int)) = false := decide_eq_false (by omega)
        rw [List.take_length] at HQ HA HO
        clear hi hki hil
        go_wp2_with (first
          | ((with_reducible refine gate_callee (f := 35) rfl ?_); refine Rgn.gl (some 69) Try.func35 #[.map (some b)] ?_; (refine (impl_homes.calls b nn D (SV.sv l0) _ HM.out HA.out (by have := HQ.out; have := HN.out; omega) (by have := HO.out.len; have := HN.out; omega) (fun h hh => by obtain ⟨t_, ht_, hh_⟩ := HO.out.mem h hh; exact (HF.out.hom t_ ht_ h hh_).2)).mono ?_); rintro e w5 ⟨v5_, rfl, hS, hb⟩; refine ⟨_, rfl, ?_⟩; have HS := Aside0.mk (Kd.S_lower hS (below_size HB.out)); replace HB := Aside0.mk (below_step HB.out hb); clear hS hb)
          | fail)
        go_ret
        exact ⟨_, rfl, by rw [HFL.out]; exact HS.out, HB.out⟩
      have p1 : 0 ≤ (i : Int) := Int.natCast_nonneg _
      have q1 : (i : Int) < (l0.length : Int) := by omega
      have ci : decide ((i : Int) < (l0.length : Int)) = true := decide_eq_true q1
      have hwi : IntKind.i64.wrap ((i : Int) + 1) = ((i + 1 : Nat) : Int) := by have := HF.out.len; rw [i64_w]; unfold wrap64; omega
      obtain ⟨ad, A1, c1, A2, c2, e1, hx0, hx1, hx2, hl1, hi1, hl2, hi2⟩ := at_T34 HR0.out (i : Int) p1 q1
      have hrt : rd_T34 l0 (i : Int) = l0[i] := by simp [rd_T34, hi]
      have hct := SV.cnt_take hi
      have hst := SV.sv_take hi
      have hmt : l0[i] ∈ l0 := List.getElem_mem hi
      rw [hrt] at hx0 hx1 hx2 hl1 hi1 hl2 hi2
      rw [Int.toNat_natCast] at hx0 hx1 hx2
      obtain ⟨t, htt⟩ : ∃ t, l0[i] = t := ⟨_, rfl⟩
      rw [htt] at hx0 hx1 hx2 hl1 hi1 hl2 hi2 hct hst hmt
      subst e1
      have hcm := SV.cnt_mem hmt
      replace hx0 := Rgn.hx HB.out hx0
      replace hx1 := Rgn.hx HB.out hx1
      replace hx2 := Rgn.hx HB.out hx2
      have HR1 := Aside0.mk hi1
      have HR2 := Aside0.mk hi2
      have HI := Aside0.mk hi
      have HT := Aside0.mk hmt
      have HCT := Aside0.mk hct
      have HST := Aside0.mk hst
      have HCM := Aside0.mk hcm
      have HWI := Aside0.mk hwi
      have HKI := Aside0.mk hki
      clear hi hrt hct hst hmt hcm htt hl1 hi1 hl2 hi2 hwi hki hil
      obtain ⟨n0, hn0⟩ : ∃ n0, SV.cnt (l0.take i) = n0 := ⟨_, rfl⟩
      rw [hn0] at HQ HO HCT
      obtain ⟨al, hal⟩ : ∃ al, SV.sv (l0.take i) = al := ⟨_, rfl⟩
      rw [hal] at HA HO HST
      clear hn0 hal
      replace p1 := eq_true p1; replace q1 := eq_true q1
      go_wp2_with (first
        | ((with_reducible refine gate_dst (N := 8) rfl ?_); refine box_event ?hg (N := 8) ?hd (cs := #[.int .i64 0, .slice none 0 0, .slice none 0 0]) (t := 34) ?hr ?_; (case hd => rfl); (case hg => rfl); (case hr => first | (go_simp; done) | (go_simp; rfl)); intro gb8 hg w1 hbox hb; have HX := Aside0.mk hbox; have HG8 := Aside0.mk (by rw [hg]; exact below_size HB.out : w.heap.size ≤ gb8); have HNE8 := Aside0.mk (show gb8 ≠ b from by have := HM.out.lt; omega); replace HM := Aside0.mk (HM.out.kept (grown_of_below hb none) (by simp)); have HD := Aside0.mk hb; have HE := Aside0.mk (Nat.le_of_eq hg.symm); replace HB := Aside0.mk (below_step HB.out hb); clear hg hbox hb hx0 hx1 hx2)
        | ((with_reducible refine gate_store (t := 34) (p := 8) rfl ?_); refine Box.store_cells (P := Try.prog) ?hg (t := 34) (p := .tmp 8) (x := .tmp 42) ?ho ?hn gb8 0 ?ha (u := .agg #[.int .i64 t.f0, .slice A1 t.f1.length c1, .slice A2 t.f2.length c2]) ?hx [.int .i64 t.f0, .slice A1 t.f1.length c1, .slice A2 t.f2.length c2] rfl (by kernel_rfl) (by intro q_ hq_; simp only [List.mem_cons, List.not_mem_nil, or_false] at hq_; rcases hq_ with rfl | rfl | rfl <;> rfl) #[.int .i64 0, .slice none 0 0, .slice none 0 0] #[.int .i64 t.f0, .slice A1 t.f1.length c1, .slice A2 t.f2.length c2] (e := 34) HX.out (by show 0 + 3 ≤ 3; decide) rfl ?_; (case ho => rfl); (case hg => rfl); (case hn => rfl); (case ha => first | rfl | (go_simp; done) | (go_simp; rfl)); (case hx => first | rfl | (go_simp; done) | (go_simp; rfl)); intro w2 hbox hgr; replace HM := Aside0.mk (HM.out.kept hgr (by intro e_; exact HNE8.out (Option.some.inj e_).symm)); replace HA := Aside0.mk (HA.out.below (Box.below_grown HD.out hgr HE.out)); replace HB := Aside0.mk (Box.below_grown HB.out hgr HG8.out); have HK := Aside0.mk hbox; have hz2 := Rgn.cz2 hbox; clear hbox hgr HX HD HE)
        | fail)
      clear hz2 p1 q1 ci
      go_loopg [46] (t.f2.length + 1) (fun kq v46 w' => ∃ (j : Nat) (D : DataW Value), v46 = .int .i64 (j : Int) ∧ kq + j = t.f2.length + 1 ∧ j ≤ t.f2.length ∧ Aside0 (w'.ownsMap Try.prog 2 MP.hv b nn D) ∧ Aside0 (MP.Agree b ((t.f2.take j).foldl SV.wo al) D w') ∧ Aside0 (SV.Of l0 n0 ((t.f2.take j).foldl SV.wo al)) ∧ Aside0 (w'.heap[gb8]? = some (.cells #[.int .i64 t.f0, .slice A1 t.f1.length c1, .slice A2 t.f2.length c2] 34 (0, 0))) ∧ Aside0 (Below w.heap.size w w'))
      case atStart => exact ⟨0, D, (by first | rfl | simp), by omega, Nat.zero_le _, ⟨HM.out⟩, ⟨HA.out⟩, ⟨HO.out⟩, ⟨HK.out⟩, ⟨HB.out⟩⟩
      case round =>
        clear HM HA HO HK HB
        obtain ⟨j, D, rfl, hkj, hjl, HM, HA, HO, HK, HB⟩ := hrel
        by_cases hj : j < t.f2.length
        case pos =>
          have p2 : 0 ≤ (j : Int) := Int.natCast_nonneg _
          have q2 : (j : Int) < (t.f2.length : Int) := by omega
          have cj : decide ((j : Int) < (t.f2.length : Int)) = true := decide_eq_true q2
          have hwj : IntKind.i64.wrap ((j : Int) + 1) = ((j + 1 : Nat) : Int) := by have := HF.out.sum; have := HCM.out; rw [i64_w]; unfold wrap64; omega
          obtain ⟨ad2, e2, hy⟩ := Kd.at_int HR2.out (j : Int) p2 q2
          have hrd : rd t.f2 (j : Int) = t.f2[j] := by simp [rd, hj]
          have hft := SV.fold_take SV.wo al t.f2 hj
          have hmr : t.f2[j] ∈ t.f2 := List.getElem_mem hj
          rw [hrd, Int.toNat_natCast] at hy
          obtain ⟨r, hrr⟩ : ∃ r, t.f2[j] = r := ⟨_, rfl⟩
          rw [hrr] at hy hft hmr
          subst e2
          replace hy := Rgn.hx HB.out hy
          have hwf := HF.out.rev t HT.out r hmr
          have HFT := Aside0.mk hft
          have HJ := Aside0.mk hj
          have HWF := Aside0.mk hwf
          clear hj hrd hrr hft hmr hwf
          replace p2 := eq_true p2; replace q2 := eq_true q2
          go_wp2_with (first
            | (at_delete; refine wpList_delete_own _ rfl _ _ 62 2 rfl 59 MP.key2 Try.underlying62 MP.hv b nn D rfl HM.out _ _ rfl (keyOf_int_mk Try.underlying2 HWF.out) ?_; intro w5 hown5 ht5; replace HM := Aside0.mk hown5; replace HA := Aside0.mk ((HA.out.over ht5.grown).del r); replace HO := Aside0.mk (HO.out.wo r); replace HK := Aside0.mk (blk_grown HK.out ht5.grown (by intro e_; exact HNE8.out (Option.some.inj e_))); replace HB := Aside0.mk (Box.below_grown HB.out ht5.grown HG.out); rw [← HFT.out] at HA HO; clear hown5 ht5 hy)
            | fail)
          go_roundg (t.f2.length - j)
          case measure => have := HJ.out; omega
          case rel => exact ⟨j + 1, _, (by first | rfl | (simp only [hwj]) | (simp [hwj])), by have := HJ.out; omega, by have := HJ.out; omega, HM, HA, HO, HK, HB⟩
        obtain rfl : j = t.f2.length := by omega
        have cj : decide ((t.f2.length : Int) < (t.f2.length : Int)) = false := decide_eq_false (by omega)
        rw [List.take_length] at HA HO
        clear hj hkj hjl
        have hz1 := Rgn.cz1 HK.out
        obtain ⟨al2, hal2⟩ : ∃ al2, t.f2.foldl SV.wo al = al2 := ⟨_, rfl⟩
        rw [hal2] at HA HO
        have HAL := Aside0.mk hal2
        clear hal2
        go_wp2
        clear hz1 cj
        go_loopg [56] (t.f1.length + 1) (fun kq v56 w' => ∃ (j nn : Nat) (D : DataW Value), v56 = .int .i64 (j : Int) ∧ kq + j = t.f1.length + 1 ∧ j ≤ t.f1.length ∧ Aside0 (nn ≤ n0 + j) ∧ Aside0 (w'.ownsMap Try.prog 2 MP.hv b nn D) ∧ Aside0 (MP.Agree b ((t.f1.take j).foldl SV.wi al2) D w') ∧ Aside0 (SV.Of l0 (n0 + j) ((t.f1.take j).foldl SV.wi al2)) ∧ Aside0 (Below w.heap.size w w'))
        case atStart => exact ⟨0, nn, D, (by first | rfl | simp), by omega, Nat.zero_le _, ⟨HQ.out⟩, ⟨HM.out⟩, ⟨HA.out⟩, ⟨HO.out⟩, ⟨HB.out⟩⟩
        case round =>
          clear HM HA HO HK HB HQ
          obtain ⟨j, nn, D, rfl, hkj, hjl, HQ, HM, HA, HO, HB⟩ := hrel
          by_cases hj : j < t.f1.length
          case neg =>
            obtain rfl : j = t.f1.length := by omega
            have cj : decide ((t.f1.length : Int) < (t.f1.length : Int)) = false := decide_eq_false (by omega)
            rw [List.take_length] at HA HO
            clear hj hkj hjl
            have hwi := HWI.out
            have HST2 := Aside0.mk (show SV.sv (l0.take (i + 1)) = t.f1.foldl SV.wi al2 by rw [HST.out, ← HAL.out]; rfl)
            rw [← HST2.out] at HA HO
            go_wp2
            go_roundg (l0.length - i)
            case measure => have := HI.out; have := HKI.out; omega
            case rel => exact ⟨i + 1, nn, D, (by first | rfl | (simp only [hwi]) | (simp [hwi])), by have := HI.out; have := HKI.out; omega, by have := HI.out; omega, ⟨by have := HQ.out; have := HCT.out; omega⟩, HM, HA, ⟨HO.out.wider (by have := HCT.out; omega)⟩, HB⟩
          have p3 : 0 ≤ (j : Int) := Int.natCast_nonneg _
          have q3 : (j : Int) < (t.f1.length : Int) := by omega
          have cj : decide ((j : Int) < (t.f1.length : Int)) = true := decide_eq_true q3
          have hwj : IntKind.i64.wrap ((j : Int) + 1) = ((j + 1 : Nat) : Int) := by have := HF.out.sum; have := HCM.out; rw [i64_w]; unfold wrap64; omega
          obtain ⟨ad3, A3, c3, e3, hy0, hy1, hl3, hi3⟩ := at_T61 HR1.out (j : Int) p3 q3
          have hrd : rd_T61 t.f1 (j : Int) = t.f1[j] := by simp [rd_T61, hj]
          have hft := SV.fold_take SV.wi al2 t.f1 hj
          have hmr : t.f1[j] ∈ t.f1 := List.getElem_mem hj
          rw [hrd] at hy0 hy1 hl3 hi3
          rw [Int.toNat_natCast] at hy0 hy1
          obtain ⟨h, hhh⟩ : ∃ h, t.f1[j] = h := ⟨_, rfl⟩
          rw [hhh] at hy0 hy1 hl3 hi3 hft hmr
          subst e3
          replace hy0 := Rgn.hx HB.out hy0
          replace hy1 := Rgn.hx HB.out hy1
          have hof := HF.out.hom t HT.out h hmr
          have hcp : impl_cp.f h.f1 = some h.f1 := by have := hof.2; unfold impl_cp.f; rw [Option.bind_some, if_pos (by simp only [List.length_nil]; omega), List.nil_append]
          have HR3 := Aside0.mk hi3; have HL3 := Aside0.mk hl3
          have HFT := Aside0.mk hft; have HJ := Aside0.mk hj; have HMR := Aside0.mk hmr; have HOF := Aside0.mk hof; have HCP := Aside0.mk hcp
          have HKJ := Aside0.mk hkj; have HWJ := Aside0.mk hwj
          clear hj hrd hhh hft hmr hof hcp hi3 hl3 hkj hjl hwj
          replace p3 := eq_true p3; replace q3 := eq_true q3
          go_wp2_with (first
            | ((with_reducible refine gate_dst (N := 12) rfl ?_); refine box_event ?hg (N := 12) ?hd (cs := #[.int .i64 0, .slice none 0 0]) (t := 61) ?hr ?_; (case hd => rfl); (case hg => rfl); (case hr => first | (go_simp; done) | (go_simp; rfl)); intro gb12 hg w1 hbox hb; have HX := Aside0.mk hbox; have HG12 := Aside0.mk (by rw [hg]; exact below_size HB.out : w.heap.size ≤ gb12); have HNE12 := Aside0.mk (show gb12 ≠ b from by have := HM.out.lt; omega); replace HM := Aside0.mk (HM.out.kept (grown_of_below hb none) (by simp)); have HD := Aside0.mk hb; have HE := Aside0.mk (Nat.le_of_eq hg.symm); replace HB := Aside0.mk (below_step HB.out hb); clear hg hbox hb hy0 hy1)
            | ((with_reducible refine gate_store (t := 61) (p := 12) rfl ?_); refine Box.store_cells (P := Try.prog) ?hg (t := 61) (p := .tmp 12) (x := .tmp 59) ?ho ?hn gb12 0 ?ha (u := .agg #[.int .i64 h.f0, .slice A3 h.f1.length c3]) ?hx [.int .i64 h.f0, .slice A3 h.f1.length c3] rfl (by kernel_rfl) (by intro q_ hq_; simp only [List.mem_cons, List.not_mem_nil, or_false] at hq_; rcases hq_ with rfl | rfl <;> rfl) #[.int .i64 0, .slice none 0 0] #[.int .i64 h.f0, .slice A3 h.f1.length c3] (e := 61) HX.out (by show 0 + 2 ≤ 2; decide) rfl ?_; (case ho => rfl); (case hg => rfl); (case hn => rfl); (case ha => first | rfl | (go_simp; done) | (go_simp; rfl)); (case hx => first | rfl | (go_simp; done) | (go_simp; rfl)); intro w2 hbox hgr; replace HM := Aside0.mk (HM.out.kept hgr (by intro e_; exact HNE12.out (Option.some.inj e_).symm)); replace HA := Aside0.mk (HA.out.below (Box.below_grown HD.out hgr HE.out)); replace HB := Aside0.mk (Box.below_grown HB.out hgr HG12.out); have HK := Aside0.mk hbox; clear hbox hgr HX HD HE)
            | fail)
          (try simp only [Act.put, List.setIfInBounds_toArray, List.set_cons_zero, List.set_cons_succ])
          have HM1 := Aside0.mk HM.out.drew
          have HA1 := Aside0.mk (HA.out.below (W1 := w2.drew) (Below.refl _ _).drew)
          have HK1 := Aside0.mk (blk_drew HK.out)
          have HB1 := Aside0.mk (below_drew1 HB.out)
          clear HM HA HK HB
          refine start_ (n := 7) (S := fun w' => w'.cell? ⟨gb12, 0, none⟩ = some (.int .i64 h.f0) ∧ w'.cell? ⟨gb12, 1, none⟩ = some (.slice A3 h.f1.length c3)) (ds := []) #[false, false, false, false, false, false, false] (by kernel_rfl) rfl rfl ⟨Rgn.cz0 HK1.out, Rgn.cz1 HK1.out⟩ (fun hHeld => ?_)
          refine with_tabW impl_Survivors.tab21 impl_Survivors.bits21 (fun HT_ HW_ => ?_)
          generalize w2.drew = w9 at HM1 HA1 HK1 HB1 hHeld ⊢
          refine Rgn.pu HT_.out 0 60 ?_
          refine Rgn.pu HT_.out 1 61 ?_
          refine Rgn.pu HT_.out 3 63 ?_
          refine Rgn.tk HT_.out HW_.out 2 62 hHeld ?_
          refine Rgn.tk HT_.out HW_.out 4 64 hHeld ?_
          refine one_ (i := 5) (N := some 65) #[true, true, true, true, true, true, false] rfl rfl (one_of HT_.out (by kernel_rfl)) (by decide) (fun K hK => ?_)
          refine Rgn.gs Try.func34 #[.slice A3 h.f1.length c3] ?_
          with_reducible refine (impl_cp.calls _ _ h.f1 h.f1 _ ?side1 ?side2 HCP.out).mono ?_
          (case side1 => exact Rgn.cq (Kd.C_below HR3.out HB1.out))
          (case side2 => exact HL3.out)
          rintro e w10 ⟨v10, rfl, ho, hb⟩
          refine ⟨_, rfl, ?_⟩
          obtain ⟨Ao, co, eo⟩ := Kd.R_slice ho
          subst eo
          have HV5 : Kd.V (Kd.int .u8) 5 w10 0 (fun k => k ≠ b) (.slice Ao h.f1.length co) h.f1 := Kd.V_mono (Kd.R_V (Kd.R_bound ho)) (fun k hk e_ => by have := HM1.out.lt; have := hk.2.1; omega)
          have HV : Aside0 (Kd.V (Kd.int .u8) 0 w10 0 (fun k => k ≠ b) (.slice Ao h.f1.length co) h.f1) := ⟨HV5⟩
          clear HV5
          have HM := Aside0.mk (HM1.out.kept (grown_of_below hb none) (by simp))
          have HA := Aside0.mk (HA1.out.below hb)
          have HK := Aside0.mk (blk_below HK1.out hb)
          have HB := Aside0.mk (below_step HB1.out hb)
          clear hb ho HM1 HA1 HK1 HB1 hHeld
          refine hK.out _ _ ⟨Rgn.cz0 HK.out, Rgn.cz1 HK.out⟩ (fun hHeld => ?_)
          clear hK K
          refine norm_ (a' := ?_) ?_ ?_
          rotate_left
          · show Act.put _ (some 65) _ = _
            simp only [Act.put, List.setIfInBounds_toArray, List.set_cons_zero, List.set_cons_succ, i64_w, i32_w]
            rfl
          refine one_ (i := 6) (N := none) #[true, true, true, true, true, true, true] rfl rfl (one_of HT_.out (by kernel_rfl)) (by decide) (fun K hK => ?_)
          refine MP.upd_step (by rfl) rfl (.tmp 60) (.tmp 62) (.tmp 65) 62 rfl 2 59 MP.key2 Try.underlying62 MP.hv b nn D rfl HM.out (by have := HQ.out; have := HCT.out; have := HCM.out; have := HN.out; have := HJ.out; have := SV.cnt_le l0 (i + 1); unfold maxLen; omega) (.int .i64 h.f0) (.slice Ao h.f1.length co) _ rfl rfl (keyOf_int_mk Try.underlying2 HOF.out.1) (.held (.slice Ao h.f1.length co)) [] rfl ?_
          intro w11 hown hgr
          replace HA := Aside0.mk ((HA.out.over hgr).put h HOF.out.1 (Kd.V_grown HV.out hgr (fun k hk e_ => hk (Option.some.inj e_))))
          replace HK := Aside0.mk (blk_grown HK.out hgr (by intro e_; exact HNE12.out (Option.some.inj e_)))
          replace HB := Aside0.mk (Box.below_grown HB.out hgr HG.out)
          replace HM := Aside0.mk hown
          replace HO := Aside0.mk (HO.out.wi ⟨t, HT.out, HMR.out⟩)
          rw [← HFT.out] at HA HO
          clear hown hgr HV hHeld
          refine hK.out _ _ ⟨Rgn.cz0 HK.out, Rgn.cz1 HK.out⟩ (fun hHeld => ?_)
          clear hK K hHeld
          refine done_ (done_of HT_.out (by kernel_rfl)) ?_
          clear HT_ HW_ HK
          have hwj := HWJ.out
          go_wp2
          go_roundg (t.f1.length - j)
          case measure => have := HJ.out; have := HKJ.out; omega
          case rel => exact ⟨j + 1, nn + 1, _, (by first | rfl | (simp only [hwj]) | (simp [hwj])), by have := HJ.out; have := HKJ.out; omega, by have := HJ.out; omega, ⟨by have := HQ.out; omega⟩, HM, HA, HO, HB⟩
end


/-! ### laws_eqByteS: function 49 -/
def laws_eqByteS.l0 : Nat → List Int → List Int → Int → Option (Bool)
 | 0, _, _, _ => none
 | k + 1, x0, x1, x5 => if x5 < (x0.length : Int) then (if 0 ≤ x5 then (if x5 < (x1.length : Int) then (if (rd x0 x5) = (rd x1 x5) then (laws_eqByteS.l0 k x0 x1 (wrap64 (x5 + 1))) else (some false)) else (none)) else (none)) else (some true)
def laws_eqByteS.f (k : Nat) (l0 : List Int) (l1 : List Int) : Option (Bool) := if (l0.length : Int) = (l1.length : Int) then (laws_eqByteS.l0 k l0 l1 0) else (some false)
set_option maxHeartbeats 8000000 in
set_option maxRecDepth 100000 in
theorem laws_eqByteS.calls (k : Nat) (A0 : Option Addr) (c0 : Nat) (l0 : List Int) (A1 : Option Addr) (c1 : Nat) (l1 : List Int) (r : Bool) (w : World) (hr0 : Kd.C (Kd.int .u8) w A0 l0.length l0) (hc0 : l0.length ≤ c0) (hr1 : Kd.C (Kd.int .u8) w A1 l1.length l1) (hc1 : l1.length ≤ c1) (h : laws_eqByteS.f k l0 l1 = some r) :
  Calls Try.prog 49 #[.slice A0 l0.length c0, .slice A1 l1.length c1] w fun e w' => e = .returned (.bool r) ∧ Drawn0 w w' := by
 have HR0 := Aside0.mk hr0
 have HC0 := Aside0.mk hc0
 clear hr0 hc0
 have HR1 := Aside0.mk hr1
 have HC1 := Aside0.mk hc1
 clear hr1 hc1
 have H : (if (l0.length : Int) = (l1.length : Int) then (laws_eqByteS.l0 k l0 l1 0) else (some false)) = some r := h
 clear h
 by_cases c3 : (l0.length : Int) = (l1.length : Int)
 ·
  rw [if_pos c3] at H
  have c3b0 : ((l0.length : Int) == (l1.length : Int)) = true := beq_iff_eq.mpr c3
  have c3b1 : ((l0.length : Int) != (l1.length : Int)) = false := bne_eq_false_iff_eq.mpr c3
  have c3b2 : (l0.length == l1.length) = true := by first | simpa using c3 | (simp at c3 ⊢; omega)
  clear c3
  have H' := Aside0.mk H
  clear H
  go_enter Try.func49, Try.ntmps49
  go_wp2
  repeat (go_quiet (fail); try go_wp2)
  go_loopg [5] k (fun kq v5 w' => ∃ (x5_1 : Int), v5 = .int .i64 x5_1 ∧ Aside0 (laws_eqByteS.l0 kq l0 l1 x5_1 = some r) ∧ Aside0 (kq ≤ k) ∧ Drawn0 w w')
  case atStart => exact ⟨(0), (by first | rfl | (simp; done) | (simp [*]; done)), H', ⟨Nat.le_refl _⟩, by repeat (first | exact Drawn0.refl _ | apply Drawn0.step)⟩
  case round =>
   clear H'
   try clear c1
   try clear p2
   try clear c3
   try clear c3b0
   try clear c3b1
   try clear c3b2
   obtain ⟨x5_1, rfl, HA, HK1, ⟨m1, rfl⟩⟩ := hrel
   cases gk with
   | zero => exact absurd HA.out (by simp [laws_eqByteS.l0])
   | succ k1 =>
    have H := HA.out
    clear HA
    simp only [laws_eqByteS.l0] at H
    by_cases c4 : x5_1 < (l0.length : Int)
    ·
     rw [if_pos c4] at H
     have c4b0 : decide (x5_1 < (l0.length : Int)) = true := decide_eq_true c4
     clear c4
     by_cases c5 : 0 ≤ x5_1
     ·
      rw [if_pos c5] at H
      have c5b0 : decide (0 ≤ x5_1) = true := decide_eq_true c5
      clear c5
      by_cases c6 : x5_1 < (l1.length : Int)
      ·
       rw [if_pos c6] at H
       have c6b0 : decide (x5_1 < (l1.length : Int)) = true := decide_eq_true c6
       clear c6
       by_cases c7 : (rd l0 x5_1) = (rd l1 x5_1)
       ·
        rw [if_pos c7] at H
        have c7b0 : ((rd l0 x5_1) == (rd l1 x5_1)) = true := beq_iff_eq.mpr c7
        have c7b1 : ((rd l0 x5_1) != (rd l1 x5_1)) = false := bne_eq_false_iff_eq.mpr c7
        clear c7
        have H' := Aside0.mk H
        clear H
        have p220 : 0 ≤ (x5_1 : Int) := of_decide_eq_true (by first | (with_reducible assumption) | assumption)
        have q220 : x5_1 < (l0.length : Int) := of_decide_eq_true (by first | (with_reducible assumption) | assumption)
        obtain ⟨ad220, e220, hx220_0⟩ := Kd.at_int HR0.out x5_1 p220 q220
        cases e220
        replace p220 := eq_true p220
        replace q220 := eq_true q220
        have p221 : 0 ≤ (x5_1 : Int) := of_decide_eq_true (by first | (with_reducible assumption) | assumption)
        have q221 : x5_1 < (l1.length : Int) := of_decide_eq_true (by first | (with_reducible assumption) | assumption)
        obtain ⟨ad221, e221, hx221_0⟩ := Kd.at_int HR1.out x5_1 p221 q221
        cases e221
        replace p221 := eq_true p221
        replace q221 := eq_true q221
        go_wp2
        repeat (go_quiet (fail); try go_wp2)
        go_roundg k1
        case measure => have := HK1.out; omega
        case rel => exact ⟨(wrap64 (x5_1 + 1)), (by first | rfl | (simp; done) | (simp [*]; done)), H', ⟨by have := HK1.out; omega⟩, by repeat (first | exact Drawn0.refl _ | apply Drawn0.step)⟩
       ·
        rw [if_neg c7] at H
        have c7b0 : ((rd l0 x5_1) == (rd l1 x5_1)) = false := beq_eq_false_iff_ne.mpr c7
        have c7b1 : ((rd l0 x5_1) != (rd l1 x5_1)) = true := bne_iff_ne.mpr c7
        obtain rfl := Option.some.inj H
        have p220 : 0 ≤ (x5_1 : Int) := of_decide_eq_true (by first | (with_reducible assumption) | assumption)
        have q220 : x5_1 < (l0.length : Int) := of_decide_eq_true (by first | (with_reducible assumption) | assumption)
        obtain ⟨ad220, e220, hx220_0⟩ := Kd.at_int HR0.out x5_1 p220 q220
        cases e220
        replace p220 := eq_true p220
        replace q220 := eq_true q220
        have p221 : 0 ≤ (x5_1 : Int) := of_decide_eq_true (by first | (with_reducible assumption) | assumption)
        have q221 : x5_1 < (l1.length : Int) := of_decide_eq_true (by first | (with_reducible assumption) | assumption)
        obtain ⟨ad221, e221, hx221_0⟩ := Kd.at_int HR1.out x5_1 p221 q221
        cases e221
        replace p221 := eq_true p221
        replace q221 := eq_true q221
        go_wp2
        repeat (go_quiet (fail); try go_wp2)
        go_ret
        exact ⟨by first | rfl | (simp; done) | (simp [*]; done), by repeat (first | exact Drawn0.refl _ | apply Drawn0.step)⟩
      ·
       rw [if_neg c6] at H
       exact absurd H (by simp)
     ·
      rw [if_neg c5] at H
      exact absurd H (by simp)
    ·
     rw [if_neg c4] at H
     have c4b0 : decide (x5_1 < (l0.length : Int)) = false := decide_eq_false c4
     clear c4
     obtain rfl := Option.some.inj H
     go_wp2
     repeat (go_quiet (fail); try go_wp2)
     go_ret
     exact ⟨by first | rfl | (simp; done) | (simp [*]; done), by repeat (first | exact Drawn0.refl _ | apply Drawn0.step)⟩
 ·
  rw [if_neg c3] at H
  have c3b0 : ((l0.length : Int) == (l1.length : Int)) = false := beq_eq_false_iff_ne.mpr c3
  have c3b1 : ((l0.length : Int) != (l1.length : Int)) = true := bne_iff_ne.mpr c3
  have c3b2 : (l0.length == l1.length) = false := by first | simpa using c3 | (simp at c3 ⊢; omega)
  obtain rfl := Option.some.inj H
  go_enter Try.func49, Try.ntmps49
  go_wp2
  repeat (go_quiet (fail); try go_wp2)
  go_ret
  exact ⟨by first | rfl | (simp; done) | (simp [*]; done), by repeat (first | exact Drawn0.refl _ | apply Drawn0.step)⟩

/-! ### laws_eqHome: function 36 -/
def laws_eqHome.f (k : Nat) (a0_0 : Int) (l0_1 : List Int) (a1_0 : Int) (l1_1 : List Int) : Option (Bool) := if a0_0 = a1_0 then ((laws_eqByteS.f k l0_1 l1_1).bind fun t224 => (if t224 = true then (some true) else (some false))) else (some false)
set_option maxHeartbeats 8000000 in
set_option maxRecDepth 100000 in
theorem laws_eqHome.calls (k : Nat) (a0_0 : Int) (A0_1 : Option Addr) (c0_1 : Nat) (l0_1 : List Int) (a1_0 : Int) (A1_1 : Option Addr) (c1_1 : Nat) (l1_1 : List Int) (r : Bool) (w : World) (hr0_1 : Kd.C (Kd.int .u8) w A0_1 l0_1.length l0_1) (hc0_1 : l0_1.length ≤ c0_1) (hr1_1 : Kd.C (Kd.int .u8) w A1_1 l1_1.length l1_1) (hc1_1 : l1_1.length ≤ c1_1) (h : laws_eqHome.f k a0_0 l0_1 a1_0 l1_1 = some r) :
  Calls Try.prog 36 #[.agg #[.int .i64 a0_0, .slice A0_1 l0_1.length c0_1], .agg #[.int .i64 a1_0, .slice A1_1 l1_1.length c1_1]] w fun e w' => e = .returned (.bool r) ∧ Below w.heap.size w w' := by
 have hu61 := Try.underlying61
 have HR0_1 := Aside0.mk hr0_1
 have HC0_1 := Aside0.mk hc0_1
 clear hr0_1 hc0_1
 have HR1_1 := Aside0.mk hr1_1
 have HC1_1 := Aside0.mk hc1_1
 clear hr1_1 hc1_1
 have HB := Aside0.mk (Below.refl w.heap.size w)
 have H : (if a0_0 = a1_0 then ((laws_eqByteS.f k l0_1 l1_1).bind fun t224 => (if t224 = true then (some true) else (some false))) else (some false)) = some r := h
 clear h
 by_cases c3 : a0_0 = a1_0
 ·
  rw [if_pos c3] at H
  have c3b0 : (a0_0 == a1_0) = true := beq_iff_eq.mpr c3
  have c3b1 : (a0_0 != a1_0) = false := bne_eq_false_iff_eq.mpr c3
  clear c3
  replace H := Option.bind_eq_some_iff.mp H
  obtain ⟨t224, A40, H⟩ := H
  replace H : (if t224 = true then (some true) else (some false)) = some r := H
  have A4 := Aside0.mk A40
  clear A40
  by_cases c5 : t224 = true
  ·
   subst c5
   have H1 : (some true) = some r := by rw [if_pos rfl] at H; exact H
   clear H
   have H := H1
   clear H1
   obtain rfl := Option.some.inj H
   go_enter Try.func36, Try.ntmps36
   go_wp2_with (first | ((with_reducible refine gate_dst (N := 2) rfl ?_); refine Rgn.bx 2 #[.int .i64 a0_0, .slice A0_1 l0_1.length c0_1] 61 ?_; intro gb222 hg w6 hbox hb; have BK222 := Aside0.mk (hbox); have GW222 := Aside0.mk (Rgn.ge hg HB.out); have GE222 := Aside0.mk (Rgn.ge hg HB.out); replace HB := Aside0.mk (below_step (Rgn.bq HB.out) hb); clear hb hbox hg) | ((with_reducible refine gate_dst (N := 3) rfl ?_); refine Rgn.bx 3 #[.int .i64 a1_0, .slice A1_1 l1_1.length c1_1] 61 ?_; intro gb223 hg w7 hbox hb; have BK223 := Aside0.mk (hbox); have GW223 := Aside0.mk (Rgn.ge hg HB.out); have GE223 := Aside0.mk (Rgn.ge hg HB.out); replace HB := Aside0.mk (below_step (Rgn.bq HB.out) hb); have NB222_223 := Aside0.mk (Rgn.nl hg BK222.out); have NB223_222 := Aside0.mk (Rgn.ng hg BK222.out); replace BK222 := Aside0.mk (Rgn.bb BK222.out hb); clear hb hbox hg; have hnb8 := NB222_223.out; have hnc8 := NB223_222.out; obtain ⟨hcz9_0, hcz9_1, hfz9_0, hfz9_1⟩ := Rgn.c2 BK222.out; obtain ⟨hcz10_0, hcz10_1, hfz10_0, hfz10_1⟩ := Rgn.c2 BK223.out) | ((with_reducible refine gate_callee (f := 49) rfl ?_); refine Rgn.gl (some 14) Try.func49 #[.slice A0_1 l0_1.length c0_1, .slice A1_1 l1_1.length c1_1] ?_; (with_reducible refine (laws_eqByteS.calls k _ _ l0_1 _ _ l1_1 true _ ?side1 ?side2 ?side3 ?side4 A4.out).mono ?_); (case side1 => exact Rgn.cq (Kd.C_below HR0_1.out HB.out)); (case side2 => exact HC0_1.out); (case side3 => exact Rgn.cq (Kd.C_below HR1_1.out HB.out)); (case side4 => exact HC1_1.out); rintro e w' ⟨rfl, ⟨nd, rfl⟩⟩; refine ⟨_, rfl, ?_⟩))
   go_ret
   exact ⟨by first | rfl | (simp [errW_none, errW_some] <;> rfl) | (simp [*, errW_none, errW_some] <;> rfl), Rgn.bq HB.out⟩
  ·
   replace c5 := Bool.eq_false_iff.mpr c5
   subst c5
   have H1 : (some false) = some r := by rw [if_neg (show ¬ (false = true) by decide)] at H; exact H
   clear H
   have H := H1
   clear H1
   obtain rfl := Option.some.inj H
   go_enter Try.func36, Try.ntmps36
   go_wp2_with (first | ((with_reducible refine gate_dst (N := 2) rfl ?_); refine Rgn.bx 2 #[.int .i64 a0_0, .slice A0_1 l0_1.length c0_1] 61 ?_; intro gb222 hg w11 hbox hb; have BK222 := Aside0.mk (hbox); have GW222 := Aside0.mk (Rgn.ge hg HB.out); have GE222 := Aside0.mk (Rgn.ge hg HB.out); replace HB := Aside0.mk (below_step (Rgn.bq HB.out) hb); clear hb hbox hg) | ((with_reducible refine gate_dst (N := 3) rfl ?_); refine Rgn.bx 3 #[.int .i64 a1_0, .slice A1_1 l1_1.length c1_1] 61 ?_; intro gb223 hg w12 hbox hb; have BK223 := Aside0.mk (hbox); have GW223 := Aside0.mk (Rgn.ge hg HB.out); have GE223 := Aside0.mk (Rgn.ge hg HB.out); replace HB := Aside0.mk (below_step (Rgn.bq HB.out) hb); have NB222_223 := Aside0.mk (Rgn.nl hg BK222.out); have NB223_222 := Aside0.mk (Rgn.ng hg BK222.out); replace BK222 := Aside0.mk (Rgn.bb BK222.out hb); clear hb hbox hg; have hnb13 := NB222_223.out; have hnc13 := NB223_222.out; obtain ⟨hcz14_0, hcz14_1, hfz14_0, hfz14_1⟩ := Rgn.c2 BK222.out; obtain ⟨hcz15_0, hcz15_1, hfz15_0, hfz15_1⟩ := Rgn.c2 BK223.out) | ((with_reducible refine gate_callee (f := 49) rfl ?_); refine Rgn.gl (some 14) Try.func49 #[.slice A0_1 l0_1.length c0_1, .slice A1_1 l1_1.length c1_1] ?_; (with_reducible refine (laws_eqByteS.calls k _ _ l0_1 _ _ l1_1 false _ ?side1 ?side2 ?side3 ?side4 A4.out).mono ?_); (case side1 => exact Rgn.cq (Kd.C_below HR0_1.out HB.out)); (case side2 => exact HC0_1.out); (case side3 => exact Rgn.cq (Kd.C_below HR1_1.out HB.out)); (case side4 => exact HC1_1.out); rintro e w' ⟨rfl, ⟨nd, rfl⟩⟩; refine ⟨_, rfl, ?_⟩))
   go_ret
   exact ⟨by first | rfl | (simp [errW_none, errW_some] <;> rfl) | (simp [*, errW_none, errW_some] <;> rfl), Rgn.bq HB.out⟩
 ·
  rw [if_neg c3] at H
  have c3b0 : (a0_0 == a1_0) = false := beq_eq_false_iff_ne.mpr c3
  have c3b1 : (a0_0 != a1_0) = true := bne_iff_ne.mpr c3
  obtain rfl := Option.some.inj H
  go_enter Try.func36, Try.ntmps36
  go_wp2_with (first | ((with_reducible refine gate_dst (N := 2) rfl ?_); refine Rgn.bx 2 #[.int .i64 a0_0, .slice A0_1 l0_1.length c0_1] 61 ?_; intro gb222 hg w16 hbox hb; have BK222 := Aside0.mk (hbox); have GW222 := Aside0.mk (Rgn.ge hg HB.out); have GE222 := Aside0.mk (Rgn.ge hg HB.out); replace HB := Aside0.mk (below_step (Rgn.bq HB.out) hb); clear hb hbox hg) | ((with_reducible refine gate_dst (N := 3) rfl ?_); refine Rgn.bx 3 #[.int .i64 a1_0, .slice A1_1 l1_1.length c1_1] 61 ?_; intro gb223 hg w17 hbox hb; have BK223 := Aside0.mk (hbox); have GW223 := Aside0.mk (Rgn.ge hg HB.out); have GE223 := Aside0.mk (Rgn.ge hg HB.out); replace HB := Aside0.mk (below_step (Rgn.bq HB.out) hb); have NB222_223 := Aside0.mk (Rgn.nl hg BK222.out); have NB223_222 := Aside0.mk (Rgn.ng hg BK222.out); replace BK222 := Aside0.mk (Rgn.bb BK222.out hb); clear hb hbox hg; have hnb18 := NB222_223.out; have hnc18 := NB223_222.out; obtain ⟨hcz19_0, hcz19_1, hfz19_0, hfz19_1⟩ := Rgn.c2 BK222.out; obtain ⟨hcz20_0, hcz20_1, hfz20_0, hfz20_1⟩ := Rgn.c2 BK223.out))
  go_ret
  exact ⟨by first | rfl | (simp [errW_none, errW_some] <;> rfl) | (simp [*, errW_none, errW_some] <;> rfl), Rgn.bq HB.out⟩

end Go.Proofs.Ytkehfdadplpaeaa.PFnExactSurvivors
