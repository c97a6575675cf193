/- FnExactNewDisk: at every number of blocks the program's NewDisk answers as the reference's; the rows of its disk are its own. -/
import Derived.Test.YtdhjhadcadcceaaPFnExactNewDiskx
import Derived.Test.YtdhjhadcadcceaaHlp2
import Derived.Test.YtdhjhadcadcceaaHlp3
namespace Go.Proofs.Ytdhjhadcadcceaa.Pure
open Go.RowKit Go.Proofs.Ytdhjhadcadcceaa.PFnExactNewDisk Go.Proofs.YtdhjhadcadcceaaW.PrintWords Go.Proofs.YtdhjhadcadcceaaW.PrintLast Go.Proofs.YtdhjhadcadcceaaW.PrintMore Go.Proofs.Ytdhjhadcadcceaa.Hlp
namespace DK
theorem rd62 (l : List S62) (i : Nat) (h : i < l.length) : rd_T62 l (i : Int) = l[i] := by simp [rd_T62, h]
theorem eqWrite_ev (a : Int) (d : List Int) (hd : d.length ≤ 1048576) : Ev (fun k => laws_eqWrite.f k a d a d) true := by
  refine Ev.congr (fun k => by unfold laws_eqWrite.f; rw [if_pos rfl]) ?_
  refine (eqS_ev (F := laws_eqByteS.f) (fun _ _ _ => rfl) (fun _ _ _ _ => rfl) d (by omega)).bind ?_
  exact Ev.congr (fun k => if_pos rfl) (Ev.now true)
theorem eqHS (l : List S62) (hl : l.length ≤ 1048576) (hg : ∀ y ∈ l, y.f1.length ≤ 1048576) : Ev (fun k => laws_eqWriteS.f k l l) true := by
  refine Ev.congr (f := fun k => laws_eqWriteS.l0 k l l 0) (fun k => by unfold laws_eqWriteS.f; rw [if_pos rfl]) ?_
  refine eqG_ev (L := laws_eqWriteS.l0) l ?_ ?_
  · intro i hi h
    refine Ev.step (f := fun k => (laws_eqWrite.f k l[i].f0 l[i].f1 l[i].f0 l[i].f1).bind fun t => if t = true then laws_eqWriteS.l0 k l l ((i + 1 : Nat) : Int) else some false) (fun k => ?_) ?_
    · simp only [laws_eqWriteS.l0]
      rw [if_pos (by omega), if_pos (by omega), if_pos (by omega), rd62 l i hi, w64 (by omega) (by omega)]
      rfl
    · refine (eqWrite_ev _ _ (hg _ (List.getElem_mem _))).bind ?_
      exact Ev.congr (fun k => if_pos rfl) h
  · exact Ev.step (f := fun _ => some true) (fun k => by simp only [laws_eqWriteS.l0]; rw [if_neg (by omega)]) (Ev.now _)
theorem eqD (l : List Int) (p : List S62) (hl : l.length ≤ 1048576) (hp : p.length ≤ 1048576 ∧ ∀ y ∈ p, y.f1.length ≤ 1048576) : Ev (fun k => laws_eqDisk.f k l p l p) true := by
  refine Ev.congr (fun k => by unfold laws_eqDisk.f; rfl) ?_
  refine (eqS_ev (F := laws_eqByteS.f) (fun _ _ _ => rfl) (fun _ _ _ _ => rfl) l (by omega)).bind ?_
  refine Ev.congr (fun k => if_pos rfl) ?_
  refine (eqHS p hp.1 hp.2).bind ?_
  exact Ev.congr (fun k => if_pos rfl) (Ev.now true)
/-- A pending write takes one number, and one for each of its bytes. -/
def wW (b : S62) : Nat := 1 + b.f1.length
def mkW (b : S62) (s : Int) : S62 := ⟨s, marks (fun x => x % 256) (s + 1) b.f1.length⟩
theorem tot_le (l : List S62) (h : ∀ y ∈ l, y.f1.length ≤ 1048576) : tot wW l ≤ 1048577 * l.length := by
  induction l with
  | nil => simp [tot]
  | cons b r ih =>
    have h1 := h b (List.mem_cons_self ..)
    have h2 := ih (fun y hy => h y (List.mem_cons_of_mem _ hy))
    simp only [tot, wW, List.length_cons, Nat.mul_succ] at h2 ⊢
    omega
theorem markWS (l : List S62) (s : Int) (h0 : 0 ≤ s) (hl : l.length ≤ 1048576) (hb : s + (tot wW l : Nat) ≤ 4611686018427387904) : Ev (fun k => laws_markWriteS.f k l s) (s + (tot wW l : Nat), marksW mkW wW s l) := by
  refine markW_ev mkW wW (L := laws_markWriteS.l0) 4611686018427387904 ?_ ?_ l s h0 (by omega) hb
  · intro i x s h hx h0 hB r hr
    simp only [wW] at hB hr
    have hw : wrap64 ((i : Int) + 1) = ((i + 1 : Nat) : Int) := by rw [w64 (by omega) (by omega)]; rfl
    have hm : Ev (fun k => laws_markByteS.f k x[i].f1 (s + 1)) _ := mark_ev (fun x => x % 256) (L := laws_markByteS.l0) (fun _ _ _ _ => rfl) x[i].f1 (s + 1) (by omega) (by omega)
    refine Ev.step (f := fun k => (laws_markByteS.f k x[i].f1 (s + 1)).bind fun t => laws_markWriteS.l0 k (x.set i (⟨s, t.2⟩ : S62)) t.1 ((i + 1 : Nat) : Int)) (fun k => ?_) (hm.bind ?_)
    · simp only [laws_markWriteS.l0]
      rw [if_pos (by omega), if_pos (by omega), rd62 x i h, w64 (x := s + 1) (by omega) (by omega), hw, Int.toNat_natCast]
    · rw [show s + 1 + (x[i].f1.length : Int) = s + ((1 + x[i].f1.length : Nat) : Int) by omega]
      exact hr
  · intro x s
    exact Ev.step (f := fun _ => some (s, x)) (fun k => by simp only [laws_markWriteS.l0]; rw [if_neg (by omega)]) (Ev.now _)
theorem heldWS (l : List S62) (s : Int) (h0 : 0 ≤ s) (hl : l.length ≤ 1048576) (hb : s + (tot wW l : Nat) ≤ 4611686018427387904) : Ev (fun k => laws_heldWriteS.f k (marksW mkW wW s l) s) (s + (tot wW l : Nat)) := by
  refine heldW_ev mkW wW (L := laws_heldWriteS.l0) 4611686018427387904 ?_ ?_ l s h0 (by omega) hb
  · intro i x s b h hxb hx h0 hB r hr
    simp only [wW] at hB hr
    have hw : wrap64 ((i : Int) + 1) = ((i + 1 : Nat) : Int) := by rw [w64 (by omega) (by omega)]; rfl
    have hm : Ev (fun k => laws_heldByteS.f k (marks (fun x => x % 256) (s + 1) b.f1.length) (s + 1)) _ := held_ev (fun x => x % 256) (L := laws_heldByteS.l0) (fun _ _ _ _ => rfl) b.f1.length (s + 1) (by omega) (by omega)
    refine Ev.step (f := fun k => (laws_heldByteS.f k (marks (fun x => x % 256) (s + 1) b.f1.length) (s + 1)).bind fun t => if t < 0 then some (-1) else laws_heldWriteS.l0 k x t ((i + 1 : Nat) : Int)) (fun k => ?_) (hm.bind ?_)
    · simp only [laws_heldWriteS.l0]
      rw [if_pos (by omega), if_pos (by omega), rd62 x i h, hxb, if_pos (show (mkW b s).f0 = s from rfl), w64 (x := s + 1) (by omega) (by omega), hw]
      rfl
    · rw [show s + 1 + (b.f1.length : Int) = s + ((1 + b.f1.length : Nat) : Int) by omega]
      exact Ev.congr (fun k => if_neg (by omega)) hr
  · intro x s
    exact Ev.step (f := fun _ => some s) (fun k => by simp only [laws_heldWriteS.l0]; rw [if_neg (by omega)]) (Ev.now _)
/-- A whole disk. -/
theorem markD (l : List Int) (p : List S62) (hl : l.length ≤ 1048576) (hp : p.length ≤ 1048576 ∧ ∀ y ∈ p, y.f1.length ≤ 1048576) : ∃ n : Int, ∃ l' p', 0 ≤ n ∧ l'.length = l.length ∧ p'.length = p.length ∧ Ev (fun k => laws_markDisk.f k l p 1) (n, l', p') ∧ Ev (fun k => laws_heldDisk.f k l' p' 1) n := by
  have ht := tot_le p hp.2
  have hm : Ev (fun k => laws_markByteS.f k l 1) _ := mark_ev (fun x => x % 256) (L := laws_markByteS.l0) (fun _ _ _ _ => rfl) l 1 (by omega) (by omega)
  have hh : Ev (fun k => laws_heldByteS.f k (marks (fun x => x % 256) 1 l.length) 1) _ := held_ev (fun x => x % 256) (L := laws_heldByteS.l0) (fun _ _ _ _ => rfl) l.length 1 (by omega) (by omega)
  refine ⟨1 + (l.length : Int) + (tot wW p : Nat), _, _, by omega, marks_len (fun x => x % 256) l.length 1, marksW_len mkW wW p (1 + (l.length : Int)), ?_, ?_⟩
  · refine Ev.congr (fun k => by unfold laws_markDisk.f; rfl) (hm.bind ?_)
    refine (markWS p (1 + (l.length : Int)) (by omega) hp.1 (by omega)).bind ?_
    exact Ev.now _
  · refine Ev.congr (fun k => by unfold laws_heldDisk.f; rfl) (hh.bind ?_)
    refine Ev.congr (fun k => if_neg (by omega)) ?_
    refine (heldWS p (1 + (l.length : Int)) (by omega) hp.1 (by omega)).bind ?_
    exact Ev.congr (fun k => if_neg (by omega)) (Ev.now _)
theorem new_is (a : Int) : ∃ l : List Int, l.length ≤ 131072 ∧ spec_NewDisk.f a = some (l, []) ∧ impl_NewDisk.f a = some (l, []) := by
  unfold spec_NewDisk.f impl_NewDisk.f
  by_cases c1 : a < 1
  · exact ⟨[], by simp, by rw [if_pos c1], by rw [if_pos c1]⟩
  by_cases c2 : a > 2048
  · exact ⟨[], by simp, by rw [if_neg c1, if_pos c2], by rw [if_neg c1, if_pos c2]⟩
  have hw : wrap64 (a * 64) = a * 64 := w64 (by omega) (by omega)
  refine ⟨List.replicate (a * 64).toNat 0, by rw [List.length_replicate]; omega, ?_, ?_⟩
  · rw [if_neg c1, if_neg c2, hw, if_pos (by omega), if_pos (by omega)]
  · rw [if_neg c1, if_neg c2, hw, if_pos (by omega), if_pos (by omega)]
end DK
theorem FnExactNewDisk (a : Int) (_ : (Lit.int .i64 a).wf = true) : ∃ k, laws_FnExactNewDisk.f k a = some true := by
  obtain ⟨l, hl, h1, h2⟩ := DK.new_is a
  obtain ⟨n, l', p', hn, _, _, hm, hh⟩ := DK.markD l [] (by omega) ⟨by simp, fun y hy => absurd hy (by simp)⟩
  have he := DK.eqD l [] (by omega) ⟨by simp, fun y hy => absurd hy (by simp)⟩
  refine Ev.rounds (Ev.congr (fun k => by unfold laws_FnExactNewDisk.f; rw [h1, Option.bind_some, h2, Option.bind_some]) ?_)
  refine he.bind (Ev.congr (fun k => if_pos rfl) ?_)
  refine hm.bind (hh.bind (Ev.congr (fun k => if_neg (by omega)) (Ev.congr (fun k => if_pos rfl) ?_)))
  refine Ev.congr (fun k => by rw [Option.bind_some]) ?_
  refine he.bind (Ev.congr (fun k => if_pos rfl) ?_)
  exact hh.bind (Ev.congr (fun k => if_neg (by omega)) (Ev.congr (fun k => if_pos rfl) (Ev.now _)))
end Go.Proofs.Ytdhjhadcadcceaa.Pure
