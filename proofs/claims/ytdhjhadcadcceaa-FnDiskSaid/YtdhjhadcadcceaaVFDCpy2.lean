import Derived.Test.YtdhjhadcadcceaaVFDCpy
import Derived.Lib.BufferWrite
/- The builtin copy onto a row of bytes of the call's own, told by the print's words: the row is spliced, no other block turns. -/
namespace Go.Proofs.Ytdhjhadcadcceaa.Cpy
open Go.RowKit Go.Proofs.YtdhjhadcadcceaaW.PrintWords Go.Proofs.YtdhjhadcadcceaaW.PrintLast

theorem grown_setRow (W : World) (g : Nat) (cs : Array Value) : W.grownBy (W.setRow g cs) (some g) :=
  ⟨rfl, rfl, rfl, by simp [World.setRow], fun k _ hk => setRow_other W g k cs (fun e => hk (by rw [e]))⟩
section
variable {P : Program} {ops : Array Oper} {rest : List Oper} {o : Oper} {a : Act} {W : World} {K : Act → World → Prop} {Q : Exit → Act → World → Prop} {E : Prop}
  {e base g off n cap : Nat} {ok : Nat → Prop} {xs : List Int}
theorem copy_row_wp (d s : Operand) (dT sT : TypeId) (ho : o.op = .call { callee := .builtin .copy, args := #[d, s], argTypes := #[dT, sT] }) (hu : P.underlying dT = some (.slice e)) (hsz : (P.info? e).map (·.size) = some 1)
    (dLen dCap : Nat) (hd : a.eval d = .slice (some ⟨g, off, none⟩) dLen dCap) (sp : Option Addr) (ys : List Int) (m c2 : Nat) (hs : a.eval s = .slice sp m c2) (hm : m = ys.length) (HC : (Kd.int .u8).C W sp ys.length ys) (hdl : ys.length ≤ dLen)
    (HO : (Kd.int .u8).R e W base ok (.slice (some ⟨g, 0, none⟩) n cap) xs) (hfit : off + ys.length ≤ n)
    (h : ∀ w1, (Kd.int .u8).R e w1 base ok (.slice (some ⟨g, 0, none⟩) n cap) (splice xs off ys) → W.grownBy w1 (some g) → K (a.put o.dst (goInt ys.length)) w1) : Oper.wp P o a W K Q := by
  have hn := (Kd.R_reads' HO).1
  subst hn
  subst hm
  by_cases h0 : ys.length = 0
  · obtain rfl : ys = [] := List.eq_nil_of_length_eq_zero h0
    simp only [List.length_nil] at hs
    have hrun := run_copy_none (P := P) W dT sT o.type e (some ⟨g, off, none⟩) sp dLen dCap 0 c2 hu hsz (by simp)
    unfold Oper.wp
    simp [execOp, ho, resolve, invoke, builtin, hd, hs, hrun, Result.andThen]
    refine h _ ?_ ⟨rfl, rfl, rfl, Nat.le_refl _, fun _ _ _ => rfl⟩
    have e1 : splice xs off ([] : List Int) = xs := by simp [splice]
    rw [e1]; exact HO
  · obtain ⟨ad, rfl, hsrc⟩ := src_cells HC ys.length (Nat.le_refl _) (by omega)
    rw [List.take_of_length_le (Nat.le_refl _)] at hsrc
    obtain ⟨cur, hg, hcs, hbg, hown⟩ := own_splice (Kd.own_of_R (enc := Value.int .u8) HO) off (nums .u8 ys) (by rw [nums_len]; exact hfit)
    have hrun := run_copy_row (P := P) W dT sT o.type e g off dLen dCap ad ys.length c2 cur e (nums .u8 ys) hu hsz hg (by rw [nums_len]; exact (Nat.min_eq_left hdl).symm) hsrc hcs (by intro v hv; simp only [nums, List.mem_map] at hv; obtain ⟨q, _, rfl⟩ := hv; rfl)
    rw [nums_len] at hrun
    unfold Oper.wp
    simp [execOp, ho, resolve, invoke, builtin, hd, hs, hrun, Result.andThen]
    refine h _ ?_ (grown_setRow _ _ _)
    have e3 : encs (Value.int .u8) (splice xs off ys) = splice (encs (Value.int .u8) xs) off (nums .u8 ys) := (nums_splice .u8 xs ys off).symm
    have hl : (splice xs off ys).length = xs.length := length_splice _ _ _ hfit
    refine Kd.R_of_own ?_ HO.1
    rw [e3, hl]
    rw [nums_len] at hown
    simpa using hown
end
end Go.Proofs.Ytdhjhadcadcceaa.Cpy
