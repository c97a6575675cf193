import Derived.Test.YtkehfdadplpaeaaVSUHlp
/- Loops that mark elements of different widths (an element with a row inside takes as many numbers as it has). -/
namespace Go.Proofs.Ytkehfdadplpaeaa.Hlp
open Go.RowKit Go.Proofs.YtkehfdadplpaeaaW.PrintWords Go.Proofs.YtkehfdadplpaeaaW.PrintMore

def tot {β : Type} (w : β → Nat) : List β → Nat
  | [] => 0
  | b :: r => w b + tot w r
def marksW {β : Type} (mk : β → Int → β) (w : β → Nat) (s : Int) : List β → List β
  | [] => []
  | b :: r => mk b s :: marksW mk w (s + w b) r
theorem marksW_len {β : Type} (mk : β → Int → β) (w : β → Nat) : ∀ (l : List β) (s : Int), (marksW mk w s l).length = l.length
  | [], _ => rfl
  | _ :: r, s => by simp [marksW, marksW_len mk w r]
theorem markW_ev {β : Type} (mk : β → Int → β) (w : β → Nat) {L : Nat → List β → Int → Int → Option (Int × List β)} (B : Int)
    (step : ∀ (i : Nat) (x : List β) (s : Int) (h : i < x.length), x.length ≤ 281474976710656 → 0 ≤ s → s + w x[i] ≤ B → ∀ r, Ev (fun k => L k (x.set i (mk x[i] s)) (s + w x[i]) ((i + 1 : Nat) : Int)) r → Ev (fun k => L k x s (i : Int)) r)
    (fin : ∀ (x : List β) (s : Int), Ev (fun k => L k x s (x.length : Int)) (s, x)) (l : List β) (s : Int) (h0 : 0 ≤ s) (hl : l.length ≤ 281474976710656) (hb : s + (tot w l : Nat) ≤ B) :
    Ev (fun k => L k l s 0) (s + (tot w l : Nat), marksW mk w s l) := by
  have key : ∀ (suf pre : List β) (s : Int), 0 ≤ s → (pre ++ suf).length ≤ 281474976710656 → s + (tot w suf : Nat) ≤ B → Ev (fun k => L k (pre ++ suf) s (pre.length : Int)) (s + (tot w suf : Nat), pre ++ marksW mk w s suf) := by
    intro suf
    induction suf with
    | nil =>
      intro pre s _ _ _
      have := fin pre s
      simpa [tot, marksW] using this
    | cons b suf ih =>
      intro pre s h0 hl hb
      have hi : pre.length < (pre ++ b :: suf).length := by simp
      have hg : (pre ++ b :: suf)[pre.length] = b := by simp
      have hs : (pre ++ b :: suf).set pre.length (mk b s) = (pre ++ [mk b s]) ++ suf := by simp
      have ht : (tot w (b :: suf) : Int) = (w b : Int) + (tot w suf : Int) := by simp [tot]
      refine step pre.length _ s hi hl h0 (by rw [hg]; omega) _ ?_
      rw [hg, hs]
      have := ih (pre ++ [mk b s]) (s + w b) (by omega) (by simpa using hl) (by omega)
      have e1 : (pre ++ [mk b s]).length = pre.length + 1 := by simp
      rw [e1] at this
      have e2 : s + (w b : Int) + (tot w suf : Int) = s + (tot w (b :: suf) : Int) := by omega
      rw [e2] at this
      simpa [marksW] using this
  have := key l [] s h0 (by simpa using hl) hb
  simpa using this
theorem heldW_ev {β : Type} (mk : β → Int → β) (w : β → Nat) {L : Nat → List β → Int → Int → Option Int} (B : Int)
    (step : ∀ (i : Nat) (x : List β) (s : Int) (b : β) (h : i < x.length), x[i] = mk b s → x.length ≤ 281474976710656 → 0 ≤ s → s + w b ≤ B → ∀ r, Ev (fun k => L k x (s + w b) ((i + 1 : Nat) : Int)) r → Ev (fun k => L k x s (i : Int)) r)
    (fin : ∀ (x : List β) (s : Int), Ev (fun k => L k x s (x.length : Int)) s) (l : List β) (s : Int) (h0 : 0 ≤ s) (hl : l.length ≤ 281474976710656) (hb : s + (tot w l : Nat) ≤ B) :
    Ev (fun k => L k (marksW mk w s l) s 0) (s + (tot w l : Nat)) := by
  have key : ∀ (suf pre : List β) (s : Int), 0 ≤ s → (pre ++ suf).length ≤ 281474976710656 → s + (tot w suf : Nat) ≤ B → Ev (fun k => L k (pre ++ marksW mk w s suf) s (pre.length : Int)) (s + (tot w suf : Nat)) := by
    intro suf
    induction suf with
    | nil =>
      intro pre s _ _ _
      have := fin pre s
      simpa [tot, marksW] using this
    | cons b suf ih =>
      intro pre s h0 hl hb
      have hi : pre.length < (pre ++ marksW mk w s (b :: suf)).length := by simp [marksW]
      have hg : (pre ++ marksW mk w s (b :: suf))[pre.length] = mk b s := by simp [marksW]
      have ht : (tot w (b :: suf) : Int) = (w b : Int) + (tot w suf : Int) := by simp [tot]
      have hlen : (pre ++ marksW mk w s (b :: suf)).length ≤ 281474976710656 := by
        rw [List.length_append, marksW_len]; rw [List.length_append] at hl; exact hl
      refine step pre.length _ s b hi hg hlen h0 (by omega) _ ?_
      have := ih (pre ++ [mk b s]) (s + w b) (by omega) (by simpa using hl) (by omega)
      have e1 : (pre ++ [mk b s]).length = pre.length + 1 := by simp
      rw [e1] at this
      have e2 : s + (w b : Int) + (tot w suf : Int) = s + (tot w (b :: suf) : Int) := by omega
      rw [e2] at this
      simpa [marksW] using this
  have := key l [] s h0 (by simpa using hl) hb
  simpa using this
end Go.Proofs.Ytkehfdadplpaeaa.Hlp
