-- written by a program of this session (wip/src/print2.py)
import Derived.Test.YtdhjhadcadcceaaProg
import Derived.Below
import Derived.Deep.Draws
import Derived.Deep.AppendLies
import Derived.Maps.AppendAt
import Derived.OwnWalk
import Derived.Laws.BytesArg
import Derived.Laws.MakeOwn
import Derived.Laws.OwnMore
import Derived.Deep.OwnRows
import Derived.Tactics
import Derived.Lib.ConvBytes
import Derived.Laws.Slices
import Derived.WalkKit
import Derived.KernelRfl
import Derived.RowKit3
import Derived.Deep.LoopGhost
import Derived.Deep.QuietTactic
import Derived.BigQuiet
import Derived.WideLaws
import Derived.Deep.DeepCutAuto
import Derived.Deep.CutBlock
import Derived.Deep.RegionHeld3
import Derived.Laws.Rows
import Derived.Lib.AppendStr
import Derived.ArgAppend
import Derived.Laws.IdiomCopy
import Derived.OrdersHeld
import Derived.Laws.BitsLemmas
import Derived.RowKit
import Derived.Test.YtdhjhadcadcceaaWWords
import Derived.Test.YtdhjhadcadcceaaWLast
import Derived.Test.YtdhjhadcadcceaaWTab
import Derived.Test.YtdhjhadcadcceaaWFour
import Derived.Test.YtdhjhadcadcceaaWQPut
import Derived.Test.YtdhjhadcadcceaaWApart
import Derived.Test.YtdhjhadcadcceaaWArr
import Derived.Test.YtdhjhadcadcceaaWZeros
import Derived.Test.YtdhjhadcadcceaaWFoot
import Derived.Test.YtdhjhadcadcceaaWKept
import Derived.Test.YtdhjhadcadcceaaWShare
import Derived.Test.YtdhjhadcadcceaaWN
import Derived.Test.YtdhjhadcadcceaaWFootNe
import Derived.Test.YtdhjhadcadcceaaWAt
import Derived.Test.YtdhjhadcadcceaaWEqStruct
import Derived.Test.YtdhjhadcadcceaaWRepsOne
import Derived.Test.YtdhjhadcadcceaaWInv
import Derived.Test.YtdhjhadcadcceaaWInvWords
import Derived.Test.YtdhjhadcadcceaaWGuard
import Derived.Test.YtdhjhadcadcceaaWNEv
import Derived.Test.YtdhjhadcadcceaaWMore
namespace Go.Proofs.Ytdhjhadcadcceaa.PFnExactDirRemove
open Go.RowKit Go.Proofs.YtdhjhadcadcceaaW.PrintWords Go.Proofs.YtdhjhadcadcceaaW.PrintLast Go.Proofs.YtdhjhadcadcceaaW.PrintMore
attribute [local go_sem] max2_int min2_int max_two min_two max_three min_three max_four min_four   -- for this text's walks alone
set_option linter.unusedVariables false
set_option linter.unusedSimpArgs false



def errW : Option Int → Value
  | none => .nilIface
  | some c => .iface 0 (.int .i64 c)
theorem errW_none : errW none = .nilIface := rfl
theorem errW_some (c : Int) : errW (some c) = .iface 0 (.int .i64 c) := rfl

theorem info5 : (Try.prog.info? 5).map (fun i => (i.zero, i.size, i.bytes)) = some (some (.int .u8 0), 1, 1) := by kernel_rfl
theorem info106 : (Try.prog.info? 106).map (fun i => (i.zero, i.size, i.bytes)) = some (some (.agg #[(.int .i64 0), (.string ⟨#[]⟩)]), 2, 24) := by kernel_rfl
-- the values' own types
/-! #### struct type 105 -/
structure S105 where
  f0 : Int
  f1 : ByteArray
def z105 : S105 := ⟨(0 : Int), (⟨#[]⟩ : ByteArray)⟩
def k105 : Kd S105 := Kd.iso (Kd.pair (Kd.int .i64) Kd.string) (fun x : S105 => (x.f0, x.f1))
theorem k105_open {w : World} {x : S105} {cs : List Value} (h : k105.K w x cs) : cs = [.int .i64 x.f0, .string x.f1] := by
  obtain ⟨_, _, rfl, rfl, rfl⟩ := h
  exact rfl
theorem k105_openM {w : World} {base : Nat} {ok : Nat → Prop} {x : S105} {cs : List Value} (h : k105.M w base ok x cs) : cs = [.int .i64 x.f0, .string x.f1] := by
  obtain ⟨_, _, rfl, rfl, rfl⟩ := h
  exact rfl
theorem k105_mk (w : World) (x : S105)  : k105.K w x [.int .i64 x.f0, .string x.f1] := ⟨[.int .i64 x.f0], [.string x.f1], rfl, rfl, rfl⟩
theorem k105_mkM (w : World) (base : Nat) (ok : Nat → Prop) (x : S105)  : k105.M w base ok x [.int .i64 x.f0, .string x.f1] := ⟨[.int .i64 x.f0], [.string x.f1], rfl, rfl, rfl⟩
def rd_T105 (xs : List S105) (i : Int) : S105 := xs.getD i.toNat z105
theorem at_T105 {w : World} {A : Option Addr} {n : Nat} {xs : List S105} (h : Kd.C k105 w A n xs) (i : Int) (h0 : 0 ≤ i) (h1 : i < n) : ∃ ad , A = some ad ∧ w.cell? (ad.add (i.toNat * 2)) = some (.int .i64 (rd_T105 xs i).f0) ∧ w.cell? ⟨(ad.add (i.toNat * 2)).block, (ad.add (i.toNat * 2)).off + 1, none⟩ = some (.string (rd_T105 xs i).f1) := by
  obtain ⟨ad, c, e, _, hK, hc0⟩ := Kd.C_get h z105 i h0 h1
  have hc : ∀ j u, c[j]? = some u → w.cell? (ad.add (i.toNat * 2 + j)) = some u := hc0
  obtain rfl := k105_open hK
  exact ⟨ad, e, hc 0 _ rfl, by rw [← add_field _ _ 1 (by omega)]; exact hc 1 _ rfl⟩

/-! #### struct type 106 -/
structure S106 where
  f0 : Int
  f1 : ByteArray
def z106 : S106 := ⟨(0 : Int), (⟨#[]⟩ : ByteArray)⟩
def k106 : Kd S106 := Kd.iso (Kd.pair (Kd.int .i64) Kd.string) (fun x : S106 => (x.f0, x.f1))
theorem k106_open {w : World} {x : S106} {cs : List Value} (h : k106.K w x cs) : cs = [.int .i64 x.f0, .string x.f1] := by
  obtain ⟨_, _, rfl, rfl, rfl⟩ := h
  exact rfl
theorem k106_openM {w : World} {base : Nat} {ok : Nat → Prop} {x : S106} {cs : List Value} (h : k106.M w base ok x cs) : cs = [.int .i64 x.f0, .string x.f1] := by
  obtain ⟨_, _, rfl, rfl, rfl⟩ := h
  exact rfl
theorem k106_mk (w : World) (x : S106)  : k106.K w x [.int .i64 x.f0, .string x.f1] := ⟨[.int .i64 x.f0], [.string x.f1], rfl, rfl, rfl⟩
theorem k106_mkM (w : World) (base : Nat) (ok : Nat → Prop) (x : S106)  : k106.M w base ok x [.int .i64 x.f0, .string x.f1] := ⟨[.int .i64 x.f0], [.string x.f1], rfl, rfl, rfl⟩
def rd_T106 (xs : List S106) (i : Int) : S106 := xs.getD i.toNat z106
theorem at_T106 {w : World} {A : Option Addr} {n : Nat} {xs : List S106} (h : Kd.C k106 w A n xs) (i : Int) (h0 : 0 ≤ i) (h1 : i < n) : ∃ ad , A = some ad ∧ w.cell? (ad.add (i.toNat * 2)) = some (.int .i64 (rd_T106 xs i).f0) ∧ w.cell? ⟨(ad.add (i.toNat * 2)).block, (ad.add (i.toNat * 2)).off + 1, none⟩ = some (.string (rd_T106 xs i).f1) := by
  obtain ⟨ad, c, e, _, hK, hc0⟩ := Kd.C_get h z106 i h0 h1
  have hc : ∀ j u, c[j]? = some u → w.cell? (ad.add (i.toNat * 2 + j)) = some u := hc0
  obtain rfl := k106_open hK
  exact ⟨ad, e, hc 0 _ rfl, by rw [← add_field _ _ 1 (by omega)]; exact hc 1 _ rfl⟩

end Go.Proofs.Ytdhjhadcadcceaa.PFnExactDirRemove
