/- errors.As at a **impl.blockError and errors.Is of a *impl.blockError that wraps errors.New's make: Go's own text walked at this dump's numbers (after the kit's worked texts ToyasAs, SentryIs). -/
import Derived.Test.YtmlahbgogbjfpaaDoorProg
import Derived.Test.YtmlahbgogbjfpaaDoorWWords
import Derived.Test.YtmlahbgogbjfpaaDoorWMore
import Derived.Test.YtmlahbgogbjfpaaDoorWLast
import Derived.WalkKit
import Derived.LaidEql
import Derived.Stop.Asserts
import Derived.RowKitTokens
namespace Go.Proofs.YtmlahbgogbjfpaaDoor.Erh
open Go.RowKit Go.Extern.Stop Go.Stop Go.Extern Go.Proofs.YtmlahbgogbjfpaaDoorW.PrintWords Go.Proofs.YtmlahbgogbjfpaaDoorW.PrintLast Go.Proofs.YtmlahbgogbjfpaaDoorW.PrintMore
/-- errors.As(nil, target). -/
theorem as_nil (t : Value) (w : World) :
    Calls Tryd.prog 49 #[.nilIface, t] w fun e w' => e = .returned (.bool false) ∧ w' = w := by
  go_enter Tryd.func49, Tryd.ntmps49
  go_wp2
  go_ret
  exact ⟨rfl, rfl⟩

/-! ### CLOSED FACTS ON THE MODEL's ENTRIES FOR internal/reflectlite, at this program's types: 25: *p.E · 27: **p.E · 23: error · 45: reflectlite's rtype · 1: how many package-level variables the dump has -/
theorem Ta.valueOf27 (t : Addr) (w : World) : (ReflectliteValue.unpack (.iface 79 (.pointer (some t)))).run Tryd.prog w
    = .ok (.agg #[.pointer (some ⟨2, 79, none⟩), .pointer (some ⟨w.heap.size, 0, none⟩), .int .u64 150]) (w.alloc (.cells #[.pointer (some t)] 79)) := by kernel_rfl
theorem Ta.type27 (a : Addr) (w : World) : (ReflectliteValue.methodAny (ReflectliteValue.valueError "reflectlite.Value.Type" 0) (fun t _ _ _ => ReflectliteType.toType t) #[.agg #[.pointer (some ⟨2, 79, none⟩), .pointer (some a), .int .u64 150]]).run Tryd.prog w
    = .ok (.iface 108 (.agg #[.pointer (some ⟨2, 79, none⟩)])) w := by kernel_rfl
theorem Ta.methodKind (h : Value) (w : World) : (Go.method 256 108 (.agg #[h]) "Kind").run Tryd.prog w = .ok (92, h) w := by kernel_rfl
theorem Ta.kind27 (w : World) : ((ReflectliteType.abiMethod fun t => (fun a : Nat => Value.int IntKind.u8 (a : Int)) <$> Rtype.kind t) #[.pointer (some ⟨2, 79, none⟩)]).run Tryd.prog w = .ok (.int .u8 22) w := by kernel_rfl
theorem Ta.kind25 (w : World) : ((ReflectliteType.abiMethod fun t => (fun a : Nat => Value.int IntKind.u8 (a : Int)) <$> Rtype.kind t) #[.pointer (some ⟨2, 75, none⟩)]).run Tryd.prog w = .ok (.int .u8 22) w := by kernel_rfl

/-! ### THE ENTRIES THAT READ OR WRITE MEMORY: laws with a premise on the cell (after Derived/Lib/ReflectliteSlice.lean's manner: each unfolding a lemma of its own, by rfl) -/
theorem rlm (z : Sem Value) (f : TypeId → Addr → Nat → Nat → Sem Value) (v : Value) :
    ReflectliteValue.method z f #[v] = (do match ← ReflectliteValue.parts v with | none => z | some (t, a, fl) => f t a fl (fl % 32)) := rfl
theorem Ta.parts27 (a : Addr) (w : World) : (ReflectliteValue.parts (.agg #[.pointer (some ⟨2, 79, none⟩), .pointer (some a), .int .u64 150])).run Tryd.prog w = .ok (some (79, a, 150)) w := by kernel_rfl
/-- (Value).IsNil at the Value of a **p.E that is not nil. -/
theorem Ta.isNil27 (a p : Addr) (W : World) (ha : W.cell? a = some (.pointer (some p))) :
    (ReflectliteValue.method (ReflectliteValue.valueError "reflectlite.Value.IsNil" 0) ReflectliteValue.isNil #[.agg #[.pointer (some ⟨2, 79, none⟩), .pointer (some a), .int .u64 150]]).run Tryd.prog W = .ok (.bool false) W := by
  rw [rlm]
  simp only [Sem.run_bind, Ta.parts27, Result.andThen]
  simp [ReflectliteValue.isNil, loadVar, isAgg, underlying, Tryd.underlying79, ha, Result.andThen]

theorem Ta.methodElem (h : Value) (w : World) : (Go.method 256 108 (.agg #[h]) "Elem").run Tryd.prog w = .ok (103, .agg #[h]) w := by kernel_rfl
theorem Ta.methodImplements (h : Value) (w : World) : (Go.method 256 108 (.agg #[h]) "Implements").run Tryd.prog w = .ok (104, .agg #[h]) w := by kernel_rfl
theorem Ta.methodAssignableTo (h : Value) (w : World) : (Go.method 256 108 (.agg #[h]) "AssignableTo").run Tryd.prog w = .ok (101, .agg #[h]) w := by kernel_rfl
theorem Ta.elem27 (w : World) : (ReflectliteType.method ReflectliteType.elem #[.agg #[.pointer (some ⟨2, 79, none⟩)]]).run Tryd.prog w = .ok (.iface 108 (.agg #[.pointer (some ⟨2, 75, none⟩)])) w := by kernel_rfl
theorem Ta.implements25 (w : World) : (ReflectliteType.relation "Implements" ReflectliteType.implements_ #[.agg #[.pointer (some ⟨2, 75, none⟩)], .iface 108 (.agg #[.pointer (some ⟨2, 56, none⟩)])]).run Tryd.prog w = .ok (.bool true) w := by kernel_rfl
theorem Ta.typeOf25 (v : Value) (w : World) : (ReflectliteType.typeOf #[.iface 75 v]).run Tryd.prog w = .ok (.iface 108 (.agg #[.pointer (some ⟨2, 75, none⟩)])) w := by kernel_rfl
theorem Ta.assignable25 (w : World) : (ReflectliteType.relation "AssignableTo" ReflectliteType.assignableTo #[.agg #[.pointer (some ⟨2, 75, none⟩)], .iface 108 (.agg #[.pointer (some ⟨2, 75, none⟩)])]).run Tryd.prog w = .ok (.bool true) w := by kernel_rfl
theorem Ta.valueOf25 (e : Addr) (w : World) : (ReflectliteValue.unpack (.iface 75 (.pointer (some e)))).run Tryd.prog w
    = .ok (.agg #[.pointer (some ⟨2, 75, none⟩), .pointer (some ⟨w.heap.size, 0, none⟩), .int .u64 150]) (w.alloc (.cells #[.pointer (some e)] 75)) := by kernel_rfl

theorem Ta.elemOf27 (w : World) : (Rtype.elem? 79).run Tryd.prog w = .ok (some 75) w := by kernel_rfl
theorem Ta.mk25 (p : Addr) (w : World) : (ReflectliteValue.mk 75 p ReflectliteValue.flagAddr).run Tryd.prog w = .ok (.agg #[.pointer (some ⟨2, 75, none⟩), .pointer (some p), .int .u64 406]) w := by kernel_rfl
/-- (Value).Elem at the Value of a **p.E that is not nil: the Value of the *p.E variable that it points to, addressable. -/
theorem Ta.elemV27 (a p : Addr) (W : World) (ha : W.cell? a = some (.pointer (some p))) :
    (ReflectliteValue.method (ReflectliteValue.valueError "reflectlite.Value.Elem" 0) ReflectliteValue.elem #[.agg #[.pointer (some ⟨2, 79, none⟩), .pointer (some a), .int .u64 150]]).run Tryd.prog W
      = .ok (.agg #[.pointer (some ⟨2, 75, none⟩), .pointer (some p), .int .u64 406]) W := by
  rw [rlm]
  simp only [Sem.run_bind, Ta.parts27, Result.andThen]
  simp [ReflectliteValue.elem, loadVar, isAgg, underlying, Tryd.underlying79, ha, Result.andThen, Ta.elemOf27, Ta.mk25]
theorem rls (v x : Value) : ReflectliteValue.set #[v, x] = (do
    let (some (dst, a, fl), some (src, b, _)) := (← ReflectliteValue.parts v, ← ReflectliteValue.parts x)
      | unsupported (.noEntry "extern/(internal/reflectlite.Value).Set.zeroValue")
    if fl / ReflectliteValue.flagAddr % 2 == 0 then unsupported (.noEntry "extern/(internal/reflectlite.Value).Set.unaddressable")
    let val ← loadVar src b
    if ← Rtype.directlyAssignable dst src then storeVar dst a val
    else if ← Rtype.implements dst src then
      if (← Rtype.kind src) == 20 then
        match val with
        | .nilIface => unsupported (.noEntry "extern/reflectlite: a nil value of one interface type handed on as a value of another")
        | _ => storeVar dst a val
      else storeVar dst a (.iface src val)
    else panicString ("reflectlite.Set: value of type " ++ (← Rtype.spelt src) ++ " is not assignable to type " ++ (← Rtype.spelt dst))
    pure (.tuple #[])) := rfl
theorem Ta.parts25a (a : Addr) (w : World) : (ReflectliteValue.parts (.agg #[.pointer (some ⟨2, 75, none⟩), .pointer (some a), .int .u64 406])).run Tryd.prog w = .ok (some (75, a, 406)) w := by kernel_rfl
theorem Ta.parts25 (a : Addr) (w : World) : (ReflectliteValue.parts (.agg #[.pointer (some ⟨2, 75, none⟩), .pointer (some a), .int .u64 150])).run Tryd.prog w = .ok (some (75, a, 150)) w := by kernel_rfl
theorem Ta.direct25 (w : World) : (Rtype.directlyAssignable 75 75).run Tryd.prog w = .ok true w := by kernel_rfl
theorem Ta.size25 (w : World) : (sizeOf 75).run Tryd.prog w = .ok 1 w := by kernel_rfl
/-- (Value).Set: the *p.E variable at 'ta' gets what the Value's own variable 'b' holds. -/
theorem Ta.set25 (ta b e : Addr) (old : Value) (W : World) (hb : W.cell? b = some (.pointer (some e))) (ht : W.cell? ta = some old) (hf : W.frozen? ta = false) :
    (ReflectliteValue.set #[.agg #[.pointer (some ⟨2, 75, none⟩), .pointer (some ta), .int .u64 406], .agg #[.pointer (some ⟨2, 75, none⟩), .pointer (some b), .int .u64 150]]).run Tryd.prog W
      = .ok (.tuple #[]) (W.setCell ta (.pointer (some e))) := by
  rw [rls]
  simp only [Sem.run_bind, Ta.parts25a, Ta.parts25, Result.andThen]
  simp [ReflectliteValue.flagAddr, loadVar, isAgg, underlying, Tryd.underlying75, hb, Result.andThen, Ta.direct25, storeVar, Value.cells, storeCells, Addr.add]
  rw [run_store Tryd.prog W ta _ _ (by rfl)]
  simp [ht, hf]

set_option maxHeartbeats 4000000 in
theorem as_hit (e t : Addr) (old : Value) (w : World) (hg : w.cell? ⟨1, 0, none⟩ = some (.iface 108 (.agg #[.pointer (some ⟨2, 56, none⟩)]))) (ht0 : w.cell? t = some old) (hf0 : w.frozen? t = false) :
    Calls Tryd.prog 49 #[.iface 75 (.pointer (some e)), .iface 79 (.pointer (some t))] w fun ev w' => ev = .returned (.bool true) ∧ w' = ((((w.alloc (.cells #[.pointer (some t)] 79)).alloc (.cells #[.pointer (some ⟨2, 79, none⟩), .pointer (some ⟨w.heap.size, 0, none⟩), .int .u64 150] 93)).alloc (.cells #[.pointer (some ⟨2, 79, none⟩), .pointer (some ⟨w.heap.size, 0, none⟩), .int .u64 150] 93)).alloc (.cells #[.pointer (some e)] 75)).setCell t (.pointer (some e)) := by
  have h6 := @run_callFunc_extern Tryd.prog 67 _ (fun args => ReflectliteValue.unpack (args.getD 0 (.tuple #[]))) Tryd.func67 (by kernel_rfl) (by kernel_rfl) (by kernel_rfl) (by kernel_rfl)
  have h7 := @run_callFunc_extern Tryd.prog 68 _ (ReflectliteValue.methodAny (ReflectliteValue.valueError "reflectlite.Value.Type" 0) (fun t _ _ _ => ReflectliteType.toType t)) Tryd.func68 (by kernel_rfl) (by kernel_rfl) (by kernel_rfl) (by kernel_rfl)
  have h8 := @run_callFunc_extern Tryd.prog 69 _ (ReflectliteValue.method (ReflectliteValue.valueError "reflectlite.Value.IsNil" 0) ReflectliteValue.isNil) Tryd.func69 (by kernel_rfl) (by kernel_rfl) (by kernel_rfl) (by kernel_rfl)
  have h27 := @run_callFunc_extern Tryd.prog 92 _ (ReflectliteType.abiMethod fun t => do pure (.int .u8 (← Rtype.kind t))) Tryd.func92 (by kernel_rfl) (by kernel_rfl) (by kernel_rfl) (by kernel_rfl)
  have h37 := @run_callFunc_extern Tryd.prog 103 _ (ReflectliteType.method ReflectliteType.elem) Tryd.func103 (by kernel_rfl) (by kernel_rfl) (by kernel_rfl) (by kernel_rfl)
  have h38 := @run_callFunc_extern Tryd.prog 104 _ (ReflectliteType.relation "Implements" ReflectliteType.implements_) Tryd.func104 (by kernel_rfl) (by kernel_rfl) (by kernel_rfl) (by kernel_rfl)
  have h10 := @run_callFunc_extern Tryd.prog 71 _ ReflectliteType.typeOf Tryd.func71 (by kernel_rfl) (by kernel_rfl) (by kernel_rfl) (by kernel_rfl)
  have h35 := @run_callFunc_extern Tryd.prog 101 _ (ReflectliteType.relation "AssignableTo" ReflectliteType.assignableTo) Tryd.func101 (by kernel_rfl) (by kernel_rfl) (by kernel_rfl) (by kernel_rfl)
  have h11 := @run_callFunc_extern Tryd.prog 76 _ (ReflectliteValue.method (ReflectliteValue.valueError "reflectlite.Value.Elem" 0) ReflectliteValue.elem) Tryd.func76 (by kernel_rfl) (by kernel_rfl) (by kernel_rfl) (by kernel_rfl)
  have h12 := @run_callFunc_extern Tryd.prog 77 _ ReflectliteValue.set Tryd.func77 (by kernel_rfl) (by kernel_rfl) (by kernel_rfl) (by kernel_rfl)
  have tO := Ta.typeOf25
  have mA := Ta.methodAssignableTo
  have a25 := Ta.assignable25
  have v25 := Ta.valueOf25
  have f6 := Ta.valueOf27
  have f7 := Ta.type27
  have mK := Ta.methodKind
  have mE := Ta.methodElem
  have mI := Ta.methodImplements
  have k27 := Ta.kind27
  have k25 := Ta.kind25
  have e27 := Ta.elem27
  have i25 := Ta.implements25
  have n8 := Ta.isNil27 ⟨w.heap.size, 0, none⟩ t ((w.alloc (.cells #[.pointer (some t)] 79)).alloc (.cells #[.pointer (some ⟨2, 79, none⟩), .pointer (some ⟨w.heap.size, 0, none⟩), .int .u64 150] 93)) (by simp)
  have hlt : 1 < w.heap.size := by
    rcases Nat.lt_or_ge 1 w.heap.size with h | h0
    · exact h
    · simp [World.cell?, Array.getElem?_eq_none h0] at hg
  have hg2 : ((w.alloc (.cells #[.pointer (some t)] 79)).alloc (.cells #[.pointer (some ⟨2, 79, none⟩), .pointer (some ⟨w.heap.size, 0, none⟩), .int .u64 150] 93)).cell? ⟨1, 0, none⟩ = some (.iface 108 (.agg #[.pointer (some ⟨2, 56, none⟩)])) := by
    rw [World.cell?_alloc_lt _ _ ⟨1, 0, none⟩ (by simp; omega), World.cell?_alloc_lt _ _ ⟨1, 0, none⟩ hlt]; exact hg
  have htl : t.block < w.heap.size := by
    rcases Nat.lt_or_ge t.block w.heap.size with h | h
    · exact h
    · simp [World.cell?, Array.getElem?_eq_none h] at ht0
  have el := Ta.elemV27 ⟨w.heap.size, 0, none⟩ t (((w.alloc (.cells #[.pointer (some t)] 79)).alloc (.cells #[.pointer (some ⟨2, 79, none⟩), .pointer (some ⟨w.heap.size, 0, none⟩), .int .u64 150] 93)).alloc (.cells #[.pointer (some ⟨2, 79, none⟩), .pointer (some ⟨w.heap.size, 0, none⟩), .int .u64 150] 93)) (by rw [World.cell?_alloc_lt _ _ ⟨w.heap.size, 0, none⟩ (by simp; omega)]; simp)
  have st := Ta.set25 t ⟨w.heap.size + 1 + 1 + 1, 0, none⟩ e old ((((w.alloc (.cells #[.pointer (some t)] 79)).alloc (.cells #[.pointer (some ⟨2, 79, none⟩), .pointer (some ⟨w.heap.size, 0, none⟩), .int .u64 150] 93)).alloc (.cells #[.pointer (some ⟨2, 79, none⟩), .pointer (some ⟨w.heap.size, 0, none⟩), .int .u64 150] 93)).alloc (.cells #[.pointer (some e)] 75))
    (by rw [World.cell?_alloc_at _ _ _ _ (by simp)]; rfl)
    (by rw [World.cell?_alloc_lt _ _ t (by simp; omega), World.cell?_alloc_lt _ _ t (by simp; omega), World.cell?_alloc_lt _ _ t (by simp; omega), World.cell?_alloc_lt _ _ t htl]; exact ht0)
    (by rw [World.frozen?_alloc_old _ _ t (by simp; omega), World.frozen?_alloc_old _ _ t (by simp; omega), World.frozen?_alloc_old _ _ t (by simp; omega), World.frozen?_alloc_old _ _ t (Nat.ne_of_lt htl)]; exact hf0)
  go_enter Tryd.func49, Tryd.ntmps49
  go_wp2
  refine wp_loop_rounds 1 ?_
  rw [rounds_succ]
  go_wp2
  go_ret
  exact ⟨rfl, rfl⟩
theorem Ti.isTypeOf (v : Value) (w : World) : (Extern.ReflectliteType.typeOf #[.iface 122 v]).run Tryd.prog w = .ok (.iface 108 (.agg #[.pointer (some ⟨2, 122, none⟩)])) w := by kernel_rfl
def cmpM : TypeId → Sem Value := fun t => do Go.Extern.Rtype.noPackHeld "Comparable" t; pure (.bool (← typeInfo t).comparable)
theorem Ti.isComparable (w : World) : (Extern.ReflectliteType.method cmpM #[.agg #[.pointer (some ⟨2, 122, none⟩)]]).run Tryd.prog w = .ok (.bool true) w := by kernel_rfl
theorem Ti.isMethodComparable (v : Value) (w : World) : (Go.method 256 108 v "Comparable").run Tryd.prog w = .ok (102, v) w := by kernel_rfl
theorem Ti.isComp : (Tryd.prog.info? 122).map (·.comparable) = some true := by kernel_rfl
theorem Ti.isSize : (Tryd.prog.info? 144).map (·.size) = some 1 := by kernel_rfl

/-! ### CLOSED FACTS ON THE METHOD SETS: what errors.is's assertions find -/
theorem Ti.noIsE (v : Value) (xT : TypeId) (w : World) : (Instr.typeAssert (.iface 122 v) xT 120 true).run Tryd.prog w = .ok (.tuple #[.nilIface, .bool false]) w := run_typeAssert_lacksB Tryd.underlying120 (by kernel_rfl) (by kernel_rfl) v xT w
theorem Ti.noUnwrapE (v : Value) (xT : TypeId) (w : World) : (Instr.typeAssert (.iface 122 v) xT 115 true).run Tryd.prog w = .ok (.tuple #[.nilIface, .bool false]) w := run_typeAssert_lacksB Tryd.underlying115 (by kernel_rfl) (by kernel_rfl) v xT w
theorem Ti.noUnwrapsE (v : Value) (xT : TypeId) (w : World) : (Instr.typeAssert (.iface 122 v) xT 117 true).run Tryd.prog w = .ok (.tuple #[.nilIface, .bool false]) w := run_typeAssert_lacksB Tryd.underlying117 (by kernel_rfl) (by kernel_rfl) v xT w
theorem Ti.noIsW (v : Value) (xT : TypeId) (w : World) : (Instr.typeAssert (.iface 75 v) xT 120 true).run Tryd.prog w = .ok (.tuple #[.nilIface, .bool false]) w := run_typeAssert_lacksB Tryd.underlying120 (by kernel_rfl) (by kernel_rfl) v xT w
theorem Ti.hasUnwrapW (v : Value) (xT : TypeId) (w : World) : (Instr.typeAssert (.iface 75 v) xT 115 true).run Tryd.prog w = .ok (.tuple #[.iface 75 v, .bool true]) w := run_typeAssert_hasB Tryd.underlying115 (by kernel_rfl) v xT w
theorem Ti.methodUnwrap (v : Value) (w : World) : (Go.method 256 75 v "Unwrap").run Tryd.prog w = .ok (96, v) w := by kernel_rfl

/-- errors.Is(e, x), e a *fmt.wrapError that wraps x itself: one Unwrap, then equal. -/
theorem is_wrap_same (pb po : Nat) (b : Addr) (w : World) (h1 : w.cell? ⟨pb, po + 1, none⟩ = some (.iface 122 (.pointer (some b)))) :
    Calls Tryd.prog 50 #[.iface 75 (.pointer (some ⟨pb, po, none⟩)), .iface 122 (.pointer (some b))] w fun e w' => e = .returned (.bool true) ∧ w' = w := by
  obtain ⟨i, hi, hcmp⟩ := Option.map_eq_some_iff.1 Ti.isComp
  obtain ⟨j, hj, hjs⟩ := Option.map_eq_some_iff.1 Ti.isSize
  have h8 := @run_callFunc_extern Tryd.prog 71 _ Extern.ReflectliteType.typeOf Tryd.func71 (by kernel_rfl) (by kernel_rfl) (by kernel_rfl) (by kernel_rfl)
  have h32 := @run_callFunc_extern Tryd.prog 102 _ (Extern.ReflectliteType.method cmpM) Tryd.func102 (by kernel_rfl) (by kernel_rfl) (by kernel_rfl) (by kernel_rfl)
  have tT := Ti.isTypeOf
  have cT := Ti.isComparable
  have mR := Ti.isMethodComparable
  have nE := Ti.noIsE
  have uE := Ti.noUnwrapE
  have vE := Ti.noUnwrapsE
  have nW := Ti.noIsW
  have uW := Ti.hasUnwrapW
  have mU := Ti.methodUnwrap
  have heq := run_eql_iface_ptr_same (P := Tryd.prog) w b Tryd.underlying56 Tryd.underlying122 hi hcmp hj
  have hty := run_eql_iface_types (P := Tryd.prog) 75 122 (.pointer (some ⟨pb, po, none⟩)) (.pointer (some b)) Tryd.underlying56 (by decide) w
  go_enter Tryd.func50, Tryd.ntmps50
  go_wp2
  refine wp_loop_rounds 2 ?_
  rw [rounds_succ]
  go_wp2
  rw [rounds_succ]
  go_wp2
  go_ret
  exact ⟨rfl, rfl⟩


/-- The two variables, as the row's condition has them; b: where errForm's text lies. -/
def GlobE (b : Addr) (w : World) : Prop := w.cell? ⟨0, 0, none⟩ = some (.iface 122 (.pointer (some b))) ∧ w.cell? ⟨1, 0, none⟩ = some (.iface 108 (.agg #[.pointer (some ⟨2, 56, none⟩)]))
theorem cell_lt {w : World} {a : Addr} {v : Value} (h : w.cell? a = some v) : a.block < w.heap.size := by
  rcases Nat.lt_or_ge a.block w.heap.size with h0 | h0
  · exact h0
  · simp [World.cell?, Array.getElem?_eq_none h0] at h
theorem GlobE.below {b : Addr} {w w' : World} (h : GlobE b w) (hB : Below w.heap.size w w') : GlobE b w' :=
  ⟨(hB.cell (cell_lt h.1)).trans h.1, (hB.cell (cell_lt h.2)).trans h.2⟩
/-- An error of blockError's make, of errForm. -/
def ErrB (b : Addr) (w : World) (v : Value) : Prop := ∃ g cs, v = .iface 75 (.pointer (some ⟨g, 0, none⟩)) ∧ w.heap[g]? = some (.cells cs 77 (0, 0)) ∧ cs[1]? = some (.iface 122 (.pointer (some b)))
theorem ErrB.below {b : Addr} {w w' : World} {v : Value} (h : ErrB b w v) (hB : Below w.heap.size w w') : ErrB b w' v := by
  obtain ⟨g, cs, e1, e2, e3⟩ := h
  exact ⟨g, cs, e1, (hB.block g (blk_lt e2)).trans e2, e3⟩
/-- e = 0: no error; e = 1: such an error. -/
def GoodV (b : Addr) (w : World) (e : Int) (v : Value) : Prop := (e = 0 ∧ v = .nilIface) ∨ (e = 1 ∧ ErrB b w v)
theorem GoodV.below {b : Addr} {w w' : World} {e : Int} {v : Value} (h : GoodV b w e v) (hB : Below w.heap.size w w') : GoodV b w' e v := by
  rcases h with h | ⟨h1, h2⟩
  · exact .inl h
  · exact .inr ⟨h1, h2.below hB⟩
/-- Behind stores into a struct of another type. -/
theorem GoodV.set4 {b : Addr} {w : World} {e : Int} {v : Value} (h : GoodV b w e v) {gb : Nat} {c : Array Value} {t : TypeId} (hb : w.heap[gb]? = some (.cells c t (0, 0))) (hne : (77 : Nat) ≠ t) (v0 v1 v2 v3 : Value) :
    GoodV b ((((w.setCell ⟨gb, 0, none⟩ v0).setCell ⟨gb, 1, none⟩ v1).setCell ⟨gb, 2, none⟩ v2).setCell ⟨gb, 3, none⟩ v3) e v := by
  rcases h with h | ⟨h1, g, cs, e1, e2, e3⟩
  · exact .inl h
  · have hn := blk_ne e2 hb hne
    exact .inr ⟨h1, g, cs, e1, blk_far (blk_far (blk_far (blk_far e2 hn _) hn _) hn _) hn _, e3⟩
theorem good_nil (w : World) : Calls Tryd.prog 27 #[.nilIface] w fun e w' => e = .returned (.bool true) ∧ Below w.heap.size w w' := by
  have hn : ∀ W : World, (Go.binOp .eql 56 .nilIface .nilIface).run Tryd.prog W = .ok (.bool true) W := fun _ => by kernel_rfl
  go_enter Tryd.func27, Tryd.ntmps27
  go_wp2_with (first | ((with_reducible refine gate_callee (f := 49) rfl ?_); refine goesL_ (some 6) rfl rfl Tryd.func49 (by kernel_rfl) rfl #[.nilIface, .iface 79 (.pointer (some ⟨w.heap.size, 0, none⟩))] rfl (by (try simp only [List.map_toArray, List.map_cons, List.map_nil]); first | done | rfl) ?_; (with_reducible refine (as_nil _ _).mono ?_); rintro e w2 ⟨rfl, rfl⟩; refine ⟨_, rfl, ?_⟩))
  go_ret
  exact ⟨rfl, (Below.refl _ _).alloc (Nat.le_refl _) _⟩
/-- What errors.As leaves where its target is a new variable. -/
theorem as_new (e : Addr) (w : World) (hG : w.cell? ⟨1, 0, none⟩ = some (.iface 108 (.agg #[.pointer (some ⟨2, 56, none⟩)]))) :
    Calls Tryd.prog 49 #[.iface 75 (.pointer (some e)), .iface 79 (.pointer (some ⟨w.heap.size, 0, none⟩))] (w.alloc (.cells #[.pointer none] 75)) fun ev w' => ev = .returned (.bool true) ∧ Below w.heap.size w w' ∧ w'.cell? ⟨w.heap.size, 0, none⟩ = some (.pointer (some e)) := by
  have hl := cell_lt hG
  have h1 : (w.alloc (.cells #[.pointer none] 75)).cell? ⟨1, 0, none⟩ = some (.iface 108 (.agg #[.pointer (some ⟨2, 56, none⟩)])) := by
    rw [World.cell?_alloc_lt _ _ ⟨1, 0, none⟩ hl]; exact hG
  have h2 : (w.alloc (.cells #[.pointer none] 75)).cell? ⟨w.heap.size, 0, none⟩ = some (.pointer none) := by simp
  have h3 : (w.alloc (.cells #[.pointer none] 75)).frozen? ⟨w.heap.size, 0, none⟩ = false := blk_frozen (blk_new w _) 0
  have hb := (Below.refl w.heap.size w).alloc (Nat.le_refl _) (.cells #[.pointer none] 75)
  have hz : (w.alloc (.cells #[.pointer none] 75)).heap.size = w.heap.size + 1 := by simp
  revert h1 h2 h3 hb hz
  generalize w.alloc (.cells #[.pointer none] 75) = W
  intro h1 h2 h3 hb hz
  refine (as_hit e ⟨w.heap.size, 0, none⟩ _ W h1 h2 h3).mono ?_
  rintro ev w' ⟨rfl, rfl⟩
  refine ⟨rfl, ?_, ?_⟩
  · refine Below.setCell (p := ⟨w.heap.size, 0, none⟩) ?_ (Nat.le_refl _) _
    refine Below.alloc ?_ (by simp; omega) _
    refine Below.alloc ?_ (by simp; omega) _
    refine Below.alloc ?_ (by simp; omega) _
    exact hb.alloc (by omega) _
  · refine World.cell?_setCell_same (u := .pointer none) _ _ _ ?_
    rw [World.cell?_alloc_lt _ _ _ (by simp; omega), World.cell?_alloc_lt _ _ _ (by simp; omega), World.cell?_alloc_lt _ _ _ (by simp; omega), World.cell?_alloc_lt _ _ _ (by simp; omega)]
    exact h2
theorem good_err (b : Addr) (g : Nat) (w : World) (hG : GlobE b w) (he : w.cell? ⟨g, 1, none⟩ = some (.iface 122 (.pointer (some b)))) : Calls Tryd.prog 27 #[.iface 75 (.pointer (some ⟨g, 0, none⟩))] w fun e w' => e = .returned (.bool false) ∧ Below w.heap.size w w' := by
  obtain ⟨h0, h1⟩ := hG
  go_enter Tryd.func27, Tryd.ntmps27
  go_wp2_with (first | ((with_reducible refine gate_callee (f := 49) rfl ?_); refine goesL_ (some 6) rfl rfl Tryd.func49 (by kernel_rfl) rfl #[.iface 75 (.pointer (some ⟨g, 0, none⟩)), .iface 79 (.pointer (some ⟨w.heap.size, 0, none⟩))] rfl (by (try simp only [List.map_toArray, List.map_cons, List.map_nil]); first | done | rfl) ?_; (with_reducible refine (as_new _ _ h1).mono ?_); rintro e w2 ⟨rfl, hb, hc⟩; have hc0 := (hb.cell (cell_lt h0)).trans h0; have he2 := (hb.cell (cell_lt he)).trans he; clear he h0 h1; refine ⟨_, rfl, ?_⟩))
  refine (is_wrap_same g 0 b _ he2).mono ?_
  rintro e w3 ⟨rfl, rfl⟩
  go_wp2
  go_ret
  exact ⟨rfl, hb⟩
theorem good_calls (b : Addr) (e : Int) (v : Value) (w : World) (hE : GoodV b w e v) (hG : GlobE b w) : Calls Tryd.prog 27 #[v] w fun x w' => x = .returned (.bool (decide (e = 0))) ∧ Below w.heap.size w w' := by
  rcases hE with ⟨rfl, rfl⟩ | ⟨rfl, g, cs, rfl, e2, e3⟩
  · exact (good_nil w).mono fun x w' ⟨h1, h2⟩ => ⟨h1, h2⟩
  · exact (good_err b g w hG ((blk_cell e2 1).trans e3)).mono fun x w' ⟨h1, h2⟩ => ⟨h1, h2⟩
end Go.Proofs.YtmlahbgogbjfpaaDoor.Erh
