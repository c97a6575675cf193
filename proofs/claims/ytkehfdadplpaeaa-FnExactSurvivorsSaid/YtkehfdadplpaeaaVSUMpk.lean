import Derived.Test.YtkehfdadplpaeaaShf
import Derived.Test.YtkehfdadplpaeaaVSUWWords
import Derived.Maps.OwnSet
import Derived.Maps.OwnOps
/- The keys of a map of numbers, told in their order (slices.Sorted over maps.Keys), by the shelf's contracts. -/
namespace Go.Proofs.Ytkehfdadplpaeaa.Mpk
open Go.RowKit Go.Maps Go.Sort Go.Shelf Go.Proofs
/-- slices.Sort's two contracts at this dump, at the fence that asks nothing. -/
theorem sorts (m : Nat) : AnyZI.SortsIn Try.prog Try.sortedA_ren Fence.wide m :=
  ⟨fun blk off cap ss W hH hblk hsz => callsIn_wide.2 (AnyM.slices_Sort_int Try.sortA blk off cap ss W hH hblk hsz),
   fun p cap W => callsIn_wide.2 (AnyM.slices_Sort_int_none Try.sortA p cap W)⟩
set_option maxHeartbeats 1000000 in
/-- The method keys: a new row that holds the map's keys, in order. -/
theorem keys {H : Type} (b nn : Nat) (D0 : DataW H) (R : Value → Option (DataW H × List MemPlace)) (w : World) (hown : w.ownsMap Try.prog 2 R b nn D0) (hmax : Maps.size D0 ≤ maxLen) (hbytes : Maps.size D0 * 8 ≤ 140737488355328) :
    Calls Try.prog 48 #[.agg #[.map (some b)]] w fun e w' => ∃ (v : Value) (ss : List Int), e = .returned v ∧ ss.Perm (intKeys D0) ∧
      w'.ownsRow w.heap.size 2 1 v ss.length ((ss.mergeSort (fun x y => decide (x ≤ y))).map encZ) ∧ Below w.heap.size w w' := by
  refine (callsIn_wide (n := 6)).1 ?_
  have hbl := hown.lt
  have hown1 : (w.alloc (.cells #[.map (some b)] 74)).ownsMap Try.prog 2 R b nn D0 := hown.alloc _
  have hseq : SeqGives Fence.wide 2 Try.prog 74 #[.pointer (some ⟨w.heap.size + 1, 0, none⟩)] encZ (fun ss => ss.Perm (intKeys D0)) (Maps.size D0) ((w.alloc (.cells #[.map (some b)] 74)).alloc (.cells #[.map (some b)] 62)) :=
    AnyZI.keys_gives (ρ := Try.keysA_ren) { Try.keysA with } Fence.wide _ trivial rfl (by omega) (w.heap.size + 1) b nn D0 _ (by simp) (by simp) (hown1.alloc _)
  have cK : ∀ mb W, CallsIn Fence.wide 5 Try.prog 63 #[.map mb] W fun e w' => e = .returned (.func (.func 74) #[] #[.pointer (some ⟨W.heap.size, 0, none⟩)]) ∧ w' = W.alloc (.cells #[.map mb] 62) := fun mb W => AnyZI.keys_in Try.keysA Fence.wide 5 trivial rfl mb W
  have cS := AnyZI.sorted_in Try.sortedA Fence.wide 5 trivial trivial trivial trivial rfl (by omega) (sorts _) (enters_of Try.func73 (by kernel_rfl) rfl) 74 #[.pointer (some ⟨w.heap.size + 1, 0, none⟩)] trivial (enters_of Try.func74 (by kernel_rfl) rfl) _ _ hmax hbytes _ hseq
  change CallsIn _ _ Try.prog 62 _ _ _ at cS
  have hfK : Fence.wide.fn 63 := trivial
  have hfS : Fence.wide.fn 62 := trivial
  refine callsIn_of_wp Try.func48 rfl trivial ?_ rfl
  simp only [Try.ntmps48, List.size_toArray, List.length_cons, List.length_nil, Nat.reduceAdd, Nat.reduceSub, Array.replicate_succ, Array.replicate_zero, List.push_toArray, List.append_toArray, List.nil_append, List.cons_append]
  have hu74 := Try.underlying74
  gi_wp2_with (first
    | (gi_at_call 63; refine (cK _ _).mono ?_; rintro e w' ⟨rfl, rfl⟩)
    | (gi_at_call 62; refine cS.mono ?_; rintro e w' ⟨v, ss, rfl, hS, hrow, hnil, hb⟩))
  go_ret
  exact ⟨v, ss, rfl, hS, ownsRow_base_a hrow (by simp only [World.size_alloc]; omega), Go.Proofs.YtkehfdadplpaeaaW.PrintWords.below_step (Go.Proofs.YtkehfdadplpaeaaW.PrintWords.below_alloc (Go.Proofs.YtkehfdadplpaeaaW.PrintWords.below_alloc (Below.refl w.heap.size w) _) _) hb⟩
end Go.Proofs.Ytkehfdadplpaeaa.Mpk
