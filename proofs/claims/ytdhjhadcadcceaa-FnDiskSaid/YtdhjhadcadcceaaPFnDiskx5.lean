-- written by a program of this session (wip/src/print2.py)
import Derived.Test.YtdhjhadcadcceaaPFnDiskx0
import Derived.Test.YtdhjhadcadcceaaPFnDiskx2
import Derived.Test.YtdhjhadcadcceaaPFnDiskx3
import Derived.Test.YtdhjhadcadcceaaPFnDiskx4
namespace Go.Proofs.Ytdhjhadcadcceaa.PFnDisk
open Go.RowKit Go.Proofs.YtdhjhadcadcceaaW.PrintWords Go.Proofs.YtdhjhadcadcceaaW.PrintLast Go.Proofs.YtdhjhadcadcceaaW.PrintMore
attribute [local go_sem] max2_int min2_int max_two min_two max_three min_three max_four min_four   -- for this text's walks alone
set_option linter.unusedVariables false
set_option linter.unusedSimpArgs false

/-! ### spec_DrawDiskDo: function 43 -/
mutual
def spec_DrawDiskDo.l0 : Nat → List (S93) → Int → Int → List Int → Int → Int → List Int → List (S62) → Option (List Int × (List (S62)) × (List (S93)) × Int)
 | 0, _, _, _, _, _, _, _, _ => none
 | k + 1, x7, x8, x9, x275000, x275001, x275002, x284000, x284001 => if x9 < x8 then ((spec_l1Blocks.f x284000 x284001).bind fun t290 => ((spec_l1Next.f x275000 x275001 x275002 t290).bind fun bt291 => ((spec_l1Fill.f k x275000 bt291.2.1 bt291.2.2).bind fun bt294 => ((spec_l1Chance.f x275000 bt294.2.1 bt294.2.2 3).bind fun bt300 => (if bt300.1 = true then (spec_DrawDiskDo.j1 k x7 x8 x9 x275000 bt300.2.1 bt300.2.2 x284000 x284001 2 0 ([] : List Int)) else (spec_DrawDiskDo.j1 k x7 x8 x9 x275000 bt300.2.1 bt300.2.2 x284000 x284001 1 bt291.1 bt294.1)))))) else ((spec_l1Chance.f x275000 x275001 x275002 40).bind fun bt325 => (if bt325.1 = true then ((spec_l1Next.f x275000 bt325.2.1 bt325.2.2 2).bind fun bt328 => (spec_DrawDiskDo.l1 k x7 x8 (wrap64 ((wrap64 (4000 + bt328.1)) - (x7.length : Int))) x275000 bt328.2.1 bt328.2.2 x284000 x284001)) else (spec_DrawDiskDo.j4 k x7 x8 x275000 bt325.2.1 bt325.2.2 x284000 x284001)))
def spec_DrawDiskDo.j1 : Nat → List (S93) → Int → Int → List Int → Int → Int → List Int → List (S62) → Int → Int → List Int → Option (List Int × (List (S62)) × (List (S93)) × Int)
 | 0, _, _, _, _, _, _, _, _, _, _, _ => none
 | k + 1, x7, x8, x9, x275000, x275001, x275002, x284000, x284001, x300000, x300001, x300002 => (spec_l1Next.f x275000 x275001 x275002 60).bind fun bt303 => (if bt303.1 = 0 then (spec_DrawDiskDo.j2 k x7 x8 x9 bt303.1 x275000 bt303.2.1 bt303.2.2 x284000 x284001 3 x300001 x300002) else (spec_DrawDiskDo.j2 k x7 x8 x9 bt303.1 x275000 bt303.2.1 bt303.2.2 x284000 x284001 x300000 x300001 x300002))
def spec_DrawDiskDo.j2 : Nat → List (S93) → Int → Int → Int → List Int → Int → Int → List Int → List (S62) → Int → Int → List Int → Option (List Int × (List (S62)) × (List (S93)) × Int)
 | 0, _, _, _, _, _, _, _, _, _, _, _, _ => none
 | k + 1, x7, x8, x9, x11, x275000, x275001, x275002, x284000, x284001, x300000, x300001, x300002 => if x11 = 1 then ((spec_l1Blocks.f x284000 x284001).bind fun t306 => (if x11 = 2 then (if x7.length < 3518437208883 then (spec_DrawDiskDo.l0 k (x7 ++ [(⟨x300000, t306, (([1] : List Int))⟩ : S93)]) x8 (wrap64 (x9 + 1)) x275000 x275001 x275002 x284000 x284001) else (none)) else (if x7.length < 3518437208883 then (spec_DrawDiskDo.l0 k (x7 ++ [(⟨x300000, t306, x300002⟩ : S93)]) x8 (wrap64 (x9 + 1)) x275000 x275001 x275002 x284000 x284001) else (none)))) else (if x11 = 2 then (if x7.length < 3518437208883 then (spec_DrawDiskDo.l0 k (x7 ++ [(⟨x300000, x300001, (([1] : List Int))⟩ : S93)]) x8 (wrap64 (x9 + 1)) x275000 x275001 x275002 x284000 x284001) else (none)) else (if x7.length < 3518437208883 then (spec_DrawDiskDo.l0 k (x7 ++ [(⟨x300000, x300001, x300002⟩ : S93)]) x8 (wrap64 (x9 + 1)) x275000 x275001 x275002 x284000 x284001) else (none)))
def spec_DrawDiskDo.j4 : Nat → List (S93) → Int → List Int → Int → Int → List Int → List (S62) → Option (List Int × (List (S62)) × (List (S93)) × Int)
 | 0, _, _, _, _, _, _, _ => none
 | k + 1, x7, x8, x275000, x275001, x275002, x284000, x284001 => (spec_l1Chance.f x275000 x275001 x275002 2).bind fun bt334 => (if bt334.1 = true then ((spec_l1Next.f x275000 bt334.2.1 bt334.2.2 (wrap64 (x8 + 2))).bind fun bt337 => (some (x284000, x284001, x7, bt337.1))) else (some (x284000, x284001, x7, (-1))))
def spec_DrawDiskDo.l1 : Nat → List (S93) → Int → Int → List Int → Int → Int → List Int → List (S62) → Option (List Int × (List (S62)) × (List (S93)) × Int)
 | 0, _, _, _, _, _, _, _, _ => none
 | k + 1, x7, x8, x12, x275000, x275001, x275002, x284000, x284001 => if x12 > 0 then (if x7.length < 3518437208883 then (spec_DrawDiskDo.l1 k (x7 ++ [(⟨2, 0, ([] : List Int)⟩ : S93)]) x8 (wrap64 (x12 - 1)) x275000 x275001 x275002 x284000 x284001) else (none)) else (spec_DrawDiskDo.j4 k x7 x8 x275000 x275001 x275002 x284000 x284001)
end
def spec_DrawDiskDo.f (k : Nat) (l0 : List Int) : Option (List Int × (List (S62)) × (List (S93)) × Int) := (spec_l1Source.f l0).bind fun bt271 => ((spec_l1DrawDisk.f k bt271.1 bt271.2.1 bt271.2.2).bind fun bt275 => ((spec_l1Next.f bt271.1 bt275.2.2.1 bt275.2.2.2 (wrap64 (6 + bt275.2.2.2))).bind fun bt287 => (spec_DrawDiskDo.l0 k (([] : List (S93))) bt287.1 0 bt271.1 bt287.2.1 bt287.2.2 bt275.1 bt275.2.1)))
set_option maxHeartbeats 8000000 in
set_option maxRecDepth 100000 in
theorem spec_DrawDiskDo.calls (k : Nat) (A0 : Option Addr) (c0 : Nat) (l0 : List Int) (r1 : List Int) (r2 : List (S62)) (r3 : List (S93)) (r4 : Int) (w : World) (hr0 : Kd.C (Kd.int .u8) w A0 l0.length l0) (hc0 : l0.length ≤ c0) (h : spec_DrawDiskDo.f k l0 = some (r1, r2, r3, r4)) :
  Calls Try.prog 43 #[.slice A0 l0.length c0] w fun e w' => ∃ v0_ v1_ v2_ : Value, e = .returned (.tuple #[.agg #[v0_, v1_], v2_, .int .i64 r4]) ∧ Kd.R (Kd.int .u8) 5 w' w.heap.size (fun k_ => (w.heap.size ≤ k_)) v0_ r1 ∧ Kd.N k62 62 w' w.heap.size (fun k_ => (w.heap.size ≤ k_) ∧ some k_ ≠ (v0_ : Value).ownBlock ∧ some k_ ≠ (v2_ : Value).ownBlock) v1_ r2 ∧ Kd.N k93 93 w' w.heap.size (fun k_ => (w.heap.size ≤ k_) ∧ some k_ ≠ (v0_ : Value).ownBlock ∧ some k_ ≠ (v1_ : Value).ownBlock) v2_ r3 ∧ Below w.heap.size w w' := by
 have hu29 := Try.underlying29
 have hu93 := Try.underlying93
 have HR0 := Aside0.mk hr0
 have HC0 := Aside0.mk hc0
 clear hr0 hc0
 have HB := Aside0.mk (Below.refl w.heap.size w)
 have H : ((spec_l1Source.f l0).bind fun bt271 => ((spec_l1DrawDisk.f k bt271.1 bt271.2.1 bt271.2.2).bind fun bt275 => ((spec_l1Next.f bt271.1 bt275.2.2.1 bt275.2.2.2 (wrap64 (6 + bt275.2.2.2))).bind fun bt287 => (spec_DrawDiskDo.l0 k (([] : List (S93))) bt287.1 0 bt271.1 bt287.2.1 bt287.2.2 bt275.1 bt275.2.1)))) = some (r1, r2, r3, r4) := h
 clear h
 replace H := Option.bind_eq_some_iff.mp H
 obtain ⟨⟨t271, t272, t273⟩, A20, H⟩ := H
 replace H : ((spec_l1DrawDisk.f k t271 t272 t273).bind fun bt275 => ((spec_l1Next.f t271 bt275.2.2.1 bt275.2.2.2 (wrap64 (6 + bt275.2.2.2))).bind fun bt287 => (spec_DrawDiskDo.l0 k (([] : List (S93))) bt287.1 0 t271 bt287.2.1 bt287.2.2 bt275.1 bt275.2.1))) = some (r1, r2, r3, r4) := H
 have A2 := Aside0.mk A20
 clear A20
 replace H := Option.bind_eq_some_iff.mp H
 obtain ⟨⟨t275, t278, t281, t282⟩, A30, H⟩ := H
 replace H : ((spec_l1Next.f t271 t281 t282 (wrap64 (6 + t282))).bind fun bt287 => (spec_DrawDiskDo.l0 k (([] : List (S93))) bt287.1 0 t271 bt287.2.1 bt287.2.2 t275 t278)) = some (r1, r2, r3, r4) := H
 have A3 := Aside0.mk A30
 clear A30
 obtain ⟨y284, hy284⟩ : ∃ y_ : List (S93), y_ = (([] : List (S93))) := ⟨_, rfl⟩
 replace H : ((spec_l1Next.f t271 t281 t282 (wrap64 (6 + t282))).bind fun bt287 => (spec_DrawDiskDo.l0 k y284 bt287.1 0 t271 bt287.2.1 bt287.2.2 t275 t278)) = some (r1, r2, r3, r4) := by first | (rw [hy284]; with_reducible exact H) | (have H2_ := (Option.bind_some _ _).symm.trans H; rw [hy284]; with_reducible exact H2_) | (have H2_ := (Option.bind_some _ _).symm.trans H; with_reducible exact H2_) | with_reducible exact H | (rw [hy284]; exact H) | exact H
 have Ny284 := Aside0.mk hy284
 clear hy284
 replace H := Option.bind_eq_some_iff.mp H
 obtain ⟨⟨t287, t288, t289⟩, A40, H⟩ := H
 replace H : (spec_DrawDiskDo.l0 k y284 t287 0 t271 t288 t289 t275 t278) = some (r1, r2, r3, r4) := H
 have A4 := Aside0.mk A40
 clear A40
 have H' := Aside0.mk H
 clear H
 go_enter Try.func43, Try.ntmps43
 go_wp2_with (first | ((with_reducible refine gate_dst (N := 2) rfl ?_); refine Rgn.bx 2 #[.slice none 0 0, .slice none 0 0] 29 ?_; intro gb270 hg w5 hbox hb; have BK270 := Aside0.mk (hbox); have GW270 := Aside0.mk (Rgn.ge hg HB.out); have GE270 := Aside0.mk (Rgn.ge hg HB.out); replace HB := Aside0.mk (below_step (Rgn.bq HB.out) hb); clear hb hbox hg) | ((with_reducible refine gate_callee (f := 80) rfl ?_); refine Rgn.gl (some 15) Try.func80 #[.slice A0 l0.length c0] ?_; (with_reducible refine (spec_l1Source.calls _ _ l0 t271 t272 t273 w _ ?side1 ?side2 ?side3 A2.out).mono ?_); (case side1 => exact Rgn.bq HB.out); (case side2 => exact HR0.out); (case side3 => exact HC0.out); rintro e w6 ⟨g274, rfl, hi, hb, hb2⟩; refine ⟨_, rfl, ?_⟩; replace HB := Aside0.mk (hb); have HI274 := Aside0.mk (hi); have NB274_270 := Aside0.mk (IsS90.ne_blk hi (blk_below (g := gb270) (o := .cells #[.slice none 0 0, .slice none 0 0] 29 (0, 0)) (Rgn.kb BK270.out) hb2) (by decide)); have NB270_274 := Aside0.mk (Ne.symm (IsS90.ne_blk hi (blk_below (g := gb270) (o := .cells #[.slice none 0 0, .slice none 0 0] 29 (0, 0)) (Rgn.kb BK270.out) hb2) (by decide))); replace BK270 := Aside0.mk (blk_below (g := gb270) (o := .cells #[.slice none 0 0, .slice none 0 0] 29 (0, 0)) (Rgn.kb BK270.out) hb2); (try clear hb); (try clear hb2); (try clear hi)) | ((with_reducible refine gate_callee (f := 81) rfl ?_); refine Rgn.gl (some 17) Try.func81 #[.pointer (some ⟨g274, 0, none⟩)] ?_; (with_reducible refine (spec_l1DrawDisk.calls k g274 t271 t272 t273 t275 t278 t281 t282 w _ ?side1 ?side2 A3.out).mono ?_); (case side1 => repeat (first | (with_reducible first | exact HI274.out | apply IsS90.alloc | apply IsS90.drewN | apply IsS90.drew | apply IsS90.set_1 | apply IsS90.set_2 | refine IsS90.far ?_ NB274_270.out _) | exact HI274.out)); (case side2 => repeat (first | (with_reducible first | exact HB.out | apply below_alloc | apply pw_below_drewN | apply below_drew1 | refine below_set ?_ (IsS90.ge HI274.out) | refine below_set ?_ GE270.out) | exact HB.out)); rintro e w7 ⟨v276, v279, rfl, ho0, ho1, hi, hb, hk⟩; refine ⟨_, rfl, ?_⟩; have HO277 := Aside0.mk (Kd.R_lower (Kd.R_newM (M := fun k_ => (w.heap.size ≤ k_)) (Kd.R_mono (ok' := fun k_ => True) ho0 (fun _ hk_ => trivial)) (below_size (Rgn.bs HB.out (IsS90.ge HI274.out))) (fun k_ h_ => h_)) (below_size (Rgn.bs HB.out (IsS90.ge HI274.out)))); have HO280 := Aside0.mk (Kd.N_lower (Kd.N_mono (ok' := fun k_ => (w.heap.size ≤ k_) ∧ some k_ ≠ (v276 : Value).ownBlock ∧ k_ ≠ gb270 ∧ k_ ≠ g274) ho1 (fun k_ hk_ => ⟨(Nat.le_trans (below_size (Rgn.bs HB.out (IsS90.ge HI274.out))) hk_.1), hk_.2, (Kd.freshB (g := gb270) (o := .cells #[.slice none 0 0, .slice none 0 0] 29 (0, 0)) (Rgn.kb BK270.out) k_ hk_.1), (IsS90.fresh (IsS90.q HI274.out) k_ hk_.1)⟩)) (below_size (Rgn.bs HB.out (IsS90.ge HI274.out)))); replace BK270 := Aside0.mk (Rgn.kb2 hk BK270.out NB270_274.out); replace HB := Aside0.mk (hb); replace HI274 := Aside0.mk (hi); (try clear hb); (try clear hk); (try clear hi); (try clear ho0); (try clear ho1)) | ((with_reducible refine gate_dst (N := 6) rfl ?_); refine Rgn.bx 6 #[.slice none 0 0, .slice none 0 0] 29 ?_; intro gb283 hg w8 hbox hb; replace HO277 := Aside0.mk (Kd.R_below (Rgn.rq HO277.out) hb); replace HO280 := Aside0.mk (Kd.N_below (Kd.N_elderB (Rgn.nq HO280.out) gb283 (Nat.le_of_eq hg.symm)) hb); have BK283 := Aside0.mk (hbox); have GW283 := Aside0.mk ((by rw [hg]; exact (below_size (Rgn.bs HB.out (IsS90.ge HI274.out))) : w.heap.size ≤ gb283)); have GE283 := Aside0.mk ((by rw [hg]; exact (below_size (Rgn.bs HB.out (IsS90.ge HI274.out))) : w.heap.size ≤ gb283)); replace HB := Aside0.mk (below_step (Rgn.bs HB.out (IsS90.ge HI274.out)) hb); have NB270_283 := Aside0.mk (Rgn.nl hg BK270.out); have NB283_270 := Aside0.mk (Rgn.ng hg BK270.out); replace BK270 := Aside0.mk (Rgn.bb BK270.out hb); have NB274_283 := Aside0.mk ((by rw [hg]; exact Nat.ne_of_lt (IsS90.lt (show IsS90 w _ g274 t271 t281 t282 from IsS90.q HI274.out)) : g274 ≠ gb283)); have NB283_274 := Aside0.mk ((by rw [hg]; exact Nat.ne_of_gt (IsS90.lt (show IsS90 w _ g274 t271 t281 t282 from IsS90.q HI274.out)) : gb283 ≠ g274)); replace HI274 := Aside0.mk (IsS90.below (IsS90.q HI274.out) hb); clear hb hbox hg; obtain ⟨Ao9, co9, eo9⟩ := Kd.R_slice HO277.out; subst eo9; have hnb10 := NB283_270.out; have hnc10 := NB270_283.out; have hnb11 := NB283_274.out; have hnc11 := NB274_283.out; obtain ⟨hcz12_0, hcz12_1, hfz12_0, hfz12_1⟩ := Rgn.c2 BK283.out; obtain ⟨Ao13, co13, eo13⟩ := Kd.N_slice HO280.out; subst eo13) | ((with_reducible refine gate_dst (N := 18) rfl ?_); refine Kd.N_lit k93 _ 93 ?hg (N' := 18) ?hd (xs := ([] : List (S93))) (inner := []) (ok := (fun k_ => (w.heap.size ≤ k_) ∧ some k_ ≠ (.slice Ao9 t275.length co9 : Value).ownBlock ∧ some k_ ≠ (.slice Ao13 t278.length co13 : Value).ownBlock ∧ k_ ≠ gb270 ∧ k_ ≠ gb283 ∧ k_ ≠ g274)) (okp := (fun k_ => (w.heap.size ≤ k_) ∧ some k_ ≠ (.slice Ao9 t275.length co9 : Value).ownBlock ∧ some k_ ≠ (.slice Ao13 t278.length co13 : Value).ownBlock ∧ k_ ≠ gb270 ∧ k_ ≠ gb283 ∧ k_ ≠ g274)) ?hr ?hp (fun _ hk => hk) ((show ∀ k_, ((w8.setCell ⟨gb283, 0, none⟩ (.slice Ao9 t275.length co9)).setCell ⟨gb283, 1, none⟩ (.slice Ao13 t278.length co13)).heap.size ≤ k_ → (fun k_ => (w.heap.size ≤ k_) ∧ some k_ ≠ (.slice Ao9 t275.length co9 : Value).ownBlock ∧ some k_ ≠ (.slice Ao13 t278.length co13 : Value).ownBlock ∧ k_ ≠ gb270 ∧ k_ ≠ gb283 ∧ k_ ≠ g274) k_ from fun k_ hk => ⟨(Nat.le_trans (below_size (Rgn.bs HB.out (IsS90.ge HI274.out))) hk), Kd.fresh' (Kd.R_lt (Rgn.rq (Kd.R_mono (Kd.R_far (p := ⟨gb283, 1, none⟩) (Kd.R_far (p := ⟨gb283, 0, none⟩) (Kd.R_types HO277.out BK283.out (by decide)) (fun _ hk => hk.2) (.slice Ao9 t275.length co9)) (fun _ hk => hk.2) (.slice Ao13 t278.length co13)) (fun _ h_ => h_.1)))) k_ hk, Kd.fresh' (Kd.N_lt (Rgn.nq (Kd.N_mono (Kd.N_far (p := ⟨gb283, 1, none⟩) (Kd.N_far (p := ⟨gb283, 0, none⟩) (Kd.N_mono HO280.out (fun k_ hk => (⟨hk, hk.2⟩ : _ ∧ k_ ≠ gb283))) (fun _ hk => hk.2) (.slice Ao9 t275.length co9)) (fun _ hk => hk.2) (.slice Ao13 t278.length co13)) (fun _ h_ => h_.1)))) k_ hk, Kd.freshB (g := gb270) (o := .cells #[.slice none 0 0, .slice none 0 0] 29 (0, 0)) (Rgn.kf BK270.out) k_ hk, Kd.freshB (g := gb283) (o := .cells #[.slice Ao9 t275.length co9, .slice Ao13 t278.length co13] 29 (0, 0)) (by (with_reducible repeat (first | refine blk_drewN ?_ _ | refine blk_drew ?_ | refine blk_alloc ?_ _)); refine blk_put (cs := #[.slice Ao9 t275.length co9, .slice none 0 0]) ?_ 1 _ rfl; (with_reducible repeat (first | refine blk_drewN ?_ _ | refine blk_drew ?_ | refine blk_alloc ?_ _)); refine blk_put (cs := #[.slice none 0 0, .slice none 0 0]) ?_ 0 _ rfl; (with_reducible repeat (first | refine blk_drewN ?_ _ | refine blk_drew ?_ | refine blk_alloc ?_ _)); exact BK283.out) k_ hk, IsS90.fresh (IsS90.q HI274.out) k_ hk⟩) _ (Nat.le_refl _)) (Below.refl _ _) (Nat.le_refl _) (by simp) ?_; (case hd => rfl); (case hg => rfl); (case hr => first | (go_simp; done) | (go_simp; rfl)); (case hp => exact (Reps.none _ _)); intro v285 w14 ho15 hb hg_ hnew_; clear hg_ hnew_; (first | rw [← Ny284.out] at ho15 | (simp only [Int.reduceToNat] at ho15; rw [← Ny284.out] at ho15)); replace HO277 := Aside0.mk (Kd.R_below (Rgn.rq (Kd.R_mono (Kd.R_far (p := ⟨gb283, 1, none⟩) (Kd.R_far (p := ⟨gb283, 0, none⟩) (Kd.R_types HO277.out BK283.out (by decide)) (fun _ hk => hk.2) (.slice Ao9 t275.length co9)) (fun _ hk => hk.2) (.slice Ao13 t278.length co13)) (fun _ h_ => h_.1))) hb); replace HO280 := Aside0.mk (Kd.N_elder' (Rgn.nq (Kd.N_mono (Kd.N_far (p := ⟨gb283, 1, none⟩) (Kd.N_far (p := ⟨gb283, 0, none⟩) (Kd.N_mono HO280.out (fun k_ hk => (⟨hk, hk.2⟩ : _ ∧ k_ ≠ gb283))) (fun _ hk => hk.2) (.slice Ao9 t275.length co9)) (fun _ hk => hk.2) (.slice Ao13 t278.length co13)) (fun _ h_ => h_.1))) (Kd.N_base ho15) hb); have HO286 := Aside0.mk (Kd.N_lower ho15 (below_size (Rgn.bs HB.out (IsS90.ge HI274.out)))); replace BK270 := Aside0.mk (blk_below (g := gb270) (o := .cells #[.slice none 0 0, .slice none 0 0] 29 (0, 0)) (Rgn.kf BK270.out) hb); replace BK283 := Aside0.mk (blk_below (g := gb283) (o := .cells #[.slice Ao9 t275.length co9, .slice Ao13 t278.length co13] 29 (0, 0)) (by (with_reducible repeat (first | refine blk_drewN ?_ _ | refine blk_drew ?_ | refine blk_alloc ?_ _)); refine blk_put (cs := #[.slice Ao9 t275.length co9, .slice none 0 0]) ?_ 1 _ rfl; (with_reducible repeat (first | refine blk_drewN ?_ _ | refine blk_drew ?_ | refine blk_alloc ?_ _)); refine blk_put (cs := #[.slice none 0 0, .slice none 0 0]) ?_ 0 _ rfl; (with_reducible repeat (first | refine blk_drewN ?_ _ | refine blk_drew ?_ | refine blk_alloc ?_ _)); exact BK283.out) hb); replace HB := Aside0.mk (below_step (Rgn.bs HB.out (IsS90.ge HI274.out)) hb); replace HI274 := Aside0.mk (IsS90.below (show IsS90 w ((w8.setCell ⟨gb283, 0, none⟩ (.slice Ao9 t275.length co9)).setCell ⟨gb283, 1, none⟩ (.slice Ao13 t278.length co13)) g274 t271 t281 t282 from IsS90.q HI274.out) hb); clear hb ho15; obtain ⟨ASz16_0, cSz16_0, HGz16, hgz16, HSz16_0⟩ := HI274.out; have hcz16_0 := cellS90_0 HGz16; have hcz16_1 := cellS90_1 HGz16; have hcz16_2 := cellS90_2 HGz16; have hfz16_1 := blk_frozen HGz16 1; have hfz16_2 := blk_frozen HGz16 2; clear HGz16 hgz16) | ((with_reducible refine gate_callee (f := 82) rfl ?_); refine Rgn.gl (some 25) Try.func82 #[.pointer (some ⟨g274, 0, none⟩), .int .i64 (wrap64 (6 + t282))] ?_; (with_reducible refine (spec_l1Next.calls g274 t271 t281 t282 (wrap64 (6 + t282)) t287 t288 t289 w _ ?side1 ?side2 A4.out).mono ?_); (case side1 => repeat (first | (with_reducible first | exact HI274.out | apply IsS90.alloc | apply IsS90.drewN | apply IsS90.drew | apply IsS90.set_1 | apply IsS90.set_2 | refine IsS90.far ?_ NB274_270.out _ | refine IsS90.far ?_ NB274_283.out _) | exact HI274.out)); (case side2 => repeat (first | (with_reducible first | exact HB.out | apply below_alloc | apply pw_below_drewN | apply below_drew1 | refine below_set ?_ (IsS90.ge HI274.out) | refine below_set ?_ GE270.out | refine below_set ?_ GE283.out) | exact HB.out)); rintro e w17 ⟨rfl, hi, hb, hk⟩; refine ⟨_, rfl, ?_⟩; replace BK270 := Aside0.mk (Rgn.kb2 hk BK270.out NB270_274.out); replace HO277 := Aside0.mk (Kd.R_mono (Kd.R_keep (IsS90.apart (show IsS90 w _ g274 t271 t281 t282 from IsS90.q HI274.out) (Rgn.rq HO277.out) (by decide)) hk (fun _ h => h.2)) (fun _ h => h.1)); replace HO280 := Aside0.mk (Kd.N_mono (Kd.N_keep (Kd.N_mono (ok := fun k_ => (((((w.heap.size ≤ k_)) ∧ (some k_ ≠ (.slice Ao9 t275.length co9 : Value).ownBlock ∧ (k_ ≠ gb270 ∧ k_ ≠ g274))) ∧ k_ ≠ gb283) ∧ some k_ ≠ (v285 : Value).ownBlock)) (Rgn.nq HO280.out) (fun k_ hk_ => (⟨hk_, hk_.1.1.2.2.2⟩ : _ ∧ k_ ≠ g274))) hk (fun _ h => h.2)) (fun _ h => h.1)); replace BK283 := Aside0.mk (Rgn.kb2 hk BK283.out NB283_274.out); replace HO286 := Aside0.mk (Kd.N_mono (Kd.N_keep (Kd.N_mono (ok := fun k_ => (((w.heap.size ≤ k_)) ∧ (some k_ ≠ (.slice Ao9 t275.length co9 : Value).ownBlock ∧ (some k_ ≠ (.slice Ao13 t278.length co13 : Value).ownBlock ∧ (k_ ≠ gb270 ∧ (k_ ≠ gb283 ∧ k_ ≠ g274)))))) (Rgn.nq HO286.out) (fun k_ hk_ => (⟨hk_, hk_.2.2.2.2.2⟩ : _ ∧ k_ ≠ g274))) hk (fun _ h => h.2)) (fun _ h => h.1)); replace HB := Aside0.mk (hb); replace HI274 := Aside0.mk (hi); (try clear hb); (try clear hk); (try clear hi)))
 go_loopg [7, 9] k (fun kq v7 v9 w' => ∃ (x7_1 : List (S93)) (x9_1 : Int) (x275001_1 : Int) (x275002_1 : Int), v9 = .int .i64 x9_1 ∧ Aside0 (spec_DrawDiskDo.l0 kq x7_1 t287 x9_1 t271 x275001_1 x275002_1 t275 t278 = some (r1, r2, r3, r4)) ∧ Aside0 (kq ≤ k) ∧ Aside0 (Kd.N k93 93 w' w.heap.size (fun k_ => (w.heap.size ≤ k_) ∧ some k_ ≠ ((.slice Ao9 t275.length co9) : Value).ownBlock ∧ some k_ ≠ ((.slice Ao13 t278.length co13) : Value).ownBlock ∧ k_ ≠ gb270 ∧ k_ ≠ gb283 ∧ k_ ≠ g274) v7 x7_1) ∧ Aside0 (Kd.R (Kd.int .u8) 5 w' w.heap.size (fun k_ => (w.heap.size ≤ k_)) (.slice Ao9 t275.length co9) t275) ∧ Aside0 (Kd.N k62 62 w' w.heap.size (fun k_ => (w.heap.size ≤ k_) ∧ some k_ ≠ (v7 : Value).ownBlock ∧ some k_ ≠ ((.slice Ao9 t275.length co9) : Value).ownBlock ∧ k_ ≠ gb270 ∧ k_ ≠ gb283 ∧ k_ ≠ g274) (.slice Ao13 t278.length co13) t278) ∧ Aside0 (w'.heap[gb270]? = some (.cells #[(.slice none 0 0), (.slice none 0 0)] 29 (0, 0))) ∧ Aside0 (w'.heap[gb283]? = some (.cells #[(.slice Ao9 t275.length co9), (.slice Ao13 t278.length co13)] 29 (0, 0))) ∧ Aside0 (IsS90 w w' g274 t271 x275001_1 x275002_1) ∧ Aside0 (Below w.heap.size w w'))
 case atStart => exact ⟨(y284), (0), (t288), (t289), (by first | rfl | (simp; done) | (simp [*]; done)), H', ⟨Nat.le_refl _⟩, ⟨by (with_reducible repeat (first | apply Kd.N_alloc | apply Kd.N_drewN | apply Kd.N_drew)); exact HO286.out⟩, ⟨by (with_reducible repeat (first | apply Kd.R_alloc | apply Kd.R_drewN | apply Kd.R_drew)); exact Kd.R_mono HO277.out (fun _ hk => hk.1)⟩, ⟨by (with_reducible repeat (first | apply Kd.N_alloc | apply Kd.N_drewN | apply Kd.N_drew)); exact Kd.N_mono HO280.out (fun _ hk => ⟨hk.1.1.1, ⟨hk.2, ⟨hk.1.1.2.1, ⟨hk.1.1.2.2.1, ⟨hk.1.2, hk.1.1.2.2.2⟩⟩⟩⟩⟩)⟩, ⟨Rgn.kb BK270.out⟩, ⟨Rgn.kb BK283.out⟩, ⟨IsS90.q HI274.out⟩, ⟨Rgn.bs HB.out (IsS90.ge HI274.out)⟩⟩
 case round =>
  clear H'
  try clear c1
  try clear p2
  try clear c4
  try clear p6
  try clear c8
  try clear c10
  try clear c11
  try clear hcz12_0 hcz12_1
  try clear hcz16_0 hcz16_1 hcz16_2
  try clear hfz12_0 hfz12_1
  try clear hfz16_1 hfz16_2
  obtain ⟨x7_1, x9_1, x275001_1, x275002_1, rfl, HA, HK1, HO_7, HO_284000, HO_284001, BK270, BK283, HI274, HB⟩ := hrel
  cases gk with
  | zero => exact absurd HA.out (by simp [spec_DrawDiskDo.l0])
  | succ k1 =>
   have H := HA.out
   clear HA
   simp only [spec_DrawDiskDo.l0] at H
   by_cases c18 : x9_1 < t287
   ·
    rw [if_pos c18] at H
    have c18b0 : decide (x9_1 < t287) = true := decide_eq_true c18
    clear c18
    replace H := Option.bind_eq_some_iff.mp H
    obtain ⟨t290, A190, H⟩ := H
    replace H : ((spec_l1Next.f t271 x275001_1 x275002_1 t290).bind fun bt291 => ((spec_l1Fill.f k1 t271 bt291.2.1 bt291.2.2).bind fun bt294 => ((spec_l1Chance.f t271 bt294.2.1 bt294.2.2 3).bind fun bt300 => (if bt300.1 = true then (spec_DrawDiskDo.j1 k1 x7_1 t287 x9_1 t271 bt300.2.1 bt300.2.2 t275 t278 2 0 ([] : List Int)) else (spec_DrawDiskDo.j1 k1 x7_1 t287 x9_1 t271 bt300.2.1 bt300.2.2 t275 t278 1 bt291.1 bt294.1))))) = some (r1, r2, r3, r4) := H
    have A19 := Aside0.mk A190
    clear A190
    replace H := Option.bind_eq_some_iff.mp H
    obtain ⟨⟨t291, t292, t293⟩, A200, H⟩ := H
    replace H : ((spec_l1Fill.f k1 t271 t292 t293).bind fun bt294 => ((spec_l1Chance.f t271 bt294.2.1 bt294.2.2 3).bind fun bt300 => (if bt300.1 = true then (spec_DrawDiskDo.j1 k1 x7_1 t287 x9_1 t271 bt300.2.1 bt300.2.2 t275 t278 2 0 ([] : List Int)) else (spec_DrawDiskDo.j1 k1 x7_1 t287 x9_1 t271 bt300.2.1 bt300.2.2 t275 t278 1 t291 bt294.1)))) = some (r1, r2, r3, r4) := H
    have A20 := Aside0.mk A200
    clear A200
    replace H := Option.bind_eq_some_iff.mp H
    obtain ⟨⟨t294, t297, t298⟩, A210, H⟩ := H
    replace H : ((spec_l1Chance.f t271 t297 t298 3).bind fun bt300 => (if bt300.1 = true then (spec_DrawDiskDo.j1 k1 x7_1 t287 x9_1 t271 bt300.2.1 bt300.2.2 t275 t278 2 0 ([] : List Int)) else (spec_DrawDiskDo.j1 k1 x7_1 t287 x9_1 t271 bt300.2.1 bt300.2.2 t275 t278 1 t291 t294))) = some (r1, r2, r3, r4) := H
    have A21 := Aside0.mk A210
    clear A210
    replace H := Option.bind_eq_some_iff.mp H
    obtain ⟨⟨t300, t301, t302⟩, A220, H⟩ := H
    replace H : (if t300 = true then (spec_DrawDiskDo.j1 k1 x7_1 t287 x9_1 t271 t301 t302 t275 t278 2 0 ([] : List Int)) else (spec_DrawDiskDo.j1 k1 x7_1 t287 x9_1 t271 t301 t302 t275 t278 1 t291 t294)) = some (r1, r2, r3, r4) := H
    have A22 := Aside0.mk A220
    clear A220
    have HC23 := Aside0.mk H
    clear H
    have hnb24 := NB283_270.out
    have hnc24 := NB270_283.out
    have hnb25 := NB283_274.out
    have hnc25 := NB274_283.out
    have hcz26_0 := Rgn.cz0 BK283.out
    have hcz26_1 := Rgn.cz1 BK283.out
    have hfz26_0 := blk_frozen BK283.out 0
    have hfz26_1 := blk_frozen BK283.out 1
    go_upto_if 39 with (first | ((with_reducible refine gate_callee (f := 70) rfl ?_); refine Rgn.gl (some 33) Try.func70 #[.agg #[.slice Ao9 t275.length co9, .slice Ao13 t278.length co13]] ?_; (with_reducible refine (spec_l1Blocks.calls _ _ t275 _ _ t278 t290 _ ?side1 ?side2 ?side3 ?side4 A19.out).mono ?_); (case side1 => exact Rgn.cq (Kd.R_reads' HO_284000.out).2.2); (case side2 => exact (Kd.R_reads' HO_284000.out).2.1); (case side3 => repeat (first | exact (Kd.N_reads' HO_284001.out).2.2 | (with_reducible refine Kd.C_alloc ?_ _) | (with_reducible refine Kd.C_drewN ?_ _) | (with_reducible refine Kd.C_drew ?_))); (case side4 => exact (Kd.N_reads' HO_284001.out).2.1); rintro e w27 ⟨rfl, hb⟩; refine ⟨_, rfl, ?_⟩; replace HO_7 := Aside0.mk (Kd.N_below (Rgn.nq HO_7.out) hb); replace HO_284000 := Aside0.mk (Kd.R_below (Rgn.rq HO_284000.out) hb); replace HO_284001 := Aside0.mk (Kd.N_below (Rgn.nq HO_284001.out) hb); replace BK270 := Aside0.mk (Rgn.bb BK270.out hb); replace BK283 := Aside0.mk (Rgn.bb BK283.out hb); replace HB := Aside0.mk (below_step (Rgn.bs HB.out (IsS90.ge HI274.out)) hb); replace HI274 := Aside0.mk (IsS90.below (IsS90.q HI274.out) hb); (try clear hb)) | ((with_reducible refine gate_callee (f := 82) rfl ?_); refine Rgn.gl (some 34) Try.func82 #[.pointer (some ⟨g274, 0, none⟩), .int .i64 t290] ?_; (with_reducible refine (spec_l1Next.calls g274 t271 x275001_1 x275002_1 t290 t291 t292 t293 w _ ?side1 ?side2 A20.out).mono ?_); (case side1 => repeat (first | (with_reducible first | exact HI274.out | apply IsS90.alloc | apply IsS90.drewN | apply IsS90.drew | apply IsS90.set_1 | apply IsS90.set_2 | refine IsS90.far ?_ NB274_270.out _ | refine IsS90.far ?_ NB274_283.out _) | exact HI274.out)); (case side2 => repeat (first | (with_reducible first | exact HB.out | apply below_alloc | apply pw_below_drewN | apply below_drew1 | refine below_set ?_ (IsS90.ge HI274.out) | refine below_set ?_ GE270.out | refine below_set ?_ GE283.out) | exact HB.out)); rintro e w28 ⟨rfl, hi, hb, hk⟩; refine ⟨_, rfl, ?_⟩; replace HO_7 := Aside0.mk (Kd.N_mono (Kd.N_keep (Kd.N_mono (ok := fun k_ => (((w.heap.size ≤ k_)) ∧ (some k_ ≠ (.slice Ao9 t275.length co9 : Value).ownBlock ∧ (some k_ ≠ (.slice Ao13 t278.length co13 : Value).ownBlock ∧ (k_ ≠ gb270 ∧ (k_ ≠ gb283 ∧ k_ ≠ g274)))))) (Rgn.nq HO_7.out) (fun k_ hk_ => (⟨hk_, hk_.2.2.2.2.2⟩ : _ ∧ k_ ≠ g274))) hk (fun _ h => h.2)) (fun _ h => h.1)); replace HO_284000 := Aside0.mk (Kd.R_mono (Kd.R_keep (IsS90.apart (show IsS90 w _ g274 t271 x275001_1 x275002_1 from IsS90.q HI274.out) (Rgn.rq HO_284000.out) (by decide)) hk (fun _ h => h.2)) (fun _ h => h.1)); replace HO_284001 := Aside0.mk (Kd.N_mono (Kd.N_keep (Kd.N_mono (ok := fun k_ => (((w.heap.size ≤ k_)) ∧ (some k_ ≠ (u7 : Value).ownBlock ∧ (some k_ ≠ (.slice Ao9 t275.length co9 : Value).ownBlock ∧ (k_ ≠ gb270 ∧ (k_ ≠ gb283 ∧ k_ ≠ g274)))))) (Rgn.nq HO_284001.out) (fun k_ hk_ => (⟨hk_, hk_.2.2.2.2.2⟩ : _ ∧ k_ ≠ g274))) hk (fun _ h => h.2)) (fun _ h => h.1)); replace BK270 := Aside0.mk (Rgn.kb2 hk BK270.out NB270_274.out); replace BK283 := Aside0.mk (Rgn.kb2 hk BK283.out NB283_274.out); replace HB := Aside0.mk (hb); replace HI274 := Aside0.mk (hi); (try clear hb); (try clear hk); (try clear hi)) | ((with_reducible refine gate_callee (f := 83) rfl ?_); refine Rgn.gl (some 36) Try.func83 #[.pointer (some ⟨g274, 0, none⟩)] ?_; (with_reducible refine (spec_l1Fill.calls k1 g274 t271 t292 t293 t294 t297 t298 w _ ?side1 ?side2 A21.out).mono ?_); (case side1 => repeat (first | (with_reducible first | exact HI274.out | apply IsS90.alloc | apply IsS90.drewN | apply IsS90.drew | apply IsS90.set_1 | apply IsS90.set_2 | refine IsS90.far ?_ NB274_270.out _ | refine IsS90.far ?_ NB274_283.out _) | exact HI274.out)); (case side2 => repeat (first | (with_reducible first | exact HB.out | apply below_alloc | apply pw_below_drewN | apply below_drew1 | refine below_set ?_ (IsS90.ge HI274.out) | refine below_set ?_ GE270.out | refine below_set ?_ GE283.out) | exact HB.out)); rintro e w29 ⟨v295, rfl, ho0, hi, hb, hk⟩; refine ⟨_, rfl, ?_⟩; replace HO_7 := Aside0.mk (Kd.N_mono (Kd.N_told (Kd.N_oldK (Kd.N_mono (ok := fun k_ => (((w.heap.size ≤ k_)) ∧ (some k_ ≠ (.slice Ao9 t275.length co9 : Value).ownBlock ∧ (some k_ ≠ (.slice Ao13 t278.length co13 : Value).ownBlock ∧ (k_ ≠ gb270 ∧ (k_ ≠ gb283 ∧ k_ ≠ g274)))))) (Rgn.nq HO_7.out) (fun k_ hk_ => (⟨hk_, hk_.2.2.2.2.2⟩ : _ ∧ k_ ≠ g274))) hk) (Kd.R_base ho0)) (fun _ h_ => h_.1)); replace HO_284001 := Aside0.mk (Kd.N_mono (Kd.N_told (Kd.N_oldK (Kd.N_mono (ok := fun k_ => (((w.heap.size ≤ k_)) ∧ (some k_ ≠ (u7 : Value).ownBlock ∧ (some k_ ≠ (.slice Ao9 t275.length co9 : Value).ownBlock ∧ (k_ ≠ gb270 ∧ (k_ ≠ gb283 ∧ k_ ≠ g274)))))) (Rgn.nq HO_284001.out) (fun k_ hk_ => (⟨hk_, hk_.2.2.2.2.2⟩ : _ ∧ k_ ≠ g274))) hk) (Kd.R_base ho0)) (fun _ h_ => h_.1)); replace BK270 := Aside0.mk (Rgn.kb2 hk BK270.out NB270_274.out); replace BK283 := Aside0.mk (Rgn.kb2 hk BK283.out NB283_274.out); have HO296 := Aside0.mk (Kd.R_lower (Kd.R_new' (Kd.R_newM (M := fun k_ => (w.heap.size ≤ k_)) ho0 (below_size (Rgn.bs HB.out (IsS90.ge HI274.out))) (fun k_ h_ => h_)) (Kd.R_lt (Rgn.rq HO_284000.out))) (below_size (Rgn.bs HB.out (IsS90.ge HI274.out)))); replace HO_284000 := Aside0.mk (Kd.R_mono (Kd.R_told (Kd.R_oldK (IsS90.apart (show IsS90 w _ g274 t271 t292 t293 from IsS90.q HI274.out) (Rgn.rq HO_284000.out) (by decide)) hk) (Kd.R_base ho0)) (fun _ h_ => h_.1)); replace HB := Aside0.mk (hb); replace HI274 := Aside0.mk (hi); (try clear hb); (try clear hk); (try clear hi); (try clear ho0); obtain ⟨Ao30, co30, eo30⟩ := Kd.R_slice HO296.out; subst eo30) | ((with_reducible refine gate_dst (N := 10) rfl ?_); refine Rgn.bx 10 #[.int .i64 0, .int .i64 0, .slice none 0 0] 93 ?_; intro gb299 hg w31 hbox hb; replace HO_7 := Aside0.mk (Kd.N_below (Kd.N_elderB (Rgn.nq HO_7.out) gb299 (Nat.le_of_eq hg.symm)) hb); replace HO_284000 := Aside0.mk (Kd.R_below (Rgn.rq HO_284000.out) hb); replace HO_284001 := Aside0.mk (Kd.N_below (Kd.N_elderB (Rgn.nq HO_284001.out) gb299 (Nat.le_of_eq hg.symm)) hb); replace HO296 := Aside0.mk (Kd.R_below (Rgn.rq HO296.out) hb); have BK299 := Aside0.mk (hbox); have GW299 := Aside0.mk ((by rw [hg]; exact (below_size (Rgn.bs HB.out (IsS90.ge HI274.out))) : w.heap.size ≤ gb299)); have GE299 := Aside0.mk ((by rw [hg]; exact (below_size (Rgn.bs HB.out (IsS90.ge HI274.out))) : w.heap.size ≤ gb299)); replace HB := Aside0.mk (below_step (Rgn.bs HB.out (IsS90.ge HI274.out)) hb); have NB270_299 := Aside0.mk (Rgn.nl hg BK270.out); have NB299_270 := Aside0.mk (Rgn.ng hg BK270.out); replace BK270 := Aside0.mk (Rgn.bb BK270.out hb); have NB283_299 := Aside0.mk (Rgn.nl hg BK283.out); have NB299_283 := Aside0.mk (Rgn.ng hg BK283.out); replace BK283 := Aside0.mk (Rgn.bb BK283.out hb); have NB274_299 := Aside0.mk ((by rw [hg]; exact Nat.ne_of_lt (IsS90.lt (show IsS90 w _ g274 t271 t297 t298 from IsS90.q HI274.out)) : g274 ≠ gb299)); have NB299_274 := Aside0.mk ((by rw [hg]; exact Nat.ne_of_gt (IsS90.lt (show IsS90 w _ g274 t271 t297 t298 from IsS90.q HI274.out)) : gb299 ≠ g274)); replace HI274 := Aside0.mk (IsS90.below (IsS90.q HI274.out) hb); clear hb hbox hg; have hnb32 := NB299_270.out; have hnc32 := NB270_299.out; have hnb33 := NB299_283.out; have hnc33 := NB283_299.out; have hnb34 := NB299_274.out; have hnc34 := NB274_299.out; obtain ⟨hcz35_0, hcz35_1, hcz35_2, hfz35_0, hfz35_1, hfz35_2⟩ := Rgn.c3 BK299.out) | ((with_reducible refine gate_callee (f := 84) rfl ?_); refine Rgn.gl (some 39) Try.func84 #[.pointer (some ⟨g274, 0, none⟩), .int .i64 3] ?_; (with_reducible refine (spec_l1Chance.calls g274 t271 t297 t298 3 t300 t301 t302 w _ ?side1 ?side2 A22.out).mono ?_); (case side1 => repeat (first | (with_reducible first | exact HI274.out | apply IsS90.alloc | apply IsS90.drewN | apply IsS90.drew | apply IsS90.set_1 | apply IsS90.set_2 | refine IsS90.far ?_ NB274_270.out _ | refine IsS90.far ?_ NB274_283.out _ | refine IsS90.far ?_ NB274_299.out _) | exact HI274.out)); (case side2 => repeat (first | (with_reducible first | exact HB.out | apply below_alloc | apply pw_below_drewN | apply below_drew1 | refine below_set ?_ (IsS90.ge HI274.out) | refine below_set ?_ GE270.out | refine below_set ?_ GE283.out | refine below_set ?_ GE299.out) | exact HB.out)); rintro e w36 ⟨rfl, hi, hb, hk⟩; refine ⟨_, rfl, ?_⟩; replace HO_7 := Aside0.mk (Kd.N_mono (Kd.N_keep (Kd.N_mono (ok := fun k_ => (((((w.heap.size ≤ k_)) ∧ (some k_ ≠ (.slice Ao9 t275.length co9 : Value).ownBlock ∧ (some k_ ≠ (.slice Ao13 t278.length co13 : Value).ownBlock ∧ (k_ ≠ gb270 ∧ (k_ ≠ gb283 ∧ k_ ≠ g274))))) ∧ some k_ ≠ (.slice Ao30 t294.length co30 : Value).ownBlock) ∧ k_ ≠ gb299)) (Rgn.nq (Kd.N_mono (Kd.N_far (p := ⟨gb299, 2, none⟩) (Kd.N_far (p := ⟨gb299, 1, none⟩) (Kd.N_far (p := ⟨gb299, 0, none⟩) (Kd.N_mono HO_7.out (fun k_ hk => (⟨hk, hk.2⟩ : _ ∧ k_ ≠ gb299))) (fun _ hk => hk.2) (.int .i64 1)) (fun _ hk => hk.2) (.int .i64 t291)) (fun _ hk => hk.2) (.slice Ao30 t294.length co30)) (fun _ h_ => h_.1))) (fun k_ hk_ => (⟨hk_, hk_.1.1.2.2.2.2.2⟩ : _ ∧ k_ ≠ g274))) hk (fun _ h => h.2)) (fun _ h => h.1)); replace HO_284000 := Aside0.mk (Kd.R_mono (Kd.R_keep (IsS90.apart (show IsS90 w _ g274 t271 t297 t298 from IsS90.q HI274.out) (Rgn.rq (Kd.R_mono (Kd.R_far (p := ⟨gb299, 2, none⟩) (Kd.R_far (p := ⟨gb299, 1, none⟩) (Kd.R_far (p := ⟨gb299, 0, none⟩) (Kd.R_types HO_284000.out BK299.out (by decide)) (fun _ hk => hk.2) (.int .i64 1)) (fun _ hk => hk.2) (.int .i64 t291)) (fun _ hk => hk.2) (.slice Ao30 t294.length co30)) (fun _ h_ => h_.1))) (by decide)) hk (fun _ h => h.2)) (fun _ h => h.1)); replace HO_284001 := Aside0.mk (Kd.N_mono (Kd.N_keep (Kd.N_mono (ok := fun k_ => (((((w.heap.size ≤ k_)) ∧ (some k_ ≠ (u7 : Value).ownBlock ∧ (some k_ ≠ (.slice Ao9 t275.length co9 : Value).ownBlock ∧ (k_ ≠ gb270 ∧ (k_ ≠ gb283 ∧ k_ ≠ g274))))) ∧ some k_ ≠ (.slice Ao30 t294.length co30 : Value).ownBlock) ∧ k_ ≠ gb299)) (Rgn.nq (Kd.N_mono (Kd.N_far (p := ⟨gb299, 2, none⟩) (Kd.N_far (p := ⟨gb299, 1, none⟩) (Kd.N_far (p := ⟨gb299, 0, none⟩) (Kd.N_mono HO_284001.out (fun k_ hk => (⟨hk, hk.2⟩ : _ ∧ k_ ≠ gb299))) (fun _ hk => hk.2) (.int .i64 1)) (fun _ hk => hk.2) (.int .i64 t291)) (fun _ hk => hk.2) (.slice Ao30 t294.length co30)) (fun _ h_ => h_.1))) (fun k_ hk_ => (⟨hk_, hk_.1.1.2.2.2.2.2⟩ : _ ∧ k_ ≠ g274))) hk (fun _ h => h.2)) (fun _ h => h.1)); replace BK270 := Aside0.mk (Rgn.kb2 hk BK270.out NB270_274.out); replace BK283 := Aside0.mk (Rgn.kb2 hk BK283.out NB283_274.out); replace HO296 := Aside0.mk (Kd.R_mono (Kd.R_keep (IsS90.apart (show IsS90 w _ g274 t271 t297 t298 from IsS90.q HI274.out) (Rgn.rq (Kd.R_mono (Kd.R_far (p := ⟨gb299, 2, none⟩) (Kd.R_far (p := ⟨gb299, 1, none⟩) (Kd.R_far (p := ⟨gb299, 0, none⟩) (Kd.R_types HO296.out BK299.out (by decide)) (fun _ hk => hk.2) (.int .i64 1)) (fun _ hk => hk.2) (.int .i64 t291)) (fun _ hk => hk.2) (.slice Ao30 t294.length co30)) (fun _ h_ => h_.1))) (by decide)) hk (fun _ h => h.2)) (fun _ h => h.1)); replace BK299 := Aside0.mk (KeepBut.blk hk (g' := gb299) (o := .cells #[.int .i64 1, .int .i64 t291, .slice Ao30 t294.length co30] 93 (0, 0)) (by (with_reducible repeat (first | refine blk_drewN ?_ _ | refine blk_drew ?_ | refine blk_alloc ?_ _)); refine blk_put (cs := #[.int .i64 1, .int .i64 t291, .slice none 0 0]) ?_ 2 _ rfl; (with_reducible repeat (first | refine blk_drewN ?_ _ | refine blk_drew ?_ | refine blk_alloc ?_ _)); refine blk_put (cs := #[.int .i64 1, .int .i64 0, .slice none 0 0]) ?_ 1 _ rfl; (with_reducible repeat (first | refine blk_drewN ?_ _ | refine blk_drew ?_ | refine blk_alloc ?_ _)); refine blk_put (cs := #[.int .i64 0, .int .i64 0, .slice none 0 0]) ?_ 0 _ rfl; (with_reducible repeat (first | refine blk_drewN ?_ _ | refine blk_drew ?_ | refine blk_alloc ?_ _)); exact BK299.out) NB299_274.out (by simp)); replace HB := Aside0.mk (hb); replace HI274 := Aside0.mk (hi); (try clear hb); (try clear hk); (try clear hi)))
    (try simp only [Act.put, List.setIfInBounds_toArray, List.set_cons_zero, List.set_cons_succ])
    go_cut [] (fun wc => ∃ (kq : Nat) (x300000_22 : Int) (x300001_22 : Int) (x300002_22 : List Int) (u300002 : Value), Aside0 (spec_DrawDiskDo.j1 kq x7_1 t287 x9_1 t271 t301 t302 t275 t278 x300000_22 x300001_22 x300002_22 = some (r1, r2, r3, r4)) ∧ Aside0 (kq ≤ k1) ∧ Aside0 (Kd.N k93 93 wc w.heap.size (fun k_ => (w.heap.size ≤ k_) ∧ some k_ ≠ ((.slice Ao9 t275.length co9) : Value).ownBlock ∧ some k_ ≠ ((.slice Ao13 t278.length co13) : Value).ownBlock ∧ some k_ ≠ (u300002 : Value).ownBlock ∧ k_ ≠ gb270 ∧ k_ ≠ gb283 ∧ k_ ≠ gb299 ∧ k_ ≠ g274) u7 x7_1) ∧ Aside0 (Kd.R (Kd.int .u8) 5 wc w.heap.size (fun k_ => (w.heap.size ≤ k_) ∧ some k_ ≠ (u300002 : Value).ownBlock) (.slice Ao9 t275.length co9) t275) ∧ Aside0 (Kd.N k62 62 wc w.heap.size (fun k_ => (w.heap.size ≤ k_) ∧ some k_ ≠ (u7 : Value).ownBlock ∧ some k_ ≠ ((.slice Ao9 t275.length co9) : Value).ownBlock ∧ some k_ ≠ (u300002 : Value).ownBlock ∧ k_ ≠ gb270 ∧ k_ ≠ gb283 ∧ k_ ≠ gb299 ∧ k_ ≠ g274) (.slice Ao13 t278.length co13) t278) ∧ Aside0 (Kd.R (Kd.int .u8) 5 wc w.heap.size (fun k_ => (w.heap.size ≤ k_) ∧ some k_ ≠ ((.slice Ao9 t275.length co9) : Value).ownBlock) u300002 x300002_22) ∧ Aside0 (wc.heap[gb270]? = some (.cells #[(.slice none 0 0), (.slice none 0 0)] 29 (0, 0))) ∧ Aside0 (wc.heap[gb283]? = some (.cells #[(.slice Ao9 t275.length co9), (.slice Ao13 t278.length co13)] 29 (0, 0))) ∧ Aside0 (wc.heap[gb299]? = some (.cells #[.int .i64 x300000_22, .int .i64 x300001_22, u300002] 93 (0, 0))) ∧ Aside0 (IsS90 w wc g274 t271 t301 t302) ∧ Aside0 (Below w.heap.size w wc))
    case first =>
     have H := HC23.out
     clear HC23
     by_cases c37 : t300 = true
     ·
      subst c37
      have H1 : (spec_DrawDiskDo.j1 k1 x7_1 t287 x9_1 t271 t301 t302 t275 t278 2 0 ([] : List Int)) = some (r1, r2, r3, r4) := by rw [if_pos rfl] at H; exact H
      clear H
      have H := H1
      clear H1
      have H' := Aside0.mk H
      clear H
      have hnb38 := NB299_270.out
      have hnc38 := NB270_299.out
      have hnb39 := NB299_283.out
      have hnc39 := NB283_299.out
      have hnb40 := NB299_274.out
      have hnc40 := NB274_299.out
      have hcz41_0 := Rgn.cz0 BK299.out
      have hcz41_1 := Rgn.cz1 BK299.out
      have hcz41_2 := Rgn.cz2 BK299.out
      have hfz41_0 := blk_frozen BK299.out 0
      have hfz41_1 := blk_frozen BK299.out 1
      have hfz41_2 := blk_frozen BK299.out 2
      go_wp2
      go_meet
      case rel => exact ⟨_, (2), (0), (([] : List Int)), (.slice none 0 0), H', ⟨by have := HK1.out; first | omega | exact Nat.le_refl _⟩, ⟨by (with_reducible repeat (first | apply Kd.N_alloc | apply Kd.N_drewN | apply Kd.N_drew)); exact Kd.N_mono (Kd.N_far (p := ⟨gb299, 2, none⟩) (Kd.N_far (p := ⟨gb299, 1, none⟩) (Kd.N_far (p := ⟨gb299, 0, none⟩) (Kd.N_mono HO_7.out (fun k_ hk => (⟨hk, hk.2⟩ : _ ∧ k_ ≠ gb299))) (fun _ hk => hk.2) (.int .i64 2)) (fun _ hk => hk.2) (.int .i64 0)) (fun _ hk => hk.2) (.slice none 0 0)) (fun _ hk => ⟨hk.1.1.1.1, ⟨hk.1.1.1.2.1, ⟨hk.1.1.1.2.2.1, ⟨(by simp [Value.ownBlock]), ⟨hk.1.1.1.2.2.2.1, ⟨hk.1.1.1.2.2.2.2.1, ⟨hk.1.2, hk.1.1.1.2.2.2.2.2⟩⟩⟩⟩⟩⟩⟩)⟩, ⟨by (with_reducible repeat (first | apply Kd.R_alloc | apply Kd.R_drewN | apply Kd.R_drew)); exact Kd.R_mono (Kd.R_far (p := ⟨gb299, 2, none⟩) (Kd.R_far (p := ⟨gb299, 1, none⟩) (Kd.R_far (p := ⟨gb299, 0, none⟩) (Kd.R_types HO_284000.out BK299.out (by decide)) (fun _ hk => hk.2) (.int .i64 2)) (fun _ hk => hk.2) (.int .i64 0)) (fun _ hk => hk.2) (.slice none 0 0)) (fun _ hk => ⟨hk.1.1, (by simp [Value.ownBlock])⟩)⟩, ⟨by (with_reducible repeat (first | apply Kd.N_alloc | apply Kd.N_drewN | apply Kd.N_drew)); exact Kd.N_mono (Kd.N_far (p := ⟨gb299, 2, none⟩) (Kd.N_far (p := ⟨gb299, 1, none⟩) (Kd.N_far (p := ⟨gb299, 0, none⟩) (Kd.N_mono HO_284001.out (fun k_ hk => (⟨hk, hk.2⟩ : _ ∧ k_ ≠ gb299))) (fun _ hk => hk.2) (.int .i64 2)) (fun _ hk => hk.2) (.int .i64 0)) (fun _ hk => hk.2) (.slice none 0 0)) (fun _ hk => ⟨hk.1.1.1.1, ⟨hk.1.1.1.2.1, ⟨hk.1.1.1.2.2.1, ⟨(by simp [Value.ownBlock]), ⟨hk.1.1.1.2.2.2.1, ⟨hk.1.1.1.2.2.2.2.1, ⟨hk.1.2, hk.1.1.1.2.2.2.2.2⟩⟩⟩⟩⟩⟩⟩)⟩, ⟨by first | exact Kd.R_nil _ _ _ _ _ | exact Kd.N_nil _ _ _ _ _ | exact Kd.V_nil _ _ _ _ _ | exact Kd.Q_nil _ _ _ _ _ | exact Kd.S_nil _ _ _ _ _⟩, ⟨Rgn.kf BK270.out⟩, ⟨Rgn.kf BK283.out⟩, ⟨by (with_reducible repeat (first | refine blk_drewN ?_ _ | refine blk_drew ?_ | refine blk_alloc ?_ _)); refine blk_put (cs := #[.int .i64 2, .int .i64 0, .slice Ao30 t294.length co30]) ?_ 2 _ rfl; (with_reducible repeat (first | refine blk_drewN ?_ _ | refine blk_drew ?_ | refine blk_alloc ?_ _)); refine blk_put (cs := #[.int .i64 2, .int .i64 t291, .slice Ao30 t294.length co30]) ?_ 1 _ rfl; (with_reducible repeat (first | refine blk_drewN ?_ _ | refine blk_drew ?_ | refine blk_alloc ?_ _)); refine blk_put (cs := #[.int .i64 1, .int .i64 t291, .slice Ao30 t294.length co30]) ?_ 0 _ rfl; (with_reducible repeat (first | refine blk_drewN ?_ _ | refine blk_drew ?_ | refine blk_alloc ?_ _)); exact BK299.out⟩, ⟨IsS90.q HI274.out⟩, ⟨Rgn.bs HB.out (IsS90.ge HI274.out)⟩⟩
     ·
      replace c37 := Bool.eq_false_iff.mpr c37
      subst c37
      have H1 : (spec_DrawDiskDo.j1 k1 x7_1 t287 x9_1 t271 t301 t302 t275 t278 1 t291 t294) = some (r1, r2, r3, r4) := by rw [if_neg (show ¬ (false = true) by decide)] at H; exact H
      clear H
      have H := H1
      clear H1
      have H' := Aside0.mk H
      clear H
      go_wp2
      go_meet
      case rel => exact ⟨_, (1), (t291), (t294), (.slice Ao30 t294.length co30), H', ⟨by have := HK1.out; first | omega | exact Nat.le_refl _⟩, ⟨by (with_reducible repeat (first | apply Kd.N_alloc | apply Kd.N_drewN | apply Kd.N_drew)); exact Kd.N_mono HO_7.out (fun _ hk => ⟨hk.1.1.1, ⟨hk.1.1.2.1, ⟨hk.1.1.2.2.1, ⟨hk.1.2, ⟨hk.1.1.2.2.2.1, ⟨hk.1.1.2.2.2.2.1, ⟨hk.2, hk.1.1.2.2.2.2.2⟩⟩⟩⟩⟩⟩⟩)⟩, ⟨Rgn.rq HO_284000.out⟩, ⟨by (with_reducible repeat (first | apply Kd.N_alloc | apply Kd.N_drewN | apply Kd.N_drew)); exact Kd.N_mono HO_284001.out (fun _ hk => ⟨hk.1.1.1, ⟨hk.1.1.2.1, ⟨hk.1.1.2.2.1, ⟨hk.1.2, ⟨hk.1.1.2.2.2.1, ⟨hk.1.1.2.2.2.2.1, ⟨hk.2, hk.1.1.2.2.2.2.2⟩⟩⟩⟩⟩⟩⟩)⟩, ⟨by (with_reducible repeat (first | apply Kd.R_alloc | apply Kd.R_drewN | apply Kd.R_drew)); exact Kd.R_mono HO296.out (fun _ hk => ⟨hk.1.1, hk.2⟩)⟩, ⟨Rgn.kb BK270.out⟩, ⟨Rgn.kb BK283.out⟩, ⟨Rgn.kb BK299.out⟩, ⟨IsS90.q HI274.out⟩, ⟨Rgn.bs HB.out (IsS90.ge HI274.out)⟩⟩
    case rest =>
     clear HC23
     try clear c1
     try clear c2
     try clear p2
     try clear c3
     try clear c4
     try clear p6
     try clear c7
     try clear c8
     try clear c10
     try clear c11
     try clear c18
     try clear c18b0
     try clear c24
     try clear c25
     try clear c32
     try clear c33
     try clear c34
     try clear c37
     try clear c38
     try clear c39
     try clear c40
     try clear hcz12_0 hcz12_1
     try clear hcz16_0 hcz16_1 hcz16_2
     try clear hcz26_0 hcz26_1
     try clear hcz35_0 hcz35_1 hcz35_2
     try clear hcz41_0 hcz41_1 hcz41_2
     try clear hfz12_0 hfz12_1
     try clear hfz16_1 hfz16_2
     try clear hfz26_0 hfz26_1
     try clear hfz35_0 hfz35_1 hfz35_2
     try clear hfz41_0 hfz41_1 hfz41_2
     try clear p2
     try clear p6
     obtain ⟨kq, x300000_22, x300001_22, x300002_22, u300002, HA, HJ22, HO_7, HO_284000, HO_284001, HO_300002, BK270, BK283, BK299, HI274, HB⟩ := hcut
     cases kq with
     | zero => exact absurd HA.out (by simp [spec_DrawDiskDo.j1])
     | succ kj22 =>
      have H := HA.out
      clear HA
      simp only [spec_DrawDiskDo.j1] at H
      replace H := Option.bind_eq_some_iff.mp H
      obtain ⟨⟨t303, t304, t305⟩, A420, H⟩ := H
      replace H : (if t303 = 0 then (spec_DrawDiskDo.j2 kj22 x7_1 t287 x9_1 t303 t271 t304 t305 t275 t278 3 x300001_22 x300002_22) else (spec_DrawDiskDo.j2 kj22 x7_1 t287 x9_1 t303 t271 t304 t305 t275 t278 x300000_22 x300001_22 x300002_22)) = some (r1, r2, r3, r4) := H
      have A42 := Aside0.mk A420
      clear A420
      have HC43 := Aside0.mk H
      clear H
      go_upto_if 44 with (first | ((with_reducible refine gate_callee (f := 82) rfl ?_); refine Rgn.gl (some 42) Try.func82 #[.pointer (some ⟨g274, 0, none⟩), .int .i64 60] ?_; (with_reducible refine (spec_l1Next.calls g274 t271 t301 t302 60 t303 t304 t305 w _ ?side1 ?side2 A42.out).mono ?_); (case side1 => repeat (first | (with_reducible first | exact HI274.out | apply IsS90.alloc | apply IsS90.drewN | apply IsS90.drew | apply IsS90.set_1 | apply IsS90.set_2 | refine IsS90.far ?_ NB274_270.out _ | refine IsS90.far ?_ NB274_283.out _ | refine IsS90.far ?_ NB274_299.out _) | exact HI274.out)); (case side2 => repeat (first | (with_reducible first | exact HB.out | apply below_alloc | apply pw_below_drewN | apply below_drew1 | refine below_set ?_ (IsS90.ge HI274.out) | refine below_set ?_ GE270.out | refine below_set ?_ GE283.out | refine below_set ?_ GE299.out) | exact HB.out)); rintro e w44 ⟨rfl, hi, hb, hk⟩; refine ⟨_, rfl, ?_⟩; replace HO_7 := Aside0.mk (Kd.N_mono (Kd.N_keep (Kd.N_mono (ok := fun k_ => (((w.heap.size ≤ k_)) ∧ (some k_ ≠ (.slice Ao9 t275.length co9 : Value).ownBlock ∧ (some k_ ≠ (.slice Ao13 t278.length co13 : Value).ownBlock ∧ (some k_ ≠ (u300002 : Value).ownBlock ∧ (k_ ≠ gb270 ∧ (k_ ≠ gb283 ∧ (k_ ≠ gb299 ∧ k_ ≠ g274)))))))) (Rgn.nq HO_7.out) (fun k_ hk_ => (⟨hk_, hk_.2.2.2.2.2.2.2⟩ : _ ∧ k_ ≠ g274))) hk (fun _ h => h.2)) (fun _ h => h.1)); replace HO_284000 := Aside0.mk (Kd.R_mono (Kd.R_keep (IsS90.apart (show IsS90 w _ g274 t271 t301 t302 from IsS90.q HI274.out) (Rgn.rq HO_284000.out) (by decide)) hk (fun _ h => h.2)) (fun _ h => h.1)); replace HO_284001 := Aside0.mk (Kd.N_mono (Kd.N_keep (Kd.N_mono (ok := fun k_ => (((w.heap.size ≤ k_)) ∧ (some k_ ≠ (u7 : Value).ownBlock ∧ (some k_ ≠ (.slice Ao9 t275.length co9 : Value).ownBlock ∧ (some k_ ≠ (u300002 : Value).ownBlock ∧ (k_ ≠ gb270 ∧ (k_ ≠ gb283 ∧ (k_ ≠ gb299 ∧ k_ ≠ g274)))))))) (Rgn.nq HO_284001.out) (fun k_ hk_ => (⟨hk_, hk_.2.2.2.2.2.2.2⟩ : _ ∧ k_ ≠ g274))) hk (fun _ h => h.2)) (fun _ h => h.1)); replace HO_300002 := Aside0.mk (Kd.R_mono (Kd.R_keep (IsS90.apart (show IsS90 w _ g274 t271 t301 t302 from IsS90.q HI274.out) (Rgn.rq HO_300002.out) (by decide)) hk (fun _ h => h.2)) (fun _ h => h.1)); replace BK270 := Aside0.mk (Rgn.kb2 hk BK270.out NB270_274.out); replace BK283 := Aside0.mk (Rgn.kb2 hk BK283.out NB283_274.out); replace BK299 := Aside0.mk (Rgn.kb2 hk BK299.out NB299_274.out); replace HB := Aside0.mk (hb); replace HI274 := Aside0.mk (hi); (try clear hb); (try clear hk); (try clear hi)))
      (try simp only [Act.put, List.setIfInBounds_toArray, List.set_cons_zero, List.set_cons_succ])
      go_cut [] (fun wc => ∃ (kq : Nat) (x300000_42 : Int), Aside0 (spec_DrawDiskDo.j2 kq x7_1 t287 x9_1 t303 t271 t304 t305 t275 t278 x300000_42 x300001_22 x300002_22 = some (r1, r2, r3, r4)) ∧ Aside0 (kq ≤ kj22) ∧ Aside0 (Kd.N k93 93 wc w.heap.size (fun k_ => (w.heap.size ≤ k_) ∧ some k_ ≠ ((.slice Ao9 t275.length co9) : Value).ownBlock ∧ some k_ ≠ ((.slice Ao13 t278.length co13) : Value).ownBlock ∧ some k_ ≠ (u300002 : Value).ownBlock ∧ k_ ≠ gb270 ∧ k_ ≠ gb283 ∧ k_ ≠ gb299 ∧ k_ ≠ g274) u7 x7_1) ∧ Aside0 (Kd.R (Kd.int .u8) 5 wc w.heap.size (fun k_ => (w.heap.size ≤ k_) ∧ some k_ ≠ (u300002 : Value).ownBlock) (.slice Ao9 t275.length co9) t275) ∧ Aside0 (Kd.N k62 62 wc w.heap.size (fun k_ => (w.heap.size ≤ k_) ∧ some k_ ≠ (u7 : Value).ownBlock ∧ some k_ ≠ ((.slice Ao9 t275.length co9) : Value).ownBlock ∧ some k_ ≠ (u300002 : Value).ownBlock ∧ k_ ≠ gb270 ∧ k_ ≠ gb283 ∧ k_ ≠ gb299 ∧ k_ ≠ g274) (.slice Ao13 t278.length co13) t278) ∧ Aside0 (Kd.R (Kd.int .u8) 5 wc w.heap.size (fun k_ => (w.heap.size ≤ k_) ∧ some k_ ≠ ((.slice Ao9 t275.length co9) : Value).ownBlock) u300002 x300002_22) ∧ Aside0 (wc.heap[gb270]? = some (.cells #[(.slice none 0 0), (.slice none 0 0)] 29 (0, 0))) ∧ Aside0 (wc.heap[gb283]? = some (.cells #[(.slice Ao9 t275.length co9), (.slice Ao13 t278.length co13)] 29 (0, 0))) ∧ Aside0 (wc.heap[gb299]? = some (.cells #[.int .i64 x300000_42, .int .i64 x300001_22, u300002] 93 (0, 0))) ∧ Aside0 (IsS90 w wc g274 t271 t304 t305) ∧ Aside0 (Below w.heap.size w wc))
      case first =>
       have H := HC43.out
       clear HC43
       by_cases c45 : t303 = 0
       ·
        rw [if_pos c45] at H
        have c45b0 : (t303 == 0) = true := beq_iff_eq.mpr c45
        have c45b1 : (t303 != 0) = false := bne_eq_false_iff_eq.mpr c45
        clear c45
        (first | rw [c45b0] | (simp only [i64_w, i32_w]; rw [c45b0]) | skip)
        have H' := Aside0.mk H
        clear H
        have hnb46 := NB299_270.out
        have hnc46 := NB270_299.out
        have hnb47 := NB299_283.out
        have hnc47 := NB283_299.out
        have hnb48 := NB299_274.out
        have hnc48 := NB274_299.out
        have hcz49_0 := Rgn.cz0 BK299.out
        have hcz49_1 := Rgn.cz1 BK299.out
        have hcz49_2 := Rgn.cz2 BK299.out
        have hfz49_0 := blk_frozen BK299.out 0
        have hfz49_1 := blk_frozen BK299.out 1
        have hfz49_2 := blk_frozen BK299.out 2
        go_wp2
        go_meet
        case rel => exact ⟨_, (3), H', ⟨by have := HK1.out; have := HJ22.out; first | omega | exact Nat.le_refl _⟩, ⟨by (with_reducible repeat (first | apply Kd.N_alloc | apply Kd.N_drewN | apply Kd.N_drew)); exact Kd.N_mono (Kd.N_far (p := ⟨gb299, 0, none⟩) (Kd.N_mono HO_7.out (fun k_ hk => (⟨hk, hk.2.2.2.2.2.2.1⟩ : _ ∧ k_ ≠ gb299))) (fun _ hk => hk.2) (.int .i64 3)) (fun _ hk => ⟨hk.1.1, ⟨hk.1.2.1, ⟨hk.1.2.2.1, ⟨hk.1.2.2.2.1, ⟨hk.1.2.2.2.2.1, ⟨hk.1.2.2.2.2.2.1, ⟨hk.1.2.2.2.2.2.2.1, hk.1.2.2.2.2.2.2.2⟩⟩⟩⟩⟩⟩⟩)⟩, ⟨by (with_reducible repeat (first | apply Kd.R_alloc | apply Kd.R_drewN | apply Kd.R_drew)); exact Kd.R_mono (Kd.R_far (p := ⟨gb299, 0, none⟩) (Kd.R_types HO_284000.out BK299.out (by decide)) (fun _ hk => hk.2) (.int .i64 3)) (fun _ hk => ⟨hk.1.1, hk.1.2⟩)⟩, ⟨by (with_reducible repeat (first | apply Kd.N_alloc | apply Kd.N_drewN | apply Kd.N_drew)); exact Kd.N_mono (Kd.N_far (p := ⟨gb299, 0, none⟩) (Kd.N_mono HO_284001.out (fun k_ hk => (⟨hk, hk.2.2.2.2.2.2.1⟩ : _ ∧ k_ ≠ gb299))) (fun _ hk => hk.2) (.int .i64 3)) (fun _ hk => ⟨hk.1.1, ⟨hk.1.2.1, ⟨hk.1.2.2.1, ⟨hk.1.2.2.2.1, ⟨hk.1.2.2.2.2.1, ⟨hk.1.2.2.2.2.2.1, ⟨hk.1.2.2.2.2.2.2.1, hk.1.2.2.2.2.2.2.2⟩⟩⟩⟩⟩⟩⟩)⟩, ⟨by (with_reducible repeat (first | apply Kd.R_alloc | apply Kd.R_drewN | apply Kd.R_drew)); exact Kd.R_mono (Kd.R_far (p := ⟨gb299, 0, none⟩) (Kd.R_types HO_300002.out BK299.out (by decide)) (fun _ hk => hk.2) (.int .i64 3)) (fun _ hk => ⟨hk.1.1, hk.1.2⟩)⟩, ⟨Rgn.kf BK270.out⟩, ⟨Rgn.kf BK283.out⟩, ⟨by (with_reducible repeat (first | refine blk_drewN ?_ _ | refine blk_drew ?_ | refine blk_alloc ?_ _)); refine blk_put (cs := #[.int .i64 x300000_22, .int .i64 x300001_22, u300002]) ?_ 0 _ rfl; (with_reducible repeat (first | refine blk_drewN ?_ _ | refine blk_drew ?_ | refine blk_alloc ?_ _)); exact BK299.out⟩, ⟨IsS90.q HI274.out⟩, ⟨Rgn.bs HB.out (IsS90.ge HI274.out)⟩⟩
       ·
        rw [if_neg c45] at H
        have c45b0 : (t303 == 0) = false := beq_eq_false_iff_ne.mpr c45
        have c45b1 : (t303 != 0) = true := bne_iff_ne.mpr c45
        (first | rw [c45b0] | (simp only [i64_w, i32_w]; rw [c45b0]) | skip)
        have H' := Aside0.mk H
        clear H
        go_wp2
        go_meet
        case rel => exact ⟨_, (x300000_22), H', ⟨by have := HK1.out; have := HJ22.out; first | omega | exact Nat.le_refl _⟩, ⟨by (with_reducible repeat (first | apply Kd.N_alloc | apply Kd.N_drewN | apply Kd.N_drew)); exact HO_7.out⟩, ⟨Rgn.rq HO_284000.out⟩, ⟨by (with_reducible repeat (first | apply Kd.N_alloc | apply Kd.N_drewN | apply Kd.N_drew)); exact HO_284001.out⟩, ⟨Rgn.rq HO_300002.out⟩, ⟨Rgn.kb BK270.out⟩, ⟨Rgn.kb BK283.out⟩, ⟨Rgn.kb BK299.out⟩, ⟨IsS90.q HI274.out⟩, ⟨Rgn.bs HB.out (IsS90.ge HI274.out)⟩⟩
      case rest =>
       clear HC43
       try clear c1
       try clear c2
       try clear p2
       try clear c3
       try clear c4
       try clear p6
       try clear c7
       try clear c8
       try clear c10
       try clear c11
       try clear c18
       try clear c18b0
       try clear c24
       try clear c25
       try clear c32
       try clear c33
       try clear c34
       try clear c37
       try clear c38
       try clear c39
       try clear c40
       try clear c43
       try clear c45
       try clear c45b0
       try clear c45b1
       try clear c46
       try clear c47
       try clear c48
       try clear hcz12_0 hcz12_1
       try clear hcz16_0 hcz16_1 hcz16_2
       try clear hcz26_0 hcz26_1
       try clear hcz35_0 hcz35_1 hcz35_2
       try clear hcz41_0 hcz41_1 hcz41_2
       try clear hcz49_0 hcz49_1 hcz49_2
       try clear hfz12_0 hfz12_1
       try clear hfz16_1 hfz16_2
       try clear hfz26_0 hfz26_1
       try clear hfz35_0 hfz35_1 hfz35_2
       try clear hfz41_0 hfz41_1 hfz41_2
       try clear hfz49_0 hfz49_1 hfz49_2
       try clear p2
       try clear p6
       obtain ⟨kq, x300000_42, HA, HJ42, HO_7, HO_284000, HO_284001, HO_300002, BK270, BK283, BK299, HI274, HB⟩ := hcut
       cases kq with
       | zero => exact absurd HA.out (by simp [spec_DrawDiskDo.j2])
       | succ kj42 =>
        have H := HA.out
        clear HA
        simp only [spec_DrawDiskDo.j2] at H
        by_cases c50 : t303 = 1
        ·
         rw [if_pos c50] at H
         have c50b0 : (t303 == 1) = true := beq_iff_eq.mpr c50
         have c50b1 : (t303 != 1) = false := bne_eq_false_iff_eq.mpr c50
         clear c50
         replace H := Option.bind_eq_some_iff.mp H
         obtain ⟨t306, A510, H⟩ := H
         replace H : (if t303 = 2 then (if x7_1.length < 3518437208883 then (spec_DrawDiskDo.l0 kj42 (x7_1 ++ [(⟨x300000_42, t306, (([1] : List Int))⟩ : S93)]) t287 (wrap64 (x9_1 + 1)) t271 t304 t305 t275 t278) else (none)) else (if x7_1.length < 3518437208883 then (spec_DrawDiskDo.l0 kj42 (x7_1 ++ [(⟨x300000_42, t306, x300002_22⟩ : S93)]) t287 (wrap64 (x9_1 + 1)) t271 t304 t305 t275 t278) else (none))) = some (r1, r2, r3, r4) := H
         have A51 := Aside0.mk A510
         clear A510
         by_cases c52 : t303 = 2
         ·
          rw [if_pos c52] at H
          have c52b0 : (t303 == 2) = true := beq_iff_eq.mpr c52
          have c52b1 : (t303 != 2) = false := bne_eq_false_iff_eq.mpr c52
          clear c52
          obtain ⟨y307, hy307⟩ : ∃ y_ : List Int, y_ = (([1] : List Int)) := ⟨_, rfl⟩
          replace H : (if x7_1.length < 3518437208883 then (spec_DrawDiskDo.l0 kj42 (x7_1 ++ [(⟨x300000_42, t306, y307⟩ : S93)]) t287 (wrap64 (x9_1 + 1)) t271 t304 t305 t275 t278) else (none)) = some (r1, r2, r3, r4) := by first | (rw [hy307]; with_reducible exact H) | (have H2_ := (Option.bind_some _ _).symm.trans H; rw [hy307]; with_reducible exact H2_) | (have H2_ := (Option.bind_some _ _).symm.trans H; with_reducible exact H2_) | with_reducible exact H | (rw [hy307]; exact H) | exact H
          have Ny307 := Aside0.mk hy307
          clear hy307
          by_cases c53 : x7_1.length < 3518437208883
          ·
           rw [if_pos c53] at H
           have LMc53 := Aside0.mk c53
           clear c53
           obtain ⟨y310, hy310⟩ : ∃ y_ : List (S93), y_ = (x7_1 ++ [(⟨x300000_42, t306, y307⟩ : S93)]) := ⟨_, rfl⟩
           replace H : (spec_DrawDiskDo.l0 kj42 y310 t287 (wrap64 (x9_1 + 1)) t271 t304 t305 t275 t278) = some (r1, r2, r3, r4) := by first | (rw [hy310]; with_reducible exact H) | (have H2_ := (Option.bind_some _ _).symm.trans H; rw [hy310]; with_reducible exact H2_) | (have H2_ := (Option.bind_some _ _).symm.trans H; with_reducible exact H2_) | with_reducible exact H | (rw [hy310]; exact H) | exact H
           have Ny310 := Aside0.mk hy310
           clear hy310
           have H' := Aside0.mk H
           clear H
           have hnb54 := NB283_270.out
           have hnc54 := NB270_283.out
           have hnb55 := NB283_299.out
           have hnc55 := NB299_283.out
           have hnb56 := NB283_274.out
           have hnc56 := NB274_283.out
           have hcz57_0 := Rgn.cz0 BK283.out
           have hcz57_1 := Rgn.cz1 BK283.out
           have hfz57_0 := blk_frozen BK283.out 0
           have hfz57_1 := blk_frozen BK283.out 1
           go_wp2_with (first | ((with_reducible refine gate_callee (f := 70) rfl ?_); refine Rgn.gl (some 49) Try.func70 #[.agg #[.slice Ao9 t275.length co9, .slice Ao13 t278.length co13]] ?_; (with_reducible refine (spec_l1Blocks.calls _ _ t275 _ _ t278 t306 _ ?side1 ?side2 ?side3 ?side4 A51.out).mono ?_); (case side1 => exact Rgn.cq (Kd.R_reads' HO_284000.out).2.2); (case side2 => exact (Kd.R_reads' HO_284000.out).2.1); (case side3 => repeat (first | exact (Kd.N_reads' HO_284001.out).2.2 | (with_reducible refine Kd.C_alloc ?_ _) | (with_reducible refine Kd.C_drewN ?_ _) | (with_reducible refine Kd.C_drew ?_))); (case side4 => exact (Kd.N_reads' HO_284001.out).2.1); rintro e w58 ⟨rfl, hb⟩; refine ⟨_, rfl, ?_⟩; replace HO_7 := Aside0.mk (Kd.N_below (Rgn.nq HO_7.out) hb); replace HO_284000 := Aside0.mk (Kd.R_below (Rgn.rq HO_284000.out) hb); replace HO_284001 := Aside0.mk (Kd.N_below (Rgn.nq HO_284001.out) hb); replace HO_300002 := Aside0.mk (Kd.R_below (Rgn.rq HO_300002.out) hb); replace BK270 := Aside0.mk (Rgn.bb BK270.out hb); replace BK283 := Aside0.mk (Rgn.bb BK283.out hb); replace BK299 := Aside0.mk (Rgn.bb BK299.out hb); replace HB := Aside0.mk (below_step (Rgn.bs HB.out (IsS90.ge HI274.out)) hb); replace HI274 := Aside0.mk (IsS90.below (IsS90.q HI274.out) hb); (try clear hb); have hnb59 := NB299_270.out; have hnc59 := NB270_299.out; have hnb60 := NB299_274.out; have hnc60 := NB274_299.out; obtain ⟨hcz61_0, hcz61_1, hcz61_2, hfz61_0, hfz61_1, hfz61_2⟩ := Rgn.c3 BK299.out) | ((with_reducible refine gate_dst (N := 53) rfl ?_); refine Kd.R_lit (Kd.int .u8) _ 5 ?hg (N := 53) ?hd (xs := ([1] : List Int)) (inner := [.int .u8 1]) (ok := fun _ => True) (okp := fun _ => True) ?hr ?hp (fun _ hk => hk) trivial (Below.refl _ _) (Nat.le_refl _) (by simp) ?_; (case hd => rfl); (case hg => rfl); (case hr => first | (go_simp; done) | (go_simp; rfl)); (case hp => exact (Reps.one (show Kd.M (Kd.int .u8) _ _ _ 1 [.int .u8 1] from rfl) (Reps.none _ _))); intro v308 w62 ho63 hb hg_ hnew_; clear hg_ hnew_; (first | rw [← Ny307.out] at ho63 | (simp only [Int.reduceToNat] at ho63; rw [← Ny307.out] at ho63)); replace HO_7 := Aside0.mk (Kd.N_elder' (Rgn.nq (Kd.N_mono (Kd.N_far (p := ⟨gb299, 1, none⟩) (Kd.N_mono HO_7.out (fun k_ hk => (⟨hk, hk.2.2.2.2.2.2.1⟩ : _ ∧ k_ ≠ gb299))) (fun _ hk => hk.2) (.int .i64 t306)) (fun _ h_ => h_.1))) (Kd.R_base ho63) hb); replace HO_284001 := Aside0.mk (Kd.N_elder' (Rgn.nq (Kd.N_mono (Kd.N_far (p := ⟨gb299, 1, none⟩) (Kd.N_mono HO_284001.out (fun k_ hk => (⟨hk, hk.2.2.2.2.2.2.1⟩ : _ ∧ k_ ≠ gb299))) (fun _ hk => hk.2) (.int .i64 t306)) (fun _ h_ => h_.1))) (Kd.R_base ho63) hb); have HO309 := Aside0.mk (Kd.R_lower (Kd.R_new' (Kd.R_new' (Kd.R_newM (M := fun k_ => (w.heap.size ≤ k_)) ho63 (below_size (Rgn.bs HB.out (IsS90.ge HI274.out))) (fun k_ h_ => h_)) (Kd.R_lt (Rgn.rq (Kd.R_mono (Kd.R_far (p := ⟨gb299, 1, none⟩) (Kd.R_types HO_284000.out BK299.out (by decide)) (fun _ hk => hk.2) (.int .i64 t306)) (fun _ h_ => h_.1))))) (Kd.R_lt (Rgn.rq (Kd.R_mono (Kd.R_far (p := ⟨gb299, 1, none⟩) (Kd.R_types HO_300002.out BK299.out (by decide)) (fun _ hk => hk.2) (.int .i64 t306)) (fun _ h_ => h_.1))))) (below_size (Rgn.bs HB.out (IsS90.ge HI274.out)))); replace HO_284000 := Aside0.mk (Kd.R_elder' (Rgn.rq (Kd.R_mono (Kd.R_far (p := ⟨gb299, 1, none⟩) (Kd.R_types HO_284000.out BK299.out (by decide)) (fun _ hk => hk.2) (.int .i64 t306)) (fun _ h_ => h_.1))) (Kd.R_base ho63) hb); replace HO_300002 := Aside0.mk (Kd.R_elder' (Rgn.rq (Kd.R_mono (Kd.R_far (p := ⟨gb299, 1, none⟩) (Kd.R_types HO_300002.out BK299.out (by decide)) (fun _ hk => hk.2) (.int .i64 t306)) (fun _ h_ => h_.1))) (Kd.R_base ho63) hb); replace BK270 := Aside0.mk (blk_below (g := gb270) (o := .cells #[.slice none 0 0, .slice none 0 0] 29 (0, 0)) (Rgn.kf BK270.out) hb); replace BK283 := Aside0.mk (blk_below (g := gb283) (o := .cells #[.slice Ao9 t275.length co9, .slice Ao13 t278.length co13] 29 (0, 0)) (Rgn.kf BK283.out) hb); replace BK299 := Aside0.mk (blk_below (g := gb299) (o := .cells #[.int .i64 x300000_42, .int .i64 t306, u300002] 93 (0, 0)) (by (with_reducible repeat (first | refine blk_drewN ?_ _ | refine blk_drew ?_ | refine blk_alloc ?_ _)); refine blk_put (cs := #[.int .i64 x300000_42, .int .i64 x300001_22, u300002]) ?_ 1 _ rfl; (with_reducible repeat (first | refine blk_drewN ?_ _ | refine blk_drew ?_ | refine blk_alloc ?_ _)); exact BK299.out) hb); replace HB := Aside0.mk (below_step (Rgn.bs HB.out (IsS90.ge HI274.out)) hb); replace HI274 := Aside0.mk (IsS90.below (show IsS90 w (w58.setCell ⟨gb299, 1, none⟩ (.int .i64 t306)) g274 t271 t304 t305 from IsS90.q HI274.out) hb); clear hb ho63; obtain ⟨Ao64, co64, eo64⟩ := Kd.R_slice HO309.out; subst eo64; obtain ⟨hcz65_0, hcz65_1, hcz65_2, hfz65_0, hfz65_1, hfz65_2⟩ := Rgn.c3 BK299.out) | ((with_reducible refine gate_store (t := 22) (p := 54) rfl ?_); refine store_event (t := 22) (p := 54) (v := ?vo_w66) (w1 := (w62.setCell ⟨gb299, 2, none⟩ (.slice Ao64 y307.length co64))) ?hg ?ho ?hn ?hr ?_; (case ho => rfl); (case hg => rfl); (case hn => rfl); (case hr => first | (go_simp; done) | (go_simp; rfl)); intro w66 hw; replace HO_7 : Aside0 (Kd.N k93 93 w66 w.heap.size (fun k_ => (w.heap.size ≤ k_) ∧ some k_ ≠ (.slice Ao9 t275.length co9 : Value).ownBlock ∧ some k_ ≠ (.slice Ao13 t278.length co13 : Value).ownBlock ∧ some k_ ≠ (u300002 : Value).ownBlock ∧ some k_ ≠ (.slice Ao64 y307.length co64 : Value).ownBlock ∧ k_ ≠ gb270 ∧ k_ ≠ gb283 ∧ k_ ≠ gb299 ∧ k_ ≠ g274) u7 x7_1) := ⟨(by rw [hw]; exact (Rgn.nq (Kd.N_mono (Kd.N_far (p := ⟨gb299, 2, none⟩) (Kd.N_mono HO_7.out (fun k_ hk => (⟨hk, hk.1.2.2.2.2.2.2.1⟩ : _ ∧ k_ ≠ gb299))) (fun _ hk => hk.2) (.slice Ao64 y307.length co64)) (fun _ hk => ⟨hk.1.1.1, ⟨hk.1.1.2.1, ⟨hk.1.1.2.2.1, ⟨hk.1.1.2.2.2.1, ⟨hk.1.2, ⟨hk.1.1.2.2.2.2.1, ⟨hk.1.1.2.2.2.2.2.1, ⟨hk.1.1.2.2.2.2.2.2.1, hk.1.1.2.2.2.2.2.2.2⟩⟩⟩⟩⟩⟩⟩⟩))))⟩; replace HO_284000 : Aside0 (Kd.R (Kd.int .u8) 5 w66 w.heap.size (fun k_ => (w.heap.size ≤ k_) ∧ some k_ ≠ (u300002 : Value).ownBlock ∧ some k_ ≠ (.slice Ao64 y307.length co64 : Value).ownBlock) (.slice Ao9 t275.length co9) t275) := ⟨(by rw [hw]; exact (Rgn.rq (Kd.R_mono (Kd.R_far (p := ⟨gb299, 2, none⟩) (Kd.R_types HO_284000.out BK299.out (by decide)) (fun _ hk => hk.2) (.slice Ao64 y307.length co64)) (fun _ hk => ⟨hk.1.1.1, ⟨hk.1.1.2, hk.1.2⟩⟩))))⟩; replace HO_284001 : Aside0 (Kd.N k62 62 w66 w.heap.size (fun k_ => (w.heap.size ≤ k_) ∧ some k_ ≠ (u7 : Value).ownBlock ∧ some k_ ≠ (.slice Ao9 t275.length co9 : Value).ownBlock ∧ some k_ ≠ (u300002 : Value).ownBlock ∧ some k_ ≠ (.slice Ao64 y307.length co64 : Value).ownBlock ∧ k_ ≠ gb270 ∧ k_ ≠ gb283 ∧ k_ ≠ gb299 ∧ k_ ≠ g274) (.slice Ao13 t278.length co13) t278) := ⟨(by rw [hw]; exact (Rgn.nq (Kd.N_mono (Kd.N_far (p := ⟨gb299, 2, none⟩) (Kd.N_mono HO_284001.out (fun k_ hk => (⟨hk, hk.1.2.2.2.2.2.2.1⟩ : _ ∧ k_ ≠ gb299))) (fun _ hk => hk.2) (.slice Ao64 y307.length co64)) (fun _ hk => ⟨hk.1.1.1, ⟨hk.1.1.2.1, ⟨hk.1.1.2.2.1, ⟨hk.1.1.2.2.2.1, ⟨hk.1.2, ⟨hk.1.1.2.2.2.2.1, ⟨hk.1.1.2.2.2.2.2.1, ⟨hk.1.1.2.2.2.2.2.2.1, hk.1.1.2.2.2.2.2.2.2⟩⟩⟩⟩⟩⟩⟩⟩))))⟩; replace HO_300002 : Aside0 (Kd.R (Kd.int .u8) 5 w66 w.heap.size (fun k_ => (w.heap.size ≤ k_) ∧ some k_ ≠ (.slice Ao9 t275.length co9 : Value).ownBlock ∧ some k_ ≠ (.slice Ao64 y307.length co64 : Value).ownBlock) u300002 x300002_22) := ⟨(by rw [hw]; exact (Rgn.rq (Kd.R_mono (Kd.R_far (p := ⟨gb299, 2, none⟩) (Kd.R_types HO_300002.out BK299.out (by decide)) (fun _ hk => hk.2) (.slice Ao64 y307.length co64)) (fun _ hk => ⟨hk.1.1.1, ⟨hk.1.1.2, hk.1.2⟩⟩))))⟩; replace HO309 : Aside0 (Kd.R (Kd.int .u8) 5 w66 w.heap.size (fun k_ => (w.heap.size ≤ k_) ∧ some k_ ≠ (.slice Ao9 t275.length co9 : Value).ownBlock ∧ some k_ ≠ (u300002 : Value).ownBlock) (.slice Ao64 y307.length co64) y307) := ⟨(by rw [hw]; exact (Rgn.rq (Kd.R_mono (Kd.R_far (p := ⟨gb299, 2, none⟩) (Kd.R_types HO309.out BK299.out (by decide)) (fun _ hk => hk.2) (.slice Ao64 y307.length co64)) (fun _ hk => ⟨hk.1.1.1.1, ⟨hk.1.1.2, hk.1.2⟩⟩))))⟩; replace BK270 : Aside0 (w66.heap[gb270]? = some (.cells #[.slice none 0 0, .slice none 0 0] 29 (0, 0))) := ⟨(by rw [hw]; exact (Rgn.kf BK270.out))⟩; replace BK283 : Aside0 (w66.heap[gb283]? = some (.cells #[.slice Ao9 t275.length co9, .slice Ao13 t278.length co13] 29 (0, 0))) := ⟨(by rw [hw]; exact (Rgn.kf BK283.out))⟩; replace BK299 : Aside0 (w66.heap[gb299]? = some (.cells #[.int .i64 x300000_42, .int .i64 t306, .slice Ao64 y307.length co64] 93 (0, 0))) := ⟨(by rw [hw]; exact (by (with_reducible repeat (first | refine blk_drewN ?_ _ | refine blk_drew ?_ | refine blk_alloc ?_ _)); refine blk_put (cs := #[.int .i64 x300000_42, .int .i64 t306, u300002]) ?_ 2 _ rfl; (with_reducible repeat (first | refine blk_drewN ?_ _ | refine blk_drew ?_ | refine blk_alloc ?_ _)); exact BK299.out))⟩; replace HB : Aside0 (Below w.heap.size w w66) := ⟨(by rw [hw]; exact (Rgn.bs HB.out (IsS90.ge HI274.out)))⟩; replace HI274 : Aside0 (IsS90 w w66 g274 t271 t304 t305) := ⟨(by rw [hw]; exact (IsS90.q HI274.out))⟩; clear hw; obtain ⟨hcz67_0, hcz67_1, hcz67_2, hfz67_0, hfz67_1, hfz67_2⟩ := Rgn.c3 BK299.out) | ((with_reducible refine gate_builtin (b := .append) (xs := #[.tmp 55, .tmp 57]) rfl ?_); at_builtin; refine Kd.N_append k93 (w0 := w) w.heap.size rfl (.tmp 55) (.tmp 57) 54 93 (.agg #[(.int .i64 0), (.int .i64 0), (.slice none 0 0)]) 40 rfl Try.underlying54 info93 rfl (by decide) (by omega) u7 x7_1 (⟨x300000_42, t306, y307⟩ : S93) [.int .i64 x300000_42, .int .i64 t306, .slice Ao64 y307.length co64] (fun k_ => (w.heap.size ≤ k_) ∧ some k_ ≠ (.slice Ao9 t275.length co9 : Value).ownBlock ∧ some k_ ≠ (.slice Ao13 t278.length co13 : Value).ownBlock ∧ some k_ ≠ (u300002 : Value).ownBlock ∧ k_ ≠ gb270 ∧ k_ ≠ gb283 ∧ k_ ≠ gb299 ∧ k_ ≠ g274) (fun k_ => ((fun k_ => (w.heap.size ≤ k_) ∧ some k_ ≠ (.slice Ao9 t275.length co9 : Value).ownBlock ∧ some k_ ≠ (.slice Ao13 t278.length co13 : Value).ownBlock ∧ some k_ ≠ (u300002 : Value).ownBlock ∧ k_ ≠ gb270 ∧ k_ ≠ gb283 ∧ k_ ≠ gb299 ∧ k_ ≠ g274)) k_ ∧ some k_ ≠ (u7 : Value).ownBlock) rfl rfl ?aP (fun _ hk => hk) ?aF ?aO ?aB ?aS ?aL ?_; (case aP => exact (k93_mkF _ _ (⟨x300000_42, t306, y307⟩ : S93) (Kd.R_reads' (Kd.R_mono (ok' := (fun k_ => ((fun k_ => (w.heap.size ≤ k_) ∧ some k_ ≠ (.slice Ao9 t275.length co9 : Value).ownBlock ∧ some k_ ≠ (.slice Ao13 t278.length co13 : Value).ownBlock ∧ some k_ ≠ (u300002 : Value).ownBlock ∧ k_ ≠ gb270 ∧ k_ ≠ gb283 ∧ k_ ≠ gb299 ∧ k_ ≠ g274)) k_ ∧ some k_ ≠ (u7 : Value).ownBlock)) (IsS90.apart HI274.out (Kd.R_types (Kd.R_types (Kd.R_types (Kd.R_apart' (Kd.R_apart' (HO309.out) (Kd.N_typed HO_284001.out) (by decide)) (Kd.N_typed HO_7.out) (by decide)) BK270.out (by decide)) BK283.out (by decide)) BK299.out (by decide)) (by decide)) (fun k_ hk => ⟨⟨hk.1.1.1.1.1.1.1, ⟨hk.1.1.1.1.1.1.2.1, ⟨hk.1.1.1.1.1.2, ⟨hk.1.1.1.1.1.1.2.2, ⟨hk.1.1.1.2, ⟨hk.1.1.2, ⟨hk.1.2, hk.2⟩⟩⟩⟩⟩⟩⟩, hk.1.1.1.1.2⟩))).2.1 (Kd.R_F (Kd.R_mono (ok' := (fun k_ => ((fun k_ => (w.heap.size ≤ k_) ∧ some k_ ≠ (.slice Ao9 t275.length co9 : Value).ownBlock ∧ some k_ ≠ (.slice Ao13 t278.length co13 : Value).ownBlock ∧ some k_ ≠ (u300002 : Value).ownBlock ∧ k_ ≠ gb270 ∧ k_ ≠ gb283 ∧ k_ ≠ gb299 ∧ k_ ≠ g274)) k_ ∧ some k_ ≠ (u7 : Value).ownBlock)) (IsS90.apart HI274.out (Kd.R_types (Kd.R_types (Kd.R_types (Kd.R_apart' (Kd.R_apart' (HO309.out) (Kd.N_typed HO_284001.out) (by decide)) (Kd.N_typed HO_7.out) (by decide)) BK270.out (by decide)) BK283.out (by decide)) BK299.out (by decide)) (by decide)) (fun k_ hk => ⟨⟨hk.1.1.1.1.1.1.1, ⟨hk.1.1.1.1.1.1.2.1, ⟨hk.1.1.1.1.1.2, ⟨hk.1.1.1.1.1.1.2.2, ⟨hk.1.1.1.2, ⟨hk.1.1.2, ⟨hk.1.2, hk.2⟩⟩⟩⟩⟩⟩⟩, hk.1.1.1.1.2⟩))))); (case aB => exact (Rgn.bs HB.out (IsS90.ge HI274.out))); (case aF => exact (fun k_ hk => ⟨(Nat.le_trans (below_size (Rgn.bs HB.out (IsS90.ge HI274.out))) hk), Kd.fresh' (Kd.R_lt (Rgn.rq HO_284000.out)) k_ hk, Kd.fresh' (Kd.N_lt (Rgn.nq HO_284001.out)) k_ hk, Kd.fresh' (Kd.R_lt (Rgn.rq HO_300002.out)) k_ hk, Kd.freshB (g := gb270) (o := .cells #[.slice none 0 0, .slice none 0 0] 29 (0, 0)) (Rgn.kb BK270.out) k_ hk, Kd.freshB (g := gb283) (o := .cells #[.slice Ao9 t275.length co9, .slice Ao13 t278.length co13] 29 (0, 0)) (Rgn.kb BK283.out) k_ hk, Kd.freshB (g := gb299) (o := .cells #[.int .i64 x300000_42, .int .i64 t306, .slice Ao64 y307.length co64] 93 (0, 0)) (Rgn.kb BK299.out) k_ hk, IsS90.fresh (IsS90.q HI274.out) k_ hk⟩)); (case aO => exact (Rgn.nq (Kd.N_mono HO_7.out (fun _ hk => ⟨hk.1, ⟨hk.2.1, ⟨hk.2.2.1, ⟨hk.2.2.2.1, ⟨hk.2.2.2.2.2.1, ⟨hk.2.2.2.2.2.2.1, ⟨hk.2.2.2.2.2.2.2.1, hk.2.2.2.2.2.2.2.2⟩⟩⟩⟩⟩⟩⟩)))); (case aS => exact (below_size (Rgn.bs HB.out (IsS90.ge HI274.out)))); (case aL => have := LMc53.out; omega); intro v311 w68 ho hb hg hat; rw [← Ny310.out] at ho; replace HO_284000 := Aside0.mk (Kd.R_over' (Rgn.rq HO_284000.out) (Kd.N_typed (Rgn.nq HO_7.out)) (by decide) hg); replace HO_284001 := Aside0.mk (Kd.N_afterv (ok := (fun k_ => (w.heap.size ≤ k_) ∧ some k_ ≠ (.slice Ao9 t275.length co9 : Value).ownBlock ∧ some k_ ≠ (u300002 : Value).ownBlock ∧ some k_ ≠ (.slice Ao64 y307.length co64 : Value).ownBlock ∧ k_ ≠ gb270 ∧ k_ ≠ gb283 ∧ k_ ≠ gb299 ∧ k_ ≠ g274)) (Rgn.nq (Kd.N_mono HO_284001.out (fun _ hk => ⟨⟨hk.1, ⟨hk.2.2.1, ⟨hk.2.2.2.1, ⟨hk.2.2.2.2.1, ⟨hk.2.2.2.2.2.1, ⟨hk.2.2.2.2.2.2.1, ⟨hk.2.2.2.2.2.2.2.1, hk.2.2.2.2.2.2.2.2⟩⟩⟩⟩⟩⟩⟩, hk.2.1⟩))) hg hat); replace HO_300002 := Aside0.mk (Kd.R_over' (Rgn.rq HO_300002.out) (Kd.N_typed (Rgn.nq HO_7.out)) (by decide) hg); replace BK270 := Aside0.mk (Rgn.bg BK270.out hg (Kd.N_ne HO_7.out BK270.out (by decide))); replace BK283 := Aside0.mk (Rgn.bg BK283.out hg (Kd.N_ne HO_7.out BK283.out (by decide))); replace BK299 := Aside0.mk (Rgn.bg BK299.out hg (Kd.N_away HO_7.out (fun _ hk => hk.2.2.2.2.2.2.2.1))); replace HI274 := Aside0.mk (IsS90.grown (IsS90.q HI274.out) hg (IsS90.own_neN HI274.out HO_7.out (by decide))); replace HB := Aside0.mk (hb); have HO312 := Aside0.mk (ho); clear HO309 HO_7; clear ho hb hg hat))
           go_roundg kj42
           case measure => have := HK1.out; have := HJ22.out; have := HJ42.out; omega
           case rel => exact ⟨(y310), (wrap64 (x9_1 + 1)), (t304), (t305), (by first | rfl | (simp; done) | (simp [*]; done)), H', ⟨by have := HK1.out; have := HJ22.out; have := HJ42.out; omega⟩, ⟨by (with_reducible repeat (first | apply Kd.N_alloc | apply Kd.N_drewN | apply Kd.N_drew)); exact Kd.N_mono HO312.out (fun _ hk => ⟨hk.1, ⟨hk.2.1, ⟨hk.2.2.1, ⟨hk.2.2.2.2.1, ⟨hk.2.2.2.2.2.1, hk.2.2.2.2.2.2.2⟩⟩⟩⟩⟩)⟩, ⟨by (with_reducible repeat (first | apply Kd.R_alloc | apply Kd.R_drewN | apply Kd.R_drew)); exact Kd.R_mono HO_284000.out (fun _ hk => hk.1)⟩, ⟨by (with_reducible repeat (first | apply Kd.N_alloc | apply Kd.N_drewN | apply Kd.N_drew)); exact Kd.N_mono HO_284001.out (fun _ hk => ⟨hk.1.1, ⟨hk.2, ⟨hk.1.2.1, ⟨hk.1.2.2.2.2.1, ⟨hk.1.2.2.2.2.2.1, hk.1.2.2.2.2.2.2.2⟩⟩⟩⟩⟩)⟩, ⟨Rgn.kb BK270.out⟩, ⟨Rgn.kb BK283.out⟩, ⟨IsS90.q HI274.out⟩, ⟨Rgn.bs HB.out (IsS90.ge HI274.out)⟩⟩
          ·
           rw [if_neg c53] at H
           exact absurd H (by simp)
         ·
          rw [if_neg c52] at H
          have c52b0 : (t303 == 2) = false := beq_eq_false_iff_ne.mpr c52
          have c52b1 : (t303 != 2) = true := bne_iff_ne.mpr c52
          by_cases c69 : x7_1.length < 3518437208883
          ·
           rw [if_pos c69] at H
           have LMc69 := Aside0.mk c69
           clear c69
           obtain ⟨y313, hy313⟩ : ∃ y_ : List (S93), y_ = (x7_1 ++ [(⟨x300000_42, t306, x300002_22⟩ : S93)]) := ⟨_, rfl⟩
           replace H : (spec_DrawDiskDo.l0 kj42 y313 t287 (wrap64 (x9_1 + 1)) t271 t304 t305 t275 t278) = some (r1, r2, r3, r4) := by first | (rw [hy313]; with_reducible exact H) | (have H2_ := (Option.bind_some _ _).symm.trans H; rw [hy313]; with_reducible exact H2_) | (have H2_ := (Option.bind_some _ _).symm.trans H; with_reducible exact H2_) | with_reducible exact H | (rw [hy313]; exact H) | exact H
           have Ny313 := Aside0.mk hy313
           clear hy313
           have H' := Aside0.mk H
           clear H
           have hnb70 := NB283_270.out
           have hnc70 := NB270_283.out
           have hnb71 := NB283_299.out
           have hnc71 := NB299_283.out
           have hnb72 := NB283_274.out
           have hnc72 := NB274_283.out
           have hcz73_0 := Rgn.cz0 BK283.out
           have hcz73_1 := Rgn.cz1 BK283.out
           have hfz73_0 := blk_frozen BK283.out 0
           have hfz73_1 := blk_frozen BK283.out 1
           go_wp2_with (first | ((with_reducible refine gate_callee (f := 70) rfl ?_); refine Rgn.gl (some 49) Try.func70 #[.agg #[.slice Ao9 t275.length co9, .slice Ao13 t278.length co13]] ?_; (with_reducible refine (spec_l1Blocks.calls _ _ t275 _ _ t278 t306 _ ?side1 ?side2 ?side3 ?side4 A51.out).mono ?_); (case side1 => exact Rgn.cq (Kd.R_reads' HO_284000.out).2.2); (case side2 => exact (Kd.R_reads' HO_284000.out).2.1); (case side3 => repeat (first | exact (Kd.N_reads' HO_284001.out).2.2 | (with_reducible refine Kd.C_alloc ?_ _) | (with_reducible refine Kd.C_drewN ?_ _) | (with_reducible refine Kd.C_drew ?_))); (case side4 => exact (Kd.N_reads' HO_284001.out).2.1); rintro e w74 ⟨rfl, hb⟩; refine ⟨_, rfl, ?_⟩; replace HO_7 := Aside0.mk (Kd.N_below (Rgn.nq HO_7.out) hb); replace HO_284000 := Aside0.mk (Kd.R_below (Rgn.rq HO_284000.out) hb); replace HO_284001 := Aside0.mk (Kd.N_below (Rgn.nq HO_284001.out) hb); replace HO_300002 := Aside0.mk (Kd.R_below (Rgn.rq HO_300002.out) hb); replace BK270 := Aside0.mk (Rgn.bb BK270.out hb); replace BK283 := Aside0.mk (Rgn.bb BK283.out hb); replace BK299 := Aside0.mk (Rgn.bb BK299.out hb); replace HB := Aside0.mk (below_step (Rgn.bs HB.out (IsS90.ge HI274.out)) hb); replace HI274 := Aside0.mk (IsS90.below (IsS90.q HI274.out) hb); (try clear hb); have hnb75 := NB299_270.out; have hnc75 := NB270_299.out; have hnb76 := NB299_274.out; have hnc76 := NB274_299.out; obtain ⟨hcz77_0, hcz77_1, hcz77_2, hfz77_0, hfz77_1, hfz77_2⟩ := Rgn.c3 BK299.out) | ((with_reducible refine gate_store (t := 2) (p := 50) rfl ?_); refine store_event (t := 2) (p := 50) (v := ?vo_w78) (w1 := (w74.setCell ⟨gb299, 1, none⟩ (.int .i64 t306))) ?hg ?ho ?hn ?hr ?_; (case ho => rfl); (case hg => rfl); (case hn => rfl); (case hr => first | (go_simp; done) | (go_simp; rfl)); intro w78 hw; replace HO_7 : Aside0 (Kd.N k93 93 w78 w.heap.size (fun k_ => (w.heap.size ≤ k_) ∧ some k_ ≠ (.slice Ao9 t275.length co9 : Value).ownBlock ∧ some k_ ≠ (.slice Ao13 t278.length co13 : Value).ownBlock ∧ some k_ ≠ (u300002 : Value).ownBlock ∧ k_ ≠ gb270 ∧ k_ ≠ gb283 ∧ k_ ≠ gb299 ∧ k_ ≠ g274) u7 x7_1) := ⟨(by rw [hw]; exact (Rgn.nq (Kd.N_mono (Kd.N_far (p := ⟨gb299, 1, none⟩) (Kd.N_mono HO_7.out (fun k_ hk => (⟨hk, hk.2.2.2.2.2.2.1⟩ : _ ∧ k_ ≠ gb299))) (fun _ hk => hk.2) (.int .i64 t306)) (fun _ hk => ⟨hk.1.1, ⟨hk.1.2.1, ⟨hk.1.2.2.1, ⟨hk.1.2.2.2.1, ⟨hk.1.2.2.2.2.1, ⟨hk.1.2.2.2.2.2.1, ⟨hk.1.2.2.2.2.2.2.1, hk.1.2.2.2.2.2.2.2⟩⟩⟩⟩⟩⟩⟩))))⟩; replace HO_284000 : Aside0 (Kd.R (Kd.int .u8) 5 w78 w.heap.size (fun k_ => (w.heap.size ≤ k_) ∧ some k_ ≠ (u300002 : Value).ownBlock) (.slice Ao9 t275.length co9) t275) := ⟨(by rw [hw]; exact (Rgn.rq (Kd.R_mono (Kd.R_far (p := ⟨gb299, 1, none⟩) (Kd.R_types HO_284000.out BK299.out (by decide)) (fun _ hk => hk.2) (.int .i64 t306)) (fun _ hk => ⟨hk.1.1, hk.1.2⟩))))⟩; replace HO_284001 : Aside0 (Kd.N k62 62 w78 w.heap.size (fun k_ => (w.heap.size ≤ k_) ∧ some k_ ≠ (u7 : Value).ownBlock ∧ some k_ ≠ (.slice Ao9 t275.length co9 : Value).ownBlock ∧ some k_ ≠ (u300002 : Value).ownBlock ∧ k_ ≠ gb270 ∧ k_ ≠ gb283 ∧ k_ ≠ gb299 ∧ k_ ≠ g274) (.slice Ao13 t278.length co13) t278) := ⟨(by rw [hw]; exact (Rgn.nq (Kd.N_mono (Kd.N_far (p := ⟨gb299, 1, none⟩) (Kd.N_mono HO_284001.out (fun k_ hk => (⟨hk, hk.2.2.2.2.2.2.1⟩ : _ ∧ k_ ≠ gb299))) (fun _ hk => hk.2) (.int .i64 t306)) (fun _ hk => ⟨hk.1.1, ⟨hk.1.2.1, ⟨hk.1.2.2.1, ⟨hk.1.2.2.2.1, ⟨hk.1.2.2.2.2.1, ⟨hk.1.2.2.2.2.2.1, ⟨hk.1.2.2.2.2.2.2.1, hk.1.2.2.2.2.2.2.2⟩⟩⟩⟩⟩⟩⟩))))⟩; replace HO_300002 : Aside0 (Kd.R (Kd.int .u8) 5 w78 w.heap.size (fun k_ => (w.heap.size ≤ k_) ∧ some k_ ≠ (.slice Ao9 t275.length co9 : Value).ownBlock) u300002 x300002_22) := ⟨(by rw [hw]; exact (Rgn.rq (Kd.R_mono (Kd.R_far (p := ⟨gb299, 1, none⟩) (Kd.R_types HO_300002.out BK299.out (by decide)) (fun _ hk => hk.2) (.int .i64 t306)) (fun _ hk => ⟨hk.1.1, hk.1.2⟩))))⟩; replace BK270 : Aside0 (w78.heap[gb270]? = some (.cells #[.slice none 0 0, .slice none 0 0] 29 (0, 0))) := ⟨(by rw [hw]; exact (Rgn.kf BK270.out))⟩; replace BK283 : Aside0 (w78.heap[gb283]? = some (.cells #[.slice Ao9 t275.length co9, .slice Ao13 t278.length co13] 29 (0, 0))) := ⟨(by rw [hw]; exact (Rgn.kf BK283.out))⟩; replace BK299 : Aside0 (w78.heap[gb299]? = some (.cells #[.int .i64 x300000_42, .int .i64 t306, u300002] 93 (0, 0))) := ⟨(by rw [hw]; exact (by (with_reducible repeat (first | refine blk_drewN ?_ _ | refine blk_drew ?_ | refine blk_alloc ?_ _)); refine blk_put (cs := #[.int .i64 x300000_42, .int .i64 x300001_22, u300002]) ?_ 1 _ rfl; (with_reducible repeat (first | refine blk_drewN ?_ _ | refine blk_drew ?_ | refine blk_alloc ?_ _)); exact BK299.out))⟩; replace HB : Aside0 (Below w.heap.size w w78) := ⟨(by rw [hw]; exact (Rgn.bs HB.out (IsS90.ge HI274.out)))⟩; replace HI274 : Aside0 (IsS90 w w78 g274 t271 t304 t305) := ⟨(by rw [hw]; exact (IsS90.q HI274.out))⟩; clear hw; obtain ⟨hcz79_0, hcz79_1, hcz79_2, hfz79_0, hfz79_1, hfz79_2⟩ := Rgn.c3 BK299.out; obtain ⟨Ao81, co81, eo81⟩ := Kd.R_slice HO_300002.out; subst eo81) | ((with_reducible refine gate_builtin (b := .append) (xs := #[.tmp 55, .tmp 57]) rfl ?_); at_builtin; refine Kd.N_append k93 (w0 := w) w.heap.size rfl (.tmp 55) (.tmp 57) 54 93 (.agg #[(.int .i64 0), (.int .i64 0), (.slice none 0 0)]) 40 rfl Try.underlying54 info93 rfl (by decide) (by omega) u7 x7_1 (⟨x300000_42, t306, x300002_22⟩ : S93) [.int .i64 x300000_42, .int .i64 t306, .slice Ao81 x300002_22.length co81] (fun k_ => (w.heap.size ≤ k_) ∧ some k_ ≠ (.slice Ao9 t275.length co9 : Value).ownBlock ∧ some k_ ≠ (.slice Ao13 t278.length co13 : Value).ownBlock ∧ k_ ≠ gb270 ∧ k_ ≠ gb283 ∧ k_ ≠ gb299 ∧ k_ ≠ g274) (fun k_ => ((fun k_ => (w.heap.size ≤ k_) ∧ some k_ ≠ (.slice Ao9 t275.length co9 : Value).ownBlock ∧ some k_ ≠ (.slice Ao13 t278.length co13 : Value).ownBlock ∧ k_ ≠ gb270 ∧ k_ ≠ gb283 ∧ k_ ≠ gb299 ∧ k_ ≠ g274)) k_ ∧ some k_ ≠ (u7 : Value).ownBlock) rfl rfl ?aP (fun _ hk => hk) ?aF ?aO ?aB ?aS ?aL ?_; (case aP => exact (k93_mkF _ _ (⟨x300000_42, t306, x300002_22⟩ : S93) (Kd.R_reads' (Kd.R_mono (ok' := (fun k_ => ((fun k_ => (w.heap.size ≤ k_) ∧ some k_ ≠ (.slice Ao9 t275.length co9 : Value).ownBlock ∧ some k_ ≠ (.slice Ao13 t278.length co13 : Value).ownBlock ∧ k_ ≠ gb270 ∧ k_ ≠ gb283 ∧ k_ ≠ gb299 ∧ k_ ≠ g274)) k_ ∧ some k_ ≠ (u7 : Value).ownBlock)) (IsS90.apart HI274.out (Kd.R_types (Kd.R_types (Kd.R_types (Kd.R_apart' (Kd.R_apart' (HO_300002.out) (Kd.N_typed HO_284001.out) (by decide)) (Kd.N_typed HO_7.out) (by decide)) BK270.out (by decide)) BK283.out (by decide)) BK299.out (by decide)) (by decide)) (fun k_ hk => ⟨⟨hk.1.1.1.1.1.1.1, ⟨hk.1.1.1.1.1.1.2, ⟨hk.1.1.1.1.1.2, ⟨hk.1.1.1.2, ⟨hk.1.1.2, ⟨hk.1.2, hk.2⟩⟩⟩⟩⟩⟩, hk.1.1.1.1.2⟩))).2.1 (Kd.R_F (Kd.R_mono (ok' := (fun k_ => ((fun k_ => (w.heap.size ≤ k_) ∧ some k_ ≠ (.slice Ao9 t275.length co9 : Value).ownBlock ∧ some k_ ≠ (.slice Ao13 t278.length co13 : Value).ownBlock ∧ k_ ≠ gb270 ∧ k_ ≠ gb283 ∧ k_ ≠ gb299 ∧ k_ ≠ g274)) k_ ∧ some k_ ≠ (u7 : Value).ownBlock)) (IsS90.apart HI274.out (Kd.R_types (Kd.R_types (Kd.R_types (Kd.R_apart' (Kd.R_apart' (HO_300002.out) (Kd.N_typed HO_284001.out) (by decide)) (Kd.N_typed HO_7.out) (by decide)) BK270.out (by decide)) BK283.out (by decide)) BK299.out (by decide)) (by decide)) (fun k_ hk => ⟨⟨hk.1.1.1.1.1.1.1, ⟨hk.1.1.1.1.1.1.2, ⟨hk.1.1.1.1.1.2, ⟨hk.1.1.1.2, ⟨hk.1.1.2, ⟨hk.1.2, hk.2⟩⟩⟩⟩⟩⟩, hk.1.1.1.1.2⟩))))); (case aB => exact (Rgn.bs HB.out (IsS90.ge HI274.out))); (case aF => exact (fun k_ hk => ⟨(Nat.le_trans (below_size (Rgn.bs HB.out (IsS90.ge HI274.out))) hk), Kd.fresh' (Kd.R_lt (Rgn.rq HO_284000.out)) k_ hk, Kd.fresh' (Kd.N_lt (Rgn.nq HO_284001.out)) k_ hk, Kd.freshB (g := gb270) (o := .cells #[.slice none 0 0, .slice none 0 0] 29 (0, 0)) (Rgn.kb BK270.out) k_ hk, Kd.freshB (g := gb283) (o := .cells #[.slice Ao9 t275.length co9, .slice Ao13 t278.length co13] 29 (0, 0)) (Rgn.kb BK283.out) k_ hk, Kd.freshB (g := gb299) (o := .cells #[.int .i64 x300000_42, .int .i64 t306, .slice Ao81 x300002_22.length co81] 93 (0, 0)) (Rgn.kb BK299.out) k_ hk, IsS90.fresh (IsS90.q HI274.out) k_ hk⟩)); (case aO => exact (Rgn.nq (Kd.N_mono HO_7.out (fun _ hk => ⟨hk.1, ⟨hk.2.1, ⟨hk.2.2.1, ⟨hk.2.2.2.2.1, ⟨hk.2.2.2.2.2.1, ⟨hk.2.2.2.2.2.2.1, hk.2.2.2.2.2.2.2⟩⟩⟩⟩⟩⟩)))); (case aS => exact (below_size (Rgn.bs HB.out (IsS90.ge HI274.out)))); (case aL => have := LMc69.out; omega); intro v314 w80 ho hb hg hat; rw [← Ny313.out] at ho; replace HO_284000 := Aside0.mk (Kd.R_over' (Rgn.rq HO_284000.out) (Kd.N_typed (Rgn.nq HO_7.out)) (by decide) hg); replace HO_284001 := Aside0.mk (Kd.N_afterv (ok := (fun k_ => (w.heap.size ≤ k_) ∧ some k_ ≠ (.slice Ao9 t275.length co9 : Value).ownBlock ∧ some k_ ≠ (.slice Ao81 x300002_22.length co81 : Value).ownBlock ∧ k_ ≠ gb270 ∧ k_ ≠ gb283 ∧ k_ ≠ gb299 ∧ k_ ≠ g274)) (Rgn.nq (Kd.N_mono HO_284001.out (fun _ hk => ⟨⟨hk.1, ⟨hk.2.2.1, ⟨hk.2.2.2.1, ⟨hk.2.2.2.2.1, ⟨hk.2.2.2.2.2.1, ⟨hk.2.2.2.2.2.2.1, hk.2.2.2.2.2.2.2⟩⟩⟩⟩⟩⟩, hk.2.1⟩))) hg hat); replace BK270 := Aside0.mk (Rgn.bg BK270.out hg (Kd.N_ne HO_7.out BK270.out (by decide))); replace BK283 := Aside0.mk (Rgn.bg BK283.out hg (Kd.N_ne HO_7.out BK283.out (by decide))); replace BK299 := Aside0.mk (Rgn.bg BK299.out hg (Kd.N_away HO_7.out (fun _ hk => hk.2.2.2.2.2.2.1))); replace HI274 := Aside0.mk (IsS90.grown (IsS90.q HI274.out) hg (IsS90.own_neN HI274.out HO_7.out (by decide))); replace HB := Aside0.mk (hb); have HO315 := Aside0.mk (ho); clear HO_300002 HO_7; clear ho hb hg hat))
           go_roundg kj42
           case measure => have := HK1.out; have := HJ22.out; have := HJ42.out; omega
           case rel => exact ⟨(y313), (wrap64 (x9_1 + 1)), (t304), (t305), (by first | rfl | (simp; done) | (simp [*]; done)), H', ⟨by have := HK1.out; have := HJ22.out; have := HJ42.out; omega⟩, ⟨by (with_reducible repeat (first | apply Kd.N_alloc | apply Kd.N_drewN | apply Kd.N_drew)); exact Kd.N_mono HO315.out (fun _ hk => ⟨hk.1, ⟨hk.2.1, ⟨hk.2.2.1, ⟨hk.2.2.2.1, ⟨hk.2.2.2.2.1, hk.2.2.2.2.2.2⟩⟩⟩⟩⟩)⟩, ⟨by (with_reducible repeat (first | apply Kd.R_alloc | apply Kd.R_drewN | apply Kd.R_drew)); exact Kd.R_mono HO_284000.out (fun _ hk => hk.1)⟩, ⟨by (with_reducible repeat (first | apply Kd.N_alloc | apply Kd.N_drewN | apply Kd.N_drew)); exact Kd.N_mono HO_284001.out (fun _ hk => ⟨hk.1.1, ⟨hk.2, ⟨hk.1.2.1, ⟨hk.1.2.2.2.1, ⟨hk.1.2.2.2.2.1, hk.1.2.2.2.2.2.2⟩⟩⟩⟩⟩)⟩, ⟨Rgn.kb BK270.out⟩, ⟨Rgn.kb BK283.out⟩, ⟨IsS90.q HI274.out⟩, ⟨Rgn.bs HB.out (IsS90.ge HI274.out)⟩⟩
          ·
           rw [if_neg c69] at H
           exact absurd H (by simp)
        ·
         rw [if_neg c50] at H
         have c50b0 : (t303 == 1) = false := beq_eq_false_iff_ne.mpr c50
         have c50b1 : (t303 != 1) = true := bne_iff_ne.mpr c50
         by_cases c82 : t303 = 2
         ·
          rw [if_pos c82] at H
          have c82b0 : (t303 == 2) = true := beq_iff_eq.mpr c82
          have c82b1 : (t303 != 2) = false := bne_eq_false_iff_eq.mpr c82
          clear c82
          obtain ⟨y316, hy316⟩ : ∃ y_ : List Int, y_ = (([1] : List Int)) := ⟨_, rfl⟩
          replace H : (if x7_1.length < 3518437208883 then (spec_DrawDiskDo.l0 kj42 (x7_1 ++ [(⟨x300000_42, x300001_22, y316⟩ : S93)]) t287 (wrap64 (x9_1 + 1)) t271 t304 t305 t275 t278) else (none)) = some (r1, r2, r3, r4) := by first | (rw [hy316]; with_reducible exact H) | (have H2_ := (Option.bind_some _ _).symm.trans H; rw [hy316]; with_reducible exact H2_) | (have H2_ := (Option.bind_some _ _).symm.trans H; with_reducible exact H2_) | with_reducible exact H | (rw [hy316]; exact H) | exact H
          have Ny316 := Aside0.mk hy316
          clear hy316
          by_cases c83 : x7_1.length < 3518437208883
          ·
           rw [if_pos c83] at H
           have LMc83 := Aside0.mk c83
           clear c83
           obtain ⟨y319, hy319⟩ : ∃ y_ : List (S93), y_ = (x7_1 ++ [(⟨x300000_42, x300001_22, y316⟩ : S93)]) := ⟨_, rfl⟩
           replace H : (spec_DrawDiskDo.l0 kj42 y319 t287 (wrap64 (x9_1 + 1)) t271 t304 t305 t275 t278) = some (r1, r2, r3, r4) := by first | (rw [hy319]; with_reducible exact H) | (have H2_ := (Option.bind_some _ _).symm.trans H; rw [hy319]; with_reducible exact H2_) | (have H2_ := (Option.bind_some _ _).symm.trans H; with_reducible exact H2_) | with_reducible exact H | (rw [hy319]; exact H) | exact H
           have Ny319 := Aside0.mk hy319
           clear hy319
           have H' := Aside0.mk H
           clear H
           go_wp2_with (first | ((with_reducible refine gate_dst (N := 53) rfl ?_); refine Kd.R_lit (Kd.int .u8) _ 5 ?hg (N := 53) ?hd (xs := ([1] : List Int)) (inner := [.int .u8 1]) (ok := fun _ => True) (okp := fun _ => True) ?hr ?hp (fun _ hk => hk) trivial (Below.refl _ _) (Nat.le_refl _) (by simp) ?_; (case hd => rfl); (case hg => rfl); (case hr => first | (go_simp; done) | (go_simp; rfl)); (case hp => exact (Reps.one (show Kd.M (Kd.int .u8) _ _ _ 1 [.int .u8 1] from rfl) (Reps.none _ _))); intro v317 w84 ho85 hb hg_ hnew_; clear hg_ hnew_; (first | rw [← Ny316.out] at ho85 | (simp only [Int.reduceToNat] at ho85; rw [← Ny316.out] at ho85)); replace HO_7 := Aside0.mk (Kd.N_elder' (Rgn.nq HO_7.out) (Kd.R_base ho85) hb); replace HO_284001 := Aside0.mk (Kd.N_elder' (Rgn.nq HO_284001.out) (Kd.R_base ho85) hb); have HO318 := Aside0.mk (Kd.R_lower (Kd.R_new' (Kd.R_new' (Kd.R_newM (M := fun k_ => (w.heap.size ≤ k_)) ho85 (below_size (Rgn.bs HB.out (IsS90.ge HI274.out))) (fun k_ h_ => h_)) (Kd.R_lt (Rgn.rq HO_284000.out))) (Kd.R_lt (Rgn.rq HO_300002.out))) (below_size (Rgn.bs HB.out (IsS90.ge HI274.out)))); replace HO_284000 := Aside0.mk (Kd.R_elder' (Rgn.rq HO_284000.out) (Kd.R_base ho85) hb); replace HO_300002 := Aside0.mk (Kd.R_elder' (Rgn.rq HO_300002.out) (Kd.R_base ho85) hb); replace BK270 := Aside0.mk (Rgn.bb BK270.out hb); replace BK283 := Aside0.mk (Rgn.bb BK283.out hb); replace BK299 := Aside0.mk (Rgn.bb BK299.out hb); replace HB := Aside0.mk (below_step (Rgn.bs HB.out (IsS90.ge HI274.out)) hb); replace HI274 := Aside0.mk (IsS90.below (IsS90.q HI274.out) hb); clear hb ho85; obtain ⟨Ao86, co86, eo86⟩ := Kd.R_slice HO318.out; subst eo86; have hnb87 := NB299_270.out; have hnc87 := NB270_299.out; have hnb88 := NB299_283.out; have hnc88 := NB283_299.out; have hnb89 := NB299_274.out; have hnc89 := NB274_299.out; obtain ⟨hcz90_0, hcz90_1, hcz90_2, hfz90_0, hfz90_1, hfz90_2⟩ := Rgn.c3 BK299.out) | ((with_reducible refine gate_store (t := 22) (p := 54) rfl ?_); refine store_event (t := 22) (p := 54) (v := ?vo_w91) (w1 := (w84.setCell ⟨gb299, 2, none⟩ (.slice Ao86 y316.length co86))) ?hg ?ho ?hn ?hr ?_; (case ho => rfl); (case hg => rfl); (case hn => rfl); (case hr => first | (go_simp; done) | (go_simp; rfl)); intro w91 hw; replace HO_7 : Aside0 (Kd.N k93 93 w91 w.heap.size (fun k_ => (w.heap.size ≤ k_) ∧ some k_ ≠ (.slice Ao9 t275.length co9 : Value).ownBlock ∧ some k_ ≠ (.slice Ao13 t278.length co13 : Value).ownBlock ∧ some k_ ≠ (u300002 : Value).ownBlock ∧ some k_ ≠ (.slice Ao86 y316.length co86 : Value).ownBlock ∧ k_ ≠ gb270 ∧ k_ ≠ gb283 ∧ k_ ≠ gb299 ∧ k_ ≠ g274) u7 x7_1) := ⟨(by rw [hw]; exact (Rgn.nq (Kd.N_mono (Kd.N_far (p := ⟨gb299, 2, none⟩) (Kd.N_mono HO_7.out (fun k_ hk => (⟨hk, hk.1.2.2.2.2.2.2.1⟩ : _ ∧ k_ ≠ gb299))) (fun _ hk => hk.2) (.slice Ao86 y316.length co86)) (fun _ hk => ⟨hk.1.1.1, ⟨hk.1.1.2.1, ⟨hk.1.1.2.2.1, ⟨hk.1.1.2.2.2.1, ⟨hk.1.2, ⟨hk.1.1.2.2.2.2.1, ⟨hk.1.1.2.2.2.2.2.1, ⟨hk.1.1.2.2.2.2.2.2.1, hk.1.1.2.2.2.2.2.2.2⟩⟩⟩⟩⟩⟩⟩⟩))))⟩; replace HO_284000 : Aside0 (Kd.R (Kd.int .u8) 5 w91 w.heap.size (fun k_ => (w.heap.size ≤ k_) ∧ some k_ ≠ (u300002 : Value).ownBlock ∧ some k_ ≠ (.slice Ao86 y316.length co86 : Value).ownBlock) (.slice Ao9 t275.length co9) t275) := ⟨(by rw [hw]; exact (Rgn.rq (Kd.R_mono (Kd.R_far (p := ⟨gb299, 2, none⟩) (Kd.R_types HO_284000.out BK299.out (by decide)) (fun _ hk => hk.2) (.slice Ao86 y316.length co86)) (fun _ hk => ⟨hk.1.1.1, ⟨hk.1.1.2, hk.1.2⟩⟩))))⟩; replace HO_284001 : Aside0 (Kd.N k62 62 w91 w.heap.size (fun k_ => (w.heap.size ≤ k_) ∧ some k_ ≠ (u7 : Value).ownBlock ∧ some k_ ≠ (.slice Ao9 t275.length co9 : Value).ownBlock ∧ some k_ ≠ (u300002 : Value).ownBlock ∧ some k_ ≠ (.slice Ao86 y316.length co86 : Value).ownBlock ∧ k_ ≠ gb270 ∧ k_ ≠ gb283 ∧ k_ ≠ gb299 ∧ k_ ≠ g274) (.slice Ao13 t278.length co13) t278) := ⟨(by rw [hw]; exact (Rgn.nq (Kd.N_mono (Kd.N_far (p := ⟨gb299, 2, none⟩) (Kd.N_mono HO_284001.out (fun k_ hk => (⟨hk, hk.1.2.2.2.2.2.2.1⟩ : _ ∧ k_ ≠ gb299))) (fun _ hk => hk.2) (.slice Ao86 y316.length co86)) (fun _ hk => ⟨hk.1.1.1, ⟨hk.1.1.2.1, ⟨hk.1.1.2.2.1, ⟨hk.1.1.2.2.2.1, ⟨hk.1.2, ⟨hk.1.1.2.2.2.2.1, ⟨hk.1.1.2.2.2.2.2.1, ⟨hk.1.1.2.2.2.2.2.2.1, hk.1.1.2.2.2.2.2.2.2⟩⟩⟩⟩⟩⟩⟩⟩))))⟩; replace HO_300002 : Aside0 (Kd.R (Kd.int .u8) 5 w91 w.heap.size (fun k_ => (w.heap.size ≤ k_) ∧ some k_ ≠ (.slice Ao9 t275.length co9 : Value).ownBlock ∧ some k_ ≠ (.slice Ao86 y316.length co86 : Value).ownBlock) u300002 x300002_22) := ⟨(by rw [hw]; exact (Rgn.rq (Kd.R_mono (Kd.R_far (p := ⟨gb299, 2, none⟩) (Kd.R_types HO_300002.out BK299.out (by decide)) (fun _ hk => hk.2) (.slice Ao86 y316.length co86)) (fun _ hk => ⟨hk.1.1.1, ⟨hk.1.1.2, hk.1.2⟩⟩))))⟩; replace HO318 : Aside0 (Kd.R (Kd.int .u8) 5 w91 w.heap.size (fun k_ => (w.heap.size ≤ k_) ∧ some k_ ≠ (.slice Ao9 t275.length co9 : Value).ownBlock ∧ some k_ ≠ (u300002 : Value).ownBlock) (.slice Ao86 y316.length co86) y316) := ⟨(by rw [hw]; exact (Rgn.rq (Kd.R_mono (Kd.R_far (p := ⟨gb299, 2, none⟩) (Kd.R_types HO318.out BK299.out (by decide)) (fun _ hk => hk.2) (.slice Ao86 y316.length co86)) (fun _ hk => ⟨hk.1.1.1.1, ⟨hk.1.1.2, hk.1.2⟩⟩))))⟩; replace BK270 : Aside0 (w91.heap[gb270]? = some (.cells #[.slice none 0 0, .slice none 0 0] 29 (0, 0))) := ⟨(by rw [hw]; exact (Rgn.kf BK270.out))⟩; replace BK283 : Aside0 (w91.heap[gb283]? = some (.cells #[.slice Ao9 t275.length co9, .slice Ao13 t278.length co13] 29 (0, 0))) := ⟨(by rw [hw]; exact (Rgn.kf BK283.out))⟩; replace BK299 : Aside0 (w91.heap[gb299]? = some (.cells #[.int .i64 x300000_42, .int .i64 x300001_22, .slice Ao86 y316.length co86] 93 (0, 0))) := ⟨(by rw [hw]; exact (by (with_reducible repeat (first | refine blk_drewN ?_ _ | refine blk_drew ?_ | refine blk_alloc ?_ _)); refine blk_put (cs := #[.int .i64 x300000_42, .int .i64 x300001_22, u300002]) ?_ 2 _ rfl; (with_reducible repeat (first | refine blk_drewN ?_ _ | refine blk_drew ?_ | refine blk_alloc ?_ _)); exact BK299.out))⟩; replace HB : Aside0 (Below w.heap.size w w91) := ⟨(by rw [hw]; exact (Rgn.bs HB.out (IsS90.ge HI274.out)))⟩; replace HI274 : Aside0 (IsS90 w w91 g274 t271 t304 t305) := ⟨(by rw [hw]; exact (IsS90.q HI274.out))⟩; clear hw; obtain ⟨hcz92_0, hcz92_1, hcz92_2, hfz92_0, hfz92_1, hfz92_2⟩ := Rgn.c3 BK299.out) | ((with_reducible refine gate_builtin (b := .append) (xs := #[.tmp 55, .tmp 57]) rfl ?_); at_builtin; refine Kd.N_append k93 (w0 := w) w.heap.size rfl (.tmp 55) (.tmp 57) 54 93 (.agg #[(.int .i64 0), (.int .i64 0), (.slice none 0 0)]) 40 rfl Try.underlying54 info93 rfl (by decide) (by omega) u7 x7_1 (⟨x300000_42, x300001_22, y316⟩ : S93) [.int .i64 x300000_42, .int .i64 x300001_22, .slice Ao86 y316.length co86] (fun k_ => (w.heap.size ≤ k_) ∧ some k_ ≠ (.slice Ao9 t275.length co9 : Value).ownBlock ∧ some k_ ≠ (.slice Ao13 t278.length co13 : Value).ownBlock ∧ some k_ ≠ (u300002 : Value).ownBlock ∧ k_ ≠ gb270 ∧ k_ ≠ gb283 ∧ k_ ≠ gb299 ∧ k_ ≠ g274) (fun k_ => ((fun k_ => (w.heap.size ≤ k_) ∧ some k_ ≠ (.slice Ao9 t275.length co9 : Value).ownBlock ∧ some k_ ≠ (.slice Ao13 t278.length co13 : Value).ownBlock ∧ some k_ ≠ (u300002 : Value).ownBlock ∧ k_ ≠ gb270 ∧ k_ ≠ gb283 ∧ k_ ≠ gb299 ∧ k_ ≠ g274)) k_ ∧ some k_ ≠ (u7 : Value).ownBlock) rfl rfl ?aP (fun _ hk => hk) ?aF ?aO ?aB ?aS ?aL ?_; (case aP => exact (k93_mkF _ _ (⟨x300000_42, x300001_22, y316⟩ : S93) (Kd.R_reads' (Kd.R_mono (ok' := (fun k_ => ((fun k_ => (w.heap.size ≤ k_) ∧ some k_ ≠ (.slice Ao9 t275.length co9 : Value).ownBlock ∧ some k_ ≠ (.slice Ao13 t278.length co13 : Value).ownBlock ∧ some k_ ≠ (u300002 : Value).ownBlock ∧ k_ ≠ gb270 ∧ k_ ≠ gb283 ∧ k_ ≠ gb299 ∧ k_ ≠ g274)) k_ ∧ some k_ ≠ (u7 : Value).ownBlock)) (IsS90.apart HI274.out (Kd.R_types (Kd.R_types (Kd.R_types (Kd.R_apart' (Kd.R_apart' (HO318.out) (Kd.N_typed HO_284001.out) (by decide)) (Kd.N_typed HO_7.out) (by decide)) BK270.out (by decide)) BK283.out (by decide)) BK299.out (by decide)) (by decide)) (fun k_ hk => ⟨⟨hk.1.1.1.1.1.1.1, ⟨hk.1.1.1.1.1.1.2.1, ⟨hk.1.1.1.1.1.2, ⟨hk.1.1.1.1.1.1.2.2, ⟨hk.1.1.1.2, ⟨hk.1.1.2, ⟨hk.1.2, hk.2⟩⟩⟩⟩⟩⟩⟩, hk.1.1.1.1.2⟩))).2.1 (Kd.R_F (Kd.R_mono (ok' := (fun k_ => ((fun k_ => (w.heap.size ≤ k_) ∧ some k_ ≠ (.slice Ao9 t275.length co9 : Value).ownBlock ∧ some k_ ≠ (.slice Ao13 t278.length co13 : Value).ownBlock ∧ some k_ ≠ (u300002 : Value).ownBlock ∧ k_ ≠ gb270 ∧ k_ ≠ gb283 ∧ k_ ≠ gb299 ∧ k_ ≠ g274)) k_ ∧ some k_ ≠ (u7 : Value).ownBlock)) (IsS90.apart HI274.out (Kd.R_types (Kd.R_types (Kd.R_types (Kd.R_apart' (Kd.R_apart' (HO318.out) (Kd.N_typed HO_284001.out) (by decide)) (Kd.N_typed HO_7.out) (by decide)) BK270.out (by decide)) BK283.out (by decide)) BK299.out (by decide)) (by decide)) (fun k_ hk => ⟨⟨hk.1.1.1.1.1.1.1, ⟨hk.1.1.1.1.1.1.2.1, ⟨hk.1.1.1.1.1.2, ⟨hk.1.1.1.1.1.1.2.2, ⟨hk.1.1.1.2, ⟨hk.1.1.2, ⟨hk.1.2, hk.2⟩⟩⟩⟩⟩⟩⟩, hk.1.1.1.1.2⟩))))); (case aB => exact (Rgn.bs HB.out (IsS90.ge HI274.out))); (case aF => exact (fun k_ hk => ⟨(Nat.le_trans (below_size (Rgn.bs HB.out (IsS90.ge HI274.out))) hk), Kd.fresh' (Kd.R_lt (Rgn.rq HO_284000.out)) k_ hk, Kd.fresh' (Kd.N_lt (Rgn.nq HO_284001.out)) k_ hk, Kd.fresh' (Kd.R_lt (Rgn.rq HO_300002.out)) k_ hk, Kd.freshB (g := gb270) (o := .cells #[.slice none 0 0, .slice none 0 0] 29 (0, 0)) (Rgn.kb BK270.out) k_ hk, Kd.freshB (g := gb283) (o := .cells #[.slice Ao9 t275.length co9, .slice Ao13 t278.length co13] 29 (0, 0)) (Rgn.kb BK283.out) k_ hk, Kd.freshB (g := gb299) (o := .cells #[.int .i64 x300000_42, .int .i64 x300001_22, .slice Ao86 y316.length co86] 93 (0, 0)) (Rgn.kb BK299.out) k_ hk, IsS90.fresh (IsS90.q HI274.out) k_ hk⟩)); (case aO => exact (Rgn.nq (Kd.N_mono HO_7.out (fun _ hk => ⟨hk.1, ⟨hk.2.1, ⟨hk.2.2.1, ⟨hk.2.2.2.1, ⟨hk.2.2.2.2.2.1, ⟨hk.2.2.2.2.2.2.1, ⟨hk.2.2.2.2.2.2.2.1, hk.2.2.2.2.2.2.2.2⟩⟩⟩⟩⟩⟩⟩)))); (case aS => exact (below_size (Rgn.bs HB.out (IsS90.ge HI274.out)))); (case aL => have := LMc83.out; omega); intro v320 w93 ho hb hg hat; rw [← Ny319.out] at ho; replace HO_284000 := Aside0.mk (Kd.R_over' (Rgn.rq HO_284000.out) (Kd.N_typed (Rgn.nq HO_7.out)) (by decide) hg); replace HO_284001 := Aside0.mk (Kd.N_afterv (ok := (fun k_ => (w.heap.size ≤ k_) ∧ some k_ ≠ (.slice Ao9 t275.length co9 : Value).ownBlock ∧ some k_ ≠ (u300002 : Value).ownBlock ∧ some k_ ≠ (.slice Ao86 y316.length co86 : Value).ownBlock ∧ k_ ≠ gb270 ∧ k_ ≠ gb283 ∧ k_ ≠ gb299 ∧ k_ ≠ g274)) (Rgn.nq (Kd.N_mono HO_284001.out (fun _ hk => ⟨⟨hk.1, ⟨hk.2.2.1, ⟨hk.2.2.2.1, ⟨hk.2.2.2.2.1, ⟨hk.2.2.2.2.2.1, ⟨hk.2.2.2.2.2.2.1, ⟨hk.2.2.2.2.2.2.2.1, hk.2.2.2.2.2.2.2.2⟩⟩⟩⟩⟩⟩⟩, hk.2.1⟩))) hg hat); replace HO_300002 := Aside0.mk (Kd.R_over' (Rgn.rq HO_300002.out) (Kd.N_typed (Rgn.nq HO_7.out)) (by decide) hg); replace BK270 := Aside0.mk (Rgn.bg BK270.out hg (Kd.N_ne HO_7.out BK270.out (by decide))); replace BK283 := Aside0.mk (Rgn.bg BK283.out hg (Kd.N_ne HO_7.out BK283.out (by decide))); replace BK299 := Aside0.mk (Rgn.bg BK299.out hg (Kd.N_away HO_7.out (fun _ hk => hk.2.2.2.2.2.2.2.1))); replace HI274 := Aside0.mk (IsS90.grown (IsS90.q HI274.out) hg (IsS90.own_neN HI274.out HO_7.out (by decide))); replace HB := Aside0.mk (hb); have HO321 := Aside0.mk (ho); clear HO318 HO_7; clear ho hb hg hat))
           go_roundg kj42
           case measure => have := HK1.out; have := HJ22.out; have := HJ42.out; omega
           case rel => exact ⟨(y319), (wrap64 (x9_1 + 1)), (t304), (t305), (by first | rfl | (simp; done) | (simp [*]; done)), H', ⟨by have := HK1.out; have := HJ22.out; have := HJ42.out; omega⟩, ⟨by (with_reducible repeat (first | apply Kd.N_alloc | apply Kd.N_drewN | apply Kd.N_drew)); exact Kd.N_mono HO321.out (fun _ hk => ⟨hk.1, ⟨hk.2.1, ⟨hk.2.2.1, ⟨hk.2.2.2.2.1, ⟨hk.2.2.2.2.2.1, hk.2.2.2.2.2.2.2⟩⟩⟩⟩⟩)⟩, ⟨by (with_reducible repeat (first | apply Kd.R_alloc | apply Kd.R_drewN | apply Kd.R_drew)); exact Kd.R_mono HO_284000.out (fun _ hk => hk.1)⟩, ⟨by (with_reducible repeat (first | apply Kd.N_alloc | apply Kd.N_drewN | apply Kd.N_drew)); exact Kd.N_mono HO_284001.out (fun _ hk => ⟨hk.1.1, ⟨hk.2, ⟨hk.1.2.1, ⟨hk.1.2.2.2.2.1, ⟨hk.1.2.2.2.2.2.1, hk.1.2.2.2.2.2.2.2⟩⟩⟩⟩⟩)⟩, ⟨Rgn.kb BK270.out⟩, ⟨Rgn.kb BK283.out⟩, ⟨IsS90.q HI274.out⟩, ⟨Rgn.bs HB.out (IsS90.ge HI274.out)⟩⟩
          ·
           rw [if_neg c83] at H
           exact absurd H (by simp)
         ·
          rw [if_neg c82] at H
          have c82b0 : (t303 == 2) = false := beq_eq_false_iff_ne.mpr c82
          have c82b1 : (t303 != 2) = true := bne_iff_ne.mpr c82
          by_cases c94 : x7_1.length < 3518437208883
          ·
           rw [if_pos c94] at H
           have LMc94 := Aside0.mk c94
           clear c94
           obtain ⟨y322, hy322⟩ : ∃ y_ : List (S93), y_ = (x7_1 ++ [(⟨x300000_42, x300001_22, x300002_22⟩ : S93)]) := ⟨_, rfl⟩
           replace H : (spec_DrawDiskDo.l0 kj42 y322 t287 (wrap64 (x9_1 + 1)) t271 t304 t305 t275 t278) = some (r1, r2, r3, r4) := by first | (rw [hy322]; with_reducible exact H) | (have H2_ := (Option.bind_some _ _).symm.trans H; rw [hy322]; with_reducible exact H2_) | (have H2_ := (Option.bind_some _ _).symm.trans H; with_reducible exact H2_) | with_reducible exact H | (rw [hy322]; exact H) | exact H
           have Ny322 := Aside0.mk hy322
           clear hy322
           have H' := Aside0.mk H
           clear H
           have hnb95 := NB299_270.out
           have hnc95 := NB270_299.out
           have hnb96 := NB299_283.out
           have hnc96 := NB283_299.out
           have hnb97 := NB299_274.out
           have hnc97 := NB274_299.out
           have hcz98_0 := Rgn.cz0 BK299.out
           have hcz98_1 := Rgn.cz1 BK299.out
           have hcz98_2 := Rgn.cz2 BK299.out
           have hfz98_0 := blk_frozen BK299.out 0
           have hfz98_1 := blk_frozen BK299.out 1
           have hfz98_2 := blk_frozen BK299.out 2
           obtain ⟨Ao100, co100, eo100⟩ := Kd.R_slice HO_300002.out
           subst eo100
           go_wp2_with (first | ((with_reducible refine gate_builtin (b := .append) (xs := #[.tmp 55, .tmp 57]) rfl ?_); at_builtin; refine Kd.N_append k93 (w0 := w) w.heap.size rfl (.tmp 55) (.tmp 57) 54 93 (.agg #[(.int .i64 0), (.int .i64 0), (.slice none 0 0)]) 40 rfl Try.underlying54 info93 rfl (by decide) (by omega) u7 x7_1 (⟨x300000_42, x300001_22, x300002_22⟩ : S93) [.int .i64 x300000_42, .int .i64 x300001_22, .slice Ao100 x300002_22.length co100] (fun k_ => (w.heap.size ≤ k_) ∧ some k_ ≠ (.slice Ao9 t275.length co9 : Value).ownBlock ∧ some k_ ≠ (.slice Ao13 t278.length co13 : Value).ownBlock ∧ k_ ≠ gb270 ∧ k_ ≠ gb283 ∧ k_ ≠ gb299 ∧ k_ ≠ g274) (fun k_ => ((fun k_ => (w.heap.size ≤ k_) ∧ some k_ ≠ (.slice Ao9 t275.length co9 : Value).ownBlock ∧ some k_ ≠ (.slice Ao13 t278.length co13 : Value).ownBlock ∧ k_ ≠ gb270 ∧ k_ ≠ gb283 ∧ k_ ≠ gb299 ∧ k_ ≠ g274)) k_ ∧ some k_ ≠ (u7 : Value).ownBlock) rfl rfl ?aP (fun _ hk => hk) ?aF ?aO ?aB ?aS ?aL ?_; (case aP => exact (k93_mkF _ _ (⟨x300000_42, x300001_22, x300002_22⟩ : S93) (Kd.R_reads' (Kd.R_mono (ok' := (fun k_ => ((fun k_ => (w.heap.size ≤ k_) ∧ some k_ ≠ (.slice Ao9 t275.length co9 : Value).ownBlock ∧ some k_ ≠ (.slice Ao13 t278.length co13 : Value).ownBlock ∧ k_ ≠ gb270 ∧ k_ ≠ gb283 ∧ k_ ≠ gb299 ∧ k_ ≠ g274)) k_ ∧ some k_ ≠ (u7 : Value).ownBlock)) (IsS90.apart HI274.out (Kd.R_types (Kd.R_types (Kd.R_types (Kd.R_apart' (Kd.R_apart' (HO_300002.out) (Kd.N_typed HO_284001.out) (by decide)) (Kd.N_typed HO_7.out) (by decide)) BK270.out (by decide)) BK283.out (by decide)) BK299.out (by decide)) (by decide)) (fun k_ hk => ⟨⟨hk.1.1.1.1.1.1.1, ⟨hk.1.1.1.1.1.1.2, ⟨hk.1.1.1.1.1.2, ⟨hk.1.1.1.2, ⟨hk.1.1.2, ⟨hk.1.2, hk.2⟩⟩⟩⟩⟩⟩, hk.1.1.1.1.2⟩))).2.1 (Kd.R_F (Kd.R_mono (ok' := (fun k_ => ((fun k_ => (w.heap.size ≤ k_) ∧ some k_ ≠ (.slice Ao9 t275.length co9 : Value).ownBlock ∧ some k_ ≠ (.slice Ao13 t278.length co13 : Value).ownBlock ∧ k_ ≠ gb270 ∧ k_ ≠ gb283 ∧ k_ ≠ gb299 ∧ k_ ≠ g274)) k_ ∧ some k_ ≠ (u7 : Value).ownBlock)) (IsS90.apart HI274.out (Kd.R_types (Kd.R_types (Kd.R_types (Kd.R_apart' (Kd.R_apart' (HO_300002.out) (Kd.N_typed HO_284001.out) (by decide)) (Kd.N_typed HO_7.out) (by decide)) BK270.out (by decide)) BK283.out (by decide)) BK299.out (by decide)) (by decide)) (fun k_ hk => ⟨⟨hk.1.1.1.1.1.1.1, ⟨hk.1.1.1.1.1.1.2, ⟨hk.1.1.1.1.1.2, ⟨hk.1.1.1.2, ⟨hk.1.1.2, ⟨hk.1.2, hk.2⟩⟩⟩⟩⟩⟩, hk.1.1.1.1.2⟩))))); (case aB => exact (Rgn.bs HB.out (IsS90.ge HI274.out))); (case aF => exact (fun k_ hk => ⟨(Nat.le_trans (below_size (Rgn.bs HB.out (IsS90.ge HI274.out))) hk), Kd.fresh' (Kd.R_lt (Rgn.rq HO_284000.out)) k_ hk, Kd.fresh' (Kd.N_lt (Rgn.nq HO_284001.out)) k_ hk, Kd.freshB (g := gb270) (o := .cells #[.slice none 0 0, .slice none 0 0] 29 (0, 0)) (Rgn.kb BK270.out) k_ hk, Kd.freshB (g := gb283) (o := .cells #[.slice Ao9 t275.length co9, .slice Ao13 t278.length co13] 29 (0, 0)) (Rgn.kb BK283.out) k_ hk, Kd.freshB (g := gb299) (o := .cells #[.int .i64 x300000_42, .int .i64 x300001_22, .slice Ao100 x300002_22.length co100] 93 (0, 0)) (Rgn.kb BK299.out) k_ hk, IsS90.fresh (IsS90.q HI274.out) k_ hk⟩)); (case aO => exact (Rgn.nq (Kd.N_mono HO_7.out (fun _ hk => ⟨hk.1, ⟨hk.2.1, ⟨hk.2.2.1, ⟨hk.2.2.2.2.1, ⟨hk.2.2.2.2.2.1, ⟨hk.2.2.2.2.2.2.1, hk.2.2.2.2.2.2.2⟩⟩⟩⟩⟩⟩)))); (case aS => exact (below_size (Rgn.bs HB.out (IsS90.ge HI274.out)))); (case aL => have := LMc94.out; omega); intro v323 w99 ho hb hg hat; rw [← Ny322.out] at ho; replace HO_284000 := Aside0.mk (Kd.R_over' (Rgn.rq HO_284000.out) (Kd.N_typed (Rgn.nq HO_7.out)) (by decide) hg); replace HO_284001 := Aside0.mk (Kd.N_afterv (ok := (fun k_ => (w.heap.size ≤ k_) ∧ some k_ ≠ (.slice Ao9 t275.length co9 : Value).ownBlock ∧ some k_ ≠ (.slice Ao100 x300002_22.length co100 : Value).ownBlock ∧ k_ ≠ gb270 ∧ k_ ≠ gb283 ∧ k_ ≠ gb299 ∧ k_ ≠ g274)) (Rgn.nq (Kd.N_mono HO_284001.out (fun _ hk => ⟨⟨hk.1, ⟨hk.2.2.1, ⟨hk.2.2.2.1, ⟨hk.2.2.2.2.1, ⟨hk.2.2.2.2.2.1, ⟨hk.2.2.2.2.2.2.1, hk.2.2.2.2.2.2.2⟩⟩⟩⟩⟩⟩, hk.2.1⟩))) hg hat); replace BK270 := Aside0.mk (Rgn.bg BK270.out hg (Kd.N_ne HO_7.out BK270.out (by decide))); replace BK283 := Aside0.mk (Rgn.bg BK283.out hg (Kd.N_ne HO_7.out BK283.out (by decide))); replace BK299 := Aside0.mk (Rgn.bg BK299.out hg (Kd.N_away HO_7.out (fun _ hk => hk.2.2.2.2.2.2.1))); replace HI274 := Aside0.mk (IsS90.grown (IsS90.q HI274.out) hg (IsS90.own_neN HI274.out HO_7.out (by decide))); replace HB := Aside0.mk (hb); have HO324 := Aside0.mk (ho); clear HO_300002 HO_7; clear ho hb hg hat))
           go_roundg kj42
           case measure => have := HK1.out; have := HJ22.out; have := HJ42.out; omega
           case rel => exact ⟨(y322), (wrap64 (x9_1 + 1)), (t304), (t305), (by first | rfl | (simp; done) | (simp [*]; done)), H', ⟨by have := HK1.out; have := HJ22.out; have := HJ42.out; omega⟩, ⟨by (with_reducible repeat (first | apply Kd.N_alloc | apply Kd.N_drewN | apply Kd.N_drew)); exact Kd.N_mono HO324.out (fun _ hk => ⟨hk.1, ⟨hk.2.1, ⟨hk.2.2.1, ⟨hk.2.2.2.1, ⟨hk.2.2.2.2.1, hk.2.2.2.2.2.2⟩⟩⟩⟩⟩)⟩, ⟨by (with_reducible repeat (first | apply Kd.R_alloc | apply Kd.R_drewN | apply Kd.R_drew)); exact Kd.R_mono HO_284000.out (fun _ hk => hk.1)⟩, ⟨by (with_reducible repeat (first | apply Kd.N_alloc | apply Kd.N_drewN | apply Kd.N_drew)); exact Kd.N_mono HO_284001.out (fun _ hk => ⟨hk.1.1, ⟨hk.2, ⟨hk.1.2.1, ⟨hk.1.2.2.2.1, ⟨hk.1.2.2.2.2.1, hk.1.2.2.2.2.2.2⟩⟩⟩⟩⟩)⟩, ⟨Rgn.kb BK270.out⟩, ⟨Rgn.kb BK283.out⟩, ⟨IsS90.q HI274.out⟩, ⟨Rgn.bs HB.out (IsS90.ge HI274.out)⟩⟩
          ·
           rw [if_neg c94] at H
           exact absurd H (by simp)
   ·
    rw [if_neg c18] at H
    have c18b0 : decide (x9_1 < t287) = false := decide_eq_false c18
    clear c18
    replace H := Option.bind_eq_some_iff.mp H
    obtain ⟨⟨t325, t326, t327⟩, A1010, H⟩ := H
    replace H : (if t325 = true then ((spec_l1Next.f t271 t326 t327 2).bind fun bt328 => (spec_DrawDiskDo.l1 k1 x7_1 t287 (wrap64 ((wrap64 (4000 + bt328.1)) - (x7_1.length : Int))) t271 bt328.2.1 bt328.2.2 t275 t278)) else (spec_DrawDiskDo.j4 k1 x7_1 t287 t271 t326 t327 t275 t278)) = some (r1, r2, r3, r4) := H
    have A101 := Aside0.mk A1010
    clear A1010
    have HC102 := Aside0.mk H
    clear H
    go_upto_if 60 with (first | ((with_reducible refine gate_callee (f := 84) rfl ?_); refine Rgn.gl (some 60) Try.func84 #[.pointer (some ⟨g274, 0, none⟩), .int .i64 40] ?_; (with_reducible refine (spec_l1Chance.calls g274 t271 x275001_1 x275002_1 40 t325 t326 t327 w _ ?side1 ?side2 A101.out).mono ?_); (case side1 => repeat (first | (with_reducible first | exact HI274.out | apply IsS90.alloc | apply IsS90.drewN | apply IsS90.drew | apply IsS90.set_1 | apply IsS90.set_2 | refine IsS90.far ?_ NB274_270.out _ | refine IsS90.far ?_ NB274_283.out _) | exact HI274.out)); (case side2 => repeat (first | (with_reducible first | exact HB.out | apply below_alloc | apply pw_below_drewN | apply below_drew1 | refine below_set ?_ (IsS90.ge HI274.out) | refine below_set ?_ GE270.out | refine below_set ?_ GE283.out) | exact HB.out)); rintro e w103 ⟨rfl, hi, hb, hk⟩; refine ⟨_, rfl, ?_⟩; replace HO_7 := Aside0.mk (Kd.N_mono (Kd.N_keep (Kd.N_mono (ok := fun k_ => (((w.heap.size ≤ k_)) ∧ (some k_ ≠ (.slice Ao9 t275.length co9 : Value).ownBlock ∧ (some k_ ≠ (.slice Ao13 t278.length co13 : Value).ownBlock ∧ (k_ ≠ gb270 ∧ (k_ ≠ gb283 ∧ k_ ≠ g274)))))) (Rgn.nq HO_7.out) (fun k_ hk_ => (⟨hk_, hk_.2.2.2.2.2⟩ : _ ∧ k_ ≠ g274))) hk (fun _ h => h.2)) (fun _ h => h.1)); replace HO_284000 := Aside0.mk (Kd.R_mono (Kd.R_keep (IsS90.apart (show IsS90 w _ g274 t271 x275001_1 x275002_1 from IsS90.q HI274.out) (Rgn.rq HO_284000.out) (by decide)) hk (fun _ h => h.2)) (fun _ h => h.1)); replace HO_284001 := Aside0.mk (Kd.N_mono (Kd.N_keep (Kd.N_mono (ok := fun k_ => (((w.heap.size ≤ k_)) ∧ (some k_ ≠ (u7 : Value).ownBlock ∧ (some k_ ≠ (.slice Ao9 t275.length co9 : Value).ownBlock ∧ (k_ ≠ gb270 ∧ (k_ ≠ gb283 ∧ k_ ≠ g274)))))) (Rgn.nq HO_284001.out) (fun k_ hk_ => (⟨hk_, hk_.2.2.2.2.2⟩ : _ ∧ k_ ≠ g274))) hk (fun _ h => h.2)) (fun _ h => h.1)); replace BK270 := Aside0.mk (Rgn.kb2 hk BK270.out NB270_274.out); replace BK283 := Aside0.mk (Rgn.kb2 hk BK283.out NB283_274.out); replace HB := Aside0.mk (hb); replace HI274 := Aside0.mk (hi); (try clear hb); (try clear hk); (try clear hi)))
    (try simp only [Act.put, List.setIfInBounds_toArray, List.set_cons_zero, List.set_cons_succ])
    go_cut [7] (fun v7 wc => ∃ (kq : Nat) (x7_101 : List (S93)) (x275001_101 : Int) (x275002_101 : Int), Aside0 (spec_DrawDiskDo.j4 kq x7_101 t287 t271 x275001_101 x275002_101 t275 t278 = some (r1, r2, r3, r4)) ∧ Aside0 (kq ≤ k1) ∧ Aside0 (Kd.N k93 93 wc w.heap.size (fun k_ => (w.heap.size ≤ k_) ∧ some k_ ≠ ((.slice Ao9 t275.length co9) : Value).ownBlock ∧ some k_ ≠ ((.slice Ao13 t278.length co13) : Value).ownBlock ∧ k_ ≠ gb270 ∧ k_ ≠ gb283 ∧ k_ ≠ g274) v7 x7_101) ∧ Aside0 (Kd.R (Kd.int .u8) 5 wc w.heap.size (fun k_ => (w.heap.size ≤ k_)) (.slice Ao9 t275.length co9) t275) ∧ Aside0 (Kd.N k62 62 wc w.heap.size (fun k_ => (w.heap.size ≤ k_) ∧ some k_ ≠ (v7 : Value).ownBlock ∧ some k_ ≠ ((.slice Ao9 t275.length co9) : Value).ownBlock ∧ k_ ≠ gb270 ∧ k_ ≠ gb283 ∧ k_ ≠ g274) (.slice Ao13 t278.length co13) t278) ∧ Aside0 (wc.heap[gb270]? = some (.cells #[(.slice none 0 0), (.slice none 0 0)] 29 (0, 0))) ∧ Aside0 (wc.heap[gb283]? = some (.cells #[(.slice Ao9 t275.length co9), (.slice Ao13 t278.length co13)] 29 (0, 0))) ∧ Aside0 (IsS90 w wc g274 t271 x275001_101 x275002_101) ∧ Aside0 (Below w.heap.size w wc))
    case first =>
     have H := HC102.out
     clear HC102
     by_cases c104 : t325 = true
     ·
      subst c104
      have H1 : ((spec_l1Next.f t271 t326 t327 2).bind fun bt328 => (spec_DrawDiskDo.l1 k1 x7_1 t287 (wrap64 ((wrap64 (4000 + bt328.1)) - (x7_1.length : Int))) t271 bt328.2.1 bt328.2.2 t275 t278)) = some (r1, r2, r3, r4) := by rw [if_pos rfl] at H; exact H
      clear H
      have H := H1
      clear H1
      replace H := Option.bind_eq_some_iff.mp H
      obtain ⟨⟨t328, t329, t330⟩, A1050, H⟩ := H
      replace H : (spec_DrawDiskDo.l1 k1 x7_1 t287 (wrap64 ((wrap64 (4000 + t328)) - (x7_1.length : Int))) t271 t329 t330 t275 t278) = some (r1, r2, r3, r4) := H
      have A105 := Aside0.mk A1050
      clear A1050
      have H' := Aside0.mk H
      clear H
      go_wp2_with (first | ((with_reducible refine gate_callee (f := 82) rfl ?_); refine Rgn.gl (some 62) Try.func82 #[.pointer (some ⟨g274, 0, none⟩), .int .i64 2] ?_; (with_reducible refine (spec_l1Next.calls g274 t271 t326 t327 2 t328 t329 t330 w _ ?side1 ?side2 A105.out).mono ?_); (case side1 => repeat (first | (with_reducible first | exact HI274.out | apply IsS90.alloc | apply IsS90.drewN | apply IsS90.drew | apply IsS90.set_1 | apply IsS90.set_2 | refine IsS90.far ?_ NB274_270.out _ | refine IsS90.far ?_ NB274_283.out _) | exact HI274.out)); (case side2 => repeat (first | (with_reducible first | exact HB.out | apply below_alloc | apply pw_below_drewN | apply below_drew1 | refine below_set ?_ (IsS90.ge HI274.out) | refine below_set ?_ GE270.out | refine below_set ?_ GE283.out) | exact HB.out)); rintro e w106 ⟨rfl, hi, hb, hk⟩; refine ⟨_, rfl, ?_⟩; replace HO_7 := Aside0.mk (Kd.N_mono (Kd.N_keep (Kd.N_mono (ok := fun k_ => (((w.heap.size ≤ k_)) ∧ (some k_ ≠ (.slice Ao9 t275.length co9 : Value).ownBlock ∧ (some k_ ≠ (.slice Ao13 t278.length co13 : Value).ownBlock ∧ (k_ ≠ gb270 ∧ (k_ ≠ gb283 ∧ k_ ≠ g274)))))) (Rgn.nq HO_7.out) (fun k_ hk_ => (⟨hk_, hk_.2.2.2.2.2⟩ : _ ∧ k_ ≠ g274))) hk (fun _ h => h.2)) (fun _ h => h.1)); replace HO_284000 := Aside0.mk (Kd.R_mono (Kd.R_keep (IsS90.apart (show IsS90 w _ g274 t271 t326 t327 from IsS90.q HI274.out) (Rgn.rq HO_284000.out) (by decide)) hk (fun _ h => h.2)) (fun _ h => h.1)); replace HO_284001 := Aside0.mk (Kd.N_mono (Kd.N_keep (Kd.N_mono (ok := fun k_ => (((w.heap.size ≤ k_)) ∧ (some k_ ≠ (u7 : Value).ownBlock ∧ (some k_ ≠ (.slice Ao9 t275.length co9 : Value).ownBlock ∧ (k_ ≠ gb270 ∧ (k_ ≠ gb283 ∧ k_ ≠ g274)))))) (Rgn.nq HO_284001.out) (fun k_ hk_ => (⟨hk_, hk_.2.2.2.2.2⟩ : _ ∧ k_ ≠ g274))) hk (fun _ h => h.2)) (fun _ h => h.1)); replace BK270 := Aside0.mk (Rgn.kb2 hk BK270.out NB270_274.out); replace BK283 := Aside0.mk (Rgn.kb2 hk BK283.out NB283_274.out); replace HB := Aside0.mk (hb); replace HI274 := Aside0.mk (hi); (try clear hb); (try clear hk); (try clear hi); obtain ⟨Ao107, co107, eo107⟩ := Kd.N_slice HO_7.out; subst eo107))
      go_loopg [7, 12] k1 (fun kq v7 v12 w' => ∃ (x7_2 : List (S93)) (x12_2 : Int), v12 = .int .i64 x12_2 ∧ Aside0 (spec_DrawDiskDo.l1 kq x7_2 t287 x12_2 t271 t329 t330 t275 t278 = some (r1, r2, r3, r4)) ∧ Aside0 (kq ≤ k1) ∧ Aside0 (Kd.N k93 93 w' w.heap.size (fun k_ => (w.heap.size ≤ k_) ∧ some k_ ≠ ((.slice Ao9 t275.length co9) : Value).ownBlock ∧ some k_ ≠ ((.slice Ao13 t278.length co13) : Value).ownBlock ∧ k_ ≠ gb270 ∧ k_ ≠ gb283 ∧ k_ ≠ g274) v7 x7_2) ∧ Aside0 (Kd.R (Kd.int .u8) 5 w' w.heap.size (fun k_ => (w.heap.size ≤ k_)) (.slice Ao9 t275.length co9) t275) ∧ Aside0 (Kd.N k62 62 w' w.heap.size (fun k_ => (w.heap.size ≤ k_) ∧ some k_ ≠ (v7 : Value).ownBlock ∧ some k_ ≠ ((.slice Ao9 t275.length co9) : Value).ownBlock ∧ k_ ≠ gb270 ∧ k_ ≠ gb283 ∧ k_ ≠ g274) (.slice Ao13 t278.length co13) t278) ∧ Aside0 (w'.heap[gb270]? = some (.cells #[(.slice none 0 0), (.slice none 0 0)] 29 (0, 0))) ∧ Aside0 (w'.heap[gb283]? = some (.cells #[(.slice Ao9 t275.length co9), (.slice Ao13 t278.length co13)] 29 (0, 0))) ∧ Aside0 (IsS90 w w' g274 t271 t329 t330) ∧ Aside0 (Below w.heap.size w w'))
      case atStart => exact ⟨(x7_1), (wrap64 ((wrap64 (4000 + t328)) - (x7_1.length : Int))), (by first | rfl | (simp; done) | (simp [*]; done)), H', ⟨Nat.le_refl _⟩, ⟨by (with_reducible repeat (first | apply Kd.N_alloc | apply Kd.N_drewN | apply Kd.N_drew)); exact HO_7.out⟩, ⟨Rgn.rq HO_284000.out⟩, ⟨by (with_reducible repeat (first | apply Kd.N_alloc | apply Kd.N_drewN | apply Kd.N_drew)); exact HO_284001.out⟩, ⟨Rgn.kb BK270.out⟩, ⟨Rgn.kb BK283.out⟩, ⟨IsS90.q HI274.out⟩, ⟨Rgn.bs HB.out (IsS90.ge HI274.out)⟩⟩
      case round =>
       clear H'
       try clear c1
       try clear c2
       try clear p2
       try clear c3
       try clear c4
       try clear c5
       try clear c6
       try clear p6
       try clear c7
       try clear c8
       try clear c9
       try clear c10
       try clear c11
       try clear c18
       try clear c18b0
       try clear c24
       try clear c25
       try clear c32
       try clear c33
       try clear c34
       try clear c37
       try clear c38
       try clear c39
       try clear c40
       try clear c43
       try clear c45
       try clear c45b0
       try clear c45b1
       try clear c46
       try clear c47
       try clear c48
       try clear c50
       try clear c50b0
       try clear c50b1
       try clear c52
       try clear c52b0
       try clear c52b1
       try clear c53
       try clear c54
       try clear c55
       try clear c56
       try clear c59
       try clear c60
       try clear p64
       try clear c69
       try clear c70
       try clear c71
       try clear c72
       try clear c75
       try clear c76
       try clear c80
       try clear c81
       try clear c82
       try clear c82b0
       try clear c82b1
       try clear c83
       try clear c84
       try clear c87
       try clear c88
       try clear c89
       try clear c94
       try clear c95
       try clear c96
       try clear c97
       try clear c104
       try clear hcz12_0 hcz12_1
       try clear hcz16_0 hcz16_1 hcz16_2
       try clear hcz26_0 hcz26_1
       try clear hcz35_0 hcz35_1 hcz35_2
       try clear hcz41_0 hcz41_1 hcz41_2
       try clear hcz49_0 hcz49_1 hcz49_2
       try clear hcz57_0 hcz57_1
       try clear hcz61_0 hcz61_1 hcz61_2
       try clear hcz65_0 hcz65_1 hcz65_2
       try clear hcz67_0 hcz67_1 hcz67_2
       try clear hcz73_0 hcz73_1
       try clear hcz77_0 hcz77_1 hcz77_2
       try clear hcz79_0 hcz79_1 hcz79_2
       try clear hcz90_0 hcz90_1 hcz90_2
       try clear hcz92_0 hcz92_1 hcz92_2
       try clear hcz98_0 hcz98_1 hcz98_2
       try clear hfz12_0 hfz12_1
       try clear hfz16_1 hfz16_2
       try clear hfz26_0 hfz26_1
       try clear hfz35_0 hfz35_1 hfz35_2
       try clear hfz41_0 hfz41_1 hfz41_2
       try clear hfz49_0 hfz49_1 hfz49_2
       try clear hfz57_0 hfz57_1
       try clear hfz61_0 hfz61_1 hfz61_2
       try clear hfz65_0 hfz65_1 hfz65_2
       try clear hfz67_0 hfz67_1 hfz67_2
       try clear hfz73_0 hfz73_1
       try clear hfz77_0 hfz77_1 hfz77_2
       try clear hfz79_0 hfz79_1 hfz79_2
       try clear hfz90_0 hfz90_1 hfz90_2
       try clear hfz92_0 hfz92_1 hfz92_2
       try clear hfz98_0 hfz98_1 hfz98_2
       try clear p2
       try clear p6
       obtain ⟨x7_2, x12_2, rfl, HA, HK2, HO_7, HO_284000, HO_284001, BK270, BK283, HI274, HB⟩ := hrel
       cases gk with
       | zero => exact absurd HA.out (by simp [spec_DrawDiskDo.l1])
       | succ k2 =>
        have H := HA.out
        clear HA
        simp only [spec_DrawDiskDo.l1] at H
        by_cases c108 : x12_2 > 0
        ·
         rw [if_pos c108] at H
         have c108b0 : decide (0 < x12_2) = true := decide_eq_true c108
         clear c108
         (first | rw [c108b0] | (simp only [i64_w, i32_w]; rw [c108b0]) | skip)
         by_cases c109 : x7_2.length < 3518437208883
         ·
          rw [if_pos c109] at H
          have LMc109 := Aside0.mk c109
          clear c109
          obtain ⟨y331, hy331⟩ : ∃ y_ : List (S93), y_ = (x7_2 ++ [(⟨2, 0, ([] : List Int)⟩ : S93)]) := ⟨_, rfl⟩
          replace H : (spec_DrawDiskDo.l1 k2 y331 t287 (wrap64 (x12_2 - 1)) t271 t329 t330 t275 t278) = some (r1, r2, r3, r4) := by first | (rw [hy331]; with_reducible exact H) | (have H2_ := (Option.bind_some _ _).symm.trans H; rw [hy331]; with_reducible exact H2_) | (have H2_ := (Option.bind_some _ _).symm.trans H; with_reducible exact H2_) | with_reducible exact H | (rw [hy331]; exact H) | exact H
          have Ny331 := Aside0.mk hy331
          clear hy331
          have H' := Aside0.mk H
          clear H
          go_wp2_with (first | ((with_reducible refine gate_builtin (b := .append) (xs := #[.tmp 71, .tmp 73]) rfl ?_); at_builtin; refine Kd.N_append k93 (w0 := w) w.heap.size rfl (.tmp 71) (.tmp 73) 54 93 (.agg #[(.int .i64 0), (.int .i64 0), (.slice none 0 0)]) 40 rfl Try.underlying54 info93 rfl (by decide) (by omega) u7 x7_2 (⟨2, 0, ([] : List Int)⟩ : S93) [.int .i64 2, .int .i64 0, .slice none 0 0] (fun k_ => (w.heap.size ≤ k_) ∧ some k_ ≠ (.slice Ao9 t275.length co9 : Value).ownBlock ∧ some k_ ≠ (.slice Ao13 t278.length co13 : Value).ownBlock ∧ k_ ≠ gb270 ∧ k_ ≠ gb283 ∧ k_ ≠ g274) (fun k_ => ((fun k_ => (w.heap.size ≤ k_) ∧ some k_ ≠ (.slice Ao9 t275.length co9 : Value).ownBlock ∧ some k_ ≠ (.slice Ao13 t278.length co13 : Value).ownBlock ∧ k_ ≠ gb270 ∧ k_ ≠ gb283 ∧ k_ ≠ g274)) k_ ∧ some k_ ≠ (u7 : Value).ownBlock) rfl rfl ?aP (fun _ hk => hk) ?aF ?aO ?aB ?aS ?aL ?_; (case aP => exact (k93_mkF _ _ (⟨2, 0, ([] : List Int)⟩ : S93) (Nat.le_refl _) (Kd.F_nil _ _ _))); (case aB => exact (Rgn.bs HB.out (IsS90.ge HI274.out))); (case aF => exact (fun k_ hk => ⟨(Nat.le_trans (below_size (Rgn.bs HB.out (IsS90.ge HI274.out))) hk), Kd.fresh' (Kd.R_lt (Rgn.rq HO_284000.out)) k_ hk, Kd.fresh' (Kd.N_lt (Rgn.nq HO_284001.out)) k_ hk, Kd.freshB (g := gb270) (o := .cells #[.slice none 0 0, .slice none 0 0] 29 (0, 0)) (Rgn.kb BK270.out) k_ hk, Kd.freshB (g := gb283) (o := .cells #[.slice Ao9 t275.length co9, .slice Ao13 t278.length co13] 29 (0, 0)) (Rgn.kb BK283.out) k_ hk, IsS90.fresh (IsS90.q HI274.out) k_ hk⟩)); (case aO => exact (Rgn.nq HO_7.out)); (case aS => exact (below_size (Rgn.bs HB.out (IsS90.ge HI274.out)))); (case aL => have := LMc109.out; omega); intro v332 w110 ho hb hg hat; rw [← Ny331.out] at ho; replace HO_284000 := Aside0.mk (Kd.R_over' (Rgn.rq HO_284000.out) (Kd.N_typed (Rgn.nq HO_7.out)) (by decide) hg); replace HO_284001 := Aside0.mk (Kd.N_afterv (ok := (fun k_ => (w.heap.size ≤ k_) ∧ some k_ ≠ (.slice Ao9 t275.length co9 : Value).ownBlock ∧ k_ ≠ gb270 ∧ k_ ≠ gb283 ∧ k_ ≠ g274)) (Rgn.nq (Kd.N_mono HO_284001.out (fun _ hk => ⟨⟨hk.1, ⟨hk.2.2.1, ⟨hk.2.2.2.1, ⟨hk.2.2.2.2.1, hk.2.2.2.2.2⟩⟩⟩⟩, hk.2.1⟩))) hg hat); replace BK270 := Aside0.mk (Rgn.bg BK270.out hg (Kd.N_ne HO_7.out BK270.out (by decide))); replace BK283 := Aside0.mk (Rgn.bg BK283.out hg (Kd.N_ne HO_7.out BK283.out (by decide))); replace HI274 := Aside0.mk (IsS90.grown (IsS90.q HI274.out) hg (IsS90.own_neN HI274.out HO_7.out (by decide))); replace HB := Aside0.mk (hb); have HO333 := Aside0.mk (ho); clear HO_7; clear ho hb hg hat))
          go_roundg k2
          case measure => have := HK1.out; have := HK2.out; omega
          case rel => exact ⟨(y331), (wrap64 (x12_2 - 1)), (by first | rfl | (simp; done) | (simp [*]; done)), H', ⟨by have := HK1.out; have := HK2.out; omega⟩, ⟨by (with_reducible repeat (first | apply Kd.N_alloc | apply Kd.N_drewN | apply Kd.N_drew)); exact HO333.out⟩, ⟨Rgn.rq HO_284000.out⟩, ⟨by (with_reducible repeat (first | apply Kd.N_alloc | apply Kd.N_drewN | apply Kd.N_drew)); exact Kd.N_mono HO_284001.out (fun _ hk => ⟨hk.1.1, ⟨hk.2, ⟨hk.1.2.1, ⟨hk.1.2.2.1, ⟨hk.1.2.2.2.1, hk.1.2.2.2.2⟩⟩⟩⟩⟩)⟩, ⟨Rgn.kb BK270.out⟩, ⟨Rgn.kb BK283.out⟩, ⟨IsS90.q HI274.out⟩, ⟨Rgn.bs HB.out (IsS90.ge HI274.out)⟩⟩
         ·
          rw [if_neg c109] at H
          exact absurd H (by simp)
        ·
         rw [if_neg c108] at H
         have c108b0 : decide (0 < x12_2) = false := decide_eq_false c108
         clear c108
         (first | rw [c108b0] | (simp only [i64_w, i32_w]; rw [c108b0]) | skip)
         have H' := Aside0.mk H
         clear H
         go_wp2
         go_meet
         case rel => exact ⟨_, (x7_2), (t329), (t330), H', ⟨by have := HK1.out; have := HK2.out; first | omega | exact Nat.le_refl _⟩, ⟨by (with_reducible repeat (first | apply Kd.N_alloc | apply Kd.N_drewN | apply Kd.N_drew)); exact HO_7.out⟩, ⟨Rgn.rq HO_284000.out⟩, ⟨by (with_reducible repeat (first | apply Kd.N_alloc | apply Kd.N_drewN | apply Kd.N_drew)); exact HO_284001.out⟩, ⟨Rgn.kb BK270.out⟩, ⟨Rgn.kb BK283.out⟩, ⟨IsS90.q HI274.out⟩, ⟨Rgn.bs HB.out (IsS90.ge HI274.out)⟩⟩
     ·
      replace c104 := Bool.eq_false_iff.mpr c104
      subst c104
      have H1 : (spec_DrawDiskDo.j4 k1 x7_1 t287 t271 t326 t327 t275 t278) = some (r1, r2, r3, r4) := by rw [if_neg (show ¬ (false = true) by decide)] at H; exact H
      clear H
      have H := H1
      clear H1
      have H' := Aside0.mk H
      clear H
      go_wp2
      go_meet
      case rel => exact ⟨_, (x7_1), (t326), (t327), H', ⟨by have := HK1.out; first | omega | exact Nat.le_refl _⟩, ⟨by (with_reducible repeat (first | apply Kd.N_alloc | apply Kd.N_drewN | apply Kd.N_drew)); exact HO_7.out⟩, ⟨Rgn.rq HO_284000.out⟩, ⟨by (with_reducible repeat (first | apply Kd.N_alloc | apply Kd.N_drewN | apply Kd.N_drew)); exact HO_284001.out⟩, ⟨Rgn.kb BK270.out⟩, ⟨Rgn.kb BK283.out⟩, ⟨IsS90.q HI274.out⟩, ⟨Rgn.bs HB.out (IsS90.ge HI274.out)⟩⟩
    case rest =>
     clear HC102
     try clear c1
     try clear c2
     try clear p2
     try clear c3
     try clear c4
     try clear c5
     try clear c6
     try clear p6
     try clear c7
     try clear c8
     try clear c9
     try clear c10
     try clear c11
     try clear c18
     try clear c18b0
     try clear c24
     try clear c25
     try clear c32
     try clear c33
     try clear c34
     try clear c37
     try clear c38
     try clear c39
     try clear c40
     try clear c43
     try clear c45
     try clear c45b0
     try clear c45b1
     try clear c46
     try clear c47
     try clear c48
     try clear c50
     try clear c50b0
     try clear c50b1
     try clear c52
     try clear c52b0
     try clear c52b1
     try clear c53
     try clear c54
     try clear c55
     try clear c56
     try clear c59
     try clear c60
     try clear p64
     try clear c69
     try clear c70
     try clear c71
     try clear c72
     try clear c75
     try clear c76
     try clear c80
     try clear c81
     try clear c82
     try clear c82b0
     try clear c82b1
     try clear c83
     try clear c84
     try clear c87
     try clear c88
     try clear c89
     try clear c94
     try clear c95
     try clear c96
     try clear c97
     try clear c104
     try clear c108
     try clear c108b0
     try clear c109
     try clear hcz12_0 hcz12_1
     try clear hcz16_0 hcz16_1 hcz16_2
     try clear hcz26_0 hcz26_1
     try clear hcz35_0 hcz35_1 hcz35_2
     try clear hcz41_0 hcz41_1 hcz41_2
     try clear hcz49_0 hcz49_1 hcz49_2
     try clear hcz57_0 hcz57_1
     try clear hcz61_0 hcz61_1 hcz61_2
     try clear hcz65_0 hcz65_1 hcz65_2
     try clear hcz67_0 hcz67_1 hcz67_2
     try clear hcz73_0 hcz73_1
     try clear hcz77_0 hcz77_1 hcz77_2
     try clear hcz79_0 hcz79_1 hcz79_2
     try clear hcz90_0 hcz90_1 hcz90_2
     try clear hcz92_0 hcz92_1 hcz92_2
     try clear hcz98_0 hcz98_1 hcz98_2
     try clear hfz12_0 hfz12_1
     try clear hfz16_1 hfz16_2
     try clear hfz26_0 hfz26_1
     try clear hfz35_0 hfz35_1 hfz35_2
     try clear hfz41_0 hfz41_1 hfz41_2
     try clear hfz49_0 hfz49_1 hfz49_2
     try clear hfz57_0 hfz57_1
     try clear hfz61_0 hfz61_1 hfz61_2
     try clear hfz65_0 hfz65_1 hfz65_2
     try clear hfz67_0 hfz67_1 hfz67_2
     try clear hfz73_0 hfz73_1
     try clear hfz77_0 hfz77_1 hfz77_2
     try clear hfz79_0 hfz79_1 hfz79_2
     try clear hfz90_0 hfz90_1 hfz90_2
     try clear hfz92_0 hfz92_1 hfz92_2
     try clear hfz98_0 hfz98_1 hfz98_2
     try clear p2
     try clear p6
     try clear p64
     obtain ⟨kq, x7_101, x275001_101, x275002_101, HA, HJ101, HO_7, HO_284000, HO_284001, BK270, BK283, HI274, HB⟩ := hcut
     cases kq with
     | zero => exact absurd HA.out (by simp [spec_DrawDiskDo.j4])
     | succ kj101 =>
      have H := HA.out
      clear HA
      simp only [spec_DrawDiskDo.j4] at H
      replace H := Option.bind_eq_some_iff.mp H
      obtain ⟨⟨t334, t335, t336⟩, A1110, H⟩ := H
      replace H : (if t334 = true then ((spec_l1Next.f t271 t335 t336 (wrap64 (t287 + 2))).bind fun bt337 => (some (t275, t278, x7_101, bt337.1))) else (some (t275, t278, x7_101, (-1)))) = some (r1, r2, r3, r4) := H
      have A111 := Aside0.mk A1110
      clear A1110
      by_cases c112 : t334 = true
      ·
       subst c112
       have H1 : ((spec_l1Next.f t271 t335 t336 (wrap64 (t287 + 2))).bind fun bt337 => (some (t275, t278, x7_101, bt337.1))) = some (r1, r2, r3, r4) := by rw [if_pos rfl] at H; exact H
       clear H
       have H := H1
       clear H1
       replace H := Option.bind_eq_some_iff.mp H
       obtain ⟨⟨t337, t338, t339⟩, A1130, H⟩ := H
       replace H : (some (t275, t278, x7_101, t337)) = some (r1, r2, r3, r4) := H
       have A113 := Aside0.mk A1130
       clear A1130
       simp only [Option.some.injEq, Prod.mk.injEq] at H
       obtain ⟨rfl, rfl, rfl, rfl⟩ := H
       go_wp2_with (first | ((with_reducible refine gate_callee (f := 84) rfl ?_); refine Rgn.gl (some 76) Try.func84 #[.pointer (some ⟨g274, 0, none⟩), .int .i64 2] ?_; (with_reducible refine (spec_l1Chance.calls g274 t271 x275001_101 x275002_101 2 true t335 t336 w _ ?side1 ?side2 A111.out).mono ?_); (case side1 => repeat (first | (with_reducible first | exact HI274.out | apply IsS90.alloc | apply IsS90.drewN | apply IsS90.drew | apply IsS90.set_1 | apply IsS90.set_2 | refine IsS90.far ?_ NB274_270.out _ | refine IsS90.far ?_ NB274_283.out _) | exact HI274.out)); (case side2 => repeat (first | (with_reducible first | exact HB.out | apply below_alloc | apply pw_below_drewN | apply below_drew1 | refine below_set ?_ (IsS90.ge HI274.out) | refine below_set ?_ GE270.out | refine below_set ?_ GE283.out) | exact HB.out)); rintro e w114 ⟨rfl, hi, hb, hk⟩; refine ⟨_, rfl, ?_⟩; replace HO_7 := Aside0.mk (Kd.N_mono (Kd.N_keep (Kd.N_mono (ok := fun k_ => (((w.heap.size ≤ k_)) ∧ (some k_ ≠ (.slice Ao9 t275.length co9 : Value).ownBlock ∧ (some k_ ≠ (.slice Ao13 t278.length co13 : Value).ownBlock ∧ (k_ ≠ gb270 ∧ (k_ ≠ gb283 ∧ k_ ≠ g274)))))) (Rgn.nq HO_7.out) (fun k_ hk_ => (⟨hk_, hk_.2.2.2.2.2⟩ : _ ∧ k_ ≠ g274))) hk (fun _ h => h.2)) (fun _ h => h.1)); replace HO_284000 := Aside0.mk (Kd.R_mono (Kd.R_keep (IsS90.apart (show IsS90 w _ g274 t271 x275001_101 x275002_101 from IsS90.q HI274.out) (Rgn.rq HO_284000.out) (by decide)) hk (fun _ h => h.2)) (fun _ h => h.1)); replace HO_284001 := Aside0.mk (Kd.N_mono (Kd.N_keep (Kd.N_mono (ok := fun k_ => (((w.heap.size ≤ k_)) ∧ (some k_ ≠ (u7 : Value).ownBlock ∧ (some k_ ≠ (.slice Ao9 t275.length co9 : Value).ownBlock ∧ (k_ ≠ gb270 ∧ (k_ ≠ gb283 ∧ k_ ≠ g274)))))) (Rgn.nq HO_284001.out) (fun k_ hk_ => (⟨hk_, hk_.2.2.2.2.2⟩ : _ ∧ k_ ≠ g274))) hk (fun _ h => h.2)) (fun _ h => h.1)); replace BK270 := Aside0.mk (Rgn.kb2 hk BK270.out NB270_274.out); replace BK283 := Aside0.mk (Rgn.kb2 hk BK283.out NB283_274.out); replace HB := Aside0.mk (hb); replace HI274 := Aside0.mk (hi); (try clear hb); (try clear hk); (try clear hi)) | ((with_reducible refine gate_callee (f := 82) rfl ?_); refine Rgn.gl (some 80) Try.func82 #[.pointer (some ⟨g274, 0, none⟩), .int .i64 (wrap64 (t287 + 2))] ?_; (with_reducible refine (spec_l1Next.calls g274 t271 t335 t336 (wrap64 (t287 + 2)) t337 t338 t339 w _ ?side1 ?side2 A113.out).mono ?_); (case side1 => repeat (first | (with_reducible first | exact HI274.out | apply IsS90.alloc | apply IsS90.drewN | apply IsS90.drew | apply IsS90.set_1 | apply IsS90.set_2 | refine IsS90.far ?_ NB274_270.out _ | refine IsS90.far ?_ NB274_283.out _) | exact HI274.out)); (case side2 => repeat (first | (with_reducible first | exact HB.out | apply below_alloc | apply pw_below_drewN | apply below_drew1 | refine below_set ?_ (IsS90.ge HI274.out) | refine below_set ?_ GE270.out | refine below_set ?_ GE283.out) | exact HB.out)); rintro e w115 ⟨rfl, hi, hb, hk⟩; refine ⟨_, rfl, ?_⟩; replace HO_7 := Aside0.mk (Kd.N_mono (Kd.N_keep (Kd.N_mono (ok := fun k_ => (((w.heap.size ≤ k_)) ∧ (some k_ ≠ (.slice Ao9 t275.length co9 : Value).ownBlock ∧ (some k_ ≠ (.slice Ao13 t278.length co13 : Value).ownBlock ∧ (k_ ≠ gb270 ∧ (k_ ≠ gb283 ∧ k_ ≠ g274)))))) (Rgn.nq HO_7.out) (fun k_ hk_ => (⟨hk_, hk_.2.2.2.2.2⟩ : _ ∧ k_ ≠ g274))) hk (fun _ h => h.2)) (fun _ h => h.1)); replace HO_284000 := Aside0.mk (Kd.R_mono (Kd.R_keep (IsS90.apart (show IsS90 w _ g274 t271 t335 t336 from IsS90.q HI274.out) (Rgn.rq HO_284000.out) (by decide)) hk (fun _ h => h.2)) (fun _ h => h.1)); replace HO_284001 := Aside0.mk (Kd.N_mono (Kd.N_keep (Kd.N_mono (ok := fun k_ => (((w.heap.size ≤ k_)) ∧ (some k_ ≠ (u7 : Value).ownBlock ∧ (some k_ ≠ (.slice Ao9 t275.length co9 : Value).ownBlock ∧ (k_ ≠ gb270 ∧ (k_ ≠ gb283 ∧ k_ ≠ g274)))))) (Rgn.nq HO_284001.out) (fun k_ hk_ => (⟨hk_, hk_.2.2.2.2.2⟩ : _ ∧ k_ ≠ g274))) hk (fun _ h => h.2)) (fun _ h => h.1)); replace BK270 := Aside0.mk (Rgn.kb2 hk BK270.out NB270_274.out); replace BK283 := Aside0.mk (Rgn.kb2 hk BK283.out NB283_274.out); replace HB := Aside0.mk (hb); replace HI274 := Aside0.mk (hi); (try clear hb); (try clear hk); (try clear hi); have hnb116 := NB283_270.out; have hnc116 := NB270_283.out; have hnb117 := NB283_274.out; have hnc117 := NB274_283.out; obtain ⟨hcz118_0, hcz118_1, hfz118_0, hfz118_1⟩ := Rgn.c2 BK283.out; have hnb119 := NB270_274.out; have hnc119 := NB274_270.out; obtain ⟨hcz120_0, hcz120_1, hfz120_0, hfz120_1⟩ := Rgn.c2 BK270.out))
       refine bodyPost_ret (results_ctt rfl _ _ gb270 29 #[.slice Ao9 t275.length co9, .slice Ao13 t278.length co13] (0, 0) _ rfl (by (with_reducible repeat (first | refine blk_drewN ?_ _ | refine blk_drew ?_ | refine blk_alloc ?_ _)); refine blk_put (cs := #[.slice Ao9 t275.length co9, .slice none 0 0]) ?_ 1 _ rfl; (with_reducible repeat (first | refine blk_drewN ?_ _ | refine blk_drew ?_ | refine blk_alloc ?_ _)); refine blk_put (cs := #[.slice none 0 0, .slice none 0 0]) ?_ 0 _ rfl; (with_reducible repeat (first | refine blk_drewN ?_ _ | refine blk_drew ?_ | refine blk_alloc ?_ _)); exact BK270.out) Try.underlying29 rfl (by kernel_rfl)) rfl ?_
       exact ⟨_, _, _, by first | rfl | (simp [errW_none, errW_some] <;> rfl) | (simp [*, errW_none, errW_some] <;> rfl), by (with_reducible repeat (first | apply Kd.R_alloc | apply Kd.R_drewN | apply Kd.R_drew)); exact Kd.R_mono (Kd.R_far (p := ⟨gb270, 1, none⟩) (Kd.R_far (p := ⟨gb270, 0, none⟩) (Kd.R_types HO_284000.out BK270.out (by decide)) (fun _ hk => hk.2) (.slice Ao9 t275.length co9)) (fun _ hk => hk.2) (.slice Ao13 t278.length co13)) (fun _ hk => hk.1), by (with_reducible repeat (first | apply Kd.N_alloc | apply Kd.N_drewN | apply Kd.N_drew)); exact Kd.N_mono (Kd.N_far (p := ⟨gb270, 1, none⟩) (Kd.N_far (p := ⟨gb270, 0, none⟩) (Kd.N_mono HO_284001.out (fun k_ hk => (⟨hk, hk.2.2.2.1⟩ : _ ∧ k_ ≠ gb270))) (fun _ hk => hk.2) (.slice Ao9 t275.length co9)) (fun _ hk => hk.2) (.slice Ao13 t278.length co13)) (fun _ hk => ⟨hk.1.1, ⟨hk.1.2.2.1, hk.1.2.1⟩⟩), by (with_reducible repeat (first | apply Kd.N_alloc | apply Kd.N_drewN | apply Kd.N_drew)); exact Kd.N_mono (Kd.N_far (p := ⟨gb270, 1, none⟩) (Kd.N_far (p := ⟨gb270, 0, none⟩) (Kd.N_mono HO_7.out (fun k_ hk => (⟨hk, hk.2.2.2.1⟩ : _ ∧ k_ ≠ gb270))) (fun _ hk => hk.2) (.slice Ao9 t275.length co9)) (fun _ hk => hk.2) (.slice Ao13 t278.length co13)) (fun _ hk => ⟨hk.1.1, ⟨hk.1.2.1, hk.1.2.2.1⟩⟩), Rgn.bs HB.out (IsS90.ge HI274.out)⟩
      ·
       replace c112 := Bool.eq_false_iff.mpr c112
       subst c112
       have H1 : (some (t275, t278, x7_101, (-1))) = some (r1, r2, r3, r4) := by rw [if_neg (show ¬ (false = true) by decide)] at H; exact H
       clear H
       have H := H1
       clear H1
       simp only [Option.some.injEq, Prod.mk.injEq] at H
       obtain ⟨rfl, rfl, rfl, rfl⟩ := H
       go_wp2_with (first | ((with_reducible refine gate_callee (f := 84) rfl ?_); refine Rgn.gl (some 76) Try.func84 #[.pointer (some ⟨g274, 0, none⟩), .int .i64 2] ?_; (with_reducible refine (spec_l1Chance.calls g274 t271 x275001_101 x275002_101 2 false t335 t336 w _ ?side1 ?side2 A111.out).mono ?_); (case side1 => repeat (first | (with_reducible first | exact HI274.out | apply IsS90.alloc | apply IsS90.drewN | apply IsS90.drew | apply IsS90.set_1 | apply IsS90.set_2 | refine IsS90.far ?_ NB274_270.out _ | refine IsS90.far ?_ NB274_283.out _) | exact HI274.out)); (case side2 => repeat (first | (with_reducible first | exact HB.out | apply below_alloc | apply pw_below_drewN | apply below_drew1 | refine below_set ?_ (IsS90.ge HI274.out) | refine below_set ?_ GE270.out | refine below_set ?_ GE283.out) | exact HB.out)); rintro e w121 ⟨rfl, hi, hb, hk⟩; refine ⟨_, rfl, ?_⟩; replace HO_7 := Aside0.mk (Kd.N_mono (Kd.N_keep (Kd.N_mono (ok := fun k_ => (((w.heap.size ≤ k_)) ∧ (some k_ ≠ (.slice Ao9 t275.length co9 : Value).ownBlock ∧ (some k_ ≠ (.slice Ao13 t278.length co13 : Value).ownBlock ∧ (k_ ≠ gb270 ∧ (k_ ≠ gb283 ∧ k_ ≠ g274)))))) (Rgn.nq HO_7.out) (fun k_ hk_ => (⟨hk_, hk_.2.2.2.2.2⟩ : _ ∧ k_ ≠ g274))) hk (fun _ h => h.2)) (fun _ h => h.1)); replace HO_284000 := Aside0.mk (Kd.R_mono (Kd.R_keep (IsS90.apart (show IsS90 w _ g274 t271 x275001_101 x275002_101 from IsS90.q HI274.out) (Rgn.rq HO_284000.out) (by decide)) hk (fun _ h => h.2)) (fun _ h => h.1)); replace HO_284001 := Aside0.mk (Kd.N_mono (Kd.N_keep (Kd.N_mono (ok := fun k_ => (((w.heap.size ≤ k_)) ∧ (some k_ ≠ (u7 : Value).ownBlock ∧ (some k_ ≠ (.slice Ao9 t275.length co9 : Value).ownBlock ∧ (k_ ≠ gb270 ∧ (k_ ≠ gb283 ∧ k_ ≠ g274)))))) (Rgn.nq HO_284001.out) (fun k_ hk_ => (⟨hk_, hk_.2.2.2.2.2⟩ : _ ∧ k_ ≠ g274))) hk (fun _ h => h.2)) (fun _ h => h.1)); replace BK270 := Aside0.mk (Rgn.kb2 hk BK270.out NB270_274.out); replace BK283 := Aside0.mk (Rgn.kb2 hk BK283.out NB283_274.out); replace HB := Aside0.mk (hb); replace HI274 := Aside0.mk (hi); (try clear hb); (try clear hk); (try clear hi); have hnb122 := NB283_270.out; have hnc122 := NB270_283.out; have hnb123 := NB283_274.out; have hnc123 := NB274_283.out; obtain ⟨hcz124_0, hcz124_1, hfz124_0, hfz124_1⟩ := Rgn.c2 BK283.out; have hnb125 := NB270_274.out; have hnc125 := NB274_270.out; obtain ⟨hcz126_0, hcz126_1, hfz126_0, hfz126_1⟩ := Rgn.c2 BK270.out))
       refine bodyPost_ret (results_ctt rfl _ _ gb270 29 #[.slice Ao9 t275.length co9, .slice Ao13 t278.length co13] (0, 0) _ rfl (by (with_reducible repeat (first | refine blk_drewN ?_ _ | refine blk_drew ?_ | refine blk_alloc ?_ _)); refine blk_put (cs := #[.slice Ao9 t275.length co9, .slice none 0 0]) ?_ 1 _ rfl; (with_reducible repeat (first | refine blk_drewN ?_ _ | refine blk_drew ?_ | refine blk_alloc ?_ _)); refine blk_put (cs := #[.slice none 0 0, .slice none 0 0]) ?_ 0 _ rfl; (with_reducible repeat (first | refine blk_drewN ?_ _ | refine blk_drew ?_ | refine blk_alloc ?_ _)); exact BK270.out) Try.underlying29 rfl (by kernel_rfl)) rfl ?_
       exact ⟨_, _, _, by first | rfl | (simp [errW_none, errW_some] <;> rfl) | (simp [*, errW_none, errW_some] <;> rfl), by (with_reducible repeat (first | apply Kd.R_alloc | apply Kd.R_drewN | apply Kd.R_drew)); exact Kd.R_mono (Kd.R_far (p := ⟨gb270, 1, none⟩) (Kd.R_far (p := ⟨gb270, 0, none⟩) (Kd.R_types HO_284000.out BK270.out (by decide)) (fun _ hk => hk.2) (.slice Ao9 t275.length co9)) (fun _ hk => hk.2) (.slice Ao13 t278.length co13)) (fun _ hk => hk.1), by (with_reducible repeat (first | apply Kd.N_alloc | apply Kd.N_drewN | apply Kd.N_drew)); exact Kd.N_mono (Kd.N_far (p := ⟨gb270, 1, none⟩) (Kd.N_far (p := ⟨gb270, 0, none⟩) (Kd.N_mono HO_284001.out (fun k_ hk => (⟨hk, hk.2.2.2.1⟩ : _ ∧ k_ ≠ gb270))) (fun _ hk => hk.2) (.slice Ao9 t275.length co9)) (fun _ hk => hk.2) (.slice Ao13 t278.length co13)) (fun _ hk => ⟨hk.1.1, ⟨hk.1.2.2.1, hk.1.2.1⟩⟩), by (with_reducible repeat (first | apply Kd.N_alloc | apply Kd.N_drewN | apply Kd.N_drew)); exact Kd.N_mono (Kd.N_far (p := ⟨gb270, 1, none⟩) (Kd.N_far (p := ⟨gb270, 0, none⟩) (Kd.N_mono HO_7.out (fun k_ hk => (⟨hk, hk.2.2.2.1⟩ : _ ∧ k_ ≠ gb270))) (fun _ hk => hk.2) (.slice Ao9 t275.length co9)) (fun _ hk => hk.2) (.slice Ao13 t278.length co13)) (fun _ hk => ⟨hk.1.1, ⟨hk.1.2.1, hk.1.2.2.1⟩⟩), Rgn.bs HB.out (IsS90.ge HI274.out)⟩

end Go.Proofs.Ytdhjhadcadcceaa.PFnDisk
