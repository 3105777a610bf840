-- printed for this claim by a program of the claim (wip/tools/pp.py over the kit's print)
import Derived.Test.YtjpafikgbnloaaaDoorPHdqx0
import Derived.Test.YtjpafikgbnloaaaDoorPHdqx2
import Derived.Test.YtjpafikgbnloaaaDoorPHdqx3
import Derived.Test.YtjpafikgbnloaaaDoorPHdqx4
import Derived.Test.YtjpafikgbnloaaaDoorPHdqx8
namespace Go.Proofs.YtjpafikgbnloaaaDoor.PHdq
open Go.RowKit Go.Proofs.YtjpafikgbnloaaaDoorW.PrintWords Go.Proofs.YtjpafikgbnloaaaDoorW.PrintLast Go.Proofs.YtjpafikgbnloaaaDoorW.PrintMore
attribute [local go_sem] max2_int min2_int max_two min_two max_three min_three max_four min_four   -- for this text's walks alone
set_option linter.unusedVariables false
set_option linter.unusedSimpArgs false

attribute [local go_sem] isSome_setCell_
/-! ### dominolaw04_HeaderUnmasks: function 6 -/
def dominolaw04_HeaderUnmasks.j0 : Nat → ByteArray → ByteArray → ByteArray → Bool → Bool → Bool → Bool → Int → Int → ByteArray → ByteArray → ByteArray → Int → Int → Int → Option (Bool)
 | 0, _, _, _, _, _, _, _, _, _, _, _, _, _, _, _ => none
 | k + 1, x1, x2, x7, x40, x380000, x380001, x380002, x380003, x380004, x380005, x380006, x380007, x380008, x380009, x380010 => if x40 = true then ((dominolaw04_shown.f k).bind fun t384 => (some t384)) else (if x7.size + x1.size ≤ 9223372036854775807 then ((header_Mask.f k (x7 ++ x1) x2).bind fun bt385 => ((header_Unmask.f k bt385.1 x2).bind fun bt387 => ((header_Place.f k bt385.1).bind fun bt389 => (if bt385.2 = 0 then (if bt387.2 = 0 then (if bt389.2 = 0 then (if bt387.1.toList = (x7 ++ x1).toList then (if (bt385.1.size : Int) = (bt387.1.size : Int) then (if bt389.1 = (wrap64 ((x7.size : Int) - x380009)) then (if 0 ≤ (x7.size : Int) then (if (x7.size : Int) ≤ (bt385.1.size : Int) then (some ((bt385.1.extract ((x7.size : Int) : Int).toNat bt385.1.size).toList == x1.toList)) else (none)) else (none)) else (none)) else (none)) else (none)) else (none)) else (none)) else (none))))) else (none))
def dominolaw04_HeaderUnmasks.f (k : Nat) (a0_0 : Bool) (a0_1 : Bool) (a0_2 : Bool) (a0_3 : Int) (a0_4 : Int) (a0_5 : ByteArray) (a0_6 : ByteArray) (a0_7 : ByteArray) (a0_8 : Int) (a0_9 : Int) (a0_10 : Int) (a1 : ByteArray) (a2 : ByteArray) : Option (Bool) := (header_Put.f k a0_0 a0_1 a0_2 a0_3 a0_4 a0_5 a0_6 a0_7 a0_8 a0_9 a0_10).bind fun bt380 => ((dominolaw04_bounded.f a0_0 a0_1 a0_2 a0_3 a0_4 a0_5 a0_6 a0_7 a0_8 a0_9 a0_10).bind fun t382 => (if t382 = true then (if (a1.size : Int) > 1000 then (dominolaw04_HeaderUnmasks.j0 k a1 a2 bt380.1 true a0_0 a0_1 a0_2 a0_3 a0_4 a0_5 a0_6 a0_7 a0_8 a0_9 a0_10) else (if (a2.size : Int) = 5 then (if bt380.2 = 0 then ((dominolaw04_shown.f k).bind fun t383 => (dominolaw04_HeaderUnmasks.j0 k a1 a2 bt380.1 (!t383) a0_0 a0_1 a0_2 a0_3 a0_4 a0_5 a0_6 a0_7 a0_8 a0_9 a0_10)) else (dominolaw04_HeaderUnmasks.j0 k a1 a2 bt380.1 true a0_0 a0_1 a0_2 a0_3 a0_4 a0_5 a0_6 a0_7 a0_8 a0_9 a0_10)) else (dominolaw04_HeaderUnmasks.j0 k a1 a2 bt380.1 true a0_0 a0_1 a0_2 a0_3 a0_4 a0_5 a0_6 a0_7 a0_8 a0_9 a0_10))) else (dominolaw04_HeaderUnmasks.j0 k a1 a2 bt380.1 true a0_0 a0_1 a0_2 a0_3 a0_4 a0_5 a0_6 a0_7 a0_8 a0_9 a0_10)))
theorem dominolaw04_HeaderUnmasks.mono_l : ∀ k, (∀ y0 y1 y2 y3 y4 y5 y6 y7 y8 y9 y10 y11 y12 y13 y14, LeO (dominolaw04_HeaderUnmasks.j0 k y0 y1 y2 y3 y4 y5 y6 y7 y8 y9 y10 y11 y12 y13 y14) (dominolaw04_HeaderUnmasks.j0 (k + 1) y0 y1 y2 y3 y4 y5 y6 y7 y8 y9 y10 y11 y12 y13 y14))
 | 0 => fun _ _ _ _ _ _ _ _ _ _ _ _ _ _ _ r h => by simp [dominolaw04_HeaderUnmasks.j0] at h
 | k + 1 => by
  have ih0 := dominolaw04_HeaderUnmasks.mono_l k
  ·intro y0 y1 y2 y3 y4 y5 y6 y7 y8 y9 y10 y11 y12 y13 y14
   unfold dominolaw04_HeaderUnmasks.j0
   repeat' first
   | (with_reducible exact ih0 _ _ _ _ _ _ _ _ _ _ _ _ _ _ _)
   | (with_reducible exact dominolaw04_shown.mono _)
   | (with_reducible exact header_Mask.mono _ _ _)
   | (with_reducible exact header_Place.mono _ _)
   | (with_reducible exact header_Put.mono _ _ _ _ _ _ _ _ _ _ _ _)
   | (with_reducible exact header_Unmask.mono _ _ _)
   | (with_reducible exact LeO.refl _)
   | (with_reducible exact LeO.none _)
   | (with_reducible refine LeO.ite ?_ ?_)
   | (with_reducible refine LeO.bind ?_ (fun _ => ?_))
   | exact ih0 _ _ _ _ _ _ _ _ _ _ _ _ _ _ _
   | exact dominolaw04_shown.mono _
   | exact header_Mask.mono _ _ _
   | exact header_Place.mono _ _
   | exact header_Put.mono _ _ _ _ _ _ _ _ _ _ _ _
   | exact header_Unmask.mono _ _ _
   | exact LeO.none _
   | refine LeO.ite ?_ ?_
   | refine LeO.bind ?_ (fun _ => ?_)
theorem dominolaw04_HeaderUnmasks.mono : ∀ a0 a1 a2 a3 a4 a5 a6 a7 a8 a9 a10 a11 a12 k, LeO (dominolaw04_HeaderUnmasks.f k a0 a1 a2 a3 a4 a5 a6 a7 a8 a9 a10 a11 a12) (dominolaw04_HeaderUnmasks.f (k + 1) a0 a1 a2 a3 a4 a5 a6 a7 a8 a9 a10 a11 a12) := by
 intro a0 a1 a2 a3 a4 a5 a6 a7 a8 a9 a10 a11 a12 k
 have ih0 := dominolaw04_HeaderUnmasks.mono_l k
 unfold dominolaw04_HeaderUnmasks.f
 repeat' first
   | (with_reducible exact ih0 _ _ _ _ _ _ _ _ _ _ _ _ _ _ _)
   | (with_reducible exact dominolaw04_shown.mono _)
   | (with_reducible exact header_Mask.mono _ _ _)
   | (with_reducible exact header_Place.mono _ _)
   | (with_reducible exact header_Put.mono _ _ _ _ _ _ _ _ _ _ _ _)
   | (with_reducible exact header_Unmask.mono _ _ _)
   | (with_reducible exact LeO.refl _)
   | (with_reducible exact LeO.none _)
   | (with_reducible refine LeO.ite ?_ ?_)
   | (with_reducible refine LeO.bind ?_ (fun _ => ?_))
   | exact ih0 _ _ _ _ _ _ _ _ _ _ _ _ _ _ _
   | exact dominolaw04_shown.mono _
   | exact header_Mask.mono _ _ _
   | exact header_Place.mono _ _
   | exact header_Put.mono _ _ _ _ _ _ _ _ _ _ _ _
   | exact header_Unmask.mono _ _ _
   | exact LeO.none _
   | refine LeO.ite ?_ ?_
   | refine LeO.bind ?_ (fun _ => ?_)
set_option maxHeartbeats 8000000 in
set_option maxRecDepth 100000 in
theorem dominolaw04_HeaderUnmasks.calls (k : Nat) (a0_0 : Bool) (a0_1 : Bool) (a0_2 : Bool) (a0_3 : Int) (a0_4 : Int) (a0_5 : ByteArray) (a0_6 : ByteArray) (a0_7 : ByteArray) (a0_8 : Int) (a0_9 : Int) (a0_10 : Int) (a1 : ByteArray) (a2 : ByteArray) (r : Bool) (w : World) (ht : Tab w) (h : dominolaw04_HeaderUnmasks.f k a0_0 a0_1 a0_2 a0_3 a0_4 a0_5 a0_6 a0_7 a0_8 a0_9 a0_10 a1 a2 = some r) :
  Calls Tryd.prog 6 #[.agg #[.bool a0_0, .bool a0_1, .bool a0_2, .int .i64 a0_3, .int .u32 a0_4, .string a0_5, .string a0_6, .string a0_7, .int .u64 a0_8, .int .i64 a0_9, .int .u64 a0_10], .string a1, .string a2] w fun e w' => e = .returned (.bool r) ∧ Below w.heap.size w w' := by
 have HTab := Aside0.mk ht
 clear ht
 have hu25 := Tryd.underlying25
 have HB := Aside0.mk (Below.refl w.heap.size w)
 have H : ((header_Put.f k a0_0 a0_1 a0_2 a0_3 a0_4 a0_5 a0_6 a0_7 a0_8 a0_9 a0_10).bind fun bt380 => ((dominolaw04_bounded.f a0_0 a0_1 a0_2 a0_3 a0_4 a0_5 a0_6 a0_7 a0_8 a0_9 a0_10).bind fun t382 => (if t382 = true then (if (a1.size : Int) > 1000 then (dominolaw04_HeaderUnmasks.j0 k a1 a2 bt380.1 true a0_0 a0_1 a0_2 a0_3 a0_4 a0_5 a0_6 a0_7 a0_8 a0_9 a0_10) else (if (a2.size : Int) = 5 then (if bt380.2 = 0 then ((dominolaw04_shown.f k).bind fun t383 => (dominolaw04_HeaderUnmasks.j0 k a1 a2 bt380.1 (!t383) a0_0 a0_1 a0_2 a0_3 a0_4 a0_5 a0_6 a0_7 a0_8 a0_9 a0_10)) else (dominolaw04_HeaderUnmasks.j0 k a1 a2 bt380.1 true a0_0 a0_1 a0_2 a0_3 a0_4 a0_5 a0_6 a0_7 a0_8 a0_9 a0_10)) else (dominolaw04_HeaderUnmasks.j0 k a1 a2 bt380.1 true a0_0 a0_1 a0_2 a0_3 a0_4 a0_5 a0_6 a0_7 a0_8 a0_9 a0_10))) else (dominolaw04_HeaderUnmasks.j0 k a1 a2 bt380.1 true a0_0 a0_1 a0_2 a0_3 a0_4 a0_5 a0_6 a0_7 a0_8 a0_9 a0_10)))) = some r := h
 clear h
 replace H := Option.bind_eq_some_iff.mp H
 obtain ⟨⟨t380, t381⟩, A40, H⟩ := H
 replace H : ((dominolaw04_bounded.f a0_0 a0_1 a0_2 a0_3 a0_4 a0_5 a0_6 a0_7 a0_8 a0_9 a0_10).bind fun t382 => (if t382 = true then (if (a1.size : Int) > 1000 then (dominolaw04_HeaderUnmasks.j0 k a1 a2 t380 true a0_0 a0_1 a0_2 a0_3 a0_4 a0_5 a0_6 a0_7 a0_8 a0_9 a0_10) else (if (a2.size : Int) = 5 then (if t381 = 0 then ((dominolaw04_shown.f k).bind fun t383 => (dominolaw04_HeaderUnmasks.j0 k a1 a2 t380 (!t383) a0_0 a0_1 a0_2 a0_3 a0_4 a0_5 a0_6 a0_7 a0_8 a0_9 a0_10)) else (dominolaw04_HeaderUnmasks.j0 k a1 a2 t380 true a0_0 a0_1 a0_2 a0_3 a0_4 a0_5 a0_6 a0_7 a0_8 a0_9 a0_10)) else (dominolaw04_HeaderUnmasks.j0 k a1 a2 t380 true a0_0 a0_1 a0_2 a0_3 a0_4 a0_5 a0_6 a0_7 a0_8 a0_9 a0_10))) else (dominolaw04_HeaderUnmasks.j0 k a1 a2 t380 true a0_0 a0_1 a0_2 a0_3 a0_4 a0_5 a0_6 a0_7 a0_8 a0_9 a0_10))) = some r := H
 have A4 := Aside0.mk A40
 clear A40
 have HC5 := Aside0.mk H
 clear H
 go_enter Tryd.func6, Tryd.ntmps6
 go_upto_region 2 with (first | ((with_reducible refine gate_dst (N := 3) rfl ?_); (try (refine gate_guard (by rfl) ?_; dsimp only)); refine box_event ?hg (N := 3) ?hd (cs := #[.bool a0_0, .bool a0_1, .bool a0_2, .int .i64 a0_3, .int .u32 a0_4, .string a0_5, .string a0_6, .string a0_7, .int .u64 a0_8, .int .i64 a0_9, .int .u64 a0_10]) (t := 25) ?hr ?_; (case hd => rfl); (case hg => rfl); (case hr => first | (go_simp; done) | (go_simp; rfl)); intro gb379 hg w6 hbox hb; have n0_ := Aside0.mk (below_step (by repeat (first | (with_reducible first | exact HB.out | apply below_alloc | apply pw_below_drewN | apply below_drew1) | exact HB.out)) hb); have n1_ := Aside0.mk (hbox); have n2_ := Aside0.mk ((by rw [hg]; exact (below_size (by repeat (first | (with_reducible first | exact HB.out | apply below_alloc | apply pw_below_drewN | apply below_drew1) | exact HB.out))) : w.heap.size ≤ gb379)); have n3_ := Aside0.mk ((by rw [hg]; exact (below_size (by repeat (first | (with_reducible first | exact HB.out | apply below_alloc | apply pw_below_drewN | apply below_drew1) | exact HB.out))) : w.heap.size ≤ gb379)); clear HB; have HB := n0_; have BK379 := n1_; have GW379 := n2_; have GE379 := n3_; clear n0_ n1_ n2_ n3_; clear hb hbox hg; have hcz7_0 : w6.cell? ⟨gb379, 0, none⟩ = some (.bool a0_0) := (blk_cell BK379.out 0).trans rfl; have hcz7_1 : w6.cell? ⟨gb379, 1, none⟩ = some (.bool a0_1) := (blk_cell BK379.out 1).trans rfl; have hcz7_2 : w6.cell? ⟨gb379, 2, none⟩ = some (.bool a0_2) := (blk_cell BK379.out 2).trans rfl; have hcz7_3 : w6.cell? ⟨gb379, 3, none⟩ = some (.int .i64 a0_3) := (blk_cell BK379.out 3).trans rfl; have hcz7_4 : w6.cell? ⟨gb379, 4, none⟩ = some (.int .u32 a0_4) := (blk_cell BK379.out 4).trans rfl; have hcz7_5 : w6.cell? ⟨gb379, 5, none⟩ = some (.string a0_5) := (blk_cell BK379.out 5).trans rfl; have hcz7_6 : w6.cell? ⟨gb379, 6, none⟩ = some (.string a0_6) := (blk_cell BK379.out 6).trans rfl; have hcz7_7 : w6.cell? ⟨gb379, 7, none⟩ = some (.string a0_7) := (blk_cell BK379.out 7).trans rfl; have hcz7_8 : w6.cell? ⟨gb379, 8, none⟩ = some (.int .u64 a0_8) := (blk_cell BK379.out 8).trans rfl; have hcz7_9 : w6.cell? ⟨gb379, 9, none⟩ = some (.int .i64 a0_9) := (blk_cell BK379.out 9).trans rfl; have hcz7_10 : w6.cell? ⟨gb379, 10, none⟩ = some (.int .u64 a0_10) := (blk_cell BK379.out 10).trans rfl; have hfz7_0 := blk_frozen BK379.out 0; have hfz7_1 := blk_frozen BK379.out 1; have hfz7_2 := blk_frozen BK379.out 2; have hfz7_3 := blk_frozen BK379.out 3; have hfz7_4 := blk_frozen BK379.out 4; have hfz7_5 := blk_frozen BK379.out 5; have hfz7_6 := blk_frozen BK379.out 6; have hfz7_7 := blk_frozen BK379.out 7; have hfz7_8 := blk_frozen BK379.out 8; have hfz7_9 := blk_frozen BK379.out 9; have hfz7_10 := blk_frozen BK379.out 10) | ((with_reducible refine gate_callee (f := 12) rfl ?_); refine goesL_ (some 17) rfl rfl Tryd.func12 (by kernel_rfl) rfl #[.agg #[.bool a0_0, .bool a0_1, .bool a0_2, .int .i64 a0_3, .int .u32 a0_4, .string a0_5, .string a0_6, .string a0_7, .int .u64 a0_8, .int .i64 a0_9, .int .u64 a0_10]] rfl (by (try simp only [List.map_toArray, List.map_cons, List.map_nil]); first | done | rfl | (simp only [List.length_drop, List.length_take]; rfl)) ?_; (with_reducible refine (header_Put.calls k a0_0 a0_1 a0_2 a0_3 a0_4 a0_5 a0_6 a0_7 a0_8 a0_9 a0_10 t380 t381 _ (by first | exact HTab.out | exact tab_below HTab.out HB.out | exact (tab_below HTab.out (by repeat (first | (with_reducible first | exact HB.out | apply below_alloc | apply pw_below_drewN | apply below_drew1 | refine below_set ?_ GE379.out) | exact HB.out))) | exact tab_below HTab.out (by repeat (first | exact HB.out | exact Below.refl _ _ | apply below_alloc | apply pw_below_drewN | apply below_drew1 | refine below_set ?_ GE379.out))) A4.out).mono ?_); rintro e w8 ⟨rfl, hb⟩; refine ⟨_, rfl, ?_⟩; have n0_ := Aside0.mk (blk_below (g := gb379) (o := .cells #[.bool a0_0, .bool a0_1, .bool a0_2, .int .i64 a0_3, .int .u32 a0_4, .string a0_5, .string a0_6, .string a0_7, .int .u64 a0_8, .int .i64 a0_9, .int .u64 a0_10] 25 (0, 0)) (by (with_reducible repeat (first | refine blk_drewN ?_ _ | refine blk_drew ?_ | refine blk_alloc ?_ _)); exact BK379.out) hb); have n1_ := Aside0.mk (below_step (by repeat (first | (with_reducible first | exact HB.out | apply below_alloc | apply pw_below_drewN | apply below_drew1 | refine below_set ?_ GE379.out) | exact HB.out)) hb); clear BK379; clear HB; have BK379 := n0_; have HB := n1_; clear n0_ n1_; (try clear hb); (try clear hb2); (try clear hk); (try clear hi)))
 (try simp only [Act.put, List.setIfInBounds_toArray, List.set_cons_zero, List.set_cons_succ])
 go_cut [40] (fun v40 wc => ∃ (kq : Nat) (x40_4 : Bool), v40 = .bool x40_4 ∧ Aside0 (dominolaw04_HeaderUnmasks.j0 kq a1 a2 t380 x40_4 a0_0 a0_1 a0_2 a0_3 a0_4 a0_5 a0_6 a0_7 a0_8 a0_9 a0_10 = some r) ∧ Aside0 (kq ≤ k) ∧ Aside0 (wc.heap[gb379]? = some (.cells #[.bool a0_0, .bool a0_1, .bool a0_2, .int .i64 a0_3, .int .u32 a0_4, .string a0_5, .string a0_6, .string a0_7, .int .u64 a0_8, .int .i64 a0_9, .int .u64 a0_10] 25 (0, 0))) ∧ Aside0 (Below w.heap.size w wc))
 case first =>
  have H := HC5.out
  clear HC5
  replace H := Option.bind_eq_some_iff.mp H
  obtain ⟨t382, A90, H⟩ := H
  replace H : (if t382 = true then (if (a1.size : Int) > 1000 then (dominolaw04_HeaderUnmasks.j0 k a1 a2 t380 true a0_0 a0_1 a0_2 a0_3 a0_4 a0_5 a0_6 a0_7 a0_8 a0_9 a0_10) else (if (a2.size : Int) = 5 then (if t381 = 0 then ((dominolaw04_shown.f k).bind fun t383 => (dominolaw04_HeaderUnmasks.j0 k a1 a2 t380 (!t383) a0_0 a0_1 a0_2 a0_3 a0_4 a0_5 a0_6 a0_7 a0_8 a0_9 a0_10)) else (dominolaw04_HeaderUnmasks.j0 k a1 a2 t380 true a0_0 a0_1 a0_2 a0_3 a0_4 a0_5 a0_6 a0_7 a0_8 a0_9 a0_10)) else (dominolaw04_HeaderUnmasks.j0 k a1 a2 t380 true a0_0 a0_1 a0_2 a0_3 a0_4 a0_5 a0_6 a0_7 a0_8 a0_9 a0_10))) else (dominolaw04_HeaderUnmasks.j0 k a1 a2 t380 true a0_0 a0_1 a0_2 a0_3 a0_4 a0_5 a0_6 a0_7 a0_8 a0_9 a0_10)) = some r := H
  have A9 := Aside0.mk A90
  clear A90
  by_cases c10 : t382 = true
  ·subst c10
   have H1 : (if (a1.size : Int) > 1000 then (dominolaw04_HeaderUnmasks.j0 k a1 a2 t380 true a0_0 a0_1 a0_2 a0_3 a0_4 a0_5 a0_6 a0_7 a0_8 a0_9 a0_10) else (if (a2.size : Int) = 5 then (if t381 = 0 then ((dominolaw04_shown.f k).bind fun t383 => (dominolaw04_HeaderUnmasks.j0 k a1 a2 t380 (!t383) a0_0 a0_1 a0_2 a0_3 a0_4 a0_5 a0_6 a0_7 a0_8 a0_9 a0_10)) else (dominolaw04_HeaderUnmasks.j0 k a1 a2 t380 true a0_0 a0_1 a0_2 a0_3 a0_4 a0_5 a0_6 a0_7 a0_8 a0_9 a0_10)) else (dominolaw04_HeaderUnmasks.j0 k a1 a2 t380 true a0_0 a0_1 a0_2 a0_3 a0_4 a0_5 a0_6 a0_7 a0_8 a0_9 a0_10))) = some r := by rw [if_pos rfl] at H; exact H
   clear H
   have H := H1
   clear H1
   by_cases c11 : (a1.size : Int) > 1000
   ·rw [if_pos c11] at H
    have c11b0 : decide (1000 < (a1.size : Int)) = true := decide_eq_true c11
    have c11b1 : decide (1000 < a1.size) = true := decide_eq_true (by omega)
    clear c11
    (first | rw [c11b0] | (simp only [i64_w, i32_w]; rw [c11b0]) | skip)
    have H' := Aside0.mk H
    clear H
    have hcz12_0 : w8.cell? ⟨gb379, 0, none⟩ = some (.bool a0_0) := (blk_cell BK379.out 0).trans rfl
    have hcz12_1 : w8.cell? ⟨gb379, 1, none⟩ = some (.bool a0_1) := (blk_cell BK379.out 1).trans rfl
    have hcz12_2 : w8.cell? ⟨gb379, 2, none⟩ = some (.bool a0_2) := (blk_cell BK379.out 2).trans rfl
    have hcz12_3 : w8.cell? ⟨gb379, 3, none⟩ = some (.int .i64 a0_3) := (blk_cell BK379.out 3).trans rfl
    have hcz12_4 : w8.cell? ⟨gb379, 4, none⟩ = some (.int .u32 a0_4) := (blk_cell BK379.out 4).trans rfl
    have hcz12_5 : w8.cell? ⟨gb379, 5, none⟩ = some (.string a0_5) := (blk_cell BK379.out 5).trans rfl
    have hcz12_6 : w8.cell? ⟨gb379, 6, none⟩ = some (.string a0_6) := (blk_cell BK379.out 6).trans rfl
    have hcz12_7 : w8.cell? ⟨gb379, 7, none⟩ = some (.string a0_7) := (blk_cell BK379.out 7).trans rfl
    have hcz12_8 : w8.cell? ⟨gb379, 8, none⟩ = some (.int .u64 a0_8) := (blk_cell BK379.out 8).trans rfl
    have hcz12_9 : w8.cell? ⟨gb379, 9, none⟩ = some (.int .i64 a0_9) := (blk_cell BK379.out 9).trans rfl
    have hcz12_10 : w8.cell? ⟨gb379, 10, none⟩ = some (.int .u64 a0_10) := (blk_cell BK379.out 10).trans rfl
    have hfz12_0 := blk_frozen BK379.out 0
    have hfz12_1 := blk_frozen BK379.out 1
    have hfz12_2 := blk_frozen BK379.out 2
    have hfz12_3 := blk_frozen BK379.out 3
    have hfz12_4 := blk_frozen BK379.out 4
    have hfz12_5 := blk_frozen BK379.out 5
    have hfz12_6 := blk_frozen BK379.out 6
    have hfz12_7 := blk_frozen BK379.out 7
    have hfz12_8 := blk_frozen BK379.out 8
    have hfz12_9 := blk_frozen BK379.out 9
    have hfz12_10 := blk_frozen BK379.out 10
    go_wp2_with (first | ((with_reducible refine gate_callee (f := 10) rfl ?_); refine goesL_ (some 21) rfl rfl Tryd.func10 (by kernel_rfl) rfl #[.agg #[.bool a0_0, .bool a0_1, .bool a0_2, .int .i64 a0_3, .int .u32 a0_4, .string a0_5, .string a0_6, .string a0_7, .int .u64 a0_8, .int .i64 a0_9, .int .u64 a0_10]] rfl (by (try simp only [List.map_toArray, List.map_cons, List.map_nil]); first | done | rfl | (simp only [List.length_drop, List.length_take]; rfl)) ?_; (with_reducible refine (dominolaw04_bounded.calls a0_0 a0_1 a0_2 a0_3 a0_4 a0_5 a0_6 a0_7 a0_8 a0_9 a0_10 true _ A9.out).mono ?_); rintro e w13 ⟨rfl, hb⟩; refine ⟨_, rfl, ?_⟩; have n0_ := Aside0.mk (blk_below (g := gb379) (o := .cells #[.bool a0_0, .bool a0_1, .bool a0_2, .int .i64 a0_3, .int .u32 a0_4, .string a0_5, .string a0_6, .string a0_7, .int .u64 a0_8, .int .i64 a0_9, .int .u64 a0_10] 25 (0, 0)) (by (with_reducible repeat (first | refine blk_drewN ?_ _ | refine blk_drew ?_ | refine blk_alloc ?_ _)); exact BK379.out) hb); have n1_ := Aside0.mk (below_step (by repeat (first | (with_reducible first | exact HB.out | apply below_alloc | apply pw_below_drewN | apply below_drew1 | refine below_set ?_ GE379.out) | exact HB.out)) hb); clear BK379; clear HB; have BK379 := n0_; have HB := n1_; clear n0_ n1_; (try clear hb); (try clear hb2); (try clear hk); (try clear hi)))
    go_meet
    case rel => exact ⟨_, (true), (by first | rfl | (simp; done) | (simp [*]; done)), H', ⟨by first | omega | exact Nat.le_refl _⟩, ⟨by (with_reducible repeat (first | refine blk_drewN ?_ _ | refine blk_drew ?_ | refine blk_alloc ?_ _)); exact BK379.out⟩, ⟨by repeat (first | (with_reducible first | exact HB.out | apply below_alloc | apply pw_below_drewN | apply below_drew1 | refine below_set ?_ GE379.out) | exact HB.out)⟩⟩
   ·rw [if_neg c11] at H
    have c11b0 : decide (1000 < (a1.size : Int)) = false := decide_eq_false c11
    have c11b1 : decide (1000 < a1.size) = false := decide_eq_false (by omega)
    clear c11
    (first | rw [c11b0] | (simp only [i64_w, i32_w]; rw [c11b0]) | skip)
    by_cases c14 : (a2.size : Int) = 5
    ·rw [if_pos c14] at H
     have c14b0 : ((a2.size : Int) == 5) = true := beq_iff_eq.mpr c14
     have c14b1 : ((a2.size : Int) != 5) = false := bne_eq_false_iff_eq.mpr c14
     clear c14
     by_cases c15 : t381 = 0
     ·rw [if_pos c15] at H
      have c15b0 : (t381 == 0) = true := beq_iff_eq.mpr c15
      have c15b1 : (t381 != 0) = false := bne_eq_false_iff_eq.mpr c15
      clear c15
      replace H := Option.bind_eq_some_iff.mp H
      obtain ⟨t383, A160, H⟩ := H
      replace H : (dominolaw04_HeaderUnmasks.j0 k a1 a2 t380 (!t383) a0_0 a0_1 a0_2 a0_3 a0_4 a0_5 a0_6 a0_7 a0_8 a0_9 a0_10) = some r := H
      have A16 := Aside0.mk A160
      clear A160
      have H' := Aside0.mk H
      clear H
      have hcz17_0 : w8.cell? ⟨gb379, 0, none⟩ = some (.bool a0_0) := (blk_cell BK379.out 0).trans rfl
      have hcz17_1 : w8.cell? ⟨gb379, 1, none⟩ = some (.bool a0_1) := (blk_cell BK379.out 1).trans rfl
      have hcz17_2 : w8.cell? ⟨gb379, 2, none⟩ = some (.bool a0_2) := (blk_cell BK379.out 2).trans rfl
      have hcz17_3 : w8.cell? ⟨gb379, 3, none⟩ = some (.int .i64 a0_3) := (blk_cell BK379.out 3).trans rfl
      have hcz17_4 : w8.cell? ⟨gb379, 4, none⟩ = some (.int .u32 a0_4) := (blk_cell BK379.out 4).trans rfl
      have hcz17_5 : w8.cell? ⟨gb379, 5, none⟩ = some (.string a0_5) := (blk_cell BK379.out 5).trans rfl
      have hcz17_6 : w8.cell? ⟨gb379, 6, none⟩ = some (.string a0_6) := (blk_cell BK379.out 6).trans rfl
      have hcz17_7 : w8.cell? ⟨gb379, 7, none⟩ = some (.string a0_7) := (blk_cell BK379.out 7).trans rfl
      have hcz17_8 : w8.cell? ⟨gb379, 8, none⟩ = some (.int .u64 a0_8) := (blk_cell BK379.out 8).trans rfl
      have hcz17_9 : w8.cell? ⟨gb379, 9, none⟩ = some (.int .i64 a0_9) := (blk_cell BK379.out 9).trans rfl
      have hcz17_10 : w8.cell? ⟨gb379, 10, none⟩ = some (.int .u64 a0_10) := (blk_cell BK379.out 10).trans rfl
      have hfz17_0 := blk_frozen BK379.out 0
      have hfz17_1 := blk_frozen BK379.out 1
      have hfz17_2 := blk_frozen BK379.out 2
      have hfz17_3 := blk_frozen BK379.out 3
      have hfz17_4 := blk_frozen BK379.out 4
      have hfz17_5 := blk_frozen BK379.out 5
      have hfz17_6 := blk_frozen BK379.out 6
      have hfz17_7 := blk_frozen BK379.out 7
      have hfz17_8 := blk_frozen BK379.out 8
      have hfz17_9 := blk_frozen BK379.out 9
      have hfz17_10 := blk_frozen BK379.out 10
      go_wp2_with (first | ((with_reducible refine gate_callee (f := 10) rfl ?_); refine goesL_ (some 21) rfl rfl Tryd.func10 (by kernel_rfl) rfl #[.agg #[.bool a0_0, .bool a0_1, .bool a0_2, .int .i64 a0_3, .int .u32 a0_4, .string a0_5, .string a0_6, .string a0_7, .int .u64 a0_8, .int .i64 a0_9, .int .u64 a0_10]] rfl (by (try simp only [List.map_toArray, List.map_cons, List.map_nil]); first | done | rfl | (simp only [List.length_drop, List.length_take]; rfl)) ?_; (with_reducible refine (dominolaw04_bounded.calls a0_0 a0_1 a0_2 a0_3 a0_4 a0_5 a0_6 a0_7 a0_8 a0_9 a0_10 true _ A9.out).mono ?_); rintro e w18 ⟨rfl, hb⟩; refine ⟨_, rfl, ?_⟩; have n0_ := Aside0.mk (blk_below (g := gb379) (o := .cells #[.bool a0_0, .bool a0_1, .bool a0_2, .int .i64 a0_3, .int .u32 a0_4, .string a0_5, .string a0_6, .string a0_7, .int .u64 a0_8, .int .i64 a0_9, .int .u64 a0_10] 25 (0, 0)) (by (with_reducible repeat (first | refine blk_drewN ?_ _ | refine blk_drew ?_ | refine blk_alloc ?_ _)); exact BK379.out) hb); have n1_ := Aside0.mk (below_step (by repeat (first | (with_reducible first | exact HB.out | apply below_alloc | apply pw_below_drewN | apply below_drew1 | refine below_set ?_ GE379.out) | exact HB.out)) hb); clear BK379; clear HB; have BK379 := n0_; have HB := n1_; clear n0_ n1_; (try clear hb); (try clear hb2); (try clear hk); (try clear hi)) | (go_at_call 11; (with_reducible refine (dominolaw04_shown.calls k  t383 _ (by first | exact HTab.out | exact tab_below HTab.out HB.out | exact (tab_below HTab.out (by repeat (first | (with_reducible first | exact HB.out | apply below_alloc | apply pw_below_drewN | apply below_drew1 | refine below_set ?_ GE379.out) | exact HB.out))) | exact tab_below HTab.out (by repeat (first | exact HB.out | exact Below.refl _ _ | apply below_alloc | apply pw_below_drewN | apply below_drew1 | refine below_set ?_ GE379.out))) A16.out).mono ?_); rintro e w19 ⟨rfl, hb⟩; have n0_ := Aside0.mk (blk_below (g := gb379) (o := .cells #[.bool a0_0, .bool a0_1, .bool a0_2, .int .i64 a0_3, .int .u32 a0_4, .string a0_5, .string a0_6, .string a0_7, .int .u64 a0_8, .int .i64 a0_9, .int .u64 a0_10] 25 (0, 0)) (by (with_reducible repeat (first | refine blk_drewN ?_ _ | refine blk_drew ?_ | refine blk_alloc ?_ _)); exact BK379.out) hb); have n1_ := Aside0.mk (below_step (by repeat (first | (with_reducible first | exact HB.out | apply below_alloc | apply pw_below_drewN | apply below_drew1 | refine below_set ?_ GE379.out) | exact HB.out)) hb); clear BK379; clear HB; have BK379 := n0_; have HB := n1_; clear n0_ n1_; (try clear hb); (try clear hb2); (try clear hk); (try clear hi)))
      go_meet
      case rel => exact ⟨_, (!t383), (by first | rfl | (simp; done) | (simp [*]; done)), H', ⟨by first | omega | exact Nat.le_refl _⟩, ⟨by (with_reducible repeat (first | refine blk_drewN ?_ _ | refine blk_drew ?_ | refine blk_alloc ?_ _)); exact BK379.out⟩, ⟨by repeat (first | (with_reducible first | exact HB.out | apply below_alloc | apply pw_below_drewN | apply below_drew1 | refine below_set ?_ GE379.out) | exact HB.out)⟩⟩
     ·rw [if_neg c15] at H
      have c15b0 : (t381 == 0) = false := beq_eq_false_iff_ne.mpr c15
      have c15b1 : (t381 != 0) = true := bne_iff_ne.mpr c15
      have H' := Aside0.mk H
      clear H
      have hcz20_0 : w8.cell? ⟨gb379, 0, none⟩ = some (.bool a0_0) := (blk_cell BK379.out 0).trans rfl
      have hcz20_1 : w8.cell? ⟨gb379, 1, none⟩ = some (.bool a0_1) := (blk_cell BK379.out 1).trans rfl
      have hcz20_2 : w8.cell? ⟨gb379, 2, none⟩ = some (.bool a0_2) := (blk_cell BK379.out 2).trans rfl
      have hcz20_3 : w8.cell? ⟨gb379, 3, none⟩ = some (.int .i64 a0_3) := (blk_cell BK379.out 3).trans rfl
      have hcz20_4 : w8.cell? ⟨gb379, 4, none⟩ = some (.int .u32 a0_4) := (blk_cell BK379.out 4).trans rfl
      have hcz20_5 : w8.cell? ⟨gb379, 5, none⟩ = some (.string a0_5) := (blk_cell BK379.out 5).trans rfl
      have hcz20_6 : w8.cell? ⟨gb379, 6, none⟩ = some (.string a0_6) := (blk_cell BK379.out 6).trans rfl
      have hcz20_7 : w8.cell? ⟨gb379, 7, none⟩ = some (.string a0_7) := (blk_cell BK379.out 7).trans rfl
      have hcz20_8 : w8.cell? ⟨gb379, 8, none⟩ = some (.int .u64 a0_8) := (blk_cell BK379.out 8).trans rfl
      have hcz20_9 : w8.cell? ⟨gb379, 9, none⟩ = some (.int .i64 a0_9) := (blk_cell BK379.out 9).trans rfl
      have hcz20_10 : w8.cell? ⟨gb379, 10, none⟩ = some (.int .u64 a0_10) := (blk_cell BK379.out 10).trans rfl
      have hfz20_0 := blk_frozen BK379.out 0
      have hfz20_1 := blk_frozen BK379.out 1
      have hfz20_2 := blk_frozen BK379.out 2
      have hfz20_3 := blk_frozen BK379.out 3
      have hfz20_4 := blk_frozen BK379.out 4
      have hfz20_5 := blk_frozen BK379.out 5
      have hfz20_6 := blk_frozen BK379.out 6
      have hfz20_7 := blk_frozen BK379.out 7
      have hfz20_8 := blk_frozen BK379.out 8
      have hfz20_9 := blk_frozen BK379.out 9
      have hfz20_10 := blk_frozen BK379.out 10
      go_wp2_with (first | ((with_reducible refine gate_callee (f := 10) rfl ?_); refine goesL_ (some 21) rfl rfl Tryd.func10 (by kernel_rfl) rfl #[.agg #[.bool a0_0, .bool a0_1, .bool a0_2, .int .i64 a0_3, .int .u32 a0_4, .string a0_5, .string a0_6, .string a0_7, .int .u64 a0_8, .int .i64 a0_9, .int .u64 a0_10]] rfl (by (try simp only [List.map_toArray, List.map_cons, List.map_nil]); first | done | rfl | (simp only [List.length_drop, List.length_take]; rfl)) ?_; (with_reducible refine (dominolaw04_bounded.calls a0_0 a0_1 a0_2 a0_3 a0_4 a0_5 a0_6 a0_7 a0_8 a0_9 a0_10 true _ A9.out).mono ?_); rintro e w21 ⟨rfl, hb⟩; refine ⟨_, rfl, ?_⟩; have n0_ := Aside0.mk (blk_below (g := gb379) (o := .cells #[.bool a0_0, .bool a0_1, .bool a0_2, .int .i64 a0_3, .int .u32 a0_4, .string a0_5, .string a0_6, .string a0_7, .int .u64 a0_8, .int .i64 a0_9, .int .u64 a0_10] 25 (0, 0)) (by (with_reducible repeat (first | refine blk_drewN ?_ _ | refine blk_drew ?_ | refine blk_alloc ?_ _)); exact BK379.out) hb); have n1_ := Aside0.mk (below_step (by repeat (first | (with_reducible first | exact HB.out | apply below_alloc | apply pw_below_drewN | apply below_drew1 | refine below_set ?_ GE379.out) | exact HB.out)) hb); clear BK379; clear HB; have BK379 := n0_; have HB := n1_; clear n0_ n1_; (try clear hb); (try clear hb2); (try clear hk); (try clear hi)))
      go_meet
      case rel => exact ⟨_, (true), (by first | rfl | (simp; done) | (simp [*]; done)), H', ⟨by first | omega | exact Nat.le_refl _⟩, ⟨by (with_reducible repeat (first | refine blk_drewN ?_ _ | refine blk_drew ?_ | refine blk_alloc ?_ _)); exact BK379.out⟩, ⟨by repeat (first | (with_reducible first | exact HB.out | apply below_alloc | apply pw_below_drewN | apply below_drew1 | refine below_set ?_ GE379.out) | exact HB.out)⟩⟩
    ·rw [if_neg c14] at H
     have c14b0 : ((a2.size : Int) == 5) = false := beq_eq_false_iff_ne.mpr c14
     have c14b1 : ((a2.size : Int) != 5) = true := bne_iff_ne.mpr c14
     have H' := Aside0.mk H
     clear H
     have hcz22_0 : w8.cell? ⟨gb379, 0, none⟩ = some (.bool a0_0) := (blk_cell BK379.out 0).trans rfl
     have hcz22_1 : w8.cell? ⟨gb379, 1, none⟩ = some (.bool a0_1) := (blk_cell BK379.out 1).trans rfl
     have hcz22_2 : w8.cell? ⟨gb379, 2, none⟩ = some (.bool a0_2) := (blk_cell BK379.out 2).trans rfl
     have hcz22_3 : w8.cell? ⟨gb379, 3, none⟩ = some (.int .i64 a0_3) := (blk_cell BK379.out 3).trans rfl
     have hcz22_4 : w8.cell? ⟨gb379, 4, none⟩ = some (.int .u32 a0_4) := (blk_cell BK379.out 4).trans rfl
     have hcz22_5 : w8.cell? ⟨gb379, 5, none⟩ = some (.string a0_5) := (blk_cell BK379.out 5).trans rfl
     have hcz22_6 : w8.cell? ⟨gb379, 6, none⟩ = some (.string a0_6) := (blk_cell BK379.out 6).trans rfl
     have hcz22_7 : w8.cell? ⟨gb379, 7, none⟩ = some (.string a0_7) := (blk_cell BK379.out 7).trans rfl
     have hcz22_8 : w8.cell? ⟨gb379, 8, none⟩ = some (.int .u64 a0_8) := (blk_cell BK379.out 8).trans rfl
     have hcz22_9 : w8.cell? ⟨gb379, 9, none⟩ = some (.int .i64 a0_9) := (blk_cell BK379.out 9).trans rfl
     have hcz22_10 : w8.cell? ⟨gb379, 10, none⟩ = some (.int .u64 a0_10) := (blk_cell BK379.out 10).trans rfl
     have hfz22_0 := blk_frozen BK379.out 0
     have hfz22_1 := blk_frozen BK379.out 1
     have hfz22_2 := blk_frozen BK379.out 2
     have hfz22_3 := blk_frozen BK379.out 3
     have hfz22_4 := blk_frozen BK379.out 4
     have hfz22_5 := blk_frozen BK379.out 5
     have hfz22_6 := blk_frozen BK379.out 6
     have hfz22_7 := blk_frozen BK379.out 7
     have hfz22_8 := blk_frozen BK379.out 8
     have hfz22_9 := blk_frozen BK379.out 9
     have hfz22_10 := blk_frozen BK379.out 10
     go_wp2_with (first | ((with_reducible refine gate_callee (f := 10) rfl ?_); refine goesL_ (some 21) rfl rfl Tryd.func10 (by kernel_rfl) rfl #[.agg #[.bool a0_0, .bool a0_1, .bool a0_2, .int .i64 a0_3, .int .u32 a0_4, .string a0_5, .string a0_6, .string a0_7, .int .u64 a0_8, .int .i64 a0_9, .int .u64 a0_10]] rfl (by (try simp only [List.map_toArray, List.map_cons, List.map_nil]); first | done | rfl | (simp only [List.length_drop, List.length_take]; rfl)) ?_; (with_reducible refine (dominolaw04_bounded.calls a0_0 a0_1 a0_2 a0_3 a0_4 a0_5 a0_6 a0_7 a0_8 a0_9 a0_10 true _ A9.out).mono ?_); rintro e w23 ⟨rfl, hb⟩; refine ⟨_, rfl, ?_⟩; have n0_ := Aside0.mk (blk_below (g := gb379) (o := .cells #[.bool a0_0, .bool a0_1, .bool a0_2, .int .i64 a0_3, .int .u32 a0_4, .string a0_5, .string a0_6, .string a0_7, .int .u64 a0_8, .int .i64 a0_9, .int .u64 a0_10] 25 (0, 0)) (by (with_reducible repeat (first | refine blk_drewN ?_ _ | refine blk_drew ?_ | refine blk_alloc ?_ _)); exact BK379.out) hb); have n1_ := Aside0.mk (below_step (by repeat (first | (with_reducible first | exact HB.out | apply below_alloc | apply pw_below_drewN | apply below_drew1 | refine below_set ?_ GE379.out) | exact HB.out)) hb); clear BK379; clear HB; have BK379 := n0_; have HB := n1_; clear n0_ n1_; (try clear hb); (try clear hb2); (try clear hk); (try clear hi)))
     go_meet
     case rel => exact ⟨_, (true), (by first | rfl | (simp; done) | (simp [*]; done)), H', ⟨by first | omega | exact Nat.le_refl _⟩, ⟨by (with_reducible repeat (first | refine blk_drewN ?_ _ | refine blk_drew ?_ | refine blk_alloc ?_ _)); exact BK379.out⟩, ⟨by repeat (first | (with_reducible first | exact HB.out | apply below_alloc | apply pw_below_drewN | apply below_drew1 | refine below_set ?_ GE379.out) | exact HB.out)⟩⟩
  ·replace c10 := Bool.eq_false_iff.mpr c10
   subst c10
   have H1 : (dominolaw04_HeaderUnmasks.j0 k a1 a2 t380 true a0_0 a0_1 a0_2 a0_3 a0_4 a0_5 a0_6 a0_7 a0_8 a0_9 a0_10) = some r := by rw [if_neg (show ¬ (false = true) by decide)] at H; exact H
   clear H
   have H := H1
   clear H1
   have H' := Aside0.mk H
   clear H
   have hcz24_0 : w8.cell? ⟨gb379, 0, none⟩ = some (.bool a0_0) := (blk_cell BK379.out 0).trans rfl
   have hcz24_1 : w8.cell? ⟨gb379, 1, none⟩ = some (.bool a0_1) := (blk_cell BK379.out 1).trans rfl
   have hcz24_2 : w8.cell? ⟨gb379, 2, none⟩ = some (.bool a0_2) := (blk_cell BK379.out 2).trans rfl
   have hcz24_3 : w8.cell? ⟨gb379, 3, none⟩ = some (.int .i64 a0_3) := (blk_cell BK379.out 3).trans rfl
   have hcz24_4 : w8.cell? ⟨gb379, 4, none⟩ = some (.int .u32 a0_4) := (blk_cell BK379.out 4).trans rfl
   have hcz24_5 : w8.cell? ⟨gb379, 5, none⟩ = some (.string a0_5) := (blk_cell BK379.out 5).trans rfl
   have hcz24_6 : w8.cell? ⟨gb379, 6, none⟩ = some (.string a0_6) := (blk_cell BK379.out 6).trans rfl
   have hcz24_7 : w8.cell? ⟨gb379, 7, none⟩ = some (.string a0_7) := (blk_cell BK379.out 7).trans rfl
   have hcz24_8 : w8.cell? ⟨gb379, 8, none⟩ = some (.int .u64 a0_8) := (blk_cell BK379.out 8).trans rfl
   have hcz24_9 : w8.cell? ⟨gb379, 9, none⟩ = some (.int .i64 a0_9) := (blk_cell BK379.out 9).trans rfl
   have hcz24_10 : w8.cell? ⟨gb379, 10, none⟩ = some (.int .u64 a0_10) := (blk_cell BK379.out 10).trans rfl
   have hfz24_0 := blk_frozen BK379.out 0
   have hfz24_1 := blk_frozen BK379.out 1
   have hfz24_2 := blk_frozen BK379.out 2
   have hfz24_3 := blk_frozen BK379.out 3
   have hfz24_4 := blk_frozen BK379.out 4
   have hfz24_5 := blk_frozen BK379.out 5
   have hfz24_6 := blk_frozen BK379.out 6
   have hfz24_7 := blk_frozen BK379.out 7
   have hfz24_8 := blk_frozen BK379.out 8
   have hfz24_9 := blk_frozen BK379.out 9
   have hfz24_10 := blk_frozen BK379.out 10
   go_wp2_with (first | ((with_reducible refine gate_callee (f := 10) rfl ?_); refine goesL_ (some 21) rfl rfl Tryd.func10 (by kernel_rfl) rfl #[.agg #[.bool a0_0, .bool a0_1, .bool a0_2, .int .i64 a0_3, .int .u32 a0_4, .string a0_5, .string a0_6, .string a0_7, .int .u64 a0_8, .int .i64 a0_9, .int .u64 a0_10]] rfl (by (try simp only [List.map_toArray, List.map_cons, List.map_nil]); first | done | rfl | (simp only [List.length_drop, List.length_take]; rfl)) ?_; (with_reducible refine (dominolaw04_bounded.calls a0_0 a0_1 a0_2 a0_3 a0_4 a0_5 a0_6 a0_7 a0_8 a0_9 a0_10 false _ A9.out).mono ?_); rintro e w25 ⟨rfl, hb⟩; refine ⟨_, rfl, ?_⟩; have n0_ := Aside0.mk (blk_below (g := gb379) (o := .cells #[.bool a0_0, .bool a0_1, .bool a0_2, .int .i64 a0_3, .int .u32 a0_4, .string a0_5, .string a0_6, .string a0_7, .int .u64 a0_8, .int .i64 a0_9, .int .u64 a0_10] 25 (0, 0)) (by (with_reducible repeat (first | refine blk_drewN ?_ _ | refine blk_drew ?_ | refine blk_alloc ?_ _)); exact BK379.out) hb); have n1_ := Aside0.mk (below_step (by repeat (first | (with_reducible first | exact HB.out | apply below_alloc | apply pw_below_drewN | apply below_drew1 | refine below_set ?_ GE379.out) | exact HB.out)) hb); clear BK379; clear HB; have BK379 := n0_; have HB := n1_; clear n0_ n1_; (try clear hb); (try clear hb2); (try clear hk); (try clear hi)))
   go_meet
   case rel => exact ⟨_, (true), (by first | rfl | (simp; done) | (simp [*]; done)), H', ⟨by first | omega | exact Nat.le_refl _⟩, ⟨by (with_reducible repeat (first | refine blk_drewN ?_ _ | refine blk_drew ?_ | refine blk_alloc ?_ _)); exact BK379.out⟩, ⟨by repeat (first | (with_reducible first | exact HB.out | apply below_alloc | apply pw_below_drewN | apply below_drew1 | refine below_set ?_ GE379.out) | exact HB.out)⟩⟩
 case rest =>
  clear HC5
  try clear c1
  try clear p2
  try clear c6
  try clear c10
  try clear c11
  try clear c11b0
  try clear c11b1
  try clear c12
  try clear c14
  try clear c14b0
  try clear c14b1
  try clear c15
  try clear c15b0
  try clear c15b1
  try clear hcz12_0
  try clear hcz12_1
  try clear hcz12_10
  try clear hcz12_2
  try clear hcz12_3
  try clear hcz12_4
  try clear hcz12_5
  try clear hcz12_6
  try clear hcz12_7
  try clear hcz12_8
  try clear hcz12_9
  try clear hcz17_0
  try clear hcz17_1
  try clear hcz17_10
  try clear hcz17_2
  try clear hcz17_3
  try clear hcz17_4
  try clear hcz17_5
  try clear hcz17_6
  try clear hcz17_7
  try clear hcz17_8
  try clear hcz17_9
  try clear hcz20_0
  try clear hcz20_1
  try clear hcz20_10
  try clear hcz20_2
  try clear hcz20_3
  try clear hcz20_4
  try clear hcz20_5
  try clear hcz20_6
  try clear hcz20_7
  try clear hcz20_8
  try clear hcz20_9
  try clear hcz22_0
  try clear hcz22_1
  try clear hcz22_10
  try clear hcz22_2
  try clear hcz22_3
  try clear hcz22_4
  try clear hcz22_5
  try clear hcz22_6
  try clear hcz22_7
  try clear hcz22_8
  try clear hcz22_9
  try clear hcz24_0
  try clear hcz24_1
  try clear hcz24_10
  try clear hcz24_2
  try clear hcz24_3
  try clear hcz24_4
  try clear hcz24_5
  try clear hcz24_6
  try clear hcz24_7
  try clear hcz24_8
  try clear hcz24_9
  try clear hcz7_0
  try clear hcz7_1
  try clear hcz7_10
  try clear hcz7_2
  try clear hcz7_3
  try clear hcz7_4
  try clear hcz7_5
  try clear hcz7_6
  try clear hcz7_7
  try clear hcz7_8
  try clear hcz7_9
  try clear hfz12_0
  try clear hfz12_1
  try clear hfz12_10
  try clear hfz12_2
  try clear hfz12_3
  try clear hfz12_4
  try clear hfz12_5
  try clear hfz12_6
  try clear hfz12_7
  try clear hfz12_8
  try clear hfz12_9
  try clear hfz17_0
  try clear hfz17_1
  try clear hfz17_10
  try clear hfz17_2
  try clear hfz17_3
  try clear hfz17_4
  try clear hfz17_5
  try clear hfz17_6
  try clear hfz17_7
  try clear hfz17_8
  try clear hfz17_9
  try clear hfz20_0
  try clear hfz20_1
  try clear hfz20_10
  try clear hfz20_2
  try clear hfz20_3
  try clear hfz20_4
  try clear hfz20_5
  try clear hfz20_6
  try clear hfz20_7
  try clear hfz20_8
  try clear hfz20_9
  try clear hfz22_0
  try clear hfz22_1
  try clear hfz22_10
  try clear hfz22_2
  try clear hfz22_3
  try clear hfz22_4
  try clear hfz22_5
  try clear hfz22_6
  try clear hfz22_7
  try clear hfz22_8
  try clear hfz22_9
  try clear hfz24_0
  try clear hfz24_1
  try clear hfz24_10
  try clear hfz24_2
  try clear hfz24_3
  try clear hfz24_4
  try clear hfz24_5
  try clear hfz24_6
  try clear hfz24_7
  try clear hfz24_8
  try clear hfz24_9
  try clear hfz7_0
  try clear hfz7_1
  try clear hfz7_10
  try clear hfz7_2
  try clear hfz7_3
  try clear hfz7_4
  try clear hfz7_5
  try clear hfz7_6
  try clear hfz7_7
  try clear hfz7_8
  try clear hfz7_9
  obtain ⟨kq, x40_4, rfl, HA, HJ4, BK379, HB⟩ := hcut
  cases kq with
  | zero => exact absurd HA.out (by simp [dominolaw04_HeaderUnmasks.j0])
  | succ kj4 =>
   have H := HA.out
   clear HA
   simp only [dominolaw04_HeaderUnmasks.j0] at H
   by_cases c26 : x40_4 = true
   ·subst c26
    have H1 : ((dominolaw04_shown.f kj4).bind fun t384 => (some t384)) = some r := by rw [if_pos rfl] at H; exact H
    clear H
    have H := H1
    clear H1
    replace H := Option.bind_eq_some_iff.mp H
    obtain ⟨t384, A270, H⟩ := H
    replace H : (some t384) = some r := H
    have A27 := Aside0.mk A270
    clear A270
    obtain rfl := Option.some.inj H
    go_wp2_with (first | ((with_reducible refine gate_callee (f := 11) rfl ?_); refine goesL_ (some 41) rfl rfl Tryd.func11 (by kernel_rfl) rfl #[] rfl (by (try simp only [List.map_toArray, List.map_cons, List.map_nil]); first | done | rfl | (simp only [List.length_drop, List.length_take]; rfl)) ?_; (with_reducible refine (dominolaw04_shown.calls kj4  t384 _ (by first | exact HTab.out | exact tab_below HTab.out HB.out | exact (tab_below HTab.out (by repeat (first | (with_reducible first | exact HB.out | apply below_alloc | apply pw_below_drewN | apply below_drew1 | refine below_set ?_ GE379.out) | exact HB.out))) | exact tab_below HTab.out (by repeat (first | exact HB.out | exact Below.refl _ _ | apply below_alloc | apply pw_below_drewN | apply below_drew1 | refine below_set ?_ GE379.out))) A27.out).mono ?_); rintro e w28 ⟨rfl, hb⟩; refine ⟨_, rfl, ?_⟩; have n0_ := Aside0.mk (blk_below (g := gb379) (o := .cells #[.bool a0_0, .bool a0_1, .bool a0_2, .int .i64 a0_3, .int .u32 a0_4, .string a0_5, .string a0_6, .string a0_7, .int .u64 a0_8, .int .i64 a0_9, .int .u64 a0_10] 25 (0, 0)) (by (with_reducible repeat (first | refine blk_drewN ?_ _ | refine blk_drew ?_ | refine blk_alloc ?_ _)); exact BK379.out) hb); have n1_ := Aside0.mk (below_step (by repeat (first | (with_reducible first | exact HB.out | apply below_alloc | apply pw_below_drewN | apply below_drew1 | refine below_set ?_ GE379.out) | exact HB.out)) hb); clear BK379; clear HB; have BK379 := n0_; have HB := n1_; clear n0_ n1_; (try clear hb); (try clear hb2); (try clear hk); (try clear hi)))
    go_ret
    exact ⟨by first | rfl | (simp [errW_none, errW_some] <;> rfl) | (simp [*, errW_none, errW_some] <;> rfl), by repeat (first | (with_reducible first | exact HB.out | apply below_alloc | apply pw_below_drewN | apply below_drew1 | refine below_set ?_ GE379.out) | exact HB.out)⟩
   ·replace c26 := Bool.eq_false_iff.mpr c26
    subst c26
    have H1 : (if t380.size + a1.size ≤ 9223372036854775807 then ((header_Mask.f kj4 (t380 ++ a1) a2).bind fun bt385 => ((header_Unmask.f kj4 bt385.1 a2).bind fun bt387 => ((header_Place.f kj4 bt385.1).bind fun bt389 => (if bt385.2 = 0 then (if bt387.2 = 0 then (if bt389.2 = 0 then (if bt387.1.toList = (t380 ++ a1).toList then (if (bt385.1.size : Int) = (bt387.1.size : Int) then (if bt389.1 = (wrap64 ((t380.size : Int) - a0_9)) then (if 0 ≤ (t380.size : Int) then (if (t380.size : Int) ≤ (bt385.1.size : Int) then (some ((bt385.1.extract ((t380.size : Int) : Int).toNat bt385.1.size).toList == a1.toList)) else (none)) else (none)) else (none)) else (none)) else (none)) else (none)) else (none)) else (none))))) else (none)) = some r := by rw [if_neg (show ¬ (false = true) by decide)] at H; exact H
    clear H
    have H := H1
    clear H1
    by_cases c29 : t380.size + a1.size ≤ 9223372036854775807
    ·rw [if_pos c29] at H
     have c29b0 := eq_true c29
     have c29b1 : decide (t380.size + a1.size ≤ 9223372036854775807) = true := decide_eq_true c29
     try have c29b2 : (9223372036854775807 < t380.size + a1.size) = False := eq_false (Nat.not_lt.2 c29)
     replace H := Option.bind_eq_some_iff.mp H
     obtain ⟨⟨t385, t386⟩, A300, H⟩ := H
     replace H : ((header_Unmask.f kj4 t385 a2).bind fun bt387 => ((header_Place.f kj4 t385).bind fun bt389 => (if t386 = 0 then (if bt387.2 = 0 then (if bt389.2 = 0 then (if bt387.1.toList = (t380 ++ a1).toList then (if (t385.size : Int) = (bt387.1.size : Int) then (if bt389.1 = (wrap64 ((t380.size : Int) - a0_9)) then (if 0 ≤ (t380.size : Int) then (if (t380.size : Int) ≤ (t385.size : Int) then (some ((t385.extract ((t380.size : Int) : Int).toNat t385.size).toList == a1.toList)) else (none)) else (none)) else (none)) else (none)) else (none)) else (none)) else (none)) else (none)))) = some r := H
     have A30 := Aside0.mk A300
     clear A300
     replace H := Option.bind_eq_some_iff.mp H
     obtain ⟨⟨t387, t388⟩, A310, H⟩ := H
     replace H : ((header_Place.f kj4 t385).bind fun bt389 => (if t386 = 0 then (if t388 = 0 then (if bt389.2 = 0 then (if t387.toList = (t380 ++ a1).toList then (if (t385.size : Int) = (t387.size : Int) then (if bt389.1 = (wrap64 ((t380.size : Int) - a0_9)) then (if 0 ≤ (t380.size : Int) then (if (t380.size : Int) ≤ (t385.size : Int) then (some ((t385.extract ((t380.size : Int) : Int).toNat t385.size).toList == a1.toList)) else (none)) else (none)) else (none)) else (none)) else (none)) else (none)) else (none)) else (none))) = some r := H
     have A31 := Aside0.mk A310
     clear A310
     replace H := Option.bind_eq_some_iff.mp H
     obtain ⟨⟨t389, t390⟩, A320, H⟩ := H
     replace H : (if t386 = 0 then (if t388 = 0 then (if t390 = 0 then (if t387.toList = (t380 ++ a1).toList then (if (t385.size : Int) = (t387.size : Int) then (if t389 = (wrap64 ((t380.size : Int) - a0_9)) then (if 0 ≤ (t380.size : Int) then (if (t380.size : Int) ≤ (t385.size : Int) then (some ((t385.extract ((t380.size : Int) : Int).toNat t385.size).toList == a1.toList)) else (none)) else (none)) else (none)) else (none)) else (none)) else (none)) else (none)) else (none)) = some r := H
     have A32 := Aside0.mk A320
     clear A320
     by_cases c33 : t386 = 0
     ·rw [if_pos c33] at H
      have c33b0 : (t386 == 0) = true := beq_iff_eq.mpr c33
      have c33b1 : (t386 != 0) = false := bne_eq_false_iff_eq.mpr c33
      clear c33
      by_cases c34 : t388 = 0
      ·rw [if_pos c34] at H
       have c34b0 : (t388 == 0) = true := beq_iff_eq.mpr c34
       have c34b1 : (t388 != 0) = false := bne_eq_false_iff_eq.mpr c34
       clear c34
       by_cases c35 : t390 = 0
       ·rw [if_pos c35] at H
        have c35b0 : (t390 == 0) = true := beq_iff_eq.mpr c35
        have c35b1 : (t390 != 0) = false := bne_eq_false_iff_eq.mpr c35
        clear c35
        by_cases c36 : t387.toList = (t380 ++ a1).toList
        ·rw [if_pos c36] at H
         have c36b0 : (t387.toList == (t380 ++ a1).toList) = true := beq_iff_eq.mpr c36
         have c36b1 : (t387.toList != (t380 ++ a1).toList) = false := bne_eq_false_iff_eq.mpr c36
         clear c36
         by_cases c37 : (t385.size : Int) = (t387.size : Int)
         ·rw [if_pos c37] at H
          have c37b0 : ((t385.size : Int) == (t387.size : Int)) = true := beq_iff_eq.mpr c37
          have c37b1 : ((t385.size : Int) != (t387.size : Int)) = false := bne_eq_false_iff_eq.mpr c37
          have c37b2 : (t385.size == t387.size) = true := by first | simpa using c37 | (simp at c37 ⊢; omega)
          clear c37
          by_cases c38 : t389 = (wrap64 ((t380.size : Int) - a0_9))
          ·rw [if_pos c38] at H
           have c38b0 : (t389 == (wrap64 ((t380.size : Int) - a0_9))) = true := beq_iff_eq.mpr c38
           have c38b1 : (t389 != (wrap64 ((t380.size : Int) - a0_9))) = false := bne_eq_false_iff_eq.mpr c38
           clear c38
           by_cases c39 : 0 ≤ (t380.size : Int)
           ·rw [if_pos c39] at H
            have c39b0 := eq_true c39
            have c39b1 : decide (0 ≤ (t380.size : Int)) = true := decide_eq_true c39
            clear c39
            by_cases c40 : (t380.size : Int) ≤ (t385.size : Int)
            ·rw [if_pos c40] at H
             have c40b0 := eq_true c40
             have c40b1 : decide ((t380.size : Int) ≤ (t385.size : Int)) = true := decide_eq_true c40
             clear c40
             obtain rfl := Option.some.inj H
             go_wp2_with (first | ((with_reducible refine gate_callee (f := 20) rfl ?_); refine goesL_ (some 47) rfl rfl Tryd.func20 (by kernel_rfl) rfl #[.string (t380 ++ a1), .string a2] rfl (by (try simp only [List.map_toArray, List.map_cons, List.map_nil]); first | done | rfl | (simp only [List.length_drop, List.length_take]; rfl)) ?_; (with_reducible refine (header_Mask.calls kj4 (t380 ++ a1) a2 t385 t386 _ A30.out).mono ?_); rintro e w41 ⟨rfl, hb⟩; refine ⟨_, rfl, ?_⟩; have n0_ := Aside0.mk (blk_below (g := gb379) (o := .cells #[.bool a0_0, .bool a0_1, .bool a0_2, .int .i64 a0_3, .int .u32 a0_4, .string a0_5, .string a0_6, .string a0_7, .int .u64 a0_8, .int .i64 a0_9, .int .u64 a0_10] 25 (0, 0)) (by (with_reducible repeat (first | refine blk_drewN ?_ _ | refine blk_drew ?_ | refine blk_alloc ?_ _)); exact BK379.out) hb); have n1_ := Aside0.mk (below_step (by repeat (first | (with_reducible first | exact HB.out | apply below_alloc | apply pw_below_drewN | apply below_drew1 | refine below_set ?_ GE379.out) | exact HB.out)) hb); clear BK379; clear HB; have BK379 := n0_; have HB := n1_; clear n0_ n1_; (try clear hb); (try clear hb2); (try clear hk); (try clear hi)) | ((with_reducible refine gate_callee (f := 22) rfl ?_); refine goesL_ (some 53) rfl rfl Tryd.func22 (by kernel_rfl) rfl #[.string t385, .string a2] rfl (by (try simp only [List.map_toArray, List.map_cons, List.map_nil]); first | done | rfl | (simp only [List.length_drop, List.length_take]; rfl)) ?_; (with_reducible refine (header_Unmask.calls kj4 t385 a2 t387 t388 _ A31.out).mono ?_); rintro e w42 ⟨rfl, hb⟩; refine ⟨_, rfl, ?_⟩; have n0_ := Aside0.mk (blk_below (g := gb379) (o := .cells #[.bool a0_0, .bool a0_1, .bool a0_2, .int .i64 a0_3, .int .u32 a0_4, .string a0_5, .string a0_6, .string a0_7, .int .u64 a0_8, .int .i64 a0_9, .int .u64 a0_10] 25 (0, 0)) (by (with_reducible repeat (first | refine blk_drewN ?_ _ | refine blk_drew ?_ | refine blk_alloc ?_ _)); exact BK379.out) hb); have n1_ := Aside0.mk (below_step (by repeat (first | (with_reducible first | exact HB.out | apply below_alloc | apply pw_below_drewN | apply below_drew1 | refine below_set ?_ GE379.out) | exact HB.out)) hb); clear BK379; clear HB; have BK379 := n0_; have HB := n1_; clear n0_ n1_; (try clear hb); (try clear hb2); (try clear hk); (try clear hi)) | ((with_reducible refine gate_callee (f := 16) rfl ?_); refine goesL_ (some 58) rfl rfl Tryd.func16 (by kernel_rfl) rfl #[.string t385] rfl (by (try simp only [List.map_toArray, List.map_cons, List.map_nil]); first | done | rfl | (simp only [List.length_drop, List.length_take]; rfl)) ?_; (with_reducible refine (header_Place.calls kj4 t385 t389 t390 _ A32.out).mono ?_); rintro e w43 ⟨rfl, hb⟩; refine ⟨_, rfl, ?_⟩; have n0_ := Aside0.mk (blk_below (g := gb379) (o := .cells #[.bool a0_0, .bool a0_1, .bool a0_2, .int .i64 a0_3, .int .u32 a0_4, .string a0_5, .string a0_6, .string a0_7, .int .u64 a0_8, .int .i64 a0_9, .int .u64 a0_10] 25 (0, 0)) (by (with_reducible repeat (first | refine blk_drewN ?_ _ | refine blk_drew ?_ | refine blk_alloc ?_ _)); exact BK379.out) hb); have n1_ := Aside0.mk (below_step (by repeat (first | (with_reducible first | exact HB.out | apply below_alloc | apply pw_below_drewN | apply below_drew1 | refine below_set ?_ GE379.out) | exact HB.out)) hb); clear BK379; clear HB; have BK379 := n0_; have HB := n1_; clear n0_ n1_; (try clear hb); (try clear hb2); (try clear hk); (try clear hi); have hcz44_0 : w43.cell? ⟨gb379, 0, none⟩ = some (.bool a0_0) := (blk_cell BK379.out 0).trans rfl; have hcz44_1 : w43.cell? ⟨gb379, 1, none⟩ = some (.bool a0_1) := (blk_cell BK379.out 1).trans rfl; have hcz44_2 : w43.cell? ⟨gb379, 2, none⟩ = some (.bool a0_2) := (blk_cell BK379.out 2).trans rfl; have hcz44_3 : w43.cell? ⟨gb379, 3, none⟩ = some (.int .i64 a0_3) := (blk_cell BK379.out 3).trans rfl; have hcz44_4 : w43.cell? ⟨gb379, 4, none⟩ = some (.int .u32 a0_4) := (blk_cell BK379.out 4).trans rfl; have hcz44_5 : w43.cell? ⟨gb379, 5, none⟩ = some (.string a0_5) := (blk_cell BK379.out 5).trans rfl; have hcz44_6 : w43.cell? ⟨gb379, 6, none⟩ = some (.string a0_6) := (blk_cell BK379.out 6).trans rfl; have hcz44_7 : w43.cell? ⟨gb379, 7, none⟩ = some (.string a0_7) := (blk_cell BK379.out 7).trans rfl; have hcz44_8 : w43.cell? ⟨gb379, 8, none⟩ = some (.int .u64 a0_8) := (blk_cell BK379.out 8).trans rfl; have hcz44_9 : w43.cell? ⟨gb379, 9, none⟩ = some (.int .i64 a0_9) := (blk_cell BK379.out 9).trans rfl; have hcz44_10 : w43.cell? ⟨gb379, 10, none⟩ = some (.int .u64 a0_10) := (blk_cell BK379.out 10).trans rfl; have hfz44_0 := blk_frozen BK379.out 0; have hfz44_1 := blk_frozen BK379.out 1; have hfz44_2 := blk_frozen BK379.out 2; have hfz44_3 := blk_frozen BK379.out 3; have hfz44_4 := blk_frozen BK379.out 4; have hfz44_5 := blk_frozen BK379.out 5; have hfz44_6 := blk_frozen BK379.out 6; have hfz44_7 := blk_frozen BK379.out 7; have hfz44_8 := blk_frozen BK379.out 8; have hfz44_9 := blk_frozen BK379.out 9; have hfz44_10 := blk_frozen BK379.out 10))
             go_ret
             exact ⟨by first | rfl | (simp [errW_none, errW_some] <;> rfl) | (simp [*, errW_none, errW_some] <;> rfl), by repeat (first | (with_reducible first | exact HB.out | apply below_alloc | apply pw_below_drewN | apply below_drew1 | refine below_set ?_ GE379.out) | exact HB.out)⟩
            ·rw [if_neg c40] at H
             exact absurd H (by simp)
           ·rw [if_neg c39] at H
            exact absurd H (by simp)
          ·rw [if_neg c38] at H
           exact absurd H (by simp)
         ·rw [if_neg c37] at H
          exact absurd H (by simp)
        ·rw [if_neg c36] at H
         exact absurd H (by simp)
       ·rw [if_neg c35] at H
        exact absurd H (by simp)
      ·rw [if_neg c34] at H
       exact absurd H (by simp)
     ·rw [if_neg c33] at H
      exact absurd H (by simp)
    ·rw [if_neg c29] at H
     exact absurd H (by simp)

/-- THE ONE PURE STATEMENT of dominolaw04_HeaderUnmasks: yours. -/
def dominolaw04_HeaderUnmasks.Pure : Prop := ∀ (a0_0 : Bool) (a0_1 : Bool) (a0_2 : Bool) (a0_3 : Int) (a0_4 : Int) (a0_5 : ByteArray) (a0_6 : ByteArray) (a0_7 : ByteArray) (a0_8 : Int) (a0_9 : Int) (a0_10 : Int) (a1 : ByteArray) (a2 : ByteArray), (Lit.int .i64 a0_3).wf = true → (Lit.int .u32 a0_4).wf = true → a0_5.size ≤ maxLen → a0_6.size ≤ maxLen → a0_7.size ≤ maxLen → (Lit.int .u64 a0_8).wf = true → (Lit.int .i64 a0_9).wf = true → (Lit.int .u64 a0_10).wf = true → a1.size ≤ 140737488351232 → a2.size ≤ 140737488351232 → ∃ k, dominolaw04_HeaderUnmasks.f k a0_0 a0_1 a0_2 a0_3 a0_4 a0_5 a0_6 a0_7 a0_8 a0_9 a0_10 a1 a2 = some true
theorem dominolaw04_HeaderUnmasks.walk (P : dominolaw04_HeaderUnmasks.Pure) (a0_0 : Bool) (a0_1 : Bool) (a0_2 : Bool) (a0_3 : Int) (a0_4 : Int) (a0_5 : ByteArray) (a0_6 : ByteArray) (a0_7 : ByteArray) (a0_8 : Int) (a0_9 : Int) (a0_10 : Int) (a1 : ByteArray) (a2 : ByteArray) (w : World) (w0_3 : (Lit.int .i64 a0_3).wf = true) (w0_4 : (Lit.int .u32 a0_4).wf = true) (w0_5 : a0_5.size ≤ maxLen) (w0_6 : a0_6.size ≤ maxLen) (w0_7 : a0_7.size ≤ maxLen) (w0_8 : (Lit.int .u64 a0_8).wf = true) (w0_9 : (Lit.int .i64 a0_9).wf = true) (w0_10 : (Lit.int .u64 a0_10).wf = true) (w1 : a1.size ≤ 140737488351232) (w2 : a2.size ≤ 140737488351232) (ht : Tab w) :
  Calls Tryd.prog 6 #[.agg #[.bool a0_0, .bool a0_1, .bool a0_2, .int .i64 a0_3, .int .u32 a0_4, .string a0_5, .string a0_6, .string a0_7, .int .u64 a0_8, .int .i64 a0_9, .int .u64 a0_10], .string a1, .string a2] w fun e w' => e = .returned (.bool true) ∧ Below w.heap.size w w' := by
 obtain ⟨k, h⟩ := P a0_0 a0_1 a0_2 a0_3 a0_4 a0_5 a0_6 a0_7 a0_8 a0_9 a0_10 a1 a2 w0_3 w0_4 w0_5 w0_6 w0_7 w0_8 w0_9 w0_10 w1 w2
 refine (dominolaw04_HeaderUnmasks.calls k a0_0 a0_1 a0_2 a0_3 a0_4 a0_5 a0_6 a0_7 a0_8 a0_9 a0_10 a1 a2 true w ht h).mono ?_
 rintro e w' ⟨rfl, hd⟩
 exact ⟨rfl, hd⟩

end Go.Proofs.YtjpafikgbnloaaaDoor.PHdq
