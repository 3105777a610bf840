-- printed for this claim by a program of the claim (wip/tools/pp.py over the kit's print)
import Derived.Test.YtjpafikgbnloaaaDoorPHdqx0
import Derived.Test.YtjpafikgbnloaaaDoorPHdqx2
import Derived.Test.YtjpafikgbnloaaaDoorPHdqx3
import Derived.Test.YtjpafikgbnloaaaDoorPHdqx4
import Derived.Test.YtjpafikgbnloaaaDoorPHdqx8
namespace Go.Proofs.YtjpafikgbnloaaaDoor.PHdq
open Go.RowKit Go.Proofs.YtjpafikgbnloaaaDoorW.PrintWords Go.Proofs.YtjpafikgbnloaaaDoorW.PrintLast Go.Proofs.YtjpafikgbnloaaaDoorW.PrintMore
attribute [local go_sem] max2_int min2_int max_two min_two max_three min_three max_four min_four   -- for this text's walks alone
set_option linter.unusedVariables false
set_option linter.unusedSimpArgs false

attribute [local go_sem] isSome_setCell_
/-! ### dominolaw04_HeaderBits: function 7 -/
def dominolaw04_HeaderBits.j0 : Nat → ByteArray → ByteArray → Bool → Bool → Bool → Bool → Int → Int → ByteArray → ByteArray → ByteArray → Int → Int → Int → Option (Bool)
 | 0, _, _, _, _, _, _, _, _, _, _, _, _, _, _ => none
 | k + 1, x1, x5, x31, x392000, x392001, x392002, x392003, x392004, x392005, x392006, x392007, x392008, x392009, x392010 => if x31 = true then ((dominolaw04_shown.f k).bind fun t396 => (some t396)) else ((header_Mask.f k x5 x1).bind fun bt397 => (if x392000 = true then (if bt397.2 = 0 then (if (bt397.1.size : Int) = (x5.size : Int) then (if 0 < (bt397.1.size : Int) then (if 0 < (x5.size : Int) then (if ((Int.tdiv (bt bt397.1 0) 16) % 256) = ((Int.tdiv (bt x5 0) 16) % 256) then (if 1 ≤ (wrap64 ((x5.size : Int) - x392009)) then (if (wrap64 ((x5.size : Int) - x392009)) ≤ (bt397.1.size : Int) then (if (wrap64 ((x5.size : Int) - x392009)) ≤ (x5.size : Int) then (if (bt397.1.extract 1 ((wrap64 ((x5.size : Int) - x392009)) : Int).toNat).toList = (x5.extract 1 ((wrap64 ((x5.size : Int) - x392009)) : Int).toNat).toList then (some ((decide ((bt x5 0) ≥ 128)) == x392000)) else (none)) else (none)) else (none)) else (none)) else (none)) else (none)) else (none)) else (none)) else (none)) else (if bt397.2 = 0 then (if (bt397.1.size : Int) = (x5.size : Int) then (if 0 < (bt397.1.size : Int) then (if 0 < (x5.size : Int) then (if ((Int.tdiv (bt bt397.1 0) 32) % 256) = ((Int.tdiv (bt x5 0) 32) % 256) then (if 1 ≤ (wrap64 ((x5.size : Int) - x392009)) then (if (wrap64 ((x5.size : Int) - x392009)) ≤ (bt397.1.size : Int) then (if (wrap64 ((x5.size : Int) - x392009)) ≤ (x5.size : Int) then (if (bt397.1.extract 1 ((wrap64 ((x5.size : Int) - x392009)) : Int).toNat).toList = (x5.extract 1 ((wrap64 ((x5.size : Int) - x392009)) : Int).toNat).toList then (some ((decide ((bt x5 0) ≥ 128)) == x392000)) else (none)) else (none)) else (none)) else (none)) else (none)) else (none)) else (none)) else (none)) else (none))))
def dominolaw04_HeaderBits.f (k : Nat) (a0_0 : Bool) (a0_1 : Bool) (a0_2 : Bool) (a0_3 : Int) (a0_4 : Int) (a0_5 : ByteArray) (a0_6 : ByteArray) (a0_7 : ByteArray) (a0_8 : Int) (a0_9 : Int) (a0_10 : Int) (a1 : ByteArray) : Option (Bool) := (header_Put.f k a0_0 a0_1 a0_2 a0_3 a0_4 a0_5 a0_6 a0_7 a0_8 a0_9 a0_10).bind fun bt392 => ((dominolaw04_bounded.f a0_0 a0_1 a0_2 a0_3 a0_4 a0_5 a0_6 a0_7 a0_8 a0_9 a0_10).bind fun t394 => (if t394 = true then (if (a1.size : Int) = 5 then (if bt392.2 = 0 then ((dominolaw04_shown.f k).bind fun t395 => (dominolaw04_HeaderBits.j0 k a1 bt392.1 (!t395) a0_0 a0_1 a0_2 a0_3 a0_4 a0_5 a0_6 a0_7 a0_8 a0_9 a0_10)) else (dominolaw04_HeaderBits.j0 k a1 bt392.1 true a0_0 a0_1 a0_2 a0_3 a0_4 a0_5 a0_6 a0_7 a0_8 a0_9 a0_10)) else (dominolaw04_HeaderBits.j0 k a1 bt392.1 true a0_0 a0_1 a0_2 a0_3 a0_4 a0_5 a0_6 a0_7 a0_8 a0_9 a0_10)) else (dominolaw04_HeaderBits.j0 k a1 bt392.1 true a0_0 a0_1 a0_2 a0_3 a0_4 a0_5 a0_6 a0_7 a0_8 a0_9 a0_10)))
theorem dominolaw04_HeaderBits.mono_l : ∀ k, (∀ y0 y1 y2 y3 y4 y5 y6 y7 y8 y9 y10 y11 y12 y13, LeO (dominolaw04_HeaderBits.j0 k y0 y1 y2 y3 y4 y5 y6 y7 y8 y9 y10 y11 y12 y13) (dominolaw04_HeaderBits.j0 (k + 1) y0 y1 y2 y3 y4 y5 y6 y7 y8 y9 y10 y11 y12 y13))
 | 0 => fun _ _ _ _ _ _ _ _ _ _ _ _ _ _ r h => by simp [dominolaw04_HeaderBits.j0] at h
 | k + 1 => by
  have ih0 := dominolaw04_HeaderBits.mono_l k
  ·intro y0 y1 y2 y3 y4 y5 y6 y7 y8 y9 y10 y11 y12 y13
   unfold dominolaw04_HeaderBits.j0
   repeat' first
   | (with_reducible exact ih0 _ _ _ _ _ _ _ _ _ _ _ _ _ _)
   | (with_reducible exact dominolaw04_shown.mono _)
   | (with_reducible exact header_Mask.mono _ _ _)
   | (with_reducible exact header_Put.mono _ _ _ _ _ _ _ _ _ _ _ _)
   | (with_reducible exact LeO.refl _)
   | (with_reducible exact LeO.none _)
   | (with_reducible refine LeO.ite ?_ ?_)
   | (with_reducible refine LeO.bind ?_ (fun _ => ?_))
   | exact ih0 _ _ _ _ _ _ _ _ _ _ _ _ _ _
   | exact dominolaw04_shown.mono _
   | exact header_Mask.mono _ _ _
   | exact header_Put.mono _ _ _ _ _ _ _ _ _ _ _ _
   | exact LeO.none _
   | refine LeO.ite ?_ ?_
   | refine LeO.bind ?_ (fun _ => ?_)
theorem dominolaw04_HeaderBits.mono : ∀ a0 a1 a2 a3 a4 a5 a6 a7 a8 a9 a10 a11 k, LeO (dominolaw04_HeaderBits.f k a0 a1 a2 a3 a4 a5 a6 a7 a8 a9 a10 a11) (dominolaw04_HeaderBits.f (k + 1) a0 a1 a2 a3 a4 a5 a6 a7 a8 a9 a10 a11) := by
 intro a0 a1 a2 a3 a4 a5 a6 a7 a8 a9 a10 a11 k
 have ih0 := dominolaw04_HeaderBits.mono_l k
 unfold dominolaw04_HeaderBits.f
 repeat' first
   | (with_reducible exact ih0 _ _ _ _ _ _ _ _ _ _ _ _ _ _)
   | (with_reducible exact dominolaw04_shown.mono _)
   | (with_reducible exact header_Mask.mono _ _ _)
   | (with_reducible exact header_Put.mono _ _ _ _ _ _ _ _ _ _ _ _)
   | (with_reducible exact LeO.refl _)
   | (with_reducible exact LeO.none _)
   | (with_reducible refine LeO.ite ?_ ?_)
   | (with_reducible refine LeO.bind ?_ (fun _ => ?_))
   | exact ih0 _ _ _ _ _ _ _ _ _ _ _ _ _ _
   | exact dominolaw04_shown.mono _
   | exact header_Mask.mono _ _ _
   | exact header_Put.mono _ _ _ _ _ _ _ _ _ _ _ _
   | exact LeO.none _
   | refine LeO.ite ?_ ?_
   | refine LeO.bind ?_ (fun _ => ?_)
set_option maxHeartbeats 8000000 in
set_option maxRecDepth 100000 in
theorem dominolaw04_HeaderBits.calls (k : Nat) (a0_0 : Bool) (a0_1 : Bool) (a0_2 : Bool) (a0_3 : Int) (a0_4 : Int) (a0_5 : ByteArray) (a0_6 : ByteArray) (a0_7 : ByteArray) (a0_8 : Int) (a0_9 : Int) (a0_10 : Int) (a1 : ByteArray) (r : Bool) (w : World) (ht : Tab w) (h : dominolaw04_HeaderBits.f k a0_0 a0_1 a0_2 a0_3 a0_4 a0_5 a0_6 a0_7 a0_8 a0_9 a0_10 a1 = some r) :
  Calls Tryd.prog 7 #[.agg #[.bool a0_0, .bool a0_1, .bool a0_2, .int .i64 a0_3, .int .u32 a0_4, .string a0_5, .string a0_6, .string a0_7, .int .u64 a0_8, .int .i64 a0_9, .int .u64 a0_10], .string a1] w fun e w' => e = .returned (.bool r) ∧ Below w.heap.size w w' := by
 have HTab := Aside0.mk ht
 clear ht
 have hu25 := Tryd.underlying25
 have HB := Aside0.mk (Below.refl w.heap.size w)
 have H : ((header_Put.f k a0_0 a0_1 a0_2 a0_3 a0_4 a0_5 a0_6 a0_7 a0_8 a0_9 a0_10).bind fun bt392 => ((dominolaw04_bounded.f a0_0 a0_1 a0_2 a0_3 a0_4 a0_5 a0_6 a0_7 a0_8 a0_9 a0_10).bind fun t394 => (if t394 = true then (if (a1.size : Int) = 5 then (if bt392.2 = 0 then ((dominolaw04_shown.f k).bind fun t395 => (dominolaw04_HeaderBits.j0 k a1 bt392.1 (!t395) a0_0 a0_1 a0_2 a0_3 a0_4 a0_5 a0_6 a0_7 a0_8 a0_9 a0_10)) else (dominolaw04_HeaderBits.j0 k a1 bt392.1 true a0_0 a0_1 a0_2 a0_3 a0_4 a0_5 a0_6 a0_7 a0_8 a0_9 a0_10)) else (dominolaw04_HeaderBits.j0 k a1 bt392.1 true a0_0 a0_1 a0_2 a0_3 a0_4 a0_5 a0_6 a0_7 a0_8 a0_9 a0_10)) else (dominolaw04_HeaderBits.j0 k a1 bt392.1 true a0_0 a0_1 a0_2 a0_3 a0_4 a0_5 a0_6 a0_7 a0_8 a0_9 a0_10)))) = some r := h
 clear h
 replace H := Option.bind_eq_some_iff.mp H
 obtain ⟨⟨t392, t393⟩, A30, H⟩ := H
 replace H : ((dominolaw04_bounded.f a0_0 a0_1 a0_2 a0_3 a0_4 a0_5 a0_6 a0_7 a0_8 a0_9 a0_10).bind fun t394 => (if t394 = true then (if (a1.size : Int) = 5 then (if t393 = 0 then ((dominolaw04_shown.f k).bind fun t395 => (dominolaw04_HeaderBits.j0 k a1 t392 (!t395) a0_0 a0_1 a0_2 a0_3 a0_4 a0_5 a0_6 a0_7 a0_8 a0_9 a0_10)) else (dominolaw04_HeaderBits.j0 k a1 t392 true a0_0 a0_1 a0_2 a0_3 a0_4 a0_5 a0_6 a0_7 a0_8 a0_9 a0_10)) else (dominolaw04_HeaderBits.j0 k a1 t392 true a0_0 a0_1 a0_2 a0_3 a0_4 a0_5 a0_6 a0_7 a0_8 a0_9 a0_10)) else (dominolaw04_HeaderBits.j0 k a1 t392 true a0_0 a0_1 a0_2 a0_3 a0_4 a0_5 a0_6 a0_7 a0_8 a0_9 a0_10))) = some r := H
 have A3 := Aside0.mk A30
 clear A30
 have HC4 := Aside0.mk H
 clear H
 go_enter Tryd.func7, Tryd.ntmps7
 go_upto_region 2 with (first | ((with_reducible refine gate_dst (N := 2) rfl ?_); (try (refine gate_guard (by rfl) ?_; dsimp only)); refine box_event ?hg (N := 2) ?hd (cs := #[.bool a0_0, .bool a0_1, .bool a0_2, .int .i64 a0_3, .int .u32 a0_4, .string a0_5, .string a0_6, .string a0_7, .int .u64 a0_8, .int .i64 a0_9, .int .u64 a0_10]) (t := 25) ?hr ?_; (case hd => rfl); (case hg => rfl); (case hr => first | (go_simp; done) | (go_simp; rfl)); intro gb391 hg w5 hbox hb; have n0_ := Aside0.mk (below_step (by repeat (first | (with_reducible first | exact HB.out | apply below_alloc | apply pw_below_drewN | apply below_drew1) | exact HB.out)) hb); have n1_ := Aside0.mk (hbox); have n2_ := Aside0.mk ((by rw [hg]; exact (below_size (by repeat (first | (with_reducible first | exact HB.out | apply below_alloc | apply pw_below_drewN | apply below_drew1) | exact HB.out))) : w.heap.size ≤ gb391)); have n3_ := Aside0.mk ((by rw [hg]; exact (below_size (by repeat (first | (with_reducible first | exact HB.out | apply below_alloc | apply pw_below_drewN | apply below_drew1) | exact HB.out))) : w.heap.size ≤ gb391)); clear HB; have HB := n0_; have BK391 := n1_; have GW391 := n2_; have GE391 := n3_; clear n0_ n1_ n2_ n3_; clear hb hbox hg; have hcz6_0 : w5.cell? ⟨gb391, 0, none⟩ = some (.bool a0_0) := (blk_cell BK391.out 0).trans rfl; have hcz6_1 : w5.cell? ⟨gb391, 1, none⟩ = some (.bool a0_1) := (blk_cell BK391.out 1).trans rfl; have hcz6_2 : w5.cell? ⟨gb391, 2, none⟩ = some (.bool a0_2) := (blk_cell BK391.out 2).trans rfl; have hcz6_3 : w5.cell? ⟨gb391, 3, none⟩ = some (.int .i64 a0_3) := (blk_cell BK391.out 3).trans rfl; have hcz6_4 : w5.cell? ⟨gb391, 4, none⟩ = some (.int .u32 a0_4) := (blk_cell BK391.out 4).trans rfl; have hcz6_5 : w5.cell? ⟨gb391, 5, none⟩ = some (.string a0_5) := (blk_cell BK391.out 5).trans rfl; have hcz6_6 : w5.cell? ⟨gb391, 6, none⟩ = some (.string a0_6) := (blk_cell BK391.out 6).trans rfl; have hcz6_7 : w5.cell? ⟨gb391, 7, none⟩ = some (.string a0_7) := (blk_cell BK391.out 7).trans rfl; have hcz6_8 : w5.cell? ⟨gb391, 8, none⟩ = some (.int .u64 a0_8) := (blk_cell BK391.out 8).trans rfl; have hcz6_9 : w5.cell? ⟨gb391, 9, none⟩ = some (.int .i64 a0_9) := (blk_cell BK391.out 9).trans rfl; have hcz6_10 : w5.cell? ⟨gb391, 10, none⟩ = some (.int .u64 a0_10) := (blk_cell BK391.out 10).trans rfl; have hfz6_0 := blk_frozen BK391.out 0; have hfz6_1 := blk_frozen BK391.out 1; have hfz6_2 := blk_frozen BK391.out 2; have hfz6_3 := blk_frozen BK391.out 3; have hfz6_4 := blk_frozen BK391.out 4; have hfz6_5 := blk_frozen BK391.out 5; have hfz6_6 := blk_frozen BK391.out 6; have hfz6_7 := blk_frozen BK391.out 7; have hfz6_8 := blk_frozen BK391.out 8; have hfz6_9 := blk_frozen BK391.out 9; have hfz6_10 := blk_frozen BK391.out 10) | (go_at_call 12; (with_reducible refine (header_Put.calls k a0_0 a0_1 a0_2 a0_3 a0_4 a0_5 a0_6 a0_7 a0_8 a0_9 a0_10 t392 t393 _ (by first | exact HTab.out | exact tab_below HTab.out HB.out | exact (tab_below HTab.out (by repeat (first | (with_reducible first | exact HB.out | apply below_alloc | apply pw_below_drewN | apply below_drew1 | refine below_set ?_ GE391.out) | exact HB.out))) | exact tab_below HTab.out (by repeat (first | exact HB.out | exact Below.refl _ _ | apply below_alloc | apply pw_below_drewN | apply below_drew1 | refine below_set ?_ GE391.out))) A3.out).mono ?_); rintro e w7 ⟨rfl, hb⟩; have n0_ := Aside0.mk (blk_below (g := gb391) (o := .cells #[.bool a0_0, .bool a0_1, .bool a0_2, .int .i64 a0_3, .int .u32 a0_4, .string a0_5, .string a0_6, .string a0_7, .int .u64 a0_8, .int .i64 a0_9, .int .u64 a0_10] 25 (0, 0)) (by (with_reducible repeat (first | refine blk_drewN ?_ _ | refine blk_drew ?_ | refine blk_alloc ?_ _)); exact BK391.out) hb); have n1_ := Aside0.mk (below_step (by repeat (first | (with_reducible first | exact HB.out | apply below_alloc | apply pw_below_drewN | apply below_drew1 | refine below_set ?_ GE391.out) | exact HB.out)) hb); clear BK391; clear HB; have BK391 := n0_; have HB := n1_; clear n0_ n1_; (try clear hb); (try clear hb2); (try clear hk); (try clear hi)))
 repeat (go_quiet (first | ((with_reducible refine gate_dst (N := 2) rfl ?_); (try (refine gate_guard (by rfl) ?_; dsimp only)); refine box_event ?hg (N := 2) ?hd (cs := #[.bool a0_0, .bool a0_1, .bool a0_2, .int .i64 a0_3, .int .u32 a0_4, .string a0_5, .string a0_6, .string a0_7, .int .u64 a0_8, .int .i64 a0_9, .int .u64 a0_10]) (t := 25) ?hr ?_; (case hd => rfl); (case hg => rfl); (case hr => first | (go_simp; done) | (go_simp; rfl)); intro gb391 hg w5 hbox hb; have n0_ := Aside0.mk (below_step (by repeat (first | (with_reducible first | exact HB.out | apply below_alloc | apply pw_below_drewN | apply below_drew1) | exact HB.out)) hb); have n1_ := Aside0.mk (hbox); have n2_ := Aside0.mk ((by rw [hg]; exact (below_size (by repeat (first | (with_reducible first | exact HB.out | apply below_alloc | apply pw_below_drewN | apply below_drew1) | exact HB.out))) : w.heap.size ≤ gb391)); have n3_ := Aside0.mk ((by rw [hg]; exact (below_size (by repeat (first | (with_reducible first | exact HB.out | apply below_alloc | apply pw_below_drewN | apply below_drew1) | exact HB.out))) : w.heap.size ≤ gb391)); clear HB; have HB := n0_; have BK391 := n1_; have GW391 := n2_; have GE391 := n3_; clear n0_ n1_ n2_ n3_; clear hb hbox hg; have hcz6_0 : w5.cell? ⟨gb391, 0, none⟩ = some (.bool a0_0) := (blk_cell BK391.out 0).trans rfl; have hcz6_1 : w5.cell? ⟨gb391, 1, none⟩ = some (.bool a0_1) := (blk_cell BK391.out 1).trans rfl; have hcz6_2 : w5.cell? ⟨gb391, 2, none⟩ = some (.bool a0_2) := (blk_cell BK391.out 2).trans rfl; have hcz6_3 : w5.cell? ⟨gb391, 3, none⟩ = some (.int .i64 a0_3) := (blk_cell BK391.out 3).trans rfl; have hcz6_4 : w5.cell? ⟨gb391, 4, none⟩ = some (.int .u32 a0_4) := (blk_cell BK391.out 4).trans rfl; have hcz6_5 : w5.cell? ⟨gb391, 5, none⟩ = some (.string a0_5) := (blk_cell BK391.out 5).trans rfl; have hcz6_6 : w5.cell? ⟨gb391, 6, none⟩ = some (.string a0_6) := (blk_cell BK391.out 6).trans rfl; have hcz6_7 : w5.cell? ⟨gb391, 7, none⟩ = some (.string a0_7) := (blk_cell BK391.out 7).trans rfl; have hcz6_8 : w5.cell? ⟨gb391, 8, none⟩ = some (.int .u64 a0_8) := (blk_cell BK391.out 8).trans rfl; have hcz6_9 : w5.cell? ⟨gb391, 9, none⟩ = some (.int .i64 a0_9) := (blk_cell BK391.out 9).trans rfl; have hcz6_10 : w5.cell? ⟨gb391, 10, none⟩ = some (.int .u64 a0_10) := (blk_cell BK391.out 10).trans rfl; have hfz6_0 := blk_frozen BK391.out 0; have hfz6_1 := blk_frozen BK391.out 1; have hfz6_2 := blk_frozen BK391.out 2; have hfz6_3 := blk_frozen BK391.out 3; have hfz6_4 := blk_frozen BK391.out 4; have hfz6_5 := blk_frozen BK391.out 5; have hfz6_6 := blk_frozen BK391.out 6; have hfz6_7 := blk_frozen BK391.out 7; have hfz6_8 := blk_frozen BK391.out 8; have hfz6_9 := blk_frozen BK391.out 9; have hfz6_10 := blk_frozen BK391.out 10) | (go_at_call 12; (with_reducible refine (header_Put.calls k a0_0 a0_1 a0_2 a0_3 a0_4 a0_5 a0_6 a0_7 a0_8 a0_9 a0_10 t392 t393 _ (by first | exact HTab.out | exact tab_below HTab.out HB.out | exact (tab_below HTab.out (by repeat (first | (with_reducible first | exact HB.out | apply below_alloc | apply pw_below_drewN | apply below_drew1 | refine below_set ?_ GE391.out) | exact HB.out))) | exact tab_below HTab.out (by repeat (first | exact HB.out | exact Below.refl _ _ | apply below_alloc | apply pw_below_drewN | apply below_drew1 | refine below_set ?_ GE391.out))) A3.out).mono ?_); rintro e w7 ⟨rfl, hb⟩; have n0_ := Aside0.mk (blk_below (g := gb391) (o := .cells #[.bool a0_0, .bool a0_1, .bool a0_2, .int .i64 a0_3, .int .u32 a0_4, .string a0_5, .string a0_6, .string a0_7, .int .u64 a0_8, .int .i64 a0_9, .int .u64 a0_10] 25 (0, 0)) (by (with_reducible repeat (first | refine blk_drewN ?_ _ | refine blk_drew ?_ | refine blk_alloc ?_ _)); exact BK391.out) hb); have n1_ := Aside0.mk (below_step (by repeat (first | (with_reducible first | exact HB.out | apply below_alloc | apply pw_below_drewN | apply below_drew1 | refine below_set ?_ GE391.out) | exact HB.out)) hb); clear BK391; clear HB; have BK391 := n0_; have HB := n1_; clear n0_ n1_; (try clear hb); (try clear hb2); (try clear hk); (try clear hi))); go_upto_region 2 with (first | ((with_reducible refine gate_dst (N := 2) rfl ?_); (try (refine gate_guard (by rfl) ?_; dsimp only)); refine box_event ?hg (N := 2) ?hd (cs := #[.bool a0_0, .bool a0_1, .bool a0_2, .int .i64 a0_3, .int .u32 a0_4, .string a0_5, .string a0_6, .string a0_7, .int .u64 a0_8, .int .i64 a0_9, .int .u64 a0_10]) (t := 25) ?hr ?_; (case hd => rfl); (case hg => rfl); (case hr => first | (go_simp; done) | (go_simp; rfl)); intro gb391 hg w5 hbox hb; have n0_ := Aside0.mk (below_step (by repeat (first | (with_reducible first | exact HB.out | apply below_alloc | apply pw_below_drewN | apply below_drew1) | exact HB.out)) hb); have n1_ := Aside0.mk (hbox); have n2_ := Aside0.mk ((by rw [hg]; exact (below_size (by repeat (first | (with_reducible first | exact HB.out | apply below_alloc | apply pw_below_drewN | apply below_drew1) | exact HB.out))) : w.heap.size ≤ gb391)); have n3_ := Aside0.mk ((by rw [hg]; exact (below_size (by repeat (first | (with_reducible first | exact HB.out | apply below_alloc | apply pw_below_drewN | apply below_drew1) | exact HB.out))) : w.heap.size ≤ gb391)); clear HB; have HB := n0_; have BK391 := n1_; have GW391 := n2_; have GE391 := n3_; clear n0_ n1_ n2_ n3_; clear hb hbox hg; have hcz6_0 : w5.cell? ⟨gb391, 0, none⟩ = some (.bool a0_0) := (blk_cell BK391.out 0).trans rfl; have hcz6_1 : w5.cell? ⟨gb391, 1, none⟩ = some (.bool a0_1) := (blk_cell BK391.out 1).trans rfl; have hcz6_2 : w5.cell? ⟨gb391, 2, none⟩ = some (.bool a0_2) := (blk_cell BK391.out 2).trans rfl; have hcz6_3 : w5.cell? ⟨gb391, 3, none⟩ = some (.int .i64 a0_3) := (blk_cell BK391.out 3).trans rfl; have hcz6_4 : w5.cell? ⟨gb391, 4, none⟩ = some (.int .u32 a0_4) := (blk_cell BK391.out 4).trans rfl; have hcz6_5 : w5.cell? ⟨gb391, 5, none⟩ = some (.string a0_5) := (blk_cell BK391.out 5).trans rfl; have hcz6_6 : w5.cell? ⟨gb391, 6, none⟩ = some (.string a0_6) := (blk_cell BK391.out 6).trans rfl; have hcz6_7 : w5.cell? ⟨gb391, 7, none⟩ = some (.string a0_7) := (blk_cell BK391.out 7).trans rfl; have hcz6_8 : w5.cell? ⟨gb391, 8, none⟩ = some (.int .u64 a0_8) := (blk_cell BK391.out 8).trans rfl; have hcz6_9 : w5.cell? ⟨gb391, 9, none⟩ = some (.int .i64 a0_9) := (blk_cell BK391.out 9).trans rfl; have hcz6_10 : w5.cell? ⟨gb391, 10, none⟩ = some (.int .u64 a0_10) := (blk_cell BK391.out 10).trans rfl; have hfz6_0 := blk_frozen BK391.out 0; have hfz6_1 := blk_frozen BK391.out 1; have hfz6_2 := blk_frozen BK391.out 2; have hfz6_3 := blk_frozen BK391.out 3; have hfz6_4 := blk_frozen BK391.out 4; have hfz6_5 := blk_frozen BK391.out 5; have hfz6_6 := blk_frozen BK391.out 6; have hfz6_7 := blk_frozen BK391.out 7; have hfz6_8 := blk_frozen BK391.out 8; have hfz6_9 := blk_frozen BK391.out 9; have hfz6_10 := blk_frozen BK391.out 10) | (go_at_call 12; (with_reducible refine (header_Put.calls k a0_0 a0_1 a0_2 a0_3 a0_4 a0_5 a0_6 a0_7 a0_8 a0_9 a0_10 t392 t393 _ (by first | exact HTab.out | exact tab_below HTab.out HB.out | exact (tab_below HTab.out (by repeat (first | (with_reducible first | exact HB.out | apply below_alloc | apply pw_below_drewN | apply below_drew1 | refine below_set ?_ GE391.out) | exact HB.out))) | exact tab_below HTab.out (by repeat (first | exact HB.out | exact Below.refl _ _ | apply below_alloc | apply pw_below_drewN | apply below_drew1 | refine below_set ?_ GE391.out))) A3.out).mono ?_); rintro e w7 ⟨rfl, hb⟩; have n0_ := Aside0.mk (blk_below (g := gb391) (o := .cells #[.bool a0_0, .bool a0_1, .bool a0_2, .int .i64 a0_3, .int .u32 a0_4, .string a0_5, .string a0_6, .string a0_7, .int .u64 a0_8, .int .i64 a0_9, .int .u64 a0_10] 25 (0, 0)) (by (with_reducible repeat (first | refine blk_drewN ?_ _ | refine blk_drew ?_ | refine blk_alloc ?_ _)); exact BK391.out) hb); have n1_ := Aside0.mk (below_step (by repeat (first | (with_reducible first | exact HB.out | apply below_alloc | apply pw_below_drewN | apply below_drew1 | refine below_set ?_ GE391.out) | exact HB.out)) hb); clear BK391; clear HB; have BK391 := n0_; have HB := n1_; clear n0_ n1_; (try clear hb); (try clear hb2); (try clear hk); (try clear hi))))
 (try simp only [Act.put, List.setIfInBounds_toArray, List.set_cons_zero, List.set_cons_succ])
 go_cut [31] (fun v31 wc => ∃ (kq : Nat) (x31_3 : Bool), v31 = .bool x31_3 ∧ Aside0 (dominolaw04_HeaderBits.j0 kq a1 t392 x31_3 a0_0 a0_1 a0_2 a0_3 a0_4 a0_5 a0_6 a0_7 a0_8 a0_9 a0_10 = some r) ∧ Aside0 (kq ≤ k) ∧ Aside0 (wc.heap[gb391]? = some (.cells #[.bool a0_0, .bool a0_1, .bool a0_2, .int .i64 a0_3, .int .u32 a0_4, .string a0_5, .string a0_6, .string a0_7, .int .u64 a0_8, .int .i64 a0_9, .int .u64 a0_10] 25 (0, 0))) ∧ Aside0 (Below w.heap.size w wc))
 case first =>
  have H := HC4.out
  clear HC4
  replace H := Option.bind_eq_some_iff.mp H
  obtain ⟨t394, A80, H⟩ := H
  replace H : (if t394 = true then (if (a1.size : Int) = 5 then (if t393 = 0 then ((dominolaw04_shown.f k).bind fun t395 => (dominolaw04_HeaderBits.j0 k a1 t392 (!t395) a0_0 a0_1 a0_2 a0_3 a0_4 a0_5 a0_6 a0_7 a0_8 a0_9 a0_10)) else (dominolaw04_HeaderBits.j0 k a1 t392 true a0_0 a0_1 a0_2 a0_3 a0_4 a0_5 a0_6 a0_7 a0_8 a0_9 a0_10)) else (dominolaw04_HeaderBits.j0 k a1 t392 true a0_0 a0_1 a0_2 a0_3 a0_4 a0_5 a0_6 a0_7 a0_8 a0_9 a0_10)) else (dominolaw04_HeaderBits.j0 k a1 t392 true a0_0 a0_1 a0_2 a0_3 a0_4 a0_5 a0_6 a0_7 a0_8 a0_9 a0_10)) = some r := H
  have A8 := Aside0.mk A80
  clear A80
  by_cases c9 : t394 = true
  ·subst c9
   have H1 : (if (a1.size : Int) = 5 then (if t393 = 0 then ((dominolaw04_shown.f k).bind fun t395 => (dominolaw04_HeaderBits.j0 k a1 t392 (!t395) a0_0 a0_1 a0_2 a0_3 a0_4 a0_5 a0_6 a0_7 a0_8 a0_9 a0_10)) else (dominolaw04_HeaderBits.j0 k a1 t392 true a0_0 a0_1 a0_2 a0_3 a0_4 a0_5 a0_6 a0_7 a0_8 a0_9 a0_10)) else (dominolaw04_HeaderBits.j0 k a1 t392 true a0_0 a0_1 a0_2 a0_3 a0_4 a0_5 a0_6 a0_7 a0_8 a0_9 a0_10)) = some r := by rw [if_pos rfl] at H; exact H
   clear H
   have H := H1
   clear H1
   by_cases c10 : (a1.size : Int) = 5
   ·rw [if_pos c10] at H
    have c10b0 : ((a1.size : Int) == 5) = true := beq_iff_eq.mpr c10
    have c10b1 : ((a1.size : Int) != 5) = false := bne_eq_false_iff_eq.mpr c10
    clear c10
    (first | rw [c10b0] | (simp only [i64_w, i32_w]; rw [c10b0]) | skip)
    by_cases c11 : t393 = 0
    ·rw [if_pos c11] at H
     have c11b0 : (t393 == 0) = true := beq_iff_eq.mpr c11
     have c11b1 : (t393 != 0) = false := bne_eq_false_iff_eq.mpr c11
     clear c11
     replace H := Option.bind_eq_some_iff.mp H
     obtain ⟨t395, A120, H⟩ := H
     replace H : (dominolaw04_HeaderBits.j0 k a1 t392 (!t395) a0_0 a0_1 a0_2 a0_3 a0_4 a0_5 a0_6 a0_7 a0_8 a0_9 a0_10) = some r := H
     have A12 := Aside0.mk A120
     clear A120
     have H' := Aside0.mk H
     clear H
     have hcz13_0 : w7.cell? ⟨gb391, 0, none⟩ = some (.bool a0_0) := (blk_cell BK391.out 0).trans rfl
     have hcz13_1 : w7.cell? ⟨gb391, 1, none⟩ = some (.bool a0_1) := (blk_cell BK391.out 1).trans rfl
     have hcz13_2 : w7.cell? ⟨gb391, 2, none⟩ = some (.bool a0_2) := (blk_cell BK391.out 2).trans rfl
     have hcz13_3 : w7.cell? ⟨gb391, 3, none⟩ = some (.int .i64 a0_3) := (blk_cell BK391.out 3).trans rfl
     have hcz13_4 : w7.cell? ⟨gb391, 4, none⟩ = some (.int .u32 a0_4) := (blk_cell BK391.out 4).trans rfl
     have hcz13_5 : w7.cell? ⟨gb391, 5, none⟩ = some (.string a0_5) := (blk_cell BK391.out 5).trans rfl
     have hcz13_6 : w7.cell? ⟨gb391, 6, none⟩ = some (.string a0_6) := (blk_cell BK391.out 6).trans rfl
     have hcz13_7 : w7.cell? ⟨gb391, 7, none⟩ = some (.string a0_7) := (blk_cell BK391.out 7).trans rfl
     have hcz13_8 : w7.cell? ⟨gb391, 8, none⟩ = some (.int .u64 a0_8) := (blk_cell BK391.out 8).trans rfl
     have hcz13_9 : w7.cell? ⟨gb391, 9, none⟩ = some (.int .i64 a0_9) := (blk_cell BK391.out 9).trans rfl
     have hcz13_10 : w7.cell? ⟨gb391, 10, none⟩ = some (.int .u64 a0_10) := (blk_cell BK391.out 10).trans rfl
     have hfz13_0 := blk_frozen BK391.out 0
     have hfz13_1 := blk_frozen BK391.out 1
     have hfz13_2 := blk_frozen BK391.out 2
     have hfz13_3 := blk_frozen BK391.out 3
     have hfz13_4 := blk_frozen BK391.out 4
     have hfz13_5 := blk_frozen BK391.out 5
     have hfz13_6 := blk_frozen BK391.out 6
     have hfz13_7 := blk_frozen BK391.out 7
     have hfz13_8 := blk_frozen BK391.out 8
     have hfz13_9 := blk_frozen BK391.out 9
     have hfz13_10 := blk_frozen BK391.out 10
     go_wp2_with (first | (go_at_call 10; (with_reducible refine (dominolaw04_bounded.calls a0_0 a0_1 a0_2 a0_3 a0_4 a0_5 a0_6 a0_7 a0_8 a0_9 a0_10 true _ A8.out).mono ?_); rintro e w14 ⟨rfl, hb⟩; have n0_ := Aside0.mk (blk_below (g := gb391) (o := .cells #[.bool a0_0, .bool a0_1, .bool a0_2, .int .i64 a0_3, .int .u32 a0_4, .string a0_5, .string a0_6, .string a0_7, .int .u64 a0_8, .int .i64 a0_9, .int .u64 a0_10] 25 (0, 0)) (by (with_reducible repeat (first | refine blk_drewN ?_ _ | refine blk_drew ?_ | refine blk_alloc ?_ _)); exact BK391.out) hb); have n1_ := Aside0.mk (below_step (by repeat (first | (with_reducible first | exact HB.out | apply below_alloc | apply pw_below_drewN | apply below_drew1 | refine below_set ?_ GE391.out) | exact HB.out)) hb); clear BK391; clear HB; have BK391 := n0_; have HB := n1_; clear n0_ n1_; (try clear hb); (try clear hb2); (try clear hk); (try clear hi)) | (go_at_call 11; (with_reducible refine (dominolaw04_shown.calls k  t395 _ (by first | exact HTab.out | exact tab_below HTab.out HB.out | exact (tab_below HTab.out (by repeat (first | (with_reducible first | exact HB.out | apply below_alloc | apply pw_below_drewN | apply below_drew1 | refine below_set ?_ GE391.out) | exact HB.out))) | exact tab_below HTab.out (by repeat (first | exact HB.out | exact Below.refl _ _ | apply below_alloc | apply pw_below_drewN | apply below_drew1 | refine below_set ?_ GE391.out))) A12.out).mono ?_); rintro e w15 ⟨rfl, hb⟩; have n0_ := Aside0.mk (blk_below (g := gb391) (o := .cells #[.bool a0_0, .bool a0_1, .bool a0_2, .int .i64 a0_3, .int .u32 a0_4, .string a0_5, .string a0_6, .string a0_7, .int .u64 a0_8, .int .i64 a0_9, .int .u64 a0_10] 25 (0, 0)) (by (with_reducible repeat (first | refine blk_drewN ?_ _ | refine blk_drew ?_ | refine blk_alloc ?_ _)); exact BK391.out) hb); have n1_ := Aside0.mk (below_step (by repeat (first | (with_reducible first | exact HB.out | apply below_alloc | apply pw_below_drewN | apply below_drew1 | refine below_set ?_ GE391.out) | exact HB.out)) hb); clear BK391; clear HB; have BK391 := n0_; have HB := n1_; clear n0_ n1_; (try clear hb); (try clear hb2); (try clear hk); (try clear hi)))
     repeat (go_quiet (first | (go_at_call 10; (with_reducible refine (dominolaw04_bounded.calls a0_0 a0_1 a0_2 a0_3 a0_4 a0_5 a0_6 a0_7 a0_8 a0_9 a0_10 true _ A8.out).mono ?_); rintro e w14 ⟨rfl, hb⟩; have n0_ := Aside0.mk (blk_below (g := gb391) (o := .cells #[.bool a0_0, .bool a0_1, .bool a0_2, .int .i64 a0_3, .int .u32 a0_4, .string a0_5, .string a0_6, .string a0_7, .int .u64 a0_8, .int .i64 a0_9, .int .u64 a0_10] 25 (0, 0)) (by (with_reducible repeat (first | refine blk_drewN ?_ _ | refine blk_drew ?_ | refine blk_alloc ?_ _)); exact BK391.out) hb); have n1_ := Aside0.mk (below_step (by repeat (first | (with_reducible first | exact HB.out | apply below_alloc | apply pw_below_drewN | apply below_drew1 | refine below_set ?_ GE391.out) | exact HB.out)) hb); clear BK391; clear HB; have BK391 := n0_; have HB := n1_; clear n0_ n1_; (try clear hb); (try clear hb2); (try clear hk); (try clear hi)) | (go_at_call 11; (with_reducible refine (dominolaw04_shown.calls k  t395 _ (by first | exact HTab.out | exact tab_below HTab.out HB.out | exact (tab_below HTab.out (by repeat (first | (with_reducible first | exact HB.out | apply below_alloc | apply pw_below_drewN | apply below_drew1 | refine below_set ?_ GE391.out) | exact HB.out))) | exact tab_below HTab.out (by repeat (first | exact HB.out | exact Below.refl _ _ | apply below_alloc | apply pw_below_drewN | apply below_drew1 | refine below_set ?_ GE391.out))) A12.out).mono ?_); rintro e w15 ⟨rfl, hb⟩; have n0_ := Aside0.mk (blk_below (g := gb391) (o := .cells #[.bool a0_0, .bool a0_1, .bool a0_2, .int .i64 a0_3, .int .u32 a0_4, .string a0_5, .string a0_6, .string a0_7, .int .u64 a0_8, .int .i64 a0_9, .int .u64 a0_10] 25 (0, 0)) (by (with_reducible repeat (first | refine blk_drewN ?_ _ | refine blk_drew ?_ | refine blk_alloc ?_ _)); exact BK391.out) hb); have n1_ := Aside0.mk (below_step (by repeat (first | (with_reducible first | exact HB.out | apply below_alloc | apply pw_below_drewN | apply below_drew1 | refine below_set ?_ GE391.out) | exact HB.out)) hb); clear BK391; clear HB; have BK391 := n0_; have HB := n1_; clear n0_ n1_; (try clear hb); (try clear hb2); (try clear hk); (try clear hi))); try go_wp2_with (first | (go_at_call 10; (with_reducible refine (dominolaw04_bounded.calls a0_0 a0_1 a0_2 a0_3 a0_4 a0_5 a0_6 a0_7 a0_8 a0_9 a0_10 true _ A8.out).mono ?_); rintro e w14 ⟨rfl, hb⟩; have n0_ := Aside0.mk (blk_below (g := gb391) (o := .cells #[.bool a0_0, .bool a0_1, .bool a0_2, .int .i64 a0_3, .int .u32 a0_4, .string a0_5, .string a0_6, .string a0_7, .int .u64 a0_8, .int .i64 a0_9, .int .u64 a0_10] 25 (0, 0)) (by (with_reducible repeat (first | refine blk_drewN ?_ _ | refine blk_drew ?_ | refine blk_alloc ?_ _)); exact BK391.out) hb); have n1_ := Aside0.mk (below_step (by repeat (first | (with_reducible first | exact HB.out | apply below_alloc | apply pw_below_drewN | apply below_drew1 | refine below_set ?_ GE391.out) | exact HB.out)) hb); clear BK391; clear HB; have BK391 := n0_; have HB := n1_; clear n0_ n1_; (try clear hb); (try clear hb2); (try clear hk); (try clear hi)) | (go_at_call 11; (with_reducible refine (dominolaw04_shown.calls k  t395 _ (by first | exact HTab.out | exact tab_below HTab.out HB.out | exact (tab_below HTab.out (by repeat (first | (with_reducible first | exact HB.out | apply below_alloc | apply pw_below_drewN | apply below_drew1 | refine below_set ?_ GE391.out) | exact HB.out))) | exact tab_below HTab.out (by repeat (first | exact HB.out | exact Below.refl _ _ | apply below_alloc | apply pw_below_drewN | apply below_drew1 | refine below_set ?_ GE391.out))) A12.out).mono ?_); rintro e w15 ⟨rfl, hb⟩; have n0_ := Aside0.mk (blk_below (g := gb391) (o := .cells #[.bool a0_0, .bool a0_1, .bool a0_2, .int .i64 a0_3, .int .u32 a0_4, .string a0_5, .string a0_6, .string a0_7, .int .u64 a0_8, .int .i64 a0_9, .int .u64 a0_10] 25 (0, 0)) (by (with_reducible repeat (first | refine blk_drewN ?_ _ | refine blk_drew ?_ | refine blk_alloc ?_ _)); exact BK391.out) hb); have n1_ := Aside0.mk (below_step (by repeat (first | (with_reducible first | exact HB.out | apply below_alloc | apply pw_below_drewN | apply below_drew1 | refine below_set ?_ GE391.out) | exact HB.out)) hb); clear BK391; clear HB; have BK391 := n0_; have HB := n1_; clear n0_ n1_; (try clear hb); (try clear hb2); (try clear hk); (try clear hi))))
     go_meet
     case rel => exact ⟨_, (!t395), (by first | rfl | (simp; done) | (simp [*]; done)), H', ⟨by first | omega | exact Nat.le_refl _⟩, ⟨by (with_reducible repeat (first | refine blk_drewN ?_ _ | refine blk_drew ?_ | refine blk_alloc ?_ _)); exact BK391.out⟩, ⟨by repeat (first | (with_reducible first | exact HB.out | apply below_alloc | apply pw_below_drewN | apply below_drew1 | refine below_set ?_ GE391.out) | exact HB.out)⟩⟩
    ·rw [if_neg c11] at H
     have c11b0 : (t393 == 0) = false := beq_eq_false_iff_ne.mpr c11
     have c11b1 : (t393 != 0) = true := bne_iff_ne.mpr c11
     have H' := Aside0.mk H
     clear H
     have hcz16_0 : w7.cell? ⟨gb391, 0, none⟩ = some (.bool a0_0) := (blk_cell BK391.out 0).trans rfl
     have hcz16_1 : w7.cell? ⟨gb391, 1, none⟩ = some (.bool a0_1) := (blk_cell BK391.out 1).trans rfl
     have hcz16_2 : w7.cell? ⟨gb391, 2, none⟩ = some (.bool a0_2) := (blk_cell BK391.out 2).trans rfl
     have hcz16_3 : w7.cell? ⟨gb391, 3, none⟩ = some (.int .i64 a0_3) := (blk_cell BK391.out 3).trans rfl
     have hcz16_4 : w7.cell? ⟨gb391, 4, none⟩ = some (.int .u32 a0_4) := (blk_cell BK391.out 4).trans rfl
     have hcz16_5 : w7.cell? ⟨gb391, 5, none⟩ = some (.string a0_5) := (blk_cell BK391.out 5).trans rfl
     have hcz16_6 : w7.cell? ⟨gb391, 6, none⟩ = some (.string a0_6) := (blk_cell BK391.out 6).trans rfl
     have hcz16_7 : w7.cell? ⟨gb391, 7, none⟩ = some (.string a0_7) := (blk_cell BK391.out 7).trans rfl
     have hcz16_8 : w7.cell? ⟨gb391, 8, none⟩ = some (.int .u64 a0_8) := (blk_cell BK391.out 8).trans rfl
     have hcz16_9 : w7.cell? ⟨gb391, 9, none⟩ = some (.int .i64 a0_9) := (blk_cell BK391.out 9).trans rfl
     have hcz16_10 : w7.cell? ⟨gb391, 10, none⟩ = some (.int .u64 a0_10) := (blk_cell BK391.out 10).trans rfl
     have hfz16_0 := blk_frozen BK391.out 0
     have hfz16_1 := blk_frozen BK391.out 1
     have hfz16_2 := blk_frozen BK391.out 2
     have hfz16_3 := blk_frozen BK391.out 3
     have hfz16_4 := blk_frozen BK391.out 4
     have hfz16_5 := blk_frozen BK391.out 5
     have hfz16_6 := blk_frozen BK391.out 6
     have hfz16_7 := blk_frozen BK391.out 7
     have hfz16_8 := blk_frozen BK391.out 8
     have hfz16_9 := blk_frozen BK391.out 9
     have hfz16_10 := blk_frozen BK391.out 10
     go_wp2_with (first | (go_at_call 10; (with_reducible refine (dominolaw04_bounded.calls a0_0 a0_1 a0_2 a0_3 a0_4 a0_5 a0_6 a0_7 a0_8 a0_9 a0_10 true _ A8.out).mono ?_); rintro e w17 ⟨rfl, hb⟩; have n0_ := Aside0.mk (blk_below (g := gb391) (o := .cells #[.bool a0_0, .bool a0_1, .bool a0_2, .int .i64 a0_3, .int .u32 a0_4, .string a0_5, .string a0_6, .string a0_7, .int .u64 a0_8, .int .i64 a0_9, .int .u64 a0_10] 25 (0, 0)) (by (with_reducible repeat (first | refine blk_drewN ?_ _ | refine blk_drew ?_ | refine blk_alloc ?_ _)); exact BK391.out) hb); have n1_ := Aside0.mk (below_step (by repeat (first | (with_reducible first | exact HB.out | apply below_alloc | apply pw_below_drewN | apply below_drew1 | refine below_set ?_ GE391.out) | exact HB.out)) hb); clear BK391; clear HB; have BK391 := n0_; have HB := n1_; clear n0_ n1_; (try clear hb); (try clear hb2); (try clear hk); (try clear hi)))
     repeat (go_quiet (first | (go_at_call 10; (with_reducible refine (dominolaw04_bounded.calls a0_0 a0_1 a0_2 a0_3 a0_4 a0_5 a0_6 a0_7 a0_8 a0_9 a0_10 true _ A8.out).mono ?_); rintro e w17 ⟨rfl, hb⟩; have n0_ := Aside0.mk (blk_below (g := gb391) (o := .cells #[.bool a0_0, .bool a0_1, .bool a0_2, .int .i64 a0_3, .int .u32 a0_4, .string a0_5, .string a0_6, .string a0_7, .int .u64 a0_8, .int .i64 a0_9, .int .u64 a0_10] 25 (0, 0)) (by (with_reducible repeat (first | refine blk_drewN ?_ _ | refine blk_drew ?_ | refine blk_alloc ?_ _)); exact BK391.out) hb); have n1_ := Aside0.mk (below_step (by repeat (first | (with_reducible first | exact HB.out | apply below_alloc | apply pw_below_drewN | apply below_drew1 | refine below_set ?_ GE391.out) | exact HB.out)) hb); clear BK391; clear HB; have BK391 := n0_; have HB := n1_; clear n0_ n1_; (try clear hb); (try clear hb2); (try clear hk); (try clear hi))); try go_wp2_with (first | (go_at_call 10; (with_reducible refine (dominolaw04_bounded.calls a0_0 a0_1 a0_2 a0_3 a0_4 a0_5 a0_6 a0_7 a0_8 a0_9 a0_10 true _ A8.out).mono ?_); rintro e w17 ⟨rfl, hb⟩; have n0_ := Aside0.mk (blk_below (g := gb391) (o := .cells #[.bool a0_0, .bool a0_1, .bool a0_2, .int .i64 a0_3, .int .u32 a0_4, .string a0_5, .string a0_6, .string a0_7, .int .u64 a0_8, .int .i64 a0_9, .int .u64 a0_10] 25 (0, 0)) (by (with_reducible repeat (first | refine blk_drewN ?_ _ | refine blk_drew ?_ | refine blk_alloc ?_ _)); exact BK391.out) hb); have n1_ := Aside0.mk (below_step (by repeat (first | (with_reducible first | exact HB.out | apply below_alloc | apply pw_below_drewN | apply below_drew1 | refine below_set ?_ GE391.out) | exact HB.out)) hb); clear BK391; clear HB; have BK391 := n0_; have HB := n1_; clear n0_ n1_; (try clear hb); (try clear hb2); (try clear hk); (try clear hi))))
     go_meet
     case rel => exact ⟨_, (true), (by first | rfl | (simp; done) | (simp [*]; done)), H', ⟨by first | omega | exact Nat.le_refl _⟩, ⟨by (with_reducible repeat (first | refine blk_drewN ?_ _ | refine blk_drew ?_ | refine blk_alloc ?_ _)); exact BK391.out⟩, ⟨by repeat (first | (with_reducible first | exact HB.out | apply below_alloc | apply pw_below_drewN | apply below_drew1 | refine below_set ?_ GE391.out) | exact HB.out)⟩⟩
   ·rw [if_neg c10] at H
    have c10b0 : ((a1.size : Int) == 5) = false := beq_eq_false_iff_ne.mpr c10
    have c10b1 : ((a1.size : Int) != 5) = true := bne_iff_ne.mpr c10
    (first | rw [c10b0] | (simp only [i64_w, i32_w]; rw [c10b0]) | skip)
    have H' := Aside0.mk H
    clear H
    have hcz18_0 : w7.cell? ⟨gb391, 0, none⟩ = some (.bool a0_0) := (blk_cell BK391.out 0).trans rfl
    have hcz18_1 : w7.cell? ⟨gb391, 1, none⟩ = some (.bool a0_1) := (blk_cell BK391.out 1).trans rfl
    have hcz18_2 : w7.cell? ⟨gb391, 2, none⟩ = some (.bool a0_2) := (blk_cell BK391.out 2).trans rfl
    have hcz18_3 : w7.cell? ⟨gb391, 3, none⟩ = some (.int .i64 a0_3) := (blk_cell BK391.out 3).trans rfl
    have hcz18_4 : w7.cell? ⟨gb391, 4, none⟩ = some (.int .u32 a0_4) := (blk_cell BK391.out 4).trans rfl
    have hcz18_5 : w7.cell? ⟨gb391, 5, none⟩ = some (.string a0_5) := (blk_cell BK391.out 5).trans rfl
    have hcz18_6 : w7.cell? ⟨gb391, 6, none⟩ = some (.string a0_6) := (blk_cell BK391.out 6).trans rfl
    have hcz18_7 : w7.cell? ⟨gb391, 7, none⟩ = some (.string a0_7) := (blk_cell BK391.out 7).trans rfl
    have hcz18_8 : w7.cell? ⟨gb391, 8, none⟩ = some (.int .u64 a0_8) := (blk_cell BK391.out 8).trans rfl
    have hcz18_9 : w7.cell? ⟨gb391, 9, none⟩ = some (.int .i64 a0_9) := (blk_cell BK391.out 9).trans rfl
    have hcz18_10 : w7.cell? ⟨gb391, 10, none⟩ = some (.int .u64 a0_10) := (blk_cell BK391.out 10).trans rfl
    have hfz18_0 := blk_frozen BK391.out 0
    have hfz18_1 := blk_frozen BK391.out 1
    have hfz18_2 := blk_frozen BK391.out 2
    have hfz18_3 := blk_frozen BK391.out 3
    have hfz18_4 := blk_frozen BK391.out 4
    have hfz18_5 := blk_frozen BK391.out 5
    have hfz18_6 := blk_frozen BK391.out 6
    have hfz18_7 := blk_frozen BK391.out 7
    have hfz18_8 := blk_frozen BK391.out 8
    have hfz18_9 := blk_frozen BK391.out 9
    have hfz18_10 := blk_frozen BK391.out 10
    go_wp2_with (first | (go_at_call 10; (with_reducible refine (dominolaw04_bounded.calls a0_0 a0_1 a0_2 a0_3 a0_4 a0_5 a0_6 a0_7 a0_8 a0_9 a0_10 true _ A8.out).mono ?_); rintro e w19 ⟨rfl, hb⟩; have n0_ := Aside0.mk (blk_below (g := gb391) (o := .cells #[.bool a0_0, .bool a0_1, .bool a0_2, .int .i64 a0_3, .int .u32 a0_4, .string a0_5, .string a0_6, .string a0_7, .int .u64 a0_8, .int .i64 a0_9, .int .u64 a0_10] 25 (0, 0)) (by (with_reducible repeat (first | refine blk_drewN ?_ _ | refine blk_drew ?_ | refine blk_alloc ?_ _)); exact BK391.out) hb); have n1_ := Aside0.mk (below_step (by repeat (first | (with_reducible first | exact HB.out | apply below_alloc | apply pw_below_drewN | apply below_drew1 | refine below_set ?_ GE391.out) | exact HB.out)) hb); clear BK391; clear HB; have BK391 := n0_; have HB := n1_; clear n0_ n1_; (try clear hb); (try clear hb2); (try clear hk); (try clear hi)))
    repeat (go_quiet (first | (go_at_call 10; (with_reducible refine (dominolaw04_bounded.calls a0_0 a0_1 a0_2 a0_3 a0_4 a0_5 a0_6 a0_7 a0_8 a0_9 a0_10 true _ A8.out).mono ?_); rintro e w19 ⟨rfl, hb⟩; have n0_ := Aside0.mk (blk_below (g := gb391) (o := .cells #[.bool a0_0, .bool a0_1, .bool a0_2, .int .i64 a0_3, .int .u32 a0_4, .string a0_5, .string a0_6, .string a0_7, .int .u64 a0_8, .int .i64 a0_9, .int .u64 a0_10] 25 (0, 0)) (by (with_reducible repeat (first | refine blk_drewN ?_ _ | refine blk_drew ?_ | refine blk_alloc ?_ _)); exact BK391.out) hb); have n1_ := Aside0.mk (below_step (by repeat (first | (with_reducible first | exact HB.out | apply below_alloc | apply pw_below_drewN | apply below_drew1 | refine below_set ?_ GE391.out) | exact HB.out)) hb); clear BK391; clear HB; have BK391 := n0_; have HB := n1_; clear n0_ n1_; (try clear hb); (try clear hb2); (try clear hk); (try clear hi))); try go_wp2_with (first | (go_at_call 10; (with_reducible refine (dominolaw04_bounded.calls a0_0 a0_1 a0_2 a0_3 a0_4 a0_5 a0_6 a0_7 a0_8 a0_9 a0_10 true _ A8.out).mono ?_); rintro e w19 ⟨rfl, hb⟩; have n0_ := Aside0.mk (blk_below (g := gb391) (o := .cells #[.bool a0_0, .bool a0_1, .bool a0_2, .int .i64 a0_3, .int .u32 a0_4, .string a0_5, .string a0_6, .string a0_7, .int .u64 a0_8, .int .i64 a0_9, .int .u64 a0_10] 25 (0, 0)) (by (with_reducible repeat (first | refine blk_drewN ?_ _ | refine blk_drew ?_ | refine blk_alloc ?_ _)); exact BK391.out) hb); have n1_ := Aside0.mk (below_step (by repeat (first | (with_reducible first | exact HB.out | apply below_alloc | apply pw_below_drewN | apply below_drew1 | refine below_set ?_ GE391.out) | exact HB.out)) hb); clear BK391; clear HB; have BK391 := n0_; have HB := n1_; clear n0_ n1_; (try clear hb); (try clear hb2); (try clear hk); (try clear hi))))
    go_meet
    case rel => exact ⟨_, (true), (by first | rfl | (simp; done) | (simp [*]; done)), H', ⟨by first | omega | exact Nat.le_refl _⟩, ⟨by (with_reducible repeat (first | refine blk_drewN ?_ _ | refine blk_drew ?_ | refine blk_alloc ?_ _)); exact BK391.out⟩, ⟨by repeat (first | (with_reducible first | exact HB.out | apply below_alloc | apply pw_below_drewN | apply below_drew1 | refine below_set ?_ GE391.out) | exact HB.out)⟩⟩
  ·replace c9 := Bool.eq_false_iff.mpr c9
   subst c9
   have H1 : (dominolaw04_HeaderBits.j0 k a1 t392 true a0_0 a0_1 a0_2 a0_3 a0_4 a0_5 a0_6 a0_7 a0_8 a0_9 a0_10) = some r := by rw [if_neg (show ¬ (false = true) by decide)] at H; exact H
   clear H
   have H := H1
   clear H1
   have H' := Aside0.mk H
   clear H
   have hcz20_0 : w7.cell? ⟨gb391, 0, none⟩ = some (.bool a0_0) := (blk_cell BK391.out 0).trans rfl
   have hcz20_1 : w7.cell? ⟨gb391, 1, none⟩ = some (.bool a0_1) := (blk_cell BK391.out 1).trans rfl
   have hcz20_2 : w7.cell? ⟨gb391, 2, none⟩ = some (.bool a0_2) := (blk_cell BK391.out 2).trans rfl
   have hcz20_3 : w7.cell? ⟨gb391, 3, none⟩ = some (.int .i64 a0_3) := (blk_cell BK391.out 3).trans rfl
   have hcz20_4 : w7.cell? ⟨gb391, 4, none⟩ = some (.int .u32 a0_4) := (blk_cell BK391.out 4).trans rfl
   have hcz20_5 : w7.cell? ⟨gb391, 5, none⟩ = some (.string a0_5) := (blk_cell BK391.out 5).trans rfl
   have hcz20_6 : w7.cell? ⟨gb391, 6, none⟩ = some (.string a0_6) := (blk_cell BK391.out 6).trans rfl
   have hcz20_7 : w7.cell? ⟨gb391, 7, none⟩ = some (.string a0_7) := (blk_cell BK391.out 7).trans rfl
   have hcz20_8 : w7.cell? ⟨gb391, 8, none⟩ = some (.int .u64 a0_8) := (blk_cell BK391.out 8).trans rfl
   have hcz20_9 : w7.cell? ⟨gb391, 9, none⟩ = some (.int .i64 a0_9) := (blk_cell BK391.out 9).trans rfl
   have hcz20_10 : w7.cell? ⟨gb391, 10, none⟩ = some (.int .u64 a0_10) := (blk_cell BK391.out 10).trans rfl
   have hfz20_0 := blk_frozen BK391.out 0
   have hfz20_1 := blk_frozen BK391.out 1
   have hfz20_2 := blk_frozen BK391.out 2
   have hfz20_3 := blk_frozen BK391.out 3
   have hfz20_4 := blk_frozen BK391.out 4
   have hfz20_5 := blk_frozen BK391.out 5
   have hfz20_6 := blk_frozen BK391.out 6
   have hfz20_7 := blk_frozen BK391.out 7
   have hfz20_8 := blk_frozen BK391.out 8
   have hfz20_9 := blk_frozen BK391.out 9
   have hfz20_10 := blk_frozen BK391.out 10
   go_wp2_with (first | (go_at_call 10; (with_reducible refine (dominolaw04_bounded.calls a0_0 a0_1 a0_2 a0_3 a0_4 a0_5 a0_6 a0_7 a0_8 a0_9 a0_10 false _ A8.out).mono ?_); rintro e w21 ⟨rfl, hb⟩; have n0_ := Aside0.mk (blk_below (g := gb391) (o := .cells #[.bool a0_0, .bool a0_1, .bool a0_2, .int .i64 a0_3, .int .u32 a0_4, .string a0_5, .string a0_6, .string a0_7, .int .u64 a0_8, .int .i64 a0_9, .int .u64 a0_10] 25 (0, 0)) (by (with_reducible repeat (first | refine blk_drewN ?_ _ | refine blk_drew ?_ | refine blk_alloc ?_ _)); exact BK391.out) hb); have n1_ := Aside0.mk (below_step (by repeat (first | (with_reducible first | exact HB.out | apply below_alloc | apply pw_below_drewN | apply below_drew1 | refine below_set ?_ GE391.out) | exact HB.out)) hb); clear BK391; clear HB; have BK391 := n0_; have HB := n1_; clear n0_ n1_; (try clear hb); (try clear hb2); (try clear hk); (try clear hi)))
   repeat (go_quiet (first | (go_at_call 10; (with_reducible refine (dominolaw04_bounded.calls a0_0 a0_1 a0_2 a0_3 a0_4 a0_5 a0_6 a0_7 a0_8 a0_9 a0_10 false _ A8.out).mono ?_); rintro e w21 ⟨rfl, hb⟩; have n0_ := Aside0.mk (blk_below (g := gb391) (o := .cells #[.bool a0_0, .bool a0_1, .bool a0_2, .int .i64 a0_3, .int .u32 a0_4, .string a0_5, .string a0_6, .string a0_7, .int .u64 a0_8, .int .i64 a0_9, .int .u64 a0_10] 25 (0, 0)) (by (with_reducible repeat (first | refine blk_drewN ?_ _ | refine blk_drew ?_ | refine blk_alloc ?_ _)); exact BK391.out) hb); have n1_ := Aside0.mk (below_step (by repeat (first | (with_reducible first | exact HB.out | apply below_alloc | apply pw_below_drewN | apply below_drew1 | refine below_set ?_ GE391.out) | exact HB.out)) hb); clear BK391; clear HB; have BK391 := n0_; have HB := n1_; clear n0_ n1_; (try clear hb); (try clear hb2); (try clear hk); (try clear hi))); try go_wp2_with (first | (go_at_call 10; (with_reducible refine (dominolaw04_bounded.calls a0_0 a0_1 a0_2 a0_3 a0_4 a0_5 a0_6 a0_7 a0_8 a0_9 a0_10 false _ A8.out).mono ?_); rintro e w21 ⟨rfl, hb⟩; have n0_ := Aside0.mk (blk_below (g := gb391) (o := .cells #[.bool a0_0, .bool a0_1, .bool a0_2, .int .i64 a0_3, .int .u32 a0_4, .string a0_5, .string a0_6, .string a0_7, .int .u64 a0_8, .int .i64 a0_9, .int .u64 a0_10] 25 (0, 0)) (by (with_reducible repeat (first | refine blk_drewN ?_ _ | refine blk_drew ?_ | refine blk_alloc ?_ _)); exact BK391.out) hb); have n1_ := Aside0.mk (below_step (by repeat (first | (with_reducible first | exact HB.out | apply below_alloc | apply pw_below_drewN | apply below_drew1 | refine below_set ?_ GE391.out) | exact HB.out)) hb); clear BK391; clear HB; have BK391 := n0_; have HB := n1_; clear n0_ n1_; (try clear hb); (try clear hb2); (try clear hk); (try clear hi))))
   go_meet
   case rel => exact ⟨_, (true), (by first | rfl | (simp; done) | (simp [*]; done)), H', ⟨by first | omega | exact Nat.le_refl _⟩, ⟨by (with_reducible repeat (first | refine blk_drewN ?_ _ | refine blk_drew ?_ | refine blk_alloc ?_ _)); exact BK391.out⟩, ⟨by repeat (first | (with_reducible first | exact HB.out | apply below_alloc | apply pw_below_drewN | apply below_drew1 | refine below_set ?_ GE391.out) | exact HB.out)⟩⟩
 case rest =>
  clear HC4
  try clear c1
  try clear p2
  try clear c7
  try clear c9
  try clear c10
  try clear c10b0
  try clear c10b1
  try clear c11
  try clear c11b0
  try clear c11b1
  try clear hcz13_0
  try clear hcz13_1
  try clear hcz13_10
  try clear hcz13_2
  try clear hcz13_3
  try clear hcz13_4
  try clear hcz13_5
  try clear hcz13_6
  try clear hcz13_7
  try clear hcz13_8
  try clear hcz13_9
  try clear hcz16_0
  try clear hcz16_1
  try clear hcz16_10
  try clear hcz16_2
  try clear hcz16_3
  try clear hcz16_4
  try clear hcz16_5
  try clear hcz16_6
  try clear hcz16_7
  try clear hcz16_8
  try clear hcz16_9
  try clear hcz18_0
  try clear hcz18_1
  try clear hcz18_10
  try clear hcz18_2
  try clear hcz18_3
  try clear hcz18_4
  try clear hcz18_5
  try clear hcz18_6
  try clear hcz18_7
  try clear hcz18_8
  try clear hcz18_9
  try clear hcz20_0
  try clear hcz20_1
  try clear hcz20_10
  try clear hcz20_2
  try clear hcz20_3
  try clear hcz20_4
  try clear hcz20_5
  try clear hcz20_6
  try clear hcz20_7
  try clear hcz20_8
  try clear hcz20_9
  try clear hcz6_0
  try clear hcz6_1
  try clear hcz6_10
  try clear hcz6_2
  try clear hcz6_3
  try clear hcz6_4
  try clear hcz6_5
  try clear hcz6_6
  try clear hcz6_7
  try clear hcz6_8
  try clear hcz6_9
  try clear hfz13_0
  try clear hfz13_1
  try clear hfz13_10
  try clear hfz13_2
  try clear hfz13_3
  try clear hfz13_4
  try clear hfz13_5
  try clear hfz13_6
  try clear hfz13_7
  try clear hfz13_8
  try clear hfz13_9
  try clear hfz16_0
  try clear hfz16_1
  try clear hfz16_10
  try clear hfz16_2
  try clear hfz16_3
  try clear hfz16_4
  try clear hfz16_5
  try clear hfz16_6
  try clear hfz16_7
  try clear hfz16_8
  try clear hfz16_9
  try clear hfz18_0
  try clear hfz18_1
  try clear hfz18_10
  try clear hfz18_2
  try clear hfz18_3
  try clear hfz18_4
  try clear hfz18_5
  try clear hfz18_6
  try clear hfz18_7
  try clear hfz18_8
  try clear hfz18_9
  try clear hfz20_0
  try clear hfz20_1
  try clear hfz20_10
  try clear hfz20_2
  try clear hfz20_3
  try clear hfz20_4
  try clear hfz20_5
  try clear hfz20_6
  try clear hfz20_7
  try clear hfz20_8
  try clear hfz20_9
  try clear hfz6_0
  try clear hfz6_1
  try clear hfz6_10
  try clear hfz6_2
  try clear hfz6_3
  try clear hfz6_4
  try clear hfz6_5
  try clear hfz6_6
  try clear hfz6_7
  try clear hfz6_8
  try clear hfz6_9
  obtain ⟨kq, x31_3, rfl, HA, HJ3, BK391, HB⟩ := hcut
  cases kq with
  | zero => exact absurd HA.out (by simp [dominolaw04_HeaderBits.j0])
  | succ kj3 =>
   have H := HA.out
   clear HA
   simp only [dominolaw04_HeaderBits.j0] at H
   by_cases c22 : x31_3 = true
   ·subst c22
    have H1 : ((dominolaw04_shown.f kj3).bind fun t396 => (some t396)) = some r := by rw [if_pos rfl] at H; exact H
    clear H
    have H := H1
    clear H1
    replace H := Option.bind_eq_some_iff.mp H
    obtain ⟨t396, A230, H⟩ := H
    replace H : (some t396) = some r := H
    have A23 := Aside0.mk A230
    clear A230
    obtain rfl := Option.some.inj H
    go_wp2_with (first | (go_at_call 11; (with_reducible refine (dominolaw04_shown.calls kj3  t396 _ (by first | exact HTab.out | exact tab_below HTab.out HB.out | exact (tab_below HTab.out (by repeat (first | (with_reducible first | exact HB.out | apply below_alloc | apply pw_below_drewN | apply below_drew1 | refine below_set ?_ GE391.out) | exact HB.out))) | exact tab_below HTab.out (by repeat (first | exact HB.out | exact Below.refl _ _ | apply below_alloc | apply pw_below_drewN | apply below_drew1 | refine below_set ?_ GE391.out))) A23.out).mono ?_); rintro e w24 ⟨rfl, hb⟩; have n0_ := Aside0.mk (blk_below (g := gb391) (o := .cells #[.bool a0_0, .bool a0_1, .bool a0_2, .int .i64 a0_3, .int .u32 a0_4, .string a0_5, .string a0_6, .string a0_7, .int .u64 a0_8, .int .i64 a0_9, .int .u64 a0_10] 25 (0, 0)) (by (with_reducible repeat (first | refine blk_drewN ?_ _ | refine blk_drew ?_ | refine blk_alloc ?_ _)); exact BK391.out) hb); have n1_ := Aside0.mk (below_step (by repeat (first | (with_reducible first | exact HB.out | apply below_alloc | apply pw_below_drewN | apply below_drew1 | refine below_set ?_ GE391.out) | exact HB.out)) hb); clear BK391; clear HB; have BK391 := n0_; have HB := n1_; clear n0_ n1_; (try clear hb); (try clear hb2); (try clear hk); (try clear hi)))
    repeat (go_quiet (first | (go_at_call 11; (with_reducible refine (dominolaw04_shown.calls kj3  t396 _ (by first | exact HTab.out | exact tab_below HTab.out HB.out | exact (tab_below HTab.out (by repeat (first | (with_reducible first | exact HB.out | apply below_alloc | apply pw_below_drewN | apply below_drew1 | refine below_set ?_ GE391.out) | exact HB.out))) | exact tab_below HTab.out (by repeat (first | exact HB.out | exact Below.refl _ _ | apply below_alloc | apply pw_below_drewN | apply below_drew1 | refine below_set ?_ GE391.out))) A23.out).mono ?_); rintro e w24 ⟨rfl, hb⟩; have n0_ := Aside0.mk (blk_below (g := gb391) (o := .cells #[.bool a0_0, .bool a0_1, .bool a0_2, .int .i64 a0_3, .int .u32 a0_4, .string a0_5, .string a0_6, .string a0_7, .int .u64 a0_8, .int .i64 a0_9, .int .u64 a0_10] 25 (0, 0)) (by (with_reducible repeat (first | refine blk_drewN ?_ _ | refine blk_drew ?_ | refine blk_alloc ?_ _)); exact BK391.out) hb); have n1_ := Aside0.mk (below_step (by repeat (first | (with_reducible first | exact HB.out | apply below_alloc | apply pw_below_drewN | apply below_drew1 | refine below_set ?_ GE391.out) | exact HB.out)) hb); clear BK391; clear HB; have BK391 := n0_; have HB := n1_; clear n0_ n1_; (try clear hb); (try clear hb2); (try clear hk); (try clear hi))); try go_wp2_with (first | (go_at_call 11; (with_reducible refine (dominolaw04_shown.calls kj3  t396 _ (by first | exact HTab.out | exact tab_below HTab.out HB.out | exact (tab_below HTab.out (by repeat (first | (with_reducible first | exact HB.out | apply below_alloc | apply pw_below_drewN | apply below_drew1 | refine below_set ?_ GE391.out) | exact HB.out))) | exact tab_below HTab.out (by repeat (first | exact HB.out | exact Below.refl _ _ | apply below_alloc | apply pw_below_drewN | apply below_drew1 | refine below_set ?_ GE391.out))) A23.out).mono ?_); rintro e w24 ⟨rfl, hb⟩; have n0_ := Aside0.mk (blk_below (g := gb391) (o := .cells #[.bool a0_0, .bool a0_1, .bool a0_2, .int .i64 a0_3, .int .u32 a0_4, .string a0_5, .string a0_6, .string a0_7, .int .u64 a0_8, .int .i64 a0_9, .int .u64 a0_10] 25 (0, 0)) (by (with_reducible repeat (first | refine blk_drewN ?_ _ | refine blk_drew ?_ | refine blk_alloc ?_ _)); exact BK391.out) hb); have n1_ := Aside0.mk (below_step (by repeat (first | (with_reducible first | exact HB.out | apply below_alloc | apply pw_below_drewN | apply below_drew1 | refine below_set ?_ GE391.out) | exact HB.out)) hb); clear BK391; clear HB; have BK391 := n0_; have HB := n1_; clear n0_ n1_; (try clear hb); (try clear hb2); (try clear hk); (try clear hi))))
    go_ret
    exact ⟨by first | rfl | (simp [errW_none, errW_some] <;> rfl) | (simp [*, errW_none, errW_some] <;> rfl), by repeat (first | (with_reducible first | exact HB.out | apply below_alloc | apply pw_below_drewN | apply below_drew1 | refine below_set ?_ GE391.out) | exact HB.out)⟩
   ·replace c22 := Bool.eq_false_iff.mpr c22
    subst c22
    have H1 : ((header_Mask.f kj3 t392 a1).bind fun bt397 => (if a0_0 = true then (if bt397.2 = 0 then (if (bt397.1.size : Int) = (t392.size : Int) then (if 0 < (bt397.1.size : Int) then (if 0 < (t392.size : Int) then (if ((Int.tdiv (bt bt397.1 0) 16) % 256) = ((Int.tdiv (bt t392 0) 16) % 256) then (if 1 ≤ (wrap64 ((t392.size : Int) - a0_9)) then (if (wrap64 ((t392.size : Int) - a0_9)) ≤ (bt397.1.size : Int) then (if (wrap64 ((t392.size : Int) - a0_9)) ≤ (t392.size : Int) then (if (bt397.1.extract 1 ((wrap64 ((t392.size : Int) - a0_9)) : Int).toNat).toList = (t392.extract 1 ((wrap64 ((t392.size : Int) - a0_9)) : Int).toNat).toList then (some ((decide ((bt t392 0) ≥ 128)) == a0_0)) else (none)) else (none)) else (none)) else (none)) else (none)) else (none)) else (none)) else (none)) else (none)) else (if bt397.2 = 0 then (if (bt397.1.size : Int) = (t392.size : Int) then (if 0 < (bt397.1.size : Int) then (if 0 < (t392.size : Int) then (if ((Int.tdiv (bt bt397.1 0) 32) % 256) = ((Int.tdiv (bt t392 0) 32) % 256) then (if 1 ≤ (wrap64 ((t392.size : Int) - a0_9)) then (if (wrap64 ((t392.size : Int) - a0_9)) ≤ (bt397.1.size : Int) then (if (wrap64 ((t392.size : Int) - a0_9)) ≤ (t392.size : Int) then (if (bt397.1.extract 1 ((wrap64 ((t392.size : Int) - a0_9)) : Int).toNat).toList = (t392.extract 1 ((wrap64 ((t392.size : Int) - a0_9)) : Int).toNat).toList then (some ((decide ((bt t392 0) ≥ 128)) == a0_0)) else (none)) else (none)) else (none)) else (none)) else (none)) else (none)) else (none)) else (none)) else (none)))) = some r := by rw [if_neg (show ¬ (false = true) by decide)] at H; exact H
    clear H
    have H := H1
    clear H1
    replace H := Option.bind_eq_some_iff.mp H
    obtain ⟨⟨t397, t398⟩, A250, H⟩ := H
    replace H : (if a0_0 = true then (if t398 = 0 then (if (t397.size : Int) = (t392.size : Int) then (if 0 < (t397.size : Int) then (if 0 < (t392.size : Int) then (if ((Int.tdiv (bt t397 0) 16) % 256) = ((Int.tdiv (bt t392 0) 16) % 256) then (if 1 ≤ (wrap64 ((t392.size : Int) - a0_9)) then (if (wrap64 ((t392.size : Int) - a0_9)) ≤ (t397.size : Int) then (if (wrap64 ((t392.size : Int) - a0_9)) ≤ (t392.size : Int) then (if (t397.extract 1 ((wrap64 ((t392.size : Int) - a0_9)) : Int).toNat).toList = (t392.extract 1 ((wrap64 ((t392.size : Int) - a0_9)) : Int).toNat).toList then (some ((decide ((bt t392 0) ≥ 128)) == a0_0)) else (none)) else (none)) else (none)) else (none)) else (none)) else (none)) else (none)) else (none)) else (none)) else (if t398 = 0 then (if (t397.size : Int) = (t392.size : Int) then (if 0 < (t397.size : Int) then (if 0 < (t392.size : Int) then (if ((Int.tdiv (bt t397 0) 32) % 256) = ((Int.tdiv (bt t392 0) 32) % 256) then (if 1 ≤ (wrap64 ((t392.size : Int) - a0_9)) then (if (wrap64 ((t392.size : Int) - a0_9)) ≤ (t397.size : Int) then (if (wrap64 ((t392.size : Int) - a0_9)) ≤ (t392.size : Int) then (if (t397.extract 1 ((wrap64 ((t392.size : Int) - a0_9)) : Int).toNat).toList = (t392.extract 1 ((wrap64 ((t392.size : Int) - a0_9)) : Int).toNat).toList then (some ((decide ((bt t392 0) ≥ 128)) == a0_0)) else (none)) else (none)) else (none)) else (none)) else (none)) else (none)) else (none)) else (none)) else (none))) = some r := H
    have A25 := Aside0.mk A250
    clear A250
    by_cases c26 : a0_0 = true
    ·subst c26
     have H1 : (if t398 = 0 then (if (t397.size : Int) = (t392.size : Int) then (if 0 < (t397.size : Int) then (if 0 < (t392.size : Int) then (if ((Int.tdiv (bt t397 0) 16) % 256) = ((Int.tdiv (bt t392 0) 16) % 256) then (if 1 ≤ (wrap64 ((t392.size : Int) - a0_9)) then (if (wrap64 ((t392.size : Int) - a0_9)) ≤ (t397.size : Int) then (if (wrap64 ((t392.size : Int) - a0_9)) ≤ (t392.size : Int) then (if (t397.extract 1 ((wrap64 ((t392.size : Int) - a0_9)) : Int).toNat).toList = (t392.extract 1 ((wrap64 ((t392.size : Int) - a0_9)) : Int).toNat).toList then (some ((decide ((bt t392 0) ≥ 128)) == true)) else (none)) else (none)) else (none)) else (none)) else (none)) else (none)) else (none)) else (none)) else (none)) = some r := by rw [if_pos rfl] at H; exact H
     clear H
     have H := H1
     clear H1
     by_cases c27 : t398 = 0
     ·rw [if_pos c27] at H
      have c27b0 : (t398 == 0) = true := beq_iff_eq.mpr c27
      have c27b1 : (t398 != 0) = false := bne_eq_false_iff_eq.mpr c27
      clear c27
      by_cases c28 : (t397.size : Int) = (t392.size : Int)
      ·rw [if_pos c28] at H
       have c28b0 : ((t397.size : Int) == (t392.size : Int)) = true := beq_iff_eq.mpr c28
       have c28b1 : ((t397.size : Int) != (t392.size : Int)) = false := bne_eq_false_iff_eq.mpr c28
       have c28b2 : (t397.size == t392.size) = true := by first | simpa using c28 | (simp at c28 ⊢; omega)
       clear c28
       by_cases c29 : 0 < (t397.size : Int)
       ·rw [if_pos c29] at H
        have c29b0 : decide (0 < (t397.size : Int)) = true := decide_eq_true c29
        have c29b1 : decide (0 < t397.size) = true := decide_eq_true (by omega)
        clear c29
        by_cases c31 : 0 < (t392.size : Int)
        ·rw [if_pos c31] at H
         have c31b0 : decide (0 < (t392.size : Int)) = true := decide_eq_true c31
         have c31b1 : decide (0 < t392.size) = true := decide_eq_true (by omega)
         clear c31
         by_cases c33 : ((Int.tdiv (bt t397 0) 16) % 256) = ((Int.tdiv (bt t392 0) 16) % 256)
         ·rw [if_pos c33] at H
          have c33b0 : (((Int.tdiv (bt t397 0) 16) % 256) == ((Int.tdiv (bt t392 0) 16) % 256)) = true := beq_iff_eq.mpr c33
          have c33b1 : (((Int.tdiv (bt t397 0) 16) % 256) != ((Int.tdiv (bt t392 0) 16) % 256)) = false := bne_eq_false_iff_eq.mpr c33
          clear c33
          by_cases c34 : 1 ≤ (wrap64 ((t392.size : Int) - a0_9))
          ·rw [if_pos c34] at H
           have c34b0 := eq_true c34
           have c34b1 : decide (1 ≤ (wrap64 ((t392.size : Int) - a0_9))) = true := decide_eq_true c34
           clear c34
           by_cases c35 : (wrap64 ((t392.size : Int) - a0_9)) ≤ (t397.size : Int)
           ·rw [if_pos c35] at H
            have c35b0 := eq_true c35
            have c35b1 : decide ((wrap64 ((t392.size : Int) - a0_9)) ≤ (t397.size : Int)) = true := decide_eq_true c35
            clear c35
            have c36b0 := eq_true (of_decide_eq_true (by first | (with_reducible assumption) | assumption) : 1 ≤ (wrap64 ((t392.size : Int) - a0_9)))
            by_cases c37 : (wrap64 ((t392.size : Int) - a0_9)) ≤ (t392.size : Int)
            ·rw [if_pos c37] at H
             have c37b0 := eq_true c37
             have c37b1 : decide ((wrap64 ((t392.size : Int) - a0_9)) ≤ (t392.size : Int)) = true := decide_eq_true c37
             clear c37
             by_cases c38 : (t397.extract 1 ((wrap64 ((t392.size : Int) - a0_9)) : Int).toNat).toList = (t392.extract 1 ((wrap64 ((t392.size : Int) - a0_9)) : Int).toNat).toList
             ·rw [if_pos c38] at H
              have c38b0 : ((t397.extract 1 ((wrap64 ((t392.size : Int) - a0_9)) : Int).toNat).toList == (t392.extract 1 ((wrap64 ((t392.size : Int) - a0_9)) : Int).toNat).toList) = true := beq_iff_eq.mpr c38
              have c38b1 : ((t397.extract 1 ((wrap64 ((t392.size : Int) - a0_9)) : Int).toNat).toList != (t392.extract 1 ((wrap64 ((t392.size : Int) - a0_9)) : Int).toNat).toList) = false := bne_eq_false_iff_eq.mpr c38
              clear c38
              obtain rfl := Option.some.inj H
              go_wp2_with (first | (go_at_call 20; (with_reducible refine (header_Mask.calls kj3 t392 a1 t397 t398 _ A25.out).mono ?_); rintro e w40 ⟨rfl, hb⟩; have n0_ := Aside0.mk (blk_below (g := gb391) (o := .cells #[.bool true, .bool a0_1, .bool a0_2, .int .i64 a0_3, .int .u32 a0_4, .string a0_5, .string a0_6, .string a0_7, .int .u64 a0_8, .int .i64 a0_9, .int .u64 a0_10] 25 (0, 0)) (by (with_reducible repeat (first | refine blk_drewN ?_ _ | refine blk_drew ?_ | refine blk_alloc ?_ _)); exact BK391.out) hb); have n1_ := Aside0.mk (below_step (by repeat (first | (with_reducible first | exact HB.out | apply below_alloc | apply pw_below_drewN | apply below_drew1 | refine below_set ?_ GE391.out) | exact HB.out)) hb); clear BK391; clear HB; have BK391 := n0_; have HB := n1_; clear n0_ n1_; (try clear hb); (try clear hb2); (try clear hk); (try clear hi); have hcz41_0 : w40.cell? ⟨gb391, 0, none⟩ = some (.bool true) := (blk_cell BK391.out 0).trans rfl; have hcz41_1 : w40.cell? ⟨gb391, 1, none⟩ = some (.bool a0_1) := (blk_cell BK391.out 1).trans rfl; have hcz41_2 : w40.cell? ⟨gb391, 2, none⟩ = some (.bool a0_2) := (blk_cell BK391.out 2).trans rfl; have hcz41_3 : w40.cell? ⟨gb391, 3, none⟩ = some (.int .i64 a0_3) := (blk_cell BK391.out 3).trans rfl; have hcz41_4 : w40.cell? ⟨gb391, 4, none⟩ = some (.int .u32 a0_4) := (blk_cell BK391.out 4).trans rfl; have hcz41_5 : w40.cell? ⟨gb391, 5, none⟩ = some (.string a0_5) := (blk_cell BK391.out 5).trans rfl; have hcz41_6 : w40.cell? ⟨gb391, 6, none⟩ = some (.string a0_6) := (blk_cell BK391.out 6).trans rfl; have hcz41_7 : w40.cell? ⟨gb391, 7, none⟩ = some (.string a0_7) := (blk_cell BK391.out 7).trans rfl; have hcz41_8 : w40.cell? ⟨gb391, 8, none⟩ = some (.int .u64 a0_8) := (blk_cell BK391.out 8).trans rfl; have hcz41_9 : w40.cell? ⟨gb391, 9, none⟩ = some (.int .i64 a0_9) := (blk_cell BK391.out 9).trans rfl; have hcz41_10 : w40.cell? ⟨gb391, 10, none⟩ = some (.int .u64 a0_10) := (blk_cell BK391.out 10).trans rfl; have hfz41_0 := blk_frozen BK391.out 0; have hfz41_1 := blk_frozen BK391.out 1; have hfz41_2 := blk_frozen BK391.out 2; have hfz41_3 := blk_frozen BK391.out 3; have hfz41_4 := blk_frozen BK391.out 4; have hfz41_5 := blk_frozen BK391.out 5; have hfz41_6 := blk_frozen BK391.out 6; have hfz41_7 := blk_frozen BK391.out 7; have hfz41_8 := blk_frozen BK391.out 8; have hfz41_9 := blk_frozen BK391.out 9; have hfz41_10 := blk_frozen BK391.out 10; have p30 : 0 ≤ (0 : Int) := (by omega); have q30 : 0 < t397.size := (by have : (0 : Int) < (t397.size : Int) := of_decide_eq_true (by first | (with_reducible assumption) | assumption); omega); have hx30 : ∀ h : 0 < t397.size, ((t397[0]'h).toNat : Int) = bt t397 0 := bt_at t397 0; clear p30; have qi30 : (0 < (t397.size : Int)) = True := eq_true (of_decide_eq_true (by first | (with_reducible assumption) | assumption)); replace q30 := eq_true q30; have p32 : 0 ≤ (0 : Int) := (by omega); have q32 : 0 < t392.size := (by have : (0 : Int) < (t392.size : Int) := of_decide_eq_true (by first | (with_reducible assumption) | assumption); omega); have hx32 : ∀ h : 0 < t392.size, ((t392[0]'h).toNat : Int) = bt t392 0 := bt_at t392 0; clear p32; have qi32 : (0 < (t392.size : Int)) = True := eq_true (of_decide_eq_true (by first | (with_reducible assumption) | assumption)); replace q32 := eq_true q32; have p39 : 0 ≤ (0 : Int) := (by omega); have q39 : 0 < t392.size := (by have : (0 : Int) < (t392.size : Int) := of_decide_eq_true (by first | (with_reducible assumption) | assumption); omega); have hx39 : ∀ h : 0 < t392.size, ((t392[0]'h).toNat : Int) = bt t392 0 := bt_at t392 0; clear p39; have qi39 : (0 < (t392.size : Int)) = True := eq_true (of_decide_eq_true (by first | (with_reducible assumption) | assumption)); replace q39 := eq_true q39))
              repeat (go_quiet (first | (go_at_call 20; (with_reducible refine (header_Mask.calls kj3 t392 a1 t397 t398 _ A25.out).mono ?_); rintro e w40 ⟨rfl, hb⟩; have n0_ := Aside0.mk (blk_below (g := gb391) (o := .cells #[.bool true, .bool a0_1, .bool a0_2, .int .i64 a0_3, .int .u32 a0_4, .string a0_5, .string a0_6, .string a0_7, .int .u64 a0_8, .int .i64 a0_9, .int .u64 a0_10] 25 (0, 0)) (by (with_reducible repeat (first | refine blk_drewN ?_ _ | refine blk_drew ?_ | refine blk_alloc ?_ _)); exact BK391.out) hb); have n1_ := Aside0.mk (below_step (by repeat (first | (with_reducible first | exact HB.out | apply below_alloc | apply pw_below_drewN | apply below_drew1 | refine below_set ?_ GE391.out) | exact HB.out)) hb); clear BK391; clear HB; have BK391 := n0_; have HB := n1_; clear n0_ n1_; (try clear hb); (try clear hb2); (try clear hk); (try clear hi); have hcz41_0 : w40.cell? ⟨gb391, 0, none⟩ = some (.bool true) := (blk_cell BK391.out 0).trans rfl; have hcz41_1 : w40.cell? ⟨gb391, 1, none⟩ = some (.bool a0_1) := (blk_cell BK391.out 1).trans rfl; have hcz41_2 : w40.cell? ⟨gb391, 2, none⟩ = some (.bool a0_2) := (blk_cell BK391.out 2).trans rfl; have hcz41_3 : w40.cell? ⟨gb391, 3, none⟩ = some (.int .i64 a0_3) := (blk_cell BK391.out 3).trans rfl; have hcz41_4 : w40.cell? ⟨gb391, 4, none⟩ = some (.int .u32 a0_4) := (blk_cell BK391.out 4).trans rfl; have hcz41_5 : w40.cell? ⟨gb391, 5, none⟩ = some (.string a0_5) := (blk_cell BK391.out 5).trans rfl; have hcz41_6 : w40.cell? ⟨gb391, 6, none⟩ = some (.string a0_6) := (blk_cell BK391.out 6).trans rfl; have hcz41_7 : w40.cell? ⟨gb391, 7, none⟩ = some (.string a0_7) := (blk_cell BK391.out 7).trans rfl; have hcz41_8 : w40.cell? ⟨gb391, 8, none⟩ = some (.int .u64 a0_8) := (blk_cell BK391.out 8).trans rfl; have hcz41_9 : w40.cell? ⟨gb391, 9, none⟩ = some (.int .i64 a0_9) := (blk_cell BK391.out 9).trans rfl; have hcz41_10 : w40.cell? ⟨gb391, 10, none⟩ = some (.int .u64 a0_10) := (blk_cell BK391.out 10).trans rfl; have hfz41_0 := blk_frozen BK391.out 0; have hfz41_1 := blk_frozen BK391.out 1; have hfz41_2 := blk_frozen BK391.out 2; have hfz41_3 := blk_frozen BK391.out 3; have hfz41_4 := blk_frozen BK391.out 4; have hfz41_5 := blk_frozen BK391.out 5; have hfz41_6 := blk_frozen BK391.out 6; have hfz41_7 := blk_frozen BK391.out 7; have hfz41_8 := blk_frozen BK391.out 8; have hfz41_9 := blk_frozen BK391.out 9; have hfz41_10 := blk_frozen BK391.out 10; have p30 : 0 ≤ (0 : Int) := (by omega); have q30 : 0 < t397.size := (by have : (0 : Int) < (t397.size : Int) := of_decide_eq_true (by first | (with_reducible assumption) | assumption); omega); have hx30 : ∀ h : 0 < t397.size, ((t397[0]'h).toNat : Int) = bt t397 0 := bt_at t397 0; clear p30; have qi30 : (0 < (t397.size : Int)) = True := eq_true (of_decide_eq_true (by first | (with_reducible assumption) | assumption)); replace q30 := eq_true q30; have p32 : 0 ≤ (0 : Int) := (by omega); have q32 : 0 < t392.size := (by have : (0 : Int) < (t392.size : Int) := of_decide_eq_true (by first | (with_reducible assumption) | assumption); omega); have hx32 : ∀ h : 0 < t392.size, ((t392[0]'h).toNat : Int) = bt t392 0 := bt_at t392 0; clear p32; have qi32 : (0 < (t392.size : Int)) = True := eq_true (of_decide_eq_true (by first | (with_reducible assumption) | assumption)); replace q32 := eq_true q32; have p39 : 0 ≤ (0 : Int) := (by omega); have q39 : 0 < t392.size := (by have : (0 : Int) < (t392.size : Int) := of_decide_eq_true (by first | (with_reducible assumption) | assumption); omega); have hx39 : ∀ h : 0 < t392.size, ((t392[0]'h).toNat : Int) = bt t392 0 := bt_at t392 0; clear p39; have qi39 : (0 < (t392.size : Int)) = True := eq_true (of_decide_eq_true (by first | (with_reducible assumption) | assumption)); replace q39 := eq_true q39)); try go_wp2_with (first | (go_at_call 20; (with_reducible refine (header_Mask.calls kj3 t392 a1 t397 t398 _ A25.out).mono ?_); rintro e w40 ⟨rfl, hb⟩; have n0_ := Aside0.mk (blk_below (g := gb391) (o := .cells #[.bool true, .bool a0_1, .bool a0_2, .int .i64 a0_3, .int .u32 a0_4, .string a0_5, .string a0_6, .string a0_7, .int .u64 a0_8, .int .i64 a0_9, .int .u64 a0_10] 25 (0, 0)) (by (with_reducible repeat (first | refine blk_drewN ?_ _ | refine blk_drew ?_ | refine blk_alloc ?_ _)); exact BK391.out) hb); have n1_ := Aside0.mk (below_step (by repeat (first | (with_reducible first | exact HB.out | apply below_alloc | apply pw_below_drewN | apply below_drew1 | refine below_set ?_ GE391.out) | exact HB.out)) hb); clear BK391; clear HB; have BK391 := n0_; have HB := n1_; clear n0_ n1_; (try clear hb); (try clear hb2); (try clear hk); (try clear hi); have hcz41_0 : w40.cell? ⟨gb391, 0, none⟩ = some (.bool true) := (blk_cell BK391.out 0).trans rfl; have hcz41_1 : w40.cell? ⟨gb391, 1, none⟩ = some (.bool a0_1) := (blk_cell BK391.out 1).trans rfl; have hcz41_2 : w40.cell? ⟨gb391, 2, none⟩ = some (.bool a0_2) := (blk_cell BK391.out 2).trans rfl; have hcz41_3 : w40.cell? ⟨gb391, 3, none⟩ = some (.int .i64 a0_3) := (blk_cell BK391.out 3).trans rfl; have hcz41_4 : w40.cell? ⟨gb391, 4, none⟩ = some (.int .u32 a0_4) := (blk_cell BK391.out 4).trans rfl; have hcz41_5 : w40.cell? ⟨gb391, 5, none⟩ = some (.string a0_5) := (blk_cell BK391.out 5).trans rfl; have hcz41_6 : w40.cell? ⟨gb391, 6, none⟩ = some (.string a0_6) := (blk_cell BK391.out 6).trans rfl; have hcz41_7 : w40.cell? ⟨gb391, 7, none⟩ = some (.string a0_7) := (blk_cell BK391.out 7).trans rfl; have hcz41_8 : w40.cell? ⟨gb391, 8, none⟩ = some (.int .u64 a0_8) := (blk_cell BK391.out 8).trans rfl; have hcz41_9 : w40.cell? ⟨gb391, 9, none⟩ = some (.int .i64 a0_9) := (blk_cell BK391.out 9).trans rfl; have hcz41_10 : w40.cell? ⟨gb391, 10, none⟩ = some (.int .u64 a0_10) := (blk_cell BK391.out 10).trans rfl; have hfz41_0 := blk_frozen BK391.out 0; have hfz41_1 := blk_frozen BK391.out 1; have hfz41_2 := blk_frozen BK391.out 2; have hfz41_3 := blk_frozen BK391.out 3; have hfz41_4 := blk_frozen BK391.out 4; have hfz41_5 := blk_frozen BK391.out 5; have hfz41_6 := blk_frozen BK391.out 6; have hfz41_7 := blk_frozen BK391.out 7; have hfz41_8 := blk_frozen BK391.out 8; have hfz41_9 := blk_frozen BK391.out 9; have hfz41_10 := blk_frozen BK391.out 10; have p30 : 0 ≤ (0 : Int) := (by omega); have q30 : 0 < t397.size := (by have : (0 : Int) < (t397.size : Int) := of_decide_eq_true (by first | (with_reducible assumption) | assumption); omega); have hx30 : ∀ h : 0 < t397.size, ((t397[0]'h).toNat : Int) = bt t397 0 := bt_at t397 0; clear p30; have qi30 : (0 < (t397.size : Int)) = True := eq_true (of_decide_eq_true (by first | (with_reducible assumption) | assumption)); replace q30 := eq_true q30; have p32 : 0 ≤ (0 : Int) := (by omega); have q32 : 0 < t392.size := (by have : (0 : Int) < (t392.size : Int) := of_decide_eq_true (by first | (with_reducible assumption) | assumption); omega); have hx32 : ∀ h : 0 < t392.size, ((t392[0]'h).toNat : Int) = bt t392 0 := bt_at t392 0; clear p32; have qi32 : (0 < (t392.size : Int)) = True := eq_true (of_decide_eq_true (by first | (with_reducible assumption) | assumption)); replace q32 := eq_true q32; have p39 : 0 ≤ (0 : Int) := (by omega); have q39 : 0 < t392.size := (by have : (0 : Int) < (t392.size : Int) := of_decide_eq_true (by first | (with_reducible assumption) | assumption); omega); have hx39 : ∀ h : 0 < t392.size, ((t392[0]'h).toNat : Int) = bt t392 0 := bt_at t392 0; clear p39; have qi39 : (0 < (t392.size : Int)) = True := eq_true (of_decide_eq_true (by first | (with_reducible assumption) | assumption)); replace q39 := eq_true q39)))
              go_ret
              exact ⟨by first | rfl | (simp [errW_none, errW_some] <;> rfl) | (simp [*, errW_none, errW_some] <;> rfl), by repeat (first | (with_reducible first | exact HB.out | apply below_alloc | apply pw_below_drewN | apply below_drew1 | refine below_set ?_ GE391.out) | exact HB.out)⟩
             ·rw [if_neg c38] at H
              exact absurd H (by simp)
            ·rw [if_neg c37] at H
             exact absurd H (by simp)
           ·rw [if_neg c35] at H
            exact absurd H (by simp)
          ·rw [if_neg c34] at H
           exact absurd H (by simp)
         ·rw [if_neg c33] at H
          exact absurd H (by simp)
        ·rw [if_neg c31] at H
         exact absurd H (by simp)
       ·rw [if_neg c29] at H
        exact absurd H (by simp)
      ·rw [if_neg c28] at H
       exact absurd H (by simp)
     ·rw [if_neg c27] at H
      exact absurd H (by simp)
    ·replace c26 := Bool.eq_false_iff.mpr c26
     subst c26
     have H1 : (if t398 = 0 then (if (t397.size : Int) = (t392.size : Int) then (if 0 < (t397.size : Int) then (if 0 < (t392.size : Int) then (if ((Int.tdiv (bt t397 0) 32) % 256) = ((Int.tdiv (bt t392 0) 32) % 256) then (if 1 ≤ (wrap64 ((t392.size : Int) - a0_9)) then (if (wrap64 ((t392.size : Int) - a0_9)) ≤ (t397.size : Int) then (if (wrap64 ((t392.size : Int) - a0_9)) ≤ (t392.size : Int) then (if (t397.extract 1 ((wrap64 ((t392.size : Int) - a0_9)) : Int).toNat).toList = (t392.extract 1 ((wrap64 ((t392.size : Int) - a0_9)) : Int).toNat).toList then (some ((decide ((bt t392 0) ≥ 128)) == false)) else (none)) else (none)) else (none)) else (none)) else (none)) else (none)) else (none)) else (none)) else (none)) = some r := by rw [if_neg (show ¬ (false = true) by decide)] at H; exact H
     clear H
     have H := H1
     clear H1
     by_cases c42 : t398 = 0
     ·rw [if_pos c42] at H
      have c42b0 : (t398 == 0) = true := beq_iff_eq.mpr c42
      have c42b1 : (t398 != 0) = false := bne_eq_false_iff_eq.mpr c42
      clear c42
      by_cases c43 : (t397.size : Int) = (t392.size : Int)
      ·rw [if_pos c43] at H
       have c43b0 : ((t397.size : Int) == (t392.size : Int)) = true := beq_iff_eq.mpr c43
       have c43b1 : ((t397.size : Int) != (t392.size : Int)) = false := bne_eq_false_iff_eq.mpr c43
       have c43b2 : (t397.size == t392.size) = true := by first | simpa using c43 | (simp at c43 ⊢; omega)
       clear c43
       by_cases c44 : 0 < (t397.size : Int)
       ·rw [if_pos c44] at H
        have c44b0 : decide (0 < (t397.size : Int)) = true := decide_eq_true c44
        have c44b1 : decide (0 < t397.size) = true := decide_eq_true (by omega)
        clear c44
        by_cases c46 : 0 < (t392.size : Int)
        ·rw [if_pos c46] at H
         have c46b0 : decide (0 < (t392.size : Int)) = true := decide_eq_true c46
         have c46b1 : decide (0 < t392.size) = true := decide_eq_true (by omega)
         clear c46
         by_cases c48 : ((Int.tdiv (bt t397 0) 32) % 256) = ((Int.tdiv (bt t392 0) 32) % 256)
         ·rw [if_pos c48] at H
          have c48b0 : (((Int.tdiv (bt t397 0) 32) % 256) == ((Int.tdiv (bt t392 0) 32) % 256)) = true := beq_iff_eq.mpr c48
          have c48b1 : (((Int.tdiv (bt t397 0) 32) % 256) != ((Int.tdiv (bt t392 0) 32) % 256)) = false := bne_eq_false_iff_eq.mpr c48
          clear c48
          by_cases c49 : 1 ≤ (wrap64 ((t392.size : Int) - a0_9))
          ·rw [if_pos c49] at H
           have c49b0 := eq_true c49
           have c49b1 : decide (1 ≤ (wrap64 ((t392.size : Int) - a0_9))) = true := decide_eq_true c49
           clear c49
           by_cases c50 : (wrap64 ((t392.size : Int) - a0_9)) ≤ (t397.size : Int)
           ·rw [if_pos c50] at H
            have c50b0 := eq_true c50
            have c50b1 : decide ((wrap64 ((t392.size : Int) - a0_9)) ≤ (t397.size : Int)) = true := decide_eq_true c50
            clear c50
            have c51b0 := eq_true (of_decide_eq_true (by first | (with_reducible assumption) | assumption) : 1 ≤ (wrap64 ((t392.size : Int) - a0_9)))
            by_cases c52 : (wrap64 ((t392.size : Int) - a0_9)) ≤ (t392.size : Int)
            ·rw [if_pos c52] at H
             have c52b0 := eq_true c52
             have c52b1 : decide ((wrap64 ((t392.size : Int) - a0_9)) ≤ (t392.size : Int)) = true := decide_eq_true c52
             clear c52
             by_cases c53 : (t397.extract 1 ((wrap64 ((t392.size : Int) - a0_9)) : Int).toNat).toList = (t392.extract 1 ((wrap64 ((t392.size : Int) - a0_9)) : Int).toNat).toList
             ·rw [if_pos c53] at H
              have c53b0 : ((t397.extract 1 ((wrap64 ((t392.size : Int) - a0_9)) : Int).toNat).toList == (t392.extract 1 ((wrap64 ((t392.size : Int) - a0_9)) : Int).toNat).toList) = true := beq_iff_eq.mpr c53
              have c53b1 : ((t397.extract 1 ((wrap64 ((t392.size : Int) - a0_9)) : Int).toNat).toList != (t392.extract 1 ((wrap64 ((t392.size : Int) - a0_9)) : Int).toNat).toList) = false := bne_eq_false_iff_eq.mpr c53
              clear c53
              obtain rfl := Option.some.inj H
              go_wp2_with (first | (go_at_call 20; (with_reducible refine (header_Mask.calls kj3 t392 a1 t397 t398 _ A25.out).mono ?_); rintro e w55 ⟨rfl, hb⟩; have n0_ := Aside0.mk (blk_below (g := gb391) (o := .cells #[.bool false, .bool a0_1, .bool a0_2, .int .i64 a0_3, .int .u32 a0_4, .string a0_5, .string a0_6, .string a0_7, .int .u64 a0_8, .int .i64 a0_9, .int .u64 a0_10] 25 (0, 0)) (by (with_reducible repeat (first | refine blk_drewN ?_ _ | refine blk_drew ?_ | refine blk_alloc ?_ _)); exact BK391.out) hb); have n1_ := Aside0.mk (below_step (by repeat (first | (with_reducible first | exact HB.out | apply below_alloc | apply pw_below_drewN | apply below_drew1 | refine below_set ?_ GE391.out) | exact HB.out)) hb); clear BK391; clear HB; have BK391 := n0_; have HB := n1_; clear n0_ n1_; (try clear hb); (try clear hb2); (try clear hk); (try clear hi); have hcz56_0 : w55.cell? ⟨gb391, 0, none⟩ = some (.bool false) := (blk_cell BK391.out 0).trans rfl; have hcz56_1 : w55.cell? ⟨gb391, 1, none⟩ = some (.bool a0_1) := (blk_cell BK391.out 1).trans rfl; have hcz56_2 : w55.cell? ⟨gb391, 2, none⟩ = some (.bool a0_2) := (blk_cell BK391.out 2).trans rfl; have hcz56_3 : w55.cell? ⟨gb391, 3, none⟩ = some (.int .i64 a0_3) := (blk_cell BK391.out 3).trans rfl; have hcz56_4 : w55.cell? ⟨gb391, 4, none⟩ = some (.int .u32 a0_4) := (blk_cell BK391.out 4).trans rfl; have hcz56_5 : w55.cell? ⟨gb391, 5, none⟩ = some (.string a0_5) := (blk_cell BK391.out 5).trans rfl; have hcz56_6 : w55.cell? ⟨gb391, 6, none⟩ = some (.string a0_6) := (blk_cell BK391.out 6).trans rfl; have hcz56_7 : w55.cell? ⟨gb391, 7, none⟩ = some (.string a0_7) := (blk_cell BK391.out 7).trans rfl; have hcz56_8 : w55.cell? ⟨gb391, 8, none⟩ = some (.int .u64 a0_8) := (blk_cell BK391.out 8).trans rfl; have hcz56_9 : w55.cell? ⟨gb391, 9, none⟩ = some (.int .i64 a0_9) := (blk_cell BK391.out 9).trans rfl; have hcz56_10 : w55.cell? ⟨gb391, 10, none⟩ = some (.int .u64 a0_10) := (blk_cell BK391.out 10).trans rfl; have hfz56_0 := blk_frozen BK391.out 0; have hfz56_1 := blk_frozen BK391.out 1; have hfz56_2 := blk_frozen BK391.out 2; have hfz56_3 := blk_frozen BK391.out 3; have hfz56_4 := blk_frozen BK391.out 4; have hfz56_5 := blk_frozen BK391.out 5; have hfz56_6 := blk_frozen BK391.out 6; have hfz56_7 := blk_frozen BK391.out 7; have hfz56_8 := blk_frozen BK391.out 8; have hfz56_9 := blk_frozen BK391.out 9; have hfz56_10 := blk_frozen BK391.out 10; have p45 : 0 ≤ (0 : Int) := (by omega); have q45 : 0 < t397.size := (by have : (0 : Int) < (t397.size : Int) := of_decide_eq_true (by first | (with_reducible assumption) | assumption); omega); have hx45 : ∀ h : 0 < t397.size, ((t397[0]'h).toNat : Int) = bt t397 0 := bt_at t397 0; clear p45; have qi45 : (0 < (t397.size : Int)) = True := eq_true (of_decide_eq_true (by first | (with_reducible assumption) | assumption)); replace q45 := eq_true q45; have p47 : 0 ≤ (0 : Int) := (by omega); have q47 : 0 < t392.size := (by have : (0 : Int) < (t392.size : Int) := of_decide_eq_true (by first | (with_reducible assumption) | assumption); omega); have hx47 : ∀ h : 0 < t392.size, ((t392[0]'h).toNat : Int) = bt t392 0 := bt_at t392 0; clear p47; have qi47 : (0 < (t392.size : Int)) = True := eq_true (of_decide_eq_true (by first | (with_reducible assumption) | assumption)); replace q47 := eq_true q47; have p54 : 0 ≤ (0 : Int) := (by omega); have q54 : 0 < t392.size := (by have : (0 : Int) < (t392.size : Int) := of_decide_eq_true (by first | (with_reducible assumption) | assumption); omega); have hx54 : ∀ h : 0 < t392.size, ((t392[0]'h).toNat : Int) = bt t392 0 := bt_at t392 0; clear p54; have qi54 : (0 < (t392.size : Int)) = True := eq_true (of_decide_eq_true (by first | (with_reducible assumption) | assumption)); replace q54 := eq_true q54))
              repeat (go_quiet (first | (go_at_call 20; (with_reducible refine (header_Mask.calls kj3 t392 a1 t397 t398 _ A25.out).mono ?_); rintro e w55 ⟨rfl, hb⟩; have n0_ := Aside0.mk (blk_below (g := gb391) (o := .cells #[.bool false, .bool a0_1, .bool a0_2, .int .i64 a0_3, .int .u32 a0_4, .string a0_5, .string a0_6, .string a0_7, .int .u64 a0_8, .int .i64 a0_9, .int .u64 a0_10] 25 (0, 0)) (by (with_reducible repeat (first | refine blk_drewN ?_ _ | refine blk_drew ?_ | refine blk_alloc ?_ _)); exact BK391.out) hb); have n1_ := Aside0.mk (below_step (by repeat (first | (with_reducible first | exact HB.out | apply below_alloc | apply pw_below_drewN | apply below_drew1 | refine below_set ?_ GE391.out) | exact HB.out)) hb); clear BK391; clear HB; have BK391 := n0_; have HB := n1_; clear n0_ n1_; (try clear hb); (try clear hb2); (try clear hk); (try clear hi); have hcz56_0 : w55.cell? ⟨gb391, 0, none⟩ = some (.bool false) := (blk_cell BK391.out 0).trans rfl; have hcz56_1 : w55.cell? ⟨gb391, 1, none⟩ = some (.bool a0_1) := (blk_cell BK391.out 1).trans rfl; have hcz56_2 : w55.cell? ⟨gb391, 2, none⟩ = some (.bool a0_2) := (blk_cell BK391.out 2).trans rfl; have hcz56_3 : w55.cell? ⟨gb391, 3, none⟩ = some (.int .i64 a0_3) := (blk_cell BK391.out 3).trans rfl; have hcz56_4 : w55.cell? ⟨gb391, 4, none⟩ = some (.int .u32 a0_4) := (blk_cell BK391.out 4).trans rfl; have hcz56_5 : w55.cell? ⟨gb391, 5, none⟩ = some (.string a0_5) := (blk_cell BK391.out 5).trans rfl; have hcz56_6 : w55.cell? ⟨gb391, 6, none⟩ = some (.string a0_6) := (blk_cell BK391.out 6).trans rfl; have hcz56_7 : w55.cell? ⟨gb391, 7, none⟩ = some (.string a0_7) := (blk_cell BK391.out 7).trans rfl; have hcz56_8 : w55.cell? ⟨gb391, 8, none⟩ = some (.int .u64 a0_8) := (blk_cell BK391.out 8).trans rfl; have hcz56_9 : w55.cell? ⟨gb391, 9, none⟩ = some (.int .i64 a0_9) := (blk_cell BK391.out 9).trans rfl; have hcz56_10 : w55.cell? ⟨gb391, 10, none⟩ = some (.int .u64 a0_10) := (blk_cell BK391.out 10).trans rfl; have hfz56_0 := blk_frozen BK391.out 0; have hfz56_1 := blk_frozen BK391.out 1; have hfz56_2 := blk_frozen BK391.out 2; have hfz56_3 := blk_frozen BK391.out 3; have hfz56_4 := blk_frozen BK391.out 4; have hfz56_5 := blk_frozen BK391.out 5; have hfz56_6 := blk_frozen BK391.out 6; have hfz56_7 := blk_frozen BK391.out 7; have hfz56_8 := blk_frozen BK391.out 8; have hfz56_9 := blk_frozen BK391.out 9; have hfz56_10 := blk_frozen BK391.out 10; have p45 : 0 ≤ (0 : Int) := (by omega); have q45 : 0 < t397.size := (by have : (0 : Int) < (t397.size : Int) := of_decide_eq_true (by first | (with_reducible assumption) | assumption); omega); have hx45 : ∀ h : 0 < t397.size, ((t397[0]'h).toNat : Int) = bt t397 0 := bt_at t397 0; clear p45; have qi45 : (0 < (t397.size : Int)) = True := eq_true (of_decide_eq_true (by first | (with_reducible assumption) | assumption)); replace q45 := eq_true q45; have p47 : 0 ≤ (0 : Int) := (by omega); have q47 : 0 < t392.size := (by have : (0 : Int) < (t392.size : Int) := of_decide_eq_true (by first | (with_reducible assumption) | assumption); omega); have hx47 : ∀ h : 0 < t392.size, ((t392[0]'h).toNat : Int) = bt t392 0 := bt_at t392 0; clear p47; have qi47 : (0 < (t392.size : Int)) = True := eq_true (of_decide_eq_true (by first | (with_reducible assumption) | assumption)); replace q47 := eq_true q47; have p54 : 0 ≤ (0 : Int) := (by omega); have q54 : 0 < t392.size := (by have : (0 : Int) < (t392.size : Int) := of_decide_eq_true (by first | (with_reducible assumption) | assumption); omega); have hx54 : ∀ h : 0 < t392.size, ((t392[0]'h).toNat : Int) = bt t392 0 := bt_at t392 0; clear p54; have qi54 : (0 < (t392.size : Int)) = True := eq_true (of_decide_eq_true (by first | (with_reducible assumption) | assumption)); replace q54 := eq_true q54)); try go_wp2_with (first | (go_at_call 20; (with_reducible refine (header_Mask.calls kj3 t392 a1 t397 t398 _ A25.out).mono ?_); rintro e w55 ⟨rfl, hb⟩; have n0_ := Aside0.mk (blk_below (g := gb391) (o := .cells #[.bool false, .bool a0_1, .bool a0_2, .int .i64 a0_3, .int .u32 a0_4, .string a0_5, .string a0_6, .string a0_7, .int .u64 a0_8, .int .i64 a0_9, .int .u64 a0_10] 25 (0, 0)) (by (with_reducible repeat (first | refine blk_drewN ?_ _ | refine blk_drew ?_ | refine blk_alloc ?_ _)); exact BK391.out) hb); have n1_ := Aside0.mk (below_step (by repeat (first | (with_reducible first | exact HB.out | apply below_alloc | apply pw_below_drewN | apply below_drew1 | refine below_set ?_ GE391.out) | exact HB.out)) hb); clear BK391; clear HB; have BK391 := n0_; have HB := n1_; clear n0_ n1_; (try clear hb); (try clear hb2); (try clear hk); (try clear hi); have hcz56_0 : w55.cell? ⟨gb391, 0, none⟩ = some (.bool false) := (blk_cell BK391.out 0).trans rfl; have hcz56_1 : w55.cell? ⟨gb391, 1, none⟩ = some (.bool a0_1) := (blk_cell BK391.out 1).trans rfl; have hcz56_2 : w55.cell? ⟨gb391, 2, none⟩ = some (.bool a0_2) := (blk_cell BK391.out 2).trans rfl; have hcz56_3 : w55.cell? ⟨gb391, 3, none⟩ = some (.int .i64 a0_3) := (blk_cell BK391.out 3).trans rfl; have hcz56_4 : w55.cell? ⟨gb391, 4, none⟩ = some (.int .u32 a0_4) := (blk_cell BK391.out 4).trans rfl; have hcz56_5 : w55.cell? ⟨gb391, 5, none⟩ = some (.string a0_5) := (blk_cell BK391.out 5).trans rfl; have hcz56_6 : w55.cell? ⟨gb391, 6, none⟩ = some (.string a0_6) := (blk_cell BK391.out 6).trans rfl; have hcz56_7 : w55.cell? ⟨gb391, 7, none⟩ = some (.string a0_7) := (blk_cell BK391.out 7).trans rfl; have hcz56_8 : w55.cell? ⟨gb391, 8, none⟩ = some (.int .u64 a0_8) := (blk_cell BK391.out 8).trans rfl; have hcz56_9 : w55.cell? ⟨gb391, 9, none⟩ = some (.int .i64 a0_9) := (blk_cell BK391.out 9).trans rfl; have hcz56_10 : w55.cell? ⟨gb391, 10, none⟩ = some (.int .u64 a0_10) := (blk_cell BK391.out 10).trans rfl; have hfz56_0 := blk_frozen BK391.out 0; have hfz56_1 := blk_frozen BK391.out 1; have hfz56_2 := blk_frozen BK391.out 2; have hfz56_3 := blk_frozen BK391.out 3; have hfz56_4 := blk_frozen BK391.out 4; have hfz56_5 := blk_frozen BK391.out 5; have hfz56_6 := blk_frozen BK391.out 6; have hfz56_7 := blk_frozen BK391.out 7; have hfz56_8 := blk_frozen BK391.out 8; have hfz56_9 := blk_frozen BK391.out 9; have hfz56_10 := blk_frozen BK391.out 10; have p45 : 0 ≤ (0 : Int) := (by omega); have q45 : 0 < t397.size := (by have : (0 : Int) < (t397.size : Int) := of_decide_eq_true (by first | (with_reducible assumption) | assumption); omega); have hx45 : ∀ h : 0 < t397.size, ((t397[0]'h).toNat : Int) = bt t397 0 := bt_at t397 0; clear p45; have qi45 : (0 < (t397.size : Int)) = True := eq_true (of_decide_eq_true (by first | (with_reducible assumption) | assumption)); replace q45 := eq_true q45; have p47 : 0 ≤ (0 : Int) := (by omega); have q47 : 0 < t392.size := (by have : (0 : Int) < (t392.size : Int) := of_decide_eq_true (by first | (with_reducible assumption) | assumption); omega); have hx47 : ∀ h : 0 < t392.size, ((t392[0]'h).toNat : Int) = bt t392 0 := bt_at t392 0; clear p47; have qi47 : (0 < (t392.size : Int)) = True := eq_true (of_decide_eq_true (by first | (with_reducible assumption) | assumption)); replace q47 := eq_true q47; have p54 : 0 ≤ (0 : Int) := (by omega); have q54 : 0 < t392.size := (by have : (0 : Int) < (t392.size : Int) := of_decide_eq_true (by first | (with_reducible assumption) | assumption); omega); have hx54 : ∀ h : 0 < t392.size, ((t392[0]'h).toNat : Int) = bt t392 0 := bt_at t392 0; clear p54; have qi54 : (0 < (t392.size : Int)) = True := eq_true (of_decide_eq_true (by first | (with_reducible assumption) | assumption)); replace q54 := eq_true q54)))
              go_ret
              exact ⟨by first | rfl | (simp [errW_none, errW_some] <;> rfl) | (simp [*, errW_none, errW_some] <;> rfl), by repeat (first | (with_reducible first | exact HB.out | apply below_alloc | apply pw_below_drewN | apply below_drew1 | refine below_set ?_ GE391.out) | exact HB.out)⟩
             ·rw [if_neg c53] at H
              exact absurd H (by simp)
            ·rw [if_neg c52] at H
             exact absurd H (by simp)
           ·rw [if_neg c50] at H
            exact absurd H (by simp)
          ·rw [if_neg c49] at H
           exact absurd H (by simp)
         ·rw [if_neg c48] at H
          exact absurd H (by simp)
        ·rw [if_neg c46] at H
         exact absurd H (by simp)
       ·rw [if_neg c44] at H
        exact absurd H (by simp)
      ·rw [if_neg c43] at H
       exact absurd H (by simp)
     ·rw [if_neg c42] at H
      exact absurd H (by simp)

/-- THE ONE PURE STATEMENT of dominolaw04_HeaderBits: yours. -/
def dominolaw04_HeaderBits.Pure : Prop := ∀ (a0_0 : Bool) (a0_1 : Bool) (a0_2 : Bool) (a0_3 : Int) (a0_4 : Int) (a0_5 : ByteArray) (a0_6 : ByteArray) (a0_7 : ByteArray) (a0_8 : Int) (a0_9 : Int) (a0_10 : Int) (a1 : ByteArray), (Lit.int .i64 a0_3).wf = true → (Lit.int .u32 a0_4).wf = true → a0_5.size ≤ maxLen → a0_6.size ≤ maxLen → a0_7.size ≤ maxLen → (Lit.int .u64 a0_8).wf = true → (Lit.int .i64 a0_9).wf = true → (Lit.int .u64 a0_10).wf = true → a1.size ≤ 140737488351232 → ∃ k, dominolaw04_HeaderBits.f k a0_0 a0_1 a0_2 a0_3 a0_4 a0_5 a0_6 a0_7 a0_8 a0_9 a0_10 a1 = some true
theorem dominolaw04_HeaderBits.walk (P : dominolaw04_HeaderBits.Pure) (a0_0 : Bool) (a0_1 : Bool) (a0_2 : Bool) (a0_3 : Int) (a0_4 : Int) (a0_5 : ByteArray) (a0_6 : ByteArray) (a0_7 : ByteArray) (a0_8 : Int) (a0_9 : Int) (a0_10 : Int) (a1 : ByteArray) (w : World) (w0_3 : (Lit.int .i64 a0_3).wf = true) (w0_4 : (Lit.int .u32 a0_4).wf = true) (w0_5 : a0_5.size ≤ maxLen) (w0_6 : a0_6.size ≤ maxLen) (w0_7 : a0_7.size ≤ maxLen) (w0_8 : (Lit.int .u64 a0_8).wf = true) (w0_9 : (Lit.int .i64 a0_9).wf = true) (w0_10 : (Lit.int .u64 a0_10).wf = true) (w1 : a1.size ≤ 140737488351232) (ht : Tab w) :
  Calls Tryd.prog 7 #[.agg #[.bool a0_0, .bool a0_1, .bool a0_2, .int .i64 a0_3, .int .u32 a0_4, .string a0_5, .string a0_6, .string a0_7, .int .u64 a0_8, .int .i64 a0_9, .int .u64 a0_10], .string a1] w fun e w' => e = .returned (.bool true) ∧ Below w.heap.size w w' := by
 obtain ⟨k, h⟩ := P a0_0 a0_1 a0_2 a0_3 a0_4 a0_5 a0_6 a0_7 a0_8 a0_9 a0_10 a1 w0_3 w0_4 w0_5 w0_6 w0_7 w0_8 w0_9 w0_10 w1
 refine (dominolaw04_HeaderBits.calls k a0_0 a0_1 a0_2 a0_3 a0_4 a0_5 a0_6 a0_7 a0_8 a0_9 a0_10 a1 true w ht h).mono ?_
 rintro e w' ⟨rfl, hd⟩
 exact ⟨rfl, hd⟩

end Go.Proofs.YtjpafikgbnloaaaDoor.PHdq
