-- printed for this claim by a program of the claim (wip/tools/pp.py over the kit's print)
import Derived.Test.YthbnedjcaflofaaDoorPPaxx0
import Derived.Test.YthbnedjcaflofaaDoorPPaxx1
import Derived.Test.YthbnedjcaflofaaDoorPPaxx2
import Derived.Test.YthbnedjcaflofaaDoorPPaxx3
import Derived.Test.YthbnedjcaflofaaDoorPPaxx4
import Derived.Test.YthbnedjcaflofaaDoorPPaxx6
namespace Go.Proofs.YthbnedjcaflofaaDoor.PPax
open Go.RowKit Go.Proofs.YthbnedjcaflofaaDoorW.PrintWords Go.Proofs.YthbnedjcaflofaaDoorW.PrintLast Go.Proofs.YthbnedjcaflofaaDoorW.PrintMore
attribute [local go_sem] max2_int min2_int max_two min_two max_three min_three max_four min_four   -- for this text's walks alone
set_option linter.unusedVariables false
set_option linter.unusedSimpArgs false

attribute [local go_sem] isSome_setCell_
attribute [local go_sem high] eqA24
/-! ### dominolaw05_ParamsBack: function 4 -/
mutual
def dominolaw05_ParamsBack.j0 : Nat → ByteArray → Bool → Int → Int → Int → Int → Int → Int → Int → Int → Int → Int → Int → ByteArray → Option (Bool)
 | 0, _, _, _, _, _, _, _, _, _, _, _, _, _, _ => none
 | k + 1, x1, x27, x316000, x316001, x316002, x316003, x316004, x316005, x316006, x316007, x316008, x316009, x316010, x316011 => if x27 = true then ((dominolaw05_shown.f k).bind fun t317 => (some t317)) else ((params_Put.f x316000 x316001 x316002 x316003 x316004 x316005 x316006 x316007 x316008 x316009 x316010 x316011).bind fun bt318 => (if bt318.2 = 0 then ((params_Get.f k bt318.1).bind fun bt320 => (if bt320.2.2.2.2.2.2.2.2.2.2.2.2 = 0 then (if (!(bt320.1 == x316000) || (!(bt320.2.1 == x316001) || (!(bt320.2.2.1 == x316002) || (!(bt320.2.2.2.1 == x316003) || (!(bt320.2.2.2.2.1 == x316004) || (!(bt320.2.2.2.2.2.1 == x316005) || (!(bt320.2.2.2.2.2.2.1 == x316006) || (!(bt320.2.2.2.2.2.2.2.1 == x316007) || (!(bt320.2.2.2.2.2.2.2.2.1 == x316008) || (!(bt320.2.2.2.2.2.2.2.2.2.1 == x316009) || (!(bt320.2.2.2.2.2.2.2.2.2.2.1 == x316010) || (!(bt320.2.2.2.2.2.2.2.2.2.2.2.1.toList == x316011.toList))))))))))))) = true then (none) else (dominolaw05_ParamsBack.j1 k x1)) else (none))) else (dominolaw05_ParamsBack.j1 k x1)))
def dominolaw05_ParamsBack.j1 : Nat → ByteArray → Option (Bool)
 | 0, _ => none
 | k + 1, x1 => (params_Get.f k x1).bind fun bt334 => (if bt334.2.2.2.2.2.2.2.2.2.2.2.2 = 0 then ((params_Put.f bt334.1 bt334.2.1 bt334.2.2.1 bt334.2.2.2.1 bt334.2.2.2.2.1 bt334.2.2.2.2.2.1 bt334.2.2.2.2.2.2.1 bt334.2.2.2.2.2.2.2.1 bt334.2.2.2.2.2.2.2.2.1 bt334.2.2.2.2.2.2.2.2.2.1 bt334.2.2.2.2.2.2.2.2.2.2.1 bt334.2.2.2.2.2.2.2.2.2.2.2.1).bind fun bt348 => ((params_Get.f k bt348.1).bind fun bt350 => ((params_Check.f bt334.1 bt334.2.1 bt334.2.2.1 bt334.2.2.2.1 bt334.2.2.2.2.1 bt334.2.2.2.2.2.1 bt334.2.2.2.2.2.2.1 bt334.2.2.2.2.2.2.2.1 bt334.2.2.2.2.2.2.2.2.1 bt334.2.2.2.2.2.2.2.2.2.1 bt334.2.2.2.2.2.2.2.2.2.2.1 bt334.2.2.2.2.2.2.2.2.2.2.2.1).bind fun t364 => (if t364 = 0 then (if bt348.2 = 0 then (if bt350.2.2.2.2.2.2.2.2.2.2.2.2 = 0 then (some (bt350.1 == bt334.1 && (bt350.2.1 == bt334.2.1 && (bt350.2.2.1 == bt334.2.2.1 && (bt350.2.2.2.1 == bt334.2.2.2.1 && (bt350.2.2.2.2.1 == bt334.2.2.2.2.1 && (bt350.2.2.2.2.2.1 == bt334.2.2.2.2.2.1 && (bt350.2.2.2.2.2.2.1 == bt334.2.2.2.2.2.2.1 && (bt350.2.2.2.2.2.2.2.1 == bt334.2.2.2.2.2.2.2.1 && (bt350.2.2.2.2.2.2.2.2.1 == bt334.2.2.2.2.2.2.2.2.1 && (bt350.2.2.2.2.2.2.2.2.2.1 == bt334.2.2.2.2.2.2.2.2.2.1 && (bt350.2.2.2.2.2.2.2.2.2.2.1 == bt334.2.2.2.2.2.2.2.2.2.2.1 && (bt350.2.2.2.2.2.2.2.2.2.2.2.1.toList == bt334.2.2.2.2.2.2.2.2.2.2.2.1.toList))))))))))))) else (none)) else (none)) else (none))))) else (some (bt334.1 == 0 && (bt334.2.1 == 0 && (bt334.2.2.1 == 0 && (bt334.2.2.2.1 == 0 && (bt334.2.2.2.2.1 == 0 && (bt334.2.2.2.2.2.1 == 0 && (bt334.2.2.2.2.2.2.1 == 0 && (bt334.2.2.2.2.2.2.2.1 == 0 && (bt334.2.2.2.2.2.2.2.2.1 == 0 && (bt334.2.2.2.2.2.2.2.2.2.1 == 0 && (bt334.2.2.2.2.2.2.2.2.2.2.1 == 0 && (bt334.2.2.2.2.2.2.2.2.2.2.2.1.toList == ([] : List UInt8)))))))))))))))
end
def dominolaw05_ParamsBack.f (k : Nat) (a0_0 : Int) (a0_1 : Int) (a0_2 : Int) (a0_3 : Int) (a0_4 : Int) (a0_5 : Int) (a0_6 : Int) (a0_7 : Int) (a0_8 : Int) (a0_9 : Int) (a0_10 : Int) (a0_11 : ByteArray) (a1 : ByteArray) : Option (Bool) := if (a0_11.size : Int) > 100 then (dominolaw05_ParamsBack.j0 k a1 true a0_0 a0_1 a0_2 a0_3 a0_4 a0_5 a0_6 a0_7 a0_8 a0_9 a0_10 a0_11) else (if (a1.size : Int) > 600 then (dominolaw05_ParamsBack.j0 k a1 true a0_0 a0_1 a0_2 a0_3 a0_4 a0_5 a0_6 a0_7 a0_8 a0_9 a0_10 a0_11) else ((dominolaw05_shown.f k).bind fun t316 => (dominolaw05_ParamsBack.j0 k a1 (!t316) a0_0 a0_1 a0_2 a0_3 a0_4 a0_5 a0_6 a0_7 a0_8 a0_9 a0_10 a0_11)))
theorem dominolaw05_ParamsBack.mono_l : ∀ k, (∀ y0 y1 y2 y3 y4 y5 y6 y7 y8 y9 y10 y11 y12 y13, LeO (dominolaw05_ParamsBack.j0 k y0 y1 y2 y3 y4 y5 y6 y7 y8 y9 y10 y11 y12 y13) (dominolaw05_ParamsBack.j0 (k + 1) y0 y1 y2 y3 y4 y5 y6 y7 y8 y9 y10 y11 y12 y13)) ∧ (∀ y0, LeO (dominolaw05_ParamsBack.j1 k y0) (dominolaw05_ParamsBack.j1 (k + 1) y0))
 | 0 => ⟨fun _ _ _ _ _ _ _ _ _ _ _ _ _ _ r h => by simp [dominolaw05_ParamsBack.j0] at h, fun _ r h => by simp [dominolaw05_ParamsBack.j1] at h⟩
 | k + 1 => by
  obtain ⟨ih0, ih1⟩ := dominolaw05_ParamsBack.mono_l k
  refine ⟨?_, ?_⟩
  ·intro y0 y1 y2 y3 y4 y5 y6 y7 y8 y9 y10 y11 y12 y13
   unfold dominolaw05_ParamsBack.j0
   repeat' first
   | (with_reducible exact ih0 _ _ _ _ _ _ _ _ _ _ _ _ _ _)
   | (with_reducible exact ih1 _)
   | (with_reducible exact dominolaw05_shown.mono _)
   | (with_reducible exact params_Get.mono _ _)
   | (with_reducible exact LeO.refl _)
   | (with_reducible exact LeO.none _)
   | (with_reducible refine LeO.ite ?_ ?_)
   | (with_reducible refine LeO.bind ?_ (fun _ => ?_))
   | exact ih0 _ _ _ _ _ _ _ _ _ _ _ _ _ _
   | exact ih1 _
   | exact dominolaw05_shown.mono _
   | exact params_Get.mono _ _
   | exact LeO.none _
   | refine LeO.ite ?_ ?_
   | refine LeO.bind ?_ (fun _ => ?_)
  ·intro y0
   unfold dominolaw05_ParamsBack.j1
   repeat' first
   | (with_reducible exact ih0 _ _ _ _ _ _ _ _ _ _ _ _ _ _)
   | (with_reducible exact ih1 _)
   | (with_reducible exact dominolaw05_shown.mono _)
   | (with_reducible exact params_Get.mono _ _)
   | (with_reducible exact LeO.refl _)
   | (with_reducible exact LeO.none _)
   | (with_reducible refine LeO.ite ?_ ?_)
   | (with_reducible refine LeO.bind ?_ (fun _ => ?_))
   | exact ih0 _ _ _ _ _ _ _ _ _ _ _ _ _ _
   | exact ih1 _
   | exact dominolaw05_shown.mono _
   | exact params_Get.mono _ _
   | exact LeO.none _
   | refine LeO.ite ?_ ?_
   | refine LeO.bind ?_ (fun _ => ?_)
theorem dominolaw05_ParamsBack.mono : ∀ a0 a1 a2 a3 a4 a5 a6 a7 a8 a9 a10 a11 a12 k, LeO (dominolaw05_ParamsBack.f k a0 a1 a2 a3 a4 a5 a6 a7 a8 a9 a10 a11 a12) (dominolaw05_ParamsBack.f (k + 1) a0 a1 a2 a3 a4 a5 a6 a7 a8 a9 a10 a11 a12) := by
 intro a0 a1 a2 a3 a4 a5 a6 a7 a8 a9 a10 a11 a12 k
 obtain ⟨ih0, ih1⟩ := dominolaw05_ParamsBack.mono_l k
 unfold dominolaw05_ParamsBack.f
 repeat' first
   | (with_reducible exact ih0 _ _ _ _ _ _ _ _ _ _ _ _ _ _)
   | (with_reducible exact ih1 _)
   | (with_reducible exact dominolaw05_shown.mono _)
   | (with_reducible exact params_Get.mono _ _)
   | (with_reducible exact LeO.refl _)
   | (with_reducible exact LeO.none _)
   | (with_reducible refine LeO.ite ?_ ?_)
   | (with_reducible refine LeO.bind ?_ (fun _ => ?_))
   | exact ih0 _ _ _ _ _ _ _ _ _ _ _ _ _ _
   | exact ih1 _
   | exact dominolaw05_shown.mono _
   | exact params_Get.mono _ _
   | exact LeO.none _
   | refine LeO.ite ?_ ?_
   | refine LeO.bind ?_ (fun _ => ?_)
set_option maxHeartbeats 8000000 in
set_option maxRecDepth 100000 in
theorem dominolaw05_ParamsBack.calls (k : Nat) (a0_0 : Int) (a0_1 : Int) (a0_2 : Int) (a0_3 : Int) (a0_4 : Int) (a0_5 : Int) (a0_6 : Int) (a0_7 : Int) (a0_8 : Int) (a0_9 : Int) (a0_10 : Int) (a0_11 : ByteArray) (a1 : ByteArray) (r : Bool) (w : World) (ht : Tab w) (h : dominolaw05_ParamsBack.f k a0_0 a0_1 a0_2 a0_3 a0_4 a0_5 a0_6 a0_7 a0_8 a0_9 a0_10 a0_11 a1 = some r) :
  Calls Tryd.prog 4 #[.agg #[.int .u64 a0_0, .int .u64 a0_1, .int .u64 a0_2, .int .u64 a0_3, .int .u64 a0_4, .int .u64 a0_5, .int .u64 a0_6, .int .u64 a0_7, .int .u64 a0_8, .int .u64 a0_9, .int .u64 a0_10, .string a0_11], .string a1] w fun e w' => e = .returned (.bool r) ∧ Below w.heap.size w w' := by
 have HTab := Aside0.mk ht
 clear ht
 have hu24 := Tryd.underlying24
 have HB := Aside0.mk (Below.refl w.heap.size w)
 have H : (if (a0_11.size : Int) > 100 then (dominolaw05_ParamsBack.j0 k a1 true a0_0 a0_1 a0_2 a0_3 a0_4 a0_5 a0_6 a0_7 a0_8 a0_9 a0_10 a0_11) else (if (a1.size : Int) > 600 then (dominolaw05_ParamsBack.j0 k a1 true a0_0 a0_1 a0_2 a0_3 a0_4 a0_5 a0_6 a0_7 a0_8 a0_9 a0_10 a0_11) else ((dominolaw05_shown.f k).bind fun t316 => (dominolaw05_ParamsBack.j0 k a1 (!t316) a0_0 a0_1 a0_2 a0_3 a0_4 a0_5 a0_6 a0_7 a0_8 a0_9 a0_10 a0_11)))) = some r := h
 clear h
 have HC3 := Aside0.mk H
 clear H
 go_enter Tryd.func4, Tryd.ntmps4
 go_upto_region 1 with (first | ((with_reducible refine gate_dst (N := 2) rfl ?_); (try (refine gate_guard (by rfl) ?_; dsimp only)); refine box_event ?hg (N := 2) ?hd (cs := #[.int .u64 a0_0, .int .u64 a0_1, .int .u64 a0_2, .int .u64 a0_3, .int .u64 a0_4, .int .u64 a0_5, .int .u64 a0_6, .int .u64 a0_7, .int .u64 a0_8, .int .u64 a0_9, .int .u64 a0_10, .string a0_11]) (t := 24) ?hr ?_; (case hd => rfl); (case hg => rfl); (case hr => first | (go_simp; done) | (go_simp; rfl)); intro gb315 hg w4 hbox hb; have n0_ := Aside0.mk (below_step (by repeat (first | (with_reducible first | exact HB.out | apply below_alloc | apply pw_below_drewN | apply below_drew1) | exact HB.out)) hb); have n1_ := Aside0.mk (hbox); have n2_ := Aside0.mk ((by rw [hg]; exact (below_size (by repeat (first | (with_reducible first | exact HB.out | apply below_alloc | apply pw_below_drewN | apply below_drew1) | exact HB.out))) : w.heap.size ≤ gb315)); have n3_ := Aside0.mk ((by rw [hg]; exact (below_size (by repeat (first | (with_reducible first | exact HB.out | apply below_alloc | apply pw_below_drewN | apply below_drew1) | exact HB.out))) : w.heap.size ≤ gb315)); clear HB; have HB := n0_; have BK315 := n1_; have GW315 := n2_; have GE315 := n3_; clear n0_ n1_ n2_ n3_; clear hb hbox hg))
 (try simp only [Act.put, List.setIfInBounds_toArray, List.set_cons_zero, List.set_cons_succ])
 go_cut [27] (fun v27 wc => ∃ (kq : Nat) (x27_2 : Bool), v27 = .bool x27_2 ∧ Aside0 (dominolaw05_ParamsBack.j0 kq a1 x27_2 a0_0 a0_1 a0_2 a0_3 a0_4 a0_5 a0_6 a0_7 a0_8 a0_9 a0_10 a0_11 = some r) ∧ Aside0 (kq ≤ k) ∧ Aside0 (wc.heap[gb315]? = some (.cells #[.int .u64 a0_0, .int .u64 a0_1, .int .u64 a0_2, .int .u64 a0_3, .int .u64 a0_4, .int .u64 a0_5, .int .u64 a0_6, .int .u64 a0_7, .int .u64 a0_8, .int .u64 a0_9, .int .u64 a0_10, .string a0_11] 24 (0, 0))) ∧ Aside0 (Below w.heap.size w wc))
 case first =>
  have H := HC3.out
  clear HC3
  by_cases c5 : (a0_11.size : Int) > 100
  ·rw [if_pos c5] at H
   have c5b0 : decide (100 < (a0_11.size : Int)) = true := decide_eq_true c5
   have c5b1 : decide (100 < a0_11.size) = true := decide_eq_true (by omega)
   clear c5
   (first | rw [c5b0] | (simp only [i64_w, i32_w]; rw [c5b0]) | skip)
   have H' := Aside0.mk H
   clear H
   have hcz6_0 : w4.cell? ⟨gb315, 0, none⟩ = some (.int .u64 a0_0) := (blk_cell BK315.out 0).trans rfl
   have hcz6_1 : w4.cell? ⟨gb315, 1, none⟩ = some (.int .u64 a0_1) := (blk_cell BK315.out 1).trans rfl
   have hcz6_2 : w4.cell? ⟨gb315, 2, none⟩ = some (.int .u64 a0_2) := (blk_cell BK315.out 2).trans rfl
   have hcz6_3 : w4.cell? ⟨gb315, 3, none⟩ = some (.int .u64 a0_3) := (blk_cell BK315.out 3).trans rfl
   have hcz6_4 : w4.cell? ⟨gb315, 4, none⟩ = some (.int .u64 a0_4) := (blk_cell BK315.out 4).trans rfl
   have hcz6_5 : w4.cell? ⟨gb315, 5, none⟩ = some (.int .u64 a0_5) := (blk_cell BK315.out 5).trans rfl
   have hcz6_6 : w4.cell? ⟨gb315, 6, none⟩ = some (.int .u64 a0_6) := (blk_cell BK315.out 6).trans rfl
   have hcz6_7 : w4.cell? ⟨gb315, 7, none⟩ = some (.int .u64 a0_7) := (blk_cell BK315.out 7).trans rfl
   have hcz6_8 : w4.cell? ⟨gb315, 8, none⟩ = some (.int .u64 a0_8) := (blk_cell BK315.out 8).trans rfl
   have hcz6_9 : w4.cell? ⟨gb315, 9, none⟩ = some (.int .u64 a0_9) := (blk_cell BK315.out 9).trans rfl
   have hcz6_10 : w4.cell? ⟨gb315, 10, none⟩ = some (.int .u64 a0_10) := (blk_cell BK315.out 10).trans rfl
   have hcz6_11 : w4.cell? ⟨gb315, 11, none⟩ = some (.string a0_11) := (blk_cell BK315.out 11).trans rfl
   have hfz6_0 := blk_frozen BK315.out 0
   have hfz6_1 := blk_frozen BK315.out 1
   have hfz6_2 := blk_frozen BK315.out 2
   have hfz6_3 := blk_frozen BK315.out 3
   have hfz6_4 := blk_frozen BK315.out 4
   have hfz6_5 := blk_frozen BK315.out 5
   have hfz6_6 := blk_frozen BK315.out 6
   have hfz6_7 := blk_frozen BK315.out 7
   have hfz6_8 := blk_frozen BK315.out 8
   have hfz6_9 := blk_frozen BK315.out 9
   have hfz6_10 := blk_frozen BK315.out 10
   have hfz6_11 := blk_frozen BK315.out 11
   go_wp2
   go_meet
   case rel => exact ⟨_, (true), (by first | rfl | (simp; done) | (simp [*]; done)), H', ⟨by first | omega | exact Nat.le_refl _⟩, ⟨by (with_reducible repeat (first | refine blk_drewN ?_ _ | refine blk_drew ?_ | refine blk_alloc ?_ _)); exact BK315.out⟩, ⟨by repeat (first | (with_reducible first | exact HB.out | apply below_alloc | apply pw_below_drewN | apply below_drew1 | refine below_set ?_ GE315.out) | exact HB.out)⟩⟩
  ·rw [if_neg c5] at H
   have c5b0 : decide (100 < (a0_11.size : Int)) = false := decide_eq_false c5
   have c5b1 : decide (100 < a0_11.size) = false := decide_eq_false (by omega)
   clear c5
   (first | rw [c5b0] | (simp only [i64_w, i32_w]; rw [c5b0]) | skip)
   by_cases c7 : (a1.size : Int) > 600
   ·rw [if_pos c7] at H
    have c7b0 : decide (600 < (a1.size : Int)) = true := decide_eq_true c7
    have c7b1 : decide (600 < a1.size) = true := decide_eq_true (by omega)
    clear c7
    have H' := Aside0.mk H
    clear H
    have hcz8_0 : w4.cell? ⟨gb315, 0, none⟩ = some (.int .u64 a0_0) := (blk_cell BK315.out 0).trans rfl
    have hcz8_1 : w4.cell? ⟨gb315, 1, none⟩ = some (.int .u64 a0_1) := (blk_cell BK315.out 1).trans rfl
    have hcz8_2 : w4.cell? ⟨gb315, 2, none⟩ = some (.int .u64 a0_2) := (blk_cell BK315.out 2).trans rfl
    have hcz8_3 : w4.cell? ⟨gb315, 3, none⟩ = some (.int .u64 a0_3) := (blk_cell BK315.out 3).trans rfl
    have hcz8_4 : w4.cell? ⟨gb315, 4, none⟩ = some (.int .u64 a0_4) := (blk_cell BK315.out 4).trans rfl
    have hcz8_5 : w4.cell? ⟨gb315, 5, none⟩ = some (.int .u64 a0_5) := (blk_cell BK315.out 5).trans rfl
    have hcz8_6 : w4.cell? ⟨gb315, 6, none⟩ = some (.int .u64 a0_6) := (blk_cell BK315.out 6).trans rfl
    have hcz8_7 : w4.cell? ⟨gb315, 7, none⟩ = some (.int .u64 a0_7) := (blk_cell BK315.out 7).trans rfl
    have hcz8_8 : w4.cell? ⟨gb315, 8, none⟩ = some (.int .u64 a0_8) := (blk_cell BK315.out 8).trans rfl
    have hcz8_9 : w4.cell? ⟨gb315, 9, none⟩ = some (.int .u64 a0_9) := (blk_cell BK315.out 9).trans rfl
    have hcz8_10 : w4.cell? ⟨gb315, 10, none⟩ = some (.int .u64 a0_10) := (blk_cell BK315.out 10).trans rfl
    have hcz8_11 : w4.cell? ⟨gb315, 11, none⟩ = some (.string a0_11) := (blk_cell BK315.out 11).trans rfl
    have hfz8_0 := blk_frozen BK315.out 0
    have hfz8_1 := blk_frozen BK315.out 1
    have hfz8_2 := blk_frozen BK315.out 2
    have hfz8_3 := blk_frozen BK315.out 3
    have hfz8_4 := blk_frozen BK315.out 4
    have hfz8_5 := blk_frozen BK315.out 5
    have hfz8_6 := blk_frozen BK315.out 6
    have hfz8_7 := blk_frozen BK315.out 7
    have hfz8_8 := blk_frozen BK315.out 8
    have hfz8_9 := blk_frozen BK315.out 9
    have hfz8_10 := blk_frozen BK315.out 10
    have hfz8_11 := blk_frozen BK315.out 11
    go_wp2
    go_meet
    case rel => exact ⟨_, (true), (by first | rfl | (simp; done) | (simp [*]; done)), H', ⟨by first | omega | exact Nat.le_refl _⟩, ⟨by (with_reducible repeat (first | refine blk_drewN ?_ _ | refine blk_drew ?_ | refine blk_alloc ?_ _)); exact BK315.out⟩, ⟨by repeat (first | (with_reducible first | exact HB.out | apply below_alloc | apply pw_below_drewN | apply below_drew1 | refine below_set ?_ GE315.out) | exact HB.out)⟩⟩
   ·rw [if_neg c7] at H
    have c7b0 : decide (600 < (a1.size : Int)) = false := decide_eq_false c7
    have c7b1 : decide (600 < a1.size) = false := decide_eq_false (by omega)
    clear c7
    replace H := Option.bind_eq_some_iff.mp H
    obtain ⟨t316, A90, H⟩ := H
    replace H : (dominolaw05_ParamsBack.j0 k a1 (!t316) a0_0 a0_1 a0_2 a0_3 a0_4 a0_5 a0_6 a0_7 a0_8 a0_9 a0_10 a0_11) = some r := H
    have A9 := Aside0.mk A90
    clear A90
    have H' := Aside0.mk H
    clear H
    have hcz10_0 : w4.cell? ⟨gb315, 0, none⟩ = some (.int .u64 a0_0) := (blk_cell BK315.out 0).trans rfl
    have hcz10_1 : w4.cell? ⟨gb315, 1, none⟩ = some (.int .u64 a0_1) := (blk_cell BK315.out 1).trans rfl
    have hcz10_2 : w4.cell? ⟨gb315, 2, none⟩ = some (.int .u64 a0_2) := (blk_cell BK315.out 2).trans rfl
    have hcz10_3 : w4.cell? ⟨gb315, 3, none⟩ = some (.int .u64 a0_3) := (blk_cell BK315.out 3).trans rfl
    have hcz10_4 : w4.cell? ⟨gb315, 4, none⟩ = some (.int .u64 a0_4) := (blk_cell BK315.out 4).trans rfl
    have hcz10_5 : w4.cell? ⟨gb315, 5, none⟩ = some (.int .u64 a0_5) := (blk_cell BK315.out 5).trans rfl
    have hcz10_6 : w4.cell? ⟨gb315, 6, none⟩ = some (.int .u64 a0_6) := (blk_cell BK315.out 6).trans rfl
    have hcz10_7 : w4.cell? ⟨gb315, 7, none⟩ = some (.int .u64 a0_7) := (blk_cell BK315.out 7).trans rfl
    have hcz10_8 : w4.cell? ⟨gb315, 8, none⟩ = some (.int .u64 a0_8) := (blk_cell BK315.out 8).trans rfl
    have hcz10_9 : w4.cell? ⟨gb315, 9, none⟩ = some (.int .u64 a0_9) := (blk_cell BK315.out 9).trans rfl
    have hcz10_10 : w4.cell? ⟨gb315, 10, none⟩ = some (.int .u64 a0_10) := (blk_cell BK315.out 10).trans rfl
    have hcz10_11 : w4.cell? ⟨gb315, 11, none⟩ = some (.string a0_11) := (blk_cell BK315.out 11).trans rfl
    have hfz10_0 := blk_frozen BK315.out 0
    have hfz10_1 := blk_frozen BK315.out 1
    have hfz10_2 := blk_frozen BK315.out 2
    have hfz10_3 := blk_frozen BK315.out 3
    have hfz10_4 := blk_frozen BK315.out 4
    have hfz10_5 := blk_frozen BK315.out 5
    have hfz10_6 := blk_frozen BK315.out 6
    have hfz10_7 := blk_frozen BK315.out 7
    have hfz10_8 := blk_frozen BK315.out 8
    have hfz10_9 := blk_frozen BK315.out 9
    have hfz10_10 := blk_frozen BK315.out 10
    have hfz10_11 := blk_frozen BK315.out 11
    go_wp2_with (first | (go_at_call 8; (with_reducible refine (dominolaw05_shown.calls k  t316 _ (by first | exact HTab.out | exact tab_below HTab.out HB.out | exact (tab_below HTab.out (by repeat (first | (with_reducible first | exact HB.out | apply below_alloc | apply pw_below_drewN | apply below_drew1 | refine below_set ?_ GE315.out) | exact HB.out))) | exact tab_below HTab.out (by repeat (first | exact HB.out | exact Below.refl _ _ | apply below_alloc | apply pw_below_drewN | apply below_drew1 | refine below_set ?_ GE315.out | refine below_set ?_ GE333.out | refine below_set ?_ GE347.out | refine below_set ?_ GE363.out))) A9.out).mono ?_); rintro e w11 ⟨rfl, hb⟩; have n0_ := Aside0.mk (blk_below (g := gb315) (o := .cells #[.int .u64 a0_0, .int .u64 a0_1, .int .u64 a0_2, .int .u64 a0_3, .int .u64 a0_4, .int .u64 a0_5, .int .u64 a0_6, .int .u64 a0_7, .int .u64 a0_8, .int .u64 a0_9, .int .u64 a0_10, .string a0_11] 24 (0, 0)) (by (with_reducible repeat (first | refine blk_drewN ?_ _ | refine blk_drew ?_ | refine blk_alloc ?_ _)); exact BK315.out) hb); have n1_ := Aside0.mk (below_step (by repeat (first | (with_reducible first | exact HB.out | apply below_alloc | apply pw_below_drewN | apply below_drew1 | refine below_set ?_ GE315.out) | exact HB.out)) hb); clear BK315; clear HB; have BK315 := n0_; have HB := n1_; clear n0_ n1_; (try clear hb); (try clear hb2); (try clear hk); (try clear hi)))
    go_meet
    case rel => exact ⟨_, (!t316), (by first | rfl | (simp; done) | (simp [*]; done)), H', ⟨by first | omega | exact Nat.le_refl _⟩, ⟨by (with_reducible repeat (first | refine blk_drewN ?_ _ | refine blk_drew ?_ | refine blk_alloc ?_ _)); exact BK315.out⟩, ⟨by repeat (first | (with_reducible first | exact HB.out | apply below_alloc | apply pw_below_drewN | apply below_drew1 | refine below_set ?_ GE315.out) | exact HB.out)⟩⟩
 case rest =>
  clear HC3
  try clear p2
  try clear c4
  try clear c5
  try clear c5b0
  try clear c5b1
  try clear c7
  try clear c7b0
  try clear c7b1
  try clear hcz10_0
  try clear hcz10_1
  try clear hcz10_10
  try clear hcz10_11
  try clear hcz10_2
  try clear hcz10_3
  try clear hcz10_4
  try clear hcz10_5
  try clear hcz10_6
  try clear hcz10_7
  try clear hcz10_8
  try clear hcz10_9
  try clear hcz6_0
  try clear hcz6_1
  try clear hcz6_10
  try clear hcz6_11
  try clear hcz6_2
  try clear hcz6_3
  try clear hcz6_4
  try clear hcz6_5
  try clear hcz6_6
  try clear hcz6_7
  try clear hcz6_8
  try clear hcz6_9
  try clear hcz8_0
  try clear hcz8_1
  try clear hcz8_10
  try clear hcz8_11
  try clear hcz8_2
  try clear hcz8_3
  try clear hcz8_4
  try clear hcz8_5
  try clear hcz8_6
  try clear hcz8_7
  try clear hcz8_8
  try clear hcz8_9
  try clear hfz10_0
  try clear hfz10_1
  try clear hfz10_10
  try clear hfz10_11
  try clear hfz10_2
  try clear hfz10_3
  try clear hfz10_4
  try clear hfz10_5
  try clear hfz10_6
  try clear hfz10_7
  try clear hfz10_8
  try clear hfz10_9
  try clear hfz6_0
  try clear hfz6_1
  try clear hfz6_10
  try clear hfz6_11
  try clear hfz6_2
  try clear hfz6_3
  try clear hfz6_4
  try clear hfz6_5
  try clear hfz6_6
  try clear hfz6_7
  try clear hfz6_8
  try clear hfz6_9
  try clear hfz8_0
  try clear hfz8_1
  try clear hfz8_10
  try clear hfz8_11
  try clear hfz8_2
  try clear hfz8_3
  try clear hfz8_4
  try clear hfz8_5
  try clear hfz8_6
  try clear hfz8_7
  try clear hfz8_8
  try clear hfz8_9
  obtain ⟨kq, x27_2, rfl, HA, HJ2, BK315, HB⟩ := hcut
  cases kq with
  | zero => exact absurd HA.out (by simp [dominolaw05_ParamsBack.j0])
  | succ kj2 =>
   have H := HA.out
   clear HA
   simp only [dominolaw05_ParamsBack.j0] at H
   by_cases c12 : x27_2 = true
   ·subst c12
    have H1 : ((dominolaw05_shown.f kj2).bind fun t317 => (some t317)) = some r := by rw [if_pos rfl] at H; exact H
    clear H
    have H := H1
    clear H1
    replace H := Option.bind_eq_some_iff.mp H
    obtain ⟨t317, A130, H⟩ := H
    replace H : (some t317) = some r := H
    have A13 := Aside0.mk A130
    clear A130
    obtain rfl := Option.some.inj H
    go_wp2_with (first | ((with_reducible refine gate_callee (f := 8) rfl ?_); refine goesL_ (some 28) rfl rfl Tryd.func8 (by kernel_rfl) rfl #[] rfl (by (try simp only [List.map_toArray, List.map_cons, List.map_nil]); first | done | rfl | (simp only [List.length_drop, List.length_take]; rfl)) ?_; (with_reducible refine (dominolaw05_shown.calls kj2  t317 _ (by first | exact HTab.out | exact tab_below HTab.out HB.out | exact (tab_below HTab.out (by repeat (first | (with_reducible first | exact HB.out | apply below_alloc | apply pw_below_drewN | apply below_drew1 | refine below_set ?_ GE315.out) | exact HB.out))) | exact tab_below HTab.out (by repeat (first | exact HB.out | exact Below.refl _ _ | apply below_alloc | apply pw_below_drewN | apply below_drew1 | refine below_set ?_ GE315.out | refine below_set ?_ GE333.out | refine below_set ?_ GE347.out | refine below_set ?_ GE363.out))) A13.out).mono ?_); rintro e w14 ⟨rfl, hb⟩; refine ⟨_, rfl, ?_⟩; have n0_ := Aside0.mk (blk_below (g := gb315) (o := .cells #[.int .u64 a0_0, .int .u64 a0_1, .int .u64 a0_2, .int .u64 a0_3, .int .u64 a0_4, .int .u64 a0_5, .int .u64 a0_6, .int .u64 a0_7, .int .u64 a0_8, .int .u64 a0_9, .int .u64 a0_10, .string a0_11] 24 (0, 0)) (by (with_reducible repeat (first | refine blk_drewN ?_ _ | refine blk_drew ?_ | refine blk_alloc ?_ _)); exact BK315.out) hb); have n1_ := Aside0.mk (below_step (by repeat (first | (with_reducible first | exact HB.out | apply below_alloc | apply pw_below_drewN | apply below_drew1 | refine below_set ?_ GE315.out) | exact HB.out)) hb); clear BK315; clear HB; have BK315 := n0_; have HB := n1_; clear n0_ n1_; (try clear hb); (try clear hb2); (try clear hk); (try clear hi)))
    go_ret
    exact ⟨by first | rfl | (simp [errW_none, errW_some] <;> rfl) | (simp [*, errW_none, errW_some] <;> rfl), by repeat (first | (with_reducible first | exact HB.out | apply below_alloc | apply pw_below_drewN | apply below_drew1 | refine below_set ?_ GE315.out) | exact HB.out)⟩
   ·replace c12 := Bool.eq_false_iff.mpr c12
    subst c12
    have H1 : ((params_Put.f a0_0 a0_1 a0_2 a0_3 a0_4 a0_5 a0_6 a0_7 a0_8 a0_9 a0_10 a0_11).bind fun bt318 => (if bt318.2 = 0 then ((params_Get.f kj2 bt318.1).bind fun bt320 => (if bt320.2.2.2.2.2.2.2.2.2.2.2.2 = 0 then (if (!(bt320.1 == a0_0) || (!(bt320.2.1 == a0_1) || (!(bt320.2.2.1 == a0_2) || (!(bt320.2.2.2.1 == a0_3) || (!(bt320.2.2.2.2.1 == a0_4) || (!(bt320.2.2.2.2.2.1 == a0_5) || (!(bt320.2.2.2.2.2.2.1 == a0_6) || (!(bt320.2.2.2.2.2.2.2.1 == a0_7) || (!(bt320.2.2.2.2.2.2.2.2.1 == a0_8) || (!(bt320.2.2.2.2.2.2.2.2.2.1 == a0_9) || (!(bt320.2.2.2.2.2.2.2.2.2.2.1 == a0_10) || (!(bt320.2.2.2.2.2.2.2.2.2.2.2.1.toList == a0_11.toList))))))))))))) = true then (none) else (dominolaw05_ParamsBack.j1 kj2 a1)) else (none))) else (dominolaw05_ParamsBack.j1 kj2 a1))) = some r := by rw [if_neg (show ¬ (false = true) by decide)] at H; exact H
    clear H
    have H := H1
    clear H1
    replace H := Option.bind_eq_some_iff.mp H
    obtain ⟨⟨t318, t319⟩, A150, H⟩ := H
    replace H : (if t319 = 0 then ((params_Get.f kj2 t318).bind fun bt320 => (if bt320.2.2.2.2.2.2.2.2.2.2.2.2 = 0 then (if (!(bt320.1 == a0_0) || (!(bt320.2.1 == a0_1) || (!(bt320.2.2.1 == a0_2) || (!(bt320.2.2.2.1 == a0_3) || (!(bt320.2.2.2.2.1 == a0_4) || (!(bt320.2.2.2.2.2.1 == a0_5) || (!(bt320.2.2.2.2.2.2.1 == a0_6) || (!(bt320.2.2.2.2.2.2.2.1 == a0_7) || (!(bt320.2.2.2.2.2.2.2.2.1 == a0_8) || (!(bt320.2.2.2.2.2.2.2.2.2.1 == a0_9) || (!(bt320.2.2.2.2.2.2.2.2.2.2.1 == a0_10) || (!(bt320.2.2.2.2.2.2.2.2.2.2.2.1.toList == a0_11.toList))))))))))))) = true then (none) else (dominolaw05_ParamsBack.j1 kj2 a1)) else (none))) else (dominolaw05_ParamsBack.j1 kj2 a1)) = some r := H
    have A15 := Aside0.mk A150
    clear A150
    have HC16 := Aside0.mk H
    clear H
    have hcz17_0 : wc.cell? ⟨gb315, 0, none⟩ = some (.int .u64 a0_0) := (blk_cell BK315.out 0).trans rfl
    have hcz17_1 : wc.cell? ⟨gb315, 1, none⟩ = some (.int .u64 a0_1) := (blk_cell BK315.out 1).trans rfl
    have hcz17_2 : wc.cell? ⟨gb315, 2, none⟩ = some (.int .u64 a0_2) := (blk_cell BK315.out 2).trans rfl
    have hcz17_3 : wc.cell? ⟨gb315, 3, none⟩ = some (.int .u64 a0_3) := (blk_cell BK315.out 3).trans rfl
    have hcz17_4 : wc.cell? ⟨gb315, 4, none⟩ = some (.int .u64 a0_4) := (blk_cell BK315.out 4).trans rfl
    have hcz17_5 : wc.cell? ⟨gb315, 5, none⟩ = some (.int .u64 a0_5) := (blk_cell BK315.out 5).trans rfl
    have hcz17_6 : wc.cell? ⟨gb315, 6, none⟩ = some (.int .u64 a0_6) := (blk_cell BK315.out 6).trans rfl
    have hcz17_7 : wc.cell? ⟨gb315, 7, none⟩ = some (.int .u64 a0_7) := (blk_cell BK315.out 7).trans rfl
    have hcz17_8 : wc.cell? ⟨gb315, 8, none⟩ = some (.int .u64 a0_8) := (blk_cell BK315.out 8).trans rfl
    have hcz17_9 : wc.cell? ⟨gb315, 9, none⟩ = some (.int .u64 a0_9) := (blk_cell BK315.out 9).trans rfl
    have hcz17_10 : wc.cell? ⟨gb315, 10, none⟩ = some (.int .u64 a0_10) := (blk_cell BK315.out 10).trans rfl
    have hcz17_11 : wc.cell? ⟨gb315, 11, none⟩ = some (.string a0_11) := (blk_cell BK315.out 11).trans rfl
    have hfz17_0 := blk_frozen BK315.out 0
    have hfz17_1 := blk_frozen BK315.out 1
    have hfz17_2 := blk_frozen BK315.out 2
    have hfz17_3 := blk_frozen BK315.out 3
    have hfz17_4 := blk_frozen BK315.out 4
    have hfz17_5 := blk_frozen BK315.out 5
    have hfz17_6 := blk_frozen BK315.out 6
    have hfz17_7 := blk_frozen BK315.out 7
    have hfz17_8 := blk_frozen BK315.out 8
    have hfz17_9 := blk_frozen BK315.out 9
    have hfz17_10 := blk_frozen BK315.out 10
    have hfz17_11 := blk_frozen BK315.out 11
    go_upto_if 35 with (first | ((with_reducible refine gate_callee (f := 9) rfl ?_); refine goesL_ (some 31) rfl rfl Tryd.func9 (by kernel_rfl) rfl #[.agg #[.int .u64 a0_0, .int .u64 a0_1, .int .u64 a0_2, .int .u64 a0_3, .int .u64 a0_4, .int .u64 a0_5, .int .u64 a0_6, .int .u64 a0_7, .int .u64 a0_8, .int .u64 a0_9, .int .u64 a0_10, .string a0_11]] rfl (by (try simp only [List.map_toArray, List.map_cons, List.map_nil]); first | done | rfl | (simp only [List.length_drop, List.length_take]; rfl)) ?_; (with_reducible refine (params_Put.calls a0_0 a0_1 a0_2 a0_3 a0_4 a0_5 a0_6 a0_7 a0_8 a0_9 a0_10 a0_11 t318 t319 _ (by first | exact HTab.out | exact tab_below HTab.out HB.out | exact (tab_below HTab.out (by repeat (first | (with_reducible first | exact HB.out | apply below_alloc | apply pw_below_drewN | apply below_drew1 | refine below_set ?_ GE315.out) | exact HB.out))) | exact tab_below HTab.out (by repeat (first | exact HB.out | exact Below.refl _ _ | apply below_alloc | apply pw_below_drewN | apply below_drew1 | refine below_set ?_ GE315.out | refine below_set ?_ GE333.out | refine below_set ?_ GE347.out | refine below_set ?_ GE363.out))) A15.out).mono ?_); rintro e w18 ⟨rfl, hb⟩; refine ⟨_, rfl, ?_⟩; have n0_ := Aside0.mk (blk_below (g := gb315) (o := .cells #[.int .u64 a0_0, .int .u64 a0_1, .int .u64 a0_2, .int .u64 a0_3, .int .u64 a0_4, .int .u64 a0_5, .int .u64 a0_6, .int .u64 a0_7, .int .u64 a0_8, .int .u64 a0_9, .int .u64 a0_10, .string a0_11] 24 (0, 0)) (by (with_reducible repeat (first | refine blk_drewN ?_ _ | refine blk_drew ?_ | refine blk_alloc ?_ _)); exact BK315.out) hb); have n1_ := Aside0.mk (below_step (by repeat (first | (with_reducible first | exact HB.out | apply below_alloc | apply pw_below_drewN | apply below_drew1 | refine below_set ?_ GE315.out) | exact HB.out)) hb); clear BK315; clear HB; have BK315 := n0_; have HB := n1_; clear n0_ n1_; (try clear hb); (try clear hb2); (try clear hk); (try clear hi)))
    (try simp only [Act.put, List.setIfInBounds_toArray, List.set_cons_zero, List.set_cons_succ])
    go_cut [] (fun wc => ∃ (kq : Nat), Aside0 (dominolaw05_ParamsBack.j1 kq a1 = some r) ∧ Aside0 (kq ≤ kj2) ∧ Aside0 (wc.heap[gb315]? = some (.cells #[.int .u64 a0_0, .int .u64 a0_1, .int .u64 a0_2, .int .u64 a0_3, .int .u64 a0_4, .int .u64 a0_5, .int .u64 a0_6, .int .u64 a0_7, .int .u64 a0_8, .int .u64 a0_9, .int .u64 a0_10, .string a0_11] 24 (0, 0))) ∧ Aside0 (Below w.heap.size w wc))
    case first =>
     have H := HC16.out
     clear HC16
     by_cases c19 : t319 = 0
     ·rw [if_pos c19] at H
      have c19b0 : (t319 == 0) = true := beq_iff_eq.mpr c19
      have c19b1 : (t319 != 0) = false := bne_eq_false_iff_eq.mpr c19
      clear c19
      (first | rw [c19b0] | (simp only [i64_w, i32_w]; rw [c19b0]) | skip)
      replace H := Option.bind_eq_some_iff.mp H
      obtain ⟨⟨t320, t321, t322, t323, t324, t325, t326, t327, t328, t329, t330, t331, t332⟩, A200, H⟩ := H
      replace H : (if t332 = 0 then (if (!(t320 == a0_0) || (!(t321 == a0_1) || (!(t322 == a0_2) || (!(t323 == a0_3) || (!(t324 == a0_4) || (!(t325 == a0_5) || (!(t326 == a0_6) || (!(t327 == a0_7) || (!(t328 == a0_8) || (!(t329 == a0_9) || (!(t330 == a0_10) || (!(t331.toList == a0_11.toList))))))))))))) = true then (none) else (dominolaw05_ParamsBack.j1 kj2 a1)) else (none)) = some r := H
      have A20 := Aside0.mk A200
      clear A200
      by_cases c21 : t332 = 0
      ·rw [if_pos c21] at H
       have c21b0 : (t332 == 0) = true := beq_iff_eq.mpr c21
       have c21b1 : (t332 != 0) = false := bne_eq_false_iff_eq.mpr c21
       clear c21
       by_cases c22 : (!(t320 == a0_0) || (!(t321 == a0_1) || (!(t322 == a0_2) || (!(t323 == a0_3) || (!(t324 == a0_4) || (!(t325 == a0_5) || (!(t326 == a0_6) || (!(t327 == a0_7) || (!(t328 == a0_8) || (!(t329 == a0_9) || (!(t330 == a0_10) || (!(t331.toList == a0_11.toList))))))))))))) = true
       ·rw [if_pos c22] at H
        exact absurd H (by simp)
       ·rw [if_neg c22] at H
        have c22b0 : (!(t320 == a0_0) || (!(t321 == a0_1) || (!(t322 == a0_2) || (!(t323 == a0_3) || (!(t324 == a0_4) || (!(t325 == a0_5) || (!(t326 == a0_6) || (!(t327 == a0_7) || (!(t328 == a0_8) || (!(t329 == a0_9) || (!(t330 == a0_10) || (!(t331.toList == a0_11.toList))))))))))))) = false := by simpa using c22
        have c22q := c22b0
        simp only [Bool.not_false, Bool.not_true, Bool.true_and, Bool.and_eq_true, Bool.or_eq_false_iff, Bool.not_eq_eq_eq_not, beq_iff_eq] at c22q
        replace c22q := eq_true c22q
        clear c22
        have H' := Aside0.mk H
        clear H
        go_wp2_with (first | ((with_reducible refine gate_callee (f := 11) rfl ?_); refine goesL_ (some 38) rfl rfl Tryd.func11 (by kernel_rfl) rfl #[.string t318] rfl (by (try simp only [List.map_toArray, List.map_cons, List.map_nil]); first | done | rfl | (simp only [List.length_drop, List.length_take]; rfl)) ?_; (with_reducible refine (params_Get.calls kj2 t318 t320 t321 t322 t323 t324 t325 t326 t327 t328 t329 t330 t331 t332 _ A20.out).mono ?_); rintro e w23 ⟨rfl, hb⟩; refine ⟨_, rfl, ?_⟩; have n0_ := Aside0.mk (blk_below (g := gb315) (o := .cells #[.int .u64 a0_0, .int .u64 a0_1, .int .u64 a0_2, .int .u64 a0_3, .int .u64 a0_4, .int .u64 a0_5, .int .u64 a0_6, .int .u64 a0_7, .int .u64 a0_8, .int .u64 a0_9, .int .u64 a0_10, .string a0_11] 24 (0, 0)) (by (with_reducible repeat (first | refine blk_drewN ?_ _ | refine blk_drew ?_ | refine blk_alloc ?_ _)); exact BK315.out) hb); have n1_ := Aside0.mk (below_step (by repeat (first | (with_reducible first | exact HB.out | apply below_alloc | apply pw_below_drewN | apply below_drew1 | refine below_set ?_ GE315.out) | exact HB.out)) hb); clear BK315; clear HB; have BK315 := n0_; have HB := n1_; clear n0_ n1_; (try clear hb); (try clear hb2); (try clear hk); (try clear hi)) | ((with_reducible refine gate_dst (N := 7) rfl ?_); (try (refine gate_guard (by rfl) ?_; dsimp only)); refine box_event ?hg (N := 7) ?hd (cs := #[.int .u64 0, .int .u64 0, .int .u64 0, .int .u64 0, .int .u64 0, .int .u64 0, .int .u64 0, .int .u64 0, .int .u64 0, .int .u64 0, .int .u64 0, .string (⟨#[]⟩ : ByteArray)]) (t := 24) ?hr ?_; (case hd => rfl); (case hg => rfl); (case hr => first | (go_simp; done) | (go_simp; rfl)); intro gb333 hg w24 hbox hb; have n0_ := Aside0.mk (blk_below (g := gb315) (o := .cells #[.int .u64 a0_0, .int .u64 a0_1, .int .u64 a0_2, .int .u64 a0_3, .int .u64 a0_4, .int .u64 a0_5, .int .u64 a0_6, .int .u64 a0_7, .int .u64 a0_8, .int .u64 a0_9, .int .u64 a0_10, .string a0_11] 24 (0, 0)) (by (with_reducible repeat (first | refine blk_drewN ?_ _ | refine blk_drew ?_ | refine blk_alloc ?_ _)); exact BK315.out) hb); have n1_ := Aside0.mk (below_step (by repeat (first | (with_reducible first | exact HB.out | apply below_alloc | apply pw_below_drewN | apply below_drew1 | refine below_set ?_ GE315.out) | exact HB.out)) hb); have n2_ := Aside0.mk (hbox); have n3_ := Aside0.mk ((by rw [hg]; exact (below_size (by repeat (first | (with_reducible first | exact HB.out | apply below_alloc | apply pw_below_drewN | apply below_drew1 | refine below_set ?_ GE315.out) | exact HB.out))) : w.heap.size ≤ gb333)); have n4_ := Aside0.mk ((by rw [hg]; exact (below_size (by repeat (first | (with_reducible first | exact HB.out | apply below_alloc | apply pw_below_drewN | apply below_drew1 | refine below_set ?_ GE315.out) | exact HB.out))) : w.heap.size ≤ gb333)); have n5_ := Aside0.mk ((by rw [hg]; exact Nat.ne_of_lt (blk_lt (g := gb315) (o := .cells #[.int .u64 a0_0, .int .u64 a0_1, .int .u64 a0_2, .int .u64 a0_3, .int .u64 a0_4, .int .u64 a0_5, .int .u64 a0_6, .int .u64 a0_7, .int .u64 a0_8, .int .u64 a0_9, .int .u64 a0_10, .string a0_11] 24 (0, 0)) (by (with_reducible repeat (first | refine blk_drewN ?_ _ | refine blk_drew ?_ | refine blk_alloc ?_ _)); exact BK315.out)) : gb315 ≠ gb333)); have n6_ := Aside0.mk ((by rw [hg]; exact Nat.ne_of_gt (blk_lt (g := gb315) (o := .cells #[.int .u64 a0_0, .int .u64 a0_1, .int .u64 a0_2, .int .u64 a0_3, .int .u64 a0_4, .int .u64 a0_5, .int .u64 a0_6, .int .u64 a0_7, .int .u64 a0_8, .int .u64 a0_9, .int .u64 a0_10, .string a0_11] 24 (0, 0)) (by (with_reducible repeat (first | refine blk_drewN ?_ _ | refine blk_drew ?_ | refine blk_alloc ?_ _)); exact BK315.out)) : gb333 ≠ gb315)); clear BK315; clear HB; have BK315 := n0_; have HB := n1_; have BK333 := n2_; have GW333 := n3_; have GE333 := n4_; have NB315_333 := n5_; have NB333_315 := n6_; clear n0_ n1_ n2_ n3_ n4_ n5_ n6_; clear hb hbox hg; have hnb25 := NB333_315.out; have hnc25 := NB315_333.out; have hcz26_0 : w24.cell? ⟨gb333, 0, none⟩ = some (.int .u64 0) := (blk_cell BK333.out 0).trans rfl; have hcz26_1 : w24.cell? ⟨gb333, 1, none⟩ = some (.int .u64 0) := (blk_cell BK333.out 1).trans rfl; have hcz26_2 : w24.cell? ⟨gb333, 2, none⟩ = some (.int .u64 0) := (blk_cell BK333.out 2).trans rfl; have hcz26_3 : w24.cell? ⟨gb333, 3, none⟩ = some (.int .u64 0) := (blk_cell BK333.out 3).trans rfl; have hcz26_4 : w24.cell? ⟨gb333, 4, none⟩ = some (.int .u64 0) := (blk_cell BK333.out 4).trans rfl; have hcz26_5 : w24.cell? ⟨gb333, 5, none⟩ = some (.int .u64 0) := (blk_cell BK333.out 5).trans rfl; have hcz26_6 : w24.cell? ⟨gb333, 6, none⟩ = some (.int .u64 0) := (blk_cell BK333.out 6).trans rfl; have hcz26_7 : w24.cell? ⟨gb333, 7, none⟩ = some (.int .u64 0) := (blk_cell BK333.out 7).trans rfl; have hcz26_8 : w24.cell? ⟨gb333, 8, none⟩ = some (.int .u64 0) := (blk_cell BK333.out 8).trans rfl; have hcz26_9 : w24.cell? ⟨gb333, 9, none⟩ = some (.int .u64 0) := (blk_cell BK333.out 9).trans rfl; have hcz26_10 : w24.cell? ⟨gb333, 10, none⟩ = some (.int .u64 0) := (blk_cell BK333.out 10).trans rfl; have hcz26_11 : w24.cell? ⟨gb333, 11, none⟩ = some (.string (⟨#[]⟩ : ByteArray)) := (blk_cell BK333.out 11).trans rfl; have hfz26_0 := blk_frozen BK333.out 0; have hfz26_1 := blk_frozen BK333.out 1; have hfz26_2 := blk_frozen BK333.out 2; have hfz26_3 := blk_frozen BK333.out 3; have hfz26_4 := blk_frozen BK333.out 4; have hfz26_5 := blk_frozen BK333.out 5; have hfz26_6 := blk_frozen BK333.out 6; have hfz26_7 := blk_frozen BK333.out 7; have hfz26_8 := blk_frozen BK333.out 8; have hfz26_9 := blk_frozen BK333.out 9; have hfz26_10 := blk_frozen BK333.out 10; have hfz26_11 := blk_frozen BK333.out 11; have hcz27_0 : w24.cell? ⟨gb315, 0, none⟩ = some (.int .u64 a0_0) := (blk_cell BK315.out 0).trans rfl; have hcz27_1 : w24.cell? ⟨gb315, 1, none⟩ = some (.int .u64 a0_1) := (blk_cell BK315.out 1).trans rfl; have hcz27_2 : w24.cell? ⟨gb315, 2, none⟩ = some (.int .u64 a0_2) := (blk_cell BK315.out 2).trans rfl; have hcz27_3 : w24.cell? ⟨gb315, 3, none⟩ = some (.int .u64 a0_3) := (blk_cell BK315.out 3).trans rfl; have hcz27_4 : w24.cell? ⟨gb315, 4, none⟩ = some (.int .u64 a0_4) := (blk_cell BK315.out 4).trans rfl; have hcz27_5 : w24.cell? ⟨gb315, 5, none⟩ = some (.int .u64 a0_5) := (blk_cell BK315.out 5).trans rfl; have hcz27_6 : w24.cell? ⟨gb315, 6, none⟩ = some (.int .u64 a0_6) := (blk_cell BK315.out 6).trans rfl; have hcz27_7 : w24.cell? ⟨gb315, 7, none⟩ = some (.int .u64 a0_7) := (blk_cell BK315.out 7).trans rfl; have hcz27_8 : w24.cell? ⟨gb315, 8, none⟩ = some (.int .u64 a0_8) := (blk_cell BK315.out 8).trans rfl; have hcz27_9 : w24.cell? ⟨gb315, 9, none⟩ = some (.int .u64 a0_9) := (blk_cell BK315.out 9).trans rfl; have hcz27_10 : w24.cell? ⟨gb315, 10, none⟩ = some (.int .u64 a0_10) := (blk_cell BK315.out 10).trans rfl; have hcz27_11 : w24.cell? ⟨gb315, 11, none⟩ = some (.string a0_11) := (blk_cell BK315.out 11).trans rfl; have hfz27_0 := blk_frozen BK315.out 0; have hfz27_1 := blk_frozen BK315.out 1; have hfz27_2 := blk_frozen BK315.out 2; have hfz27_3 := blk_frozen BK315.out 3; have hfz27_4 := blk_frozen BK315.out 4; have hfz27_5 := blk_frozen BK315.out 5; have hfz27_6 := blk_frozen BK315.out 6; have hfz27_7 := blk_frozen BK315.out 7; have hfz27_8 := blk_frozen BK315.out 8; have hfz27_9 := blk_frozen BK315.out 9; have hfz27_10 := blk_frozen BK315.out 10; have hfz27_11 := blk_frozen BK315.out 11))
        go_meet
        case rel => exact ⟨_, H', ⟨by have := HJ2.out; first | omega | exact Nat.le_refl _⟩, ⟨by (with_reducible repeat (first | refine blk_drewN ?_ _ | refine blk_drew ?_ | refine blk_alloc ?_ _)); refine blk_far ?_ NB315_333.out _; (with_reducible repeat (first | refine blk_drewN ?_ _ | refine blk_drew ?_ | refine blk_alloc ?_ _)); refine blk_far ?_ NB315_333.out _; (with_reducible repeat (first | refine blk_drewN ?_ _ | refine blk_drew ?_ | refine blk_alloc ?_ _)); refine blk_far ?_ NB315_333.out _; (with_reducible repeat (first | refine blk_drewN ?_ _ | refine blk_drew ?_ | refine blk_alloc ?_ _)); refine blk_far ?_ NB315_333.out _; (with_reducible repeat (first | refine blk_drewN ?_ _ | refine blk_drew ?_ | refine blk_alloc ?_ _)); refine blk_far ?_ NB315_333.out _; (with_reducible repeat (first | refine blk_drewN ?_ _ | refine blk_drew ?_ | refine blk_alloc ?_ _)); refine blk_far ?_ NB315_333.out _; (with_reducible repeat (first | refine blk_drewN ?_ _ | refine blk_drew ?_ | refine blk_alloc ?_ _)); refine blk_far ?_ NB315_333.out _; (with_reducible repeat (first | refine blk_drewN ?_ _ | refine blk_drew ?_ | refine blk_alloc ?_ _)); refine blk_far ?_ NB315_333.out _; (with_reducible repeat (first | refine blk_drewN ?_ _ | refine blk_drew ?_ | refine blk_alloc ?_ _)); refine blk_far ?_ NB315_333.out _; (with_reducible repeat (first | refine blk_drewN ?_ _ | refine blk_drew ?_ | refine blk_alloc ?_ _)); refine blk_far ?_ NB315_333.out _; (with_reducible repeat (first | refine blk_drewN ?_ _ | refine blk_drew ?_ | refine blk_alloc ?_ _)); refine blk_far ?_ NB315_333.out _; (with_reducible repeat (first | refine blk_drewN ?_ _ | refine blk_drew ?_ | refine blk_alloc ?_ _)); refine blk_far ?_ NB315_333.out _; (with_reducible repeat (first | refine blk_drewN ?_ _ | refine blk_drew ?_ | refine blk_alloc ?_ _)); exact BK315.out⟩, ⟨by repeat (first | (with_reducible first | exact HB.out | apply below_alloc | apply pw_below_drewN | apply below_drew1 | refine below_set ?_ GE315.out | refine below_set ?_ GE333.out) | exact HB.out)⟩⟩
      ·rw [if_neg c21] at H
       exact absurd H (by simp)
     ·rw [if_neg c19] at H
      have c19b0 : (t319 == 0) = false := beq_eq_false_iff_ne.mpr c19
      have c19b1 : (t319 != 0) = true := bne_iff_ne.mpr c19
      (first | rw [c19b0] | (simp only [i64_w, i32_w]; rw [c19b0]) | skip)
      have H' := Aside0.mk H
      clear H
      go_wp2
      go_meet
      case rel => exact ⟨_, H', ⟨by have := HJ2.out; first | omega | exact Nat.le_refl _⟩, ⟨by (with_reducible repeat (first | refine blk_drewN ?_ _ | refine blk_drew ?_ | refine blk_alloc ?_ _)); exact BK315.out⟩, ⟨by repeat (first | (with_reducible first | exact HB.out | apply below_alloc | apply pw_below_drewN | apply below_drew1 | refine below_set ?_ GE315.out) | exact HB.out)⟩⟩
    case rest =>
     clear HC16
     try clear c1
     try clear c2
     try clear p2
     try clear c4
     try clear c5
     try clear c5b0
     try clear c5b1
     try clear c7
     try clear c7b0
     try clear c7b1
     try clear c8
     try clear c9
     try clear c11
     try clear c12
     try clear c19
     try clear c19b0
     try clear c19b1
     try clear c21
     try clear c21b0
     try clear c21b1
     try clear c22
     try clear c22b0
     try clear c25
     try clear hcz10_0
     try clear hcz10_1
     try clear hcz10_10
     try clear hcz10_11
     try clear hcz10_2
     try clear hcz10_3
     try clear hcz10_4
     try clear hcz10_5
     try clear hcz10_6
     try clear hcz10_7
     try clear hcz10_8
     try clear hcz10_9
     try clear hcz17_0
     try clear hcz17_1
     try clear hcz17_10
     try clear hcz17_11
     try clear hcz17_2
     try clear hcz17_3
     try clear hcz17_4
     try clear hcz17_5
     try clear hcz17_6
     try clear hcz17_7
     try clear hcz17_8
     try clear hcz17_9
     try clear hcz26_0
     try clear hcz26_1
     try clear hcz26_10
     try clear hcz26_11
     try clear hcz26_2
     try clear hcz26_3
     try clear hcz26_4
     try clear hcz26_5
     try clear hcz26_6
     try clear hcz26_7
     try clear hcz26_8
     try clear hcz26_9
     try clear hcz27_0
     try clear hcz27_1
     try clear hcz27_10
     try clear hcz27_11
     try clear hcz27_2
     try clear hcz27_3
     try clear hcz27_4
     try clear hcz27_5
     try clear hcz27_6
     try clear hcz27_7
     try clear hcz27_8
     try clear hcz27_9
     try clear hcz6_0
     try clear hcz6_1
     try clear hcz6_10
     try clear hcz6_11
     try clear hcz6_2
     try clear hcz6_3
     try clear hcz6_4
     try clear hcz6_5
     try clear hcz6_6
     try clear hcz6_7
     try clear hcz6_8
     try clear hcz6_9
     try clear hcz8_0
     try clear hcz8_1
     try clear hcz8_10
     try clear hcz8_11
     try clear hcz8_2
     try clear hcz8_3
     try clear hcz8_4
     try clear hcz8_5
     try clear hcz8_6
     try clear hcz8_7
     try clear hcz8_8
     try clear hcz8_9
     try clear hfz10_0
     try clear hfz10_1
     try clear hfz10_10
     try clear hfz10_11
     try clear hfz10_2
     try clear hfz10_3
     try clear hfz10_4
     try clear hfz10_5
     try clear hfz10_6
     try clear hfz10_7
     try clear hfz10_8
     try clear hfz10_9
     try clear hfz17_0
     try clear hfz17_1
     try clear hfz17_10
     try clear hfz17_11
     try clear hfz17_2
     try clear hfz17_3
     try clear hfz17_4
     try clear hfz17_5
     try clear hfz17_6
     try clear hfz17_7
     try clear hfz17_8
     try clear hfz17_9
     try clear hfz26_0
     try clear hfz26_1
     try clear hfz26_10
     try clear hfz26_11
     try clear hfz26_2
     try clear hfz26_3
     try clear hfz26_4
     try clear hfz26_5
     try clear hfz26_6
     try clear hfz26_7
     try clear hfz26_8
     try clear hfz26_9
     try clear hfz27_0
     try clear hfz27_1
     try clear hfz27_10
     try clear hfz27_11
     try clear hfz27_2
     try clear hfz27_3
     try clear hfz27_4
     try clear hfz27_5
     try clear hfz27_6
     try clear hfz27_7
     try clear hfz27_8
     try clear hfz27_9
     try clear hfz6_0
     try clear hfz6_1
     try clear hfz6_10
     try clear hfz6_11
     try clear hfz6_2
     try clear hfz6_3
     try clear hfz6_4
     try clear hfz6_5
     try clear hfz6_6
     try clear hfz6_7
     try clear hfz6_8
     try clear hfz6_9
     try clear hfz8_0
     try clear hfz8_1
     try clear hfz8_10
     try clear hfz8_11
     try clear hfz8_2
     try clear hfz8_3
     try clear hfz8_4
     try clear hfz8_5
     try clear hfz8_6
     try clear hfz8_7
     try clear hfz8_8
     try clear hfz8_9
     try clear p2
     obtain ⟨kq, HA, HJ15, BK315, HB⟩ := hcut
     cases kq with
     | zero => exact absurd HA.out (by simp [dominolaw05_ParamsBack.j1])
     | succ kj15 =>
      have H := HA.out
      clear HA
      simp only [dominolaw05_ParamsBack.j1] at H
      replace H := Option.bind_eq_some_iff.mp H
      obtain ⟨⟨t334, t335, t336, t337, t338, t339, t340, t341, t342, t343, t344, t345, t346⟩, A280, H⟩ := H
      replace H : (if t346 = 0 then ((params_Put.f t334 t335 t336 t337 t338 t339 t340 t341 t342 t343 t344 t345).bind fun bt348 => ((params_Get.f kj15 bt348.1).bind fun bt350 => ((params_Check.f t334 t335 t336 t337 t338 t339 t340 t341 t342 t343 t344 t345).bind fun t364 => (if t364 = 0 then (if bt348.2 = 0 then (if bt350.2.2.2.2.2.2.2.2.2.2.2.2 = 0 then (some (bt350.1 == t334 && (bt350.2.1 == t335 && (bt350.2.2.1 == t336 && (bt350.2.2.2.1 == t337 && (bt350.2.2.2.2.1 == t338 && (bt350.2.2.2.2.2.1 == t339 && (bt350.2.2.2.2.2.2.1 == t340 && (bt350.2.2.2.2.2.2.2.1 == t341 && (bt350.2.2.2.2.2.2.2.2.1 == t342 && (bt350.2.2.2.2.2.2.2.2.2.1 == t343 && (bt350.2.2.2.2.2.2.2.2.2.2.1 == t344 && (bt350.2.2.2.2.2.2.2.2.2.2.2.1.toList == t345.toList))))))))))))) else (none)) else (none)) else (none))))) else (some (t334 == 0 && (t335 == 0 && (t336 == 0 && (t337 == 0 && (t338 == 0 && (t339 == 0 && (t340 == 0 && (t341 == 0 && (t342 == 0 && (t343 == 0 && (t344 == 0 && (t345.toList == ([] : List UInt8))))))))))))))) = some r := H
      have A28 := Aside0.mk A280
      clear A280
      by_cases c29 : t346 = 0
      ·rw [if_pos c29] at H
       have c29b0 : (t346 == 0) = true := beq_iff_eq.mpr c29
       have c29b1 : (t346 != 0) = false := bne_eq_false_iff_eq.mpr c29
       clear c29
       replace H := Option.bind_eq_some_iff.mp H
       obtain ⟨⟨t348, t349⟩, A300, H⟩ := H
       replace H : ((params_Get.f kj15 t348).bind fun bt350 => ((params_Check.f t334 t335 t336 t337 t338 t339 t340 t341 t342 t343 t344 t345).bind fun t364 => (if t364 = 0 then (if t349 = 0 then (if bt350.2.2.2.2.2.2.2.2.2.2.2.2 = 0 then (some (bt350.1 == t334 && (bt350.2.1 == t335 && (bt350.2.2.1 == t336 && (bt350.2.2.2.1 == t337 && (bt350.2.2.2.2.1 == t338 && (bt350.2.2.2.2.2.1 == t339 && (bt350.2.2.2.2.2.2.1 == t340 && (bt350.2.2.2.2.2.2.2.1 == t341 && (bt350.2.2.2.2.2.2.2.2.1 == t342 && (bt350.2.2.2.2.2.2.2.2.2.1 == t343 && (bt350.2.2.2.2.2.2.2.2.2.2.1 == t344 && (bt350.2.2.2.2.2.2.2.2.2.2.2.1.toList == t345.toList))))))))))))) else (none)) else (none)) else (none)))) = some r := H
       have A30 := Aside0.mk A300
       clear A300
       replace H := Option.bind_eq_some_iff.mp H
       obtain ⟨⟨t350, t351, t352, t353, t354, t355, t356, t357, t358, t359, t360, t361, t362⟩, A310, H⟩ := H
       replace H : ((params_Check.f t334 t335 t336 t337 t338 t339 t340 t341 t342 t343 t344 t345).bind fun t364 => (if t364 = 0 then (if t349 = 0 then (if t362 = 0 then (some (t350 == t334 && (t351 == t335 && (t352 == t336 && (t353 == t337 && (t354 == t338 && (t355 == t339 && (t356 == t340 && (t357 == t341 && (t358 == t342 && (t359 == t343 && (t360 == t344 && (t361.toList == t345.toList))))))))))))) else (none)) else (none)) else (none))) = some r := H
       have A31 := Aside0.mk A310
       clear A310
       replace H := Option.bind_eq_some_iff.mp H
       obtain ⟨t364, A320, H⟩ := H
       replace H : (if t364 = 0 then (if t349 = 0 then (if t362 = 0 then (some (t350 == t334 && (t351 == t335 && (t352 == t336 && (t353 == t337 && (t354 == t338 && (t355 == t339 && (t356 == t340 && (t357 == t341 && (t358 == t342 && (t359 == t343 && (t360 == t344 && (t361.toList == t345.toList))))))))))))) else (none)) else (none)) else (none)) = some r := H
       have A32 := Aside0.mk A320
       clear A320
       by_cases c33 : t364 = 0
       ·rw [if_pos c33] at H
        have c33b0 : (t364 == 0) = true := beq_iff_eq.mpr c33
        have c33b1 : (t364 != 0) = false := bne_eq_false_iff_eq.mpr c33
        clear c33
        by_cases c34 : t349 = 0
        ·rw [if_pos c34] at H
         have c34b0 : (t349 == 0) = true := beq_iff_eq.mpr c34
         have c34b1 : (t349 != 0) = false := bne_eq_false_iff_eq.mpr c34
         clear c34
         by_cases c35 : t362 = 0
         ·rw [if_pos c35] at H
          have c35b0 : (t362 == 0) = true := beq_iff_eq.mpr c35
          have c35b1 : (t362 != 0) = false := bne_eq_false_iff_eq.mpr c35
          clear c35
          obtain rfl := Option.some.inj H
          go_wp2_with (first | ((with_reducible refine gate_callee (f := 11) rfl ?_); refine goesL_ (some 50) rfl rfl Tryd.func11 (by kernel_rfl) rfl #[.string a1] rfl (by (try simp only [List.map_toArray, List.map_cons, List.map_nil]); first | done | rfl | (simp only [List.length_drop, List.length_take]; rfl)) ?_; (with_reducible refine (params_Get.calls kj15 a1 t334 t335 t336 t337 t338 t339 t340 t341 t342 t343 t344 t345 t346 _ A28.out).mono ?_); rintro e w36 ⟨rfl, hb⟩; refine ⟨_, rfl, ?_⟩; have n0_ := Aside0.mk (blk_below (g := gb315) (o := .cells #[.int .u64 a0_0, .int .u64 a0_1, .int .u64 a0_2, .int .u64 a0_3, .int .u64 a0_4, .int .u64 a0_5, .int .u64 a0_6, .int .u64 a0_7, .int .u64 a0_8, .int .u64 a0_9, .int .u64 a0_10, .string a0_11] 24 (0, 0)) (by (with_reducible repeat (first | refine blk_drewN ?_ _ | refine blk_drew ?_ | refine blk_alloc ?_ _)); exact BK315.out) hb); have n1_ := Aside0.mk (below_step (by repeat (first | (with_reducible first | exact HB.out | apply below_alloc | apply pw_below_drewN | apply below_drew1 | refine below_set ?_ GE315.out) | exact HB.out)) hb); clear BK315; clear HB; have BK315 := n0_; have HB := n1_; clear n0_ n1_; (try clear hb); (try clear hb2); (try clear hk); (try clear hi)) | ((with_reducible refine gate_dst (N := 9) rfl ?_); (try (refine gate_guard (by rfl) ?_; dsimp only)); refine box_event ?hg (N := 9) ?hd (cs := #[.int .u64 0, .int .u64 0, .int .u64 0, .int .u64 0, .int .u64 0, .int .u64 0, .int .u64 0, .int .u64 0, .int .u64 0, .int .u64 0, .int .u64 0, .string (⟨#[]⟩ : ByteArray)]) (t := 24) ?hr ?_; (case hd => rfl); (case hg => rfl); (case hr => first | (go_simp; done) | (go_simp; rfl)); intro gb347 hg w37 hbox hb; have n0_ := Aside0.mk (blk_below (g := gb315) (o := .cells #[.int .u64 a0_0, .int .u64 a0_1, .int .u64 a0_2, .int .u64 a0_3, .int .u64 a0_4, .int .u64 a0_5, .int .u64 a0_6, .int .u64 a0_7, .int .u64 a0_8, .int .u64 a0_9, .int .u64 a0_10, .string a0_11] 24 (0, 0)) (by (with_reducible repeat (first | refine blk_drewN ?_ _ | refine blk_drew ?_ | refine blk_alloc ?_ _)); exact BK315.out) hb); have n1_ := Aside0.mk (below_step (by repeat (first | (with_reducible first | exact HB.out | apply below_alloc | apply pw_below_drewN | apply below_drew1 | refine below_set ?_ GE315.out) | exact HB.out)) hb); have n2_ := Aside0.mk (hbox); have n3_ := Aside0.mk ((by rw [hg]; exact (below_size (by repeat (first | (with_reducible first | exact HB.out | apply below_alloc | apply pw_below_drewN | apply below_drew1 | refine below_set ?_ GE315.out) | exact HB.out))) : w.heap.size ≤ gb347)); have n4_ := Aside0.mk ((by rw [hg]; exact (below_size (by repeat (first | (with_reducible first | exact HB.out | apply below_alloc | apply pw_below_drewN | apply below_drew1 | refine below_set ?_ GE315.out) | exact HB.out))) : w.heap.size ≤ gb347)); have n5_ := Aside0.mk ((by rw [hg]; exact Nat.ne_of_lt (blk_lt (g := gb315) (o := .cells #[.int .u64 a0_0, .int .u64 a0_1, .int .u64 a0_2, .int .u64 a0_3, .int .u64 a0_4, .int .u64 a0_5, .int .u64 a0_6, .int .u64 a0_7, .int .u64 a0_8, .int .u64 a0_9, .int .u64 a0_10, .string a0_11] 24 (0, 0)) (by (with_reducible repeat (first | refine blk_drewN ?_ _ | refine blk_drew ?_ | refine blk_alloc ?_ _)); exact BK315.out)) : gb315 ≠ gb347)); have n6_ := Aside0.mk ((by rw [hg]; exact Nat.ne_of_gt (blk_lt (g := gb315) (o := .cells #[.int .u64 a0_0, .int .u64 a0_1, .int .u64 a0_2, .int .u64 a0_3, .int .u64 a0_4, .int .u64 a0_5, .int .u64 a0_6, .int .u64 a0_7, .int .u64 a0_8, .int .u64 a0_9, .int .u64 a0_10, .string a0_11] 24 (0, 0)) (by (with_reducible repeat (first | refine blk_drewN ?_ _ | refine blk_drew ?_ | refine blk_alloc ?_ _)); exact BK315.out)) : gb347 ≠ gb315)); clear BK315; clear HB; have BK315 := n0_; have HB := n1_; have BK347 := n2_; have GW347 := n3_; have GE347 := n4_; have NB315_347 := n5_; have NB347_315 := n6_; clear n0_ n1_ n2_ n3_ n4_ n5_ n6_; clear hb hbox hg; have hnb38 := NB347_315.out; have hnc38 := NB315_347.out; have hcz39_0 : w37.cell? ⟨gb347, 0, none⟩ = some (.int .u64 0) := (blk_cell BK347.out 0).trans rfl; have hcz39_1 : w37.cell? ⟨gb347, 1, none⟩ = some (.int .u64 0) := (blk_cell BK347.out 1).trans rfl; have hcz39_2 : w37.cell? ⟨gb347, 2, none⟩ = some (.int .u64 0) := (blk_cell BK347.out 2).trans rfl; have hcz39_3 : w37.cell? ⟨gb347, 3, none⟩ = some (.int .u64 0) := (blk_cell BK347.out 3).trans rfl; have hcz39_4 : w37.cell? ⟨gb347, 4, none⟩ = some (.int .u64 0) := (blk_cell BK347.out 4).trans rfl; have hcz39_5 : w37.cell? ⟨gb347, 5, none⟩ = some (.int .u64 0) := (blk_cell BK347.out 5).trans rfl; have hcz39_6 : w37.cell? ⟨gb347, 6, none⟩ = some (.int .u64 0) := (blk_cell BK347.out 6).trans rfl; have hcz39_7 : w37.cell? ⟨gb347, 7, none⟩ = some (.int .u64 0) := (blk_cell BK347.out 7).trans rfl; have hcz39_8 : w37.cell? ⟨gb347, 8, none⟩ = some (.int .u64 0) := (blk_cell BK347.out 8).trans rfl; have hcz39_9 : w37.cell? ⟨gb347, 9, none⟩ = some (.int .u64 0) := (blk_cell BK347.out 9).trans rfl; have hcz39_10 : w37.cell? ⟨gb347, 10, none⟩ = some (.int .u64 0) := (blk_cell BK347.out 10).trans rfl; have hcz39_11 : w37.cell? ⟨gb347, 11, none⟩ = some (.string (⟨#[]⟩ : ByteArray)) := (blk_cell BK347.out 11).trans rfl; have hfz39_0 := blk_frozen BK347.out 0; have hfz39_1 := blk_frozen BK347.out 1; have hfz39_2 := blk_frozen BK347.out 2; have hfz39_3 := blk_frozen BK347.out 3; have hfz39_4 := blk_frozen BK347.out 4; have hfz39_5 := blk_frozen BK347.out 5; have hfz39_6 := blk_frozen BK347.out 6; have hfz39_7 := blk_frozen BK347.out 7; have hfz39_8 := blk_frozen BK347.out 8; have hfz39_9 := blk_frozen BK347.out 9; have hfz39_10 := blk_frozen BK347.out 10; have hfz39_11 := blk_frozen BK347.out 11) | ((with_reducible refine gate_callee (f := 9) rfl ?_); refine goesL_ (some 60) rfl rfl Tryd.func9 (by kernel_rfl) rfl #[.agg #[.int .u64 t334, .int .u64 t335, .int .u64 t336, .int .u64 t337, .int .u64 t338, .int .u64 t339, .int .u64 t340, .int .u64 t341, .int .u64 t342, .int .u64 t343, .int .u64 t344, .string t345]] rfl (by (try simp only [List.map_toArray, List.map_cons, List.map_nil]); first | done | rfl | (simp only [List.length_drop, List.length_take]; rfl)) ?_; (with_reducible refine (params_Put.calls t334 t335 t336 t337 t338 t339 t340 t341 t342 t343 t344 t345 t348 t349 _ (by first | exact HTab.out | exact tab_below HTab.out HB.out | exact tab_below HTab.out (by repeat (first | exact HB.out | exact Below.refl _ _ | apply below_alloc | apply pw_below_drewN | apply below_drew1 | refine below_set ?_ GE315.out | refine below_set ?_ GE333.out | refine below_set ?_ GE347.out | refine below_set ?_ GE363.out))) A30.out).mono ?_); rintro e w40 ⟨rfl, hb⟩; refine ⟨_, rfl, ?_⟩; have n0_ := Aside0.mk (blk_below (g := gb315) (o := .cells #[.int .u64 a0_0, .int .u64 a0_1, .int .u64 a0_2, .int .u64 a0_3, .int .u64 a0_4, .int .u64 a0_5, .int .u64 a0_6, .int .u64 a0_7, .int .u64 a0_8, .int .u64 a0_9, .int .u64 a0_10, .string a0_11] 24 (0, 0)) (by (with_reducible repeat (first | refine blk_drewN ?_ _ | refine blk_drew ?_ | refine blk_alloc ?_ _)); refine blk_far ?_ NB315_347.out _; (with_reducible repeat (first | refine blk_drewN ?_ _ | refine blk_drew ?_ | refine blk_alloc ?_ _)); refine blk_far ?_ NB315_347.out _; (with_reducible repeat (first | refine blk_drewN ?_ _ | refine blk_drew ?_ | refine blk_alloc ?_ _)); refine blk_far ?_ NB315_347.out _; (with_reducible repeat (first | refine blk_drewN ?_ _ | refine blk_drew ?_ | refine blk_alloc ?_ _)); refine blk_far ?_ NB315_347.out _; (with_reducible repeat (first | refine blk_drewN ?_ _ | refine blk_drew ?_ | refine blk_alloc ?_ _)); refine blk_far ?_ NB315_347.out _; (with_reducible repeat (first | refine blk_drewN ?_ _ | refine blk_drew ?_ | refine blk_alloc ?_ _)); refine blk_far ?_ NB315_347.out _; (with_reducible repeat (first | refine blk_drewN ?_ _ | refine blk_drew ?_ | refine blk_alloc ?_ _)); refine blk_far ?_ NB315_347.out _; (with_reducible repeat (first | refine blk_drewN ?_ _ | refine blk_drew ?_ | refine blk_alloc ?_ _)); refine blk_far ?_ NB315_347.out _; (with_reducible repeat (first | refine blk_drewN ?_ _ | refine blk_drew ?_ | refine blk_alloc ?_ _)); refine blk_far ?_ NB315_347.out _; (with_reducible repeat (first | refine blk_drewN ?_ _ | refine blk_drew ?_ | refine blk_alloc ?_ _)); refine blk_far ?_ NB315_347.out _; (with_reducible repeat (first | refine blk_drewN ?_ _ | refine blk_drew ?_ | refine blk_alloc ?_ _)); refine blk_far ?_ NB315_347.out _; (with_reducible repeat (first | refine blk_drewN ?_ _ | refine blk_drew ?_ | refine blk_alloc ?_ _)); refine blk_far ?_ NB315_347.out _; (with_reducible repeat (first | refine blk_drewN ?_ _ | refine blk_drew ?_ | refine blk_alloc ?_ _)); exact BK315.out) hb); have n1_ := Aside0.mk (blk_below (g := gb347) (o := .cells #[.int .u64 t334, .int .u64 t335, .int .u64 t336, .int .u64 t337, .int .u64 t338, .int .u64 t339, .int .u64 t340, .int .u64 t341, .int .u64 t342, .int .u64 t343, .int .u64 t344, .string t345] 24 (0, 0)) (by (with_reducible repeat (first | refine blk_drewN ?_ _ | refine blk_drew ?_ | refine blk_alloc ?_ _)); refine blk_put (cs := #[.int .u64 t334, .int .u64 t335, .int .u64 t336, .int .u64 t337, .int .u64 t338, .int .u64 t339, .int .u64 t340, .int .u64 t341, .int .u64 t342, .int .u64 t343, .int .u64 t344, .string (⟨#[]⟩ : ByteArray)]) ?_ 11 _ rfl; (with_reducible repeat (first | refine blk_drewN ?_ _ | refine blk_drew ?_ | refine blk_alloc ?_ _)); refine blk_put (cs := #[.int .u64 t334, .int .u64 t335, .int .u64 t336, .int .u64 t337, .int .u64 t338, .int .u64 t339, .int .u64 t340, .int .u64 t341, .int .u64 t342, .int .u64 t343, .int .u64 0, .string (⟨#[]⟩ : ByteArray)]) ?_ 10 _ rfl; (with_reducible repeat (first | refine blk_drewN ?_ _ | refine blk_drew ?_ | refine blk_alloc ?_ _)); refine blk_put (cs := #[.int .u64 t334, .int .u64 t335, .int .u64 t336, .int .u64 t337, .int .u64 t338, .int .u64 t339, .int .u64 t340, .int .u64 t341, .int .u64 t342, .int .u64 0, .int .u64 0, .string (⟨#[]⟩ : ByteArray)]) ?_ 9 _ rfl; (with_reducible repeat (first | refine blk_drewN ?_ _ | refine blk_drew ?_ | refine blk_alloc ?_ _)); refine blk_put (cs := #[.int .u64 t334, .int .u64 t335, .int .u64 t336, .int .u64 t337, .int .u64 t338, .int .u64 t339, .int .u64 t340, .int .u64 t341, .int .u64 0, .int .u64 0, .int .u64 0, .string (⟨#[]⟩ : ByteArray)]) ?_ 8 _ rfl; (with_reducible repeat (first | refine blk_drewN ?_ _ | refine blk_drew ?_ | refine blk_alloc ?_ _)); refine blk_put (cs := #[.int .u64 t334, .int .u64 t335, .int .u64 t336, .int .u64 t337, .int .u64 t338, .int .u64 t339, .int .u64 t340, .int .u64 0, .int .u64 0, .int .u64 0, .int .u64 0, .string (⟨#[]⟩ : ByteArray)]) ?_ 7 _ rfl; (with_reducible repeat (first | refine blk_drewN ?_ _ | refine blk_drew ?_ | refine blk_alloc ?_ _)); refine blk_put (cs := #[.int .u64 t334, .int .u64 t335, .int .u64 t336, .int .u64 t337, .int .u64 t338, .int .u64 t339, .int .u64 0, .int .u64 0, .int .u64 0, .int .u64 0, .int .u64 0, .string (⟨#[]⟩ : ByteArray)]) ?_ 6 _ rfl; (with_reducible repeat (first | refine blk_drewN ?_ _ | refine blk_drew ?_ | refine blk_alloc ?_ _)); refine blk_put (cs := #[.int .u64 t334, .int .u64 t335, .int .u64 t336, .int .u64 t337, .int .u64 t338, .int .u64 0, .int .u64 0, .int .u64 0, .int .u64 0, .int .u64 0, .int .u64 0, .string (⟨#[]⟩ : ByteArray)]) ?_ 5 _ rfl; (with_reducible repeat (first | refine blk_drewN ?_ _ | refine blk_drew ?_ | refine blk_alloc ?_ _)); refine blk_put (cs := #[.int .u64 t334, .int .u64 t335, .int .u64 t336, .int .u64 t337, .int .u64 0, .int .u64 0, .int .u64 0, .int .u64 0, .int .u64 0, .int .u64 0, .int .u64 0, .string (⟨#[]⟩ : ByteArray)]) ?_ 4 _ rfl; (with_reducible repeat (first | refine blk_drewN ?_ _ | refine blk_drew ?_ | refine blk_alloc ?_ _)); refine blk_put (cs := #[.int .u64 t334, .int .u64 t335, .int .u64 t336, .int .u64 0, .int .u64 0, .int .u64 0, .int .u64 0, .int .u64 0, .int .u64 0, .int .u64 0, .int .u64 0, .string (⟨#[]⟩ : ByteArray)]) ?_ 3 _ rfl; (with_reducible repeat (first | refine blk_drewN ?_ _ | refine blk_drew ?_ | refine blk_alloc ?_ _)); refine blk_put (cs := #[.int .u64 t334, .int .u64 t335, .int .u64 0, .int .u64 0, .int .u64 0, .int .u64 0, .int .u64 0, .int .u64 0, .int .u64 0, .int .u64 0, .int .u64 0, .string (⟨#[]⟩ : ByteArray)]) ?_ 2 _ rfl; (with_reducible repeat (first | refine blk_drewN ?_ _ | refine blk_drew ?_ | refine blk_alloc ?_ _)); refine blk_put (cs := #[.int .u64 t334, .int .u64 0, .int .u64 0, .int .u64 0, .int .u64 0, .int .u64 0, .int .u64 0, .int .u64 0, .int .u64 0, .int .u64 0, .int .u64 0, .string (⟨#[]⟩ : ByteArray)]) ?_ 1 _ rfl; (with_reducible repeat (first | refine blk_drewN ?_ _ | refine blk_drew ?_ | refine blk_alloc ?_ _)); refine blk_put (cs := #[.int .u64 0, .int .u64 0, .int .u64 0, .int .u64 0, .int .u64 0, .int .u64 0, .int .u64 0, .int .u64 0, .int .u64 0, .int .u64 0, .int .u64 0, .string (⟨#[]⟩ : ByteArray)]) ?_ 0 _ rfl; (with_reducible repeat (first | refine blk_drewN ?_ _ | refine blk_drew ?_ | refine blk_alloc ?_ _)); exact BK347.out) hb); have n2_ := Aside0.mk (below_step (by repeat (first | (with_reducible first | exact HB.out | apply below_alloc | apply pw_below_drewN | apply below_drew1 | refine below_set ?_ GE315.out | refine below_set ?_ GE347.out) | exact HB.out)) hb); clear BK315; clear BK347; clear HB; have BK315 := n0_; have BK347 := n1_; have HB := n2_; clear n0_ n1_ n2_; (try clear hb); (try clear hb2); (try clear hk); (try clear hi)) | ((with_reducible refine gate_callee (f := 11) rfl ?_); refine goesL_ (some 65) rfl rfl Tryd.func11 (by kernel_rfl) rfl #[.string t348] rfl (by (try simp only [List.map_toArray, List.map_cons, List.map_nil]); first | done | rfl | (simp only [List.length_drop, List.length_take]; rfl)) ?_; (with_reducible refine (params_Get.calls kj15 t348 t350 t351 t352 t353 t354 t355 t356 t357 t358 t359 t360 t361 t362 _ A31.out).mono ?_); rintro e w41 ⟨rfl, hb⟩; refine ⟨_, rfl, ?_⟩; have n0_ := Aside0.mk (blk_below (g := gb315) (o := .cells #[.int .u64 a0_0, .int .u64 a0_1, .int .u64 a0_2, .int .u64 a0_3, .int .u64 a0_4, .int .u64 a0_5, .int .u64 a0_6, .int .u64 a0_7, .int .u64 a0_8, .int .u64 a0_9, .int .u64 a0_10, .string a0_11] 24 (0, 0)) (by (with_reducible repeat (first | refine blk_drewN ?_ _ | refine blk_drew ?_ | refine blk_alloc ?_ _)); exact BK315.out) hb); have n1_ := Aside0.mk (blk_below (g := gb347) (o := .cells #[.int .u64 t334, .int .u64 t335, .int .u64 t336, .int .u64 t337, .int .u64 t338, .int .u64 t339, .int .u64 t340, .int .u64 t341, .int .u64 t342, .int .u64 t343, .int .u64 t344, .string t345] 24 (0, 0)) (by (with_reducible repeat (first | refine blk_drewN ?_ _ | refine blk_drew ?_ | refine blk_alloc ?_ _)); exact BK347.out) hb); have n2_ := Aside0.mk (below_step (by repeat (first | (with_reducible first | exact HB.out | apply below_alloc | apply pw_below_drewN | apply below_drew1 | refine below_set ?_ GE315.out | refine below_set ?_ GE347.out) | exact HB.out)) hb); clear BK315; clear BK347; clear HB; have BK315 := n0_; have BK347 := n1_; have HB := n2_; clear n0_ n1_ n2_; (try clear hb); (try clear hb2); (try clear hk); (try clear hi)) | ((with_reducible refine gate_dst (N := 13) rfl ?_); (try (refine gate_guard (by rfl) ?_; dsimp only)); refine box_event ?hg (N := 13) ?hd (cs := #[.int .u64 0, .int .u64 0, .int .u64 0, .int .u64 0, .int .u64 0, .int .u64 0, .int .u64 0, .int .u64 0, .int .u64 0, .int .u64 0, .int .u64 0, .string (⟨#[]⟩ : ByteArray)]) (t := 24) ?hr ?_; (case hd => rfl); (case hg => rfl); (case hr => first | (go_simp; done) | (go_simp; rfl)); intro gb363 hg w42 hbox hb; have n0_ := Aside0.mk (blk_below (g := gb315) (o := .cells #[.int .u64 a0_0, .int .u64 a0_1, .int .u64 a0_2, .int .u64 a0_3, .int .u64 a0_4, .int .u64 a0_5, .int .u64 a0_6, .int .u64 a0_7, .int .u64 a0_8, .int .u64 a0_9, .int .u64 a0_10, .string a0_11] 24 (0, 0)) (by (with_reducible repeat (first | refine blk_drewN ?_ _ | refine blk_drew ?_ | refine blk_alloc ?_ _)); exact BK315.out) hb); have n1_ := Aside0.mk (blk_below (g := gb347) (o := .cells #[.int .u64 t334, .int .u64 t335, .int .u64 t336, .int .u64 t337, .int .u64 t338, .int .u64 t339, .int .u64 t340, .int .u64 t341, .int .u64 t342, .int .u64 t343, .int .u64 t344, .string t345] 24 (0, 0)) (by (with_reducible repeat (first | refine blk_drewN ?_ _ | refine blk_drew ?_ | refine blk_alloc ?_ _)); exact BK347.out) hb); have n2_ := Aside0.mk (below_step (by repeat (first | (with_reducible first | exact HB.out | apply below_alloc | apply pw_below_drewN | apply below_drew1 | refine below_set ?_ GE315.out | refine below_set ?_ GE347.out) | exact HB.out)) hb); have n3_ := Aside0.mk (hbox); have n4_ := Aside0.mk ((by rw [hg]; exact (below_size (by repeat (first | (with_reducible first | exact HB.out | apply below_alloc | apply pw_below_drewN | apply below_drew1 | refine below_set ?_ GE315.out | refine below_set ?_ GE347.out) | exact HB.out))) : w.heap.size ≤ gb363)); have n5_ := Aside0.mk ((by rw [hg]; exact (below_size (by repeat (first | (with_reducible first | exact HB.out | apply below_alloc | apply pw_below_drewN | apply below_drew1 | refine below_set ?_ GE315.out | refine below_set ?_ GE347.out) | exact HB.out))) : w.heap.size ≤ gb363)); have n6_ := Aside0.mk ((by rw [hg]; exact Nat.ne_of_lt (blk_lt (g := gb315) (o := .cells #[.int .u64 a0_0, .int .u64 a0_1, .int .u64 a0_2, .int .u64 a0_3, .int .u64 a0_4, .int .u64 a0_5, .int .u64 a0_6, .int .u64 a0_7, .int .u64 a0_8, .int .u64 a0_9, .int .u64 a0_10, .string a0_11] 24 (0, 0)) (by (with_reducible repeat (first | refine blk_drewN ?_ _ | refine blk_drew ?_ | refine blk_alloc ?_ _)); exact BK315.out)) : gb315 ≠ gb363)); have n7_ := Aside0.mk ((by rw [hg]; exact Nat.ne_of_gt (blk_lt (g := gb315) (o := .cells #[.int .u64 a0_0, .int .u64 a0_1, .int .u64 a0_2, .int .u64 a0_3, .int .u64 a0_4, .int .u64 a0_5, .int .u64 a0_6, .int .u64 a0_7, .int .u64 a0_8, .int .u64 a0_9, .int .u64 a0_10, .string a0_11] 24 (0, 0)) (by (with_reducible repeat (first | refine blk_drewN ?_ _ | refine blk_drew ?_ | refine blk_alloc ?_ _)); exact BK315.out)) : gb363 ≠ gb315)); have n8_ := Aside0.mk ((by rw [hg]; exact Nat.ne_of_lt (blk_lt (g := gb347) (o := .cells #[.int .u64 t334, .int .u64 t335, .int .u64 t336, .int .u64 t337, .int .u64 t338, .int .u64 t339, .int .u64 t340, .int .u64 t341, .int .u64 t342, .int .u64 t343, .int .u64 t344, .string t345] 24 (0, 0)) (by (with_reducible repeat (first | refine blk_drewN ?_ _ | refine blk_drew ?_ | refine blk_alloc ?_ _)); exact BK347.out)) : gb347 ≠ gb363)); have n9_ := Aside0.mk ((by rw [hg]; exact Nat.ne_of_gt (blk_lt (g := gb347) (o := .cells #[.int .u64 t334, .int .u64 t335, .int .u64 t336, .int .u64 t337, .int .u64 t338, .int .u64 t339, .int .u64 t340, .int .u64 t341, .int .u64 t342, .int .u64 t343, .int .u64 t344, .string t345] 24 (0, 0)) (by (with_reducible repeat (first | refine blk_drewN ?_ _ | refine blk_drew ?_ | refine blk_alloc ?_ _)); exact BK347.out)) : gb363 ≠ gb347)); clear BK315; clear BK347; clear HB; have BK315 := n0_; have BK347 := n1_; have HB := n2_; have BK363 := n3_; have GW363 := n4_; have GE363 := n5_; have NB315_363 := n6_; have NB363_315 := n7_; have NB347_363 := n8_; have NB363_347 := n9_; clear n0_ n1_ n2_ n3_ n4_ n5_ n6_ n7_ n8_ n9_; clear hb hbox hg; have hnb43 := NB363_315.out; have hnc43 := NB315_363.out; have hnb44 := NB363_347.out; have hnc44 := NB347_363.out; have hcz45_0 : w42.cell? ⟨gb363, 0, none⟩ = some (.int .u64 0) := (blk_cell BK363.out 0).trans rfl; have hcz45_1 : w42.cell? ⟨gb363, 1, none⟩ = some (.int .u64 0) := (blk_cell BK363.out 1).trans rfl; have hcz45_2 : w42.cell? ⟨gb363, 2, none⟩ = some (.int .u64 0) := (blk_cell BK363.out 2).trans rfl; have hcz45_3 : w42.cell? ⟨gb363, 3, none⟩ = some (.int .u64 0) := (blk_cell BK363.out 3).trans rfl; have hcz45_4 : w42.cell? ⟨gb363, 4, none⟩ = some (.int .u64 0) := (blk_cell BK363.out 4).trans rfl; have hcz45_5 : w42.cell? ⟨gb363, 5, none⟩ = some (.int .u64 0) := (blk_cell BK363.out 5).trans rfl; have hcz45_6 : w42.cell? ⟨gb363, 6, none⟩ = some (.int .u64 0) := (blk_cell BK363.out 6).trans rfl; have hcz45_7 : w42.cell? ⟨gb363, 7, none⟩ = some (.int .u64 0) := (blk_cell BK363.out 7).trans rfl; have hcz45_8 : w42.cell? ⟨gb363, 8, none⟩ = some (.int .u64 0) := (blk_cell BK363.out 8).trans rfl; have hcz45_9 : w42.cell? ⟨gb363, 9, none⟩ = some (.int .u64 0) := (blk_cell BK363.out 9).trans rfl; have hcz45_10 : w42.cell? ⟨gb363, 10, none⟩ = some (.int .u64 0) := (blk_cell BK363.out 10).trans rfl; have hcz45_11 : w42.cell? ⟨gb363, 11, none⟩ = some (.string (⟨#[]⟩ : ByteArray)) := (blk_cell BK363.out 11).trans rfl; have hfz45_0 := blk_frozen BK363.out 0; have hfz45_1 := blk_frozen BK363.out 1; have hfz45_2 := blk_frozen BK363.out 2; have hfz45_3 := blk_frozen BK363.out 3; have hfz45_4 := blk_frozen BK363.out 4; have hfz45_5 := blk_frozen BK363.out 5; have hfz45_6 := blk_frozen BK363.out 6; have hfz45_7 := blk_frozen BK363.out 7; have hfz45_8 := blk_frozen BK363.out 8; have hfz45_9 := blk_frozen BK363.out 9; have hfz45_10 := blk_frozen BK363.out 10; have hfz45_11 := blk_frozen BK363.out 11; have hcz46_0 : w42.cell? ⟨gb347, 0, none⟩ = some (.int .u64 t334) := (blk_cell BK347.out 0).trans rfl; have hcz46_1 : w42.cell? ⟨gb347, 1, none⟩ = some (.int .u64 t335) := (blk_cell BK347.out 1).trans rfl; have hcz46_2 : w42.cell? ⟨gb347, 2, none⟩ = some (.int .u64 t336) := (blk_cell BK347.out 2).trans rfl; have hcz46_3 : w42.cell? ⟨gb347, 3, none⟩ = some (.int .u64 t337) := (blk_cell BK347.out 3).trans rfl; have hcz46_4 : w42.cell? ⟨gb347, 4, none⟩ = some (.int .u64 t338) := (blk_cell BK347.out 4).trans rfl; have hcz46_5 : w42.cell? ⟨gb347, 5, none⟩ = some (.int .u64 t339) := (blk_cell BK347.out 5).trans rfl; have hcz46_6 : w42.cell? ⟨gb347, 6, none⟩ = some (.int .u64 t340) := (blk_cell BK347.out 6).trans rfl; have hcz46_7 : w42.cell? ⟨gb347, 7, none⟩ = some (.int .u64 t341) := (blk_cell BK347.out 7).trans rfl; have hcz46_8 : w42.cell? ⟨gb347, 8, none⟩ = some (.int .u64 t342) := (blk_cell BK347.out 8).trans rfl; have hcz46_9 : w42.cell? ⟨gb347, 9, none⟩ = some (.int .u64 t343) := (blk_cell BK347.out 9).trans rfl; have hcz46_10 : w42.cell? ⟨gb347, 10, none⟩ = some (.int .u64 t344) := (blk_cell BK347.out 10).trans rfl; have hcz46_11 : w42.cell? ⟨gb347, 11, none⟩ = some (.string t345) := (blk_cell BK347.out 11).trans rfl; have hfz46_0 := blk_frozen BK347.out 0; have hfz46_1 := blk_frozen BK347.out 1; have hfz46_2 := blk_frozen BK347.out 2; have hfz46_3 := blk_frozen BK347.out 3; have hfz46_4 := blk_frozen BK347.out 4; have hfz46_5 := blk_frozen BK347.out 5; have hfz46_6 := blk_frozen BK347.out 6; have hfz46_7 := blk_frozen BK347.out 7; have hfz46_8 := blk_frozen BK347.out 8; have hfz46_9 := blk_frozen BK347.out 9; have hfz46_10 := blk_frozen BK347.out 10; have hfz46_11 := blk_frozen BK347.out 11) | ((with_reducible refine gate_callee (f := 13) rfl ?_); refine goesL_ (some 69) rfl rfl Tryd.func13 (by kernel_rfl) rfl #[.agg #[.int .u64 t334, .int .u64 t335, .int .u64 t336, .int .u64 t337, .int .u64 t338, .int .u64 t339, .int .u64 t340, .int .u64 t341, .int .u64 t342, .int .u64 t343, .int .u64 t344, .string t345]] rfl (by (try simp only [List.map_toArray, List.map_cons, List.map_nil]); first | done | rfl | (simp only [List.length_drop, List.length_take]; rfl)) ?_; (with_reducible refine (params_Check.calls t334 t335 t336 t337 t338 t339 t340 t341 t342 t343 t344 t345 t364 _ A32.out).mono ?_); rintro e w47 ⟨rfl, hb⟩; refine ⟨_, rfl, ?_⟩; have n0_ := Aside0.mk (blk_below (g := gb315) (o := .cells #[.int .u64 a0_0, .int .u64 a0_1, .int .u64 a0_2, .int .u64 a0_3, .int .u64 a0_4, .int .u64 a0_5, .int .u64 a0_6, .int .u64 a0_7, .int .u64 a0_8, .int .u64 a0_9, .int .u64 a0_10, .string a0_11] 24 (0, 0)) (by (with_reducible repeat (first | refine blk_drewN ?_ _ | refine blk_drew ?_ | refine blk_alloc ?_ _)); refine blk_far ?_ NB315_363.out _; (with_reducible repeat (first | refine blk_drewN ?_ _ | refine blk_drew ?_ | refine blk_alloc ?_ _)); refine blk_far ?_ NB315_363.out _; (with_reducible repeat (first | refine blk_drewN ?_ _ | refine blk_drew ?_ | refine blk_alloc ?_ _)); refine blk_far ?_ NB315_363.out _; (with_reducible repeat (first | refine blk_drewN ?_ _ | refine blk_drew ?_ | refine blk_alloc ?_ _)); refine blk_far ?_ NB315_363.out _; (with_reducible repeat (first | refine blk_drewN ?_ _ | refine blk_drew ?_ | refine blk_alloc ?_ _)); refine blk_far ?_ NB315_363.out _; (with_reducible repeat (first | refine blk_drewN ?_ _ | refine blk_drew ?_ | refine blk_alloc ?_ _)); refine blk_far ?_ NB315_363.out _; (with_reducible repeat (first | refine blk_drewN ?_ _ | refine blk_drew ?_ | refine blk_alloc ?_ _)); refine blk_far ?_ NB315_363.out _; (with_reducible repeat (first | refine blk_drewN ?_ _ | refine blk_drew ?_ | refine blk_alloc ?_ _)); refine blk_far ?_ NB315_363.out _; (with_reducible repeat (first | refine blk_drewN ?_ _ | refine blk_drew ?_ | refine blk_alloc ?_ _)); refine blk_far ?_ NB315_363.out _; (with_reducible repeat (first | refine blk_drewN ?_ _ | refine blk_drew ?_ | refine blk_alloc ?_ _)); refine blk_far ?_ NB315_363.out _; (with_reducible repeat (first | refine blk_drewN ?_ _ | refine blk_drew ?_ | refine blk_alloc ?_ _)); refine blk_far ?_ NB315_363.out _; (with_reducible repeat (first | refine blk_drewN ?_ _ | refine blk_drew ?_ | refine blk_alloc ?_ _)); refine blk_far ?_ NB315_363.out _; (with_reducible repeat (first | refine blk_drewN ?_ _ | refine blk_drew ?_ | refine blk_alloc ?_ _)); exact BK315.out) hb); have n1_ := Aside0.mk (blk_below (g := gb347) (o := .cells #[.int .u64 t334, .int .u64 t335, .int .u64 t336, .int .u64 t337, .int .u64 t338, .int .u64 t339, .int .u64 t340, .int .u64 t341, .int .u64 t342, .int .u64 t343, .int .u64 t344, .string t345] 24 (0, 0)) (by (with_reducible repeat (first | refine blk_drewN ?_ _ | refine blk_drew ?_ | refine blk_alloc ?_ _)); refine blk_far ?_ NB347_363.out _; (with_reducible repeat (first | refine blk_drewN ?_ _ | refine blk_drew ?_ | refine blk_alloc ?_ _)); refine blk_far ?_ NB347_363.out _; (with_reducible repeat (first | refine blk_drewN ?_ _ | refine blk_drew ?_ | refine blk_alloc ?_ _)); refine blk_far ?_ NB347_363.out _; (with_reducible repeat (first | refine blk_drewN ?_ _ | refine blk_drew ?_ | refine blk_alloc ?_ _)); refine blk_far ?_ NB347_363.out _; (with_reducible repeat (first | refine blk_drewN ?_ _ | refine blk_drew ?_ | refine blk_alloc ?_ _)); refine blk_far ?_ NB347_363.out _; (with_reducible repeat (first | refine blk_drewN ?_ _ | refine blk_drew ?_ | refine blk_alloc ?_ _)); refine blk_far ?_ NB347_363.out _; (with_reducible repeat (first | refine blk_drewN ?_ _ | refine blk_drew ?_ | refine blk_alloc ?_ _)); refine blk_far ?_ NB347_363.out _; (with_reducible repeat (first | refine blk_drewN ?_ _ | refine blk_drew ?_ | refine blk_alloc ?_ _)); refine blk_far ?_ NB347_363.out _; (with_reducible repeat (first | refine blk_drewN ?_ _ | refine blk_drew ?_ | refine blk_alloc ?_ _)); refine blk_far ?_ NB347_363.out _; (with_reducible repeat (first | refine blk_drewN ?_ _ | refine blk_drew ?_ | refine blk_alloc ?_ _)); refine blk_far ?_ NB347_363.out _; (with_reducible repeat (first | refine blk_drewN ?_ _ | refine blk_drew ?_ | refine blk_alloc ?_ _)); refine blk_far ?_ NB347_363.out _; (with_reducible repeat (first | refine blk_drewN ?_ _ | refine blk_drew ?_ | refine blk_alloc ?_ _)); refine blk_far ?_ NB347_363.out _; (with_reducible repeat (first | refine blk_drewN ?_ _ | refine blk_drew ?_ | refine blk_alloc ?_ _)); exact BK347.out) hb); have n2_ := Aside0.mk (blk_below (g := gb363) (o := .cells #[.int .u64 t350, .int .u64 t351, .int .u64 t352, .int .u64 t353, .int .u64 t354, .int .u64 t355, .int .u64 t356, .int .u64 t357, .int .u64 t358, .int .u64 t359, .int .u64 t360, .string t361] 24 (0, 0)) (by (with_reducible repeat (first | refine blk_drewN ?_ _ | refine blk_drew ?_ | refine blk_alloc ?_ _)); refine blk_put (cs := #[.int .u64 t350, .int .u64 t351, .int .u64 t352, .int .u64 t353, .int .u64 t354, .int .u64 t355, .int .u64 t356, .int .u64 t357, .int .u64 t358, .int .u64 t359, .int .u64 t360, .string (⟨#[]⟩ : ByteArray)]) ?_ 11 _ rfl; (with_reducible repeat (first | refine blk_drewN ?_ _ | refine blk_drew ?_ | refine blk_alloc ?_ _)); refine blk_put (cs := #[.int .u64 t350, .int .u64 t351, .int .u64 t352, .int .u64 t353, .int .u64 t354, .int .u64 t355, .int .u64 t356, .int .u64 t357, .int .u64 t358, .int .u64 t359, .int .u64 0, .string (⟨#[]⟩ : ByteArray)]) ?_ 10 _ rfl; (with_reducible repeat (first | refine blk_drewN ?_ _ | refine blk_drew ?_ | refine blk_alloc ?_ _)); refine blk_put (cs := #[.int .u64 t350, .int .u64 t351, .int .u64 t352, .int .u64 t353, .int .u64 t354, .int .u64 t355, .int .u64 t356, .int .u64 t357, .int .u64 t358, .int .u64 0, .int .u64 0, .string (⟨#[]⟩ : ByteArray)]) ?_ 9 _ rfl; (with_reducible repeat (first | refine blk_drewN ?_ _ | refine blk_drew ?_ | refine blk_alloc ?_ _)); refine blk_put (cs := #[.int .u64 t350, .int .u64 t351, .int .u64 t352, .int .u64 t353, .int .u64 t354, .int .u64 t355, .int .u64 t356, .int .u64 t357, .int .u64 0, .int .u64 0, .int .u64 0, .string (⟨#[]⟩ : ByteArray)]) ?_ 8 _ rfl; (with_reducible repeat (first | refine blk_drewN ?_ _ | refine blk_drew ?_ | refine blk_alloc ?_ _)); refine blk_put (cs := #[.int .u64 t350, .int .u64 t351, .int .u64 t352, .int .u64 t353, .int .u64 t354, .int .u64 t355, .int .u64 t356, .int .u64 0, .int .u64 0, .int .u64 0, .int .u64 0, .string (⟨#[]⟩ : ByteArray)]) ?_ 7 _ rfl; (with_reducible repeat (first | refine blk_drewN ?_ _ | refine blk_drew ?_ | refine blk_alloc ?_ _)); refine blk_put (cs := #[.int .u64 t350, .int .u64 t351, .int .u64 t352, .int .u64 t353, .int .u64 t354, .int .u64 t355, .int .u64 0, .int .u64 0, .int .u64 0, .int .u64 0, .int .u64 0, .string (⟨#[]⟩ : ByteArray)]) ?_ 6 _ rfl; (with_reducible repeat (first | refine blk_drewN ?_ _ | refine blk_drew ?_ | refine blk_alloc ?_ _)); refine blk_put (cs := #[.int .u64 t350, .int .u64 t351, .int .u64 t352, .int .u64 t353, .int .u64 t354, .int .u64 0, .int .u64 0, .int .u64 0, .int .u64 0, .int .u64 0, .int .u64 0, .string (⟨#[]⟩ : ByteArray)]) ?_ 5 _ rfl; (with_reducible repeat (first | refine blk_drewN ?_ _ | refine blk_drew ?_ | refine blk_alloc ?_ _)); refine blk_put (cs := #[.int .u64 t350, .int .u64 t351, .int .u64 t352, .int .u64 t353, .int .u64 0, .int .u64 0, .int .u64 0, .int .u64 0, .int .u64 0, .int .u64 0, .int .u64 0, .string (⟨#[]⟩ : ByteArray)]) ?_ 4 _ rfl; (with_reducible repeat (first | refine blk_drewN ?_ _ | refine blk_drew ?_ | refine blk_alloc ?_ _)); refine blk_put (cs := #[.int .u64 t350, .int .u64 t351, .int .u64 t352, .int .u64 0, .int .u64 0, .int .u64 0, .int .u64 0, .int .u64 0, .int .u64 0, .int .u64 0, .int .u64 0, .string (⟨#[]⟩ : ByteArray)]) ?_ 3 _ rfl; (with_reducible repeat (first | refine blk_drewN ?_ _ | refine blk_drew ?_ | refine blk_alloc ?_ _)); refine blk_put (cs := #[.int .u64 t350, .int .u64 t351, .int .u64 0, .int .u64 0, .int .u64 0, .int .u64 0, .int .u64 0, .int .u64 0, .int .u64 0, .int .u64 0, .int .u64 0, .string (⟨#[]⟩ : ByteArray)]) ?_ 2 _ rfl; (with_reducible repeat (first | refine blk_drewN ?_ _ | refine blk_drew ?_ | refine blk_alloc ?_ _)); refine blk_put (cs := #[.int .u64 t350, .int .u64 0, .int .u64 0, .int .u64 0, .int .u64 0, .int .u64 0, .int .u64 0, .int .u64 0, .int .u64 0, .int .u64 0, .int .u64 0, .string (⟨#[]⟩ : ByteArray)]) ?_ 1 _ rfl; (with_reducible repeat (first | refine blk_drewN ?_ _ | refine blk_drew ?_ | refine blk_alloc ?_ _)); refine blk_put (cs := #[.int .u64 0, .int .u64 0, .int .u64 0, .int .u64 0, .int .u64 0, .int .u64 0, .int .u64 0, .int .u64 0, .int .u64 0, .int .u64 0, .int .u64 0, .string (⟨#[]⟩ : ByteArray)]) ?_ 0 _ rfl; (with_reducible repeat (first | refine blk_drewN ?_ _ | refine blk_drew ?_ | refine blk_alloc ?_ _)); exact BK363.out) hb); have n3_ := Aside0.mk (below_step (by repeat (first | (with_reducible first | exact HB.out | apply below_alloc | apply pw_below_drewN | apply below_drew1 | refine below_set ?_ GE315.out | refine below_set ?_ GE347.out | refine below_set ?_ GE363.out) | exact HB.out)) hb); clear BK315; clear BK347; clear BK363; clear HB; have BK315 := n0_; have BK347 := n1_; have BK363 := n2_; have HB := n3_; clear n0_ n1_ n2_ n3_; (try clear hb); (try clear hb2); (try clear hk); (try clear hi); have hcz48_0 : w47.cell? ⟨gb363, 0, none⟩ = some (.int .u64 t350) := (blk_cell BK363.out 0).trans rfl; have hcz48_1 : w47.cell? ⟨gb363, 1, none⟩ = some (.int .u64 t351) := (blk_cell BK363.out 1).trans rfl; have hcz48_2 : w47.cell? ⟨gb363, 2, none⟩ = some (.int .u64 t352) := (blk_cell BK363.out 2).trans rfl; have hcz48_3 : w47.cell? ⟨gb363, 3, none⟩ = some (.int .u64 t353) := (blk_cell BK363.out 3).trans rfl; have hcz48_4 : w47.cell? ⟨gb363, 4, none⟩ = some (.int .u64 t354) := (blk_cell BK363.out 4).trans rfl; have hcz48_5 : w47.cell? ⟨gb363, 5, none⟩ = some (.int .u64 t355) := (blk_cell BK363.out 5).trans rfl; have hcz48_6 : w47.cell? ⟨gb363, 6, none⟩ = some (.int .u64 t356) := (blk_cell BK363.out 6).trans rfl; have hcz48_7 : w47.cell? ⟨gb363, 7, none⟩ = some (.int .u64 t357) := (blk_cell BK363.out 7).trans rfl; have hcz48_8 : w47.cell? ⟨gb363, 8, none⟩ = some (.int .u64 t358) := (blk_cell BK363.out 8).trans rfl; have hcz48_9 : w47.cell? ⟨gb363, 9, none⟩ = some (.int .u64 t359) := (blk_cell BK363.out 9).trans rfl; have hcz48_10 : w47.cell? ⟨gb363, 10, none⟩ = some (.int .u64 t360) := (blk_cell BK363.out 10).trans rfl; have hcz48_11 : w47.cell? ⟨gb363, 11, none⟩ = some (.string t361) := (blk_cell BK363.out 11).trans rfl; have hfz48_0 := blk_frozen BK363.out 0; have hfz48_1 := blk_frozen BK363.out 1; have hfz48_2 := blk_frozen BK363.out 2; have hfz48_3 := blk_frozen BK363.out 3; have hfz48_4 := blk_frozen BK363.out 4; have hfz48_5 := blk_frozen BK363.out 5; have hfz48_6 := blk_frozen BK363.out 6; have hfz48_7 := blk_frozen BK363.out 7; have hfz48_8 := blk_frozen BK363.out 8; have hfz48_9 := blk_frozen BK363.out 9; have hfz48_10 := blk_frozen BK363.out 10; have hfz48_11 := blk_frozen BK363.out 11; have hcz49_0 : w47.cell? ⟨gb347, 0, none⟩ = some (.int .u64 t334) := (blk_cell BK347.out 0).trans rfl; have hcz49_1 : w47.cell? ⟨gb347, 1, none⟩ = some (.int .u64 t335) := (blk_cell BK347.out 1).trans rfl; have hcz49_2 : w47.cell? ⟨gb347, 2, none⟩ = some (.int .u64 t336) := (blk_cell BK347.out 2).trans rfl; have hcz49_3 : w47.cell? ⟨gb347, 3, none⟩ = some (.int .u64 t337) := (blk_cell BK347.out 3).trans rfl; have hcz49_4 : w47.cell? ⟨gb347, 4, none⟩ = some (.int .u64 t338) := (blk_cell BK347.out 4).trans rfl; have hcz49_5 : w47.cell? ⟨gb347, 5, none⟩ = some (.int .u64 t339) := (blk_cell BK347.out 5).trans rfl; have hcz49_6 : w47.cell? ⟨gb347, 6, none⟩ = some (.int .u64 t340) := (blk_cell BK347.out 6).trans rfl; have hcz49_7 : w47.cell? ⟨gb347, 7, none⟩ = some (.int .u64 t341) := (blk_cell BK347.out 7).trans rfl; have hcz49_8 : w47.cell? ⟨gb347, 8, none⟩ = some (.int .u64 t342) := (blk_cell BK347.out 8).trans rfl; have hcz49_9 : w47.cell? ⟨gb347, 9, none⟩ = some (.int .u64 t343) := (blk_cell BK347.out 9).trans rfl; have hcz49_10 : w47.cell? ⟨gb347, 10, none⟩ = some (.int .u64 t344) := (blk_cell BK347.out 10).trans rfl; have hcz49_11 : w47.cell? ⟨gb347, 11, none⟩ = some (.string t345) := (blk_cell BK347.out 11).trans rfl; have hfz49_0 := blk_frozen BK347.out 0; have hfz49_1 := blk_frozen BK347.out 1; have hfz49_2 := blk_frozen BK347.out 2; have hfz49_3 := blk_frozen BK347.out 3; have hfz49_4 := blk_frozen BK347.out 4; have hfz49_5 := blk_frozen BK347.out 5; have hfz49_6 := blk_frozen BK347.out 6; have hfz49_7 := blk_frozen BK347.out 7; have hfz49_8 := blk_frozen BK347.out 8; have hfz49_9 := blk_frozen BK347.out 9; have hfz49_10 := blk_frozen BK347.out 10; have hfz49_11 := blk_frozen BK347.out 11))
          go_ret
          exact ⟨by first | rfl | (have hq_ := of_eq_true c22q; simp [errW_none, errW_some, hq_, bne]; done) | (have hq_ := of_eq_true c22q; simp [errW_none, errW_some, hq_, bne]; rfl) | (simp [errW_none, errW_some] <;> rfl) | (simp [*, errW_none, errW_some] <;> rfl), by repeat (first | (with_reducible first | exact HB.out | apply below_alloc | apply pw_below_drewN | apply below_drew1 | refine below_set ?_ GE315.out | refine below_set ?_ GE347.out | refine below_set ?_ GE363.out) | exact HB.out)⟩
         ·rw [if_neg c35] at H
          exact absurd H (by simp)
        ·rw [if_neg c34] at H
         exact absurd H (by simp)
       ·rw [if_neg c33] at H
        exact absurd H (by simp)
      ·rw [if_neg c29] at H
       have c29b0 : (t346 == 0) = false := beq_eq_false_iff_ne.mpr c29
       have c29b1 : (t346 != 0) = true := bne_iff_ne.mpr c29
       obtain rfl := Option.some.inj H
       go_wp2_with (first | ((with_reducible refine gate_callee (f := 11) rfl ?_); refine goesL_ (some 50) rfl rfl Tryd.func11 (by kernel_rfl) rfl #[.string a1] rfl (by (try simp only [List.map_toArray, List.map_cons, List.map_nil]); first | done | rfl | (simp only [List.length_drop, List.length_take]; rfl)) ?_; (with_reducible refine (params_Get.calls kj15 a1 t334 t335 t336 t337 t338 t339 t340 t341 t342 t343 t344 t345 t346 _ A28.out).mono ?_); rintro e w50 ⟨rfl, hb⟩; refine ⟨_, rfl, ?_⟩; have n0_ := Aside0.mk (blk_below (g := gb315) (o := .cells #[.int .u64 a0_0, .int .u64 a0_1, .int .u64 a0_2, .int .u64 a0_3, .int .u64 a0_4, .int .u64 a0_5, .int .u64 a0_6, .int .u64 a0_7, .int .u64 a0_8, .int .u64 a0_9, .int .u64 a0_10, .string a0_11] 24 (0, 0)) (by (with_reducible repeat (first | refine blk_drewN ?_ _ | refine blk_drew ?_ | refine blk_alloc ?_ _)); exact BK315.out) hb); have n1_ := Aside0.mk (below_step (by repeat (first | (with_reducible first | exact HB.out | apply below_alloc | apply pw_below_drewN | apply below_drew1 | refine below_set ?_ GE315.out) | exact HB.out)) hb); clear BK315; clear HB; have BK315 := n0_; have HB := n1_; clear n0_ n1_; (try clear hb); (try clear hb2); (try clear hk); (try clear hi)) | ((with_reducible refine gate_dst (N := 9) rfl ?_); (try (refine gate_guard (by rfl) ?_; dsimp only)); refine box_event ?hg (N := 9) ?hd (cs := #[.int .u64 0, .int .u64 0, .int .u64 0, .int .u64 0, .int .u64 0, .int .u64 0, .int .u64 0, .int .u64 0, .int .u64 0, .int .u64 0, .int .u64 0, .string (⟨#[]⟩ : ByteArray)]) (t := 24) ?hr ?_; (case hd => rfl); (case hg => rfl); (case hr => first | (go_simp; done) | (go_simp; rfl)); intro gb347 hg w51 hbox hb; have n0_ := Aside0.mk (blk_below (g := gb315) (o := .cells #[.int .u64 a0_0, .int .u64 a0_1, .int .u64 a0_2, .int .u64 a0_3, .int .u64 a0_4, .int .u64 a0_5, .int .u64 a0_6, .int .u64 a0_7, .int .u64 a0_8, .int .u64 a0_9, .int .u64 a0_10, .string a0_11] 24 (0, 0)) (by (with_reducible repeat (first | refine blk_drewN ?_ _ | refine blk_drew ?_ | refine blk_alloc ?_ _)); exact BK315.out) hb); have n1_ := Aside0.mk (below_step (by repeat (first | (with_reducible first | exact HB.out | apply below_alloc | apply pw_below_drewN | apply below_drew1 | refine below_set ?_ GE315.out) | exact HB.out)) hb); have n2_ := Aside0.mk (hbox); have n3_ := Aside0.mk ((by rw [hg]; exact (below_size (by repeat (first | (with_reducible first | exact HB.out | apply below_alloc | apply pw_below_drewN | apply below_drew1 | refine below_set ?_ GE315.out) | exact HB.out))) : w.heap.size ≤ gb347)); have n4_ := Aside0.mk ((by rw [hg]; exact (below_size (by repeat (first | (with_reducible first | exact HB.out | apply below_alloc | apply pw_below_drewN | apply below_drew1 | refine below_set ?_ GE315.out) | exact HB.out))) : w.heap.size ≤ gb347)); have n5_ := Aside0.mk ((by rw [hg]; exact Nat.ne_of_lt (blk_lt (g := gb315) (o := .cells #[.int .u64 a0_0, .int .u64 a0_1, .int .u64 a0_2, .int .u64 a0_3, .int .u64 a0_4, .int .u64 a0_5, .int .u64 a0_6, .int .u64 a0_7, .int .u64 a0_8, .int .u64 a0_9, .int .u64 a0_10, .string a0_11] 24 (0, 0)) (by (with_reducible repeat (first | refine blk_drewN ?_ _ | refine blk_drew ?_ | refine blk_alloc ?_ _)); exact BK315.out)) : gb315 ≠ gb347)); have n6_ := Aside0.mk ((by rw [hg]; exact Nat.ne_of_gt (blk_lt (g := gb315) (o := .cells #[.int .u64 a0_0, .int .u64 a0_1, .int .u64 a0_2, .int .u64 a0_3, .int .u64 a0_4, .int .u64 a0_5, .int .u64 a0_6, .int .u64 a0_7, .int .u64 a0_8, .int .u64 a0_9, .int .u64 a0_10, .string a0_11] 24 (0, 0)) (by (with_reducible repeat (first | refine blk_drewN ?_ _ | refine blk_drew ?_ | refine blk_alloc ?_ _)); exact BK315.out)) : gb347 ≠ gb315)); clear BK315; clear HB; have BK315 := n0_; have HB := n1_; have BK347 := n2_; have GW347 := n3_; have GE347 := n4_; have NB315_347 := n5_; have NB347_315 := n6_; clear n0_ n1_ n2_ n3_ n4_ n5_ n6_; clear hb hbox hg; have hnb52 := NB347_315.out; have hnc52 := NB315_347.out; have hcz53_0 : w51.cell? ⟨gb347, 0, none⟩ = some (.int .u64 0) := (blk_cell BK347.out 0).trans rfl; have hcz53_1 : w51.cell? ⟨gb347, 1, none⟩ = some (.int .u64 0) := (blk_cell BK347.out 1).trans rfl; have hcz53_2 : w51.cell? ⟨gb347, 2, none⟩ = some (.int .u64 0) := (blk_cell BK347.out 2).trans rfl; have hcz53_3 : w51.cell? ⟨gb347, 3, none⟩ = some (.int .u64 0) := (blk_cell BK347.out 3).trans rfl; have hcz53_4 : w51.cell? ⟨gb347, 4, none⟩ = some (.int .u64 0) := (blk_cell BK347.out 4).trans rfl; have hcz53_5 : w51.cell? ⟨gb347, 5, none⟩ = some (.int .u64 0) := (blk_cell BK347.out 5).trans rfl; have hcz53_6 : w51.cell? ⟨gb347, 6, none⟩ = some (.int .u64 0) := (blk_cell BK347.out 6).trans rfl; have hcz53_7 : w51.cell? ⟨gb347, 7, none⟩ = some (.int .u64 0) := (blk_cell BK347.out 7).trans rfl; have hcz53_8 : w51.cell? ⟨gb347, 8, none⟩ = some (.int .u64 0) := (blk_cell BK347.out 8).trans rfl; have hcz53_9 : w51.cell? ⟨gb347, 9, none⟩ = some (.int .u64 0) := (blk_cell BK347.out 9).trans rfl; have hcz53_10 : w51.cell? ⟨gb347, 10, none⟩ = some (.int .u64 0) := (blk_cell BK347.out 10).trans rfl; have hcz53_11 : w51.cell? ⟨gb347, 11, none⟩ = some (.string (⟨#[]⟩ : ByteArray)) := (blk_cell BK347.out 11).trans rfl; have hfz53_0 := blk_frozen BK347.out 0; have hfz53_1 := blk_frozen BK347.out 1; have hfz53_2 := blk_frozen BK347.out 2; have hfz53_3 := blk_frozen BK347.out 3; have hfz53_4 := blk_frozen BK347.out 4; have hfz53_5 := blk_frozen BK347.out 5; have hfz53_6 := blk_frozen BK347.out 6; have hfz53_7 := blk_frozen BK347.out 7; have hfz53_8 := blk_frozen BK347.out 8; have hfz53_9 := blk_frozen BK347.out 9; have hfz53_10 := blk_frozen BK347.out 10; have hfz53_11 := blk_frozen BK347.out 11))
       go_ret
       exact ⟨by first | rfl | (have hq_ := of_eq_true c22q; simp [errW_none, errW_some, hq_, bne]; done) | (have hq_ := of_eq_true c22q; simp [errW_none, errW_some, hq_, bne]; rfl) | (simp [errW_none, errW_some] <;> rfl) | (simp [*, errW_none, errW_some] <;> rfl), by repeat (first | (with_reducible first | exact HB.out | apply below_alloc | apply pw_below_drewN | apply below_drew1 | refine below_set ?_ GE315.out | refine below_set ?_ GE347.out) | exact HB.out)⟩

/-- THE ONE PURE STATEMENT of dominolaw05_ParamsBack: yours. -/
def dominolaw05_ParamsBack.Pure : Prop := ∀ (a0_0 : Int) (a0_1 : Int) (a0_2 : Int) (a0_3 : Int) (a0_4 : Int) (a0_5 : Int) (a0_6 : Int) (a0_7 : Int) (a0_8 : Int) (a0_9 : Int) (a0_10 : Int) (a0_11 : ByteArray) (a1 : ByteArray), (Lit.int .u64 a0_0).wf = true → (Lit.int .u64 a0_1).wf = true → (Lit.int .u64 a0_2).wf = true → (Lit.int .u64 a0_3).wf = true → (Lit.int .u64 a0_4).wf = true → (Lit.int .u64 a0_5).wf = true → (Lit.int .u64 a0_6).wf = true → (Lit.int .u64 a0_7).wf = true → (Lit.int .u64 a0_8).wf = true → (Lit.int .u64 a0_9).wf = true → (Lit.int .u64 a0_10).wf = true → a0_11.size ≤ maxLen → a1.size ≤ 140737488351232 → ∃ k, dominolaw05_ParamsBack.f k a0_0 a0_1 a0_2 a0_3 a0_4 a0_5 a0_6 a0_7 a0_8 a0_9 a0_10 a0_11 a1 = some true
theorem dominolaw05_ParamsBack.walk (P : dominolaw05_ParamsBack.Pure) (a0_0 : Int) (a0_1 : Int) (a0_2 : Int) (a0_3 : Int) (a0_4 : Int) (a0_5 : Int) (a0_6 : Int) (a0_7 : Int) (a0_8 : Int) (a0_9 : Int) (a0_10 : Int) (a0_11 : ByteArray) (a1 : ByteArray) (w : World) (w0_0 : (Lit.int .u64 a0_0).wf = true) (w0_1 : (Lit.int .u64 a0_1).wf = true) (w0_2 : (Lit.int .u64 a0_2).wf = true) (w0_3 : (Lit.int .u64 a0_3).wf = true) (w0_4 : (Lit.int .u64 a0_4).wf = true) (w0_5 : (Lit.int .u64 a0_5).wf = true) (w0_6 : (Lit.int .u64 a0_6).wf = true) (w0_7 : (Lit.int .u64 a0_7).wf = true) (w0_8 : (Lit.int .u64 a0_8).wf = true) (w0_9 : (Lit.int .u64 a0_9).wf = true) (w0_10 : (Lit.int .u64 a0_10).wf = true) (w0_11 : a0_11.size ≤ maxLen) (w1 : a1.size ≤ 140737488351232) (ht : Tab w) :
  Calls Tryd.prog 4 #[.agg #[.int .u64 a0_0, .int .u64 a0_1, .int .u64 a0_2, .int .u64 a0_3, .int .u64 a0_4, .int .u64 a0_5, .int .u64 a0_6, .int .u64 a0_7, .int .u64 a0_8, .int .u64 a0_9, .int .u64 a0_10, .string a0_11], .string a1] w fun e w' => e = .returned (.bool true) ∧ Below w.heap.size w w' := by
 obtain ⟨k, h⟩ := P a0_0 a0_1 a0_2 a0_3 a0_4 a0_5 a0_6 a0_7 a0_8 a0_9 a0_10 a0_11 a1 w0_0 w0_1 w0_2 w0_3 w0_4 w0_5 w0_6 w0_7 w0_8 w0_9 w0_10 w0_11 w1
 refine (dominolaw05_ParamsBack.calls k a0_0 a0_1 a0_2 a0_3 a0_4 a0_5 a0_6 a0_7 a0_8 a0_9 a0_10 a0_11 a1 true w ht h).mono ?_
 rintro e w' ⟨rfl, hd⟩
 exact ⟨rfl, hd⟩

/-! ### dominolaw05_ParamsOrder: function 5 -/
def dominolaw05_ParamsOrder.j0 : Nat → Int → Int → ByteArray → Bool → Option (Bool)
 | 0, _, _, _, _ => none
 | k + 1, x0, x1, x2, x25 => if x25 = true then ((dominolaw05_shown.f k).bind fun t366 => (some t366)) else ((params_Default.f).bind fun bt367 => ((params_Put.f 0 (IntKind.u64.wrap (1200 + (Int.tmod x0 60000))) 0 0 0 0 0 0 3 25 2 (⟨#[]⟩ : ByteArray)).bind fun bt380 => ((params_Put.f (Int.tmod x1 4000000000) 65527 0 0 0 0 0 0 3 25 2 (⟨#[]⟩ : ByteArray)).bind fun bt382 => ((some (([((x2.size : Int)) % 256] : List Int) : List Int)).bind fun y384 => (if 2 + (strOfNums y384).size ≤ 9223372036854775807 then (if ((⟨#[64, 255]⟩ : ByteArray) ++ (strOfNums y384)).size + x2.size ≤ 9223372036854775807 then (if bt380.1.size + (((⟨#[64, 255]⟩ : ByteArray) ++ (strOfNums y384)) ++ x2).size ≤ 9223372036854775807 then (if (bt380.1 ++ (((⟨#[64, 255]⟩ : ByteArray) ++ (strOfNums y384)) ++ x2)).size + bt382.1.size ≤ 9223372036854775807 then ((params_Get.f k ((bt380.1 ++ (((⟨#[64, 255]⟩ : ByteArray) ++ (strOfNums y384)) ++ x2)) ++ bt382.1)).bind fun bt387 => (if (((⟨#[64, 255]⟩ : ByteArray) ++ (strOfNums y384)) ++ x2).size + bt380.1.size ≤ 9223372036854775807 then (if ((((⟨#[64, 255]⟩ : ByteArray) ++ (strOfNums y384)) ++ x2) ++ bt380.1).size + bt382.1.size ≤ 9223372036854775807 then (if (((((⟨#[64, 255]⟩ : ByteArray) ++ (strOfNums y384)) ++ x2) ++ bt380.1) ++ bt382.1).size + (((⟨#[64, 255]⟩ : ByteArray) ++ (strOfNums y384)) ++ x2).size ≤ 9223372036854775807 then ((params_Get.f k ((((((⟨#[64, 255]⟩ : ByteArray) ++ (strOfNums y384)) ++ x2) ++ bt380.1) ++ bt382.1) ++ (((⟨#[64, 255]⟩ : ByteArray) ++ (strOfNums y384)) ++ x2))).bind fun bt401 => (if bt380.2 = 0 then (if bt382.2 = 0 then (if bt387.2.2.2.2.2.2.2.2.2.2.2.2 = 0 then (if (bt387.1 == (Int.tmod x1 4000000000) && (bt387.2.1 == (IntKind.u64.wrap (1200 + (Int.tmod x0 60000))) && (bt387.2.2.1 == bt367.2.2.1 && (bt387.2.2.2.1 == bt367.2.2.2.1 && (bt387.2.2.2.2.1 == bt367.2.2.2.2.1 && (bt387.2.2.2.2.2.1 == bt367.2.2.2.2.2.1 && (bt387.2.2.2.2.2.2.1 == bt367.2.2.2.2.2.2.1 && (bt387.2.2.2.2.2.2.2.1 == bt367.2.2.2.2.2.2.2.1 && (bt387.2.2.2.2.2.2.2.2.1 == bt367.2.2.2.2.2.2.2.2.1 && (bt387.2.2.2.2.2.2.2.2.2.1 == bt367.2.2.2.2.2.2.2.2.2.1 && (bt387.2.2.2.2.2.2.2.2.2.2.1 == bt367.2.2.2.2.2.2.2.2.2.2.1 && (bt387.2.2.2.2.2.2.2.2.2.2.2.1.toList == bt367.2.2.2.2.2.2.2.2.2.2.2.toList)))))))))))) = true then (some (bt401.2.2.2.2.2.2.2.2.2.2.2.2 == 50)) else (none)) else (none)) else (none)) else (none))) else (none)) else (none)) else (none))) else (none)) else (none)) else (none)) else (none))))))
def dominolaw05_ParamsOrder.f (k : Nat) (a0 : Int) (a1 : Int) (a2 : ByteArray) : Option (Bool) := if (a2.size : Int) > 60 then (dominolaw05_ParamsOrder.j0 k a0 a1 a2 true) else ((dominolaw05_shown.f k).bind fun t365 => (dominolaw05_ParamsOrder.j0 k a0 a1 a2 (!t365)))
theorem dominolaw05_ParamsOrder.mono_l : ∀ k, (∀ y0 y1 y2 y3, LeO (dominolaw05_ParamsOrder.j0 k y0 y1 y2 y3) (dominolaw05_ParamsOrder.j0 (k + 1) y0 y1 y2 y3))
 | 0 => fun _ _ _ _ r h => by simp [dominolaw05_ParamsOrder.j0] at h
 | k + 1 => by
  have ih0 := dominolaw05_ParamsOrder.mono_l k
  ·intro y0 y1 y2 y3
   unfold dominolaw05_ParamsOrder.j0
   repeat' first
   | (with_reducible exact ih0 _ _ _ _)
   | (with_reducible exact dominolaw05_shown.mono _)
   | (with_reducible exact params_Get.mono _ _)
   | (with_reducible exact LeO.refl _)
   | (with_reducible exact LeO.none _)
   | (with_reducible refine LeO.ite ?_ ?_)
   | (with_reducible refine LeO.bind ?_ (fun _ => ?_))
   | exact ih0 _ _ _ _
   | exact dominolaw05_shown.mono _
   | exact params_Get.mono _ _
   | exact LeO.none _
   | refine LeO.ite ?_ ?_
   | refine LeO.bind ?_ (fun _ => ?_)
theorem dominolaw05_ParamsOrder.mono : ∀ a0 a1 a2 k, LeO (dominolaw05_ParamsOrder.f k a0 a1 a2) (dominolaw05_ParamsOrder.f (k + 1) a0 a1 a2) := by
 intro a0 a1 a2 k
 have ih0 := dominolaw05_ParamsOrder.mono_l k
 unfold dominolaw05_ParamsOrder.f
 repeat' first
   | (with_reducible exact ih0 _ _ _ _)
   | (with_reducible exact dominolaw05_shown.mono _)
   | (with_reducible exact params_Get.mono _ _)
   | (with_reducible exact LeO.refl _)
   | (with_reducible exact LeO.none _)
   | (with_reducible refine LeO.ite ?_ ?_)
   | (with_reducible refine LeO.bind ?_ (fun _ => ?_))
   | exact ih0 _ _ _ _
   | exact dominolaw05_shown.mono _
   | exact params_Get.mono _ _
   | exact LeO.none _
   | refine LeO.ite ?_ ?_
   | refine LeO.bind ?_ (fun _ => ?_)
set_option maxHeartbeats 8000000 in
set_option maxRecDepth 100000 in
theorem dominolaw05_ParamsOrder.calls (k : Nat) (a0 : Int) (a1 : Int) (a2 : ByteArray) (r : Bool) (w : World) (ht : Tab w) (h : dominolaw05_ParamsOrder.f k a0 a1 a2 = some r) :
  Calls Tryd.prog 5 #[.int .u64 a0, .int .u64 a1, .string a2] w fun e w' => e = .returned (.bool r) ∧ Below w.heap.size w w' := by
 have HTab := Aside0.mk ht
 clear ht
 have hu24 := Tryd.underlying24
 have HB := Aside0.mk (Below.refl w.heap.size w)
 have H : (if (a2.size : Int) > 60 then (dominolaw05_ParamsOrder.j0 k a0 a1 a2 true) else ((dominolaw05_shown.f k).bind fun t365 => (dominolaw05_ParamsOrder.j0 k a0 a1 a2 (!t365)))) = some r := h
 clear h
 have HC4 := Aside0.mk H
 clear H
 go_enter Tryd.func5, Tryd.ntmps5
 go_upto_region 1 with (fail)
 go_cut [25] (fun v25 wc => ∃ (kq : Nat) (x25_3 : Bool), v25 = .bool x25_3 ∧ Aside0 (dominolaw05_ParamsOrder.j0 kq a0 a1 a2 x25_3 = some r) ∧ Aside0 (kq ≤ k) ∧ Aside0 (Below w.heap.size w wc))
 case first =>
  have H := HC4.out
  clear HC4
  by_cases c5 : (a2.size : Int) > 60
  ·rw [if_pos c5] at H
   have c5b0 : decide (60 < (a2.size : Int)) = true := decide_eq_true c5
   have c5b1 : decide (60 < a2.size) = true := decide_eq_true (by omega)
   clear c5
   (first | rw [c5b0] | (simp only [i64_w, i32_w]; rw [c5b0]) | skip)
   have H' := Aside0.mk H
   clear H
   go_wp2
   go_meet
   case rel => exact ⟨_, (true), (by first | rfl | (simp; done) | (simp [*]; done)), H', ⟨by first | omega | exact Nat.le_refl _⟩, ⟨by repeat (first | (with_reducible first | exact HB.out | apply below_alloc | apply pw_below_drewN | apply below_drew1) | exact HB.out)⟩⟩
  ·rw [if_neg c5] at H
   have c5b0 : decide (60 < (a2.size : Int)) = false := decide_eq_false c5
   have c5b1 : decide (60 < a2.size) = false := decide_eq_false (by omega)
   clear c5
   (first | rw [c5b0] | (simp only [i64_w, i32_w]; rw [c5b0]) | skip)
   replace H := Option.bind_eq_some_iff.mp H
   obtain ⟨t365, A60, H⟩ := H
   replace H : (dominolaw05_ParamsOrder.j0 k a0 a1 a2 (!t365)) = some r := H
   have A6 := Aside0.mk A60
   clear A60
   have H' := Aside0.mk H
   clear H
   go_wp2_with (first | (go_at_call 8; (with_reducible refine (dominolaw05_shown.calls k  t365 _ (by first | exact HTab.out | exact tab_below HTab.out HB.out | exact (tab_below HTab.out (by repeat (first | (with_reducible first | exact HB.out | apply below_alloc | apply pw_below_drewN | apply below_drew1) | exact HB.out))) | exact tab_below HTab.out (by repeat (first | exact HB.out | exact Below.refl _ _ | apply below_alloc | apply pw_below_drewN | apply below_drew1 | refine below_set ?_ GE379.out | refine below_set ?_ GE400.out | refine below_set ?_ GE414.out))) A6.out).mono ?_); rintro e w7 ⟨rfl, hb⟩; have n0_ := Aside0.mk (below_step (by repeat (first | (with_reducible first | exact HB.out | apply below_alloc | apply pw_below_drewN | apply below_drew1) | exact HB.out)) hb); clear HB; have HB := n0_; clear n0_; (try clear hb); (try clear hb2); (try clear hk); (try clear hi)))
   go_meet
   case rel => exact ⟨_, (!t365), (by first | rfl | (simp; done) | (simp [*]; done)), H', ⟨by first | omega | exact Nat.le_refl _⟩, ⟨by repeat (first | (with_reducible first | exact HB.out | apply below_alloc | apply pw_below_drewN | apply below_drew1) | exact HB.out)⟩⟩
 case rest =>
  clear HC4
  try clear p2
  try clear c5
  try clear c5b0
  try clear c5b1
  obtain ⟨kq, x25_3, rfl, HA, HJ3, HB⟩ := hcut
  cases kq with
  | zero => exact absurd HA.out (by simp [dominolaw05_ParamsOrder.j0])
  | succ kj3 =>
   have H := HA.out
   clear HA
   simp only [dominolaw05_ParamsOrder.j0] at H
   by_cases c8 : x25_3 = true
   ·subst c8
    have H1 : ((dominolaw05_shown.f kj3).bind fun t366 => (some t366)) = some r := by rw [if_pos rfl] at H; exact H
    clear H
    have H := H1
    clear H1
    replace H := Option.bind_eq_some_iff.mp H
    obtain ⟨t366, A90, H⟩ := H
    replace H : (some t366) = some r := H
    have A9 := Aside0.mk A90
    clear A90
    obtain rfl := Option.some.inj H
    go_wp2_with (first | ((with_reducible refine gate_callee (f := 8) rfl ?_); refine goesL_ (some 26) rfl rfl Tryd.func8 (by kernel_rfl) rfl #[] rfl (by (try simp only [List.map_toArray, List.map_cons, List.map_nil]); first | done | rfl | (simp only [List.length_drop, List.length_take]; rfl)) ?_; (with_reducible refine (dominolaw05_shown.calls kj3  t366 _ (by first | exact HTab.out | exact tab_below HTab.out HB.out | exact (tab_below HTab.out (by repeat (first | (with_reducible first | exact HB.out | apply below_alloc | apply pw_below_drewN | apply below_drew1) | exact HB.out))) | exact tab_below HTab.out (by repeat (first | exact HB.out | exact Below.refl _ _ | apply below_alloc | apply pw_below_drewN | apply below_drew1 | refine below_set ?_ GE379.out | refine below_set ?_ GE400.out | refine below_set ?_ GE414.out))) A9.out).mono ?_); rintro e w10 ⟨rfl, hb⟩; refine ⟨_, rfl, ?_⟩; have n0_ := Aside0.mk (below_step (by repeat (first | (with_reducible first | exact HB.out | apply below_alloc | apply pw_below_drewN | apply below_drew1) | exact HB.out)) hb); clear HB; have HB := n0_; clear n0_; (try clear hb); (try clear hb2); (try clear hk); (try clear hi)))
    go_ret
    exact ⟨by first | rfl | (simp [errW_none, errW_some] <;> rfl) | (simp [*, errW_none, errW_some] <;> rfl), by repeat (first | (with_reducible first | exact HB.out | apply below_alloc | apply pw_below_drewN | apply below_drew1) | exact HB.out)⟩
   ·replace c8 := Bool.eq_false_iff.mpr c8
    subst c8
    have H1 : ((params_Default.f).bind fun bt367 => ((params_Put.f 0 (IntKind.u64.wrap (1200 + (Int.tmod a0 60000))) 0 0 0 0 0 0 3 25 2 (⟨#[]⟩ : ByteArray)).bind fun bt380 => ((params_Put.f (Int.tmod a1 4000000000) 65527 0 0 0 0 0 0 3 25 2 (⟨#[]⟩ : ByteArray)).bind fun bt382 => ((some (([((a2.size : Int)) % 256] : List Int) : List Int)).bind fun y384 => (if 2 + (strOfNums y384).size ≤ 9223372036854775807 then (if ((⟨#[64, 255]⟩ : ByteArray) ++ (strOfNums y384)).size + a2.size ≤ 9223372036854775807 then (if bt380.1.size + (((⟨#[64, 255]⟩ : ByteArray) ++ (strOfNums y384)) ++ a2).size ≤ 9223372036854775807 then (if (bt380.1 ++ (((⟨#[64, 255]⟩ : ByteArray) ++ (strOfNums y384)) ++ a2)).size + bt382.1.size ≤ 9223372036854775807 then ((params_Get.f kj3 ((bt380.1 ++ (((⟨#[64, 255]⟩ : ByteArray) ++ (strOfNums y384)) ++ a2)) ++ bt382.1)).bind fun bt387 => (if (((⟨#[64, 255]⟩ : ByteArray) ++ (strOfNums y384)) ++ a2).size + bt380.1.size ≤ 9223372036854775807 then (if ((((⟨#[64, 255]⟩ : ByteArray) ++ (strOfNums y384)) ++ a2) ++ bt380.1).size + bt382.1.size ≤ 9223372036854775807 then (if (((((⟨#[64, 255]⟩ : ByteArray) ++ (strOfNums y384)) ++ a2) ++ bt380.1) ++ bt382.1).size + (((⟨#[64, 255]⟩ : ByteArray) ++ (strOfNums y384)) ++ a2).size ≤ 9223372036854775807 then ((params_Get.f kj3 ((((((⟨#[64, 255]⟩ : ByteArray) ++ (strOfNums y384)) ++ a2) ++ bt380.1) ++ bt382.1) ++ (((⟨#[64, 255]⟩ : ByteArray) ++ (strOfNums y384)) ++ a2))).bind fun bt401 => (if bt380.2 = 0 then (if bt382.2 = 0 then (if bt387.2.2.2.2.2.2.2.2.2.2.2.2 = 0 then (if (bt387.1 == (Int.tmod a1 4000000000) && (bt387.2.1 == (IntKind.u64.wrap (1200 + (Int.tmod a0 60000))) && (bt387.2.2.1 == bt367.2.2.1 && (bt387.2.2.2.1 == bt367.2.2.2.1 && (bt387.2.2.2.2.1 == bt367.2.2.2.2.1 && (bt387.2.2.2.2.2.1 == bt367.2.2.2.2.2.1 && (bt387.2.2.2.2.2.2.1 == bt367.2.2.2.2.2.2.1 && (bt387.2.2.2.2.2.2.2.1 == bt367.2.2.2.2.2.2.2.1 && (bt387.2.2.2.2.2.2.2.2.1 == bt367.2.2.2.2.2.2.2.2.1 && (bt387.2.2.2.2.2.2.2.2.2.1 == bt367.2.2.2.2.2.2.2.2.2.1 && (bt387.2.2.2.2.2.2.2.2.2.2.1 == bt367.2.2.2.2.2.2.2.2.2.2.1 && (bt387.2.2.2.2.2.2.2.2.2.2.2.1.toList == bt367.2.2.2.2.2.2.2.2.2.2.2.toList)))))))))))) = true then (some (bt401.2.2.2.2.2.2.2.2.2.2.2.2 == 50)) else (none)) else (none)) else (none)) else (none))) else (none)) else (none)) else (none))) else (none)) else (none)) else (none)) else (none)))))) = some r := by rw [if_neg (show ¬ (false = true) by decide)] at H; exact H
    clear H
    have H := H1
    clear H1
    replace H := Option.bind_eq_some_iff.mp H
    obtain ⟨⟨t367, t368, t369, t370, t371, t372, t373, t374, t375, t376, t377, t378⟩, A110, H⟩ := H
    replace H : ((params_Put.f 0 (IntKind.u64.wrap (1200 + (Int.tmod a0 60000))) 0 0 0 0 0 0 3 25 2 (⟨#[]⟩ : ByteArray)).bind fun bt380 => ((params_Put.f (Int.tmod a1 4000000000) 65527 0 0 0 0 0 0 3 25 2 (⟨#[]⟩ : ByteArray)).bind fun bt382 => ((some (([((a2.size : Int)) % 256] : List Int) : List Int)).bind fun y384 => (if 2 + (strOfNums y384).size ≤ 9223372036854775807 then (if ((⟨#[64, 255]⟩ : ByteArray) ++ (strOfNums y384)).size + a2.size ≤ 9223372036854775807 then (if bt380.1.size + (((⟨#[64, 255]⟩ : ByteArray) ++ (strOfNums y384)) ++ a2).size ≤ 9223372036854775807 then (if (bt380.1 ++ (((⟨#[64, 255]⟩ : ByteArray) ++ (strOfNums y384)) ++ a2)).size + bt382.1.size ≤ 9223372036854775807 then ((params_Get.f kj3 ((bt380.1 ++ (((⟨#[64, 255]⟩ : ByteArray) ++ (strOfNums y384)) ++ a2)) ++ bt382.1)).bind fun bt387 => (if (((⟨#[64, 255]⟩ : ByteArray) ++ (strOfNums y384)) ++ a2).size + bt380.1.size ≤ 9223372036854775807 then (if ((((⟨#[64, 255]⟩ : ByteArray) ++ (strOfNums y384)) ++ a2) ++ bt380.1).size + bt382.1.size ≤ 9223372036854775807 then (if (((((⟨#[64, 255]⟩ : ByteArray) ++ (strOfNums y384)) ++ a2) ++ bt380.1) ++ bt382.1).size + (((⟨#[64, 255]⟩ : ByteArray) ++ (strOfNums y384)) ++ a2).size ≤ 9223372036854775807 then ((params_Get.f kj3 ((((((⟨#[64, 255]⟩ : ByteArray) ++ (strOfNums y384)) ++ a2) ++ bt380.1) ++ bt382.1) ++ (((⟨#[64, 255]⟩ : ByteArray) ++ (strOfNums y384)) ++ a2))).bind fun bt401 => (if bt380.2 = 0 then (if bt382.2 = 0 then (if bt387.2.2.2.2.2.2.2.2.2.2.2.2 = 0 then (if (bt387.1 == (Int.tmod a1 4000000000) && (bt387.2.1 == (IntKind.u64.wrap (1200 + (Int.tmod a0 60000))) && (bt387.2.2.1 == t369 && (bt387.2.2.2.1 == t370 && (bt387.2.2.2.2.1 == t371 && (bt387.2.2.2.2.2.1 == t372 && (bt387.2.2.2.2.2.2.1 == t373 && (bt387.2.2.2.2.2.2.2.1 == t374 && (bt387.2.2.2.2.2.2.2.2.1 == t375 && (bt387.2.2.2.2.2.2.2.2.2.1 == t376 && (bt387.2.2.2.2.2.2.2.2.2.2.1 == t377 && (bt387.2.2.2.2.2.2.2.2.2.2.2.1.toList == t378.toList)))))))))))) = true then (some (bt401.2.2.2.2.2.2.2.2.2.2.2.2 == 50)) else (none)) else (none)) else (none)) else (none))) else (none)) else (none)) else (none))) else (none)) else (none)) else (none)) else (none))))) = some r := H
    have A11 := Aside0.mk A110
    clear A110
    replace H := Option.bind_eq_some_iff.mp H
    obtain ⟨⟨t380, t381⟩, A120, H⟩ := H
    replace H : ((params_Put.f (Int.tmod a1 4000000000) 65527 0 0 0 0 0 0 3 25 2 (⟨#[]⟩ : ByteArray)).bind fun bt382 => ((some (([((a2.size : Int)) % 256] : List Int) : List Int)).bind fun y384 => (if 2 + (strOfNums y384).size ≤ 9223372036854775807 then (if ((⟨#[64, 255]⟩ : ByteArray) ++ (strOfNums y384)).size + a2.size ≤ 9223372036854775807 then (if t380.size + (((⟨#[64, 255]⟩ : ByteArray) ++ (strOfNums y384)) ++ a2).size ≤ 9223372036854775807 then (if (t380 ++ (((⟨#[64, 255]⟩ : ByteArray) ++ (strOfNums y384)) ++ a2)).size + bt382.1.size ≤ 9223372036854775807 then ((params_Get.f kj3 ((t380 ++ (((⟨#[64, 255]⟩ : ByteArray) ++ (strOfNums y384)) ++ a2)) ++ bt382.1)).bind fun bt387 => (if (((⟨#[64, 255]⟩ : ByteArray) ++ (strOfNums y384)) ++ a2).size + t380.size ≤ 9223372036854775807 then (if ((((⟨#[64, 255]⟩ : ByteArray) ++ (strOfNums y384)) ++ a2) ++ t380).size + bt382.1.size ≤ 9223372036854775807 then (if (((((⟨#[64, 255]⟩ : ByteArray) ++ (strOfNums y384)) ++ a2) ++ t380) ++ bt382.1).size + (((⟨#[64, 255]⟩ : ByteArray) ++ (strOfNums y384)) ++ a2).size ≤ 9223372036854775807 then ((params_Get.f kj3 ((((((⟨#[64, 255]⟩ : ByteArray) ++ (strOfNums y384)) ++ a2) ++ t380) ++ bt382.1) ++ (((⟨#[64, 255]⟩ : ByteArray) ++ (strOfNums y384)) ++ a2))).bind fun bt401 => (if t381 = 0 then (if bt382.2 = 0 then (if bt387.2.2.2.2.2.2.2.2.2.2.2.2 = 0 then (if (bt387.1 == (Int.tmod a1 4000000000) && (bt387.2.1 == (IntKind.u64.wrap (1200 + (Int.tmod a0 60000))) && (bt387.2.2.1 == t369 && (bt387.2.2.2.1 == t370 && (bt387.2.2.2.2.1 == t371 && (bt387.2.2.2.2.2.1 == t372 && (bt387.2.2.2.2.2.2.1 == t373 && (bt387.2.2.2.2.2.2.2.1 == t374 && (bt387.2.2.2.2.2.2.2.2.1 == t375 && (bt387.2.2.2.2.2.2.2.2.2.1 == t376 && (bt387.2.2.2.2.2.2.2.2.2.2.1 == t377 && (bt387.2.2.2.2.2.2.2.2.2.2.2.1.toList == t378.toList)))))))))))) = true then (some (bt401.2.2.2.2.2.2.2.2.2.2.2.2 == 50)) else (none)) else (none)) else (none)) else (none))) else (none)) else (none)) else (none))) else (none)) else (none)) else (none)) else (none)))) = some r := H
    have A12 := Aside0.mk A120
    clear A120
    replace H := Option.bind_eq_some_iff.mp H
    obtain ⟨⟨t382, t383⟩, A130, H⟩ := H
    replace H : ((some (([((a2.size : Int)) % 256] : List Int) : List Int)).bind fun y384 => (if 2 + (strOfNums y384).size ≤ 9223372036854775807 then (if ((⟨#[64, 255]⟩ : ByteArray) ++ (strOfNums y384)).size + a2.size ≤ 9223372036854775807 then (if t380.size + (((⟨#[64, 255]⟩ : ByteArray) ++ (strOfNums y384)) ++ a2).size ≤ 9223372036854775807 then (if (t380 ++ (((⟨#[64, 255]⟩ : ByteArray) ++ (strOfNums y384)) ++ a2)).size + t382.size ≤ 9223372036854775807 then ((params_Get.f kj3 ((t380 ++ (((⟨#[64, 255]⟩ : ByteArray) ++ (strOfNums y384)) ++ a2)) ++ t382)).bind fun bt387 => (if (((⟨#[64, 255]⟩ : ByteArray) ++ (strOfNums y384)) ++ a2).size + t380.size ≤ 9223372036854775807 then (if ((((⟨#[64, 255]⟩ : ByteArray) ++ (strOfNums y384)) ++ a2) ++ t380).size + t382.size ≤ 9223372036854775807 then (if (((((⟨#[64, 255]⟩ : ByteArray) ++ (strOfNums y384)) ++ a2) ++ t380) ++ t382).size + (((⟨#[64, 255]⟩ : ByteArray) ++ (strOfNums y384)) ++ a2).size ≤ 9223372036854775807 then ((params_Get.f kj3 ((((((⟨#[64, 255]⟩ : ByteArray) ++ (strOfNums y384)) ++ a2) ++ t380) ++ t382) ++ (((⟨#[64, 255]⟩ : ByteArray) ++ (strOfNums y384)) ++ a2))).bind fun bt401 => (if t381 = 0 then (if t383 = 0 then (if bt387.2.2.2.2.2.2.2.2.2.2.2.2 = 0 then (if (bt387.1 == (Int.tmod a1 4000000000) && (bt387.2.1 == (IntKind.u64.wrap (1200 + (Int.tmod a0 60000))) && (bt387.2.2.1 == t369 && (bt387.2.2.2.1 == t370 && (bt387.2.2.2.2.1 == t371 && (bt387.2.2.2.2.2.1 == t372 && (bt387.2.2.2.2.2.2.1 == t373 && (bt387.2.2.2.2.2.2.2.1 == t374 && (bt387.2.2.2.2.2.2.2.2.1 == t375 && (bt387.2.2.2.2.2.2.2.2.2.1 == t376 && (bt387.2.2.2.2.2.2.2.2.2.2.1 == t377 && (bt387.2.2.2.2.2.2.2.2.2.2.2.1.toList == t378.toList)))))))))))) = true then (some (bt401.2.2.2.2.2.2.2.2.2.2.2.2 == 50)) else (none)) else (none)) else (none)) else (none))) else (none)) else (none)) else (none))) else (none)) else (none)) else (none)) else (none))) = some r := H
    have A13 := Aside0.mk A130
    clear A130
    obtain ⟨y384, hy384⟩ : ∃ y_ : List Int, y_ = (([((a2.size : Int)) % 256] : List Int)) := ⟨_, rfl⟩
    replace H : (if 2 + (strOfNums y384).size ≤ 9223372036854775807 then (if ((⟨#[64, 255]⟩ : ByteArray) ++ (strOfNums y384)).size + a2.size ≤ 9223372036854775807 then (if t380.size + (((⟨#[64, 255]⟩ : ByteArray) ++ (strOfNums y384)) ++ a2).size ≤ 9223372036854775807 then (if (t380 ++ (((⟨#[64, 255]⟩ : ByteArray) ++ (strOfNums y384)) ++ a2)).size + t382.size ≤ 9223372036854775807 then ((params_Get.f kj3 ((t380 ++ (((⟨#[64, 255]⟩ : ByteArray) ++ (strOfNums y384)) ++ a2)) ++ t382)).bind fun bt387 => (if (((⟨#[64, 255]⟩ : ByteArray) ++ (strOfNums y384)) ++ a2).size + t380.size ≤ 9223372036854775807 then (if ((((⟨#[64, 255]⟩ : ByteArray) ++ (strOfNums y384)) ++ a2) ++ t380).size + t382.size ≤ 9223372036854775807 then (if (((((⟨#[64, 255]⟩ : ByteArray) ++ (strOfNums y384)) ++ a2) ++ t380) ++ t382).size + (((⟨#[64, 255]⟩ : ByteArray) ++ (strOfNums y384)) ++ a2).size ≤ 9223372036854775807 then ((params_Get.f kj3 ((((((⟨#[64, 255]⟩ : ByteArray) ++ (strOfNums y384)) ++ a2) ++ t380) ++ t382) ++ (((⟨#[64, 255]⟩ : ByteArray) ++ (strOfNums y384)) ++ a2))).bind fun bt401 => (if t381 = 0 then (if t383 = 0 then (if bt387.2.2.2.2.2.2.2.2.2.2.2.2 = 0 then (if (bt387.1 == (Int.tmod a1 4000000000) && (bt387.2.1 == (IntKind.u64.wrap (1200 + (Int.tmod a0 60000))) && (bt387.2.2.1 == t369 && (bt387.2.2.2.1 == t370 && (bt387.2.2.2.2.1 == t371 && (bt387.2.2.2.2.2.1 == t372 && (bt387.2.2.2.2.2.2.1 == t373 && (bt387.2.2.2.2.2.2.2.1 == t374 && (bt387.2.2.2.2.2.2.2.2.1 == t375 && (bt387.2.2.2.2.2.2.2.2.2.1 == t376 && (bt387.2.2.2.2.2.2.2.2.2.2.1 == t377 && (bt387.2.2.2.2.2.2.2.2.2.2.2.1.toList == t378.toList)))))))))))) = true then (some (bt401.2.2.2.2.2.2.2.2.2.2.2.2 == 50)) else (none)) else (none)) else (none)) else (none))) else (none)) else (none)) else (none))) else (none)) else (none)) else (none)) else (none)) = some r := by first | (rw [hy384]; with_reducible exact H) | (have H2_ := (Option.bind_some _ _).symm.trans H; rw [hy384]; with_reducible exact H2_) | (have H2_ := (Option.bind_some _ _).symm.trans H; with_reducible exact H2_) | with_reducible exact H | (rw [hy384]; exact H) | exact H
    have Ny384 := Aside0.mk hy384
    clear hy384
    by_cases c14 : 2 + (strOfNums y384).size ≤ 9223372036854775807
    ·rw [if_pos c14] at H
     have c14b0 := eq_true c14
     have c14b1 : decide (2 + (strOfNums y384).size ≤ 9223372036854775807) = true := decide_eq_true c14
     try have c14b2 : (9223372036854775807 < 2 + (strOfNums y384).size) = False := eq_false (Nat.not_lt.2 c14)
     by_cases c15 : ((⟨#[64, 255]⟩ : ByteArray) ++ (strOfNums y384)).size + a2.size ≤ 9223372036854775807
     ·rw [if_pos c15] at H
      have c15b0 := eq_true c15
      have c15b1 : decide (((⟨#[64, 255]⟩ : ByteArray) ++ (strOfNums y384)).size + a2.size ≤ 9223372036854775807) = true := decide_eq_true c15
      try have c15b2 : (9223372036854775807 < ((⟨#[64, 255]⟩ : ByteArray) ++ (strOfNums y384)).size + a2.size) = False := eq_false (Nat.not_lt.2 c15)
      (try (have c15b3 := c15; simp [ByteArray.size_append, show (⟨#[64, 255]⟩ : ByteArray).size = 2 from rfl] at c15b3; have c15b4 := eq_false (Nat.not_lt.2 c15b3); have c15b5 := eq_true c15b3; clear c15b3))
      by_cases c16 : t380.size + (((⟨#[64, 255]⟩ : ByteArray) ++ (strOfNums y384)) ++ a2).size ≤ 9223372036854775807
      ·rw [if_pos c16] at H
       have c16b0 := eq_true c16
       have c16b1 : decide (t380.size + (((⟨#[64, 255]⟩ : ByteArray) ++ (strOfNums y384)) ++ a2).size ≤ 9223372036854775807) = true := decide_eq_true c16
       try have c16b2 : (9223372036854775807 < t380.size + (((⟨#[64, 255]⟩ : ByteArray) ++ (strOfNums y384)) ++ a2).size) = False := eq_false (Nat.not_lt.2 c16)
       (try (have c16b3 := c16; simp [ByteArray.size_append, show (⟨#[64, 255]⟩ : ByteArray).size = 2 from rfl] at c16b3; have c16b4 := eq_false (Nat.not_lt.2 c16b3); have c16b5 := eq_true c16b3; clear c16b3))
       by_cases c17 : (t380 ++ (((⟨#[64, 255]⟩ : ByteArray) ++ (strOfNums y384)) ++ a2)).size + t382.size ≤ 9223372036854775807
       ·rw [if_pos c17] at H
        have c17b0 := eq_true c17
        have c17b1 : decide ((t380 ++ (((⟨#[64, 255]⟩ : ByteArray) ++ (strOfNums y384)) ++ a2)).size + t382.size ≤ 9223372036854775807) = true := decide_eq_true c17
        try have c17b2 : (9223372036854775807 < (t380 ++ (((⟨#[64, 255]⟩ : ByteArray) ++ (strOfNums y384)) ++ a2)).size + t382.size) = False := eq_false (Nat.not_lt.2 c17)
        (try (have c17b3 := c17; simp [ByteArray.size_append, show (⟨#[64, 255]⟩ : ByteArray).size = 2 from rfl] at c17b3; have c17b4 := eq_false (Nat.not_lt.2 c17b3); have c17b5 := eq_true c17b3; clear c17b3))
        replace H := Option.bind_eq_some_iff.mp H
        obtain ⟨⟨t387, t388, t389, t390, t391, t392, t393, t394, t395, t396, t397, t398, t399⟩, A180, H⟩ := H
        replace H : (if (((⟨#[64, 255]⟩ : ByteArray) ++ (strOfNums y384)) ++ a2).size + t380.size ≤ 9223372036854775807 then (if ((((⟨#[64, 255]⟩ : ByteArray) ++ (strOfNums y384)) ++ a2) ++ t380).size + t382.size ≤ 9223372036854775807 then (if (((((⟨#[64, 255]⟩ : ByteArray) ++ (strOfNums y384)) ++ a2) ++ t380) ++ t382).size + (((⟨#[64, 255]⟩ : ByteArray) ++ (strOfNums y384)) ++ a2).size ≤ 9223372036854775807 then ((params_Get.f kj3 ((((((⟨#[64, 255]⟩ : ByteArray) ++ (strOfNums y384)) ++ a2) ++ t380) ++ t382) ++ (((⟨#[64, 255]⟩ : ByteArray) ++ (strOfNums y384)) ++ a2))).bind fun bt401 => (if t381 = 0 then (if t383 = 0 then (if t399 = 0 then (if (t387 == (Int.tmod a1 4000000000) && (t388 == (IntKind.u64.wrap (1200 + (Int.tmod a0 60000))) && (t389 == t369 && (t390 == t370 && (t391 == t371 && (t392 == t372 && (t393 == t373 && (t394 == t374 && (t395 == t375 && (t396 == t376 && (t397 == t377 && (t398.toList == t378.toList)))))))))))) = true then (some (bt401.2.2.2.2.2.2.2.2.2.2.2.2 == 50)) else (none)) else (none)) else (none)) else (none))) else (none)) else (none)) else (none)) = some r := H
        have A18 := Aside0.mk A180
        clear A180
        by_cases c19 : (((⟨#[64, 255]⟩ : ByteArray) ++ (strOfNums y384)) ++ a2).size + t380.size ≤ 9223372036854775807
        ·rw [if_pos c19] at H
         have c19b0 := eq_true c19
         have c19b1 : decide ((((⟨#[64, 255]⟩ : ByteArray) ++ (strOfNums y384)) ++ a2).size + t380.size ≤ 9223372036854775807) = true := decide_eq_true c19
         try have c19b2 : (9223372036854775807 < (((⟨#[64, 255]⟩ : ByteArray) ++ (strOfNums y384)) ++ a2).size + t380.size) = False := eq_false (Nat.not_lt.2 c19)
         (try (have c19b3 := c19; simp [ByteArray.size_append, show (⟨#[64, 255]⟩ : ByteArray).size = 2 from rfl] at c19b3; have c19b4 := eq_false (Nat.not_lt.2 c19b3); have c19b5 := eq_true c19b3; clear c19b3))
         by_cases c20 : ((((⟨#[64, 255]⟩ : ByteArray) ++ (strOfNums y384)) ++ a2) ++ t380).size + t382.size ≤ 9223372036854775807
         ·rw [if_pos c20] at H
          have c20b0 := eq_true c20
          have c20b1 : decide (((((⟨#[64, 255]⟩ : ByteArray) ++ (strOfNums y384)) ++ a2) ++ t380).size + t382.size ≤ 9223372036854775807) = true := decide_eq_true c20
          try have c20b2 : (9223372036854775807 < ((((⟨#[64, 255]⟩ : ByteArray) ++ (strOfNums y384)) ++ a2) ++ t380).size + t382.size) = False := eq_false (Nat.not_lt.2 c20)
          (try (have c20b3 := c20; simp [ByteArray.size_append, show (⟨#[64, 255]⟩ : ByteArray).size = 2 from rfl] at c20b3; have c20b4 := eq_false (Nat.not_lt.2 c20b3); have c20b5 := eq_true c20b3; clear c20b3))
          by_cases c21 : (((((⟨#[64, 255]⟩ : ByteArray) ++ (strOfNums y384)) ++ a2) ++ t380) ++ t382).size + (((⟨#[64, 255]⟩ : ByteArray) ++ (strOfNums y384)) ++ a2).size ≤ 9223372036854775807
          ·rw [if_pos c21] at H
           have c21b0 := eq_true c21
           have c21b1 : decide ((((((⟨#[64, 255]⟩ : ByteArray) ++ (strOfNums y384)) ++ a2) ++ t380) ++ t382).size + (((⟨#[64, 255]⟩ : ByteArray) ++ (strOfNums y384)) ++ a2).size ≤ 9223372036854775807) = true := decide_eq_true c21
           try have c21b2 : (9223372036854775807 < (((((⟨#[64, 255]⟩ : ByteArray) ++ (strOfNums y384)) ++ a2) ++ t380) ++ t382).size + (((⟨#[64, 255]⟩ : ByteArray) ++ (strOfNums y384)) ++ a2).size) = False := eq_false (Nat.not_lt.2 c21)
           (try (have c21b3 := c21; simp [ByteArray.size_append, show (⟨#[64, 255]⟩ : ByteArray).size = 2 from rfl] at c21b3; have c21b4 := eq_false (Nat.not_lt.2 c21b3); have c21b5 := eq_true c21b3; clear c21b3))
           replace H := Option.bind_eq_some_iff.mp H
           obtain ⟨⟨t401, t402, t403, t404, t405, t406, t407, t408, t409, t410, t411, t412, t413⟩, A220, H⟩ := H
           replace H : (if t381 = 0 then (if t383 = 0 then (if t399 = 0 then (if (t387 == (Int.tmod a1 4000000000) && (t388 == (IntKind.u64.wrap (1200 + (Int.tmod a0 60000))) && (t389 == t369 && (t390 == t370 && (t391 == t371 && (t392 == t372 && (t393 == t373 && (t394 == t374 && (t395 == t375 && (t396 == t376 && (t397 == t377 && (t398.toList == t378.toList)))))))))))) = true then (some (t413 == 50)) else (none)) else (none)) else (none)) else (none)) = some r := H
           have A22 := Aside0.mk A220
           clear A220
           by_cases c23 : t381 = 0
           ·rw [if_pos c23] at H
            have c23b0 : (t381 == 0) = true := beq_iff_eq.mpr c23
            have c23b1 : (t381 != 0) = false := bne_eq_false_iff_eq.mpr c23
            clear c23
            by_cases c24 : t383 = 0
            ·rw [if_pos c24] at H
             have c24b0 : (t383 == 0) = true := beq_iff_eq.mpr c24
             have c24b1 : (t383 != 0) = false := bne_eq_false_iff_eq.mpr c24
             clear c24
             by_cases c25 : t399 = 0
             ·rw [if_pos c25] at H
              have c25b0 : (t399 == 0) = true := beq_iff_eq.mpr c25
              have c25b1 : (t399 != 0) = false := bne_eq_false_iff_eq.mpr c25
              clear c25
              by_cases c26 : (t387 == (Int.tmod a1 4000000000) && (t388 == (IntKind.u64.wrap (1200 + (Int.tmod a0 60000))) && (t389 == t369 && (t390 == t370 && (t391 == t371 && (t392 == t372 && (t393 == t373 && (t394 == t374 && (t395 == t375 && (t396 == t376 && (t397 == t377 && (t398.toList == t378.toList)))))))))))) = true
              ·rw [if_pos c26] at H
               have c26b0 : (t387 == (Int.tmod a1 4000000000) && (t388 == (IntKind.u64.wrap (1200 + (Int.tmod a0 60000))) && (t389 == t369 && (t390 == t370 && (t391 == t371 && (t392 == t372 && (t393 == t373 && (t394 == t374 && (t395 == t375 && (t396 == t376 && (t397 == t377 && (t398.toList == t378.toList)))))))))))) = true := c26
               have c26q := c26
               simp only [Bool.not_false, Bool.not_true, Bool.true_and, Bool.and_eq_true, Bool.or_eq_false_iff, Bool.not_eq_eq_eq_not, beq_iff_eq] at c26q
               replace c26q := eq_true c26q
               (try (have c26b1 : decide (t387 = (Int.tmod a1 4000000000) && (t388 == (IntKind.u64.wrap (1200 + (Int.tmod a0 60000))) && (t389 == t369 && (t390 == t370 && (t391 == t371 && (t392 == t372 && (t393 == t373 && (t394 == t374 && (t395 == t375 && (t396 == t376 && (t397 == t377 && (t398.toList == t378.toList)))))))))))) = true := by simpa using c26))
               (try (have c26b2 : (t387 == (Int.tmod a1 4000000000) && (t388 == (IntKind.u64.wrap (1200 + (Int.tmod a0 60000))) && (t389 == t369 && (t390 == t370 && (t391 == t371 && (t392 == t372 && (t393 == t373 && (t394 == t374 && (t395 == t375 && (t396 == t376 && (t397 == t377 && (t398.toList == t378.toList)))))))))))) = true := by simpa using c26))
               clear c26
               obtain rfl := Option.some.inj H
               go_wp2_with (first | ((with_reducible refine gate_callee (f := 15) rfl ?_); refine goesL_ (some 32) rfl rfl Tryd.func15 (by kernel_rfl) rfl #[] rfl (by (try simp only [List.map_toArray, List.map_cons, List.map_nil]); first | done | rfl | (simp only [List.length_drop, List.length_take]; rfl)) ?_; (with_reducible refine (params_Default.calls  t367 t368 t369 t370 t371 t372 t373 t374 t375 t376 t377 t378 _ A11.out).mono ?_); rintro e w27 ⟨rfl, hb⟩; refine ⟨_, rfl, ?_⟩; have n0_ := Aside0.mk (below_step (by repeat (first | (with_reducible first | exact HB.out | apply below_alloc | apply pw_below_drewN | apply below_drew1) | exact HB.out)) hb); clear HB; have HB := n0_; clear n0_; (try clear hb); (try clear hb2); (try clear hk); (try clear hi)) | ((with_reducible refine gate_dst (N := 9) rfl ?_); refine box_event ?hg (N := 9) ?hd (cs := #[.int .u64 0, .int .u64 0, .int .u64 0, .int .u64 0, .int .u64 0, .int .u64 0, .int .u64 0, .int .u64 0, .int .u64 0, .int .u64 0, .int .u64 0, .string (⟨#[]⟩ : ByteArray)]) (t := 24) ?hr ?_; (case hd => rfl); (case hg => rfl); (case hr => first | (go_simp; done) | (go_simp; rfl)); intro gb379 hg w28 hbox hb; have n0_ := Aside0.mk (below_step (by repeat (first | (with_reducible first | exact HB.out | apply below_alloc | apply pw_below_drewN | apply below_drew1) | exact HB.out)) hb); have n1_ := Aside0.mk (hbox); have n2_ := Aside0.mk ((by rw [hg]; exact (below_size (by repeat (first | (with_reducible first | exact HB.out | apply below_alloc | apply pw_below_drewN | apply below_drew1) | exact HB.out))) : w.heap.size ≤ gb379)); have n3_ := Aside0.mk ((by rw [hg]; exact (below_size (by repeat (first | (with_reducible first | exact HB.out | apply below_alloc | apply pw_below_drewN | apply below_drew1) | exact HB.out))) : w.heap.size ≤ gb379)); clear HB; have HB := n0_; have BK379 := n1_; have GW379 := n2_; have GE379 := n3_; clear n0_ n1_ n2_ n3_; clear hb hbox hg; have hcz29_0 : w28.cell? ⟨gb379, 0, none⟩ = some (.int .u64 0) := (blk_cell BK379.out 0).trans rfl; have hcz29_1 : w28.cell? ⟨gb379, 1, none⟩ = some (.int .u64 0) := (blk_cell BK379.out 1).trans rfl; have hcz29_2 : w28.cell? ⟨gb379, 2, none⟩ = some (.int .u64 0) := (blk_cell BK379.out 2).trans rfl; have hcz29_3 : w28.cell? ⟨gb379, 3, none⟩ = some (.int .u64 0) := (blk_cell BK379.out 3).trans rfl; have hcz29_4 : w28.cell? ⟨gb379, 4, none⟩ = some (.int .u64 0) := (blk_cell BK379.out 4).trans rfl; have hcz29_5 : w28.cell? ⟨gb379, 5, none⟩ = some (.int .u64 0) := (blk_cell BK379.out 5).trans rfl; have hcz29_6 : w28.cell? ⟨gb379, 6, none⟩ = some (.int .u64 0) := (blk_cell BK379.out 6).trans rfl; have hcz29_7 : w28.cell? ⟨gb379, 7, none⟩ = some (.int .u64 0) := (blk_cell BK379.out 7).trans rfl; have hcz29_8 : w28.cell? ⟨gb379, 8, none⟩ = some (.int .u64 0) := (blk_cell BK379.out 8).trans rfl; have hcz29_9 : w28.cell? ⟨gb379, 9, none⟩ = some (.int .u64 0) := (blk_cell BK379.out 9).trans rfl; have hcz29_10 : w28.cell? ⟨gb379, 10, none⟩ = some (.int .u64 0) := (blk_cell BK379.out 10).trans rfl; have hcz29_11 : w28.cell? ⟨gb379, 11, none⟩ = some (.string (⟨#[]⟩ : ByteArray)) := (blk_cell BK379.out 11).trans rfl; have hfz29_0 := blk_frozen BK379.out 0; have hfz29_1 := blk_frozen BK379.out 1; have hfz29_2 := blk_frozen BK379.out 2; have hfz29_3 := blk_frozen BK379.out 3; have hfz29_4 := blk_frozen BK379.out 4; have hfz29_5 := blk_frozen BK379.out 5; have hfz29_6 := blk_frozen BK379.out 6; have hfz29_7 := blk_frozen BK379.out 7; have hfz29_8 := blk_frozen BK379.out 8; have hfz29_9 := blk_frozen BK379.out 9; have hfz29_10 := blk_frozen BK379.out 10; have hfz29_11 := blk_frozen BK379.out 11) | ((with_reducible refine gate_callee (f := 9) rfl ?_); refine goesL_ (some 40) rfl rfl Tryd.func9 (by kernel_rfl) rfl #[.agg #[.int .u64 0, .int .u64 (IntKind.u64.wrap (1200 + (Int.tmod a0 60000))), .int .u64 0, .int .u64 0, .int .u64 0, .int .u64 0, .int .u64 0, .int .u64 0, .int .u64 3, .int .u64 25, .int .u64 2, .string (⟨#[]⟩ : ByteArray)]] rfl (by (try simp only [List.map_toArray, List.map_cons, List.map_nil]); first | done | rfl | (simp only [List.length_drop, List.length_take]; rfl)) ?_; (with_reducible refine (params_Put.calls 0 (IntKind.u64.wrap (1200 + (Int.tmod a0 60000))) 0 0 0 0 0 0 3 25 2 (⟨#[]⟩ : ByteArray) t380 t381 _ (by first | exact HTab.out | exact tab_below HTab.out HB.out | exact tab_below HTab.out (by repeat (first | exact HB.out | exact Below.refl _ _ | apply below_alloc | apply pw_below_drewN | apply below_drew1 | refine below_set ?_ GE379.out | refine below_set ?_ GE400.out | refine below_set ?_ GE414.out))) A12.out).mono ?_); rintro e w30 ⟨rfl, hb⟩; refine ⟨_, rfl, ?_⟩; have n0_ := Aside0.mk (blk_below (g := gb379) (o := .cells #[.int .u64 (Int.tmod a1 4000000000), .int .u64 (IntKind.u64.wrap (1200 + (Int.tmod a0 60000))), .int .u64 t369, .int .u64 t370, .int .u64 t371, .int .u64 t372, .int .u64 t373, .int .u64 t374, .int .u64 t375, .int .u64 t376, .int .u64 t377, .string t378] 24 (0, 0)) (by (with_reducible repeat (first | refine blk_drewN ?_ _ | refine blk_drew ?_ | refine blk_alloc ?_ _)); refine blk_put (cs := #[.int .u64 t367, .int .u64 (IntKind.u64.wrap (1200 + (Int.tmod a0 60000))), .int .u64 t369, .int .u64 t370, .int .u64 t371, .int .u64 t372, .int .u64 t373, .int .u64 t374, .int .u64 t375, .int .u64 t376, .int .u64 t377, .string t378]) ?_ 0 _ rfl; (with_reducible repeat (first | refine blk_drewN ?_ _ | refine blk_drew ?_ | refine blk_alloc ?_ _)); refine blk_put (cs := #[.int .u64 t367, .int .u64 t368, .int .u64 t369, .int .u64 t370, .int .u64 t371, .int .u64 t372, .int .u64 t373, .int .u64 t374, .int .u64 t375, .int .u64 t376, .int .u64 t377, .string t378]) ?_ 1 _ rfl; (with_reducible repeat (first | refine blk_drewN ?_ _ | refine blk_drew ?_ | refine blk_alloc ?_ _)); refine blk_put (cs := #[.int .u64 t367, .int .u64 t368, .int .u64 t369, .int .u64 t370, .int .u64 t371, .int .u64 t372, .int .u64 t373, .int .u64 t374, .int .u64 t375, .int .u64 t376, .int .u64 t377, .string (⟨#[]⟩ : ByteArray)]) ?_ 11 _ rfl; (with_reducible repeat (first | refine blk_drewN ?_ _ | refine blk_drew ?_ | refine blk_alloc ?_ _)); refine blk_put (cs := #[.int .u64 t367, .int .u64 t368, .int .u64 t369, .int .u64 t370, .int .u64 t371, .int .u64 t372, .int .u64 t373, .int .u64 t374, .int .u64 t375, .int .u64 t376, .int .u64 0, .string (⟨#[]⟩ : ByteArray)]) ?_ 10 _ rfl; (with_reducible repeat (first | refine blk_drewN ?_ _ | refine blk_drew ?_ | refine blk_alloc ?_ _)); refine blk_put (cs := #[.int .u64 t367, .int .u64 t368, .int .u64 t369, .int .u64 t370, .int .u64 t371, .int .u64 t372, .int .u64 t373, .int .u64 t374, .int .u64 t375, .int .u64 0, .int .u64 0, .string (⟨#[]⟩ : ByteArray)]) ?_ 9 _ rfl; (with_reducible repeat (first | refine blk_drewN ?_ _ | refine blk_drew ?_ | refine blk_alloc ?_ _)); refine blk_put (cs := #[.int .u64 t367, .int .u64 t368, .int .u64 t369, .int .u64 t370, .int .u64 t371, .int .u64 t372, .int .u64 t373, .int .u64 t374, .int .u64 0, .int .u64 0, .int .u64 0, .string (⟨#[]⟩ : ByteArray)]) ?_ 8 _ rfl; (with_reducible repeat (first | refine blk_drewN ?_ _ | refine blk_drew ?_ | refine blk_alloc ?_ _)); refine blk_put (cs := #[.int .u64 t367, .int .u64 t368, .int .u64 t369, .int .u64 t370, .int .u64 t371, .int .u64 t372, .int .u64 t373, .int .u64 0, .int .u64 0, .int .u64 0, .int .u64 0, .string (⟨#[]⟩ : ByteArray)]) ?_ 7 _ rfl; (with_reducible repeat (first | refine blk_drewN ?_ _ | refine blk_drew ?_ | refine blk_alloc ?_ _)); refine blk_put (cs := #[.int .u64 t367, .int .u64 t368, .int .u64 t369, .int .u64 t370, .int .u64 t371, .int .u64 t372, .int .u64 0, .int .u64 0, .int .u64 0, .int .u64 0, .int .u64 0, .string (⟨#[]⟩ : ByteArray)]) ?_ 6 _ rfl; (with_reducible repeat (first | refine blk_drewN ?_ _ | refine blk_drew ?_ | refine blk_alloc ?_ _)); refine blk_put (cs := #[.int .u64 t367, .int .u64 t368, .int .u64 t369, .int .u64 t370, .int .u64 t371, .int .u64 0, .int .u64 0, .int .u64 0, .int .u64 0, .int .u64 0, .int .u64 0, .string (⟨#[]⟩ : ByteArray)]) ?_ 5 _ rfl; (with_reducible repeat (first | refine blk_drewN ?_ _ | refine blk_drew ?_ | refine blk_alloc ?_ _)); refine blk_put (cs := #[.int .u64 t367, .int .u64 t368, .int .u64 t369, .int .u64 t370, .int .u64 0, .int .u64 0, .int .u64 0, .int .u64 0, .int .u64 0, .int .u64 0, .int .u64 0, .string (⟨#[]⟩ : ByteArray)]) ?_ 4 _ rfl; (with_reducible repeat (first | refine blk_drewN ?_ _ | refine blk_drew ?_ | refine blk_alloc ?_ _)); refine blk_put (cs := #[.int .u64 t367, .int .u64 t368, .int .u64 t369, .int .u64 0, .int .u64 0, .int .u64 0, .int .u64 0, .int .u64 0, .int .u64 0, .int .u64 0, .int .u64 0, .string (⟨#[]⟩ : ByteArray)]) ?_ 3 _ rfl; (with_reducible repeat (first | refine blk_drewN ?_ _ | refine blk_drew ?_ | refine blk_alloc ?_ _)); refine blk_put (cs := #[.int .u64 t367, .int .u64 t368, .int .u64 0, .int .u64 0, .int .u64 0, .int .u64 0, .int .u64 0, .int .u64 0, .int .u64 0, .int .u64 0, .int .u64 0, .string (⟨#[]⟩ : ByteArray)]) ?_ 2 _ rfl; (with_reducible repeat (first | refine blk_drewN ?_ _ | refine blk_drew ?_ | refine blk_alloc ?_ _)); refine blk_put (cs := #[.int .u64 t367, .int .u64 0, .int .u64 0, .int .u64 0, .int .u64 0, .int .u64 0, .int .u64 0, .int .u64 0, .int .u64 0, .int .u64 0, .int .u64 0, .string (⟨#[]⟩ : ByteArray)]) ?_ 1 _ rfl; (with_reducible repeat (first | refine blk_drewN ?_ _ | refine blk_drew ?_ | refine blk_alloc ?_ _)); refine blk_put (cs := #[.int .u64 0, .int .u64 0, .int .u64 0, .int .u64 0, .int .u64 0, .int .u64 0, .int .u64 0, .int .u64 0, .int .u64 0, .int .u64 0, .int .u64 0, .string (⟨#[]⟩ : ByteArray)]) ?_ 0 _ rfl; (with_reducible repeat (first | refine blk_drewN ?_ _ | refine blk_drew ?_ | refine blk_alloc ?_ _)); exact BK379.out) hb); have n1_ := Aside0.mk (below_step (by repeat (first | (with_reducible first | exact HB.out | apply below_alloc | apply pw_below_drewN | apply below_drew1 | refine below_set ?_ GE379.out) | exact HB.out)) hb); clear BK379; clear HB; have BK379 := n0_; have HB := n1_; clear n0_ n1_; (try clear hb); (try clear hb2); (try clear hk); (try clear hi)) | ((with_reducible refine gate_callee (f := 9) rfl ?_); refine goesL_ (some 46) rfl rfl Tryd.func9 (by kernel_rfl) rfl #[.agg #[.int .u64 (Int.tmod a1 4000000000), .int .u64 65527, .int .u64 0, .int .u64 0, .int .u64 0, .int .u64 0, .int .u64 0, .int .u64 0, .int .u64 3, .int .u64 25, .int .u64 2, .string (⟨#[]⟩ : ByteArray)]] rfl (by (try simp only [List.map_toArray, List.map_cons, List.map_nil]); first | done | rfl | (simp only [List.length_drop, List.length_take]; rfl)) ?_; (with_reducible refine (params_Put.calls (Int.tmod a1 4000000000) 65527 0 0 0 0 0 0 3 25 2 (⟨#[]⟩ : ByteArray) t382 t383 _ (by first | exact HTab.out | exact tab_below HTab.out HB.out | exact (tab_below HTab.out (by repeat (first | (with_reducible first | exact HB.out | apply below_alloc | apply pw_below_drewN | apply below_drew1 | refine below_set ?_ GE379.out) | exact HB.out))) | exact tab_below HTab.out (by repeat (first | exact HB.out | exact Below.refl _ _ | apply below_alloc | apply pw_below_drewN | apply below_drew1 | refine below_set ?_ GE379.out | refine below_set ?_ GE400.out | refine below_set ?_ GE414.out))) A13.out).mono ?_); rintro e w31 ⟨rfl, hb⟩; refine ⟨_, rfl, ?_⟩; have n0_ := Aside0.mk (blk_below (g := gb379) (o := .cells #[.int .u64 (Int.tmod a1 4000000000), .int .u64 (IntKind.u64.wrap (1200 + (Int.tmod a0 60000))), .int .u64 t369, .int .u64 t370, .int .u64 t371, .int .u64 t372, .int .u64 t373, .int .u64 t374, .int .u64 t375, .int .u64 t376, .int .u64 t377, .string t378] 24 (0, 0)) (by (with_reducible repeat (first | refine blk_drewN ?_ _ | refine blk_drew ?_ | refine blk_alloc ?_ _)); exact BK379.out) hb); have n1_ := Aside0.mk (below_step (by repeat (first | (with_reducible first | exact HB.out | apply below_alloc | apply pw_below_drewN | apply below_drew1 | refine below_set ?_ GE379.out) | exact HB.out)) hb); clear BK379; clear HB; have BK379 := n0_; have HB := n1_; clear n0_ n1_; (try clear hb); (try clear hb2); (try clear hk); (try clear hi)) | ((with_reducible refine gate_dst (N := 52) rfl ?_); refine Kd.R_lit (Kd.int .u8) _ 5 ?hg (N := 52) ?hd (xs := ([((a2.size : Int)) % 256] : List Int)) (inner := [.int .u8 (((a2.size : Int)) % 256)]) (ok := fun _ => True) (okp := fun _ => True) ?hr ?hp (fun _ hk => hk) trivial (Below.refl _ _) (Nat.le_refl _) (by simp) ?_; (case hd => rfl); (case hg => rfl); (case hr => first | (go_simp; done) | (go_simp; rfl)); (case hp => exact (Reps.one (show Kd.M (Kd.int .u8) _ _ _ (((a2.size : Int)) % 256) [.int .u8 (((a2.size : Int)) % 256)] from rfl) (Reps.none _ _))); intro v385 w32 ho33 hb hg_ hnew_; clear hg_ hnew_; (first | rw [← Ny384.out] at ho33 | (simp only [Int.reduceToNat] at ho33; rw [← Ny384.out] at ho33)); have n0_ := Aside0.mk (Kd.R_lower ho33 (below_size (by repeat (first | (with_reducible first | exact HB.out | apply below_alloc | apply pw_below_drewN | apply below_drew1 | refine below_set ?_ GE379.out) | exact HB.out)))); have n1_ := Aside0.mk (blk_below (g := gb379) (o := .cells #[.int .u64 (Int.tmod a1 4000000000), .int .u64 (IntKind.u64.wrap (1200 + (Int.tmod a0 60000))), .int .u64 t369, .int .u64 t370, .int .u64 t371, .int .u64 t372, .int .u64 t373, .int .u64 t374, .int .u64 t375, .int .u64 t376, .int .u64 t377, .string t378] 24 (0, 0)) (by (with_reducible repeat (first | refine blk_drewN ?_ _ | refine blk_drew ?_ | refine blk_alloc ?_ _)); exact BK379.out) hb); have n2_ := Aside0.mk (below_step (by repeat (first | (with_reducible first | exact HB.out | apply below_alloc | apply pw_below_drewN | apply below_drew1 | refine below_set ?_ GE379.out) | exact HB.out)) hb); clear BK379; clear HB; have HO386 := n0_; have BK379 := n1_; have HB := n2_; clear n0_ n1_ n2_; clear hb ho33; have hcv34 := own_string (P := Tryd.prog) Tryd.underlying40 Tryd.underlying5 Tryd.underlying9 (Kd.own_of_R HO386.out)) | ((with_reducible refine gate_callee (f := 11) rfl ?_); refine goesL_ (some 63) rfl rfl Tryd.func11 (by kernel_rfl) rfl #[.string ((t380 ++ (((⟨#[64, 255]⟩ : ByteArray) ++ (strOfNums y384)) ++ a2)) ++ t382)] rfl (by (try simp only [List.map_toArray, List.map_cons, List.map_nil]); first | done | rfl | (simp only [List.length_drop, List.length_take]; rfl)) ?_; (with_reducible refine (params_Get.calls kj3 ((t380 ++ (((⟨#[64, 255]⟩ : ByteArray) ++ (strOfNums y384)) ++ a2)) ++ t382) t387 t388 t389 t390 t391 t392 t393 t394 t395 t396 t397 t398 t399 _ A18.out).mono ?_); rintro e w35 ⟨rfl, hb⟩; refine ⟨_, rfl, ?_⟩; have n0_ := Aside0.mk (Kd.R_below (by (with_reducible repeat (first | apply Kd.R_alloc | apply Kd.R_drewN | apply Kd.R_drew)); exact HO386.out) hb); have n1_ := Aside0.mk (blk_below (g := gb379) (o := .cells #[.int .u64 (Int.tmod a1 4000000000), .int .u64 (IntKind.u64.wrap (1200 + (Int.tmod a0 60000))), .int .u64 t369, .int .u64 t370, .int .u64 t371, .int .u64 t372, .int .u64 t373, .int .u64 t374, .int .u64 t375, .int .u64 t376, .int .u64 t377, .string t378] 24 (0, 0)) (by (with_reducible repeat (first | refine blk_drewN ?_ _ | refine blk_drew ?_ | refine blk_alloc ?_ _)); exact BK379.out) hb); have n2_ := Aside0.mk (below_step (by repeat (first | (with_reducible first | exact HB.out | apply below_alloc | apply pw_below_drewN | apply below_drew1 | refine below_set ?_ GE379.out) | exact HB.out)) hb); clear HO386; clear BK379; clear HB; have HO386 := n0_; have BK379 := n1_; have HB := n2_; clear n0_ n1_ n2_; (try clear hb); (try clear hb2); (try clear hk); (try clear hi)) | ((with_reducible refine gate_dst (N := 15) rfl ?_); refine box_event ?hg (N := 15) ?hd (cs := #[.int .u64 0, .int .u64 0, .int .u64 0, .int .u64 0, .int .u64 0, .int .u64 0, .int .u64 0, .int .u64 0, .int .u64 0, .int .u64 0, .int .u64 0, .string (⟨#[]⟩ : ByteArray)]) (t := 24) ?hr ?_; (case hd => rfl); (case hg => rfl); (case hr => first | (go_simp; done) | (go_simp; rfl)); intro gb400 hg w36 hbox hb; have n0_ := Aside0.mk (Kd.R_below (by (with_reducible repeat (first | apply Kd.R_alloc | apply Kd.R_drewN | apply Kd.R_drew)); exact HO386.out) hb); have n1_ := Aside0.mk (blk_below (g := gb379) (o := .cells #[.int .u64 (Int.tmod a1 4000000000), .int .u64 (IntKind.u64.wrap (1200 + (Int.tmod a0 60000))), .int .u64 t369, .int .u64 t370, .int .u64 t371, .int .u64 t372, .int .u64 t373, .int .u64 t374, .int .u64 t375, .int .u64 t376, .int .u64 t377, .string t378] 24 (0, 0)) (by (with_reducible repeat (first | refine blk_drewN ?_ _ | refine blk_drew ?_ | refine blk_alloc ?_ _)); exact BK379.out) hb); have n2_ := Aside0.mk (below_step (by repeat (first | (with_reducible first | exact HB.out | apply below_alloc | apply pw_below_drewN | apply below_drew1 | refine below_set ?_ GE379.out) | exact HB.out)) hb); have n3_ := Aside0.mk (hbox); have n4_ := Aside0.mk ((by rw [hg]; exact (below_size (by repeat (first | (with_reducible first | exact HB.out | apply below_alloc | apply pw_below_drewN | apply below_drew1 | refine below_set ?_ GE379.out) | exact HB.out))) : w.heap.size ≤ gb400)); have n5_ := Aside0.mk ((by rw [hg]; exact (below_size (by repeat (first | (with_reducible first | exact HB.out | apply below_alloc | apply pw_below_drewN | apply below_drew1 | refine below_set ?_ GE379.out) | exact HB.out))) : w.heap.size ≤ gb400)); have n6_ := Aside0.mk ((by rw [hg]; exact Nat.ne_of_lt (blk_lt (g := gb379) (o := .cells #[.int .u64 (Int.tmod a1 4000000000), .int .u64 (IntKind.u64.wrap (1200 + (Int.tmod a0 60000))), .int .u64 t369, .int .u64 t370, .int .u64 t371, .int .u64 t372, .int .u64 t373, .int .u64 t374, .int .u64 t375, .int .u64 t376, .int .u64 t377, .string t378] 24 (0, 0)) (by (with_reducible repeat (first | refine blk_drewN ?_ _ | refine blk_drew ?_ | refine blk_alloc ?_ _)); exact BK379.out)) : gb379 ≠ gb400)); have n7_ := Aside0.mk ((by rw [hg]; exact Nat.ne_of_gt (blk_lt (g := gb379) (o := .cells #[.int .u64 (Int.tmod a1 4000000000), .int .u64 (IntKind.u64.wrap (1200 + (Int.tmod a0 60000))), .int .u64 t369, .int .u64 t370, .int .u64 t371, .int .u64 t372, .int .u64 t373, .int .u64 t374, .int .u64 t375, .int .u64 t376, .int .u64 t377, .string t378] 24 (0, 0)) (by (with_reducible repeat (first | refine blk_drewN ?_ _ | refine blk_drew ?_ | refine blk_alloc ?_ _)); exact BK379.out)) : gb400 ≠ gb379)); clear HO386; clear BK379; clear HB; have HO386 := n0_; have BK379 := n1_; have HB := n2_; have BK400 := n3_; have GW400 := n4_; have GE400 := n5_; have NB379_400 := n6_; have NB400_379 := n7_; clear n0_ n1_ n2_ n3_ n4_ n5_ n6_ n7_; clear hb hbox hg; have hnb37 := NB400_379.out; have hnc37 := NB379_400.out; have hcz38_0 : w36.cell? ⟨gb400, 0, none⟩ = some (.int .u64 0) := (blk_cell BK400.out 0).trans rfl; have hcz38_1 : w36.cell? ⟨gb400, 1, none⟩ = some (.int .u64 0) := (blk_cell BK400.out 1).trans rfl; have hcz38_2 : w36.cell? ⟨gb400, 2, none⟩ = some (.int .u64 0) := (blk_cell BK400.out 2).trans rfl; have hcz38_3 : w36.cell? ⟨gb400, 3, none⟩ = some (.int .u64 0) := (blk_cell BK400.out 3).trans rfl; have hcz38_4 : w36.cell? ⟨gb400, 4, none⟩ = some (.int .u64 0) := (blk_cell BK400.out 4).trans rfl; have hcz38_5 : w36.cell? ⟨gb400, 5, none⟩ = some (.int .u64 0) := (blk_cell BK400.out 5).trans rfl; have hcz38_6 : w36.cell? ⟨gb400, 6, none⟩ = some (.int .u64 0) := (blk_cell BK400.out 6).trans rfl; have hcz38_7 : w36.cell? ⟨gb400, 7, none⟩ = some (.int .u64 0) := (blk_cell BK400.out 7).trans rfl; have hcz38_8 : w36.cell? ⟨gb400, 8, none⟩ = some (.int .u64 0) := (blk_cell BK400.out 8).trans rfl; have hcz38_9 : w36.cell? ⟨gb400, 9, none⟩ = some (.int .u64 0) := (blk_cell BK400.out 9).trans rfl; have hcz38_10 : w36.cell? ⟨gb400, 10, none⟩ = some (.int .u64 0) := (blk_cell BK400.out 10).trans rfl; have hcz38_11 : w36.cell? ⟨gb400, 11, none⟩ = some (.string (⟨#[]⟩ : ByteArray)) := (blk_cell BK400.out 11).trans rfl; have hfz38_0 := blk_frozen BK400.out 0; have hfz38_1 := blk_frozen BK400.out 1; have hfz38_2 := blk_frozen BK400.out 2; have hfz38_3 := blk_frozen BK400.out 3; have hfz38_4 := blk_frozen BK400.out 4; have hfz38_5 := blk_frozen BK400.out 5; have hfz38_6 := blk_frozen BK400.out 6; have hfz38_7 := blk_frozen BK400.out 7; have hfz38_8 := blk_frozen BK400.out 8; have hfz38_9 := blk_frozen BK400.out 9; have hfz38_10 := blk_frozen BK400.out 10; have hfz38_11 := blk_frozen BK400.out 11) | ((with_reducible refine gate_callee (f := 11) rfl ?_); refine goesL_ (some 74) rfl rfl Tryd.func11 (by kernel_rfl) rfl #[.string ((((((⟨#[64, 255]⟩ : ByteArray) ++ (strOfNums y384)) ++ a2) ++ t380) ++ t382) ++ (((⟨#[64, 255]⟩ : ByteArray) ++ (strOfNums y384)) ++ a2))] rfl (by (try simp only [List.map_toArray, List.map_cons, List.map_nil]); first | done | rfl | (simp only [List.length_drop, List.length_take]; rfl)) ?_; (with_reducible refine (params_Get.calls kj3 ((((((⟨#[64, 255]⟩ : ByteArray) ++ (strOfNums y384)) ++ a2) ++ t380) ++ t382) ++ (((⟨#[64, 255]⟩ : ByteArray) ++ (strOfNums y384)) ++ a2)) t401 t402 t403 t404 t405 t406 t407 t408 t409 t410 t411 t412 t413 _ A22.out).mono ?_); rintro e w39 ⟨rfl, hb⟩; refine ⟨_, rfl, ?_⟩; have n0_ := Aside0.mk (Kd.R_below (by (with_reducible repeat (first | apply Kd.R_alloc | apply Kd.R_drewN | apply Kd.R_drew)); exact (Kd.R_mono (Kd.R_far (p := ⟨gb400, 11, none⟩) (Kd.R_far (p := ⟨gb400, 10, none⟩) (Kd.R_far (p := ⟨gb400, 9, none⟩) (Kd.R_far (p := ⟨gb400, 8, none⟩) (Kd.R_far (p := ⟨gb400, 7, none⟩) (Kd.R_far (p := ⟨gb400, 6, none⟩) (Kd.R_far (p := ⟨gb400, 5, none⟩) (Kd.R_far (p := ⟨gb400, 4, none⟩) (Kd.R_far (p := ⟨gb400, 3, none⟩) (Kd.R_far (p := ⟨gb400, 2, none⟩) (Kd.R_far (p := ⟨gb400, 1, none⟩) (Kd.R_far (p := ⟨gb400, 0, none⟩) (Kd.R_types HO386.out BK400.out (by decide)) (fun _ hk => hk.2) (.int .u64 t387)) (fun _ hk => hk.2) (.int .u64 t388)) (fun _ hk => hk.2) (.int .u64 t389)) (fun _ hk => hk.2) (.int .u64 t390)) (fun _ hk => hk.2) (.int .u64 t391)) (fun _ hk => hk.2) (.int .u64 t392)) (fun _ hk => hk.2) (.int .u64 t393)) (fun _ hk => hk.2) (.int .u64 t394)) (fun _ hk => hk.2) (.int .u64 t395)) (fun _ hk => hk.2) (.int .u64 t396)) (fun _ hk => hk.2) (.int .u64 t397)) (fun _ hk => hk.2) (.string t398)) (fun _ h_ => h_.1))) hb); have n1_ := Aside0.mk (blk_below (g := gb379) (o := .cells #[.int .u64 (Int.tmod a1 4000000000), .int .u64 (IntKind.u64.wrap (1200 + (Int.tmod a0 60000))), .int .u64 t369, .int .u64 t370, .int .u64 t371, .int .u64 t372, .int .u64 t373, .int .u64 t374, .int .u64 t375, .int .u64 t376, .int .u64 t377, .string t378] 24 (0, 0)) (by (with_reducible repeat (first | refine blk_drewN ?_ _ | refine blk_drew ?_ | refine blk_alloc ?_ _)); refine blk_far ?_ NB379_400.out _; (with_reducible repeat (first | refine blk_drewN ?_ _ | refine blk_drew ?_ | refine blk_alloc ?_ _)); refine blk_far ?_ NB379_400.out _; (with_reducible repeat (first | refine blk_drewN ?_ _ | refine blk_drew ?_ | refine blk_alloc ?_ _)); refine blk_far ?_ NB379_400.out _; (with_reducible repeat (first | refine blk_drewN ?_ _ | refine blk_drew ?_ | refine blk_alloc ?_ _)); refine blk_far ?_ NB379_400.out _; (with_reducible repeat (first | refine blk_drewN ?_ _ | refine blk_drew ?_ | refine blk_alloc ?_ _)); refine blk_far ?_ NB379_400.out _; (with_reducible repeat (first | refine blk_drewN ?_ _ | refine blk_drew ?_ | refine blk_alloc ?_ _)); refine blk_far ?_ NB379_400.out _; (with_reducible repeat (first | refine blk_drewN ?_ _ | refine blk_drew ?_ | refine blk_alloc ?_ _)); refine blk_far ?_ NB379_400.out _; (with_reducible repeat (first | refine blk_drewN ?_ _ | refine blk_drew ?_ | refine blk_alloc ?_ _)); refine blk_far ?_ NB379_400.out _; (with_reducible repeat (first | refine blk_drewN ?_ _ | refine blk_drew ?_ | refine blk_alloc ?_ _)); refine blk_far ?_ NB379_400.out _; (with_reducible repeat (first | refine blk_drewN ?_ _ | refine blk_drew ?_ | refine blk_alloc ?_ _)); refine blk_far ?_ NB379_400.out _; (with_reducible repeat (first | refine blk_drewN ?_ _ | refine blk_drew ?_ | refine blk_alloc ?_ _)); refine blk_far ?_ NB379_400.out _; (with_reducible repeat (first | refine blk_drewN ?_ _ | refine blk_drew ?_ | refine blk_alloc ?_ _)); refine blk_far ?_ NB379_400.out _; (with_reducible repeat (first | refine blk_drewN ?_ _ | refine blk_drew ?_ | refine blk_alloc ?_ _)); exact BK379.out) hb); have n2_ := Aside0.mk (blk_below (g := gb400) (o := .cells #[.int .u64 t387, .int .u64 t388, .int .u64 t389, .int .u64 t390, .int .u64 t391, .int .u64 t392, .int .u64 t393, .int .u64 t394, .int .u64 t395, .int .u64 t396, .int .u64 t397, .string t398] 24 (0, 0)) (by (with_reducible repeat (first | refine blk_drewN ?_ _ | refine blk_drew ?_ | refine blk_alloc ?_ _)); refine blk_put (cs := #[.int .u64 t387, .int .u64 t388, .int .u64 t389, .int .u64 t390, .int .u64 t391, .int .u64 t392, .int .u64 t393, .int .u64 t394, .int .u64 t395, .int .u64 t396, .int .u64 t397, .string (⟨#[]⟩ : ByteArray)]) ?_ 11 _ rfl; (with_reducible repeat (first | refine blk_drewN ?_ _ | refine blk_drew ?_ | refine blk_alloc ?_ _)); refine blk_put (cs := #[.int .u64 t387, .int .u64 t388, .int .u64 t389, .int .u64 t390, .int .u64 t391, .int .u64 t392, .int .u64 t393, .int .u64 t394, .int .u64 t395, .int .u64 t396, .int .u64 0, .string (⟨#[]⟩ : ByteArray)]) ?_ 10 _ rfl; (with_reducible repeat (first | refine blk_drewN ?_ _ | refine blk_drew ?_ | refine blk_alloc ?_ _)); refine blk_put (cs := #[.int .u64 t387, .int .u64 t388, .int .u64 t389, .int .u64 t390, .int .u64 t391, .int .u64 t392, .int .u64 t393, .int .u64 t394, .int .u64 t395, .int .u64 0, .int .u64 0, .string (⟨#[]⟩ : ByteArray)]) ?_ 9 _ rfl; (with_reducible repeat (first | refine blk_drewN ?_ _ | refine blk_drew ?_ | refine blk_alloc ?_ _)); refine blk_put (cs := #[.int .u64 t387, .int .u64 t388, .int .u64 t389, .int .u64 t390, .int .u64 t391, .int .u64 t392, .int .u64 t393, .int .u64 t394, .int .u64 0, .int .u64 0, .int .u64 0, .string (⟨#[]⟩ : ByteArray)]) ?_ 8 _ rfl; (with_reducible repeat (first | refine blk_drewN ?_ _ | refine blk_drew ?_ | refine blk_alloc ?_ _)); refine blk_put (cs := #[.int .u64 t387, .int .u64 t388, .int .u64 t389, .int .u64 t390, .int .u64 t391, .int .u64 t392, .int .u64 t393, .int .u64 0, .int .u64 0, .int .u64 0, .int .u64 0, .string (⟨#[]⟩ : ByteArray)]) ?_ 7 _ rfl; (with_reducible repeat (first | refine blk_drewN ?_ _ | refine blk_drew ?_ | refine blk_alloc ?_ _)); refine blk_put (cs := #[.int .u64 t387, .int .u64 t388, .int .u64 t389, .int .u64 t390, .int .u64 t391, .int .u64 t392, .int .u64 0, .int .u64 0, .int .u64 0, .int .u64 0, .int .u64 0, .string (⟨#[]⟩ : ByteArray)]) ?_ 6 _ rfl; (with_reducible repeat (first | refine blk_drewN ?_ _ | refine blk_drew ?_ | refine blk_alloc ?_ _)); refine blk_put (cs := #[.int .u64 t387, .int .u64 t388, .int .u64 t389, .int .u64 t390, .int .u64 t391, .int .u64 0, .int .u64 0, .int .u64 0, .int .u64 0, .int .u64 0, .int .u64 0, .string (⟨#[]⟩ : ByteArray)]) ?_ 5 _ rfl; (with_reducible repeat (first | refine blk_drewN ?_ _ | refine blk_drew ?_ | refine blk_alloc ?_ _)); refine blk_put (cs := #[.int .u64 t387, .int .u64 t388, .int .u64 t389, .int .u64 t390, .int .u64 0, .int .u64 0, .int .u64 0, .int .u64 0, .int .u64 0, .int .u64 0, .int .u64 0, .string (⟨#[]⟩ : ByteArray)]) ?_ 4 _ rfl; (with_reducible repeat (first | refine blk_drewN ?_ _ | refine blk_drew ?_ | refine blk_alloc ?_ _)); refine blk_put (cs := #[.int .u64 t387, .int .u64 t388, .int .u64 t389, .int .u64 0, .int .u64 0, .int .u64 0, .int .u64 0, .int .u64 0, .int .u64 0, .int .u64 0, .int .u64 0, .string (⟨#[]⟩ : ByteArray)]) ?_ 3 _ rfl; (with_reducible repeat (first | refine blk_drewN ?_ _ | refine blk_drew ?_ | refine blk_alloc ?_ _)); refine blk_put (cs := #[.int .u64 t387, .int .u64 t388, .int .u64 0, .int .u64 0, .int .u64 0, .int .u64 0, .int .u64 0, .int .u64 0, .int .u64 0, .int .u64 0, .int .u64 0, .string (⟨#[]⟩ : ByteArray)]) ?_ 2 _ rfl; (with_reducible repeat (first | refine blk_drewN ?_ _ | refine blk_drew ?_ | refine blk_alloc ?_ _)); refine blk_put (cs := #[.int .u64 t387, .int .u64 0, .int .u64 0, .int .u64 0, .int .u64 0, .int .u64 0, .int .u64 0, .int .u64 0, .int .u64 0, .int .u64 0, .int .u64 0, .string (⟨#[]⟩ : ByteArray)]) ?_ 1 _ rfl; (with_reducible repeat (first | refine blk_drewN ?_ _ | refine blk_drew ?_ | refine blk_alloc ?_ _)); refine blk_put (cs := #[.int .u64 0, .int .u64 0, .int .u64 0, .int .u64 0, .int .u64 0, .int .u64 0, .int .u64 0, .int .u64 0, .int .u64 0, .int .u64 0, .int .u64 0, .string (⟨#[]⟩ : ByteArray)]) ?_ 0 _ rfl; (with_reducible repeat (first | refine blk_drewN ?_ _ | refine blk_drew ?_ | refine blk_alloc ?_ _)); exact BK400.out) hb); have n3_ := Aside0.mk (below_step (by repeat (first | (with_reducible first | exact HB.out | apply below_alloc | apply pw_below_drewN | apply below_drew1 | refine below_set ?_ GE379.out | refine below_set ?_ GE400.out) | exact HB.out)) hb); clear HO386; clear BK379; clear BK400; clear HB; have HO386 := n0_; have BK379 := n1_; have BK400 := n2_; have HB := n3_; clear n0_ n1_ n2_ n3_; (try clear hb); (try clear hb2); (try clear hk); (try clear hi)) | ((with_reducible refine gate_dst (N := 17) rfl ?_); refine box_event ?hg (N := 17) ?hd (cs := #[.int .u64 0, .int .u64 0, .int .u64 0, .int .u64 0, .int .u64 0, .int .u64 0, .int .u64 0, .int .u64 0, .int .u64 0, .int .u64 0, .int .u64 0, .string (⟨#[]⟩ : ByteArray)]) (t := 24) ?hr ?_; (case hd => rfl); (case hg => rfl); (case hr => first | (go_simp; done) | (go_simp; rfl)); intro gb414 hg w40 hbox hb; have n0_ := Aside0.mk (Kd.R_below (by (with_reducible repeat (first | apply Kd.R_alloc | apply Kd.R_drewN | apply Kd.R_drew)); exact HO386.out) hb); have n1_ := Aside0.mk (blk_below (g := gb379) (o := .cells #[.int .u64 (Int.tmod a1 4000000000), .int .u64 (IntKind.u64.wrap (1200 + (Int.tmod a0 60000))), .int .u64 t369, .int .u64 t370, .int .u64 t371, .int .u64 t372, .int .u64 t373, .int .u64 t374, .int .u64 t375, .int .u64 t376, .int .u64 t377, .string t378] 24 (0, 0)) (by (with_reducible repeat (first | refine blk_drewN ?_ _ | refine blk_drew ?_ | refine blk_alloc ?_ _)); exact BK379.out) hb); have n2_ := Aside0.mk (blk_below (g := gb400) (o := .cells #[.int .u64 t387, .int .u64 t388, .int .u64 t389, .int .u64 t390, .int .u64 t391, .int .u64 t392, .int .u64 t393, .int .u64 t394, .int .u64 t395, .int .u64 t396, .int .u64 t397, .string t398] 24 (0, 0)) (by (with_reducible repeat (first | refine blk_drewN ?_ _ | refine blk_drew ?_ | refine blk_alloc ?_ _)); exact BK400.out) hb); have n3_ := Aside0.mk (below_step (by repeat (first | (with_reducible first | exact HB.out | apply below_alloc | apply pw_below_drewN | apply below_drew1 | refine below_set ?_ GE379.out | refine below_set ?_ GE400.out) | exact HB.out)) hb); have n4_ := Aside0.mk (hbox); have n5_ := Aside0.mk ((by rw [hg]; exact (below_size (by repeat (first | (with_reducible first | exact HB.out | apply below_alloc | apply pw_below_drewN | apply below_drew1 | refine below_set ?_ GE379.out | refine below_set ?_ GE400.out) | exact HB.out))) : w.heap.size ≤ gb414)); have n6_ := Aside0.mk ((by rw [hg]; exact (below_size (by repeat (first | (with_reducible first | exact HB.out | apply below_alloc | apply pw_below_drewN | apply below_drew1 | refine below_set ?_ GE379.out | refine below_set ?_ GE400.out) | exact HB.out))) : w.heap.size ≤ gb414)); have n7_ := Aside0.mk ((by rw [hg]; exact Nat.ne_of_lt (blk_lt (g := gb379) (o := .cells #[.int .u64 (Int.tmod a1 4000000000), .int .u64 (IntKind.u64.wrap (1200 + (Int.tmod a0 60000))), .int .u64 t369, .int .u64 t370, .int .u64 t371, .int .u64 t372, .int .u64 t373, .int .u64 t374, .int .u64 t375, .int .u64 t376, .int .u64 t377, .string t378] 24 (0, 0)) (by (with_reducible repeat (first | refine blk_drewN ?_ _ | refine blk_drew ?_ | refine blk_alloc ?_ _)); exact BK379.out)) : gb379 ≠ gb414)); have n8_ := Aside0.mk ((by rw [hg]; exact Nat.ne_of_gt (blk_lt (g := gb379) (o := .cells #[.int .u64 (Int.tmod a1 4000000000), .int .u64 (IntKind.u64.wrap (1200 + (Int.tmod a0 60000))), .int .u64 t369, .int .u64 t370, .int .u64 t371, .int .u64 t372, .int .u64 t373, .int .u64 t374, .int .u64 t375, .int .u64 t376, .int .u64 t377, .string t378] 24 (0, 0)) (by (with_reducible repeat (first | refine blk_drewN ?_ _ | refine blk_drew ?_ | refine blk_alloc ?_ _)); exact BK379.out)) : gb414 ≠ gb379)); have n9_ := Aside0.mk ((by rw [hg]; exact Nat.ne_of_lt (blk_lt (g := gb400) (o := .cells #[.int .u64 t387, .int .u64 t388, .int .u64 t389, .int .u64 t390, .int .u64 t391, .int .u64 t392, .int .u64 t393, .int .u64 t394, .int .u64 t395, .int .u64 t396, .int .u64 t397, .string t398] 24 (0, 0)) (by (with_reducible repeat (first | refine blk_drewN ?_ _ | refine blk_drew ?_ | refine blk_alloc ?_ _)); exact BK400.out)) : gb400 ≠ gb414)); have n10_ := Aside0.mk ((by rw [hg]; exact Nat.ne_of_gt (blk_lt (g := gb400) (o := .cells #[.int .u64 t387, .int .u64 t388, .int .u64 t389, .int .u64 t390, .int .u64 t391, .int .u64 t392, .int .u64 t393, .int .u64 t394, .int .u64 t395, .int .u64 t396, .int .u64 t397, .string t398] 24 (0, 0)) (by (with_reducible repeat (first | refine blk_drewN ?_ _ | refine blk_drew ?_ | refine blk_alloc ?_ _)); exact BK400.out)) : gb414 ≠ gb400)); clear HO386; clear BK379; clear BK400; clear HB; have HO386 := n0_; have BK379 := n1_; have BK400 := n2_; have HB := n3_; have BK414 := n4_; have GW414 := n5_; have GE414 := n6_; have NB379_414 := n7_; have NB414_379 := n8_; have NB400_414 := n9_; have NB414_400 := n10_; clear n0_ n1_ n2_ n3_ n4_ n5_ n6_ n7_ n8_ n9_ n10_; clear hb hbox hg; have hnb41 := NB414_379.out; have hnc41 := NB379_414.out; have hnb42 := NB414_400.out; have hnc42 := NB400_414.out; have hcz43_0 : w40.cell? ⟨gb414, 0, none⟩ = some (.int .u64 0) := (blk_cell BK414.out 0).trans rfl; have hcz43_1 : w40.cell? ⟨gb414, 1, none⟩ = some (.int .u64 0) := (blk_cell BK414.out 1).trans rfl; have hcz43_2 : w40.cell? ⟨gb414, 2, none⟩ = some (.int .u64 0) := (blk_cell BK414.out 2).trans rfl; have hcz43_3 : w40.cell? ⟨gb414, 3, none⟩ = some (.int .u64 0) := (blk_cell BK414.out 3).trans rfl; have hcz43_4 : w40.cell? ⟨gb414, 4, none⟩ = some (.int .u64 0) := (blk_cell BK414.out 4).trans rfl; have hcz43_5 : w40.cell? ⟨gb414, 5, none⟩ = some (.int .u64 0) := (blk_cell BK414.out 5).trans rfl; have hcz43_6 : w40.cell? ⟨gb414, 6, none⟩ = some (.int .u64 0) := (blk_cell BK414.out 6).trans rfl; have hcz43_7 : w40.cell? ⟨gb414, 7, none⟩ = some (.int .u64 0) := (blk_cell BK414.out 7).trans rfl; have hcz43_8 : w40.cell? ⟨gb414, 8, none⟩ = some (.int .u64 0) := (blk_cell BK414.out 8).trans rfl; have hcz43_9 : w40.cell? ⟨gb414, 9, none⟩ = some (.int .u64 0) := (blk_cell BK414.out 9).trans rfl; have hcz43_10 : w40.cell? ⟨gb414, 10, none⟩ = some (.int .u64 0) := (blk_cell BK414.out 10).trans rfl; have hcz43_11 : w40.cell? ⟨gb414, 11, none⟩ = some (.string (⟨#[]⟩ : ByteArray)) := (blk_cell BK414.out 11).trans rfl; have hfz43_0 := blk_frozen BK414.out 0; have hfz43_1 := blk_frozen BK414.out 1; have hfz43_2 := blk_frozen BK414.out 2; have hfz43_3 := blk_frozen BK414.out 3; have hfz43_4 := blk_frozen BK414.out 4; have hfz43_5 := blk_frozen BK414.out 5; have hfz43_6 := blk_frozen BK414.out 6; have hfz43_7 := blk_frozen BK414.out 7; have hfz43_8 := blk_frozen BK414.out 8; have hfz43_9 := blk_frozen BK414.out 9; have hfz43_10 := blk_frozen BK414.out 10; have hfz43_11 := blk_frozen BK414.out 11; have hcz44_0 : w40.cell? ⟨gb400, 0, none⟩ = some (.int .u64 t387) := (blk_cell BK400.out 0).trans rfl; have hcz44_1 : w40.cell? ⟨gb400, 1, none⟩ = some (.int .u64 t388) := (blk_cell BK400.out 1).trans rfl; have hcz44_2 : w40.cell? ⟨gb400, 2, none⟩ = some (.int .u64 t389) := (blk_cell BK400.out 2).trans rfl; have hcz44_3 : w40.cell? ⟨gb400, 3, none⟩ = some (.int .u64 t390) := (blk_cell BK400.out 3).trans rfl; have hcz44_4 : w40.cell? ⟨gb400, 4, none⟩ = some (.int .u64 t391) := (blk_cell BK400.out 4).trans rfl; have hcz44_5 : w40.cell? ⟨gb400, 5, none⟩ = some (.int .u64 t392) := (blk_cell BK400.out 5).trans rfl; have hcz44_6 : w40.cell? ⟨gb400, 6, none⟩ = some (.int .u64 t393) := (blk_cell BK400.out 6).trans rfl; have hcz44_7 : w40.cell? ⟨gb400, 7, none⟩ = some (.int .u64 t394) := (blk_cell BK400.out 7).trans rfl; have hcz44_8 : w40.cell? ⟨gb400, 8, none⟩ = some (.int .u64 t395) := (blk_cell BK400.out 8).trans rfl; have hcz44_9 : w40.cell? ⟨gb400, 9, none⟩ = some (.int .u64 t396) := (blk_cell BK400.out 9).trans rfl; have hcz44_10 : w40.cell? ⟨gb400, 10, none⟩ = some (.int .u64 t397) := (blk_cell BK400.out 10).trans rfl; have hcz44_11 : w40.cell? ⟨gb400, 11, none⟩ = some (.string t398) := (blk_cell BK400.out 11).trans rfl; have hfz44_0 := blk_frozen BK400.out 0; have hfz44_1 := blk_frozen BK400.out 1; have hfz44_2 := blk_frozen BK400.out 2; have hfz44_3 := blk_frozen BK400.out 3; have hfz44_4 := blk_frozen BK400.out 4; have hfz44_5 := blk_frozen BK400.out 5; have hfz44_6 := blk_frozen BK400.out 6; have hfz44_7 := blk_frozen BK400.out 7; have hfz44_8 := blk_frozen BK400.out 8; have hfz44_9 := blk_frozen BK400.out 9; have hfz44_10 := blk_frozen BK400.out 10; have hfz44_11 := blk_frozen BK400.out 11; have hcz45_0 : w40.cell? ⟨gb379, 0, none⟩ = some (.int .u64 (Int.tmod a1 4000000000)) := (blk_cell BK379.out 0).trans rfl; have hcz45_1 : w40.cell? ⟨gb379, 1, none⟩ = some (.int .u64 (IntKind.u64.wrap (1200 + (Int.tmod a0 60000)))) := (blk_cell BK379.out 1).trans rfl; have hcz45_2 : w40.cell? ⟨gb379, 2, none⟩ = some (.int .u64 t369) := (blk_cell BK379.out 2).trans rfl; have hcz45_3 : w40.cell? ⟨gb379, 3, none⟩ = some (.int .u64 t370) := (blk_cell BK379.out 3).trans rfl; have hcz45_4 : w40.cell? ⟨gb379, 4, none⟩ = some (.int .u64 t371) := (blk_cell BK379.out 4).trans rfl; have hcz45_5 : w40.cell? ⟨gb379, 5, none⟩ = some (.int .u64 t372) := (blk_cell BK379.out 5).trans rfl; have hcz45_6 : w40.cell? ⟨gb379, 6, none⟩ = some (.int .u64 t373) := (blk_cell BK379.out 6).trans rfl; have hcz45_7 : w40.cell? ⟨gb379, 7, none⟩ = some (.int .u64 t374) := (blk_cell BK379.out 7).trans rfl; have hcz45_8 : w40.cell? ⟨gb379, 8, none⟩ = some (.int .u64 t375) := (blk_cell BK379.out 8).trans rfl; have hcz45_9 : w40.cell? ⟨gb379, 9, none⟩ = some (.int .u64 t376) := (blk_cell BK379.out 9).trans rfl; have hcz45_10 : w40.cell? ⟨gb379, 10, none⟩ = some (.int .u64 t377) := (blk_cell BK379.out 10).trans rfl; have hcz45_11 : w40.cell? ⟨gb379, 11, none⟩ = some (.string t378) := (blk_cell BK379.out 11).trans rfl; have hfz45_0 := blk_frozen BK379.out 0; have hfz45_1 := blk_frozen BK379.out 1; have hfz45_2 := blk_frozen BK379.out 2; have hfz45_3 := blk_frozen BK379.out 3; have hfz45_4 := blk_frozen BK379.out 4; have hfz45_5 := blk_frozen BK379.out 5; have hfz45_6 := blk_frozen BK379.out 6; have hfz45_7 := blk_frozen BK379.out 7; have hfz45_8 := blk_frozen BK379.out 8; have hfz45_9 := blk_frozen BK379.out 9; have hfz45_10 := blk_frozen BK379.out 10; have hfz45_11 := blk_frozen BK379.out 11))
               go_ret
               exact ⟨by first | rfl | (have hq_ := of_eq_true c26q; simp [errW_none, errW_some, hq_, bne]; done) | (have hq_ := of_eq_true c26q; simp [errW_none, errW_some, hq_, bne]; rfl) | (simp [errW_none, errW_some] <;> rfl) | (simp [*, errW_none, errW_some] <;> rfl), by repeat (first | (with_reducible first | exact HB.out | apply below_alloc | apply pw_below_drewN | apply below_drew1 | refine below_set ?_ GE379.out | refine below_set ?_ GE400.out | refine below_set ?_ GE414.out) | exact HB.out)⟩
              ·rw [if_neg c26] at H
               exact absurd H (by simp)
             ·rw [if_neg c25] at H
              exact absurd H (by simp)
            ·rw [if_neg c24] at H
             exact absurd H (by simp)
           ·rw [if_neg c23] at H
            exact absurd H (by simp)
          ·rw [if_neg c21] at H
           exact absurd H (by simp)
         ·rw [if_neg c20] at H
          exact absurd H (by simp)
        ·rw [if_neg c19] at H
         exact absurd H (by simp)
       ·rw [if_neg c17] at H
        exact absurd H (by simp)
      ·rw [if_neg c16] at H
       exact absurd H (by simp)
     ·rw [if_neg c15] at H
      exact absurd H (by simp)
    ·rw [if_neg c14] at H
     exact absurd H (by simp)

/-- THE ONE PURE STATEMENT of dominolaw05_ParamsOrder: yours. -/
def dominolaw05_ParamsOrder.Pure : Prop := ∀ (a0 : Int) (a1 : Int) (a2 : ByteArray), (Lit.int .u64 a0).wf = true → (Lit.int .u64 a1).wf = true → a2.size ≤ 140737488351232 → ∃ k, dominolaw05_ParamsOrder.f k a0 a1 a2 = some true
theorem dominolaw05_ParamsOrder.walk (P : dominolaw05_ParamsOrder.Pure) (a0 : Int) (a1 : Int) (a2 : ByteArray) (w : World) (w0 : (Lit.int .u64 a0).wf = true) (w1 : (Lit.int .u64 a1).wf = true) (w2 : a2.size ≤ 140737488351232) (ht : Tab w) :
  Calls Tryd.prog 5 #[.int .u64 a0, .int .u64 a1, .string a2] w fun e w' => e = .returned (.bool true) ∧ Below w.heap.size w w' := by
 obtain ⟨k, h⟩ := P a0 a1 a2 w0 w1 w2
 refine (dominolaw05_ParamsOrder.calls k a0 a1 a2 true w ht h).mono ?_
 rintro e w' ⟨rfl, hd⟩
 exact ⟨rfl, hd⟩

end Go.Proofs.YthbnedjcaflofaaDoor.PPax
