-- printed for this claim by a program of the claim (wip/tools/pp.py over the kit's print)
import Derived.Test.YtjpafikgbnloaaaDoorPHdqx0
import Derived.Test.YtjpafikgbnloaaaDoorPHdqx1
import Derived.Test.YtjpafikgbnloaaaDoorPHdqx2
import Derived.Test.YtjpafikgbnloaaaDoorPHdqx3
import Derived.Test.YtjpafikgbnloaaaDoorPHdqx4
import Derived.Test.YtjpafikgbnloaaaDoorPHdqx7
import Derived.Test.YtjpafikgbnloaaaDoorPHdqx8
namespace Go.Proofs.YtjpafikgbnloaaaDoor.PHdq
open Go.RowKit Go.Proofs.YtjpafikgbnloaaaDoorW.PrintWords Go.Proofs.YtjpafikgbnloaaaDoorW.PrintLast Go.Proofs.YtjpafikgbnloaaaDoorW.PrintMore
attribute [local go_sem] max2_int min2_int max_two min_two max_three min_three max_four min_four   -- for this text's walks alone
set_option linter.unusedVariables false
set_option linter.unusedSimpArgs false

attribute [local go_sem] isSome_setCell_
attribute [local go_sem high] eqA25
/-! ### dominolaw04_HeaderBack: function 4 -/
mutual
def dominolaw04_HeaderBack.j0 : Nat → ByteArray → Bool → Bool → Bool → Bool → Int → Int → ByteArray → ByteArray → ByteArray → Int → Int → Int → Option (Bool)
 | 0, _, _, _, _, _, _, _, _, _, _, _, _, _ => none
 | k + 1, x1, x24, x345000, x345001, x345002, x345003, x345004, x345005, x345006, x345007, x345008, x345009, x345010 => if x24 = true then ((dominolaw04_shown.f k).bind fun t347 => (some t347)) else ((header_Put.f k x345000 x345001 x345002 x345003 x345004 x345005 x345006 x345007 x345008 x345009 x345010).bind fun bt348 => (if bt348.2 = 0 then (if bt348.1.size + x1.size ≤ 9223372036854775807 then ((header_Get.f k (bt348.1 ++ x1)).bind fun bt350 => (if bt350.2.2.2.2.2.2.2.2.2.2.2.2 = 0 then (if (!(bt350.1 == x345000) || (!(bt350.2.1 == x345001) || (!(bt350.2.2.1 == x345002) || (!(bt350.2.2.2.1 == x345003) || (!(bt350.2.2.2.2.1 == x345004) || (!(bt350.2.2.2.2.2.1.toList == x345005.toList) || (!(bt350.2.2.2.2.2.2.1.toList == x345006.toList) || (!(bt350.2.2.2.2.2.2.2.1.toList == x345007.toList) || (!(bt350.2.2.2.2.2.2.2.2.1 == x345008) || (!(bt350.2.2.2.2.2.2.2.2.2.1 == x345009) || (!(bt350.2.2.2.2.2.2.2.2.2.2.1 == x345010)))))))))))) = true then (none) else (if bt350.2.2.2.2.2.2.2.2.2.2.2.1.toList = x1.toList then (dominolaw04_HeaderBack.j1 k x1) else (none))) else (none))) else (none)) else (dominolaw04_HeaderBack.j1 k x1)))
def dominolaw04_HeaderBack.j1 : Nat → ByteArray → Option (Bool)
 | 0, _ => none
 | k + 1, x1 => (header_Get.f k x1).bind fun bt364 => (if bt364.2.2.2.2.2.2.2.2.2.2.2.2 = 0 then ((header_May.f k bt364.1 bt364.2.1 bt364.2.2.1 bt364.2.2.2.1 bt364.2.2.2.2.1 bt364.2.2.2.2.2.1 bt364.2.2.2.2.2.2.1 bt364.2.2.2.2.2.2.2.1 bt364.2.2.2.2.2.2.2.2.1 bt364.2.2.2.2.2.2.2.2.2.1 bt364.2.2.2.2.2.2.2.2.2.2.1).bind fun t378 => (if t378 = true then (some (decide ((bt364.2.2.2.2.2.2.2.2.2.2.2.1.size : Int) < (x1.size : Int)))) else (none))) else (if bt364.2.2.2.2.2.2.2.2.2.2.2.2 = 40 then (if bt364.2.2.2.2.2.2.2.2.2.2.2.1.toList = ([] : List UInt8) then (some (!bt364.1 && (!bt364.2.1 && (!bt364.2.2.1 && (bt364.2.2.2.1 == 0 && (bt364.2.2.2.2.1 == 0 && (bt364.2.2.2.2.2.1.toList == ([] : List UInt8) && (bt364.2.2.2.2.2.2.1.toList == ([] : List UInt8) && (bt364.2.2.2.2.2.2.2.1.toList == ([] : List UInt8) && (bt364.2.2.2.2.2.2.2.2.1 == 0 && (bt364.2.2.2.2.2.2.2.2.2.1 == 0 && (bt364.2.2.2.2.2.2.2.2.2.2.1 == 0)))))))))))) else (none)) else (none)))
end
def dominolaw04_HeaderBack.f (k : Nat) (a0_0 : Bool) (a0_1 : Bool) (a0_2 : Bool) (a0_3 : Int) (a0_4 : Int) (a0_5 : ByteArray) (a0_6 : ByteArray) (a0_7 : ByteArray) (a0_8 : Int) (a0_9 : Int) (a0_10 : Int) (a1 : ByteArray) : Option (Bool) := (dominolaw04_bounded.f a0_0 a0_1 a0_2 a0_3 a0_4 a0_5 a0_6 a0_7 a0_8 a0_9 a0_10).bind fun t345 => (if t345 = true then (if (a1.size : Int) > 1200 then (dominolaw04_HeaderBack.j0 k a1 true a0_0 a0_1 a0_2 a0_3 a0_4 a0_5 a0_6 a0_7 a0_8 a0_9 a0_10) else ((dominolaw04_shown.f k).bind fun t346 => (dominolaw04_HeaderBack.j0 k a1 (!t346) a0_0 a0_1 a0_2 a0_3 a0_4 a0_5 a0_6 a0_7 a0_8 a0_9 a0_10))) else (dominolaw04_HeaderBack.j0 k a1 true a0_0 a0_1 a0_2 a0_3 a0_4 a0_5 a0_6 a0_7 a0_8 a0_9 a0_10))
theorem dominolaw04_HeaderBack.mono_l : ∀ k, (∀ y0 y1 y2 y3 y4 y5 y6 y7 y8 y9 y10 y11 y12, LeO (dominolaw04_HeaderBack.j0 k y0 y1 y2 y3 y4 y5 y6 y7 y8 y9 y10 y11 y12) (dominolaw04_HeaderBack.j0 (k + 1) y0 y1 y2 y3 y4 y5 y6 y7 y8 y9 y10 y11 y12)) ∧ (∀ y0, LeO (dominolaw04_HeaderBack.j1 k y0) (dominolaw04_HeaderBack.j1 (k + 1) y0))
 | 0 => ⟨fun _ _ _ _ _ _ _ _ _ _ _ _ _ r h => by simp [dominolaw04_HeaderBack.j0] at h, fun _ r h => by simp [dominolaw04_HeaderBack.j1] at h⟩
 | k + 1 => by
  obtain ⟨ih0, ih1⟩ := dominolaw04_HeaderBack.mono_l k
  refine ⟨?_, ?_⟩
  ·intro y0 y1 y2 y3 y4 y5 y6 y7 y8 y9 y10 y11 y12
   unfold dominolaw04_HeaderBack.j0
   repeat' first
   | (with_reducible exact ih0 _ _ _ _ _ _ _ _ _ _ _ _ _)
   | (with_reducible exact ih1 _)
   | (with_reducible exact dominolaw04_shown.mono _)
   | (with_reducible exact header_Get.mono _ _)
   | (with_reducible exact header_May.mono _ _ _ _ _ _ _ _ _ _ _ _)
   | (with_reducible exact header_Put.mono _ _ _ _ _ _ _ _ _ _ _ _)
   | (with_reducible exact LeO.refl _)
   | (with_reducible exact LeO.none _)
   | (with_reducible refine LeO.ite ?_ ?_)
   | (with_reducible refine LeO.bind ?_ (fun _ => ?_))
   | exact ih0 _ _ _ _ _ _ _ _ _ _ _ _ _
   | exact ih1 _
   | exact dominolaw04_shown.mono _
   | exact header_Get.mono _ _
   | exact header_May.mono _ _ _ _ _ _ _ _ _ _ _ _
   | exact header_Put.mono _ _ _ _ _ _ _ _ _ _ _ _
   | exact LeO.none _
   | refine LeO.ite ?_ ?_
   | refine LeO.bind ?_ (fun _ => ?_)
  ·intro y0
   unfold dominolaw04_HeaderBack.j1
   repeat' first
   | (with_reducible exact ih0 _ _ _ _ _ _ _ _ _ _ _ _ _)
   | (with_reducible exact ih1 _)
   | (with_reducible exact dominolaw04_shown.mono _)
   | (with_reducible exact header_Get.mono _ _)
   | (with_reducible exact header_May.mono _ _ _ _ _ _ _ _ _ _ _ _)
   | (with_reducible exact header_Put.mono _ _ _ _ _ _ _ _ _ _ _ _)
   | (with_reducible exact LeO.refl _)
   | (with_reducible exact LeO.none _)
   | (with_reducible refine LeO.ite ?_ ?_)
   | (with_reducible refine LeO.bind ?_ (fun _ => ?_))
   | exact ih0 _ _ _ _ _ _ _ _ _ _ _ _ _
   | exact ih1 _
   | exact dominolaw04_shown.mono _
   | exact header_Get.mono _ _
   | exact header_May.mono _ _ _ _ _ _ _ _ _ _ _ _
   | exact header_Put.mono _ _ _ _ _ _ _ _ _ _ _ _
   | exact LeO.none _
   | refine LeO.ite ?_ ?_
   | refine LeO.bind ?_ (fun _ => ?_)
theorem dominolaw04_HeaderBack.mono : ∀ a0 a1 a2 a3 a4 a5 a6 a7 a8 a9 a10 a11 k, LeO (dominolaw04_HeaderBack.f k a0 a1 a2 a3 a4 a5 a6 a7 a8 a9 a10 a11) (dominolaw04_HeaderBack.f (k + 1) a0 a1 a2 a3 a4 a5 a6 a7 a8 a9 a10 a11) := by
 intro a0 a1 a2 a3 a4 a5 a6 a7 a8 a9 a10 a11 k
 obtain ⟨ih0, ih1⟩ := dominolaw04_HeaderBack.mono_l k
 unfold dominolaw04_HeaderBack.f
 repeat' first
   | (with_reducible exact ih0 _ _ _ _ _ _ _ _ _ _ _ _ _)
   | (with_reducible exact ih1 _)
   | (with_reducible exact dominolaw04_shown.mono _)
   | (with_reducible exact header_Get.mono _ _)
   | (with_reducible exact header_May.mono _ _ _ _ _ _ _ _ _ _ _ _)
   | (with_reducible exact header_Put.mono _ _ _ _ _ _ _ _ _ _ _ _)
   | (with_reducible exact LeO.refl _)
   | (with_reducible exact LeO.none _)
   | (with_reducible refine LeO.ite ?_ ?_)
   | (with_reducible refine LeO.bind ?_ (fun _ => ?_))
   | exact ih0 _ _ _ _ _ _ _ _ _ _ _ _ _
   | exact ih1 _
   | exact dominolaw04_shown.mono _
   | exact header_Get.mono _ _
   | exact header_May.mono _ _ _ _ _ _ _ _ _ _ _ _
   | exact header_Put.mono _ _ _ _ _ _ _ _ _ _ _ _
   | exact LeO.none _
   | refine LeO.ite ?_ ?_
   | refine LeO.bind ?_ (fun _ => ?_)
set_option maxHeartbeats 8000000 in
set_option maxRecDepth 100000 in
theorem dominolaw04_HeaderBack.calls (k : Nat) (a0_0 : Bool) (a0_1 : Bool) (a0_2 : Bool) (a0_3 : Int) (a0_4 : Int) (a0_5 : ByteArray) (a0_6 : ByteArray) (a0_7 : ByteArray) (a0_8 : Int) (a0_9 : Int) (a0_10 : Int) (a1 : ByteArray) (r : Bool) (w : World) (ht : Tab w) (h : dominolaw04_HeaderBack.f k a0_0 a0_1 a0_2 a0_3 a0_4 a0_5 a0_6 a0_7 a0_8 a0_9 a0_10 a1 = some r) :
  Calls Tryd.prog 4 #[.agg #[.bool a0_0, .bool a0_1, .bool a0_2, .int .i64 a0_3, .int .u32 a0_4, .string a0_5, .string a0_6, .string a0_7, .int .u64 a0_8, .int .i64 a0_9, .int .u64 a0_10], .string a1] w fun e w' => e = .returned (.bool r) ∧ Below w.heap.size w w' := by
 have HTab := Aside0.mk ht
 clear ht
 have hu25 := Tryd.underlying25
 have HB := Aside0.mk (Below.refl w.heap.size w)
 have H : ((dominolaw04_bounded.f a0_0 a0_1 a0_2 a0_3 a0_4 a0_5 a0_6 a0_7 a0_8 a0_9 a0_10).bind fun t345 => (if t345 = true then (if (a1.size : Int) > 1200 then (dominolaw04_HeaderBack.j0 k a1 true a0_0 a0_1 a0_2 a0_3 a0_4 a0_5 a0_6 a0_7 a0_8 a0_9 a0_10) else ((dominolaw04_shown.f k).bind fun t346 => (dominolaw04_HeaderBack.j0 k a1 (!t346) a0_0 a0_1 a0_2 a0_3 a0_4 a0_5 a0_6 a0_7 a0_8 a0_9 a0_10))) else (dominolaw04_HeaderBack.j0 k a1 true a0_0 a0_1 a0_2 a0_3 a0_4 a0_5 a0_6 a0_7 a0_8 a0_9 a0_10))) = some r := h
 clear h
 have HC3 := Aside0.mk H
 clear H
 go_enter Tryd.func4, Tryd.ntmps4
 go_upto_region 1 with (first | ((with_reducible refine gate_dst (N := 2) rfl ?_); (try (refine gate_guard (by rfl) ?_; dsimp only)); refine box_event ?hg (N := 2) ?hd (cs := #[.bool a0_0, .bool a0_1, .bool a0_2, .int .i64 a0_3, .int .u32 a0_4, .string a0_5, .string a0_6, .string a0_7, .int .u64 a0_8, .int .i64 a0_9, .int .u64 a0_10]) (t := 25) ?hr ?_; (case hd => rfl); (case hg => rfl); (case hr => first | (go_simp; done) | (go_simp; rfl)); intro gb344 hg w4 hbox hb; have n0_ := Aside0.mk (below_step (by repeat (first | (with_reducible first | exact HB.out | apply below_alloc | apply pw_below_drewN | apply below_drew1) | exact HB.out)) hb); have n1_ := Aside0.mk (hbox); have n2_ := Aside0.mk ((by rw [hg]; exact (below_size (by repeat (first | (with_reducible first | exact HB.out | apply below_alloc | apply pw_below_drewN | apply below_drew1) | exact HB.out))) : w.heap.size ≤ gb344)); have n3_ := Aside0.mk ((by rw [hg]; exact (below_size (by repeat (first | (with_reducible first | exact HB.out | apply below_alloc | apply pw_below_drewN | apply below_drew1) | exact HB.out))) : w.heap.size ≤ gb344)); clear HB; have HB := n0_; have BK344 := n1_; have GW344 := n2_; have GE344 := n3_; clear n0_ n1_ n2_ n3_; clear hb hbox hg))
 (try simp only [Act.put, List.setIfInBounds_toArray, List.set_cons_zero, List.set_cons_succ])
 go_cut [24] (fun v24 wc => ∃ (kq : Nat) (x24_2 : Bool), v24 = .bool x24_2 ∧ Aside0 (dominolaw04_HeaderBack.j0 kq a1 x24_2 a0_0 a0_1 a0_2 a0_3 a0_4 a0_5 a0_6 a0_7 a0_8 a0_9 a0_10 = some r) ∧ Aside0 (kq ≤ k) ∧ Aside0 (wc.heap[gb344]? = some (.cells #[.bool a0_0, .bool a0_1, .bool a0_2, .int .i64 a0_3, .int .u32 a0_4, .string a0_5, .string a0_6, .string a0_7, .int .u64 a0_8, .int .i64 a0_9, .int .u64 a0_10] 25 (0, 0))) ∧ Aside0 (Below w.heap.size w wc))
 case first =>
  have H := HC3.out
  clear HC3
  replace H := Option.bind_eq_some_iff.mp H
  obtain ⟨t345, A50, H⟩ := H
  replace H : (if t345 = true then (if (a1.size : Int) > 1200 then (dominolaw04_HeaderBack.j0 k a1 true a0_0 a0_1 a0_2 a0_3 a0_4 a0_5 a0_6 a0_7 a0_8 a0_9 a0_10) else ((dominolaw04_shown.f k).bind fun t346 => (dominolaw04_HeaderBack.j0 k a1 (!t346) a0_0 a0_1 a0_2 a0_3 a0_4 a0_5 a0_6 a0_7 a0_8 a0_9 a0_10))) else (dominolaw04_HeaderBack.j0 k a1 true a0_0 a0_1 a0_2 a0_3 a0_4 a0_5 a0_6 a0_7 a0_8 a0_9 a0_10)) = some r := H
  have A5 := Aside0.mk A50
  clear A50
  by_cases c6 : t345 = true
  ·subst c6
   have H1 : (if (a1.size : Int) > 1200 then (dominolaw04_HeaderBack.j0 k a1 true a0_0 a0_1 a0_2 a0_3 a0_4 a0_5 a0_6 a0_7 a0_8 a0_9 a0_10) else ((dominolaw04_shown.f k).bind fun t346 => (dominolaw04_HeaderBack.j0 k a1 (!t346) a0_0 a0_1 a0_2 a0_3 a0_4 a0_5 a0_6 a0_7 a0_8 a0_9 a0_10))) = some r := by rw [if_pos rfl] at H; exact H
   clear H
   have H := H1
   clear H1
   by_cases c7 : (a1.size : Int) > 1200
   ·rw [if_pos c7] at H
    have c7b0 : decide (1200 < (a1.size : Int)) = true := decide_eq_true c7
    have c7b1 : decide (1200 < a1.size) = true := decide_eq_true (by omega)
    clear c7
    (first | rw [c7b0] | (simp only [i64_w, i32_w]; rw [c7b0]) | skip)
    have H' := Aside0.mk H
    clear H
    have hcz8_0 : w4.cell? ⟨gb344, 0, none⟩ = some (.bool a0_0) := (blk_cell BK344.out 0).trans rfl
    have hcz8_1 : w4.cell? ⟨gb344, 1, none⟩ = some (.bool a0_1) := (blk_cell BK344.out 1).trans rfl
    have hcz8_2 : w4.cell? ⟨gb344, 2, none⟩ = some (.bool a0_2) := (blk_cell BK344.out 2).trans rfl
    have hcz8_3 : w4.cell? ⟨gb344, 3, none⟩ = some (.int .i64 a0_3) := (blk_cell BK344.out 3).trans rfl
    have hcz8_4 : w4.cell? ⟨gb344, 4, none⟩ = some (.int .u32 a0_4) := (blk_cell BK344.out 4).trans rfl
    have hcz8_5 : w4.cell? ⟨gb344, 5, none⟩ = some (.string a0_5) := (blk_cell BK344.out 5).trans rfl
    have hcz8_6 : w4.cell? ⟨gb344, 6, none⟩ = some (.string a0_6) := (blk_cell BK344.out 6).trans rfl
    have hcz8_7 : w4.cell? ⟨gb344, 7, none⟩ = some (.string a0_7) := (blk_cell BK344.out 7).trans rfl
    have hcz8_8 : w4.cell? ⟨gb344, 8, none⟩ = some (.int .u64 a0_8) := (blk_cell BK344.out 8).trans rfl
    have hcz8_9 : w4.cell? ⟨gb344, 9, none⟩ = some (.int .i64 a0_9) := (blk_cell BK344.out 9).trans rfl
    have hcz8_10 : w4.cell? ⟨gb344, 10, none⟩ = some (.int .u64 a0_10) := (blk_cell BK344.out 10).trans rfl
    have hfz8_0 := blk_frozen BK344.out 0
    have hfz8_1 := blk_frozen BK344.out 1
    have hfz8_2 := blk_frozen BK344.out 2
    have hfz8_3 := blk_frozen BK344.out 3
    have hfz8_4 := blk_frozen BK344.out 4
    have hfz8_5 := blk_frozen BK344.out 5
    have hfz8_6 := blk_frozen BK344.out 6
    have hfz8_7 := blk_frozen BK344.out 7
    have hfz8_8 := blk_frozen BK344.out 8
    have hfz8_9 := blk_frozen BK344.out 9
    have hfz8_10 := blk_frozen BK344.out 10
    go_wp2_with (first | ((with_reducible refine gate_callee (f := 10) rfl ?_); refine goesL_ (some 14) rfl rfl Tryd.func10 (by kernel_rfl) rfl #[.agg #[.bool a0_0, .bool a0_1, .bool a0_2, .int .i64 a0_3, .int .u32 a0_4, .string a0_5, .string a0_6, .string a0_7, .int .u64 a0_8, .int .i64 a0_9, .int .u64 a0_10]] rfl (by (try simp only [List.map_toArray, List.map_cons, List.map_nil]); first | done | rfl | (simp only [List.length_drop, List.length_take]; rfl)) ?_; (with_reducible refine (dominolaw04_bounded.calls a0_0 a0_1 a0_2 a0_3 a0_4 a0_5 a0_6 a0_7 a0_8 a0_9 a0_10 true _ A5.out).mono ?_); rintro e w9 ⟨rfl, hb⟩; refine ⟨_, rfl, ?_⟩; have n0_ := Aside0.mk (blk_below (g := gb344) (o := .cells #[.bool a0_0, .bool a0_1, .bool a0_2, .int .i64 a0_3, .int .u32 a0_4, .string a0_5, .string a0_6, .string a0_7, .int .u64 a0_8, .int .i64 a0_9, .int .u64 a0_10] 25 (0, 0)) (by (with_reducible repeat (first | refine blk_drewN ?_ _ | refine blk_drew ?_ | refine blk_alloc ?_ _)); exact BK344.out) hb); have n1_ := Aside0.mk (below_step (by repeat (first | (with_reducible first | exact HB.out | apply below_alloc | apply pw_below_drewN | apply below_drew1 | refine below_set ?_ GE344.out) | exact HB.out)) hb); clear BK344; clear HB; have BK344 := n0_; have HB := n1_; clear n0_ n1_; (try clear hb); (try clear hb2); (try clear hk); (try clear hi)))
    go_meet
    case rel => exact ⟨_, (true), (by first | rfl | (simp; done) | (simp [*]; done)), H', ⟨by first | omega | exact Nat.le_refl _⟩, ⟨by (with_reducible repeat (first | refine blk_drewN ?_ _ | refine blk_drew ?_ | refine blk_alloc ?_ _)); exact BK344.out⟩, ⟨by repeat (first | (with_reducible first | exact HB.out | apply below_alloc | apply pw_below_drewN | apply below_drew1 | refine below_set ?_ GE344.out) | exact HB.out)⟩⟩
   ·rw [if_neg c7] at H
    have c7b0 : decide (1200 < (a1.size : Int)) = false := decide_eq_false c7
    have c7b1 : decide (1200 < a1.size) = false := decide_eq_false (by omega)
    clear c7
    (first | rw [c7b0] | (simp only [i64_w, i32_w]; rw [c7b0]) | skip)
    replace H := Option.bind_eq_some_iff.mp H
    obtain ⟨t346, A100, H⟩ := H
    replace H : (dominolaw04_HeaderBack.j0 k a1 (!t346) a0_0 a0_1 a0_2 a0_3 a0_4 a0_5 a0_6 a0_7 a0_8 a0_9 a0_10) = some r := H
    have A10 := Aside0.mk A100
    clear A100
    have H' := Aside0.mk H
    clear H
    have hcz11_0 : w4.cell? ⟨gb344, 0, none⟩ = some (.bool a0_0) := (blk_cell BK344.out 0).trans rfl
    have hcz11_1 : w4.cell? ⟨gb344, 1, none⟩ = some (.bool a0_1) := (blk_cell BK344.out 1).trans rfl
    have hcz11_2 : w4.cell? ⟨gb344, 2, none⟩ = some (.bool a0_2) := (blk_cell BK344.out 2).trans rfl
    have hcz11_3 : w4.cell? ⟨gb344, 3, none⟩ = some (.int .i64 a0_3) := (blk_cell BK344.out 3).trans rfl
    have hcz11_4 : w4.cell? ⟨gb344, 4, none⟩ = some (.int .u32 a0_4) := (blk_cell BK344.out 4).trans rfl
    have hcz11_5 : w4.cell? ⟨gb344, 5, none⟩ = some (.string a0_5) := (blk_cell BK344.out 5).trans rfl
    have hcz11_6 : w4.cell? ⟨gb344, 6, none⟩ = some (.string a0_6) := (blk_cell BK344.out 6).trans rfl
    have hcz11_7 : w4.cell? ⟨gb344, 7, none⟩ = some (.string a0_7) := (blk_cell BK344.out 7).trans rfl
    have hcz11_8 : w4.cell? ⟨gb344, 8, none⟩ = some (.int .u64 a0_8) := (blk_cell BK344.out 8).trans rfl
    have hcz11_9 : w4.cell? ⟨gb344, 9, none⟩ = some (.int .i64 a0_9) := (blk_cell BK344.out 9).trans rfl
    have hcz11_10 : w4.cell? ⟨gb344, 10, none⟩ = some (.int .u64 a0_10) := (blk_cell BK344.out 10).trans rfl
    have hfz11_0 := blk_frozen BK344.out 0
    have hfz11_1 := blk_frozen BK344.out 1
    have hfz11_2 := blk_frozen BK344.out 2
    have hfz11_3 := blk_frozen BK344.out 3
    have hfz11_4 := blk_frozen BK344.out 4
    have hfz11_5 := blk_frozen BK344.out 5
    have hfz11_6 := blk_frozen BK344.out 6
    have hfz11_7 := blk_frozen BK344.out 7
    have hfz11_8 := blk_frozen BK344.out 8
    have hfz11_9 := blk_frozen BK344.out 9
    have hfz11_10 := blk_frozen BK344.out 10
    go_wp2_with (first | ((with_reducible refine gate_callee (f := 10) rfl ?_); refine goesL_ (some 14) rfl rfl Tryd.func10 (by kernel_rfl) rfl #[.agg #[.bool a0_0, .bool a0_1, .bool a0_2, .int .i64 a0_3, .int .u32 a0_4, .string a0_5, .string a0_6, .string a0_7, .int .u64 a0_8, .int .i64 a0_9, .int .u64 a0_10]] rfl (by (try simp only [List.map_toArray, List.map_cons, List.map_nil]); first | done | rfl | (simp only [List.length_drop, List.length_take]; rfl)) ?_; (with_reducible refine (dominolaw04_bounded.calls a0_0 a0_1 a0_2 a0_3 a0_4 a0_5 a0_6 a0_7 a0_8 a0_9 a0_10 true _ A5.out).mono ?_); rintro e w12 ⟨rfl, hb⟩; refine ⟨_, rfl, ?_⟩; have n0_ := Aside0.mk (blk_below (g := gb344) (o := .cells #[.bool a0_0, .bool a0_1, .bool a0_2, .int .i64 a0_3, .int .u32 a0_4, .string a0_5, .string a0_6, .string a0_7, .int .u64 a0_8, .int .i64 a0_9, .int .u64 a0_10] 25 (0, 0)) (by (with_reducible repeat (first | refine blk_drewN ?_ _ | refine blk_drew ?_ | refine blk_alloc ?_ _)); exact BK344.out) hb); have n1_ := Aside0.mk (below_step (by repeat (first | (with_reducible first | exact HB.out | apply below_alloc | apply pw_below_drewN | apply below_drew1 | refine below_set ?_ GE344.out) | exact HB.out)) hb); clear BK344; clear HB; have BK344 := n0_; have HB := n1_; clear n0_ n1_; (try clear hb); (try clear hb2); (try clear hk); (try clear hi)) | (go_at_call 11; (with_reducible refine (dominolaw04_shown.calls k  t346 _ (by first | exact HTab.out | exact tab_below HTab.out HB.out | exact (tab_below HTab.out (by repeat (first | (with_reducible first | exact HB.out | apply below_alloc | apply pw_below_drewN | apply below_drew1 | refine below_set ?_ GE344.out) | exact HB.out))) | exact tab_below HTab.out (by repeat (first | exact HB.out | exact Below.refl _ _ | apply below_alloc | apply pw_below_drewN | apply below_drew1 | refine below_set ?_ GE344.out | refine below_set ?_ GE363.out | refine below_set ?_ GE377.out))) A10.out).mono ?_); rintro e w13 ⟨rfl, hb⟩; have n0_ := Aside0.mk (blk_below (g := gb344) (o := .cells #[.bool a0_0, .bool a0_1, .bool a0_2, .int .i64 a0_3, .int .u32 a0_4, .string a0_5, .string a0_6, .string a0_7, .int .u64 a0_8, .int .i64 a0_9, .int .u64 a0_10] 25 (0, 0)) (by (with_reducible repeat (first | refine blk_drewN ?_ _ | refine blk_drew ?_ | refine blk_alloc ?_ _)); exact BK344.out) hb); have n1_ := Aside0.mk (below_step (by repeat (first | (with_reducible first | exact HB.out | apply below_alloc | apply pw_below_drewN | apply below_drew1 | refine below_set ?_ GE344.out) | exact HB.out)) hb); clear BK344; clear HB; have BK344 := n0_; have HB := n1_; clear n0_ n1_; (try clear hb); (try clear hb2); (try clear hk); (try clear hi)))
    go_meet
    case rel => exact ⟨_, (!t346), (by first | rfl | (simp; done) | (simp [*]; done)), H', ⟨by first | omega | exact Nat.le_refl _⟩, ⟨by (with_reducible repeat (first | refine blk_drewN ?_ _ | refine blk_drew ?_ | refine blk_alloc ?_ _)); exact BK344.out⟩, ⟨by repeat (first | (with_reducible first | exact HB.out | apply below_alloc | apply pw_below_drewN | apply below_drew1 | refine below_set ?_ GE344.out) | exact HB.out)⟩⟩
  ·replace c6 := Bool.eq_false_iff.mpr c6
   subst c6
   have H1 : (dominolaw04_HeaderBack.j0 k a1 true a0_0 a0_1 a0_2 a0_3 a0_4 a0_5 a0_6 a0_7 a0_8 a0_9 a0_10) = some r := by rw [if_neg (show ¬ (false = true) by decide)] at H; exact H
   clear H
   have H := H1
   clear H1
   have H' := Aside0.mk H
   clear H
   have hcz14_0 : w4.cell? ⟨gb344, 0, none⟩ = some (.bool a0_0) := (blk_cell BK344.out 0).trans rfl
   have hcz14_1 : w4.cell? ⟨gb344, 1, none⟩ = some (.bool a0_1) := (blk_cell BK344.out 1).trans rfl
   have hcz14_2 : w4.cell? ⟨gb344, 2, none⟩ = some (.bool a0_2) := (blk_cell BK344.out 2).trans rfl
   have hcz14_3 : w4.cell? ⟨gb344, 3, none⟩ = some (.int .i64 a0_3) := (blk_cell BK344.out 3).trans rfl
   have hcz14_4 : w4.cell? ⟨gb344, 4, none⟩ = some (.int .u32 a0_4) := (blk_cell BK344.out 4).trans rfl
   have hcz14_5 : w4.cell? ⟨gb344, 5, none⟩ = some (.string a0_5) := (blk_cell BK344.out 5).trans rfl
   have hcz14_6 : w4.cell? ⟨gb344, 6, none⟩ = some (.string a0_6) := (blk_cell BK344.out 6).trans rfl
   have hcz14_7 : w4.cell? ⟨gb344, 7, none⟩ = some (.string a0_7) := (blk_cell BK344.out 7).trans rfl
   have hcz14_8 : w4.cell? ⟨gb344, 8, none⟩ = some (.int .u64 a0_8) := (blk_cell BK344.out 8).trans rfl
   have hcz14_9 : w4.cell? ⟨gb344, 9, none⟩ = some (.int .i64 a0_9) := (blk_cell BK344.out 9).trans rfl
   have hcz14_10 : w4.cell? ⟨gb344, 10, none⟩ = some (.int .u64 a0_10) := (blk_cell BK344.out 10).trans rfl
   have hfz14_0 := blk_frozen BK344.out 0
   have hfz14_1 := blk_frozen BK344.out 1
   have hfz14_2 := blk_frozen BK344.out 2
   have hfz14_3 := blk_frozen BK344.out 3
   have hfz14_4 := blk_frozen BK344.out 4
   have hfz14_5 := blk_frozen BK344.out 5
   have hfz14_6 := blk_frozen BK344.out 6
   have hfz14_7 := blk_frozen BK344.out 7
   have hfz14_8 := blk_frozen BK344.out 8
   have hfz14_9 := blk_frozen BK344.out 9
   have hfz14_10 := blk_frozen BK344.out 10
   go_wp2_with (first | ((with_reducible refine gate_callee (f := 10) rfl ?_); refine goesL_ (some 14) rfl rfl Tryd.func10 (by kernel_rfl) rfl #[.agg #[.bool a0_0, .bool a0_1, .bool a0_2, .int .i64 a0_3, .int .u32 a0_4, .string a0_5, .string a0_6, .string a0_7, .int .u64 a0_8, .int .i64 a0_9, .int .u64 a0_10]] rfl (by (try simp only [List.map_toArray, List.map_cons, List.map_nil]); first | done | rfl | (simp only [List.length_drop, List.length_take]; rfl)) ?_; (with_reducible refine (dominolaw04_bounded.calls a0_0 a0_1 a0_2 a0_3 a0_4 a0_5 a0_6 a0_7 a0_8 a0_9 a0_10 false _ A5.out).mono ?_); rintro e w15 ⟨rfl, hb⟩; refine ⟨_, rfl, ?_⟩; have n0_ := Aside0.mk (blk_below (g := gb344) (o := .cells #[.bool a0_0, .bool a0_1, .bool a0_2, .int .i64 a0_3, .int .u32 a0_4, .string a0_5, .string a0_6, .string a0_7, .int .u64 a0_8, .int .i64 a0_9, .int .u64 a0_10] 25 (0, 0)) (by (with_reducible repeat (first | refine blk_drewN ?_ _ | refine blk_drew ?_ | refine blk_alloc ?_ _)); exact BK344.out) hb); have n1_ := Aside0.mk (below_step (by repeat (first | (with_reducible first | exact HB.out | apply below_alloc | apply pw_below_drewN | apply below_drew1 | refine below_set ?_ GE344.out) | exact HB.out)) hb); clear BK344; clear HB; have BK344 := n0_; have HB := n1_; clear n0_ n1_; (try clear hb); (try clear hb2); (try clear hk); (try clear hi)))
   go_meet
   case rel => exact ⟨_, (true), (by first | rfl | (simp; done) | (simp [*]; done)), H', ⟨by first | omega | exact Nat.le_refl _⟩, ⟨by (with_reducible repeat (first | refine blk_drewN ?_ _ | refine blk_drew ?_ | refine blk_alloc ?_ _)); exact BK344.out⟩, ⟨by repeat (first | (with_reducible first | exact HB.out | apply below_alloc | apply pw_below_drewN | apply below_drew1 | refine below_set ?_ GE344.out) | exact HB.out)⟩⟩
 case rest =>
  clear HC3
  try clear c1
  try clear p2
  try clear c4
  try clear c6
  try clear c7
  try clear c7b0
  try clear c7b1
  try clear c10
  try clear hcz11_0
  try clear hcz11_1
  try clear hcz11_10
  try clear hcz11_2
  try clear hcz11_3
  try clear hcz11_4
  try clear hcz11_5
  try clear hcz11_6
  try clear hcz11_7
  try clear hcz11_8
  try clear hcz11_9
  try clear hcz14_0
  try clear hcz14_1
  try clear hcz14_10
  try clear hcz14_2
  try clear hcz14_3
  try clear hcz14_4
  try clear hcz14_5
  try clear hcz14_6
  try clear hcz14_7
  try clear hcz14_8
  try clear hcz14_9
  try clear hcz8_0
  try clear hcz8_1
  try clear hcz8_10
  try clear hcz8_2
  try clear hcz8_3
  try clear hcz8_4
  try clear hcz8_5
  try clear hcz8_6
  try clear hcz8_7
  try clear hcz8_8
  try clear hcz8_9
  try clear hfz11_0
  try clear hfz11_1
  try clear hfz11_10
  try clear hfz11_2
  try clear hfz11_3
  try clear hfz11_4
  try clear hfz11_5
  try clear hfz11_6
  try clear hfz11_7
  try clear hfz11_8
  try clear hfz11_9
  try clear hfz14_0
  try clear hfz14_1
  try clear hfz14_10
  try clear hfz14_2
  try clear hfz14_3
  try clear hfz14_4
  try clear hfz14_5
  try clear hfz14_6
  try clear hfz14_7
  try clear hfz14_8
  try clear hfz14_9
  try clear hfz8_0
  try clear hfz8_1
  try clear hfz8_10
  try clear hfz8_2
  try clear hfz8_3
  try clear hfz8_4
  try clear hfz8_5
  try clear hfz8_6
  try clear hfz8_7
  try clear hfz8_8
  try clear hfz8_9
  obtain ⟨kq, x24_2, rfl, HA, HJ2, BK344, HB⟩ := hcut
  cases kq with
  | zero => exact absurd HA.out (by simp [dominolaw04_HeaderBack.j0])
  | succ kj2 =>
   have H := HA.out
   clear HA
   simp only [dominolaw04_HeaderBack.j0] at H
   by_cases c16 : x24_2 = true
   ·subst c16
    have H1 : ((dominolaw04_shown.f kj2).bind fun t347 => (some t347)) = some r := by rw [if_pos rfl] at H; exact H
    clear H
    have H := H1
    clear H1
    replace H := Option.bind_eq_some_iff.mp H
    obtain ⟨t347, A170, H⟩ := H
    replace H : (some t347) = some r := H
    have A17 := Aside0.mk A170
    clear A170
    obtain rfl := Option.some.inj H
    go_wp2_with (first | ((with_reducible refine gate_callee (f := 11) rfl ?_); refine goesL_ (some 25) rfl rfl Tryd.func11 (by kernel_rfl) rfl #[] rfl (by (try simp only [List.map_toArray, List.map_cons, List.map_nil]); first | done | rfl | (simp only [List.length_drop, List.length_take]; rfl)) ?_; (with_reducible refine (dominolaw04_shown.calls kj2  t347 _ (by first | exact HTab.out | exact tab_below HTab.out HB.out | exact (tab_below HTab.out (by repeat (first | (with_reducible first | exact HB.out | apply below_alloc | apply pw_below_drewN | apply below_drew1 | refine below_set ?_ GE344.out) | exact HB.out))) | exact tab_below HTab.out (by repeat (first | exact HB.out | exact Below.refl _ _ | apply below_alloc | apply pw_below_drewN | apply below_drew1 | refine below_set ?_ GE344.out | refine below_set ?_ GE363.out | refine below_set ?_ GE377.out))) A17.out).mono ?_); rintro e w18 ⟨rfl, hb⟩; refine ⟨_, rfl, ?_⟩; have n0_ := Aside0.mk (blk_below (g := gb344) (o := .cells #[.bool a0_0, .bool a0_1, .bool a0_2, .int .i64 a0_3, .int .u32 a0_4, .string a0_5, .string a0_6, .string a0_7, .int .u64 a0_8, .int .i64 a0_9, .int .u64 a0_10] 25 (0, 0)) (by (with_reducible repeat (first | refine blk_drewN ?_ _ | refine blk_drew ?_ | refine blk_alloc ?_ _)); exact BK344.out) hb); have n1_ := Aside0.mk (below_step (by repeat (first | (with_reducible first | exact HB.out | apply below_alloc | apply pw_below_drewN | apply below_drew1 | refine below_set ?_ GE344.out) | exact HB.out)) hb); clear BK344; clear HB; have BK344 := n0_; have HB := n1_; clear n0_ n1_; (try clear hb); (try clear hb2); (try clear hk); (try clear hi)))
    go_ret
    exact ⟨by first | rfl | (simp [errW_none, errW_some] <;> rfl) | (simp [*, errW_none, errW_some] <;> rfl), by repeat (first | (with_reducible first | exact HB.out | apply below_alloc | apply pw_below_drewN | apply below_drew1 | refine below_set ?_ GE344.out) | exact HB.out)⟩
   ·replace c16 := Bool.eq_false_iff.mpr c16
    subst c16
    have H1 : ((header_Put.f kj2 a0_0 a0_1 a0_2 a0_3 a0_4 a0_5 a0_6 a0_7 a0_8 a0_9 a0_10).bind fun bt348 => (if bt348.2 = 0 then (if bt348.1.size + a1.size ≤ 9223372036854775807 then ((header_Get.f kj2 (bt348.1 ++ a1)).bind fun bt350 => (if bt350.2.2.2.2.2.2.2.2.2.2.2.2 = 0 then (if (!(bt350.1 == a0_0) || (!(bt350.2.1 == a0_1) || (!(bt350.2.2.1 == a0_2) || (!(bt350.2.2.2.1 == a0_3) || (!(bt350.2.2.2.2.1 == a0_4) || (!(bt350.2.2.2.2.2.1.toList == a0_5.toList) || (!(bt350.2.2.2.2.2.2.1.toList == a0_6.toList) || (!(bt350.2.2.2.2.2.2.2.1.toList == a0_7.toList) || (!(bt350.2.2.2.2.2.2.2.2.1 == a0_8) || (!(bt350.2.2.2.2.2.2.2.2.2.1 == a0_9) || (!(bt350.2.2.2.2.2.2.2.2.2.2.1 == a0_10)))))))))))) = true then (none) else (if bt350.2.2.2.2.2.2.2.2.2.2.2.1.toList = a1.toList then (dominolaw04_HeaderBack.j1 kj2 a1) else (none))) else (none))) else (none)) else (dominolaw04_HeaderBack.j1 kj2 a1))) = some r := by rw [if_neg (show ¬ (false = true) by decide)] at H; exact H
    clear H
    have H := H1
    clear H1
    replace H := Option.bind_eq_some_iff.mp H
    obtain ⟨⟨t348, t349⟩, A190, H⟩ := H
    replace H : (if t349 = 0 then (if t348.size + a1.size ≤ 9223372036854775807 then ((header_Get.f kj2 (t348 ++ a1)).bind fun bt350 => (if bt350.2.2.2.2.2.2.2.2.2.2.2.2 = 0 then (if (!(bt350.1 == a0_0) || (!(bt350.2.1 == a0_1) || (!(bt350.2.2.1 == a0_2) || (!(bt350.2.2.2.1 == a0_3) || (!(bt350.2.2.2.2.1 == a0_4) || (!(bt350.2.2.2.2.2.1.toList == a0_5.toList) || (!(bt350.2.2.2.2.2.2.1.toList == a0_6.toList) || (!(bt350.2.2.2.2.2.2.2.1.toList == a0_7.toList) || (!(bt350.2.2.2.2.2.2.2.2.1 == a0_8) || (!(bt350.2.2.2.2.2.2.2.2.2.1 == a0_9) || (!(bt350.2.2.2.2.2.2.2.2.2.2.1 == a0_10)))))))))))) = true then (none) else (if bt350.2.2.2.2.2.2.2.2.2.2.2.1.toList = a1.toList then (dominolaw04_HeaderBack.j1 kj2 a1) else (none))) else (none))) else (none)) else (dominolaw04_HeaderBack.j1 kj2 a1)) = some r := H
    have A19 := Aside0.mk A190
    clear A190
    have HC20 := Aside0.mk H
    clear H
    have hcz21_0 : wc.cell? ⟨gb344, 0, none⟩ = some (.bool a0_0) := (blk_cell BK344.out 0).trans rfl
    have hcz21_1 : wc.cell? ⟨gb344, 1, none⟩ = some (.bool a0_1) := (blk_cell BK344.out 1).trans rfl
    have hcz21_2 : wc.cell? ⟨gb344, 2, none⟩ = some (.bool a0_2) := (blk_cell BK344.out 2).trans rfl
    have hcz21_3 : wc.cell? ⟨gb344, 3, none⟩ = some (.int .i64 a0_3) := (blk_cell BK344.out 3).trans rfl
    have hcz21_4 : wc.cell? ⟨gb344, 4, none⟩ = some (.int .u32 a0_4) := (blk_cell BK344.out 4).trans rfl
    have hcz21_5 : wc.cell? ⟨gb344, 5, none⟩ = some (.string a0_5) := (blk_cell BK344.out 5).trans rfl
    have hcz21_6 : wc.cell? ⟨gb344, 6, none⟩ = some (.string a0_6) := (blk_cell BK344.out 6).trans rfl
    have hcz21_7 : wc.cell? ⟨gb344, 7, none⟩ = some (.string a0_7) := (blk_cell BK344.out 7).trans rfl
    have hcz21_8 : wc.cell? ⟨gb344, 8, none⟩ = some (.int .u64 a0_8) := (blk_cell BK344.out 8).trans rfl
    have hcz21_9 : wc.cell? ⟨gb344, 9, none⟩ = some (.int .i64 a0_9) := (blk_cell BK344.out 9).trans rfl
    have hcz21_10 : wc.cell? ⟨gb344, 10, none⟩ = some (.int .u64 a0_10) := (blk_cell BK344.out 10).trans rfl
    have hfz21_0 := blk_frozen BK344.out 0
    have hfz21_1 := blk_frozen BK344.out 1
    have hfz21_2 := blk_frozen BK344.out 2
    have hfz21_3 := blk_frozen BK344.out 3
    have hfz21_4 := blk_frozen BK344.out 4
    have hfz21_5 := blk_frozen BK344.out 5
    have hfz21_6 := blk_frozen BK344.out 6
    have hfz21_7 := blk_frozen BK344.out 7
    have hfz21_8 := blk_frozen BK344.out 8
    have hfz21_9 := blk_frozen BK344.out 9
    have hfz21_10 := blk_frozen BK344.out 10
    go_upto_if 32 with (first | ((with_reducible refine gate_callee (f := 12) rfl ?_); refine goesL_ (some 28) rfl rfl Tryd.func12 (by kernel_rfl) rfl #[.agg #[.bool a0_0, .bool a0_1, .bool a0_2, .int .i64 a0_3, .int .u32 a0_4, .string a0_5, .string a0_6, .string a0_7, .int .u64 a0_8, .int .i64 a0_9, .int .u64 a0_10]] rfl (by (try simp only [List.map_toArray, List.map_cons, List.map_nil]); first | done | rfl | (simp only [List.length_drop, List.length_take]; rfl)) ?_; (with_reducible refine (header_Put.calls kj2 a0_0 a0_1 a0_2 a0_3 a0_4 a0_5 a0_6 a0_7 a0_8 a0_9 a0_10 t348 t349 _ (by first | exact HTab.out | exact tab_below HTab.out HB.out | exact (tab_below HTab.out (by repeat (first | (with_reducible first | exact HB.out | apply below_alloc | apply pw_below_drewN | apply below_drew1 | refine below_set ?_ GE344.out) | exact HB.out))) | exact tab_below HTab.out (by repeat (first | exact HB.out | exact Below.refl _ _ | apply below_alloc | apply pw_below_drewN | apply below_drew1 | refine below_set ?_ GE344.out | refine below_set ?_ GE363.out | refine below_set ?_ GE377.out))) A19.out).mono ?_); rintro e w22 ⟨rfl, hb⟩; refine ⟨_, rfl, ?_⟩; have n0_ := Aside0.mk (blk_below (g := gb344) (o := .cells #[.bool a0_0, .bool a0_1, .bool a0_2, .int .i64 a0_3, .int .u32 a0_4, .string a0_5, .string a0_6, .string a0_7, .int .u64 a0_8, .int .i64 a0_9, .int .u64 a0_10] 25 (0, 0)) (by (with_reducible repeat (first | refine blk_drewN ?_ _ | refine blk_drew ?_ | refine blk_alloc ?_ _)); exact BK344.out) hb); have n1_ := Aside0.mk (below_step (by repeat (first | (with_reducible first | exact HB.out | apply below_alloc | apply pw_below_drewN | apply below_drew1 | refine below_set ?_ GE344.out) | exact HB.out)) hb); clear BK344; clear HB; have BK344 := n0_; have HB := n1_; clear n0_ n1_; (try clear hb); (try clear hb2); (try clear hk); (try clear hi)))
    (try simp only [Act.put, List.setIfInBounds_toArray, List.set_cons_zero, List.set_cons_succ])
    go_cut [] (fun wc => ∃ (kq : Nat), Aside0 (dominolaw04_HeaderBack.j1 kq a1 = some r) ∧ Aside0 (kq ≤ kj2) ∧ Aside0 (wc.heap[gb344]? = some (.cells #[.bool a0_0, .bool a0_1, .bool a0_2, .int .i64 a0_3, .int .u32 a0_4, .string a0_5, .string a0_6, .string a0_7, .int .u64 a0_8, .int .i64 a0_9, .int .u64 a0_10] 25 (0, 0))) ∧ Aside0 (Below w.heap.size w wc))
    case first =>
     have H := HC20.out
     clear HC20
     by_cases c23 : t349 = 0
     ·rw [if_pos c23] at H
      have c23b0 : (t349 == 0) = true := beq_iff_eq.mpr c23
      have c23b1 : (t349 != 0) = false := bne_eq_false_iff_eq.mpr c23
      clear c23
      (first | rw [c23b0] | (simp only [i64_w, i32_w]; rw [c23b0]) | skip)
      by_cases c24 : t348.size + a1.size ≤ 9223372036854775807
      ·rw [if_pos c24] at H
       have c24b0 := eq_true c24
       have c24b1 : decide (t348.size + a1.size ≤ 9223372036854775807) = true := decide_eq_true c24
       try have c24b2 : (9223372036854775807 < t348.size + a1.size) = False := eq_false (Nat.not_lt.2 c24)
       replace H := Option.bind_eq_some_iff.mp H
       obtain ⟨⟨t350, t351, t352, t353, t354, t355, t356, t357, t358, t359, t360, t361, t362⟩, A250, H⟩ := H
       replace H : (if t362 = 0 then (if (!(t350 == a0_0) || (!(t351 == a0_1) || (!(t352 == a0_2) || (!(t353 == a0_3) || (!(t354 == a0_4) || (!(t355.toList == a0_5.toList) || (!(t356.toList == a0_6.toList) || (!(t357.toList == a0_7.toList) || (!(t358 == a0_8) || (!(t359 == a0_9) || (!(t360 == a0_10)))))))))))) = true then (none) else (if t361.toList = a1.toList then (dominolaw04_HeaderBack.j1 kj2 a1) else (none))) else (none)) = some r := H
       have A25 := Aside0.mk A250
       clear A250
       by_cases c26 : t362 = 0
       ·rw [if_pos c26] at H
        have c26b0 : (t362 == 0) = true := beq_iff_eq.mpr c26
        have c26b1 : (t362 != 0) = false := bne_eq_false_iff_eq.mpr c26
        clear c26
        by_cases c27 : (!(t350 == a0_0) || (!(t351 == a0_1) || (!(t352 == a0_2) || (!(t353 == a0_3) || (!(t354 == a0_4) || (!(t355.toList == a0_5.toList) || (!(t356.toList == a0_6.toList) || (!(t357.toList == a0_7.toList) || (!(t358 == a0_8) || (!(t359 == a0_9) || (!(t360 == a0_10)))))))))))) = true
        ·rw [if_pos c27] at H
         exact absurd H (by simp)
        ·rw [if_neg c27] at H
         have c27b0 : (!(t350 == a0_0) || (!(t351 == a0_1) || (!(t352 == a0_2) || (!(t353 == a0_3) || (!(t354 == a0_4) || (!(t355.toList == a0_5.toList) || (!(t356.toList == a0_6.toList) || (!(t357.toList == a0_7.toList) || (!(t358 == a0_8) || (!(t359 == a0_9) || (!(t360 == a0_10)))))))))))) = false := by simpa using c27
         have c27q := c27b0
         simp only [Bool.not_false, Bool.not_true, Bool.true_and, Bool.and_eq_true, Bool.or_eq_false_iff, Bool.not_eq_eq_eq_not, beq_iff_eq] at c27q
         replace c27q := eq_true c27q
         clear c27
         by_cases c28 : t361.toList = a1.toList
         ·rw [if_pos c28] at H
          have c28b0 : (t361.toList == a1.toList) = true := beq_iff_eq.mpr c28
          have c28b1 : (t361.toList != a1.toList) = false := bne_eq_false_iff_eq.mpr c28
          clear c28
          have H' := Aside0.mk H
          clear H
          go_wp2_with (first | ((with_reducible refine gate_callee (f := 14) rfl ?_); refine goesL_ (some 37) rfl rfl Tryd.func14 (by kernel_rfl) rfl #[.string (t348 ++ a1)] rfl (by (try simp only [List.map_toArray, List.map_cons, List.map_nil]); first | done | rfl | (simp only [List.length_drop, List.length_take]; rfl)) ?_; (with_reducible refine (header_Get.calls kj2 (t348 ++ a1) t350 t351 t352 t353 t354 t355 t356 t357 t358 t359 t360 t361 t362 _ A25.out).mono ?_); rintro e w29 ⟨rfl, hb⟩; refine ⟨_, rfl, ?_⟩; have n0_ := Aside0.mk (blk_below (g := gb344) (o := .cells #[.bool a0_0, .bool a0_1, .bool a0_2, .int .i64 a0_3, .int .u32 a0_4, .string a0_5, .string a0_6, .string a0_7, .int .u64 a0_8, .int .i64 a0_9, .int .u64 a0_10] 25 (0, 0)) (by (with_reducible repeat (first | refine blk_drewN ?_ _ | refine blk_drew ?_ | refine blk_alloc ?_ _)); exact BK344.out) hb); have n1_ := Aside0.mk (below_step (by repeat (first | (with_reducible first | exact HB.out | apply below_alloc | apply pw_below_drewN | apply below_drew1 | refine below_set ?_ GE344.out) | exact HB.out)) hb); clear BK344; clear HB; have BK344 := n0_; have HB := n1_; clear n0_ n1_; (try clear hb); (try clear hb2); (try clear hk); (try clear hi)) | ((with_reducible refine gate_dst (N := 7) rfl ?_); (try (refine gate_guard (by rfl) ?_; dsimp only)); refine box_event ?hg (N := 7) ?hd (cs := #[.bool false, .bool false, .bool false, .int .i64 0, .int .u32 0, .string (⟨#[]⟩ : ByteArray), .string (⟨#[]⟩ : ByteArray), .string (⟨#[]⟩ : ByteArray), .int .u64 0, .int .i64 0, .int .u64 0]) (t := 25) ?hr ?_; (case hd => rfl); (case hg => rfl); (case hr => first | (go_simp; done) | (go_simp; rfl)); intro gb363 hg w30 hbox hb; have n0_ := Aside0.mk (blk_below (g := gb344) (o := .cells #[.bool a0_0, .bool a0_1, .bool a0_2, .int .i64 a0_3, .int .u32 a0_4, .string a0_5, .string a0_6, .string a0_7, .int .u64 a0_8, .int .i64 a0_9, .int .u64 a0_10] 25 (0, 0)) (by (with_reducible repeat (first | refine blk_drewN ?_ _ | refine blk_drew ?_ | refine blk_alloc ?_ _)); exact BK344.out) hb); have n1_ := Aside0.mk (below_step (by repeat (first | (with_reducible first | exact HB.out | apply below_alloc | apply pw_below_drewN | apply below_drew1 | refine below_set ?_ GE344.out) | exact HB.out)) hb); have n2_ := Aside0.mk (hbox); have n3_ := Aside0.mk ((by rw [hg]; exact (below_size (by repeat (first | (with_reducible first | exact HB.out | apply below_alloc | apply pw_below_drewN | apply below_drew1 | refine below_set ?_ GE344.out) | exact HB.out))) : w.heap.size ≤ gb363)); have n4_ := Aside0.mk ((by rw [hg]; exact (below_size (by repeat (first | (with_reducible first | exact HB.out | apply below_alloc | apply pw_below_drewN | apply below_drew1 | refine below_set ?_ GE344.out) | exact HB.out))) : w.heap.size ≤ gb363)); have n5_ := Aside0.mk ((by rw [hg]; exact Nat.ne_of_lt (blk_lt (g := gb344) (o := .cells #[.bool a0_0, .bool a0_1, .bool a0_2, .int .i64 a0_3, .int .u32 a0_4, .string a0_5, .string a0_6, .string a0_7, .int .u64 a0_8, .int .i64 a0_9, .int .u64 a0_10] 25 (0, 0)) (by (with_reducible repeat (first | refine blk_drewN ?_ _ | refine blk_drew ?_ | refine blk_alloc ?_ _)); exact BK344.out)) : gb344 ≠ gb363)); have n6_ := Aside0.mk ((by rw [hg]; exact Nat.ne_of_gt (blk_lt (g := gb344) (o := .cells #[.bool a0_0, .bool a0_1, .bool a0_2, .int .i64 a0_3, .int .u32 a0_4, .string a0_5, .string a0_6, .string a0_7, .int .u64 a0_8, .int .i64 a0_9, .int .u64 a0_10] 25 (0, 0)) (by (with_reducible repeat (first | refine blk_drewN ?_ _ | refine blk_drew ?_ | refine blk_alloc ?_ _)); exact BK344.out)) : gb363 ≠ gb344)); clear BK344; clear HB; have BK344 := n0_; have HB := n1_; have BK363 := n2_; have GW363 := n3_; have GE363 := n4_; have NB344_363 := n5_; have NB363_344 := n6_; clear n0_ n1_ n2_ n3_ n4_ n5_ n6_; clear hb hbox hg; have hnb31 := NB363_344.out; have hnc31 := NB344_363.out; have hcz32_0 : w30.cell? ⟨gb363, 0, none⟩ = some (.bool false) := (blk_cell BK363.out 0).trans rfl; have hcz32_1 : w30.cell? ⟨gb363, 1, none⟩ = some (.bool false) := (blk_cell BK363.out 1).trans rfl; have hcz32_2 : w30.cell? ⟨gb363, 2, none⟩ = some (.bool false) := (blk_cell BK363.out 2).trans rfl; have hcz32_3 : w30.cell? ⟨gb363, 3, none⟩ = some (.int .i64 0) := (blk_cell BK363.out 3).trans rfl; have hcz32_4 : w30.cell? ⟨gb363, 4, none⟩ = some (.int .u32 0) := (blk_cell BK363.out 4).trans rfl; have hcz32_5 : w30.cell? ⟨gb363, 5, none⟩ = some (.string (⟨#[]⟩ : ByteArray)) := (blk_cell BK363.out 5).trans rfl; have hcz32_6 : w30.cell? ⟨gb363, 6, none⟩ = some (.string (⟨#[]⟩ : ByteArray)) := (blk_cell BK363.out 6).trans rfl; have hcz32_7 : w30.cell? ⟨gb363, 7, none⟩ = some (.string (⟨#[]⟩ : ByteArray)) := (blk_cell BK363.out 7).trans rfl; have hcz32_8 : w30.cell? ⟨gb363, 8, none⟩ = some (.int .u64 0) := (blk_cell BK363.out 8).trans rfl; have hcz32_9 : w30.cell? ⟨gb363, 9, none⟩ = some (.int .i64 0) := (blk_cell BK363.out 9).trans rfl; have hcz32_10 : w30.cell? ⟨gb363, 10, none⟩ = some (.int .u64 0) := (blk_cell BK363.out 10).trans rfl; have hfz32_0 := blk_frozen BK363.out 0; have hfz32_1 := blk_frozen BK363.out 1; have hfz32_2 := blk_frozen BK363.out 2; have hfz32_3 := blk_frozen BK363.out 3; have hfz32_4 := blk_frozen BK363.out 4; have hfz32_5 := blk_frozen BK363.out 5; have hfz32_6 := blk_frozen BK363.out 6; have hfz32_7 := blk_frozen BK363.out 7; have hfz32_8 := blk_frozen BK363.out 8; have hfz32_9 := blk_frozen BK363.out 9; have hfz32_10 := blk_frozen BK363.out 10; have hcz33_0 : w30.cell? ⟨gb344, 0, none⟩ = some (.bool a0_0) := (blk_cell BK344.out 0).trans rfl; have hcz33_1 : w30.cell? ⟨gb344, 1, none⟩ = some (.bool a0_1) := (blk_cell BK344.out 1).trans rfl; have hcz33_2 : w30.cell? ⟨gb344, 2, none⟩ = some (.bool a0_2) := (blk_cell BK344.out 2).trans rfl; have hcz33_3 : w30.cell? ⟨gb344, 3, none⟩ = some (.int .i64 a0_3) := (blk_cell BK344.out 3).trans rfl; have hcz33_4 : w30.cell? ⟨gb344, 4, none⟩ = some (.int .u32 a0_4) := (blk_cell BK344.out 4).trans rfl; have hcz33_5 : w30.cell? ⟨gb344, 5, none⟩ = some (.string a0_5) := (blk_cell BK344.out 5).trans rfl; have hcz33_6 : w30.cell? ⟨gb344, 6, none⟩ = some (.string a0_6) := (blk_cell BK344.out 6).trans rfl; have hcz33_7 : w30.cell? ⟨gb344, 7, none⟩ = some (.string a0_7) := (blk_cell BK344.out 7).trans rfl; have hcz33_8 : w30.cell? ⟨gb344, 8, none⟩ = some (.int .u64 a0_8) := (blk_cell BK344.out 8).trans rfl; have hcz33_9 : w30.cell? ⟨gb344, 9, none⟩ = some (.int .i64 a0_9) := (blk_cell BK344.out 9).trans rfl; have hcz33_10 : w30.cell? ⟨gb344, 10, none⟩ = some (.int .u64 a0_10) := (blk_cell BK344.out 10).trans rfl; have hfz33_0 := blk_frozen BK344.out 0; have hfz33_1 := blk_frozen BK344.out 1; have hfz33_2 := blk_frozen BK344.out 2; have hfz33_3 := blk_frozen BK344.out 3; have hfz33_4 := blk_frozen BK344.out 4; have hfz33_5 := blk_frozen BK344.out 5; have hfz33_6 := blk_frozen BK344.out 6; have hfz33_7 := blk_frozen BK344.out 7; have hfz33_8 := blk_frozen BK344.out 8; have hfz33_9 := blk_frozen BK344.out 9; have hfz33_10 := blk_frozen BK344.out 10))
          go_meet
          case rel => exact ⟨_, H', ⟨by have := HJ2.out; first | omega | exact Nat.le_refl _⟩, ⟨by (with_reducible repeat (first | refine blk_drewN ?_ _ | refine blk_drew ?_ | refine blk_alloc ?_ _)); refine blk_far ?_ NB344_363.out _; (with_reducible repeat (first | refine blk_drewN ?_ _ | refine blk_drew ?_ | refine blk_alloc ?_ _)); refine blk_far ?_ NB344_363.out _; (with_reducible repeat (first | refine blk_drewN ?_ _ | refine blk_drew ?_ | refine blk_alloc ?_ _)); refine blk_far ?_ NB344_363.out _; (with_reducible repeat (first | refine blk_drewN ?_ _ | refine blk_drew ?_ | refine blk_alloc ?_ _)); refine blk_far ?_ NB344_363.out _; (with_reducible repeat (first | refine blk_drewN ?_ _ | refine blk_drew ?_ | refine blk_alloc ?_ _)); refine blk_far ?_ NB344_363.out _; (with_reducible repeat (first | refine blk_drewN ?_ _ | refine blk_drew ?_ | refine blk_alloc ?_ _)); refine blk_far ?_ NB344_363.out _; (with_reducible repeat (first | refine blk_drewN ?_ _ | refine blk_drew ?_ | refine blk_alloc ?_ _)); refine blk_far ?_ NB344_363.out _; (with_reducible repeat (first | refine blk_drewN ?_ _ | refine blk_drew ?_ | refine blk_alloc ?_ _)); refine blk_far ?_ NB344_363.out _; (with_reducible repeat (first | refine blk_drewN ?_ _ | refine blk_drew ?_ | refine blk_alloc ?_ _)); refine blk_far ?_ NB344_363.out _; (with_reducible repeat (first | refine blk_drewN ?_ _ | refine blk_drew ?_ | refine blk_alloc ?_ _)); refine blk_far ?_ NB344_363.out _; (with_reducible repeat (first | refine blk_drewN ?_ _ | refine blk_drew ?_ | refine blk_alloc ?_ _)); refine blk_far ?_ NB344_363.out _; (with_reducible repeat (first | refine blk_drewN ?_ _ | refine blk_drew ?_ | refine blk_alloc ?_ _)); exact BK344.out⟩, ⟨by repeat (first | (with_reducible first | exact HB.out | apply below_alloc | apply pw_below_drewN | apply below_drew1 | refine below_set ?_ GE344.out | refine below_set ?_ GE363.out) | exact HB.out)⟩⟩
         ·rw [if_neg c28] at H
          exact absurd H (by simp)
       ·rw [if_neg c26] at H
        exact absurd H (by simp)
      ·rw [if_neg c24] at H
       exact absurd H (by simp)
     ·rw [if_neg c23] at H
      have c23b0 : (t349 == 0) = false := beq_eq_false_iff_ne.mpr c23
      have c23b1 : (t349 != 0) = true := bne_iff_ne.mpr c23
      (first | rw [c23b0] | (simp only [i64_w, i32_w]; rw [c23b0]) | skip)
      have H' := Aside0.mk H
      clear H
      go_wp2
      go_meet
      case rel => exact ⟨_, H', ⟨by have := HJ2.out; first | omega | exact Nat.le_refl _⟩, ⟨by (with_reducible repeat (first | refine blk_drewN ?_ _ | refine blk_drew ?_ | refine blk_alloc ?_ _)); exact BK344.out⟩, ⟨by repeat (first | (with_reducible first | exact HB.out | apply below_alloc | apply pw_below_drewN | apply below_drew1 | refine below_set ?_ GE344.out) | exact HB.out)⟩⟩
    case rest =>
     clear HC20
     try clear c1
     try clear c2
     try clear p2
     try clear c3
     try clear c4
     try clear c6
     try clear c7
     try clear c7b0
     try clear c7b1
     try clear c10
     try clear c11
     try clear c12
     try clear c14
     try clear c16
     try clear c23
     try clear c23b0
     try clear c23b1
     try clear c24
     try clear c24b0
     try clear c24b1
     try clear c24b2
     try clear c26
     try clear c26b0
     try clear c26b1
     try clear c27
     try clear c27b0
     try clear c28
     try clear c28b0
     try clear c28b1
     try clear c31
     try clear hcz11_0
     try clear hcz11_1
     try clear hcz11_10
     try clear hcz11_2
     try clear hcz11_3
     try clear hcz11_4
     try clear hcz11_5
     try clear hcz11_6
     try clear hcz11_7
     try clear hcz11_8
     try clear hcz11_9
     try clear hcz14_0
     try clear hcz14_1
     try clear hcz14_10
     try clear hcz14_2
     try clear hcz14_3
     try clear hcz14_4
     try clear hcz14_5
     try clear hcz14_6
     try clear hcz14_7
     try clear hcz14_8
     try clear hcz14_9
     try clear hcz21_0
     try clear hcz21_1
     try clear hcz21_10
     try clear hcz21_2
     try clear hcz21_3
     try clear hcz21_4
     try clear hcz21_5
     try clear hcz21_6
     try clear hcz21_7
     try clear hcz21_8
     try clear hcz21_9
     try clear hcz32_0
     try clear hcz32_1
     try clear hcz32_10
     try clear hcz32_2
     try clear hcz32_3
     try clear hcz32_4
     try clear hcz32_5
     try clear hcz32_6
     try clear hcz32_7
     try clear hcz32_8
     try clear hcz32_9
     try clear hcz33_0
     try clear hcz33_1
     try clear hcz33_10
     try clear hcz33_2
     try clear hcz33_3
     try clear hcz33_4
     try clear hcz33_5
     try clear hcz33_6
     try clear hcz33_7
     try clear hcz33_8
     try clear hcz33_9
     try clear hcz8_0
     try clear hcz8_1
     try clear hcz8_10
     try clear hcz8_2
     try clear hcz8_3
     try clear hcz8_4
     try clear hcz8_5
     try clear hcz8_6
     try clear hcz8_7
     try clear hcz8_8
     try clear hcz8_9
     try clear hfz11_0
     try clear hfz11_1
     try clear hfz11_10
     try clear hfz11_2
     try clear hfz11_3
     try clear hfz11_4
     try clear hfz11_5
     try clear hfz11_6
     try clear hfz11_7
     try clear hfz11_8
     try clear hfz11_9
     try clear hfz14_0
     try clear hfz14_1
     try clear hfz14_10
     try clear hfz14_2
     try clear hfz14_3
     try clear hfz14_4
     try clear hfz14_5
     try clear hfz14_6
     try clear hfz14_7
     try clear hfz14_8
     try clear hfz14_9
     try clear hfz21_0
     try clear hfz21_1
     try clear hfz21_10
     try clear hfz21_2
     try clear hfz21_3
     try clear hfz21_4
     try clear hfz21_5
     try clear hfz21_6
     try clear hfz21_7
     try clear hfz21_8
     try clear hfz21_9
     try clear hfz32_0
     try clear hfz32_1
     try clear hfz32_10
     try clear hfz32_2
     try clear hfz32_3
     try clear hfz32_4
     try clear hfz32_5
     try clear hfz32_6
     try clear hfz32_7
     try clear hfz32_8
     try clear hfz32_9
     try clear hfz33_0
     try clear hfz33_1
     try clear hfz33_10
     try clear hfz33_2
     try clear hfz33_3
     try clear hfz33_4
     try clear hfz33_5
     try clear hfz33_6
     try clear hfz33_7
     try clear hfz33_8
     try clear hfz33_9
     try clear hfz8_0
     try clear hfz8_1
     try clear hfz8_10
     try clear hfz8_2
     try clear hfz8_3
     try clear hfz8_4
     try clear hfz8_5
     try clear hfz8_6
     try clear hfz8_7
     try clear hfz8_8
     try clear hfz8_9
     try clear p2
     obtain ⟨kq, HA, HJ19, BK344, HB⟩ := hcut
     cases kq with
     | zero => exact absurd HA.out (by simp [dominolaw04_HeaderBack.j1])
     | succ kj19 =>
      have H := HA.out
      clear HA
      simp only [dominolaw04_HeaderBack.j1] at H
      replace H := Option.bind_eq_some_iff.mp H
      obtain ⟨⟨t364, t365, t366, t367, t368, t369, t370, t371, t372, t373, t374, t375, t376⟩, A340, H⟩ := H
      replace H : (if t376 = 0 then ((header_May.f kj19 t364 t365 t366 t367 t368 t369 t370 t371 t372 t373 t374).bind fun t378 => (if t378 = true then (some (decide ((t375.size : Int) < (a1.size : Int)))) else (none))) else (if t376 = 40 then (if t375.toList = ([] : List UInt8) then (some (!t364 && (!t365 && (!t366 && (t367 == 0 && (t368 == 0 && (t369.toList == ([] : List UInt8) && (t370.toList == ([] : List UInt8) && (t371.toList == ([] : List UInt8) && (t372 == 0 && (t373 == 0 && (t374 == 0)))))))))))) else (none)) else (none))) = some r := H
      have A34 := Aside0.mk A340
      clear A340
      by_cases c35 : t376 = 0
      ·rw [if_pos c35] at H
       have c35b0 : (t376 == 0) = true := beq_iff_eq.mpr c35
       have c35b1 : (t376 != 0) = false := bne_eq_false_iff_eq.mpr c35
       clear c35
       replace H := Option.bind_eq_some_iff.mp H
       obtain ⟨t378, A360, H⟩ := H
       replace H : (if t378 = true then (some (decide ((t375.size : Int) < (a1.size : Int)))) else (none)) = some r := H
       have A36 := Aside0.mk A360
       clear A360
       by_cases c37 : t378 = true
       ·subst c37
        have H1 : (some (decide ((t375.size : Int) < (a1.size : Int)))) = some r := by rw [if_pos rfl] at H; exact H
        clear H
        have H := H1
        clear H1
        obtain rfl := Option.some.inj H
        go_wp2_with (first | ((with_reducible refine gate_callee (f := 14) rfl ?_); refine goesL_ (some 55) rfl rfl Tryd.func14 (by kernel_rfl) rfl #[.string a1] rfl (by (try simp only [List.map_toArray, List.map_cons, List.map_nil]); first | done | rfl | (simp only [List.length_drop, List.length_take]; rfl)) ?_; (with_reducible refine (header_Get.calls kj19 a1 t364 t365 t366 t367 t368 t369 t370 t371 t372 t373 t374 t375 t376 _ A34.out).mono ?_); rintro e w38 ⟨rfl, hb⟩; refine ⟨_, rfl, ?_⟩; have n0_ := Aside0.mk (blk_below (g := gb344) (o := .cells #[.bool a0_0, .bool a0_1, .bool a0_2, .int .i64 a0_3, .int .u32 a0_4, .string a0_5, .string a0_6, .string a0_7, .int .u64 a0_8, .int .i64 a0_9, .int .u64 a0_10] 25 (0, 0)) (by (with_reducible repeat (first | refine blk_drewN ?_ _ | refine blk_drew ?_ | refine blk_alloc ?_ _)); exact BK344.out) hb); have n1_ := Aside0.mk (below_step (by repeat (first | (with_reducible first | exact HB.out | apply below_alloc | apply pw_below_drewN | apply below_drew1 | refine below_set ?_ GE344.out) | exact HB.out)) hb); clear BK344; clear HB; have BK344 := n0_; have HB := n1_; clear n0_ n1_; (try clear hb); (try clear hb2); (try clear hk); (try clear hi)) | ((with_reducible refine gate_dst (N := 10) rfl ?_); (try (refine gate_guard (by rfl) ?_; dsimp only)); refine box_event ?hg (N := 10) ?hd (cs := #[.bool false, .bool false, .bool false, .int .i64 0, .int .u32 0, .string (⟨#[]⟩ : ByteArray), .string (⟨#[]⟩ : ByteArray), .string (⟨#[]⟩ : ByteArray), .int .u64 0, .int .i64 0, .int .u64 0]) (t := 25) ?hr ?_; (case hd => rfl); (case hg => rfl); (case hr => first | (go_simp; done) | (go_simp; rfl)); intro gb377 hg w39 hbox hb; have n0_ := Aside0.mk (blk_below (g := gb344) (o := .cells #[.bool a0_0, .bool a0_1, .bool a0_2, .int .i64 a0_3, .int .u32 a0_4, .string a0_5, .string a0_6, .string a0_7, .int .u64 a0_8, .int .i64 a0_9, .int .u64 a0_10] 25 (0, 0)) (by (with_reducible repeat (first | refine blk_drewN ?_ _ | refine blk_drew ?_ | refine blk_alloc ?_ _)); exact BK344.out) hb); have n1_ := Aside0.mk (below_step (by repeat (first | (with_reducible first | exact HB.out | apply below_alloc | apply pw_below_drewN | apply below_drew1 | refine below_set ?_ GE344.out) | exact HB.out)) hb); have n2_ := Aside0.mk (hbox); have n3_ := Aside0.mk ((by rw [hg]; exact (below_size (by repeat (first | (with_reducible first | exact HB.out | apply below_alloc | apply pw_below_drewN | apply below_drew1 | refine below_set ?_ GE344.out) | exact HB.out))) : w.heap.size ≤ gb377)); have n4_ := Aside0.mk ((by rw [hg]; exact (below_size (by repeat (first | (with_reducible first | exact HB.out | apply below_alloc | apply pw_below_drewN | apply below_drew1 | refine below_set ?_ GE344.out) | exact HB.out))) : w.heap.size ≤ gb377)); have n5_ := Aside0.mk ((by rw [hg]; exact Nat.ne_of_lt (blk_lt (g := gb344) (o := .cells #[.bool a0_0, .bool a0_1, .bool a0_2, .int .i64 a0_3, .int .u32 a0_4, .string a0_5, .string a0_6, .string a0_7, .int .u64 a0_8, .int .i64 a0_9, .int .u64 a0_10] 25 (0, 0)) (by (with_reducible repeat (first | refine blk_drewN ?_ _ | refine blk_drew ?_ | refine blk_alloc ?_ _)); exact BK344.out)) : gb344 ≠ gb377)); have n6_ := Aside0.mk ((by rw [hg]; exact Nat.ne_of_gt (blk_lt (g := gb344) (o := .cells #[.bool a0_0, .bool a0_1, .bool a0_2, .int .i64 a0_3, .int .u32 a0_4, .string a0_5, .string a0_6, .string a0_7, .int .u64 a0_8, .int .i64 a0_9, .int .u64 a0_10] 25 (0, 0)) (by (with_reducible repeat (first | refine blk_drewN ?_ _ | refine blk_drew ?_ | refine blk_alloc ?_ _)); exact BK344.out)) : gb377 ≠ gb344)); clear BK344; clear HB; have BK344 := n0_; have HB := n1_; have BK377 := n2_; have GW377 := n3_; have GE377 := n4_; have NB344_377 := n5_; have NB377_344 := n6_; clear n0_ n1_ n2_ n3_ n4_ n5_ n6_; clear hb hbox hg; have hnb40 := NB377_344.out; have hnc40 := NB344_377.out; have hcz41_0 : w39.cell? ⟨gb377, 0, none⟩ = some (.bool false) := (blk_cell BK377.out 0).trans rfl; have hcz41_1 : w39.cell? ⟨gb377, 1, none⟩ = some (.bool false) := (blk_cell BK377.out 1).trans rfl; have hcz41_2 : w39.cell? ⟨gb377, 2, none⟩ = some (.bool false) := (blk_cell BK377.out 2).trans rfl; have hcz41_3 : w39.cell? ⟨gb377, 3, none⟩ = some (.int .i64 0) := (blk_cell BK377.out 3).trans rfl; have hcz41_4 : w39.cell? ⟨gb377, 4, none⟩ = some (.int .u32 0) := (blk_cell BK377.out 4).trans rfl; have hcz41_5 : w39.cell? ⟨gb377, 5, none⟩ = some (.string (⟨#[]⟩ : ByteArray)) := (blk_cell BK377.out 5).trans rfl; have hcz41_6 : w39.cell? ⟨gb377, 6, none⟩ = some (.string (⟨#[]⟩ : ByteArray)) := (blk_cell BK377.out 6).trans rfl; have hcz41_7 : w39.cell? ⟨gb377, 7, none⟩ = some (.string (⟨#[]⟩ : ByteArray)) := (blk_cell BK377.out 7).trans rfl; have hcz41_8 : w39.cell? ⟨gb377, 8, none⟩ = some (.int .u64 0) := (blk_cell BK377.out 8).trans rfl; have hcz41_9 : w39.cell? ⟨gb377, 9, none⟩ = some (.int .i64 0) := (blk_cell BK377.out 9).trans rfl; have hcz41_10 : w39.cell? ⟨gb377, 10, none⟩ = some (.int .u64 0) := (blk_cell BK377.out 10).trans rfl; have hfz41_0 := blk_frozen BK377.out 0; have hfz41_1 := blk_frozen BK377.out 1; have hfz41_2 := blk_frozen BK377.out 2; have hfz41_3 := blk_frozen BK377.out 3; have hfz41_4 := blk_frozen BK377.out 4; have hfz41_5 := blk_frozen BK377.out 5; have hfz41_6 := blk_frozen BK377.out 6; have hfz41_7 := blk_frozen BK377.out 7; have hfz41_8 := blk_frozen BK377.out 8; have hfz41_9 := blk_frozen BK377.out 9; have hfz41_10 := blk_frozen BK377.out 10) | ((with_reducible refine gate_callee (f := 18) rfl ?_); refine goesL_ (some 73) rfl rfl Tryd.func18 (by kernel_rfl) rfl #[.agg #[.bool t364, .bool t365, .bool t366, .int .i64 t367, .int .u32 t368, .string t369, .string t370, .string t371, .int .u64 t372, .int .i64 t373, .int .u64 t374]] rfl (by (try simp only [List.map_toArray, List.map_cons, List.map_nil]); first | done | rfl | (simp only [List.length_drop, List.length_take]; rfl)) ?_; (with_reducible refine (header_May.calls kj19 t364 t365 t366 t367 t368 t369 t370 t371 t372 t373 t374 true _ A36.out).mono ?_); rintro e w42 ⟨rfl, hb⟩; refine ⟨_, rfl, ?_⟩; have n0_ := Aside0.mk (blk_below (g := gb344) (o := .cells #[.bool a0_0, .bool a0_1, .bool a0_2, .int .i64 a0_3, .int .u32 a0_4, .string a0_5, .string a0_6, .string a0_7, .int .u64 a0_8, .int .i64 a0_9, .int .u64 a0_10] 25 (0, 0)) (by (with_reducible repeat (first | refine blk_drewN ?_ _ | refine blk_drew ?_ | refine blk_alloc ?_ _)); refine blk_far ?_ NB344_377.out _; (with_reducible repeat (first | refine blk_drewN ?_ _ | refine blk_drew ?_ | refine blk_alloc ?_ _)); refine blk_far ?_ NB344_377.out _; (with_reducible repeat (first | refine blk_drewN ?_ _ | refine blk_drew ?_ | refine blk_alloc ?_ _)); refine blk_far ?_ NB344_377.out _; (with_reducible repeat (first | refine blk_drewN ?_ _ | refine blk_drew ?_ | refine blk_alloc ?_ _)); refine blk_far ?_ NB344_377.out _; (with_reducible repeat (first | refine blk_drewN ?_ _ | refine blk_drew ?_ | refine blk_alloc ?_ _)); refine blk_far ?_ NB344_377.out _; (with_reducible repeat (first | refine blk_drewN ?_ _ | refine blk_drew ?_ | refine blk_alloc ?_ _)); refine blk_far ?_ NB344_377.out _; (with_reducible repeat (first | refine blk_drewN ?_ _ | refine blk_drew ?_ | refine blk_alloc ?_ _)); refine blk_far ?_ NB344_377.out _; (with_reducible repeat (first | refine blk_drewN ?_ _ | refine blk_drew ?_ | refine blk_alloc ?_ _)); refine blk_far ?_ NB344_377.out _; (with_reducible repeat (first | refine blk_drewN ?_ _ | refine blk_drew ?_ | refine blk_alloc ?_ _)); refine blk_far ?_ NB344_377.out _; (with_reducible repeat (first | refine blk_drewN ?_ _ | refine blk_drew ?_ | refine blk_alloc ?_ _)); refine blk_far ?_ NB344_377.out _; (with_reducible repeat (first | refine blk_drewN ?_ _ | refine blk_drew ?_ | refine blk_alloc ?_ _)); refine blk_far ?_ NB344_377.out _; (with_reducible repeat (first | refine blk_drewN ?_ _ | refine blk_drew ?_ | refine blk_alloc ?_ _)); exact BK344.out) hb); have n1_ := Aside0.mk (blk_below (g := gb377) (o := .cells #[.bool t364, .bool t365, .bool t366, .int .i64 t367, .int .u32 t368, .string t369, .string t370, .string t371, .int .u64 t372, .int .i64 t373, .int .u64 t374] 25 (0, 0)) (by (with_reducible repeat (first | refine blk_drewN ?_ _ | refine blk_drew ?_ | refine blk_alloc ?_ _)); refine blk_put (cs := #[.bool t364, .bool t365, .bool t366, .int .i64 t367, .int .u32 t368, .string t369, .string t370, .string t371, .int .u64 t372, .int .i64 t373, .int .u64 0]) ?_ 10 _ rfl; (with_reducible repeat (first | refine blk_drewN ?_ _ | refine blk_drew ?_ | refine blk_alloc ?_ _)); refine blk_put (cs := #[.bool t364, .bool t365, .bool t366, .int .i64 t367, .int .u32 t368, .string t369, .string t370, .string t371, .int .u64 t372, .int .i64 0, .int .u64 0]) ?_ 9 _ rfl; (with_reducible repeat (first | refine blk_drewN ?_ _ | refine blk_drew ?_ | refine blk_alloc ?_ _)); refine blk_put (cs := #[.bool t364, .bool t365, .bool t366, .int .i64 t367, .int .u32 t368, .string t369, .string t370, .string t371, .int .u64 0, .int .i64 0, .int .u64 0]) ?_ 8 _ rfl; (with_reducible repeat (first | refine blk_drewN ?_ _ | refine blk_drew ?_ | refine blk_alloc ?_ _)); refine blk_put (cs := #[.bool t364, .bool t365, .bool t366, .int .i64 t367, .int .u32 t368, .string t369, .string t370, .string (⟨#[]⟩ : ByteArray), .int .u64 0, .int .i64 0, .int .u64 0]) ?_ 7 _ rfl; (with_reducible repeat (first | refine blk_drewN ?_ _ | refine blk_drew ?_ | refine blk_alloc ?_ _)); refine blk_put (cs := #[.bool t364, .bool t365, .bool t366, .int .i64 t367, .int .u32 t368, .string t369, .string (⟨#[]⟩ : ByteArray), .string (⟨#[]⟩ : ByteArray), .int .u64 0, .int .i64 0, .int .u64 0]) ?_ 6 _ rfl; (with_reducible repeat (first | refine blk_drewN ?_ _ | refine blk_drew ?_ | refine blk_alloc ?_ _)); refine blk_put (cs := #[.bool t364, .bool t365, .bool t366, .int .i64 t367, .int .u32 t368, .string (⟨#[]⟩ : ByteArray), .string (⟨#[]⟩ : ByteArray), .string (⟨#[]⟩ : ByteArray), .int .u64 0, .int .i64 0, .int .u64 0]) ?_ 5 _ rfl; (with_reducible repeat (first | refine blk_drewN ?_ _ | refine blk_drew ?_ | refine blk_alloc ?_ _)); refine blk_put (cs := #[.bool t364, .bool t365, .bool t366, .int .i64 t367, .int .u32 0, .string (⟨#[]⟩ : ByteArray), .string (⟨#[]⟩ : ByteArray), .string (⟨#[]⟩ : ByteArray), .int .u64 0, .int .i64 0, .int .u64 0]) ?_ 4 _ rfl; (with_reducible repeat (first | refine blk_drewN ?_ _ | refine blk_drew ?_ | refine blk_alloc ?_ _)); refine blk_put (cs := #[.bool t364, .bool t365, .bool t366, .int .i64 0, .int .u32 0, .string (⟨#[]⟩ : ByteArray), .string (⟨#[]⟩ : ByteArray), .string (⟨#[]⟩ : ByteArray), .int .u64 0, .int .i64 0, .int .u64 0]) ?_ 3 _ rfl; (with_reducible repeat (first | refine blk_drewN ?_ _ | refine blk_drew ?_ | refine blk_alloc ?_ _)); refine blk_put (cs := #[.bool t364, .bool t365, .bool false, .int .i64 0, .int .u32 0, .string (⟨#[]⟩ : ByteArray), .string (⟨#[]⟩ : ByteArray), .string (⟨#[]⟩ : ByteArray), .int .u64 0, .int .i64 0, .int .u64 0]) ?_ 2 _ rfl; (with_reducible repeat (first | refine blk_drewN ?_ _ | refine blk_drew ?_ | refine blk_alloc ?_ _)); refine blk_put (cs := #[.bool t364, .bool false, .bool false, .int .i64 0, .int .u32 0, .string (⟨#[]⟩ : ByteArray), .string (⟨#[]⟩ : ByteArray), .string (⟨#[]⟩ : ByteArray), .int .u64 0, .int .i64 0, .int .u64 0]) ?_ 1 _ rfl; (with_reducible repeat (first | refine blk_drewN ?_ _ | refine blk_drew ?_ | refine blk_alloc ?_ _)); refine blk_put (cs := #[.bool false, .bool false, .bool false, .int .i64 0, .int .u32 0, .string (⟨#[]⟩ : ByteArray), .string (⟨#[]⟩ : ByteArray), .string (⟨#[]⟩ : ByteArray), .int .u64 0, .int .i64 0, .int .u64 0]) ?_ 0 _ rfl; (with_reducible repeat (first | refine blk_drewN ?_ _ | refine blk_drew ?_ | refine blk_alloc ?_ _)); exact BK377.out) hb); have n2_ := Aside0.mk (below_step (by repeat (first | (with_reducible first | exact HB.out | apply below_alloc | apply pw_below_drewN | apply below_drew1 | refine below_set ?_ GE344.out | refine below_set ?_ GE377.out) | exact HB.out)) hb); clear BK344; clear BK377; clear HB; have BK344 := n0_; have BK377 := n1_; have HB := n2_; clear n0_ n1_ n2_; (try clear hb); (try clear hb2); (try clear hk); (try clear hi)))
        go_ret
        exact ⟨by first | rfl | (have hq_ := of_eq_true c27q; simp [errW_none, errW_some, hq_, bne]; done) | (have hq_ := of_eq_true c27q; simp [errW_none, errW_some, hq_, bne]; rfl) | (simp [errW_none, errW_some] <;> rfl) | (simp [*, errW_none, errW_some] <;> rfl), by repeat (first | (with_reducible first | exact HB.out | apply below_alloc | apply pw_below_drewN | apply below_drew1 | refine below_set ?_ GE344.out | refine below_set ?_ GE377.out) | exact HB.out)⟩
       ·replace c37 := Bool.eq_false_iff.mpr c37
        subst c37
        have H1 : (none) = some r := by rw [if_neg (show ¬ (false = true) by decide)] at H; exact H
        clear H
        have H := H1
        clear H1
        exact absurd H (by simp)
      ·rw [if_neg c35] at H
       have c35b0 : (t376 == 0) = false := beq_eq_false_iff_ne.mpr c35
       have c35b1 : (t376 != 0) = true := bne_iff_ne.mpr c35
       by_cases c43 : t376 = 40
       ·rw [if_pos c43] at H
        have c43b0 : (t376 == 40) = true := beq_iff_eq.mpr c43
        have c43b1 : (t376 != 40) = false := bne_eq_false_iff_eq.mpr c43
        clear c43
        by_cases c44 : t375.toList = ([] : List UInt8)
        ·rw [if_pos c44] at H
         have c44b0 : (t375.toList == ([] : List UInt8)) = true := beq_iff_eq.mpr c44
         have c44b1 : (t375.toList != ([] : List UInt8)) = false := bne_eq_false_iff_eq.mpr c44
         clear c44
         obtain rfl := Option.some.inj H
         go_wp2_with (first | ((with_reducible refine gate_callee (f := 14) rfl ?_); refine goesL_ (some 55) rfl rfl Tryd.func14 (by kernel_rfl) rfl #[.string a1] rfl (by (try simp only [List.map_toArray, List.map_cons, List.map_nil]); first | done | rfl | (simp only [List.length_drop, List.length_take]; rfl)) ?_; (with_reducible refine (header_Get.calls kj19 a1 t364 t365 t366 t367 t368 t369 t370 t371 t372 t373 t374 t375 t376 _ A34.out).mono ?_); rintro e w45 ⟨rfl, hb⟩; refine ⟨_, rfl, ?_⟩; have n0_ := Aside0.mk (blk_below (g := gb344) (o := .cells #[.bool a0_0, .bool a0_1, .bool a0_2, .int .i64 a0_3, .int .u32 a0_4, .string a0_5, .string a0_6, .string a0_7, .int .u64 a0_8, .int .i64 a0_9, .int .u64 a0_10] 25 (0, 0)) (by (with_reducible repeat (first | refine blk_drewN ?_ _ | refine blk_drew ?_ | refine blk_alloc ?_ _)); exact BK344.out) hb); have n1_ := Aside0.mk (below_step (by repeat (first | (with_reducible first | exact HB.out | apply below_alloc | apply pw_below_drewN | apply below_drew1 | refine below_set ?_ GE344.out) | exact HB.out)) hb); clear BK344; clear HB; have BK344 := n0_; have HB := n1_; clear n0_ n1_; (try clear hb); (try clear hb2); (try clear hk); (try clear hi)) | ((with_reducible refine gate_dst (N := 10) rfl ?_); (try (refine gate_guard (by rfl) ?_; dsimp only)); refine box_event ?hg (N := 10) ?hd (cs := #[.bool false, .bool false, .bool false, .int .i64 0, .int .u32 0, .string (⟨#[]⟩ : ByteArray), .string (⟨#[]⟩ : ByteArray), .string (⟨#[]⟩ : ByteArray), .int .u64 0, .int .i64 0, .int .u64 0]) (t := 25) ?hr ?_; (case hd => rfl); (case hg => rfl); (case hr => first | (go_simp; done) | (go_simp; rfl)); intro gb377 hg w46 hbox hb; have n0_ := Aside0.mk (blk_below (g := gb344) (o := .cells #[.bool a0_0, .bool a0_1, .bool a0_2, .int .i64 a0_3, .int .u32 a0_4, .string a0_5, .string a0_6, .string a0_7, .int .u64 a0_8, .int .i64 a0_9, .int .u64 a0_10] 25 (0, 0)) (by (with_reducible repeat (first | refine blk_drewN ?_ _ | refine blk_drew ?_ | refine blk_alloc ?_ _)); exact BK344.out) hb); have n1_ := Aside0.mk (below_step (by repeat (first | (with_reducible first | exact HB.out | apply below_alloc | apply pw_below_drewN | apply below_drew1 | refine below_set ?_ GE344.out) | exact HB.out)) hb); have n2_ := Aside0.mk (hbox); have n3_ := Aside0.mk ((by rw [hg]; exact (below_size (by repeat (first | (with_reducible first | exact HB.out | apply below_alloc | apply pw_below_drewN | apply below_drew1 | refine below_set ?_ GE344.out) | exact HB.out))) : w.heap.size ≤ gb377)); have n4_ := Aside0.mk ((by rw [hg]; exact (below_size (by repeat (first | (with_reducible first | exact HB.out | apply below_alloc | apply pw_below_drewN | apply below_drew1 | refine below_set ?_ GE344.out) | exact HB.out))) : w.heap.size ≤ gb377)); have n5_ := Aside0.mk ((by rw [hg]; exact Nat.ne_of_lt (blk_lt (g := gb344) (o := .cells #[.bool a0_0, .bool a0_1, .bool a0_2, .int .i64 a0_3, .int .u32 a0_4, .string a0_5, .string a0_6, .string a0_7, .int .u64 a0_8, .int .i64 a0_9, .int .u64 a0_10] 25 (0, 0)) (by (with_reducible repeat (first | refine blk_drewN ?_ _ | refine blk_drew ?_ | refine blk_alloc ?_ _)); exact BK344.out)) : gb344 ≠ gb377)); have n6_ := Aside0.mk ((by rw [hg]; exact Nat.ne_of_gt (blk_lt (g := gb344) (o := .cells #[.bool a0_0, .bool a0_1, .bool a0_2, .int .i64 a0_3, .int .u32 a0_4, .string a0_5, .string a0_6, .string a0_7, .int .u64 a0_8, .int .i64 a0_9, .int .u64 a0_10] 25 (0, 0)) (by (with_reducible repeat (first | refine blk_drewN ?_ _ | refine blk_drew ?_ | refine blk_alloc ?_ _)); exact BK344.out)) : gb377 ≠ gb344)); clear BK344; clear HB; have BK344 := n0_; have HB := n1_; have BK377 := n2_; have GW377 := n3_; have GE377 := n4_; have NB344_377 := n5_; have NB377_344 := n6_; clear n0_ n1_ n2_ n3_ n4_ n5_ n6_; clear hb hbox hg; have hnb47 := NB377_344.out; have hnc47 := NB344_377.out; have hcz48_0 : w46.cell? ⟨gb377, 0, none⟩ = some (.bool false) := (blk_cell BK377.out 0).trans rfl; have hcz48_1 : w46.cell? ⟨gb377, 1, none⟩ = some (.bool false) := (blk_cell BK377.out 1).trans rfl; have hcz48_2 : w46.cell? ⟨gb377, 2, none⟩ = some (.bool false) := (blk_cell BK377.out 2).trans rfl; have hcz48_3 : w46.cell? ⟨gb377, 3, none⟩ = some (.int .i64 0) := (blk_cell BK377.out 3).trans rfl; have hcz48_4 : w46.cell? ⟨gb377, 4, none⟩ = some (.int .u32 0) := (blk_cell BK377.out 4).trans rfl; have hcz48_5 : w46.cell? ⟨gb377, 5, none⟩ = some (.string (⟨#[]⟩ : ByteArray)) := (blk_cell BK377.out 5).trans rfl; have hcz48_6 : w46.cell? ⟨gb377, 6, none⟩ = some (.string (⟨#[]⟩ : ByteArray)) := (blk_cell BK377.out 6).trans rfl; have hcz48_7 : w46.cell? ⟨gb377, 7, none⟩ = some (.string (⟨#[]⟩ : ByteArray)) := (blk_cell BK377.out 7).trans rfl; have hcz48_8 : w46.cell? ⟨gb377, 8, none⟩ = some (.int .u64 0) := (blk_cell BK377.out 8).trans rfl; have hcz48_9 : w46.cell? ⟨gb377, 9, none⟩ = some (.int .i64 0) := (blk_cell BK377.out 9).trans rfl; have hcz48_10 : w46.cell? ⟨gb377, 10, none⟩ = some (.int .u64 0) := (blk_cell BK377.out 10).trans rfl; have hfz48_0 := blk_frozen BK377.out 0; have hfz48_1 := blk_frozen BK377.out 1; have hfz48_2 := blk_frozen BK377.out 2; have hfz48_3 := blk_frozen BK377.out 3; have hfz48_4 := blk_frozen BK377.out 4; have hfz48_5 := blk_frozen BK377.out 5; have hfz48_6 := blk_frozen BK377.out 6; have hfz48_7 := blk_frozen BK377.out 7; have hfz48_8 := blk_frozen BK377.out 8; have hfz48_9 := blk_frozen BK377.out 9; have hfz48_10 := blk_frozen BK377.out 10))
         go_ret
         exact ⟨by first | rfl | (have hq_ := of_eq_true c27q; simp [errW_none, errW_some, hq_, bne]; done) | (have hq_ := of_eq_true c27q; simp [errW_none, errW_some, hq_, bne]; rfl) | (simp [errW_none, errW_some] <;> rfl) | (simp [*, errW_none, errW_some] <;> rfl), by repeat (first | (with_reducible first | exact HB.out | apply below_alloc | apply pw_below_drewN | apply below_drew1 | refine below_set ?_ GE344.out | refine below_set ?_ GE377.out) | exact HB.out)⟩
        ·rw [if_neg c44] at H
         exact absurd H (by simp)
       ·rw [if_neg c43] at H
        exact absurd H (by simp)

/-- THE ONE PURE STATEMENT of dominolaw04_HeaderBack: yours. -/
def dominolaw04_HeaderBack.Pure : Prop := ∀ (a0_0 : Bool) (a0_1 : Bool) (a0_2 : Bool) (a0_3 : Int) (a0_4 : Int) (a0_5 : ByteArray) (a0_6 : ByteArray) (a0_7 : ByteArray) (a0_8 : Int) (a0_9 : Int) (a0_10 : Int) (a1 : ByteArray), (Lit.int .i64 a0_3).wf = true → (Lit.int .u32 a0_4).wf = true → a0_5.size ≤ maxLen → a0_6.size ≤ maxLen → a0_7.size ≤ maxLen → (Lit.int .u64 a0_8).wf = true → (Lit.int .i64 a0_9).wf = true → (Lit.int .u64 a0_10).wf = true → a1.size ≤ 140737488351232 → ∃ k, dominolaw04_HeaderBack.f k a0_0 a0_1 a0_2 a0_3 a0_4 a0_5 a0_6 a0_7 a0_8 a0_9 a0_10 a1 = some true
theorem dominolaw04_HeaderBack.walk (P : dominolaw04_HeaderBack.Pure) (a0_0 : Bool) (a0_1 : Bool) (a0_2 : Bool) (a0_3 : Int) (a0_4 : Int) (a0_5 : ByteArray) (a0_6 : ByteArray) (a0_7 : ByteArray) (a0_8 : Int) (a0_9 : Int) (a0_10 : Int) (a1 : ByteArray) (w : World) (w0_3 : (Lit.int .i64 a0_3).wf = true) (w0_4 : (Lit.int .u32 a0_4).wf = true) (w0_5 : a0_5.size ≤ maxLen) (w0_6 : a0_6.size ≤ maxLen) (w0_7 : a0_7.size ≤ maxLen) (w0_8 : (Lit.int .u64 a0_8).wf = true) (w0_9 : (Lit.int .i64 a0_9).wf = true) (w0_10 : (Lit.int .u64 a0_10).wf = true) (w1 : a1.size ≤ 140737488351232) (ht : Tab w) :
  Calls Tryd.prog 4 #[.agg #[.bool a0_0, .bool a0_1, .bool a0_2, .int .i64 a0_3, .int .u32 a0_4, .string a0_5, .string a0_6, .string a0_7, .int .u64 a0_8, .int .i64 a0_9, .int .u64 a0_10], .string a1] w fun e w' => e = .returned (.bool true) ∧ Below w.heap.size w w' := by
 obtain ⟨k, h⟩ := P a0_0 a0_1 a0_2 a0_3 a0_4 a0_5 a0_6 a0_7 a0_8 a0_9 a0_10 a1 w0_3 w0_4 w0_5 w0_6 w0_7 w0_8 w0_9 w0_10 w1
 refine (dominolaw04_HeaderBack.calls k a0_0 a0_1 a0_2 a0_3 a0_4 a0_5 a0_6 a0_7 a0_8 a0_9 a0_10 a1 true w ht h).mono ?_
 rintro e w' ⟨rfl, hd⟩
 exact ⟨rfl, hd⟩

end Go.Proofs.YtjpafikgbnloaaaDoor.PHdq
