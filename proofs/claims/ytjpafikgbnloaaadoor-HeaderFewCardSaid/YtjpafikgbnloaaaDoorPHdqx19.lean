-- printed for this claim by a program of the claim (wip/tools/pp.py over the kit's print)
import Derived.Test.YtjpafikgbnloaaaDoorPHdqx0
import Derived.Test.YtjpafikgbnloaaaDoorPHdqx2
import Derived.Test.YtjpafikgbnloaaaDoorPHdqx3
import Derived.Test.YtjpafikgbnloaaaDoorPHdqx4
import Derived.Test.YtjpafikgbnloaaaDoorPHdqx7
import Derived.Test.YtjpafikgbnloaaaDoorPHdqx8
namespace Go.Proofs.YtjpafikgbnloaaaDoor.PHdq
open Go.RowKit Go.Proofs.YtjpafikgbnloaaaDoorW.PrintWords Go.Proofs.YtjpafikgbnloaaaDoorW.PrintLast Go.Proofs.YtjpafikgbnloaaaDoorW.PrintMore
attribute [local go_sem] max2_int min2_int max_two min_two max_three min_three max_four min_four   -- for this text's walks alone
set_option linter.unusedVariables false
set_option linter.unusedSimpArgs false

attribute [local go_sem] isSome_setCell_
/-! ### dominolaw04_HeaderZero: function 8 -/
def dominolaw04_HeaderZero.j0 : Nat → ByteArray → Bool → Option (Bool)
 | 0, _, _ => none
 | k + 1, x3, x25 => if x25 = true then ((dominolaw04_shown.f k).bind fun t404 => (some t404)) else (if 5 ≤ 281474976710656 then ((some (List.replicate 5 0 : List Int)).bind fun y405 => ((header_Mask.f k x3 (strOfNums y405)).bind fun bt408 => ((header_Unmask.f k x3 (strOfNums y405)).bind fun bt410 => (if bt408.2 = 0 then (if bt410.2 = 0 then (if bt408.1.toList = x3.toList then (some (bt410.1.toList == x3.toList)) else (none)) else (none)) else (none))))) else (none))
def dominolaw04_HeaderZero.f (k : Nat) (a0_0 : Bool) (a0_1 : Bool) (a0_2 : Bool) (a0_3 : Int) (a0_4 : Int) (a0_5 : ByteArray) (a0_6 : ByteArray) (a0_7 : ByteArray) (a0_8 : Int) (a0_9 : Int) (a0_10 : Int) : Option (Bool) := (header_Put.f k a0_0 a0_1 a0_2 a0_3 a0_4 a0_5 a0_6 a0_7 a0_8 a0_9 a0_10).bind fun bt400 => ((dominolaw04_bounded.f a0_0 a0_1 a0_2 a0_3 a0_4 a0_5 a0_6 a0_7 a0_8 a0_9 a0_10).bind fun t402 => (if t402 = true then (if bt400.2 = 0 then ((dominolaw04_shown.f k).bind fun t403 => (dominolaw04_HeaderZero.j0 k bt400.1 (!t403))) else (dominolaw04_HeaderZero.j0 k bt400.1 true)) else (dominolaw04_HeaderZero.j0 k bt400.1 true)))
theorem dominolaw04_HeaderZero.mono_l : ∀ k, (∀ y0 y1, LeO (dominolaw04_HeaderZero.j0 k y0 y1) (dominolaw04_HeaderZero.j0 (k + 1) y0 y1))
 | 0 => fun _ _ r h => by simp [dominolaw04_HeaderZero.j0] at h
 | k + 1 => by
  have ih0 := dominolaw04_HeaderZero.mono_l k
  ·intro y0 y1
   unfold dominolaw04_HeaderZero.j0
   repeat' first
   | (with_reducible exact ih0 _ _)
   | (with_reducible exact dominolaw04_shown.mono _)
   | (with_reducible exact header_Mask.mono _ _ _)
   | (with_reducible exact header_Put.mono _ _ _ _ _ _ _ _ _ _ _ _)
   | (with_reducible exact header_Unmask.mono _ _ _)
   | (with_reducible exact LeO.refl _)
   | (with_reducible exact LeO.none _)
   | (with_reducible refine LeO.ite ?_ ?_)
   | (with_reducible refine LeO.bind ?_ (fun _ => ?_))
   | exact ih0 _ _
   | exact dominolaw04_shown.mono _
   | exact header_Mask.mono _ _ _
   | exact header_Put.mono _ _ _ _ _ _ _ _ _ _ _ _
   | exact header_Unmask.mono _ _ _
   | exact LeO.none _
   | refine LeO.ite ?_ ?_
   | refine LeO.bind ?_ (fun _ => ?_)
theorem dominolaw04_HeaderZero.mono : ∀ a0 a1 a2 a3 a4 a5 a6 a7 a8 a9 a10 k, LeO (dominolaw04_HeaderZero.f k a0 a1 a2 a3 a4 a5 a6 a7 a8 a9 a10) (dominolaw04_HeaderZero.f (k + 1) a0 a1 a2 a3 a4 a5 a6 a7 a8 a9 a10) := by
 intro a0 a1 a2 a3 a4 a5 a6 a7 a8 a9 a10 k
 have ih0 := dominolaw04_HeaderZero.mono_l k
 unfold dominolaw04_HeaderZero.f
 repeat' first
   | (with_reducible exact ih0 _ _)
   | (with_reducible exact dominolaw04_shown.mono _)
   | (with_reducible exact header_Mask.mono _ _ _)
   | (with_reducible exact header_Put.mono _ _ _ _ _ _ _ _ _ _ _ _)
   | (with_reducible exact header_Unmask.mono _ _ _)
   | (with_reducible exact LeO.refl _)
   | (with_reducible exact LeO.none _)
   | (with_reducible refine LeO.ite ?_ ?_)
   | (with_reducible refine LeO.bind ?_ (fun _ => ?_))
   | exact ih0 _ _
   | exact dominolaw04_shown.mono _
   | exact header_Mask.mono _ _ _
   | exact header_Put.mono _ _ _ _ _ _ _ _ _ _ _ _
   | exact header_Unmask.mono _ _ _
   | exact LeO.none _
   | refine LeO.ite ?_ ?_
   | refine LeO.bind ?_ (fun _ => ?_)
set_option maxHeartbeats 8000000 in
set_option maxRecDepth 100000 in
theorem dominolaw04_HeaderZero.calls (k : Nat) (a0_0 : Bool) (a0_1 : Bool) (a0_2 : Bool) (a0_3 : Int) (a0_4 : Int) (a0_5 : ByteArray) (a0_6 : ByteArray) (a0_7 : ByteArray) (a0_8 : Int) (a0_9 : Int) (a0_10 : Int) (r : Bool) (w : World) (ht : Tab w) (h : dominolaw04_HeaderZero.f k a0_0 a0_1 a0_2 a0_3 a0_4 a0_5 a0_6 a0_7 a0_8 a0_9 a0_10 = some r) :
  Calls Tryd.prog 8 #[.agg #[.bool a0_0, .bool a0_1, .bool a0_2, .int .i64 a0_3, .int .u32 a0_4, .string a0_5, .string a0_6, .string a0_7, .int .u64 a0_8, .int .i64 a0_9, .int .u64 a0_10]] w fun e w' => e = .returned (.bool r) ∧ Below w.heap.size w w' := by
 have HTab := Aside0.mk ht
 clear ht
 have hu25 := Tryd.underlying25
 have HB := Aside0.mk (Below.refl w.heap.size w)
 have H : ((header_Put.f k a0_0 a0_1 a0_2 a0_3 a0_4 a0_5 a0_6 a0_7 a0_8 a0_9 a0_10).bind fun bt400 => ((dominolaw04_bounded.f a0_0 a0_1 a0_2 a0_3 a0_4 a0_5 a0_6 a0_7 a0_8 a0_9 a0_10).bind fun t402 => (if t402 = true then (if bt400.2 = 0 then ((dominolaw04_shown.f k).bind fun t403 => (dominolaw04_HeaderZero.j0 k bt400.1 (!t403))) else (dominolaw04_HeaderZero.j0 k bt400.1 true)) else (dominolaw04_HeaderZero.j0 k bt400.1 true)))) = some r := h
 clear h
 replace H := Option.bind_eq_some_iff.mp H
 obtain ⟨⟨t400, t401⟩, A20, H⟩ := H
 replace H : ((dominolaw04_bounded.f a0_0 a0_1 a0_2 a0_3 a0_4 a0_5 a0_6 a0_7 a0_8 a0_9 a0_10).bind fun t402 => (if t402 = true then (if t401 = 0 then ((dominolaw04_shown.f k).bind fun t403 => (dominolaw04_HeaderZero.j0 k t400 (!t403))) else (dominolaw04_HeaderZero.j0 k t400 true)) else (dominolaw04_HeaderZero.j0 k t400 true))) = some r := H
 have A2 := Aside0.mk A20
 clear A20
 have HC3 := Aside0.mk H
 clear H
 go_enter Tryd.func8, Tryd.ntmps8
 go_upto_region 2 with (first | ((with_reducible refine gate_dst (N := 1) rfl ?_); refine box_event ?hg (N := 1) ?hd (cs := #[.bool a0_0, .bool a0_1, .bool a0_2, .int .i64 a0_3, .int .u32 a0_4, .string a0_5, .string a0_6, .string a0_7, .int .u64 a0_8, .int .i64 a0_9, .int .u64 a0_10]) (t := 25) ?hr ?_; (case hd => rfl); (case hg => rfl); (case hr => first | (go_simp; done) | (go_simp; rfl)); intro gb399 hg w4 hbox hb; have n0_ := Aside0.mk (below_step (by repeat (first | (with_reducible first | exact HB.out | apply below_alloc | apply pw_below_drewN | apply below_drew1) | exact HB.out)) hb); have n1_ := Aside0.mk (hbox); have n2_ := Aside0.mk ((by rw [hg]; exact (below_size (by repeat (first | (with_reducible first | exact HB.out | apply below_alloc | apply pw_below_drewN | apply below_drew1) | exact HB.out))) : w.heap.size ≤ gb399)); have n3_ := Aside0.mk ((by rw [hg]; exact (below_size (by repeat (first | (with_reducible first | exact HB.out | apply below_alloc | apply pw_below_drewN | apply below_drew1) | exact HB.out))) : w.heap.size ≤ gb399)); clear HB; have HB := n0_; have BK399 := n1_; have GW399 := n2_; have GE399 := n3_; clear n0_ n1_ n2_ n3_; clear hb hbox hg; have hcz5_0 : w4.cell? ⟨gb399, 0, none⟩ = some (.bool a0_0) := (blk_cell BK399.out 0).trans rfl; have hcz5_1 : w4.cell? ⟨gb399, 1, none⟩ = some (.bool a0_1) := (blk_cell BK399.out 1).trans rfl; have hcz5_2 : w4.cell? ⟨gb399, 2, none⟩ = some (.bool a0_2) := (blk_cell BK399.out 2).trans rfl; have hcz5_3 : w4.cell? ⟨gb399, 3, none⟩ = some (.int .i64 a0_3) := (blk_cell BK399.out 3).trans rfl; have hcz5_4 : w4.cell? ⟨gb399, 4, none⟩ = some (.int .u32 a0_4) := (blk_cell BK399.out 4).trans rfl; have hcz5_5 : w4.cell? ⟨gb399, 5, none⟩ = some (.string a0_5) := (blk_cell BK399.out 5).trans rfl; have hcz5_6 : w4.cell? ⟨gb399, 6, none⟩ = some (.string a0_6) := (blk_cell BK399.out 6).trans rfl; have hcz5_7 : w4.cell? ⟨gb399, 7, none⟩ = some (.string a0_7) := (blk_cell BK399.out 7).trans rfl; have hcz5_8 : w4.cell? ⟨gb399, 8, none⟩ = some (.int .u64 a0_8) := (blk_cell BK399.out 8).trans rfl; have hcz5_9 : w4.cell? ⟨gb399, 9, none⟩ = some (.int .i64 a0_9) := (blk_cell BK399.out 9).trans rfl; have hcz5_10 : w4.cell? ⟨gb399, 10, none⟩ = some (.int .u64 a0_10) := (blk_cell BK399.out 10).trans rfl; have hfz5_0 := blk_frozen BK399.out 0; have hfz5_1 := blk_frozen BK399.out 1; have hfz5_2 := blk_frozen BK399.out 2; have hfz5_3 := blk_frozen BK399.out 3; have hfz5_4 := blk_frozen BK399.out 4; have hfz5_5 := blk_frozen BK399.out 5; have hfz5_6 := blk_frozen BK399.out 6; have hfz5_7 := blk_frozen BK399.out 7; have hfz5_8 := blk_frozen BK399.out 8; have hfz5_9 := blk_frozen BK399.out 9; have hfz5_10 := blk_frozen BK399.out 10) | ((with_reducible refine gate_callee (f := 12) rfl ?_); refine goesL_ (some 12) rfl rfl Tryd.func12 (by kernel_rfl) rfl #[.agg #[.bool a0_0, .bool a0_1, .bool a0_2, .int .i64 a0_3, .int .u32 a0_4, .string a0_5, .string a0_6, .string a0_7, .int .u64 a0_8, .int .i64 a0_9, .int .u64 a0_10]] rfl (by (try simp only [List.map_toArray, List.map_cons, List.map_nil]); first | done | rfl | (simp only [List.length_drop, List.length_take]; rfl)) ?_; (with_reducible refine (header_Put.calls k a0_0 a0_1 a0_2 a0_3 a0_4 a0_5 a0_6 a0_7 a0_8 a0_9 a0_10 t400 t401 _ (by first | exact HTab.out | exact tab_below HTab.out HB.out | exact (tab_below HTab.out (by repeat (first | (with_reducible first | exact HB.out | apply below_alloc | apply pw_below_drewN | apply below_drew1 | refine below_set ?_ GE399.out) | exact HB.out))) | exact tab_below HTab.out (by repeat (first | exact HB.out | exact Below.refl _ _ | apply below_alloc | apply pw_below_drewN | apply below_drew1 | refine below_set ?_ GE399.out))) A2.out).mono ?_); rintro e w6 ⟨rfl, hb⟩; refine ⟨_, rfl, ?_⟩; have n0_ := Aside0.mk (blk_below (g := gb399) (o := .cells #[.bool a0_0, .bool a0_1, .bool a0_2, .int .i64 a0_3, .int .u32 a0_4, .string a0_5, .string a0_6, .string a0_7, .int .u64 a0_8, .int .i64 a0_9, .int .u64 a0_10] 25 (0, 0)) (by (with_reducible repeat (first | refine blk_drewN ?_ _ | refine blk_drew ?_ | refine blk_alloc ?_ _)); exact BK399.out) hb); have n1_ := Aside0.mk (below_step (by repeat (first | (with_reducible first | exact HB.out | apply below_alloc | apply pw_below_drewN | apply below_drew1 | refine below_set ?_ GE399.out) | exact HB.out)) hb); clear BK399; clear HB; have BK399 := n0_; have HB := n1_; clear n0_ n1_; (try clear hb); (try clear hb2); (try clear hk); (try clear hi)))
 (try simp only [Act.put, List.setIfInBounds_toArray, List.set_cons_zero, List.set_cons_succ])
 go_cut [25] (fun v25 wc => ∃ (kq : Nat) (x25_2 : Bool), v25 = .bool x25_2 ∧ Aside0 (dominolaw04_HeaderZero.j0 kq t400 x25_2 = some r) ∧ Aside0 (kq ≤ k) ∧ Aside0 (wc.heap[gb399]? = some (.cells #[.bool a0_0, .bool a0_1, .bool a0_2, .int .i64 a0_3, .int .u32 a0_4, .string a0_5, .string a0_6, .string a0_7, .int .u64 a0_8, .int .i64 a0_9, .int .u64 a0_10] 25 (0, 0))) ∧ Aside0 (Below w.heap.size w wc))
 case first =>
  have H := HC3.out
  clear HC3
  replace H := Option.bind_eq_some_iff.mp H
  obtain ⟨t402, A70, H⟩ := H
  replace H : (if t402 = true then (if t401 = 0 then ((dominolaw04_shown.f k).bind fun t403 => (dominolaw04_HeaderZero.j0 k t400 (!t403))) else (dominolaw04_HeaderZero.j0 k t400 true)) else (dominolaw04_HeaderZero.j0 k t400 true)) = some r := H
  have A7 := Aside0.mk A70
  clear A70
  by_cases c8 : t402 = true
  ·subst c8
   have H1 : (if t401 = 0 then ((dominolaw04_shown.f k).bind fun t403 => (dominolaw04_HeaderZero.j0 k t400 (!t403))) else (dominolaw04_HeaderZero.j0 k t400 true)) = some r := by rw [if_pos rfl] at H; exact H
   clear H
   have H := H1
   clear H1
   by_cases c9 : t401 = 0
   ·rw [if_pos c9] at H
    have c9b0 : (t401 == 0) = true := beq_iff_eq.mpr c9
    have c9b1 : (t401 != 0) = false := bne_eq_false_iff_eq.mpr c9
    clear c9
    (first | rw [c9b0] | (simp only [i64_w, i32_w]; rw [c9b0]) | skip)
    replace H := Option.bind_eq_some_iff.mp H
    obtain ⟨t403, A100, H⟩ := H
    replace H : (dominolaw04_HeaderZero.j0 k t400 (!t403)) = some r := H
    have A10 := Aside0.mk A100
    clear A100
    have H' := Aside0.mk H
    clear H
    have hcz11_0 : w6.cell? ⟨gb399, 0, none⟩ = some (.bool a0_0) := (blk_cell BK399.out 0).trans rfl
    have hcz11_1 : w6.cell? ⟨gb399, 1, none⟩ = some (.bool a0_1) := (blk_cell BK399.out 1).trans rfl
    have hcz11_2 : w6.cell? ⟨gb399, 2, none⟩ = some (.bool a0_2) := (blk_cell BK399.out 2).trans rfl
    have hcz11_3 : w6.cell? ⟨gb399, 3, none⟩ = some (.int .i64 a0_3) := (blk_cell BK399.out 3).trans rfl
    have hcz11_4 : w6.cell? ⟨gb399, 4, none⟩ = some (.int .u32 a0_4) := (blk_cell BK399.out 4).trans rfl
    have hcz11_5 : w6.cell? ⟨gb399, 5, none⟩ = some (.string a0_5) := (blk_cell BK399.out 5).trans rfl
    have hcz11_6 : w6.cell? ⟨gb399, 6, none⟩ = some (.string a0_6) := (blk_cell BK399.out 6).trans rfl
    have hcz11_7 : w6.cell? ⟨gb399, 7, none⟩ = some (.string a0_7) := (blk_cell BK399.out 7).trans rfl
    have hcz11_8 : w6.cell? ⟨gb399, 8, none⟩ = some (.int .u64 a0_8) := (blk_cell BK399.out 8).trans rfl
    have hcz11_9 : w6.cell? ⟨gb399, 9, none⟩ = some (.int .i64 a0_9) := (blk_cell BK399.out 9).trans rfl
    have hcz11_10 : w6.cell? ⟨gb399, 10, none⟩ = some (.int .u64 a0_10) := (blk_cell BK399.out 10).trans rfl
    have hfz11_0 := blk_frozen BK399.out 0
    have hfz11_1 := blk_frozen BK399.out 1
    have hfz11_2 := blk_frozen BK399.out 2
    have hfz11_3 := blk_frozen BK399.out 3
    have hfz11_4 := blk_frozen BK399.out 4
    have hfz11_5 := blk_frozen BK399.out 5
    have hfz11_6 := blk_frozen BK399.out 6
    have hfz11_7 := blk_frozen BK399.out 7
    have hfz11_8 := blk_frozen BK399.out 8
    have hfz11_9 := blk_frozen BK399.out 9
    have hfz11_10 := blk_frozen BK399.out 10
    go_wp2_with (first | ((with_reducible refine gate_callee (f := 10) rfl ?_); refine goesL_ (some 16) rfl rfl Tryd.func10 (by kernel_rfl) rfl #[.agg #[.bool a0_0, .bool a0_1, .bool a0_2, .int .i64 a0_3, .int .u32 a0_4, .string a0_5, .string a0_6, .string a0_7, .int .u64 a0_8, .int .i64 a0_9, .int .u64 a0_10]] rfl (by (try simp only [List.map_toArray, List.map_cons, List.map_nil]); first | done | rfl | (simp only [List.length_drop, List.length_take]; rfl)) ?_; (with_reducible refine (dominolaw04_bounded.calls a0_0 a0_1 a0_2 a0_3 a0_4 a0_5 a0_6 a0_7 a0_8 a0_9 a0_10 true _ A7.out).mono ?_); rintro e w12 ⟨rfl, hb⟩; refine ⟨_, rfl, ?_⟩; have n0_ := Aside0.mk (blk_below (g := gb399) (o := .cells #[.bool a0_0, .bool a0_1, .bool a0_2, .int .i64 a0_3, .int .u32 a0_4, .string a0_5, .string a0_6, .string a0_7, .int .u64 a0_8, .int .i64 a0_9, .int .u64 a0_10] 25 (0, 0)) (by (with_reducible repeat (first | refine blk_drewN ?_ _ | refine blk_drew ?_ | refine blk_alloc ?_ _)); exact BK399.out) hb); have n1_ := Aside0.mk (below_step (by repeat (first | (with_reducible first | exact HB.out | apply below_alloc | apply pw_below_drewN | apply below_drew1 | refine below_set ?_ GE399.out) | exact HB.out)) hb); clear BK399; clear HB; have BK399 := n0_; have HB := n1_; clear n0_ n1_; (try clear hb); (try clear hb2); (try clear hk); (try clear hi)) | (go_at_call 11; (with_reducible refine (dominolaw04_shown.calls k  t403 _ (by first | exact HTab.out | exact tab_below HTab.out HB.out | exact (tab_below HTab.out (by repeat (first | (with_reducible first | exact HB.out | apply below_alloc | apply pw_below_drewN | apply below_drew1 | refine below_set ?_ GE399.out) | exact HB.out))) | exact tab_below HTab.out (by repeat (first | exact HB.out | exact Below.refl _ _ | apply below_alloc | apply pw_below_drewN | apply below_drew1 | refine below_set ?_ GE399.out))) A10.out).mono ?_); rintro e w13 ⟨rfl, hb⟩; have n0_ := Aside0.mk (blk_below (g := gb399) (o := .cells #[.bool a0_0, .bool a0_1, .bool a0_2, .int .i64 a0_3, .int .u32 a0_4, .string a0_5, .string a0_6, .string a0_7, .int .u64 a0_8, .int .i64 a0_9, .int .u64 a0_10] 25 (0, 0)) (by (with_reducible repeat (first | refine blk_drewN ?_ _ | refine blk_drew ?_ | refine blk_alloc ?_ _)); exact BK399.out) hb); have n1_ := Aside0.mk (below_step (by repeat (first | (with_reducible first | exact HB.out | apply below_alloc | apply pw_below_drewN | apply below_drew1 | refine below_set ?_ GE399.out) | exact HB.out)) hb); clear BK399; clear HB; have BK399 := n0_; have HB := n1_; clear n0_ n1_; (try clear hb); (try clear hb2); (try clear hk); (try clear hi)))
    go_meet
    case rel => exact ⟨_, (!t403), (by first | rfl | (simp; done) | (simp [*]; done)), H', ⟨by first | omega | exact Nat.le_refl _⟩, ⟨by (with_reducible repeat (first | refine blk_drewN ?_ _ | refine blk_drew ?_ | refine blk_alloc ?_ _)); exact BK399.out⟩, ⟨by repeat (first | (with_reducible first | exact HB.out | apply below_alloc | apply pw_below_drewN | apply below_drew1 | refine below_set ?_ GE399.out) | exact HB.out)⟩⟩
   ·rw [if_neg c9] at H
    have c9b0 : (t401 == 0) = false := beq_eq_false_iff_ne.mpr c9
    have c9b1 : (t401 != 0) = true := bne_iff_ne.mpr c9
    (first | rw [c9b0] | (simp only [i64_w, i32_w]; rw [c9b0]) | skip)
    have H' := Aside0.mk H
    clear H
    have hcz14_0 : w6.cell? ⟨gb399, 0, none⟩ = some (.bool a0_0) := (blk_cell BK399.out 0).trans rfl
    have hcz14_1 : w6.cell? ⟨gb399, 1, none⟩ = some (.bool a0_1) := (blk_cell BK399.out 1).trans rfl
    have hcz14_2 : w6.cell? ⟨gb399, 2, none⟩ = some (.bool a0_2) := (blk_cell BK399.out 2).trans rfl
    have hcz14_3 : w6.cell? ⟨gb399, 3, none⟩ = some (.int .i64 a0_3) := (blk_cell BK399.out 3).trans rfl
    have hcz14_4 : w6.cell? ⟨gb399, 4, none⟩ = some (.int .u32 a0_4) := (blk_cell BK399.out 4).trans rfl
    have hcz14_5 : w6.cell? ⟨gb399, 5, none⟩ = some (.string a0_5) := (blk_cell BK399.out 5).trans rfl
    have hcz14_6 : w6.cell? ⟨gb399, 6, none⟩ = some (.string a0_6) := (blk_cell BK399.out 6).trans rfl
    have hcz14_7 : w6.cell? ⟨gb399, 7, none⟩ = some (.string a0_7) := (blk_cell BK399.out 7).trans rfl
    have hcz14_8 : w6.cell? ⟨gb399, 8, none⟩ = some (.int .u64 a0_8) := (blk_cell BK399.out 8).trans rfl
    have hcz14_9 : w6.cell? ⟨gb399, 9, none⟩ = some (.int .i64 a0_9) := (blk_cell BK399.out 9).trans rfl
    have hcz14_10 : w6.cell? ⟨gb399, 10, none⟩ = some (.int .u64 a0_10) := (blk_cell BK399.out 10).trans rfl
    have hfz14_0 := blk_frozen BK399.out 0
    have hfz14_1 := blk_frozen BK399.out 1
    have hfz14_2 := blk_frozen BK399.out 2
    have hfz14_3 := blk_frozen BK399.out 3
    have hfz14_4 := blk_frozen BK399.out 4
    have hfz14_5 := blk_frozen BK399.out 5
    have hfz14_6 := blk_frozen BK399.out 6
    have hfz14_7 := blk_frozen BK399.out 7
    have hfz14_8 := blk_frozen BK399.out 8
    have hfz14_9 := blk_frozen BK399.out 9
    have hfz14_10 := blk_frozen BK399.out 10
    go_wp2_with (first | ((with_reducible refine gate_callee (f := 10) rfl ?_); refine goesL_ (some 16) rfl rfl Tryd.func10 (by kernel_rfl) rfl #[.agg #[.bool a0_0, .bool a0_1, .bool a0_2, .int .i64 a0_3, .int .u32 a0_4, .string a0_5, .string a0_6, .string a0_7, .int .u64 a0_8, .int .i64 a0_9, .int .u64 a0_10]] rfl (by (try simp only [List.map_toArray, List.map_cons, List.map_nil]); first | done | rfl | (simp only [List.length_drop, List.length_take]; rfl)) ?_; (with_reducible refine (dominolaw04_bounded.calls a0_0 a0_1 a0_2 a0_3 a0_4 a0_5 a0_6 a0_7 a0_8 a0_9 a0_10 true _ A7.out).mono ?_); rintro e w15 ⟨rfl, hb⟩; refine ⟨_, rfl, ?_⟩; have n0_ := Aside0.mk (blk_below (g := gb399) (o := .cells #[.bool a0_0, .bool a0_1, .bool a0_2, .int .i64 a0_3, .int .u32 a0_4, .string a0_5, .string a0_6, .string a0_7, .int .u64 a0_8, .int .i64 a0_9, .int .u64 a0_10] 25 (0, 0)) (by (with_reducible repeat (first | refine blk_drewN ?_ _ | refine blk_drew ?_ | refine blk_alloc ?_ _)); exact BK399.out) hb); have n1_ := Aside0.mk (below_step (by repeat (first | (with_reducible first | exact HB.out | apply below_alloc | apply pw_below_drewN | apply below_drew1 | refine below_set ?_ GE399.out) | exact HB.out)) hb); clear BK399; clear HB; have BK399 := n0_; have HB := n1_; clear n0_ n1_; (try clear hb); (try clear hb2); (try clear hk); (try clear hi)))
    go_meet
    case rel => exact ⟨_, (true), (by first | rfl | (simp; done) | (simp [*]; done)), H', ⟨by first | omega | exact Nat.le_refl _⟩, ⟨by (with_reducible repeat (first | refine blk_drewN ?_ _ | refine blk_drew ?_ | refine blk_alloc ?_ _)); exact BK399.out⟩, ⟨by repeat (first | (with_reducible first | exact HB.out | apply below_alloc | apply pw_below_drewN | apply below_drew1 | refine below_set ?_ GE399.out) | exact HB.out)⟩⟩
  ·replace c8 := Bool.eq_false_iff.mpr c8
   subst c8
   have H1 : (dominolaw04_HeaderZero.j0 k t400 true) = some r := by rw [if_neg (show ¬ (false = true) by decide)] at H; exact H
   clear H
   have H := H1
   clear H1
   have H' := Aside0.mk H
   clear H
   have hcz16_0 : w6.cell? ⟨gb399, 0, none⟩ = some (.bool a0_0) := (blk_cell BK399.out 0).trans rfl
   have hcz16_1 : w6.cell? ⟨gb399, 1, none⟩ = some (.bool a0_1) := (blk_cell BK399.out 1).trans rfl
   have hcz16_2 : w6.cell? ⟨gb399, 2, none⟩ = some (.bool a0_2) := (blk_cell BK399.out 2).trans rfl
   have hcz16_3 : w6.cell? ⟨gb399, 3, none⟩ = some (.int .i64 a0_3) := (blk_cell BK399.out 3).trans rfl
   have hcz16_4 : w6.cell? ⟨gb399, 4, none⟩ = some (.int .u32 a0_4) := (blk_cell BK399.out 4).trans rfl
   have hcz16_5 : w6.cell? ⟨gb399, 5, none⟩ = some (.string a0_5) := (blk_cell BK399.out 5).trans rfl
   have hcz16_6 : w6.cell? ⟨gb399, 6, none⟩ = some (.string a0_6) := (blk_cell BK399.out 6).trans rfl
   have hcz16_7 : w6.cell? ⟨gb399, 7, none⟩ = some (.string a0_7) := (blk_cell BK399.out 7).trans rfl
   have hcz16_8 : w6.cell? ⟨gb399, 8, none⟩ = some (.int .u64 a0_8) := (blk_cell BK399.out 8).trans rfl
   have hcz16_9 : w6.cell? ⟨gb399, 9, none⟩ = some (.int .i64 a0_9) := (blk_cell BK399.out 9).trans rfl
   have hcz16_10 : w6.cell? ⟨gb399, 10, none⟩ = some (.int .u64 a0_10) := (blk_cell BK399.out 10).trans rfl
   have hfz16_0 := blk_frozen BK399.out 0
   have hfz16_1 := blk_frozen BK399.out 1
   have hfz16_2 := blk_frozen BK399.out 2
   have hfz16_3 := blk_frozen BK399.out 3
   have hfz16_4 := blk_frozen BK399.out 4
   have hfz16_5 := blk_frozen BK399.out 5
   have hfz16_6 := blk_frozen BK399.out 6
   have hfz16_7 := blk_frozen BK399.out 7
   have hfz16_8 := blk_frozen BK399.out 8
   have hfz16_9 := blk_frozen BK399.out 9
   have hfz16_10 := blk_frozen BK399.out 10
   go_wp2_with (first | ((with_reducible refine gate_callee (f := 10) rfl ?_); refine goesL_ (some 16) rfl rfl Tryd.func10 (by kernel_rfl) rfl #[.agg #[.bool a0_0, .bool a0_1, .bool a0_2, .int .i64 a0_3, .int .u32 a0_4, .string a0_5, .string a0_6, .string a0_7, .int .u64 a0_8, .int .i64 a0_9, .int .u64 a0_10]] rfl (by (try simp only [List.map_toArray, List.map_cons, List.map_nil]); first | done | rfl | (simp only [List.length_drop, List.length_take]; rfl)) ?_; (with_reducible refine (dominolaw04_bounded.calls a0_0 a0_1 a0_2 a0_3 a0_4 a0_5 a0_6 a0_7 a0_8 a0_9 a0_10 false _ A7.out).mono ?_); rintro e w17 ⟨rfl, hb⟩; refine ⟨_, rfl, ?_⟩; have n0_ := Aside0.mk (blk_below (g := gb399) (o := .cells #[.bool a0_0, .bool a0_1, .bool a0_2, .int .i64 a0_3, .int .u32 a0_4, .string a0_5, .string a0_6, .string a0_7, .int .u64 a0_8, .int .i64 a0_9, .int .u64 a0_10] 25 (0, 0)) (by (with_reducible repeat (first | refine blk_drewN ?_ _ | refine blk_drew ?_ | refine blk_alloc ?_ _)); exact BK399.out) hb); have n1_ := Aside0.mk (below_step (by repeat (first | (with_reducible first | exact HB.out | apply below_alloc | apply pw_below_drewN | apply below_drew1 | refine below_set ?_ GE399.out) | exact HB.out)) hb); clear BK399; clear HB; have BK399 := n0_; have HB := n1_; clear n0_ n1_; (try clear hb); (try clear hb2); (try clear hk); (try clear hi)))
   go_meet
   case rel => exact ⟨_, (true), (by first | rfl | (simp; done) | (simp [*]; done)), H', ⟨by first | omega | exact Nat.le_refl _⟩, ⟨by (with_reducible repeat (first | refine blk_drewN ?_ _ | refine blk_drew ?_ | refine blk_alloc ?_ _)); exact BK399.out⟩, ⟨by repeat (first | (with_reducible first | exact HB.out | apply below_alloc | apply pw_below_drewN | apply below_drew1 | refine below_set ?_ GE399.out) | exact HB.out)⟩⟩
 case rest =>
  clear HC3
  try clear c1
  try clear p2
  try clear c8
  try clear c9
  try clear c9b0
  try clear c9b1
  try clear c10
  try clear c12
  try clear hcz11_0
  try clear hcz11_1
  try clear hcz11_10
  try clear hcz11_2
  try clear hcz11_3
  try clear hcz11_4
  try clear hcz11_5
  try clear hcz11_6
  try clear hcz11_7
  try clear hcz11_8
  try clear hcz11_9
  try clear hcz14_0
  try clear hcz14_1
  try clear hcz14_10
  try clear hcz14_2
  try clear hcz14_3
  try clear hcz14_4
  try clear hcz14_5
  try clear hcz14_6
  try clear hcz14_7
  try clear hcz14_8
  try clear hcz14_9
  try clear hcz16_0
  try clear hcz16_1
  try clear hcz16_10
  try clear hcz16_2
  try clear hcz16_3
  try clear hcz16_4
  try clear hcz16_5
  try clear hcz16_6
  try clear hcz16_7
  try clear hcz16_8
  try clear hcz16_9
  try clear hcz5_0
  try clear hcz5_1
  try clear hcz5_10
  try clear hcz5_2
  try clear hcz5_3
  try clear hcz5_4
  try clear hcz5_5
  try clear hcz5_6
  try clear hcz5_7
  try clear hcz5_8
  try clear hcz5_9
  try clear hfz11_0
  try clear hfz11_1
  try clear hfz11_10
  try clear hfz11_2
  try clear hfz11_3
  try clear hfz11_4
  try clear hfz11_5
  try clear hfz11_6
  try clear hfz11_7
  try clear hfz11_8
  try clear hfz11_9
  try clear hfz14_0
  try clear hfz14_1
  try clear hfz14_10
  try clear hfz14_2
  try clear hfz14_3
  try clear hfz14_4
  try clear hfz14_5
  try clear hfz14_6
  try clear hfz14_7
  try clear hfz14_8
  try clear hfz14_9
  try clear hfz16_0
  try clear hfz16_1
  try clear hfz16_10
  try clear hfz16_2
  try clear hfz16_3
  try clear hfz16_4
  try clear hfz16_5
  try clear hfz16_6
  try clear hfz16_7
  try clear hfz16_8
  try clear hfz16_9
  try clear hfz5_0
  try clear hfz5_1
  try clear hfz5_10
  try clear hfz5_2
  try clear hfz5_3
  try clear hfz5_4
  try clear hfz5_5
  try clear hfz5_6
  try clear hfz5_7
  try clear hfz5_8
  try clear hfz5_9
  obtain ⟨kq, x25_2, rfl, HA, HJ2, BK399, HB⟩ := hcut
  cases kq with
  | zero => exact absurd HA.out (by simp [dominolaw04_HeaderZero.j0])
  | succ kj2 =>
   have H := HA.out
   clear HA
   simp only [dominolaw04_HeaderZero.j0] at H
   by_cases c18 : x25_2 = true
   ·subst c18
    have H1 : ((dominolaw04_shown.f kj2).bind fun t404 => (some t404)) = some r := by rw [if_pos rfl] at H; exact H
    clear H
    have H := H1
    clear H1
    replace H := Option.bind_eq_some_iff.mp H
    obtain ⟨t404, A190, H⟩ := H
    replace H : (some t404) = some r := H
    have A19 := Aside0.mk A190
    clear A190
    obtain rfl := Option.some.inj H
    go_wp2_with (first | ((with_reducible refine gate_callee (f := 11) rfl ?_); refine goesL_ (some 26) rfl rfl Tryd.func11 (by kernel_rfl) rfl #[] rfl (by (try simp only [List.map_toArray, List.map_cons, List.map_nil]); first | done | rfl | (simp only [List.length_drop, List.length_take]; rfl)) ?_; (with_reducible refine (dominolaw04_shown.calls kj2  t404 _ (by first | exact HTab.out | exact tab_below HTab.out HB.out | exact (tab_below HTab.out (by repeat (first | (with_reducible first | exact HB.out | apply below_alloc | apply pw_below_drewN | apply below_drew1 | refine below_set ?_ GE399.out) | exact HB.out))) | exact tab_below HTab.out (by repeat (first | exact HB.out | exact Below.refl _ _ | apply below_alloc | apply pw_below_drewN | apply below_drew1 | refine below_set ?_ GE399.out))) A19.out).mono ?_); rintro e w20 ⟨rfl, hb⟩; refine ⟨_, rfl, ?_⟩; have n0_ := Aside0.mk (blk_below (g := gb399) (o := .cells #[.bool a0_0, .bool a0_1, .bool a0_2, .int .i64 a0_3, .int .u32 a0_4, .string a0_5, .string a0_6, .string a0_7, .int .u64 a0_8, .int .i64 a0_9, .int .u64 a0_10] 25 (0, 0)) (by (with_reducible repeat (first | refine blk_drewN ?_ _ | refine blk_drew ?_ | refine blk_alloc ?_ _)); exact BK399.out) hb); have n1_ := Aside0.mk (below_step (by repeat (first | (with_reducible first | exact HB.out | apply below_alloc | apply pw_below_drewN | apply below_drew1 | refine below_set ?_ GE399.out) | exact HB.out)) hb); clear BK399; clear HB; have BK399 := n0_; have HB := n1_; clear n0_ n1_; (try clear hb); (try clear hb2); (try clear hk); (try clear hi)))
    go_ret
    exact ⟨by first | rfl | (simp [errW_none, errW_some] <;> rfl) | (simp [*, errW_none, errW_some] <;> rfl), by repeat (first | (with_reducible first | exact HB.out | apply below_alloc | apply pw_below_drewN | apply below_drew1 | refine below_set ?_ GE399.out) | exact HB.out)⟩
   ·replace c18 := Bool.eq_false_iff.mpr c18
    subst c18
    have H1 : (if 5 ≤ 281474976710656 then ((some (List.replicate 5 0 : List Int)).bind fun y405 => ((header_Mask.f kj2 t400 (strOfNums y405)).bind fun bt408 => ((header_Unmask.f kj2 t400 (strOfNums y405)).bind fun bt410 => (if bt408.2 = 0 then (if bt410.2 = 0 then (if bt408.1.toList = t400.toList then (some (bt410.1.toList == t400.toList)) else (none)) else (none)) else (none))))) else (none)) = some r := by rw [if_neg (show ¬ (false = true) by decide)] at H; exact H
    clear H
    have H := H1
    clear H1
    by_cases c21 : 5 ≤ 281474976710656
    ·rw [if_pos c21] at H
     have c21b0 := eq_true c21
     have c21b1 : decide (5 ≤ 281474976710656) = true := decide_eq_true c21
     clear c21
     obtain ⟨y405, hy405⟩ : ∃ y_ : List Int, y_ = (List.replicate 5 0) := ⟨_, rfl⟩
     replace H : ((header_Mask.f kj2 t400 (strOfNums y405)).bind fun bt408 => ((header_Unmask.f kj2 t400 (strOfNums y405)).bind fun bt410 => (if bt408.2 = 0 then (if bt410.2 = 0 then (if bt408.1.toList = t400.toList then (some (bt410.1.toList == t400.toList)) else (none)) else (none)) else (none)))) = some r := by first | (rw [hy405]; with_reducible exact H) | (have H2_ := (Option.bind_some _ _).symm.trans H; rw [hy405]; with_reducible exact H2_) | (have H2_ := (Option.bind_some _ _).symm.trans H; with_reducible exact H2_) | with_reducible exact H | (rw [hy405]; exact H) | exact H
     have Ny405 := Aside0.mk hy405
     clear hy405
     replace H := Option.bind_eq_some_iff.mp H
     obtain ⟨⟨t408, t409⟩, A220, H⟩ := H
     replace H : ((header_Unmask.f kj2 t400 (strOfNums y405)).bind fun bt410 => (if t409 = 0 then (if bt410.2 = 0 then (if t408.toList = t400.toList then (some (bt410.1.toList == t400.toList)) else (none)) else (none)) else (none))) = some r := H
     have A22 := Aside0.mk A220
     clear A220
     replace H := Option.bind_eq_some_iff.mp H
     obtain ⟨⟨t410, t411⟩, A230, H⟩ := H
     replace H : (if t409 = 0 then (if t411 = 0 then (if t408.toList = t400.toList then (some (t410.toList == t400.toList)) else (none)) else (none)) else (none)) = some r := H
     have A23 := Aside0.mk A230
     clear A230
     by_cases c24 : t409 = 0
     ·rw [if_pos c24] at H
      have c24b0 : (t409 == 0) = true := beq_iff_eq.mpr c24
      have c24b1 : (t409 != 0) = false := bne_eq_false_iff_eq.mpr c24
      clear c24
      by_cases c25 : t411 = 0
      ·rw [if_pos c25] at H
       have c25b0 : (t411 == 0) = true := beq_iff_eq.mpr c25
       have c25b1 : (t411 != 0) = false := bne_eq_false_iff_eq.mpr c25
       clear c25
       by_cases c26 : t408.toList = t400.toList
       ·rw [if_pos c26] at H
        have c26b0 : (t408.toList == t400.toList) = true := beq_iff_eq.mpr c26
        have c26b1 : (t408.toList != t400.toList) = false := bne_eq_false_iff_eq.mpr c26
        clear c26
        obtain rfl := Option.some.inj H
        go_wp2_with (first | ((with_reducible refine gate_dst (N := 27) rfl ?_); refine Kd.R_make (Kd.int .u8) _ 5 rfl (N := 27) rfl 44 _ _ rfl 5 rfl rfl Tryd.underlying44 (.int .u8 0) 1 info5 rfl (by decide) (by omega) 0 (ok := fun _ => True) (okp := fun _ => True) rfl (fun _ hk => hk) trivial (by omega) (by omega) (Below.refl _ _) (Nat.le_refl _) ?_; intro v406 w27 ho28 hb hg_ hnew_; clear hg_ hnew_; (first | rw [← Ny405.out] at ho28 | (simp only [Int.reduceToNat] at ho28; rw [← Ny405.out] at ho28)); have n0_ := Aside0.mk (Kd.R_lower ho28 (below_size (by repeat (first | (with_reducible first | exact HB.out | apply below_alloc | apply pw_below_drewN | apply below_drew1 | refine below_set ?_ GE399.out) | exact HB.out)))); have n1_ := Aside0.mk (blk_below (g := gb399) (o := .cells #[.bool a0_0, .bool a0_1, .bool a0_2, .int .i64 a0_3, .int .u32 a0_4, .string a0_5, .string a0_6, .string a0_7, .int .u64 a0_8, .int .i64 a0_9, .int .u64 a0_10] 25 (0, 0)) (by (with_reducible repeat (first | refine blk_drewN ?_ _ | refine blk_drew ?_ | refine blk_alloc ?_ _)); exact BK399.out) hb); have n2_ := Aside0.mk (below_step (by repeat (first | (with_reducible first | exact HB.out | apply below_alloc | apply pw_below_drewN | apply below_drew1 | refine below_set ?_ GE399.out) | exact HB.out)) hb); clear BK399; clear HB; have HO407 := n0_; have BK399 := n1_; have HB := n2_; clear n0_ n1_ n2_; clear hb ho28; have hcv29 := own_string (P := Tryd.prog) Tryd.underlying44 Tryd.underlying5 Tryd.underlying9 (Kd.own_of_R HO407.out)) | ((with_reducible refine gate_callee (f := 20) rfl ?_); refine goesL_ (some 32) rfl rfl Tryd.func20 (by kernel_rfl) rfl #[.string t400, .string (strOfNums y405)] rfl (by (try simp only [List.map_toArray, List.map_cons, List.map_nil]); first | done | rfl | (simp only [List.length_drop, List.length_take]; rfl)) ?_; (with_reducible refine (header_Mask.calls kj2 t400 (strOfNums y405) t408 t409 _ A22.out).mono ?_); rintro e w30 ⟨rfl, hb⟩; refine ⟨_, rfl, ?_⟩; have n0_ := Aside0.mk (Kd.R_below (by (with_reducible repeat (first | apply Kd.R_alloc | apply Kd.R_drewN | apply Kd.R_drew)); exact HO407.out) hb); have n1_ := Aside0.mk (blk_below (g := gb399) (o := .cells #[.bool a0_0, .bool a0_1, .bool a0_2, .int .i64 a0_3, .int .u32 a0_4, .string a0_5, .string a0_6, .string a0_7, .int .u64 a0_8, .int .i64 a0_9, .int .u64 a0_10] 25 (0, 0)) (by (with_reducible repeat (first | refine blk_drewN ?_ _ | refine blk_drew ?_ | refine blk_alloc ?_ _)); exact BK399.out) hb); have n2_ := Aside0.mk (below_step (by repeat (first | (with_reducible first | exact HB.out | apply below_alloc | apply pw_below_drewN | apply below_drew1 | refine below_set ?_ GE399.out) | exact HB.out)) hb); clear HO407; clear BK399; clear HB; have HO407 := n0_; have BK399 := n1_; have HB := n2_; clear n0_ n1_ n2_; (try clear hb); (try clear hb2); (try clear hk); (try clear hi)) | ((with_reducible refine gate_callee (f := 22) rfl ?_); refine goesL_ (some 38) rfl rfl Tryd.func22 (by kernel_rfl) rfl #[.string t400, .string (strOfNums y405)] rfl (by (try simp only [List.map_toArray, List.map_cons, List.map_nil]); first | done | rfl | (simp only [List.length_drop, List.length_take]; rfl)) ?_; (with_reducible refine (header_Unmask.calls kj2 t400 (strOfNums y405) t410 t411 _ A23.out).mono ?_); rintro e w31 ⟨rfl, hb⟩; refine ⟨_, rfl, ?_⟩; have n0_ := Aside0.mk (Kd.R_below (by (with_reducible repeat (first | apply Kd.R_alloc | apply Kd.R_drewN | apply Kd.R_drew)); exact HO407.out) hb); have n1_ := Aside0.mk (blk_below (g := gb399) (o := .cells #[.bool a0_0, .bool a0_1, .bool a0_2, .int .i64 a0_3, .int .u32 a0_4, .string a0_5, .string a0_6, .string a0_7, .int .u64 a0_8, .int .i64 a0_9, .int .u64 a0_10] 25 (0, 0)) (by (with_reducible repeat (first | refine blk_drewN ?_ _ | refine blk_drew ?_ | refine blk_alloc ?_ _)); exact BK399.out) hb); have n2_ := Aside0.mk (below_step (by repeat (first | (with_reducible first | exact HB.out | apply below_alloc | apply pw_below_drewN | apply below_drew1 | refine below_set ?_ GE399.out) | exact HB.out)) hb); clear HO407; clear BK399; clear HB; have HO407 := n0_; have BK399 := n1_; have HB := n2_; clear n0_ n1_ n2_; (try clear hb); (try clear hb2); (try clear hk); (try clear hi)))
        go_ret
        exact ⟨by first | rfl | (simp [errW_none, errW_some] <;> rfl) | (simp [*, errW_none, errW_some] <;> rfl), by repeat (first | (with_reducible first | exact HB.out | apply below_alloc | apply pw_below_drewN | apply below_drew1 | refine below_set ?_ GE399.out) | exact HB.out)⟩
       ·rw [if_neg c26] at H
        exact absurd H (by simp)
      ·rw [if_neg c25] at H
       exact absurd H (by simp)
     ·rw [if_neg c24] at H
      exact absurd H (by simp)
    ·rw [if_neg c21] at H
     exact absurd H (by simp)

/-- THE ONE PURE STATEMENT of dominolaw04_HeaderZero: yours. -/
def dominolaw04_HeaderZero.Pure : Prop := ∀ (a0_0 : Bool) (a0_1 : Bool) (a0_2 : Bool) (a0_3 : Int) (a0_4 : Int) (a0_5 : ByteArray) (a0_6 : ByteArray) (a0_7 : ByteArray) (a0_8 : Int) (a0_9 : Int) (a0_10 : Int), (Lit.int .i64 a0_3).wf = true → (Lit.int .u32 a0_4).wf = true → a0_5.size ≤ maxLen → a0_6.size ≤ maxLen → a0_7.size ≤ maxLen → (Lit.int .u64 a0_8).wf = true → (Lit.int .i64 a0_9).wf = true → (Lit.int .u64 a0_10).wf = true → ∃ k, dominolaw04_HeaderZero.f k a0_0 a0_1 a0_2 a0_3 a0_4 a0_5 a0_6 a0_7 a0_8 a0_9 a0_10 = some true
theorem dominolaw04_HeaderZero.walk (P : dominolaw04_HeaderZero.Pure) (a0_0 : Bool) (a0_1 : Bool) (a0_2 : Bool) (a0_3 : Int) (a0_4 : Int) (a0_5 : ByteArray) (a0_6 : ByteArray) (a0_7 : ByteArray) (a0_8 : Int) (a0_9 : Int) (a0_10 : Int) (w : World) (w0_3 : (Lit.int .i64 a0_3).wf = true) (w0_4 : (Lit.int .u32 a0_4).wf = true) (w0_5 : a0_5.size ≤ maxLen) (w0_6 : a0_6.size ≤ maxLen) (w0_7 : a0_7.size ≤ maxLen) (w0_8 : (Lit.int .u64 a0_8).wf = true) (w0_9 : (Lit.int .i64 a0_9).wf = true) (w0_10 : (Lit.int .u64 a0_10).wf = true) (ht : Tab w) :
  Calls Tryd.prog 8 #[.agg #[.bool a0_0, .bool a0_1, .bool a0_2, .int .i64 a0_3, .int .u32 a0_4, .string a0_5, .string a0_6, .string a0_7, .int .u64 a0_8, .int .i64 a0_9, .int .u64 a0_10]] w fun e w' => e = .returned (.bool true) ∧ Below w.heap.size w w' := by
 obtain ⟨k, h⟩ := P a0_0 a0_1 a0_2 a0_3 a0_4 a0_5 a0_6 a0_7 a0_8 a0_9 a0_10 w0_3 w0_4 w0_5 w0_6 w0_7 w0_8 w0_9 w0_10
 refine (dominolaw04_HeaderZero.calls k a0_0 a0_1 a0_2 a0_3 a0_4 a0_5 a0_6 a0_7 a0_8 a0_9 a0_10 true w ht h).mono ?_
 rintro e w' ⟨rfl, hd⟩
 exact ⟨rfl, hd⟩

/-! ### dominolaw04_HeaderFew: function 9 -/
def dominolaw04_HeaderFew.j0 : Nat → Int → ByteArray → Bool → Bool → Bool → Bool → Int → Int → ByteArray → ByteArray → ByteArray → Int → Int → Int → Option (Bool)
 | 0, _, _, _, _, _, _, _, _, _, _, _, _, _, _ => none
 | k + 1, x1, x5, x33, x413000, x413001, x413002, x413003, x413004, x413005, x413006, x413007, x413008, x413009, x413010 => if x33 = true then ((dominolaw04_shown.f k).bind fun t417 => (some t417)) else (if (x5.size : Int) = 0 then (none) else (if 0 ≤ (Int.tmod (wrap64 (x1)) (x5.size : Int)) then (if (Int.tmod (wrap64 (x1)) (x5.size : Int)) ≤ (x5.size : Int) then ((header_Get.f k (x5.extract 0 ((Int.tmod (wrap64 (x1)) (x5.size : Int)) : Int).toNat)).bind fun bt418 => ((header_Place.f k (x5.extract 0 ((Int.tmod (wrap64 (x1)) (x5.size : Int)) : Int).toNat)).bind fun bt432 => (if bt418.2.2.2.2.2.2.2.2.2.2.2.2 = 40 then (if ((bt432.2 == 0) == (decide ((Int.tmod (wrap64 (x1)) (x5.size : Int)) ≥ (wrap64 ((x5.size : Int) - x413009))))) = true then (if bt432.2 = 0 then (some (bt432.1 == (wrap64 ((x5.size : Int) - x413009)))) else (if bt432.1 = 0 then (some true) else (none))) else (none)) else (none)))) else (none)) else (none)))
def dominolaw04_HeaderFew.f (k : Nat) (a0_0 : Bool) (a0_1 : Bool) (a0_2 : Bool) (a0_3 : Int) (a0_4 : Int) (a0_5 : ByteArray) (a0_6 : ByteArray) (a0_7 : ByteArray) (a0_8 : Int) (a0_9 : Int) (a0_10 : Int) (a1 : Int) : Option (Bool) := (header_Put.f k a0_0 a0_1 a0_2 a0_3 a0_4 a0_5 a0_6 a0_7 a0_8 a0_9 a0_10).bind fun bt413 => ((dominolaw04_bounded.f a0_0 a0_1 a0_2 a0_3 a0_4 a0_5 a0_6 a0_7 a0_8 a0_9 a0_10).bind fun t415 => (if t415 = true then (if bt413.2 = 0 then (if (bt413.1.size : Int) = 0 then (dominolaw04_HeaderFew.j0 k a1 bt413.1 true a0_0 a0_1 a0_2 a0_3 a0_4 a0_5 a0_6 a0_7 a0_8 a0_9 a0_10) else ((dominolaw04_shown.f k).bind fun t416 => (dominolaw04_HeaderFew.j0 k a1 bt413.1 (!t416) a0_0 a0_1 a0_2 a0_3 a0_4 a0_5 a0_6 a0_7 a0_8 a0_9 a0_10))) else (dominolaw04_HeaderFew.j0 k a1 bt413.1 true a0_0 a0_1 a0_2 a0_3 a0_4 a0_5 a0_6 a0_7 a0_8 a0_9 a0_10)) else (dominolaw04_HeaderFew.j0 k a1 bt413.1 true a0_0 a0_1 a0_2 a0_3 a0_4 a0_5 a0_6 a0_7 a0_8 a0_9 a0_10)))
theorem dominolaw04_HeaderFew.mono_l : ∀ k, (∀ y0 y1 y2 y3 y4 y5 y6 y7 y8 y9 y10 y11 y12 y13, LeO (dominolaw04_HeaderFew.j0 k y0 y1 y2 y3 y4 y5 y6 y7 y8 y9 y10 y11 y12 y13) (dominolaw04_HeaderFew.j0 (k + 1) y0 y1 y2 y3 y4 y5 y6 y7 y8 y9 y10 y11 y12 y13))
 | 0 => fun _ _ _ _ _ _ _ _ _ _ _ _ _ _ r h => by simp [dominolaw04_HeaderFew.j0] at h
 | k + 1 => by
  have ih0 := dominolaw04_HeaderFew.mono_l k
  ·intro y0 y1 y2 y3 y4 y5 y6 y7 y8 y9 y10 y11 y12 y13
   unfold dominolaw04_HeaderFew.j0
   repeat' first
   | (with_reducible exact ih0 _ _ _ _ _ _ _ _ _ _ _ _ _ _)
   | (with_reducible exact dominolaw04_shown.mono _)
   | (with_reducible exact header_Get.mono _ _)
   | (with_reducible exact header_Place.mono _ _)
   | (with_reducible exact header_Put.mono _ _ _ _ _ _ _ _ _ _ _ _)
   | (with_reducible exact LeO.refl _)
   | (with_reducible exact LeO.none _)
   | (with_reducible refine LeO.ite ?_ ?_)
   | (with_reducible refine LeO.bind ?_ (fun _ => ?_))
   | exact ih0 _ _ _ _ _ _ _ _ _ _ _ _ _ _
   | exact dominolaw04_shown.mono _
   | exact header_Get.mono _ _
   | exact header_Place.mono _ _
   | exact header_Put.mono _ _ _ _ _ _ _ _ _ _ _ _
   | exact LeO.none _
   | refine LeO.ite ?_ ?_
   | refine LeO.bind ?_ (fun _ => ?_)
theorem dominolaw04_HeaderFew.mono : ∀ a0 a1 a2 a3 a4 a5 a6 a7 a8 a9 a10 a11 k, LeO (dominolaw04_HeaderFew.f k a0 a1 a2 a3 a4 a5 a6 a7 a8 a9 a10 a11) (dominolaw04_HeaderFew.f (k + 1) a0 a1 a2 a3 a4 a5 a6 a7 a8 a9 a10 a11) := by
 intro a0 a1 a2 a3 a4 a5 a6 a7 a8 a9 a10 a11 k
 have ih0 := dominolaw04_HeaderFew.mono_l k
 unfold dominolaw04_HeaderFew.f
 repeat' first
   | (with_reducible exact ih0 _ _ _ _ _ _ _ _ _ _ _ _ _ _)
   | (with_reducible exact dominolaw04_shown.mono _)
   | (with_reducible exact header_Get.mono _ _)
   | (with_reducible exact header_Place.mono _ _)
   | (with_reducible exact header_Put.mono _ _ _ _ _ _ _ _ _ _ _ _)
   | (with_reducible exact LeO.refl _)
   | (with_reducible exact LeO.none _)
   | (with_reducible refine LeO.ite ?_ ?_)
   | (with_reducible refine LeO.bind ?_ (fun _ => ?_))
   | exact ih0 _ _ _ _ _ _ _ _ _ _ _ _ _ _
   | exact dominolaw04_shown.mono _
   | exact header_Get.mono _ _
   | exact header_Place.mono _ _
   | exact header_Put.mono _ _ _ _ _ _ _ _ _ _ _ _
   | exact LeO.none _
   | refine LeO.ite ?_ ?_
   | refine LeO.bind ?_ (fun _ => ?_)
set_option maxHeartbeats 8000000 in
set_option maxRecDepth 100000 in
theorem dominolaw04_HeaderFew.calls (k : Nat) (a0_0 : Bool) (a0_1 : Bool) (a0_2 : Bool) (a0_3 : Int) (a0_4 : Int) (a0_5 : ByteArray) (a0_6 : ByteArray) (a0_7 : ByteArray) (a0_8 : Int) (a0_9 : Int) (a0_10 : Int) (a1 : Int) (r : Bool) (w : World) (ht : Tab w) (h : dominolaw04_HeaderFew.f k a0_0 a0_1 a0_2 a0_3 a0_4 a0_5 a0_6 a0_7 a0_8 a0_9 a0_10 a1 = some r) :
  Calls Tryd.prog 9 #[.agg #[.bool a0_0, .bool a0_1, .bool a0_2, .int .i64 a0_3, .int .u32 a0_4, .string a0_5, .string a0_6, .string a0_7, .int .u64 a0_8, .int .i64 a0_9, .int .u64 a0_10], .int .u16 a1] w fun e w' => e = .returned (.bool r) ∧ Below w.heap.size w w' := by
 have HTab := Aside0.mk ht
 clear ht
 have hu25 := Tryd.underlying25
 have HB := Aside0.mk (Below.refl w.heap.size w)
 have H : ((header_Put.f k a0_0 a0_1 a0_2 a0_3 a0_4 a0_5 a0_6 a0_7 a0_8 a0_9 a0_10).bind fun bt413 => ((dominolaw04_bounded.f a0_0 a0_1 a0_2 a0_3 a0_4 a0_5 a0_6 a0_7 a0_8 a0_9 a0_10).bind fun t415 => (if t415 = true then (if bt413.2 = 0 then (if (bt413.1.size : Int) = 0 then (dominolaw04_HeaderFew.j0 k a1 bt413.1 true a0_0 a0_1 a0_2 a0_3 a0_4 a0_5 a0_6 a0_7 a0_8 a0_9 a0_10) else ((dominolaw04_shown.f k).bind fun t416 => (dominolaw04_HeaderFew.j0 k a1 bt413.1 (!t416) a0_0 a0_1 a0_2 a0_3 a0_4 a0_5 a0_6 a0_7 a0_8 a0_9 a0_10))) else (dominolaw04_HeaderFew.j0 k a1 bt413.1 true a0_0 a0_1 a0_2 a0_3 a0_4 a0_5 a0_6 a0_7 a0_8 a0_9 a0_10)) else (dominolaw04_HeaderFew.j0 k a1 bt413.1 true a0_0 a0_1 a0_2 a0_3 a0_4 a0_5 a0_6 a0_7 a0_8 a0_9 a0_10)))) = some r := h
 clear h
 replace H := Option.bind_eq_some_iff.mp H
 obtain ⟨⟨t413, t414⟩, A30, H⟩ := H
 replace H : ((dominolaw04_bounded.f a0_0 a0_1 a0_2 a0_3 a0_4 a0_5 a0_6 a0_7 a0_8 a0_9 a0_10).bind fun t415 => (if t415 = true then (if t414 = 0 then (if (t413.size : Int) = 0 then (dominolaw04_HeaderFew.j0 k a1 t413 true a0_0 a0_1 a0_2 a0_3 a0_4 a0_5 a0_6 a0_7 a0_8 a0_9 a0_10) else ((dominolaw04_shown.f k).bind fun t416 => (dominolaw04_HeaderFew.j0 k a1 t413 (!t416) a0_0 a0_1 a0_2 a0_3 a0_4 a0_5 a0_6 a0_7 a0_8 a0_9 a0_10))) else (dominolaw04_HeaderFew.j0 k a1 t413 true a0_0 a0_1 a0_2 a0_3 a0_4 a0_5 a0_6 a0_7 a0_8 a0_9 a0_10)) else (dominolaw04_HeaderFew.j0 k a1 t413 true a0_0 a0_1 a0_2 a0_3 a0_4 a0_5 a0_6 a0_7 a0_8 a0_9 a0_10))) = some r := H
 have A3 := Aside0.mk A30
 clear A30
 have HC4 := Aside0.mk H
 clear H
 go_enter Tryd.func9, Tryd.ntmps9
 go_upto_region 2 with (first | ((with_reducible refine gate_dst (N := 2) rfl ?_); (try (refine gate_guard (by rfl) ?_; dsimp only)); refine box_event ?hg (N := 2) ?hd (cs := #[.bool a0_0, .bool a0_1, .bool a0_2, .int .i64 a0_3, .int .u32 a0_4, .string a0_5, .string a0_6, .string a0_7, .int .u64 a0_8, .int .i64 a0_9, .int .u64 a0_10]) (t := 25) ?hr ?_; (case hd => rfl); (case hg => rfl); (case hr => first | (go_simp; done) | (go_simp; rfl)); intro gb412 hg w5 hbox hb; have n0_ := Aside0.mk (below_step (by repeat (first | (with_reducible first | exact HB.out | apply below_alloc | apply pw_below_drewN | apply below_drew1) | exact HB.out)) hb); have n1_ := Aside0.mk (hbox); have n2_ := Aside0.mk ((by rw [hg]; exact (below_size (by repeat (first | (with_reducible first | exact HB.out | apply below_alloc | apply pw_below_drewN | apply below_drew1) | exact HB.out))) : w.heap.size ≤ gb412)); have n3_ := Aside0.mk ((by rw [hg]; exact (below_size (by repeat (first | (with_reducible first | exact HB.out | apply below_alloc | apply pw_below_drewN | apply below_drew1) | exact HB.out))) : w.heap.size ≤ gb412)); clear HB; have HB := n0_; have BK412 := n1_; have GW412 := n2_; have GE412 := n3_; clear n0_ n1_ n2_ n3_; clear hb hbox hg; have hcz6_0 : w5.cell? ⟨gb412, 0, none⟩ = some (.bool a0_0) := (blk_cell BK412.out 0).trans rfl; have hcz6_1 : w5.cell? ⟨gb412, 1, none⟩ = some (.bool a0_1) := (blk_cell BK412.out 1).trans rfl; have hcz6_2 : w5.cell? ⟨gb412, 2, none⟩ = some (.bool a0_2) := (blk_cell BK412.out 2).trans rfl; have hcz6_3 : w5.cell? ⟨gb412, 3, none⟩ = some (.int .i64 a0_3) := (blk_cell BK412.out 3).trans rfl; have hcz6_4 : w5.cell? ⟨gb412, 4, none⟩ = some (.int .u32 a0_4) := (blk_cell BK412.out 4).trans rfl; have hcz6_5 : w5.cell? ⟨gb412, 5, none⟩ = some (.string a0_5) := (blk_cell BK412.out 5).trans rfl; have hcz6_6 : w5.cell? ⟨gb412, 6, none⟩ = some (.string a0_6) := (blk_cell BK412.out 6).trans rfl; have hcz6_7 : w5.cell? ⟨gb412, 7, none⟩ = some (.string a0_7) := (blk_cell BK412.out 7).trans rfl; have hcz6_8 : w5.cell? ⟨gb412, 8, none⟩ = some (.int .u64 a0_8) := (blk_cell BK412.out 8).trans rfl; have hcz6_9 : w5.cell? ⟨gb412, 9, none⟩ = some (.int .i64 a0_9) := (blk_cell BK412.out 9).trans rfl; have hcz6_10 : w5.cell? ⟨gb412, 10, none⟩ = some (.int .u64 a0_10) := (blk_cell BK412.out 10).trans rfl; have hfz6_0 := blk_frozen BK412.out 0; have hfz6_1 := blk_frozen BK412.out 1; have hfz6_2 := blk_frozen BK412.out 2; have hfz6_3 := blk_frozen BK412.out 3; have hfz6_4 := blk_frozen BK412.out 4; have hfz6_5 := blk_frozen BK412.out 5; have hfz6_6 := blk_frozen BK412.out 6; have hfz6_7 := blk_frozen BK412.out 7; have hfz6_8 := blk_frozen BK412.out 8; have hfz6_9 := blk_frozen BK412.out 9; have hfz6_10 := blk_frozen BK412.out 10) | ((with_reducible refine gate_callee (f := 12) rfl ?_); refine goesL_ (some 15) rfl rfl Tryd.func12 (by kernel_rfl) rfl #[.agg #[.bool a0_0, .bool a0_1, .bool a0_2, .int .i64 a0_3, .int .u32 a0_4, .string a0_5, .string a0_6, .string a0_7, .int .u64 a0_8, .int .i64 a0_9, .int .u64 a0_10]] rfl (by (try simp only [List.map_toArray, List.map_cons, List.map_nil]); first | done | rfl | (simp only [List.length_drop, List.length_take]; rfl)) ?_; (with_reducible refine (header_Put.calls k a0_0 a0_1 a0_2 a0_3 a0_4 a0_5 a0_6 a0_7 a0_8 a0_9 a0_10 t413 t414 _ (by first | exact HTab.out | exact tab_below HTab.out HB.out | exact (tab_below HTab.out (by repeat (first | (with_reducible first | exact HB.out | apply below_alloc | apply pw_below_drewN | apply below_drew1 | refine below_set ?_ GE412.out) | exact HB.out))) | exact tab_below HTab.out (by repeat (first | exact HB.out | exact Below.refl _ _ | apply below_alloc | apply pw_below_drewN | apply below_drew1 | refine below_set ?_ GE412.out | refine below_set ?_ GE431.out))) A3.out).mono ?_); rintro e w7 ⟨rfl, hb⟩; refine ⟨_, rfl, ?_⟩; have n0_ := Aside0.mk (blk_below (g := gb412) (o := .cells #[.bool a0_0, .bool a0_1, .bool a0_2, .int .i64 a0_3, .int .u32 a0_4, .string a0_5, .string a0_6, .string a0_7, .int .u64 a0_8, .int .i64 a0_9, .int .u64 a0_10] 25 (0, 0)) (by (with_reducible repeat (first | refine blk_drewN ?_ _ | refine blk_drew ?_ | refine blk_alloc ?_ _)); exact BK412.out) hb); have n1_ := Aside0.mk (below_step (by repeat (first | (with_reducible first | exact HB.out | apply below_alloc | apply pw_below_drewN | apply below_drew1 | refine below_set ?_ GE412.out) | exact HB.out)) hb); clear BK412; clear HB; have BK412 := n0_; have HB := n1_; clear n0_ n1_; (try clear hb); (try clear hb2); (try clear hk); (try clear hi)))
 (try simp only [Act.put, List.setIfInBounds_toArray, List.set_cons_zero, List.set_cons_succ])
 go_cut [33] (fun v33 wc => ∃ (kq : Nat) (x33_3 : Bool), v33 = .bool x33_3 ∧ Aside0 (dominolaw04_HeaderFew.j0 kq a1 t413 x33_3 a0_0 a0_1 a0_2 a0_3 a0_4 a0_5 a0_6 a0_7 a0_8 a0_9 a0_10 = some r) ∧ Aside0 (kq ≤ k) ∧ Aside0 (wc.heap[gb412]? = some (.cells #[.bool a0_0, .bool a0_1, .bool a0_2, .int .i64 a0_3, .int .u32 a0_4, .string a0_5, .string a0_6, .string a0_7, .int .u64 a0_8, .int .i64 a0_9, .int .u64 a0_10] 25 (0, 0))) ∧ Aside0 (Below w.heap.size w wc))
 case first =>
  have H := HC4.out
  clear HC4
  replace H := Option.bind_eq_some_iff.mp H
  obtain ⟨t415, A80, H⟩ := H
  replace H : (if t415 = true then (if t414 = 0 then (if (t413.size : Int) = 0 then (dominolaw04_HeaderFew.j0 k a1 t413 true a0_0 a0_1 a0_2 a0_3 a0_4 a0_5 a0_6 a0_7 a0_8 a0_9 a0_10) else ((dominolaw04_shown.f k).bind fun t416 => (dominolaw04_HeaderFew.j0 k a1 t413 (!t416) a0_0 a0_1 a0_2 a0_3 a0_4 a0_5 a0_6 a0_7 a0_8 a0_9 a0_10))) else (dominolaw04_HeaderFew.j0 k a1 t413 true a0_0 a0_1 a0_2 a0_3 a0_4 a0_5 a0_6 a0_7 a0_8 a0_9 a0_10)) else (dominolaw04_HeaderFew.j0 k a1 t413 true a0_0 a0_1 a0_2 a0_3 a0_4 a0_5 a0_6 a0_7 a0_8 a0_9 a0_10)) = some r := H
  have A8 := Aside0.mk A80
  clear A80
  by_cases c9 : t415 = true
  ·subst c9
   have H1 : (if t414 = 0 then (if (t413.size : Int) = 0 then (dominolaw04_HeaderFew.j0 k a1 t413 true a0_0 a0_1 a0_2 a0_3 a0_4 a0_5 a0_6 a0_7 a0_8 a0_9 a0_10) else ((dominolaw04_shown.f k).bind fun t416 => (dominolaw04_HeaderFew.j0 k a1 t413 (!t416) a0_0 a0_1 a0_2 a0_3 a0_4 a0_5 a0_6 a0_7 a0_8 a0_9 a0_10))) else (dominolaw04_HeaderFew.j0 k a1 t413 true a0_0 a0_1 a0_2 a0_3 a0_4 a0_5 a0_6 a0_7 a0_8 a0_9 a0_10)) = some r := by rw [if_pos rfl] at H; exact H
   clear H
   have H := H1
   clear H1
   by_cases c10 : t414 = 0
   ·rw [if_pos c10] at H
    have c10b0 : (t414 == 0) = true := beq_iff_eq.mpr c10
    have c10b1 : (t414 != 0) = false := bne_eq_false_iff_eq.mpr c10
    clear c10
    (first | rw [c10b0] | (simp only [i64_w, i32_w]; rw [c10b0]) | skip)
    by_cases c11 : (t413.size : Int) = 0
    ·rw [if_pos c11] at H
     have c11b0 : ((t413.size : Int) == 0) = true := beq_iff_eq.mpr c11
     have c11b1 : ((t413.size : Int) != 0) = false := bne_eq_false_iff_eq.mpr c11
     clear c11
     have H' := Aside0.mk H
     clear H
     have hcz12_0 : w7.cell? ⟨gb412, 0, none⟩ = some (.bool a0_0) := (blk_cell BK412.out 0).trans rfl
     have hcz12_1 : w7.cell? ⟨gb412, 1, none⟩ = some (.bool a0_1) := (blk_cell BK412.out 1).trans rfl
     have hcz12_2 : w7.cell? ⟨gb412, 2, none⟩ = some (.bool a0_2) := (blk_cell BK412.out 2).trans rfl
     have hcz12_3 : w7.cell? ⟨gb412, 3, none⟩ = some (.int .i64 a0_3) := (blk_cell BK412.out 3).trans rfl
     have hcz12_4 : w7.cell? ⟨gb412, 4, none⟩ = some (.int .u32 a0_4) := (blk_cell BK412.out 4).trans rfl
     have hcz12_5 : w7.cell? ⟨gb412, 5, none⟩ = some (.string a0_5) := (blk_cell BK412.out 5).trans rfl
     have hcz12_6 : w7.cell? ⟨gb412, 6, none⟩ = some (.string a0_6) := (blk_cell BK412.out 6).trans rfl
     have hcz12_7 : w7.cell? ⟨gb412, 7, none⟩ = some (.string a0_7) := (blk_cell BK412.out 7).trans rfl
     have hcz12_8 : w7.cell? ⟨gb412, 8, none⟩ = some (.int .u64 a0_8) := (blk_cell BK412.out 8).trans rfl
     have hcz12_9 : w7.cell? ⟨gb412, 9, none⟩ = some (.int .i64 a0_9) := (blk_cell BK412.out 9).trans rfl
     have hcz12_10 : w7.cell? ⟨gb412, 10, none⟩ = some (.int .u64 a0_10) := (blk_cell BK412.out 10).trans rfl
     have hfz12_0 := blk_frozen BK412.out 0
     have hfz12_1 := blk_frozen BK412.out 1
     have hfz12_2 := blk_frozen BK412.out 2
     have hfz12_3 := blk_frozen BK412.out 3
     have hfz12_4 := blk_frozen BK412.out 4
     have hfz12_5 := blk_frozen BK412.out 5
     have hfz12_6 := blk_frozen BK412.out 6
     have hfz12_7 := blk_frozen BK412.out 7
     have hfz12_8 := blk_frozen BK412.out 8
     have hfz12_9 := blk_frozen BK412.out 9
     have hfz12_10 := blk_frozen BK412.out 10
     go_wp2_with (first | ((with_reducible refine gate_callee (f := 10) rfl ?_); refine goesL_ (some 19) rfl rfl Tryd.func10 (by kernel_rfl) rfl #[.agg #[.bool a0_0, .bool a0_1, .bool a0_2, .int .i64 a0_3, .int .u32 a0_4, .string a0_5, .string a0_6, .string a0_7, .int .u64 a0_8, .int .i64 a0_9, .int .u64 a0_10]] rfl (by (try simp only [List.map_toArray, List.map_cons, List.map_nil]); first | done | rfl | (simp only [List.length_drop, List.length_take]; rfl)) ?_; (with_reducible refine (dominolaw04_bounded.calls a0_0 a0_1 a0_2 a0_3 a0_4 a0_5 a0_6 a0_7 a0_8 a0_9 a0_10 true _ A8.out).mono ?_); rintro e w13 ⟨rfl, hb⟩; refine ⟨_, rfl, ?_⟩; have n0_ := Aside0.mk (blk_below (g := gb412) (o := .cells #[.bool a0_0, .bool a0_1, .bool a0_2, .int .i64 a0_3, .int .u32 a0_4, .string a0_5, .string a0_6, .string a0_7, .int .u64 a0_8, .int .i64 a0_9, .int .u64 a0_10] 25 (0, 0)) (by (with_reducible repeat (first | refine blk_drewN ?_ _ | refine blk_drew ?_ | refine blk_alloc ?_ _)); exact BK412.out) hb); have n1_ := Aside0.mk (below_step (by repeat (first | (with_reducible first | exact HB.out | apply below_alloc | apply pw_below_drewN | apply below_drew1 | refine below_set ?_ GE412.out) | exact HB.out)) hb); clear BK412; clear HB; have BK412 := n0_; have HB := n1_; clear n0_ n1_; (try clear hb); (try clear hb2); (try clear hk); (try clear hi)))
     go_meet
     case rel => exact ⟨_, (true), (by first | rfl | (simp; done) | (simp [*]; done)), H', ⟨by first | omega | exact Nat.le_refl _⟩, ⟨by (with_reducible repeat (first | refine blk_drewN ?_ _ | refine blk_drew ?_ | refine blk_alloc ?_ _)); exact BK412.out⟩, ⟨by repeat (first | (with_reducible first | exact HB.out | apply below_alloc | apply pw_below_drewN | apply below_drew1 | refine below_set ?_ GE412.out) | exact HB.out)⟩⟩
    ·rw [if_neg c11] at H
     have c11b0 : ((t413.size : Int) == 0) = false := beq_eq_false_iff_ne.mpr c11
     have c11b1 : ((t413.size : Int) != 0) = true := bne_iff_ne.mpr c11
     replace H := Option.bind_eq_some_iff.mp H
     obtain ⟨t416, A140, H⟩ := H
     replace H : (dominolaw04_HeaderFew.j0 k a1 t413 (!t416) a0_0 a0_1 a0_2 a0_3 a0_4 a0_5 a0_6 a0_7 a0_8 a0_9 a0_10) = some r := H
     have A14 := Aside0.mk A140
     clear A140
     have H' := Aside0.mk H
     clear H
     have hcz15_0 : w7.cell? ⟨gb412, 0, none⟩ = some (.bool a0_0) := (blk_cell BK412.out 0).trans rfl
     have hcz15_1 : w7.cell? ⟨gb412, 1, none⟩ = some (.bool a0_1) := (blk_cell BK412.out 1).trans rfl
     have hcz15_2 : w7.cell? ⟨gb412, 2, none⟩ = some (.bool a0_2) := (blk_cell BK412.out 2).trans rfl
     have hcz15_3 : w7.cell? ⟨gb412, 3, none⟩ = some (.int .i64 a0_3) := (blk_cell BK412.out 3).trans rfl
     have hcz15_4 : w7.cell? ⟨gb412, 4, none⟩ = some (.int .u32 a0_4) := (blk_cell BK412.out 4).trans rfl
     have hcz15_5 : w7.cell? ⟨gb412, 5, none⟩ = some (.string a0_5) := (blk_cell BK412.out 5).trans rfl
     have hcz15_6 : w7.cell? ⟨gb412, 6, none⟩ = some (.string a0_6) := (blk_cell BK412.out 6).trans rfl
     have hcz15_7 : w7.cell? ⟨gb412, 7, none⟩ = some (.string a0_7) := (blk_cell BK412.out 7).trans rfl
     have hcz15_8 : w7.cell? ⟨gb412, 8, none⟩ = some (.int .u64 a0_8) := (blk_cell BK412.out 8).trans rfl
     have hcz15_9 : w7.cell? ⟨gb412, 9, none⟩ = some (.int .i64 a0_9) := (blk_cell BK412.out 9).trans rfl
     have hcz15_10 : w7.cell? ⟨gb412, 10, none⟩ = some (.int .u64 a0_10) := (blk_cell BK412.out 10).trans rfl
     have hfz15_0 := blk_frozen BK412.out 0
     have hfz15_1 := blk_frozen BK412.out 1
     have hfz15_2 := blk_frozen BK412.out 2
     have hfz15_3 := blk_frozen BK412.out 3
     have hfz15_4 := blk_frozen BK412.out 4
     have hfz15_5 := blk_frozen BK412.out 5
     have hfz15_6 := blk_frozen BK412.out 6
     have hfz15_7 := blk_frozen BK412.out 7
     have hfz15_8 := blk_frozen BK412.out 8
     have hfz15_9 := blk_frozen BK412.out 9
     have hfz15_10 := blk_frozen BK412.out 10
     go_wp2_with (first | ((with_reducible refine gate_callee (f := 10) rfl ?_); refine goesL_ (some 19) rfl rfl Tryd.func10 (by kernel_rfl) rfl #[.agg #[.bool a0_0, .bool a0_1, .bool a0_2, .int .i64 a0_3, .int .u32 a0_4, .string a0_5, .string a0_6, .string a0_7, .int .u64 a0_8, .int .i64 a0_9, .int .u64 a0_10]] rfl (by (try simp only [List.map_toArray, List.map_cons, List.map_nil]); first | done | rfl | (simp only [List.length_drop, List.length_take]; rfl)) ?_; (with_reducible refine (dominolaw04_bounded.calls a0_0 a0_1 a0_2 a0_3 a0_4 a0_5 a0_6 a0_7 a0_8 a0_9 a0_10 true _ A8.out).mono ?_); rintro e w16 ⟨rfl, hb⟩; refine ⟨_, rfl, ?_⟩; have n0_ := Aside0.mk (blk_below (g := gb412) (o := .cells #[.bool a0_0, .bool a0_1, .bool a0_2, .int .i64 a0_3, .int .u32 a0_4, .string a0_5, .string a0_6, .string a0_7, .int .u64 a0_8, .int .i64 a0_9, .int .u64 a0_10] 25 (0, 0)) (by (with_reducible repeat (first | refine blk_drewN ?_ _ | refine blk_drew ?_ | refine blk_alloc ?_ _)); exact BK412.out) hb); have n1_ := Aside0.mk (below_step (by repeat (first | (with_reducible first | exact HB.out | apply below_alloc | apply pw_below_drewN | apply below_drew1 | refine below_set ?_ GE412.out) | exact HB.out)) hb); clear BK412; clear HB; have BK412 := n0_; have HB := n1_; clear n0_ n1_; (try clear hb); (try clear hb2); (try clear hk); (try clear hi)) | (go_at_call 11; (with_reducible refine (dominolaw04_shown.calls k  t416 _ (by first | exact HTab.out | exact tab_below HTab.out HB.out | exact (tab_below HTab.out (by repeat (first | (with_reducible first | exact HB.out | apply below_alloc | apply pw_below_drewN | apply below_drew1 | refine below_set ?_ GE412.out) | exact HB.out))) | exact tab_below HTab.out (by repeat (first | exact HB.out | exact Below.refl _ _ | apply below_alloc | apply pw_below_drewN | apply below_drew1 | refine below_set ?_ GE412.out | refine below_set ?_ GE431.out))) A14.out).mono ?_); rintro e w17 ⟨rfl, hb⟩; have n0_ := Aside0.mk (blk_below (g := gb412) (o := .cells #[.bool a0_0, .bool a0_1, .bool a0_2, .int .i64 a0_3, .int .u32 a0_4, .string a0_5, .string a0_6, .string a0_7, .int .u64 a0_8, .int .i64 a0_9, .int .u64 a0_10] 25 (0, 0)) (by (with_reducible repeat (first | refine blk_drewN ?_ _ | refine blk_drew ?_ | refine blk_alloc ?_ _)); exact BK412.out) hb); have n1_ := Aside0.mk (below_step (by repeat (first | (with_reducible first | exact HB.out | apply below_alloc | apply pw_below_drewN | apply below_drew1 | refine below_set ?_ GE412.out) | exact HB.out)) hb); clear BK412; clear HB; have BK412 := n0_; have HB := n1_; clear n0_ n1_; (try clear hb); (try clear hb2); (try clear hk); (try clear hi)))
     go_meet
     case rel => exact ⟨_, (!t416), (by first | rfl | (simp; done) | (simp [*]; done)), H', ⟨by first | omega | exact Nat.le_refl _⟩, ⟨by (with_reducible repeat (first | refine blk_drewN ?_ _ | refine blk_drew ?_ | refine blk_alloc ?_ _)); exact BK412.out⟩, ⟨by repeat (first | (with_reducible first | exact HB.out | apply below_alloc | apply pw_below_drewN | apply below_drew1 | refine below_set ?_ GE412.out) | exact HB.out)⟩⟩
   ·rw [if_neg c10] at H
    have c10b0 : (t414 == 0) = false := beq_eq_false_iff_ne.mpr c10
    have c10b1 : (t414 != 0) = true := bne_iff_ne.mpr c10
    (first | rw [c10b0] | (simp only [i64_w, i32_w]; rw [c10b0]) | skip)
    have H' := Aside0.mk H
    clear H
    have hcz18_0 : w7.cell? ⟨gb412, 0, none⟩ = some (.bool a0_0) := (blk_cell BK412.out 0).trans rfl
    have hcz18_1 : w7.cell? ⟨gb412, 1, none⟩ = some (.bool a0_1) := (blk_cell BK412.out 1).trans rfl
    have hcz18_2 : w7.cell? ⟨gb412, 2, none⟩ = some (.bool a0_2) := (blk_cell BK412.out 2).trans rfl
    have hcz18_3 : w7.cell? ⟨gb412, 3, none⟩ = some (.int .i64 a0_3) := (blk_cell BK412.out 3).trans rfl
    have hcz18_4 : w7.cell? ⟨gb412, 4, none⟩ = some (.int .u32 a0_4) := (blk_cell BK412.out 4).trans rfl
    have hcz18_5 : w7.cell? ⟨gb412, 5, none⟩ = some (.string a0_5) := (blk_cell BK412.out 5).trans rfl
    have hcz18_6 : w7.cell? ⟨gb412, 6, none⟩ = some (.string a0_6) := (blk_cell BK412.out 6).trans rfl
    have hcz18_7 : w7.cell? ⟨gb412, 7, none⟩ = some (.string a0_7) := (blk_cell BK412.out 7).trans rfl
    have hcz18_8 : w7.cell? ⟨gb412, 8, none⟩ = some (.int .u64 a0_8) := (blk_cell BK412.out 8).trans rfl
    have hcz18_9 : w7.cell? ⟨gb412, 9, none⟩ = some (.int .i64 a0_9) := (blk_cell BK412.out 9).trans rfl
    have hcz18_10 : w7.cell? ⟨gb412, 10, none⟩ = some (.int .u64 a0_10) := (blk_cell BK412.out 10).trans rfl
    have hfz18_0 := blk_frozen BK412.out 0
    have hfz18_1 := blk_frozen BK412.out 1
    have hfz18_2 := blk_frozen BK412.out 2
    have hfz18_3 := blk_frozen BK412.out 3
    have hfz18_4 := blk_frozen BK412.out 4
    have hfz18_5 := blk_frozen BK412.out 5
    have hfz18_6 := blk_frozen BK412.out 6
    have hfz18_7 := blk_frozen BK412.out 7
    have hfz18_8 := blk_frozen BK412.out 8
    have hfz18_9 := blk_frozen BK412.out 9
    have hfz18_10 := blk_frozen BK412.out 10
    go_wp2_with (first | ((with_reducible refine gate_callee (f := 10) rfl ?_); refine goesL_ (some 19) rfl rfl Tryd.func10 (by kernel_rfl) rfl #[.agg #[.bool a0_0, .bool a0_1, .bool a0_2, .int .i64 a0_3, .int .u32 a0_4, .string a0_5, .string a0_6, .string a0_7, .int .u64 a0_8, .int .i64 a0_9, .int .u64 a0_10]] rfl (by (try simp only [List.map_toArray, List.map_cons, List.map_nil]); first | done | rfl | (simp only [List.length_drop, List.length_take]; rfl)) ?_; (with_reducible refine (dominolaw04_bounded.calls a0_0 a0_1 a0_2 a0_3 a0_4 a0_5 a0_6 a0_7 a0_8 a0_9 a0_10 true _ A8.out).mono ?_); rintro e w19 ⟨rfl, hb⟩; refine ⟨_, rfl, ?_⟩; have n0_ := Aside0.mk (blk_below (g := gb412) (o := .cells #[.bool a0_0, .bool a0_1, .bool a0_2, .int .i64 a0_3, .int .u32 a0_4, .string a0_5, .string a0_6, .string a0_7, .int .u64 a0_8, .int .i64 a0_9, .int .u64 a0_10] 25 (0, 0)) (by (with_reducible repeat (first | refine blk_drewN ?_ _ | refine blk_drew ?_ | refine blk_alloc ?_ _)); exact BK412.out) hb); have n1_ := Aside0.mk (below_step (by repeat (first | (with_reducible first | exact HB.out | apply below_alloc | apply pw_below_drewN | apply below_drew1 | refine below_set ?_ GE412.out) | exact HB.out)) hb); clear BK412; clear HB; have BK412 := n0_; have HB := n1_; clear n0_ n1_; (try clear hb); (try clear hb2); (try clear hk); (try clear hi)))
    go_meet
    case rel => exact ⟨_, (true), (by first | rfl | (simp; done) | (simp [*]; done)), H', ⟨by first | omega | exact Nat.le_refl _⟩, ⟨by (with_reducible repeat (first | refine blk_drewN ?_ _ | refine blk_drew ?_ | refine blk_alloc ?_ _)); exact BK412.out⟩, ⟨by repeat (first | (with_reducible first | exact HB.out | apply below_alloc | apply pw_below_drewN | apply below_drew1 | refine below_set ?_ GE412.out) | exact HB.out)⟩⟩
  ·replace c9 := Bool.eq_false_iff.mpr c9
   subst c9
   have H1 : (dominolaw04_HeaderFew.j0 k a1 t413 true a0_0 a0_1 a0_2 a0_3 a0_4 a0_5 a0_6 a0_7 a0_8 a0_9 a0_10) = some r := by rw [if_neg (show ¬ (false = true) by decide)] at H; exact H
   clear H
   have H := H1
   clear H1
   have H' := Aside0.mk H
   clear H
   have hcz20_0 : w7.cell? ⟨gb412, 0, none⟩ = some (.bool a0_0) := (blk_cell BK412.out 0).trans rfl
   have hcz20_1 : w7.cell? ⟨gb412, 1, none⟩ = some (.bool a0_1) := (blk_cell BK412.out 1).trans rfl
   have hcz20_2 : w7.cell? ⟨gb412, 2, none⟩ = some (.bool a0_2) := (blk_cell BK412.out 2).trans rfl
   have hcz20_3 : w7.cell? ⟨gb412, 3, none⟩ = some (.int .i64 a0_3) := (blk_cell BK412.out 3).trans rfl
   have hcz20_4 : w7.cell? ⟨gb412, 4, none⟩ = some (.int .u32 a0_4) := (blk_cell BK412.out 4).trans rfl
   have hcz20_5 : w7.cell? ⟨gb412, 5, none⟩ = some (.string a0_5) := (blk_cell BK412.out 5).trans rfl
   have hcz20_6 : w7.cell? ⟨gb412, 6, none⟩ = some (.string a0_6) := (blk_cell BK412.out 6).trans rfl
   have hcz20_7 : w7.cell? ⟨gb412, 7, none⟩ = some (.string a0_7) := (blk_cell BK412.out 7).trans rfl
   have hcz20_8 : w7.cell? ⟨gb412, 8, none⟩ = some (.int .u64 a0_8) := (blk_cell BK412.out 8).trans rfl
   have hcz20_9 : w7.cell? ⟨gb412, 9, none⟩ = some (.int .i64 a0_9) := (blk_cell BK412.out 9).trans rfl
   have hcz20_10 : w7.cell? ⟨gb412, 10, none⟩ = some (.int .u64 a0_10) := (blk_cell BK412.out 10).trans rfl
   have hfz20_0 := blk_frozen BK412.out 0
   have hfz20_1 := blk_frozen BK412.out 1
   have hfz20_2 := blk_frozen BK412.out 2
   have hfz20_3 := blk_frozen BK412.out 3
   have hfz20_4 := blk_frozen BK412.out 4
   have hfz20_5 := blk_frozen BK412.out 5
   have hfz20_6 := blk_frozen BK412.out 6
   have hfz20_7 := blk_frozen BK412.out 7
   have hfz20_8 := blk_frozen BK412.out 8
   have hfz20_9 := blk_frozen BK412.out 9
   have hfz20_10 := blk_frozen BK412.out 10
   go_wp2_with (first | ((with_reducible refine gate_callee (f := 10) rfl ?_); refine goesL_ (some 19) rfl rfl Tryd.func10 (by kernel_rfl) rfl #[.agg #[.bool a0_0, .bool a0_1, .bool a0_2, .int .i64 a0_3, .int .u32 a0_4, .string a0_5, .string a0_6, .string a0_7, .int .u64 a0_8, .int .i64 a0_9, .int .u64 a0_10]] rfl (by (try simp only [List.map_toArray, List.map_cons, List.map_nil]); first | done | rfl | (simp only [List.length_drop, List.length_take]; rfl)) ?_; (with_reducible refine (dominolaw04_bounded.calls a0_0 a0_1 a0_2 a0_3 a0_4 a0_5 a0_6 a0_7 a0_8 a0_9 a0_10 false _ A8.out).mono ?_); rintro e w21 ⟨rfl, hb⟩; refine ⟨_, rfl, ?_⟩; have n0_ := Aside0.mk (blk_below (g := gb412) (o := .cells #[.bool a0_0, .bool a0_1, .bool a0_2, .int .i64 a0_3, .int .u32 a0_4, .string a0_5, .string a0_6, .string a0_7, .int .u64 a0_8, .int .i64 a0_9, .int .u64 a0_10] 25 (0, 0)) (by (with_reducible repeat (first | refine blk_drewN ?_ _ | refine blk_drew ?_ | refine blk_alloc ?_ _)); exact BK412.out) hb); have n1_ := Aside0.mk (below_step (by repeat (first | (with_reducible first | exact HB.out | apply below_alloc | apply pw_below_drewN | apply below_drew1 | refine below_set ?_ GE412.out) | exact HB.out)) hb); clear BK412; clear HB; have BK412 := n0_; have HB := n1_; clear n0_ n1_; (try clear hb); (try clear hb2); (try clear hk); (try clear hi)))
   go_meet
   case rel => exact ⟨_, (true), (by first | rfl | (simp; done) | (simp [*]; done)), H', ⟨by first | omega | exact Nat.le_refl _⟩, ⟨by (with_reducible repeat (first | refine blk_drewN ?_ _ | refine blk_drew ?_ | refine blk_alloc ?_ _)); exact BK412.out⟩, ⟨by repeat (first | (with_reducible first | exact HB.out | apply below_alloc | apply pw_below_drewN | apply below_drew1 | refine below_set ?_ GE412.out) | exact HB.out)⟩⟩
 case rest =>
  clear HC4
  try clear c1
  try clear p2
  try clear c9
  try clear c10
  try clear c10b0
  try clear c10b1
  try clear c11
  try clear c11b0
  try clear c11b1
  try clear c12
  try clear hcz12_0
  try clear hcz12_1
  try clear hcz12_10
  try clear hcz12_2
  try clear hcz12_3
  try clear hcz12_4
  try clear hcz12_5
  try clear hcz12_6
  try clear hcz12_7
  try clear hcz12_8
  try clear hcz12_9
  try clear hcz15_0
  try clear hcz15_1
  try clear hcz15_10
  try clear hcz15_2
  try clear hcz15_3
  try clear hcz15_4
  try clear hcz15_5
  try clear hcz15_6
  try clear hcz15_7
  try clear hcz15_8
  try clear hcz15_9
  try clear hcz18_0
  try clear hcz18_1
  try clear hcz18_10
  try clear hcz18_2
  try clear hcz18_3
  try clear hcz18_4
  try clear hcz18_5
  try clear hcz18_6
  try clear hcz18_7
  try clear hcz18_8
  try clear hcz18_9
  try clear hcz20_0
  try clear hcz20_1
  try clear hcz20_10
  try clear hcz20_2
  try clear hcz20_3
  try clear hcz20_4
  try clear hcz20_5
  try clear hcz20_6
  try clear hcz20_7
  try clear hcz20_8
  try clear hcz20_9
  try clear hcz6_0
  try clear hcz6_1
  try clear hcz6_10
  try clear hcz6_2
  try clear hcz6_3
  try clear hcz6_4
  try clear hcz6_5
  try clear hcz6_6
  try clear hcz6_7
  try clear hcz6_8
  try clear hcz6_9
  try clear hfz12_0
  try clear hfz12_1
  try clear hfz12_10
  try clear hfz12_2
  try clear hfz12_3
  try clear hfz12_4
  try clear hfz12_5
  try clear hfz12_6
  try clear hfz12_7
  try clear hfz12_8
  try clear hfz12_9
  try clear hfz15_0
  try clear hfz15_1
  try clear hfz15_10
  try clear hfz15_2
  try clear hfz15_3
  try clear hfz15_4
  try clear hfz15_5
  try clear hfz15_6
  try clear hfz15_7
  try clear hfz15_8
  try clear hfz15_9
  try clear hfz18_0
  try clear hfz18_1
  try clear hfz18_10
  try clear hfz18_2
  try clear hfz18_3
  try clear hfz18_4
  try clear hfz18_5
  try clear hfz18_6
  try clear hfz18_7
  try clear hfz18_8
  try clear hfz18_9
  try clear hfz20_0
  try clear hfz20_1
  try clear hfz20_10
  try clear hfz20_2
  try clear hfz20_3
  try clear hfz20_4
  try clear hfz20_5
  try clear hfz20_6
  try clear hfz20_7
  try clear hfz20_8
  try clear hfz20_9
  try clear hfz6_0
  try clear hfz6_1
  try clear hfz6_10
  try clear hfz6_2
  try clear hfz6_3
  try clear hfz6_4
  try clear hfz6_5
  try clear hfz6_6
  try clear hfz6_7
  try clear hfz6_8
  try clear hfz6_9
  obtain ⟨kq, x33_3, rfl, HA, HJ3, BK412, HB⟩ := hcut
  cases kq with
  | zero => exact absurd HA.out (by simp [dominolaw04_HeaderFew.j0])
  | succ kj3 =>
   have H := HA.out
   clear HA
   simp only [dominolaw04_HeaderFew.j0] at H
   by_cases c22 : x33_3 = true
   ·subst c22
    have H1 : ((dominolaw04_shown.f kj3).bind fun t417 => (some t417)) = some r := by rw [if_pos rfl] at H; exact H
    clear H
    have H := H1
    clear H1
    replace H := Option.bind_eq_some_iff.mp H
    obtain ⟨t417, A230, H⟩ := H
    replace H : (some t417) = some r := H
    have A23 := Aside0.mk A230
    clear A230
    obtain rfl := Option.some.inj H
    go_wp2_with (first | ((with_reducible refine gate_callee (f := 11) rfl ?_); refine goesL_ (some 34) rfl rfl Tryd.func11 (by kernel_rfl) rfl #[] rfl (by (try simp only [List.map_toArray, List.map_cons, List.map_nil]); first | done | rfl | (simp only [List.length_drop, List.length_take]; rfl)) ?_; (with_reducible refine (dominolaw04_shown.calls kj3  t417 _ (by first | exact HTab.out | exact tab_below HTab.out HB.out | exact (tab_below HTab.out (by repeat (first | (with_reducible first | exact HB.out | apply below_alloc | apply pw_below_drewN | apply below_drew1 | refine below_set ?_ GE412.out) | exact HB.out))) | exact tab_below HTab.out (by repeat (first | exact HB.out | exact Below.refl _ _ | apply below_alloc | apply pw_below_drewN | apply below_drew1 | refine below_set ?_ GE412.out | refine below_set ?_ GE431.out))) A23.out).mono ?_); rintro e w24 ⟨rfl, hb⟩; refine ⟨_, rfl, ?_⟩; have n0_ := Aside0.mk (blk_below (g := gb412) (o := .cells #[.bool a0_0, .bool a0_1, .bool a0_2, .int .i64 a0_3, .int .u32 a0_4, .string a0_5, .string a0_6, .string a0_7, .int .u64 a0_8, .int .i64 a0_9, .int .u64 a0_10] 25 (0, 0)) (by (with_reducible repeat (first | refine blk_drewN ?_ _ | refine blk_drew ?_ | refine blk_alloc ?_ _)); exact BK412.out) hb); have n1_ := Aside0.mk (below_step (by repeat (first | (with_reducible first | exact HB.out | apply below_alloc | apply pw_below_drewN | apply below_drew1 | refine below_set ?_ GE412.out) | exact HB.out)) hb); clear BK412; clear HB; have BK412 := n0_; have HB := n1_; clear n0_ n1_; (try clear hb); (try clear hb2); (try clear hk); (try clear hi)))
    go_ret
    exact ⟨by first | rfl | (simp [errW_none, errW_some] <;> rfl) | (simp [*, errW_none, errW_some] <;> rfl), by repeat (first | (with_reducible first | exact HB.out | apply below_alloc | apply pw_below_drewN | apply below_drew1 | refine below_set ?_ GE412.out) | exact HB.out)⟩
   ·replace c22 := Bool.eq_false_iff.mpr c22
    subst c22
    have H1 : (if (t413.size : Int) = 0 then (none) else (if 0 ≤ (Int.tmod (wrap64 (a1)) (t413.size : Int)) then (if (Int.tmod (wrap64 (a1)) (t413.size : Int)) ≤ (t413.size : Int) then ((header_Get.f kj3 (t413.extract 0 ((Int.tmod (wrap64 (a1)) (t413.size : Int)) : Int).toNat)).bind fun bt418 => ((header_Place.f kj3 (t413.extract 0 ((Int.tmod (wrap64 (a1)) (t413.size : Int)) : Int).toNat)).bind fun bt432 => (if bt418.2.2.2.2.2.2.2.2.2.2.2.2 = 40 then (if ((bt432.2 == 0) == (decide ((Int.tmod (wrap64 (a1)) (t413.size : Int)) ≥ (wrap64 ((t413.size : Int) - a0_9))))) = true then (if bt432.2 = 0 then (some (bt432.1 == (wrap64 ((t413.size : Int) - a0_9)))) else (if bt432.1 = 0 then (some true) else (none))) else (none)) else (none)))) else (none)) else (none))) = some r := by rw [if_neg (show ¬ (false = true) by decide)] at H; exact H
    clear H
    have H := H1
    clear H1
    by_cases c25 : (t413.size : Int) = 0
    ·rw [if_pos c25] at H
     exact absurd H (by simp)
    ·rw [if_neg c25] at H
     have c25b0 : ((t413.size : Int) == 0) = false := beq_eq_false_iff_ne.mpr c25
     have c25b1 : ((t413.size : Int) != 0) = true := bne_iff_ne.mpr c25
     obtain ⟨ji26, hji26⟩ : ∃ j_ : Int, (Int.tmod (wrap64 (a1)) (t413.size : Int)) = j_ := ⟨_, rfl⟩
     replace H : (if 0 ≤ (ji26) then (if (ji26) ≤ (t413.size : Int) then ((header_Get.f kj3 (t413.extract 0 ((ji26) : Int).toNat)).bind fun bt418 => ((header_Place.f kj3 (t413.extract 0 ((ji26) : Int).toNat)).bind fun bt432 => (if bt418.2.2.2.2.2.2.2.2.2.2.2.2 = 40 then (if ((bt432.2 == 0) == (decide ((ji26) ≥ (wrap64 ((t413.size : Int) - a0_9))))) = true then (if bt432.2 = 0 then (some (bt432.1 == (wrap64 ((t413.size : Int) - a0_9)))) else (if bt432.1 = 0 then (some true) else (none))) else (none)) else (none)))) else (none)) else (none)) = some r := by first | (rw [hji26] at H; exact H) | (simp only [hji26] at H ⊢; exact H)
     by_cases c27 : 0 ≤ (ji26)
     ·rw [if_pos c27] at H
      have c27b0 := eq_true c27
      have c27b1 : decide (0 ≤ (ji26)) = true := decide_eq_true c27
      clear c27
      by_cases c28 : (ji26) ≤ (t413.size : Int)
      ·rw [if_pos c28] at H
       have c28b0 := eq_true c28
       have c28b1 : decide ((ji26) ≤ (t413.size : Int)) = true := decide_eq_true c28
       clear c28
       replace H := Option.bind_eq_some_iff.mp H
       obtain ⟨⟨t418, t419, t420, t421, t422, t423, t424, t425, t426, t427, t428, t429, t430⟩, A290, H⟩ := H
       replace H : ((header_Place.f kj3 (t413.extract 0 ((ji26) : Int).toNat)).bind fun bt432 => (if t430 = 40 then (if ((bt432.2 == 0) == (decide ((ji26) ≥ (wrap64 ((t413.size : Int) - a0_9))))) = true then (if bt432.2 = 0 then (some (bt432.1 == (wrap64 ((t413.size : Int) - a0_9)))) else (if bt432.1 = 0 then (some true) else (none))) else (none)) else (none))) = some r := H
       have A29 := Aside0.mk A290
       clear A290
       have c30b0 := eq_true (of_decide_eq_true (by first | (with_reducible assumption) | assumption) : 0 ≤ (ji26))
       have c31b0 := eq_true (of_decide_eq_true (by first | (with_reducible assumption) | assumption) : (ji26) ≤ (t413.size : Int))
       replace H := Option.bind_eq_some_iff.mp H
       obtain ⟨⟨t432, t433⟩, A320, H⟩ := H
       replace H : (if t430 = 40 then (if ((t433 == 0) == (decide ((ji26) ≥ (wrap64 ((t413.size : Int) - a0_9))))) = true then (if t433 = 0 then (some (t432 == (wrap64 ((t413.size : Int) - a0_9)))) else (if t432 = 0 then (some true) else (none))) else (none)) else (none)) = some r := H
       have A32 := Aside0.mk A320
       clear A320
       by_cases c33 : t430 = 40
       ·rw [if_pos c33] at H
        have c33b0 : (t430 == 40) = true := beq_iff_eq.mpr c33
        have c33b1 : (t430 != 40) = false := bne_eq_false_iff_eq.mpr c33
        clear c33
        by_cases c34 : ((t433 == 0) == (decide ((ji26) ≥ (wrap64 ((t413.size : Int) - a0_9))))) = true
        ·rw [if_pos c34] at H
         have c34b0 : ((t433 == 0) == (decide ((ji26) ≥ (wrap64 ((t413.size : Int) - a0_9))))) = true := c34
         (try (have c34b1 : decide ((t433 == 0) = (decide ((ji26) ≥ (wrap64 ((t413.size : Int) - a0_9))))) = true := by simpa using c34))
         (try (have c34b2 : ((t433 == 0) == (decide ((ji26) ≥ (wrap64 ((t413.size : Int) - a0_9))))) = true := by simpa using c34))
         clear c34
         by_cases c35 : t433 = 0
         ·rw [if_pos c35] at H
          have c35b0 : (t433 == 0) = true := beq_iff_eq.mpr c35
          have qc35 := c34b0
          rw [c35b0] at qc35
          replace qc35 := of_decide_eq_true (by simpa using qc35 : decide ((ji26) ≥ (wrap64 ((t413.size : Int) - a0_9))) = true)
          have qc35a := eq_false (Int.not_lt.2 qc35)
          have qc35b := eq_true qc35
          have c35b1 : (t433 != 0) = false := bne_eq_false_iff_eq.mpr c35
          clear c35
          obtain rfl := Option.some.inj H
          go_wp2_with (first | ((with_reducible refine gate_callee (f := 14) rfl ?_); refine goesL_ (some 44) rfl rfl Tryd.func14 (by kernel_rfl) rfl #[.string (t413.extract 0 ((ji26) : Int).toNat)] rfl (by (try simp only [List.map_toArray, List.map_cons, List.map_nil]); first | done | (simp only [hji26]; rfl) | rfl | (simp only [List.length_drop, List.length_take]; rfl)) ?_; (with_reducible refine (header_Get.calls kj3 (t413.extract 0 ((ji26) : Int).toNat) t418 t419 t420 t421 t422 t423 t424 t425 t426 t427 t428 t429 t430 _ A29.out).mono ?_); rintro e w36 ⟨rfl, hb⟩; refine ⟨_, rfl, ?_⟩; have n0_ := Aside0.mk (blk_below (g := gb412) (o := .cells #[.bool a0_0, .bool a0_1, .bool a0_2, .int .i64 a0_3, .int .u32 a0_4, .string a0_5, .string a0_6, .string a0_7, .int .u64 a0_8, .int .i64 a0_9, .int .u64 a0_10] 25 (0, 0)) (by (with_reducible repeat (first | refine blk_drewN ?_ _ | refine blk_drew ?_ | refine blk_alloc ?_ _)); exact BK412.out) hb); have n1_ := Aside0.mk (below_step (by repeat (first | (with_reducible first | exact HB.out | apply below_alloc | apply pw_below_drewN | apply below_drew1 | refine below_set ?_ GE412.out) | exact HB.out)) hb); clear BK412; clear HB; have BK412 := n0_; have HB := n1_; clear n0_ n1_; (try clear hb); (try clear hb2); (try clear hk); (try clear hi)) | ((with_reducible refine gate_dst (N := 8) rfl ?_); (try (refine gate_guard (by rfl) ?_; dsimp only)); refine box_event ?hg (N := 8) ?hd (cs := #[.bool false, .bool false, .bool false, .int .i64 0, .int .u32 0, .string (⟨#[]⟩ : ByteArray), .string (⟨#[]⟩ : ByteArray), .string (⟨#[]⟩ : ByteArray), .int .u64 0, .int .i64 0, .int .u64 0]) (t := 25) ?hr ?_; (case hd => rfl); (case hg => rfl); (case hr => first | (go_simp; done) | (go_simp; rfl)); intro gb431 hg w37 hbox hb; have n0_ := Aside0.mk (blk_below (g := gb412) (o := .cells #[.bool a0_0, .bool a0_1, .bool a0_2, .int .i64 a0_3, .int .u32 a0_4, .string a0_5, .string a0_6, .string a0_7, .int .u64 a0_8, .int .i64 a0_9, .int .u64 a0_10] 25 (0, 0)) (by (with_reducible repeat (first | refine blk_drewN ?_ _ | refine blk_drew ?_ | refine blk_alloc ?_ _)); exact BK412.out) hb); have n1_ := Aside0.mk (below_step (by repeat (first | (with_reducible first | exact HB.out | apply below_alloc | apply pw_below_drewN | apply below_drew1 | refine below_set ?_ GE412.out) | exact HB.out)) hb); have n2_ := Aside0.mk (hbox); have n3_ := Aside0.mk ((by rw [hg]; exact (below_size (by repeat (first | (with_reducible first | exact HB.out | apply below_alloc | apply pw_below_drewN | apply below_drew1 | refine below_set ?_ GE412.out) | exact HB.out))) : w.heap.size ≤ gb431)); have n4_ := Aside0.mk ((by rw [hg]; exact (below_size (by repeat (first | (with_reducible first | exact HB.out | apply below_alloc | apply pw_below_drewN | apply below_drew1 | refine below_set ?_ GE412.out) | exact HB.out))) : w.heap.size ≤ gb431)); have n5_ := Aside0.mk ((by rw [hg]; exact Nat.ne_of_lt (blk_lt (g := gb412) (o := .cells #[.bool a0_0, .bool a0_1, .bool a0_2, .int .i64 a0_3, .int .u32 a0_4, .string a0_5, .string a0_6, .string a0_7, .int .u64 a0_8, .int .i64 a0_9, .int .u64 a0_10] 25 (0, 0)) (by (with_reducible repeat (first | refine blk_drewN ?_ _ | refine blk_drew ?_ | refine blk_alloc ?_ _)); exact BK412.out)) : gb412 ≠ gb431)); have n6_ := Aside0.mk ((by rw [hg]; exact Nat.ne_of_gt (blk_lt (g := gb412) (o := .cells #[.bool a0_0, .bool a0_1, .bool a0_2, .int .i64 a0_3, .int .u32 a0_4, .string a0_5, .string a0_6, .string a0_7, .int .u64 a0_8, .int .i64 a0_9, .int .u64 a0_10] 25 (0, 0)) (by (with_reducible repeat (first | refine blk_drewN ?_ _ | refine blk_drew ?_ | refine blk_alloc ?_ _)); exact BK412.out)) : gb431 ≠ gb412)); clear BK412; clear HB; have BK412 := n0_; have HB := n1_; have BK431 := n2_; have GW431 := n3_; have GE431 := n4_; have NB412_431 := n5_; have NB431_412 := n6_; clear n0_ n1_ n2_ n3_ n4_ n5_ n6_; clear hb hbox hg; have hnb38 := NB431_412.out; have hnc38 := NB412_431.out; have hcz39_0 : w37.cell? ⟨gb431, 0, none⟩ = some (.bool false) := (blk_cell BK431.out 0).trans rfl; have hcz39_1 : w37.cell? ⟨gb431, 1, none⟩ = some (.bool false) := (blk_cell BK431.out 1).trans rfl; have hcz39_2 : w37.cell? ⟨gb431, 2, none⟩ = some (.bool false) := (blk_cell BK431.out 2).trans rfl; have hcz39_3 : w37.cell? ⟨gb431, 3, none⟩ = some (.int .i64 0) := (blk_cell BK431.out 3).trans rfl; have hcz39_4 : w37.cell? ⟨gb431, 4, none⟩ = some (.int .u32 0) := (blk_cell BK431.out 4).trans rfl; have hcz39_5 : w37.cell? ⟨gb431, 5, none⟩ = some (.string (⟨#[]⟩ : ByteArray)) := (blk_cell BK431.out 5).trans rfl; have hcz39_6 : w37.cell? ⟨gb431, 6, none⟩ = some (.string (⟨#[]⟩ : ByteArray)) := (blk_cell BK431.out 6).trans rfl; have hcz39_7 : w37.cell? ⟨gb431, 7, none⟩ = some (.string (⟨#[]⟩ : ByteArray)) := (blk_cell BK431.out 7).trans rfl; have hcz39_8 : w37.cell? ⟨gb431, 8, none⟩ = some (.int .u64 0) := (blk_cell BK431.out 8).trans rfl; have hcz39_9 : w37.cell? ⟨gb431, 9, none⟩ = some (.int .i64 0) := (blk_cell BK431.out 9).trans rfl; have hcz39_10 : w37.cell? ⟨gb431, 10, none⟩ = some (.int .u64 0) := (blk_cell BK431.out 10).trans rfl; have hfz39_0 := blk_frozen BK431.out 0; have hfz39_1 := blk_frozen BK431.out 1; have hfz39_2 := blk_frozen BK431.out 2; have hfz39_3 := blk_frozen BK431.out 3; have hfz39_4 := blk_frozen BK431.out 4; have hfz39_5 := blk_frozen BK431.out 5; have hfz39_6 := blk_frozen BK431.out 6; have hfz39_7 := blk_frozen BK431.out 7; have hfz39_8 := blk_frozen BK431.out 8; have hfz39_9 := blk_frozen BK431.out 9; have hfz39_10 := blk_frozen BK431.out 10) | ((with_reducible refine gate_callee (f := 16) rfl ?_); refine goesL_ (some 52) rfl rfl Tryd.func16 (by kernel_rfl) rfl #[.string (t413.extract 0 ((ji26) : Int).toNat)] rfl (by (try simp only [List.map_toArray, List.map_cons, List.map_nil]); first | done | (simp only [hji26]; rfl) | rfl | (simp only [List.length_drop, List.length_take]; rfl)) ?_; (with_reducible refine (header_Place.calls kj3 (t413.extract 0 ((ji26) : Int).toNat) t432 t433 _ A32.out).mono ?_); rintro e w40 ⟨rfl, hb⟩; refine ⟨_, rfl, ?_⟩; have n0_ := Aside0.mk (blk_below (g := gb412) (o := .cells #[.bool a0_0, .bool a0_1, .bool a0_2, .int .i64 a0_3, .int .u32 a0_4, .string a0_5, .string a0_6, .string a0_7, .int .u64 a0_8, .int .i64 a0_9, .int .u64 a0_10] 25 (0, 0)) (by (with_reducible repeat (first | refine blk_drewN ?_ _ | refine blk_drew ?_ | refine blk_alloc ?_ _)); refine blk_far ?_ NB412_431.out _; (with_reducible repeat (first | refine blk_drewN ?_ _ | refine blk_drew ?_ | refine blk_alloc ?_ _)); refine blk_far ?_ NB412_431.out _; (with_reducible repeat (first | refine blk_drewN ?_ _ | refine blk_drew ?_ | refine blk_alloc ?_ _)); refine blk_far ?_ NB412_431.out _; (with_reducible repeat (first | refine blk_drewN ?_ _ | refine blk_drew ?_ | refine blk_alloc ?_ _)); refine blk_far ?_ NB412_431.out _; (with_reducible repeat (first | refine blk_drewN ?_ _ | refine blk_drew ?_ | refine blk_alloc ?_ _)); refine blk_far ?_ NB412_431.out _; (with_reducible repeat (first | refine blk_drewN ?_ _ | refine blk_drew ?_ | refine blk_alloc ?_ _)); refine blk_far ?_ NB412_431.out _; (with_reducible repeat (first | refine blk_drewN ?_ _ | refine blk_drew ?_ | refine blk_alloc ?_ _)); refine blk_far ?_ NB412_431.out _; (with_reducible repeat (first | refine blk_drewN ?_ _ | refine blk_drew ?_ | refine blk_alloc ?_ _)); refine blk_far ?_ NB412_431.out _; (with_reducible repeat (first | refine blk_drewN ?_ _ | refine blk_drew ?_ | refine blk_alloc ?_ _)); refine blk_far ?_ NB412_431.out _; (with_reducible repeat (first | refine blk_drewN ?_ _ | refine blk_drew ?_ | refine blk_alloc ?_ _)); refine blk_far ?_ NB412_431.out _; (with_reducible repeat (first | refine blk_drewN ?_ _ | refine blk_drew ?_ | refine blk_alloc ?_ _)); refine blk_far ?_ NB412_431.out _; (with_reducible repeat (first | refine blk_drewN ?_ _ | refine blk_drew ?_ | refine blk_alloc ?_ _)); exact BK412.out) hb); have n1_ := Aside0.mk (blk_below (g := gb431) (o := .cells #[.bool t418, .bool t419, .bool t420, .int .i64 t421, .int .u32 t422, .string t423, .string t424, .string t425, .int .u64 t426, .int .i64 t427, .int .u64 t428] 25 (0, 0)) (by (with_reducible repeat (first | refine blk_drewN ?_ _ | refine blk_drew ?_ | refine blk_alloc ?_ _)); refine blk_put (cs := #[.bool t418, .bool t419, .bool t420, .int .i64 t421, .int .u32 t422, .string t423, .string t424, .string t425, .int .u64 t426, .int .i64 t427, .int .u64 0]) ?_ 10 _ rfl; (with_reducible repeat (first | refine blk_drewN ?_ _ | refine blk_drew ?_ | refine blk_alloc ?_ _)); refine blk_put (cs := #[.bool t418, .bool t419, .bool t420, .int .i64 t421, .int .u32 t422, .string t423, .string t424, .string t425, .int .u64 t426, .int .i64 0, .int .u64 0]) ?_ 9 _ rfl; (with_reducible repeat (first | refine blk_drewN ?_ _ | refine blk_drew ?_ | refine blk_alloc ?_ _)); refine blk_put (cs := #[.bool t418, .bool t419, .bool t420, .int .i64 t421, .int .u32 t422, .string t423, .string t424, .string t425, .int .u64 0, .int .i64 0, .int .u64 0]) ?_ 8 _ rfl; (with_reducible repeat (first | refine blk_drewN ?_ _ | refine blk_drew ?_ | refine blk_alloc ?_ _)); refine blk_put (cs := #[.bool t418, .bool t419, .bool t420, .int .i64 t421, .int .u32 t422, .string t423, .string t424, .string (⟨#[]⟩ : ByteArray), .int .u64 0, .int .i64 0, .int .u64 0]) ?_ 7 _ rfl; (with_reducible repeat (first | refine blk_drewN ?_ _ | refine blk_drew ?_ | refine blk_alloc ?_ _)); refine blk_put (cs := #[.bool t418, .bool t419, .bool t420, .int .i64 t421, .int .u32 t422, .string t423, .string (⟨#[]⟩ : ByteArray), .string (⟨#[]⟩ : ByteArray), .int .u64 0, .int .i64 0, .int .u64 0]) ?_ 6 _ rfl; (with_reducible repeat (first | refine blk_drewN ?_ _ | refine blk_drew ?_ | refine blk_alloc ?_ _)); refine blk_put (cs := #[.bool t418, .bool t419, .bool t420, .int .i64 t421, .int .u32 t422, .string (⟨#[]⟩ : ByteArray), .string (⟨#[]⟩ : ByteArray), .string (⟨#[]⟩ : ByteArray), .int .u64 0, .int .i64 0, .int .u64 0]) ?_ 5 _ rfl; (with_reducible repeat (first | refine blk_drewN ?_ _ | refine blk_drew ?_ | refine blk_alloc ?_ _)); refine blk_put (cs := #[.bool t418, .bool t419, .bool t420, .int .i64 t421, .int .u32 0, .string (⟨#[]⟩ : ByteArray), .string (⟨#[]⟩ : ByteArray), .string (⟨#[]⟩ : ByteArray), .int .u64 0, .int .i64 0, .int .u64 0]) ?_ 4 _ rfl; (with_reducible repeat (first | refine blk_drewN ?_ _ | refine blk_drew ?_ | refine blk_alloc ?_ _)); refine blk_put (cs := #[.bool t418, .bool t419, .bool t420, .int .i64 0, .int .u32 0, .string (⟨#[]⟩ : ByteArray), .string (⟨#[]⟩ : ByteArray), .string (⟨#[]⟩ : ByteArray), .int .u64 0, .int .i64 0, .int .u64 0]) ?_ 3 _ rfl; (with_reducible repeat (first | refine blk_drewN ?_ _ | refine blk_drew ?_ | refine blk_alloc ?_ _)); refine blk_put (cs := #[.bool t418, .bool t419, .bool false, .int .i64 0, .int .u32 0, .string (⟨#[]⟩ : ByteArray), .string (⟨#[]⟩ : ByteArray), .string (⟨#[]⟩ : ByteArray), .int .u64 0, .int .i64 0, .int .u64 0]) ?_ 2 _ rfl; (with_reducible repeat (first | refine blk_drewN ?_ _ | refine blk_drew ?_ | refine blk_alloc ?_ _)); refine blk_put (cs := #[.bool t418, .bool false, .bool false, .int .i64 0, .int .u32 0, .string (⟨#[]⟩ : ByteArray), .string (⟨#[]⟩ : ByteArray), .string (⟨#[]⟩ : ByteArray), .int .u64 0, .int .i64 0, .int .u64 0]) ?_ 1 _ rfl; (with_reducible repeat (first | refine blk_drewN ?_ _ | refine blk_drew ?_ | refine blk_alloc ?_ _)); refine blk_put (cs := #[.bool false, .bool false, .bool false, .int .i64 0, .int .u32 0, .string (⟨#[]⟩ : ByteArray), .string (⟨#[]⟩ : ByteArray), .string (⟨#[]⟩ : ByteArray), .int .u64 0, .int .i64 0, .int .u64 0]) ?_ 0 _ rfl; (with_reducible repeat (first | refine blk_drewN ?_ _ | refine blk_drew ?_ | refine blk_alloc ?_ _)); exact BK431.out) hb); have n2_ := Aside0.mk (below_step (by repeat (first | (with_reducible first | exact HB.out | apply below_alloc | apply pw_below_drewN | apply below_drew1 | refine below_set ?_ GE412.out | refine below_set ?_ GE431.out) | exact HB.out)) hb); clear BK412; clear BK431; clear HB; have BK412 := n0_; have BK431 := n1_; have HB := n2_; clear n0_ n1_ n2_; (try clear hb); (try clear hb2); (try clear hk); (try clear hi); have hcz41_0 : w40.cell? ⟨gb412, 0, none⟩ = some (.bool a0_0) := (blk_cell BK412.out 0).trans rfl; have hcz41_1 : w40.cell? ⟨gb412, 1, none⟩ = some (.bool a0_1) := (blk_cell BK412.out 1).trans rfl; have hcz41_2 : w40.cell? ⟨gb412, 2, none⟩ = some (.bool a0_2) := (blk_cell BK412.out 2).trans rfl; have hcz41_3 : w40.cell? ⟨gb412, 3, none⟩ = some (.int .i64 a0_3) := (blk_cell BK412.out 3).trans rfl; have hcz41_4 : w40.cell? ⟨gb412, 4, none⟩ = some (.int .u32 a0_4) := (blk_cell BK412.out 4).trans rfl; have hcz41_5 : w40.cell? ⟨gb412, 5, none⟩ = some (.string a0_5) := (blk_cell BK412.out 5).trans rfl; have hcz41_6 : w40.cell? ⟨gb412, 6, none⟩ = some (.string a0_6) := (blk_cell BK412.out 6).trans rfl; have hcz41_7 : w40.cell? ⟨gb412, 7, none⟩ = some (.string a0_7) := (blk_cell BK412.out 7).trans rfl; have hcz41_8 : w40.cell? ⟨gb412, 8, none⟩ = some (.int .u64 a0_8) := (blk_cell BK412.out 8).trans rfl; have hcz41_9 : w40.cell? ⟨gb412, 9, none⟩ = some (.int .i64 a0_9) := (blk_cell BK412.out 9).trans rfl; have hcz41_10 : w40.cell? ⟨gb412, 10, none⟩ = some (.int .u64 a0_10) := (blk_cell BK412.out 10).trans rfl; have hfz41_0 := blk_frozen BK412.out 0; have hfz41_1 := blk_frozen BK412.out 1; have hfz41_2 := blk_frozen BK412.out 2; have hfz41_3 := blk_frozen BK412.out 3; have hfz41_4 := blk_frozen BK412.out 4; have hfz41_5 := blk_frozen BK412.out 5; have hfz41_6 := blk_frozen BK412.out 6; have hfz41_7 := blk_frozen BK412.out 7; have hfz41_8 := blk_frozen BK412.out 8; have hfz41_9 := blk_frozen BK412.out 9; have hfz41_10 := blk_frozen BK412.out 10))
          go_ret
          exact ⟨by first | rfl | (simp [errW_none, errW_some] <;> rfl) | (simp only [← hji26]; first | rfl | (simp [errW_none, errW_some] <;> rfl)) | (simp [*, errW_none, errW_some] <;> rfl), by repeat (first | (with_reducible first | exact HB.out | apply below_alloc | apply pw_below_drewN | apply below_drew1 | refine below_set ?_ GE412.out | refine below_set ?_ GE431.out) | exact HB.out)⟩
         ·rw [if_neg c35] at H
          have c35b0 : (t433 == 0) = false := beq_eq_false_iff_ne.mpr c35
          have qc35 := c34b0
          rw [c35b0] at qc35
          replace qc35 := of_decide_eq_false (by simpa using qc35 : decide ((ji26) ≥ (wrap64 ((t413.size : Int) - a0_9))) = false)
          have qc35a := eq_true (Int.not_le.1 qc35)
          have qc35b := eq_false qc35
          have c35b1 : (t433 != 0) = true := bne_iff_ne.mpr c35
          by_cases c42 : t432 = 0
          ·rw [if_pos c42] at H
           have c42b0 : (t432 == 0) = true := beq_iff_eq.mpr c42
           have c42b1 : (t432 != 0) = false := bne_eq_false_iff_eq.mpr c42
           clear c42
           obtain rfl := Option.some.inj H
           go_wp2_with (first | ((with_reducible refine gate_callee (f := 14) rfl ?_); refine goesL_ (some 44) rfl rfl Tryd.func14 (by kernel_rfl) rfl #[.string (t413.extract 0 ((ji26) : Int).toNat)] rfl (by (try simp only [List.map_toArray, List.map_cons, List.map_nil]); first | done | (simp only [hji26]; rfl) | rfl | (simp only [List.length_drop, List.length_take]; rfl)) ?_; (with_reducible refine (header_Get.calls kj3 (t413.extract 0 ((ji26) : Int).toNat) t418 t419 t420 t421 t422 t423 t424 t425 t426 t427 t428 t429 t430 _ A29.out).mono ?_); rintro e w43 ⟨rfl, hb⟩; refine ⟨_, rfl, ?_⟩; have n0_ := Aside0.mk (blk_below (g := gb412) (o := .cells #[.bool a0_0, .bool a0_1, .bool a0_2, .int .i64 a0_3, .int .u32 a0_4, .string a0_5, .string a0_6, .string a0_7, .int .u64 a0_8, .int .i64 a0_9, .int .u64 a0_10] 25 (0, 0)) (by (with_reducible repeat (first | refine blk_drewN ?_ _ | refine blk_drew ?_ | refine blk_alloc ?_ _)); exact BK412.out) hb); have n1_ := Aside0.mk (below_step (by repeat (first | (with_reducible first | exact HB.out | apply below_alloc | apply pw_below_drewN | apply below_drew1 | refine below_set ?_ GE412.out) | exact HB.out)) hb); clear BK412; clear HB; have BK412 := n0_; have HB := n1_; clear n0_ n1_; (try clear hb); (try clear hb2); (try clear hk); (try clear hi)) | ((with_reducible refine gate_dst (N := 8) rfl ?_); (try (refine gate_guard (by rfl) ?_; dsimp only)); refine box_event ?hg (N := 8) ?hd (cs := #[.bool false, .bool false, .bool false, .int .i64 0, .int .u32 0, .string (⟨#[]⟩ : ByteArray), .string (⟨#[]⟩ : ByteArray), .string (⟨#[]⟩ : ByteArray), .int .u64 0, .int .i64 0, .int .u64 0]) (t := 25) ?hr ?_; (case hd => rfl); (case hg => rfl); (case hr => first | (go_simp; done) | (go_simp; rfl)); intro gb431 hg w44 hbox hb; have n0_ := Aside0.mk (blk_below (g := gb412) (o := .cells #[.bool a0_0, .bool a0_1, .bool a0_2, .int .i64 a0_3, .int .u32 a0_4, .string a0_5, .string a0_6, .string a0_7, .int .u64 a0_8, .int .i64 a0_9, .int .u64 a0_10] 25 (0, 0)) (by (with_reducible repeat (first | refine blk_drewN ?_ _ | refine blk_drew ?_ | refine blk_alloc ?_ _)); exact BK412.out) hb); have n1_ := Aside0.mk (below_step (by repeat (first | (with_reducible first | exact HB.out | apply below_alloc | apply pw_below_drewN | apply below_drew1 | refine below_set ?_ GE412.out) | exact HB.out)) hb); have n2_ := Aside0.mk (hbox); have n3_ := Aside0.mk ((by rw [hg]; exact (below_size (by repeat (first | (with_reducible first | exact HB.out | apply below_alloc | apply pw_below_drewN | apply below_drew1 | refine below_set ?_ GE412.out) | exact HB.out))) : w.heap.size ≤ gb431)); have n4_ := Aside0.mk ((by rw [hg]; exact (below_size (by repeat (first | (with_reducible first | exact HB.out | apply below_alloc | apply pw_below_drewN | apply below_drew1 | refine below_set ?_ GE412.out) | exact HB.out))) : w.heap.size ≤ gb431)); have n5_ := Aside0.mk ((by rw [hg]; exact Nat.ne_of_lt (blk_lt (g := gb412) (o := .cells #[.bool a0_0, .bool a0_1, .bool a0_2, .int .i64 a0_3, .int .u32 a0_4, .string a0_5, .string a0_6, .string a0_7, .int .u64 a0_8, .int .i64 a0_9, .int .u64 a0_10] 25 (0, 0)) (by (with_reducible repeat (first | refine blk_drewN ?_ _ | refine blk_drew ?_ | refine blk_alloc ?_ _)); exact BK412.out)) : gb412 ≠ gb431)); have n6_ := Aside0.mk ((by rw [hg]; exact Nat.ne_of_gt (blk_lt (g := gb412) (o := .cells #[.bool a0_0, .bool a0_1, .bool a0_2, .int .i64 a0_3, .int .u32 a0_4, .string a0_5, .string a0_6, .string a0_7, .int .u64 a0_8, .int .i64 a0_9, .int .u64 a0_10] 25 (0, 0)) (by (with_reducible repeat (first | refine blk_drewN ?_ _ | refine blk_drew ?_ | refine blk_alloc ?_ _)); exact BK412.out)) : gb431 ≠ gb412)); clear BK412; clear HB; have BK412 := n0_; have HB := n1_; have BK431 := n2_; have GW431 := n3_; have GE431 := n4_; have NB412_431 := n5_; have NB431_412 := n6_; clear n0_ n1_ n2_ n3_ n4_ n5_ n6_; clear hb hbox hg; have hnb45 := NB431_412.out; have hnc45 := NB412_431.out; have hcz46_0 : w44.cell? ⟨gb431, 0, none⟩ = some (.bool false) := (blk_cell BK431.out 0).trans rfl; have hcz46_1 : w44.cell? ⟨gb431, 1, none⟩ = some (.bool false) := (blk_cell BK431.out 1).trans rfl; have hcz46_2 : w44.cell? ⟨gb431, 2, none⟩ = some (.bool false) := (blk_cell BK431.out 2).trans rfl; have hcz46_3 : w44.cell? ⟨gb431, 3, none⟩ = some (.int .i64 0) := (blk_cell BK431.out 3).trans rfl; have hcz46_4 : w44.cell? ⟨gb431, 4, none⟩ = some (.int .u32 0) := (blk_cell BK431.out 4).trans rfl; have hcz46_5 : w44.cell? ⟨gb431, 5, none⟩ = some (.string (⟨#[]⟩ : ByteArray)) := (blk_cell BK431.out 5).trans rfl; have hcz46_6 : w44.cell? ⟨gb431, 6, none⟩ = some (.string (⟨#[]⟩ : ByteArray)) := (blk_cell BK431.out 6).trans rfl; have hcz46_7 : w44.cell? ⟨gb431, 7, none⟩ = some (.string (⟨#[]⟩ : ByteArray)) := (blk_cell BK431.out 7).trans rfl; have hcz46_8 : w44.cell? ⟨gb431, 8, none⟩ = some (.int .u64 0) := (blk_cell BK431.out 8).trans rfl; have hcz46_9 : w44.cell? ⟨gb431, 9, none⟩ = some (.int .i64 0) := (blk_cell BK431.out 9).trans rfl; have hcz46_10 : w44.cell? ⟨gb431, 10, none⟩ = some (.int .u64 0) := (blk_cell BK431.out 10).trans rfl; have hfz46_0 := blk_frozen BK431.out 0; have hfz46_1 := blk_frozen BK431.out 1; have hfz46_2 := blk_frozen BK431.out 2; have hfz46_3 := blk_frozen BK431.out 3; have hfz46_4 := blk_frozen BK431.out 4; have hfz46_5 := blk_frozen BK431.out 5; have hfz46_6 := blk_frozen BK431.out 6; have hfz46_7 := blk_frozen BK431.out 7; have hfz46_8 := blk_frozen BK431.out 8; have hfz46_9 := blk_frozen BK431.out 9; have hfz46_10 := blk_frozen BK431.out 10) | ((with_reducible refine gate_callee (f := 16) rfl ?_); refine goesL_ (some 52) rfl rfl Tryd.func16 (by kernel_rfl) rfl #[.string (t413.extract 0 ((ji26) : Int).toNat)] rfl (by (try simp only [List.map_toArray, List.map_cons, List.map_nil]); first | done | (simp only [hji26]; rfl) | rfl | (simp only [List.length_drop, List.length_take]; rfl)) ?_; (with_reducible refine (header_Place.calls kj3 (t413.extract 0 ((ji26) : Int).toNat) t432 t433 _ A32.out).mono ?_); rintro e w47 ⟨rfl, hb⟩; refine ⟨_, rfl, ?_⟩; have n0_ := Aside0.mk (blk_below (g := gb412) (o := .cells #[.bool a0_0, .bool a0_1, .bool a0_2, .int .i64 a0_3, .int .u32 a0_4, .string a0_5, .string a0_6, .string a0_7, .int .u64 a0_8, .int .i64 a0_9, .int .u64 a0_10] 25 (0, 0)) (by (with_reducible repeat (first | refine blk_drewN ?_ _ | refine blk_drew ?_ | refine blk_alloc ?_ _)); refine blk_far ?_ NB412_431.out _; (with_reducible repeat (first | refine blk_drewN ?_ _ | refine blk_drew ?_ | refine blk_alloc ?_ _)); refine blk_far ?_ NB412_431.out _; (with_reducible repeat (first | refine blk_drewN ?_ _ | refine blk_drew ?_ | refine blk_alloc ?_ _)); refine blk_far ?_ NB412_431.out _; (with_reducible repeat (first | refine blk_drewN ?_ _ | refine blk_drew ?_ | refine blk_alloc ?_ _)); refine blk_far ?_ NB412_431.out _; (with_reducible repeat (first | refine blk_drewN ?_ _ | refine blk_drew ?_ | refine blk_alloc ?_ _)); refine blk_far ?_ NB412_431.out _; (with_reducible repeat (first | refine blk_drewN ?_ _ | refine blk_drew ?_ | refine blk_alloc ?_ _)); refine blk_far ?_ NB412_431.out _; (with_reducible repeat (first | refine blk_drewN ?_ _ | refine blk_drew ?_ | refine blk_alloc ?_ _)); refine blk_far ?_ NB412_431.out _; (with_reducible repeat (first | refine blk_drewN ?_ _ | refine blk_drew ?_ | refine blk_alloc ?_ _)); refine blk_far ?_ NB412_431.out _; (with_reducible repeat (first | refine blk_drewN ?_ _ | refine blk_drew ?_ | refine blk_alloc ?_ _)); refine blk_far ?_ NB412_431.out _; (with_reducible repeat (first | refine blk_drewN ?_ _ | refine blk_drew ?_ | refine blk_alloc ?_ _)); refine blk_far ?_ NB412_431.out _; (with_reducible repeat (first | refine blk_drewN ?_ _ | refine blk_drew ?_ | refine blk_alloc ?_ _)); refine blk_far ?_ NB412_431.out _; (with_reducible repeat (first | refine blk_drewN ?_ _ | refine blk_drew ?_ | refine blk_alloc ?_ _)); exact BK412.out) hb); have n1_ := Aside0.mk (blk_below (g := gb431) (o := .cells #[.bool t418, .bool t419, .bool t420, .int .i64 t421, .int .u32 t422, .string t423, .string t424, .string t425, .int .u64 t426, .int .i64 t427, .int .u64 t428] 25 (0, 0)) (by (with_reducible repeat (first | refine blk_drewN ?_ _ | refine blk_drew ?_ | refine blk_alloc ?_ _)); refine blk_put (cs := #[.bool t418, .bool t419, .bool t420, .int .i64 t421, .int .u32 t422, .string t423, .string t424, .string t425, .int .u64 t426, .int .i64 t427, .int .u64 0]) ?_ 10 _ rfl; (with_reducible repeat (first | refine blk_drewN ?_ _ | refine blk_drew ?_ | refine blk_alloc ?_ _)); refine blk_put (cs := #[.bool t418, .bool t419, .bool t420, .int .i64 t421, .int .u32 t422, .string t423, .string t424, .string t425, .int .u64 t426, .int .i64 0, .int .u64 0]) ?_ 9 _ rfl; (with_reducible repeat (first | refine blk_drewN ?_ _ | refine blk_drew ?_ | refine blk_alloc ?_ _)); refine blk_put (cs := #[.bool t418, .bool t419, .bool t420, .int .i64 t421, .int .u32 t422, .string t423, .string t424, .string t425, .int .u64 0, .int .i64 0, .int .u64 0]) ?_ 8 _ rfl; (with_reducible repeat (first | refine blk_drewN ?_ _ | refine blk_drew ?_ | refine blk_alloc ?_ _)); refine blk_put (cs := #[.bool t418, .bool t419, .bool t420, .int .i64 t421, .int .u32 t422, .string t423, .string t424, .string (⟨#[]⟩ : ByteArray), .int .u64 0, .int .i64 0, .int .u64 0]) ?_ 7 _ rfl; (with_reducible repeat (first | refine blk_drewN ?_ _ | refine blk_drew ?_ | refine blk_alloc ?_ _)); refine blk_put (cs := #[.bool t418, .bool t419, .bool t420, .int .i64 t421, .int .u32 t422, .string t423, .string (⟨#[]⟩ : ByteArray), .string (⟨#[]⟩ : ByteArray), .int .u64 0, .int .i64 0, .int .u64 0]) ?_ 6 _ rfl; (with_reducible repeat (first | refine blk_drewN ?_ _ | refine blk_drew ?_ | refine blk_alloc ?_ _)); refine blk_put (cs := #[.bool t418, .bool t419, .bool t420, .int .i64 t421, .int .u32 t422, .string (⟨#[]⟩ : ByteArray), .string (⟨#[]⟩ : ByteArray), .string (⟨#[]⟩ : ByteArray), .int .u64 0, .int .i64 0, .int .u64 0]) ?_ 5 _ rfl; (with_reducible repeat (first | refine blk_drewN ?_ _ | refine blk_drew ?_ | refine blk_alloc ?_ _)); refine blk_put (cs := #[.bool t418, .bool t419, .bool t420, .int .i64 t421, .int .u32 0, .string (⟨#[]⟩ : ByteArray), .string (⟨#[]⟩ : ByteArray), .string (⟨#[]⟩ : ByteArray), .int .u64 0, .int .i64 0, .int .u64 0]) ?_ 4 _ rfl; (with_reducible repeat (first | refine blk_drewN ?_ _ | refine blk_drew ?_ | refine blk_alloc ?_ _)); refine blk_put (cs := #[.bool t418, .bool t419, .bool t420, .int .i64 0, .int .u32 0, .string (⟨#[]⟩ : ByteArray), .string (⟨#[]⟩ : ByteArray), .string (⟨#[]⟩ : ByteArray), .int .u64 0, .int .i64 0, .int .u64 0]) ?_ 3 _ rfl; (with_reducible repeat (first | refine blk_drewN ?_ _ | refine blk_drew ?_ | refine blk_alloc ?_ _)); refine blk_put (cs := #[.bool t418, .bool t419, .bool false, .int .i64 0, .int .u32 0, .string (⟨#[]⟩ : ByteArray), .string (⟨#[]⟩ : ByteArray), .string (⟨#[]⟩ : ByteArray), .int .u64 0, .int .i64 0, .int .u64 0]) ?_ 2 _ rfl; (with_reducible repeat (first | refine blk_drewN ?_ _ | refine blk_drew ?_ | refine blk_alloc ?_ _)); refine blk_put (cs := #[.bool t418, .bool false, .bool false, .int .i64 0, .int .u32 0, .string (⟨#[]⟩ : ByteArray), .string (⟨#[]⟩ : ByteArray), .string (⟨#[]⟩ : ByteArray), .int .u64 0, .int .i64 0, .int .u64 0]) ?_ 1 _ rfl; (with_reducible repeat (first | refine blk_drewN ?_ _ | refine blk_drew ?_ | refine blk_alloc ?_ _)); refine blk_put (cs := #[.bool false, .bool false, .bool false, .int .i64 0, .int .u32 0, .string (⟨#[]⟩ : ByteArray), .string (⟨#[]⟩ : ByteArray), .string (⟨#[]⟩ : ByteArray), .int .u64 0, .int .i64 0, .int .u64 0]) ?_ 0 _ rfl; (with_reducible repeat (first | refine blk_drewN ?_ _ | refine blk_drew ?_ | refine blk_alloc ?_ _)); exact BK431.out) hb); have n2_ := Aside0.mk (below_step (by repeat (first | (with_reducible first | exact HB.out | apply below_alloc | apply pw_below_drewN | apply below_drew1 | refine below_set ?_ GE412.out | refine below_set ?_ GE431.out) | exact HB.out)) hb); clear BK412; clear BK431; clear HB; have BK412 := n0_; have BK431 := n1_; have HB := n2_; clear n0_ n1_ n2_; (try clear hb); (try clear hb2); (try clear hk); (try clear hi); have hcz48_0 : w47.cell? ⟨gb412, 0, none⟩ = some (.bool a0_0) := (blk_cell BK412.out 0).trans rfl; have hcz48_1 : w47.cell? ⟨gb412, 1, none⟩ = some (.bool a0_1) := (blk_cell BK412.out 1).trans rfl; have hcz48_2 : w47.cell? ⟨gb412, 2, none⟩ = some (.bool a0_2) := (blk_cell BK412.out 2).trans rfl; have hcz48_3 : w47.cell? ⟨gb412, 3, none⟩ = some (.int .i64 a0_3) := (blk_cell BK412.out 3).trans rfl; have hcz48_4 : w47.cell? ⟨gb412, 4, none⟩ = some (.int .u32 a0_4) := (blk_cell BK412.out 4).trans rfl; have hcz48_5 : w47.cell? ⟨gb412, 5, none⟩ = some (.string a0_5) := (blk_cell BK412.out 5).trans rfl; have hcz48_6 : w47.cell? ⟨gb412, 6, none⟩ = some (.string a0_6) := (blk_cell BK412.out 6).trans rfl; have hcz48_7 : w47.cell? ⟨gb412, 7, none⟩ = some (.string a0_7) := (blk_cell BK412.out 7).trans rfl; have hcz48_8 : w47.cell? ⟨gb412, 8, none⟩ = some (.int .u64 a0_8) := (blk_cell BK412.out 8).trans rfl; have hcz48_9 : w47.cell? ⟨gb412, 9, none⟩ = some (.int .i64 a0_9) := (blk_cell BK412.out 9).trans rfl; have hcz48_10 : w47.cell? ⟨gb412, 10, none⟩ = some (.int .u64 a0_10) := (blk_cell BK412.out 10).trans rfl; have hfz48_0 := blk_frozen BK412.out 0; have hfz48_1 := blk_frozen BK412.out 1; have hfz48_2 := blk_frozen BK412.out 2; have hfz48_3 := blk_frozen BK412.out 3; have hfz48_4 := blk_frozen BK412.out 4; have hfz48_5 := blk_frozen BK412.out 5; have hfz48_6 := blk_frozen BK412.out 6; have hfz48_7 := blk_frozen BK412.out 7; have hfz48_8 := blk_frozen BK412.out 8; have hfz48_9 := blk_frozen BK412.out 9; have hfz48_10 := blk_frozen BK412.out 10))
           go_ret
           exact ⟨by first | rfl | (simp [errW_none, errW_some] <;> rfl) | (simp only [← hji26]; first | rfl | (simp [errW_none, errW_some] <;> rfl)) | (simp [*, errW_none, errW_some] <;> rfl), by repeat (first | (with_reducible first | exact HB.out | apply below_alloc | apply pw_below_drewN | apply below_drew1 | refine below_set ?_ GE412.out | refine below_set ?_ GE431.out) | exact HB.out)⟩
          ·rw [if_neg c42] at H
           exact absurd H (by simp)
        ·rw [if_neg c34] at H
         exact absurd H (by simp)
       ·rw [if_neg c33] at H
        exact absurd H (by simp)
      ·rw [if_neg c28] at H
       exact absurd H (by simp)
     ·rw [if_neg c27] at H
      exact absurd H (by simp)

/-- THE ONE PURE STATEMENT of dominolaw04_HeaderFew: yours. -/
def dominolaw04_HeaderFew.Pure : Prop := ∀ (a0_0 : Bool) (a0_1 : Bool) (a0_2 : Bool) (a0_3 : Int) (a0_4 : Int) (a0_5 : ByteArray) (a0_6 : ByteArray) (a0_7 : ByteArray) (a0_8 : Int) (a0_9 : Int) (a0_10 : Int) (a1 : Int), (Lit.int .i64 a0_3).wf = true → (Lit.int .u32 a0_4).wf = true → a0_5.size ≤ maxLen → a0_6.size ≤ maxLen → a0_7.size ≤ maxLen → (Lit.int .u64 a0_8).wf = true → (Lit.int .i64 a0_9).wf = true → (Lit.int .u64 a0_10).wf = true → (Lit.int .u16 a1).wf = true → ∃ k, dominolaw04_HeaderFew.f k a0_0 a0_1 a0_2 a0_3 a0_4 a0_5 a0_6 a0_7 a0_8 a0_9 a0_10 a1 = some true
theorem dominolaw04_HeaderFew.walk (P : dominolaw04_HeaderFew.Pure) (a0_0 : Bool) (a0_1 : Bool) (a0_2 : Bool) (a0_3 : Int) (a0_4 : Int) (a0_5 : ByteArray) (a0_6 : ByteArray) (a0_7 : ByteArray) (a0_8 : Int) (a0_9 : Int) (a0_10 : Int) (a1 : Int) (w : World) (w0_3 : (Lit.int .i64 a0_3).wf = true) (w0_4 : (Lit.int .u32 a0_4).wf = true) (w0_5 : a0_5.size ≤ maxLen) (w0_6 : a0_6.size ≤ maxLen) (w0_7 : a0_7.size ≤ maxLen) (w0_8 : (Lit.int .u64 a0_8).wf = true) (w0_9 : (Lit.int .i64 a0_9).wf = true) (w0_10 : (Lit.int .u64 a0_10).wf = true) (w1 : (Lit.int .u16 a1).wf = true) (ht : Tab w) :
  Calls Tryd.prog 9 #[.agg #[.bool a0_0, .bool a0_1, .bool a0_2, .int .i64 a0_3, .int .u32 a0_4, .string a0_5, .string a0_6, .string a0_7, .int .u64 a0_8, .int .i64 a0_9, .int .u64 a0_10], .int .u16 a1] w fun e w' => e = .returned (.bool true) ∧ Below w.heap.size w w' := by
 obtain ⟨k, h⟩ := P a0_0 a0_1 a0_2 a0_3 a0_4 a0_5 a0_6 a0_7 a0_8 a0_9 a0_10 a1 w0_3 w0_4 w0_5 w0_6 w0_7 w0_8 w0_9 w0_10 w1
 refine (dominolaw04_HeaderFew.calls k a0_0 a0_1 a0_2 a0_3 a0_4 a0_5 a0_6 a0_7 a0_8 a0_9 a0_10 a1 true w ht h).mono ?_
 rintro e w' ⟨rfl, hd⟩
 exact ⟨rfl, hd⟩

end Go.Proofs.YtjpafikgbnloaaaDoor.PHdq
