-- printed for this claim by a program of the claim (wip/tools/pp.py over the kit's print)
import Derived.Test.YtpjohlcidmnikaaPRgxx0
import Derived.Test.YtpjohlcidmnikaaPRgxx8
namespace Go.Proofs.Ytpjohlcidmnikaa.PRgx
open Go.RowKit Go.Proofs.YtpjohlcidmnikaaW.PrintWords Go.Proofs.YtpjohlcidmnikaaW.PrintLast Go.Proofs.YtpjohlcidmnikaaW.PrintMore
attribute [local go_sem] max2_int min2_int max_two min_two max_three min_three max_four min_four   -- for this text's walks alone
set_option linter.unusedVariables false
set_option linter.unusedSimpArgs false

attribute [local go_sem] isSome_setCell_
/-! ### dominoref03_Cut: function 25 -/
mutual
def dominoref03_Cut.l0 : Nat → List (S42) → List (S42) → Int → Int → Int → Option ((List (S42)))
 | 0, _, _, _, _, _ => none
 | k + 1, x0, x5, x6, x315000, x315001 => if x6 < (x0.length : Int) then (if 0 ≤ x6 then (if x315001 < x315000 then (dominoref03_Cut.j1 k x0 x5 x6 true x315000 x315001 ((rd_T42 x0 x6).f0) ((rd_T42 x0 x6).f1)) else (if x315001 < ((rd_T42 x0 x6).f0) then (dominoref03_Cut.j1 k x0 x5 x6 true x315000 x315001 ((rd_T42 x0 x6).f0) ((rd_T42 x0 x6).f1)) else (dominoref03_Cut.j1 k x0 x5 x6 (decide (((rd_T42 x0 x6).f1) < x315000)) x315000 x315001 ((rd_T42 x0 x6).f0) ((rd_T42 x0 x6).f1)))) else (none)) else (some x5)
def dominoref03_Cut.j1 : Nat → List (S42) → List (S42) → Int → Bool → Int → Int → Int → Int → Option ((List (S42)))
 | 0, _, _, _, _, _, _, _, _ => none
 | k + 1, x0, x5, x6, x37, x315000, x315001, x320000, x320001 => if x37 = true then (if x5.length < 8796093022208 then (dominoref03_Cut.l0 k x0 (x5 ++ [(⟨x320000, x320001⟩ : S42)]) (wrap64 (x6 + 1)) x315000 x315001) else (none)) else (if x320000 < x315000 then (if x5.length < 8796093022208 then ((some (x5 ++ [(⟨x320000, IntKind.u64.wrap (x315000 - 1)⟩ : S42)] : List (S42))).bind fun y323 => (if x315001 < x320001 then (if y323.length < 8796093022208 then (dominoref03_Cut.l0 k x0 (y323 ++ [(⟨IntKind.u64.wrap (x315001 + 1), x320001⟩ : S42)]) (wrap64 (x6 + 1)) x315000 x315001) else (none)) else (dominoref03_Cut.l0 k x0 y323 (wrap64 (x6 + 1)) x315000 x315001))) else (none)) else (if x315001 < x320001 then (if x5.length < 8796093022208 then (dominoref03_Cut.l0 k x0 (x5 ++ [(⟨IntKind.u64.wrap (x315001 + 1), x320001⟩ : S42)]) (wrap64 (x6 + 1)) x315000 x315001) else (none)) else (dominoref03_Cut.l0 k x0 x5 (wrap64 (x6 + 1)) x315000 x315001)))
end
def dominoref03_Cut.f (k : Nat) (l0 : List (S42)) (a1_0 : Int) (a1_1 : Int) : Option ((List (S42))) := dominoref03_Cut.l0 k l0 (([] : List (S42))) 0 a1_0 a1_1
theorem dominoref03_Cut.mono_l : ∀ k, (∀ y0 y1 y2 y3 y4, LeO (dominoref03_Cut.l0 k y0 y1 y2 y3 y4) (dominoref03_Cut.l0 (k + 1) y0 y1 y2 y3 y4)) ∧ (∀ y0 y1 y2 y3 y4 y5 y6 y7, LeO (dominoref03_Cut.j1 k y0 y1 y2 y3 y4 y5 y6 y7) (dominoref03_Cut.j1 (k + 1) y0 y1 y2 y3 y4 y5 y6 y7))
 | 0 => ⟨fun _ _ _ _ _ r h => by simp [dominoref03_Cut.l0] at h, fun _ _ _ _ _ _ _ _ r h => by simp [dominoref03_Cut.j1] at h⟩
 | k + 1 => by
  obtain ⟨ih0, ih1⟩ := dominoref03_Cut.mono_l k
  refine ⟨?_, ?_⟩
  ·intro y0 y1 y2 y3 y4
   unfold dominoref03_Cut.l0
   repeat' first
   | (with_reducible exact ih0 _ _ _ _ _)
   | (with_reducible exact ih1 _ _ _ _ _ _ _ _)
   | (with_reducible exact LeO.refl _)
   | (with_reducible exact LeO.none _)
   | (with_reducible refine LeO.ite ?_ ?_)
   | (with_reducible refine LeO.bind ?_ (fun _ => ?_))
   | exact ih0 _ _ _ _ _
   | exact ih1 _ _ _ _ _ _ _ _
   | exact LeO.none _
   | refine LeO.ite ?_ ?_
   | refine LeO.bind ?_ (fun _ => ?_)
  ·intro y0 y1 y2 y3 y4 y5 y6 y7
   unfold dominoref03_Cut.j1
   repeat' first
   | (with_reducible exact ih0 _ _ _ _ _)
   | (with_reducible exact ih1 _ _ _ _ _ _ _ _)
   | (with_reducible exact LeO.refl _)
   | (with_reducible exact LeO.none _)
   | (with_reducible refine LeO.ite ?_ ?_)
   | (with_reducible refine LeO.bind ?_ (fun _ => ?_))
   | exact ih0 _ _ _ _ _
   | exact ih1 _ _ _ _ _ _ _ _
   | exact LeO.none _
   | refine LeO.ite ?_ ?_
   | refine LeO.bind ?_ (fun _ => ?_)
theorem dominoref03_Cut.mono : ∀ a0 a1 a2 k, LeO (dominoref03_Cut.f k a0 a1 a2) (dominoref03_Cut.f (k + 1) a0 a1 a2) := by
 intro a0 a1 a2 k
 obtain ⟨ih0, ih1⟩ := dominoref03_Cut.mono_l k
 unfold dominoref03_Cut.f
 repeat' first
   | (with_reducible exact ih0 _ _ _ _ _)
   | (with_reducible exact ih1 _ _ _ _ _ _ _ _)
   | (with_reducible exact LeO.refl _)
   | (with_reducible exact LeO.none _)
   | (with_reducible refine LeO.ite ?_ ?_)
   | (with_reducible refine LeO.bind ?_ (fun _ => ?_))
   | exact ih0 _ _ _ _ _
   | exact ih1 _ _ _ _ _ _ _ _
   | exact LeO.none _
   | refine LeO.ite ?_ ?_
   | refine LeO.bind ?_ (fun _ => ?_)
set_option maxHeartbeats 8000000 in
set_option maxRecDepth 100000 in
theorem dominoref03_Cut.calls (k : Nat) (A0 : Option Addr) (c0 : Nat) (l0 : List (S42)) (a1_0 : Int) (a1_1 : Int) (r : List (S42)) (w : World) (hr0 : Kd.C k42 w A0 l0.length l0) (hc0 : l0.length ≤ c0) (h : dominoref03_Cut.f k l0 a1_0 a1_1 = some r) :
  Calls Try.prog 25 #[.slice A0 l0.length c0, .agg #[.int .u64 a1_0, .int .u64 a1_1]] w fun e w' => ∃ v0_ : Value, e = .returned (v0_) ∧ Kd.R k42 42 w' w.heap.size (fun _ => True) v0_ r ∧ Below w.heap.size w w' := by
 have hu42 := Try.underlying42
 have HR0 := Aside0.mk hr0
 have HC0 := Aside0.mk hc0
 clear hr0 hc0
 have HB := Aside0.mk (Below.refl w.heap.size w)
 have H : (dominoref03_Cut.l0 k l0 (([] : List (S42))) 0 a1_0 a1_1) = some r := h
 clear h
 obtain ⟨y315, hy315⟩ : ∃ y_ : List (S42), y_ = (([] : List (S42))) := ⟨_, rfl⟩
 replace H : (dominoref03_Cut.l0 k l0 y315 0 a1_0 a1_1) = some r := by first | (rw [hy315]; with_reducible exact H) | (have H2_ := (Option.bind_some _ _).symm.trans H; rw [hy315]; with_reducible exact H2_) | (have H2_ := (Option.bind_some _ _).symm.trans H; with_reducible exact H2_) | with_reducible exact H | (rw [hy315]; exact H) | exact H
 have Ny315 := Aside0.mk hy315
 clear hy315
 have H' := Aside0.mk H
 clear H
 go_enter Try.func25, Try.ntmps25
 go_wp2_with (first | ((with_reducible refine gate_dst (N := 3) rfl ?_); refine box_event ?hg (N := 3) ?hd (cs := #[.int .u64 a1_0, .int .u64 a1_1]) (t := 42) ?hr ?_; (case hd => rfl); (case hg => rfl); (case hr => first | (go_simp; done) | (go_simp; rfl)); intro gb314 hg w3 hbox hb; have n0_ := Aside0.mk (below_step (by repeat (first | (with_reducible first | exact HB.out | apply below_alloc | apply pw_below_drewN | apply below_drew1) | exact HB.out)) hb); have n1_ := Aside0.mk (hbox); have n2_ := Aside0.mk ((by rw [hg]; exact (below_size (by repeat (first | (with_reducible first | exact HB.out | apply below_alloc | apply pw_below_drewN | apply below_drew1) | exact HB.out))) : w.heap.size ≤ gb314)); have n3_ := Aside0.mk ((by rw [hg]; exact (below_size (by repeat (first | (with_reducible first | exact HB.out | apply below_alloc | apply pw_below_drewN | apply below_drew1) | exact HB.out))) : w.heap.size ≤ gb314)); clear HB; have HB := n0_; have BK314 := n1_; have GW314 := n2_; have GE314 := n3_; clear n0_ n1_ n2_ n3_; clear hb hbox hg) | ((with_reducible refine gate_dst (N := 8) rfl ?_); refine Kd.R_lit k42 _ 42 ?hg (N := 8) ?hd (xs := ([] : List (S42))) (inner := []) (ok := fun _ => True) (okp := fun _ => True) ?hr ?hp (fun _ hk => hk) trivial (Below.refl _ _) (Nat.le_refl _) (by simp) ?_; (case hd => rfl); (case hg => rfl); (case hr => first | (go_simp; done) | (go_simp; rfl)); (case hp => exact (Reps.none _ _)); intro v316 w4 ho5 hb hg_ hnew_; clear hg_ hnew_; (first | rw [← Ny315.out] at ho5 | (simp only [Int.reduceToNat] at ho5; rw [← Ny315.out] at ho5)); have n0_ := Aside0.mk (Kd.R_lower (Kd.R_newB ho5 (g := gb314) (o := .cells #[.int .u64 a1_0, .int .u64 a1_1] 42 (0, 0)) (by (with_reducible repeat (first | refine blk_drewN ?_ _ | refine blk_drew ?_ | refine blk_alloc ?_ _)); exact BK314.out)) (below_size (by repeat (first | (with_reducible first | exact HB.out | apply below_alloc | apply pw_below_drewN | apply below_drew1 | refine below_set ?_ GE314.out) | exact HB.out)))); have n1_ := Aside0.mk (blk_below (g := gb314) (o := .cells #[.int .u64 a1_0, .int .u64 a1_1] 42 (0, 0)) (by (with_reducible repeat (first | refine blk_drewN ?_ _ | refine blk_drew ?_ | refine blk_alloc ?_ _)); exact BK314.out) hb); have n2_ := Aside0.mk (below_step (by repeat (first | (with_reducible first | exact HB.out | apply below_alloc | apply pw_below_drewN | apply below_drew1 | refine below_set ?_ GE314.out) | exact HB.out)) hb); clear BK314; clear HB; have HO317 := n0_; have BK314 := n1_; have HB := n2_; clear n0_ n1_ n2_; clear hb ho5))
 go_loopg [5, 6] k (fun kq v5 v6 w' => ∃ (x5_1 : List (S42)) (x6_1 : Int), v6 = .int .i64 x6_1 ∧ Aside0 (dominoref03_Cut.l0 kq l0 x5_1 x6_1 a1_0 a1_1 = some r) ∧ Aside0 (kq ≤ k) ∧ Aside0 (Kd.R k42 42 w' w.heap.size (fun k_ => k_ ≠ gb314) v5 x5_1) ∧ Aside0 (w'.heap[gb314]? = some (.cells #[.int .u64 a1_0, .int .u64 a1_1] 42 (0, 0))) ∧ Aside0 (Below w.heap.size w w'))
 case atStart => exact ⟨(y315), (0), (by first | rfl | (simp; done) | (simp [*]; done)), H', ⟨Nat.le_refl _⟩, ⟨by (with_reducible repeat (first | apply Kd.R_alloc | apply Kd.R_drewN | apply Kd.R_drew)); exact Kd.R_mono HO317.out (fun _ hk => hk.2)⟩, ⟨by (with_reducible repeat (first | refine blk_drewN ?_ _ | refine blk_drew ?_ | refine blk_alloc ?_ _)); exact BK314.out⟩, ⟨by repeat (first | (with_reducible first | exact HB.out | apply below_alloc | apply pw_below_drewN | apply below_drew1 | refine below_set ?_ GE314.out) | exact HB.out)⟩⟩
 case round =>
  clear H'
  try clear c2
  try clear p2
  obtain ⟨x5_1, x6_1, rfl, HA, HK1, HO_5, BK314, HB⟩ := hrel
  cases gk with
  | zero => exact absurd HA.out (by simp [dominoref03_Cut.l0])
  | succ k1 =>
   have H := HA.out
   clear HA
   simp only [dominoref03_Cut.l0] at H
   by_cases c6 : x6_1 < (l0.length : Int)
   ·rw [if_pos c6] at H
    have c6b0 : decide (x6_1 < (l0.length : Int)) = true := decide_eq_true c6
    clear c6
    by_cases c7 : 0 ≤ x6_1
    ·rw [if_pos c7] at H
     have c7b0 : decide (0 ≤ x6_1) = true := decide_eq_true c7
     clear c7
     have HC8 := Aside0.mk H
     clear H
     have p318 : 0 ≤ (x6_1 : Int) := of_decide_eq_true (by first | (with_reducible assumption) | assumption)
     have q318 : x6_1 < (l0.length : Int) := of_decide_eq_true (by first | (with_reducible assumption) | assumption)
     obtain ⟨ad318, e318, hx318_0, hx318_1⟩ := at_T42 HR0.out x6_1 p318 q318
     cases e318
     replace hx318_0 := (HB.out.cell (World.block_lt_of_cell? w _ hx318_0)).trans hx318_0
     replace hx318_1 := (HB.out.cell (World.block_lt_of_cell? w _ hx318_1)).trans hx318_1
     replace p318 := eq_true p318
     replace q318 := eq_true q318
     go_upto_region 6 with (first | ((with_reducible refine gate_dst (N := 7) rfl ?_); refine box_event ?hg (N := 7) ?hd (cs := #[.int .u64 0, .int .u64 0]) (t := 42) ?hr ?_; (case hd => rfl); (case hg => rfl); (case hr => first | (go_simp; done) | (go_simp; rfl)); intro gb319 hg w9 hbox hb; have n0_ := Aside0.mk (Kd.R_below (Kd.R_elderB (by (with_reducible repeat (first | apply Kd.R_alloc | apply Kd.R_drewN | apply Kd.R_drew)); exact HO_5.out) gb319 (Nat.le_of_eq hg.symm)) hb); have n1_ := Aside0.mk (blk_below (g := gb314) (o := .cells #[.int .u64 a1_0, .int .u64 a1_1] 42 (0, 0)) (by (with_reducible repeat (first | refine blk_drewN ?_ _ | refine blk_drew ?_ | refine blk_alloc ?_ _)); exact BK314.out) hb); have n2_ := Aside0.mk (below_step (by repeat (first | (with_reducible first | exact HB.out | apply below_alloc | apply pw_below_drewN | apply below_drew1 | refine below_set ?_ GE314.out) | exact HB.out)) hb); have n3_ := Aside0.mk (hbox); have n4_ := Aside0.mk ((by rw [hg]; exact (below_size (by repeat (first | (with_reducible first | exact HB.out | apply below_alloc | apply pw_below_drewN | apply below_drew1 | refine below_set ?_ GE314.out) | exact HB.out))) : w.heap.size ≤ gb319)); have n5_ := Aside0.mk ((by rw [hg]; exact (below_size (by repeat (first | (with_reducible first | exact HB.out | apply below_alloc | apply pw_below_drewN | apply below_drew1 | refine below_set ?_ GE314.out) | exact HB.out))) : w.heap.size ≤ gb319)); have n6_ := Aside0.mk ((by rw [hg]; exact Nat.ne_of_lt (blk_lt (g := gb314) (o := .cells #[.int .u64 a1_0, .int .u64 a1_1] 42 (0, 0)) (by (with_reducible repeat (first | refine blk_drewN ?_ _ | refine blk_drew ?_ | refine blk_alloc ?_ _)); exact BK314.out)) : gb314 ≠ gb319)); have n7_ := Aside0.mk ((by rw [hg]; exact Nat.ne_of_gt (blk_lt (g := gb314) (o := .cells #[.int .u64 a1_0, .int .u64 a1_1] 42 (0, 0)) (by (with_reducible repeat (first | refine blk_drewN ?_ _ | refine blk_drew ?_ | refine blk_alloc ?_ _)); exact BK314.out)) : gb319 ≠ gb314)); clear HO_5; clear BK314; clear HB; have HO_5 := n0_; have BK314 := n1_; have HB := n2_; have BK319 := n3_; have GW319 := n4_; have GE319 := n5_; have NB314_319 := n6_; have NB319_314 := n7_; clear n0_ n1_ n2_ n3_ n4_ n5_ n6_ n7_; clear hb hbox hg; have hnb10 := NB319_314.out; have hnc10 := NB314_319.out; have hcz11_0 : w9.cell? ⟨gb319, 0, none⟩ = some (.int .u64 0) := (blk_cell BK319.out 0).trans rfl; have hcz11_1 : w9.cell? ⟨gb319, 1, none⟩ = some (.int .u64 0) := (blk_cell BK319.out 1).trans rfl; have hfz11_0 := blk_frozen BK319.out 0; have hfz11_1 := blk_frozen BK319.out 1))
     (try simp only [Act.put, List.setIfInBounds_toArray, List.set_cons_zero, List.set_cons_succ])
     go_cut [37] (fun v37 wc => ∃ (kq : Nat) (x37_7 : Bool), v37 = .bool x37_7 ∧ Aside0 (dominoref03_Cut.j1 kq l0 x5_1 x6_1 x37_7 a1_0 a1_1 ((rd_T42 l0 x6_1).f0) ((rd_T42 l0 x6_1).f1) = some r) ∧ Aside0 (kq ≤ k1) ∧ Aside0 (Kd.R k42 42 wc w.heap.size (fun k_ => k_ ≠ gb314 ∧ k_ ≠ gb319) u5 x5_1) ∧ Aside0 (wc.heap[gb314]? = some (.cells #[.int .u64 a1_0, .int .u64 a1_1] 42 (0, 0))) ∧ Aside0 (wc.heap[gb319]? = some (.cells #[.int .u64 ((rd_T42 l0 x6_1).f0), .int .u64 ((rd_T42 l0 x6_1).f1)] 42 (0, 0))) ∧ Aside0 (Below w.heap.size w wc))
     case first =>
      have H := HC8.out
      clear HC8
      by_cases c12 : a1_1 < a1_0
      ·rw [if_pos c12] at H
       have c12b0 : decide (a1_1 < a1_0) = true := decide_eq_true c12
       clear c12
       (first | rw [c12b0] | (simp only [i64_w, i32_w]; rw [c12b0]) | skip)
       have H' := Aside0.mk H
       clear H
       have hnb13 := NB314_319.out
       have hnc13 := NB319_314.out
       have hcz14_0 : w9.cell? ⟨gb314, 0, none⟩ = some (.int .u64 a1_0) := (blk_cell BK314.out 0).trans rfl
       have hcz14_1 : w9.cell? ⟨gb314, 1, none⟩ = some (.int .u64 a1_1) := (blk_cell BK314.out 1).trans rfl
       have hfz14_0 := blk_frozen BK314.out 0
       have hfz14_1 := blk_frozen BK314.out 1
       go_wp2
       go_meet
       case rel => exact ⟨_, (true), (by first | rfl | (simp; done) | (simp [*]; done)), H', ⟨by have := HK1.out; first | omega | exact Nat.le_refl _⟩, ⟨by (with_reducible repeat (first | apply Kd.R_alloc | apply Kd.R_drewN | apply Kd.R_drew)); exact Kd.R_mono (Kd.R_far (p := ⟨gb319, 1, none⟩) (Kd.R_far (p := ⟨gb319, 0, none⟩) (Kd.R_mono HO_5.out (fun k_ hk => (⟨hk, hk.2⟩ : _ ∧ k_ ≠ gb319))) (fun _ hk => hk.2) (.int .u64 ((rd_T42 l0 x6_1).f0))) (fun _ hk => hk.2) (.int .u64 ((rd_T42 l0 x6_1).f1))) (fun _ hk => ⟨hk.1.1, hk.1.2⟩)⟩, ⟨by (with_reducible repeat (first | refine blk_drewN ?_ _ | refine blk_drew ?_ | refine blk_alloc ?_ _)); refine blk_far ?_ NB314_319.out _; (with_reducible repeat (first | refine blk_drewN ?_ _ | refine blk_drew ?_ | refine blk_alloc ?_ _)); refine blk_far ?_ NB314_319.out _; (with_reducible repeat (first | refine blk_drewN ?_ _ | refine blk_drew ?_ | refine blk_alloc ?_ _)); exact BK314.out⟩, ⟨by (with_reducible repeat (first | refine blk_drewN ?_ _ | refine blk_drew ?_ | refine blk_alloc ?_ _)); refine blk_put (cs := #[.int .u64 ((rd_T42 l0 x6_1).f0), .int .u64 0]) ?_ 1 _ rfl; (with_reducible repeat (first | refine blk_drewN ?_ _ | refine blk_drew ?_ | refine blk_alloc ?_ _)); refine blk_put (cs := #[.int .u64 0, .int .u64 0]) ?_ 0 _ rfl; (with_reducible repeat (first | refine blk_drewN ?_ _ | refine blk_drew ?_ | refine blk_alloc ?_ _)); exact BK319.out⟩, ⟨by repeat (first | (with_reducible first | exact HB.out | apply below_alloc | apply pw_below_drewN | apply below_drew1 | refine below_set ?_ GE314.out | refine below_set ?_ GE319.out) | exact HB.out)⟩⟩
      ·rw [if_neg c12] at H
       have c12b0 : decide (a1_1 < a1_0) = false := decide_eq_false c12
       clear c12
       (first | rw [c12b0] | (simp only [i64_w, i32_w]; rw [c12b0]) | skip)
       by_cases c15 : a1_1 < ((rd_T42 l0 x6_1).f0)
       ·rw [if_pos c15] at H
        have c15b0 : decide (a1_1 < ((rd_T42 l0 x6_1).f0)) = true := decide_eq_true c15
        clear c15
        have H' := Aside0.mk H
        clear H
        have hnb16 := NB314_319.out
        have hnc16 := NB319_314.out
        have hcz17_0 : w9.cell? ⟨gb314, 0, none⟩ = some (.int .u64 a1_0) := (blk_cell BK314.out 0).trans rfl
        have hcz17_1 : w9.cell? ⟨gb314, 1, none⟩ = some (.int .u64 a1_1) := (blk_cell BK314.out 1).trans rfl
        have hfz17_0 := blk_frozen BK314.out 0
        have hfz17_1 := blk_frozen BK314.out 1
        have hcz18_0 : w9.cell? ⟨gb319, 0, none⟩ = some (.int .u64 0) := (blk_cell BK319.out 0).trans rfl
        have hcz18_1 : w9.cell? ⟨gb319, 1, none⟩ = some (.int .u64 0) := (blk_cell BK319.out 1).trans rfl
        have hfz18_0 := blk_frozen BK319.out 0
        have hfz18_1 := blk_frozen BK319.out 1
        go_wp2
        go_meet
        case rel => exact ⟨_, (true), (by first | rfl | (simp; done) | (simp [*]; done)), H', ⟨by have := HK1.out; first | omega | exact Nat.le_refl _⟩, ⟨by (with_reducible repeat (first | apply Kd.R_alloc | apply Kd.R_drewN | apply Kd.R_drew)); exact Kd.R_mono (Kd.R_far (p := ⟨gb319, 1, none⟩) (Kd.R_far (p := ⟨gb319, 0, none⟩) (Kd.R_mono HO_5.out (fun k_ hk => (⟨hk, hk.2⟩ : _ ∧ k_ ≠ gb319))) (fun _ hk => hk.2) (.int .u64 ((rd_T42 l0 x6_1).f0))) (fun _ hk => hk.2) (.int .u64 ((rd_T42 l0 x6_1).f1))) (fun _ hk => ⟨hk.1.1, hk.1.2⟩)⟩, ⟨by (with_reducible repeat (first | refine blk_drewN ?_ _ | refine blk_drew ?_ | refine blk_alloc ?_ _)); refine blk_far ?_ NB314_319.out _; (with_reducible repeat (first | refine blk_drewN ?_ _ | refine blk_drew ?_ | refine blk_alloc ?_ _)); refine blk_far ?_ NB314_319.out _; (with_reducible repeat (first | refine blk_drewN ?_ _ | refine blk_drew ?_ | refine blk_alloc ?_ _)); exact BK314.out⟩, ⟨by (with_reducible repeat (first | refine blk_drewN ?_ _ | refine blk_drew ?_ | refine blk_alloc ?_ _)); refine blk_put (cs := #[.int .u64 ((rd_T42 l0 x6_1).f0), .int .u64 0]) ?_ 1 _ rfl; (with_reducible repeat (first | refine blk_drewN ?_ _ | refine blk_drew ?_ | refine blk_alloc ?_ _)); refine blk_put (cs := #[.int .u64 0, .int .u64 0]) ?_ 0 _ rfl; (with_reducible repeat (first | refine blk_drewN ?_ _ | refine blk_drew ?_ | refine blk_alloc ?_ _)); exact BK319.out⟩, ⟨by repeat (first | (with_reducible first | exact HB.out | apply below_alloc | apply pw_below_drewN | apply below_drew1 | refine below_set ?_ GE314.out | refine below_set ?_ GE319.out) | exact HB.out)⟩⟩
       ·rw [if_neg c15] at H
        have c15b0 : decide (a1_1 < ((rd_T42 l0 x6_1).f0)) = false := decide_eq_false c15
        clear c15
        have H' := Aside0.mk H
        clear H
        have hnb19 := NB314_319.out
        have hnc19 := NB319_314.out
        have hcz20_0 : w9.cell? ⟨gb314, 0, none⟩ = some (.int .u64 a1_0) := (blk_cell BK314.out 0).trans rfl
        have hcz20_1 : w9.cell? ⟨gb314, 1, none⟩ = some (.int .u64 a1_1) := (blk_cell BK314.out 1).trans rfl
        have hfz20_0 := blk_frozen BK314.out 0
        have hfz20_1 := blk_frozen BK314.out 1
        have hcz21_0 : w9.cell? ⟨gb319, 0, none⟩ = some (.int .u64 0) := (blk_cell BK319.out 0).trans rfl
        have hcz21_1 : w9.cell? ⟨gb319, 1, none⟩ = some (.int .u64 0) := (blk_cell BK319.out 1).trans rfl
        have hfz21_0 := blk_frozen BK319.out 0
        have hfz21_1 := blk_frozen BK319.out 1
        go_wp2
        go_meet
        case rel => exact ⟨_, (decide (((rd_T42 l0 x6_1).f1) < a1_0)), (by first | rfl | (simp; done) | (simp [*]; done)), H', ⟨by have := HK1.out; first | omega | exact Nat.le_refl _⟩, ⟨by (with_reducible repeat (first | apply Kd.R_alloc | apply Kd.R_drewN | apply Kd.R_drew)); exact Kd.R_mono (Kd.R_far (p := ⟨gb319, 1, none⟩) (Kd.R_far (p := ⟨gb319, 0, none⟩) (Kd.R_mono HO_5.out (fun k_ hk => (⟨hk, hk.2⟩ : _ ∧ k_ ≠ gb319))) (fun _ hk => hk.2) (.int .u64 ((rd_T42 l0 x6_1).f0))) (fun _ hk => hk.2) (.int .u64 ((rd_T42 l0 x6_1).f1))) (fun _ hk => ⟨hk.1.1, hk.1.2⟩)⟩, ⟨by (with_reducible repeat (first | refine blk_drewN ?_ _ | refine blk_drew ?_ | refine blk_alloc ?_ _)); refine blk_far ?_ NB314_319.out _; (with_reducible repeat (first | refine blk_drewN ?_ _ | refine blk_drew ?_ | refine blk_alloc ?_ _)); refine blk_far ?_ NB314_319.out _; (with_reducible repeat (first | refine blk_drewN ?_ _ | refine blk_drew ?_ | refine blk_alloc ?_ _)); exact BK314.out⟩, ⟨by (with_reducible repeat (first | refine blk_drewN ?_ _ | refine blk_drew ?_ | refine blk_alloc ?_ _)); refine blk_put (cs := #[.int .u64 ((rd_T42 l0 x6_1).f0), .int .u64 0]) ?_ 1 _ rfl; (with_reducible repeat (first | refine blk_drewN ?_ _ | refine blk_drew ?_ | refine blk_alloc ?_ _)); refine blk_put (cs := #[.int .u64 0, .int .u64 0]) ?_ 0 _ rfl; (with_reducible repeat (first | refine blk_drewN ?_ _ | refine blk_drew ?_ | refine blk_alloc ?_ _)); exact BK319.out⟩, ⟨by repeat (first | (with_reducible first | exact HB.out | apply below_alloc | apply pw_below_drewN | apply below_drew1 | refine below_set ?_ GE314.out | refine below_set ?_ GE319.out) | exact HB.out)⟩⟩
     case rest =>
      clear HC8
      try clear c1
      try clear c2
      try clear p2
      try clear p3
      try clear q3
      try clear hx3
      try clear c6
      try clear c6b0
      try clear c7
      try clear c7b0
      try clear c10
      try clear c12
      try clear c12b0
      try clear c13
      try clear c15
      try clear c15b0
      try clear c16
      try clear c19
      try clear hcz11_0
      try clear hcz11_1
      try clear hcz14_0
      try clear hcz14_1
      try clear hcz17_0
      try clear hcz17_1
      try clear hcz18_0
      try clear hcz18_1
      try clear hcz20_0
      try clear hcz20_1
      try clear hcz21_0
      try clear hcz21_1
      try clear hfz11_0
      try clear hfz11_1
      try clear hfz14_0
      try clear hfz14_1
      try clear hfz17_0
      try clear hfz17_1
      try clear hfz18_0
      try clear hfz18_1
      try clear hfz20_0
      try clear hfz20_1
      try clear hfz21_0
      try clear hfz21_1
      try clear hx318_0
      try clear hx318_1
      try clear p2
      try clear p318
      try clear q318
      obtain ⟨kq, x37_7, rfl, HA, HJ7, HO_5, BK314, BK319, HB⟩ := hcut
      cases kq with
      | zero => exact absurd HA.out (by simp [dominoref03_Cut.j1])
      | succ kj7 =>
       have H := HA.out
       clear HA
       simp only [dominoref03_Cut.j1] at H
       by_cases c22 : x37_7 = true
       ·subst c22
        have H1 : (if x5_1.length < 8796093022208 then (dominoref03_Cut.l0 kj7 l0 (x5_1 ++ [(⟨((rd_T42 l0 x6_1).f0), ((rd_T42 l0 x6_1).f1)⟩ : S42)]) (wrap64 (x6_1 + 1)) a1_0 a1_1) else (none)) = some r := by rw [if_pos rfl] at H; exact H
        clear H
        have H := H1
        clear H1
        by_cases c23 : x5_1.length < 8796093022208
        ·rw [if_pos c23] at H
         have LMc23 := Aside0.mk c23
         clear c23
         obtain ⟨y320, hy320⟩ : ∃ y_ : List (S42), y_ = (x5_1 ++ [(⟨((rd_T42 l0 x6_1).f0), ((rd_T42 l0 x6_1).f1)⟩ : S42)]) := ⟨_, rfl⟩
         replace H : (dominoref03_Cut.l0 kj7 l0 y320 (wrap64 (x6_1 + 1)) a1_0 a1_1) = some r := by first | (rw [hy320]; with_reducible exact H) | (have H2_ := (Option.bind_some _ _).symm.trans H; rw [hy320]; with_reducible exact H2_) | (have H2_ := (Option.bind_some _ _).symm.trans H; with_reducible exact H2_) | with_reducible exact H | (rw [hy320]; exact H) | exact H
         have Ny320 := Aside0.mk hy320
         clear hy320
         have H' := Aside0.mk H
         clear H
         have hnb24 := NB319_314.out
         have hnc24 := NB314_319.out
         have hcz25_0 : wc.cell? ⟨gb319, 0, none⟩ = some (.int .u64 ((rd_T42 l0 x6_1).f0)) := (blk_cell BK319.out 0).trans rfl
         have hcz25_1 : wc.cell? ⟨gb319, 1, none⟩ = some (.int .u64 ((rd_T42 l0 x6_1).f1)) := (blk_cell BK319.out 1).trans rfl
         have hfz25_0 := blk_frozen BK319.out 0
         have hfz25_1 := blk_frozen BK319.out 1
         go_wp2_with (first | ((with_reducible refine gate_builtin (b := .append) (xs := #[.tmp 38, .tmp 40]) rfl ?_); at_builtin; refine Kd.R_append k42 (w0 := w) w.heap.size rfl (.tmp 38) (.tmp 40) 28 42 (.agg #[(.int .u64 0), (.int .u64 0)]) 16 rfl Try.underlying28 info42 rfl (by decide) (by omega) u5 x5_1 (⟨((rd_T42 l0 x6_1).f0), ((rd_T42 l0 x6_1).f1)⟩ : S42) [.int .u64 ((rd_T42 l0 x6_1).f0), .int .u64 ((rd_T42 l0 x6_1).f1)] (fun k_ => k_ ≠ gb314 ∧ k_ ≠ gb319) (fun _ => False) rfl rfl ?aP (fun _ hk => hk.elim) ?aF ?aO ?aB ?aS ?aL ?_; (case aP => exact k42_mkM _ _ _ (⟨((rd_T42 l0 x6_1).f0), ((rd_T42 l0 x6_1).f1)⟩ : S42)); (case aB => exact (by repeat (first | (with_reducible first | exact HB.out | apply below_alloc | apply pw_below_drewN | apply below_drew1 | refine below_set ?_ GE314.out | refine below_set ?_ GE319.out) | exact HB.out))); (case aF => exact (fun k_ hk => ⟨Kd.freshB (g := gb314) (o := .cells #[.int .u64 a1_0, .int .u64 a1_1] 42 (0, 0)) (by (with_reducible repeat (first | refine blk_drewN ?_ _ | refine blk_drew ?_ | refine blk_alloc ?_ _)); exact BK314.out) k_ hk, Kd.freshB (g := gb319) (o := .cells #[.int .u64 ((rd_T42 l0 x6_1).f0), .int .u64 ((rd_T42 l0 x6_1).f1)] 42 (0, 0)) (by (with_reducible repeat (first | refine blk_drewN ?_ _ | refine blk_drew ?_ | refine blk_alloc ?_ _)); exact BK319.out) k_ hk⟩)); (case aO => exact (by (with_reducible repeat (first | apply Kd.R_alloc | apply Kd.R_drewN | apply Kd.R_drew)); exact HO_5.out)); (case aS => exact (below_size (by repeat (first | (with_reducible first | exact HB.out | apply below_alloc | apply pw_below_drewN | apply below_drew1 | refine below_set ?_ GE314.out | refine below_set ?_ GE319.out) | exact HB.out)))); (case aL => have := LMc23.out; omega); intro v321 w26 ho hb hg hat; rw [← Ny320.out] at ho; have n0_ := Aside0.mk (blk_grown (g := gb314) (o := .cells #[.int .u64 a1_0, .int .u64 a1_1] 42 (0, 0)) (by (with_reducible repeat (first | refine blk_drewN ?_ _ | refine blk_drew ?_ | refine blk_alloc ?_ _)); exact BK314.out) hg (Kd.R_away HO_5.out (fun _ hk => hk.1))); have n1_ := Aside0.mk (blk_grown (g := gb319) (o := .cells #[.int .u64 ((rd_T42 l0 x6_1).f0), .int .u64 ((rd_T42 l0 x6_1).f1)] 42 (0, 0)) (by (with_reducible repeat (first | refine blk_drewN ?_ _ | refine blk_drew ?_ | refine blk_alloc ?_ _)); exact BK319.out) hg (Kd.R_away HO_5.out (fun _ hk => hk.2))); have n2_ := Aside0.mk (hb); have n3_ := Aside0.mk (ho); clear BK314; clear BK319; clear HB; clear HO_5; have BK314 := n0_; have BK319 := n1_; have HB := n2_; have HO322 := n3_; clear n0_ n1_ n2_ n3_; clear ho hb hg hat))
         go_roundg kj7
         case measure => have := HK1.out; have := HJ7.out; omega
         case rel => exact ⟨(y320), (wrap64 (x6_1 + 1)), (by first | rfl | (simp; done) | (simp [*]; done)), H', ⟨by have := HK1.out; have := HJ7.out; omega⟩, ⟨by (with_reducible repeat (first | apply Kd.R_alloc | apply Kd.R_drewN | apply Kd.R_drew)); exact Kd.R_mono HO322.out (fun _ hk => hk.1)⟩, ⟨by (with_reducible repeat (first | refine blk_drewN ?_ _ | refine blk_drew ?_ | refine blk_alloc ?_ _)); exact BK314.out⟩, ⟨by repeat (first | (with_reducible first | exact HB.out | apply below_alloc | apply pw_below_drewN | apply below_drew1 | refine below_set ?_ GE314.out | refine below_set ?_ GE319.out) | exact HB.out)⟩⟩
        ·rw [if_neg c23] at H
         exact absurd H (by simp)
       ·replace c22 := Bool.eq_false_iff.mpr c22
        subst c22
        have H1 : (if ((rd_T42 l0 x6_1).f0) < a1_0 then (if x5_1.length < 8796093022208 then ((some (x5_1 ++ [(⟨((rd_T42 l0 x6_1).f0), IntKind.u64.wrap (a1_0 - 1)⟩ : S42)] : List (S42))).bind fun y323 => (if a1_1 < ((rd_T42 l0 x6_1).f1) then (if y323.length < 8796093022208 then (dominoref03_Cut.l0 kj7 l0 (y323 ++ [(⟨IntKind.u64.wrap (a1_1 + 1), ((rd_T42 l0 x6_1).f1)⟩ : S42)]) (wrap64 (x6_1 + 1)) a1_0 a1_1) else (none)) else (dominoref03_Cut.l0 kj7 l0 y323 (wrap64 (x6_1 + 1)) a1_0 a1_1))) else (none)) else (if a1_1 < ((rd_T42 l0 x6_1).f1) then (if x5_1.length < 8796093022208 then (dominoref03_Cut.l0 kj7 l0 (x5_1 ++ [(⟨IntKind.u64.wrap (a1_1 + 1), ((rd_T42 l0 x6_1).f1)⟩ : S42)]) (wrap64 (x6_1 + 1)) a1_0 a1_1) else (none)) else (dominoref03_Cut.l0 kj7 l0 x5_1 (wrap64 (x6_1 + 1)) a1_0 a1_1))) = some r := by rw [if_neg (show ¬ (false = true) by decide)] at H; exact H
        clear H
        have H := H1
        clear H1
        by_cases c27 : ((rd_T42 l0 x6_1).f0) < a1_0
        ·rw [if_pos c27] at H
         have c27b0 : decide (((rd_T42 l0 x6_1).f0) < a1_0) = true := decide_eq_true c27
         clear c27
         by_cases c28 : x5_1.length < 8796093022208
         ·rw [if_pos c28] at H
          have LMc28 := Aside0.mk c28
          clear c28
          obtain ⟨y323, hy323⟩ : ∃ y_ : List (S42), y_ = (x5_1 ++ [(⟨((rd_T42 l0 x6_1).f0), IntKind.u64.wrap (a1_0 - 1)⟩ : S42)]) := ⟨_, rfl⟩
          replace H : (if a1_1 < ((rd_T42 l0 x6_1).f1) then (if y323.length < 8796093022208 then (dominoref03_Cut.l0 kj7 l0 (y323 ++ [(⟨IntKind.u64.wrap (a1_1 + 1), ((rd_T42 l0 x6_1).f1)⟩ : S42)]) (wrap64 (x6_1 + 1)) a1_0 a1_1) else (none)) else (dominoref03_Cut.l0 kj7 l0 y323 (wrap64 (x6_1 + 1)) a1_0 a1_1)) = some r := by first | (rw [hy323]; with_reducible exact H) | (have H2_ := (Option.bind_some _ _).symm.trans H; rw [hy323]; with_reducible exact H2_) | (have H2_ := (Option.bind_some _ _).symm.trans H; with_reducible exact H2_) | with_reducible exact H | (rw [hy323]; exact H) | exact H
          have Ny323 := Aside0.mk hy323
          clear hy323
          by_cases c29 : a1_1 < ((rd_T42 l0 x6_1).f1)
          ·rw [if_pos c29] at H
           have c29b0 : decide (a1_1 < ((rd_T42 l0 x6_1).f1)) = true := decide_eq_true c29
           clear c29
           by_cases c30 : y323.length < 8796093022208
           ·rw [if_pos c30] at H
            have LMc30 := Aside0.mk c30
            clear c30
            obtain ⟨y326, hy326⟩ : ∃ y_ : List (S42), y_ = (y323 ++ [(⟨IntKind.u64.wrap (a1_1 + 1), ((rd_T42 l0 x6_1).f1)⟩ : S42)]) := ⟨_, rfl⟩
            replace H : (dominoref03_Cut.l0 kj7 l0 y326 (wrap64 (x6_1 + 1)) a1_0 a1_1) = some r := by first | (rw [hy326]; with_reducible exact H) | (have H2_ := (Option.bind_some _ _).symm.trans H; rw [hy326]; with_reducible exact H2_) | (have H2_ := (Option.bind_some _ _).symm.trans H; with_reducible exact H2_) | with_reducible exact H | (rw [hy326]; exact H) | exact H
            have Ny326 := Aside0.mk hy326
            clear hy326
            have H' := Aside0.mk H
            clear H
            have hnb31 := NB319_314.out
            have hnc31 := NB314_319.out
            have hcz32_0 : wc.cell? ⟨gb319, 0, none⟩ = some (.int .u64 ((rd_T42 l0 x6_1).f0)) := (blk_cell BK319.out 0).trans rfl
            have hcz32_1 : wc.cell? ⟨gb319, 1, none⟩ = some (.int .u64 ((rd_T42 l0 x6_1).f1)) := (blk_cell BK319.out 1).trans rfl
            have hfz32_0 := blk_frozen BK319.out 0
            have hfz32_1 := blk_frozen BK319.out 1
            have hcz33_0 : wc.cell? ⟨gb314, 0, none⟩ = some (.int .u64 a1_0) := (blk_cell BK314.out 0).trans rfl
            have hcz33_1 : wc.cell? ⟨gb314, 1, none⟩ = some (.int .u64 a1_1) := (blk_cell BK314.out 1).trans rfl
            have hfz33_0 := blk_frozen BK314.out 0
            have hfz33_1 := blk_frozen BK314.out 1
            go_wp2_with (first | ((with_reducible refine gate_builtin (b := .append) (xs := #[.tmp 47, .tmp 54]) rfl ?_); at_builtin; refine Kd.R_append k42 (w0 := w) w.heap.size rfl (.tmp 47) (.tmp 54) 28 42 (.agg #[(.int .u64 0), (.int .u64 0)]) 16 rfl Try.underlying28 info42 rfl (by decide) (by omega) u5 x5_1 (⟨((rd_T42 l0 x6_1).f0), IntKind.u64.wrap (a1_0 - 1)⟩ : S42) [.int .u64 ((rd_T42 l0 x6_1).f0), .int .u64 (IntKind.u64.wrap (a1_0 - 1))] (fun k_ => k_ ≠ gb314 ∧ k_ ≠ gb319) (fun _ => False) rfl rfl ?aP (fun _ hk => hk.elim) ?aF ?aO ?aB ?aS ?aL ?_; (case aP => exact k42_mkM _ _ _ (⟨((rd_T42 l0 x6_1).f0), IntKind.u64.wrap (a1_0 - 1)⟩ : S42)); (case aB => exact (by repeat (first | (with_reducible first | exact HB.out | apply below_alloc | apply pw_below_drewN | apply below_drew1 | refine below_set ?_ GE314.out | refine below_set ?_ GE319.out) | exact HB.out))); (case aF => exact (fun k_ hk => ⟨Kd.freshB (g := gb314) (o := .cells #[.int .u64 a1_0, .int .u64 a1_1] 42 (0, 0)) (by (with_reducible repeat (first | refine blk_drewN ?_ _ | refine blk_drew ?_ | refine blk_alloc ?_ _)); exact BK314.out) k_ hk, Kd.freshB (g := gb319) (o := .cells #[.int .u64 ((rd_T42 l0 x6_1).f0), .int .u64 ((rd_T42 l0 x6_1).f1)] 42 (0, 0)) (by (with_reducible repeat (first | refine blk_drewN ?_ _ | refine blk_drew ?_ | refine blk_alloc ?_ _)); exact BK319.out) k_ hk⟩)); (case aO => exact (by (with_reducible repeat (first | apply Kd.R_alloc | apply Kd.R_drewN | apply Kd.R_drew)); exact HO_5.out)); (case aS => exact (below_size (by repeat (first | (with_reducible first | exact HB.out | apply below_alloc | apply pw_below_drewN | apply below_drew1 | refine below_set ?_ GE314.out | refine below_set ?_ GE319.out) | exact HB.out)))); (case aL => have := LMc28.out; omega); intro v324 w34 ho hb hg hat; rw [← Ny323.out] at ho; have n0_ := Aside0.mk (blk_grown (g := gb314) (o := .cells #[.int .u64 a1_0, .int .u64 a1_1] 42 (0, 0)) (by (with_reducible repeat (first | refine blk_drewN ?_ _ | refine blk_drew ?_ | refine blk_alloc ?_ _)); exact BK314.out) hg (Kd.R_away HO_5.out (fun _ hk => hk.1))); have n1_ := Aside0.mk (blk_grown (g := gb319) (o := .cells #[.int .u64 ((rd_T42 l0 x6_1).f0), .int .u64 ((rd_T42 l0 x6_1).f1)] 42 (0, 0)) (by (with_reducible repeat (first | refine blk_drewN ?_ _ | refine blk_drew ?_ | refine blk_alloc ?_ _)); exact BK319.out) hg (Kd.R_away HO_5.out (fun _ hk => hk.2))); have n2_ := Aside0.mk (hb); have n3_ := Aside0.mk (ho); clear BK314; clear BK319; clear HB; clear HO_5; have BK314 := n0_; have BK319 := n1_; have HB := n2_; have HO325 := n3_; clear n0_ n1_ n2_ n3_; clear ho hb hg hat; have hcz35_0 : w34.cell? ⟨gb314, 0, none⟩ = some (.int .u64 a1_0) := (blk_cell BK314.out 0).trans rfl; have hcz35_1 : w34.cell? ⟨gb314, 1, none⟩ = some (.int .u64 a1_1) := (blk_cell BK314.out 1).trans rfl; have hfz35_0 := blk_frozen BK314.out 0; have hfz35_1 := blk_frozen BK314.out 1; have hcz36_0 : w34.cell? ⟨gb319, 0, none⟩ = some (.int .u64 ((rd_T42 l0 x6_1).f0)) := (blk_cell BK319.out 0).trans rfl; have hcz36_1 : w34.cell? ⟨gb319, 1, none⟩ = some (.int .u64 ((rd_T42 l0 x6_1).f1)) := (blk_cell BK319.out 1).trans rfl; have hfz36_0 := blk_frozen BK319.out 0; have hfz36_1 := blk_frozen BK319.out 1) | ((with_reducible refine gate_builtin (b := .append) (xs := #[.tmp 61, .tmp 68]) rfl ?_); at_builtin; refine Kd.R_append k42 (w0 := w) w.heap.size rfl (.tmp 61) (.tmp 68) 28 42 (.agg #[(.int .u64 0), (.int .u64 0)]) 16 rfl Try.underlying28 info42 rfl (by decide) (by omega) v324 y323 (⟨IntKind.u64.wrap (a1_1 + 1), ((rd_T42 l0 x6_1).f1)⟩ : S42) [.int .u64 (IntKind.u64.wrap (a1_1 + 1)), .int .u64 ((rd_T42 l0 x6_1).f1)] (fun k_ => k_ ≠ gb314 ∧ k_ ≠ gb319) (fun _ => False) rfl rfl ?aP (fun _ hk => hk.elim) ?aF ?aO ?aB ?aS ?aL ?_; (case aP => exact k42_mkM _ _ _ (⟨IntKind.u64.wrap (a1_1 + 1), ((rd_T42 l0 x6_1).f1)⟩ : S42)); (case aB => exact (by repeat (first | (with_reducible first | exact HB.out | apply below_alloc | apply pw_below_drewN | apply below_drew1 | refine below_set ?_ GE314.out | refine below_set ?_ GE319.out) | exact HB.out))); (case aF => exact (fun k_ hk => ⟨Kd.freshB (g := gb314) (o := .cells #[.int .u64 a1_0, .int .u64 a1_1] 42 (0, 0)) (by (with_reducible repeat (first | refine blk_drewN ?_ _ | refine blk_drew ?_ | refine blk_alloc ?_ _)); exact BK314.out) k_ hk, Kd.freshB (g := gb319) (o := .cells #[.int .u64 ((rd_T42 l0 x6_1).f0), .int .u64 ((rd_T42 l0 x6_1).f1)] 42 (0, 0)) (by (with_reducible repeat (first | refine blk_drewN ?_ _ | refine blk_drew ?_ | refine blk_alloc ?_ _)); exact BK319.out) k_ hk⟩)); (case aO => exact (by (with_reducible repeat (first | apply Kd.R_alloc | apply Kd.R_drewN | apply Kd.R_drew)); exact HO325.out)); (case aS => exact (below_size (by repeat (first | (with_reducible first | exact HB.out | apply below_alloc | apply pw_below_drewN | apply below_drew1 | refine below_set ?_ GE314.out | refine below_set ?_ GE319.out) | exact HB.out)))); (case aL => have := LMc30.out; omega); intro v327 w37 ho hb hg hat; rw [← Ny326.out] at ho; have n0_ := Aside0.mk (blk_grown (g := gb314) (o := .cells #[.int .u64 a1_0, .int .u64 a1_1] 42 (0, 0)) (by (with_reducible repeat (first | refine blk_drewN ?_ _ | refine blk_drew ?_ | refine blk_alloc ?_ _)); exact BK314.out) hg (Kd.R_away HO325.out (fun _ hk => hk.1))); have n1_ := Aside0.mk (blk_grown (g := gb319) (o := .cells #[.int .u64 ((rd_T42 l0 x6_1).f0), .int .u64 ((rd_T42 l0 x6_1).f1)] 42 (0, 0)) (by (with_reducible repeat (first | refine blk_drewN ?_ _ | refine blk_drew ?_ | refine blk_alloc ?_ _)); exact BK319.out) hg (Kd.R_away HO325.out (fun _ hk => hk.2))); have n2_ := Aside0.mk (hb); have n3_ := Aside0.mk (ho); clear BK314; clear BK319; clear HB; clear HO325; have BK314 := n0_; have BK319 := n1_; have HB := n2_; have HO328 := n3_; clear n0_ n1_ n2_ n3_; clear ho hb hg hat))
            go_roundg kj7
            case measure => have := HK1.out; have := HJ7.out; omega
            case rel => exact ⟨(y326), (wrap64 (x6_1 + 1)), (by first | rfl | (simp; done) | (simp [*]; done)), H', ⟨by have := HK1.out; have := HJ7.out; omega⟩, ⟨by (with_reducible repeat (first | apply Kd.R_alloc | apply Kd.R_drewN | apply Kd.R_drew)); exact Kd.R_mono HO328.out (fun _ hk => hk.1)⟩, ⟨by (with_reducible repeat (first | refine blk_drewN ?_ _ | refine blk_drew ?_ | refine blk_alloc ?_ _)); exact BK314.out⟩, ⟨by repeat (first | (with_reducible first | exact HB.out | apply below_alloc | apply pw_below_drewN | apply below_drew1 | refine below_set ?_ GE314.out | refine below_set ?_ GE319.out) | exact HB.out)⟩⟩
           ·rw [if_neg c30] at H
            exact absurd H (by simp)
          ·rw [if_neg c29] at H
           have c29b0 : decide (a1_1 < ((rd_T42 l0 x6_1).f1)) = false := decide_eq_false c29
           clear c29
           have H' := Aside0.mk H
           clear H
           have hnb38 := NB319_314.out
           have hnc38 := NB314_319.out
           have hcz39_0 : wc.cell? ⟨gb319, 0, none⟩ = some (.int .u64 ((rd_T42 l0 x6_1).f0)) := (blk_cell BK319.out 0).trans rfl
           have hcz39_1 : wc.cell? ⟨gb319, 1, none⟩ = some (.int .u64 ((rd_T42 l0 x6_1).f1)) := (blk_cell BK319.out 1).trans rfl
           have hfz39_0 := blk_frozen BK319.out 0
           have hfz39_1 := blk_frozen BK319.out 1
           have hcz40_0 : wc.cell? ⟨gb314, 0, none⟩ = some (.int .u64 a1_0) := (blk_cell BK314.out 0).trans rfl
           have hcz40_1 : wc.cell? ⟨gb314, 1, none⟩ = some (.int .u64 a1_1) := (blk_cell BK314.out 1).trans rfl
           have hfz40_0 := blk_frozen BK314.out 0
           have hfz40_1 := blk_frozen BK314.out 1
           go_wp2_with (first | ((with_reducible refine gate_builtin (b := .append) (xs := #[.tmp 47, .tmp 54]) rfl ?_); at_builtin; refine Kd.R_append k42 (w0 := w) w.heap.size rfl (.tmp 47) (.tmp 54) 28 42 (.agg #[(.int .u64 0), (.int .u64 0)]) 16 rfl Try.underlying28 info42 rfl (by decide) (by omega) u5 x5_1 (⟨((rd_T42 l0 x6_1).f0), IntKind.u64.wrap (a1_0 - 1)⟩ : S42) [.int .u64 ((rd_T42 l0 x6_1).f0), .int .u64 (IntKind.u64.wrap (a1_0 - 1))] (fun k_ => k_ ≠ gb314 ∧ k_ ≠ gb319) (fun _ => False) rfl rfl ?aP (fun _ hk => hk.elim) ?aF ?aO ?aB ?aS ?aL ?_; (case aP => exact k42_mkM _ _ _ (⟨((rd_T42 l0 x6_1).f0), IntKind.u64.wrap (a1_0 - 1)⟩ : S42)); (case aB => exact (by repeat (first | (with_reducible first | exact HB.out | apply below_alloc | apply pw_below_drewN | apply below_drew1 | refine below_set ?_ GE314.out | refine below_set ?_ GE319.out) | exact HB.out))); (case aF => exact (fun k_ hk => ⟨Kd.freshB (g := gb314) (o := .cells #[.int .u64 a1_0, .int .u64 a1_1] 42 (0, 0)) (by (with_reducible repeat (first | refine blk_drewN ?_ _ | refine blk_drew ?_ | refine blk_alloc ?_ _)); exact BK314.out) k_ hk, Kd.freshB (g := gb319) (o := .cells #[.int .u64 ((rd_T42 l0 x6_1).f0), .int .u64 ((rd_T42 l0 x6_1).f1)] 42 (0, 0)) (by (with_reducible repeat (first | refine blk_drewN ?_ _ | refine blk_drew ?_ | refine blk_alloc ?_ _)); exact BK319.out) k_ hk⟩)); (case aO => exact (by (with_reducible repeat (first | apply Kd.R_alloc | apply Kd.R_drewN | apply Kd.R_drew)); exact HO_5.out)); (case aS => exact (below_size (by repeat (first | (with_reducible first | exact HB.out | apply below_alloc | apply pw_below_drewN | apply below_drew1 | refine below_set ?_ GE314.out | refine below_set ?_ GE319.out) | exact HB.out)))); (case aL => have := LMc28.out; omega); intro v324 w41 ho hb hg hat; rw [← Ny323.out] at ho; have n0_ := Aside0.mk (blk_grown (g := gb314) (o := .cells #[.int .u64 a1_0, .int .u64 a1_1] 42 (0, 0)) (by (with_reducible repeat (first | refine blk_drewN ?_ _ | refine blk_drew ?_ | refine blk_alloc ?_ _)); exact BK314.out) hg (Kd.R_away HO_5.out (fun _ hk => hk.1))); have n1_ := Aside0.mk (blk_grown (g := gb319) (o := .cells #[.int .u64 ((rd_T42 l0 x6_1).f0), .int .u64 ((rd_T42 l0 x6_1).f1)] 42 (0, 0)) (by (with_reducible repeat (first | refine blk_drewN ?_ _ | refine blk_drew ?_ | refine blk_alloc ?_ _)); exact BK319.out) hg (Kd.R_away HO_5.out (fun _ hk => hk.2))); have n2_ := Aside0.mk (hb); have n3_ := Aside0.mk (ho); clear BK314; clear BK319; clear HB; clear HO_5; have BK314 := n0_; have BK319 := n1_; have HB := n2_; have HO325 := n3_; clear n0_ n1_ n2_ n3_; clear ho hb hg hat; have hcz42_0 : w41.cell? ⟨gb314, 0, none⟩ = some (.int .u64 a1_0) := (blk_cell BK314.out 0).trans rfl; have hcz42_1 : w41.cell? ⟨gb314, 1, none⟩ = some (.int .u64 a1_1) := (blk_cell BK314.out 1).trans rfl; have hfz42_0 := blk_frozen BK314.out 0; have hfz42_1 := blk_frozen BK314.out 1; have hcz43_0 : w41.cell? ⟨gb319, 0, none⟩ = some (.int .u64 ((rd_T42 l0 x6_1).f0)) := (blk_cell BK319.out 0).trans rfl; have hcz43_1 : w41.cell? ⟨gb319, 1, none⟩ = some (.int .u64 ((rd_T42 l0 x6_1).f1)) := (blk_cell BK319.out 1).trans rfl; have hfz43_0 := blk_frozen BK319.out 0; have hfz43_1 := blk_frozen BK319.out 1))
           go_roundg kj7
           case measure => have := HK1.out; have := HJ7.out; omega
           case rel => exact ⟨(y323), (wrap64 (x6_1 + 1)), (by first | rfl | (simp; done) | (simp [*]; done)), H', ⟨by have := HK1.out; have := HJ7.out; omega⟩, ⟨by (with_reducible repeat (first | apply Kd.R_alloc | apply Kd.R_drewN | apply Kd.R_drew)); exact Kd.R_mono HO325.out (fun _ hk => hk.1)⟩, ⟨by (with_reducible repeat (first | refine blk_drewN ?_ _ | refine blk_drew ?_ | refine blk_alloc ?_ _)); exact BK314.out⟩, ⟨by repeat (first | (with_reducible first | exact HB.out | apply below_alloc | apply pw_below_drewN | apply below_drew1 | refine below_set ?_ GE314.out | refine below_set ?_ GE319.out) | exact HB.out)⟩⟩
         ·rw [if_neg c28] at H
          exact absurd H (by simp)
        ·rw [if_neg c27] at H
         have c27b0 : decide (((rd_T42 l0 x6_1).f0) < a1_0) = false := decide_eq_false c27
         clear c27
         by_cases c44 : a1_1 < ((rd_T42 l0 x6_1).f1)
         ·rw [if_pos c44] at H
          have c44b0 : decide (a1_1 < ((rd_T42 l0 x6_1).f1)) = true := decide_eq_true c44
          clear c44
          by_cases c45 : x5_1.length < 8796093022208
          ·rw [if_pos c45] at H
           have LMc45 := Aside0.mk c45
           clear c45
           obtain ⟨y329, hy329⟩ : ∃ y_ : List (S42), y_ = (x5_1 ++ [(⟨IntKind.u64.wrap (a1_1 + 1), ((rd_T42 l0 x6_1).f1)⟩ : S42)]) := ⟨_, rfl⟩
           replace H : (dominoref03_Cut.l0 kj7 l0 y329 (wrap64 (x6_1 + 1)) a1_0 a1_1) = some r := by first | (rw [hy329]; with_reducible exact H) | (have H2_ := (Option.bind_some _ _).symm.trans H; rw [hy329]; with_reducible exact H2_) | (have H2_ := (Option.bind_some _ _).symm.trans H; with_reducible exact H2_) | with_reducible exact H | (rw [hy329]; exact H) | exact H
           have Ny329 := Aside0.mk hy329
           clear hy329
           have H' := Aside0.mk H
           clear H
           have hnb46 := NB319_314.out
           have hnc46 := NB314_319.out
           have hcz47_0 : wc.cell? ⟨gb319, 0, none⟩ = some (.int .u64 ((rd_T42 l0 x6_1).f0)) := (blk_cell BK319.out 0).trans rfl
           have hcz47_1 : wc.cell? ⟨gb319, 1, none⟩ = some (.int .u64 ((rd_T42 l0 x6_1).f1)) := (blk_cell BK319.out 1).trans rfl
           have hfz47_0 := blk_frozen BK319.out 0
           have hfz47_1 := blk_frozen BK319.out 1
           have hcz48_0 : wc.cell? ⟨gb314, 0, none⟩ = some (.int .u64 a1_0) := (blk_cell BK314.out 0).trans rfl
           have hcz48_1 : wc.cell? ⟨gb314, 1, none⟩ = some (.int .u64 a1_1) := (blk_cell BK314.out 1).trans rfl
           have hfz48_0 := blk_frozen BK314.out 0
           have hfz48_1 := blk_frozen BK314.out 1
           go_wp2_with (first | ((with_reducible refine gate_builtin (b := .append) (xs := #[.tmp 61, .tmp 68]) rfl ?_); at_builtin; refine Kd.R_append k42 (w0 := w) w.heap.size rfl (.tmp 61) (.tmp 68) 28 42 (.agg #[(.int .u64 0), (.int .u64 0)]) 16 rfl Try.underlying28 info42 rfl (by decide) (by omega) u5 x5_1 (⟨IntKind.u64.wrap (a1_1 + 1), ((rd_T42 l0 x6_1).f1)⟩ : S42) [.int .u64 (IntKind.u64.wrap (a1_1 + 1)), .int .u64 ((rd_T42 l0 x6_1).f1)] (fun k_ => k_ ≠ gb314 ∧ k_ ≠ gb319) (fun _ => False) rfl rfl ?aP (fun _ hk => hk.elim) ?aF ?aO ?aB ?aS ?aL ?_; (case aP => exact k42_mkM _ _ _ (⟨IntKind.u64.wrap (a1_1 + 1), ((rd_T42 l0 x6_1).f1)⟩ : S42)); (case aB => exact (by repeat (first | (with_reducible first | exact HB.out | apply below_alloc | apply pw_below_drewN | apply below_drew1 | refine below_set ?_ GE314.out | refine below_set ?_ GE319.out) | exact HB.out))); (case aF => exact (fun k_ hk => ⟨Kd.freshB (g := gb314) (o := .cells #[.int .u64 a1_0, .int .u64 a1_1] 42 (0, 0)) (by (with_reducible repeat (first | refine blk_drewN ?_ _ | refine blk_drew ?_ | refine blk_alloc ?_ _)); exact BK314.out) k_ hk, Kd.freshB (g := gb319) (o := .cells #[.int .u64 ((rd_T42 l0 x6_1).f0), .int .u64 ((rd_T42 l0 x6_1).f1)] 42 (0, 0)) (by (with_reducible repeat (first | refine blk_drewN ?_ _ | refine blk_drew ?_ | refine blk_alloc ?_ _)); exact BK319.out) k_ hk⟩)); (case aO => exact (by (with_reducible repeat (first | apply Kd.R_alloc | apply Kd.R_drewN | apply Kd.R_drew)); exact HO_5.out)); (case aS => exact (below_size (by repeat (first | (with_reducible first | exact HB.out | apply below_alloc | apply pw_below_drewN | apply below_drew1 | refine below_set ?_ GE314.out | refine below_set ?_ GE319.out) | exact HB.out)))); (case aL => have := LMc45.out; omega); intro v330 w49 ho hb hg hat; rw [← Ny329.out] at ho; have n0_ := Aside0.mk (blk_grown (g := gb314) (o := .cells #[.int .u64 a1_0, .int .u64 a1_1] 42 (0, 0)) (by (with_reducible repeat (first | refine blk_drewN ?_ _ | refine blk_drew ?_ | refine blk_alloc ?_ _)); exact BK314.out) hg (Kd.R_away HO_5.out (fun _ hk => hk.1))); have n1_ := Aside0.mk (blk_grown (g := gb319) (o := .cells #[.int .u64 ((rd_T42 l0 x6_1).f0), .int .u64 ((rd_T42 l0 x6_1).f1)] 42 (0, 0)) (by (with_reducible repeat (first | refine blk_drewN ?_ _ | refine blk_drew ?_ | refine blk_alloc ?_ _)); exact BK319.out) hg (Kd.R_away HO_5.out (fun _ hk => hk.2))); have n2_ := Aside0.mk (hb); have n3_ := Aside0.mk (ho); clear BK314; clear BK319; clear HB; clear HO_5; have BK314 := n0_; have BK319 := n1_; have HB := n2_; have HO331 := n3_; clear n0_ n1_ n2_ n3_; clear ho hb hg hat))
           go_roundg kj7
           case measure => have := HK1.out; have := HJ7.out; omega
           case rel => exact ⟨(y329), (wrap64 (x6_1 + 1)), (by first | rfl | (simp; done) | (simp [*]; done)), H', ⟨by have := HK1.out; have := HJ7.out; omega⟩, ⟨by (with_reducible repeat (first | apply Kd.R_alloc | apply Kd.R_drewN | apply Kd.R_drew)); exact Kd.R_mono HO331.out (fun _ hk => hk.1)⟩, ⟨by (with_reducible repeat (first | refine blk_drewN ?_ _ | refine blk_drew ?_ | refine blk_alloc ?_ _)); exact BK314.out⟩, ⟨by repeat (first | (with_reducible first | exact HB.out | apply below_alloc | apply pw_below_drewN | apply below_drew1 | refine below_set ?_ GE314.out | refine below_set ?_ GE319.out) | exact HB.out)⟩⟩
          ·rw [if_neg c45] at H
           exact absurd H (by simp)
         ·rw [if_neg c44] at H
          have c44b0 : decide (a1_1 < ((rd_T42 l0 x6_1).f1)) = false := decide_eq_false c44
          clear c44
          have H' := Aside0.mk H
          clear H
          have hnb50 := NB319_314.out
          have hnc50 := NB314_319.out
          have hcz51_0 : wc.cell? ⟨gb319, 0, none⟩ = some (.int .u64 ((rd_T42 l0 x6_1).f0)) := (blk_cell BK319.out 0).trans rfl
          have hcz51_1 : wc.cell? ⟨gb319, 1, none⟩ = some (.int .u64 ((rd_T42 l0 x6_1).f1)) := (blk_cell BK319.out 1).trans rfl
          have hfz51_0 := blk_frozen BK319.out 0
          have hfz51_1 := blk_frozen BK319.out 1
          have hcz52_0 : wc.cell? ⟨gb314, 0, none⟩ = some (.int .u64 a1_0) := (blk_cell BK314.out 0).trans rfl
          have hcz52_1 : wc.cell? ⟨gb314, 1, none⟩ = some (.int .u64 a1_1) := (blk_cell BK314.out 1).trans rfl
          have hfz52_0 := blk_frozen BK314.out 0
          have hfz52_1 := blk_frozen BK314.out 1
          go_wp2
          go_roundg kj7
          case measure => have := HK1.out; have := HJ7.out; omega
          case rel => exact ⟨(x5_1), (wrap64 (x6_1 + 1)), (by first | rfl | (simp; done) | (simp [*]; done)), H', ⟨by have := HK1.out; have := HJ7.out; omega⟩, ⟨by (with_reducible repeat (first | apply Kd.R_alloc | apply Kd.R_drewN | apply Kd.R_drew)); exact Kd.R_mono HO_5.out (fun _ hk => hk.1)⟩, ⟨by (with_reducible repeat (first | refine blk_drewN ?_ _ | refine blk_drew ?_ | refine blk_alloc ?_ _)); exact BK314.out⟩, ⟨by repeat (first | (with_reducible first | exact HB.out | apply below_alloc | apply pw_below_drewN | apply below_drew1 | refine below_set ?_ GE314.out | refine below_set ?_ GE319.out) | exact HB.out)⟩⟩
    ·rw [if_neg c7] at H
     exact absurd H (by simp)
   ·rw [if_neg c6] at H
    have c6b0 : decide (x6_1 < (l0.length : Int)) = false := decide_eq_false c6
    clear c6
    obtain rfl := Option.some.inj H
    go_wp2
    go_ret
    exact ⟨_, by first | rfl | (simp [errW_none, errW_some] <;> rfl) | (simp [*, errW_none, errW_some] <;> rfl), by (with_reducible repeat (first | apply Kd.R_alloc | apply Kd.R_drewN | apply Kd.R_drew)); exact Kd.R_mono HO_5.out (fun _ hk => trivial), by repeat (first | (with_reducible first | exact HB.out | apply below_alloc | apply pw_below_drewN | apply below_drew1 | refine below_set ?_ GE314.out) | exact HB.out)⟩

/-! ### dominoref03_Meet: function 26 -/
mutual
def dominoref03_Meet.l0 : Nat → List (S42) → List (S42) → List (S42) → Int → Option ((List (S42)))
 | 0, _, _, _, _ => none
 | k + 1, x0, x1, x5, x6 => if x6 < (x0.length : Int) then (dominoref03_Meet.l1 k x0 x1 x5 x6 0) else (some x5)
def dominoref03_Meet.l1 : Nat → List (S42) → List (S42) → List (S42) → Int → Int → Option ((List (S42)))
 | 0, _, _, _, _, _ => none
 | k + 1, x0, x1, x5, x6, x7 => if x7 < (x1.length : Int) then (if 0 ≤ x6 then (if x6 < (x0.length : Int) then (if 0 ≤ x7 then (if (mx ((rd_T42 x0 x6).f0) ((rd_T42 x1 x7).f0)) ≤ (mn ((rd_T42 x0 x6).f1) ((rd_T42 x1 x7).f1)) then ((dominoref03_Add.f k x5 (mx ((rd_T42 x0 x6).f0) ((rd_T42 x1 x7).f0)) (mn ((rd_T42 x0 x6).f1) ((rd_T42 x1 x7).f1))).bind fun t339 => (dominoref03_Meet.l1 k x0 x1 t339 x6 (wrap64 (x7 + 1)))) else (dominoref03_Meet.l1 k x0 x1 x5 x6 (wrap64 (x7 + 1)))) else (none)) else (none)) else (none)) else (dominoref03_Meet.l0 k x0 x1 x5 (wrap64 (x6 + 1)))
end
def dominoref03_Meet.f (k : Nat) (l0 : List (S42)) (l1 : List (S42)) : Option ((List (S42))) := dominoref03_Meet.l0 k l0 l1 (([] : List (S42))) 0
theorem dominoref03_Meet.mono_l : ∀ k, (∀ y0 y1 y2 y3, LeO (dominoref03_Meet.l0 k y0 y1 y2 y3) (dominoref03_Meet.l0 (k + 1) y0 y1 y2 y3)) ∧ (∀ y0 y1 y2 y3 y4, LeO (dominoref03_Meet.l1 k y0 y1 y2 y3 y4) (dominoref03_Meet.l1 (k + 1) y0 y1 y2 y3 y4))
 | 0 => ⟨fun _ _ _ _ r h => by simp [dominoref03_Meet.l0] at h, fun _ _ _ _ _ r h => by simp [dominoref03_Meet.l1] at h⟩
 | k + 1 => by
  obtain ⟨ih0, ih1⟩ := dominoref03_Meet.mono_l k
  refine ⟨?_, ?_⟩
  ·intro y0 y1 y2 y3
   unfold dominoref03_Meet.l0
   repeat' first
   | (with_reducible exact ih0 _ _ _ _)
   | (with_reducible exact ih1 _ _ _ _ _)
   | (with_reducible exact dominoref03_Add.mono _ _ _ _)
   | (with_reducible exact LeO.refl _)
   | (with_reducible exact LeO.none _)
   | (with_reducible refine LeO.ite ?_ ?_)
   | (with_reducible refine LeO.bind ?_ (fun _ => ?_))
   | exact ih0 _ _ _ _
   | exact ih1 _ _ _ _ _
   | exact dominoref03_Add.mono _ _ _ _
   | exact LeO.none _
   | refine LeO.ite ?_ ?_
   | refine LeO.bind ?_ (fun _ => ?_)
  ·intro y0 y1 y2 y3 y4
   unfold dominoref03_Meet.l1
   repeat' first
   | (with_reducible exact ih0 _ _ _ _)
   | (with_reducible exact ih1 _ _ _ _ _)
   | (with_reducible exact dominoref03_Add.mono _ _ _ _)
   | (with_reducible exact LeO.refl _)
   | (with_reducible exact LeO.none _)
   | (with_reducible refine LeO.ite ?_ ?_)
   | (with_reducible refine LeO.bind ?_ (fun _ => ?_))
   | exact ih0 _ _ _ _
   | exact ih1 _ _ _ _ _
   | exact dominoref03_Add.mono _ _ _ _
   | exact LeO.none _
   | refine LeO.ite ?_ ?_
   | refine LeO.bind ?_ (fun _ => ?_)
theorem dominoref03_Meet.mono : ∀ a0 a1 k, LeO (dominoref03_Meet.f k a0 a1) (dominoref03_Meet.f (k + 1) a0 a1) := by
 intro a0 a1 k
 obtain ⟨ih0, ih1⟩ := dominoref03_Meet.mono_l k
 unfold dominoref03_Meet.f
 repeat' first
   | (with_reducible exact ih0 _ _ _ _)
   | (with_reducible exact ih1 _ _ _ _ _)
   | (with_reducible exact dominoref03_Add.mono _ _ _ _)
   | (with_reducible exact LeO.refl _)
   | (with_reducible exact LeO.none _)
   | (with_reducible refine LeO.ite ?_ ?_)
   | (with_reducible refine LeO.bind ?_ (fun _ => ?_))
   | exact ih0 _ _ _ _
   | exact ih1 _ _ _ _ _
   | exact dominoref03_Add.mono _ _ _ _
   | exact LeO.none _
   | refine LeO.ite ?_ ?_
   | refine LeO.bind ?_ (fun _ => ?_)
set_option maxHeartbeats 8000000 in
set_option maxRecDepth 100000 in
theorem dominoref03_Meet.calls (k : Nat) (A0 : Option Addr) (c0 : Nat) (l0 : List (S42)) (A1 : Option Addr) (c1 : Nat) (l1 : List (S42)) (r : List (S42)) (w : World) (hr0 : Kd.C k42 w A0 l0.length l0) (hc0 : l0.length ≤ c0) (hr1 : Kd.C k42 w A1 l1.length l1) (hc1 : l1.length ≤ c1) (h : dominoref03_Meet.f k l0 l1 = some r) :
  Calls Try.prog 26 #[.slice A0 l0.length c0, .slice A1 l1.length c1] w fun e w' => ∃ v0_ : Value, e = .returned (v0_) ∧ Kd.R k42 42 w' w.heap.size (fun _ => True) v0_ r ∧ Below w.heap.size w w' := by
 have hu42 := Try.underlying42
 have HR0 := Aside0.mk hr0
 have HC0 := Aside0.mk hc0
 clear hr0 hc0
 have HR1 := Aside0.mk hr1
 have HC1 := Aside0.mk hc1
 clear hr1 hc1
 have HB := Aside0.mk (Below.refl w.heap.size w)
 have H : (dominoref03_Meet.l0 k l0 l1 (([] : List (S42))) 0) = some r := h
 clear h
 obtain ⟨y332, hy332⟩ : ∃ y_ : List (S42), y_ = (([] : List (S42))) := ⟨_, rfl⟩
 replace H : (dominoref03_Meet.l0 k l0 l1 y332 0) = some r := by first | (rw [hy332]; with_reducible exact H) | (have H2_ := (Option.bind_some _ _).symm.trans H; rw [hy332]; with_reducible exact H2_) | (have H2_ := (Option.bind_some _ _).symm.trans H; with_reducible exact H2_) | with_reducible exact H | (rw [hy332]; exact H) | exact H
 have Ny332 := Aside0.mk hy332
 clear hy332
 have H' := Aside0.mk H
 clear H
 go_enter Try.func26, Try.ntmps26
 go_wp2_with (first | ((with_reducible refine gate_dst (N := 10) rfl ?_); refine Kd.R_lit k42 _ 42 ?hg (N := 10) ?hd (xs := ([] : List (S42))) (inner := []) (ok := fun _ => True) (okp := fun _ => True) ?hr ?hp (fun _ hk => hk) trivial (Below.refl _ _) (Nat.le_refl _) (by simp) ?_; (case hd => rfl); (case hg => rfl); (case hr => first | (go_simp; done) | (go_simp; rfl)); (case hp => exact (Reps.none _ _)); intro v333 w3 ho4 hb hg_ hnew_; clear hg_ hnew_; (first | rw [← Ny332.out] at ho4 | (simp only [Int.reduceToNat] at ho4; rw [← Ny332.out] at ho4)); have n0_ := Aside0.mk (Kd.R_lower ho4 (below_size (by repeat (first | (with_reducible first | exact HB.out | apply below_alloc | apply pw_below_drewN | apply below_drew1) | exact HB.out)))); have n1_ := Aside0.mk (below_step (by repeat (first | (with_reducible first | exact HB.out | apply below_alloc | apply pw_below_drewN | apply below_drew1) | exact HB.out)) hb); clear HB; have HO334 := n0_; have HB := n1_; clear n0_ n1_; clear hb ho4))
 repeat (go_quiet (first | ((with_reducible refine gate_dst (N := 10) rfl ?_); refine Kd.R_lit k42 _ 42 ?hg (N := 10) ?hd (xs := ([] : List (S42))) (inner := []) (ok := fun _ => True) (okp := fun _ => True) ?hr ?hp (fun _ hk => hk) trivial (Below.refl _ _) (Nat.le_refl _) (by simp) ?_; (case hd => rfl); (case hg => rfl); (case hr => first | (go_simp; done) | (go_simp; rfl)); (case hp => exact (Reps.none _ _)); intro v333 w3 ho4 hb hg_ hnew_; clear hg_ hnew_; (first | rw [← Ny332.out] at ho4 | (simp only [Int.reduceToNat] at ho4; rw [← Ny332.out] at ho4)); have n0_ := Aside0.mk (Kd.R_lower ho4 (below_size (by repeat (first | (with_reducible first | exact HB.out | apply below_alloc | apply pw_below_drewN | apply below_drew1) | exact HB.out)))); have n1_ := Aside0.mk (below_step (by repeat (first | (with_reducible first | exact HB.out | apply below_alloc | apply pw_below_drewN | apply below_drew1) | exact HB.out)) hb); clear HB; have HO334 := n0_; have HB := n1_; clear n0_ n1_; clear hb ho4)); try go_wp2_with (first | ((with_reducible refine gate_dst (N := 10) rfl ?_); refine Kd.R_lit k42 _ 42 ?hg (N := 10) ?hd (xs := ([] : List (S42))) (inner := []) (ok := fun _ => True) (okp := fun _ => True) ?hr ?hp (fun _ hk => hk) trivial (Below.refl _ _) (Nat.le_refl _) (by simp) ?_; (case hd => rfl); (case hg => rfl); (case hr => first | (go_simp; done) | (go_simp; rfl)); (case hp => exact (Reps.none _ _)); intro v333 w3 ho4 hb hg_ hnew_; clear hg_ hnew_; (first | rw [← Ny332.out] at ho4 | (simp only [Int.reduceToNat] at ho4; rw [← Ny332.out] at ho4)); have n0_ := Aside0.mk (Kd.R_lower ho4 (below_size (by repeat (first | (with_reducible first | exact HB.out | apply below_alloc | apply pw_below_drewN | apply below_drew1) | exact HB.out)))); have n1_ := Aside0.mk (below_step (by repeat (first | (with_reducible first | exact HB.out | apply below_alloc | apply pw_below_drewN | apply below_drew1) | exact HB.out)) hb); clear HB; have HO334 := n0_; have HB := n1_; clear n0_ n1_; clear hb ho4)))
 go_loopg [5, 6] k (fun kq v5 v6 w' => ∃ (x5_1 : List (S42)) (x6_1 : Int), v6 = .int .i64 x6_1 ∧ Aside0 (dominoref03_Meet.l0 kq l0 l1 x5_1 x6_1 = some r) ∧ Aside0 (kq ≤ k) ∧ Aside0 (Kd.R k42 42 w' w.heap.size (fun _ => True) v5 x5_1) ∧ Aside0 (Below w.heap.size w w'))
 case atStart => exact ⟨(y332), (0), (by first | rfl | (simp; done) | (simp [*]; done)), H', ⟨Nat.le_refl _⟩, ⟨by (with_reducible repeat (first | apply Kd.R_alloc | apply Kd.R_drewN | apply Kd.R_drew)); exact HO334.out⟩, ⟨by repeat (first | (with_reducible first | exact HB.out | apply below_alloc | apply pw_below_drewN | apply below_drew1) | exact HB.out)⟩⟩
 case round =>
  clear H'
  try clear c1
  try clear c2
  try clear p2
  obtain ⟨x5_1, x6_1, rfl, HA, HK1, HO_5, HB⟩ := hrel
  cases gk with
  | zero => exact absurd HA.out (by simp [dominoref03_Meet.l0])
  | succ k1 =>
   have H := HA.out
   clear HA
   simp only [dominoref03_Meet.l0] at H
   by_cases c5 : x6_1 < (l0.length : Int)
   ·rw [if_pos c5] at H
    have c5b0 : decide (x6_1 < (l0.length : Int)) = true := decide_eq_true c5
    clear c5
    have H' := Aside0.mk H
    clear H
    go_wp2
    repeat (go_quiet (fail); try go_wp2)
    go_loopg [5, 7] k1 (fun kq v5 v7 w' => ∃ (x5_2 : List (S42)) (x7_2 : Int), v7 = .int .i64 x7_2 ∧ Aside0 (dominoref03_Meet.l1 kq l0 l1 x5_2 x6_1 x7_2 = some r) ∧ Aside0 (kq ≤ k1) ∧ Aside0 (Kd.R k42 42 w' w.heap.size (fun _ => True) v5 x5_2) ∧ Aside0 (Below w.heap.size w w'))
    case atStart => exact ⟨(x5_1), (0), (by first | rfl | (simp; done) | (simp [*]; done)), H', ⟨Nat.le_refl _⟩, ⟨by (with_reducible repeat (first | apply Kd.R_alloc | apply Kd.R_drewN | apply Kd.R_drew)); exact HO_5.out⟩, ⟨by repeat (first | (with_reducible first | exact HB.out | apply below_alloc | apply pw_below_drewN | apply below_drew1) | exact HB.out)⟩⟩
    case round =>
     clear H'
     try clear c1
     try clear c2
     try clear p2
     try clear c5
     try clear c5b0
     try clear p2
     obtain ⟨x5_2, x7_2, rfl, HA, HK2, HO_5, HB⟩ := hrel
     cases gk with
     | zero => exact absurd HA.out (by simp [dominoref03_Meet.l1])
     | succ k2 =>
      have H := HA.out
      clear HA
      simp only [dominoref03_Meet.l1] at H
      by_cases c6 : x7_2 < (l1.length : Int)
      ·rw [if_pos c6] at H
       have c6b0 : decide (x7_2 < (l1.length : Int)) = true := decide_eq_true c6
       clear c6
       by_cases c7 : 0 ≤ x6_1
       ·rw [if_pos c7] at H
        have c7b0 : decide (0 ≤ x6_1) = true := decide_eq_true c7
        clear c7
        by_cases c8 : x6_1 < (l0.length : Int)
        ·rw [if_pos c8] at H
         have c8b0 : decide (x6_1 < (l0.length : Int)) = true := decide_eq_true c8
         clear c8
         by_cases c9 : 0 ≤ x7_2
         ·rw [if_pos c9] at H
          have c9b0 : decide (0 ≤ x7_2) = true := decide_eq_true c9
          clear c9
          obtain ⟨ji10, hji10⟩ : ∃ j_ : Int, (mx ((rd_T42 l0 x6_1).f0) ((rd_T42 l1 x7_2).f0)) = j_ := ⟨_, rfl⟩
          replace H : (if (ji10) ≤ (mn ((rd_T42 l0 x6_1).f1) ((rd_T42 l1 x7_2).f1)) then ((dominoref03_Add.f k2 x5_2 (ji10) (mn ((rd_T42 l0 x6_1).f1) ((rd_T42 l1 x7_2).f1))).bind fun t339 => (dominoref03_Meet.l1 k2 l0 l1 t339 x6_1 (wrap64 (x7_2 + 1)))) else (dominoref03_Meet.l1 k2 l0 l1 x5_2 x6_1 (wrap64 (x7_2 + 1)))) = some r := by first | (rw [hji10] at H; exact H) | (simp only [hji10] at H ⊢; exact H)
          have hji10_ : (if ((rd_T42 l0 x6_1).f0) < ((rd_T42 l1 x7_2).f0) then ((rd_T42 l1 x7_2).f0) else ((rd_T42 l0 x6_1).f0)) = ji10 := hji10
          obtain ⟨ji11, hji11⟩ : ∃ j_ : Int, (mn ((rd_T42 l0 x6_1).f1) ((rd_T42 l1 x7_2).f1)) = j_ := ⟨_, rfl⟩
          replace H : (if (ji10) ≤ (ji11) then ((dominoref03_Add.f k2 x5_2 (ji10) (ji11)).bind fun t339 => (dominoref03_Meet.l1 k2 l0 l1 t339 x6_1 (wrap64 (x7_2 + 1)))) else (dominoref03_Meet.l1 k2 l0 l1 x5_2 x6_1 (wrap64 (x7_2 + 1)))) = some r := by first | (rw [hji11] at H; exact H) | (simp only [hji11] at H ⊢; exact H)
          have hji11_ : (if ((rd_T42 l1 x7_2).f1) < ((rd_T42 l0 x6_1).f1) then ((rd_T42 l1 x7_2).f1) else ((rd_T42 l0 x6_1).f1)) = ji11 := hji11
          by_cases c12 : (ji10) ≤ (ji11)
          ·rw [if_pos c12] at H
           have c12b0 : decide ((ji10) ≤ (ji11)) = true := decide_eq_true c12
           clear c12
           replace H := Option.bind_eq_some_iff.mp H
           obtain ⟨t339, A130, H⟩ := H
           replace H : (dominoref03_Meet.l1 k2 l0 l1 t339 x6_1 (wrap64 (x7_2 + 1))) = some r := H
           have A13 := Aside0.mk A130
           clear A130
           have H' := Aside0.mk H
           clear H
           have p335 : 0 ≤ (x6_1 : Int) := of_decide_eq_true (by first | (with_reducible assumption) | assumption)
           have q335 : x6_1 < (l0.length : Int) := of_decide_eq_true (by first | (with_reducible assumption) | assumption)
           obtain ⟨ad335, e335, hx335_0, hx335_1⟩ := at_T42 HR0.out x6_1 p335 q335
           cases e335
           replace hx335_0 := (HB.out.cell (World.block_lt_of_cell? w _ hx335_0)).trans hx335_0
           replace hx335_1 := (HB.out.cell (World.block_lt_of_cell? w _ hx335_1)).trans hx335_1
           replace p335 := eq_true p335
           replace q335 := eq_true q335
           have p336 : 0 ≤ (x7_2 : Int) := of_decide_eq_true (by first | (with_reducible assumption) | assumption)
           have q336 : x7_2 < (l1.length : Int) := of_decide_eq_true (by first | (with_reducible assumption) | assumption)
           obtain ⟨ad336, e336, hx336_0, hx336_1⟩ := at_T42 HR1.out x7_2 p336 q336
           cases e336
           replace hx336_0 := (HB.out.cell (World.block_lt_of_cell? w _ hx336_0)).trans hx336_0
           replace hx336_1 := (HB.out.cell (World.block_lt_of_cell? w _ hx336_1)).trans hx336_1
           replace p336 := eq_true p336
           replace q336 := eq_true q336
           have p337 : 0 ≤ (x6_1 : Int) := of_decide_eq_true (by first | (with_reducible assumption) | assumption)
           have q337 : x6_1 < (l0.length : Int) := of_decide_eq_true (by first | (with_reducible assumption) | assumption)
           obtain ⟨ad337, e337, hx337_0, hx337_1⟩ := at_T42 HR0.out x6_1 p337 q337
           obtain rfl : ad335 = ad337 := (by injection e337)
           replace hx337_0 := (HB.out.cell (World.block_lt_of_cell? w _ hx337_0)).trans hx337_0
           replace hx337_1 := (HB.out.cell (World.block_lt_of_cell? w _ hx337_1)).trans hx337_1
           replace p337 := eq_true p337
           replace q337 := eq_true q337
           have p338 : 0 ≤ (x7_2 : Int) := of_decide_eq_true (by first | (with_reducible assumption) | assumption)
           have q338 : x7_2 < (l1.length : Int) := of_decide_eq_true (by first | (with_reducible assumption) | assumption)
           obtain ⟨ad338, e338, hx338_0, hx338_1⟩ := at_T42 HR1.out x7_2 p338 q338
           obtain rfl : ad336 = ad338 := (by injection e338)
           replace hx338_0 := (HB.out.cell (World.block_lt_of_cell? w _ hx338_0)).trans hx338_0
           replace hx338_1 := (HB.out.cell (World.block_lt_of_cell? w _ hx338_1)).trans hx338_1
           replace p338 := eq_true p338
           replace q338 := eq_true q338
           obtain ⟨Ao14, co14, eo14⟩ := Kd.R_slice HO_5.out
           subst eo14
           go_wp2_with (first | (go_at_call 24; (with_reducible refine (dominoref03_Add.calls k2 _ _ x5_2 ji10 ji11 t339 _ ?side1 ?side2 A13.out).mono ?_); (case side1 => repeat (first | exact (Kd.R_reads' HO_5.out).2.2 | (with_reducible refine Kd.C_alloc ?_ _) | (with_reducible refine Kd.C_drewN ?_ _) | (with_reducible refine Kd.C_drew ?_))); (case side2 => exact (Kd.R_reads' HO_5.out).2.1); rintro e w15 ⟨v340, rfl, ho0, hb⟩; have n0_ := Aside0.mk (Kd.R_elder' (by (with_reducible repeat (first | apply Kd.R_alloc | apply Kd.R_drewN | apply Kd.R_drew)); exact HO_5.out) (Kd.R_base ho0) hb); have n1_ := Aside0.mk (Kd.R_lower (Kd.R_new' ho0 (Kd.R_lt (by (with_reducible repeat (first | apply Kd.R_alloc | apply Kd.R_drewN | apply Kd.R_drew)); exact HO_5.out))) (below_size (by repeat (first | (with_reducible first | exact HB.out | apply below_alloc | apply pw_below_drewN | apply below_drew1) | exact HB.out)))); have n2_ := Aside0.mk (below_step (by repeat (first | (with_reducible first | exact HB.out | apply below_alloc | apply pw_below_drewN | apply below_drew1) | exact HB.out)) hb); clear HO_5; clear HB; have HO_5 := n0_; have HO341 := n1_; have HB := n2_; clear n0_ n1_ n2_; (try clear hb); (try clear hb2); (try clear hk); (try clear hi); (try clear ho0)))
           repeat (go_quiet (first | (go_at_call 24; (with_reducible refine (dominoref03_Add.calls k2 _ _ x5_2 ji10 ji11 t339 _ ?side1 ?side2 A13.out).mono ?_); (case side1 => repeat (first | exact (Kd.R_reads' HO_5.out).2.2 | (with_reducible refine Kd.C_alloc ?_ _) | (with_reducible refine Kd.C_drewN ?_ _) | (with_reducible refine Kd.C_drew ?_))); (case side2 => exact (Kd.R_reads' HO_5.out).2.1); rintro e w15 ⟨v340, rfl, ho0, hb⟩; have n0_ := Aside0.mk (Kd.R_elder' (by (with_reducible repeat (first | apply Kd.R_alloc | apply Kd.R_drewN | apply Kd.R_drew)); exact HO_5.out) (Kd.R_base ho0) hb); have n1_ := Aside0.mk (Kd.R_lower (Kd.R_new' ho0 (Kd.R_lt (by (with_reducible repeat (first | apply Kd.R_alloc | apply Kd.R_drewN | apply Kd.R_drew)); exact HO_5.out))) (below_size (by repeat (first | (with_reducible first | exact HB.out | apply below_alloc | apply pw_below_drewN | apply below_drew1) | exact HB.out)))); have n2_ := Aside0.mk (below_step (by repeat (first | (with_reducible first | exact HB.out | apply below_alloc | apply pw_below_drewN | apply below_drew1) | exact HB.out)) hb); clear HO_5; clear HB; have HO_5 := n0_; have HO341 := n1_; have HB := n2_; clear n0_ n1_ n2_; (try clear hb); (try clear hb2); (try clear hk); (try clear hi); (try clear ho0))); try go_wp2_with (first | (go_at_call 24; (with_reducible refine (dominoref03_Add.calls k2 _ _ x5_2 ji10 ji11 t339 _ ?side1 ?side2 A13.out).mono ?_); (case side1 => repeat (first | exact (Kd.R_reads' HO_5.out).2.2 | (with_reducible refine Kd.C_alloc ?_ _) | (with_reducible refine Kd.C_drewN ?_ _) | (with_reducible refine Kd.C_drew ?_))); (case side2 => exact (Kd.R_reads' HO_5.out).2.1); rintro e w15 ⟨v340, rfl, ho0, hb⟩; have n0_ := Aside0.mk (Kd.R_elder' (by (with_reducible repeat (first | apply Kd.R_alloc | apply Kd.R_drewN | apply Kd.R_drew)); exact HO_5.out) (Kd.R_base ho0) hb); have n1_ := Aside0.mk (Kd.R_lower (Kd.R_new' ho0 (Kd.R_lt (by (with_reducible repeat (first | apply Kd.R_alloc | apply Kd.R_drewN | apply Kd.R_drew)); exact HO_5.out))) (below_size (by repeat (first | (with_reducible first | exact HB.out | apply below_alloc | apply pw_below_drewN | apply below_drew1) | exact HB.out)))); have n2_ := Aside0.mk (below_step (by repeat (first | (with_reducible first | exact HB.out | apply below_alloc | apply pw_below_drewN | apply below_drew1) | exact HB.out)) hb); clear HO_5; clear HB; have HO_5 := n0_; have HO341 := n1_; have HB := n2_; clear n0_ n1_ n2_; (try clear hb); (try clear hb2); (try clear hk); (try clear hi); (try clear ho0))))
           go_roundg k2
           case measure => have := HK1.out; have := HK2.out; omega
           case rel => exact ⟨(t339), (wrap64 (x7_2 + 1)), (by first | rfl | (simp; done) | (simp [*]; done)), H', ⟨by have := HK1.out; have := HK2.out; omega⟩, ⟨by (with_reducible repeat (first | apply Kd.R_alloc | apply Kd.R_drewN | apply Kd.R_drew)); exact Kd.R_mono HO341.out (fun _ hk => trivial)⟩, ⟨by repeat (first | (with_reducible first | exact HB.out | apply below_alloc | apply pw_below_drewN | apply below_drew1) | exact HB.out)⟩⟩
          ·rw [if_neg c12] at H
           have c12b0 : decide ((ji10) ≤ (ji11)) = false := decide_eq_false c12
           clear c12
           have H' := Aside0.mk H
           clear H
           have p335 : 0 ≤ (x6_1 : Int) := of_decide_eq_true (by first | (with_reducible assumption) | assumption)
           have q335 : x6_1 < (l0.length : Int) := of_decide_eq_true (by first | (with_reducible assumption) | assumption)
           obtain ⟨ad335, e335, hx335_0, hx335_1⟩ := at_T42 HR0.out x6_1 p335 q335
           cases e335
           replace hx335_0 := (HB.out.cell (World.block_lt_of_cell? w _ hx335_0)).trans hx335_0
           replace hx335_1 := (HB.out.cell (World.block_lt_of_cell? w _ hx335_1)).trans hx335_1
           replace p335 := eq_true p335
           replace q335 := eq_true q335
           have p336 : 0 ≤ (x7_2 : Int) := of_decide_eq_true (by first | (with_reducible assumption) | assumption)
           have q336 : x7_2 < (l1.length : Int) := of_decide_eq_true (by first | (with_reducible assumption) | assumption)
           obtain ⟨ad336, e336, hx336_0, hx336_1⟩ := at_T42 HR1.out x7_2 p336 q336
           cases e336
           replace hx336_0 := (HB.out.cell (World.block_lt_of_cell? w _ hx336_0)).trans hx336_0
           replace hx336_1 := (HB.out.cell (World.block_lt_of_cell? w _ hx336_1)).trans hx336_1
           replace p336 := eq_true p336
           replace q336 := eq_true q336
           have p337 : 0 ≤ (x6_1 : Int) := of_decide_eq_true (by first | (with_reducible assumption) | assumption)
           have q337 : x6_1 < (l0.length : Int) := of_decide_eq_true (by first | (with_reducible assumption) | assumption)
           obtain ⟨ad337, e337, hx337_0, hx337_1⟩ := at_T42 HR0.out x6_1 p337 q337
           obtain rfl : ad335 = ad337 := (by injection e337)
           replace hx337_0 := (HB.out.cell (World.block_lt_of_cell? w _ hx337_0)).trans hx337_0
           replace hx337_1 := (HB.out.cell (World.block_lt_of_cell? w _ hx337_1)).trans hx337_1
           replace p337 := eq_true p337
           replace q337 := eq_true q337
           have p338 : 0 ≤ (x7_2 : Int) := of_decide_eq_true (by first | (with_reducible assumption) | assumption)
           have q338 : x7_2 < (l1.length : Int) := of_decide_eq_true (by first | (with_reducible assumption) | assumption)
           obtain ⟨ad338, e338, hx338_0, hx338_1⟩ := at_T42 HR1.out x7_2 p338 q338
           obtain rfl : ad336 = ad338 := (by injection e338)
           replace hx338_0 := (HB.out.cell (World.block_lt_of_cell? w _ hx338_0)).trans hx338_0
           replace hx338_1 := (HB.out.cell (World.block_lt_of_cell? w _ hx338_1)).trans hx338_1
           replace p338 := eq_true p338
           replace q338 := eq_true q338
           go_wp2
           repeat (go_quiet (fail); try go_wp2)
           go_roundg k2
           case measure => have := HK1.out; have := HK2.out; omega
           case rel => exact ⟨(x5_2), (wrap64 (x7_2 + 1)), (by first | rfl | (simp; done) | (simp [*]; done)), H', ⟨by have := HK1.out; have := HK2.out; omega⟩, ⟨by (with_reducible repeat (first | apply Kd.R_alloc | apply Kd.R_drewN | apply Kd.R_drew)); exact HO_5.out⟩, ⟨by repeat (first | (with_reducible first | exact HB.out | apply below_alloc | apply pw_below_drewN | apply below_drew1) | exact HB.out)⟩⟩
         ·rw [if_neg c9] at H
          exact absurd H (by simp)
        ·rw [if_neg c8] at H
         exact absurd H (by simp)
       ·rw [if_neg c7] at H
        exact absurd H (by simp)
      ·rw [if_neg c6] at H
       have c6b0 : decide (x7_2 < (l1.length : Int)) = false := decide_eq_false c6
       clear c6
       have H' := Aside0.mk H
       clear H
       go_wp2
       repeat (go_quiet (fail); try go_wp2)
       go_roundg k2
       case measure => have := HK1.out; have := HK2.out; omega
       case rel => exact ⟨(x5_2), (wrap64 (x6_1 + 1)), (by first | rfl | (simp; done) | (simp [*]; done)), H', ⟨by have := HK1.out; have := HK2.out; omega⟩, ⟨by (with_reducible repeat (first | apply Kd.R_alloc | apply Kd.R_drewN | apply Kd.R_drew)); exact HO_5.out⟩, ⟨by repeat (first | (with_reducible first | exact HB.out | apply below_alloc | apply pw_below_drewN | apply below_drew1) | exact HB.out)⟩⟩
   ·rw [if_neg c5] at H
    have c5b0 : decide (x6_1 < (l0.length : Int)) = false := decide_eq_false c5
    clear c5
    obtain rfl := Option.some.inj H
    go_wp2
    repeat (go_quiet (fail); try go_wp2)
    go_ret
    exact ⟨_, by first | rfl | (simp [errW_none, errW_some] <;> rfl) | (simp [*, errW_none, errW_some] <;> rfl), by (with_reducible repeat (first | apply Kd.R_alloc | apply Kd.R_drewN | apply Kd.R_drew)); exact HO_5.out, by repeat (first | (with_reducible first | exact HB.out | apply below_alloc | apply pw_below_drewN | apply below_drew1) | exact HB.out)⟩

/-! ### dominoref03_Gaps: function 27 -/
def dominoref03_Gaps.l0 : Nat → List (S42) → List (S42) → Int → Option ((List (S42)))
 | 0, _, _, _ => none
 | k + 1, x0, x5, x6 => if x6 < (x0.length : Int) then (if 0 ≤ x6 then ((dominoref03_Cut.f k x5 ((rd_T42 x0 x6).f0) ((rd_T42 x0 x6).f1)).bind fun t350 => (dominoref03_Gaps.l0 k x0 t350 (wrap64 (x6 + 1)))) else (none)) else (some x5)
def dominoref03_Gaps.f (k : Nat) (l0 : List (S42)) (a1_0 : Int) (a1_1 : Int) : Option ((List (S42))) := (dominoref03_Add.f k (([] : List (S42))) a1_0 a1_1).bind fun t346 => (dominoref03_Gaps.l0 k l0 t346 0)
theorem dominoref03_Gaps.mono_l : ∀ k, (∀ y0 y1 y2, LeO (dominoref03_Gaps.l0 k y0 y1 y2) (dominoref03_Gaps.l0 (k + 1) y0 y1 y2))
 | 0 => fun _ _ _ r h => by simp [dominoref03_Gaps.l0] at h
 | k + 1 => by
  have ih0 := dominoref03_Gaps.mono_l k
  ·intro y0 y1 y2
   unfold dominoref03_Gaps.l0
   repeat' first
   | (with_reducible exact ih0 _ _ _)
   | (with_reducible exact dominoref03_Add.mono _ _ _ _)
   | (with_reducible exact dominoref03_Cut.mono _ _ _ _)
   | (with_reducible exact LeO.refl _)
   | (with_reducible exact LeO.none _)
   | (with_reducible refine LeO.ite ?_ ?_)
   | (with_reducible refine LeO.bind ?_ (fun _ => ?_))
   | exact ih0 _ _ _
   | exact dominoref03_Add.mono _ _ _ _
   | exact dominoref03_Cut.mono _ _ _ _
   | exact LeO.none _
   | refine LeO.ite ?_ ?_
   | refine LeO.bind ?_ (fun _ => ?_)
theorem dominoref03_Gaps.mono : ∀ a0 a1 a2 k, LeO (dominoref03_Gaps.f k a0 a1 a2) (dominoref03_Gaps.f (k + 1) a0 a1 a2) := by
 intro a0 a1 a2 k
 have ih0 := dominoref03_Gaps.mono_l k
 unfold dominoref03_Gaps.f
 repeat' first
   | (with_reducible exact ih0 _ _ _)
   | (with_reducible exact dominoref03_Add.mono _ _ _ _)
   | (with_reducible exact dominoref03_Cut.mono _ _ _ _)
   | (with_reducible exact LeO.refl _)
   | (with_reducible exact LeO.none _)
   | (with_reducible refine LeO.ite ?_ ?_)
   | (with_reducible refine LeO.bind ?_ (fun _ => ?_))
   | exact ih0 _ _ _
   | exact dominoref03_Add.mono _ _ _ _
   | exact dominoref03_Cut.mono _ _ _ _
   | exact LeO.none _
   | refine LeO.ite ?_ ?_
   | refine LeO.bind ?_ (fun _ => ?_)
set_option maxHeartbeats 8000000 in
set_option maxRecDepth 100000 in
theorem dominoref03_Gaps.calls (k : Nat) (A0 : Option Addr) (c0 : Nat) (l0 : List (S42)) (a1_0 : Int) (a1_1 : Int) (r : List (S42)) (w : World) (hr0 : Kd.C k42 w A0 l0.length l0) (hc0 : l0.length ≤ c0) (h : dominoref03_Gaps.f k l0 a1_0 a1_1 = some r) :
  Calls Try.prog 27 #[.slice A0 l0.length c0, .agg #[.int .u64 a1_0, .int .u64 a1_1]] w fun e w' => ∃ v0_ : Value, e = .returned (v0_) ∧ Kd.R k42 42 w' w.heap.size (fun _ => True) v0_ r ∧ Below w.heap.size w w' := by
 have hu42 := Try.underlying42
 have HR0 := Aside0.mk hr0
 have HC0 := Aside0.mk hc0
 clear hr0 hc0
 have HB := Aside0.mk (Below.refl w.heap.size w)
 have H : ((dominoref03_Add.f k (([] : List (S42))) a1_0 a1_1).bind fun t346 => (dominoref03_Gaps.l0 k l0 t346 0)) = some r := h
 clear h
 obtain ⟨y343, hy343⟩ : ∃ y_ : List (S42), y_ = (([] : List (S42))) := ⟨_, rfl⟩
 replace H : ((dominoref03_Add.f k y343 a1_0 a1_1).bind fun t346 => (dominoref03_Gaps.l0 k l0 t346 0)) = some r := by first | (rw [hy343]; with_reducible exact H) | (have H2_ := (Option.bind_some _ _).symm.trans H; rw [hy343]; with_reducible exact H2_) | (have H2_ := (Option.bind_some _ _).symm.trans H; with_reducible exact H2_) | with_reducible exact H | (rw [hy343]; exact H) | exact H
 have Ny343 := Aside0.mk hy343
 clear hy343
 replace H := Option.bind_eq_some_iff.mp H
 obtain ⟨t346, A30, H⟩ := H
 replace H : (dominoref03_Gaps.l0 k l0 t346 0) = some r := H
 have A3 := Aside0.mk A30
 clear A30
 have H' := Aside0.mk H
 clear H
 go_enter Try.func27, Try.ntmps27
 go_wp2_with (first | ((with_reducible refine gate_dst (N := 3) rfl ?_); refine box_event ?hg (N := 3) ?hd (cs := #[.int .u64 a1_0, .int .u64 a1_1]) (t := 42) ?hr ?_; (case hd => rfl); (case hg => rfl); (case hr => first | (go_simp; done) | (go_simp; rfl)); intro gb342 hg w4 hbox hb; have n0_ := Aside0.mk (below_step (by repeat (first | (with_reducible first | exact HB.out | apply below_alloc | apply pw_below_drewN | apply below_drew1) | exact HB.out)) hb); have n1_ := Aside0.mk (hbox); have n2_ := Aside0.mk ((by rw [hg]; exact (below_size (by repeat (first | (with_reducible first | exact HB.out | apply below_alloc | apply pw_below_drewN | apply below_drew1) | exact HB.out))) : w.heap.size ≤ gb342)); have n3_ := Aside0.mk ((by rw [hg]; exact (below_size (by repeat (first | (with_reducible first | exact HB.out | apply below_alloc | apply pw_below_drewN | apply below_drew1) | exact HB.out))) : w.heap.size ≤ gb342)); clear HB; have HB := n0_; have BK342 := n1_; have GW342 := n2_; have GE342 := n3_; clear n0_ n1_ n2_ n3_; clear hb hbox hg) | ((with_reducible refine gate_dst (N := 7) rfl ?_); refine Kd.R_lit k42 _ 42 ?hg (N := 7) ?hd (xs := ([] : List (S42))) (inner := []) (ok := fun _ => True) (okp := fun _ => True) ?hr ?hp (fun _ hk => hk) trivial (Below.refl _ _) (Nat.le_refl _) (by simp) ?_; (case hd => rfl); (case hg => rfl); (case hr => first | (go_simp; done) | (go_simp; rfl)); (case hp => exact (Reps.none _ _)); intro v344 w5 ho6 hb hg_ hnew_; clear hg_ hnew_; (first | rw [← Ny343.out] at ho6 | (simp only [Int.reduceToNat] at ho6; rw [← Ny343.out] at ho6)); have n0_ := Aside0.mk (Kd.R_lower (Kd.R_newB ho6 (g := gb342) (o := .cells #[.int .u64 a1_0, .int .u64 a1_1] 42 (0, 0)) (by (with_reducible repeat (first | refine blk_drewN ?_ _ | refine blk_drew ?_ | refine blk_alloc ?_ _)); exact BK342.out)) (below_size (by repeat (first | (with_reducible first | exact HB.out | apply below_alloc | apply pw_below_drewN | apply below_drew1 | refine below_set ?_ GE342.out) | exact HB.out)))); have n1_ := Aside0.mk (blk_below (g := gb342) (o := .cells #[.int .u64 a1_0, .int .u64 a1_1] 42 (0, 0)) (by (with_reducible repeat (first | refine blk_drewN ?_ _ | refine blk_drew ?_ | refine blk_alloc ?_ _)); exact BK342.out) hb); have n2_ := Aside0.mk (below_step (by repeat (first | (with_reducible first | exact HB.out | apply below_alloc | apply pw_below_drewN | apply below_drew1 | refine below_set ?_ GE342.out) | exact HB.out)) hb); clear BK342; clear HB; have HO345 := n0_; have BK342 := n1_; have HB := n2_; clear n0_ n1_ n2_; clear hb ho6; have hcz7_0 : w5.cell? ⟨gb342, 0, none⟩ = some (.int .u64 a1_0) := (blk_cell BK342.out 0).trans rfl; have hcz7_1 : w5.cell? ⟨gb342, 1, none⟩ = some (.int .u64 a1_1) := (blk_cell BK342.out 1).trans rfl; have hfz7_0 := blk_frozen BK342.out 0; have hfz7_1 := blk_frozen BK342.out 1; obtain ⟨Ao8, co8, eo8⟩ := Kd.R_slice HO345.out; subst eo8) | ((with_reducible refine gate_callee (f := 24) rfl ?_); refine goesL_ (some 9) rfl rfl Try.func24 (by kernel_rfl) rfl #[.slice Ao8 y343.length co8, .agg #[.int .u64 a1_0, .int .u64 a1_1]] rfl (by (try simp only [List.map_toArray, List.map_cons, List.map_nil]); first | done | rfl | (simp only [List.length_drop, List.length_take]; rfl)) ?_; (with_reducible refine (dominoref03_Add.calls k _ _ y343 a1_0 a1_1 t346 _ ?side1 ?side2 A3.out).mono ?_); (case side1 => repeat (first | exact (Kd.R_reads' HO345.out).2.2 | (with_reducible refine Kd.C_alloc ?_ _) | (with_reducible refine Kd.C_drewN ?_ _) | (with_reducible refine Kd.C_drew ?_))); (case side2 => exact (Kd.R_reads' HO345.out).2.1); rintro e w9 ⟨v347, rfl, ho0, hb⟩; refine ⟨_, rfl, ?_⟩; have n0_ := Aside0.mk (Kd.R_elder' (by (with_reducible repeat (first | apply Kd.R_alloc | apply Kd.R_drewN | apply Kd.R_drew)); exact HO345.out) (Kd.R_base ho0) hb); have n1_ := Aside0.mk (Kd.R_lower (Kd.R_newB (Kd.R_new' ho0 (Kd.R_lt (by (with_reducible repeat (first | apply Kd.R_alloc | apply Kd.R_drewN | apply Kd.R_drew)); exact HO345.out))) (g := gb342) (o := .cells #[.int .u64 a1_0, .int .u64 a1_1] 42 (0, 0)) (by (with_reducible repeat (first | refine blk_drewN ?_ _ | refine blk_drew ?_ | refine blk_alloc ?_ _)); exact BK342.out)) (below_size (by repeat (first | (with_reducible first | exact HB.out | apply below_alloc | apply pw_below_drewN | apply below_drew1 | refine below_set ?_ GE342.out) | exact HB.out)))); have n2_ := Aside0.mk (blk_below (g := gb342) (o := .cells #[.int .u64 a1_0, .int .u64 a1_1] 42 (0, 0)) (by (with_reducible repeat (first | refine blk_drewN ?_ _ | refine blk_drew ?_ | refine blk_alloc ?_ _)); exact BK342.out) hb); have n3_ := Aside0.mk (below_step (by repeat (first | (with_reducible first | exact HB.out | apply below_alloc | apply pw_below_drewN | apply below_drew1 | refine below_set ?_ GE342.out) | exact HB.out)) hb); clear HO345; clear BK342; clear HB; have HO345 := n0_; have HO348 := n1_; have BK342 := n2_; have HB := n3_; clear n0_ n1_ n2_ n3_; (try clear hb); (try clear hb2); (try clear hk); (try clear hi); (try clear ho0)))
 go_loopg [5, 6] k (fun kq v5 v6 w' => ∃ (x5_1 : List (S42)) (x6_1 : Int), v6 = .int .i64 x6_1 ∧ Aside0 (dominoref03_Gaps.l0 kq l0 x5_1 x6_1 = some r) ∧ Aside0 (kq ≤ k) ∧ Aside0 (Kd.R k42 42 w' w.heap.size (fun k_ => k_ ≠ gb342) v5 x5_1) ∧ Aside0 (w'.heap[gb342]? = some (.cells #[.int .u64 a1_0, .int .u64 a1_1] 42 (0, 0))) ∧ Aside0 (Below w.heap.size w w'))
 case atStart => exact ⟨(t346), (0), (by first | rfl | (simp; done) | (simp [*]; done)), H', ⟨Nat.le_refl _⟩, ⟨by (with_reducible repeat (first | apply Kd.R_alloc | apply Kd.R_drewN | apply Kd.R_drew)); exact Kd.R_mono HO348.out (fun _ hk => hk.2)⟩, ⟨by (with_reducible repeat (first | refine blk_drewN ?_ _ | refine blk_drew ?_ | refine blk_alloc ?_ _)); exact BK342.out⟩, ⟨by repeat (first | (with_reducible first | exact HB.out | apply below_alloc | apply pw_below_drewN | apply below_drew1 | refine below_set ?_ GE342.out) | exact HB.out)⟩⟩
 case round =>
  clear H'
  try clear c2
  try clear p2
  try clear hcz7_0
  try clear hcz7_1
  try clear hfz7_0
  try clear hfz7_1
  obtain ⟨x5_1, x6_1, rfl, HA, HK1, HO_5, BK342, HB⟩ := hrel
  cases gk with
  | zero => exact absurd HA.out (by simp [dominoref03_Gaps.l0])
  | succ k1 =>
   have H := HA.out
   clear HA
   simp only [dominoref03_Gaps.l0] at H
   by_cases c10 : x6_1 < (l0.length : Int)
   ·rw [if_pos c10] at H
    have c10b0 : decide (x6_1 < (l0.length : Int)) = true := decide_eq_true c10
    clear c10
    by_cases c11 : 0 ≤ x6_1
    ·rw [if_pos c11] at H
     have c11b0 : decide (0 ≤ x6_1) = true := decide_eq_true c11
     clear c11
     replace H := Option.bind_eq_some_iff.mp H
     obtain ⟨t350, A120, H⟩ := H
     replace H : (dominoref03_Gaps.l0 k1 l0 t350 (wrap64 (x6_1 + 1))) = some r := H
     have A12 := Aside0.mk A120
     clear A120
     have H' := Aside0.mk H
     clear H
     have p349 : 0 ≤ (x6_1 : Int) := of_decide_eq_true (by first | (with_reducible assumption) | assumption)
     have q349 : x6_1 < (l0.length : Int) := of_decide_eq_true (by first | (with_reducible assumption) | assumption)
     obtain ⟨ad349, e349, hx349_0, hx349_1⟩ := at_T42 HR0.out x6_1 p349 q349
     cases e349
     replace hx349_0 := (HB.out.cell (World.block_lt_of_cell? w _ hx349_0)).trans hx349_0
     replace hx349_1 := (HB.out.cell (World.block_lt_of_cell? w _ hx349_1)).trans hx349_1
     replace p349 := eq_true p349
     replace q349 := eq_true q349
     obtain ⟨Ao13, co13, eo13⟩ := Kd.R_slice HO_5.out
     subst eo13
     go_wp2_with (first | ((with_reducible refine gate_callee (f := 25) rfl ?_); refine goesL_ (some 21) rfl rfl Try.func25 (by kernel_rfl) rfl #[.slice Ao13 x5_1.length co13, .agg #[.int .u64 ((rd_T42 l0 x6_1).f0), .int .u64 ((rd_T42 l0 x6_1).f1)]] rfl (by (try simp only [List.map_toArray, List.map_cons, List.map_nil]); first | done | rfl | (simp only [List.length_drop, List.length_take]; rfl)) ?_; (with_reducible refine (dominoref03_Cut.calls k1 _ _ x5_1 ((rd_T42 l0 x6_1).f0) ((rd_T42 l0 x6_1).f1) t350 _ ?side1 ?side2 A12.out).mono ?_); (case side1 => repeat (first | exact (Kd.R_reads' HO_5.out).2.2 | (with_reducible refine Kd.C_alloc ?_ _) | (with_reducible refine Kd.C_drewN ?_ _) | (with_reducible refine Kd.C_drew ?_))); (case side2 => exact (Kd.R_reads' HO_5.out).2.1); rintro e w14 ⟨v351, rfl, ho0, hb⟩; refine ⟨_, rfl, ?_⟩; have n0_ := Aside0.mk (Kd.R_elder' (by (with_reducible repeat (first | apply Kd.R_alloc | apply Kd.R_drewN | apply Kd.R_drew)); exact HO_5.out) (Kd.R_base ho0) hb); have n1_ := Aside0.mk (Kd.R_lower (Kd.R_newB (Kd.R_new' ho0 (Kd.R_lt (by (with_reducible repeat (first | apply Kd.R_alloc | apply Kd.R_drewN | apply Kd.R_drew)); exact HO_5.out))) (g := gb342) (o := .cells #[.int .u64 a1_0, .int .u64 a1_1] 42 (0, 0)) (by (with_reducible repeat (first | refine blk_drewN ?_ _ | refine blk_drew ?_ | refine blk_alloc ?_ _)); exact BK342.out)) (below_size (by repeat (first | (with_reducible first | exact HB.out | apply below_alloc | apply pw_below_drewN | apply below_drew1 | refine below_set ?_ GE342.out) | exact HB.out)))); have n2_ := Aside0.mk (blk_below (g := gb342) (o := .cells #[.int .u64 a1_0, .int .u64 a1_1] 42 (0, 0)) (by (with_reducible repeat (first | refine blk_drewN ?_ _ | refine blk_drew ?_ | refine blk_alloc ?_ _)); exact BK342.out) hb); have n3_ := Aside0.mk (below_step (by repeat (first | (with_reducible first | exact HB.out | apply below_alloc | apply pw_below_drewN | apply below_drew1 | refine below_set ?_ GE342.out) | exact HB.out)) hb); clear HO_5; clear BK342; clear HB; have HO_5 := n0_; have HO352 := n1_; have BK342 := n2_; have HB := n3_; clear n0_ n1_ n2_ n3_; (try clear hb); (try clear hb2); (try clear hk); (try clear hi); (try clear ho0)))
     go_roundg k1
     case measure => have := HK1.out; omega
     case rel => exact ⟨(t350), (wrap64 (x6_1 + 1)), (by first | rfl | (simp; done) | (simp [*]; done)), H', ⟨by have := HK1.out; omega⟩, ⟨by (with_reducible repeat (first | apply Kd.R_alloc | apply Kd.R_drewN | apply Kd.R_drew)); exact Kd.R_mono HO352.out (fun _ hk => hk.2)⟩, ⟨by (with_reducible repeat (first | refine blk_drewN ?_ _ | refine blk_drew ?_ | refine blk_alloc ?_ _)); exact BK342.out⟩, ⟨by repeat (first | (with_reducible first | exact HB.out | apply below_alloc | apply pw_below_drewN | apply below_drew1 | refine below_set ?_ GE342.out) | exact HB.out)⟩⟩
    ·rw [if_neg c11] at H
     exact absurd H (by simp)
   ·rw [if_neg c10] at H
    have c10b0 : decide (x6_1 < (l0.length : Int)) = false := decide_eq_false c10
    clear c10
    obtain rfl := Option.some.inj H
    go_wp2
    go_ret
    exact ⟨_, by first | rfl | (simp [errW_none, errW_some] <;> rfl) | (simp [*, errW_none, errW_some] <;> rfl), by (with_reducible repeat (first | apply Kd.R_alloc | apply Kd.R_drewN | apply Kd.R_drew)); exact Kd.R_mono HO_5.out (fun _ hk => trivial), by repeat (first | (with_reducible first | exact HB.out | apply below_alloc | apply pw_below_drewN | apply below_drew1 | refine below_set ?_ GE342.out) | exact HB.out)⟩

/-! ### dominoref03_Count: function 29 -/
def dominoref03_Count.l0 : Nat → List (S42) → Int → Int → Option (Int)
 | 0, _, _, _ => none
 | k + 1, x0, x3, x4 => if x4 < (x0.length : Int) then (if 0 ≤ x4 then (dominoref03_Count.l0 k x0 (IntKind.u64.wrap ((IntKind.u64.wrap ((IntKind.u64.wrap (x3 + ((rd_T42 x0 x4).f1))) - ((rd_T42 x0 x4).f0))) + 1)) (wrap64 (x4 + 1))) else (none)) else (some x3)
def dominoref03_Count.f (k : Nat) (l0 : List (S42)) : Option (Int) := dominoref03_Count.l0 k l0 0 0
theorem dominoref03_Count.mono_l : ∀ k, (∀ y0 y1 y2, LeO (dominoref03_Count.l0 k y0 y1 y2) (dominoref03_Count.l0 (k + 1) y0 y1 y2))
 | 0 => fun _ _ _ r h => by simp [dominoref03_Count.l0] at h
 | k + 1 => by
  have ih0 := dominoref03_Count.mono_l k
  ·intro y0 y1 y2
   unfold dominoref03_Count.l0
   repeat' first
   | (with_reducible exact ih0 _ _ _)
   | (with_reducible exact LeO.refl _)
   | (with_reducible exact LeO.none _)
   | (with_reducible refine LeO.ite ?_ ?_)
   | (with_reducible refine LeO.bind ?_ (fun _ => ?_))
   | exact ih0 _ _ _
   | exact LeO.none _
   | refine LeO.ite ?_ ?_
   | refine LeO.bind ?_ (fun _ => ?_)
theorem dominoref03_Count.mono : ∀ a0 k, LeO (dominoref03_Count.f k a0) (dominoref03_Count.f (k + 1) a0) := by
 intro a0 k
 have ih0 := dominoref03_Count.mono_l k
 unfold dominoref03_Count.f
 repeat' first
   | (with_reducible exact ih0 _ _ _)
   | (with_reducible exact LeO.refl _)
   | (with_reducible exact LeO.none _)
   | (with_reducible refine LeO.ite ?_ ?_)
   | (with_reducible refine LeO.bind ?_ (fun _ => ?_))
   | exact ih0 _ _ _
   | exact LeO.none _
   | refine LeO.ite ?_ ?_
   | refine LeO.bind ?_ (fun _ => ?_)
set_option maxHeartbeats 8000000 in
set_option maxRecDepth 100000 in
theorem dominoref03_Count.calls (k : Nat) (A0 : Option Addr) (c0 : Nat) (l0 : List (S42)) (r : Int) (w : World) (hr0 : Kd.C k42 w A0 l0.length l0) (hc0 : l0.length ≤ c0) (h : dominoref03_Count.f k l0 = some r) :
  Calls Try.prog 29 #[.slice A0 l0.length c0] w fun e w' => e = .returned (.int .u64 r) ∧ Drawn0 w w' := by
 have HR0 := Aside0.mk hr0
 have HC0 := Aside0.mk hc0
 clear hr0 hc0
 have H : (dominoref03_Count.l0 k l0 0 0) = some r := h
 clear h
 have H' := Aside0.mk H
 clear H
 go_enter Try.func29, Try.ntmps29
 go_wp2
 repeat (go_quiet (fail); try go_wp2)
 go_loopg [3, 4] k (fun kq v3 v4 w' => ∃ (x3_1 : Int) (x4_1 : Int), v3 = .int .u64 x3_1 ∧ v4 = .int .i64 x4_1 ∧ Aside0 (dominoref03_Count.l0 kq l0 x3_1 x4_1 = some r) ∧ Aside0 (kq ≤ k) ∧ Drawn0 w w')
 case atStart => exact ⟨(0), (0), (by first | rfl | (simp; done) | (simp [*]; done)), (by first | rfl | (simp; done) | (simp [*]; done)), H', ⟨Nat.le_refl _⟩, by repeat (first | exact Drawn0.refl _ | apply Drawn0.step)⟩
 case round =>
  clear H'
  obtain ⟨x3_1, x4_1, rfl, rfl, HA, HK1, ⟨m1, rfl⟩⟩ := hrel
  cases gk with
  | zero => exact absurd HA.out (by simp [dominoref03_Count.l0])
  | succ k1 =>
   have H := HA.out
   clear HA
   simp only [dominoref03_Count.l0] at H
   by_cases c2 : x4_1 < (l0.length : Int)
   ·rw [if_pos c2] at H
    have c2b0 : decide (x4_1 < (l0.length : Int)) = true := decide_eq_true c2
    clear c2
    by_cases c3 : 0 ≤ x4_1
    ·rw [if_pos c3] at H
     have c3b0 : decide (0 ≤ x4_1) = true := decide_eq_true c3
     clear c3
     have H' := Aside0.mk H
     clear H
     have p353 : 0 ≤ (x4_1 : Int) := of_decide_eq_true (by first | (with_reducible assumption) | assumption)
     have q353 : x4_1 < (l0.length : Int) := of_decide_eq_true (by first | (with_reducible assumption) | assumption)
     obtain ⟨ad353, e353, hx353_0, hx353_1⟩ := at_T42 HR0.out x4_1 p353 q353
     cases e353
     replace p353 := eq_true p353
     replace q353 := eq_true q353
     have p354 : 0 ≤ (x4_1 : Int) := of_decide_eq_true (by first | (with_reducible assumption) | assumption)
     have q354 : x4_1 < (l0.length : Int) := of_decide_eq_true (by first | (with_reducible assumption) | assumption)
     obtain ⟨ad354, e354, hx354_0, hx354_1⟩ := at_T42 HR0.out x4_1 p354 q354
     obtain rfl : ad353 = ad354 := (by injection e354)
     replace p354 := eq_true p354
     replace q354 := eq_true q354
     go_wp2
     repeat (go_quiet (fail); try go_wp2)
     go_roundg k1
     case measure => have := HK1.out; omega
     case rel => exact ⟨(IntKind.u64.wrap ((IntKind.u64.wrap ((IntKind.u64.wrap (x3_1 + ((rd_T42 l0 x4_1).f1))) - ((rd_T42 l0 x4_1).f0))) + 1)), (wrap64 (x4_1 + 1)), (by first | rfl | (simp; done) | (simp [*]; done)), (by first | rfl | (simp; done) | (simp [*]; done)), H', ⟨by have := HK1.out; omega⟩, by repeat (first | exact Drawn0.refl _ | apply Drawn0.step)⟩
    ·rw [if_neg c3] at H
     exact absurd H (by simp)
   ·rw [if_neg c2] at H
    have c2b0 : decide (x4_1 < (l0.length : Int)) = false := decide_eq_false c2
    clear c2
    obtain rfl := Option.some.inj H
    go_wp2
    repeat (go_quiet (fail); try go_wp2)
    go_ret
    exact ⟨by first | rfl | (simp; done) | (simp [*]; done), by repeat (first | exact Drawn0.refl _ | apply Drawn0.step)⟩

end Go.Proofs.Ytpjohlcidmnikaa.PRgx
