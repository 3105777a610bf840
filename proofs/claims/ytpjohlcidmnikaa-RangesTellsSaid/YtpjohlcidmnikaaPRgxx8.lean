-- printed for this claim by a program of the claim (wip/tools/pp.py over the kit's print)
import Derived.Test.YtpjohlcidmnikaaPRgxx0
namespace Go.Proofs.Ytpjohlcidmnikaa.PRgx
open Go.RowKit Go.Proofs.YtpjohlcidmnikaaW.PrintWords Go.Proofs.YtpjohlcidmnikaaW.PrintLast Go.Proofs.YtpjohlcidmnikaaW.PrintMore
attribute [local go_sem] max2_int min2_int max_two min_two max_three min_three max_four min_four   -- for this text's walks alone
set_option linter.unusedVariables false
set_option linter.unusedSimpArgs false

attribute [local go_sem] isSome_setCell_
/-! ### dominoref03_Add: function 24 -/
def dominoref03_Add.l0 : Nat → List (S42) → List (S42) → Bool → Int → Int → Int → Option ((List (S42)))
 | 0, _, _, _, _, _, _ => none
 | k + 1, x0, x5, x6, x7, x279000, x279001 => if x7 < (x0.length : Int) then (if 0 ≤ x7 then (if (IntKind.u64.wrap (((rd_T42 x0 x7).f1) + 1)) < x279000 then (if x5.length < 8796093022208 then (dominoref03_Add.l0 k x0 (x5 ++ [(⟨(rd_T42 x0 x7).f0, (rd_T42 x0 x7).f1⟩ : S42)]) x6 (wrap64 (x7 + 1)) x279000 x279001) else (none)) else (if (IntKind.u64.wrap (x279001 + 1)) < ((rd_T42 x0 x7).f0) then (if x6 = true then (if x5.length < 8796093022208 then (dominoref03_Add.l0 k x0 (x5 ++ [(⟨(rd_T42 x0 x7).f0, (rd_T42 x0 x7).f1⟩ : S42)]) x6 (wrap64 (x7 + 1)) x279000 x279001) else (none)) else (if x5.length < 8796093022208 then ((some (x5 ++ [(⟨x279000, x279001⟩ : S42)] : List (S42))).bind fun y299 => (if y299.length < 8796093022208 then (dominoref03_Add.l0 k x0 (y299 ++ [(⟨(rd_T42 x0 x7).f0, (rd_T42 x0 x7).f1⟩ : S42)]) true (wrap64 (x7 + 1)) x279000 x279001) else (none))) else (none))) else (dominoref03_Add.l0 k x0 x5 x6 (wrap64 (x7 + 1)) (mn x279000 ((rd_T42 x0 x7).f0)) (mx x279001 ((rd_T42 x0 x7).f1))))) else (none)) else (if x6 = true then (some x5) else (if x5.length < 8796093022208 then (some (x5 ++ [(⟨x279000, x279001⟩ : S42)])) else (none)))
def dominoref03_Add.f (k : Nat) (l0 : List (S42)) (a1_0 : Int) (a1_1 : Int) : Option ((List (S42))) := if a1_1 < a1_0 then ((some (([] : List (S42)) : List (S42))).bind fun y279 => (if y279.length + l0.length < 8796093022208 then (some (y279 ++ l0)) else (none))) else (dominoref03_Add.l0 k l0 (([] : List (S42))) false 0 a1_0 a1_1)
theorem dominoref03_Add.mono_l : ∀ k, (∀ y0 y1 y2 y3 y4 y5, LeO (dominoref03_Add.l0 k y0 y1 y2 y3 y4 y5) (dominoref03_Add.l0 (k + 1) y0 y1 y2 y3 y4 y5))
 | 0 => fun _ _ _ _ _ _ r h => by simp [dominoref03_Add.l0] at h
 | k + 1 => by
  have ih0 := dominoref03_Add.mono_l k
  ·intro y0 y1 y2 y3 y4 y5
   unfold dominoref03_Add.l0
   repeat' first
   | (with_reducible exact ih0 _ _ _ _ _ _)
   | (with_reducible exact LeO.refl _)
   | (with_reducible exact LeO.none _)
   | (with_reducible refine LeO.ite ?_ ?_)
   | (with_reducible refine LeO.bind ?_ (fun _ => ?_))
   | exact ih0 _ _ _ _ _ _
   | exact LeO.none _
   | refine LeO.ite ?_ ?_
   | refine LeO.bind ?_ (fun _ => ?_)
theorem dominoref03_Add.mono : ∀ a0 a1 a2 k, LeO (dominoref03_Add.f k a0 a1 a2) (dominoref03_Add.f (k + 1) a0 a1 a2) := by
 intro a0 a1 a2 k
 have ih0 := dominoref03_Add.mono_l k
 unfold dominoref03_Add.f
 repeat' first
   | (with_reducible exact ih0 _ _ _ _ _ _)
   | (with_reducible exact LeO.refl _)
   | (with_reducible exact LeO.none _)
   | (with_reducible refine LeO.ite ?_ ?_)
   | (with_reducible refine LeO.bind ?_ (fun _ => ?_))
   | exact ih0 _ _ _ _ _ _
   | exact LeO.none _
   | refine LeO.ite ?_ ?_
   | refine LeO.bind ?_ (fun _ => ?_)
set_option maxHeartbeats 8000000 in
set_option maxRecDepth 100000 in
theorem dominoref03_Add.calls (k : Nat) (A0 : Option Addr) (c0 : Nat) (l0 : List (S42)) (a1_0 : Int) (a1_1 : Int) (r : List (S42)) (w : World) (hr0 : Kd.C k42 w A0 l0.length l0) (hc0 : l0.length ≤ c0) (h : dominoref03_Add.f k l0 a1_0 a1_1 = some r) :
  Calls Try.prog 24 #[.slice A0 l0.length c0, .agg #[.int .u64 a1_0, .int .u64 a1_1]] w fun e w' => ∃ v0_ : Value, e = .returned (v0_) ∧ Kd.R k42 42 w' w.heap.size (fun _ => True) v0_ r ∧ Below w.heap.size w w' := by
 have hu42 := Try.underlying42
 have HR0 := Aside0.mk hr0
 have HC0 := Aside0.mk hc0
 clear hr0 hc0
 have HB := Aside0.mk (Below.refl w.heap.size w)
 have H : (if a1_1 < a1_0 then ((some (([] : List (S42)) : List (S42))).bind fun y279 => (if y279.length + l0.length < 8796093022208 then (some (y279 ++ l0)) else (none))) else (dominoref03_Add.l0 k l0 (([] : List (S42))) false 0 a1_0 a1_1)) = some r := h
 clear h
 by_cases c3 : a1_1 < a1_0
 ·rw [if_pos c3] at H
  have c3b0 : decide (a1_1 < a1_0) = true := decide_eq_true c3
  clear c3
  obtain ⟨y279, hy279⟩ : ∃ y_ : List (S42), y_ = (([] : List (S42))) := ⟨_, rfl⟩
  replace H : (if y279.length + l0.length < 8796093022208 then (some (y279 ++ l0)) else (none)) = some r := by first | (rw [hy279]; with_reducible exact H) | (have H2_ := (Option.bind_some _ _).symm.trans H; rw [hy279]; with_reducible exact H2_) | (have H2_ := (Option.bind_some _ _).symm.trans H; with_reducible exact H2_) | with_reducible exact H | (rw [hy279]; exact H) | exact H
  have Ny279 := Aside0.mk hy279
  clear hy279
  by_cases c4 : y279.length + l0.length < 8796093022208
  ·rw [if_pos c4] at H
   have LMc4 := Aside0.mk c4
   clear c4
   obtain ⟨y282, hy282⟩ : ∃ y_ : List (S42), y_ = (y279 ++ l0) := ⟨_, rfl⟩
   replace H : (some y282) = some r := by first | (rw [hy282]; with_reducible exact H) | (have H2_ := (Option.bind_some _ _).symm.trans H; rw [hy282]; with_reducible exact H2_) | (have H2_ := (Option.bind_some _ _).symm.trans H; with_reducible exact H2_) | with_reducible exact H | (rw [hy282]; exact H) | exact H
   have Ny282 := Aside0.mk hy282
   clear hy282
   obtain rfl := Option.some.inj H
   go_enter Try.func24, Try.ntmps24
   go_wp2_with (first | ((with_reducible refine gate_dst (N := 3) rfl ?_); refine box_event ?hg (N := 3) ?hd (cs := #[.int .u64 a1_0, .int .u64 a1_1]) (t := 42) ?hr ?_; (case hd => rfl); (case hg => rfl); (case hr => first | (go_simp; done) | (go_simp; rfl)); intro gb278 hg w5 hbox hb; have n0_ := Aside0.mk (below_step (by repeat (first | (with_reducible first | exact HB.out | apply below_alloc | apply pw_below_drewN | apply below_drew1) | exact HB.out)) hb); have n1_ := Aside0.mk (hbox); have n2_ := Aside0.mk ((by rw [hg]; exact (below_size (by repeat (first | (with_reducible first | exact HB.out | apply below_alloc | apply pw_below_drewN | apply below_drew1) | exact HB.out))) : w.heap.size ≤ gb278)); have n3_ := Aside0.mk ((by rw [hg]; exact (below_size (by repeat (first | (with_reducible first | exact HB.out | apply below_alloc | apply pw_below_drewN | apply below_drew1) | exact HB.out))) : w.heap.size ≤ gb278)); clear HB; have HB := n0_; have BK278 := n1_; have GW278 := n2_; have GE278 := n3_; clear n0_ n1_ n2_ n3_; clear hb hbox hg; have hcz6_0 : w5.cell? ⟨gb278, 0, none⟩ = some (.int .u64 a1_0) := (blk_cell BK278.out 0).trans rfl; have hcz6_1 : w5.cell? ⟨gb278, 1, none⟩ = some (.int .u64 a1_1) := (blk_cell BK278.out 1).trans rfl; have hfz6_0 := blk_frozen BK278.out 0; have hfz6_1 := blk_frozen BK278.out 1) | ((with_reducible refine gate_dst (N := 14) rfl ?_); refine Kd.R_lit k42 _ 42 ?hg (N := 14) ?hd (xs := ([] : List (S42))) (inner := []) (ok := fun _ => True) (okp := fun _ => True) ?hr ?hp (fun _ hk => hk) trivial (Below.refl _ _) (Nat.le_refl _) (by simp) ?_; (case hd => rfl); (case hg => rfl); (case hr => first | (go_simp; done) | (go_simp; rfl)); (case hp => exact (Reps.none _ _)); intro v280 w7 ho8 hb hg_ hnew_; clear hg_ hnew_; (first | rw [← Ny279.out] at ho8 | (simp only [Int.reduceToNat] at ho8; rw [← Ny279.out] at ho8)); have n0_ := Aside0.mk (Kd.R_lower (Kd.R_newB ho8 (g := gb278) (o := .cells #[.int .u64 a1_0, .int .u64 a1_1] 42 (0, 0)) (by (with_reducible repeat (first | refine blk_drewN ?_ _ | refine blk_drew ?_ | refine blk_alloc ?_ _)); exact BK278.out)) (below_size (by repeat (first | (with_reducible first | exact HB.out | apply below_alloc | apply pw_below_drewN | apply below_drew1 | refine below_set ?_ GE278.out) | exact HB.out)))); have n1_ := Aside0.mk (blk_below (g := gb278) (o := .cells #[.int .u64 a1_0, .int .u64 a1_1] 42 (0, 0)) (by (with_reducible repeat (first | refine blk_drewN ?_ _ | refine blk_drew ?_ | refine blk_alloc ?_ _)); exact BK278.out) hb); have n2_ := Aside0.mk (below_step (by repeat (first | (with_reducible first | exact HB.out | apply below_alloc | apply pw_below_drewN | apply below_drew1 | refine below_set ?_ GE278.out) | exact HB.out)) hb); clear BK278; clear HB; have HO281 := n0_; have BK278 := n1_; have HB := n2_; clear n0_ n1_ n2_; clear hb ho8) | ((with_reducible refine gate_builtin (b := .append) (xs := #[.tmp 14, .tmp 15]) rfl ?_); at_builtin; refine Kd.R_append_rows k42 (w0 := w) w.heap.size rfl (.tmp 14) (.tmp 15) 28 42 (.agg #[(.int .u64 0), (.int .u64 0)]) 16 rfl Try.underlying28 info42 rfl (by decide) (by omega) v280 y279 l0 _ _ _ (fun k_ => k_ ≠ gb278) (fun _ => False) rfl rfl ?aO ?aR (fun _ _ h => h) (fun _ h => h.elim) ?aF ?aB ?aS ?aL ?_; (case aR => repeat (first | exact (Kd.C_below HR0.out HB.out) | (with_reducible refine Kd.C_alloc ?_ _) | (with_reducible refine Kd.C_drewN ?_ _) | (with_reducible refine Kd.C_drew ?_))); (case aB => exact (by repeat (first | (with_reducible first | exact HB.out | apply below_alloc | apply pw_below_drewN | apply below_drew1 | refine below_set ?_ GE278.out) | exact HB.out))); (case aF => exact (fun k_ hk => Kd.freshB (g := gb278) (o := .cells #[.int .u64 a1_0, .int .u64 a1_1] 42 (0, 0)) (by (with_reducible repeat (first | refine blk_drewN ?_ _ | refine blk_drew ?_ | refine blk_alloc ?_ _)); exact BK278.out) k_ hk)); (case aO => exact (by (with_reducible repeat (first | apply Kd.R_alloc | apply Kd.R_drewN | apply Kd.R_drew)); exact Kd.R_mono HO281.out (fun _ hk => hk.2))); (case aS => exact (below_size (by repeat (first | (with_reducible first | exact HB.out | apply below_alloc | apply pw_below_drewN | apply below_drew1 | refine below_set ?_ GE278.out) | exact HB.out)))); (case aL => have := LMc4.out; omega); intro v283 w9 ho hb hg hat; rw [← Ny282.out] at ho; have n0_ := Aside0.mk (blk_grown (g := gb278) (o := .cells #[.int .u64 a1_0, .int .u64 a1_1] 42 (0, 0)) (by (with_reducible repeat (first | refine blk_drewN ?_ _ | refine blk_drew ?_ | refine blk_alloc ?_ _)); exact BK278.out) hg (Kd.R_away HO281.out (fun _ hk => hk.2))); have n1_ := Aside0.mk (hb); have n2_ := Aside0.mk (ho); clear BK278; clear HB; clear HO281; have BK278 := n0_; have HB := n1_; have HO284 := n2_; clear n0_ n1_ n2_; clear ho hb hg hat))
   go_ret
   exact ⟨_, by first | rfl | (simp [errW_none, errW_some] <;> rfl) | (simp [*, errW_none, errW_some] <;> rfl), by (with_reducible repeat (first | apply Kd.R_alloc | apply Kd.R_drewN | apply Kd.R_drew)); exact Kd.R_mono HO284.out (fun _ hk => trivial), by repeat (first | (with_reducible first | exact HB.out | apply below_alloc | apply pw_below_drewN | apply below_drew1 | refine below_set ?_ GE278.out) | exact HB.out)⟩
  ·rw [if_neg c4] at H
   exact absurd H (by simp)
 ·rw [if_neg c3] at H
  have c3b0 : decide (a1_1 < a1_0) = false := decide_eq_false c3
  clear c3
  obtain ⟨y285, hy285⟩ : ∃ y_ : List (S42), y_ = (([] : List (S42))) := ⟨_, rfl⟩
  replace H : (dominoref03_Add.l0 k l0 y285 false 0 a1_0 a1_1) = some r := by first | (rw [hy285]; with_reducible exact H) | (have H2_ := (Option.bind_some _ _).symm.trans H; rw [hy285]; with_reducible exact H2_) | (have H2_ := (Option.bind_some _ _).symm.trans H; with_reducible exact H2_) | with_reducible exact H | (rw [hy285]; exact H) | exact H
  have Ny285 := Aside0.mk hy285
  clear hy285
  have H' := Aside0.mk H
  clear H
  go_enter Try.func24, Try.ntmps24
  go_wp2_with (first | ((with_reducible refine gate_dst (N := 3) rfl ?_); refine box_event ?hg (N := 3) ?hd (cs := #[.int .u64 a1_0, .int .u64 a1_1]) (t := 42) ?hr ?_; (case hd => rfl); (case hg => rfl); (case hr => first | (go_simp; done) | (go_simp; rfl)); intro gb278 hg w10 hbox hb; have n0_ := Aside0.mk (below_step (by repeat (first | (with_reducible first | exact HB.out | apply below_alloc | apply pw_below_drewN | apply below_drew1) | exact HB.out)) hb); have n1_ := Aside0.mk (hbox); have n2_ := Aside0.mk ((by rw [hg]; exact (below_size (by repeat (first | (with_reducible first | exact HB.out | apply below_alloc | apply pw_below_drewN | apply below_drew1) | exact HB.out))) : w.heap.size ≤ gb278)); have n3_ := Aside0.mk ((by rw [hg]; exact (below_size (by repeat (first | (with_reducible first | exact HB.out | apply below_alloc | apply pw_below_drewN | apply below_drew1) | exact HB.out))) : w.heap.size ≤ gb278)); clear HB; have HB := n0_; have BK278 := n1_; have GW278 := n2_; have GE278 := n3_; clear n0_ n1_ n2_ n3_; clear hb hbox hg; have hcz11_0 : w10.cell? ⟨gb278, 0, none⟩ = some (.int .u64 a1_0) := (blk_cell BK278.out 0).trans rfl; have hcz11_1 : w10.cell? ⟨gb278, 1, none⟩ = some (.int .u64 a1_1) := (blk_cell BK278.out 1).trans rfl; have hfz11_0 := blk_frozen BK278.out 0; have hfz11_1 := blk_frozen BK278.out 1) | ((with_reducible refine gate_dst (N := 17) rfl ?_); refine Kd.R_lit k42 _ 42 ?hg (N := 17) ?hd (xs := ([] : List (S42))) (inner := []) (ok := fun _ => True) (okp := fun _ => True) ?hr ?hp (fun _ hk => hk) trivial (Below.refl _ _) (Nat.le_refl _) (by simp) ?_; (case hd => rfl); (case hg => rfl); (case hr => first | (go_simp; done) | (go_simp; rfl)); (case hp => exact (Reps.none _ _)); intro v286 w12 ho13 hb hg_ hnew_; clear hg_ hnew_; (first | rw [← Ny285.out] at ho13 | (simp only [Int.reduceToNat] at ho13; rw [← Ny285.out] at ho13)); have n0_ := Aside0.mk (Kd.R_lower (Kd.R_newB ho13 (g := gb278) (o := .cells #[.int .u64 a1_0, .int .u64 a1_1] 42 (0, 0)) (by (with_reducible repeat (first | refine blk_drewN ?_ _ | refine blk_drew ?_ | refine blk_alloc ?_ _)); exact BK278.out)) (below_size (by repeat (first | (with_reducible first | exact HB.out | apply below_alloc | apply pw_below_drewN | apply below_drew1 | refine below_set ?_ GE278.out) | exact HB.out)))); have n1_ := Aside0.mk (blk_below (g := gb278) (o := .cells #[.int .u64 a1_0, .int .u64 a1_1] 42 (0, 0)) (by (with_reducible repeat (first | refine blk_drewN ?_ _ | refine blk_drew ?_ | refine blk_alloc ?_ _)); exact BK278.out) hb); have n2_ := Aside0.mk (below_step (by repeat (first | (with_reducible first | exact HB.out | apply below_alloc | apply pw_below_drewN | apply below_drew1 | refine below_set ?_ GE278.out) | exact HB.out)) hb); clear BK278; clear HB; have HO287 := n0_; have BK278 := n1_; have HB := n2_; clear n0_ n1_ n2_; clear hb ho13))
  go_loopg [5, 6, 7] k (fun kq v5 v6 v7 w' => ∃ (x5_1 : List (S42)) (x6_1 : Bool) (x7_1 : Int) (x279000_1 : Int) (x279001_1 : Int), v6 = .bool x6_1 ∧ v7 = .int .i64 x7_1 ∧ Aside0 (dominoref03_Add.l0 kq l0 x5_1 x6_1 x7_1 x279000_1 x279001_1 = some r) ∧ Aside0 (kq ≤ k) ∧ Aside0 (Kd.R k42 42 w' w.heap.size (fun k_ => k_ ≠ gb278) v5 x5_1) ∧ Aside0 (w'.heap[gb278]? = some (.cells #[.int .u64 x279000_1, .int .u64 x279001_1] 42 (0, 0))) ∧ Aside0 (Below w.heap.size w w'))
  case atStart => exact ⟨(y285), (false), (0), (a1_0), (a1_1), (by first | rfl | (simp; done) | (simp [*]; done)), (by first | rfl | (simp; done) | (simp [*]; done)), H', ⟨Nat.le_refl _⟩, ⟨by (with_reducible repeat (first | apply Kd.R_alloc | apply Kd.R_drewN | apply Kd.R_drew)); exact Kd.R_mono HO287.out (fun _ hk => hk.2)⟩, ⟨by (with_reducible repeat (first | refine blk_drewN ?_ _ | refine blk_drew ?_ | refine blk_alloc ?_ _)); exact BK278.out⟩, ⟨by repeat (first | (with_reducible first | exact HB.out | apply below_alloc | apply pw_below_drewN | apply below_drew1 | refine below_set ?_ GE278.out) | exact HB.out)⟩⟩
  case round =>
   clear H'
   try clear c2
   try clear p2
   try clear c3
   try clear c3b0
   try clear c4
   try clear hcz11_0
   try clear hcz11_1
   try clear hcz6_0
   try clear hcz6_1
   try clear hfz11_0
   try clear hfz11_1
   try clear hfz6_0
   try clear hfz6_1
   obtain ⟨x5_1, x6_1, x7_1, x279000_1, x279001_1, rfl, rfl, HA, HK1, HO_5, BK278, HB⟩ := hrel
   cases gk with
   | zero => exact absurd HA.out (by simp [dominoref03_Add.l0])
   | succ k1 =>
    have H := HA.out
    clear HA
    simp only [dominoref03_Add.l0] at H
    by_cases c14 : x7_1 < (l0.length : Int)
    ·rw [if_pos c14] at H
     have c14b0 : decide (x7_1 < (l0.length : Int)) = true := decide_eq_true c14
     clear c14
     by_cases c15 : 0 ≤ x7_1
     ·rw [if_pos c15] at H
      have c15b0 : decide (0 ≤ x7_1) = true := decide_eq_true c15
      clear c15
      by_cases c16 : (IntKind.u64.wrap (((rd_T42 l0 x7_1).f1) + 1)) < x279000_1
      ·rw [if_pos c16] at H
       have c16b0 : decide ((IntKind.u64.wrap (((rd_T42 l0 x7_1).f1) + 1)) < x279000_1) = true := decide_eq_true c16
       clear c16
       by_cases c17 : x5_1.length < 8796093022208
       ·rw [if_pos c17] at H
        have LMc17 := Aside0.mk c17
        clear c17
        obtain ⟨y293, hy293⟩ : ∃ y_ : List (S42), y_ = (x5_1 ++ [(⟨(rd_T42 l0 x7_1).f0, (rd_T42 l0 x7_1).f1⟩ : S42)]) := ⟨_, rfl⟩
        replace H : (dominoref03_Add.l0 k1 l0 y293 x6_1 (wrap64 (x7_1 + 1)) x279000_1 x279001_1) = some r := by first | (rw [hy293]; with_reducible exact H) | (have H2_ := (Option.bind_some _ _).symm.trans H; rw [hy293]; with_reducible exact H2_) | (have H2_ := (Option.bind_some _ _).symm.trans H; with_reducible exact H2_) | with_reducible exact H | (rw [hy293]; exact H) | exact H
        have Ny293 := Aside0.mk hy293
        clear hy293
        have H' := Aside0.mk H
        clear H
        have p291 : 0 ≤ (x7_1 : Int) := of_decide_eq_true (by first | (with_reducible assumption) | assumption)
        have q291 : x7_1 < (l0.length : Int) := of_decide_eq_true (by first | (with_reducible assumption) | assumption)
        obtain ⟨ad291, e291, hx291_0, hx291_1⟩ := at_T42 HR0.out x7_1 p291 q291
        cases e291
        replace hx291_0 := (HB.out.cell (World.block_lt_of_cell? w _ hx291_0)).trans hx291_0
        replace hx291_1 := (HB.out.cell (World.block_lt_of_cell? w _ hx291_1)).trans hx291_1
        replace p291 := eq_true p291
        replace q291 := eq_true q291
        go_wp2_with (first | ((with_reducible refine gate_dst (N := 8) rfl ?_); refine box_event ?hg (N := 8) ?hd (cs := #[.int .u64 0, .int .u64 0]) (t := 42) ?hr ?_; (case hd => rfl); (case hg => rfl); (case hr => first | (go_simp; done) | (go_simp; rfl)); intro gb292 hg w18 hbox hb; have n0_ := Aside0.mk (Kd.R_below (Kd.R_elderB (by (with_reducible repeat (first | apply Kd.R_alloc | apply Kd.R_drewN | apply Kd.R_drew)); exact HO_5.out) gb292 (Nat.le_of_eq hg.symm)) hb); have n1_ := Aside0.mk (blk_below (g := gb278) (o := .cells #[.int .u64 x279000_1, .int .u64 x279001_1] 42 (0, 0)) (by (with_reducible repeat (first | refine blk_drewN ?_ _ | refine blk_drew ?_ | refine blk_alloc ?_ _)); exact BK278.out) hb); have n2_ := Aside0.mk (below_step (by repeat (first | (with_reducible first | exact HB.out | apply below_alloc | apply pw_below_drewN | apply below_drew1 | refine below_set ?_ GE278.out) | exact HB.out)) hb); have n3_ := Aside0.mk (hbox); have n4_ := Aside0.mk ((by rw [hg]; exact (below_size (by repeat (first | (with_reducible first | exact HB.out | apply below_alloc | apply pw_below_drewN | apply below_drew1 | refine below_set ?_ GE278.out) | exact HB.out))) : w.heap.size ≤ gb292)); have n5_ := Aside0.mk ((by rw [hg]; exact (below_size (by repeat (first | (with_reducible first | exact HB.out | apply below_alloc | apply pw_below_drewN | apply below_drew1 | refine below_set ?_ GE278.out) | exact HB.out))) : w.heap.size ≤ gb292)); have n6_ := Aside0.mk ((by rw [hg]; exact Nat.ne_of_lt (blk_lt (g := gb278) (o := .cells #[.int .u64 x279000_1, .int .u64 x279001_1] 42 (0, 0)) (by (with_reducible repeat (first | refine blk_drewN ?_ _ | refine blk_drew ?_ | refine blk_alloc ?_ _)); exact BK278.out)) : gb278 ≠ gb292)); have n7_ := Aside0.mk ((by rw [hg]; exact Nat.ne_of_gt (blk_lt (g := gb278) (o := .cells #[.int .u64 x279000_1, .int .u64 x279001_1] 42 (0, 0)) (by (with_reducible repeat (first | refine blk_drewN ?_ _ | refine blk_drew ?_ | refine blk_alloc ?_ _)); exact BK278.out)) : gb292 ≠ gb278)); clear HO_5; clear BK278; clear HB; have HO_5 := n0_; have BK278 := n1_; have HB := n2_; have BK292 := n3_; have GW292 := n4_; have GE292 := n5_; have NB278_292 := n6_; have NB292_278 := n7_; clear n0_ n1_ n2_ n3_ n4_ n5_ n6_ n7_; clear hb hbox hg; have hnb19 := NB292_278.out; have hnc19 := NB278_292.out; have hcz20_0 : w18.cell? ⟨gb292, 0, none⟩ = some (.int .u64 0) := (blk_cell BK292.out 0).trans rfl; have hcz20_1 : w18.cell? ⟨gb292, 1, none⟩ = some (.int .u64 0) := (blk_cell BK292.out 1).trans rfl; have hfz20_0 := blk_frozen BK292.out 0; have hfz20_1 := blk_frozen BK292.out 1; have hcz21_0 : w18.cell? ⟨gb278, 0, none⟩ = some (.int .u64 x279000_1) := (blk_cell BK278.out 0).trans rfl; have hcz21_1 : w18.cell? ⟨gb278, 1, none⟩ = some (.int .u64 x279001_1) := (blk_cell BK278.out 1).trans rfl; have hfz21_0 := blk_frozen BK278.out 0; have hfz21_1 := blk_frozen BK278.out 1) | ((with_reducible refine gate_builtin (b := .append) (xs := #[.tmp 46, .tmp 48]) rfl ?_); at_builtin; refine Kd.R_append k42 (w0 := w) w.heap.size rfl (.tmp 46) (.tmp 48) 28 42 (.agg #[(.int .u64 0), (.int .u64 0)]) 16 rfl Try.underlying28 info42 rfl (by decide) (by omega) u5 x5_1 (⟨(rd_T42 l0 x7_1).f0, (rd_T42 l0 x7_1).f1⟩ : S42) [.int .u64 ((rd_T42 l0 x7_1).f0), .int .u64 ((rd_T42 l0 x7_1).f1)] (fun k_ => k_ ≠ gb278 ∧ k_ ≠ gb292) (fun _ => False) rfl (by first | (go_simp; done) | (go_simp; rfl)) ?aP (fun _ hk => hk.elim) ?aF ?aO ?aB ?aS ?aL ?_; (case aP => exact k42_mkM _ _ _ (⟨(rd_T42 l0 x7_1).f0, (rd_T42 l0 x7_1).f1⟩ : S42)); (case aB => exact (by repeat (first | (with_reducible first | exact HB.out | apply below_alloc | apply pw_below_drewN | apply below_drew1 | refine below_set ?_ GE278.out | refine below_set ?_ GE292.out) | exact HB.out))); (case aF => exact (fun k_ hk => ⟨Kd.freshB (g := gb278) (o := .cells #[.int .u64 x279000_1, .int .u64 x279001_1] 42 (0, 0)) (by (with_reducible repeat (first | refine blk_drewN ?_ _ | refine blk_drew ?_ | refine blk_alloc ?_ _)); refine blk_far ?_ NB278_292.out _; (with_reducible repeat (first | refine blk_drewN ?_ _ | refine blk_drew ?_ | refine blk_alloc ?_ _)); refine blk_far ?_ NB278_292.out _; (with_reducible repeat (first | refine blk_drewN ?_ _ | refine blk_drew ?_ | refine blk_alloc ?_ _)); exact BK278.out) k_ hk, Kd.freshB (g := gb292) (o := .cells #[.int .u64 ((rd_T42 l0 x7_1).f0), .int .u64 ((rd_T42 l0 x7_1).f1)] 42 (0, 0)) (by (with_reducible repeat (first | refine blk_drewN ?_ _ | refine blk_drew ?_ | refine blk_alloc ?_ _)); refine blk_put (cs := #[.int .u64 ((rd_T42 l0 x7_1).f0), .int .u64 0]) ?_ 1 _ rfl; (with_reducible repeat (first | refine blk_drewN ?_ _ | refine blk_drew ?_ | refine blk_alloc ?_ _)); refine blk_put (cs := #[.int .u64 0, .int .u64 0]) ?_ 0 _ rfl; (with_reducible repeat (first | refine blk_drewN ?_ _ | refine blk_drew ?_ | refine blk_alloc ?_ _)); exact BK292.out) k_ hk⟩)); (case aO => exact (by (with_reducible repeat (first | apply Kd.R_alloc | apply Kd.R_drewN | apply Kd.R_drew)); exact Kd.R_mono (Kd.R_far (p := ⟨gb292, 1, none⟩) (Kd.R_far (p := ⟨gb292, 0, none⟩) (Kd.R_mono HO_5.out (fun k_ hk => (⟨hk, hk.2⟩ : _ ∧ k_ ≠ gb292))) (fun _ hk => hk.2) (.int .u64 ((rd_T42 l0 x7_1).f0))) (fun _ hk => hk.2) (.int .u64 ((rd_T42 l0 x7_1).f1))) (fun _ hk => ⟨hk.1.1, hk.1.2⟩))); (case aS => exact (below_size (by repeat (first | (with_reducible first | exact HB.out | apply below_alloc | apply pw_below_drewN | apply below_drew1 | refine below_set ?_ GE278.out | refine below_set ?_ GE292.out) | exact HB.out)))); (case aL => have := LMc17.out; omega); intro v294 w22 ho hb hg hat; rw [← Ny293.out] at ho; have n0_ := Aside0.mk (blk_grown (g := gb278) (o := .cells #[.int .u64 x279000_1, .int .u64 x279001_1] 42 (0, 0)) (by (with_reducible repeat (first | refine blk_drewN ?_ _ | refine blk_drew ?_ | refine blk_alloc ?_ _)); refine blk_far ?_ NB278_292.out _; (with_reducible repeat (first | refine blk_drewN ?_ _ | refine blk_drew ?_ | refine blk_alloc ?_ _)); refine blk_far ?_ NB278_292.out _; (with_reducible repeat (first | refine blk_drewN ?_ _ | refine blk_drew ?_ | refine blk_alloc ?_ _)); exact BK278.out) hg (Kd.R_away HO_5.out (fun _ hk => hk.1))); have n1_ := Aside0.mk (blk_grown (g := gb292) (o := .cells #[.int .u64 ((rd_T42 l0 x7_1).f0), .int .u64 ((rd_T42 l0 x7_1).f1)] 42 (0, 0)) (by (with_reducible repeat (first | refine blk_drewN ?_ _ | refine blk_drew ?_ | refine blk_alloc ?_ _)); refine blk_put (cs := #[.int .u64 ((rd_T42 l0 x7_1).f0), .int .u64 0]) ?_ 1 _ rfl; (with_reducible repeat (first | refine blk_drewN ?_ _ | refine blk_drew ?_ | refine blk_alloc ?_ _)); refine blk_put (cs := #[.int .u64 0, .int .u64 0]) ?_ 0 _ rfl; (with_reducible repeat (first | refine blk_drewN ?_ _ | refine blk_drew ?_ | refine blk_alloc ?_ _)); exact BK292.out) hg (Kd.R_away HO_5.out (fun _ hk => hk.2))); have n2_ := Aside0.mk (hb); have n3_ := Aside0.mk (ho); clear BK278; clear BK292; clear HB; clear HO_5; have BK278 := n0_; have BK292 := n1_; have HB := n2_; have HO295 := n3_; clear n0_ n1_ n2_ n3_; clear ho hb hg hat))
        go_roundg k1
        case measure => have := HK1.out; omega
        case rel => exact ⟨(y293), (x6_1), (wrap64 (x7_1 + 1)), (x279000_1), (x279001_1), (by first | rfl | (simp; done) | (simp [*]; done)), (by first | rfl | (simp; done) | (simp [*]; done)), H', ⟨by have := HK1.out; omega⟩, ⟨by (with_reducible repeat (first | apply Kd.R_alloc | apply Kd.R_drewN | apply Kd.R_drew)); exact Kd.R_mono HO295.out (fun _ hk => hk.1)⟩, ⟨by (with_reducible repeat (first | refine blk_drewN ?_ _ | refine blk_drew ?_ | refine blk_alloc ?_ _)); exact BK278.out⟩, ⟨by repeat (first | (with_reducible first | exact HB.out | apply below_alloc | apply pw_below_drewN | apply below_drew1 | refine below_set ?_ GE278.out | refine below_set ?_ GE292.out) | exact HB.out)⟩⟩
       ·rw [if_neg c17] at H
        exact absurd H (by simp)
      ·rw [if_neg c16] at H
       have c16b0 : decide ((IntKind.u64.wrap (((rd_T42 l0 x7_1).f1) + 1)) < x279000_1) = false := decide_eq_false c16
       clear c16
       by_cases c23 : (IntKind.u64.wrap (x279001_1 + 1)) < ((rd_T42 l0 x7_1).f0)
       ·rw [if_pos c23] at H
        have c23b0 : decide ((IntKind.u64.wrap (x279001_1 + 1)) < ((rd_T42 l0 x7_1).f0)) = true := decide_eq_true c23
        clear c23
        by_cases c24 : x6_1 = true
        ·subst c24
         have H1 : (if x5_1.length < 8796093022208 then (dominoref03_Add.l0 k1 l0 (x5_1 ++ [(⟨(rd_T42 l0 x7_1).f0, (rd_T42 l0 x7_1).f1⟩ : S42)]) true (wrap64 (x7_1 + 1)) x279000_1 x279001_1) else (none)) = some r := by rw [if_pos rfl] at H; exact H
         clear H
         have H := H1
         clear H1
         by_cases c25 : x5_1.length < 8796093022208
         ·rw [if_pos c25] at H
          have LMc25 := Aside0.mk c25
          clear c25
          obtain ⟨y296, hy296⟩ : ∃ y_ : List (S42), y_ = (x5_1 ++ [(⟨(rd_T42 l0 x7_1).f0, (rd_T42 l0 x7_1).f1⟩ : S42)]) := ⟨_, rfl⟩
          replace H : (dominoref03_Add.l0 k1 l0 y296 true (wrap64 (x7_1 + 1)) x279000_1 x279001_1) = some r := by first | (rw [hy296]; with_reducible exact H) | (have H2_ := (Option.bind_some _ _).symm.trans H; rw [hy296]; with_reducible exact H2_) | (have H2_ := (Option.bind_some _ _).symm.trans H; with_reducible exact H2_) | with_reducible exact H | (rw [hy296]; exact H) | exact H
          have Ny296 := Aside0.mk hy296
          clear hy296
          have H' := Aside0.mk H
          clear H
          have p291 : 0 ≤ (x7_1 : Int) := of_decide_eq_true (by first | (with_reducible assumption) | assumption)
          have q291 : x7_1 < (l0.length : Int) := of_decide_eq_true (by first | (with_reducible assumption) | assumption)
          obtain ⟨ad291, e291, hx291_0, hx291_1⟩ := at_T42 HR0.out x7_1 p291 q291
          cases e291
          replace hx291_0 := (HB.out.cell (World.block_lt_of_cell? w _ hx291_0)).trans hx291_0
          replace hx291_1 := (HB.out.cell (World.block_lt_of_cell? w _ hx291_1)).trans hx291_1
          replace p291 := eq_true p291
          replace q291 := eq_true q291
          go_wp2_with (first | ((with_reducible refine gate_dst (N := 8) rfl ?_); refine box_event ?hg (N := 8) ?hd (cs := #[.int .u64 0, .int .u64 0]) (t := 42) ?hr ?_; (case hd => rfl); (case hg => rfl); (case hr => first | (go_simp; done) | (go_simp; rfl)); intro gb292 hg w26 hbox hb; have n0_ := Aside0.mk (Kd.R_below (Kd.R_elderB (by (with_reducible repeat (first | apply Kd.R_alloc | apply Kd.R_drewN | apply Kd.R_drew)); exact HO_5.out) gb292 (Nat.le_of_eq hg.symm)) hb); have n1_ := Aside0.mk (blk_below (g := gb278) (o := .cells #[.int .u64 x279000_1, .int .u64 x279001_1] 42 (0, 0)) (by (with_reducible repeat (first | refine blk_drewN ?_ _ | refine blk_drew ?_ | refine blk_alloc ?_ _)); exact BK278.out) hb); have n2_ := Aside0.mk (below_step (by repeat (first | (with_reducible first | exact HB.out | apply below_alloc | apply pw_below_drewN | apply below_drew1 | refine below_set ?_ GE278.out) | exact HB.out)) hb); have n3_ := Aside0.mk (hbox); have n4_ := Aside0.mk ((by rw [hg]; exact (below_size (by repeat (first | (with_reducible first | exact HB.out | apply below_alloc | apply pw_below_drewN | apply below_drew1 | refine below_set ?_ GE278.out) | exact HB.out))) : w.heap.size ≤ gb292)); have n5_ := Aside0.mk ((by rw [hg]; exact (below_size (by repeat (first | (with_reducible first | exact HB.out | apply below_alloc | apply pw_below_drewN | apply below_drew1 | refine below_set ?_ GE278.out) | exact HB.out))) : w.heap.size ≤ gb292)); have n6_ := Aside0.mk ((by rw [hg]; exact Nat.ne_of_lt (blk_lt (g := gb278) (o := .cells #[.int .u64 x279000_1, .int .u64 x279001_1] 42 (0, 0)) (by (with_reducible repeat (first | refine blk_drewN ?_ _ | refine blk_drew ?_ | refine blk_alloc ?_ _)); exact BK278.out)) : gb278 ≠ gb292)); have n7_ := Aside0.mk ((by rw [hg]; exact Nat.ne_of_gt (blk_lt (g := gb278) (o := .cells #[.int .u64 x279000_1, .int .u64 x279001_1] 42 (0, 0)) (by (with_reducible repeat (first | refine blk_drewN ?_ _ | refine blk_drew ?_ | refine blk_alloc ?_ _)); exact BK278.out)) : gb292 ≠ gb278)); clear HO_5; clear BK278; clear HB; have HO_5 := n0_; have BK278 := n1_; have HB := n2_; have BK292 := n3_; have GW292 := n4_; have GE292 := n5_; have NB278_292 := n6_; have NB292_278 := n7_; clear n0_ n1_ n2_ n3_ n4_ n5_ n6_ n7_; clear hb hbox hg; have hnb27 := NB292_278.out; have hnc27 := NB278_292.out; have hcz28_0 : w26.cell? ⟨gb292, 0, none⟩ = some (.int .u64 0) := (blk_cell BK292.out 0).trans rfl; have hcz28_1 : w26.cell? ⟨gb292, 1, none⟩ = some (.int .u64 0) := (blk_cell BK292.out 1).trans rfl; have hfz28_0 := blk_frozen BK292.out 0; have hfz28_1 := blk_frozen BK292.out 1; have hcz29_0 : w26.cell? ⟨gb278, 0, none⟩ = some (.int .u64 x279000_1) := (blk_cell BK278.out 0).trans rfl; have hcz29_1 : w26.cell? ⟨gb278, 1, none⟩ = some (.int .u64 x279001_1) := (blk_cell BK278.out 1).trans rfl; have hfz29_0 := blk_frozen BK278.out 0; have hfz29_1 := blk_frozen BK278.out 1) | ((with_reducible refine gate_builtin (b := .append) (xs := #[.tmp 63, .tmp 65]) rfl ?_); at_builtin; refine Kd.R_append k42 (w0 := w) w.heap.size rfl (.tmp 63) (.tmp 65) 28 42 (.agg #[(.int .u64 0), (.int .u64 0)]) 16 rfl Try.underlying28 info42 rfl (by decide) (by omega) u5 x5_1 (⟨(rd_T42 l0 x7_1).f0, (rd_T42 l0 x7_1).f1⟩ : S42) [.int .u64 ((rd_T42 l0 x7_1).f0), .int .u64 ((rd_T42 l0 x7_1).f1)] (fun k_ => k_ ≠ gb278 ∧ k_ ≠ gb292) (fun _ => False) rfl (by first | (go_simp; done) | (go_simp; rfl)) ?aP (fun _ hk => hk.elim) ?aF ?aO ?aB ?aS ?aL ?_; (case aP => exact k42_mkM _ _ _ (⟨(rd_T42 l0 x7_1).f0, (rd_T42 l0 x7_1).f1⟩ : S42)); (case aB => exact (by repeat (first | (with_reducible first | exact HB.out | apply below_alloc | apply pw_below_drewN | apply below_drew1 | refine below_set ?_ GE278.out | refine below_set ?_ GE292.out) | exact HB.out))); (case aF => exact (fun k_ hk => ⟨Kd.freshB (g := gb278) (o := .cells #[.int .u64 x279000_1, .int .u64 x279001_1] 42 (0, 0)) (by (with_reducible repeat (first | refine blk_drewN ?_ _ | refine blk_drew ?_ | refine blk_alloc ?_ _)); refine blk_far ?_ NB278_292.out _; (with_reducible repeat (first | refine blk_drewN ?_ _ | refine blk_drew ?_ | refine blk_alloc ?_ _)); refine blk_far ?_ NB278_292.out _; (with_reducible repeat (first | refine blk_drewN ?_ _ | refine blk_drew ?_ | refine blk_alloc ?_ _)); exact BK278.out) k_ hk, Kd.freshB (g := gb292) (o := .cells #[.int .u64 ((rd_T42 l0 x7_1).f0), .int .u64 ((rd_T42 l0 x7_1).f1)] 42 (0, 0)) (by (with_reducible repeat (first | refine blk_drewN ?_ _ | refine blk_drew ?_ | refine blk_alloc ?_ _)); refine blk_put (cs := #[.int .u64 ((rd_T42 l0 x7_1).f0), .int .u64 0]) ?_ 1 _ rfl; (with_reducible repeat (first | refine blk_drewN ?_ _ | refine blk_drew ?_ | refine blk_alloc ?_ _)); refine blk_put (cs := #[.int .u64 0, .int .u64 0]) ?_ 0 _ rfl; (with_reducible repeat (first | refine blk_drewN ?_ _ | refine blk_drew ?_ | refine blk_alloc ?_ _)); exact BK292.out) k_ hk⟩)); (case aO => exact (by (with_reducible repeat (first | apply Kd.R_alloc | apply Kd.R_drewN | apply Kd.R_drew)); exact Kd.R_mono (Kd.R_far (p := ⟨gb292, 1, none⟩) (Kd.R_far (p := ⟨gb292, 0, none⟩) (Kd.R_mono HO_5.out (fun k_ hk => (⟨hk, hk.2⟩ : _ ∧ k_ ≠ gb292))) (fun _ hk => hk.2) (.int .u64 ((rd_T42 l0 x7_1).f0))) (fun _ hk => hk.2) (.int .u64 ((rd_T42 l0 x7_1).f1))) (fun _ hk => ⟨hk.1.1, hk.1.2⟩))); (case aS => exact (below_size (by repeat (first | (with_reducible first | exact HB.out | apply below_alloc | apply pw_below_drewN | apply below_drew1 | refine below_set ?_ GE278.out | refine below_set ?_ GE292.out) | exact HB.out)))); (case aL => have := LMc25.out; omega); intro v297 w30 ho hb hg hat; rw [← Ny296.out] at ho; have n0_ := Aside0.mk (blk_grown (g := gb278) (o := .cells #[.int .u64 x279000_1, .int .u64 x279001_1] 42 (0, 0)) (by (with_reducible repeat (first | refine blk_drewN ?_ _ | refine blk_drew ?_ | refine blk_alloc ?_ _)); refine blk_far ?_ NB278_292.out _; (with_reducible repeat (first | refine blk_drewN ?_ _ | refine blk_drew ?_ | refine blk_alloc ?_ _)); refine blk_far ?_ NB278_292.out _; (with_reducible repeat (first | refine blk_drewN ?_ _ | refine blk_drew ?_ | refine blk_alloc ?_ _)); exact BK278.out) hg (Kd.R_away HO_5.out (fun _ hk => hk.1))); have n1_ := Aside0.mk (blk_grown (g := gb292) (o := .cells #[.int .u64 ((rd_T42 l0 x7_1).f0), .int .u64 ((rd_T42 l0 x7_1).f1)] 42 (0, 0)) (by (with_reducible repeat (first | refine blk_drewN ?_ _ | refine blk_drew ?_ | refine blk_alloc ?_ _)); refine blk_put (cs := #[.int .u64 ((rd_T42 l0 x7_1).f0), .int .u64 0]) ?_ 1 _ rfl; (with_reducible repeat (first | refine blk_drewN ?_ _ | refine blk_drew ?_ | refine blk_alloc ?_ _)); refine blk_put (cs := #[.int .u64 0, .int .u64 0]) ?_ 0 _ rfl; (with_reducible repeat (first | refine blk_drewN ?_ _ | refine blk_drew ?_ | refine blk_alloc ?_ _)); exact BK292.out) hg (Kd.R_away HO_5.out (fun _ hk => hk.2))); have n2_ := Aside0.mk (hb); have n3_ := Aside0.mk (ho); clear BK278; clear BK292; clear HB; clear HO_5; have BK278 := n0_; have BK292 := n1_; have HB := n2_; have HO298 := n3_; clear n0_ n1_ n2_ n3_; clear ho hb hg hat))
          go_roundg k1
          case measure => have := HK1.out; omega
          case rel => exact ⟨(y296), (true), (wrap64 (x7_1 + 1)), (x279000_1), (x279001_1), (by first | rfl | (simp; done) | (simp [*]; done)), (by first | rfl | (simp; done) | (simp [*]; done)), H', ⟨by have := HK1.out; omega⟩, ⟨by (with_reducible repeat (first | apply Kd.R_alloc | apply Kd.R_drewN | apply Kd.R_drew)); exact Kd.R_mono HO298.out (fun _ hk => hk.1)⟩, ⟨by (with_reducible repeat (first | refine blk_drewN ?_ _ | refine blk_drew ?_ | refine blk_alloc ?_ _)); exact BK278.out⟩, ⟨by repeat (first | (with_reducible first | exact HB.out | apply below_alloc | apply pw_below_drewN | apply below_drew1 | refine below_set ?_ GE278.out | refine below_set ?_ GE292.out) | exact HB.out)⟩⟩
         ·rw [if_neg c25] at H
          exact absurd H (by simp)
        ·replace c24 := Bool.eq_false_iff.mpr c24
         subst c24
         have H1 : (if x5_1.length < 8796093022208 then ((some (x5_1 ++ [(⟨x279000_1, x279001_1⟩ : S42)] : List (S42))).bind fun y299 => (if y299.length < 8796093022208 then (dominoref03_Add.l0 k1 l0 (y299 ++ [(⟨(rd_T42 l0 x7_1).f0, (rd_T42 l0 x7_1).f1⟩ : S42)]) true (wrap64 (x7_1 + 1)) x279000_1 x279001_1) else (none))) else (none)) = some r := by rw [if_neg (show ¬ (false = true) by decide)] at H; exact H
         clear H
         have H := H1
         clear H1
         by_cases c31 : x5_1.length < 8796093022208
         ·rw [if_pos c31] at H
          have LMc31 := Aside0.mk c31
          clear c31
          obtain ⟨y299, hy299⟩ : ∃ y_ : List (S42), y_ = (x5_1 ++ [(⟨x279000_1, x279001_1⟩ : S42)]) := ⟨_, rfl⟩
          replace H : (if y299.length < 8796093022208 then (dominoref03_Add.l0 k1 l0 (y299 ++ [(⟨(rd_T42 l0 x7_1).f0, (rd_T42 l0 x7_1).f1⟩ : S42)]) true (wrap64 (x7_1 + 1)) x279000_1 x279001_1) else (none)) = some r := by first | (rw [hy299]; with_reducible exact H) | (have H2_ := (Option.bind_some _ _).symm.trans H; rw [hy299]; with_reducible exact H2_) | (have H2_ := (Option.bind_some _ _).symm.trans H; with_reducible exact H2_) | with_reducible exact H | (rw [hy299]; exact H) | exact H
          have Ny299 := Aside0.mk hy299
          clear hy299
          by_cases c32 : y299.length < 8796093022208
          ·rw [if_pos c32] at H
           have LMc32 := Aside0.mk c32
           clear c32
           obtain ⟨y302, hy302⟩ : ∃ y_ : List (S42), y_ = (y299 ++ [(⟨(rd_T42 l0 x7_1).f0, (rd_T42 l0 x7_1).f1⟩ : S42)]) := ⟨_, rfl⟩
           replace H : (dominoref03_Add.l0 k1 l0 y302 true (wrap64 (x7_1 + 1)) x279000_1 x279001_1) = some r := by first | (rw [hy302]; with_reducible exact H) | (have H2_ := (Option.bind_some _ _).symm.trans H; rw [hy302]; with_reducible exact H2_) | (have H2_ := (Option.bind_some _ _).symm.trans H; with_reducible exact H2_) | with_reducible exact H | (rw [hy302]; exact H) | exact H
           have Ny302 := Aside0.mk hy302
           clear hy302
           have H' := Aside0.mk H
           clear H
           have p291 : 0 ≤ (x7_1 : Int) := of_decide_eq_true (by first | (with_reducible assumption) | assumption)
           have q291 : x7_1 < (l0.length : Int) := of_decide_eq_true (by first | (with_reducible assumption) | assumption)
           obtain ⟨ad291, e291, hx291_0, hx291_1⟩ := at_T42 HR0.out x7_1 p291 q291
           cases e291
           replace hx291_0 := (HB.out.cell (World.block_lt_of_cell? w _ hx291_0)).trans hx291_0
           replace hx291_1 := (HB.out.cell (World.block_lt_of_cell? w _ hx291_1)).trans hx291_1
           replace p291 := eq_true p291
           replace q291 := eq_true q291
           go_wp2_with (first | ((with_reducible refine gate_dst (N := 8) rfl ?_); refine box_event ?hg (N := 8) ?hd (cs := #[.int .u64 0, .int .u64 0]) (t := 42) ?hr ?_; (case hd => rfl); (case hg => rfl); (case hr => first | (go_simp; done) | (go_simp; rfl)); intro gb292 hg w33 hbox hb; have n0_ := Aside0.mk (Kd.R_below (Kd.R_elderB (by (with_reducible repeat (first | apply Kd.R_alloc | apply Kd.R_drewN | apply Kd.R_drew)); exact HO_5.out) gb292 (Nat.le_of_eq hg.symm)) hb); have n1_ := Aside0.mk (blk_below (g := gb278) (o := .cells #[.int .u64 x279000_1, .int .u64 x279001_1] 42 (0, 0)) (by (with_reducible repeat (first | refine blk_drewN ?_ _ | refine blk_drew ?_ | refine blk_alloc ?_ _)); exact BK278.out) hb); have n2_ := Aside0.mk (below_step (by repeat (first | (with_reducible first | exact HB.out | apply below_alloc | apply pw_below_drewN | apply below_drew1 | refine below_set ?_ GE278.out) | exact HB.out)) hb); have n3_ := Aside0.mk (hbox); have n4_ := Aside0.mk ((by rw [hg]; exact (below_size (by repeat (first | (with_reducible first | exact HB.out | apply below_alloc | apply pw_below_drewN | apply below_drew1 | refine below_set ?_ GE278.out) | exact HB.out))) : w.heap.size ≤ gb292)); have n5_ := Aside0.mk ((by rw [hg]; exact (below_size (by repeat (first | (with_reducible first | exact HB.out | apply below_alloc | apply pw_below_drewN | apply below_drew1 | refine below_set ?_ GE278.out) | exact HB.out))) : w.heap.size ≤ gb292)); have n6_ := Aside0.mk ((by rw [hg]; exact Nat.ne_of_lt (blk_lt (g := gb278) (o := .cells #[.int .u64 x279000_1, .int .u64 x279001_1] 42 (0, 0)) (by (with_reducible repeat (first | refine blk_drewN ?_ _ | refine blk_drew ?_ | refine blk_alloc ?_ _)); exact BK278.out)) : gb278 ≠ gb292)); have n7_ := Aside0.mk ((by rw [hg]; exact Nat.ne_of_gt (blk_lt (g := gb278) (o := .cells #[.int .u64 x279000_1, .int .u64 x279001_1] 42 (0, 0)) (by (with_reducible repeat (first | refine blk_drewN ?_ _ | refine blk_drew ?_ | refine blk_alloc ?_ _)); exact BK278.out)) : gb292 ≠ gb278)); clear HO_5; clear BK278; clear HB; have HO_5 := n0_; have BK278 := n1_; have HB := n2_; have BK292 := n3_; have GW292 := n4_; have GE292 := n5_; have NB278_292 := n6_; have NB292_278 := n7_; clear n0_ n1_ n2_ n3_ n4_ n5_ n6_ n7_; clear hb hbox hg; have hnb34 := NB292_278.out; have hnc34 := NB278_292.out; have hcz35_0 : w33.cell? ⟨gb292, 0, none⟩ = some (.int .u64 0) := (blk_cell BK292.out 0).trans rfl; have hcz35_1 : w33.cell? ⟨gb292, 1, none⟩ = some (.int .u64 0) := (blk_cell BK292.out 1).trans rfl; have hfz35_0 := blk_frozen BK292.out 0; have hfz35_1 := blk_frozen BK292.out 1; have hcz36_0 : w33.cell? ⟨gb278, 0, none⟩ = some (.int .u64 x279000_1) := (blk_cell BK278.out 0).trans rfl; have hcz36_1 : w33.cell? ⟨gb278, 1, none⟩ = some (.int .u64 x279001_1) := (blk_cell BK278.out 1).trans rfl; have hfz36_0 := blk_frozen BK278.out 0; have hfz36_1 := blk_frozen BK278.out 1) | ((with_reducible refine gate_builtin (b := .append) (xs := #[.tmp 59, .tmp 61]) rfl ?_); at_builtin; refine Kd.R_append k42 (w0 := w) w.heap.size rfl (.tmp 59) (.tmp 61) 28 42 (.agg #[(.int .u64 0), (.int .u64 0)]) 16 rfl Try.underlying28 info42 rfl (by decide) (by omega) u5 x5_1 (⟨x279000_1, x279001_1⟩ : S42) [.int .u64 x279000_1, .int .u64 x279001_1] (fun k_ => k_ ≠ gb278 ∧ k_ ≠ gb292) (fun _ => False) rfl (by first | (go_simp; done) | (go_simp; rfl)) ?aP (fun _ hk => hk.elim) ?aF ?aO ?aB ?aS ?aL ?_; (case aP => exact k42_mkM _ _ _ (⟨x279000_1, x279001_1⟩ : S42)); (case aB => exact (by repeat (first | (with_reducible first | exact HB.out | apply below_alloc | apply pw_below_drewN | apply below_drew1 | refine below_set ?_ GE278.out | refine below_set ?_ GE292.out) | exact HB.out))); (case aF => exact (fun k_ hk => ⟨Kd.freshB (g := gb278) (o := .cells #[.int .u64 x279000_1, .int .u64 x279001_1] 42 (0, 0)) (by (with_reducible repeat (first | refine blk_drewN ?_ _ | refine blk_drew ?_ | refine blk_alloc ?_ _)); refine blk_far ?_ NB278_292.out _; (with_reducible repeat (first | refine blk_drewN ?_ _ | refine blk_drew ?_ | refine blk_alloc ?_ _)); refine blk_far ?_ NB278_292.out _; (with_reducible repeat (first | refine blk_drewN ?_ _ | refine blk_drew ?_ | refine blk_alloc ?_ _)); exact BK278.out) k_ hk, Kd.freshB (g := gb292) (o := .cells #[.int .u64 ((rd_T42 l0 x7_1).f0), .int .u64 ((rd_T42 l0 x7_1).f1)] 42 (0, 0)) (by (with_reducible repeat (first | refine blk_drewN ?_ _ | refine blk_drew ?_ | refine blk_alloc ?_ _)); refine blk_put (cs := #[.int .u64 ((rd_T42 l0 x7_1).f0), .int .u64 0]) ?_ 1 _ rfl; (with_reducible repeat (first | refine blk_drewN ?_ _ | refine blk_drew ?_ | refine blk_alloc ?_ _)); refine blk_put (cs := #[.int .u64 0, .int .u64 0]) ?_ 0 _ rfl; (with_reducible repeat (first | refine blk_drewN ?_ _ | refine blk_drew ?_ | refine blk_alloc ?_ _)); exact BK292.out) k_ hk⟩)); (case aO => exact (by (with_reducible repeat (first | apply Kd.R_alloc | apply Kd.R_drewN | apply Kd.R_drew)); exact Kd.R_mono (Kd.R_far (p := ⟨gb292, 1, none⟩) (Kd.R_far (p := ⟨gb292, 0, none⟩) (Kd.R_mono HO_5.out (fun k_ hk => (⟨hk, hk.2⟩ : _ ∧ k_ ≠ gb292))) (fun _ hk => hk.2) (.int .u64 ((rd_T42 l0 x7_1).f0))) (fun _ hk => hk.2) (.int .u64 ((rd_T42 l0 x7_1).f1))) (fun _ hk => ⟨hk.1.1, hk.1.2⟩))); (case aS => exact (below_size (by repeat (first | (with_reducible first | exact HB.out | apply below_alloc | apply pw_below_drewN | apply below_drew1 | refine below_set ?_ GE278.out | refine below_set ?_ GE292.out) | exact HB.out)))); (case aL => have := LMc31.out; omega); intro v300 w37 ho hb hg hat; rw [← Ny299.out] at ho; have n0_ := Aside0.mk (blk_grown (g := gb278) (o := .cells #[.int .u64 x279000_1, .int .u64 x279001_1] 42 (0, 0)) (by (with_reducible repeat (first | refine blk_drewN ?_ _ | refine blk_drew ?_ | refine blk_alloc ?_ _)); refine blk_far ?_ NB278_292.out _; (with_reducible repeat (first | refine blk_drewN ?_ _ | refine blk_drew ?_ | refine blk_alloc ?_ _)); refine blk_far ?_ NB278_292.out _; (with_reducible repeat (first | refine blk_drewN ?_ _ | refine blk_drew ?_ | refine blk_alloc ?_ _)); exact BK278.out) hg (Kd.R_away HO_5.out (fun _ hk => hk.1))); have n1_ := Aside0.mk (blk_grown (g := gb292) (o := .cells #[.int .u64 ((rd_T42 l0 x7_1).f0), .int .u64 ((rd_T42 l0 x7_1).f1)] 42 (0, 0)) (by (with_reducible repeat (first | refine blk_drewN ?_ _ | refine blk_drew ?_ | refine blk_alloc ?_ _)); refine blk_put (cs := #[.int .u64 ((rd_T42 l0 x7_1).f0), .int .u64 0]) ?_ 1 _ rfl; (with_reducible repeat (first | refine blk_drewN ?_ _ | refine blk_drew ?_ | refine blk_alloc ?_ _)); refine blk_put (cs := #[.int .u64 0, .int .u64 0]) ?_ 0 _ rfl; (with_reducible repeat (first | refine blk_drewN ?_ _ | refine blk_drew ?_ | refine blk_alloc ?_ _)); exact BK292.out) hg (Kd.R_away HO_5.out (fun _ hk => hk.2))); have n2_ := Aside0.mk (hb); have n3_ := Aside0.mk (ho); clear BK278; clear BK292; clear HB; clear HO_5; have BK278 := n0_; have BK292 := n1_; have HB := n2_; have HO301 := n3_; clear n0_ n1_ n2_ n3_; clear ho hb hg hat; have hcz38_0 : w37.cell? ⟨gb292, 0, none⟩ = some (.int .u64 ((rd_T42 l0 x7_1).f0)) := (blk_cell BK292.out 0).trans rfl; have hcz38_1 : w37.cell? ⟨gb292, 1, none⟩ = some (.int .u64 ((rd_T42 l0 x7_1).f1)) := (blk_cell BK292.out 1).trans rfl; have hfz38_0 := blk_frozen BK292.out 0; have hfz38_1 := blk_frozen BK292.out 1) | ((with_reducible refine gate_builtin (b := .append) (xs := #[.tmp 63, .tmp 65]) rfl ?_); at_builtin; refine Kd.R_append k42 (w0 := w) w.heap.size rfl (.tmp 63) (.tmp 65) 28 42 (.agg #[(.int .u64 0), (.int .u64 0)]) 16 rfl Try.underlying28 info42 rfl (by decide) (by omega) v300 y299 (⟨(rd_T42 l0 x7_1).f0, (rd_T42 l0 x7_1).f1⟩ : S42) [.int .u64 ((rd_T42 l0 x7_1).f0), .int .u64 ((rd_T42 l0 x7_1).f1)] (fun k_ => k_ ≠ gb278 ∧ k_ ≠ gb292) (fun _ => False) rfl rfl ?aP (fun _ hk => hk.elim) ?aF ?aO ?aB ?aS ?aL ?_; (case aP => exact k42_mkM _ _ _ (⟨(rd_T42 l0 x7_1).f0, (rd_T42 l0 x7_1).f1⟩ : S42)); (case aB => exact (by repeat (first | (with_reducible first | exact HB.out | apply below_alloc | apply pw_below_drewN | apply below_drew1 | refine below_set ?_ GE278.out | refine below_set ?_ GE292.out) | exact HB.out))); (case aF => exact (fun k_ hk => ⟨Kd.freshB (g := gb278) (o := .cells #[.int .u64 x279000_1, .int .u64 x279001_1] 42 (0, 0)) (by (with_reducible repeat (first | refine blk_drewN ?_ _ | refine blk_drew ?_ | refine blk_alloc ?_ _)); exact BK278.out) k_ hk, Kd.freshB (g := gb292) (o := .cells #[.int .u64 ((rd_T42 l0 x7_1).f0), .int .u64 ((rd_T42 l0 x7_1).f1)] 42 (0, 0)) (by (with_reducible repeat (first | refine blk_drewN ?_ _ | refine blk_drew ?_ | refine blk_alloc ?_ _)); exact BK292.out) k_ hk⟩)); (case aO => exact (by (with_reducible repeat (first | apply Kd.R_alloc | apply Kd.R_drewN | apply Kd.R_drew)); exact HO301.out)); (case aS => exact (below_size (by repeat (first | (with_reducible first | exact HB.out | apply below_alloc | apply pw_below_drewN | apply below_drew1 | refine below_set ?_ GE278.out | refine below_set ?_ GE292.out) | exact HB.out)))); (case aL => have := LMc32.out; omega); intro v303 w39 ho hb hg hat; rw [← Ny302.out] at ho; have n0_ := Aside0.mk (blk_grown (g := gb278) (o := .cells #[.int .u64 x279000_1, .int .u64 x279001_1] 42 (0, 0)) (by (with_reducible repeat (first | refine blk_drewN ?_ _ | refine blk_drew ?_ | refine blk_alloc ?_ _)); exact BK278.out) hg (Kd.R_away HO301.out (fun _ hk => hk.1))); have n1_ := Aside0.mk (blk_grown (g := gb292) (o := .cells #[.int .u64 ((rd_T42 l0 x7_1).f0), .int .u64 ((rd_T42 l0 x7_1).f1)] 42 (0, 0)) (by (with_reducible repeat (first | refine blk_drewN ?_ _ | refine blk_drew ?_ | refine blk_alloc ?_ _)); exact BK292.out) hg (Kd.R_away HO301.out (fun _ hk => hk.2))); have n2_ := Aside0.mk (hb); have n3_ := Aside0.mk (ho); clear BK278; clear BK292; clear HB; clear HO301; have BK278 := n0_; have BK292 := n1_; have HB := n2_; have HO304 := n3_; clear n0_ n1_ n2_ n3_; clear ho hb hg hat))
           go_roundg k1
           case measure => have := HK1.out; omega
           case rel => exact ⟨(y302), (true), (wrap64 (x7_1 + 1)), (x279000_1), (x279001_1), (by first | rfl | (simp; done) | (simp [*]; done)), (by first | rfl | (simp; done) | (simp [*]; done)), H', ⟨by have := HK1.out; omega⟩, ⟨by (with_reducible repeat (first | apply Kd.R_alloc | apply Kd.R_drewN | apply Kd.R_drew)); exact Kd.R_mono HO304.out (fun _ hk => hk.1)⟩, ⟨by (with_reducible repeat (first | refine blk_drewN ?_ _ | refine blk_drew ?_ | refine blk_alloc ?_ _)); exact BK278.out⟩, ⟨by repeat (first | (with_reducible first | exact HB.out | apply below_alloc | apply pw_below_drewN | apply below_drew1 | refine below_set ?_ GE278.out | refine below_set ?_ GE292.out) | exact HB.out)⟩⟩
          ·rw [if_neg c32] at H
           exact absurd H (by simp)
         ·rw [if_neg c31] at H
          exact absurd H (by simp)
       ·rw [if_neg c23] at H
        have c23b0 : decide ((IntKind.u64.wrap (x279001_1 + 1)) < ((rd_T42 l0 x7_1).f0)) = false := decide_eq_false c23
        clear c23
        obtain ⟨ji40, hji40⟩ : ∃ j_ : Int, (mn x279000_1 ((rd_T42 l0 x7_1).f0)) = j_ := ⟨_, rfl⟩
        replace H : (dominoref03_Add.l0 k1 l0 x5_1 x6_1 (wrap64 (x7_1 + 1)) ji40 (mx x279001_1 ((rd_T42 l0 x7_1).f1))) = some r := by first | (rw [hji40] at H; exact H) | (simp only [hji40] at H ⊢; exact H)
        have hji40_ : (if ((rd_T42 l0 x7_1).f0) < x279000_1 then ((rd_T42 l0 x7_1).f0) else x279000_1) = ji40 := hji40
        obtain ⟨ji41, hji41⟩ : ∃ j_ : Int, (mx x279001_1 ((rd_T42 l0 x7_1).f1)) = j_ := ⟨_, rfl⟩
        replace H : (dominoref03_Add.l0 k1 l0 x5_1 x6_1 (wrap64 (x7_1 + 1)) ji40 ji41) = some r := by first | (rw [hji41] at H; exact H) | (simp only [hji41] at H ⊢; exact H)
        have hji41_ : (if x279001_1 < ((rd_T42 l0 x7_1).f1) then ((rd_T42 l0 x7_1).f1) else x279001_1) = ji41 := hji41
        have H' := Aside0.mk H
        clear H
        have p291 : 0 ≤ (x7_1 : Int) := of_decide_eq_true (by first | (with_reducible assumption) | assumption)
        have q291 : x7_1 < (l0.length : Int) := of_decide_eq_true (by first | (with_reducible assumption) | assumption)
        obtain ⟨ad291, e291, hx291_0, hx291_1⟩ := at_T42 HR0.out x7_1 p291 q291
        cases e291
        replace hx291_0 := (HB.out.cell (World.block_lt_of_cell? w _ hx291_0)).trans hx291_0
        replace hx291_1 := (HB.out.cell (World.block_lt_of_cell? w _ hx291_1)).trans hx291_1
        replace p291 := eq_true p291
        replace q291 := eq_true q291
        go_wp2_with (first | ((with_reducible refine gate_dst (N := 8) rfl ?_); refine box_event ?hg (N := 8) ?hd (cs := #[.int .u64 0, .int .u64 0]) (t := 42) ?hr ?_; (case hd => rfl); (case hg => rfl); (case hr => first | (go_simp; done) | (go_simp; rfl)); intro gb292 hg w42 hbox hb; have n0_ := Aside0.mk (Kd.R_below (Kd.R_elderB (by (with_reducible repeat (first | apply Kd.R_alloc | apply Kd.R_drewN | apply Kd.R_drew)); exact HO_5.out) gb292 (Nat.le_of_eq hg.symm)) hb); have n1_ := Aside0.mk (blk_below (g := gb278) (o := .cells #[.int .u64 x279000_1, .int .u64 x279001_1] 42 (0, 0)) (by (with_reducible repeat (first | refine blk_drewN ?_ _ | refine blk_drew ?_ | refine blk_alloc ?_ _)); exact BK278.out) hb); have n2_ := Aside0.mk (below_step (by repeat (first | (with_reducible first | exact HB.out | apply below_alloc | apply pw_below_drewN | apply below_drew1 | refine below_set ?_ GE278.out) | exact HB.out)) hb); have n3_ := Aside0.mk (hbox); have n4_ := Aside0.mk ((by rw [hg]; exact (below_size (by repeat (first | (with_reducible first | exact HB.out | apply below_alloc | apply pw_below_drewN | apply below_drew1 | refine below_set ?_ GE278.out) | exact HB.out))) : w.heap.size ≤ gb292)); have n5_ := Aside0.mk ((by rw [hg]; exact (below_size (by repeat (first | (with_reducible first | exact HB.out | apply below_alloc | apply pw_below_drewN | apply below_drew1 | refine below_set ?_ GE278.out) | exact HB.out))) : w.heap.size ≤ gb292)); have n6_ := Aside0.mk ((by rw [hg]; exact Nat.ne_of_lt (blk_lt (g := gb278) (o := .cells #[.int .u64 x279000_1, .int .u64 x279001_1] 42 (0, 0)) (by (with_reducible repeat (first | refine blk_drewN ?_ _ | refine blk_drew ?_ | refine blk_alloc ?_ _)); exact BK278.out)) : gb278 ≠ gb292)); have n7_ := Aside0.mk ((by rw [hg]; exact Nat.ne_of_gt (blk_lt (g := gb278) (o := .cells #[.int .u64 x279000_1, .int .u64 x279001_1] 42 (0, 0)) (by (with_reducible repeat (first | refine blk_drewN ?_ _ | refine blk_drew ?_ | refine blk_alloc ?_ _)); exact BK278.out)) : gb292 ≠ gb278)); clear HO_5; clear BK278; clear HB; have HO_5 := n0_; have BK278 := n1_; have HB := n2_; have BK292 := n3_; have GW292 := n4_; have GE292 := n5_; have NB278_292 := n6_; have NB292_278 := n7_; clear n0_ n1_ n2_ n3_ n4_ n5_ n6_ n7_; clear hb hbox hg; have hnb43 := NB292_278.out; have hnc43 := NB278_292.out; have hcz44_0 : w42.cell? ⟨gb292, 0, none⟩ = some (.int .u64 0) := (blk_cell BK292.out 0).trans rfl; have hcz44_1 : w42.cell? ⟨gb292, 1, none⟩ = some (.int .u64 0) := (blk_cell BK292.out 1).trans rfl; have hfz44_0 := blk_frozen BK292.out 0; have hfz44_1 := blk_frozen BK292.out 1; have hcz45_0 : w42.cell? ⟨gb278, 0, none⟩ = some (.int .u64 x279000_1) := (blk_cell BK278.out 0).trans rfl; have hcz45_1 : w42.cell? ⟨gb278, 1, none⟩ = some (.int .u64 x279001_1) := (blk_cell BK278.out 1).trans rfl; have hfz45_0 := blk_frozen BK278.out 0; have hfz45_1 := blk_frozen BK278.out 1))
        go_roundg k1
        case measure => have := HK1.out; omega
        case rel => exact ⟨(x5_1), (x6_1), (wrap64 (x7_1 + 1)), (ji40), (ji41), (by first | rfl | (simp; done) | (simp [*]; done)), (by first | rfl | (simp; done) | (simp [*]; done)), H', ⟨by have := HK1.out; omega⟩, ⟨by (with_reducible repeat (first | apply Kd.R_alloc | apply Kd.R_drewN | apply Kd.R_drew)); exact Kd.R_mono (Kd.R_far (p := ⟨gb278, 1, none⟩) (Kd.R_far (p := ⟨gb278, 0, none⟩) (Kd.R_far (p := ⟨gb292, 1, none⟩) (Kd.R_far (p := ⟨gb292, 0, none⟩) (Kd.R_mono (Kd.R_mono HO_5.out (fun k_ hk => (⟨hk, hk.2⟩ : _ ∧ k_ ≠ gb292))) (fun k_ hk => (⟨hk, hk.1.1⟩ : _ ∧ k_ ≠ gb278))) (fun _ hk => hk.1.2) (.int .u64 ((rd_T42 l0 x7_1).f0))) (fun _ hk => hk.1.2) (.int .u64 ((rd_T42 l0 x7_1).f1))) (fun _ hk => hk.2) (.int .u64 ji40)) (fun _ hk => hk.2) (.int .u64 ji41)) (fun _ hk => hk.1.1.1)⟩, ⟨by (with_reducible repeat (first | refine blk_drewN ?_ _ | refine blk_drew ?_ | refine blk_alloc ?_ _)); refine blk_put (cs := #[.int .u64 ji40, .int .u64 x279001_1]) ?_ 1 _ rfl; (with_reducible repeat (first | refine blk_drewN ?_ _ | refine blk_drew ?_ | refine blk_alloc ?_ _)); refine blk_put (cs := #[.int .u64 x279000_1, .int .u64 x279001_1]) ?_ 0 _ rfl; (with_reducible repeat (first | refine blk_drewN ?_ _ | refine blk_drew ?_ | refine blk_alloc ?_ _)); refine blk_far ?_ NB278_292.out _; (with_reducible repeat (first | refine blk_drewN ?_ _ | refine blk_drew ?_ | refine blk_alloc ?_ _)); refine blk_far ?_ NB278_292.out _; (with_reducible repeat (first | refine blk_drewN ?_ _ | refine blk_drew ?_ | refine blk_alloc ?_ _)); exact BK278.out⟩, ⟨by repeat (first | (with_reducible first | exact HB.out | apply below_alloc | apply pw_below_drewN | apply below_drew1 | refine below_set ?_ GE278.out | refine below_set ?_ GE292.out) | exact HB.out)⟩⟩
     ·rw [if_neg c15] at H
      exact absurd H (by simp)
    ·rw [if_neg c14] at H
     have c14b0 : decide (x7_1 < (l0.length : Int)) = false := decide_eq_false c14
     clear c14
     by_cases c46 : x6_1 = true
     ·subst c46
      have H1 : (some x5_1) = some r := by rw [if_pos rfl] at H; exact H
      clear H
      have H := H1
      clear H1
      obtain rfl := Option.some.inj H
      go_wp2
      go_ret
      exact ⟨_, by first | rfl | (simp [errW_none, errW_some] <;> rfl) | (simp [*, errW_none, errW_some] <;> rfl), by (with_reducible repeat (first | apply Kd.R_alloc | apply Kd.R_drewN | apply Kd.R_drew)); exact Kd.R_mono HO_5.out (fun _ hk => trivial), by repeat (first | (with_reducible first | exact HB.out | apply below_alloc | apply pw_below_drewN | apply below_drew1 | refine below_set ?_ GE278.out) | exact HB.out)⟩
     ·replace c46 := Bool.eq_false_iff.mpr c46
      subst c46
      have H1 : (if x5_1.length < 8796093022208 then (some (x5_1 ++ [(⟨x279000_1, x279001_1⟩ : S42)])) else (none)) = some r := by rw [if_neg (show ¬ (false = true) by decide)] at H; exact H
      clear H
      have H := H1
      clear H1
      by_cases c47 : x5_1.length < 8796093022208
      ·rw [if_pos c47] at H
       have LMc47 := Aside0.mk c47
       clear c47
       obtain ⟨y288, hy288⟩ : ∃ y_ : List (S42), y_ = (x5_1 ++ [(⟨x279000_1, x279001_1⟩ : S42)]) := ⟨_, rfl⟩
       replace H : (some y288) = some r := by first | (rw [hy288]; with_reducible exact H) | (have H2_ := (Option.bind_some _ _).symm.trans H; rw [hy288]; with_reducible exact H2_) | (have H2_ := (Option.bind_some _ _).symm.trans H; with_reducible exact H2_) | with_reducible exact H | (rw [hy288]; exact H) | exact H
       have Ny288 := Aside0.mk hy288
       clear hy288
       obtain rfl := Option.some.inj H
       have hcz48_0 : wr.cell? ⟨gb278, 0, none⟩ = some (.int .u64 x279000_1) := (blk_cell BK278.out 0).trans rfl
       have hcz48_1 : wr.cell? ⟨gb278, 1, none⟩ = some (.int .u64 x279001_1) := (blk_cell BK278.out 1).trans rfl
       have hfz48_0 := blk_frozen BK278.out 0
       have hfz48_1 := blk_frozen BK278.out 1
       go_wp2_with (first | ((with_reducible refine gate_builtin (b := .append) (xs := #[.tmp 69, .tmp 71]) rfl ?_); at_builtin; refine Kd.R_append k42 (w0 := w) w.heap.size rfl (.tmp 69) (.tmp 71) 28 42 (.agg #[(.int .u64 0), (.int .u64 0)]) 16 rfl Try.underlying28 info42 rfl (by decide) (by omega) u5 x5_1 (⟨x279000_1, x279001_1⟩ : S42) [.int .u64 x279000_1, .int .u64 x279001_1] (fun k_ => k_ ≠ gb278) (fun _ => False) rfl rfl ?aP (fun _ hk => hk.elim) ?aF ?aO ?aB ?aS ?aL ?_; (case aP => exact k42_mkM _ _ _ (⟨x279000_1, x279001_1⟩ : S42)); (case aB => exact (by repeat (first | (with_reducible first | exact HB.out | apply below_alloc | apply pw_below_drewN | apply below_drew1 | refine below_set ?_ GE278.out) | exact HB.out))); (case aF => exact (fun k_ hk => Kd.freshB (g := gb278) (o := .cells #[.int .u64 x279000_1, .int .u64 x279001_1] 42 (0, 0)) (by (with_reducible repeat (first | refine blk_drewN ?_ _ | refine blk_drew ?_ | refine blk_alloc ?_ _)); exact BK278.out) k_ hk)); (case aO => exact (by (with_reducible repeat (first | apply Kd.R_alloc | apply Kd.R_drewN | apply Kd.R_drew)); exact HO_5.out)); (case aS => exact (below_size (by repeat (first | (with_reducible first | exact HB.out | apply below_alloc | apply pw_below_drewN | apply below_drew1 | refine below_set ?_ GE278.out) | exact HB.out)))); (case aL => have := LMc47.out; omega); intro v289 w49 ho hb hg hat; rw [← Ny288.out] at ho; have n0_ := Aside0.mk (blk_grown (g := gb278) (o := .cells #[.int .u64 x279000_1, .int .u64 x279001_1] 42 (0, 0)) (by (with_reducible repeat (first | refine blk_drewN ?_ _ | refine blk_drew ?_ | refine blk_alloc ?_ _)); exact BK278.out) hg (Kd.R_away HO_5.out (fun _ hk => hk))); have n1_ := Aside0.mk (hb); have n2_ := Aside0.mk (ho); clear BK278; clear HB; clear HO_5; have BK278 := n0_; have HB := n1_; have HO290 := n2_; clear n0_ n1_ n2_; clear ho hb hg hat))
       go_ret
       exact ⟨_, by first | rfl | (simp [errW_none, errW_some] <;> rfl) | (simp [*, errW_none, errW_some] <;> rfl), by (with_reducible repeat (first | apply Kd.R_alloc | apply Kd.R_drewN | apply Kd.R_drew)); exact Kd.R_mono HO290.out (fun _ hk => trivial), by repeat (first | (with_reducible first | exact HB.out | apply below_alloc | apply pw_below_drewN | apply below_drew1 | refine below_set ?_ GE278.out) | exact HB.out)⟩
      ·rw [if_neg c47] at H
       exact absurd H (by simp)

/-! ### dominoref03_Of: function 22 -/
def dominoref03_Of.l0 : Nat → List (S42) → List (S42) → Int → Option ((List (S42)))
 | 0, _, _, _ => none
 | k + 1, x0, x3, x4 => if x4 < (x0.length : Int) then (if 0 ≤ x4 then ((dominoref03_Add.f k x3 ((rd_T42 x0 x4).f0) ((rd_T42 x0 x4).f1)).bind fun t309 => (dominoref03_Of.l0 k x0 t309 (wrap64 (x4 + 1)))) else (none)) else (some x3)
def dominoref03_Of.f (k : Nat) (l0 : List (S42)) : Option ((List (S42))) := dominoref03_Of.l0 k l0 (([] : List (S42))) 0
theorem dominoref03_Of.mono_l : ∀ k, (∀ y0 y1 y2, LeO (dominoref03_Of.l0 k y0 y1 y2) (dominoref03_Of.l0 (k + 1) y0 y1 y2))
 | 0 => fun _ _ _ r h => by simp [dominoref03_Of.l0] at h
 | k + 1 => by
  have ih0 := dominoref03_Of.mono_l k
  ·intro y0 y1 y2
   unfold dominoref03_Of.l0
   repeat' first
   | (with_reducible exact ih0 _ _ _)
   | (with_reducible exact dominoref03_Add.mono _ _ _ _)
   | (with_reducible exact LeO.refl _)
   | (with_reducible exact LeO.none _)
   | (with_reducible refine LeO.ite ?_ ?_)
   | (with_reducible refine LeO.bind ?_ (fun _ => ?_))
   | exact ih0 _ _ _
   | exact dominoref03_Add.mono _ _ _ _
   | exact LeO.none _
   | refine LeO.ite ?_ ?_
   | refine LeO.bind ?_ (fun _ => ?_)
theorem dominoref03_Of.mono : ∀ a0 k, LeO (dominoref03_Of.f k a0) (dominoref03_Of.f (k + 1) a0) := by
 intro a0 k
 have ih0 := dominoref03_Of.mono_l k
 unfold dominoref03_Of.f
 repeat' first
   | (with_reducible exact ih0 _ _ _)
   | (with_reducible exact dominoref03_Add.mono _ _ _ _)
   | (with_reducible exact LeO.refl _)
   | (with_reducible exact LeO.none _)
   | (with_reducible refine LeO.ite ?_ ?_)
   | (with_reducible refine LeO.bind ?_ (fun _ => ?_))
   | exact ih0 _ _ _
   | exact dominoref03_Add.mono _ _ _ _
   | exact LeO.none _
   | refine LeO.ite ?_ ?_
   | refine LeO.bind ?_ (fun _ => ?_)
set_option maxHeartbeats 8000000 in
set_option maxRecDepth 100000 in
theorem dominoref03_Of.calls (k : Nat) (A0 : Option Addr) (c0 : Nat) (l0 : List (S42)) (r : List (S42)) (w : World) (hr0 : Kd.C k42 w A0 l0.length l0) (hc0 : l0.length ≤ c0) (h : dominoref03_Of.f k l0 = some r) :
  Calls Try.prog 22 #[.slice A0 l0.length c0] w fun e w' => ∃ v0_ : Value, e = .returned (v0_) ∧ Kd.R k42 42 w' w.heap.size (fun _ => True) v0_ r ∧ Below w.heap.size w w' := by
 have hu42 := Try.underlying42
 have HR0 := Aside0.mk hr0
 have HC0 := Aside0.mk hc0
 clear hr0 hc0
 have HB := Aside0.mk (Below.refl w.heap.size w)
 have H : (dominoref03_Of.l0 k l0 (([] : List (S42))) 0) = some r := h
 clear h
 obtain ⟨y305, hy305⟩ : ∃ y_ : List (S42), y_ = (([] : List (S42))) := ⟨_, rfl⟩
 replace H : (dominoref03_Of.l0 k l0 y305 0) = some r := by first | (rw [hy305]; with_reducible exact H) | (have H2_ := (Option.bind_some _ _).symm.trans H; rw [hy305]; with_reducible exact H2_) | (have H2_ := (Option.bind_some _ _).symm.trans H; with_reducible exact H2_) | with_reducible exact H | (rw [hy305]; exact H) | exact H
 have Ny305 := Aside0.mk hy305
 clear hy305
 have H' := Aside0.mk H
 clear H
 go_enter Try.func22, Try.ntmps22
 go_wp2_with (first | ((with_reducible refine gate_dst (N := 5) rfl ?_); refine Kd.R_lit k42 _ 42 ?hg (N := 5) ?hd (xs := ([] : List (S42))) (inner := []) (ok := fun _ => True) (okp := fun _ => True) ?hr ?hp (fun _ hk => hk) trivial (Below.refl _ _) (Nat.le_refl _) (by simp) ?_; (case hd => rfl); (case hg => rfl); (case hr => first | (go_simp; done) | (go_simp; rfl)); (case hp => exact (Reps.none _ _)); intro v306 w2 ho3 hb hg_ hnew_; clear hg_ hnew_; (first | rw [← Ny305.out] at ho3 | (simp only [Int.reduceToNat] at ho3; rw [← Ny305.out] at ho3)); have n0_ := Aside0.mk (Kd.R_lower ho3 (below_size (by repeat (first | (with_reducible first | exact HB.out | apply below_alloc | apply pw_below_drewN | apply below_drew1) | exact HB.out)))); have n1_ := Aside0.mk (below_step (by repeat (first | (with_reducible first | exact HB.out | apply below_alloc | apply pw_below_drewN | apply below_drew1) | exact HB.out)) hb); clear HB; have HO307 := n0_; have HB := n1_; clear n0_ n1_; clear hb ho3))
 go_loopg [3, 4] k (fun kq v3 v4 w' => ∃ (x3_1 : List (S42)) (x4_1 : Int), v4 = .int .i64 x4_1 ∧ Aside0 (dominoref03_Of.l0 kq l0 x3_1 x4_1 = some r) ∧ Aside0 (kq ≤ k) ∧ Aside0 (Kd.R k42 42 w' w.heap.size (fun _ => True) v3 x3_1) ∧ Aside0 (Below w.heap.size w w'))
 case atStart => exact ⟨(y305), (0), (by first | rfl | (simp; done) | (simp [*]; done)), H', ⟨Nat.le_refl _⟩, ⟨by (with_reducible repeat (first | apply Kd.R_alloc | apply Kd.R_drewN | apply Kd.R_drew)); exact HO307.out⟩, ⟨by repeat (first | (with_reducible first | exact HB.out | apply below_alloc | apply pw_below_drewN | apply below_drew1) | exact HB.out)⟩⟩
 case round =>
  clear H'
  try clear c2
  try clear p2
  obtain ⟨x3_1, x4_1, rfl, HA, HK1, HO_3, HB⟩ := hrel
  cases gk with
  | zero => exact absurd HA.out (by simp [dominoref03_Of.l0])
  | succ k1 =>
   have H := HA.out
   clear HA
   simp only [dominoref03_Of.l0] at H
   by_cases c4 : x4_1 < (l0.length : Int)
   ·rw [if_pos c4] at H
    have c4b0 : decide (x4_1 < (l0.length : Int)) = true := decide_eq_true c4
    clear c4
    by_cases c5 : 0 ≤ x4_1
    ·rw [if_pos c5] at H
     have c5b0 : decide (0 ≤ x4_1) = true := decide_eq_true c5
     clear c5
     replace H := Option.bind_eq_some_iff.mp H
     obtain ⟨t309, A60, H⟩ := H
     replace H : (dominoref03_Of.l0 k1 l0 t309 (wrap64 (x4_1 + 1))) = some r := H
     have A6 := Aside0.mk A60
     clear A60
     have H' := Aside0.mk H
     clear H
     have p308 : 0 ≤ (x4_1 : Int) := of_decide_eq_true (by first | (with_reducible assumption) | assumption)
     have q308 : x4_1 < (l0.length : Int) := of_decide_eq_true (by first | (with_reducible assumption) | assumption)
     obtain ⟨ad308, e308, hx308_0, hx308_1⟩ := at_T42 HR0.out x4_1 p308 q308
     cases e308
     replace hx308_0 := (HB.out.cell (World.block_lt_of_cell? w _ hx308_0)).trans hx308_0
     replace hx308_1 := (HB.out.cell (World.block_lt_of_cell? w _ hx308_1)).trans hx308_1
     replace p308 := eq_true p308
     replace q308 := eq_true q308
     obtain ⟨Ao7, co7, eo7⟩ := Kd.R_slice HO_3.out
     subst eo7
     go_wp2_with (first | ((with_reducible refine gate_callee (f := 24) rfl ?_); refine goesL_ (some 17) rfl rfl Try.func24 (by kernel_rfl) rfl #[.slice Ao7 x3_1.length co7, .agg #[.int .u64 ((rd_T42 l0 x4_1).f0), .int .u64 ((rd_T42 l0 x4_1).f1)]] rfl (by (try simp only [List.map_toArray, List.map_cons, List.map_nil]); first | done | rfl | (simp only [List.length_drop, List.length_take]; rfl)) ?_; (with_reducible refine (dominoref03_Add.calls k1 _ _ x3_1 ((rd_T42 l0 x4_1).f0) ((rd_T42 l0 x4_1).f1) t309 _ ?side1 ?side2 A6.out).mono ?_); (case side1 => repeat (first | exact (Kd.R_reads' HO_3.out).2.2 | (with_reducible refine Kd.C_alloc ?_ _) | (with_reducible refine Kd.C_drewN ?_ _) | (with_reducible refine Kd.C_drew ?_))); (case side2 => exact (Kd.R_reads' HO_3.out).2.1); rintro e w8 ⟨v310, rfl, ho0, hb⟩; refine ⟨_, rfl, ?_⟩; have n0_ := Aside0.mk (Kd.R_elder' (by (with_reducible repeat (first | apply Kd.R_alloc | apply Kd.R_drewN | apply Kd.R_drew)); exact HO_3.out) (Kd.R_base ho0) hb); have n1_ := Aside0.mk (Kd.R_lower (Kd.R_new' ho0 (Kd.R_lt (by (with_reducible repeat (first | apply Kd.R_alloc | apply Kd.R_drewN | apply Kd.R_drew)); exact HO_3.out))) (below_size (by repeat (first | (with_reducible first | exact HB.out | apply below_alloc | apply pw_below_drewN | apply below_drew1) | exact HB.out)))); have n2_ := Aside0.mk (below_step (by repeat (first | (with_reducible first | exact HB.out | apply below_alloc | apply pw_below_drewN | apply below_drew1) | exact HB.out)) hb); clear HO_3; clear HB; have HO_3 := n0_; have HO311 := n1_; have HB := n2_; clear n0_ n1_ n2_; (try clear hb); (try clear hb2); (try clear hk); (try clear hi); (try clear ho0)))
     go_roundg k1
     case measure => have := HK1.out; omega
     case rel => exact ⟨(t309), (wrap64 (x4_1 + 1)), (by first | rfl | (simp; done) | (simp [*]; done)), H', ⟨by have := HK1.out; omega⟩, ⟨by (with_reducible repeat (first | apply Kd.R_alloc | apply Kd.R_drewN | apply Kd.R_drew)); exact Kd.R_mono HO311.out (fun _ hk => trivial)⟩, ⟨by repeat (first | (with_reducible first | exact HB.out | apply below_alloc | apply pw_below_drewN | apply below_drew1) | exact HB.out)⟩⟩
    ·rw [if_neg c5] at H
     exact absurd H (by simp)
   ·rw [if_neg c4] at H
    have c4b0 : decide (x4_1 < (l0.length : Int)) = false := decide_eq_false c4
    clear c4
    obtain rfl := Option.some.inj H
    go_wp2
    go_ret
    exact ⟨_, by first | rfl | (simp [errW_none, errW_some] <;> rfl) | (simp [*, errW_none, errW_some] <;> rfl), by (with_reducible repeat (first | apply Kd.R_alloc | apply Kd.R_drewN | apply Kd.R_drew)); exact HO_3.out, by repeat (first | (with_reducible first | exact HB.out | apply below_alloc | apply pw_below_drewN | apply below_drew1) | exact HB.out)⟩

/-! ### dominoref03_Has: function 23 -/
def dominoref03_Has.l0 : Nat → List (S42) → Int → Int → Option (Bool)
 | 0, _, _, _ => none
 | k + 1, x0, x1, x5 => if x5 < (x0.length : Int) then (if 0 ≤ x5 then (if ((rd_T42 x0 x5).f0) ≤ x1 then (if x1 ≤ ((rd_T42 x0 x5).f1) then (some true) else (dominoref03_Has.l0 k x0 x1 (wrap64 (x5 + 1)))) else (dominoref03_Has.l0 k x0 x1 (wrap64 (x5 + 1)))) else (none)) else (some false)
def dominoref03_Has.f (k : Nat) (l0 : List (S42)) (a1 : Int) : Option (Bool) := dominoref03_Has.l0 k l0 a1 0
theorem dominoref03_Has.mono_l : ∀ k, (∀ y0 y1 y2, LeO (dominoref03_Has.l0 k y0 y1 y2) (dominoref03_Has.l0 (k + 1) y0 y1 y2))
 | 0 => fun _ _ _ r h => by simp [dominoref03_Has.l0] at h
 | k + 1 => by
  have ih0 := dominoref03_Has.mono_l k
  ·intro y0 y1 y2
   unfold dominoref03_Has.l0
   repeat' first
   | (with_reducible exact ih0 _ _ _)
   | (with_reducible exact LeO.refl _)
   | (with_reducible exact LeO.none _)
   | (with_reducible refine LeO.ite ?_ ?_)
   | (with_reducible refine LeO.bind ?_ (fun _ => ?_))
   | exact ih0 _ _ _
   | exact LeO.none _
   | refine LeO.ite ?_ ?_
   | refine LeO.bind ?_ (fun _ => ?_)
theorem dominoref03_Has.mono : ∀ a0 a1 k, LeO (dominoref03_Has.f k a0 a1) (dominoref03_Has.f (k + 1) a0 a1) := by
 intro a0 a1 k
 have ih0 := dominoref03_Has.mono_l k
 unfold dominoref03_Has.f
 repeat' first
   | (with_reducible exact ih0 _ _ _)
   | (with_reducible exact LeO.refl _)
   | (with_reducible exact LeO.none _)
   | (with_reducible refine LeO.ite ?_ ?_)
   | (with_reducible refine LeO.bind ?_ (fun _ => ?_))
   | exact ih0 _ _ _
   | exact LeO.none _
   | refine LeO.ite ?_ ?_
   | refine LeO.bind ?_ (fun _ => ?_)
set_option maxHeartbeats 8000000 in
set_option maxRecDepth 100000 in
theorem dominoref03_Has.calls (k : Nat) (A0 : Option Addr) (c0 : Nat) (l0 : List (S42)) (a1 : Int) (r : Bool) (w : World) (hr0 : Kd.C k42 w A0 l0.length l0) (hc0 : l0.length ≤ c0) (h : dominoref03_Has.f k l0 a1 = some r) :
  Calls Try.prog 23 #[.slice A0 l0.length c0, .int .u64 a1] w fun e w' => e = .returned (.bool r) ∧ Drawn0 w w' := by
 have HR0 := Aside0.mk hr0
 have HC0 := Aside0.mk hc0
 clear hr0 hc0
 have H : (dominoref03_Has.l0 k l0 a1 0) = some r := h
 clear h
 have H' := Aside0.mk H
 clear H
 go_enter Try.func23, Try.ntmps23
 go_wp2
 go_loopg [5] k (fun kq v5 w' => ∃ (x5_1 : Int), v5 = .int .i64 x5_1 ∧ Aside0 (dominoref03_Has.l0 kq l0 a1 x5_1 = some r) ∧ Aside0 (kq ≤ k) ∧ Drawn0 w w')
 case atStart => exact ⟨(0), (by first | rfl | (simp; done) | (simp [*]; done)), H', ⟨Nat.le_refl _⟩, by repeat (first | exact Drawn0.refl _ | apply Drawn0.step)⟩
 case round =>
  clear H'
  try clear c2
  try clear p2
  obtain ⟨x5_1, rfl, HA, HK1, ⟨m1, rfl⟩⟩ := hrel
  cases gk with
  | zero => exact absurd HA.out (by simp [dominoref03_Has.l0])
  | succ k1 =>
   have H := HA.out
   clear HA
   simp only [dominoref03_Has.l0] at H
   by_cases c3 : x5_1 < (l0.length : Int)
   ·rw [if_pos c3] at H
    have c3b0 : decide (x5_1 < (l0.length : Int)) = true := decide_eq_true c3
    clear c3
    by_cases c4 : 0 ≤ x5_1
    ·rw [if_pos c4] at H
     have c4b0 : decide (0 ≤ x5_1) = true := decide_eq_true c4
     clear c4
     by_cases c5 : ((rd_T42 l0 x5_1).f0) ≤ a1
     ·rw [if_pos c5] at H
      have c5b0 : decide (((rd_T42 l0 x5_1).f0) ≤ a1) = true := decide_eq_true c5
      clear c5
      by_cases c6 : a1 ≤ ((rd_T42 l0 x5_1).f1)
      ·rw [if_pos c6] at H
       have c6b0 : decide (a1 ≤ ((rd_T42 l0 x5_1).f1)) = true := decide_eq_true c6
       clear c6
       obtain rfl := Option.some.inj H
       have p312 : 0 ≤ (x5_1 : Int) := of_decide_eq_true (by first | (with_reducible assumption) | assumption)
       have q312 : x5_1 < (l0.length : Int) := of_decide_eq_true (by first | (with_reducible assumption) | assumption)
       obtain ⟨ad312, e312, hx312_0, hx312_1⟩ := at_T42 HR0.out x5_1 p312 q312
       cases e312
       replace p312 := eq_true p312
       replace q312 := eq_true q312
       have p313 : 0 ≤ (x5_1 : Int) := of_decide_eq_true (by first | (with_reducible assumption) | assumption)
       have q313 : x5_1 < (l0.length : Int) := of_decide_eq_true (by first | (with_reducible assumption) | assumption)
       obtain ⟨ad313, e313, hx313_0, hx313_1⟩ := at_T42 HR0.out x5_1 p313 q313
       obtain rfl : ad312 = ad313 := (by injection e313)
       replace p313 := eq_true p313
       replace q313 := eq_true q313
       go_wp2
       go_ret
       exact ⟨by first | rfl | (simp; done) | (simp [*]; done), by repeat (first | exact Drawn0.refl _ | apply Drawn0.step)⟩
      ·rw [if_neg c6] at H
       have c6b0 : decide (a1 ≤ ((rd_T42 l0 x5_1).f1)) = false := decide_eq_false c6
       clear c6
       have H' := Aside0.mk H
       clear H
       have p312 : 0 ≤ (x5_1 : Int) := of_decide_eq_true (by first | (with_reducible assumption) | assumption)
       have q312 : x5_1 < (l0.length : Int) := of_decide_eq_true (by first | (with_reducible assumption) | assumption)
       obtain ⟨ad312, e312, hx312_0, hx312_1⟩ := at_T42 HR0.out x5_1 p312 q312
       cases e312
       replace p312 := eq_true p312
       replace q312 := eq_true q312
       have p313 : 0 ≤ (x5_1 : Int) := of_decide_eq_true (by first | (with_reducible assumption) | assumption)
       have q313 : x5_1 < (l0.length : Int) := of_decide_eq_true (by first | (with_reducible assumption) | assumption)
       obtain ⟨ad313, e313, hx313_0, hx313_1⟩ := at_T42 HR0.out x5_1 p313 q313
       obtain rfl : ad312 = ad313 := (by injection e313)
       replace p313 := eq_true p313
       replace q313 := eq_true q313
       go_wp2
       go_roundg k1
       case measure => have := HK1.out; omega
       case rel => exact ⟨(wrap64 (x5_1 + 1)), (by first | rfl | (simp; done) | (simp [*]; done)), H', ⟨by have := HK1.out; omega⟩, by repeat (first | exact Drawn0.refl _ | apply Drawn0.step)⟩
     ·rw [if_neg c5] at H
      have c5b0 : decide (((rd_T42 l0 x5_1).f0) ≤ a1) = false := decide_eq_false c5
      clear c5
      have H' := Aside0.mk H
      clear H
      have p312 : 0 ≤ (x5_1 : Int) := of_decide_eq_true (by first | (with_reducible assumption) | assumption)
      have q312 : x5_1 < (l0.length : Int) := of_decide_eq_true (by first | (with_reducible assumption) | assumption)
      obtain ⟨ad312, e312, hx312_0, hx312_1⟩ := at_T42 HR0.out x5_1 p312 q312
      cases e312
      replace p312 := eq_true p312
      replace q312 := eq_true q312
      go_wp2
      go_roundg k1
      case measure => have := HK1.out; omega
      case rel => exact ⟨(wrap64 (x5_1 + 1)), (by first | rfl | (simp; done) | (simp [*]; done)), H', ⟨by have := HK1.out; omega⟩, by repeat (first | exact Drawn0.refl _ | apply Drawn0.step)⟩
    ·rw [if_neg c4] at H
     exact absurd H (by simp)
   ·rw [if_neg c3] at H
    have c3b0 : decide (x5_1 < (l0.length : Int)) = false := decide_eq_false c3
    clear c3
    obtain rfl := Option.some.inj H
    go_wp2
    go_ret
    exact ⟨by first | rfl | (simp; done) | (simp [*]; done), by repeat (first | exact Drawn0.refl _ | apply Drawn0.step)⟩

end Go.Proofs.Ytpjohlcidmnikaa.PRgx
