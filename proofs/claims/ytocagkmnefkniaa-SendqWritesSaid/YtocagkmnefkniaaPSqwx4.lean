-- printed for this claim by a program of the claim (wip/tools/pp.py over the kit's print)
import Derived.Test.YtocagkmnefkniaaPSqwx0
import Derived.Test.YtocagkmnefkniaaPSqwx1
import Derived.Test.YtocagkmnefkniaaPSqwx2
import Derived.Test.YtocagkmnefkniaaPSqwx3
namespace Go.Proofs.Ytocagkmnefkniaa.PSqw
open Go.RowKit Go.Proofs.YtocagkmnefkniaaW.PrintWords Go.Proofs.YtocagkmnefkniaaW.PrintLast Go.Proofs.YtocagkmnefkniaaW.PrintMore
attribute [local go_sem] max2_int min2_int max_two min_two max_three min_three max_four min_four   -- for this text's walks alone
set_option linter.unusedVariables false
set_option linter.unusedSimpArgs false

attribute [local go_sem] isSome_setCell_
/-! ### sendq_Sent: function 16 -/
def sendq_Sent.f (k : Nat) (a0_0 : Int) (a0_1 : Int) (a0_2 : ByteArray) (l0_3 : List (S67)) (l0_4 : List (S67)) (a0_5 : Bool) (a0_6 : Bool) (a0_7 : Bool) (a1 : Int) (a2 : Int) (a3 : Bool) : Option (Int × Int × ByteArray × (List (S67)) × (List (S67)) × Bool × Bool × Bool) := (sendq_State_window.f a0_0 a0_1 a0_2 l0_3 l0_4 a0_5 a0_6 a0_7 a1 a2).bind fun bt131 => (if bt131.2.2 = true then ((ranges_Cut.f k l0_4 bt131.1 bt131.2.1).bind fun t135 => ((sendq_State_end.f a0_0 a0_1 a0_2 l0_3 t135 a0_5 a0_6 a0_7).bind fun t138 => (if a0_6 = true then (some (a0_0, mx a0_1 (mn (IntKind.u64.wrap (a1 + (IntKind.u64.wrap (mx 0 a2)))) t138), a0_2, l0_3, t135, a0_5, !a3, a0_7)) else (none)))) else (none))
theorem sendq_Sent.mono : ∀ a0 a1 a2 a3 a4 a5 a6 a7 a8 a9 a10 k, LeO (sendq_Sent.f k a0 a1 a2 a3 a4 a5 a6 a7 a8 a9 a10) (sendq_Sent.f (k + 1) a0 a1 a2 a3 a4 a5 a6 a7 a8 a9 a10) := by
 intro a0 a1 a2 a3 a4 a5 a6 a7 a8 a9 a10 k
 unfold sendq_Sent.f
 repeat' first
   | (with_reducible exact ranges_Cut.mono _ _ _ _)
   | (with_reducible exact LeO.refl _)
   | (with_reducible exact LeO.none _)
   | (with_reducible refine LeO.ite ?_ ?_)
   | (with_reducible refine LeO.bind ?_ (fun _ => ?_))
   | exact ranges_Cut.mono _ _ _ _
   | exact LeO.none _
   | refine LeO.ite ?_ ?_
   | refine LeO.bind ?_ (fun _ => ?_)
def sendq_Sent.T4 : Bool × List (List Nat × List Nat) := (true, [([], []), ([0], [0]), ([], []), ([], []), ([3], [3]), ([4], [4]), ([2, 5], [2, 5]), ([], []), ([7], [7]), ([6, 8], [6, 8]), ([1, 9], [1, 9]), ([0, 1, 2, 3, 4, 5, 6, 7, 8, 9, 10], []), ([11, 10, 8, 0, 1, 2, 3, 4, 5, 6, 7, 8, 9, 10], [10, 11])])
def sendq_Sent.B4 : List Nat := [0, 1, 0, 0, 8, 24, 60, 0, 128, 508, 1023, 2047, 4095]
theorem sendq_Sent.tab4 : rtab .any (opsOf Try.f16 4) = sendq_Sent.T4 := by kernel_rfl
theorem sendq_Sent.bits4 : waitsOk sendq_Sent.T4.2 sendq_Sent.B4 = true := by kernel_rfl
set_option maxHeartbeats 8000000 in
set_option maxRecDepth 100000 in
theorem sendq_Sent.calls (k : Nat) (a0_0 : Int) (a0_1 : Int) (a0_2 : ByteArray) (P0_3_ : Nat → Prop) (A0_3 : Option Addr) (c0_3 : Nat) (l0_3 : List (S67)) (A0_4 : Option Addr) (c0_4 : Nat) (l0_4 : List (S67)) (a0_5 : Bool) (a0_6 : Bool) (a0_7 : Bool) (a1 : Int) (a2 : Int) (a3 : Bool) (r1 : Int) (r2 : Int) (r3 : ByteArray) (r4 : List (S67)) (r5 : List (S67)) (r6 : Bool) (r7 : Bool) (r8 : Bool) (w : World) (hs0_3 : Kd.V k67 67 w w.heap.size (fun k_ => P0_3_ k_) (.slice A0_3 l0_3.length c0_3) l0_3) (hr0_4 : Kd.C k67 w A0_4 l0_4.length l0_4) (hc0_4 : l0_4.length ≤ c0_4) (h : sendq_Sent.f k a0_0 a0_1 a0_2 l0_3 l0_4 a0_5 a0_6 a0_7 a1 a2 a3 = some (r1, r2, r3, r4, r5, r6, r7, r8)) :
  Calls Try.prog 16 #[.agg #[.int .u64 a0_0, .int .u64 a0_1, .string a0_2, .slice A0_3 l0_3.length c0_3, .slice A0_4 l0_4.length c0_4, .bool a0_5, .bool a0_6, .bool a0_7], .int .u64 a1, .int .i64 a2, .bool a3] w fun e w' => ∃ v3_ v4_ : Value, e = .returned (.agg #[.int .u64 r1, .int .u64 r2, .string r3, v3_, v4_, .bool r6, .bool r7, .bool r8]) ∧ Kd.V k67 67 w' w.heap.size (fun k_ => (P0_3_ k_ ∨ w.heap.size ≤ k_) ∧ some k_ ≠ (v4_ : Value).ownBlock) v3_ r4 ∧ Kd.R k67 67 w' w.heap.size (fun k_ => (w.heap.size ≤ k_)) v4_ r5 ∧ Below w.heap.size w w' := by
 have hu29 := Try.underlying29
 have hu67 := Try.underlying67
 have HO0_3 := Aside0.mk (show Kd.V k67 67 w w.heap.size (fun k_ => (P0_3_ k_ ∨ w.heap.size ≤ k_)) (.slice A0_3 l0_3.length c0_3) l0_3 from Kd.V_mono hs0_3 (fun k_ hk => .inl hk))
 have HR0_4 := Aside0.mk hr0_4
 have HC0_4 := Aside0.mk hc0_4
 clear hr0_4 hc0_4
 have HB := Aside0.mk (Below.refl w.heap.size w)
 have H : ((sendq_State_window.f a0_0 a0_1 a0_2 l0_3 l0_4 a0_5 a0_6 a0_7 a1 a2).bind fun bt131 => (if bt131.2.2 = true then ((ranges_Cut.f k l0_4 bt131.1 bt131.2.1).bind fun t135 => ((sendq_State_end.f a0_0 a0_1 a0_2 l0_3 t135 a0_5 a0_6 a0_7).bind fun t138 => (if a0_6 = true then (some (a0_0, mx a0_1 (mn (IntKind.u64.wrap (a1 + (IntKind.u64.wrap (mx 0 a2)))) t138), a0_2, l0_3, t135, a0_5, !a3, a0_7)) else (none)))) else (none))) = some (r1, r2, r3, r4, r5, r6, r7, r8) := h
 clear h
 replace H := Option.bind_eq_some_iff.mp H
 obtain ⟨⟨t131, t132, t133⟩, A50, H⟩ := H
 replace H : (if t133 = true then ((ranges_Cut.f k l0_4 t131 t132).bind fun t135 => ((sendq_State_end.f a0_0 a0_1 a0_2 l0_3 t135 a0_5 a0_6 a0_7).bind fun t138 => (if a0_6 = true then (some (a0_0, mx a0_1 (mn (IntKind.u64.wrap (a1 + (IntKind.u64.wrap (mx 0 a2)))) t138), a0_2, l0_3, t135, a0_5, !a3, a0_7)) else (none)))) else (none)) = some (r1, r2, r3, r4, r5, r6, r7, r8) := H
 have A5 := Aside0.mk A50
 clear A50
 by_cases c6 : t133 = true
 ·subst c6
  have H1 : ((ranges_Cut.f k l0_4 t131 t132).bind fun t135 => ((sendq_State_end.f a0_0 a0_1 a0_2 l0_3 t135 a0_5 a0_6 a0_7).bind fun t138 => (if a0_6 = true then (some (a0_0, mx a0_1 (mn (IntKind.u64.wrap (a1 + (IntKind.u64.wrap (mx 0 a2)))) t138), a0_2, l0_3, t135, a0_5, !a3, a0_7)) else (none)))) = some (r1, r2, r3, r4, r5, r6, r7, r8) := by rw [if_pos rfl] at H; exact H
  clear H
  have H := H1
  clear H1
  replace H := Option.bind_eq_some_iff.mp H
  obtain ⟨t135, A70, H⟩ := H
  replace H : ((sendq_State_end.f a0_0 a0_1 a0_2 l0_3 t135 a0_5 a0_6 a0_7).bind fun t138 => (if a0_6 = true then (some (a0_0, mx a0_1 (mn (IntKind.u64.wrap (a1 + (IntKind.u64.wrap (mx 0 a2)))) t138), a0_2, l0_3, t135, a0_5, !a3, a0_7)) else (none))) = some (r1, r2, r3, r4, r5, r6, r7, r8) := H
  have A7 := Aside0.mk A70
  clear A70
  obtain ⟨ji8, hji8⟩ : ∃ j_ : Int, (mx 0 a2) = j_ := ⟨_, rfl⟩
  replace H : ((sendq_State_end.f a0_0 a0_1 a0_2 l0_3 t135 a0_5 a0_6 a0_7).bind fun t138 => (if a0_6 = true then (some (a0_0, mx a0_1 (mn (IntKind.u64.wrap (a1 + (IntKind.u64.wrap (ji8)))) t138), a0_2, l0_3, t135, a0_5, !a3, a0_7)) else (none))) = some (r1, r2, r3, r4, r5, r6, r7, r8) := by first | (rw [hji8] at H; exact H) | (simp only [hji8] at H ⊢; exact H)
  (try rw [hji8] at A5)
  (try rw [hji8] at A7)
  (try (have hji8l : 0 ≤ ji8 := by (rw [← hji8]; unfold mx; (repeat' split) <;> omega)))
  (try (have hji8m : 0 ≤ ji8 := by omega))
  have hji8_ : (if 0 < a2 then a2 else 0) = ji8 := hji8
  replace H := Option.bind_eq_some_iff.mp H
  obtain ⟨t138, A90, H⟩ := H
  replace H : (if a0_6 = true then (some (a0_0, mx a0_1 (mn (IntKind.u64.wrap (a1 + (IntKind.u64.wrap (ji8)))) t138), a0_2, l0_3, t135, a0_5, !a3, a0_7)) else (none)) = some (r1, r2, r3, r4, r5, r6, r7, r8) := H
  have A9 := Aside0.mk A90
  clear A90
  obtain ⟨ji10, hji10⟩ : ∃ j_ : Int, (mn (IntKind.u64.wrap (a1 + (IntKind.u64.wrap (ji8)))) t138) = j_ := ⟨_, rfl⟩
  replace H : (if a0_6 = true then (some (a0_0, mx a0_1 (ji10), a0_2, l0_3, t135, a0_5, !a3, a0_7)) else (none)) = some (r1, r2, r3, r4, r5, r6, r7, r8) := by first | (rw [hji10] at H; exact H) | (simp only [hji10] at H ⊢; exact H)
  (try rw [hji10] at A5)
  (try rw [hji10] at A7)
  (try rw [hji10] at A9)
  have hji10_ : (if t138 < (IntKind.u64.wrap (a1 + (IntKind.u64.wrap (ji8)))) then t138 else (IntKind.u64.wrap (a1 + (IntKind.u64.wrap (ji8))))) = ji10 := hji10
  obtain ⟨ji11, hji11⟩ : ∃ j_ : Int, (mx a0_1 (ji10)) = j_ := ⟨_, rfl⟩
  replace H : (if a0_6 = true then (some (a0_0, ji11, a0_2, l0_3, t135, a0_5, !a3, a0_7)) else (none)) = some (r1, r2, r3, r4, r5, r6, r7, r8) := by first | (rw [hji11] at H; exact H) | (simp only [hji11] at H ⊢; exact H)
  (try rw [hji11] at A5)
  (try rw [hji11] at A7)
  (try rw [hji11] at A9)
  have hji11_ : (if a0_1 < (ji10) then (ji10) else a0_1) = ji11 := hji11
  by_cases c12 : a0_6 = true
  ·subst c12
   have H1 : (some (a0_0, ji11, a0_2, l0_3, t135, a0_5, !a3, a0_7)) = some (r1, r2, r3, r4, r5, r6, r7, r8) := by rw [if_pos rfl] at H; exact H
   clear H
   have H := H1
   clear H1
   simp only [Option.some.injEq, Prod.mk.injEq] at H
   obtain ⟨rfl, rfl, rfl, rfl, rfl, rfl, rfl, rfl⟩ := H
   go_enter Try.func16, Try.ntmps16
   try go_wp2_with (first | ((with_reducible refine gate_dst (N := 4) rfl ?_); refine box_event ?hg (N := 4) ?hd (cs := #[.int .u64 a0_0, .int .u64 a0_1, .string a0_2, .slice A0_3 l0_3.length c0_3, .slice A0_4 l0_4.length c0_4, .bool a0_5, .bool true, .bool a0_7]) (t := 29) ?hr ?_; (case hd => rfl); (case hg => rfl); (case hr => first | (go_simp; done) | (go_simp; rfl)); intro gb129 hg w13 hbox hb; have n0_ := Aside0.mk (Kd.V_below (Kd.V_elderB (by (with_reducible repeat (first | apply Kd.V_alloc | apply Kd.V_drewN | apply Kd.V_drew)); exact HO0_3.out) gb129 (Nat.le_of_eq hg.symm)) hb); have n1_ := Aside0.mk (below_step (by repeat (first | (with_reducible first | exact HB.out | apply below_alloc | apply pw_below_drewN | apply below_drew1) | exact HB.out)) hb); have n2_ := Aside0.mk (hbox); have n3_ := Aside0.mk ((by rw [hg]; exact (below_size (by repeat (first | (with_reducible first | exact HB.out | apply below_alloc | apply pw_below_drewN | apply below_drew1) | exact HB.out))) : w.heap.size ≤ gb129)); have n4_ := Aside0.mk ((by rw [hg]; exact (below_size (by repeat (first | (with_reducible first | exact HB.out | apply below_alloc | apply pw_below_drewN | apply below_drew1) | exact HB.out))) : w.heap.size ≤ gb129)); clear HO0_3; clear HB; have HO0_3 := n0_; have HB := n1_; have BK129 := n2_; have GW129 := n3_; have GE129 := n4_; clear n0_ n1_ n2_ n3_ n4_; clear hb hbox hg) | ((with_reducible refine gate_dst (N := 8) rfl ?_); refine box_event ?hg (N := 8) ?hd (cs := #[.int .u64 0, .int .u64 0, .string (⟨#[]⟩ : ByteArray), .slice none 0 0, .slice none 0 0, .bool false, .bool false, .bool false]) (t := 29) ?hr ?_; (case hd => rfl); (case hg => rfl); (case hr => first | (go_simp; done) | (go_simp; rfl)); intro gb130 hg w14 hbox hb; have n0_ := Aside0.mk (Kd.V_below (Kd.V_elderB (by (with_reducible repeat (first | apply Kd.V_alloc | apply Kd.V_drewN | apply Kd.V_drew)); exact HO0_3.out) gb130 (Nat.le_of_eq hg.symm)) hb); have n1_ := Aside0.mk (blk_below (g := gb129) (o := .cells #[.int .u64 a0_0, .int .u64 a0_1, .string a0_2, .slice A0_3 l0_3.length c0_3, .slice A0_4 l0_4.length c0_4, .bool a0_5, .bool true, .bool a0_7] 29 (0, 0)) (by (with_reducible repeat (first | refine blk_drewN ?_ _ | refine blk_drew ?_ | refine blk_alloc ?_ _)); exact BK129.out) hb); have n2_ := Aside0.mk (below_step (by repeat (first | (with_reducible first | exact HB.out | apply below_alloc | apply pw_below_drewN | apply below_drew1 | refine below_set ?_ GE129.out) | exact HB.out)) hb); have n3_ := Aside0.mk (hbox); have n4_ := Aside0.mk ((by rw [hg]; exact (below_size (by repeat (first | (with_reducible first | exact HB.out | apply below_alloc | apply pw_below_drewN | apply below_drew1 | refine below_set ?_ GE129.out) | exact HB.out))) : w.heap.size ≤ gb130)); have n5_ := Aside0.mk ((by rw [hg]; exact (below_size (by repeat (first | (with_reducible first | exact HB.out | apply below_alloc | apply pw_below_drewN | apply below_drew1 | refine below_set ?_ GE129.out) | exact HB.out))) : w.heap.size ≤ gb130)); have n6_ := Aside0.mk ((by rw [hg]; exact Nat.ne_of_lt (blk_lt (g := gb129) (o := .cells #[.int .u64 a0_0, .int .u64 a0_1, .string a0_2, .slice A0_3 l0_3.length c0_3, .slice A0_4 l0_4.length c0_4, .bool a0_5, .bool true, .bool a0_7] 29 (0, 0)) (by (with_reducible repeat (first | refine blk_drewN ?_ _ | refine blk_drew ?_ | refine blk_alloc ?_ _)); exact BK129.out)) : gb129 ≠ gb130)); have n7_ := Aside0.mk ((by rw [hg]; exact Nat.ne_of_gt (blk_lt (g := gb129) (o := .cells #[.int .u64 a0_0, .int .u64 a0_1, .string a0_2, .slice A0_3 l0_3.length c0_3, .slice A0_4 l0_4.length c0_4, .bool a0_5, .bool true, .bool a0_7] 29 (0, 0)) (by (with_reducible repeat (first | refine blk_drewN ?_ _ | refine blk_drew ?_ | refine blk_alloc ?_ _)); exact BK129.out)) : gb130 ≠ gb129)); clear HO0_3; clear BK129; clear HB; have HO0_3 := n0_; have BK129 := n1_; have HB := n2_; have BK130 := n3_; have GW130 := n4_; have GE130 := n5_; have NB129_130 := n6_; have NB130_129 := n7_; clear n0_ n1_ n2_ n3_ n4_ n5_ n6_ n7_; clear hb hbox hg; have hnb15 := NB129_130.out; have hnc15 := NB130_129.out; have hcz16_0 : w14.cell? ⟨gb129, 0, none⟩ = some (.int .u64 a0_0) := (blk_cell BK129.out 0).trans rfl; have hcz16_1 : w14.cell? ⟨gb129, 1, none⟩ = some (.int .u64 a0_1) := (blk_cell BK129.out 1).trans rfl; have hcz16_2 : w14.cell? ⟨gb129, 2, none⟩ = some (.string a0_2) := (blk_cell BK129.out 2).trans rfl; have hcz16_3 : w14.cell? ⟨gb129, 3, none⟩ = some (.slice A0_3 l0_3.length c0_3) := (blk_cell BK129.out 3).trans rfl; have hcz16_4 : w14.cell? ⟨gb129, 4, none⟩ = some (.slice A0_4 l0_4.length c0_4) := (blk_cell BK129.out 4).trans rfl; have hcz16_5 : w14.cell? ⟨gb129, 5, none⟩ = some (.bool a0_5) := (blk_cell BK129.out 5).trans rfl; have hcz16_6 : w14.cell? ⟨gb129, 6, none⟩ = some (.bool true) := (blk_cell BK129.out 6).trans rfl; have hcz16_7 : w14.cell? ⟨gb129, 7, none⟩ = some (.bool a0_7) := (blk_cell BK129.out 7).trans rfl; have hfz16_0 := blk_frozen BK129.out 0; have hfz16_1 := blk_frozen BK129.out 1; have hfz16_2 := blk_frozen BK129.out 2; have hfz16_3 := blk_frozen BK129.out 3; have hfz16_4 := blk_frozen BK129.out 4; have hfz16_5 := blk_frozen BK129.out 5; have hfz16_6 := blk_frozen BK129.out 6; have hfz16_7 := blk_frozen BK129.out 7) | ((with_reducible refine gate_callee (f := 32) rfl ?_); refine goesL_ (some 15) rfl rfl Try.func32 (by kernel_rfl) rfl #[.agg #[.int .u64 a0_0, .int .u64 a0_1, .string a0_2, .slice A0_3 l0_3.length c0_3, .slice A0_4 l0_4.length c0_4, .bool a0_5, .bool true, .bool a0_7], .int .u64 a1, .int .i64 a2] rfl (by (try simp only [List.map_toArray, List.map_cons, List.map_nil]); first | done | rfl | (simp only [List.length_drop, List.length_take]; rfl)) ?_; (with_reducible refine (sendq_State_window.calls a0_0 a0_1 a0_2 _ _ l0_3 _ _ l0_4 a0_5 true a0_7 a1 a2 t131 t132 true _ ?side1 ?side2 ?side3 ?side4 A5.out).mono ?_); (case side1 => repeat (first | exact (Kd.V_reads' HO0_3.out).2.2 | (with_reducible refine Kd.C_alloc ?_ _) | (with_reducible refine Kd.C_drewN ?_ _) | (with_reducible refine Kd.C_drew ?_))); (case side2 => exact (Kd.V_reads' HO0_3.out).2.1); (case side3 => repeat (first | exact (Kd.C_below HR0_4.out HB.out) | (with_reducible refine Kd.C_alloc ?_ _) | (with_reducible refine Kd.C_drewN ?_ _) | (with_reducible refine Kd.C_drew ?_))); (case side4 => exact HC0_4.out); rintro e w17 ⟨rfl, hb⟩; refine ⟨_, rfl, ?_⟩; have n0_ := Aside0.mk (Kd.V_below (by (with_reducible repeat (first | apply Kd.V_alloc | apply Kd.V_drewN | apply Kd.V_drew)); exact HO0_3.out) hb); have n1_ := Aside0.mk (blk_below (g := gb129) (o := .cells #[.int .u64 a0_0, .int .u64 a0_1, .string a0_2, .slice A0_3 l0_3.length c0_3, .slice A0_4 l0_4.length c0_4, .bool a0_5, .bool true, .bool a0_7] 29 (0, 0)) (by (with_reducible repeat (first | refine blk_drewN ?_ _ | refine blk_drew ?_ | refine blk_alloc ?_ _)); exact BK129.out) hb); have n2_ := Aside0.mk (blk_below (g := gb130) (o := .cells #[.int .u64 0, .int .u64 0, .string (⟨#[]⟩ : ByteArray), .slice none 0 0, .slice none 0 0, .bool false, .bool false, .bool false] 29 (0, 0)) (by (with_reducible repeat (first | refine blk_drewN ?_ _ | refine blk_drew ?_ | refine blk_alloc ?_ _)); exact BK130.out) hb); have n3_ := Aside0.mk (below_step (by repeat (first | (with_reducible first | exact HB.out | apply below_alloc | apply pw_below_drewN | apply below_drew1 | refine below_set ?_ GE129.out | refine below_set ?_ GE130.out) | exact HB.out)) hb); clear HO0_3; clear BK129; clear BK130; clear HB; have HO0_3 := n0_; have BK129 := n1_; have BK130 := n2_; have HB := n3_; clear n0_ n1_ n2_ n3_; (try clear hb); (try clear hb2); (try clear hk); (try clear hi)) | ((with_reducible refine gate_dst (N := 9) rfl ?_); refine box_event ?hg (N := 9) ?hd (cs := #[.int .u64 0, .int .u64 0]) (t := 67) ?hr ?_; (case hd => rfl); (case hg => rfl); (case hr => first | (go_simp; done) | (go_simp; rfl)); intro gb134 hg w18 hbox hb; have n0_ := Aside0.mk (Kd.V_below (Kd.V_elderB (by (with_reducible repeat (first | apply Kd.V_alloc | apply Kd.V_drewN | apply Kd.V_drew)); exact HO0_3.out) gb134 (Nat.le_of_eq hg.symm)) hb); have n1_ := Aside0.mk (blk_below (g := gb129) (o := .cells #[.int .u64 a0_0, .int .u64 a0_1, .string a0_2, .slice A0_3 l0_3.length c0_3, .slice A0_4 l0_4.length c0_4, .bool a0_5, .bool true, .bool a0_7] 29 (0, 0)) (by (with_reducible repeat (first | refine blk_drewN ?_ _ | refine blk_drew ?_ | refine blk_alloc ?_ _)); exact BK129.out) hb); have n2_ := Aside0.mk (blk_below (g := gb130) (o := .cells #[.int .u64 0, .int .u64 0, .string (⟨#[]⟩ : ByteArray), .slice none 0 0, .slice none 0 0, .bool false, .bool false, .bool false] 29 (0, 0)) (by (with_reducible repeat (first | refine blk_drewN ?_ _ | refine blk_drew ?_ | refine blk_alloc ?_ _)); exact BK130.out) hb); have n3_ := Aside0.mk (below_step (by repeat (first | (with_reducible first | exact HB.out | apply below_alloc | apply pw_below_drewN | apply below_drew1 | refine below_set ?_ GE129.out | refine below_set ?_ GE130.out) | exact HB.out)) hb); have n4_ := Aside0.mk (hbox); have n5_ := Aside0.mk ((by rw [hg]; exact (below_size (by repeat (first | (with_reducible first | exact HB.out | apply below_alloc | apply pw_below_drewN | apply below_drew1 | refine below_set ?_ GE129.out | refine below_set ?_ GE130.out) | exact HB.out))) : w.heap.size ≤ gb134)); have n6_ := Aside0.mk ((by rw [hg]; exact (below_size (by repeat (first | (with_reducible first | exact HB.out | apply below_alloc | apply pw_below_drewN | apply below_drew1 | refine below_set ?_ GE129.out | refine below_set ?_ GE130.out) | exact HB.out))) : w.heap.size ≤ gb134)); have n7_ := Aside0.mk ((by rw [hg]; exact Nat.ne_of_lt (blk_lt (g := gb129) (o := .cells #[.int .u64 a0_0, .int .u64 a0_1, .string a0_2, .slice A0_3 l0_3.length c0_3, .slice A0_4 l0_4.length c0_4, .bool a0_5, .bool true, .bool a0_7] 29 (0, 0)) (by (with_reducible repeat (first | refine blk_drewN ?_ _ | refine blk_drew ?_ | refine blk_alloc ?_ _)); exact BK129.out)) : gb129 ≠ gb134)); have n8_ := Aside0.mk ((by rw [hg]; exact Nat.ne_of_gt (blk_lt (g := gb129) (o := .cells #[.int .u64 a0_0, .int .u64 a0_1, .string a0_2, .slice A0_3 l0_3.length c0_3, .slice A0_4 l0_4.length c0_4, .bool a0_5, .bool true, .bool a0_7] 29 (0, 0)) (by (with_reducible repeat (first | refine blk_drewN ?_ _ | refine blk_drew ?_ | refine blk_alloc ?_ _)); exact BK129.out)) : gb134 ≠ gb129)); have n9_ := Aside0.mk ((by rw [hg]; exact Nat.ne_of_lt (blk_lt (g := gb130) (o := .cells #[.int .u64 0, .int .u64 0, .string (⟨#[]⟩ : ByteArray), .slice none 0 0, .slice none 0 0, .bool false, .bool false, .bool false] 29 (0, 0)) (by (with_reducible repeat (first | refine blk_drewN ?_ _ | refine blk_drew ?_ | refine blk_alloc ?_ _)); exact BK130.out)) : gb130 ≠ gb134)); have n10_ := Aside0.mk ((by rw [hg]; exact Nat.ne_of_gt (blk_lt (g := gb130) (o := .cells #[.int .u64 0, .int .u64 0, .string (⟨#[]⟩ : ByteArray), .slice none 0 0, .slice none 0 0, .bool false, .bool false, .bool false] 29 (0, 0)) (by (with_reducible repeat (first | refine blk_drewN ?_ _ | refine blk_drew ?_ | refine blk_alloc ?_ _)); exact BK130.out)) : gb134 ≠ gb130)); clear HO0_3; clear BK129; clear BK130; clear HB; have HO0_3 := n0_; have BK129 := n1_; have BK130 := n2_; have HB := n3_; have BK134 := n4_; have GW134 := n5_; have GE134 := n6_; have NB129_134 := n7_; have NB134_129 := n8_; have NB130_134 := n9_; have NB134_130 := n10_; clear n0_ n1_ n2_ n3_ n4_ n5_ n6_ n7_ n8_ n9_ n10_; clear hb hbox hg; have hnb19 := NB134_129.out; have hnc19 := NB129_134.out; have hnb20 := NB134_130.out; have hnc20 := NB130_134.out; have hcz21_0 : w18.cell? ⟨gb134, 0, none⟩ = some (.int .u64 0) := (blk_cell BK134.out 0).trans rfl; have hcz21_1 : w18.cell? ⟨gb134, 1, none⟩ = some (.int .u64 0) := (blk_cell BK134.out 1).trans rfl; have hfz21_0 := blk_frozen BK134.out 0; have hfz21_1 := blk_frozen BK134.out 1; have hcz22_0 : w18.cell? ⟨gb129, 0, none⟩ = some (.int .u64 a0_0) := (blk_cell BK129.out 0).trans rfl; have hcz22_1 : w18.cell? ⟨gb129, 1, none⟩ = some (.int .u64 a0_1) := (blk_cell BK129.out 1).trans rfl; have hcz22_2 : w18.cell? ⟨gb129, 2, none⟩ = some (.string a0_2) := (blk_cell BK129.out 2).trans rfl; have hcz22_3 : w18.cell? ⟨gb129, 3, none⟩ = some (.slice A0_3 l0_3.length c0_3) := (blk_cell BK129.out 3).trans rfl; have hcz22_4 : w18.cell? ⟨gb129, 4, none⟩ = some (.slice A0_4 l0_4.length c0_4) := (blk_cell BK129.out 4).trans rfl; have hcz22_5 : w18.cell? ⟨gb129, 5, none⟩ = some (.bool a0_5) := (blk_cell BK129.out 5).trans rfl; have hcz22_6 : w18.cell? ⟨gb129, 6, none⟩ = some (.bool true) := (blk_cell BK129.out 6).trans rfl; have hcz22_7 : w18.cell? ⟨gb129, 7, none⟩ = some (.bool a0_7) := (blk_cell BK129.out 7).trans rfl; have hfz22_0 := blk_frozen BK129.out 0; have hfz22_1 := blk_frozen BK129.out 1; have hfz22_2 := blk_frozen BK129.out 2; have hfz22_3 := blk_frozen BK129.out 3; have hfz22_4 := blk_frozen BK129.out 4; have hfz22_5 := blk_frozen BK129.out 5; have hfz22_6 := blk_frozen BK129.out 6; have hfz22_7 := blk_frozen BK129.out 7) | ((with_reducible refine gate_callee (f := 33) rfl ?_); refine goesL_ (some 22) rfl rfl Try.func33 (by kernel_rfl) rfl #[.slice A0_4 l0_4.length c0_4, .agg #[.int .u64 t131, .int .u64 t132]] rfl (by (try simp only [List.map_toArray, List.map_cons, List.map_nil]); first | done | rfl | (simp only [List.length_drop, List.length_take]; rfl)) ?_; (with_reducible refine (ranges_Cut.calls k _ _ l0_4 t131 t132 t135 _ ?side1 ?side2 A7.out).mono ?_); (case side1 => exact Kd.C_below HR0_4.out (by repeat (first | (with_reducible first | exact HB.out | apply below_alloc | apply pw_below_drewN | apply below_drew1 | refine below_set ?_ GE129.out | refine below_set ?_ GE130.out | refine below_set ?_ GE134.out) | exact HB.out))); (case side2 => exact HC0_4.out); rintro e w23 ⟨v136, rfl, ho0, hb⟩; refine ⟨_, rfl, ?_⟩; have n0_ := Aside0.mk (Kd.V_elder' (by (with_reducible repeat (first | apply Kd.V_alloc | apply Kd.V_drewN | apply Kd.V_drew)); exact (Kd.V_mono (Kd.V_far (p := ⟨gb134, 1, none⟩) (Kd.V_far (p := ⟨gb134, 0, none⟩) (Kd.V_mono HO0_3.out (fun k_ hk => (⟨hk, hk.2⟩ : _ ∧ k_ ≠ gb134))) (fun _ hk => hk.2) (.int .u64 t131)) (fun _ hk => hk.2) (.int .u64 t132)) (fun _ h_ => h_.1))) (Kd.R_base ho0) hb); have n1_ := Aside0.mk (Kd.R_lower (Kd.R_newB (Kd.R_newM (M := fun k_ => (w.heap.size ≤ k_)) ho0 (below_size (by repeat (first | (with_reducible first | exact HB.out | apply below_alloc | apply pw_below_drewN | apply below_drew1 | refine below_set ?_ GE129.out | refine below_set ?_ GE130.out | refine below_set ?_ GE134.out) | exact HB.out))) (fun k_ h_ => h_)) (g := gb134) (o := .cells #[.int .u64 t131, .int .u64 t132] 67 (0, 0)) (by (with_reducible repeat (first | refine blk_drewN ?_ _ | refine blk_drew ?_ | refine blk_alloc ?_ _)); refine blk_put (cs := #[.int .u64 t131, .int .u64 0]) ?_ 1 _ rfl; (with_reducible repeat (first | refine blk_drewN ?_ _ | refine blk_drew ?_ | refine blk_alloc ?_ _)); refine blk_put (cs := #[.int .u64 0, .int .u64 0]) ?_ 0 _ rfl; (with_reducible repeat (first | refine blk_drewN ?_ _ | refine blk_drew ?_ | refine blk_alloc ?_ _)); exact BK134.out)) (below_size (by repeat (first | (with_reducible first | exact HB.out | apply below_alloc | apply pw_below_drewN | apply below_drew1 | refine below_set ?_ GE129.out | refine below_set ?_ GE130.out | refine below_set ?_ GE134.out) | exact HB.out)))); have n2_ := Aside0.mk (blk_below (g := gb129) (o := .cells #[.int .u64 a0_0, .int .u64 a0_1, .string a0_2, .slice A0_3 l0_3.length c0_3, .slice A0_4 l0_4.length c0_4, .bool a0_5, .bool true, .bool a0_7] 29 (0, 0)) (by (with_reducible repeat (first | refine blk_drewN ?_ _ | refine blk_drew ?_ | refine blk_alloc ?_ _)); refine blk_far ?_ NB129_134.out _; (with_reducible repeat (first | refine blk_drewN ?_ _ | refine blk_drew ?_ | refine blk_alloc ?_ _)); refine blk_far ?_ NB129_134.out _; (with_reducible repeat (first | refine blk_drewN ?_ _ | refine blk_drew ?_ | refine blk_alloc ?_ _)); exact BK129.out) hb); have n3_ := Aside0.mk (blk_below (g := gb130) (o := .cells #[.int .u64 0, .int .u64 0, .string (⟨#[]⟩ : ByteArray), .slice none 0 0, .slice none 0 0, .bool false, .bool false, .bool false] 29 (0, 0)) (by (with_reducible repeat (first | refine blk_drewN ?_ _ | refine blk_drew ?_ | refine blk_alloc ?_ _)); refine blk_far ?_ NB130_134.out _; (with_reducible repeat (first | refine blk_drewN ?_ _ | refine blk_drew ?_ | refine blk_alloc ?_ _)); refine blk_far ?_ NB130_134.out _; (with_reducible repeat (first | refine blk_drewN ?_ _ | refine blk_drew ?_ | refine blk_alloc ?_ _)); exact BK130.out) hb); have n4_ := Aside0.mk (blk_below (g := gb134) (o := .cells #[.int .u64 t131, .int .u64 t132] 67 (0, 0)) (by (with_reducible repeat (first | refine blk_drewN ?_ _ | refine blk_drew ?_ | refine blk_alloc ?_ _)); refine blk_put (cs := #[.int .u64 t131, .int .u64 0]) ?_ 1 _ rfl; (with_reducible repeat (first | refine blk_drewN ?_ _ | refine blk_drew ?_ | refine blk_alloc ?_ _)); refine blk_put (cs := #[.int .u64 0, .int .u64 0]) ?_ 0 _ rfl; (with_reducible repeat (first | refine blk_drewN ?_ _ | refine blk_drew ?_ | refine blk_alloc ?_ _)); exact BK134.out) hb); have n5_ := Aside0.mk (below_step (by repeat (first | (with_reducible first | exact HB.out | apply below_alloc | apply pw_below_drewN | apply below_drew1 | refine below_set ?_ GE129.out | refine below_set ?_ GE130.out | refine below_set ?_ GE134.out) | exact HB.out)) hb); clear HO0_3; clear BK129; clear BK130; clear BK134; clear HB; have HO0_3 := n0_; have HO137 := n1_; have BK129 := n2_; have BK130 := n3_; have BK134 := n4_; have HB := n5_; clear n0_ n1_ n2_ n3_ n4_ n5_; (try clear hb); (try clear hb2); (try clear hk); (try clear hi); (try clear ho0); obtain ⟨Ao24, co24, eo24⟩ := Kd.R_slice HO137.out; subst eo24; have hcz25_0 : w23.cell? ⟨gb129, 0, none⟩ = some (.int .u64 a0_0) := (blk_cell BK129.out 0).trans rfl; have hcz25_1 : w23.cell? ⟨gb129, 1, none⟩ = some (.int .u64 a0_1) := (blk_cell BK129.out 1).trans rfl; have hcz25_2 : w23.cell? ⟨gb129, 2, none⟩ = some (.string a0_2) := (blk_cell BK129.out 2).trans rfl; have hcz25_3 : w23.cell? ⟨gb129, 3, none⟩ = some (.slice A0_3 l0_3.length c0_3) := (blk_cell BK129.out 3).trans rfl; have hcz25_4 : w23.cell? ⟨gb129, 4, none⟩ = some (.slice A0_4 l0_4.length c0_4) := (blk_cell BK129.out 4).trans rfl; have hcz25_5 : w23.cell? ⟨gb129, 5, none⟩ = some (.bool a0_5) := (blk_cell BK129.out 5).trans rfl; have hcz25_6 : w23.cell? ⟨gb129, 6, none⟩ = some (.bool true) := (blk_cell BK129.out 6).trans rfl; have hcz25_7 : w23.cell? ⟨gb129, 7, none⟩ = some (.bool a0_7) := (blk_cell BK129.out 7).trans rfl; have hfz25_0 := blk_frozen BK129.out 0; have hfz25_1 := blk_frozen BK129.out 1; have hfz25_2 := blk_frozen BK129.out 2; have hfz25_3 := blk_frozen BK129.out 3; have hfz25_4 := blk_frozen BK129.out 4; have hfz25_5 := blk_frozen BK129.out 5; have hfz25_6 := blk_frozen BK129.out 6; have hfz25_7 := blk_frozen BK129.out 7))
   have n0_ : Aside0 (Kd.V k67 67 (w23.setCell ⟨gb129, 4, none⟩ (.slice Ao24 t135.length co24)) w.heap.size (fun k_ => (P0_3_ k_ ∨ w.heap.size ≤ k_) ∧ some k_ ≠ (.slice Ao24 t135.length co24 : Value).ownBlock ∧ k_ ≠ gb129 ∧ k_ ≠ gb130 ∧ k_ ≠ gb134) (.slice A0_3 l0_3.length c0_3) l0_3) := ⟨by (with_reducible repeat (first | apply Kd.V_alloc | apply Kd.V_drewN | apply Kd.V_drew)); exact Kd.V_mono (Kd.V_far (p := ⟨gb129, 4, none⟩) (Kd.V_mono HO0_3.out (fun k_ hk => (⟨hk, hk.1.1.1.2⟩ : _ ∧ k_ ≠ gb129))) (fun _ hk => hk.2) (.slice Ao24 t135.length co24)) (fun _ hk => ⟨hk.1.1.1.1.1, ⟨hk.1.2, ⟨hk.1.1.1.1.2, ⟨hk.1.1.1.2, hk.1.1.2⟩⟩⟩⟩)⟩
   have n1_ : Aside0 (Kd.R k67 67 (w23.setCell ⟨gb129, 4, none⟩ (.slice Ao24 t135.length co24)) w.heap.size (fun k_ => (w.heap.size ≤ k_) ∧ k_ ≠ gb134) (.slice Ao24 t135.length co24) t135) := ⟨by (with_reducible repeat (first | apply Kd.R_alloc | apply Kd.R_drewN | apply Kd.R_drew)); exact Kd.R_mono (Kd.R_far (p := ⟨gb129, 4, none⟩) (Kd.R_types HO137.out BK129.out (by decide)) (fun _ hk => hk.2) (.slice Ao24 t135.length co24)) (fun _ hk => ⟨hk.1.1.1, hk.1.2⟩)⟩
   have n2_ : Aside0 ((w23.setCell ⟨gb129, 4, none⟩ (.slice Ao24 t135.length co24)).heap[gb129]? = some (.cells #[.int .u64 a0_0, .int .u64 a0_1, .string a0_2, .slice A0_3 l0_3.length c0_3, .slice Ao24 t135.length co24, .bool a0_5, .bool true, .bool a0_7] 29 (0, 0))) := ⟨by (with_reducible repeat (first | refine blk_drewN ?_ _ | refine blk_drew ?_ | refine blk_alloc ?_ _)); refine blk_put (cs := #[.int .u64 a0_0, .int .u64 a0_1, .string a0_2, .slice A0_3 l0_3.length c0_3, .slice A0_4 l0_4.length c0_4, .bool a0_5, .bool true, .bool a0_7]) ?_ 4 _ rfl; (with_reducible repeat (first | refine blk_drewN ?_ _ | refine blk_drew ?_ | refine blk_alloc ?_ _)); exact BK129.out⟩
   have n3_ : Aside0 ((w23.setCell ⟨gb129, 4, none⟩ (.slice Ao24 t135.length co24)).heap[gb130]? = some (.cells #[.int .u64 0, .int .u64 0, .string (⟨#[]⟩ : ByteArray), .slice none 0 0, .slice none 0 0, .bool false, .bool false, .bool false] 29 (0, 0))) := ⟨by (with_reducible repeat (first | refine blk_drewN ?_ _ | refine blk_drew ?_ | refine blk_alloc ?_ _)); refine blk_far ?_ NB130_129.out _; (with_reducible repeat (first | refine blk_drewN ?_ _ | refine blk_drew ?_ | refine blk_alloc ?_ _)); exact BK130.out⟩
   have n4_ : Aside0 ((w23.setCell ⟨gb129, 4, none⟩ (.slice Ao24 t135.length co24)).heap[gb134]? = some (.cells #[.int .u64 t131, .int .u64 t132] 67 (0, 0))) := ⟨by (with_reducible repeat (first | refine blk_drewN ?_ _ | refine blk_drew ?_ | refine blk_alloc ?_ _)); refine blk_far ?_ NB134_129.out _; (with_reducible repeat (first | refine blk_drewN ?_ _ | refine blk_drew ?_ | refine blk_alloc ?_ _)); exact BK134.out⟩
   have n5_ : Aside0 (Below w.heap.size w (w23.setCell ⟨gb129, 4, none⟩ (.slice Ao24 t135.length co24))) := ⟨by repeat (first | (with_reducible first | exact HB.out | apply below_alloc | apply pw_below_drewN | apply below_drew1 | refine below_set ?_ GE129.out | refine below_set ?_ GE130.out | refine below_set ?_ GE134.out) | exact HB.out)⟩
   (try clear HO0_3)
   (try clear HO137)
   (try clear BK129)
   (try clear BK130)
   (try clear BK134)
   (try clear HB)
   generalize (w23.setCell ⟨gb129, 4, none⟩ (.slice Ao24 t135.length co24)) = w26 at n0_ n1_ n2_ n3_ n4_ n5_ ⊢
   have HO0_3 := n0_
   have HO137 := n1_
   have BK129 := n2_
   have BK130 := n3_
   have BK134 := n4_
   have HB := n5_
   clear n0_ n1_ n2_ n3_ n4_ n5_
   have n0_ := Aside0.mk (Kd.V_drew HO0_3.out)
   have n1_ := Aside0.mk (Kd.R_drew HO137.out)
   have n2_ := Aside0.mk (blk_drew BK129.out)
   have n3_ := Aside0.mk (blk_drew BK130.out)
   have n4_ := Aside0.mk (blk_drew BK134.out)
   have n5_ := Aside0.mk (below_drew1 HB.out)
   clear HO0_3
   clear HO137
   clear BK129
   clear BK130
   clear BK134
   clear HB
   have HO0_3 := n0_
   have HO137 := n1_
   have BK129 := n2_
   have BK130 := n3_
   have BK134 := n4_
   have HB := n5_
   clear n0_ n1_ n2_ n3_ n4_ n5_
   refine start_ (n := 13) (S := fun w' => w'.cell? ⟨gb129, 0, none⟩ = some (.int .u64 a0_0) ∧ w'.cell? ⟨gb129, 1, none⟩ = some (.int .u64 a0_1) ∧ w'.cell? ⟨gb129, 2, none⟩ = some (.string a0_2) ∧ w'.cell? ⟨gb129, 3, none⟩ = some (.slice A0_3 l0_3.length c0_3) ∧ w'.cell? ⟨gb129, 4, none⟩ = some (.slice Ao24 t135.length co24) ∧ w'.cell? ⟨gb129, 5, none⟩ = some (.bool a0_5) ∧ w'.cell? ⟨gb129, 6, none⟩ = some (.bool true) ∧ w'.cell? ⟨gb129, 7, none⟩ = some (.bool a0_7)) (ds := [12]) #[false,false,false,false,false,false,false,false,false,false,false,false,false] (by kernel_rfl) rfl rfl ⟨(blk_cell BK129.out 0).trans rfl, (blk_cell BK129.out 1).trans rfl, (blk_cell BK129.out 2).trans rfl, (blk_cell BK129.out 3).trans rfl, (blk_cell BK129.out 4).trans rfl, (blk_cell BK129.out 5).trans rfl, (blk_cell BK129.out 6).trans rfl, (blk_cell BK129.out 7).trans rfl⟩ (fun hHeld => ?_); refine with_tabW sendq_Sent.tab4 sendq_Sent.bits4 (fun HT_ HW_ => ?_)
   generalize w26.drew = w27 at HO0_3 HO137 BK129 BK130 BK134 HB hHeld ⊢
   refine pure_ (i := 0) (N := some 24) (v := ?_) (a' := ?_) #[true,false,false,false,false,false,false,false,false,false,false,false,false] rfl rfl (any_of HT_.out (by kernel_rfl)) (fun _ _ _ h => h) (Or.inl ⟨by rfl, ?_⟩) ?_ ?_
   rotate_left;(intro w';go_simp;with_reducible rfl);rotate_left;(simp only [Act.put, List.setIfInBounds_toArray, List.set_cons_zero, List.set_cons_succ, i64_w, i32_w];rfl)
   refine pure_ (i := 2) (N := some 26) (v := ?_) (a' := ?_) #[true,false,true,false,false,false,false,false,false,false,false,false,false] rfl rfl (any_of HT_.out (by kernel_rfl)) (fun _ _ _ h => h) (Or.inl ⟨by rfl, ?_⟩) ?_ ?_
   rotate_left;(intro w';go_simp;with_reducible rfl);rotate_left;(simp only [Act.put, List.setIfInBounds_toArray, List.set_cons_zero, List.set_cons_succ, i64_w, i32_w];rfl)
   refine pure_ (i := 3) (N := some 27) (v := ?_) (a' := ?_) #[true,false,true,true,false,false,false,false,false,false,false,false,false] rfl rfl (any_of HT_.out (by kernel_rfl)) (fun _ _ _ h => h) (Or.inl ⟨by rfl, ?_⟩) ?_ ?_
   rotate_left;(intro w';go_simp;with_reducible rfl);rotate_left;(simp only [Act.put, List.setIfInBounds_toArray, List.set_cons_zero, List.set_cons_succ, i64_w, i32_w];rfl)
   refine pure_ (i := 4) (N := some 28) (v := ?_) (a' := ?_) #[true,false,true,true,true,false,false,false,false,false,false,false,false] rfl rfl (any_of HT_.out (by kernel_rfl)) (fun _ _ _ h => h) (Or.inl ⟨by rfl, ?_⟩) ?_ ?_
   rotate_left;(intro w';go_simp;with_reducible rfl);rotate_left;(simp only [Act.put, List.setIfInBounds_toArray, List.set_cons_zero, List.set_cons_succ, i64_w, i32_w];rfl)
   refine pure_ (i := 5) (N := some 29) (v := ?_) (a' := ?_) #[true,false,true,true,true,true,false,false,false,false,false,false,false] rfl rfl (any_of HT_.out (by kernel_rfl)) (fun _ _ _ h => h) (Or.inl ⟨by rfl, ?_⟩) ?_ ?_
   rotate_left;(intro w';go_simp;with_reducible rfl);rotate_left;(simp only [Act.put, List.setIfInBounds_toArray, List.set_cons_zero, List.set_cons_succ, i64_w, i32_w];rfl)
   refine pure_ (i := 6) (N := some 30) (v := ?_) (a' := ?_) #[true,false,true,true,true,true,true,false,false,false,false,false,false] rfl rfl (any_of HT_.out (by kernel_rfl)) (fun _ _ _ h => h) (Or.inl ⟨by rfl, ?_⟩) ?_ ?_
   rotate_left;(intro w';go_simp;with_reducible rfl);rotate_left;(simp only [Act.put, List.setIfInBounds_toArray, List.set_cons_zero, List.set_cons_succ, i64_w, i32_w];rfl)
   refine take_ (i := 1) (N := some 25) (v := ?_) (a' := ?_) #[true,true,true,true,true,true,true,false,false,false,false,false,false] rfl rfl (take_ofW HT_.out HW_.out (by kernel_rfl)) (fun _ _ _ h => h) (Or.inl ⟨by rfl, ?_⟩) hHeld ?_ ?_
   rotate_left
   ·rintro w' ⟨s0, s1, s2, s3, s4, s5, s6, s7⟩
    go_simp
    with_reducible rfl
   rotate_left
   ·simp only [Act.put, List.setIfInBounds_toArray, List.set_cons_zero, List.set_cons_succ, i64_w, i32_w]
    rfl
   refine take_ (i := 7) (N := some 31) (v := ?_) (a' := ?_) #[true,true,true,true,true,true,true,true,false,false,false,false,false] rfl rfl (take_ofW HT_.out HW_.out (by kernel_rfl)) (fun _ _ _ h => h) (Or.inl ⟨by rfl, ?_⟩) hHeld ?_ ?_
   rotate_left
   ·rintro w' ⟨s0, s1, s2, s3, s4, s5, s6, s7⟩
    go_simp
    with_reducible rfl
   rotate_left
   ·simp only [Act.put, List.setIfInBounds_toArray, List.set_cons_zero, List.set_cons_succ, i64_w, i32_w]
    rfl
   refine one_ (i := 8) (N := some 32) #[true,true,true,true,true,true,true,true,true,false,false,false,false] rfl rfl (one_of HT_.out (by kernel_rfl)) (by decide) (fun K hK => ?_)
   refine goes_ Try.func29 (by kernel_rfl) rfl #[.agg #[.int .u64 a0_0, .int .u64 a0_1, .string a0_2, .slice A0_3 l0_3.length c0_3, .slice Ao24 t135.length co24, .bool a0_5, .bool true, .bool a0_7]] (by rfl) rfl rfl (by (try simp only [List.map_toArray, List.map_cons, List.map_nil]); first | done | rfl | (simp only [List.length_drop, List.length_take]; rfl)) ?_
   with_reducible refine (sendq_State_end.calls a0_0 a0_1 a0_2 _ _ l0_3 _ _ t135 a0_5 true a0_7 t138 _ ?side1 ?side2 ?side3 ?side4 A9.out).mono ?_
   (case side1 => repeat (first | exact (Kd.V_reads' HO0_3.out).2.2 | (with_reducible refine Kd.C_alloc ?_ _) | (with_reducible refine Kd.C_drewN ?_ _) | (with_reducible refine Kd.C_drew ?_)))
   (case side2 => exact (Kd.V_reads' HO0_3.out).2.1)
   (case side3 => repeat (first | exact (Kd.R_reads' HO137.out).2.2 | (with_reducible refine Kd.C_alloc ?_ _) | (with_reducible refine Kd.C_drewN ?_ _) | (with_reducible refine Kd.C_drew ?_)))
   (case side4 => exact (Kd.R_reads' HO137.out).2.1)
   rintro e w28 ⟨rfl, hb⟩
   refine ⟨_, rfl, ?_⟩
   have n0_ := Aside0.mk (Kd.V_below (by (with_reducible repeat (first | apply Kd.V_alloc | apply Kd.V_drewN | apply Kd.V_drew)); exact HO0_3.out) hb)
   have n1_ := Aside0.mk (Kd.R_below (by (with_reducible repeat (first | apply Kd.R_alloc | apply Kd.R_drewN | apply Kd.R_drew)); exact HO137.out) hb)
   have n2_ := Aside0.mk (blk_below (g := gb129) (o := .cells #[.int .u64 a0_0, .int .u64 a0_1, .string a0_2, .slice A0_3 l0_3.length c0_3, .slice Ao24 t135.length co24, .bool a0_5, .bool true, .bool a0_7] 29 (0, 0)) (by (with_reducible repeat (first | refine blk_drewN ?_ _ | refine blk_drew ?_ | refine blk_alloc ?_ _)); exact BK129.out) hb)
   have n3_ := Aside0.mk (blk_below (g := gb130) (o := .cells #[.int .u64 0, .int .u64 0, .string (⟨#[]⟩ : ByteArray), .slice none 0 0, .slice none 0 0, .bool false, .bool false, .bool false] 29 (0, 0)) (by (with_reducible repeat (first | refine blk_drewN ?_ _ | refine blk_drew ?_ | refine blk_alloc ?_ _)); exact BK130.out) hb)
   have n4_ := Aside0.mk (blk_below (g := gb134) (o := .cells #[.int .u64 t131, .int .u64 t132] 67 (0, 0)) (by (with_reducible repeat (first | refine blk_drewN ?_ _ | refine blk_drew ?_ | refine blk_alloc ?_ _)); exact BK134.out) hb)
   have n5_ := Aside0.mk (below_step (by repeat (first | (with_reducible first | exact HB.out | apply below_alloc | apply pw_below_drewN | apply below_drew1 | refine below_set ?_ GE129.out | refine below_set ?_ GE130.out | refine below_set ?_ GE134.out) | exact HB.out)) hb)
   clear HO0_3
   clear HO137
   clear BK129
   clear BK130
   clear BK134
   clear HB
   have HO0_3 := n0_
   have HO137 := n1_
   have BK129 := n2_
   have BK130 := n3_
   have BK134 := n4_
   have HB := n5_
   clear n0_ n1_ n2_ n3_ n4_ n5_
   (try clear hb)
   (try clear hb2)
   (try clear hk)
   (try clear hi)
   refine hK.out _ _ ⟨(blk_cell BK129.out 0).trans rfl, (blk_cell BK129.out 1).trans rfl, (blk_cell BK129.out 2).trans rfl, (blk_cell BK129.out 3).trans rfl, (blk_cell BK129.out 4).trans rfl, (blk_cell BK129.out 5).trans rfl, (blk_cell BK129.out 6).trans rfl, (blk_cell BK129.out 7).trans rfl⟩ (fun hHeld => ?_)
   clear hK K
   refine norm_ (a' := ?_) ?_ ?_
   rotate_left
   ·show Act.put _ (some 32) _ = _
    simp only [Act.put, List.setIfInBounds_toArray, List.set_cons_zero, List.set_cons_succ, i64_w, i32_w]
    rfl
   refine pure_ (i := 9) (N := some 33) (v := ?_) (a' := ?_) #[true,true,true,true,true,true,true,true,true,true,false,false,false] rfl rfl (any_of HT_.out (by kernel_rfl)) (fun _ _ _ h => h) (Or.inl ⟨by rfl, ?_⟩) ?_ ?_
   rotate_left;(intro w';go_simp;with_reducible rfl);rotate_left;(simp only [Act.put, List.setIfInBounds_toArray, List.set_cons_zero, List.set_cons_succ, i64_w, i32_w];rfl)
   refine pure_ (i := 10) (N := some 34) (v := ?_) (a' := ?_) #[true,true,true,true,true,true,true,true,true,true,true,false,false] rfl rfl (any_of HT_.out (by kernel_rfl)) (fun _ _ _ h => h) (Or.inl ⟨by rfl, ?_⟩) ?_ ?_
   rotate_left;(intro w';go_simp;with_reducible rfl);rotate_left;(simp only [Act.put, List.setIfInBounds_toArray, List.set_cons_zero, List.set_cons_succ, i64_w, i32_w];rfl)
   refine pure_ (i := 11) (N := some 35) (v := ?_) (a' := ?_) #[true,true,true,true,true,true,true,true,true,true,true,true,false] rfl rfl (any_of HT_.out (by kernel_rfl)) (fun _ _ _ h => h) (Or.inl ⟨by rfl, ?_⟩) ?_ ?_
   rotate_left;(intro w';go_simp;with_reducible rfl);rotate_left;(simp only [Act.put, List.setIfInBounds_toArray, List.set_cons_zero, List.set_cons_succ, i64_w, i32_w];rfl)
   refine last_ (i := 12) (N := none) #[true,true,true,true,true,true,true,true,true,true,true,true,true] rfl rfl (one_of HT_.out (by kernel_rfl)) (by decide) (fun K hK => ?_)
   have hs29 : w28.cell? ⟨gb129, 1, none⟩ = some (.int .u64 a0_1) := (blk_cell BK129.out 1).trans rfl
   have hfs29 := blk_frozen BK129.out 1
   have hns29_1 := NB130_129.out
   have hns29_2 := NB134_129.out
   have hms29_1 := NB129_130.out
   have hms29_2 := NB129_134.out
   refine skip_ (w1 := ?_) (by rfl) rfl ?_ ?_
   rotate_left
   ·go_simp
    rfl
   refine hK.out _ _ ?_
   clear hK K
   refine done_ (done_of HT_.out (by kernel_rfl)) ?_
   have hcz30_0 : w28.cell? ⟨gb129, 0, none⟩ = some (.int .u64 a0_0) := (blk_cell BK129.out 0).trans rfl
   have hcz30_1 : w28.cell? ⟨gb129, 1, none⟩ = some (.int .u64 a0_1) := (blk_cell BK129.out 1).trans rfl
   have hcz30_2 : w28.cell? ⟨gb129, 2, none⟩ = some (.string a0_2) := (blk_cell BK129.out 2).trans rfl
   have hcz30_3 : w28.cell? ⟨gb129, 3, none⟩ = some (.slice A0_3 l0_3.length c0_3) := (blk_cell BK129.out 3).trans rfl
   have hcz30_4 : w28.cell? ⟨gb129, 4, none⟩ = some (.slice Ao24 t135.length co24) := (blk_cell BK129.out 4).trans rfl
   have hcz30_5 : w28.cell? ⟨gb129, 5, none⟩ = some (.bool a0_5) := (blk_cell BK129.out 5).trans rfl
   have hcz30_6 : w28.cell? ⟨gb129, 6, none⟩ = some (.bool true) := (blk_cell BK129.out 6).trans rfl
   have hcz30_7 : w28.cell? ⟨gb129, 7, none⟩ = some (.bool a0_7) := (blk_cell BK129.out 7).trans rfl
   have hfz30_0 := blk_frozen BK129.out 0
   have hfz30_1 := blk_frozen BK129.out 1
   have hfz30_2 := blk_frozen BK129.out 2
   have hfz30_3 := blk_frozen BK129.out 3
   have hfz30_4 := blk_frozen BK129.out 4
   have hfz30_5 := blk_frozen BK129.out 5
   have hfz30_6 := blk_frozen BK129.out 6
   have hfz30_7 := blk_frozen BK129.out 7
   have hcz31_0 : w28.cell? ⟨gb130, 0, none⟩ = some (.int .u64 0) := (blk_cell BK130.out 0).trans rfl
   have hcz31_1 : w28.cell? ⟨gb130, 1, none⟩ = some (.int .u64 0) := (blk_cell BK130.out 1).trans rfl
   have hcz31_2 : w28.cell? ⟨gb130, 2, none⟩ = some (.string (⟨#[]⟩ : ByteArray)) := (blk_cell BK130.out 2).trans rfl
   have hcz31_3 : w28.cell? ⟨gb130, 3, none⟩ = some (.slice none 0 0) := (blk_cell BK130.out 3).trans rfl
   have hcz31_4 : w28.cell? ⟨gb130, 4, none⟩ = some (.slice none 0 0) := (blk_cell BK130.out 4).trans rfl
   have hcz31_5 : w28.cell? ⟨gb130, 5, none⟩ = some (.bool false) := (blk_cell BK130.out 5).trans rfl
   have hcz31_6 : w28.cell? ⟨gb130, 6, none⟩ = some (.bool false) := (blk_cell BK130.out 6).trans rfl
   have hcz31_7 : w28.cell? ⟨gb130, 7, none⟩ = some (.bool false) := (blk_cell BK130.out 7).trans rfl
   have hfz31_0 := blk_frozen BK130.out 0
   have hfz31_1 := blk_frozen BK130.out 1
   have hfz31_2 := blk_frozen BK130.out 2
   have hfz31_3 := blk_frozen BK130.out 3
   have hfz31_4 := blk_frozen BK130.out 4
   have hfz31_5 := blk_frozen BK130.out 5
   have hfz31_6 := blk_frozen BK130.out 6
   have hfz31_7 := blk_frozen BK130.out 7
   try go_wp2
   refine bodyPost_ret (results_cell_row rfl _ _ gb130 29 #[.int .u64 a0_0, .int .u64 ji11, .string a0_2, .slice A0_3 l0_3.length c0_3, .slice Ao24 t135.length co24, .bool a0_5, .bool (!a3), .bool a0_7] (0, 0) _ rfl (by (with_reducible repeat (first | refine blk_drewN ?_ _ | refine blk_drew ?_ | refine blk_alloc ?_ _)); refine blk_put (cs := #[.int .u64 a0_0, .int .u64 ji11, .string a0_2, .slice A0_3 l0_3.length c0_3, .slice Ao24 t135.length co24, .bool a0_5, .bool (!a3), .bool false]) ?_ 7 _ rfl; (with_reducible repeat (first | refine blk_drewN ?_ _ | refine blk_drew ?_ | refine blk_alloc ?_ _)); refine blk_put (cs := #[.int .u64 a0_0, .int .u64 ji11, .string a0_2, .slice A0_3 l0_3.length c0_3, .slice Ao24 t135.length co24, .bool a0_5, .bool false, .bool false]) ?_ 6 _ rfl; (with_reducible repeat (first | refine blk_drewN ?_ _ | refine blk_drew ?_ | refine blk_alloc ?_ _)); refine blk_put (cs := #[.int .u64 a0_0, .int .u64 ji11, .string a0_2, .slice A0_3 l0_3.length c0_3, .slice Ao24 t135.length co24, .bool false, .bool false, .bool false]) ?_ 5 _ rfl; (with_reducible repeat (first | refine blk_drewN ?_ _ | refine blk_drew ?_ | refine blk_alloc ?_ _)); refine blk_put (cs := #[.int .u64 a0_0, .int .u64 ji11, .string a0_2, .slice A0_3 l0_3.length c0_3, .slice none 0 0, .bool false, .bool false, .bool false]) ?_ 4 _ rfl; (with_reducible repeat (first | refine blk_drewN ?_ _ | refine blk_drew ?_ | refine blk_alloc ?_ _)); refine blk_put (cs := #[.int .u64 a0_0, .int .u64 ji11, .string a0_2, .slice none 0 0, .slice none 0 0, .bool false, .bool false, .bool false]) ?_ 3 _ rfl; (with_reducible repeat (first | refine blk_drewN ?_ _ | refine blk_drew ?_ | refine blk_alloc ?_ _)); refine blk_put (cs := #[.int .u64 a0_0, .int .u64 ji11, .string (⟨#[]⟩ : ByteArray), .slice none 0 0, .slice none 0 0, .bool false, .bool false, .bool false]) ?_ 2 _ rfl; (with_reducible repeat (first | refine blk_drewN ?_ _ | refine blk_drew ?_ | refine blk_alloc ?_ _)); refine blk_put (cs := #[.int .u64 a0_0, .int .u64 0, .string (⟨#[]⟩ : ByteArray), .slice none 0 0, .slice none 0 0, .bool false, .bool false, .bool false]) ?_ 1 _ rfl; (with_reducible repeat (first | refine blk_drewN ?_ _ | refine blk_drew ?_ | refine blk_alloc ?_ _)); refine blk_put (cs := #[.int .u64 0, .int .u64 0, .string (⟨#[]⟩ : ByteArray), .slice none 0 0, .slice none 0 0, .bool false, .bool false, .bool false]) ?_ 0 _ rfl; (with_reducible repeat (first | refine blk_drewN ?_ _ | refine blk_drew ?_ | refine blk_alloc ?_ _)); refine blk_far ?_ NB130_129.out _; (with_reducible repeat (first | refine blk_drewN ?_ _ | refine blk_drew ?_ | refine blk_alloc ?_ _)); refine blk_far ?_ NB130_129.out _; (with_reducible repeat (first | refine blk_drewN ?_ _ | refine blk_drew ?_ | refine blk_alloc ?_ _)); exact BK130.out) Try.underlying29 rfl (by kernel_rfl)) rfl ?_
   exact ⟨_, _, by first | rfl | (simp [errW_none, errW_some] <;> rfl) | (simp only [← hji8, ← hji10, ← hji11]; first | rfl | (simp [errW_none, errW_some] <;> rfl)) | (simp [*, errW_none, errW_some] <;> rfl), by (with_reducible repeat (first | apply Kd.V_alloc | apply Kd.V_drewN | apply Kd.V_drew)); exact Kd.V_mono (Kd.V_far (p := ⟨gb130, 7, none⟩) (Kd.V_far (p := ⟨gb130, 6, none⟩) (Kd.V_far (p := ⟨gb130, 5, none⟩) (Kd.V_far (p := ⟨gb130, 4, none⟩) (Kd.V_far (p := ⟨gb130, 3, none⟩) (Kd.V_far (p := ⟨gb130, 2, none⟩) (Kd.V_far (p := ⟨gb130, 1, none⟩) (Kd.V_far (p := ⟨gb130, 0, none⟩) (Kd.V_far (p := ⟨gb129, 6, none⟩) (Kd.V_far (p := ⟨gb129, 1, none⟩) (Kd.V_mono (Kd.V_mono HO0_3.out (fun k_ hk => (⟨hk, hk.2.2.1⟩ : _ ∧ k_ ≠ gb129))) (fun k_ hk => (⟨hk, hk.1.2.2.2.1⟩ : _ ∧ k_ ≠ gb130))) (fun _ hk => hk.1.2) (.int .u64 ji11)) (fun _ hk => hk.1.2) (.bool (!a3))) (fun _ hk => hk.2) (.int .u64 a0_0)) (fun _ hk => hk.2) (.int .u64 ji11)) (fun _ hk => hk.2) (.string a0_2)) (fun _ hk => hk.2) (.slice A0_3 l0_3.length c0_3)) (fun _ hk => hk.2) (.slice Ao24 t135.length co24)) (fun _ hk => hk.2) (.bool a0_5)) (fun _ hk => hk.2) (.bool (!a3))) (fun _ hk => hk.2) (.bool a0_7)) (fun _ hk => ⟨hk.1.1.1, hk.1.1.2.1⟩), by (with_reducible repeat (first | apply Kd.R_alloc | apply Kd.R_drewN | apply Kd.R_drew)); exact Kd.R_mono (Kd.R_far (p := ⟨gb130, 7, none⟩) (Kd.R_far (p := ⟨gb130, 6, none⟩) (Kd.R_far (p := ⟨gb130, 5, none⟩) (Kd.R_far (p := ⟨gb130, 4, none⟩) (Kd.R_far (p := ⟨gb130, 3, none⟩) (Kd.R_far (p := ⟨gb130, 2, none⟩) (Kd.R_far (p := ⟨gb130, 1, none⟩) (Kd.R_far (p := ⟨gb130, 0, none⟩) (Kd.R_far (p := ⟨gb129, 6, none⟩) (Kd.R_far (p := ⟨gb129, 1, none⟩) (Kd.R_types (Kd.R_types HO137.out BK129.out (by decide)) BK130.out (by decide)) (fun _ hk => hk.1.2) (.int .u64 ji11)) (fun _ hk => hk.1.2) (.bool (!a3))) (fun _ hk => hk.2) (.int .u64 a0_0)) (fun _ hk => hk.2) (.int .u64 ji11)) (fun _ hk => hk.2) (.string a0_2)) (fun _ hk => hk.2) (.slice A0_3 l0_3.length c0_3)) (fun _ hk => hk.2) (.slice Ao24 t135.length co24)) (fun _ hk => hk.2) (.bool a0_5)) (fun _ hk => hk.2) (.bool (!a3))) (fun _ hk => hk.2) (.bool a0_7)) (fun _ hk => hk.1.1.1), by repeat (first | (with_reducible first | exact HB.out | apply below_alloc | apply pw_below_drewN | apply below_drew1 | refine below_set ?_ GE129.out | refine below_set ?_ GE130.out | refine below_set ?_ GE134.out) | exact HB.out)⟩
  ·replace c12 := Bool.eq_false_iff.mpr c12
   subst c12
   have H1 : (none) = some (r1, r2, r3, r4, r5, r6, r7, r8) := by rw [if_neg (show ¬ (false = true) by decide)] at H; exact H
   clear H
   have H := H1
   clear H1
   exact absurd H (by simp)
 ·replace c6 := Bool.eq_false_iff.mpr c6
  subst c6
  have H1 : (none) = some (r1, r2, r3, r4, r5, r6, r7, r8) := by rw [if_neg (show ¬ (false = true) by decide)] at H; exact H
  clear H
  have H := H1
  clear H1
  exact absurd H (by simp)

/-! ### ranges_Gaps: function 36 -/
def ranges_Gaps.f (k : Nat) (l0 : List S67) (a1_0 a1_1 : Int) : Option (List S67) := (ranges_edges.f k [⟨a1_0, a1_1⟩] 1).bind fun e1 => (ranges_edges.f k l0 (-1)).bind fun e2 => if e1.length + e2.length ≤ 549755813888 then some (sweepF (wantIs 1) (e1 ++ e2)) else none
theorem ranges_Gaps.mono : ∀ l0 a1_0 a1_1 k, LeO (ranges_Gaps.f k l0 a1_0 a1_1) (ranges_Gaps.f (k + 1) l0 a1_0 a1_1) := fun l0 a1_0 a1_1 k => LeO.bind (ranges_edges.mono _ 1 k) fun _ => LeO.bind (ranges_edges.mono l0 (-1) k) fun _ => LeO.refl _
set_option maxHeartbeats 400000 in
theorem ranges_Gaps_w (x : Int) (W : World) : Calls Try.prog 47 #[.int .i64 x] W fun e w' => e = .returned (.bool ((wantIs 1) x)) ∧ w' = W := by
 obtain ⟨b, hb⟩ : ∃ b, (wantIs 1) x = b := ⟨_, rfl⟩
 rw [hb]
 have hb2 : (x == 1) = b := hb
 clear hb
 go_enter Try.func47, Try.ntmps47
 go_wp2
 go_ret
 exact ⟨by first | rfl | rw [hb2] | simp [hb2], rfl⟩
theorem ranges_Gaps_e : ∀ args w, (callFunc 47 args).run Try.prog w = .ok (.enter 47 args) w := enters_of Try.func47 (by kernel_rfl) rfl
set_option maxHeartbeats 2000000 in
set_option maxRecDepth 100000 in
theorem ranges_Gaps.calls (k : Nat) (A0 : Option Addr) (c0 : Nat) (l0 : List S67) (a1_0 a1_1 : Int) (r : List S67) (w : World) (hr0 : Kd.C k67 w A0 l0.length l0) (hc0 : l0.length ≤ c0) (h : ranges_Gaps.f k l0 a1_0 a1_1 = some r) :
  Calls Try.prog 36 #[.slice A0 l0.length c0, .agg #[.int .u64 a1_0, .int .u64 a1_1]] w fun e w' => ∃ v0_ : Value, e = .returned (v0_) ∧ Kd.R k67 67 w' w.heap.size (fun _ => True) v0_ r ∧ Below w.heap.size w w' := by
 obtain ⟨e1, h1, h2⟩ := Option.bind_eq_some_iff.1 h
 obtain ⟨e2, h4, h3⟩ := Option.bind_eq_some_iff.1 h2
 by_cases c : e1.length + e2.length ≤ 549755813888
 ·rw [if_pos c] at h3
  obtain rfl := Option.some.inj h3
  have H1 := Aside0.mk h1
  have H2 := Aside0.mk h4
  have HR := Aside0.mk hr0
  have HC := Aside0.mk hc0
  clear h h1 h2 h4 h3 hr0 hc0
  have HB0 : Aside0 (Below w.heap.size w ((w.alloc (.cells #[.int .u64 a1_0, .int .u64 a1_1] 67)).alloc (.cells #[.int .u64 a1_0, .int .u64 a1_1] 67))) := ⟨below_alloc (below_alloc (Below.refl _ _) _) _⟩
  have HO : Aside0 (Kd.C k67 ((w.alloc (.cells #[.int .u64 a1_0, .int .u64 a1_1] 67)).alloc (.cells #[.int .u64 a1_0, .int .u64 a1_1] 67)) (some ⟨w.heap.size + 1, 0, none⟩) 1 [(⟨a1_0, a1_1⟩ : S67)]) := ⟨one_range (by have h := heap_alloc_new (w.alloc (.cells #[.int .u64 a1_0, .int .u64 a1_1] 67)) (.cells #[.int .u64 a1_0, .int .u64 a1_1] 67); rw [World.size_alloc] at h; exact h)⟩
  go_enter Try.func36, Try.ntmps36
  go_wp2_with fail
  refine (ranges_edges.calls k _ 1 [(⟨a1_0, a1_1⟩ : S67)] 1 e1 _ HO.out (Nat.le_refl _) H1.out).mono ?_
  rintro e w1 ⟨v, rfl, ho, hb⟩
  obtain ⟨B1, d1, rfl, hl1, hC1⟩ := Kd.R_reads ho
  have HC2 := Aside0.mk hC1
  have HB := Aside0.mk (below_step HB0.out hb)
  clear ho hb hC1 hl1
  go_wp2_with fail
  refine (ranges_edges.calls k A0 c0 l0 (-1) e2 _ (Kd.C_below HR.out HB.out) HC.out H2.out).mono ?_
  rintro e w2 ⟨v, rfl, ho, hb⟩
  obtain ⟨B2, d2, rfl, hl2, hC3⟩ := Kd.R_reads ho
  have hb2 : Below w2.heap.size w2 (w2.alloc (.cells #[.slice B1 e1.length d1, .slice B2 e2.length d2] 82)) := below_alloc (Below.refl _ _) _
  have HS := Aside0.mk (swept2 47 (wantIs 1) ranges_Gaps_e ranges_Gaps_w w2.heap.size B1 B2 d1 d2 e1 e2 (w2.alloc (.cells #[.slice B1 e1.length d1, .slice B2 e2.length d2] 82)) ((blk_cell (heap_alloc_new w2 _) 0).trans rfl) ((blk_cell (heap_alloc_new w2 _) 1).trans rfl) (Kd.C_below (Kd.C_below HC2.out hb) hb2) (Kd.C_below hC3 hb2) c)
  have HB2 := Aside0.mk (below_alloc (below_step HB.out hb) (.cells #[.slice B1 e1.length d1, .slice B2 e2.length d2] 82))
  clear ho hb hC3 hl2 hb2
  go_wp2_with fail
  refine HS.out.mono ?_
  rintro e w3 ⟨v, rfl, ho, hb⟩
  go_wp2
  go_ret
  exact ⟨_, rfl, Kd.R_lower ho HB2.out.size, below_step HB2.out hb⟩
 ·rw [if_neg c] at h3
  exact absurd h3 (by simp)

/-! ### sendq_Lost: function 18 -/
def sendq_Lost.l0 : Nat → Bool → List (S67) → Int → Int → Int → Int → ByteArray → List (S67) → List (S67) → Bool → Bool → Bool → Option (Int × Int × ByteArray × (List (S67)) × (List (S67)) × Bool × Bool × Bool)
 | 0, _, _, _, _, _, _, _, _, _, _, _, _ => none
 | k + 1, x3, x24, x25, x26, x140000, x140001, x140002, x140003, x140004, x140005, x140006, x140007 => if x26 < x25 then (if 0 ≤ x26 then (if x26 < (x24.length : Int) then ((ranges_Add.f k x140004 ((rd_T67 x24 x26).f0) ((rd_T67 x24 x26).f1)).bind fun t150 => (sendq_Lost.l0 k x3 x24 x25 (wrap64 (x26 + 1)) x140000 x140001 x140002 x140003 t150 x140005 x140006 x140007)) else (none)) else (none)) else (if x140006 = true then (none) else (if x3 = true then (if x140005 = true then (some (x140000, x140001, x140002, x140003, x140004, x140005, !x140007, x140007)) else (none)) else (none)))
def sendq_Lost.f (k : Nat) (a0_0 : Int) (a0_1 : Int) (a0_2 : ByteArray) (l0_3 : List (S67)) (l0_4 : List (S67)) (a0_5 : Bool) (a0_6 : Bool) (a0_7 : Bool) (a1 : Int) (a2 : Int) (a3 : Bool) : Option (Int × Int × ByteArray × (List (S67)) × (List (S67)) × Bool × Bool × Bool) := (sendq_State_window.f a0_0 a0_1 a0_2 l0_3 l0_4 a0_5 a0_6 a0_7 a1 a2).bind fun bt141 => (if bt141.2.2 = true then ((ranges_Gaps.f k l0_3 bt141.1 bt141.2.1).bind fun t145 => (sendq_Lost.l0 k a3 t145 (t145.length : Int) 0 a0_0 a0_1 a0_2 l0_3 l0_4 a0_5 a0_6 a0_7)) else (none))
theorem sendq_Lost.mono_l : ∀ k, (∀ y0 y1 y2 y3 y4 y5 y6 y7 y8 y9 y10 y11, LeO (sendq_Lost.l0 k y0 y1 y2 y3 y4 y5 y6 y7 y8 y9 y10 y11) (sendq_Lost.l0 (k + 1) y0 y1 y2 y3 y4 y5 y6 y7 y8 y9 y10 y11))
 | 0 => fun _ _ _ _ _ _ _ _ _ _ _ _ r h => by simp [sendq_Lost.l0] at h
 | k + 1 => by
  have ih0 := sendq_Lost.mono_l k
  ·intro y0 y1 y2 y3 y4 y5 y6 y7 y8 y9 y10 y11
   unfold sendq_Lost.l0
   repeat' first
   | (with_reducible exact ih0 _ _ _ _ _ _ _ _ _ _ _ _)
   | (with_reducible exact ranges_Add.mono _ _ _ _)
   | (with_reducible exact ranges_Gaps.mono _ _ _ _)
   | (with_reducible exact LeO.refl _)
   | (with_reducible exact LeO.none _)
   | (with_reducible refine LeO.ite ?_ ?_)
   | (with_reducible refine LeO.bind ?_ (fun _ => ?_))
   | exact ih0 _ _ _ _ _ _ _ _ _ _ _ _
   | exact ranges_Add.mono _ _ _ _
   | exact ranges_Gaps.mono _ _ _ _
   | exact LeO.none _
   | refine LeO.ite ?_ ?_
   | refine LeO.bind ?_ (fun _ => ?_)
theorem sendq_Lost.mono : ∀ a0 a1 a2 a3 a4 a5 a6 a7 a8 a9 a10 k, LeO (sendq_Lost.f k a0 a1 a2 a3 a4 a5 a6 a7 a8 a9 a10) (sendq_Lost.f (k + 1) a0 a1 a2 a3 a4 a5 a6 a7 a8 a9 a10) := by
 intro a0 a1 a2 a3 a4 a5 a6 a7 a8 a9 a10 k
 have ih0 := sendq_Lost.mono_l k
 unfold sendq_Lost.f
 repeat' first
   | (with_reducible exact ih0 _ _ _ _ _ _ _ _ _ _ _ _)
   | (with_reducible exact ranges_Add.mono _ _ _ _)
   | (with_reducible exact ranges_Gaps.mono _ _ _ _)
   | (with_reducible exact LeO.refl _)
   | (with_reducible exact LeO.none _)
   | (with_reducible refine LeO.ite ?_ ?_)
   | (with_reducible refine LeO.bind ?_ (fun _ => ?_))
   | exact ih0 _ _ _ _ _ _ _ _ _ _ _ _
   | exact ranges_Add.mono _ _ _ _
   | exact ranges_Gaps.mono _ _ _ _
   | exact LeO.none _
   | refine LeO.ite ?_ ?_
   | refine LeO.bind ?_ (fun _ => ?_)
set_option maxHeartbeats 8000000 in
set_option maxRecDepth 100000 in
theorem sendq_Lost.calls (k : Nat) (a0_0 : Int) (a0_1 : Int) (a0_2 : ByteArray) (P0_3_ : Nat → Prop) (A0_3 : Option Addr) (c0_3 : Nat) (l0_3 : List (S67)) (P0_4_ : Nat → Prop) (A0_4 : Option Addr) (c0_4 : Nat) (l0_4 : List (S67)) (a0_5 : Bool) (a0_6 : Bool) (a0_7 : Bool) (a1 : Int) (a2 : Int) (a3 : Bool) (r1 : Int) (r2 : Int) (r3 : ByteArray) (r4 : List (S67)) (r5 : List (S67)) (r6 : Bool) (r7 : Bool) (r8 : Bool) (w : World) (hs0_3 : Kd.V k67 67 w w.heap.size (fun k_ => P0_3_ k_) (.slice A0_3 l0_3.length c0_3) l0_3) (hs0_4 : Kd.V k67 67 w w.heap.size (fun k_ => P0_4_ k_) (.slice A0_4 l0_4.length c0_4) l0_4) (h : sendq_Lost.f k a0_0 a0_1 a0_2 l0_3 l0_4 a0_5 a0_6 a0_7 a1 a2 a3 = some (r1, r2, r3, r4, r5, r6, r7, r8)) :
  Calls Try.prog 18 #[.agg #[.int .u64 a0_0, .int .u64 a0_1, .string a0_2, .slice A0_3 l0_3.length c0_3, .slice A0_4 l0_4.length c0_4, .bool a0_5, .bool a0_6, .bool a0_7], .int .u64 a1, .int .i64 a2, .bool a3] w fun e w' => ∃ v3_ v4_ : Value, e = .returned (.agg #[.int .u64 r1, .int .u64 r2, .string r3, v3_, v4_, .bool r6, .bool r7, .bool r8]) ∧ Kd.V k67 67 w' w.heap.size (fun k_ => ((P0_3_ k_ ∨ P0_4_ k_) ∨ w.heap.size ≤ k_)) v3_ r4 ∧ Kd.V k67 67 w' w.heap.size (fun k_ => ((P0_3_ k_ ∨ P0_4_ k_) ∨ w.heap.size ≤ k_)) v4_ r5 ∧ Below w.heap.size w w' := by
 have hu29 := Try.underlying29
 have hu67 := Try.underlying67
 have HO0_3 := Aside0.mk (show Kd.V k67 67 w w.heap.size (fun k_ => ((P0_3_ k_ ∨ P0_4_ k_) ∨ w.heap.size ≤ k_)) (.slice A0_3 l0_3.length c0_3) l0_3 from Kd.V_mono hs0_3 (fun k_ hk => .inl (.inl hk)))
 have HO0_4 := Aside0.mk (show Kd.V k67 67 w w.heap.size (fun k_ => ((P0_3_ k_ ∨ P0_4_ k_) ∨ w.heap.size ≤ k_)) (.slice A0_4 l0_4.length c0_4) l0_4 from Kd.V_mono hs0_4 (fun k_ hk => .inl (.inr hk)))
 have HB := Aside0.mk (Below.refl w.heap.size w)
 have H : ((sendq_State_window.f a0_0 a0_1 a0_2 l0_3 l0_4 a0_5 a0_6 a0_7 a1 a2).bind fun bt141 => (if bt141.2.2 = true then ((ranges_Gaps.f k l0_3 bt141.1 bt141.2.1).bind fun t145 => (sendq_Lost.l0 k a3 t145 (t145.length : Int) 0 a0_0 a0_1 a0_2 l0_3 l0_4 a0_5 a0_6 a0_7)) else (none))) = some (r1, r2, r3, r4, r5, r6, r7, r8) := h
 clear h
 replace H := Option.bind_eq_some_iff.mp H
 obtain ⟨⟨t141, t142, t143⟩, A50, H⟩ := H
 replace H : (if t143 = true then ((ranges_Gaps.f k l0_3 t141 t142).bind fun t145 => (sendq_Lost.l0 k a3 t145 (t145.length : Int) 0 a0_0 a0_1 a0_2 l0_3 l0_4 a0_5 a0_6 a0_7)) else (none)) = some (r1, r2, r3, r4, r5, r6, r7, r8) := H
 have A5 := Aside0.mk A50
 clear A50
 by_cases c6 : t143 = true
 ·subst c6
  have H1 : ((ranges_Gaps.f k l0_3 t141 t142).bind fun t145 => (sendq_Lost.l0 k a3 t145 (t145.length : Int) 0 a0_0 a0_1 a0_2 l0_3 l0_4 a0_5 a0_6 a0_7)) = some (r1, r2, r3, r4, r5, r6, r7, r8) := by rw [if_pos rfl] at H; exact H
  clear H
  have H := H1
  clear H1
  replace H := Option.bind_eq_some_iff.mp H
  obtain ⟨t145, A70, H⟩ := H
  replace H : (sendq_Lost.l0 k a3 t145 (t145.length : Int) 0 a0_0 a0_1 a0_2 l0_3 l0_4 a0_5 a0_6 a0_7) = some (r1, r2, r3, r4, r5, r6, r7, r8) := H
  have A7 := Aside0.mk A70
  clear A70
  have H' := Aside0.mk H
  clear H
  go_enter Try.func18, Try.ntmps18
  go_wp2_with (first | ((with_reducible refine gate_dst (N := 4) rfl ?_); refine box_event ?hg (N := 4) ?hd (cs := #[.int .u64 a0_0, .int .u64 a0_1, .string a0_2, .slice A0_3 l0_3.length c0_3, .slice A0_4 l0_4.length c0_4, .bool a0_5, .bool a0_6, .bool a0_7]) (t := 29) ?hr ?_; (case hd => rfl); (case hg => rfl); (case hr => first | (go_simp; done) | (go_simp; rfl)); intro gb139 hg w8 hbox hb; have n0_ := Aside0.mk (Kd.V_below (Kd.V_elderB (by (with_reducible repeat (first | apply Kd.V_alloc | apply Kd.V_drewN | apply Kd.V_drew)); exact HO0_3.out) gb139 (Nat.le_of_eq hg.symm)) hb); have n1_ := Aside0.mk (Kd.V_below (Kd.V_elderB (by (with_reducible repeat (first | apply Kd.V_alloc | apply Kd.V_drewN | apply Kd.V_drew)); exact HO0_4.out) gb139 (Nat.le_of_eq hg.symm)) hb); have n2_ := Aside0.mk (below_step (by repeat (first | (with_reducible first | exact HB.out | apply below_alloc | apply pw_below_drewN | apply below_drew1) | exact HB.out)) hb); have n3_ := Aside0.mk (hbox); have n4_ := Aside0.mk ((by rw [hg]; exact (below_size (by repeat (first | (with_reducible first | exact HB.out | apply below_alloc | apply pw_below_drewN | apply below_drew1) | exact HB.out))) : w.heap.size ≤ gb139)); have n5_ := Aside0.mk ((by rw [hg]; exact (below_size (by repeat (first | (with_reducible first | exact HB.out | apply below_alloc | apply pw_below_drewN | apply below_drew1) | exact HB.out))) : w.heap.size ≤ gb139)); clear HO0_3; clear HO0_4; clear HB; have HO0_3 := n0_; have HO0_4 := n1_; have HB := n2_; have BK139 := n3_; have GW139 := n4_; have GE139 := n5_; clear n0_ n1_ n2_ n3_ n4_ n5_; clear hb hbox hg) | ((with_reducible refine gate_dst (N := 8) rfl ?_); refine box_event ?hg (N := 8) ?hd (cs := #[.int .u64 0, .int .u64 0, .string (⟨#[]⟩ : ByteArray), .slice none 0 0, .slice none 0 0, .bool false, .bool false, .bool false]) (t := 29) ?hr ?_; (case hd => rfl); (case hg => rfl); (case hr => first | (go_simp; done) | (go_simp; rfl)); intro gb140 hg w9 hbox hb; have n0_ := Aside0.mk (Kd.V_below (Kd.V_elderB (by (with_reducible repeat (first | apply Kd.V_alloc | apply Kd.V_drewN | apply Kd.V_drew)); exact HO0_3.out) gb140 (Nat.le_of_eq hg.symm)) hb); have n1_ := Aside0.mk (Kd.V_below (Kd.V_elderB (by (with_reducible repeat (first | apply Kd.V_alloc | apply Kd.V_drewN | apply Kd.V_drew)); exact HO0_4.out) gb140 (Nat.le_of_eq hg.symm)) hb); have n2_ := Aside0.mk (blk_below (g := gb139) (o := .cells #[.int .u64 a0_0, .int .u64 a0_1, .string a0_2, .slice A0_3 l0_3.length c0_3, .slice A0_4 l0_4.length c0_4, .bool a0_5, .bool a0_6, .bool a0_7] 29 (0, 0)) (by (with_reducible repeat (first | refine blk_drewN ?_ _ | refine blk_drew ?_ | refine blk_alloc ?_ _)); exact BK139.out) hb); have n3_ := Aside0.mk (below_step (by repeat (first | (with_reducible first | exact HB.out | apply below_alloc | apply pw_below_drewN | apply below_drew1 | refine below_set ?_ GE139.out) | exact HB.out)) hb); have n4_ := Aside0.mk (hbox); have n5_ := Aside0.mk ((by rw [hg]; exact (below_size (by repeat (first | (with_reducible first | exact HB.out | apply below_alloc | apply pw_below_drewN | apply below_drew1 | refine below_set ?_ GE139.out) | exact HB.out))) : w.heap.size ≤ gb140)); have n6_ := Aside0.mk ((by rw [hg]; exact (below_size (by repeat (first | (with_reducible first | exact HB.out | apply below_alloc | apply pw_below_drewN | apply below_drew1 | refine below_set ?_ GE139.out) | exact HB.out))) : w.heap.size ≤ gb140)); have n7_ := Aside0.mk ((by rw [hg]; exact Nat.ne_of_lt (blk_lt (g := gb139) (o := .cells #[.int .u64 a0_0, .int .u64 a0_1, .string a0_2, .slice A0_3 l0_3.length c0_3, .slice A0_4 l0_4.length c0_4, .bool a0_5, .bool a0_6, .bool a0_7] 29 (0, 0)) (by (with_reducible repeat (first | refine blk_drewN ?_ _ | refine blk_drew ?_ | refine blk_alloc ?_ _)); exact BK139.out)) : gb139 ≠ gb140)); have n8_ := Aside0.mk ((by rw [hg]; exact Nat.ne_of_gt (blk_lt (g := gb139) (o := .cells #[.int .u64 a0_0, .int .u64 a0_1, .string a0_2, .slice A0_3 l0_3.length c0_3, .slice A0_4 l0_4.length c0_4, .bool a0_5, .bool a0_6, .bool a0_7] 29 (0, 0)) (by (with_reducible repeat (first | refine blk_drewN ?_ _ | refine blk_drew ?_ | refine blk_alloc ?_ _)); exact BK139.out)) : gb140 ≠ gb139)); clear HO0_3; clear HO0_4; clear BK139; clear HB; have HO0_3 := n0_; have HO0_4 := n1_; have BK139 := n2_; have HB := n3_; have BK140 := n4_; have GW140 := n5_; have GE140 := n6_; have NB139_140 := n7_; have NB140_139 := n8_; clear n0_ n1_ n2_ n3_ n4_ n5_ n6_ n7_ n8_; clear hb hbox hg; have hnb10 := NB139_140.out; have hnc10 := NB140_139.out; have hcz11_0 : w9.cell? ⟨gb139, 0, none⟩ = some (.int .u64 a0_0) := (blk_cell BK139.out 0).trans rfl; have hcz11_1 : w9.cell? ⟨gb139, 1, none⟩ = some (.int .u64 a0_1) := (blk_cell BK139.out 1).trans rfl; have hcz11_2 : w9.cell? ⟨gb139, 2, none⟩ = some (.string a0_2) := (blk_cell BK139.out 2).trans rfl; have hcz11_3 : w9.cell? ⟨gb139, 3, none⟩ = some (.slice A0_3 l0_3.length c0_3) := (blk_cell BK139.out 3).trans rfl; have hcz11_4 : w9.cell? ⟨gb139, 4, none⟩ = some (.slice A0_4 l0_4.length c0_4) := (blk_cell BK139.out 4).trans rfl; have hcz11_5 : w9.cell? ⟨gb139, 5, none⟩ = some (.bool a0_5) := (blk_cell BK139.out 5).trans rfl; have hcz11_6 : w9.cell? ⟨gb139, 6, none⟩ = some (.bool a0_6) := (blk_cell BK139.out 6).trans rfl; have hcz11_7 : w9.cell? ⟨gb139, 7, none⟩ = some (.bool a0_7) := (blk_cell BK139.out 7).trans rfl; have hfz11_0 := blk_frozen BK139.out 0; have hfz11_1 := blk_frozen BK139.out 1; have hfz11_2 := blk_frozen BK139.out 2; have hfz11_3 := blk_frozen BK139.out 3; have hfz11_4 := blk_frozen BK139.out 4; have hfz11_5 := blk_frozen BK139.out 5; have hfz11_6 := blk_frozen BK139.out 6; have hfz11_7 := blk_frozen BK139.out 7) | ((with_reducible refine gate_callee (f := 32) rfl ?_); refine goesL_ (some 17) rfl rfl Try.func32 (by kernel_rfl) rfl #[.agg #[.int .u64 a0_0, .int .u64 a0_1, .string a0_2, .slice A0_3 l0_3.length c0_3, .slice A0_4 l0_4.length c0_4, .bool a0_5, .bool a0_6, .bool a0_7], .int .u64 a1, .int .i64 a2] rfl (by (try simp only [List.map_toArray, List.map_cons, List.map_nil]); first | done | rfl | (simp only [List.length_drop, List.length_take]; rfl)) ?_; (with_reducible refine (sendq_State_window.calls a0_0 a0_1 a0_2 _ _ l0_3 _ _ l0_4 a0_5 a0_6 a0_7 a1 a2 t141 t142 true _ ?side1 ?side2 ?side3 ?side4 A5.out).mono ?_); (case side1 => repeat (first | exact (Kd.V_reads' HO0_3.out).2.2 | (with_reducible refine Kd.C_alloc ?_ _) | (with_reducible refine Kd.C_drewN ?_ _) | (with_reducible refine Kd.C_drew ?_))); (case side2 => exact (Kd.V_reads' HO0_3.out).2.1); (case side3 => repeat (first | exact (Kd.V_reads' HO0_4.out).2.2 | (with_reducible refine Kd.C_alloc ?_ _) | (with_reducible refine Kd.C_drewN ?_ _) | (with_reducible refine Kd.C_drew ?_))); (case side4 => exact (Kd.V_reads' HO0_4.out).2.1); rintro e w12 ⟨rfl, hb⟩; refine ⟨_, rfl, ?_⟩; have n0_ := Aside0.mk (Kd.V_below (by (with_reducible repeat (first | apply Kd.V_alloc | apply Kd.V_drewN | apply Kd.V_drew)); exact HO0_3.out) hb); have n1_ := Aside0.mk (Kd.V_below (by (with_reducible repeat (first | apply Kd.V_alloc | apply Kd.V_drewN | apply Kd.V_drew)); exact HO0_4.out) hb); have n2_ := Aside0.mk (blk_below (g := gb139) (o := .cells #[.int .u64 a0_0, .int .u64 a0_1, .string a0_2, .slice A0_3 l0_3.length c0_3, .slice A0_4 l0_4.length c0_4, .bool a0_5, .bool a0_6, .bool a0_7] 29 (0, 0)) (by (with_reducible repeat (first | refine blk_drewN ?_ _ | refine blk_drew ?_ | refine blk_alloc ?_ _)); exact BK139.out) hb); have n3_ := Aside0.mk (blk_below (g := gb140) (o := .cells #[.int .u64 0, .int .u64 0, .string (⟨#[]⟩ : ByteArray), .slice none 0 0, .slice none 0 0, .bool false, .bool false, .bool false] 29 (0, 0)) (by (with_reducible repeat (first | refine blk_drewN ?_ _ | refine blk_drew ?_ | refine blk_alloc ?_ _)); exact BK140.out) hb); have n4_ := Aside0.mk (below_step (by repeat (first | (with_reducible first | exact HB.out | apply below_alloc | apply pw_below_drewN | apply below_drew1 | refine below_set ?_ GE139.out | refine below_set ?_ GE140.out) | exact HB.out)) hb); clear HO0_3; clear HO0_4; clear BK139; clear BK140; clear HB; have HO0_3 := n0_; have HO0_4 := n1_; have BK139 := n2_; have BK140 := n3_; have HB := n4_; clear n0_ n1_ n2_ n3_ n4_; (try clear hb); (try clear hb2); (try clear hk); (try clear hi)) | ((with_reducible refine gate_dst (N := 9) rfl ?_); refine box_event ?hg (N := 9) ?hd (cs := #[.int .u64 0, .int .u64 0]) (t := 67) ?hr ?_; (case hd => rfl); (case hg => rfl); (case hr => first | (go_simp; done) | (go_simp; rfl)); intro gb144 hg w13 hbox hb; have n0_ := Aside0.mk (Kd.V_below (Kd.V_elderB (by (with_reducible repeat (first | apply Kd.V_alloc | apply Kd.V_drewN | apply Kd.V_drew)); exact HO0_3.out) gb144 (Nat.le_of_eq hg.symm)) hb); have n1_ := Aside0.mk (Kd.V_below (Kd.V_elderB (by (with_reducible repeat (first | apply Kd.V_alloc | apply Kd.V_drewN | apply Kd.V_drew)); exact HO0_4.out) gb144 (Nat.le_of_eq hg.symm)) hb); have n2_ := Aside0.mk (blk_below (g := gb139) (o := .cells #[.int .u64 a0_0, .int .u64 a0_1, .string a0_2, .slice A0_3 l0_3.length c0_3, .slice A0_4 l0_4.length c0_4, .bool a0_5, .bool a0_6, .bool a0_7] 29 (0, 0)) (by (with_reducible repeat (first | refine blk_drewN ?_ _ | refine blk_drew ?_ | refine blk_alloc ?_ _)); exact BK139.out) hb); have n3_ := Aside0.mk (blk_below (g := gb140) (o := .cells #[.int .u64 0, .int .u64 0, .string (⟨#[]⟩ : ByteArray), .slice none 0 0, .slice none 0 0, .bool false, .bool false, .bool false] 29 (0, 0)) (by (with_reducible repeat (first | refine blk_drewN ?_ _ | refine blk_drew ?_ | refine blk_alloc ?_ _)); exact BK140.out) hb); have n4_ := Aside0.mk (below_step (by repeat (first | (with_reducible first | exact HB.out | apply below_alloc | apply pw_below_drewN | apply below_drew1 | refine below_set ?_ GE139.out | refine below_set ?_ GE140.out) | exact HB.out)) hb); have n5_ := Aside0.mk (hbox); have n6_ := Aside0.mk ((by rw [hg]; exact (below_size (by repeat (first | (with_reducible first | exact HB.out | apply below_alloc | apply pw_below_drewN | apply below_drew1 | refine below_set ?_ GE139.out | refine below_set ?_ GE140.out) | exact HB.out))) : w.heap.size ≤ gb144)); have n7_ := Aside0.mk ((by rw [hg]; exact (below_size (by repeat (first | (with_reducible first | exact HB.out | apply below_alloc | apply pw_below_drewN | apply below_drew1 | refine below_set ?_ GE139.out | refine below_set ?_ GE140.out) | exact HB.out))) : w.heap.size ≤ gb144)); have n8_ := Aside0.mk ((by rw [hg]; exact Nat.ne_of_lt (blk_lt (g := gb139) (o := .cells #[.int .u64 a0_0, .int .u64 a0_1, .string a0_2, .slice A0_3 l0_3.length c0_3, .slice A0_4 l0_4.length c0_4, .bool a0_5, .bool a0_6, .bool a0_7] 29 (0, 0)) (by (with_reducible repeat (first | refine blk_drewN ?_ _ | refine blk_drew ?_ | refine blk_alloc ?_ _)); exact BK139.out)) : gb139 ≠ gb144)); have n9_ := Aside0.mk ((by rw [hg]; exact Nat.ne_of_gt (blk_lt (g := gb139) (o := .cells #[.int .u64 a0_0, .int .u64 a0_1, .string a0_2, .slice A0_3 l0_3.length c0_3, .slice A0_4 l0_4.length c0_4, .bool a0_5, .bool a0_6, .bool a0_7] 29 (0, 0)) (by (with_reducible repeat (first | refine blk_drewN ?_ _ | refine blk_drew ?_ | refine blk_alloc ?_ _)); exact BK139.out)) : gb144 ≠ gb139)); have n10_ := Aside0.mk ((by rw [hg]; exact Nat.ne_of_lt (blk_lt (g := gb140) (o := .cells #[.int .u64 0, .int .u64 0, .string (⟨#[]⟩ : ByteArray), .slice none 0 0, .slice none 0 0, .bool false, .bool false, .bool false] 29 (0, 0)) (by (with_reducible repeat (first | refine blk_drewN ?_ _ | refine blk_drew ?_ | refine blk_alloc ?_ _)); exact BK140.out)) : gb140 ≠ gb144)); have n11_ := Aside0.mk ((by rw [hg]; exact Nat.ne_of_gt (blk_lt (g := gb140) (o := .cells #[.int .u64 0, .int .u64 0, .string (⟨#[]⟩ : ByteArray), .slice none 0 0, .slice none 0 0, .bool false, .bool false, .bool false] 29 (0, 0)) (by (with_reducible repeat (first | refine blk_drewN ?_ _ | refine blk_drew ?_ | refine blk_alloc ?_ _)); exact BK140.out)) : gb144 ≠ gb140)); clear HO0_3; clear HO0_4; clear BK139; clear BK140; clear HB; have HO0_3 := n0_; have HO0_4 := n1_; have BK139 := n2_; have BK140 := n3_; have HB := n4_; have BK144 := n5_; have GW144 := n6_; have GE144 := n7_; have NB139_144 := n8_; have NB144_139 := n9_; have NB140_144 := n10_; have NB144_140 := n11_; clear n0_ n1_ n2_ n3_ n4_ n5_ n6_ n7_ n8_ n9_ n10_ n11_; clear hb hbox hg; have hnb14 := NB144_139.out; have hnc14 := NB139_144.out; have hnb15 := NB144_140.out; have hnc15 := NB140_144.out; have hcz16_0 : w13.cell? ⟨gb144, 0, none⟩ = some (.int .u64 0) := (blk_cell BK144.out 0).trans rfl; have hcz16_1 : w13.cell? ⟨gb144, 1, none⟩ = some (.int .u64 0) := (blk_cell BK144.out 1).trans rfl; have hfz16_0 := blk_frozen BK144.out 0; have hfz16_1 := blk_frozen BK144.out 1; have hcz17_0 : w13.cell? ⟨gb139, 0, none⟩ = some (.int .u64 a0_0) := (blk_cell BK139.out 0).trans rfl; have hcz17_1 : w13.cell? ⟨gb139, 1, none⟩ = some (.int .u64 a0_1) := (blk_cell BK139.out 1).trans rfl; have hcz17_2 : w13.cell? ⟨gb139, 2, none⟩ = some (.string a0_2) := (blk_cell BK139.out 2).trans rfl; have hcz17_3 : w13.cell? ⟨gb139, 3, none⟩ = some (.slice A0_3 l0_3.length c0_3) := (blk_cell BK139.out 3).trans rfl; have hcz17_4 : w13.cell? ⟨gb139, 4, none⟩ = some (.slice A0_4 l0_4.length c0_4) := (blk_cell BK139.out 4).trans rfl; have hcz17_5 : w13.cell? ⟨gb139, 5, none⟩ = some (.bool a0_5) := (blk_cell BK139.out 5).trans rfl; have hcz17_6 : w13.cell? ⟨gb139, 6, none⟩ = some (.bool a0_6) := (blk_cell BK139.out 6).trans rfl; have hcz17_7 : w13.cell? ⟨gb139, 7, none⟩ = some (.bool a0_7) := (blk_cell BK139.out 7).trans rfl; have hfz17_0 := blk_frozen BK139.out 0; have hfz17_1 := blk_frozen BK139.out 1; have hfz17_2 := blk_frozen BK139.out 2; have hfz17_3 := blk_frozen BK139.out 3; have hfz17_4 := blk_frozen BK139.out 4; have hfz17_5 := blk_frozen BK139.out 5; have hfz17_6 := blk_frozen BK139.out 6; have hfz17_7 := blk_frozen BK139.out 7) | ((with_reducible refine gate_callee (f := 36) rfl ?_); refine goesL_ (some 24) rfl rfl Try.func36 (by kernel_rfl) rfl #[.slice A0_3 l0_3.length c0_3, .agg #[.int .u64 t141, .int .u64 t142]] rfl (by (try simp only [List.map_toArray, List.map_cons, List.map_nil]); first | done | rfl | (simp only [List.length_drop, List.length_take]; rfl)) ?_; (with_reducible refine (ranges_Gaps.calls k _ _ l0_3 t141 t142 t145 _ ?side1 ?side2 A7.out).mono ?_); (case side1 => refine (Kd.V_reads' (e := 67) (base := w.heap.size) (ok := fun _ => True) (n := l0_3.length) (c := c0_3) ?_).2.2; exact (by (with_reducible repeat (first | apply Kd.V_alloc | apply Kd.V_drewN | apply Kd.V_drew)); exact (Kd.V_mono (Kd.V_far (p := ⟨gb144, 1, none⟩) (Kd.V_far (p := ⟨gb144, 0, none⟩) (Kd.V_mono HO0_3.out (fun k_ hk => (⟨hk, hk.2⟩ : _ ∧ k_ ≠ gb144))) (fun _ hk => hk.2) (.int .u64 t141)) (fun _ hk => hk.2) (.int .u64 t142)) (fun _ _ => trivial)))); (case side2 => exact (Kd.V_reads' HO0_3.out).2.1); rintro e w18 ⟨v146, rfl, ho0, hb⟩; refine ⟨_, rfl, ?_⟩; have n0_ := Aside0.mk (Kd.V_elder' (by (with_reducible repeat (first | apply Kd.V_alloc | apply Kd.V_drewN | apply Kd.V_drew)); exact (Kd.V_mono (Kd.V_far (p := ⟨gb144, 1, none⟩) (Kd.V_far (p := ⟨gb144, 0, none⟩) (Kd.V_mono HO0_3.out (fun k_ hk => (⟨hk, hk.2⟩ : _ ∧ k_ ≠ gb144))) (fun _ hk => hk.2) (.int .u64 t141)) (fun _ hk => hk.2) (.int .u64 t142)) (fun _ h_ => h_.1))) (Kd.R_base ho0) hb); have n1_ := Aside0.mk (Kd.V_elder' (by (with_reducible repeat (first | apply Kd.V_alloc | apply Kd.V_drewN | apply Kd.V_drew)); exact (Kd.V_mono (Kd.V_far (p := ⟨gb144, 1, none⟩) (Kd.V_far (p := ⟨gb144, 0, none⟩) (Kd.V_mono HO0_4.out (fun k_ hk => (⟨hk, hk.2⟩ : _ ∧ k_ ≠ gb144))) (fun _ hk => hk.2) (.int .u64 t141)) (fun _ hk => hk.2) (.int .u64 t142)) (fun _ h_ => h_.1))) (Kd.R_base ho0) hb); have n2_ := Aside0.mk (Kd.R_lower (Kd.R_newB (Kd.R_newM (M := fun k_ => (w.heap.size ≤ k_)) ho0 (below_size (by repeat (first | (with_reducible first | exact HB.out | apply below_alloc | apply pw_below_drewN | apply below_drew1 | refine below_set ?_ GE139.out | refine below_set ?_ GE140.out | refine below_set ?_ GE144.out) | exact HB.out))) (fun k_ h_ => h_)) (g := gb144) (o := .cells #[.int .u64 t141, .int .u64 t142] 67 (0, 0)) (by (with_reducible repeat (first | refine blk_drewN ?_ _ | refine blk_drew ?_ | refine blk_alloc ?_ _)); refine blk_put (cs := #[.int .u64 t141, .int .u64 0]) ?_ 1 _ rfl; (with_reducible repeat (first | refine blk_drewN ?_ _ | refine blk_drew ?_ | refine blk_alloc ?_ _)); refine blk_put (cs := #[.int .u64 0, .int .u64 0]) ?_ 0 _ rfl; (with_reducible repeat (first | refine blk_drewN ?_ _ | refine blk_drew ?_ | refine blk_alloc ?_ _)); exact BK144.out)) (below_size (by repeat (first | (with_reducible first | exact HB.out | apply below_alloc | apply pw_below_drewN | apply below_drew1 | refine below_set ?_ GE139.out | refine below_set ?_ GE140.out | refine below_set ?_ GE144.out) | exact HB.out)))); have n3_ := Aside0.mk (blk_below (g := gb139) (o := .cells #[.int .u64 a0_0, .int .u64 a0_1, .string a0_2, .slice A0_3 l0_3.length c0_3, .slice A0_4 l0_4.length c0_4, .bool a0_5, .bool a0_6, .bool a0_7] 29 (0, 0)) (by (with_reducible repeat (first | refine blk_drewN ?_ _ | refine blk_drew ?_ | refine blk_alloc ?_ _)); refine blk_far ?_ NB139_144.out _; (with_reducible repeat (first | refine blk_drewN ?_ _ | refine blk_drew ?_ | refine blk_alloc ?_ _)); refine blk_far ?_ NB139_144.out _; (with_reducible repeat (first | refine blk_drewN ?_ _ | refine blk_drew ?_ | refine blk_alloc ?_ _)); exact BK139.out) hb); have n4_ := Aside0.mk (blk_below (g := gb140) (o := .cells #[.int .u64 0, .int .u64 0, .string (⟨#[]⟩ : ByteArray), .slice none 0 0, .slice none 0 0, .bool false, .bool false, .bool false] 29 (0, 0)) (by (with_reducible repeat (first | refine blk_drewN ?_ _ | refine blk_drew ?_ | refine blk_alloc ?_ _)); refine blk_far ?_ NB140_144.out _; (with_reducible repeat (first | refine blk_drewN ?_ _ | refine blk_drew ?_ | refine blk_alloc ?_ _)); refine blk_far ?_ NB140_144.out _; (with_reducible repeat (first | refine blk_drewN ?_ _ | refine blk_drew ?_ | refine blk_alloc ?_ _)); exact BK140.out) hb); have n5_ := Aside0.mk (blk_below (g := gb144) (o := .cells #[.int .u64 t141, .int .u64 t142] 67 (0, 0)) (by (with_reducible repeat (first | refine blk_drewN ?_ _ | refine blk_drew ?_ | refine blk_alloc ?_ _)); refine blk_put (cs := #[.int .u64 t141, .int .u64 0]) ?_ 1 _ rfl; (with_reducible repeat (first | refine blk_drewN ?_ _ | refine blk_drew ?_ | refine blk_alloc ?_ _)); refine blk_put (cs := #[.int .u64 0, .int .u64 0]) ?_ 0 _ rfl; (with_reducible repeat (first | refine blk_drewN ?_ _ | refine blk_drew ?_ | refine blk_alloc ?_ _)); exact BK144.out) hb); have n6_ := Aside0.mk (below_step (by repeat (first | (with_reducible first | exact HB.out | apply below_alloc | apply pw_below_drewN | apply below_drew1 | refine below_set ?_ GE139.out | refine below_set ?_ GE140.out | refine below_set ?_ GE144.out) | exact HB.out)) hb); clear HO0_3; clear HO0_4; clear BK139; clear BK140; clear BK144; clear HB; have HO0_3 := n0_; have HO0_4 := n1_; have HO147 := n2_; have BK139 := n3_; have BK140 := n4_; have BK144 := n5_; have HB := n6_; clear n0_ n1_ n2_ n3_ n4_ n5_ n6_; (try clear hb); (try clear hb2); (try clear hk); (try clear hi); (try clear ho0); obtain ⟨Ao19, co19, eo19⟩ := Kd.R_slice HO147.out; subst eo19))
  go_loopg [26] k (fun kq v26 w' => ∃ (x26_1 : Int) (x140004_1 : List (S67)) (u140004 : Value), v26 = .int .i64 x26_1 ∧ Aside0 (sendq_Lost.l0 kq a3 t145 (t145.length : Int) x26_1 a0_0 a0_1 a0_2 l0_3 x140004_1 a0_5 a0_6 a0_7 = some (r1, r2, r3, r4, r5, r6, r7, r8)) ∧ Aside0 (kq ≤ k) ∧ Aside0 (Kd.R k67 67 w' w.heap.size (fun k_ => (w.heap.size ≤ k_) ∧ k_ ≠ gb144) (.slice Ao19 t145.length co19) t145) ∧ Aside0 (Kd.V k67 67 w' w.heap.size (fun k_ => ((P0_3_ k_ ∨ P0_4_ k_) ∨ w.heap.size ≤ k_) ∧ some k_ ≠ ((.slice Ao19 t145.length co19) : Value).ownBlock ∧ k_ ≠ gb139 ∧ k_ ≠ gb140 ∧ k_ ≠ gb144) (.slice A0_3 l0_3.length c0_3) l0_3) ∧ Aside0 (Kd.V k67 67 w' w.heap.size (fun k_ => ((P0_3_ k_ ∨ P0_4_ k_) ∨ w.heap.size ≤ k_) ∧ some k_ ≠ ((.slice Ao19 t145.length co19) : Value).ownBlock ∧ k_ ≠ gb139 ∧ k_ ≠ gb140 ∧ k_ ≠ gb144) u140004 x140004_1) ∧ Aside0 (w'.heap[gb139]? = some (.cells #[.int .u64 a0_0, .int .u64 a0_1, .string a0_2, (.slice A0_3 l0_3.length c0_3), u140004, .bool a0_5, .bool a0_6, .bool a0_7] 29 (0, 0))) ∧ Aside0 (w'.heap[gb140]? = some (.cells #[.int .u64 0, .int .u64 0, .string (⟨#[]⟩ : ByteArray), (.slice none 0 0), (.slice none 0 0), .bool false, .bool false, .bool false] 29 (0, 0))) ∧ Aside0 (w'.heap[gb144]? = some (.cells #[.int .u64 t141, .int .u64 t142] 67 (0, 0))) ∧ Aside0 (Below w.heap.size w w'))
  case atStart => exact ⟨(0), (l0_4), (.slice A0_4 l0_4.length c0_4), (by first | rfl | (simp; done) | (simp [*]; done)), H', ⟨Nat.le_refl _⟩, ⟨by (with_reducible repeat (first | apply Kd.R_alloc | apply Kd.R_drewN | apply Kd.R_drew)); exact Kd.R_mono HO147.out (fun _ hk => ⟨hk.1.1, hk.2⟩)⟩, ⟨by (with_reducible repeat (first | apply Kd.V_alloc | apply Kd.V_drewN | apply Kd.V_drew)); exact Kd.V_mono HO0_3.out (fun _ hk => ⟨hk.1.1.1.1, ⟨hk.2, ⟨hk.1.1.1.2, ⟨hk.1.1.2, hk.1.2⟩⟩⟩⟩)⟩, ⟨by (with_reducible repeat (first | apply Kd.V_alloc | apply Kd.V_drewN | apply Kd.V_drew)); exact Kd.V_mono HO0_4.out (fun _ hk => ⟨hk.1.1.1.1, ⟨hk.2, ⟨hk.1.1.1.2, ⟨hk.1.1.2, hk.1.2⟩⟩⟩⟩)⟩, ⟨by (with_reducible repeat (first | refine blk_drewN ?_ _ | refine blk_drew ?_ | refine blk_alloc ?_ _)); exact BK139.out⟩, ⟨by (with_reducible repeat (first | refine blk_drewN ?_ _ | refine blk_drew ?_ | refine blk_alloc ?_ _)); exact BK140.out⟩, ⟨by (with_reducible repeat (first | refine blk_drewN ?_ _ | refine blk_drew ?_ | refine blk_alloc ?_ _)); exact BK144.out⟩, ⟨by repeat (first | (with_reducible first | exact HB.out | apply below_alloc | apply pw_below_drewN | apply below_drew1 | refine below_set ?_ GE139.out | refine below_set ?_ GE140.out | refine below_set ?_ GE144.out) | exact HB.out)⟩⟩
  case round =>
   clear H'
   try clear c1
   try clear p2
   try clear c3
   try clear c6
   try clear c10
   try clear c14
   try clear c15
   try clear c18
   try clear hcz11_0
   try clear hcz11_1
   try clear hcz11_2
   try clear hcz11_3
   try clear hcz11_4
   try clear hcz11_5
   try clear hcz11_6
   try clear hcz11_7
   try clear hcz16_0
   try clear hcz16_1
   try clear hcz17_0
   try clear hcz17_1
   try clear hcz17_2
   try clear hcz17_3
   try clear hcz17_4
   try clear hcz17_5
   try clear hcz17_6
   try clear hcz17_7
   try clear hfz11_0
   try clear hfz11_1
   try clear hfz11_2
   try clear hfz11_3
   try clear hfz11_4
   try clear hfz11_5
   try clear hfz11_6
   try clear hfz11_7
   try clear hfz16_0
   try clear hfz16_1
   try clear hfz17_0
   try clear hfz17_1
   try clear hfz17_2
   try clear hfz17_3
   try clear hfz17_4
   try clear hfz17_5
   try clear hfz17_6
   try clear hfz17_7
   obtain ⟨x26_1, x140004_1, u140004, rfl, HA, HK1, HO_24, HO_140003, HO_140004, BK139, BK140, BK144, HB⟩ := hrel
   cases gk with
   | zero => exact absurd HA.out (by simp [sendq_Lost.l0])
   | succ k1 =>
    have H := HA.out
    clear HA
    simp only [sendq_Lost.l0] at H
    by_cases c20 : x26_1 < (t145.length : Int)
    ·rw [if_pos c20] at H
     have c20b0 : decide (x26_1 < (t145.length : Int)) = true := decide_eq_true c20
     clear c20
     by_cases c21 : 0 ≤ x26_1
     ·rw [if_pos c21] at H
      have c21b0 : decide (0 ≤ x26_1) = true := decide_eq_true c21
      clear c21
      by_cases c22 : x26_1 < (t145.length : Int)
      ·rw [if_pos c22] at H
       have c22b0 : decide (x26_1 < (t145.length : Int)) = true := decide_eq_true c22
       clear c22
       replace H := Option.bind_eq_some_iff.mp H
       obtain ⟨t150, A230, H⟩ := H
       replace H : (sendq_Lost.l0 k1 a3 t145 (t145.length : Int) (wrap64 (x26_1 + 1)) a0_0 a0_1 a0_2 l0_3 t150 a0_5 a0_6 a0_7) = some (r1, r2, r3, r4, r5, r6, r7, r8) := H
       have A23 := Aside0.mk A230
       clear A230
       have H' := Aside0.mk H
       clear H
       have p148 : 0 ≤ (x26_1 : Int) := of_decide_eq_true (by first | (with_reducible assumption) | assumption)
       have q148 : x26_1 < (t145.length : Int) := of_decide_eq_true (by first | (with_reducible assumption) | assumption)
       obtain ⟨ad148, e148, hx148_0, hx148_1⟩ := at_T67 (Kd.R_reads' HO_24.out).2.2 x26_1 p148 q148
       cases e148
       replace p148 := eq_true p148
       replace q148 := eq_true q148
       go_wp2_with (first | ((with_reducible refine gate_dst (N := 12) rfl ?_); refine box_event ?hg (N := 12) ?hd (cs := #[.int .u64 0, .int .u64 0]) (t := 67) ?hr ?_; (case hd => rfl); (case hg => rfl); (case hr => first | (go_simp; done) | (go_simp; rfl)); intro gb149 hg w24 hbox hb; have n0_ := Aside0.mk (Kd.R_below (Kd.R_elderB (by (with_reducible repeat (first | apply Kd.R_alloc | apply Kd.R_drewN | apply Kd.R_drew)); exact HO_24.out) gb149 (Nat.le_of_eq hg.symm)) hb); have n1_ := Aside0.mk (Kd.V_below (Kd.V_elderB (by (with_reducible repeat (first | apply Kd.V_alloc | apply Kd.V_drewN | apply Kd.V_drew)); exact HO_140003.out) gb149 (Nat.le_of_eq hg.symm)) hb); have n2_ := Aside0.mk (Kd.V_below (Kd.V_elderB (by (with_reducible repeat (first | apply Kd.V_alloc | apply Kd.V_drewN | apply Kd.V_drew)); exact HO_140004.out) gb149 (Nat.le_of_eq hg.symm)) hb); have n3_ := Aside0.mk (blk_below (g := gb139) (o := .cells #[.int .u64 a0_0, .int .u64 a0_1, .string a0_2, .slice A0_3 l0_3.length c0_3, u140004, .bool a0_5, .bool a0_6, .bool a0_7] 29 (0, 0)) (by (with_reducible repeat (first | refine blk_drewN ?_ _ | refine blk_drew ?_ | refine blk_alloc ?_ _)); exact BK139.out) hb); have n4_ := Aside0.mk (blk_below (g := gb140) (o := .cells #[.int .u64 0, .int .u64 0, .string (⟨#[]⟩ : ByteArray), .slice none 0 0, .slice none 0 0, .bool false, .bool false, .bool false] 29 (0, 0)) (by (with_reducible repeat (first | refine blk_drewN ?_ _ | refine blk_drew ?_ | refine blk_alloc ?_ _)); exact BK140.out) hb); have n5_ := Aside0.mk (blk_below (g := gb144) (o := .cells #[.int .u64 t141, .int .u64 t142] 67 (0, 0)) (by (with_reducible repeat (first | refine blk_drewN ?_ _ | refine blk_drew ?_ | refine blk_alloc ?_ _)); exact BK144.out) hb); have n6_ := Aside0.mk (below_step (by repeat (first | (with_reducible first | exact HB.out | apply below_alloc | apply pw_below_drewN | apply below_drew1 | refine below_set ?_ GE139.out | refine below_set ?_ GE140.out | refine below_set ?_ GE144.out) | exact HB.out)) hb); have n7_ := Aside0.mk (hbox); have n8_ := Aside0.mk ((by rw [hg]; exact (below_size (by repeat (first | (with_reducible first | exact HB.out | apply below_alloc | apply pw_below_drewN | apply below_drew1 | refine below_set ?_ GE139.out | refine below_set ?_ GE140.out | refine below_set ?_ GE144.out) | exact HB.out))) : w.heap.size ≤ gb149)); have n9_ := Aside0.mk ((by rw [hg]; exact (below_size (by repeat (first | (with_reducible first | exact HB.out | apply below_alloc | apply pw_below_drewN | apply below_drew1 | refine below_set ?_ GE139.out | refine below_set ?_ GE140.out | refine below_set ?_ GE144.out) | exact HB.out))) : w.heap.size ≤ gb149)); have n10_ := Aside0.mk ((by rw [hg]; exact Nat.ne_of_lt (blk_lt (g := gb139) (o := .cells #[.int .u64 a0_0, .int .u64 a0_1, .string a0_2, .slice A0_3 l0_3.length c0_3, u140004, .bool a0_5, .bool a0_6, .bool a0_7] 29 (0, 0)) (by (with_reducible repeat (first | refine blk_drewN ?_ _ | refine blk_drew ?_ | refine blk_alloc ?_ _)); exact BK139.out)) : gb139 ≠ gb149)); have n11_ := Aside0.mk ((by rw [hg]; exact Nat.ne_of_gt (blk_lt (g := gb139) (o := .cells #[.int .u64 a0_0, .int .u64 a0_1, .string a0_2, .slice A0_3 l0_3.length c0_3, u140004, .bool a0_5, .bool a0_6, .bool a0_7] 29 (0, 0)) (by (with_reducible repeat (first | refine blk_drewN ?_ _ | refine blk_drew ?_ | refine blk_alloc ?_ _)); exact BK139.out)) : gb149 ≠ gb139)); have n12_ := Aside0.mk ((by rw [hg]; exact Nat.ne_of_lt (blk_lt (g := gb140) (o := .cells #[.int .u64 0, .int .u64 0, .string (⟨#[]⟩ : ByteArray), .slice none 0 0, .slice none 0 0, .bool false, .bool false, .bool false] 29 (0, 0)) (by (with_reducible repeat (first | refine blk_drewN ?_ _ | refine blk_drew ?_ | refine blk_alloc ?_ _)); exact BK140.out)) : gb140 ≠ gb149)); have n13_ := Aside0.mk ((by rw [hg]; exact Nat.ne_of_gt (blk_lt (g := gb140) (o := .cells #[.int .u64 0, .int .u64 0, .string (⟨#[]⟩ : ByteArray), .slice none 0 0, .slice none 0 0, .bool false, .bool false, .bool false] 29 (0, 0)) (by (with_reducible repeat (first | refine blk_drewN ?_ _ | refine blk_drew ?_ | refine blk_alloc ?_ _)); exact BK140.out)) : gb149 ≠ gb140)); have n14_ := Aside0.mk ((by rw [hg]; exact Nat.ne_of_lt (blk_lt (g := gb144) (o := .cells #[.int .u64 t141, .int .u64 t142] 67 (0, 0)) (by (with_reducible repeat (first | refine blk_drewN ?_ _ | refine blk_drew ?_ | refine blk_alloc ?_ _)); exact BK144.out)) : gb144 ≠ gb149)); have n15_ := Aside0.mk ((by rw [hg]; exact Nat.ne_of_gt (blk_lt (g := gb144) (o := .cells #[.int .u64 t141, .int .u64 t142] 67 (0, 0)) (by (with_reducible repeat (first | refine blk_drewN ?_ _ | refine blk_drew ?_ | refine blk_alloc ?_ _)); exact BK144.out)) : gb149 ≠ gb144)); clear HO_24; clear HO_140003; clear HO_140004; clear BK139; clear BK140; clear BK144; clear HB; have HO_24 := n0_; have HO_140003 := n1_; have HO_140004 := n2_; have BK139 := n3_; have BK140 := n4_; have BK144 := n5_; have HB := n6_; have BK149 := n7_; have GW149 := n8_; have GE149 := n9_; have NB139_149 := n10_; have NB149_139 := n11_; have NB140_149 := n12_; have NB149_140 := n13_; have NB144_149 := n14_; have NB149_144 := n15_; clear n0_ n1_ n2_ n3_ n4_ n5_ n6_ n7_ n8_ n9_ n10_ n11_ n12_ n13_ n14_ n15_; clear hb hbox hg; have hnb25 := NB149_139.out; have hnc25 := NB139_149.out; have hnb26 := NB149_140.out; have hnc26 := NB140_149.out; have hnb27 := NB149_144.out; have hnc27 := NB144_149.out; have hcz28_0 : w24.cell? ⟨gb149, 0, none⟩ = some (.int .u64 0) := (blk_cell BK149.out 0).trans rfl; have hcz28_1 : w24.cell? ⟨gb149, 1, none⟩ = some (.int .u64 0) := (blk_cell BK149.out 1).trans rfl; have hfz28_0 := blk_frozen BK149.out 0; have hfz28_1 := blk_frozen BK149.out 1; have hnb29 := NB139_140.out; have hnc29 := NB140_139.out; have hnb30 := NB139_144.out; have hnc30 := NB144_139.out; have hcz31_0 : w24.cell? ⟨gb139, 0, none⟩ = some (.int .u64 a0_0) := (blk_cell BK139.out 0).trans rfl; have hcz31_1 : w24.cell? ⟨gb139, 1, none⟩ = some (.int .u64 a0_1) := (blk_cell BK139.out 1).trans rfl; have hcz31_2 : w24.cell? ⟨gb139, 2, none⟩ = some (.string a0_2) := (blk_cell BK139.out 2).trans rfl; have hcz31_3 : w24.cell? ⟨gb139, 3, none⟩ = some (.slice A0_3 l0_3.length c0_3) := (blk_cell BK139.out 3).trans rfl; have hcz31_4 : w24.cell? ⟨gb139, 4, none⟩ = some (u140004) := (blk_cell BK139.out 4).trans rfl; have hcz31_5 : w24.cell? ⟨gb139, 5, none⟩ = some (.bool a0_5) := (blk_cell BK139.out 5).trans rfl; have hcz31_6 : w24.cell? ⟨gb139, 6, none⟩ = some (.bool a0_6) := (blk_cell BK139.out 6).trans rfl; have hcz31_7 : w24.cell? ⟨gb139, 7, none⟩ = some (.bool a0_7) := (blk_cell BK139.out 7).trans rfl; have hfz31_0 := blk_frozen BK139.out 0; have hfz31_1 := blk_frozen BK139.out 1; have hfz31_2 := blk_frozen BK139.out 2; have hfz31_3 := blk_frozen BK139.out 3; have hfz31_4 := blk_frozen BK139.out 4; have hfz31_5 := blk_frozen BK139.out 5; have hfz31_6 := blk_frozen BK139.out 6; have hfz31_7 := blk_frozen BK139.out 7; obtain ⟨Ao32, co32, eo32⟩ := Kd.V_slice HO_140004.out; subst eo32) | ((with_reducible refine gate_callee (f := 30) rfl ?_); refine goesL_ (some 33) rfl rfl Try.func30 (by kernel_rfl) rfl #[.slice Ao32 x140004_1.length co32, .agg #[.int .u64 ((rd_T67 t145 x26_1).f0), .int .u64 ((rd_T67 t145 x26_1).f1)]] rfl (by (try simp only [List.map_toArray, List.map_cons, List.map_nil]); first | done | rfl | (simp only [List.length_drop, List.length_take]; rfl)) ?_; (with_reducible refine (ranges_Add.calls k1 _ _ x140004_1 ((rd_T67 t145 x26_1).f0) ((rd_T67 t145 x26_1).f1) t150 _ ?side1 ?side2 A23.out).mono ?_); (case side1 => refine (Kd.V_reads' (e := 67) (base := w.heap.size) (ok := fun _ => True) (n := x140004_1.length) (c := co32) ?_).2.2; exact (by (with_reducible repeat (first | apply Kd.V_alloc | apply Kd.V_drewN | apply Kd.V_drew)); exact (Kd.V_mono (Kd.V_far (p := ⟨gb149, 1, none⟩) (Kd.V_far (p := ⟨gb149, 0, none⟩) (Kd.V_mono HO_140004.out (fun k_ hk => (⟨hk, hk.2⟩ : _ ∧ k_ ≠ gb149))) (fun _ hk => hk.2) (.int .u64 ((rd_T67 t145 x26_1).f0))) (fun _ hk => hk.2) (.int .u64 ((rd_T67 t145 x26_1).f1))) (fun _ _ => trivial)))); (case side2 => exact (Kd.V_reads' HO_140004.out).2.1); rintro e w33 ⟨v151, rfl, ho0, hb⟩; refine ⟨_, rfl, ?_⟩; have n0_ := Aside0.mk (Kd.R_elder' (by (with_reducible repeat (first | apply Kd.R_alloc | apply Kd.R_drewN | apply Kd.R_drew)); exact (Kd.R_mono (Kd.R_far (p := ⟨gb149, 1, none⟩) (Kd.R_far (p := ⟨gb149, 0, none⟩) (Kd.R_mono HO_24.out (fun k_ hk => (⟨hk, hk.2⟩ : _ ∧ k_ ≠ gb149))) (fun _ hk => hk.2) (.int .u64 ((rd_T67 t145 x26_1).f0))) (fun _ hk => hk.2) (.int .u64 ((rd_T67 t145 x26_1).f1))) (fun _ h_ => h_.1))) (Kd.R_base ho0) hb); have n1_ := Aside0.mk (Kd.V_elder' (by (with_reducible repeat (first | apply Kd.V_alloc | apply Kd.V_drewN | apply Kd.V_drew)); exact (Kd.V_mono (Kd.V_far (p := ⟨gb149, 1, none⟩) (Kd.V_far (p := ⟨gb149, 0, none⟩) (Kd.V_mono HO_140003.out (fun k_ hk => (⟨hk, hk.2⟩ : _ ∧ k_ ≠ gb149))) (fun _ hk => hk.2) (.int .u64 ((rd_T67 t145 x26_1).f0))) (fun _ hk => hk.2) (.int .u64 ((rd_T67 t145 x26_1).f1))) (fun _ h_ => h_.1))) (Kd.R_base ho0) hb); have n2_ := Aside0.mk (Kd.V_elder' (by (with_reducible repeat (first | apply Kd.V_alloc | apply Kd.V_drewN | apply Kd.V_drew)); exact (Kd.V_mono (Kd.V_far (p := ⟨gb149, 1, none⟩) (Kd.V_far (p := ⟨gb149, 0, none⟩) (Kd.V_mono HO_140004.out (fun k_ hk => (⟨hk, hk.2⟩ : _ ∧ k_ ≠ gb149))) (fun _ hk => hk.2) (.int .u64 ((rd_T67 t145 x26_1).f0))) (fun _ hk => hk.2) (.int .u64 ((rd_T67 t145 x26_1).f1))) (fun _ h_ => h_.1))) (Kd.R_base ho0) hb); have n3_ := Aside0.mk (Kd.R_lower (Kd.R_newB (Kd.R_newB (Kd.R_new' (Kd.R_newM (M := fun k_ => (w.heap.size ≤ k_)) ho0 (below_size (by repeat (first | (with_reducible first | exact HB.out | apply below_alloc | apply pw_below_drewN | apply below_drew1 | refine below_set ?_ GE139.out | refine below_set ?_ GE140.out | refine below_set ?_ GE144.out | refine below_set ?_ GE149.out) | exact HB.out))) (fun k_ h_ => h_)) (Kd.R_lt (by (with_reducible repeat (first | apply Kd.R_alloc | apply Kd.R_drewN | apply Kd.R_drew)); exact (Kd.R_mono (Kd.R_far (p := ⟨gb149, 1, none⟩) (Kd.R_far (p := ⟨gb149, 0, none⟩) (Kd.R_mono HO_24.out (fun k_ hk => (⟨hk, hk.2⟩ : _ ∧ k_ ≠ gb149))) (fun _ hk => hk.2) (.int .u64 ((rd_T67 t145 x26_1).f0))) (fun _ hk => hk.2) (.int .u64 ((rd_T67 t145 x26_1).f1))) (fun _ h_ => h_.1))))) (g := gb144) (o := .cells #[.int .u64 t141, .int .u64 t142] 67 (0, 0)) (by (with_reducible repeat (first | refine blk_drewN ?_ _ | refine blk_drew ?_ | refine blk_alloc ?_ _)); refine blk_far ?_ NB144_149.out _; (with_reducible repeat (first | refine blk_drewN ?_ _ | refine blk_drew ?_ | refine blk_alloc ?_ _)); refine blk_far ?_ NB144_149.out _; (with_reducible repeat (first | refine blk_drewN ?_ _ | refine blk_drew ?_ | refine blk_alloc ?_ _)); exact BK144.out)) (g := gb149) (o := .cells #[.int .u64 ((rd_T67 t145 x26_1).f0), .int .u64 ((rd_T67 t145 x26_1).f1)] 67 (0, 0)) (by (with_reducible repeat (first | refine blk_drewN ?_ _ | refine blk_drew ?_ | refine blk_alloc ?_ _)); refine blk_put (cs := #[.int .u64 ((rd_T67 t145 x26_1).f0), .int .u64 0]) ?_ 1 _ rfl; (with_reducible repeat (first | refine blk_drewN ?_ _ | refine blk_drew ?_ | refine blk_alloc ?_ _)); refine blk_put (cs := #[.int .u64 0, .int .u64 0]) ?_ 0 _ rfl; (with_reducible repeat (first | refine blk_drewN ?_ _ | refine blk_drew ?_ | refine blk_alloc ?_ _)); exact BK149.out)) (below_size (by repeat (first | (with_reducible first | exact HB.out | apply below_alloc | apply pw_below_drewN | apply below_drew1 | refine below_set ?_ GE139.out | refine below_set ?_ GE140.out | refine below_set ?_ GE144.out | refine below_set ?_ GE149.out) | exact HB.out)))); have n4_ := Aside0.mk (blk_below (g := gb139) (o := .cells #[.int .u64 a0_0, .int .u64 a0_1, .string a0_2, .slice A0_3 l0_3.length c0_3, .slice Ao32 x140004_1.length co32, .bool a0_5, .bool a0_6, .bool a0_7] 29 (0, 0)) (by (with_reducible repeat (first | refine blk_drewN ?_ _ | refine blk_drew ?_ | refine blk_alloc ?_ _)); refine blk_far ?_ NB139_149.out _; (with_reducible repeat (first | refine blk_drewN ?_ _ | refine blk_drew ?_ | refine blk_alloc ?_ _)); refine blk_far ?_ NB139_149.out _; (with_reducible repeat (first | refine blk_drewN ?_ _ | refine blk_drew ?_ | refine blk_alloc ?_ _)); exact BK139.out) hb); have n5_ := Aside0.mk (blk_below (g := gb140) (o := .cells #[.int .u64 0, .int .u64 0, .string (⟨#[]⟩ : ByteArray), .slice none 0 0, .slice none 0 0, .bool false, .bool false, .bool false] 29 (0, 0)) (by (with_reducible repeat (first | refine blk_drewN ?_ _ | refine blk_drew ?_ | refine blk_alloc ?_ _)); refine blk_far ?_ NB140_149.out _; (with_reducible repeat (first | refine blk_drewN ?_ _ | refine blk_drew ?_ | refine blk_alloc ?_ _)); refine blk_far ?_ NB140_149.out _; (with_reducible repeat (first | refine blk_drewN ?_ _ | refine blk_drew ?_ | refine blk_alloc ?_ _)); exact BK140.out) hb); have n6_ := Aside0.mk (blk_below (g := gb144) (o := .cells #[.int .u64 t141, .int .u64 t142] 67 (0, 0)) (by (with_reducible repeat (first | refine blk_drewN ?_ _ | refine blk_drew ?_ | refine blk_alloc ?_ _)); refine blk_far ?_ NB144_149.out _; (with_reducible repeat (first | refine blk_drewN ?_ _ | refine blk_drew ?_ | refine blk_alloc ?_ _)); refine blk_far ?_ NB144_149.out _; (with_reducible repeat (first | refine blk_drewN ?_ _ | refine blk_drew ?_ | refine blk_alloc ?_ _)); exact BK144.out) hb); have n7_ := Aside0.mk (blk_below (g := gb149) (o := .cells #[.int .u64 ((rd_T67 t145 x26_1).f0), .int .u64 ((rd_T67 t145 x26_1).f1)] 67 (0, 0)) (by (with_reducible repeat (first | refine blk_drewN ?_ _ | refine blk_drew ?_ | refine blk_alloc ?_ _)); refine blk_put (cs := #[.int .u64 ((rd_T67 t145 x26_1).f0), .int .u64 0]) ?_ 1 _ rfl; (with_reducible repeat (first | refine blk_drewN ?_ _ | refine blk_drew ?_ | refine blk_alloc ?_ _)); refine blk_put (cs := #[.int .u64 0, .int .u64 0]) ?_ 0 _ rfl; (with_reducible repeat (first | refine blk_drewN ?_ _ | refine blk_drew ?_ | refine blk_alloc ?_ _)); exact BK149.out) hb); have n8_ := Aside0.mk (below_step (by repeat (first | (with_reducible first | exact HB.out | apply below_alloc | apply pw_below_drewN | apply below_drew1 | refine below_set ?_ GE139.out | refine below_set ?_ GE140.out | refine below_set ?_ GE144.out | refine below_set ?_ GE149.out) | exact HB.out)) hb); clear HO_24; clear HO_140003; clear HO_140004; clear BK139; clear BK140; clear BK144; clear BK149; clear HB; have HO_24 := n0_; have HO_140003 := n1_; have HO_140004 := n2_; have HO152 := n3_; have BK139 := n4_; have BK140 := n5_; have BK144 := n6_; have BK149 := n7_; have HB := n8_; clear n0_ n1_ n2_ n3_ n4_ n5_ n6_ n7_ n8_; (try clear hb); (try clear hb2); (try clear hk); (try clear hi); (try clear ho0); obtain ⟨Ao34, co34, eo34⟩ := Kd.R_slice HO152.out; subst eo34; have hcz35_0 : w33.cell? ⟨gb139, 0, none⟩ = some (.int .u64 a0_0) := (blk_cell BK139.out 0).trans rfl; have hcz35_1 : w33.cell? ⟨gb139, 1, none⟩ = some (.int .u64 a0_1) := (blk_cell BK139.out 1).trans rfl; have hcz35_2 : w33.cell? ⟨gb139, 2, none⟩ = some (.string a0_2) := (blk_cell BK139.out 2).trans rfl; have hcz35_3 : w33.cell? ⟨gb139, 3, none⟩ = some (.slice A0_3 l0_3.length c0_3) := (blk_cell BK139.out 3).trans rfl; have hcz35_4 : w33.cell? ⟨gb139, 4, none⟩ = some (.slice Ao32 x140004_1.length co32) := (blk_cell BK139.out 4).trans rfl; have hcz35_5 : w33.cell? ⟨gb139, 5, none⟩ = some (.bool a0_5) := (blk_cell BK139.out 5).trans rfl; have hcz35_6 : w33.cell? ⟨gb139, 6, none⟩ = some (.bool a0_6) := (blk_cell BK139.out 6).trans rfl; have hcz35_7 : w33.cell? ⟨gb139, 7, none⟩ = some (.bool a0_7) := (blk_cell BK139.out 7).trans rfl; have hfz35_0 := blk_frozen BK139.out 0; have hfz35_1 := blk_frozen BK139.out 1; have hfz35_2 := blk_frozen BK139.out 2; have hfz35_3 := blk_frozen BK139.out 3; have hfz35_4 := blk_frozen BK139.out 4; have hfz35_5 := blk_frozen BK139.out 5; have hfz35_6 := blk_frozen BK139.out 6; have hfz35_7 := blk_frozen BK139.out 7))
       go_roundg k1
       case measure => have := HK1.out; omega
       case rel => exact ⟨(wrap64 (x26_1 + 1)), (t150), (.slice Ao34 t150.length co34), (by first | rfl | (simp; done) | (simp [*]; done)), H', ⟨by have := HK1.out; omega⟩, ⟨by (with_reducible repeat (first | apply Kd.R_alloc | apply Kd.R_drewN | apply Kd.R_drew)); exact Kd.R_mono (Kd.R_far (p := ⟨gb139, 4, none⟩) (Kd.R_types HO_24.out BK139.out (by decide)) (fun _ hk => hk.2) (.slice Ao34 t150.length co34)) (fun _ hk => ⟨hk.1.1.1.1, hk.1.1.1.2⟩)⟩, ⟨by (with_reducible repeat (first | apply Kd.V_alloc | apply Kd.V_drewN | apply Kd.V_drew)); exact Kd.V_mono (Kd.V_far (p := ⟨gb139, 4, none⟩) (Kd.V_mono HO_140003.out (fun k_ hk => (⟨hk, hk.1.1.2.2.1⟩ : _ ∧ k_ ≠ gb139))) (fun _ hk => hk.2) (.slice Ao34 t150.length co34)) (fun _ hk => ⟨hk.1.1.1.1, ⟨hk.1.1.1.2.1, ⟨hk.1.1.1.2.2.1, ⟨hk.1.1.1.2.2.2.1, hk.1.1.1.2.2.2.2⟩⟩⟩⟩)⟩, ⟨(by (with_reducible repeat (first | apply Kd.V_alloc | apply Kd.V_drewN | apply Kd.V_drew)); exact Kd.V_mono (Kd.R_V (Kd.R_far (p := ⟨gb139, 4, none⟩) (Kd.R_types (Kd.R_types (Kd.R_types HO152.out BK139.out (by decide)) BK140.out (by decide)) BK139.out (by decide)) (fun _ hk => hk.2) (.slice Ao34 t150.length co34))) (fun _ hk => ⟨.inr (hk.1.1.1.1.1.1.1), ⟨hk.1.1.1.1.1.2, ⟨hk.1.1.2, ⟨hk.1.2, hk.1.1.1.1.2⟩⟩⟩⟩))⟩, ⟨by (with_reducible repeat (first | refine blk_drewN ?_ _ | refine blk_drew ?_ | refine blk_alloc ?_ _)); refine blk_put (cs := #[.int .u64 a0_0, .int .u64 a0_1, .string a0_2, .slice A0_3 l0_3.length c0_3, .slice Ao32 x140004_1.length co32, .bool a0_5, .bool a0_6, .bool a0_7]) ?_ 4 _ rfl; (with_reducible repeat (first | refine blk_drewN ?_ _ | refine blk_drew ?_ | refine blk_alloc ?_ _)); exact BK139.out⟩, ⟨by (with_reducible repeat (first | refine blk_drewN ?_ _ | refine blk_drew ?_ | refine blk_alloc ?_ _)); refine blk_far ?_ NB140_139.out _; (with_reducible repeat (first | refine blk_drewN ?_ _ | refine blk_drew ?_ | refine blk_alloc ?_ _)); exact BK140.out⟩, ⟨by (with_reducible repeat (first | refine blk_drewN ?_ _ | refine blk_drew ?_ | refine blk_alloc ?_ _)); refine blk_far ?_ NB144_139.out _; (with_reducible repeat (first | refine blk_drewN ?_ _ | refine blk_drew ?_ | refine blk_alloc ?_ _)); exact BK144.out⟩, ⟨by repeat (first | (with_reducible first | exact HB.out | apply below_alloc | apply pw_below_drewN | apply below_drew1 | refine below_set ?_ GE139.out | refine below_set ?_ GE140.out | refine below_set ?_ GE144.out | refine below_set ?_ GE149.out) | exact HB.out)⟩⟩
      ·rw [if_neg c22] at H
       exact absurd H (by simp)
     ·rw [if_neg c21] at H
      exact absurd H (by simp)
    ·rw [if_neg c20] at H
     have c20b0 : decide (x26_1 < (t145.length : Int)) = false := decide_eq_false c20
     clear c20
     by_cases c36 : a0_6 = true
     ·subst c36
      have H1 : (none) = some (r1, r2, r3, r4, r5, r6, r7, r8) := by rw [if_pos rfl] at H; exact H
      clear H
      have H := H1
      clear H1
      exact absurd H (by simp)
     ·replace c36 := Bool.eq_false_iff.mpr c36
      subst c36
      have H1 : (if a3 = true then (if a0_5 = true then (some (a0_0, a0_1, a0_2, l0_3, x140004_1, a0_5, !a0_7, a0_7)) else (none)) else (none)) = some (r1, r2, r3, r4, r5, r6, r7, r8) := by rw [if_neg (show ¬ (false = true) by decide)] at H; exact H
      clear H
      have H := H1
      clear H1
      by_cases c37 : a3 = true
      ·subst c37
       have H1 : (if a0_5 = true then (some (a0_0, a0_1, a0_2, l0_3, x140004_1, a0_5, !a0_7, a0_7)) else (none)) = some (r1, r2, r3, r4, r5, r6, r7, r8) := by rw [if_pos rfl] at H; exact H
       clear H
       have H := H1
       clear H1
       by_cases c38 : a0_5 = true
       ·subst c38
        have H1 : (some (a0_0, a0_1, a0_2, l0_3, x140004_1, true, !a0_7, a0_7)) = some (r1, r2, r3, r4, r5, r6, r7, r8) := by rw [if_pos rfl] at H; exact H
        clear H
        have H := H1
        clear H1
        simp only [Option.some.injEq, Prod.mk.injEq] at H
        obtain ⟨rfl, rfl, rfl, rfl, rfl, rfl, rfl, rfl⟩ := H
        have hnb39 := NB139_140.out
        have hnc39 := NB140_139.out
        have hnb40 := NB139_144.out
        have hnc40 := NB144_139.out
        have hcz41_0 : wr.cell? ⟨gb139, 0, none⟩ = some (.int .u64 a0_0) := (blk_cell BK139.out 0).trans rfl
        have hcz41_1 : wr.cell? ⟨gb139, 1, none⟩ = some (.int .u64 a0_1) := (blk_cell BK139.out 1).trans rfl
        have hcz41_2 : wr.cell? ⟨gb139, 2, none⟩ = some (.string a0_2) := (blk_cell BK139.out 2).trans rfl
        have hcz41_3 : wr.cell? ⟨gb139, 3, none⟩ = some (.slice A0_3 l0_3.length c0_3) := (blk_cell BK139.out 3).trans rfl
        have hcz41_4 : wr.cell? ⟨gb139, 4, none⟩ = some (u140004) := (blk_cell BK139.out 4).trans rfl
        have hcz41_5 : wr.cell? ⟨gb139, 5, none⟩ = some (.bool true) := (blk_cell BK139.out 5).trans rfl
        have hcz41_6 : wr.cell? ⟨gb139, 6, none⟩ = some (.bool false) := (blk_cell BK139.out 6).trans rfl
        have hcz41_7 : wr.cell? ⟨gb139, 7, none⟩ = some (.bool a0_7) := (blk_cell BK139.out 7).trans rfl
        have hfz41_0 := blk_frozen BK139.out 0
        have hfz41_1 := blk_frozen BK139.out 1
        have hfz41_2 := blk_frozen BK139.out 2
        have hfz41_3 := blk_frozen BK139.out 3
        have hfz41_4 := blk_frozen BK139.out 4
        have hfz41_5 := blk_frozen BK139.out 5
        have hfz41_6 := blk_frozen BK139.out 6
        have hfz41_7 := blk_frozen BK139.out 7
        have hnb42 := NB140_144.out
        have hnc42 := NB144_140.out
        have hcz43_0 : wr.cell? ⟨gb140, 0, none⟩ = some (.int .u64 0) := (blk_cell BK140.out 0).trans rfl
        have hcz43_1 : wr.cell? ⟨gb140, 1, none⟩ = some (.int .u64 0) := (blk_cell BK140.out 1).trans rfl
        have hcz43_2 : wr.cell? ⟨gb140, 2, none⟩ = some (.string (⟨#[]⟩ : ByteArray)) := (blk_cell BK140.out 2).trans rfl
        have hcz43_3 : wr.cell? ⟨gb140, 3, none⟩ = some (.slice none 0 0) := (blk_cell BK140.out 3).trans rfl
        have hcz43_4 : wr.cell? ⟨gb140, 4, none⟩ = some (.slice none 0 0) := (blk_cell BK140.out 4).trans rfl
        have hcz43_5 : wr.cell? ⟨gb140, 5, none⟩ = some (.bool false) := (blk_cell BK140.out 5).trans rfl
        have hcz43_6 : wr.cell? ⟨gb140, 6, none⟩ = some (.bool false) := (blk_cell BK140.out 6).trans rfl
        have hcz43_7 : wr.cell? ⟨gb140, 7, none⟩ = some (.bool false) := (blk_cell BK140.out 7).trans rfl
        have hfz43_0 := blk_frozen BK140.out 0
        have hfz43_1 := blk_frozen BK140.out 1
        have hfz43_2 := blk_frozen BK140.out 2
        have hfz43_3 := blk_frozen BK140.out 3
        have hfz43_4 := blk_frozen BK140.out 4
        have hfz43_5 := blk_frozen BK140.out 5
        have hfz43_6 := blk_frozen BK140.out 6
        have hfz43_7 := blk_frozen BK140.out 7
        obtain ⟨Ao44, co44, eo44⟩ := Kd.V_slice HO_140004.out
        subst eo44
        go_wp2
        refine bodyPost_ret (results_cell_row rfl _ _ gb140 29 #[.int .u64 a0_0, .int .u64 a0_1, .string a0_2, .slice A0_3 l0_3.length c0_3, .slice Ao44 x140004_1.length co44, .bool true, .bool (!a0_7), .bool a0_7] (0, 0) _ rfl (by (with_reducible repeat (first | refine blk_drewN ?_ _ | refine blk_drew ?_ | refine blk_alloc ?_ _)); refine blk_put (cs := #[.int .u64 a0_0, .int .u64 a0_1, .string a0_2, .slice A0_3 l0_3.length c0_3, .slice Ao44 x140004_1.length co44, .bool true, .bool (!a0_7), .bool false]) ?_ 7 _ rfl; (with_reducible repeat (first | refine blk_drewN ?_ _ | refine blk_drew ?_ | refine blk_alloc ?_ _)); refine blk_put (cs := #[.int .u64 a0_0, .int .u64 a0_1, .string a0_2, .slice A0_3 l0_3.length c0_3, .slice Ao44 x140004_1.length co44, .bool true, .bool false, .bool false]) ?_ 6 _ rfl; (with_reducible repeat (first | refine blk_drewN ?_ _ | refine blk_drew ?_ | refine blk_alloc ?_ _)); refine blk_put (cs := #[.int .u64 a0_0, .int .u64 a0_1, .string a0_2, .slice A0_3 l0_3.length c0_3, .slice Ao44 x140004_1.length co44, .bool false, .bool false, .bool false]) ?_ 5 _ rfl; (with_reducible repeat (first | refine blk_drewN ?_ _ | refine blk_drew ?_ | refine blk_alloc ?_ _)); refine blk_put (cs := #[.int .u64 a0_0, .int .u64 a0_1, .string a0_2, .slice A0_3 l0_3.length c0_3, .slice none 0 0, .bool false, .bool false, .bool false]) ?_ 4 _ rfl; (with_reducible repeat (first | refine blk_drewN ?_ _ | refine blk_drew ?_ | refine blk_alloc ?_ _)); refine blk_put (cs := #[.int .u64 a0_0, .int .u64 a0_1, .string a0_2, .slice none 0 0, .slice none 0 0, .bool false, .bool false, .bool false]) ?_ 3 _ rfl; (with_reducible repeat (first | refine blk_drewN ?_ _ | refine blk_drew ?_ | refine blk_alloc ?_ _)); refine blk_put (cs := #[.int .u64 a0_0, .int .u64 a0_1, .string (⟨#[]⟩ : ByteArray), .slice none 0 0, .slice none 0 0, .bool false, .bool false, .bool false]) ?_ 2 _ rfl; (with_reducible repeat (first | refine blk_drewN ?_ _ | refine blk_drew ?_ | refine blk_alloc ?_ _)); refine blk_put (cs := #[.int .u64 a0_0, .int .u64 0, .string (⟨#[]⟩ : ByteArray), .slice none 0 0, .slice none 0 0, .bool false, .bool false, .bool false]) ?_ 1 _ rfl; (with_reducible repeat (first | refine blk_drewN ?_ _ | refine blk_drew ?_ | refine blk_alloc ?_ _)); refine blk_put (cs := #[.int .u64 0, .int .u64 0, .string (⟨#[]⟩ : ByteArray), .slice none 0 0, .slice none 0 0, .bool false, .bool false, .bool false]) ?_ 0 _ rfl; (with_reducible repeat (first | refine blk_drewN ?_ _ | refine blk_drew ?_ | refine blk_alloc ?_ _)); refine blk_far ?_ NB140_139.out _; (with_reducible repeat (first | refine blk_drewN ?_ _ | refine blk_drew ?_ | refine blk_alloc ?_ _)); exact BK140.out) Try.underlying29 rfl (by kernel_rfl)) rfl ?_
        exact ⟨_, _, by first | rfl | (simp [errW_none, errW_some] <;> rfl) | (simp [*, errW_none, errW_some] <;> rfl), by (with_reducible repeat (first | apply Kd.V_alloc | apply Kd.V_drewN | apply Kd.V_drew)); exact Kd.V_mono (Kd.V_far (p := ⟨gb140, 7, none⟩) (Kd.V_far (p := ⟨gb140, 6, none⟩) (Kd.V_far (p := ⟨gb140, 5, none⟩) (Kd.V_far (p := ⟨gb140, 4, none⟩) (Kd.V_far (p := ⟨gb140, 3, none⟩) (Kd.V_far (p := ⟨gb140, 2, none⟩) (Kd.V_far (p := ⟨gb140, 1, none⟩) (Kd.V_far (p := ⟨gb140, 0, none⟩) (Kd.V_far (p := ⟨gb139, 6, none⟩) (Kd.V_mono (Kd.V_mono HO_140003.out (fun k_ hk => (⟨hk, hk.2.2.1⟩ : _ ∧ k_ ≠ gb139))) (fun k_ hk => (⟨hk, hk.1.2.2.2.1⟩ : _ ∧ k_ ≠ gb140))) (fun _ hk => hk.1.2) (.bool (!a0_7))) (fun _ hk => hk.2) (.int .u64 a0_0)) (fun _ hk => hk.2) (.int .u64 a0_1)) (fun _ hk => hk.2) (.string a0_2)) (fun _ hk => hk.2) (.slice A0_3 l0_3.length c0_3)) (fun _ hk => hk.2) (.slice Ao44 x140004_1.length co44)) (fun _ hk => hk.2) (.bool true)) (fun _ hk => hk.2) (.bool (!a0_7))) (fun _ hk => hk.2) (.bool a0_7)) (fun _ hk => hk.1.1.1), by (with_reducible repeat (first | apply Kd.V_alloc | apply Kd.V_drewN | apply Kd.V_drew)); exact Kd.V_mono (Kd.V_far (p := ⟨gb140, 7, none⟩) (Kd.V_far (p := ⟨gb140, 6, none⟩) (Kd.V_far (p := ⟨gb140, 5, none⟩) (Kd.V_far (p := ⟨gb140, 4, none⟩) (Kd.V_far (p := ⟨gb140, 3, none⟩) (Kd.V_far (p := ⟨gb140, 2, none⟩) (Kd.V_far (p := ⟨gb140, 1, none⟩) (Kd.V_far (p := ⟨gb140, 0, none⟩) (Kd.V_far (p := ⟨gb139, 6, none⟩) (Kd.V_mono (Kd.V_mono HO_140004.out (fun k_ hk => (⟨hk, hk.2.2.1⟩ : _ ∧ k_ ≠ gb139))) (fun k_ hk => (⟨hk, hk.1.2.2.2.1⟩ : _ ∧ k_ ≠ gb140))) (fun _ hk => hk.1.2) (.bool (!a0_7))) (fun _ hk => hk.2) (.int .u64 a0_0)) (fun _ hk => hk.2) (.int .u64 a0_1)) (fun _ hk => hk.2) (.string a0_2)) (fun _ hk => hk.2) (.slice A0_3 l0_3.length c0_3)) (fun _ hk => hk.2) (.slice Ao44 x140004_1.length co44)) (fun _ hk => hk.2) (.bool true)) (fun _ hk => hk.2) (.bool (!a0_7))) (fun _ hk => hk.2) (.bool a0_7)) (fun _ hk => hk.1.1.1), by repeat (first | (with_reducible first | exact HB.out | apply below_alloc | apply pw_below_drewN | apply below_drew1 | refine below_set ?_ GE139.out | refine below_set ?_ GE140.out | refine below_set ?_ GE144.out) | exact HB.out)⟩
       ·replace c38 := Bool.eq_false_iff.mpr c38
        subst c38
        have H1 : (none) = some (r1, r2, r3, r4, r5, r6, r7, r8) := by rw [if_neg (show ¬ (false = true) by decide)] at H; exact H
        clear H
        have H := H1
        clear H1
        exact absurd H (by simp)
      ·replace c37 := Bool.eq_false_iff.mpr c37
       subst c37
       have H1 : (none) = some (r1, r2, r3, r4, r5, r6, r7, r8) := by rw [if_neg (show ¬ (false = true) by decide)] at H; exact H
       clear H
       have H := H1
       clear H1
       exact absurd H (by simp)
 ·replace c6 := Bool.eq_false_iff.mpr c6
  subst c6
  have H1 : (none) = some (r1, r2, r3, r4, r5, r6, r7, r8) := by rw [if_neg (show ¬ (false = true) by decide)] at H; exact H
  clear H
  have H := H1
  clear H1
  exact absurd H (by simp)

-- NOT PRINTED: function 38 (sendq_queue_slide)

end Go.Proofs.Ytocagkmnefkniaa.PSqw
