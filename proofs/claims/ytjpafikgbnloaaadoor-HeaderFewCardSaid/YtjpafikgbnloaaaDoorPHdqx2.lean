-- printed for this claim by a program of the claim (wip/tools/pp.py over the kit's print)
import Derived.Test.YtjpafikgbnloaaaDoorPHdqx0
import Derived.Test.YtjpafikgbnloaaaDoorPHdqx1
namespace Go.Proofs.YtjpafikgbnloaaaDoor.PHdq
open Go.RowKit Go.Proofs.YtjpafikgbnloaaaDoorW.PrintWords Go.Proofs.YtjpafikgbnloaaaDoorW.PrintLast Go.Proofs.YtjpafikgbnloaaaDoorW.PrintMore
attribute [local go_sem] max2_int min2_int max_two min_two max_three min_three max_four min_four   -- for this text's walks alone
set_option linter.unusedVariables false
set_option linter.unusedSimpArgs false

attribute [local go_sem] isSome_setCell_
attribute [local go_sem high] eqA25
/-! ### dominolaw04_bounded: function 10 -/
def dominolaw04_bounded.f (a0_0 : Bool) (a0_1 : Bool) (a0_2 : Bool) (a0_3 : Int) (a0_4 : Int) (a0_5 : ByteArray) (a0_6 : ByteArray) (a0_7 : ByteArray) (a0_8 : Int) (a0_9 : Int) (a0_10 : Int) : Option (Bool) := if (a0_5.size : Int) ≤ 100 then (if (a0_6.size : Int) ≤ 100 then (some (decide ((a0_7.size : Int) ≤ 1100))) else (some false)) else (some false)
set_option maxHeartbeats 8000000 in
set_option maxRecDepth 100000 in
theorem dominolaw04_bounded.calls (a0_0 : Bool) (a0_1 : Bool) (a0_2 : Bool) (a0_3 : Int) (a0_4 : Int) (a0_5 : ByteArray) (a0_6 : ByteArray) (a0_7 : ByteArray) (a0_8 : Int) (a0_9 : Int) (a0_10 : Int) (r : Bool) (w : World) (h : dominolaw04_bounded.f a0_0 a0_1 a0_2 a0_3 a0_4 a0_5 a0_6 a0_7 a0_8 a0_9 a0_10 = some r) :
  Calls Tryd.prog 10 #[.agg #[.bool a0_0, .bool a0_1, .bool a0_2, .int .i64 a0_3, .int .u32 a0_4, .string a0_5, .string a0_6, .string a0_7, .int .u64 a0_8, .int .i64 a0_9, .int .u64 a0_10]] w fun e w' => e = .returned (.bool r) ∧ Below w.heap.size w w' := by
 have hu25 := Tryd.underlying25
 have HB := Aside0.mk (Below.refl w.heap.size w)
 have H : (if (a0_5.size : Int) ≤ 100 then (if (a0_6.size : Int) ≤ 100 then (some (decide ((a0_7.size : Int) ≤ 1100))) else (some false)) else (some false)) = some r := h
 clear h
 by_cases c2 : (a0_5.size : Int) ≤ 100
 ·rw [if_pos c2] at H
  have c2b0 : decide ((a0_5.size : Int) ≤ 100) = true := decide_eq_true c2
  have c2b1 : decide (a0_5.size ≤ 100) = true := decide_eq_true (by omega)
  clear c2
  by_cases c3 : (a0_6.size : Int) ≤ 100
  ·rw [if_pos c3] at H
   have c3b0 : decide ((a0_6.size : Int) ≤ 100) = true := decide_eq_true c3
   have c3b1 : decide (a0_6.size ≤ 100) = true := decide_eq_true (by omega)
   clear c3
   obtain rfl := Option.some.inj H
   go_enter Tryd.func10, Tryd.ntmps10
   go_wp2_with (first | ((with_reducible refine gate_dst (N := 1) rfl ?_); (try (refine gate_guard (by rfl) ?_; dsimp only)); refine box_event ?hg (N := 1) ?hd (cs := #[.bool a0_0, .bool a0_1, .bool a0_2, .int .i64 a0_3, .int .u32 a0_4, .string a0_5, .string a0_6, .string a0_7, .int .u64 a0_8, .int .i64 a0_9, .int .u64 a0_10]) (t := 25) ?hr ?_; (case hd => rfl); (case hg => rfl); (case hr => first | (go_simp; done) | (go_simp; rfl)); intro gb101 hg w4 hbox hb; have n0_ := Aside0.mk (below_step (by repeat (first | (with_reducible first | exact HB.out | apply below_alloc | apply pw_below_drewN | apply below_drew1) | exact HB.out)) hb); have n1_ := Aside0.mk (hbox); have n2_ := Aside0.mk ((by rw [hg]; exact (below_size (by repeat (first | (with_reducible first | exact HB.out | apply below_alloc | apply pw_below_drewN | apply below_drew1) | exact HB.out))) : w.heap.size ≤ gb101)); have n3_ := Aside0.mk ((by rw [hg]; exact (below_size (by repeat (first | (with_reducible first | exact HB.out | apply below_alloc | apply pw_below_drewN | apply below_drew1) | exact HB.out))) : w.heap.size ≤ gb101)); clear HB; have HB := n0_; have BK101 := n1_; have GW101 := n2_; have GE101 := n3_; clear n0_ n1_ n2_ n3_; clear hb hbox hg; have hcz5_0 : w4.cell? ⟨gb101, 0, none⟩ = some (.bool a0_0) := (blk_cell BK101.out 0).trans rfl; have hcz5_1 : w4.cell? ⟨gb101, 1, none⟩ = some (.bool a0_1) := (blk_cell BK101.out 1).trans rfl; have hcz5_2 : w4.cell? ⟨gb101, 2, none⟩ = some (.bool a0_2) := (blk_cell BK101.out 2).trans rfl; have hcz5_3 : w4.cell? ⟨gb101, 3, none⟩ = some (.int .i64 a0_3) := (blk_cell BK101.out 3).trans rfl; have hcz5_4 : w4.cell? ⟨gb101, 4, none⟩ = some (.int .u32 a0_4) := (blk_cell BK101.out 4).trans rfl; have hcz5_5 : w4.cell? ⟨gb101, 5, none⟩ = some (.string a0_5) := (blk_cell BK101.out 5).trans rfl; have hcz5_6 : w4.cell? ⟨gb101, 6, none⟩ = some (.string a0_6) := (blk_cell BK101.out 6).trans rfl; have hcz5_7 : w4.cell? ⟨gb101, 7, none⟩ = some (.string a0_7) := (blk_cell BK101.out 7).trans rfl; have hcz5_8 : w4.cell? ⟨gb101, 8, none⟩ = some (.int .u64 a0_8) := (blk_cell BK101.out 8).trans rfl; have hcz5_9 : w4.cell? ⟨gb101, 9, none⟩ = some (.int .i64 a0_9) := (blk_cell BK101.out 9).trans rfl; have hcz5_10 : w4.cell? ⟨gb101, 10, none⟩ = some (.int .u64 a0_10) := (blk_cell BK101.out 10).trans rfl; have hfz5_0 := blk_frozen BK101.out 0; have hfz5_1 := blk_frozen BK101.out 1; have hfz5_2 := blk_frozen BK101.out 2; have hfz5_3 := blk_frozen BK101.out 3; have hfz5_4 := blk_frozen BK101.out 4; have hfz5_5 := blk_frozen BK101.out 5; have hfz5_6 := blk_frozen BK101.out 6; have hfz5_7 := blk_frozen BK101.out 7; have hfz5_8 := blk_frozen BK101.out 8; have hfz5_9 := blk_frozen BK101.out 9; have hfz5_10 := blk_frozen BK101.out 10))
   go_ret
   exact ⟨by first | rfl | (simp [errW_none, errW_some] <;> rfl) | (simp [*, errW_none, errW_some] <;> rfl), by repeat (first | (with_reducible first | exact HB.out | apply below_alloc | apply pw_below_drewN | apply below_drew1 | refine below_set ?_ GE101.out) | exact HB.out)⟩
  ·rw [if_neg c3] at H
   have c3b0 : decide ((a0_6.size : Int) ≤ 100) = false := decide_eq_false c3
   have c3b1 : decide (a0_6.size ≤ 100) = false := decide_eq_false (by omega)
   clear c3
   obtain rfl := Option.some.inj H
   go_enter Tryd.func10, Tryd.ntmps10
   go_wp2_with (first | ((with_reducible refine gate_dst (N := 1) rfl ?_); (try (refine gate_guard (by rfl) ?_; dsimp only)); refine box_event ?hg (N := 1) ?hd (cs := #[.bool a0_0, .bool a0_1, .bool a0_2, .int .i64 a0_3, .int .u32 a0_4, .string a0_5, .string a0_6, .string a0_7, .int .u64 a0_8, .int .i64 a0_9, .int .u64 a0_10]) (t := 25) ?hr ?_; (case hd => rfl); (case hg => rfl); (case hr => first | (go_simp; done) | (go_simp; rfl)); intro gb101 hg w6 hbox hb; have n0_ := Aside0.mk (below_step (by repeat (first | (with_reducible first | exact HB.out | apply below_alloc | apply pw_below_drewN | apply below_drew1) | exact HB.out)) hb); have n1_ := Aside0.mk (hbox); have n2_ := Aside0.mk ((by rw [hg]; exact (below_size (by repeat (first | (with_reducible first | exact HB.out | apply below_alloc | apply pw_below_drewN | apply below_drew1) | exact HB.out))) : w.heap.size ≤ gb101)); have n3_ := Aside0.mk ((by rw [hg]; exact (below_size (by repeat (first | (with_reducible first | exact HB.out | apply below_alloc | apply pw_below_drewN | apply below_drew1) | exact HB.out))) : w.heap.size ≤ gb101)); clear HB; have HB := n0_; have BK101 := n1_; have GW101 := n2_; have GE101 := n3_; clear n0_ n1_ n2_ n3_; clear hb hbox hg; have hcz7_0 : w6.cell? ⟨gb101, 0, none⟩ = some (.bool a0_0) := (blk_cell BK101.out 0).trans rfl; have hcz7_1 : w6.cell? ⟨gb101, 1, none⟩ = some (.bool a0_1) := (blk_cell BK101.out 1).trans rfl; have hcz7_2 : w6.cell? ⟨gb101, 2, none⟩ = some (.bool a0_2) := (blk_cell BK101.out 2).trans rfl; have hcz7_3 : w6.cell? ⟨gb101, 3, none⟩ = some (.int .i64 a0_3) := (blk_cell BK101.out 3).trans rfl; have hcz7_4 : w6.cell? ⟨gb101, 4, none⟩ = some (.int .u32 a0_4) := (blk_cell BK101.out 4).trans rfl; have hcz7_5 : w6.cell? ⟨gb101, 5, none⟩ = some (.string a0_5) := (blk_cell BK101.out 5).trans rfl; have hcz7_6 : w6.cell? ⟨gb101, 6, none⟩ = some (.string a0_6) := (blk_cell BK101.out 6).trans rfl; have hcz7_7 : w6.cell? ⟨gb101, 7, none⟩ = some (.string a0_7) := (blk_cell BK101.out 7).trans rfl; have hcz7_8 : w6.cell? ⟨gb101, 8, none⟩ = some (.int .u64 a0_8) := (blk_cell BK101.out 8).trans rfl; have hcz7_9 : w6.cell? ⟨gb101, 9, none⟩ = some (.int .i64 a0_9) := (blk_cell BK101.out 9).trans rfl; have hcz7_10 : w6.cell? ⟨gb101, 10, none⟩ = some (.int .u64 a0_10) := (blk_cell BK101.out 10).trans rfl; have hfz7_0 := blk_frozen BK101.out 0; have hfz7_1 := blk_frozen BK101.out 1; have hfz7_2 := blk_frozen BK101.out 2; have hfz7_3 := blk_frozen BK101.out 3; have hfz7_4 := blk_frozen BK101.out 4; have hfz7_5 := blk_frozen BK101.out 5; have hfz7_6 := blk_frozen BK101.out 6; have hfz7_7 := blk_frozen BK101.out 7; have hfz7_8 := blk_frozen BK101.out 8; have hfz7_9 := blk_frozen BK101.out 9; have hfz7_10 := blk_frozen BK101.out 10))
   go_ret
   exact ⟨by first | rfl | (simp [errW_none, errW_some] <;> rfl) | (simp [*, errW_none, errW_some] <;> rfl), by repeat (first | (with_reducible first | exact HB.out | apply below_alloc | apply pw_below_drewN | apply below_drew1 | refine below_set ?_ GE101.out) | exact HB.out)⟩
 ·rw [if_neg c2] at H
  have c2b0 : decide ((a0_5.size : Int) ≤ 100) = false := decide_eq_false c2
  have c2b1 : decide (a0_5.size ≤ 100) = false := decide_eq_false (by omega)
  clear c2
  obtain rfl := Option.some.inj H
  go_enter Tryd.func10, Tryd.ntmps10
  go_wp2_with (first | ((with_reducible refine gate_dst (N := 1) rfl ?_); (try (refine gate_guard (by rfl) ?_; dsimp only)); refine box_event ?hg (N := 1) ?hd (cs := #[.bool a0_0, .bool a0_1, .bool a0_2, .int .i64 a0_3, .int .u32 a0_4, .string a0_5, .string a0_6, .string a0_7, .int .u64 a0_8, .int .i64 a0_9, .int .u64 a0_10]) (t := 25) ?hr ?_; (case hd => rfl); (case hg => rfl); (case hr => first | (go_simp; done) | (go_simp; rfl)); intro gb101 hg w8 hbox hb; have n0_ := Aside0.mk (below_step (by repeat (first | (with_reducible first | exact HB.out | apply below_alloc | apply pw_below_drewN | apply below_drew1) | exact HB.out)) hb); have n1_ := Aside0.mk (hbox); have n2_ := Aside0.mk ((by rw [hg]; exact (below_size (by repeat (first | (with_reducible first | exact HB.out | apply below_alloc | apply pw_below_drewN | apply below_drew1) | exact HB.out))) : w.heap.size ≤ gb101)); have n3_ := Aside0.mk ((by rw [hg]; exact (below_size (by repeat (first | (with_reducible first | exact HB.out | apply below_alloc | apply pw_below_drewN | apply below_drew1) | exact HB.out))) : w.heap.size ≤ gb101)); clear HB; have HB := n0_; have BK101 := n1_; have GW101 := n2_; have GE101 := n3_; clear n0_ n1_ n2_ n3_; clear hb hbox hg; have hcz9_0 : w8.cell? ⟨gb101, 0, none⟩ = some (.bool a0_0) := (blk_cell BK101.out 0).trans rfl; have hcz9_1 : w8.cell? ⟨gb101, 1, none⟩ = some (.bool a0_1) := (blk_cell BK101.out 1).trans rfl; have hcz9_2 : w8.cell? ⟨gb101, 2, none⟩ = some (.bool a0_2) := (blk_cell BK101.out 2).trans rfl; have hcz9_3 : w8.cell? ⟨gb101, 3, none⟩ = some (.int .i64 a0_3) := (blk_cell BK101.out 3).trans rfl; have hcz9_4 : w8.cell? ⟨gb101, 4, none⟩ = some (.int .u32 a0_4) := (blk_cell BK101.out 4).trans rfl; have hcz9_5 : w8.cell? ⟨gb101, 5, none⟩ = some (.string a0_5) := (blk_cell BK101.out 5).trans rfl; have hcz9_6 : w8.cell? ⟨gb101, 6, none⟩ = some (.string a0_6) := (blk_cell BK101.out 6).trans rfl; have hcz9_7 : w8.cell? ⟨gb101, 7, none⟩ = some (.string a0_7) := (blk_cell BK101.out 7).trans rfl; have hcz9_8 : w8.cell? ⟨gb101, 8, none⟩ = some (.int .u64 a0_8) := (blk_cell BK101.out 8).trans rfl; have hcz9_9 : w8.cell? ⟨gb101, 9, none⟩ = some (.int .i64 a0_9) := (blk_cell BK101.out 9).trans rfl; have hcz9_10 : w8.cell? ⟨gb101, 10, none⟩ = some (.int .u64 a0_10) := (blk_cell BK101.out 10).trans rfl; have hfz9_0 := blk_frozen BK101.out 0; have hfz9_1 := blk_frozen BK101.out 1; have hfz9_2 := blk_frozen BK101.out 2; have hfz9_3 := blk_frozen BK101.out 3; have hfz9_4 := blk_frozen BK101.out 4; have hfz9_5 := blk_frozen BK101.out 5; have hfz9_6 := blk_frozen BK101.out 6; have hfz9_7 := blk_frozen BK101.out 7; have hfz9_8 := blk_frozen BK101.out 8; have hfz9_9 := blk_frozen BK101.out 9; have hfz9_10 := blk_frozen BK101.out 10))
  go_ret
  exact ⟨by first | rfl | (simp [errW_none, errW_some] <;> rfl) | (simp [*, errW_none, errW_some] <;> rfl), by repeat (first | (with_reducible first | exact HB.out | apply below_alloc | apply pw_below_drewN | apply below_drew1 | refine below_set ?_ GE101.out) | exact HB.out)⟩

/-! ### header_May: function 18 -/
def header_May.j0 : Nat → Bool → Bool → Bool → Bool → Int → Int → ByteArray → ByteArray → ByteArray → Int → Int → Int → Option (Bool)
 | 0, _, _, _, _, _, _, _, _, _, _, _, _ => none
 | k + 1, x20, x103000, x103001, x103002, x103003, x103004, x103005, x103006, x103007, x103008, x103009, x103010 => if x20 = true then (some false) else (if x103000 = true then (if x103001 = true then (some false) else (if x103002 = true then (some false) else (if x103003 < 0 then (some false) else (if x103003 > 2 then (some false) else (if x103003 = 0 then (if (x103005.size : Int) ≤ 20 then (if (x103006.size : Int) ≤ 20 then (if (x103007.size : Int) ≤ 1000 then (some (decide (x103008 ≤ 4611686018427387903))) else (some false)) else (some false)) else (some false)) else (if x103007.toList = ([] : List UInt8) then (if (x103005.size : Int) ≤ 20 then (if (x103006.size : Int) ≤ 20 then (if (x103007.size : Int) ≤ 1000 then (some (decide (x103008 ≤ 4611686018427387903))) else (some false)) else (some false)) else (some false)) else (some false))))))) else (if (!x103000 && (x103003 == 0 && (x103004 == 0 && (x103006.toList == ([] : List UInt8) && (x103007.toList == ([] : List UInt8) && (x103008 == 0)))))) = true then (some ((x103005.size : Int) == 8)) else (some false)))
def header_May.f (k : Nat) (a0_0 : Bool) (a0_1 : Bool) (a0_2 : Bool) (a0_3 : Int) (a0_4 : Int) (a0_5 : ByteArray) (a0_6 : ByteArray) (a0_7 : ByteArray) (a0_8 : Int) (a0_9 : Int) (a0_10 : Int) : Option (Bool) := if a0_9 < 1 then (header_May.j0 k true a0_0 a0_1 a0_2 a0_3 a0_4 a0_5 a0_6 a0_7 a0_8 a0_9 a0_10) else (if a0_9 > 4 then (header_May.j0 k true a0_0 a0_1 a0_2 a0_3 a0_4 a0_5 a0_6 a0_7 a0_8 a0_9 a0_10) else (if 0 ≤ (wrap64 (8 * a0_9)) then (header_May.j0 k ((shr .u64 a0_10 (wrap64 (8 * a0_9))) != 0) a0_0 a0_1 a0_2 a0_3 a0_4 a0_5 a0_6 a0_7 a0_8 a0_9 a0_10) else (none)))
theorem header_May.mono_l : ∀ k, (∀ y0 y1 y2 y3 y4 y5 y6 y7 y8 y9 y10 y11, LeO (header_May.j0 k y0 y1 y2 y3 y4 y5 y6 y7 y8 y9 y10 y11) (header_May.j0 (k + 1) y0 y1 y2 y3 y4 y5 y6 y7 y8 y9 y10 y11))
 | 0 => fun _ _ _ _ _ _ _ _ _ _ _ _ r h => by simp [header_May.j0] at h
 | k + 1 => by
  have ih0 := header_May.mono_l k
  ·intro y0 y1 y2 y3 y4 y5 y6 y7 y8 y9 y10 y11
   unfold header_May.j0
   repeat' first
   | (with_reducible exact ih0 _ _ _ _ _ _ _ _ _ _ _ _)
   | (with_reducible exact LeO.refl _)
   | (with_reducible exact LeO.none _)
   | (with_reducible refine LeO.ite ?_ ?_)
   | (with_reducible refine LeO.bind ?_ (fun _ => ?_))
   | exact ih0 _ _ _ _ _ _ _ _ _ _ _ _
   | exact LeO.none _
   | refine LeO.ite ?_ ?_
   | refine LeO.bind ?_ (fun _ => ?_)
theorem header_May.mono : ∀ a0 a1 a2 a3 a4 a5 a6 a7 a8 a9 a10 k, LeO (header_May.f k a0 a1 a2 a3 a4 a5 a6 a7 a8 a9 a10) (header_May.f (k + 1) a0 a1 a2 a3 a4 a5 a6 a7 a8 a9 a10) := by
 intro a0 a1 a2 a3 a4 a5 a6 a7 a8 a9 a10 k
 have ih0 := header_May.mono_l k
 unfold header_May.f
 repeat' first
   | (with_reducible exact ih0 _ _ _ _ _ _ _ _ _ _ _ _)
   | (with_reducible exact LeO.refl _)
   | (with_reducible exact LeO.none _)
   | (with_reducible refine LeO.ite ?_ ?_)
   | (with_reducible refine LeO.bind ?_ (fun _ => ?_))
   | exact ih0 _ _ _ _ _ _ _ _ _ _ _ _
   | exact LeO.none _
   | refine LeO.ite ?_ ?_
   | refine LeO.bind ?_ (fun _ => ?_)
set_option maxHeartbeats 8000000 in
set_option maxRecDepth 100000 in
theorem header_May.calls (k : Nat) (a0_0 : Bool) (a0_1 : Bool) (a0_2 : Bool) (a0_3 : Int) (a0_4 : Int) (a0_5 : ByteArray) (a0_6 : ByteArray) (a0_7 : ByteArray) (a0_8 : Int) (a0_9 : Int) (a0_10 : Int) (r : Bool) (w : World) (h : header_May.f k a0_0 a0_1 a0_2 a0_3 a0_4 a0_5 a0_6 a0_7 a0_8 a0_9 a0_10 = some r) :
  Calls Tryd.prog 18 #[.agg #[.bool a0_0, .bool a0_1, .bool a0_2, .int .i64 a0_3, .int .u32 a0_4, .string a0_5, .string a0_6, .string a0_7, .int .u64 a0_8, .int .i64 a0_9, .int .u64 a0_10]] w fun e w' => e = .returned (.bool r) ∧ Below w.heap.size w w' := by
 have hu25 := Tryd.underlying25
 have HB := Aside0.mk (Below.refl w.heap.size w)
 have H : (if a0_9 < 1 then (header_May.j0 k true a0_0 a0_1 a0_2 a0_3 a0_4 a0_5 a0_6 a0_7 a0_8 a0_9 a0_10) else (if a0_9 > 4 then (header_May.j0 k true a0_0 a0_1 a0_2 a0_3 a0_4 a0_5 a0_6 a0_7 a0_8 a0_9 a0_10) else (if 0 ≤ (wrap64 (8 * a0_9)) then (header_May.j0 k ((shr .u64 a0_10 (wrap64 (8 * a0_9))) != 0) a0_0 a0_1 a0_2 a0_3 a0_4 a0_5 a0_6 a0_7 a0_8 a0_9 a0_10) else (none)))) = some r := h
 clear h
 have HC2 := Aside0.mk H
 clear H
 go_enter Tryd.func18, Tryd.ntmps18
 go_upto_region 1 with (first | ((with_reducible refine gate_dst (N := 1) rfl ?_); (try (refine gate_guard (by rfl) ?_; dsimp only)); refine box_event ?hg (N := 1) ?hd (cs := #[.bool a0_0, .bool a0_1, .bool a0_2, .int .i64 a0_3, .int .u32 a0_4, .string a0_5, .string a0_6, .string a0_7, .int .u64 a0_8, .int .i64 a0_9, .int .u64 a0_10]) (t := 25) ?hr ?_; (case hd => rfl); (case hg => rfl); (case hr => first | (go_simp; done) | (go_simp; rfl)); intro gb102 hg w3 hbox hb; have n0_ := Aside0.mk (below_step (by repeat (first | (with_reducible first | exact HB.out | apply below_alloc | apply pw_below_drewN | apply below_drew1) | exact HB.out)) hb); have n1_ := Aside0.mk (hbox); have n2_ := Aside0.mk ((by rw [hg]; exact (below_size (by repeat (first | (with_reducible first | exact HB.out | apply below_alloc | apply pw_below_drewN | apply below_drew1) | exact HB.out))) : w.heap.size ≤ gb102)); have n3_ := Aside0.mk ((by rw [hg]; exact (below_size (by repeat (first | (with_reducible first | exact HB.out | apply below_alloc | apply pw_below_drewN | apply below_drew1) | exact HB.out))) : w.heap.size ≤ gb102)); clear HB; have HB := n0_; have BK102 := n1_; have GW102 := n2_; have GE102 := n3_; clear n0_ n1_ n2_ n3_; clear hb hbox hg))
 (try simp only [Act.put, List.setIfInBounds_toArray, List.set_cons_zero, List.set_cons_succ])
 go_cut [20] (fun v20 wc => ∃ (kq : Nat) (x20_1 : Bool), v20 = .bool x20_1 ∧ Aside0 (header_May.j0 kq x20_1 a0_0 a0_1 a0_2 a0_3 a0_4 a0_5 a0_6 a0_7 a0_8 a0_9 a0_10 = some r) ∧ Aside0 (kq ≤ k) ∧ Aside0 (wc.heap[gb102]? = some (.cells #[.bool a0_0, .bool a0_1, .bool a0_2, .int .i64 a0_3, .int .u32 a0_4, .string a0_5, .string a0_6, .string a0_7, .int .u64 a0_8, .int .i64 a0_9, .int .u64 a0_10] 25 (0, 0))) ∧ Aside0 (Below w.heap.size w wc))
 case first =>
  have H := HC2.out
  clear HC2
  by_cases c4 : a0_9 < 1
  ·rw [if_pos c4] at H
   have c4b0 : decide (a0_9 < 1) = true := decide_eq_true c4
   clear c4
   (first | rw [c4b0] | (simp only [i64_w, i32_w]; rw [c4b0]) | skip)
   have H' := Aside0.mk H
   clear H
   have hcz5_0 : w3.cell? ⟨gb102, 0, none⟩ = some (.bool a0_0) := (blk_cell BK102.out 0).trans rfl
   have hcz5_1 : w3.cell? ⟨gb102, 1, none⟩ = some (.bool a0_1) := (blk_cell BK102.out 1).trans rfl
   have hcz5_2 : w3.cell? ⟨gb102, 2, none⟩ = some (.bool a0_2) := (blk_cell BK102.out 2).trans rfl
   have hcz5_3 : w3.cell? ⟨gb102, 3, none⟩ = some (.int .i64 a0_3) := (blk_cell BK102.out 3).trans rfl
   have hcz5_4 : w3.cell? ⟨gb102, 4, none⟩ = some (.int .u32 a0_4) := (blk_cell BK102.out 4).trans rfl
   have hcz5_5 : w3.cell? ⟨gb102, 5, none⟩ = some (.string a0_5) := (blk_cell BK102.out 5).trans rfl
   have hcz5_6 : w3.cell? ⟨gb102, 6, none⟩ = some (.string a0_6) := (blk_cell BK102.out 6).trans rfl
   have hcz5_7 : w3.cell? ⟨gb102, 7, none⟩ = some (.string a0_7) := (blk_cell BK102.out 7).trans rfl
   have hcz5_8 : w3.cell? ⟨gb102, 8, none⟩ = some (.int .u64 a0_8) := (blk_cell BK102.out 8).trans rfl
   have hcz5_9 : w3.cell? ⟨gb102, 9, none⟩ = some (.int .i64 a0_9) := (blk_cell BK102.out 9).trans rfl
   have hcz5_10 : w3.cell? ⟨gb102, 10, none⟩ = some (.int .u64 a0_10) := (blk_cell BK102.out 10).trans rfl
   have hfz5_0 := blk_frozen BK102.out 0
   have hfz5_1 := blk_frozen BK102.out 1
   have hfz5_2 := blk_frozen BK102.out 2
   have hfz5_3 := blk_frozen BK102.out 3
   have hfz5_4 := blk_frozen BK102.out 4
   have hfz5_5 := blk_frozen BK102.out 5
   have hfz5_6 := blk_frozen BK102.out 6
   have hfz5_7 := blk_frozen BK102.out 7
   have hfz5_8 := blk_frozen BK102.out 8
   have hfz5_9 := blk_frozen BK102.out 9
   have hfz5_10 := blk_frozen BK102.out 10
   go_wp2
   go_meet
   case rel => exact ⟨_, (true), (by first | rfl | (simp; done) | (simp [*]; done)), H', ⟨by first | omega | exact Nat.le_refl _⟩, ⟨by (with_reducible repeat (first | refine blk_drewN ?_ _ | refine blk_drew ?_ | refine blk_alloc ?_ _)); exact BK102.out⟩, ⟨by repeat (first | (with_reducible first | exact HB.out | apply below_alloc | apply pw_below_drewN | apply below_drew1 | refine below_set ?_ GE102.out) | exact HB.out)⟩⟩
  ·rw [if_neg c4] at H
   have c4b0 : decide (a0_9 < 1) = false := decide_eq_false c4
   clear c4
   (first | rw [c4b0] | (simp only [i64_w, i32_w]; rw [c4b0]) | skip)
   by_cases c6 : a0_9 > 4
   ·rw [if_pos c6] at H
    have c6b0 : decide (4 < a0_9) = true := decide_eq_true c6
    clear c6
    have H' := Aside0.mk H
    clear H
    have hcz7_0 : w3.cell? ⟨gb102, 0, none⟩ = some (.bool a0_0) := (blk_cell BK102.out 0).trans rfl
    have hcz7_1 : w3.cell? ⟨gb102, 1, none⟩ = some (.bool a0_1) := (blk_cell BK102.out 1).trans rfl
    have hcz7_2 : w3.cell? ⟨gb102, 2, none⟩ = some (.bool a0_2) := (blk_cell BK102.out 2).trans rfl
    have hcz7_3 : w3.cell? ⟨gb102, 3, none⟩ = some (.int .i64 a0_3) := (blk_cell BK102.out 3).trans rfl
    have hcz7_4 : w3.cell? ⟨gb102, 4, none⟩ = some (.int .u32 a0_4) := (blk_cell BK102.out 4).trans rfl
    have hcz7_5 : w3.cell? ⟨gb102, 5, none⟩ = some (.string a0_5) := (blk_cell BK102.out 5).trans rfl
    have hcz7_6 : w3.cell? ⟨gb102, 6, none⟩ = some (.string a0_6) := (blk_cell BK102.out 6).trans rfl
    have hcz7_7 : w3.cell? ⟨gb102, 7, none⟩ = some (.string a0_7) := (blk_cell BK102.out 7).trans rfl
    have hcz7_8 : w3.cell? ⟨gb102, 8, none⟩ = some (.int .u64 a0_8) := (blk_cell BK102.out 8).trans rfl
    have hcz7_9 : w3.cell? ⟨gb102, 9, none⟩ = some (.int .i64 a0_9) := (blk_cell BK102.out 9).trans rfl
    have hcz7_10 : w3.cell? ⟨gb102, 10, none⟩ = some (.int .u64 a0_10) := (blk_cell BK102.out 10).trans rfl
    have hfz7_0 := blk_frozen BK102.out 0
    have hfz7_1 := blk_frozen BK102.out 1
    have hfz7_2 := blk_frozen BK102.out 2
    have hfz7_3 := blk_frozen BK102.out 3
    have hfz7_4 := blk_frozen BK102.out 4
    have hfz7_5 := blk_frozen BK102.out 5
    have hfz7_6 := blk_frozen BK102.out 6
    have hfz7_7 := blk_frozen BK102.out 7
    have hfz7_8 := blk_frozen BK102.out 8
    have hfz7_9 := blk_frozen BK102.out 9
    have hfz7_10 := blk_frozen BK102.out 10
    go_wp2
    go_meet
    case rel => exact ⟨_, (true), (by first | rfl | (simp; done) | (simp [*]; done)), H', ⟨by first | omega | exact Nat.le_refl _⟩, ⟨by (with_reducible repeat (first | refine blk_drewN ?_ _ | refine blk_drew ?_ | refine blk_alloc ?_ _)); exact BK102.out⟩, ⟨by repeat (first | (with_reducible first | exact HB.out | apply below_alloc | apply pw_below_drewN | apply below_drew1 | refine below_set ?_ GE102.out) | exact HB.out)⟩⟩
   ·rw [if_neg c6] at H
    have c6b0 : decide (4 < a0_9) = false := decide_eq_false c6
    clear c6
    obtain ⟨ji8, hji8⟩ : ∃ j_ : Int, (wrap64 (8 * a0_9)) = j_ := ⟨_, rfl⟩
    replace H : (if 0 ≤ (ji8) then (header_May.j0 k ((shr .u64 a0_10 (ji8)) != 0) a0_0 a0_1 a0_2 a0_3 a0_4 a0_5 a0_6 a0_7 a0_8 a0_9 a0_10) else (none)) = some r := by first | (rw [hji8] at H; exact H) | (simp only [hji8] at H ⊢; exact H)
    have hji8w : (IntKind.i64.wrap (8 * a0_9)) = ji8 := (i64_w _).trans hji8
    by_cases c9 : 0 ≤ (ji8)
    ·rw [if_pos c9] at H
     have c9b0 := eq_true c9
     have c9b1 : decide (0 ≤ (ji8)) = true := decide_eq_true c9
     clear c9
     obtain ⟨ji10, hji10⟩ : ∃ j_ : Int, (shr .u64 a0_10 (ji8)) = j_ := ⟨_, rfl⟩
     replace H : (header_May.j0 k ((ji10) != 0) a0_0 a0_1 a0_2 a0_3 a0_4 a0_5 a0_6 a0_7 a0_8 a0_9 a0_10) = some r := by first | (rw [hji10] at H; exact H) | (simp only [hji10] at H ⊢; exact H)
     have hji10_ : (a0_10 / 2 ^ min (ji8).toNat 64) = ji10 := hji10
     have hji10z : (ji8) ≤ 64 → (a0_10 / 2 ^ (ji8).toNat) = ji10 := shr_small hji10
     have H' := Aside0.mk H
     clear H
     have hcz11_0 : w3.cell? ⟨gb102, 0, none⟩ = some (.bool a0_0) := (blk_cell BK102.out 0).trans rfl
     have hcz11_1 : w3.cell? ⟨gb102, 1, none⟩ = some (.bool a0_1) := (blk_cell BK102.out 1).trans rfl
     have hcz11_2 : w3.cell? ⟨gb102, 2, none⟩ = some (.bool a0_2) := (blk_cell BK102.out 2).trans rfl
     have hcz11_3 : w3.cell? ⟨gb102, 3, none⟩ = some (.int .i64 a0_3) := (blk_cell BK102.out 3).trans rfl
     have hcz11_4 : w3.cell? ⟨gb102, 4, none⟩ = some (.int .u32 a0_4) := (blk_cell BK102.out 4).trans rfl
     have hcz11_5 : w3.cell? ⟨gb102, 5, none⟩ = some (.string a0_5) := (blk_cell BK102.out 5).trans rfl
     have hcz11_6 : w3.cell? ⟨gb102, 6, none⟩ = some (.string a0_6) := (blk_cell BK102.out 6).trans rfl
     have hcz11_7 : w3.cell? ⟨gb102, 7, none⟩ = some (.string a0_7) := (blk_cell BK102.out 7).trans rfl
     have hcz11_8 : w3.cell? ⟨gb102, 8, none⟩ = some (.int .u64 a0_8) := (blk_cell BK102.out 8).trans rfl
     have hcz11_9 : w3.cell? ⟨gb102, 9, none⟩ = some (.int .i64 a0_9) := (blk_cell BK102.out 9).trans rfl
     have hcz11_10 : w3.cell? ⟨gb102, 10, none⟩ = some (.int .u64 a0_10) := (blk_cell BK102.out 10).trans rfl
     have hfz11_0 := blk_frozen BK102.out 0
     have hfz11_1 := blk_frozen BK102.out 1
     have hfz11_2 := blk_frozen BK102.out 2
     have hfz11_3 := blk_frozen BK102.out 3
     have hfz11_4 := blk_frozen BK102.out 4
     have hfz11_5 := blk_frozen BK102.out 5
     have hfz11_6 := blk_frozen BK102.out 6
     have hfz11_7 := blk_frozen BK102.out 7
     have hfz11_8 := blk_frozen BK102.out 8
     have hfz11_9 := blk_frozen BK102.out 9
     have hfz11_10 := blk_frozen BK102.out 10
     go_wp2
     go_meet
     case rel => exact ⟨_, (((ji10) != 0)), (by first | rfl | (simp; done) | (simp only [← hji10] <;> (first | rfl | simp)) | (simp [*]; done)), H', ⟨by first | omega | exact Nat.le_refl _⟩, ⟨by (with_reducible repeat (first | refine blk_drewN ?_ _ | refine blk_drew ?_ | refine blk_alloc ?_ _)); exact BK102.out⟩, ⟨by repeat (first | (with_reducible first | exact HB.out | apply below_alloc | apply pw_below_drewN | apply below_drew1 | refine below_set ?_ GE102.out) | exact HB.out)⟩⟩
    ·rw [if_neg c9] at H
     exact absurd H (by simp)
 case rest =>
  clear HC2
  try clear c1
  try clear p2
  try clear c4
  try clear c4b0
  try clear c6
  try clear c6b0
  try clear p6
  try clear c9
  try clear c9b0
  try clear c9b1
  try clear hcz11_0
  try clear hcz11_1
  try clear hcz11_10
  try clear hcz11_2
  try clear hcz11_3
  try clear hcz11_4
  try clear hcz11_5
  try clear hcz11_6
  try clear hcz11_7
  try clear hcz11_8
  try clear hcz11_9
  try clear hcz5_0
  try clear hcz5_1
  try clear hcz5_10
  try clear hcz5_2
  try clear hcz5_3
  try clear hcz5_4
  try clear hcz5_5
  try clear hcz5_6
  try clear hcz5_7
  try clear hcz5_8
  try clear hcz5_9
  try clear hcz7_0
  try clear hcz7_1
  try clear hcz7_10
  try clear hcz7_2
  try clear hcz7_3
  try clear hcz7_4
  try clear hcz7_5
  try clear hcz7_6
  try clear hcz7_7
  try clear hcz7_8
  try clear hcz7_9
  try clear hfz11_0
  try clear hfz11_1
  try clear hfz11_10
  try clear hfz11_2
  try clear hfz11_3
  try clear hfz11_4
  try clear hfz11_5
  try clear hfz11_6
  try clear hfz11_7
  try clear hfz11_8
  try clear hfz11_9
  try clear hfz5_0
  try clear hfz5_1
  try clear hfz5_10
  try clear hfz5_2
  try clear hfz5_3
  try clear hfz5_4
  try clear hfz5_5
  try clear hfz5_6
  try clear hfz5_7
  try clear hfz5_8
  try clear hfz5_9
  try clear hfz7_0
  try clear hfz7_1
  try clear hfz7_10
  try clear hfz7_2
  try clear hfz7_3
  try clear hfz7_4
  try clear hfz7_5
  try clear hfz7_6
  try clear hfz7_7
  try clear hfz7_8
  try clear hfz7_9
  obtain ⟨kq, x20_1, rfl, HA, HJ1, BK102, HB⟩ := hcut
  cases kq with
  | zero => exact absurd HA.out (by simp [header_May.j0])
  | succ kj1 =>
   have H := HA.out
   clear HA
   simp only [header_May.j0] at H
   by_cases c12 : x20_1 = true
   ·subst c12
    have H1 : (some false) = some r := by rw [if_pos rfl] at H; exact H
    clear H
    have H := H1
    clear H1
    obtain rfl := Option.some.inj H
    go_wp2
    go_ret
    exact ⟨by first | rfl | (simp [errW_none, errW_some] <;> rfl) | (simp [*, errW_none, errW_some] <;> rfl), by repeat (first | (with_reducible first | exact HB.out | apply below_alloc | apply pw_below_drewN | apply below_drew1 | refine below_set ?_ GE102.out) | exact HB.out)⟩
   ·replace c12 := Bool.eq_false_iff.mpr c12
    subst c12
    have H1 : (if a0_0 = true then (if a0_1 = true then (some false) else (if a0_2 = true then (some false) else (if a0_3 < 0 then (some false) else (if a0_3 > 2 then (some false) else (if a0_3 = 0 then (if (a0_5.size : Int) ≤ 20 then (if (a0_6.size : Int) ≤ 20 then (if (a0_7.size : Int) ≤ 1000 then (some (decide (a0_8 ≤ 4611686018427387903))) else (some false)) else (some false)) else (some false)) else (if a0_7.toList = ([] : List UInt8) then (if (a0_5.size : Int) ≤ 20 then (if (a0_6.size : Int) ≤ 20 then (if (a0_7.size : Int) ≤ 1000 then (some (decide (a0_8 ≤ 4611686018427387903))) else (some false)) else (some false)) else (some false)) else (some false))))))) else (if (!a0_0 && (a0_3 == 0 && (a0_4 == 0 && (a0_6.toList == ([] : List UInt8) && (a0_7.toList == ([] : List UInt8) && (a0_8 == 0)))))) = true then (some ((a0_5.size : Int) == 8)) else (some false))) = some r := by rw [if_neg (show ¬ (false = true) by decide)] at H; exact H
    clear H
    have H := H1
    clear H1
    by_cases c13 : a0_0 = true
    ·subst c13
     have H1 : (if a0_1 = true then (some false) else (if a0_2 = true then (some false) else (if a0_3 < 0 then (some false) else (if a0_3 > 2 then (some false) else (if a0_3 = 0 then (if (a0_5.size : Int) ≤ 20 then (if (a0_6.size : Int) ≤ 20 then (if (a0_7.size : Int) ≤ 1000 then (some (decide (a0_8 ≤ 4611686018427387903))) else (some false)) else (some false)) else (some false)) else (if a0_7.toList = ([] : List UInt8) then (if (a0_5.size : Int) ≤ 20 then (if (a0_6.size : Int) ≤ 20 then (if (a0_7.size : Int) ≤ 1000 then (some (decide (a0_8 ≤ 4611686018427387903))) else (some false)) else (some false)) else (some false)) else (some false))))))) = some r := by rw [if_pos rfl] at H; exact H
     clear H
     have H := H1
     clear H1
     by_cases c14 : a0_1 = true
     ·subst c14
      have H1 : (some false) = some r := by rw [if_pos rfl] at H; exact H
      clear H
      have H := H1
      clear H1
      obtain rfl := Option.some.inj H
      have hcz15_0 : wc.cell? ⟨gb102, 0, none⟩ = some (.bool true) := (blk_cell BK102.out 0).trans rfl
      have hcz15_1 : wc.cell? ⟨gb102, 1, none⟩ = some (.bool true) := (blk_cell BK102.out 1).trans rfl
      have hcz15_2 : wc.cell? ⟨gb102, 2, none⟩ = some (.bool a0_2) := (blk_cell BK102.out 2).trans rfl
      have hcz15_3 : wc.cell? ⟨gb102, 3, none⟩ = some (.int .i64 a0_3) := (blk_cell BK102.out 3).trans rfl
      have hcz15_4 : wc.cell? ⟨gb102, 4, none⟩ = some (.int .u32 a0_4) := (blk_cell BK102.out 4).trans rfl
      have hcz15_5 : wc.cell? ⟨gb102, 5, none⟩ = some (.string a0_5) := (blk_cell BK102.out 5).trans rfl
      have hcz15_6 : wc.cell? ⟨gb102, 6, none⟩ = some (.string a0_6) := (blk_cell BK102.out 6).trans rfl
      have hcz15_7 : wc.cell? ⟨gb102, 7, none⟩ = some (.string a0_7) := (blk_cell BK102.out 7).trans rfl
      have hcz15_8 : wc.cell? ⟨gb102, 8, none⟩ = some (.int .u64 a0_8) := (blk_cell BK102.out 8).trans rfl
      have hcz15_9 : wc.cell? ⟨gb102, 9, none⟩ = some (.int .i64 a0_9) := (blk_cell BK102.out 9).trans rfl
      have hcz15_10 : wc.cell? ⟨gb102, 10, none⟩ = some (.int .u64 a0_10) := (blk_cell BK102.out 10).trans rfl
      have hfz15_0 := blk_frozen BK102.out 0
      have hfz15_1 := blk_frozen BK102.out 1
      have hfz15_2 := blk_frozen BK102.out 2
      have hfz15_3 := blk_frozen BK102.out 3
      have hfz15_4 := blk_frozen BK102.out 4
      have hfz15_5 := blk_frozen BK102.out 5
      have hfz15_6 := blk_frozen BK102.out 6
      have hfz15_7 := blk_frozen BK102.out 7
      have hfz15_8 := blk_frozen BK102.out 8
      have hfz15_9 := blk_frozen BK102.out 9
      have hfz15_10 := blk_frozen BK102.out 10
      go_wp2
      go_ret
      exact ⟨by first | rfl | (simp [errW_none, errW_some] <;> rfl) | (simp [*, errW_none, errW_some] <;> rfl), by repeat (first | (with_reducible first | exact HB.out | apply below_alloc | apply pw_below_drewN | apply below_drew1 | refine below_set ?_ GE102.out) | exact HB.out)⟩
     ·replace c14 := Bool.eq_false_iff.mpr c14
      subst c14
      have H1 : (if a0_2 = true then (some false) else (if a0_3 < 0 then (some false) else (if a0_3 > 2 then (some false) else (if a0_3 = 0 then (if (a0_5.size : Int) ≤ 20 then (if (a0_6.size : Int) ≤ 20 then (if (a0_7.size : Int) ≤ 1000 then (some (decide (a0_8 ≤ 4611686018427387903))) else (some false)) else (some false)) else (some false)) else (if a0_7.toList = ([] : List UInt8) then (if (a0_5.size : Int) ≤ 20 then (if (a0_6.size : Int) ≤ 20 then (if (a0_7.size : Int) ≤ 1000 then (some (decide (a0_8 ≤ 4611686018427387903))) else (some false)) else (some false)) else (some false)) else (some false)))))) = some r := by rw [if_neg (show ¬ (false = true) by decide)] at H; exact H
      clear H
      have H := H1
      clear H1
      by_cases c16 : a0_2 = true
      ·subst c16
       have H1 : (some false) = some r := by rw [if_pos rfl] at H; exact H
       clear H
       have H := H1
       clear H1
       obtain rfl := Option.some.inj H
       have hcz17_0 : wc.cell? ⟨gb102, 0, none⟩ = some (.bool true) := (blk_cell BK102.out 0).trans rfl
       have hcz17_1 : wc.cell? ⟨gb102, 1, none⟩ = some (.bool false) := (blk_cell BK102.out 1).trans rfl
       have hcz17_2 : wc.cell? ⟨gb102, 2, none⟩ = some (.bool true) := (blk_cell BK102.out 2).trans rfl
       have hcz17_3 : wc.cell? ⟨gb102, 3, none⟩ = some (.int .i64 a0_3) := (blk_cell BK102.out 3).trans rfl
       have hcz17_4 : wc.cell? ⟨gb102, 4, none⟩ = some (.int .u32 a0_4) := (blk_cell BK102.out 4).trans rfl
       have hcz17_5 : wc.cell? ⟨gb102, 5, none⟩ = some (.string a0_5) := (blk_cell BK102.out 5).trans rfl
       have hcz17_6 : wc.cell? ⟨gb102, 6, none⟩ = some (.string a0_6) := (blk_cell BK102.out 6).trans rfl
       have hcz17_7 : wc.cell? ⟨gb102, 7, none⟩ = some (.string a0_7) := (blk_cell BK102.out 7).trans rfl
       have hcz17_8 : wc.cell? ⟨gb102, 8, none⟩ = some (.int .u64 a0_8) := (blk_cell BK102.out 8).trans rfl
       have hcz17_9 : wc.cell? ⟨gb102, 9, none⟩ = some (.int .i64 a0_9) := (blk_cell BK102.out 9).trans rfl
       have hcz17_10 : wc.cell? ⟨gb102, 10, none⟩ = some (.int .u64 a0_10) := (blk_cell BK102.out 10).trans rfl
       have hfz17_0 := blk_frozen BK102.out 0
       have hfz17_1 := blk_frozen BK102.out 1
       have hfz17_2 := blk_frozen BK102.out 2
       have hfz17_3 := blk_frozen BK102.out 3
       have hfz17_4 := blk_frozen BK102.out 4
       have hfz17_5 := blk_frozen BK102.out 5
       have hfz17_6 := blk_frozen BK102.out 6
       have hfz17_7 := blk_frozen BK102.out 7
       have hfz17_8 := blk_frozen BK102.out 8
       have hfz17_9 := blk_frozen BK102.out 9
       have hfz17_10 := blk_frozen BK102.out 10
       go_wp2
       go_ret
       exact ⟨by first | rfl | (simp [errW_none, errW_some] <;> rfl) | (simp [*, errW_none, errW_some] <;> rfl), by repeat (first | (with_reducible first | exact HB.out | apply below_alloc | apply pw_below_drewN | apply below_drew1 | refine below_set ?_ GE102.out) | exact HB.out)⟩
      ·replace c16 := Bool.eq_false_iff.mpr c16
       subst c16
       have H1 : (if a0_3 < 0 then (some false) else (if a0_3 > 2 then (some false) else (if a0_3 = 0 then (if (a0_5.size : Int) ≤ 20 then (if (a0_6.size : Int) ≤ 20 then (if (a0_7.size : Int) ≤ 1000 then (some (decide (a0_8 ≤ 4611686018427387903))) else (some false)) else (some false)) else (some false)) else (if a0_7.toList = ([] : List UInt8) then (if (a0_5.size : Int) ≤ 20 then (if (a0_6.size : Int) ≤ 20 then (if (a0_7.size : Int) ≤ 1000 then (some (decide (a0_8 ≤ 4611686018427387903))) else (some false)) else (some false)) else (some false)) else (some false))))) = some r := by rw [if_neg (show ¬ (false = true) by decide)] at H; exact H
       clear H
       have H := H1
       clear H1
       by_cases c18 : a0_3 < 0
       ·rw [if_pos c18] at H
        have c18b0 : decide (a0_3 < 0) = true := decide_eq_true c18
        clear c18
        obtain rfl := Option.some.inj H
        have hcz19_0 : wc.cell? ⟨gb102, 0, none⟩ = some (.bool true) := (blk_cell BK102.out 0).trans rfl
        have hcz19_1 : wc.cell? ⟨gb102, 1, none⟩ = some (.bool false) := (blk_cell BK102.out 1).trans rfl
        have hcz19_2 : wc.cell? ⟨gb102, 2, none⟩ = some (.bool false) := (blk_cell BK102.out 2).trans rfl
        have hcz19_3 : wc.cell? ⟨gb102, 3, none⟩ = some (.int .i64 a0_3) := (blk_cell BK102.out 3).trans rfl
        have hcz19_4 : wc.cell? ⟨gb102, 4, none⟩ = some (.int .u32 a0_4) := (blk_cell BK102.out 4).trans rfl
        have hcz19_5 : wc.cell? ⟨gb102, 5, none⟩ = some (.string a0_5) := (blk_cell BK102.out 5).trans rfl
        have hcz19_6 : wc.cell? ⟨gb102, 6, none⟩ = some (.string a0_6) := (blk_cell BK102.out 6).trans rfl
        have hcz19_7 : wc.cell? ⟨gb102, 7, none⟩ = some (.string a0_7) := (blk_cell BK102.out 7).trans rfl
        have hcz19_8 : wc.cell? ⟨gb102, 8, none⟩ = some (.int .u64 a0_8) := (blk_cell BK102.out 8).trans rfl
        have hcz19_9 : wc.cell? ⟨gb102, 9, none⟩ = some (.int .i64 a0_9) := (blk_cell BK102.out 9).trans rfl
        have hcz19_10 : wc.cell? ⟨gb102, 10, none⟩ = some (.int .u64 a0_10) := (blk_cell BK102.out 10).trans rfl
        have hfz19_0 := blk_frozen BK102.out 0
        have hfz19_1 := blk_frozen BK102.out 1
        have hfz19_2 := blk_frozen BK102.out 2
        have hfz19_3 := blk_frozen BK102.out 3
        have hfz19_4 := blk_frozen BK102.out 4
        have hfz19_5 := blk_frozen BK102.out 5
        have hfz19_6 := blk_frozen BK102.out 6
        have hfz19_7 := blk_frozen BK102.out 7
        have hfz19_8 := blk_frozen BK102.out 8
        have hfz19_9 := blk_frozen BK102.out 9
        have hfz19_10 := blk_frozen BK102.out 10
        go_wp2
        go_ret
        exact ⟨by first | rfl | (simp [errW_none, errW_some] <;> rfl) | (simp [*, errW_none, errW_some] <;> rfl), by repeat (first | (with_reducible first | exact HB.out | apply below_alloc | apply pw_below_drewN | apply below_drew1 | refine below_set ?_ GE102.out) | exact HB.out)⟩
       ·rw [if_neg c18] at H
        have c18b0 : decide (a0_3 < 0) = false := decide_eq_false c18
        clear c18
        by_cases c20 : a0_3 > 2
        ·rw [if_pos c20] at H
         have c20b0 : decide (2 < a0_3) = true := decide_eq_true c20
         clear c20
         obtain rfl := Option.some.inj H
         have hcz21_0 : wc.cell? ⟨gb102, 0, none⟩ = some (.bool true) := (blk_cell BK102.out 0).trans rfl
         have hcz21_1 : wc.cell? ⟨gb102, 1, none⟩ = some (.bool false) := (blk_cell BK102.out 1).trans rfl
         have hcz21_2 : wc.cell? ⟨gb102, 2, none⟩ = some (.bool false) := (blk_cell BK102.out 2).trans rfl
         have hcz21_3 : wc.cell? ⟨gb102, 3, none⟩ = some (.int .i64 a0_3) := (blk_cell BK102.out 3).trans rfl
         have hcz21_4 : wc.cell? ⟨gb102, 4, none⟩ = some (.int .u32 a0_4) := (blk_cell BK102.out 4).trans rfl
         have hcz21_5 : wc.cell? ⟨gb102, 5, none⟩ = some (.string a0_5) := (blk_cell BK102.out 5).trans rfl
         have hcz21_6 : wc.cell? ⟨gb102, 6, none⟩ = some (.string a0_6) := (blk_cell BK102.out 6).trans rfl
         have hcz21_7 : wc.cell? ⟨gb102, 7, none⟩ = some (.string a0_7) := (blk_cell BK102.out 7).trans rfl
         have hcz21_8 : wc.cell? ⟨gb102, 8, none⟩ = some (.int .u64 a0_8) := (blk_cell BK102.out 8).trans rfl
         have hcz21_9 : wc.cell? ⟨gb102, 9, none⟩ = some (.int .i64 a0_9) := (blk_cell BK102.out 9).trans rfl
         have hcz21_10 : wc.cell? ⟨gb102, 10, none⟩ = some (.int .u64 a0_10) := (blk_cell BK102.out 10).trans rfl
         have hfz21_0 := blk_frozen BK102.out 0
         have hfz21_1 := blk_frozen BK102.out 1
         have hfz21_2 := blk_frozen BK102.out 2
         have hfz21_3 := blk_frozen BK102.out 3
         have hfz21_4 := blk_frozen BK102.out 4
         have hfz21_5 := blk_frozen BK102.out 5
         have hfz21_6 := blk_frozen BK102.out 6
         have hfz21_7 := blk_frozen BK102.out 7
         have hfz21_8 := blk_frozen BK102.out 8
         have hfz21_9 := blk_frozen BK102.out 9
         have hfz21_10 := blk_frozen BK102.out 10
         go_wp2
         go_ret
         exact ⟨by first | rfl | (simp [errW_none, errW_some] <;> rfl) | (simp [*, errW_none, errW_some] <;> rfl), by repeat (first | (with_reducible first | exact HB.out | apply below_alloc | apply pw_below_drewN | apply below_drew1 | refine below_set ?_ GE102.out) | exact HB.out)⟩
        ·rw [if_neg c20] at H
         have c20b0 : decide (2 < a0_3) = false := decide_eq_false c20
         clear c20
         by_cases c22 : a0_3 = 0
         ·rw [if_pos c22] at H
          have c22b0 : (a0_3 == 0) = true := beq_iff_eq.mpr c22
          have c22b1 : (a0_3 != 0) = false := bne_eq_false_iff_eq.mpr c22
          clear c22
          by_cases c23 : (a0_5.size : Int) ≤ 20
          ·rw [if_pos c23] at H
           have c23b0 : decide ((a0_5.size : Int) ≤ 20) = true := decide_eq_true c23
           have c23b1 : decide (a0_5.size ≤ 20) = true := decide_eq_true (by omega)
           clear c23
           by_cases c24 : (a0_6.size : Int) ≤ 20
           ·rw [if_pos c24] at H
            have c24b0 : decide ((a0_6.size : Int) ≤ 20) = true := decide_eq_true c24
            have c24b1 : decide (a0_6.size ≤ 20) = true := decide_eq_true (by omega)
            clear c24
            by_cases c25 : (a0_7.size : Int) ≤ 1000
            ·rw [if_pos c25] at H
             have c25b0 : decide ((a0_7.size : Int) ≤ 1000) = true := decide_eq_true c25
             have c25b1 : decide (a0_7.size ≤ 1000) = true := decide_eq_true (by omega)
             clear c25
             obtain rfl := Option.some.inj H
             have hcz26_0 : wc.cell? ⟨gb102, 0, none⟩ = some (.bool true) := (blk_cell BK102.out 0).trans rfl
             have hcz26_1 : wc.cell? ⟨gb102, 1, none⟩ = some (.bool false) := (blk_cell BK102.out 1).trans rfl
             have hcz26_2 : wc.cell? ⟨gb102, 2, none⟩ = some (.bool false) := (blk_cell BK102.out 2).trans rfl
             have hcz26_3 : wc.cell? ⟨gb102, 3, none⟩ = some (.int .i64 a0_3) := (blk_cell BK102.out 3).trans rfl
             have hcz26_4 : wc.cell? ⟨gb102, 4, none⟩ = some (.int .u32 a0_4) := (blk_cell BK102.out 4).trans rfl
             have hcz26_5 : wc.cell? ⟨gb102, 5, none⟩ = some (.string a0_5) := (blk_cell BK102.out 5).trans rfl
             have hcz26_6 : wc.cell? ⟨gb102, 6, none⟩ = some (.string a0_6) := (blk_cell BK102.out 6).trans rfl
             have hcz26_7 : wc.cell? ⟨gb102, 7, none⟩ = some (.string a0_7) := (blk_cell BK102.out 7).trans rfl
             have hcz26_8 : wc.cell? ⟨gb102, 8, none⟩ = some (.int .u64 a0_8) := (blk_cell BK102.out 8).trans rfl
             have hcz26_9 : wc.cell? ⟨gb102, 9, none⟩ = some (.int .i64 a0_9) := (blk_cell BK102.out 9).trans rfl
             have hcz26_10 : wc.cell? ⟨gb102, 10, none⟩ = some (.int .u64 a0_10) := (blk_cell BK102.out 10).trans rfl
             have hfz26_0 := blk_frozen BK102.out 0
             have hfz26_1 := blk_frozen BK102.out 1
             have hfz26_2 := blk_frozen BK102.out 2
             have hfz26_3 := blk_frozen BK102.out 3
             have hfz26_4 := blk_frozen BK102.out 4
             have hfz26_5 := blk_frozen BK102.out 5
             have hfz26_6 := blk_frozen BK102.out 6
             have hfz26_7 := blk_frozen BK102.out 7
             have hfz26_8 := blk_frozen BK102.out 8
             have hfz26_9 := blk_frozen BK102.out 9
             have hfz26_10 := blk_frozen BK102.out 10
             go_wp2
             go_ret
             exact ⟨by first | rfl | (simp [errW_none, errW_some] <;> rfl) | (simp [*, errW_none, errW_some] <;> rfl), by repeat (first | (with_reducible first | exact HB.out | apply below_alloc | apply pw_below_drewN | apply below_drew1 | refine below_set ?_ GE102.out) | exact HB.out)⟩
            ·rw [if_neg c25] at H
             have c25b0 : decide ((a0_7.size : Int) ≤ 1000) = false := decide_eq_false c25
             have c25b1 : decide (a0_7.size ≤ 1000) = false := decide_eq_false (by omega)
             clear c25
             obtain rfl := Option.some.inj H
             have hcz27_0 : wc.cell? ⟨gb102, 0, none⟩ = some (.bool true) := (blk_cell BK102.out 0).trans rfl
             have hcz27_1 : wc.cell? ⟨gb102, 1, none⟩ = some (.bool false) := (blk_cell BK102.out 1).trans rfl
             have hcz27_2 : wc.cell? ⟨gb102, 2, none⟩ = some (.bool false) := (blk_cell BK102.out 2).trans rfl
             have hcz27_3 : wc.cell? ⟨gb102, 3, none⟩ = some (.int .i64 a0_3) := (blk_cell BK102.out 3).trans rfl
             have hcz27_4 : wc.cell? ⟨gb102, 4, none⟩ = some (.int .u32 a0_4) := (blk_cell BK102.out 4).trans rfl
             have hcz27_5 : wc.cell? ⟨gb102, 5, none⟩ = some (.string a0_5) := (blk_cell BK102.out 5).trans rfl
             have hcz27_6 : wc.cell? ⟨gb102, 6, none⟩ = some (.string a0_6) := (blk_cell BK102.out 6).trans rfl
             have hcz27_7 : wc.cell? ⟨gb102, 7, none⟩ = some (.string a0_7) := (blk_cell BK102.out 7).trans rfl
             have hcz27_8 : wc.cell? ⟨gb102, 8, none⟩ = some (.int .u64 a0_8) := (blk_cell BK102.out 8).trans rfl
             have hcz27_9 : wc.cell? ⟨gb102, 9, none⟩ = some (.int .i64 a0_9) := (blk_cell BK102.out 9).trans rfl
             have hcz27_10 : wc.cell? ⟨gb102, 10, none⟩ = some (.int .u64 a0_10) := (blk_cell BK102.out 10).trans rfl
             have hfz27_0 := blk_frozen BK102.out 0
             have hfz27_1 := blk_frozen BK102.out 1
             have hfz27_2 := blk_frozen BK102.out 2
             have hfz27_3 := blk_frozen BK102.out 3
             have hfz27_4 := blk_frozen BK102.out 4
             have hfz27_5 := blk_frozen BK102.out 5
             have hfz27_6 := blk_frozen BK102.out 6
             have hfz27_7 := blk_frozen BK102.out 7
             have hfz27_8 := blk_frozen BK102.out 8
             have hfz27_9 := blk_frozen BK102.out 9
             have hfz27_10 := blk_frozen BK102.out 10
             go_wp2
             go_ret
             exact ⟨by first | rfl | (simp [errW_none, errW_some] <;> rfl) | (simp [*, errW_none, errW_some] <;> rfl), by repeat (first | (with_reducible first | exact HB.out | apply below_alloc | apply pw_below_drewN | apply below_drew1 | refine below_set ?_ GE102.out) | exact HB.out)⟩
           ·rw [if_neg c24] at H
            have c24b0 : decide ((a0_6.size : Int) ≤ 20) = false := decide_eq_false c24
            have c24b1 : decide (a0_6.size ≤ 20) = false := decide_eq_false (by omega)
            clear c24
            obtain rfl := Option.some.inj H
            have hcz28_0 : wc.cell? ⟨gb102, 0, none⟩ = some (.bool true) := (blk_cell BK102.out 0).trans rfl
            have hcz28_1 : wc.cell? ⟨gb102, 1, none⟩ = some (.bool false) := (blk_cell BK102.out 1).trans rfl
            have hcz28_2 : wc.cell? ⟨gb102, 2, none⟩ = some (.bool false) := (blk_cell BK102.out 2).trans rfl
            have hcz28_3 : wc.cell? ⟨gb102, 3, none⟩ = some (.int .i64 a0_3) := (blk_cell BK102.out 3).trans rfl
            have hcz28_4 : wc.cell? ⟨gb102, 4, none⟩ = some (.int .u32 a0_4) := (blk_cell BK102.out 4).trans rfl
            have hcz28_5 : wc.cell? ⟨gb102, 5, none⟩ = some (.string a0_5) := (blk_cell BK102.out 5).trans rfl
            have hcz28_6 : wc.cell? ⟨gb102, 6, none⟩ = some (.string a0_6) := (blk_cell BK102.out 6).trans rfl
            have hcz28_7 : wc.cell? ⟨gb102, 7, none⟩ = some (.string a0_7) := (blk_cell BK102.out 7).trans rfl
            have hcz28_8 : wc.cell? ⟨gb102, 8, none⟩ = some (.int .u64 a0_8) := (blk_cell BK102.out 8).trans rfl
            have hcz28_9 : wc.cell? ⟨gb102, 9, none⟩ = some (.int .i64 a0_9) := (blk_cell BK102.out 9).trans rfl
            have hcz28_10 : wc.cell? ⟨gb102, 10, none⟩ = some (.int .u64 a0_10) := (blk_cell BK102.out 10).trans rfl
            have hfz28_0 := blk_frozen BK102.out 0
            have hfz28_1 := blk_frozen BK102.out 1
            have hfz28_2 := blk_frozen BK102.out 2
            have hfz28_3 := blk_frozen BK102.out 3
            have hfz28_4 := blk_frozen BK102.out 4
            have hfz28_5 := blk_frozen BK102.out 5
            have hfz28_6 := blk_frozen BK102.out 6
            have hfz28_7 := blk_frozen BK102.out 7
            have hfz28_8 := blk_frozen BK102.out 8
            have hfz28_9 := blk_frozen BK102.out 9
            have hfz28_10 := blk_frozen BK102.out 10
            go_wp2
            go_ret
            exact ⟨by first | rfl | (simp [errW_none, errW_some] <;> rfl) | (simp [*, errW_none, errW_some] <;> rfl), by repeat (first | (with_reducible first | exact HB.out | apply below_alloc | apply pw_below_drewN | apply below_drew1 | refine below_set ?_ GE102.out) | exact HB.out)⟩
          ·rw [if_neg c23] at H
           have c23b0 : decide ((a0_5.size : Int) ≤ 20) = false := decide_eq_false c23
           have c23b1 : decide (a0_5.size ≤ 20) = false := decide_eq_false (by omega)
           clear c23
           obtain rfl := Option.some.inj H
           have hcz29_0 : wc.cell? ⟨gb102, 0, none⟩ = some (.bool true) := (blk_cell BK102.out 0).trans rfl
           have hcz29_1 : wc.cell? ⟨gb102, 1, none⟩ = some (.bool false) := (blk_cell BK102.out 1).trans rfl
           have hcz29_2 : wc.cell? ⟨gb102, 2, none⟩ = some (.bool false) := (blk_cell BK102.out 2).trans rfl
           have hcz29_3 : wc.cell? ⟨gb102, 3, none⟩ = some (.int .i64 a0_3) := (blk_cell BK102.out 3).trans rfl
           have hcz29_4 : wc.cell? ⟨gb102, 4, none⟩ = some (.int .u32 a0_4) := (blk_cell BK102.out 4).trans rfl
           have hcz29_5 : wc.cell? ⟨gb102, 5, none⟩ = some (.string a0_5) := (blk_cell BK102.out 5).trans rfl
           have hcz29_6 : wc.cell? ⟨gb102, 6, none⟩ = some (.string a0_6) := (blk_cell BK102.out 6).trans rfl
           have hcz29_7 : wc.cell? ⟨gb102, 7, none⟩ = some (.string a0_7) := (blk_cell BK102.out 7).trans rfl
           have hcz29_8 : wc.cell? ⟨gb102, 8, none⟩ = some (.int .u64 a0_8) := (blk_cell BK102.out 8).trans rfl
           have hcz29_9 : wc.cell? ⟨gb102, 9, none⟩ = some (.int .i64 a0_9) := (blk_cell BK102.out 9).trans rfl
           have hcz29_10 : wc.cell? ⟨gb102, 10, none⟩ = some (.int .u64 a0_10) := (blk_cell BK102.out 10).trans rfl
           have hfz29_0 := blk_frozen BK102.out 0
           have hfz29_1 := blk_frozen BK102.out 1
           have hfz29_2 := blk_frozen BK102.out 2
           have hfz29_3 := blk_frozen BK102.out 3
           have hfz29_4 := blk_frozen BK102.out 4
           have hfz29_5 := blk_frozen BK102.out 5
           have hfz29_6 := blk_frozen BK102.out 6
           have hfz29_7 := blk_frozen BK102.out 7
           have hfz29_8 := blk_frozen BK102.out 8
           have hfz29_9 := blk_frozen BK102.out 9
           have hfz29_10 := blk_frozen BK102.out 10
           go_wp2
           go_ret
           exact ⟨by first | rfl | (simp [errW_none, errW_some] <;> rfl) | (simp [*, errW_none, errW_some] <;> rfl), by repeat (first | (with_reducible first | exact HB.out | apply below_alloc | apply pw_below_drewN | apply below_drew1 | refine below_set ?_ GE102.out) | exact HB.out)⟩
         ·rw [if_neg c22] at H
          have c22b0 : (a0_3 == 0) = false := beq_eq_false_iff_ne.mpr c22
          have c22b1 : (a0_3 != 0) = true := bne_iff_ne.mpr c22
          by_cases c30 : a0_7.toList = ([] : List UInt8)
          ·rw [if_pos c30] at H
           have c30b0 : (a0_7.toList == ([] : List UInt8)) = true := beq_iff_eq.mpr c30
           have c30b1 : (a0_7.toList != ([] : List UInt8)) = false := bne_eq_false_iff_eq.mpr c30
           clear c30
           by_cases c31 : (a0_5.size : Int) ≤ 20
           ·rw [if_pos c31] at H
            have c31b0 : decide ((a0_5.size : Int) ≤ 20) = true := decide_eq_true c31
            have c31b1 : decide (a0_5.size ≤ 20) = true := decide_eq_true (by omega)
            clear c31
            by_cases c32 : (a0_6.size : Int) ≤ 20
            ·rw [if_pos c32] at H
             have c32b0 : decide ((a0_6.size : Int) ≤ 20) = true := decide_eq_true c32
             have c32b1 : decide (a0_6.size ≤ 20) = true := decide_eq_true (by omega)
             clear c32
             by_cases c33 : (a0_7.size : Int) ≤ 1000
             ·rw [if_pos c33] at H
              have c33b0 : decide ((a0_7.size : Int) ≤ 1000) = true := decide_eq_true c33
              have c33b1 : decide (a0_7.size ≤ 1000) = true := decide_eq_true (by omega)
              clear c33
              obtain rfl := Option.some.inj H
              have hcz34_0 : wc.cell? ⟨gb102, 0, none⟩ = some (.bool true) := (blk_cell BK102.out 0).trans rfl
              have hcz34_1 : wc.cell? ⟨gb102, 1, none⟩ = some (.bool false) := (blk_cell BK102.out 1).trans rfl
              have hcz34_2 : wc.cell? ⟨gb102, 2, none⟩ = some (.bool false) := (blk_cell BK102.out 2).trans rfl
              have hcz34_3 : wc.cell? ⟨gb102, 3, none⟩ = some (.int .i64 a0_3) := (blk_cell BK102.out 3).trans rfl
              have hcz34_4 : wc.cell? ⟨gb102, 4, none⟩ = some (.int .u32 a0_4) := (blk_cell BK102.out 4).trans rfl
              have hcz34_5 : wc.cell? ⟨gb102, 5, none⟩ = some (.string a0_5) := (blk_cell BK102.out 5).trans rfl
              have hcz34_6 : wc.cell? ⟨gb102, 6, none⟩ = some (.string a0_6) := (blk_cell BK102.out 6).trans rfl
              have hcz34_7 : wc.cell? ⟨gb102, 7, none⟩ = some (.string a0_7) := (blk_cell BK102.out 7).trans rfl
              have hcz34_8 : wc.cell? ⟨gb102, 8, none⟩ = some (.int .u64 a0_8) := (blk_cell BK102.out 8).trans rfl
              have hcz34_9 : wc.cell? ⟨gb102, 9, none⟩ = some (.int .i64 a0_9) := (blk_cell BK102.out 9).trans rfl
              have hcz34_10 : wc.cell? ⟨gb102, 10, none⟩ = some (.int .u64 a0_10) := (blk_cell BK102.out 10).trans rfl
              have hfz34_0 := blk_frozen BK102.out 0
              have hfz34_1 := blk_frozen BK102.out 1
              have hfz34_2 := blk_frozen BK102.out 2
              have hfz34_3 := blk_frozen BK102.out 3
              have hfz34_4 := blk_frozen BK102.out 4
              have hfz34_5 := blk_frozen BK102.out 5
              have hfz34_6 := blk_frozen BK102.out 6
              have hfz34_7 := blk_frozen BK102.out 7
              have hfz34_8 := blk_frozen BK102.out 8
              have hfz34_9 := blk_frozen BK102.out 9
              have hfz34_10 := blk_frozen BK102.out 10
              go_wp2
              go_ret
              exact ⟨by first | rfl | (simp [errW_none, errW_some] <;> rfl) | (simp [*, errW_none, errW_some] <;> rfl), by repeat (first | (with_reducible first | exact HB.out | apply below_alloc | apply pw_below_drewN | apply below_drew1 | refine below_set ?_ GE102.out) | exact HB.out)⟩
             ·rw [if_neg c33] at H
              have c33b0 : decide ((a0_7.size : Int) ≤ 1000) = false := decide_eq_false c33
              have c33b1 : decide (a0_7.size ≤ 1000) = false := decide_eq_false (by omega)
              clear c33
              obtain rfl := Option.some.inj H
              have hcz35_0 : wc.cell? ⟨gb102, 0, none⟩ = some (.bool true) := (blk_cell BK102.out 0).trans rfl
              have hcz35_1 : wc.cell? ⟨gb102, 1, none⟩ = some (.bool false) := (blk_cell BK102.out 1).trans rfl
              have hcz35_2 : wc.cell? ⟨gb102, 2, none⟩ = some (.bool false) := (blk_cell BK102.out 2).trans rfl
              have hcz35_3 : wc.cell? ⟨gb102, 3, none⟩ = some (.int .i64 a0_3) := (blk_cell BK102.out 3).trans rfl
              have hcz35_4 : wc.cell? ⟨gb102, 4, none⟩ = some (.int .u32 a0_4) := (blk_cell BK102.out 4).trans rfl
              have hcz35_5 : wc.cell? ⟨gb102, 5, none⟩ = some (.string a0_5) := (blk_cell BK102.out 5).trans rfl
              have hcz35_6 : wc.cell? ⟨gb102, 6, none⟩ = some (.string a0_6) := (blk_cell BK102.out 6).trans rfl
              have hcz35_7 : wc.cell? ⟨gb102, 7, none⟩ = some (.string a0_7) := (blk_cell BK102.out 7).trans rfl
              have hcz35_8 : wc.cell? ⟨gb102, 8, none⟩ = some (.int .u64 a0_8) := (blk_cell BK102.out 8).trans rfl
              have hcz35_9 : wc.cell? ⟨gb102, 9, none⟩ = some (.int .i64 a0_9) := (blk_cell BK102.out 9).trans rfl
              have hcz35_10 : wc.cell? ⟨gb102, 10, none⟩ = some (.int .u64 a0_10) := (blk_cell BK102.out 10).trans rfl
              have hfz35_0 := blk_frozen BK102.out 0
              have hfz35_1 := blk_frozen BK102.out 1
              have hfz35_2 := blk_frozen BK102.out 2
              have hfz35_3 := blk_frozen BK102.out 3
              have hfz35_4 := blk_frozen BK102.out 4
              have hfz35_5 := blk_frozen BK102.out 5
              have hfz35_6 := blk_frozen BK102.out 6
              have hfz35_7 := blk_frozen BK102.out 7
              have hfz35_8 := blk_frozen BK102.out 8
              have hfz35_9 := blk_frozen BK102.out 9
              have hfz35_10 := blk_frozen BK102.out 10
              go_wp2
              go_ret
              exact ⟨by first | rfl | (simp [errW_none, errW_some] <;> rfl) | (simp [*, errW_none, errW_some] <;> rfl), by repeat (first | (with_reducible first | exact HB.out | apply below_alloc | apply pw_below_drewN | apply below_drew1 | refine below_set ?_ GE102.out) | exact HB.out)⟩
            ·rw [if_neg c32] at H
             have c32b0 : decide ((a0_6.size : Int) ≤ 20) = false := decide_eq_false c32
             have c32b1 : decide (a0_6.size ≤ 20) = false := decide_eq_false (by omega)
             clear c32
             obtain rfl := Option.some.inj H
             have hcz36_0 : wc.cell? ⟨gb102, 0, none⟩ = some (.bool true) := (blk_cell BK102.out 0).trans rfl
             have hcz36_1 : wc.cell? ⟨gb102, 1, none⟩ = some (.bool false) := (blk_cell BK102.out 1).trans rfl
             have hcz36_2 : wc.cell? ⟨gb102, 2, none⟩ = some (.bool false) := (blk_cell BK102.out 2).trans rfl
             have hcz36_3 : wc.cell? ⟨gb102, 3, none⟩ = some (.int .i64 a0_3) := (blk_cell BK102.out 3).trans rfl
             have hcz36_4 : wc.cell? ⟨gb102, 4, none⟩ = some (.int .u32 a0_4) := (blk_cell BK102.out 4).trans rfl
             have hcz36_5 : wc.cell? ⟨gb102, 5, none⟩ = some (.string a0_5) := (blk_cell BK102.out 5).trans rfl
             have hcz36_6 : wc.cell? ⟨gb102, 6, none⟩ = some (.string a0_6) := (blk_cell BK102.out 6).trans rfl
             have hcz36_7 : wc.cell? ⟨gb102, 7, none⟩ = some (.string a0_7) := (blk_cell BK102.out 7).trans rfl
             have hcz36_8 : wc.cell? ⟨gb102, 8, none⟩ = some (.int .u64 a0_8) := (blk_cell BK102.out 8).trans rfl
             have hcz36_9 : wc.cell? ⟨gb102, 9, none⟩ = some (.int .i64 a0_9) := (blk_cell BK102.out 9).trans rfl
             have hcz36_10 : wc.cell? ⟨gb102, 10, none⟩ = some (.int .u64 a0_10) := (blk_cell BK102.out 10).trans rfl
             have hfz36_0 := blk_frozen BK102.out 0
             have hfz36_1 := blk_frozen BK102.out 1
             have hfz36_2 := blk_frozen BK102.out 2
             have hfz36_3 := blk_frozen BK102.out 3
             have hfz36_4 := blk_frozen BK102.out 4
             have hfz36_5 := blk_frozen BK102.out 5
             have hfz36_6 := blk_frozen BK102.out 6
             have hfz36_7 := blk_frozen BK102.out 7
             have hfz36_8 := blk_frozen BK102.out 8
             have hfz36_9 := blk_frozen BK102.out 9
             have hfz36_10 := blk_frozen BK102.out 10
             go_wp2
             go_ret
             exact ⟨by first | rfl | (simp [errW_none, errW_some] <;> rfl) | (simp [*, errW_none, errW_some] <;> rfl), by repeat (first | (with_reducible first | exact HB.out | apply below_alloc | apply pw_below_drewN | apply below_drew1 | refine below_set ?_ GE102.out) | exact HB.out)⟩
           ·rw [if_neg c31] at H
            have c31b0 : decide ((a0_5.size : Int) ≤ 20) = false := decide_eq_false c31
            have c31b1 : decide (a0_5.size ≤ 20) = false := decide_eq_false (by omega)
            clear c31
            obtain rfl := Option.some.inj H
            have hcz37_0 : wc.cell? ⟨gb102, 0, none⟩ = some (.bool true) := (blk_cell BK102.out 0).trans rfl
            have hcz37_1 : wc.cell? ⟨gb102, 1, none⟩ = some (.bool false) := (blk_cell BK102.out 1).trans rfl
            have hcz37_2 : wc.cell? ⟨gb102, 2, none⟩ = some (.bool false) := (blk_cell BK102.out 2).trans rfl
            have hcz37_3 : wc.cell? ⟨gb102, 3, none⟩ = some (.int .i64 a0_3) := (blk_cell BK102.out 3).trans rfl
            have hcz37_4 : wc.cell? ⟨gb102, 4, none⟩ = some (.int .u32 a0_4) := (blk_cell BK102.out 4).trans rfl
            have hcz37_5 : wc.cell? ⟨gb102, 5, none⟩ = some (.string a0_5) := (blk_cell BK102.out 5).trans rfl
            have hcz37_6 : wc.cell? ⟨gb102, 6, none⟩ = some (.string a0_6) := (blk_cell BK102.out 6).trans rfl
            have hcz37_7 : wc.cell? ⟨gb102, 7, none⟩ = some (.string a0_7) := (blk_cell BK102.out 7).trans rfl
            have hcz37_8 : wc.cell? ⟨gb102, 8, none⟩ = some (.int .u64 a0_8) := (blk_cell BK102.out 8).trans rfl
            have hcz37_9 : wc.cell? ⟨gb102, 9, none⟩ = some (.int .i64 a0_9) := (blk_cell BK102.out 9).trans rfl
            have hcz37_10 : wc.cell? ⟨gb102, 10, none⟩ = some (.int .u64 a0_10) := (blk_cell BK102.out 10).trans rfl
            have hfz37_0 := blk_frozen BK102.out 0
            have hfz37_1 := blk_frozen BK102.out 1
            have hfz37_2 := blk_frozen BK102.out 2
            have hfz37_3 := blk_frozen BK102.out 3
            have hfz37_4 := blk_frozen BK102.out 4
            have hfz37_5 := blk_frozen BK102.out 5
            have hfz37_6 := blk_frozen BK102.out 6
            have hfz37_7 := blk_frozen BK102.out 7
            have hfz37_8 := blk_frozen BK102.out 8
            have hfz37_9 := blk_frozen BK102.out 9
            have hfz37_10 := blk_frozen BK102.out 10
            go_wp2
            go_ret
            exact ⟨by first | rfl | (simp [errW_none, errW_some] <;> rfl) | (simp [*, errW_none, errW_some] <;> rfl), by repeat (first | (with_reducible first | exact HB.out | apply below_alloc | apply pw_below_drewN | apply below_drew1 | refine below_set ?_ GE102.out) | exact HB.out)⟩
          ·rw [if_neg c30] at H
           have c30b0 : (a0_7.toList == ([] : List UInt8)) = false := beq_eq_false_iff_ne.mpr c30
           have c30b1 : (a0_7.toList != ([] : List UInt8)) = true := bne_iff_ne.mpr c30
           obtain rfl := Option.some.inj H
           have hcz38_0 : wc.cell? ⟨gb102, 0, none⟩ = some (.bool true) := (blk_cell BK102.out 0).trans rfl
           have hcz38_1 : wc.cell? ⟨gb102, 1, none⟩ = some (.bool false) := (blk_cell BK102.out 1).trans rfl
           have hcz38_2 : wc.cell? ⟨gb102, 2, none⟩ = some (.bool false) := (blk_cell BK102.out 2).trans rfl
           have hcz38_3 : wc.cell? ⟨gb102, 3, none⟩ = some (.int .i64 a0_3) := (blk_cell BK102.out 3).trans rfl
           have hcz38_4 : wc.cell? ⟨gb102, 4, none⟩ = some (.int .u32 a0_4) := (blk_cell BK102.out 4).trans rfl
           have hcz38_5 : wc.cell? ⟨gb102, 5, none⟩ = some (.string a0_5) := (blk_cell BK102.out 5).trans rfl
           have hcz38_6 : wc.cell? ⟨gb102, 6, none⟩ = some (.string a0_6) := (blk_cell BK102.out 6).trans rfl
           have hcz38_7 : wc.cell? ⟨gb102, 7, none⟩ = some (.string a0_7) := (blk_cell BK102.out 7).trans rfl
           have hcz38_8 : wc.cell? ⟨gb102, 8, none⟩ = some (.int .u64 a0_8) := (blk_cell BK102.out 8).trans rfl
           have hcz38_9 : wc.cell? ⟨gb102, 9, none⟩ = some (.int .i64 a0_9) := (blk_cell BK102.out 9).trans rfl
           have hcz38_10 : wc.cell? ⟨gb102, 10, none⟩ = some (.int .u64 a0_10) := (blk_cell BK102.out 10).trans rfl
           have hfz38_0 := blk_frozen BK102.out 0
           have hfz38_1 := blk_frozen BK102.out 1
           have hfz38_2 := blk_frozen BK102.out 2
           have hfz38_3 := blk_frozen BK102.out 3
           have hfz38_4 := blk_frozen BK102.out 4
           have hfz38_5 := blk_frozen BK102.out 5
           have hfz38_6 := blk_frozen BK102.out 6
           have hfz38_7 := blk_frozen BK102.out 7
           have hfz38_8 := blk_frozen BK102.out 8
           have hfz38_9 := blk_frozen BK102.out 9
           have hfz38_10 := blk_frozen BK102.out 10
           go_wp2
           go_ret
           exact ⟨by first | rfl | (simp [errW_none, errW_some] <;> rfl) | (simp [*, errW_none, errW_some] <;> rfl), by repeat (first | (with_reducible first | exact HB.out | apply below_alloc | apply pw_below_drewN | apply below_drew1 | refine below_set ?_ GE102.out) | exact HB.out)⟩
    ·replace c13 := Bool.eq_false_iff.mpr c13
     subst c13
     have H1 : (if (!false && (a0_3 == 0 && (a0_4 == 0 && (a0_6.toList == ([] : List UInt8) && (a0_7.toList == ([] : List UInt8) && (a0_8 == 0)))))) = true then (some ((a0_5.size : Int) == 8)) else (some false)) = some r := by rw [if_neg (show ¬ (false = true) by decide)] at H; exact H
     clear H
     have H := H1
     clear H1
     by_cases c39 : (!false && (a0_3 == 0 && (a0_4 == 0 && (a0_6.toList == ([] : List UInt8) && (a0_7.toList == ([] : List UInt8) && (a0_8 == 0)))))) = true
     ·rw [if_pos c39] at H
      have c39b0 : (!false && (a0_3 == 0 && (a0_4 == 0 && (a0_6.toList == ([] : List UInt8) && (a0_7.toList == ([] : List UInt8) && (a0_8 == 0)))))) = true := c39
      have c39q := c39
      simp only [Bool.not_false, Bool.not_true, Bool.true_and, Bool.and_eq_true, Bool.or_eq_false_iff, Bool.not_eq_eq_eq_not, beq_iff_eq] at c39q
      replace c39q := eq_true c39q
      clear c39
      obtain rfl := Option.some.inj H
      have hcz40_0 : wc.cell? ⟨gb102, 0, none⟩ = some (.bool false) := (blk_cell BK102.out 0).trans rfl
      have hcz40_1 : wc.cell? ⟨gb102, 1, none⟩ = some (.bool a0_1) := (blk_cell BK102.out 1).trans rfl
      have hcz40_2 : wc.cell? ⟨gb102, 2, none⟩ = some (.bool a0_2) := (blk_cell BK102.out 2).trans rfl
      have hcz40_3 : wc.cell? ⟨gb102, 3, none⟩ = some (.int .i64 a0_3) := (blk_cell BK102.out 3).trans rfl
      have hcz40_4 : wc.cell? ⟨gb102, 4, none⟩ = some (.int .u32 a0_4) := (blk_cell BK102.out 4).trans rfl
      have hcz40_5 : wc.cell? ⟨gb102, 5, none⟩ = some (.string a0_5) := (blk_cell BK102.out 5).trans rfl
      have hcz40_6 : wc.cell? ⟨gb102, 6, none⟩ = some (.string a0_6) := (blk_cell BK102.out 6).trans rfl
      have hcz40_7 : wc.cell? ⟨gb102, 7, none⟩ = some (.string a0_7) := (blk_cell BK102.out 7).trans rfl
      have hcz40_8 : wc.cell? ⟨gb102, 8, none⟩ = some (.int .u64 a0_8) := (blk_cell BK102.out 8).trans rfl
      have hcz40_9 : wc.cell? ⟨gb102, 9, none⟩ = some (.int .i64 a0_9) := (blk_cell BK102.out 9).trans rfl
      have hcz40_10 : wc.cell? ⟨gb102, 10, none⟩ = some (.int .u64 a0_10) := (blk_cell BK102.out 10).trans rfl
      have hfz40_0 := blk_frozen BK102.out 0
      have hfz40_1 := blk_frozen BK102.out 1
      have hfz40_2 := blk_frozen BK102.out 2
      have hfz40_3 := blk_frozen BK102.out 3
      have hfz40_4 := blk_frozen BK102.out 4
      have hfz40_5 := blk_frozen BK102.out 5
      have hfz40_6 := blk_frozen BK102.out 6
      have hfz40_7 := blk_frozen BK102.out 7
      have hfz40_8 := blk_frozen BK102.out 8
      have hfz40_9 := blk_frozen BK102.out 9
      have hfz40_10 := blk_frozen BK102.out 10
      go_wp2_with (first | ((with_reducible refine gate_dst (N := 3) rfl ?_); (try (refine gate_guard (by rfl) ?_; dsimp only)); refine box_event ?hg (N := 3) ?hd (cs := #[.bool false, .bool false, .bool false, .int .i64 0, .int .u32 0, .string (⟨#[]⟩ : ByteArray), .string (⟨#[]⟩ : ByteArray), .string (⟨#[]⟩ : ByteArray), .int .u64 0, .int .i64 0, .int .u64 0]) (t := 25) ?hr ?_; (case hd => rfl); (case hg => rfl); (case hr => first | (go_simp; done) | (go_simp; rfl)); intro gb103 hg w41 hbox hb; have n0_ := Aside0.mk (blk_below (g := gb102) (o := .cells #[.bool false, .bool a0_1, .bool a0_2, .int .i64 a0_3, .int .u32 a0_4, .string a0_5, .string a0_6, .string a0_7, .int .u64 a0_8, .int .i64 a0_9, .int .u64 a0_10] 25 (0, 0)) (by (with_reducible repeat (first | refine blk_drewN ?_ _ | refine blk_drew ?_ | refine blk_alloc ?_ _)); exact BK102.out) hb); have n1_ := Aside0.mk (below_step (by repeat (first | (with_reducible first | exact HB.out | apply below_alloc | apply pw_below_drewN | apply below_drew1 | refine below_set ?_ GE102.out) | exact HB.out)) hb); have n2_ := Aside0.mk (hbox); have n3_ := Aside0.mk ((by rw [hg]; exact (below_size (by repeat (first | (with_reducible first | exact HB.out | apply below_alloc | apply pw_below_drewN | apply below_drew1 | refine below_set ?_ GE102.out) | exact HB.out))) : w.heap.size ≤ gb103)); have n4_ := Aside0.mk ((by rw [hg]; exact (below_size (by repeat (first | (with_reducible first | exact HB.out | apply below_alloc | apply pw_below_drewN | apply below_drew1 | refine below_set ?_ GE102.out) | exact HB.out))) : w.heap.size ≤ gb103)); have n5_ := Aside0.mk ((by rw [hg]; exact Nat.ne_of_lt (blk_lt (g := gb102) (o := .cells #[.bool false, .bool a0_1, .bool a0_2, .int .i64 a0_3, .int .u32 a0_4, .string a0_5, .string a0_6, .string a0_7, .int .u64 a0_8, .int .i64 a0_9, .int .u64 a0_10] 25 (0, 0)) (by (with_reducible repeat (first | refine blk_drewN ?_ _ | refine blk_drew ?_ | refine blk_alloc ?_ _)); exact BK102.out)) : gb102 ≠ gb103)); have n6_ := Aside0.mk ((by rw [hg]; exact Nat.ne_of_gt (blk_lt (g := gb102) (o := .cells #[.bool false, .bool a0_1, .bool a0_2, .int .i64 a0_3, .int .u32 a0_4, .string a0_5, .string a0_6, .string a0_7, .int .u64 a0_8, .int .i64 a0_9, .int .u64 a0_10] 25 (0, 0)) (by (with_reducible repeat (first | refine blk_drewN ?_ _ | refine blk_drew ?_ | refine blk_alloc ?_ _)); exact BK102.out)) : gb103 ≠ gb102)); clear BK102; clear HB; have BK102 := n0_; have HB := n1_; have BK103 := n2_; have GW103 := n3_; have GE103 := n4_; have NB102_103 := n5_; have NB103_102 := n6_; clear n0_ n1_ n2_ n3_ n4_ n5_ n6_; clear hb hbox hg; have hnb42 := NB103_102.out; have hnc42 := NB102_103.out; have hcz43_0 : w41.cell? ⟨gb103, 0, none⟩ = some (.bool false) := (blk_cell BK103.out 0).trans rfl; have hcz43_1 : w41.cell? ⟨gb103, 1, none⟩ = some (.bool false) := (blk_cell BK103.out 1).trans rfl; have hcz43_2 : w41.cell? ⟨gb103, 2, none⟩ = some (.bool false) := (blk_cell BK103.out 2).trans rfl; have hcz43_3 : w41.cell? ⟨gb103, 3, none⟩ = some (.int .i64 0) := (blk_cell BK103.out 3).trans rfl; have hcz43_4 : w41.cell? ⟨gb103, 4, none⟩ = some (.int .u32 0) := (blk_cell BK103.out 4).trans rfl; have hcz43_5 : w41.cell? ⟨gb103, 5, none⟩ = some (.string (⟨#[]⟩ : ByteArray)) := (blk_cell BK103.out 5).trans rfl; have hcz43_6 : w41.cell? ⟨gb103, 6, none⟩ = some (.string (⟨#[]⟩ : ByteArray)) := (blk_cell BK103.out 6).trans rfl; have hcz43_7 : w41.cell? ⟨gb103, 7, none⟩ = some (.string (⟨#[]⟩ : ByteArray)) := (blk_cell BK103.out 7).trans rfl; have hcz43_8 : w41.cell? ⟨gb103, 8, none⟩ = some (.int .u64 0) := (blk_cell BK103.out 8).trans rfl; have hcz43_9 : w41.cell? ⟨gb103, 9, none⟩ = some (.int .i64 0) := (blk_cell BK103.out 9).trans rfl; have hcz43_10 : w41.cell? ⟨gb103, 10, none⟩ = some (.int .u64 0) := (blk_cell BK103.out 10).trans rfl; have hfz43_0 := blk_frozen BK103.out 0; have hfz43_1 := blk_frozen BK103.out 1; have hfz43_2 := blk_frozen BK103.out 2; have hfz43_3 := blk_frozen BK103.out 3; have hfz43_4 := blk_frozen BK103.out 4; have hfz43_5 := blk_frozen BK103.out 5; have hfz43_6 := blk_frozen BK103.out 6; have hfz43_7 := blk_frozen BK103.out 7; have hfz43_8 := blk_frozen BK103.out 8; have hfz43_9 := blk_frozen BK103.out 9; have hfz43_10 := blk_frozen BK103.out 10; have hcz44_0 : w41.cell? ⟨gb102, 0, none⟩ = some (.bool false) := (blk_cell BK102.out 0).trans rfl; have hcz44_1 : w41.cell? ⟨gb102, 1, none⟩ = some (.bool a0_1) := (blk_cell BK102.out 1).trans rfl; have hcz44_2 : w41.cell? ⟨gb102, 2, none⟩ = some (.bool a0_2) := (blk_cell BK102.out 2).trans rfl; have hcz44_3 : w41.cell? ⟨gb102, 3, none⟩ = some (.int .i64 a0_3) := (blk_cell BK102.out 3).trans rfl; have hcz44_4 : w41.cell? ⟨gb102, 4, none⟩ = some (.int .u32 a0_4) := (blk_cell BK102.out 4).trans rfl; have hcz44_5 : w41.cell? ⟨gb102, 5, none⟩ = some (.string a0_5) := (blk_cell BK102.out 5).trans rfl; have hcz44_6 : w41.cell? ⟨gb102, 6, none⟩ = some (.string a0_6) := (blk_cell BK102.out 6).trans rfl; have hcz44_7 : w41.cell? ⟨gb102, 7, none⟩ = some (.string a0_7) := (blk_cell BK102.out 7).trans rfl; have hcz44_8 : w41.cell? ⟨gb102, 8, none⟩ = some (.int .u64 a0_8) := (blk_cell BK102.out 8).trans rfl; have hcz44_9 : w41.cell? ⟨gb102, 9, none⟩ = some (.int .i64 a0_9) := (blk_cell BK102.out 9).trans rfl; have hcz44_10 : w41.cell? ⟨gb102, 10, none⟩ = some (.int .u64 a0_10) := (blk_cell BK102.out 10).trans rfl; have hfz44_0 := blk_frozen BK102.out 0; have hfz44_1 := blk_frozen BK102.out 1; have hfz44_2 := blk_frozen BK102.out 2; have hfz44_3 := blk_frozen BK102.out 3; have hfz44_4 := blk_frozen BK102.out 4; have hfz44_5 := blk_frozen BK102.out 5; have hfz44_6 := blk_frozen BK102.out 6; have hfz44_7 := blk_frozen BK102.out 7; have hfz44_8 := blk_frozen BK102.out 8; have hfz44_9 := blk_frozen BK102.out 9; have hfz44_10 := blk_frozen BK102.out 10))
      go_ret
      exact ⟨by first | rfl | (have hq_ := of_eq_true c39q; simp [errW_none, errW_some, hq_, bne]; done) | (have hq_ := of_eq_true c39q; simp [errW_none, errW_some, hq_, bne]; rfl) | (simp [errW_none, errW_some] <;> rfl) | (simp [*, errW_none, errW_some] <;> rfl), by repeat (first | (with_reducible first | exact HB.out | apply below_alloc | apply pw_below_drewN | apply below_drew1 | refine below_set ?_ GE102.out | refine below_set ?_ GE103.out) | exact HB.out)⟩
     ·rw [if_neg c39] at H
      have c39b0 : (!false && (a0_3 == 0 && (a0_4 == 0 && (a0_6.toList == ([] : List UInt8) && (a0_7.toList == ([] : List UInt8) && (a0_8 == 0)))))) = false := by simpa using c39
      have c39q := c39
      simp only [Bool.not_false, Bool.not_true, Bool.true_and, Bool.and_eq_true, Bool.or_eq_false_iff, Bool.not_eq_eq_eq_not, beq_iff_eq] at c39q
      replace c39q := eq_false c39q
      clear c39
      obtain rfl := Option.some.inj H
      have hcz45_0 : wc.cell? ⟨gb102, 0, none⟩ = some (.bool false) := (blk_cell BK102.out 0).trans rfl
      have hcz45_1 : wc.cell? ⟨gb102, 1, none⟩ = some (.bool a0_1) := (blk_cell BK102.out 1).trans rfl
      have hcz45_2 : wc.cell? ⟨gb102, 2, none⟩ = some (.bool a0_2) := (blk_cell BK102.out 2).trans rfl
      have hcz45_3 : wc.cell? ⟨gb102, 3, none⟩ = some (.int .i64 a0_3) := (blk_cell BK102.out 3).trans rfl
      have hcz45_4 : wc.cell? ⟨gb102, 4, none⟩ = some (.int .u32 a0_4) := (blk_cell BK102.out 4).trans rfl
      have hcz45_5 : wc.cell? ⟨gb102, 5, none⟩ = some (.string a0_5) := (blk_cell BK102.out 5).trans rfl
      have hcz45_6 : wc.cell? ⟨gb102, 6, none⟩ = some (.string a0_6) := (blk_cell BK102.out 6).trans rfl
      have hcz45_7 : wc.cell? ⟨gb102, 7, none⟩ = some (.string a0_7) := (blk_cell BK102.out 7).trans rfl
      have hcz45_8 : wc.cell? ⟨gb102, 8, none⟩ = some (.int .u64 a0_8) := (blk_cell BK102.out 8).trans rfl
      have hcz45_9 : wc.cell? ⟨gb102, 9, none⟩ = some (.int .i64 a0_9) := (blk_cell BK102.out 9).trans rfl
      have hcz45_10 : wc.cell? ⟨gb102, 10, none⟩ = some (.int .u64 a0_10) := (blk_cell BK102.out 10).trans rfl
      have hfz45_0 := blk_frozen BK102.out 0
      have hfz45_1 := blk_frozen BK102.out 1
      have hfz45_2 := blk_frozen BK102.out 2
      have hfz45_3 := blk_frozen BK102.out 3
      have hfz45_4 := blk_frozen BK102.out 4
      have hfz45_5 := blk_frozen BK102.out 5
      have hfz45_6 := blk_frozen BK102.out 6
      have hfz45_7 := blk_frozen BK102.out 7
      have hfz45_8 := blk_frozen BK102.out 8
      have hfz45_9 := blk_frozen BK102.out 9
      have hfz45_10 := blk_frozen BK102.out 10
      go_wp2_with (first | ((with_reducible refine gate_dst (N := 3) rfl ?_); (try (refine gate_guard (by rfl) ?_; dsimp only)); refine box_event ?hg (N := 3) ?hd (cs := #[.bool false, .bool false, .bool false, .int .i64 0, .int .u32 0, .string (⟨#[]⟩ : ByteArray), .string (⟨#[]⟩ : ByteArray), .string (⟨#[]⟩ : ByteArray), .int .u64 0, .int .i64 0, .int .u64 0]) (t := 25) ?hr ?_; (case hd => rfl); (case hg => rfl); (case hr => first | (go_simp; done) | (go_simp; rfl)); intro gb103 hg w46 hbox hb; have n0_ := Aside0.mk (blk_below (g := gb102) (o := .cells #[.bool false, .bool a0_1, .bool a0_2, .int .i64 a0_3, .int .u32 a0_4, .string a0_5, .string a0_6, .string a0_7, .int .u64 a0_8, .int .i64 a0_9, .int .u64 a0_10] 25 (0, 0)) (by (with_reducible repeat (first | refine blk_drewN ?_ _ | refine blk_drew ?_ | refine blk_alloc ?_ _)); exact BK102.out) hb); have n1_ := Aside0.mk (below_step (by repeat (first | (with_reducible first | exact HB.out | apply below_alloc | apply pw_below_drewN | apply below_drew1 | refine below_set ?_ GE102.out) | exact HB.out)) hb); have n2_ := Aside0.mk (hbox); have n3_ := Aside0.mk ((by rw [hg]; exact (below_size (by repeat (first | (with_reducible first | exact HB.out | apply below_alloc | apply pw_below_drewN | apply below_drew1 | refine below_set ?_ GE102.out) | exact HB.out))) : w.heap.size ≤ gb103)); have n4_ := Aside0.mk ((by rw [hg]; exact (below_size (by repeat (first | (with_reducible first | exact HB.out | apply below_alloc | apply pw_below_drewN | apply below_drew1 | refine below_set ?_ GE102.out) | exact HB.out))) : w.heap.size ≤ gb103)); have n5_ := Aside0.mk ((by rw [hg]; exact Nat.ne_of_lt (blk_lt (g := gb102) (o := .cells #[.bool false, .bool a0_1, .bool a0_2, .int .i64 a0_3, .int .u32 a0_4, .string a0_5, .string a0_6, .string a0_7, .int .u64 a0_8, .int .i64 a0_9, .int .u64 a0_10] 25 (0, 0)) (by (with_reducible repeat (first | refine blk_drewN ?_ _ | refine blk_drew ?_ | refine blk_alloc ?_ _)); exact BK102.out)) : gb102 ≠ gb103)); have n6_ := Aside0.mk ((by rw [hg]; exact Nat.ne_of_gt (blk_lt (g := gb102) (o := .cells #[.bool false, .bool a0_1, .bool a0_2, .int .i64 a0_3, .int .u32 a0_4, .string a0_5, .string a0_6, .string a0_7, .int .u64 a0_8, .int .i64 a0_9, .int .u64 a0_10] 25 (0, 0)) (by (with_reducible repeat (first | refine blk_drewN ?_ _ | refine blk_drew ?_ | refine blk_alloc ?_ _)); exact BK102.out)) : gb103 ≠ gb102)); clear BK102; clear HB; have BK102 := n0_; have HB := n1_; have BK103 := n2_; have GW103 := n3_; have GE103 := n4_; have NB102_103 := n5_; have NB103_102 := n6_; clear n0_ n1_ n2_ n3_ n4_ n5_ n6_; clear hb hbox hg; have hnb47 := NB103_102.out; have hnc47 := NB102_103.out; have hcz48_0 : w46.cell? ⟨gb103, 0, none⟩ = some (.bool false) := (blk_cell BK103.out 0).trans rfl; have hcz48_1 : w46.cell? ⟨gb103, 1, none⟩ = some (.bool false) := (blk_cell BK103.out 1).trans rfl; have hcz48_2 : w46.cell? ⟨gb103, 2, none⟩ = some (.bool false) := (blk_cell BK103.out 2).trans rfl; have hcz48_3 : w46.cell? ⟨gb103, 3, none⟩ = some (.int .i64 0) := (blk_cell BK103.out 3).trans rfl; have hcz48_4 : w46.cell? ⟨gb103, 4, none⟩ = some (.int .u32 0) := (blk_cell BK103.out 4).trans rfl; have hcz48_5 : w46.cell? ⟨gb103, 5, none⟩ = some (.string (⟨#[]⟩ : ByteArray)) := (blk_cell BK103.out 5).trans rfl; have hcz48_6 : w46.cell? ⟨gb103, 6, none⟩ = some (.string (⟨#[]⟩ : ByteArray)) := (blk_cell BK103.out 6).trans rfl; have hcz48_7 : w46.cell? ⟨gb103, 7, none⟩ = some (.string (⟨#[]⟩ : ByteArray)) := (blk_cell BK103.out 7).trans rfl; have hcz48_8 : w46.cell? ⟨gb103, 8, none⟩ = some (.int .u64 0) := (blk_cell BK103.out 8).trans rfl; have hcz48_9 : w46.cell? ⟨gb103, 9, none⟩ = some (.int .i64 0) := (blk_cell BK103.out 9).trans rfl; have hcz48_10 : w46.cell? ⟨gb103, 10, none⟩ = some (.int .u64 0) := (blk_cell BK103.out 10).trans rfl; have hfz48_0 := blk_frozen BK103.out 0; have hfz48_1 := blk_frozen BK103.out 1; have hfz48_2 := blk_frozen BK103.out 2; have hfz48_3 := blk_frozen BK103.out 3; have hfz48_4 := blk_frozen BK103.out 4; have hfz48_5 := blk_frozen BK103.out 5; have hfz48_6 := blk_frozen BK103.out 6; have hfz48_7 := blk_frozen BK103.out 7; have hfz48_8 := blk_frozen BK103.out 8; have hfz48_9 := blk_frozen BK103.out 9; have hfz48_10 := blk_frozen BK103.out 10))
      go_ret
      exact ⟨by first | rfl | (have hq_ := of_eq_true c39q; simp [errW_none, errW_some, hq_, bne]; done) | (have hq_ := of_eq_true c39q; simp [errW_none, errW_some, hq_, bne]; rfl) | (have hq_ := of_eq_true c39q; simp [errW_none, errW_some, hq_, bne]; done) | (have hq_ := of_eq_true c39q; simp [errW_none, errW_some, hq_, bne]; rfl) | (simp [errW_none, errW_some] <;> rfl) | (simp [*, errW_none, errW_some] <;> rfl), by repeat (first | (with_reducible first | exact HB.out | apply below_alloc | apply pw_below_drewN | apply below_drew1 | refine below_set ?_ GE102.out | refine below_set ?_ GE103.out) | exact HB.out)⟩

/-! ### bits_RotateLeft64: function 52 -/
def bits_RotateLeft64.f (a0 : Int) (a1 : Int) : Option (Int) := if 0 ≤ (Go.bits .and .u64 (IntKind.u64.wrap (a1)) 63) then (if 0 ≤ (IntKind.u64.wrap (64 - (Go.bits .and .u64 (IntKind.u64.wrap (a1)) 63))) then (some (Go.bits .or .u64 (shl .u64 a0 (Go.bits .and .u64 (IntKind.u64.wrap (a1)) 63)) (shr .u64 a0 (IntKind.u64.wrap (64 - (Go.bits .and .u64 (IntKind.u64.wrap (a1)) 63)))))) else (none)) else (none)
set_option maxHeartbeats 8000000 in
set_option maxRecDepth 100000 in
theorem bits_RotateLeft64.calls (a0 : Int) (a1 : Int) (r : Int) (w : World) (h : bits_RotateLeft64.f a0 a1 = some r) :
  Calls Tryd.prog 52 #[.int .u64 a0, .int .i64 a1] w fun e w' => e = .returned (.int .u64 r) ∧ Drawn0 w w' := by
 have H : (if 0 ≤ (Go.bits .and .u64 (IntKind.u64.wrap (a1)) 63) then (if 0 ≤ (IntKind.u64.wrap (64 - (Go.bits .and .u64 (IntKind.u64.wrap (a1)) 63))) then (some (Go.bits .or .u64 (shl .u64 a0 (Go.bits .and .u64 (IntKind.u64.wrap (a1)) 63)) (shr .u64 a0 (IntKind.u64.wrap (64 - (Go.bits .and .u64 (IntKind.u64.wrap (a1)) 63)))))) else (none)) else (none)) = some r := h
 clear h
 obtain ⟨ji3, hji3⟩ : ∃ j_ : Int, (Go.bits .and .u64 (IntKind.u64.wrap (a1)) 63) = j_ := ⟨_, rfl⟩
 replace H : (if 0 ≤ (ji3) then (if 0 ≤ (IntKind.u64.wrap (64 - (ji3))) then (some (Go.bits .or .u64 (shl .u64 a0 (ji3)) (shr .u64 a0 (IntKind.u64.wrap (64 - (ji3)))))) else (none)) else (none)) = some r := by first | (rw [hji3] at H; exact H) | (simp only [hji3] at H ⊢; exact H)
 by_cases c4 : 0 ≤ (ji3)
 ·rw [if_pos c4] at H
  have c4b0 := eq_true c4
  have c4b1 : decide (0 ≤ (ji3)) = true := decide_eq_true c4
  clear c4
  obtain ⟨ji5, hji5⟩ : ∃ j_ : Int, (shl .u64 a0 (ji3)) = j_ := ⟨_, rfl⟩
  replace H : (if 0 ≤ (IntKind.u64.wrap (64 - (ji3))) then (some (Go.bits .or .u64 (ji5) (shr .u64 a0 (IntKind.u64.wrap (64 - (ji3)))))) else (none)) = some r := by first | (rw [hji5] at H; exact H) | (simp only [hji5] at H ⊢; exact H)
  have hji5_ : (IntKind.u64.wrap (a0 * 2 ^ min (ji3).toNat 64)) = ji5 := hji5
  have hji5z : (ji3) ≤ 64 → (IntKind.u64.wrap (a0 * 2 ^ (ji3).toNat)) = ji5 := shl_small hji5
  have hji5n : 0 ≤ ji5 := by rw [← hji5_]; exact wrap_nn_ rfl _
  have hji5m : ji5 ≤ 18446744073709551615 := by rw [← hji5_]; exact wrap_le_ rfl (by decide) _
  obtain ⟨ji6, hji6⟩ : ∃ j_ : Int, (IntKind.u64.wrap (64 - (ji3))) = j_ := ⟨_, rfl⟩
  replace H : (if 0 ≤ (ji6) then (some (Go.bits .or .u64 (ji5) (shr .u64 a0 (ji6)))) else (none)) = some r := by first | (rw [hji6] at H; exact H) | (simp only [hji6] at H ⊢; exact H)
  by_cases c7 : 0 ≤ (ji6)
  ·rw [if_pos c7] at H
   have c7b0 := eq_true c7
   have c7b1 : decide (0 ≤ (ji6)) = true := decide_eq_true c7
   clear c7
   obtain ⟨ji8, hji8⟩ : ∃ j_ : Int, (shr .u64 a0 (ji6)) = j_ := ⟨_, rfl⟩
   replace H : (some (Go.bits .or .u64 (ji5) (ji8))) = some r := by first | (rw [hji8] at H; exact H) | (simp only [hji8] at H ⊢; exact H)
   have hji8_ : (a0 / 2 ^ min (ji6).toNat 64) = ji8 := hji8
   have hji8z : (ji6) ≤ 64 → (a0 / 2 ^ (ji6).toNat) = ji8 := shr_small hji8
   obtain rfl := Option.some.inj H
   go_enter Tryd.func52, Tryd.ntmps52
   go_wp2
   go_ret
   exact ⟨by first | rfl | (simp; done) | (simp only [← hji3, ← hji5, ← hji6, ← hji8] <;> (first | rfl | simp)) | (simp [*]; done), by repeat (first | exact Drawn0.refl _ | apply Drawn0.step)⟩
  ·rw [if_neg c7] at H
   exact absurd H (by simp)
 ·rw [if_neg c4] at H
  exact absurd H (by simp)

-- NOT PRINTED: function 43 (varint_split)

end Go.Proofs.YtjpafikgbnloaaaDoor.PHdq
