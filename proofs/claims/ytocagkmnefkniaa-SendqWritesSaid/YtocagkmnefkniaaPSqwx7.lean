-- printed for this claim by a program of the claim (wip/tools/pp.py over the kit's print)
import Derived.Test.YtocagkmnefkniaaPSqwx0
import Derived.Test.YtocagkmnefkniaaPSqwx3
import Derived.Test.YtocagkmnefkniaaPSqwx6
namespace Go.Proofs.Ytocagkmnefkniaa.PSqw
open Go.RowKit Go.Proofs.YtocagkmnefkniaaW.PrintWords Go.Proofs.YtocagkmnefkniaaW.PrintLast Go.Proofs.YtocagkmnefkniaaW.PrintMore
attribute [local go_sem] max2_int min2_int max_two min_two max_three min_three max_four min_four   -- for this text's walks alone
set_option linter.unusedVariables false
set_option linter.unusedSimpArgs false

attribute [local go_sem] isSome_setCell_
/-! ### dominolaw15_SendqWrites: function 7 -/
mutual
def dominolaw15_SendqWrites.j0 : Nat → List ByteArray → Int → Int → Bool → Option (Bool)
 | 0, _, _, _, _ => none
 | k + 1, x0, x1, x2, x23 => if x23 = true then ((dominolaw15_shown.f k).bind fun t237 => (some t237)) else (dominolaw15_SendqWrites.l0 k x0 x1 x2 (⟨#[]⟩ : ByteArray) 0 0 0 (⟨#[]⟩ : ByteArray) ([] : List (S67)) ([] : List (S67)) false false false)
def dominolaw15_SendqWrites.l0 : Nat → List ByteArray → Int → Int → ByteArray → Int → Int → Int → ByteArray → List (S67) → List (S67) → Bool → Bool → Bool → Option (Bool)
 | 0, _, _, _, _, _, _, _, _, _, _, _, _, _ => none
 | k + 1, x0, x1, x2, x8, x9, x239000, x239001, x239002, x239003, x239004, x239005, x239006, x239007 => if x9 < (x0.length : Int) then (if 0 ≤ x9 then (if ((rdOf ByteArray.empty x0 x9).size : Int) > 200 then ((dominolaw15_shown.f k).bind fun t242 => (some t242)) else (if x9 = (wrap64 (x2)) then ((sendq_Finish.f x239000 x239001 x239002 x239003 x239004 x239005 x239006 x239007).bind fun bt243 => (dominolaw15_SendqWrites.j2 k x0 x1 x2 x8 x9 bt243.1 bt243.2.1 bt243.2.2.1 bt243.2.2.2.1 bt243.2.2.2.2.1 bt243.2.2.2.2.2.1 bt243.2.2.2.2.2.2.1 bt243.2.2.2.2.2.2.2)) else (dominolaw15_SendqWrites.j2 k x0 x1 x2 x8 x9 x239000 x239001 x239002 x239003 x239004 x239005 x239006 x239007))) else (none)) else (if x239002.toList = x8.toList then ((ranges_Count.f k x239004).bind fun t239 => (if t239 = (IntKind.u64.wrap ((x8.size : Int))) then ((sendq_End.f x239000 x239001 x239002 x239003 x239004 x239005 x239006 x239007).bind fun t240 => (if t240 = (IntKind.u64.wrap ((x8.size : Int))) then (some (x239000 == 0)) else (none))) else (none))) else (none))
def dominolaw15_SendqWrites.j2 : Nat → List ByteArray → Int → Int → ByteArray → Int → Int → Int → ByteArray → List (S67) → List (S67) → Bool → Bool → Bool → Option (Bool)
 | 0, _, _, _, _, _, _, _, _, _, _, _, _, _ => none
 | k + 1, x0, x1, x2, x8, x9, x239000, x239001, x239002, x239003, x239004, x239005, x239006, x239007 => if 0 ≤ x9 then (if x9 < (x0.length : Int) then ((sendq_Write.f k x239000 x239001 x239002 x239003 x239004 x239005 x239006 x239007 (rdOf ByteArray.empty x0 x9) x1).bind fun bt256 => (if x9 ≥ (wrap64 (x2)) then (if bt256.2.2.2.2.2.2.2.2 = 0 then (if 0 ≤ bt256.2.2.2.2.2.2.2.2 then (if bt256.2.2.2.2.2.2.2.2 ≤ ((rdOf ByteArray.empty x0 x9).size : Int) then (if x8.size + ((rdOf ByteArray.empty x0 x9).extract 0 (bt256.2.2.2.2.2.2.2.2 : Int).toNat).size ≤ 9223372036854775807 then (dominolaw15_SendqWrites.l0 k x0 x1 x2 (x8 ++ ((rdOf ByteArray.empty x0 x9).extract 0 (bt256.2.2.2.2.2.2.2.2 : Int).toNat)) (wrap64 (x9 + 1)) bt256.1 bt256.2.1 bt256.2.2.1 bt256.2.2.2.1 bt256.2.2.2.2.1 bt256.2.2.2.2.2.1 bt256.2.2.2.2.2.2.1 bt256.2.2.2.2.2.2.2.1) else (none)) else (none)) else (none)) else (none)) else (if bt256.2.2.2.2.2.2.2.2 = (mn ((rdOf ByteArray.empty x0 x9).size : Int) (mx (wrap64 ((mx x1 0) - (x8.size : Int))) 0)) then (if 0 ≤ bt256.2.2.2.2.2.2.2.2 then (if bt256.2.2.2.2.2.2.2.2 ≤ ((rdOf ByteArray.empty x0 x9).size : Int) then (if x8.size + ((rdOf ByteArray.empty x0 x9).extract 0 (bt256.2.2.2.2.2.2.2.2 : Int).toNat).size ≤ 9223372036854775807 then (dominolaw15_SendqWrites.l0 k x0 x1 x2 (x8 ++ ((rdOf ByteArray.empty x0 x9).extract 0 (bt256.2.2.2.2.2.2.2.2 : Int).toNat)) (wrap64 (x9 + 1)) bt256.1 bt256.2.1 bt256.2.2.1 bt256.2.2.2.1 bt256.2.2.2.2.1 bt256.2.2.2.2.2.1 bt256.2.2.2.2.2.2.1 bt256.2.2.2.2.2.2.2.1) else (none)) else (none)) else (none)) else (none)))) else (none)) else (none)
end
def dominolaw15_SendqWrites.f (k : Nat) (l0 : List ByteArray) (a1 : Int) (a2 : Int) : Option (Bool) := if (l0.length : Int) > 20 then (dominolaw15_SendqWrites.j0 k l0 a1 a2 true) else (if a1 > 1048576 then (dominolaw15_SendqWrites.j0 k l0 a1 a2 true) else ((dominolaw15_shown.f k).bind fun t236 => (dominolaw15_SendqWrites.j0 k l0 a1 a2 (!t236))))
theorem dominolaw15_SendqWrites.mono_l : ∀ k, (∀ y0 y1 y2 y3, LeO (dominolaw15_SendqWrites.j0 k y0 y1 y2 y3) (dominolaw15_SendqWrites.j0 (k + 1) y0 y1 y2 y3)) ∧ (∀ y0 y1 y2 y3 y4 y5 y6 y7 y8 y9 y10 y11 y12, LeO (dominolaw15_SendqWrites.l0 k y0 y1 y2 y3 y4 y5 y6 y7 y8 y9 y10 y11 y12) (dominolaw15_SendqWrites.l0 (k + 1) y0 y1 y2 y3 y4 y5 y6 y7 y8 y9 y10 y11 y12)) ∧ (∀ y0 y1 y2 y3 y4 y5 y6 y7 y8 y9 y10 y11 y12, LeO (dominolaw15_SendqWrites.j2 k y0 y1 y2 y3 y4 y5 y6 y7 y8 y9 y10 y11 y12) (dominolaw15_SendqWrites.j2 (k + 1) y0 y1 y2 y3 y4 y5 y6 y7 y8 y9 y10 y11 y12))
 | 0 => ⟨fun _ _ _ _ r h => by simp [dominolaw15_SendqWrites.j0] at h, fun _ _ _ _ _ _ _ _ _ _ _ _ _ r h => by simp [dominolaw15_SendqWrites.l0] at h, fun _ _ _ _ _ _ _ _ _ _ _ _ _ r h => by simp [dominolaw15_SendqWrites.j2] at h⟩
 | k + 1 => by
  obtain ⟨ih0, ih1, ih2⟩ := dominolaw15_SendqWrites.mono_l k
  refine ⟨?_, ?_, ?_⟩
  ·intro y0 y1 y2 y3
   unfold dominolaw15_SendqWrites.j0
   repeat' first
   | (with_reducible exact ih0 _ _ _ _)
   | (with_reducible exact ih1 _ _ _ _ _ _ _ _ _ _ _ _ _)
   | (with_reducible exact ih2 _ _ _ _ _ _ _ _ _ _ _ _ _)
   | (with_reducible exact dominolaw15_shown.mono _)
   | (with_reducible exact ranges_Count.mono _ _)
   | (with_reducible exact sendq_Write.mono _ _ _ _ _ _ _ _ _ _ _)
   | (with_reducible exact LeO.refl _)
   | (with_reducible exact LeO.none _)
   | (with_reducible refine LeO.ite ?_ ?_)
   | (with_reducible refine LeO.bind ?_ (fun _ => ?_))
   | exact ih0 _ _ _ _
   | exact ih1 _ _ _ _ _ _ _ _ _ _ _ _ _
   | exact ih2 _ _ _ _ _ _ _ _ _ _ _ _ _
   | exact dominolaw15_shown.mono _
   | exact ranges_Count.mono _ _
   | exact sendq_Write.mono _ _ _ _ _ _ _ _ _ _ _
   | exact LeO.none _
   | refine LeO.ite ?_ ?_
   | refine LeO.bind ?_ (fun _ => ?_)
  ·intro y0 y1 y2 y3 y4 y5 y6 y7 y8 y9 y10 y11 y12
   unfold dominolaw15_SendqWrites.l0
   repeat' first
   | (with_reducible exact ih0 _ _ _ _)
   | (with_reducible exact ih1 _ _ _ _ _ _ _ _ _ _ _ _ _)
   | (with_reducible exact ih2 _ _ _ _ _ _ _ _ _ _ _ _ _)
   | (with_reducible exact dominolaw15_shown.mono _)
   | (with_reducible exact ranges_Count.mono _ _)
   | (with_reducible exact sendq_Write.mono _ _ _ _ _ _ _ _ _ _ _)
   | (with_reducible exact LeO.refl _)
   | (with_reducible exact LeO.none _)
   | (with_reducible refine LeO.ite ?_ ?_)
   | (with_reducible refine LeO.bind ?_ (fun _ => ?_))
   | exact ih0 _ _ _ _
   | exact ih1 _ _ _ _ _ _ _ _ _ _ _ _ _
   | exact ih2 _ _ _ _ _ _ _ _ _ _ _ _ _
   | exact dominolaw15_shown.mono _
   | exact ranges_Count.mono _ _
   | exact sendq_Write.mono _ _ _ _ _ _ _ _ _ _ _
   | exact LeO.none _
   | refine LeO.ite ?_ ?_
   | refine LeO.bind ?_ (fun _ => ?_)
  ·intro y0 y1 y2 y3 y4 y5 y6 y7 y8 y9 y10 y11 y12
   unfold dominolaw15_SendqWrites.j2
   repeat' first
   | (with_reducible exact ih0 _ _ _ _)
   | (with_reducible exact ih1 _ _ _ _ _ _ _ _ _ _ _ _ _)
   | (with_reducible exact ih2 _ _ _ _ _ _ _ _ _ _ _ _ _)
   | (with_reducible exact dominolaw15_shown.mono _)
   | (with_reducible exact ranges_Count.mono _ _)
   | (with_reducible exact sendq_Write.mono _ _ _ _ _ _ _ _ _ _ _)
   | (with_reducible exact LeO.refl _)
   | (with_reducible exact LeO.none _)
   | (with_reducible refine LeO.ite ?_ ?_)
   | (with_reducible refine LeO.bind ?_ (fun _ => ?_))
   | exact ih0 _ _ _ _
   | exact ih1 _ _ _ _ _ _ _ _ _ _ _ _ _
   | exact ih2 _ _ _ _ _ _ _ _ _ _ _ _ _
   | exact dominolaw15_shown.mono _
   | exact ranges_Count.mono _ _
   | exact sendq_Write.mono _ _ _ _ _ _ _ _ _ _ _
   | exact LeO.none _
   | refine LeO.ite ?_ ?_
   | refine LeO.bind ?_ (fun _ => ?_)
theorem dominolaw15_SendqWrites.mono : ∀ a0 a1 a2 k, LeO (dominolaw15_SendqWrites.f k a0 a1 a2) (dominolaw15_SendqWrites.f (k + 1) a0 a1 a2) := by
 intro a0 a1 a2 k
 obtain ⟨ih0, ih1, ih2⟩ := dominolaw15_SendqWrites.mono_l k
 unfold dominolaw15_SendqWrites.f
 repeat' first
   | (with_reducible exact ih0 _ _ _ _)
   | (with_reducible exact ih1 _ _ _ _ _ _ _ _ _ _ _ _ _)
   | (with_reducible exact ih2 _ _ _ _ _ _ _ _ _ _ _ _ _)
   | (with_reducible exact dominolaw15_shown.mono _)
   | (with_reducible exact ranges_Count.mono _ _)
   | (with_reducible exact sendq_Write.mono _ _ _ _ _ _ _ _ _ _ _)
   | (with_reducible exact LeO.refl _)
   | (with_reducible exact LeO.none _)
   | (with_reducible refine LeO.ite ?_ ?_)
   | (with_reducible refine LeO.bind ?_ (fun _ => ?_))
   | exact ih0 _ _ _ _
   | exact ih1 _ _ _ _ _ _ _ _ _ _ _ _ _
   | exact ih2 _ _ _ _ _ _ _ _ _ _ _ _ _
   | exact dominolaw15_shown.mono _
   | exact ranges_Count.mono _ _
   | exact sendq_Write.mono _ _ _ _ _ _ _ _ _ _ _
   | exact LeO.none _
   | refine LeO.ite ?_ ?_
   | refine LeO.bind ?_ (fun _ => ?_)
def dominolaw15_SendqWrites.T12 : Bool × List (List Nat × List Nat) := (true, [([], []), ([], []), ([], []), ([1, 2], [1, 2]), ([3], [3]), ([], []), ([0, 4, 5], [0, 4, 5]), ([6], [6]), ([7], [7]), ([7], [7]), ([], []), ([10, 8, 6, 0, 1, 2, 3, 4, 5, 6, 7, 8, 10], [8, 10]), ([9, 11, 0, 1, 2, 3, 4, 5, 6, 7, 8, 9, 10, 11], [9])])
def dominolaw15_SendqWrites.B12 : List Nat := [0, 0, 0, 6, 14, 0, 63, 127, 255, 255, 0, 1535, 4095]
theorem dominolaw15_SendqWrites.tab12 : rtab .any (opsOf Try.f7 12) = dominolaw15_SendqWrites.T12 := by kernel_rfl
theorem dominolaw15_SendqWrites.bits12 : waitsOk dominolaw15_SendqWrites.T12.2 dominolaw15_SendqWrites.B12 = true := by kernel_rfl
set_option maxHeartbeats 8000000 in
set_option maxRecDepth 100000 in
theorem dominolaw15_SendqWrites.calls (k : Nat) (A0 : Option Addr) (c0 : Nat) (l0 : List ByteArray) (a1 : Int) (a2 : Int) (r : Bool) (w : World) (hr0 : Kd.C Kd.string w A0 l0.length l0) (hc0 : l0.length ≤ c0) (h : dominolaw15_SendqWrites.f k l0 a1 a2 = some r) :
  Calls Try.prog 7 #[.slice A0 l0.length c0, .int .i64 a1, .int .u8 a2] w fun e w' => e = .returned (.bool r) ∧ Below w.heap.size w w' := by
 have hu29 := Try.underlying29
 have HR0 := Aside0.mk hr0
 have HC0 := Aside0.mk hc0
 clear hr0 hc0
 have HB := Aside0.mk (Below.refl w.heap.size w)
 have H : (if (l0.length : Int) > 20 then (dominolaw15_SendqWrites.j0 k l0 a1 a2 true) else (if a1 > 1048576 then (dominolaw15_SendqWrites.j0 k l0 a1 a2 true) else ((dominolaw15_shown.f k).bind fun t236 => (dominolaw15_SendqWrites.j0 k l0 a1 a2 (!t236))))) = some r := h
 clear h
 have HC4 := Aside0.mk H
 clear H
 go_enter Try.func7, Try.ntmps7
 go_upto_region 1 with (fail)
 go_cut [23] (fun v23 wc => ∃ (kq : Nat) (x23_3 : Bool), v23 = .bool x23_3 ∧ Aside0 (dominolaw15_SendqWrites.j0 kq l0 a1 a2 x23_3 = some r) ∧ Aside0 (kq ≤ k) ∧ Aside0 (Below w.heap.size w wc))
 case first =>
  have H := HC4.out
  clear HC4
  by_cases c5 : (l0.length : Int) > 20
  ·rw [if_pos c5] at H
   have c5b0 : decide (20 < (l0.length : Int)) = true := decide_eq_true c5
   have c5b1 : decide (20 < l0.length) = true := decide_eq_true (by omega)
   clear c5
   (first | rw [c5b0] | (simp only [i64_w, i32_w]; rw [c5b0]) | skip)
   have H' := Aside0.mk H
   clear H
   go_wp2
   go_meet
   case rel => exact ⟨_, (true), (by first | rfl | (simp; done) | (simp [*]; done)), H', ⟨by first | omega | exact Nat.le_refl _⟩, ⟨by repeat (first | (with_reducible first | exact HB.out | apply below_alloc | apply pw_below_drewN | apply below_drew1) | exact HB.out)⟩⟩
  ·rw [if_neg c5] at H
   have c5b0 : decide (20 < (l0.length : Int)) = false := decide_eq_false c5
   have c5b1 : decide (20 < l0.length) = false := decide_eq_false (by omega)
   clear c5
   (first | rw [c5b0] | (simp only [i64_w, i32_w]; rw [c5b0]) | skip)
   by_cases c6 : a1 > 1048576
   ·rw [if_pos c6] at H
    have c6b0 : decide (1048576 < a1) = true := decide_eq_true c6
    clear c6
    have H' := Aside0.mk H
    clear H
    go_wp2
    go_meet
    case rel => exact ⟨_, (true), (by first | rfl | (simp; done) | (simp [*]; done)), H', ⟨by first | omega | exact Nat.le_refl _⟩, ⟨by repeat (first | (with_reducible first | exact HB.out | apply below_alloc | apply pw_below_drewN | apply below_drew1) | exact HB.out)⟩⟩
   ·rw [if_neg c6] at H
    have c6b0 : decide (1048576 < a1) = false := decide_eq_false c6
    clear c6
    replace H := Option.bind_eq_some_iff.mp H
    obtain ⟨t236, A70, H⟩ := H
    replace H : (dominolaw15_SendqWrites.j0 k l0 a1 a2 (!t236)) = some r := H
    have A7 := Aside0.mk A70
    clear A70
    have H' := Aside0.mk H
    clear H
    go_wp2_with (first | (go_at_call 9; (with_reducible refine (dominolaw15_shown.calls k  t236 _ A7.out).mono ?_); rintro e w8 ⟨rfl, hb⟩; have n0_ := Aside0.mk (below_step (by repeat (first | (with_reducible first | exact HB.out | apply below_alloc | apply pw_below_drewN | apply below_drew1) | exact HB.out)) hb); clear HB; have HB := n0_; clear n0_; (try clear hb); (try clear hb2); (try clear hk); (try clear hi)))
    go_meet
    case rel => exact ⟨_, (!t236), (by first | rfl | (simp; done) | (simp [*]; done)), H', ⟨by first | omega | exact Nat.le_refl _⟩, ⟨by repeat (first | (with_reducible first | exact HB.out | apply below_alloc | apply pw_below_drewN | apply below_drew1) | exact HB.out)⟩⟩
 case rest =>
  clear HC4
  try clear p2
  try clear c5
  try clear c5b0
  try clear c5b1
  try clear c6
  try clear c6b0
  try clear c7
  obtain ⟨kq, x23_3, rfl, HA, HJ3, HB⟩ := hcut
  cases kq with
  | zero => exact absurd HA.out (by simp [dominolaw15_SendqWrites.j0])
  | succ kj3 =>
   have H := HA.out
   clear HA
   simp only [dominolaw15_SendqWrites.j0] at H
   by_cases c9 : x23_3 = true
   ·subst c9
    have H1 : ((dominolaw15_shown.f kj3).bind fun t237 => (some t237)) = some r := by rw [if_pos rfl] at H; exact H
    clear H
    have H := H1
    clear H1
    replace H := Option.bind_eq_some_iff.mp H
    obtain ⟨t237, A100, H⟩ := H
    replace H : (some t237) = some r := H
    have A10 := Aside0.mk A100
    clear A100
    obtain rfl := Option.some.inj H
    go_wp2_with (first | ((with_reducible refine gate_callee (f := 9) rfl ?_); refine goesL_ (some 24) rfl rfl Try.func9 (by kernel_rfl) rfl #[] rfl (by (try simp only [List.map_toArray, List.map_cons, List.map_nil]); first | done | rfl | (simp only [List.length_drop, List.length_take]; rfl)) ?_; (with_reducible refine (dominolaw15_shown.calls kj3  t237 _ A10.out).mono ?_); rintro e w11 ⟨rfl, hb⟩; refine ⟨_, rfl, ?_⟩; have n0_ := Aside0.mk (below_step (by repeat (first | (with_reducible first | exact HB.out | apply below_alloc | apply pw_below_drewN | apply below_drew1) | exact HB.out)) hb); clear HB; have HB := n0_; clear n0_; (try clear hb); (try clear hb2); (try clear hk); (try clear hi)))
    go_ret
    exact ⟨by first | rfl | (simp [errW_none, errW_some] <;> rfl) | (simp [*, errW_none, errW_some] <;> rfl), by repeat (first | (with_reducible first | exact HB.out | apply below_alloc | apply pw_below_drewN | apply below_drew1) | exact HB.out)⟩
   ·replace c9 := Bool.eq_false_iff.mpr c9
    subst c9
    have H1 : (dominolaw15_SendqWrites.l0 kj3 l0 a1 a2 (⟨#[]⟩ : ByteArray) 0 0 0 (⟨#[]⟩ : ByteArray) ([] : List (S67)) ([] : List (S67)) false false false) = some r := by rw [if_neg (show ¬ (false = true) by decide)] at H; exact H
    clear H
    have H := H1
    clear H1
    have H' := Aside0.mk H
    clear H
    go_wp2_with (first | ((with_reducible refine gate_dst (N := 7) rfl ?_); (try (refine gate_guard (by rfl) ?_; dsimp only)); refine box_event ?hg (N := 7) ?hd (cs := #[.int .u64 0, .int .u64 0, .string (⟨#[]⟩ : ByteArray), .slice none 0 0, .slice none 0 0, .bool false, .bool false, .bool false]) (t := 29) ?hr ?_; (case hd => rfl); (case hg => rfl); (case hr => first | (go_simp; done) | (go_simp; rfl)); intro gb238 hg w12 hbox hb; have n0_ := Aside0.mk (below_step (by repeat (first | (with_reducible first | exact HB.out | apply below_alloc | apply pw_below_drewN | apply below_drew1) | exact HB.out)) hb); have n1_ := Aside0.mk (hbox); have n2_ := Aside0.mk ((by rw [hg]; exact (below_size (by repeat (first | (with_reducible first | exact HB.out | apply below_alloc | apply pw_below_drewN | apply below_drew1) | exact HB.out))) : w.heap.size ≤ gb238)); have n3_ := Aside0.mk ((by rw [hg]; exact (below_size (by repeat (first | (with_reducible first | exact HB.out | apply below_alloc | apply pw_below_drewN | apply below_drew1) | exact HB.out))) : w.heap.size ≤ gb238)); clear HB; have HB := n0_; have BK238 := n1_; have GW238 := n2_; have GE238 := n3_; clear n0_ n1_ n2_ n3_; clear hb hbox hg; have hcz13_0 : w12.cell? ⟨gb238, 0, none⟩ = some (.int .u64 0) := (blk_cell BK238.out 0).trans rfl; have hcz13_1 : w12.cell? ⟨gb238, 1, none⟩ = some (.int .u64 0) := (blk_cell BK238.out 1).trans rfl; have hcz13_2 : w12.cell? ⟨gb238, 2, none⟩ = some (.string (⟨#[]⟩ : ByteArray)) := (blk_cell BK238.out 2).trans rfl; have hcz13_3 : w12.cell? ⟨gb238, 3, none⟩ = some (.slice none 0 0) := (blk_cell BK238.out 3).trans rfl; have hcz13_4 : w12.cell? ⟨gb238, 4, none⟩ = some (.slice none 0 0) := (blk_cell BK238.out 4).trans rfl; have hcz13_5 : w12.cell? ⟨gb238, 5, none⟩ = some (.bool false) := (blk_cell BK238.out 5).trans rfl; have hcz13_6 : w12.cell? ⟨gb238, 6, none⟩ = some (.bool false) := (blk_cell BK238.out 6).trans rfl; have hcz13_7 : w12.cell? ⟨gb238, 7, none⟩ = some (.bool false) := (blk_cell BK238.out 7).trans rfl; have hfz13_0 := blk_frozen BK238.out 0; have hfz13_1 := blk_frozen BK238.out 1; have hfz13_2 := blk_frozen BK238.out 2; have hfz13_3 := blk_frozen BK238.out 3; have hfz13_4 := blk_frozen BK238.out 4; have hfz13_5 := blk_frozen BK238.out 5; have hfz13_6 := blk_frozen BK238.out 6; have hfz13_7 := blk_frozen BK238.out 7))
    go_loopg [8, 9] kj3 (fun kq v8 v9 w' => ∃ (x8_2 : ByteArray) (x9_2 : Int) (x239000_2 : Int) (x239001_2 : Int) (x239002_2 : ByteArray) (x239003_2 : List (S67)) (x239004_2 : List (S67)) (x239005_2 : Bool) (x239006_2 : Bool) (x239007_2 : Bool) (u239003 : Value) (u239004 : Value), v8 = .string x8_2 ∧ v9 = .int .i64 x9_2 ∧ Aside0 (dominolaw15_SendqWrites.l0 kq l0 a1 a2 x8_2 x9_2 x239000_2 x239001_2 x239002_2 x239003_2 x239004_2 x239005_2 x239006_2 x239007_2 = some r) ∧ Aside0 (kq ≤ kj3) ∧ Aside0 (Kd.V k67 67 w' w.heap.size (fun k_ => k_ ≠ gb238) u239003 x239003_2) ∧ Aside0 (Kd.V k67 67 w' w.heap.size (fun k_ => k_ ≠ gb238) u239004 x239004_2) ∧ Aside0 (w'.heap[gb238]? = some (.cells #[.int .u64 x239000_2, .int .u64 x239001_2, .string x239002_2, u239003, u239004, .bool x239005_2, .bool x239006_2, .bool x239007_2] 29 (0, 0))) ∧ Aside0 (Below w.heap.size w w'))
    case atStart => exact ⟨((⟨#[]⟩ : ByteArray)), (0), (0), (0), ((⟨#[]⟩ : ByteArray)), (([] : List (S67))), (([] : List (S67))), (false), (false), (false), (.slice none 0 0), (.slice none 0 0), (by first | rfl | (simp; done) | (simp [*]; done)), (by first | rfl | (simp; done) | (simp [*]; done)), H', ⟨Nat.le_refl _⟩, ⟨Kd.V_nil _ _ _ _ _⟩, ⟨Kd.V_nil _ _ _ _ _⟩, ⟨by (with_reducible repeat (first | refine blk_drewN ?_ _ | refine blk_drew ?_ | refine blk_alloc ?_ _)); refine blk_put (cs := #[.int .u64 0, .int .u64 0, .string (⟨#[]⟩ : ByteArray), .slice none 0 0, .slice none 0 0, .bool false, .bool false, .bool false]) ?_ 7 _ rfl; (with_reducible repeat (first | refine blk_drewN ?_ _ | refine blk_drew ?_ | refine blk_alloc ?_ _)); refine blk_put (cs := #[.int .u64 0, .int .u64 0, .string (⟨#[]⟩ : ByteArray), .slice none 0 0, .slice none 0 0, .bool false, .bool false, .bool false]) ?_ 6 _ rfl; (with_reducible repeat (first | refine blk_drewN ?_ _ | refine blk_drew ?_ | refine blk_alloc ?_ _)); refine blk_put (cs := #[.int .u64 0, .int .u64 0, .string (⟨#[]⟩ : ByteArray), .slice none 0 0, .slice none 0 0, .bool false, .bool false, .bool false]) ?_ 5 _ rfl; (with_reducible repeat (first | refine blk_drewN ?_ _ | refine blk_drew ?_ | refine blk_alloc ?_ _)); refine blk_put (cs := #[.int .u64 0, .int .u64 0, .string (⟨#[]⟩ : ByteArray), .slice none 0 0, .slice none 0 0, .bool false, .bool false, .bool false]) ?_ 4 _ rfl; (with_reducible repeat (first | refine blk_drewN ?_ _ | refine blk_drew ?_ | refine blk_alloc ?_ _)); refine blk_put (cs := #[.int .u64 0, .int .u64 0, .string (⟨#[]⟩ : ByteArray), .slice none 0 0, .slice none 0 0, .bool false, .bool false, .bool false]) ?_ 3 _ rfl; (with_reducible repeat (first | refine blk_drewN ?_ _ | refine blk_drew ?_ | refine blk_alloc ?_ _)); refine blk_put (cs := #[.int .u64 0, .int .u64 0, .string (⟨#[]⟩ : ByteArray), .slice none 0 0, .slice none 0 0, .bool false, .bool false, .bool false]) ?_ 2 _ rfl; (with_reducible repeat (first | refine blk_drewN ?_ _ | refine blk_drew ?_ | refine blk_alloc ?_ _)); refine blk_put (cs := #[.int .u64 0, .int .u64 0, .string (⟨#[]⟩ : ByteArray), .slice none 0 0, .slice none 0 0, .bool false, .bool false, .bool false]) ?_ 1 _ rfl; (with_reducible repeat (first | refine blk_drewN ?_ _ | refine blk_drew ?_ | refine blk_alloc ?_ _)); refine blk_put (cs := #[.int .u64 0, .int .u64 0, .string (⟨#[]⟩ : ByteArray), .slice none 0 0, .slice none 0 0, .bool false, .bool false, .bool false]) ?_ 0 _ rfl; (with_reducible repeat (first | refine blk_drewN ?_ _ | refine blk_drew ?_ | refine blk_alloc ?_ _)); exact BK238.out⟩, ⟨by repeat (first | (with_reducible first | exact HB.out | apply below_alloc | apply pw_below_drewN | apply below_drew1 | refine below_set ?_ GE238.out) | exact HB.out)⟩⟩
    case round =>
     clear H'
     try clear p2
     try clear c5
     try clear c5b0
     try clear c5b1
     try clear c6
     try clear c6b0
     try clear c7
     try clear c9
     try clear hcz13_0
     try clear hcz13_1
     try clear hcz13_2
     try clear hcz13_3
     try clear hcz13_4
     try clear hcz13_5
     try clear hcz13_6
     try clear hcz13_7
     try clear hfz13_0
     try clear hfz13_1
     try clear hfz13_2
     try clear hfz13_3
     try clear hfz13_4
     try clear hfz13_5
     try clear hfz13_6
     try clear hfz13_7
     try clear p2
     obtain ⟨x8_2, x9_2, x239000_2, x239001_2, x239002_2, x239003_2, x239004_2, x239005_2, x239006_2, x239007_2, u239003, u239004, rfl, rfl, HA, HK2, HO_239003, HO_239004, BK238, HB⟩ := hrel
     cases gk with
     | zero => exact absurd HA.out (by simp [dominolaw15_SendqWrites.l0])
     | succ k2 =>
      have H := HA.out
      clear HA
      simp only [dominolaw15_SendqWrites.l0] at H
      by_cases c14 : x9_2 < (l0.length : Int)
      ·rw [if_pos c14] at H
       have c14b0 : decide (x9_2 < (l0.length : Int)) = true := decide_eq_true c14
       clear c14
       by_cases c15 : 0 ≤ x9_2
       ·rw [if_pos c15] at H
        have c15b0 : decide (0 ≤ x9_2) = true := decide_eq_true c15
        clear c15
        by_cases c16 : ((rdOf ByteArray.empty l0 x9_2).size : Int) > 200
        ·rw [if_pos c16] at H
         have c16b0 : decide (200 < ((rdOf ByteArray.empty l0 x9_2).size : Int)) = true := decide_eq_true c16
         have c16b1 : decide (200 < (rdOf ByteArray.empty l0 x9_2).size) = true := decide_eq_true (by omega)
         clear c16
         replace H := Option.bind_eq_some_iff.mp H
         obtain ⟨t242, A170, H⟩ := H
         replace H : (some t242) = some r := H
         have A17 := Aside0.mk A170
         clear A170
         obtain rfl := Option.some.inj H
         have p241 : 0 ≤ (x9_2 : Int) := of_decide_eq_true (by first | (with_reducible assumption) | assumption)
         have q241 : x9_2 < (l0.length : Int) := of_decide_eq_true (by first | (with_reducible assumption) | assumption)
         obtain ⟨ad241, e241, hx241_0⟩ := Kd.at_string HR0.out x9_2 p241 q241
         cases e241
         replace hx241_0 := (HB.out.cell (World.block_lt_of_cell? w _ hx241_0)).trans hx241_0
         replace p241 := eq_true p241
         replace q241 := eq_true q241
         go_wp2_with (first | ((with_reducible refine gate_callee (f := 9) rfl ?_); refine goesL_ (some 38) rfl rfl Try.func9 (by kernel_rfl) rfl #[] rfl (by (try simp only [List.map_toArray, List.map_cons, List.map_nil]); first | done | rfl | (simp only [List.length_drop, List.length_take]; rfl)) ?_; (with_reducible refine (dominolaw15_shown.calls k2  t242 _ A17.out).mono ?_); rintro e w18 ⟨rfl, hb⟩; refine ⟨_, rfl, ?_⟩; have n0_ := Aside0.mk (Kd.V_below (by (with_reducible repeat (first | apply Kd.V_alloc | apply Kd.V_drewN | apply Kd.V_drew)); exact HO_239003.out) hb); have n1_ := Aside0.mk (Kd.V_below (by (with_reducible repeat (first | apply Kd.V_alloc | apply Kd.V_drewN | apply Kd.V_drew)); exact HO_239004.out) hb); have n2_ := Aside0.mk (blk_below (g := gb238) (o := .cells #[.int .u64 x239000_2, .int .u64 x239001_2, .string x239002_2, u239003, u239004, .bool x239005_2, .bool x239006_2, .bool x239007_2] 29 (0, 0)) (by (with_reducible repeat (first | refine blk_drewN ?_ _ | refine blk_drew ?_ | refine blk_alloc ?_ _)); exact BK238.out) hb); have n3_ := Aside0.mk (below_step (by repeat (first | (with_reducible first | exact HB.out | apply below_alloc | apply pw_below_drewN | apply below_drew1 | refine below_set ?_ GE238.out) | exact HB.out)) hb); clear HO_239003; clear HO_239004; clear BK238; clear HB; have HO_239003 := n0_; have HO_239004 := n1_; have BK238 := n2_; have HB := n3_; clear n0_ n1_ n2_ n3_; (try clear hb); (try clear hb2); (try clear hk); (try clear hi)))
         go_ret
         exact ⟨by first | rfl | (simp [errW_none, errW_some] <;> rfl) | (simp [*, errW_none, errW_some] <;> rfl), by repeat (first | (with_reducible first | exact HB.out | apply below_alloc | apply pw_below_drewN | apply below_drew1 | refine below_set ?_ GE238.out) | exact HB.out)⟩
        ·rw [if_neg c16] at H
         have c16b0 : decide (200 < ((rdOf ByteArray.empty l0 x9_2).size : Int)) = false := decide_eq_false c16
         have c16b1 : decide (200 < (rdOf ByteArray.empty l0 x9_2).size) = false := decide_eq_false (by omega)
         clear c16
         have HC19 := Aside0.mk H
         clear H
         have p241 : 0 ≤ (x9_2 : Int) := of_decide_eq_true (by first | (with_reducible assumption) | assumption)
         have q241 : x9_2 < (l0.length : Int) := of_decide_eq_true (by first | (with_reducible assumption) | assumption)
         obtain ⟨ad241, e241, hx241_0⟩ := Kd.at_string HR0.out x9_2 p241 q241
         cases e241
         replace hx241_0 := (HB.out.cell (World.block_lt_of_cell? w _ hx241_0)).trans hx241_0
         replace p241 := eq_true p241
         replace q241 := eq_true q241
         go_upto_if 42 with (fail)
         go_cut [] (fun wc => ∃ (kq : Nat) (x239000_18 : Int) (x239001_18 : Int) (x239002_18 : ByteArray) (x239003_18 : List (S67)) (x239004_18 : List (S67)) (x239005_18 : Bool) (x239006_18 : Bool) (x239007_18 : Bool) (u239003 : Value) (u239004 : Value), Aside0 (dominolaw15_SendqWrites.j2 kq l0 a1 a2 x8_2 x9_2 x239000_18 x239001_18 x239002_18 x239003_18 x239004_18 x239005_18 x239006_18 x239007_18 = some r) ∧ Aside0 (kq ≤ k2) ∧ Aside0 (Kd.V k67 67 wc w.heap.size (fun k_ => k_ ≠ gb238) u239003 x239003_18) ∧ Aside0 (Kd.V k67 67 wc w.heap.size (fun k_ => k_ ≠ gb238) u239004 x239004_18) ∧ Aside0 (wc.heap[gb238]? = some (.cells #[.int .u64 x239000_18, .int .u64 x239001_18, .string x239002_18, u239003, u239004, .bool x239005_18, .bool x239006_18, .bool x239007_18] 29 (0, 0))) ∧ Aside0 (Below w.heap.size w wc))
         case first =>
          have H := HC19.out
          clear HC19
          by_cases c20 : x9_2 = (wrap64 (a2))
          ·rw [if_pos c20] at H
           have c20b0 : (x9_2 == (wrap64 (a2))) = true := beq_iff_eq.mpr c20
           have c20b1 : (x9_2 != (wrap64 (a2))) = false := bne_eq_false_iff_eq.mpr c20
           clear c20
           (first | rw [c20b0] | (simp only [i64_w, i32_w]; rw [c20b0]) | skip)
           replace H := Option.bind_eq_some_iff.mp H
           obtain ⟨⟨t243, t244, t245, t246, t249, t252, t253, t254⟩, A210, H⟩ := H
           replace H : (dominolaw15_SendqWrites.j2 k2 l0 a1 a2 x8_2 x9_2 t243 t244 t245 t246 t249 t252 t253 t254) = some r := H
           have A21 := Aside0.mk A210
           clear A210
           have H' := Aside0.mk H
           clear H
           have hcz22_0 : wr.cell? ⟨gb238, 0, none⟩ = some (.int .u64 x239000_2) := (blk_cell BK238.out 0).trans rfl
           have hcz22_1 : wr.cell? ⟨gb238, 1, none⟩ = some (.int .u64 x239001_2) := (blk_cell BK238.out 1).trans rfl
           have hcz22_2 : wr.cell? ⟨gb238, 2, none⟩ = some (.string x239002_2) := (blk_cell BK238.out 2).trans rfl
           have hcz22_3 : wr.cell? ⟨gb238, 3, none⟩ = some (u239003) := (blk_cell BK238.out 3).trans rfl
           have hcz22_4 : wr.cell? ⟨gb238, 4, none⟩ = some (u239004) := (blk_cell BK238.out 4).trans rfl
           have hcz22_5 : wr.cell? ⟨gb238, 5, none⟩ = some (.bool x239005_2) := (blk_cell BK238.out 5).trans rfl
           have hcz22_6 : wr.cell? ⟨gb238, 6, none⟩ = some (.bool x239006_2) := (blk_cell BK238.out 6).trans rfl
           have hcz22_7 : wr.cell? ⟨gb238, 7, none⟩ = some (.bool x239007_2) := (blk_cell BK238.out 7).trans rfl
           have hfz22_0 := blk_frozen BK238.out 0
           have hfz22_1 := blk_frozen BK238.out 1
           have hfz22_2 := blk_frozen BK238.out 2
           have hfz22_3 := blk_frozen BK238.out 3
           have hfz22_4 := blk_frozen BK238.out 4
           have hfz22_5 := blk_frozen BK238.out 5
           have hfz22_6 := blk_frozen BK238.out 6
           have hfz22_7 := blk_frozen BK238.out 7
           obtain ⟨Ao23, co23, eo23⟩ := Kd.V_slice HO_239003.out
           subst eo23
           obtain ⟨Ao24, co24, eo24⟩ := Kd.V_slice HO_239004.out
           subst eo24
           go_wp2_with (first | ((with_reducible refine gate_callee (f := 14) rfl ?_); refine goesL_ (some 44) rfl rfl Try.func14 (by kernel_rfl) rfl #[.agg #[.int .u64 x239000_2, .int .u64 x239001_2, .string x239002_2, .slice Ao23 x239003_2.length co23, .slice Ao24 x239004_2.length co24, .bool x239005_2, .bool x239006_2, .bool x239007_2]] rfl (by (try simp only [List.map_toArray, List.map_cons, List.map_nil]); first | done | rfl | (simp only [List.length_drop, List.length_take]; rfl)) ?_; (with_reducible refine (sendq_Finish.calls x239000_2 x239001_2 x239002_2 (fun k_ => k_ ≠ gb238) _ _ x239003_2 (fun k_ => k_ ≠ gb238) _ _ x239004_2 x239005_2 x239006_2 x239007_2 t243 t244 t245 t246 t249 t252 t253 t254 _ ?side1 ?side2 A21.out).mono ?_); (case side1 => exact HO_239003.out); (case side2 => exact HO_239004.out); rintro e w25 ⟨v247, v250, rfl, ho0, ho1, hb⟩; refine ⟨_, rfl, ?_⟩; have n0_ := Aside0.mk (Kd.V_below (by (with_reducible repeat (first | apply Kd.V_alloc | apply Kd.V_drewN | apply Kd.V_drew)); exact HO_239003.out) hb); have n1_ := Aside0.mk (Kd.V_below (by (with_reducible repeat (first | apply Kd.V_alloc | apply Kd.V_drewN | apply Kd.V_drew)); exact HO_239004.out) hb); have n2_ := Aside0.mk (Kd.V_lower (Kd.V_mono (ok' := fun k_ => k_ ≠ gb238) ho0 (fun k_ hk_ => Or.elim hk_ (fun hs_ => Or.elim hs_ (fun hs_ => hs_) (fun hs_ => hs_)) (fun hn_ => (Kd.freshB (g := gb238) (o := .cells #[.int .u64 x239000_2, .int .u64 x239001_2, .string x239002_2, .slice Ao23 x239003_2.length co23, .slice Ao24 x239004_2.length co24, .bool x239005_2, .bool x239006_2, .bool x239007_2] 29 (0, 0)) (by (with_reducible repeat (first | refine blk_drewN ?_ _ | refine blk_drew ?_ | refine blk_alloc ?_ _)); exact BK238.out) k_ hn_)))) (below_size (by repeat (first | (with_reducible first | exact HB.out | apply below_alloc | apply pw_below_drewN | apply below_drew1 | refine below_set ?_ GE238.out) | exact HB.out)))); have n3_ := Aside0.mk (Kd.V_lower (Kd.V_mono (ok' := fun k_ => k_ ≠ gb238) ho1 (fun k_ hk_ => Or.elim hk_ (fun hs_ => Or.elim hs_ (fun hs_ => hs_) (fun hs_ => hs_)) (fun hn_ => (Kd.freshB (g := gb238) (o := .cells #[.int .u64 x239000_2, .int .u64 x239001_2, .string x239002_2, .slice Ao23 x239003_2.length co23, .slice Ao24 x239004_2.length co24, .bool x239005_2, .bool x239006_2, .bool x239007_2] 29 (0, 0)) (by (with_reducible repeat (first | refine blk_drewN ?_ _ | refine blk_drew ?_ | refine blk_alloc ?_ _)); exact BK238.out) k_ hn_)))) (below_size (by repeat (first | (with_reducible first | exact HB.out | apply below_alloc | apply pw_below_drewN | apply below_drew1 | refine below_set ?_ GE238.out) | exact HB.out)))); have n4_ := Aside0.mk (blk_below (g := gb238) (o := .cells #[.int .u64 x239000_2, .int .u64 x239001_2, .string x239002_2, .slice Ao23 x239003_2.length co23, .slice Ao24 x239004_2.length co24, .bool x239005_2, .bool x239006_2, .bool x239007_2] 29 (0, 0)) (by (with_reducible repeat (first | refine blk_drewN ?_ _ | refine blk_drew ?_ | refine blk_alloc ?_ _)); exact BK238.out) hb); have n5_ := Aside0.mk (below_step (by repeat (first | (with_reducible first | exact HB.out | apply below_alloc | apply pw_below_drewN | apply below_drew1 | refine below_set ?_ GE238.out) | exact HB.out)) hb); clear HO_239003; clear HO_239004; clear BK238; clear HB; have HO_239003 := n0_; have HO_239004 := n1_; have HO248 := n2_; have HO251 := n3_; have BK238 := n4_; have HB := n5_; clear n0_ n1_ n2_ n3_ n4_ n5_; (try clear hb); (try clear hb2); (try clear hk); (try clear hi); (try clear ho0); (try clear ho1); have hcz26_0 : w25.cell? ⟨gb238, 0, none⟩ = some (.int .u64 x239000_2) := (blk_cell BK238.out 0).trans rfl; have hcz26_1 : w25.cell? ⟨gb238, 1, none⟩ = some (.int .u64 x239001_2) := (blk_cell BK238.out 1).trans rfl; have hcz26_2 : w25.cell? ⟨gb238, 2, none⟩ = some (.string x239002_2) := (blk_cell BK238.out 2).trans rfl; have hcz26_3 : w25.cell? ⟨gb238, 3, none⟩ = some (.slice Ao23 x239003_2.length co23) := (blk_cell BK238.out 3).trans rfl; have hcz26_4 : w25.cell? ⟨gb238, 4, none⟩ = some (.slice Ao24 x239004_2.length co24) := (blk_cell BK238.out 4).trans rfl; have hcz26_5 : w25.cell? ⟨gb238, 5, none⟩ = some (.bool x239005_2) := (blk_cell BK238.out 5).trans rfl; have hcz26_6 : w25.cell? ⟨gb238, 6, none⟩ = some (.bool x239006_2) := (blk_cell BK238.out 6).trans rfl; have hcz26_7 : w25.cell? ⟨gb238, 7, none⟩ = some (.bool x239007_2) := (blk_cell BK238.out 7).trans rfl; have hfz26_0 := blk_frozen BK238.out 0; have hfz26_1 := blk_frozen BK238.out 1; have hfz26_2 := blk_frozen BK238.out 2; have hfz26_3 := blk_frozen BK238.out 3; have hfz26_4 := blk_frozen BK238.out 4; have hfz26_5 := blk_frozen BK238.out 5; have hfz26_6 := blk_frozen BK238.out 6; have hfz26_7 := blk_frozen BK238.out 7; obtain ⟨Ao27, co27, eo27⟩ := Kd.V_slice HO248.out; subst eo27; obtain ⟨Ao28, co28, eo28⟩ := Kd.V_slice HO251.out; subst eo28))
           go_meet
           case rel => exact ⟨_, (t243), (t244), (t245), (t246), (t249), (t252), (t253), (t254), (.slice Ao27 t246.length co27), (.slice Ao28 t249.length co28), H', ⟨by have := HJ3.out; have := HK2.out; first | omega | exact Nat.le_refl _⟩, ⟨by (with_reducible repeat (first | apply Kd.V_alloc | apply Kd.V_drewN | apply Kd.V_drew)); exact Kd.V_mono (Kd.V_far (p := ⟨gb238, 7, none⟩) (Kd.V_far (p := ⟨gb238, 6, none⟩) (Kd.V_far (p := ⟨gb238, 5, none⟩) (Kd.V_far (p := ⟨gb238, 4, none⟩) (Kd.V_far (p := ⟨gb238, 3, none⟩) (Kd.V_far (p := ⟨gb238, 2, none⟩) (Kd.V_far (p := ⟨gb238, 1, none⟩) (Kd.V_far (p := ⟨gb238, 0, none⟩) (Kd.V_mono HO248.out (fun k_ hk => (⟨hk, hk⟩ : _ ∧ k_ ≠ gb238))) (fun _ hk => hk.2) (.int .u64 t243)) (fun _ hk => hk.2) (.int .u64 t244)) (fun _ hk => hk.2) (.string t245)) (fun _ hk => hk.2) (.slice Ao27 t246.length co27)) (fun _ hk => hk.2) (.slice Ao28 t249.length co28)) (fun _ hk => hk.2) (.bool t252)) (fun _ hk => hk.2) (.bool t253)) (fun _ hk => hk.2) (.bool t254)) (fun _ hk => hk.1)⟩, ⟨by (with_reducible repeat (first | apply Kd.V_alloc | apply Kd.V_drewN | apply Kd.V_drew)); exact Kd.V_mono (Kd.V_far (p := ⟨gb238, 7, none⟩) (Kd.V_far (p := ⟨gb238, 6, none⟩) (Kd.V_far (p := ⟨gb238, 5, none⟩) (Kd.V_far (p := ⟨gb238, 4, none⟩) (Kd.V_far (p := ⟨gb238, 3, none⟩) (Kd.V_far (p := ⟨gb238, 2, none⟩) (Kd.V_far (p := ⟨gb238, 1, none⟩) (Kd.V_far (p := ⟨gb238, 0, none⟩) (Kd.V_mono HO251.out (fun k_ hk => (⟨hk, hk⟩ : _ ∧ k_ ≠ gb238))) (fun _ hk => hk.2) (.int .u64 t243)) (fun _ hk => hk.2) (.int .u64 t244)) (fun _ hk => hk.2) (.string t245)) (fun _ hk => hk.2) (.slice Ao27 t246.length co27)) (fun _ hk => hk.2) (.slice Ao28 t249.length co28)) (fun _ hk => hk.2) (.bool t252)) (fun _ hk => hk.2) (.bool t253)) (fun _ hk => hk.2) (.bool t254)) (fun _ hk => hk.1)⟩, ⟨by (with_reducible repeat (first | refine blk_drewN ?_ _ | refine blk_drew ?_ | refine blk_alloc ?_ _)); refine blk_put (cs := #[.int .u64 t243, .int .u64 t244, .string t245, .slice Ao27 t246.length co27, .slice Ao28 t249.length co28, .bool t252, .bool t253, .bool x239007_2]) ?_ 7 _ rfl; (with_reducible repeat (first | refine blk_drewN ?_ _ | refine blk_drew ?_ | refine blk_alloc ?_ _)); refine blk_put (cs := #[.int .u64 t243, .int .u64 t244, .string t245, .slice Ao27 t246.length co27, .slice Ao28 t249.length co28, .bool t252, .bool x239006_2, .bool x239007_2]) ?_ 6 _ rfl; (with_reducible repeat (first | refine blk_drewN ?_ _ | refine blk_drew ?_ | refine blk_alloc ?_ _)); refine blk_put (cs := #[.int .u64 t243, .int .u64 t244, .string t245, .slice Ao27 t246.length co27, .slice Ao28 t249.length co28, .bool x239005_2, .bool x239006_2, .bool x239007_2]) ?_ 5 _ rfl; (with_reducible repeat (first | refine blk_drewN ?_ _ | refine blk_drew ?_ | refine blk_alloc ?_ _)); refine blk_put (cs := #[.int .u64 t243, .int .u64 t244, .string t245, .slice Ao27 t246.length co27, .slice Ao24 x239004_2.length co24, .bool x239005_2, .bool x239006_2, .bool x239007_2]) ?_ 4 _ rfl; (with_reducible repeat (first | refine blk_drewN ?_ _ | refine blk_drew ?_ | refine blk_alloc ?_ _)); refine blk_put (cs := #[.int .u64 t243, .int .u64 t244, .string t245, .slice Ao23 x239003_2.length co23, .slice Ao24 x239004_2.length co24, .bool x239005_2, .bool x239006_2, .bool x239007_2]) ?_ 3 _ rfl; (with_reducible repeat (first | refine blk_drewN ?_ _ | refine blk_drew ?_ | refine blk_alloc ?_ _)); refine blk_put (cs := #[.int .u64 t243, .int .u64 t244, .string x239002_2, .slice Ao23 x239003_2.length co23, .slice Ao24 x239004_2.length co24, .bool x239005_2, .bool x239006_2, .bool x239007_2]) ?_ 2 _ rfl; (with_reducible repeat (first | refine blk_drewN ?_ _ | refine blk_drew ?_ | refine blk_alloc ?_ _)); refine blk_put (cs := #[.int .u64 t243, .int .u64 x239001_2, .string x239002_2, .slice Ao23 x239003_2.length co23, .slice Ao24 x239004_2.length co24, .bool x239005_2, .bool x239006_2, .bool x239007_2]) ?_ 1 _ rfl; (with_reducible repeat (first | refine blk_drewN ?_ _ | refine blk_drew ?_ | refine blk_alloc ?_ _)); refine blk_put (cs := #[.int .u64 x239000_2, .int .u64 x239001_2, .string x239002_2, .slice Ao23 x239003_2.length co23, .slice Ao24 x239004_2.length co24, .bool x239005_2, .bool x239006_2, .bool x239007_2]) ?_ 0 _ rfl; (with_reducible repeat (first | refine blk_drewN ?_ _ | refine blk_drew ?_ | refine blk_alloc ?_ _)); exact BK238.out⟩, ⟨by repeat (first | (with_reducible first | exact HB.out | apply below_alloc | apply pw_below_drewN | apply below_drew1 | refine below_set ?_ GE238.out) | exact HB.out)⟩⟩
          ·rw [if_neg c20] at H
           have c20b0 : (x9_2 == (wrap64 (a2))) = false := beq_eq_false_iff_ne.mpr c20
           have c20b1 : (x9_2 != (wrap64 (a2))) = true := bne_iff_ne.mpr c20
           (first | rw [c20b0] | (simp only [i64_w, i32_w]; rw [c20b0]) | skip)
           have H' := Aside0.mk H
           clear H
           go_wp2
           go_meet
           case rel => exact ⟨_, (x239000_2), (x239001_2), (x239002_2), (x239003_2), (x239004_2), (x239005_2), (x239006_2), (x239007_2), (u239003), (u239004), H', ⟨by have := HJ3.out; have := HK2.out; first | omega | exact Nat.le_refl _⟩, ⟨by (with_reducible repeat (first | apply Kd.V_alloc | apply Kd.V_drewN | apply Kd.V_drew)); exact HO_239003.out⟩, ⟨by (with_reducible repeat (first | apply Kd.V_alloc | apply Kd.V_drewN | apply Kd.V_drew)); exact HO_239004.out⟩, ⟨by (with_reducible repeat (first | refine blk_drewN ?_ _ | refine blk_drew ?_ | refine blk_alloc ?_ _)); exact BK238.out⟩, ⟨by repeat (first | (with_reducible first | exact HB.out | apply below_alloc | apply pw_below_drewN | apply below_drew1 | refine below_set ?_ GE238.out) | exact HB.out)⟩⟩
         case rest =>
          clear HC19
          try clear c1
          try clear c2
          try clear p2
          try clear q2
          try clear hx2
          try clear c5
          try clear c5b0
          try clear c5b1
          try clear c6
          try clear c6b0
          try clear p6
          try clear c7
          try clear c9
          try clear c14
          try clear c14b0
          try clear c15
          try clear c15b0
          try clear c16
          try clear c16b0
          try clear c16b1
          try clear c20
          try clear c20b0
          try clear c20b1
          try clear p24
          try clear q24
          try clear hx24
          try clear hcz13_0
          try clear hcz13_1
          try clear hcz13_2
          try clear hcz13_3
          try clear hcz13_4
          try clear hcz13_5
          try clear hcz13_6
          try clear hcz13_7
          try clear hcz22_0
          try clear hcz22_1
          try clear hcz22_2
          try clear hcz22_3
          try clear hcz22_4
          try clear hcz22_5
          try clear hcz22_6
          try clear hcz22_7
          try clear hcz26_0
          try clear hcz26_1
          try clear hcz26_2
          try clear hcz26_3
          try clear hcz26_4
          try clear hcz26_5
          try clear hcz26_6
          try clear hcz26_7
          try clear hfz13_0
          try clear hfz13_1
          try clear hfz13_2
          try clear hfz13_3
          try clear hfz13_4
          try clear hfz13_5
          try clear hfz13_6
          try clear hfz13_7
          try clear hfz22_0
          try clear hfz22_1
          try clear hfz22_2
          try clear hfz22_3
          try clear hfz22_4
          try clear hfz22_5
          try clear hfz22_6
          try clear hfz22_7
          try clear hfz26_0
          try clear hfz26_1
          try clear hfz26_2
          try clear hfz26_3
          try clear hfz26_4
          try clear hfz26_5
          try clear hfz26_6
          try clear hfz26_7
          try clear hx241_0
          try clear p2
          try clear p241
          try clear q241
          obtain ⟨kq, x239000_18, x239001_18, x239002_18, x239003_18, x239004_18, x239005_18, x239006_18, x239007_18, u239003, u239004, HA, HJ18, HO_239003, HO_239004, BK238, HB⟩ := hcut
          cases kq with
          | zero => exact absurd HA.out (by simp [dominolaw15_SendqWrites.j2])
          | succ kj18 =>
           have H := HA.out
           clear HA
           simp only [dominolaw15_SendqWrites.j2] at H
           by_cases c29 : 0 ≤ x9_2
           ·rw [if_pos c29] at H
            have c29b0 : decide (0 ≤ x9_2) = true := decide_eq_true c29
            clear c29
            by_cases c30 : x9_2 < (l0.length : Int)
            ·rw [if_pos c30] at H
             have c30b0 : decide (x9_2 < (l0.length : Int)) = true := decide_eq_true c30
             clear c30
             replace H := Option.bind_eq_some_iff.mp H
             obtain ⟨⟨t256, t257, t258, t259, t262, t265, t266, t267, t268⟩, A310, H⟩ := H
             replace H : (if x9_2 ≥ (wrap64 (a2)) then (if t268 = 0 then (if 0 ≤ t268 then (if t268 ≤ ((rdOf ByteArray.empty l0 x9_2).size : Int) then (if x8_2.size + ((rdOf ByteArray.empty l0 x9_2).extract 0 (t268 : Int).toNat).size ≤ 9223372036854775807 then (dominolaw15_SendqWrites.l0 kj18 l0 a1 a2 (x8_2 ++ ((rdOf ByteArray.empty l0 x9_2).extract 0 (t268 : Int).toNat)) (wrap64 (x9_2 + 1)) t256 t257 t258 t259 t262 t265 t266 t267) else (none)) else (none)) else (none)) else (none)) else (if t268 = (mn ((rdOf ByteArray.empty l0 x9_2).size : Int) (mx (wrap64 ((mx a1 0) - (x8_2.size : Int))) 0)) then (if 0 ≤ t268 then (if t268 ≤ ((rdOf ByteArray.empty l0 x9_2).size : Int) then (if x8_2.size + ((rdOf ByteArray.empty l0 x9_2).extract 0 (t268 : Int).toNat).size ≤ 9223372036854775807 then (dominolaw15_SendqWrites.l0 kj18 l0 a1 a2 (x8_2 ++ ((rdOf ByteArray.empty l0 x9_2).extract 0 (t268 : Int).toNat)) (wrap64 (x9_2 + 1)) t256 t257 t258 t259 t262 t265 t266 t267) else (none)) else (none)) else (none)) else (none))) = some r := H
             have A31 := Aside0.mk A310
             clear A310
             obtain ⟨ji32, hji32⟩ : ∃ j_ : Int, (mx a1 0) = j_ := ⟨_, rfl⟩
             replace H : (if x9_2 ≥ (wrap64 (a2)) then (if t268 = 0 then (if 0 ≤ t268 then (if t268 ≤ ((rdOf ByteArray.empty l0 x9_2).size : Int) then (if x8_2.size + ((rdOf ByteArray.empty l0 x9_2).extract 0 (t268 : Int).toNat).size ≤ 9223372036854775807 then (dominolaw15_SendqWrites.l0 kj18 l0 a1 a2 (x8_2 ++ ((rdOf ByteArray.empty l0 x9_2).extract 0 (t268 : Int).toNat)) (wrap64 (x9_2 + 1)) t256 t257 t258 t259 t262 t265 t266 t267) else (none)) else (none)) else (none)) else (none)) else (if t268 = (mn ((rdOf ByteArray.empty l0 x9_2).size : Int) (mx (wrap64 ((ji32) - (x8_2.size : Int))) 0)) then (if 0 ≤ t268 then (if t268 ≤ ((rdOf ByteArray.empty l0 x9_2).size : Int) then (if x8_2.size + ((rdOf ByteArray.empty l0 x9_2).extract 0 (t268 : Int).toNat).size ≤ 9223372036854775807 then (dominolaw15_SendqWrites.l0 kj18 l0 a1 a2 (x8_2 ++ ((rdOf ByteArray.empty l0 x9_2).extract 0 (t268 : Int).toNat)) (wrap64 (x9_2 + 1)) t256 t257 t258 t259 t262 t265 t266 t267) else (none)) else (none)) else (none)) else (none))) = some r := by first | (rw [hji32] at H; exact H) | (simp only [hji32] at H ⊢; exact H)
             (try rw [hji32] at A31)
             have hji32_ : (if a1 < 0 then 0 else a1) = ji32 := hji32
             obtain ⟨ji33, hji33⟩ : ∃ j_ : Int, (mx (wrap64 ((ji32) - (x8_2.size : Int))) 0) = j_ := ⟨_, rfl⟩
             replace H : (if x9_2 ≥ (wrap64 (a2)) then (if t268 = 0 then (if 0 ≤ t268 then (if t268 ≤ ((rdOf ByteArray.empty l0 x9_2).size : Int) then (if x8_2.size + ((rdOf ByteArray.empty l0 x9_2).extract 0 (t268 : Int).toNat).size ≤ 9223372036854775807 then (dominolaw15_SendqWrites.l0 kj18 l0 a1 a2 (x8_2 ++ ((rdOf ByteArray.empty l0 x9_2).extract 0 (t268 : Int).toNat)) (wrap64 (x9_2 + 1)) t256 t257 t258 t259 t262 t265 t266 t267) else (none)) else (none)) else (none)) else (none)) else (if t268 = (mn ((rdOf ByteArray.empty l0 x9_2).size : Int) (ji33)) then (if 0 ≤ t268 then (if t268 ≤ ((rdOf ByteArray.empty l0 x9_2).size : Int) then (if x8_2.size + ((rdOf ByteArray.empty l0 x9_2).extract 0 (t268 : Int).toNat).size ≤ 9223372036854775807 then (dominolaw15_SendqWrites.l0 kj18 l0 a1 a2 (x8_2 ++ ((rdOf ByteArray.empty l0 x9_2).extract 0 (t268 : Int).toNat)) (wrap64 (x9_2 + 1)) t256 t257 t258 t259 t262 t265 t266 t267) else (none)) else (none)) else (none)) else (none))) = some r := by first | (rw [hji33] at H; exact H) | (simp only [hji33] at H ⊢; exact H)
             (try rw [hji33] at A31)
             have hji33_ : (if (wrap64 ((ji32) - (x8_2.size : Int))) < 0 then 0 else (wrap64 ((ji32) - (x8_2.size : Int)))) = ji33 := hji33
             obtain ⟨ji34, hji34⟩ : ∃ j_ : Int, (mn ((rdOf ByteArray.empty l0 x9_2).size : Int) (ji33)) = j_ := ⟨_, rfl⟩
             replace H : (if x9_2 ≥ (wrap64 (a2)) then (if t268 = 0 then (if 0 ≤ t268 then (if t268 ≤ ((rdOf ByteArray.empty l0 x9_2).size : Int) then (if x8_2.size + ((rdOf ByteArray.empty l0 x9_2).extract 0 (t268 : Int).toNat).size ≤ 9223372036854775807 then (dominolaw15_SendqWrites.l0 kj18 l0 a1 a2 (x8_2 ++ ((rdOf ByteArray.empty l0 x9_2).extract 0 (t268 : Int).toNat)) (wrap64 (x9_2 + 1)) t256 t257 t258 t259 t262 t265 t266 t267) else (none)) else (none)) else (none)) else (none)) else (if t268 = (ji34) then (if 0 ≤ t268 then (if t268 ≤ ((rdOf ByteArray.empty l0 x9_2).size : Int) then (if x8_2.size + ((rdOf ByteArray.empty l0 x9_2).extract 0 (t268 : Int).toNat).size ≤ 9223372036854775807 then (dominolaw15_SendqWrites.l0 kj18 l0 a1 a2 (x8_2 ++ ((rdOf ByteArray.empty l0 x9_2).extract 0 (t268 : Int).toNat)) (wrap64 (x9_2 + 1)) t256 t257 t258 t259 t262 t265 t266 t267) else (none)) else (none)) else (none)) else (none))) = some r := by first | (rw [hji34] at H; exact H) | (simp only [hji34] at H ⊢; exact H)
             (try rw [hji34] at A31)
             have hji34_ : (if (ji33) < ((rdOf ByteArray.empty l0 x9_2).size : Int) then (ji33) else ((rdOf ByteArray.empty l0 x9_2).size : Int)) = ji34 := hji34
             by_cases c35 : x9_2 ≥ (wrap64 (a2))
             ·rw [if_pos c35] at H
              have c35b0 : decide ((wrap64 (a2)) ≤ x9_2) = true := decide_eq_true c35
              clear c35
              by_cases c36 : t268 = 0
              ·rw [if_pos c36] at H
               have c36b0 : (t268 == 0) = true := beq_iff_eq.mpr c36
               have c36b1 : (t268 != 0) = false := bne_eq_false_iff_eq.mpr c36
               clear c36
               by_cases c37 : 0 ≤ t268
               ·rw [if_pos c37] at H
                have c37b0 := eq_true c37
                have c37b1 : decide (0 ≤ t268) = true := decide_eq_true c37
                clear c37
                by_cases c38 : t268 ≤ ((rdOf ByteArray.empty l0 x9_2).size : Int)
                ·rw [if_pos c38] at H
                 have c38b0 := eq_true c38
                 have c38b1 : decide (t268 ≤ ((rdOf ByteArray.empty l0 x9_2).size : Int)) = true := decide_eq_true c38
                 clear c38
                 by_cases c39 : x8_2.size + ((rdOf ByteArray.empty l0 x9_2).extract 0 (t268 : Int).toNat).size ≤ 9223372036854775807
                 ·rw [if_pos c39] at H
                  have c39b0 := eq_true c39
                  have c39b1 : decide (x8_2.size + ((rdOf ByteArray.empty l0 x9_2).extract 0 (t268 : Int).toNat).size ≤ 9223372036854775807) = true := decide_eq_true c39
                  try have c39b2 : (9223372036854775807 < x8_2.size + ((rdOf ByteArray.empty l0 x9_2).extract 0 (t268 : Int).toNat).size) = False := eq_false (Nat.not_lt.2 c39)
                  have H' := Aside0.mk H
                  clear H
                  obtain ⟨Ao40, co40, eo40⟩ := Kd.V_slice HO_239003.out
                  subst eo40
                  obtain ⟨Ao41, co41, eo41⟩ := Kd.V_slice HO_239004.out
                  subst eo41
                  try go_wp2
                  have n0_ := Aside0.mk (Kd.V_drew HO_239003.out)
                  have n1_ := Aside0.mk (Kd.V_drew HO_239004.out)
                  have n2_ := Aside0.mk (blk_drew BK238.out)
                  have n3_ := Aside0.mk (below_drew1 HB.out)
                  clear HO_239003
                  clear HO_239004
                  clear BK238
                  clear HB
                  have HO_239003 := n0_
                  have HO_239004 := n1_
                  have BK238 := n2_
                  have HB := n3_
                  clear n0_ n1_ n2_ n3_
                  have p255 : 0 ≤ (x9_2 : Int) := of_decide_eq_true (by first | (with_reducible assumption) | assumption)
                  have q255 : x9_2 < (l0.length : Int) := of_decide_eq_true (by first | (with_reducible assumption) | assumption)
                  obtain ⟨ad255, e255, hx255_0⟩ := Kd.at_string HR0.out x9_2 p255 q255
                  have hw255_0 := hx255_0
                  obtain rfl : ad241 = ad255 := (by injection e255)
                  replace hx255_0 := (HB.out.cell (World.block_lt_of_cell? w _ hx255_0)).trans hx255_0
                  replace p255 := eq_true p255
                  replace q255 := eq_true q255
                  refine start_ (n := 13) (S := fun w' => w'.cell? ⟨gb238, 0, none⟩ = some (.int .u64 x239000_18) ∧ w'.cell? ⟨gb238, 1, none⟩ = some (.int .u64 x239001_18) ∧ w'.cell? ⟨gb238, 2, none⟩ = some (.string x239002_18) ∧ w'.cell? ⟨gb238, 3, none⟩ = some (.slice Ao40 x239003_18.length co40) ∧ w'.cell? ⟨gb238, 4, none⟩ = some (.slice Ao41 x239004_18.length co41) ∧ w'.cell? ⟨gb238, 5, none⟩ = some (.bool x239005_18) ∧ w'.cell? ⟨gb238, 6, none⟩ = some (.bool x239006_18) ∧ w'.cell? ⟨gb238, 7, none⟩ = some (.bool x239007_18) ∧ w'.cell? (ad241.add (x9_2).toNat) = some (.string (rdOf ByteArray.empty l0 x9_2))) (ds := []) #[false,false,false,false,false,false,false,false,false,false,false,false,false] (by kernel_rfl) rfl rfl ⟨(blk_cell BK238.out 0).trans rfl, (blk_cell BK238.out 1).trans rfl, (blk_cell BK238.out 2).trans rfl, (blk_cell BK238.out 3).trans rfl, (blk_cell BK238.out 4).trans rfl, (blk_cell BK238.out 5).trans rfl, (blk_cell BK238.out 6).trans rfl, (blk_cell BK238.out 7).trans rfl, (up_ HB.out hw255_0)⟩ (fun hHeld => ?_); refine with_tabW dominolaw15_SendqWrites.tab12 dominolaw15_SendqWrites.bits12 (fun HT_ HW_ => ?_)
                  generalize wc.drew = w42 at HO_239003 HO_239004 BK238 HB hx255_0 hHeld ⊢
                  refine pure_ (i := 1) (N := some 47) (v := ?_) (a' := ?_) #[false,true,false,false,false,false,false,false,false,false,false,false,false] rfl rfl (any_of HT_.out (by kernel_rfl)) (fun _ _ _ h => h) (Or.inl ⟨by rfl, ?_⟩) ?_ ?_
                  rotate_left;(intro w';go_simp;with_reducible rfl);rotate_left;(simp only [Act.put, List.setIfInBounds_toArray, List.set_cons_zero, List.set_cons_succ, i64_w, i32_w];rfl)
                  refine pure_ (i := 2) (N := some 48) (v := ?_) (a' := ?_) #[false,true,true,false,false,false,false,false,false,false,false,false,false] rfl rfl (any_of HT_.out (by kernel_rfl)) (fun _ _ _ h => h) (Or.inl ⟨by rfl, ?_⟩) ?_ ?_
                  rotate_left;(intro w';go_simp;with_reducible rfl);rotate_left;(simp only [Act.put, List.setIfInBounds_toArray, List.set_cons_zero, List.set_cons_succ, i64_w, i32_w];rfl)
                  refine pure_ (i := 3) (N := some 49) (v := ?_) (a' := ?_) #[false,true,true,true,false,false,false,false,false,false,false,false,false] rfl rfl (any_of HT_.out (by kernel_rfl)) (fun _ _ _ h => h) (Or.inl ⟨by rfl, ?_⟩) ?_ ?_
                  rotate_left;(intro w';go_simp;with_reducible rfl);rotate_left;(simp only [Act.put, List.setIfInBounds_toArray, List.set_cons_zero, List.set_cons_succ, i64_w, i32_w];rfl)
                  refine pure_ (i := 5) (N := some 51) (v := ?_) (a' := ?_) #[false,true,true,true,false,true,false,false,false,false,false,false,false] rfl rfl (any_of HT_.out (by kernel_rfl)) (fun _ _ _ h => h) (Or.inl ⟨by rfl, ?_⟩) ?_ ?_
                  rotate_left;(intro w';go_simp;with_reducible rfl);rotate_left;(simp only [Act.put, List.setIfInBounds_toArray, List.set_cons_zero, List.set_cons_succ, i64_w, i32_w];rfl)
                  refine take_ (i := 0) (N := some 46) (v := ?_) (a' := ?_) #[true,true,true,true,false,true,false,false,false,false,false,false,false] rfl rfl (take_ofW HT_.out HW_.out (by kernel_rfl)) (fun _ _ _ h => h) (Or.inl ⟨by rfl, ?_⟩) hHeld ?_ ?_
                  rotate_left
                  ·rintro w' ⟨s0, s1, s2, s3, s4, s5, s6, s7, s8⟩
                   go_simp
                   with_reducible rfl
                  rotate_left
                  ·simp only [Act.put, List.setIfInBounds_toArray, List.set_cons_zero, List.set_cons_succ, i64_w, i32_w]
                   rfl
                  refine take_ (i := 4) (N := some 50) (v := ?_) (a' := ?_) #[true,true,true,true,true,true,false,false,false,false,false,false,false] rfl rfl (take_ofW HT_.out HW_.out (by kernel_rfl)) (fun _ _ _ h => h) (Or.inl ⟨by rfl, ?_⟩) hHeld ?_ ?_
                  rotate_left
                  ·rintro w' ⟨s0, s1, s2, s3, s4, s5, s6, s7, s8⟩
                   go_simp
                   with_reducible rfl
                  rotate_left
                  ·simp only [Act.put, List.setIfInBounds_toArray, List.set_cons_zero, List.set_cons_succ, i64_w, i32_w]
                   rfl
                  refine join_ (σ := Value × Value × Nat) 2 #[true,true,true,true,true,true,true,true,true,true,true,false,false] (fun s_ => [(52, .tuple #[.agg #[.int .u64 t256, .int .u64 t257, .string t258, s_.1, s_.2.1, .bool t265, .bool t266, .bool t267], .int .i64 t268]), (10, .pointer (some ⟨s_.2.2, 0, none⟩)), (45, .tuple #[.agg #[.int .u64 t256, .int .u64 t257, .string t258, s_.1, s_.2.1, .bool t265, .bool t266, .bool t267], .int .i64 t268]), (53, .agg #[.int .u64 t256, .int .u64 t257, .string t258, s_.1, s_.2.1, .bool t265, .bool t266, .bool t267]), (54, .int .i64 t268)]) (fun s_ w' => (w'.cell? ⟨gb238, 0, none⟩ = some (.int .u64 x239000_18) ∧ w'.cell? ⟨gb238, 1, none⟩ = some (.int .u64 x239001_18) ∧ w'.cell? ⟨gb238, 2, none⟩ = some (.string x239002_18) ∧ w'.cell? ⟨gb238, 3, none⟩ = some (.slice Ao40 x239003_18.length co40) ∧ w'.cell? ⟨gb238, 4, none⟩ = some (.slice Ao41 x239004_18.length co41) ∧ w'.cell? ⟨gb238, 5, none⟩ = some (.bool x239005_18) ∧ w'.cell? ⟨gb238, 6, none⟩ = some (.bool x239006_18) ∧ w'.cell? ⟨gb238, 7, none⟩ = some (.bool x239007_18) ∧ w'.cell? (ad241.add (x9_2).toNat) = some (.string (rdOf ByteArray.empty l0 x9_2))) ∧ (Kd.V k67 67 w' w.heap.size (fun k_ => k_ ≠ gb238 ∧ k_ ≠ s_.2.2) s_.1 t259) ∧ (Kd.V k67 67 w' w.heap.size (fun k_ => k_ ≠ gb238 ∧ k_ ≠ s_.2.2) s_.2.1 t262) ∧ (Kd.V k67 67 w' w.heap.size (fun k_ => k_ ≠ gb238 ∧ k_ ≠ s_.2.2) (.slice Ao40 x239003_18.length co40) x239003_18) ∧ (Kd.V k67 67 w' w.heap.size (fun k_ => k_ ≠ gb238 ∧ k_ ≠ s_.2.2) (.slice Ao41 x239004_18.length co41) x239004_18) ∧ (w'.heap[gb238]? = some (.cells #[.int .u64 x239000_18, .int .u64 x239001_18, .string x239002_18, .slice Ao40 x239003_18.length co40, .slice Ao41 x239004_18.length co41, .bool x239005_18, .bool x239006_18, .bool x239007_18] 29 (0, 0))) ∧ (w'.heap[s_.2.2]? = some (.cells #[.int .u64 0, .int .u64 0, .string (⟨#[]⟩ : ByteArray), .slice none 0 0, .slice none 0 0, .bool false, .bool false, .bool false] 29 (0, 0))) ∧ (w.heap.size ≤ s_.2.2) ∧ (w.heap.size ≤ s_.2.2) ∧ (gb238 ≠ s_.2.2) ∧ (s_.2.2 ≠ gb238) ∧ (Below w.heap.size w w')) ?_ ?_
                  rotate_left
                  ·intro hCont
                   refine two_ (i := 6) (j := 10) (Ni := some 52) (Nj := some 10) #[true,true,true,true,true,true,true,false,false,false,false,false,false] #[true,true,true,true,true,true,false,false,false,false,true,false,false] rfl rfl rfl rfl (two_of HT_.out (by kernel_rfl)) (by decide) (by decide) (fun K hK => ?_) (fun K hK => ?_)
                   ·skip
                    refine goes_ Try.func12 (by kernel_rfl) rfl #[.agg #[.int .u64 x239000_18, .int .u64 x239001_18, .string x239002_18, .slice Ao40 x239003_18.length co40, .slice Ao41 x239004_18.length co41, .bool x239005_18, .bool x239006_18, .bool x239007_18], .string (rdOf ByteArray.empty l0 x9_2), .int .i64 a1] (by rfl) rfl rfl (by (try simp only [List.map_toArray, List.map_cons, List.map_nil]); first | done | rfl | (simp only [List.length_drop, List.length_take]; rfl)) ?_
                    with_reducible refine (sendq_Write.calls kj18 x239000_18 x239001_18 x239002_18 (fun k_ => k_ ≠ gb238) _ _ x239003_18 (fun k_ => k_ ≠ gb238) _ _ x239004_18 x239005_18 x239006_18 x239007_18 (rdOf ByteArray.empty l0 x9_2) a1 t256 t257 t258 t259 t262 t265 t266 t267 t268 _ ?side1 ?side2 A31.out).mono ?_
                    (case side1 => exact HO_239003.out)
                    (case side2 => exact HO_239004.out)
                    rintro e w43 ⟨v260, v263, rfl, ho0, ho1, hb⟩
                    refine ⟨_, rfl, ?_⟩
                    have n0_ := Aside0.mk (Kd.V_below (by (with_reducible repeat (first | apply Kd.V_alloc | apply Kd.V_drewN | apply Kd.V_drew)); exact HO_239003.out) hb)
                    have n1_ := Aside0.mk (Kd.V_below (by (with_reducible repeat (first | apply Kd.V_alloc | apply Kd.V_drewN | apply Kd.V_drew)); exact HO_239004.out) hb)
                    have n2_ := Aside0.mk (Kd.V_lower (Kd.V_mono (ok' := fun k_ => k_ ≠ gb238) ho0 (fun k_ hk_ => Or.elim hk_ (fun hs_ => Or.elim hs_ (fun hs_ => hs_) (fun hs_ => hs_)) (fun hn_ => (Kd.freshB (g := gb238) (o := .cells #[.int .u64 x239000_18, .int .u64 x239001_18, .string x239002_18, .slice Ao40 x239003_18.length co40, .slice Ao41 x239004_18.length co41, .bool x239005_18, .bool x239006_18, .bool x239007_18] 29 (0, 0)) (by (with_reducible repeat (first | refine blk_drewN ?_ _ | refine blk_drew ?_ | refine blk_alloc ?_ _)); exact BK238.out) k_ hn_)))) (below_size (by repeat (first | (with_reducible first | exact HB.out | apply below_alloc | apply pw_below_drewN | apply below_drew1 | refine below_set ?_ GE238.out) | exact HB.out))))
                    have n3_ := Aside0.mk (Kd.V_lower (Kd.V_mono (ok' := fun k_ => k_ ≠ gb238) ho1 (fun k_ hk_ => Or.elim hk_ (fun hs_ => Or.elim hs_ (fun hs_ => hs_) (fun hs_ => hs_)) (fun hn_ => (Kd.freshB (g := gb238) (o := .cells #[.int .u64 x239000_18, .int .u64 x239001_18, .string x239002_18, .slice Ao40 x239003_18.length co40, .slice Ao41 x239004_18.length co41, .bool x239005_18, .bool x239006_18, .bool x239007_18] 29 (0, 0)) (by (with_reducible repeat (first | refine blk_drewN ?_ _ | refine blk_drew ?_ | refine blk_alloc ?_ _)); exact BK238.out) k_ hn_)))) (below_size (by repeat (first | (with_reducible first | exact HB.out | apply below_alloc | apply pw_below_drewN | apply below_drew1 | refine below_set ?_ GE238.out) | exact HB.out))))
                    have n4_ := Aside0.mk (blk_below (g := gb238) (o := .cells #[.int .u64 x239000_18, .int .u64 x239001_18, .string x239002_18, .slice Ao40 x239003_18.length co40, .slice Ao41 x239004_18.length co41, .bool x239005_18, .bool x239006_18, .bool x239007_18] 29 (0, 0)) (by (with_reducible repeat (first | refine blk_drewN ?_ _ | refine blk_drew ?_ | refine blk_alloc ?_ _)); exact BK238.out) hb)
                    have n5_ := Aside0.mk (below_step (by repeat (first | (with_reducible first | exact HB.out | apply below_alloc | apply pw_below_drewN | apply below_drew1 | refine below_set ?_ GE238.out) | exact HB.out)) hb)
                    clear HO_239003
                    clear HO_239004
                    clear BK238
                    clear HB
                    have HO_239003 := n0_
                    have HO_239004 := n1_
                    have HO261 := n2_
                    have HO264 := n3_
                    have BK238 := n4_
                    have HB := n5_
                    clear n0_ n1_ n2_ n3_ n4_ n5_
                    (try clear hb)
                    (try clear hb2)
                    (try clear hk)
                    (try clear hi)
                    (try clear ho0)
                    (try clear ho1)
                    refine hK.out _ _ ⟨(blk_cell BK238.out 0).trans rfl, (blk_cell BK238.out 1).trans rfl, (blk_cell BK238.out 2).trans rfl, (blk_cell BK238.out 3).trans rfl, (blk_cell BK238.out 4).trans rfl, (blk_cell BK238.out 5).trans rfl, (blk_cell BK238.out 6).trans rfl, (blk_cell BK238.out 7).trans rfl, (up_ HB.out hw255_0)⟩ (fun hHeld => ?_)
                    clear hK K
                    refine norm_ (a' := ?_) ?_ ?_
                    rotate_left
                    ·show Act.put _ (some 52) _ = _
                     simp only [Act.put, List.setIfInBounds_toArray, List.set_cons_zero, List.set_cons_succ, i64_w, i32_w]
                     rfl
                    refine pure_ (i := 7) (N := some 45) (v := ?_) (a' := ?_) #[true,true,true,true,true,true,true,true,false,false,false,false,false] rfl rfl (any_of HT_.out (by kernel_rfl)) (fun _ _ _ h => h) (Or.inl ⟨by rfl, ?_⟩) ?_ ?_
                    rotate_left;(intro w';go_simp;with_reducible rfl);rotate_left;(simp only [Act.put, List.setIfInBounds_toArray, List.set_cons_zero, List.set_cons_succ, i64_w, i32_w];rfl)
                    refine pure_ (i := 8) (N := some 53) (v := ?_) (a' := ?_) #[true,true,true,true,true,true,true,true,true,false,false,false,false] rfl rfl (any_of HT_.out (by kernel_rfl)) (fun _ _ _ h => h) (Or.inl ⟨by rfl, ?_⟩) ?_ ?_
                    rotate_left;(intro w';go_simp;with_reducible rfl);rotate_left;(simp only [Act.put, List.setIfInBounds_toArray, List.set_cons_zero, List.set_cons_succ, i64_w, i32_w];rfl)
                    refine pure_ (i := 9) (N := some 54) (v := ?_) (a' := ?_) #[true,true,true,true,true,true,true,true,true,true,false,false,false] rfl rfl (any_of HT_.out (by kernel_rfl)) (fun _ _ _ h => h) (Or.inl ⟨by rfl, ?_⟩) ?_ ?_
                    rotate_left;(intro w';go_simp;with_reducible rfl);rotate_left;(simp only [Act.put, List.setIfInBounds_toArray, List.set_cons_zero, List.set_cons_succ, i64_w, i32_w];rfl)
                    refine one_ (i := 10) (N := some 10) #[true,true,true,true,true,true,true,true,true,true,true,false,false] rfl rfl (one_of HT_.out (by kernel_rfl)) (by decide) (fun K hK => ?_)
                    refine box_step ?hg (N := 10) ?hd (cs := #[.int .u64 0, .int .u64 0, .string (⟨#[]⟩ : ByteArray), .slice none 0 0, .slice none 0 0, .bool false, .bool false, .bool false]) (t := 29) ?hr ?_; (case hd => rfl); (case hg => rfl); (case hr => first | (go_simp; done) | (go_simp; rfl))
                    intro gb269 hg w44 hbox hb
                    have n0_ := Aside0.mk (Kd.V_below (Kd.V_elderB (by (with_reducible repeat (first | apply Kd.V_alloc | apply Kd.V_drewN | apply Kd.V_drew)); exact HO_239003.out) gb269 (Nat.le_of_eq hg.symm)) hb)
                    have n1_ := Aside0.mk (Kd.V_below (Kd.V_elderB (by (with_reducible repeat (first | apply Kd.V_alloc | apply Kd.V_drewN | apply Kd.V_drew)); exact HO_239004.out) gb269 (Nat.le_of_eq hg.symm)) hb)
                    have n2_ := Aside0.mk (Kd.V_below (Kd.V_elderB (by (with_reducible repeat (first | apply Kd.V_alloc | apply Kd.V_drewN | apply Kd.V_drew)); exact HO261.out) gb269 (Nat.le_of_eq hg.symm)) hb)
                    have n3_ := Aside0.mk (Kd.V_below (Kd.V_elderB (by (with_reducible repeat (first | apply Kd.V_alloc | apply Kd.V_drewN | apply Kd.V_drew)); exact HO264.out) gb269 (Nat.le_of_eq hg.symm)) hb)
                    have n4_ := Aside0.mk (blk_below (g := gb238) (o := .cells #[.int .u64 x239000_18, .int .u64 x239001_18, .string x239002_18, .slice Ao40 x239003_18.length co40, .slice Ao41 x239004_18.length co41, .bool x239005_18, .bool x239006_18, .bool x239007_18] 29 (0, 0)) (by (with_reducible repeat (first | refine blk_drewN ?_ _ | refine blk_drew ?_ | refine blk_alloc ?_ _)); exact BK238.out) hb)
                    have n5_ := Aside0.mk (below_step (by repeat (first | (with_reducible first | exact HB.out | apply below_alloc | apply pw_below_drewN | apply below_drew1 | refine below_set ?_ GE238.out) | exact HB.out)) hb)
                    have n6_ := Aside0.mk (hbox)
                    have n7_ := Aside0.mk ((by rw [hg]; exact (below_size (by repeat (first | (with_reducible first | exact HB.out | apply below_alloc | apply pw_below_drewN | apply below_drew1 | refine below_set ?_ GE238.out) | exact HB.out))) : w.heap.size ≤ gb269))
                    have n8_ := Aside0.mk ((by rw [hg]; exact (below_size (by repeat (first | (with_reducible first | exact HB.out | apply below_alloc | apply pw_below_drewN | apply below_drew1 | refine below_set ?_ GE238.out) | exact HB.out))) : w.heap.size ≤ gb269))
                    have n9_ := Aside0.mk ((by rw [hg]; exact Nat.ne_of_lt (blk_lt (g := gb238) (o := .cells #[.int .u64 x239000_18, .int .u64 x239001_18, .string x239002_18, .slice Ao40 x239003_18.length co40, .slice Ao41 x239004_18.length co41, .bool x239005_18, .bool x239006_18, .bool x239007_18] 29 (0, 0)) (by (with_reducible repeat (first | refine blk_drewN ?_ _ | refine blk_drew ?_ | refine blk_alloc ?_ _)); exact BK238.out)) : gb238 ≠ gb269))
                    have n10_ := Aside0.mk ((by rw [hg]; exact Nat.ne_of_gt (blk_lt (g := gb238) (o := .cells #[.int .u64 x239000_18, .int .u64 x239001_18, .string x239002_18, .slice Ao40 x239003_18.length co40, .slice Ao41 x239004_18.length co41, .bool x239005_18, .bool x239006_18, .bool x239007_18] 29 (0, 0)) (by (with_reducible repeat (first | refine blk_drewN ?_ _ | refine blk_drew ?_ | refine blk_alloc ?_ _)); exact BK238.out)) : gb269 ≠ gb238))
                    clear HO_239003
                    clear HO_239004
                    clear HO261
                    clear HO264
                    clear BK238
                    clear HB
                    have HO_239003 := n0_
                    have HO_239004 := n1_
                    have HO261 := n2_
                    have HO264 := n3_
                    have BK238 := n4_
                    have HB := n5_
                    have BK269 := n6_
                    have GW269 := n7_
                    have GE269 := n8_
                    have NB238_269 := n9_
                    have NB269_238 := n10_
                    clear n0_ n1_ n2_ n3_ n4_ n5_ n6_ n7_ n8_ n9_ n10_
                    clear hb hbox hg
                    refine hK.out _ _ ⟨(blk_cell BK238.out 0).trans rfl, (blk_cell BK238.out 1).trans rfl, (blk_cell BK238.out 2).trans rfl, (blk_cell BK238.out 3).trans rfl, (blk_cell BK238.out 4).trans rfl, (blk_cell BK238.out 5).trans rfl, (blk_cell BK238.out 6).trans rfl, (blk_cell BK238.out 7).trans rfl, (up_ HB.out hw255_0)⟩ (fun hHeld => ?_)
                    clear hK K
                    refine norm_ (a' := ?_) ?_ ?_
                    rotate_left
                    ·show Act.put _ (some 10) _ = _
                     simp only [Act.put, List.setIfInBounds_toArray, List.set_cons_zero, List.set_cons_succ, i64_w, i32_w]
                     rfl
                    exact norm_ (by simp only [putAll, Act.put, List.setIfInBounds_toArray, List.set_cons_zero, List.set_cons_succ]) (hCont (v260, v263, gb269) _ ⟨hHeld, (by (with_reducible repeat (first | apply Kd.V_alloc | apply Kd.V_drewN | apply Kd.V_drew)); exact HO261.out), (by (with_reducible repeat (first | apply Kd.V_alloc | apply Kd.V_drewN | apply Kd.V_drew)); exact HO264.out), (by (with_reducible repeat (first | apply Kd.V_alloc | apply Kd.V_drewN | apply Kd.V_drew)); exact HO_239003.out), (by (with_reducible repeat (first | apply Kd.V_alloc | apply Kd.V_drewN | apply Kd.V_drew)); exact HO_239004.out), (by (with_reducible repeat (first | refine blk_drewN ?_ _ | refine blk_drew ?_ | refine blk_alloc ?_ _)); exact BK238.out), (by (with_reducible repeat (first | refine blk_drewN ?_ _ | refine blk_drew ?_ | refine blk_alloc ?_ _)); exact BK269.out), GW269.out, GE269.out, NB238_269.out, NB269_238.out, (by repeat (first | (with_reducible first | exact HB.out | apply below_alloc | apply pw_below_drewN | apply below_drew1 | refine below_set ?_ GE238.out | refine below_set ?_ GE269.out) | exact HB.out))⟩)
                   ·skip
                    refine box_step ?hg (N := 10) ?hd (cs := #[.int .u64 0, .int .u64 0, .string (⟨#[]⟩ : ByteArray), .slice none 0 0, .slice none 0 0, .bool false, .bool false, .bool false]) (t := 29) ?hr ?_; (case hd => rfl); (case hg => rfl); (case hr => first | (go_simp; done) | (go_simp; rfl))
                    intro gb269 hg w43 hbox hb
                    have n0_ := Aside0.mk (Kd.V_below (Kd.V_elderB (by (with_reducible repeat (first | apply Kd.V_alloc | apply Kd.V_drewN | apply Kd.V_drew)); exact HO_239003.out) gb269 (Nat.le_of_eq hg.symm)) hb)
                    have n1_ := Aside0.mk (Kd.V_below (Kd.V_elderB (by (with_reducible repeat (first | apply Kd.V_alloc | apply Kd.V_drewN | apply Kd.V_drew)); exact HO_239004.out) gb269 (Nat.le_of_eq hg.symm)) hb)
                    have n2_ := Aside0.mk (blk_below (g := gb238) (o := .cells #[.int .u64 x239000_18, .int .u64 x239001_18, .string x239002_18, .slice Ao40 x239003_18.length co40, .slice Ao41 x239004_18.length co41, .bool x239005_18, .bool x239006_18, .bool x239007_18] 29 (0, 0)) (by (with_reducible repeat (first | refine blk_drewN ?_ _ | refine blk_drew ?_ | refine blk_alloc ?_ _)); exact BK238.out) hb)
                    have n3_ := Aside0.mk (below_step (by repeat (first | (with_reducible first | exact HB.out | apply below_alloc | apply pw_below_drewN | apply below_drew1 | refine below_set ?_ GE238.out) | exact HB.out)) hb)
                    have n4_ := Aside0.mk (hbox)
                    have n5_ := Aside0.mk ((by rw [hg]; exact (below_size (by repeat (first | (with_reducible first | exact HB.out | apply below_alloc | apply pw_below_drewN | apply below_drew1 | refine below_set ?_ GE238.out) | exact HB.out))) : w.heap.size ≤ gb269))
                    have n6_ := Aside0.mk ((by rw [hg]; exact (below_size (by repeat (first | (with_reducible first | exact HB.out | apply below_alloc | apply pw_below_drewN | apply below_drew1 | refine below_set ?_ GE238.out) | exact HB.out))) : w.heap.size ≤ gb269))
                    have n7_ := Aside0.mk ((by rw [hg]; exact Nat.ne_of_lt (blk_lt (g := gb238) (o := .cells #[.int .u64 x239000_18, .int .u64 x239001_18, .string x239002_18, .slice Ao40 x239003_18.length co40, .slice Ao41 x239004_18.length co41, .bool x239005_18, .bool x239006_18, .bool x239007_18] 29 (0, 0)) (by (with_reducible repeat (first | refine blk_drewN ?_ _ | refine blk_drew ?_ | refine blk_alloc ?_ _)); exact BK238.out)) : gb238 ≠ gb269))
                    have n8_ := Aside0.mk ((by rw [hg]; exact Nat.ne_of_gt (blk_lt (g := gb238) (o := .cells #[.int .u64 x239000_18, .int .u64 x239001_18, .string x239002_18, .slice Ao40 x239003_18.length co40, .slice Ao41 x239004_18.length co41, .bool x239005_18, .bool x239006_18, .bool x239007_18] 29 (0, 0)) (by (with_reducible repeat (first | refine blk_drewN ?_ _ | refine blk_drew ?_ | refine blk_alloc ?_ _)); exact BK238.out)) : gb269 ≠ gb238))
                    clear HO_239003
                    clear HO_239004
                    clear BK238
                    clear HB
                    have HO_239003 := n0_
                    have HO_239004 := n1_
                    have BK238 := n2_
                    have HB := n3_
                    have BK269 := n4_
                    have GW269 := n5_
                    have GE269 := n6_
                    have NB238_269 := n7_
                    have NB269_238 := n8_
                    clear n0_ n1_ n2_ n3_ n4_ n5_ n6_ n7_ n8_
                    clear hb hbox hg
                    refine hK.out _ _ ⟨(blk_cell BK238.out 0).trans rfl, (blk_cell BK238.out 1).trans rfl, (blk_cell BK238.out 2).trans rfl, (blk_cell BK238.out 3).trans rfl, (blk_cell BK238.out 4).trans rfl, (blk_cell BK238.out 5).trans rfl, (blk_cell BK238.out 6).trans rfl, (blk_cell BK238.out 7).trans rfl, (up_ HB.out hw255_0)⟩ (fun hHeld => ?_)
                    clear hK K
                    refine norm_ (a' := ?_) ?_ ?_
                    rotate_left
                    ·show Act.put _ (some 10) _ = _
                     simp only [Act.put, List.setIfInBounds_toArray, List.set_cons_zero, List.set_cons_succ, i64_w, i32_w]
                     rfl
                    refine one_ (i := 6) (N := some 52) #[true,true,true,true,true,true,true,false,false,false,true,false,false] rfl rfl (one_of HT_.out (by kernel_rfl)) (by decide) (fun K hK => ?_)
                    refine goes_ Try.func12 (by kernel_rfl) rfl #[.agg #[.int .u64 x239000_18, .int .u64 x239001_18, .string x239002_18, .slice Ao40 x239003_18.length co40, .slice Ao41 x239004_18.length co41, .bool x239005_18, .bool x239006_18, .bool x239007_18], .string (rdOf ByteArray.empty l0 x9_2), .int .i64 a1] (by rfl) rfl rfl (by (try simp only [List.map_toArray, List.map_cons, List.map_nil]); first | done | rfl | (simp only [List.length_drop, List.length_take]; rfl)) ?_
                    with_reducible refine (sendq_Write.calls kj18 x239000_18 x239001_18 x239002_18 (fun k_ => (k_ ≠ gb238 ∧ k_ ≠ gb269)) _ _ x239003_18 (fun k_ => (k_ ≠ gb238 ∧ k_ ≠ gb269)) _ _ x239004_18 x239005_18 x239006_18 x239007_18 (rdOf ByteArray.empty l0 x9_2) a1 t256 t257 t258 t259 t262 t265 t266 t267 t268 _ ?side1 ?side2 A31.out).mono ?_
                    (case side1 => exact HO_239003.out)
                    (case side2 => exact HO_239004.out)
                    rintro e w44 ⟨v260, v263, rfl, ho0, ho1, hb⟩
                    refine ⟨_, rfl, ?_⟩
                    have n0_ := Aside0.mk (Kd.V_below (by (with_reducible repeat (first | apply Kd.V_alloc | apply Kd.V_drewN | apply Kd.V_drew)); exact HO_239003.out) hb)
                    have n1_ := Aside0.mk (Kd.V_below (by (with_reducible repeat (first | apply Kd.V_alloc | apply Kd.V_drewN | apply Kd.V_drew)); exact HO_239004.out) hb)
                    have n2_ := Aside0.mk (Kd.V_lower (Kd.V_mono (ok' := fun k_ => k_ ≠ gb238 ∧ k_ ≠ gb269) ho0 (fun k_ hk_ => ⟨Or.elim hk_ (fun hs_ => Or.elim hs_ (fun hs_ => hs_.1) (fun hs_ => hs_.1)) (fun hn_ => (Kd.freshB (g := gb238) (o := .cells #[.int .u64 x239000_18, .int .u64 x239001_18, .string x239002_18, .slice Ao40 x239003_18.length co40, .slice Ao41 x239004_18.length co41, .bool x239005_18, .bool x239006_18, .bool x239007_18] 29 (0, 0)) (by (with_reducible repeat (first | refine blk_drewN ?_ _ | refine blk_drew ?_ | refine blk_alloc ?_ _)); exact BK238.out) k_ hn_)), Or.elim hk_ (fun hs_ => Or.elim hs_ (fun hs_ => hs_.2) (fun hs_ => hs_.2)) (fun hn_ => (Kd.freshB (g := gb269) (o := .cells #[.int .u64 0, .int .u64 0, .string (⟨#[]⟩ : ByteArray), .slice none 0 0, .slice none 0 0, .bool false, .bool false, .bool false] 29 (0, 0)) (by (with_reducible repeat (first | refine blk_drewN ?_ _ | refine blk_drew ?_ | refine blk_alloc ?_ _)); exact BK269.out) k_ hn_))⟩)) (below_size (by repeat (first | (with_reducible first | exact HB.out | apply below_alloc | apply pw_below_drewN | apply below_drew1 | refine below_set ?_ GE238.out | refine below_set ?_ GE269.out) | exact HB.out))))
                    have n3_ := Aside0.mk (Kd.V_lower (Kd.V_mono (ok' := fun k_ => k_ ≠ gb238 ∧ k_ ≠ gb269) ho1 (fun k_ hk_ => ⟨Or.elim hk_ (fun hs_ => Or.elim hs_ (fun hs_ => hs_.1) (fun hs_ => hs_.1)) (fun hn_ => (Kd.freshB (g := gb238) (o := .cells #[.int .u64 x239000_18, .int .u64 x239001_18, .string x239002_18, .slice Ao40 x239003_18.length co40, .slice Ao41 x239004_18.length co41, .bool x239005_18, .bool x239006_18, .bool x239007_18] 29 (0, 0)) (by (with_reducible repeat (first | refine blk_drewN ?_ _ | refine blk_drew ?_ | refine blk_alloc ?_ _)); exact BK238.out) k_ hn_)), Or.elim hk_ (fun hs_ => Or.elim hs_ (fun hs_ => hs_.2) (fun hs_ => hs_.2)) (fun hn_ => (Kd.freshB (g := gb269) (o := .cells #[.int .u64 0, .int .u64 0, .string (⟨#[]⟩ : ByteArray), .slice none 0 0, .slice none 0 0, .bool false, .bool false, .bool false] 29 (0, 0)) (by (with_reducible repeat (first | refine blk_drewN ?_ _ | refine blk_drew ?_ | refine blk_alloc ?_ _)); exact BK269.out) k_ hn_))⟩)) (below_size (by repeat (first | (with_reducible first | exact HB.out | apply below_alloc | apply pw_below_drewN | apply below_drew1 | refine below_set ?_ GE238.out | refine below_set ?_ GE269.out) | exact HB.out))))
                    have n4_ := Aside0.mk (blk_below (g := gb238) (o := .cells #[.int .u64 x239000_18, .int .u64 x239001_18, .string x239002_18, .slice Ao40 x239003_18.length co40, .slice Ao41 x239004_18.length co41, .bool x239005_18, .bool x239006_18, .bool x239007_18] 29 (0, 0)) (by (with_reducible repeat (first | refine blk_drewN ?_ _ | refine blk_drew ?_ | refine blk_alloc ?_ _)); exact BK238.out) hb)
                    have n5_ := Aside0.mk (blk_below (g := gb269) (o := .cells #[.int .u64 0, .int .u64 0, .string (⟨#[]⟩ : ByteArray), .slice none 0 0, .slice none 0 0, .bool false, .bool false, .bool false] 29 (0, 0)) (by (with_reducible repeat (first | refine blk_drewN ?_ _ | refine blk_drew ?_ | refine blk_alloc ?_ _)); exact BK269.out) hb)
                    have n6_ := Aside0.mk (below_step (by repeat (first | (with_reducible first | exact HB.out | apply below_alloc | apply pw_below_drewN | apply below_drew1 | refine below_set ?_ GE238.out | refine below_set ?_ GE269.out) | exact HB.out)) hb)
                    clear HO_239003
                    clear HO_239004
                    clear BK238
                    clear BK269
                    clear HB
                    have HO_239003 := n0_
                    have HO_239004 := n1_
                    have HO261 := n2_
                    have HO264 := n3_
                    have BK238 := n4_
                    have BK269 := n5_
                    have HB := n6_
                    clear n0_ n1_ n2_ n3_ n4_ n5_ n6_
                    (try clear hb)
                    (try clear hb2)
                    (try clear hk)
                    (try clear hi)
                    (try clear ho0)
                    (try clear ho1)
                    refine hK.out _ _ ⟨(blk_cell BK238.out 0).trans rfl, (blk_cell BK238.out 1).trans rfl, (blk_cell BK238.out 2).trans rfl, (blk_cell BK238.out 3).trans rfl, (blk_cell BK238.out 4).trans rfl, (blk_cell BK238.out 5).trans rfl, (blk_cell BK238.out 6).trans rfl, (blk_cell BK238.out 7).trans rfl, (up_ HB.out hw255_0)⟩ (fun hHeld => ?_)
                    clear hK K
                    refine norm_ (a' := ?_) ?_ ?_
                    rotate_left
                    ·show Act.put _ (some 52) _ = _
                     simp only [Act.put, List.setIfInBounds_toArray, List.set_cons_zero, List.set_cons_succ, i64_w, i32_w]
                     rfl
                    refine pure_ (i := 7) (N := some 45) (v := ?_) (a' := ?_) #[true,true,true,true,true,true,true,true,false,false,true,false,false] rfl rfl (any_of HT_.out (by kernel_rfl)) (fun _ _ _ h => h) (Or.inl ⟨by rfl, ?_⟩) ?_ ?_
                    rotate_left;(intro w';go_simp;with_reducible rfl);rotate_left;(simp only [Act.put, List.setIfInBounds_toArray, List.set_cons_zero, List.set_cons_succ, i64_w, i32_w];rfl)
                    refine pure_ (i := 8) (N := some 53) (v := ?_) (a' := ?_) #[true,true,true,true,true,true,true,true,true,false,true,false,false] rfl rfl (any_of HT_.out (by kernel_rfl)) (fun _ _ _ h => h) (Or.inl ⟨by rfl, ?_⟩) ?_ ?_
                    rotate_left;(intro w';go_simp;with_reducible rfl);rotate_left;(simp only [Act.put, List.setIfInBounds_toArray, List.set_cons_zero, List.set_cons_succ, i64_w, i32_w];rfl)
                    refine pure_ (i := 9) (N := some 54) (v := ?_) (a' := ?_) #[true,true,true,true,true,true,true,true,true,true,true,false,false] rfl rfl (any_of HT_.out (by kernel_rfl)) (fun _ _ _ h => h) (Or.inl ⟨by rfl, ?_⟩) ?_ ?_
                    rotate_left;(intro w';go_simp;with_reducible rfl);rotate_left;(simp only [Act.put, List.setIfInBounds_toArray, List.set_cons_zero, List.set_cons_succ, i64_w, i32_w];rfl)
                    exact norm_ (by simp only [putAll, Act.put, List.setIfInBounds_toArray, List.set_cons_zero, List.set_cons_succ]) (hCont (v260, v263, gb269) _ ⟨hHeld, (by (with_reducible repeat (first | apply Kd.V_alloc | apply Kd.V_drewN | apply Kd.V_drew)); exact HO261.out), (by (with_reducible repeat (first | apply Kd.V_alloc | apply Kd.V_drewN | apply Kd.V_drew)); exact HO264.out), (by (with_reducible repeat (first | apply Kd.V_alloc | apply Kd.V_drewN | apply Kd.V_drew)); exact HO_239003.out), (by (with_reducible repeat (first | apply Kd.V_alloc | apply Kd.V_drewN | apply Kd.V_drew)); exact HO_239004.out), (by (with_reducible repeat (first | refine blk_drewN ?_ _ | refine blk_drew ?_ | refine blk_alloc ?_ _)); exact BK238.out), (by (with_reducible repeat (first | refine blk_drewN ?_ _ | refine blk_drew ?_ | refine blk_alloc ?_ _)); exact BK269.out), GW269.out, GE269.out, NB238_269.out, NB269_238.out, (by repeat (first | (with_reducible first | exact HB.out | apply below_alloc | apply pw_below_drewN | apply below_drew1 | refine below_set ?_ GE238.out | refine below_set ?_ GE269.out) | exact HB.out))⟩)
                  rintro ⟨v260, v263, gb269⟩ w45 ⟨hS_, h0_, h1_, h2_, h3_, h4_, h5_, h6_, h7_, h8_, h9_, h10_⟩
                  have n0_ : Aside0 (Kd.V k67 67 w45 w.heap.size (fun k_ => k_ ≠ gb238 ∧ k_ ≠ gb269) v260 t259) := ⟨h0_⟩
                  have n1_ : Aside0 (Kd.V k67 67 w45 w.heap.size (fun k_ => k_ ≠ gb238 ∧ k_ ≠ gb269) v263 t262) := ⟨h1_⟩
                  have n2_ : Aside0 (Kd.V k67 67 w45 w.heap.size (fun k_ => k_ ≠ gb238 ∧ k_ ≠ gb269) (.slice Ao40 x239003_18.length co40) x239003_18) := ⟨h2_⟩
                  have n3_ : Aside0 (Kd.V k67 67 w45 w.heap.size (fun k_ => k_ ≠ gb238 ∧ k_ ≠ gb269) (.slice Ao41 x239004_18.length co41) x239004_18) := ⟨h3_⟩
                  have n4_ : Aside0 (w45.heap[gb238]? = some (.cells #[.int .u64 x239000_18, .int .u64 x239001_18, .string x239002_18, .slice Ao40 x239003_18.length co40, .slice Ao41 x239004_18.length co41, .bool x239005_18, .bool x239006_18, .bool x239007_18] 29 (0, 0))) := ⟨h4_⟩
                  have n5_ : Aside0 (w45.heap[gb269]? = some (.cells #[.int .u64 0, .int .u64 0, .string (⟨#[]⟩ : ByteArray), .slice none 0 0, .slice none 0 0, .bool false, .bool false, .bool false] 29 (0, 0))) := ⟨h5_⟩
                  have n6_ : Aside0 (w.heap.size ≤ gb269) := ⟨h6_⟩
                  have n7_ : Aside0 (w.heap.size ≤ gb269) := ⟨h7_⟩
                  have n8_ : Aside0 (gb238 ≠ gb269) := ⟨h8_⟩
                  have n9_ : Aside0 (gb269 ≠ gb238) := ⟨h9_⟩
                  have n10_ : Aside0 (Below w.heap.size w w45) := ⟨h10_⟩
                  clear HO_239003
                  clear HO_239004
                  clear BK238
                  clear HB
                  clear h0_ h1_ h2_ h3_ h4_ h5_ h6_ h7_ h8_ h9_ h10_
                  have HO261 := n0_
                  have HO264 := n1_
                  have HO_239003 := n2_
                  have HO_239004 := n3_
                  have BK238 := n4_
                  have BK269 := n5_
                  have GW269 := n6_
                  have GE269 := n7_
                  have NB238_269 := n8_
                  have NB269_238 := n9_
                  have HB := n10_
                  clear n0_ n1_ n2_ n3_ n4_ n5_ n6_ n7_ n8_ n9_ n10_
                  have hHeld : w45.cell? ⟨gb238, 0, none⟩ = some (.int .u64 x239000_18) ∧ w45.cell? ⟨gb238, 1, none⟩ = some (.int .u64 x239001_18) ∧ w45.cell? ⟨gb238, 2, none⟩ = some (.string x239002_18) ∧ w45.cell? ⟨gb238, 3, none⟩ = some (.slice Ao40 x239003_18.length co40) ∧ w45.cell? ⟨gb238, 4, none⟩ = some (.slice Ao41 x239004_18.length co41) ∧ w45.cell? ⟨gb238, 5, none⟩ = some (.bool x239005_18) ∧ w45.cell? ⟨gb238, 6, none⟩ = some (.bool x239006_18) ∧ w45.cell? ⟨gb238, 7, none⟩ = some (.bool x239007_18) ∧ w45.cell? (ad241.add (x9_2).toNat) = some (.string (rdOf ByteArray.empty l0 x9_2)) := hS_
                  obtain ⟨Ao49, co49, eo49⟩ := Kd.V_slice HO261.out
                  (first | subst eo49 | (injection eo49 with f1_ f2_ f3_; have f4_ := f1_.symm; have f5_ := f3_.symm; clear f1_ f2_ f3_; subst f4_; subst f5_))
                  obtain ⟨Ao51, co51, eo51⟩ := Kd.V_slice HO264.out
                  (first | subst eo51 | (injection eo51 with f1_ f2_ f3_; have f4_ := f1_.symm; have f5_ := f3_.symm; clear f1_ f2_ f3_; subst f4_; subst f5_))
                  refine norm_ (a' := ?_) ?_ ?_
                  rotate_left
                  ·simp only [putAll, Act.put, List.setIfInBounds_toArray, List.set_cons_zero, List.set_cons_succ]
                   rfl
                  refine one_ (i := 11) (N := none) #[true,true,true,true,true,true,true,true,true,true,true,true,false] rfl rfl (one_of HT_.out (by kernel_rfl)) (by decide) (fun K hK => ?_)
                  have hs46 : w45.cell? ⟨gb269, 0, none⟩ = some (.int .u64 0) := (blk_cell BK269.out 0).trans rfl
                  have hfs46 := blk_frozen BK269.out 0
                  have hns46_0 := NB238_269.out
                  have hms46_0 := NB269_238.out
                  have hs47 : w45.cell? ⟨gb269, 1, none⟩ = some (.int .u64 0) := (blk_cell BK269.out 1).trans rfl
                  have hfs47 := blk_frozen BK269.out 1
                  have hns47_0 := NB238_269.out
                  have hms47_0 := NB269_238.out
                  have hs48 : w45.cell? ⟨gb269, 2, none⟩ = some (.string (⟨#[]⟩ : ByteArray)) := (blk_cell BK269.out 2).trans rfl
                  have hfs48 := blk_frozen BK269.out 2
                  have hns48_0 := NB238_269.out
                  have hms48_0 := NB269_238.out
                  have hs50 : w45.cell? ⟨gb269, 3, none⟩ = some (.slice none 0 0) := (blk_cell BK269.out 3).trans rfl
                  have hfs50 := blk_frozen BK269.out 3
                  have hns50_0 := NB238_269.out
                  have hms50_0 := NB269_238.out
                  have hs52 : w45.cell? ⟨gb269, 4, none⟩ = some (.slice none 0 0) := (blk_cell BK269.out 4).trans rfl
                  have hfs52 := blk_frozen BK269.out 4
                  have hns52_0 := NB238_269.out
                  have hms52_0 := NB269_238.out
                  have hs53 : w45.cell? ⟨gb269, 5, none⟩ = some (.bool false) := (blk_cell BK269.out 5).trans rfl
                  have hfs53 := blk_frozen BK269.out 5
                  have hns53_0 := NB238_269.out
                  have hms53_0 := NB269_238.out
                  have hs54 : w45.cell? ⟨gb269, 6, none⟩ = some (.bool false) := (blk_cell BK269.out 6).trans rfl
                  have hfs54 := blk_frozen BK269.out 6
                  have hns54_0 := NB238_269.out
                  have hms54_0 := NB269_238.out
                  have hs55 : w45.cell? ⟨gb269, 7, none⟩ = some (.bool false) := (blk_cell BK269.out 7).trans rfl
                  have hfs55 := blk_frozen BK269.out 7
                  have hns55_0 := NB238_269.out
                  have hms55_0 := NB269_238.out
                  refine skip_ (w1 := ?_) (by rfl) rfl ?_ ?_
                  rotate_left
                  ·go_simp
                   rfl
                  refine hK.out _ _ ⟨((cell_far (p := ⟨gb269, _, none⟩) NB238_269.out _).trans (((cell_far (p := ⟨gb269, _, none⟩) NB238_269.out _).trans (((cell_far (p := ⟨gb269, _, none⟩) NB238_269.out _).trans (((cell_far (p := ⟨gb269, _, none⟩) NB238_269.out _).trans (((cell_far (p := ⟨gb269, _, none⟩) NB238_269.out _).trans (((cell_far (p := ⟨gb269, _, none⟩) NB238_269.out _).trans (((cell_far (p := ⟨gb269, _, none⟩) NB238_269.out _).trans (((cell_far (p := ⟨gb269, _, none⟩) NB238_269.out _).trans (hHeld.1)))))))))))))))), ((cell_far (p := ⟨gb269, _, none⟩) NB238_269.out _).trans (((cell_far (p := ⟨gb269, _, none⟩) NB238_269.out _).trans (((cell_far (p := ⟨gb269, _, none⟩) NB238_269.out _).trans (((cell_far (p := ⟨gb269, _, none⟩) NB238_269.out _).trans (((cell_far (p := ⟨gb269, _, none⟩) NB238_269.out _).trans (((cell_far (p := ⟨gb269, _, none⟩) NB238_269.out _).trans (((cell_far (p := ⟨gb269, _, none⟩) NB238_269.out _).trans (((cell_far (p := ⟨gb269, _, none⟩) NB238_269.out _).trans (hHeld.2.1)))))))))))))))), ((cell_far (p := ⟨gb269, _, none⟩) NB238_269.out _).trans (((cell_far (p := ⟨gb269, _, none⟩) NB238_269.out _).trans (((cell_far (p := ⟨gb269, _, none⟩) NB238_269.out _).trans (((cell_far (p := ⟨gb269, _, none⟩) NB238_269.out _).trans (((cell_far (p := ⟨gb269, _, none⟩) NB238_269.out _).trans (((cell_far (p := ⟨gb269, _, none⟩) NB238_269.out _).trans (((cell_far (p := ⟨gb269, _, none⟩) NB238_269.out _).trans (((cell_far (p := ⟨gb269, _, none⟩) NB238_269.out _).trans (hHeld.2.2.1)))))))))))))))), ((cell_far (p := ⟨gb269, _, none⟩) NB238_269.out _).trans (((cell_far (p := ⟨gb269, _, none⟩) NB238_269.out _).trans (((cell_far (p := ⟨gb269, _, none⟩) NB238_269.out _).trans (((cell_far (p := ⟨gb269, _, none⟩) NB238_269.out _).trans (((cell_far (p := ⟨gb269, _, none⟩) NB238_269.out _).trans (((cell_far (p := ⟨gb269, _, none⟩) NB238_269.out _).trans (((cell_far (p := ⟨gb269, _, none⟩) NB238_269.out _).trans (((cell_far (p := ⟨gb269, _, none⟩) NB238_269.out _).trans (hHeld.2.2.2.1)))))))))))))))), ((cell_far (p := ⟨gb269, _, none⟩) NB238_269.out _).trans (((cell_far (p := ⟨gb269, _, none⟩) NB238_269.out _).trans (((cell_far (p := ⟨gb269, _, none⟩) NB238_269.out _).trans (((cell_far (p := ⟨gb269, _, none⟩) NB238_269.out _).trans (((cell_far (p := ⟨gb269, _, none⟩) NB238_269.out _).trans (((cell_far (p := ⟨gb269, _, none⟩) NB238_269.out _).trans (((cell_far (p := ⟨gb269, _, none⟩) NB238_269.out _).trans (((cell_far (p := ⟨gb269, _, none⟩) NB238_269.out _).trans (hHeld.2.2.2.2.1)))))))))))))))), ((cell_far (p := ⟨gb269, _, none⟩) NB238_269.out _).trans (((cell_far (p := ⟨gb269, _, none⟩) NB238_269.out _).trans (((cell_far (p := ⟨gb269, _, none⟩) NB238_269.out _).trans (((cell_far (p := ⟨gb269, _, none⟩) NB238_269.out _).trans (((cell_far (p := ⟨gb269, _, none⟩) NB238_269.out _).trans (((cell_far (p := ⟨gb269, _, none⟩) NB238_269.out _).trans (((cell_far (p := ⟨gb269, _, none⟩) NB238_269.out _).trans (((cell_far (p := ⟨gb269, _, none⟩) NB238_269.out _).trans (hHeld.2.2.2.2.2.1)))))))))))))))), ((cell_far (p := ⟨gb269, _, none⟩) NB238_269.out _).trans (((cell_far (p := ⟨gb269, _, none⟩) NB238_269.out _).trans (((cell_far (p := ⟨gb269, _, none⟩) NB238_269.out _).trans (((cell_far (p := ⟨gb269, _, none⟩) NB238_269.out _).trans (((cell_far (p := ⟨gb269, _, none⟩) NB238_269.out _).trans (((cell_far (p := ⟨gb269, _, none⟩) NB238_269.out _).trans (((cell_far (p := ⟨gb269, _, none⟩) NB238_269.out _).trans (((cell_far (p := ⟨gb269, _, none⟩) NB238_269.out _).trans (hHeld.2.2.2.2.2.2.1)))))))))))))))), ((cell_far (p := ⟨gb269, _, none⟩) NB238_269.out _).trans (((cell_far (p := ⟨gb269, _, none⟩) NB238_269.out _).trans (((cell_far (p := ⟨gb269, _, none⟩) NB238_269.out _).trans (((cell_far (p := ⟨gb269, _, none⟩) NB238_269.out _).trans (((cell_far (p := ⟨gb269, _, none⟩) NB238_269.out _).trans (((cell_far (p := ⟨gb269, _, none⟩) NB238_269.out _).trans (((cell_far (p := ⟨gb269, _, none⟩) NB238_269.out _).trans (((cell_far (p := ⟨gb269, _, none⟩) NB238_269.out _).trans (hHeld.2.2.2.2.2.2.2.1)))))))))))))))), ((far_ hw255_0 GW269.out _).trans (((far_ hw255_0 GW269.out _).trans (((far_ hw255_0 GW269.out _).trans (((far_ hw255_0 GW269.out _).trans (((far_ hw255_0 GW269.out _).trans (((far_ hw255_0 GW269.out _).trans (((far_ hw255_0 GW269.out _).trans (((far_ hw255_0 GW269.out _).trans (hHeld.2.2.2.2.2.2.2.2))))))))))))))))⟩ (fun hHeld => ?_)
                  clear hK K
                  refine pure_ (i := 12) (N := some 11) (v := ?_) (a' := ?_) #[true,true,true,true,true,true,true,true,true,true,true,true,true] rfl rfl (any_of HT_.out (by kernel_rfl)) (fun _ _ _ h => h) (Or.inl ⟨by rfl, ?_⟩) ?_ ?_
                  rotate_left;(intro w';go_simp;with_reducible rfl);rotate_left;(simp only [Act.put, List.setIfInBounds_toArray, List.set_cons_zero, List.set_cons_succ, i64_w, i32_w];rfl)
                  refine done_ (done_of HT_.out (by kernel_rfl)) ?_
                  have p270 : 0 ≤ (x9_2 : Int) := of_decide_eq_true (by first | (with_reducible assumption) | assumption)
                  have q270 : x9_2 < (l0.length : Int) := of_decide_eq_true (by first | (with_reducible assumption) | assumption)
                  obtain ⟨ad270, e270, hx270_0⟩ := Kd.at_string HR0.out x9_2 p270 q270
                  obtain rfl : ad241 = ad270 := (by injection e270)
                  have hn270_0 : ad241.block ≠ gb269 := Nat.ne_of_lt (Nat.lt_of_lt_of_le (by have := World.block_lt_of_cell? _ _ hx270_0; first | rwa [add_block] at this | exact this) GW269.out)
                  have hn270_1 : ad241.block ≠ gb269 := Nat.ne_of_lt (Nat.lt_of_lt_of_le (by have := World.block_lt_of_cell? _ _ hx270_0; first | rwa [add_block] at this | exact this) GW269.out)
                  have hn270_2 : ad241.block ≠ gb269 := Nat.ne_of_lt (Nat.lt_of_lt_of_le (by have := World.block_lt_of_cell? _ _ hx270_0; first | rwa [add_block] at this | exact this) GW269.out)
                  have hn270_3 : ad241.block ≠ gb269 := Nat.ne_of_lt (Nat.lt_of_lt_of_le (by have := World.block_lt_of_cell? _ _ hx270_0; first | rwa [add_block] at this | exact this) GW269.out)
                  have hn270_4 : ad241.block ≠ gb269 := Nat.ne_of_lt (Nat.lt_of_lt_of_le (by have := World.block_lt_of_cell? _ _ hx270_0; first | rwa [add_block] at this | exact this) GW269.out)
                  have hn270_5 : ad241.block ≠ gb269 := Nat.ne_of_lt (Nat.lt_of_lt_of_le (by have := World.block_lt_of_cell? _ _ hx270_0; first | rwa [add_block] at this | exact this) GW269.out)
                  have hn270_6 : ad241.block ≠ gb269 := Nat.ne_of_lt (Nat.lt_of_lt_of_le (by have := World.block_lt_of_cell? _ _ hx270_0; first | rwa [add_block] at this | exact this) GW269.out)
                  have hn270_7 : ad241.block ≠ gb269 := Nat.ne_of_lt (Nat.lt_of_lt_of_le (by have := World.block_lt_of_cell? _ _ hx270_0; first | rwa [add_block] at this | exact this) GW269.out)
                  replace hx270_0 := (HB.out.cell (World.block_lt_of_cell? w _ hx270_0)).trans hx270_0
                  replace hx270_0 := (cell_far (p := ⟨gb269, 0, none⟩) (by first | (rw [add_block]; exact hn270_0) | (show (Addr.add _ _).block ≠ _; rw [add_block]; exact hn270_0) | exact hn270_0) (.int .u64 t256)).trans hx270_0
                  replace hx270_0 := (cell_far (p := ⟨gb269, 1, none⟩) (by first | (rw [add_block]; exact hn270_1) | (show (Addr.add _ _).block ≠ _; rw [add_block]; exact hn270_1) | exact hn270_1) (.int .u64 t257)).trans hx270_0
                  replace hx270_0 := (cell_far (p := ⟨gb269, 2, none⟩) (by first | (rw [add_block]; exact hn270_2) | (show (Addr.add _ _).block ≠ _; rw [add_block]; exact hn270_2) | exact hn270_2) (.string t258)).trans hx270_0
                  replace hx270_0 := (cell_far (p := ⟨gb269, 3, none⟩) (by first | (rw [add_block]; exact hn270_3) | (show (Addr.add _ _).block ≠ _; rw [add_block]; exact hn270_3) | exact hn270_3) (.slice Ao49 t259.length co49)).trans hx270_0
                  replace hx270_0 := (cell_far (p := ⟨gb269, 4, none⟩) (by first | (rw [add_block]; exact hn270_4) | (show (Addr.add _ _).block ≠ _; rw [add_block]; exact hn270_4) | exact hn270_4) (.slice Ao51 t262.length co51)).trans hx270_0
                  replace hx270_0 := (cell_far (p := ⟨gb269, 5, none⟩) (by first | (rw [add_block]; exact hn270_5) | (show (Addr.add _ _).block ≠ _; rw [add_block]; exact hn270_5) | exact hn270_5) (.bool t265)).trans hx270_0
                  replace hx270_0 := (cell_far (p := ⟨gb269, 6, none⟩) (by first | (rw [add_block]; exact hn270_6) | (show (Addr.add _ _).block ≠ _; rw [add_block]; exact hn270_6) | exact hn270_6) (.bool t266)).trans hx270_0
                  replace hx270_0 := (cell_far (p := ⟨gb269, 7, none⟩) (by first | (rw [add_block]; exact hn270_7) | (show (Addr.add _ _).block ≠ _; rw [add_block]; exact hn270_7) | exact hn270_7) (.bool t267)).trans hx270_0
                  clear hn270_0
                  clear hn270_1
                  clear hn270_2
                  clear hn270_3
                  clear hn270_4
                  clear hn270_5
                  clear hn270_6
                  clear hn270_7
                  replace p270 := eq_true p270
                  replace q270 := eq_true q270
                  have p271 : 0 ≤ (x9_2 : Int) := of_decide_eq_true (by first | (with_reducible assumption) | assumption)
                  have q271 : x9_2 < (l0.length : Int) := of_decide_eq_true (by first | (with_reducible assumption) | assumption)
                  obtain ⟨ad271, e271, hx271_0⟩ := Kd.at_string HR0.out x9_2 p271 q271
                  obtain rfl : ad241 = ad271 := (by injection e271)
                  have hn271_0 : ad241.block ≠ gb269 := Nat.ne_of_lt (Nat.lt_of_lt_of_le (by have := World.block_lt_of_cell? _ _ hx271_0; first | rwa [add_block] at this | exact this) GW269.out)
                  have hn271_1 : ad241.block ≠ gb269 := Nat.ne_of_lt (Nat.lt_of_lt_of_le (by have := World.block_lt_of_cell? _ _ hx271_0; first | rwa [add_block] at this | exact this) GW269.out)
                  have hn271_2 : ad241.block ≠ gb269 := Nat.ne_of_lt (Nat.lt_of_lt_of_le (by have := World.block_lt_of_cell? _ _ hx271_0; first | rwa [add_block] at this | exact this) GW269.out)
                  have hn271_3 : ad241.block ≠ gb269 := Nat.ne_of_lt (Nat.lt_of_lt_of_le (by have := World.block_lt_of_cell? _ _ hx271_0; first | rwa [add_block] at this | exact this) GW269.out)
                  have hn271_4 : ad241.block ≠ gb269 := Nat.ne_of_lt (Nat.lt_of_lt_of_le (by have := World.block_lt_of_cell? _ _ hx271_0; first | rwa [add_block] at this | exact this) GW269.out)
                  have hn271_5 : ad241.block ≠ gb269 := Nat.ne_of_lt (Nat.lt_of_lt_of_le (by have := World.block_lt_of_cell? _ _ hx271_0; first | rwa [add_block] at this | exact this) GW269.out)
                  have hn271_6 : ad241.block ≠ gb269 := Nat.ne_of_lt (Nat.lt_of_lt_of_le (by have := World.block_lt_of_cell? _ _ hx271_0; first | rwa [add_block] at this | exact this) GW269.out)
                  have hn271_7 : ad241.block ≠ gb269 := Nat.ne_of_lt (Nat.lt_of_lt_of_le (by have := World.block_lt_of_cell? _ _ hx271_0; first | rwa [add_block] at this | exact this) GW269.out)
                  replace hx271_0 := (HB.out.cell (World.block_lt_of_cell? w _ hx271_0)).trans hx271_0
                  replace hx271_0 := (cell_far (p := ⟨gb269, 0, none⟩) (by first | (rw [add_block]; exact hn271_0) | (show (Addr.add _ _).block ≠ _; rw [add_block]; exact hn271_0) | exact hn271_0) (.int .u64 t256)).trans hx271_0
                  replace hx271_0 := (cell_far (p := ⟨gb269, 1, none⟩) (by first | (rw [add_block]; exact hn271_1) | (show (Addr.add _ _).block ≠ _; rw [add_block]; exact hn271_1) | exact hn271_1) (.int .u64 t257)).trans hx271_0
                  replace hx271_0 := (cell_far (p := ⟨gb269, 2, none⟩) (by first | (rw [add_block]; exact hn271_2) | (show (Addr.add _ _).block ≠ _; rw [add_block]; exact hn271_2) | exact hn271_2) (.string t258)).trans hx271_0
                  replace hx271_0 := (cell_far (p := ⟨gb269, 3, none⟩) (by first | (rw [add_block]; exact hn271_3) | (show (Addr.add _ _).block ≠ _; rw [add_block]; exact hn271_3) | exact hn271_3) (.slice Ao49 t259.length co49)).trans hx271_0
                  replace hx271_0 := (cell_far (p := ⟨gb269, 4, none⟩) (by first | (rw [add_block]; exact hn271_4) | (show (Addr.add _ _).block ≠ _; rw [add_block]; exact hn271_4) | exact hn271_4) (.slice Ao51 t262.length co51)).trans hx271_0
                  replace hx271_0 := (cell_far (p := ⟨gb269, 5, none⟩) (by first | (rw [add_block]; exact hn271_5) | (show (Addr.add _ _).block ≠ _; rw [add_block]; exact hn271_5) | exact hn271_5) (.bool t265)).trans hx271_0
                  replace hx271_0 := (cell_far (p := ⟨gb269, 6, none⟩) (by first | (rw [add_block]; exact hn271_6) | (show (Addr.add _ _).block ≠ _; rw [add_block]; exact hn271_6) | exact hn271_6) (.bool t266)).trans hx271_0
                  replace hx271_0 := (cell_far (p := ⟨gb269, 7, none⟩) (by first | (rw [add_block]; exact hn271_7) | (show (Addr.add _ _).block ≠ _; rw [add_block]; exact hn271_7) | exact hn271_7) (.bool t267)).trans hx271_0
                  clear hn271_0
                  clear hn271_1
                  clear hn271_2
                  clear hn271_3
                  clear hn271_4
                  clear hn271_5
                  clear hn271_6
                  clear hn271_7
                  replace p271 := eq_true p271
                  replace q271 := eq_true q271
                  have hnb56 := NB269_238.out
                  have hnc56 := NB238_269.out
                  have hcz57_0 : w45.cell? ⟨gb269, 0, none⟩ = some (.int .u64 0) := (blk_cell BK269.out 0).trans rfl
                  have hcz57_1 : w45.cell? ⟨gb269, 1, none⟩ = some (.int .u64 0) := (blk_cell BK269.out 1).trans rfl
                  have hcz57_2 : w45.cell? ⟨gb269, 2, none⟩ = some (.string (⟨#[]⟩ : ByteArray)) := (blk_cell BK269.out 2).trans rfl
                  have hcz57_3 : w45.cell? ⟨gb269, 3, none⟩ = some (.slice none 0 0) := (blk_cell BK269.out 3).trans rfl
                  have hcz57_4 : w45.cell? ⟨gb269, 4, none⟩ = some (.slice none 0 0) := (blk_cell BK269.out 4).trans rfl
                  have hcz57_5 : w45.cell? ⟨gb269, 5, none⟩ = some (.bool false) := (blk_cell BK269.out 5).trans rfl
                  have hcz57_6 : w45.cell? ⟨gb269, 6, none⟩ = some (.bool false) := (blk_cell BK269.out 6).trans rfl
                  have hcz57_7 : w45.cell? ⟨gb269, 7, none⟩ = some (.bool false) := (blk_cell BK269.out 7).trans rfl
                  have hfz57_0 := blk_frozen BK269.out 0
                  have hfz57_1 := blk_frozen BK269.out 1
                  have hfz57_2 := blk_frozen BK269.out 2
                  have hfz57_3 := blk_frozen BK269.out 3
                  have hfz57_4 := blk_frozen BK269.out 4
                  have hfz57_5 := blk_frozen BK269.out 5
                  have hfz57_6 := blk_frozen BK269.out 6
                  have hfz57_7 := blk_frozen BK269.out 7
                  have hcz58_0 : w45.cell? ⟨gb238, 0, none⟩ = some (.int .u64 x239000_18) := (blk_cell BK238.out 0).trans rfl
                  have hcz58_1 : w45.cell? ⟨gb238, 1, none⟩ = some (.int .u64 x239001_18) := (blk_cell BK238.out 1).trans rfl
                  have hcz58_2 : w45.cell? ⟨gb238, 2, none⟩ = some (.string x239002_18) := (blk_cell BK238.out 2).trans rfl
                  have hcz58_3 : w45.cell? ⟨gb238, 3, none⟩ = some (.slice Ao40 x239003_18.length co40) := (blk_cell BK238.out 3).trans rfl
                  have hcz58_4 : w45.cell? ⟨gb238, 4, none⟩ = some (.slice Ao41 x239004_18.length co41) := (blk_cell BK238.out 4).trans rfl
                  have hcz58_5 : w45.cell? ⟨gb238, 5, none⟩ = some (.bool x239005_18) := (blk_cell BK238.out 5).trans rfl
                  have hcz58_6 : w45.cell? ⟨gb238, 6, none⟩ = some (.bool x239006_18) := (blk_cell BK238.out 6).trans rfl
                  have hcz58_7 : w45.cell? ⟨gb238, 7, none⟩ = some (.bool x239007_18) := (blk_cell BK238.out 7).trans rfl
                  have hfz58_0 := blk_frozen BK238.out 0
                  have hfz58_1 := blk_frozen BK238.out 1
                  have hfz58_2 := blk_frozen BK238.out 2
                  have hfz58_3 := blk_frozen BK238.out 3
                  have hfz58_4 := blk_frozen BK238.out 4
                  have hfz58_5 := blk_frozen BK238.out 5
                  have hfz58_6 := blk_frozen BK238.out 6
                  have hfz58_7 := blk_frozen BK238.out 7
                  try go_wp2
                  go_roundg kj18
                  case measure => have := HJ3.out; have := HK2.out; have := HJ18.out; omega
                  case rel => exact ⟨(x8_2 ++ ((rdOf ByteArray.empty l0 x9_2).extract 0 (t268 : Int).toNat)), (wrap64 (x9_2 + 1)), (t256), (t257), (t258), (t259), (t262), (t265), (t266), (t267), (.slice Ao49 t259.length co49), (.slice Ao51 t262.length co51), (by first | rfl | (simp; done) | (simp [*]; done)), (by first | rfl | (simp; done) | (simp [*]; done)), H', ⟨by have := HJ3.out; have := HK2.out; have := HJ18.out; omega⟩, ⟨by (with_reducible repeat (first | apply Kd.V_alloc | apply Kd.V_drewN | apply Kd.V_drew)); exact Kd.V_mono (Kd.V_far (p := ⟨gb238, 7, none⟩) (Kd.V_far (p := ⟨gb238, 6, none⟩) (Kd.V_far (p := ⟨gb238, 5, none⟩) (Kd.V_far (p := ⟨gb238, 4, none⟩) (Kd.V_far (p := ⟨gb238, 3, none⟩) (Kd.V_far (p := ⟨gb238, 2, none⟩) (Kd.V_far (p := ⟨gb238, 1, none⟩) (Kd.V_far (p := ⟨gb238, 0, none⟩) (Kd.V_far (p := ⟨gb269, 7, none⟩) (Kd.V_far (p := ⟨gb269, 6, none⟩) (Kd.V_far (p := ⟨gb269, 5, none⟩) (Kd.V_far (p := ⟨gb269, 4, none⟩) (Kd.V_far (p := ⟨gb269, 3, none⟩) (Kd.V_far (p := ⟨gb269, 2, none⟩) (Kd.V_far (p := ⟨gb269, 1, none⟩) (Kd.V_far (p := ⟨gb269, 0, none⟩) (Kd.V_mono (Kd.V_mono HO261.out (fun k_ hk => (⟨hk, hk.2⟩ : _ ∧ k_ ≠ gb269))) (fun k_ hk => (⟨hk, hk.1.1⟩ : _ ∧ k_ ≠ gb238))) (fun _ hk => hk.1.2) (.int .u64 t256)) (fun _ hk => hk.1.2) (.int .u64 t257)) (fun _ hk => hk.1.2) (.string t258)) (fun _ hk => hk.1.2) (.slice Ao49 t259.length co49)) (fun _ hk => hk.1.2) (.slice Ao51 t262.length co51)) (fun _ hk => hk.1.2) (.bool t265)) (fun _ hk => hk.1.2) (.bool t266)) (fun _ hk => hk.1.2) (.bool t267)) (fun _ hk => hk.2) (.int .u64 t256)) (fun _ hk => hk.2) (.int .u64 t257)) (fun _ hk => hk.2) (.string t258)) (fun _ hk => hk.2) (.slice Ao49 t259.length co49)) (fun _ hk => hk.2) (.slice Ao51 t262.length co51)) (fun _ hk => hk.2) (.bool t265)) (fun _ hk => hk.2) (.bool t266)) (fun _ hk => hk.2) (.bool t267)) (fun _ hk => hk.1.1.1)⟩, ⟨by (with_reducible repeat (first | apply Kd.V_alloc | apply Kd.V_drewN | apply Kd.V_drew)); exact Kd.V_mono (Kd.V_far (p := ⟨gb238, 7, none⟩) (Kd.V_far (p := ⟨gb238, 6, none⟩) (Kd.V_far (p := ⟨gb238, 5, none⟩) (Kd.V_far (p := ⟨gb238, 4, none⟩) (Kd.V_far (p := ⟨gb238, 3, none⟩) (Kd.V_far (p := ⟨gb238, 2, none⟩) (Kd.V_far (p := ⟨gb238, 1, none⟩) (Kd.V_far (p := ⟨gb238, 0, none⟩) (Kd.V_far (p := ⟨gb269, 7, none⟩) (Kd.V_far (p := ⟨gb269, 6, none⟩) (Kd.V_far (p := ⟨gb269, 5, none⟩) (Kd.V_far (p := ⟨gb269, 4, none⟩) (Kd.V_far (p := ⟨gb269, 3, none⟩) (Kd.V_far (p := ⟨gb269, 2, none⟩) (Kd.V_far (p := ⟨gb269, 1, none⟩) (Kd.V_far (p := ⟨gb269, 0, none⟩) (Kd.V_mono (Kd.V_mono HO264.out (fun k_ hk => (⟨hk, hk.2⟩ : _ ∧ k_ ≠ gb269))) (fun k_ hk => (⟨hk, hk.1.1⟩ : _ ∧ k_ ≠ gb238))) (fun _ hk => hk.1.2) (.int .u64 t256)) (fun _ hk => hk.1.2) (.int .u64 t257)) (fun _ hk => hk.1.2) (.string t258)) (fun _ hk => hk.1.2) (.slice Ao49 t259.length co49)) (fun _ hk => hk.1.2) (.slice Ao51 t262.length co51)) (fun _ hk => hk.1.2) (.bool t265)) (fun _ hk => hk.1.2) (.bool t266)) (fun _ hk => hk.1.2) (.bool t267)) (fun _ hk => hk.2) (.int .u64 t256)) (fun _ hk => hk.2) (.int .u64 t257)) (fun _ hk => hk.2) (.string t258)) (fun _ hk => hk.2) (.slice Ao49 t259.length co49)) (fun _ hk => hk.2) (.slice Ao51 t262.length co51)) (fun _ hk => hk.2) (.bool t265)) (fun _ hk => hk.2) (.bool t266)) (fun _ hk => hk.2) (.bool t267)) (fun _ hk => hk.1.1.1)⟩, ⟨by (with_reducible repeat (first | refine blk_drewN ?_ _ | refine blk_drew ?_ | refine blk_alloc ?_ _)); refine blk_put (cs := #[.int .u64 t256, .int .u64 t257, .string t258, .slice Ao49 t259.length co49, .slice Ao51 t262.length co51, .bool t265, .bool t266, .bool x239007_18]) ?_ 7 _ rfl; (with_reducible repeat (first | refine blk_drewN ?_ _ | refine blk_drew ?_ | refine blk_alloc ?_ _)); refine blk_put (cs := #[.int .u64 t256, .int .u64 t257, .string t258, .slice Ao49 t259.length co49, .slice Ao51 t262.length co51, .bool t265, .bool x239006_18, .bool x239007_18]) ?_ 6 _ rfl; (with_reducible repeat (first | refine blk_drewN ?_ _ | refine blk_drew ?_ | refine blk_alloc ?_ _)); refine blk_put (cs := #[.int .u64 t256, .int .u64 t257, .string t258, .slice Ao49 t259.length co49, .slice Ao51 t262.length co51, .bool x239005_18, .bool x239006_18, .bool x239007_18]) ?_ 5 _ rfl; (with_reducible repeat (first | refine blk_drewN ?_ _ | refine blk_drew ?_ | refine blk_alloc ?_ _)); refine blk_put (cs := #[.int .u64 t256, .int .u64 t257, .string t258, .slice Ao49 t259.length co49, .slice Ao41 x239004_18.length co41, .bool x239005_18, .bool x239006_18, .bool x239007_18]) ?_ 4 _ rfl; (with_reducible repeat (first | refine blk_drewN ?_ _ | refine blk_drew ?_ | refine blk_alloc ?_ _)); refine blk_put (cs := #[.int .u64 t256, .int .u64 t257, .string t258, .slice Ao40 x239003_18.length co40, .slice Ao41 x239004_18.length co41, .bool x239005_18, .bool x239006_18, .bool x239007_18]) ?_ 3 _ rfl; (with_reducible repeat (first | refine blk_drewN ?_ _ | refine blk_drew ?_ | refine blk_alloc ?_ _)); refine blk_put (cs := #[.int .u64 t256, .int .u64 t257, .string x239002_18, .slice Ao40 x239003_18.length co40, .slice Ao41 x239004_18.length co41, .bool x239005_18, .bool x239006_18, .bool x239007_18]) ?_ 2 _ rfl; (with_reducible repeat (first | refine blk_drewN ?_ _ | refine blk_drew ?_ | refine blk_alloc ?_ _)); refine blk_put (cs := #[.int .u64 t256, .int .u64 x239001_18, .string x239002_18, .slice Ao40 x239003_18.length co40, .slice Ao41 x239004_18.length co41, .bool x239005_18, .bool x239006_18, .bool x239007_18]) ?_ 1 _ rfl; (with_reducible repeat (first | refine blk_drewN ?_ _ | refine blk_drew ?_ | refine blk_alloc ?_ _)); refine blk_put (cs := #[.int .u64 x239000_18, .int .u64 x239001_18, .string x239002_18, .slice Ao40 x239003_18.length co40, .slice Ao41 x239004_18.length co41, .bool x239005_18, .bool x239006_18, .bool x239007_18]) ?_ 0 _ rfl; (with_reducible repeat (first | refine blk_drewN ?_ _ | refine blk_drew ?_ | refine blk_alloc ?_ _)); refine blk_far ?_ NB238_269.out _; (with_reducible repeat (first | refine blk_drewN ?_ _ | refine blk_drew ?_ | refine blk_alloc ?_ _)); refine blk_far ?_ NB238_269.out _; (with_reducible repeat (first | refine blk_drewN ?_ _ | refine blk_drew ?_ | refine blk_alloc ?_ _)); refine blk_far ?_ NB238_269.out _; (with_reducible repeat (first | refine blk_drewN ?_ _ | refine blk_drew ?_ | refine blk_alloc ?_ _)); refine blk_far ?_ NB238_269.out _; (with_reducible repeat (first | refine blk_drewN ?_ _ | refine blk_drew ?_ | refine blk_alloc ?_ _)); refine blk_far ?_ NB238_269.out _; (with_reducible repeat (first | refine blk_drewN ?_ _ | refine blk_drew ?_ | refine blk_alloc ?_ _)); refine blk_far ?_ NB238_269.out _; (with_reducible repeat (first | refine blk_drewN ?_ _ | refine blk_drew ?_ | refine blk_alloc ?_ _)); refine blk_far ?_ NB238_269.out _; (with_reducible repeat (first | refine blk_drewN ?_ _ | refine blk_drew ?_ | refine blk_alloc ?_ _)); refine blk_far ?_ NB238_269.out _; (with_reducible repeat (first | refine blk_drewN ?_ _ | refine blk_drew ?_ | refine blk_alloc ?_ _)); exact BK238.out⟩, ⟨by repeat (first | (with_reducible first | exact HB.out | apply below_alloc | apply pw_below_drewN | apply below_drew1 | refine below_set ?_ GE238.out | refine below_set ?_ GE269.out) | exact HB.out)⟩⟩
                 ·rw [if_neg c39] at H
                  exact absurd H (by simp)
                ·rw [if_neg c38] at H
                 exact absurd H (by simp)
               ·rw [if_neg c37] at H
                exact absurd H (by simp)
              ·rw [if_neg c36] at H
               exact absurd H (by simp)
             ·rw [if_neg c35] at H
              have c35b0 : decide ((wrap64 (a2)) ≤ x9_2) = false := decide_eq_false c35
              clear c35
              by_cases c59 : t268 = (ji34)
              ·rw [if_pos c59] at H
               have c59b0 : (t268 == (ji34)) = true := beq_iff_eq.mpr c59
               have c59b1 : (t268 != (ji34)) = false := bne_eq_false_iff_eq.mpr c59
               clear c59
               by_cases c60 : 0 ≤ t268
               ·rw [if_pos c60] at H
                have c60b0 := eq_true c60
                have c60b1 : decide (0 ≤ t268) = true := decide_eq_true c60
                clear c60
                by_cases c61 : t268 ≤ ((rdOf ByteArray.empty l0 x9_2).size : Int)
                ·rw [if_pos c61] at H
                 have c61b0 := eq_true c61
                 have c61b1 : decide (t268 ≤ ((rdOf ByteArray.empty l0 x9_2).size : Int)) = true := decide_eq_true c61
                 clear c61
                 by_cases c62 : x8_2.size + ((rdOf ByteArray.empty l0 x9_2).extract 0 (t268 : Int).toNat).size ≤ 9223372036854775807
                 ·rw [if_pos c62] at H
                  have c62b0 := eq_true c62
                  have c62b1 : decide (x8_2.size + ((rdOf ByteArray.empty l0 x9_2).extract 0 (t268 : Int).toNat).size ≤ 9223372036854775807) = true := decide_eq_true c62
                  try have c62b2 : (9223372036854775807 < x8_2.size + ((rdOf ByteArray.empty l0 x9_2).extract 0 (t268 : Int).toNat).size) = False := eq_false (Nat.not_lt.2 c62)
                  have H' := Aside0.mk H
                  clear H
                  obtain ⟨Ao63, co63, eo63⟩ := Kd.V_slice HO_239003.out
                  subst eo63
                  obtain ⟨Ao64, co64, eo64⟩ := Kd.V_slice HO_239004.out
                  subst eo64
                  try go_wp2
                  have n0_ := Aside0.mk (Kd.V_drew HO_239003.out)
                  have n1_ := Aside0.mk (Kd.V_drew HO_239004.out)
                  have n2_ := Aside0.mk (blk_drew BK238.out)
                  have n3_ := Aside0.mk (below_drew1 HB.out)
                  clear HO_239003
                  clear HO_239004
                  clear BK238
                  clear HB
                  have HO_239003 := n0_
                  have HO_239004 := n1_
                  have BK238 := n2_
                  have HB := n3_
                  clear n0_ n1_ n2_ n3_
                  have p255 : 0 ≤ (x9_2 : Int) := of_decide_eq_true (by first | (with_reducible assumption) | assumption)
                  have q255 : x9_2 < (l0.length : Int) := of_decide_eq_true (by first | (with_reducible assumption) | assumption)
                  obtain ⟨ad255, e255, hx255_0⟩ := Kd.at_string HR0.out x9_2 p255 q255
                  have hw255_0 := hx255_0
                  obtain rfl : ad241 = ad255 := (by injection e255)
                  replace hx255_0 := (HB.out.cell (World.block_lt_of_cell? w _ hx255_0)).trans hx255_0
                  replace p255 := eq_true p255
                  replace q255 := eq_true q255
                  refine start_ (n := 13) (S := fun w' => w'.cell? ⟨gb238, 0, none⟩ = some (.int .u64 x239000_18) ∧ w'.cell? ⟨gb238, 1, none⟩ = some (.int .u64 x239001_18) ∧ w'.cell? ⟨gb238, 2, none⟩ = some (.string x239002_18) ∧ w'.cell? ⟨gb238, 3, none⟩ = some (.slice Ao63 x239003_18.length co63) ∧ w'.cell? ⟨gb238, 4, none⟩ = some (.slice Ao64 x239004_18.length co64) ∧ w'.cell? ⟨gb238, 5, none⟩ = some (.bool x239005_18) ∧ w'.cell? ⟨gb238, 6, none⟩ = some (.bool x239006_18) ∧ w'.cell? ⟨gb238, 7, none⟩ = some (.bool x239007_18) ∧ w'.cell? (ad241.add (x9_2).toNat) = some (.string (rdOf ByteArray.empty l0 x9_2))) (ds := []) #[false,false,false,false,false,false,false,false,false,false,false,false,false] (by kernel_rfl) rfl rfl ⟨(blk_cell BK238.out 0).trans rfl, (blk_cell BK238.out 1).trans rfl, (blk_cell BK238.out 2).trans rfl, (blk_cell BK238.out 3).trans rfl, (blk_cell BK238.out 4).trans rfl, (blk_cell BK238.out 5).trans rfl, (blk_cell BK238.out 6).trans rfl, (blk_cell BK238.out 7).trans rfl, (up_ HB.out hw255_0)⟩ (fun hHeld => ?_); refine with_tabW dominolaw15_SendqWrites.tab12 dominolaw15_SendqWrites.bits12 (fun HT_ HW_ => ?_)
                  generalize wc.drew = w65 at HO_239003 HO_239004 BK238 HB hx255_0 hHeld ⊢
                  refine pure_ (i := 1) (N := some 47) (v := ?_) (a' := ?_) #[false,true,false,false,false,false,false,false,false,false,false,false,false] rfl rfl (any_of HT_.out (by kernel_rfl)) (fun _ _ _ h => h) (Or.inl ⟨by rfl, ?_⟩) ?_ ?_
                  rotate_left;(intro w';go_simp;with_reducible rfl);rotate_left;(simp only [Act.put, List.setIfInBounds_toArray, List.set_cons_zero, List.set_cons_succ, i64_w, i32_w];rfl)
                  refine pure_ (i := 2) (N := some 48) (v := ?_) (a' := ?_) #[false,true,true,false,false,false,false,false,false,false,false,false,false] rfl rfl (any_of HT_.out (by kernel_rfl)) (fun _ _ _ h => h) (Or.inl ⟨by rfl, ?_⟩) ?_ ?_
                  rotate_left;(intro w';go_simp;with_reducible rfl);rotate_left;(simp only [Act.put, List.setIfInBounds_toArray, List.set_cons_zero, List.set_cons_succ, i64_w, i32_w];rfl)
                  refine pure_ (i := 3) (N := some 49) (v := ?_) (a' := ?_) #[false,true,true,true,false,false,false,false,false,false,false,false,false] rfl rfl (any_of HT_.out (by kernel_rfl)) (fun _ _ _ h => h) (Or.inl ⟨by rfl, ?_⟩) ?_ ?_
                  rotate_left;(intro w';go_simp;with_reducible rfl);rotate_left;(simp only [Act.put, List.setIfInBounds_toArray, List.set_cons_zero, List.set_cons_succ, i64_w, i32_w];rfl)
                  refine pure_ (i := 5) (N := some 51) (v := ?_) (a' := ?_) #[false,true,true,true,false,true,false,false,false,false,false,false,false] rfl rfl (any_of HT_.out (by kernel_rfl)) (fun _ _ _ h => h) (Or.inl ⟨by rfl, ?_⟩) ?_ ?_
                  rotate_left;(intro w';go_simp;with_reducible rfl);rotate_left;(simp only [Act.put, List.setIfInBounds_toArray, List.set_cons_zero, List.set_cons_succ, i64_w, i32_w];rfl)
                  refine take_ (i := 0) (N := some 46) (v := ?_) (a' := ?_) #[true,true,true,true,false,true,false,false,false,false,false,false,false] rfl rfl (take_ofW HT_.out HW_.out (by kernel_rfl)) (fun _ _ _ h => h) (Or.inl ⟨by rfl, ?_⟩) hHeld ?_ ?_
                  rotate_left
                  ·rintro w' ⟨s0, s1, s2, s3, s4, s5, s6, s7, s8⟩
                   go_simp
                   with_reducible rfl
                  rotate_left
                  ·simp only [Act.put, List.setIfInBounds_toArray, List.set_cons_zero, List.set_cons_succ, i64_w, i32_w]
                   rfl
                  refine take_ (i := 4) (N := some 50) (v := ?_) (a' := ?_) #[true,true,true,true,true,true,false,false,false,false,false,false,false] rfl rfl (take_ofW HT_.out HW_.out (by kernel_rfl)) (fun _ _ _ h => h) (Or.inl ⟨by rfl, ?_⟩) hHeld ?_ ?_
                  rotate_left
                  ·rintro w' ⟨s0, s1, s2, s3, s4, s5, s6, s7, s8⟩
                   go_simp
                   with_reducible rfl
                  rotate_left
                  ·simp only [Act.put, List.setIfInBounds_toArray, List.set_cons_zero, List.set_cons_succ, i64_w, i32_w]
                   rfl
                  refine join_ (σ := Value × Value × Nat) 2 #[true,true,true,true,true,true,true,true,true,true,true,false,false] (fun s_ => [(52, .tuple #[.agg #[.int .u64 t256, .int .u64 t257, .string t258, s_.1, s_.2.1, .bool t265, .bool t266, .bool t267], .int .i64 t268]), (10, .pointer (some ⟨s_.2.2, 0, none⟩)), (45, .tuple #[.agg #[.int .u64 t256, .int .u64 t257, .string t258, s_.1, s_.2.1, .bool t265, .bool t266, .bool t267], .int .i64 t268]), (53, .agg #[.int .u64 t256, .int .u64 t257, .string t258, s_.1, s_.2.1, .bool t265, .bool t266, .bool t267]), (54, .int .i64 t268)]) (fun s_ w' => (w'.cell? ⟨gb238, 0, none⟩ = some (.int .u64 x239000_18) ∧ w'.cell? ⟨gb238, 1, none⟩ = some (.int .u64 x239001_18) ∧ w'.cell? ⟨gb238, 2, none⟩ = some (.string x239002_18) ∧ w'.cell? ⟨gb238, 3, none⟩ = some (.slice Ao63 x239003_18.length co63) ∧ w'.cell? ⟨gb238, 4, none⟩ = some (.slice Ao64 x239004_18.length co64) ∧ w'.cell? ⟨gb238, 5, none⟩ = some (.bool x239005_18) ∧ w'.cell? ⟨gb238, 6, none⟩ = some (.bool x239006_18) ∧ w'.cell? ⟨gb238, 7, none⟩ = some (.bool x239007_18) ∧ w'.cell? (ad241.add (x9_2).toNat) = some (.string (rdOf ByteArray.empty l0 x9_2))) ∧ (Kd.V k67 67 w' w.heap.size (fun k_ => k_ ≠ gb238 ∧ k_ ≠ s_.2.2) s_.1 t259) ∧ (Kd.V k67 67 w' w.heap.size (fun k_ => k_ ≠ gb238 ∧ k_ ≠ s_.2.2) s_.2.1 t262) ∧ (Kd.V k67 67 w' w.heap.size (fun k_ => k_ ≠ gb238 ∧ k_ ≠ s_.2.2) (.slice Ao63 x239003_18.length co63) x239003_18) ∧ (Kd.V k67 67 w' w.heap.size (fun k_ => k_ ≠ gb238 ∧ k_ ≠ s_.2.2) (.slice Ao64 x239004_18.length co64) x239004_18) ∧ (w'.heap[gb238]? = some (.cells #[.int .u64 x239000_18, .int .u64 x239001_18, .string x239002_18, .slice Ao63 x239003_18.length co63, .slice Ao64 x239004_18.length co64, .bool x239005_18, .bool x239006_18, .bool x239007_18] 29 (0, 0))) ∧ (w'.heap[s_.2.2]? = some (.cells #[.int .u64 0, .int .u64 0, .string (⟨#[]⟩ : ByteArray), .slice none 0 0, .slice none 0 0, .bool false, .bool false, .bool false] 29 (0, 0))) ∧ (w.heap.size ≤ s_.2.2) ∧ (w.heap.size ≤ s_.2.2) ∧ (gb238 ≠ s_.2.2) ∧ (s_.2.2 ≠ gb238) ∧ (Below w.heap.size w w')) ?_ ?_
                  rotate_left
                  ·intro hCont
                   refine two_ (i := 6) (j := 10) (Ni := some 52) (Nj := some 10) #[true,true,true,true,true,true,true,false,false,false,false,false,false] #[true,true,true,true,true,true,false,false,false,false,true,false,false] rfl rfl rfl rfl (two_of HT_.out (by kernel_rfl)) (by decide) (by decide) (fun K hK => ?_) (fun K hK => ?_)
                   ·skip
                    refine goes_ Try.func12 (by kernel_rfl) rfl #[.agg #[.int .u64 x239000_18, .int .u64 x239001_18, .string x239002_18, .slice Ao63 x239003_18.length co63, .slice Ao64 x239004_18.length co64, .bool x239005_18, .bool x239006_18, .bool x239007_18], .string (rdOf ByteArray.empty l0 x9_2), .int .i64 a1] (by rfl) rfl rfl (by (try simp only [List.map_toArray, List.map_cons, List.map_nil]); first | done | rfl | (simp only [List.length_drop, List.length_take]; rfl)) ?_
                    with_reducible refine (sendq_Write.calls kj18 x239000_18 x239001_18 x239002_18 (fun k_ => k_ ≠ gb238) _ _ x239003_18 (fun k_ => k_ ≠ gb238) _ _ x239004_18 x239005_18 x239006_18 x239007_18 (rdOf ByteArray.empty l0 x9_2) a1 t256 t257 t258 t259 t262 t265 t266 t267 t268 _ ?side1 ?side2 A31.out).mono ?_
                    (case side1 => exact HO_239003.out)
                    (case side2 => exact HO_239004.out)
                    rintro e w66 ⟨v260, v263, rfl, ho0, ho1, hb⟩
                    refine ⟨_, rfl, ?_⟩
                    have n0_ := Aside0.mk (Kd.V_below (by (with_reducible repeat (first | apply Kd.V_alloc | apply Kd.V_drewN | apply Kd.V_drew)); exact HO_239003.out) hb)
                    have n1_ := Aside0.mk (Kd.V_below (by (with_reducible repeat (first | apply Kd.V_alloc | apply Kd.V_drewN | apply Kd.V_drew)); exact HO_239004.out) hb)
                    have n2_ := Aside0.mk (Kd.V_lower (Kd.V_mono (ok' := fun k_ => k_ ≠ gb238) ho0 (fun k_ hk_ => Or.elim hk_ (fun hs_ => Or.elim hs_ (fun hs_ => hs_) (fun hs_ => hs_)) (fun hn_ => (Kd.freshB (g := gb238) (o := .cells #[.int .u64 x239000_18, .int .u64 x239001_18, .string x239002_18, .slice Ao63 x239003_18.length co63, .slice Ao64 x239004_18.length co64, .bool x239005_18, .bool x239006_18, .bool x239007_18] 29 (0, 0)) (by (with_reducible repeat (first | refine blk_drewN ?_ _ | refine blk_drew ?_ | refine blk_alloc ?_ _)); exact BK238.out) k_ hn_)))) (below_size (by repeat (first | (with_reducible first | exact HB.out | apply below_alloc | apply pw_below_drewN | apply below_drew1 | refine below_set ?_ GE238.out) | exact HB.out))))
                    have n3_ := Aside0.mk (Kd.V_lower (Kd.V_mono (ok' := fun k_ => k_ ≠ gb238) ho1 (fun k_ hk_ => Or.elim hk_ (fun hs_ => Or.elim hs_ (fun hs_ => hs_) (fun hs_ => hs_)) (fun hn_ => (Kd.freshB (g := gb238) (o := .cells #[.int .u64 x239000_18, .int .u64 x239001_18, .string x239002_18, .slice Ao63 x239003_18.length co63, .slice Ao64 x239004_18.length co64, .bool x239005_18, .bool x239006_18, .bool x239007_18] 29 (0, 0)) (by (with_reducible repeat (first | refine blk_drewN ?_ _ | refine blk_drew ?_ | refine blk_alloc ?_ _)); exact BK238.out) k_ hn_)))) (below_size (by repeat (first | (with_reducible first | exact HB.out | apply below_alloc | apply pw_below_drewN | apply below_drew1 | refine below_set ?_ GE238.out) | exact HB.out))))
                    have n4_ := Aside0.mk (blk_below (g := gb238) (o := .cells #[.int .u64 x239000_18, .int .u64 x239001_18, .string x239002_18, .slice Ao63 x239003_18.length co63, .slice Ao64 x239004_18.length co64, .bool x239005_18, .bool x239006_18, .bool x239007_18] 29 (0, 0)) (by (with_reducible repeat (first | refine blk_drewN ?_ _ | refine blk_drew ?_ | refine blk_alloc ?_ _)); exact BK238.out) hb)
                    have n5_ := Aside0.mk (below_step (by repeat (first | (with_reducible first | exact HB.out | apply below_alloc | apply pw_below_drewN | apply below_drew1 | refine below_set ?_ GE238.out) | exact HB.out)) hb)
                    clear HO_239003
                    clear HO_239004
                    clear BK238
                    clear HB
                    have HO_239003 := n0_
                    have HO_239004 := n1_
                    have HO261 := n2_
                    have HO264 := n3_
                    have BK238 := n4_
                    have HB := n5_
                    clear n0_ n1_ n2_ n3_ n4_ n5_
                    (try clear hb)
                    (try clear hb2)
                    (try clear hk)
                    (try clear hi)
                    (try clear ho0)
                    (try clear ho1)
                    refine hK.out _ _ ⟨(blk_cell BK238.out 0).trans rfl, (blk_cell BK238.out 1).trans rfl, (blk_cell BK238.out 2).trans rfl, (blk_cell BK238.out 3).trans rfl, (blk_cell BK238.out 4).trans rfl, (blk_cell BK238.out 5).trans rfl, (blk_cell BK238.out 6).trans rfl, (blk_cell BK238.out 7).trans rfl, (up_ HB.out hw255_0)⟩ (fun hHeld => ?_)
                    clear hK K
                    refine norm_ (a' := ?_) ?_ ?_
                    rotate_left
                    ·show Act.put _ (some 52) _ = _
                     simp only [Act.put, List.setIfInBounds_toArray, List.set_cons_zero, List.set_cons_succ, i64_w, i32_w]
                     rfl
                    refine pure_ (i := 7) (N := some 45) (v := ?_) (a' := ?_) #[true,true,true,true,true,true,true,true,false,false,false,false,false] rfl rfl (any_of HT_.out (by kernel_rfl)) (fun _ _ _ h => h) (Or.inl ⟨by rfl, ?_⟩) ?_ ?_
                    rotate_left;(intro w';go_simp;with_reducible rfl);rotate_left;(simp only [Act.put, List.setIfInBounds_toArray, List.set_cons_zero, List.set_cons_succ, i64_w, i32_w];rfl)
                    refine pure_ (i := 8) (N := some 53) (v := ?_) (a' := ?_) #[true,true,true,true,true,true,true,true,true,false,false,false,false] rfl rfl (any_of HT_.out (by kernel_rfl)) (fun _ _ _ h => h) (Or.inl ⟨by rfl, ?_⟩) ?_ ?_
                    rotate_left;(intro w';go_simp;with_reducible rfl);rotate_left;(simp only [Act.put, List.setIfInBounds_toArray, List.set_cons_zero, List.set_cons_succ, i64_w, i32_w];rfl)
                    refine pure_ (i := 9) (N := some 54) (v := ?_) (a' := ?_) #[true,true,true,true,true,true,true,true,true,true,false,false,false] rfl rfl (any_of HT_.out (by kernel_rfl)) (fun _ _ _ h => h) (Or.inl ⟨by rfl, ?_⟩) ?_ ?_
                    rotate_left;(intro w';go_simp;with_reducible rfl);rotate_left;(simp only [Act.put, List.setIfInBounds_toArray, List.set_cons_zero, List.set_cons_succ, i64_w, i32_w];rfl)
                    refine one_ (i := 10) (N := some 10) #[true,true,true,true,true,true,true,true,true,true,true,false,false] rfl rfl (one_of HT_.out (by kernel_rfl)) (by decide) (fun K hK => ?_)
                    refine box_step ?hg (N := 10) ?hd (cs := #[.int .u64 0, .int .u64 0, .string (⟨#[]⟩ : ByteArray), .slice none 0 0, .slice none 0 0, .bool false, .bool false, .bool false]) (t := 29) ?hr ?_; (case hd => rfl); (case hg => rfl); (case hr => first | (go_simp; done) | (go_simp; rfl))
                    intro gb269 hg w67 hbox hb
                    have n0_ := Aside0.mk (Kd.V_below (Kd.V_elderB (by (with_reducible repeat (first | apply Kd.V_alloc | apply Kd.V_drewN | apply Kd.V_drew)); exact HO_239003.out) gb269 (Nat.le_of_eq hg.symm)) hb)
                    have n1_ := Aside0.mk (Kd.V_below (Kd.V_elderB (by (with_reducible repeat (first | apply Kd.V_alloc | apply Kd.V_drewN | apply Kd.V_drew)); exact HO_239004.out) gb269 (Nat.le_of_eq hg.symm)) hb)
                    have n2_ := Aside0.mk (Kd.V_below (Kd.V_elderB (by (with_reducible repeat (first | apply Kd.V_alloc | apply Kd.V_drewN | apply Kd.V_drew)); exact HO261.out) gb269 (Nat.le_of_eq hg.symm)) hb)
                    have n3_ := Aside0.mk (Kd.V_below (Kd.V_elderB (by (with_reducible repeat (first | apply Kd.V_alloc | apply Kd.V_drewN | apply Kd.V_drew)); exact HO264.out) gb269 (Nat.le_of_eq hg.symm)) hb)
                    have n4_ := Aside0.mk (blk_below (g := gb238) (o := .cells #[.int .u64 x239000_18, .int .u64 x239001_18, .string x239002_18, .slice Ao63 x239003_18.length co63, .slice Ao64 x239004_18.length co64, .bool x239005_18, .bool x239006_18, .bool x239007_18] 29 (0, 0)) (by (with_reducible repeat (first | refine blk_drewN ?_ _ | refine blk_drew ?_ | refine blk_alloc ?_ _)); exact BK238.out) hb)
                    have n5_ := Aside0.mk (below_step (by repeat (first | (with_reducible first | exact HB.out | apply below_alloc | apply pw_below_drewN | apply below_drew1 | refine below_set ?_ GE238.out) | exact HB.out)) hb)
                    have n6_ := Aside0.mk (hbox)
                    have n7_ := Aside0.mk ((by rw [hg]; exact (below_size (by repeat (first | (with_reducible first | exact HB.out | apply below_alloc | apply pw_below_drewN | apply below_drew1 | refine below_set ?_ GE238.out) | exact HB.out))) : w.heap.size ≤ gb269))
                    have n8_ := Aside0.mk ((by rw [hg]; exact (below_size (by repeat (first | (with_reducible first | exact HB.out | apply below_alloc | apply pw_below_drewN | apply below_drew1 | refine below_set ?_ GE238.out) | exact HB.out))) : w.heap.size ≤ gb269))
                    have n9_ := Aside0.mk ((by rw [hg]; exact Nat.ne_of_lt (blk_lt (g := gb238) (o := .cells #[.int .u64 x239000_18, .int .u64 x239001_18, .string x239002_18, .slice Ao63 x239003_18.length co63, .slice Ao64 x239004_18.length co64, .bool x239005_18, .bool x239006_18, .bool x239007_18] 29 (0, 0)) (by (with_reducible repeat (first | refine blk_drewN ?_ _ | refine blk_drew ?_ | refine blk_alloc ?_ _)); exact BK238.out)) : gb238 ≠ gb269))
                    have n10_ := Aside0.mk ((by rw [hg]; exact Nat.ne_of_gt (blk_lt (g := gb238) (o := .cells #[.int .u64 x239000_18, .int .u64 x239001_18, .string x239002_18, .slice Ao63 x239003_18.length co63, .slice Ao64 x239004_18.length co64, .bool x239005_18, .bool x239006_18, .bool x239007_18] 29 (0, 0)) (by (with_reducible repeat (first | refine blk_drewN ?_ _ | refine blk_drew ?_ | refine blk_alloc ?_ _)); exact BK238.out)) : gb269 ≠ gb238))
                    clear HO_239003
                    clear HO_239004
                    clear HO261
                    clear HO264
                    clear BK238
                    clear HB
                    have HO_239003 := n0_
                    have HO_239004 := n1_
                    have HO261 := n2_
                    have HO264 := n3_
                    have BK238 := n4_
                    have HB := n5_
                    have BK269 := n6_
                    have GW269 := n7_
                    have GE269 := n8_
                    have NB238_269 := n9_
                    have NB269_238 := n10_
                    clear n0_ n1_ n2_ n3_ n4_ n5_ n6_ n7_ n8_ n9_ n10_
                    clear hb hbox hg
                    refine hK.out _ _ ⟨(blk_cell BK238.out 0).trans rfl, (blk_cell BK238.out 1).trans rfl, (blk_cell BK238.out 2).trans rfl, (blk_cell BK238.out 3).trans rfl, (blk_cell BK238.out 4).trans rfl, (blk_cell BK238.out 5).trans rfl, (blk_cell BK238.out 6).trans rfl, (blk_cell BK238.out 7).trans rfl, (up_ HB.out hw255_0)⟩ (fun hHeld => ?_)
                    clear hK K
                    refine norm_ (a' := ?_) ?_ ?_
                    rotate_left
                    ·show Act.put _ (some 10) _ = _
                     simp only [Act.put, List.setIfInBounds_toArray, List.set_cons_zero, List.set_cons_succ, i64_w, i32_w]
                     rfl
                    exact norm_ (by simp only [putAll, Act.put, List.setIfInBounds_toArray, List.set_cons_zero, List.set_cons_succ]) (hCont (v260, v263, gb269) _ ⟨hHeld, (by (with_reducible repeat (first | apply Kd.V_alloc | apply Kd.V_drewN | apply Kd.V_drew)); exact HO261.out), (by (with_reducible repeat (first | apply Kd.V_alloc | apply Kd.V_drewN | apply Kd.V_drew)); exact HO264.out), (by (with_reducible repeat (first | apply Kd.V_alloc | apply Kd.V_drewN | apply Kd.V_drew)); exact HO_239003.out), (by (with_reducible repeat (first | apply Kd.V_alloc | apply Kd.V_drewN | apply Kd.V_drew)); exact HO_239004.out), (by (with_reducible repeat (first | refine blk_drewN ?_ _ | refine blk_drew ?_ | refine blk_alloc ?_ _)); exact BK238.out), (by (with_reducible repeat (first | refine blk_drewN ?_ _ | refine blk_drew ?_ | refine blk_alloc ?_ _)); exact BK269.out), GW269.out, GE269.out, NB238_269.out, NB269_238.out, (by repeat (first | (with_reducible first | exact HB.out | apply below_alloc | apply pw_below_drewN | apply below_drew1 | refine below_set ?_ GE238.out | refine below_set ?_ GE269.out) | exact HB.out))⟩)
                   ·skip
                    refine box_step ?hg (N := 10) ?hd (cs := #[.int .u64 0, .int .u64 0, .string (⟨#[]⟩ : ByteArray), .slice none 0 0, .slice none 0 0, .bool false, .bool false, .bool false]) (t := 29) ?hr ?_; (case hd => rfl); (case hg => rfl); (case hr => first | (go_simp; done) | (go_simp; rfl))
                    intro gb269 hg w66 hbox hb
                    have n0_ := Aside0.mk (Kd.V_below (Kd.V_elderB (by (with_reducible repeat (first | apply Kd.V_alloc | apply Kd.V_drewN | apply Kd.V_drew)); exact HO_239003.out) gb269 (Nat.le_of_eq hg.symm)) hb)
                    have n1_ := Aside0.mk (Kd.V_below (Kd.V_elderB (by (with_reducible repeat (first | apply Kd.V_alloc | apply Kd.V_drewN | apply Kd.V_drew)); exact HO_239004.out) gb269 (Nat.le_of_eq hg.symm)) hb)
                    have n2_ := Aside0.mk (blk_below (g := gb238) (o := .cells #[.int .u64 x239000_18, .int .u64 x239001_18, .string x239002_18, .slice Ao63 x239003_18.length co63, .slice Ao64 x239004_18.length co64, .bool x239005_18, .bool x239006_18, .bool x239007_18] 29 (0, 0)) (by (with_reducible repeat (first | refine blk_drewN ?_ _ | refine blk_drew ?_ | refine blk_alloc ?_ _)); exact BK238.out) hb)
                    have n3_ := Aside0.mk (below_step (by repeat (first | (with_reducible first | exact HB.out | apply below_alloc | apply pw_below_drewN | apply below_drew1 | refine below_set ?_ GE238.out) | exact HB.out)) hb)
                    have n4_ := Aside0.mk (hbox)
                    have n5_ := Aside0.mk ((by rw [hg]; exact (below_size (by repeat (first | (with_reducible first | exact HB.out | apply below_alloc | apply pw_below_drewN | apply below_drew1 | refine below_set ?_ GE238.out) | exact HB.out))) : w.heap.size ≤ gb269))
                    have n6_ := Aside0.mk ((by rw [hg]; exact (below_size (by repeat (first | (with_reducible first | exact HB.out | apply below_alloc | apply pw_below_drewN | apply below_drew1 | refine below_set ?_ GE238.out) | exact HB.out))) : w.heap.size ≤ gb269))
                    have n7_ := Aside0.mk ((by rw [hg]; exact Nat.ne_of_lt (blk_lt (g := gb238) (o := .cells #[.int .u64 x239000_18, .int .u64 x239001_18, .string x239002_18, .slice Ao63 x239003_18.length co63, .slice Ao64 x239004_18.length co64, .bool x239005_18, .bool x239006_18, .bool x239007_18] 29 (0, 0)) (by (with_reducible repeat (first | refine blk_drewN ?_ _ | refine blk_drew ?_ | refine blk_alloc ?_ _)); exact BK238.out)) : gb238 ≠ gb269))
                    have n8_ := Aside0.mk ((by rw [hg]; exact Nat.ne_of_gt (blk_lt (g := gb238) (o := .cells #[.int .u64 x239000_18, .int .u64 x239001_18, .string x239002_18, .slice Ao63 x239003_18.length co63, .slice Ao64 x239004_18.length co64, .bool x239005_18, .bool x239006_18, .bool x239007_18] 29 (0, 0)) (by (with_reducible repeat (first | refine blk_drewN ?_ _ | refine blk_drew ?_ | refine blk_alloc ?_ _)); exact BK238.out)) : gb269 ≠ gb238))
                    clear HO_239003
                    clear HO_239004
                    clear BK238
                    clear HB
                    have HO_239003 := n0_
                    have HO_239004 := n1_
                    have BK238 := n2_
                    have HB := n3_
                    have BK269 := n4_
                    have GW269 := n5_
                    have GE269 := n6_
                    have NB238_269 := n7_
                    have NB269_238 := n8_
                    clear n0_ n1_ n2_ n3_ n4_ n5_ n6_ n7_ n8_
                    clear hb hbox hg
                    refine hK.out _ _ ⟨(blk_cell BK238.out 0).trans rfl, (blk_cell BK238.out 1).trans rfl, (blk_cell BK238.out 2).trans rfl, (blk_cell BK238.out 3).trans rfl, (blk_cell BK238.out 4).trans rfl, (blk_cell BK238.out 5).trans rfl, (blk_cell BK238.out 6).trans rfl, (blk_cell BK238.out 7).trans rfl, (up_ HB.out hw255_0)⟩ (fun hHeld => ?_)
                    clear hK K
                    refine norm_ (a' := ?_) ?_ ?_
                    rotate_left
                    ·show Act.put _ (some 10) _ = _
                     simp only [Act.put, List.setIfInBounds_toArray, List.set_cons_zero, List.set_cons_succ, i64_w, i32_w]
                     rfl
                    refine one_ (i := 6) (N := some 52) #[true,true,true,true,true,true,true,false,false,false,true,false,false] rfl rfl (one_of HT_.out (by kernel_rfl)) (by decide) (fun K hK => ?_)
                    refine goes_ Try.func12 (by kernel_rfl) rfl #[.agg #[.int .u64 x239000_18, .int .u64 x239001_18, .string x239002_18, .slice Ao63 x239003_18.length co63, .slice Ao64 x239004_18.length co64, .bool x239005_18, .bool x239006_18, .bool x239007_18], .string (rdOf ByteArray.empty l0 x9_2), .int .i64 a1] (by rfl) rfl rfl (by (try simp only [List.map_toArray, List.map_cons, List.map_nil]); first | done | rfl | (simp only [List.length_drop, List.length_take]; rfl)) ?_
                    with_reducible refine (sendq_Write.calls kj18 x239000_18 x239001_18 x239002_18 (fun k_ => (k_ ≠ gb238 ∧ k_ ≠ gb269)) _ _ x239003_18 (fun k_ => (k_ ≠ gb238 ∧ k_ ≠ gb269)) _ _ x239004_18 x239005_18 x239006_18 x239007_18 (rdOf ByteArray.empty l0 x9_2) a1 t256 t257 t258 t259 t262 t265 t266 t267 t268 _ ?side1 ?side2 A31.out).mono ?_
                    (case side1 => exact HO_239003.out)
                    (case side2 => exact HO_239004.out)
                    rintro e w67 ⟨v260, v263, rfl, ho0, ho1, hb⟩
                    refine ⟨_, rfl, ?_⟩
                    have n0_ := Aside0.mk (Kd.V_below (by (with_reducible repeat (first | apply Kd.V_alloc | apply Kd.V_drewN | apply Kd.V_drew)); exact HO_239003.out) hb)
                    have n1_ := Aside0.mk (Kd.V_below (by (with_reducible repeat (first | apply Kd.V_alloc | apply Kd.V_drewN | apply Kd.V_drew)); exact HO_239004.out) hb)
                    have n2_ := Aside0.mk (Kd.V_lower (Kd.V_mono (ok' := fun k_ => k_ ≠ gb238 ∧ k_ ≠ gb269) ho0 (fun k_ hk_ => ⟨Or.elim hk_ (fun hs_ => Or.elim hs_ (fun hs_ => hs_.1) (fun hs_ => hs_.1)) (fun hn_ => (Kd.freshB (g := gb238) (o := .cells #[.int .u64 x239000_18, .int .u64 x239001_18, .string x239002_18, .slice Ao63 x239003_18.length co63, .slice Ao64 x239004_18.length co64, .bool x239005_18, .bool x239006_18, .bool x239007_18] 29 (0, 0)) (by (with_reducible repeat (first | refine blk_drewN ?_ _ | refine blk_drew ?_ | refine blk_alloc ?_ _)); exact BK238.out) k_ hn_)), Or.elim hk_ (fun hs_ => Or.elim hs_ (fun hs_ => hs_.2) (fun hs_ => hs_.2)) (fun hn_ => (Kd.freshB (g := gb269) (o := .cells #[.int .u64 0, .int .u64 0, .string (⟨#[]⟩ : ByteArray), .slice none 0 0, .slice none 0 0, .bool false, .bool false, .bool false] 29 (0, 0)) (by (with_reducible repeat (first | refine blk_drewN ?_ _ | refine blk_drew ?_ | refine blk_alloc ?_ _)); exact BK269.out) k_ hn_))⟩)) (below_size (by repeat (first | (with_reducible first | exact HB.out | apply below_alloc | apply pw_below_drewN | apply below_drew1 | refine below_set ?_ GE238.out | refine below_set ?_ GE269.out) | exact HB.out))))
                    have n3_ := Aside0.mk (Kd.V_lower (Kd.V_mono (ok' := fun k_ => k_ ≠ gb238 ∧ k_ ≠ gb269) ho1 (fun k_ hk_ => ⟨Or.elim hk_ (fun hs_ => Or.elim hs_ (fun hs_ => hs_.1) (fun hs_ => hs_.1)) (fun hn_ => (Kd.freshB (g := gb238) (o := .cells #[.int .u64 x239000_18, .int .u64 x239001_18, .string x239002_18, .slice Ao63 x239003_18.length co63, .slice Ao64 x239004_18.length co64, .bool x239005_18, .bool x239006_18, .bool x239007_18] 29 (0, 0)) (by (with_reducible repeat (first | refine blk_drewN ?_ _ | refine blk_drew ?_ | refine blk_alloc ?_ _)); exact BK238.out) k_ hn_)), Or.elim hk_ (fun hs_ => Or.elim hs_ (fun hs_ => hs_.2) (fun hs_ => hs_.2)) (fun hn_ => (Kd.freshB (g := gb269) (o := .cells #[.int .u64 0, .int .u64 0, .string (⟨#[]⟩ : ByteArray), .slice none 0 0, .slice none 0 0, .bool false, .bool false, .bool false] 29 (0, 0)) (by (with_reducible repeat (first | refine blk_drewN ?_ _ | refine blk_drew ?_ | refine blk_alloc ?_ _)); exact BK269.out) k_ hn_))⟩)) (below_size (by repeat (first | (with_reducible first | exact HB.out | apply below_alloc | apply pw_below_drewN | apply below_drew1 | refine below_set ?_ GE238.out | refine below_set ?_ GE269.out) | exact HB.out))))
                    have n4_ := Aside0.mk (blk_below (g := gb238) (o := .cells #[.int .u64 x239000_18, .int .u64 x239001_18, .string x239002_18, .slice Ao63 x239003_18.length co63, .slice Ao64 x239004_18.length co64, .bool x239005_18, .bool x239006_18, .bool x239007_18] 29 (0, 0)) (by (with_reducible repeat (first | refine blk_drewN ?_ _ | refine blk_drew ?_ | refine blk_alloc ?_ _)); exact BK238.out) hb)
                    have n5_ := Aside0.mk (blk_below (g := gb269) (o := .cells #[.int .u64 0, .int .u64 0, .string (⟨#[]⟩ : ByteArray), .slice none 0 0, .slice none 0 0, .bool false, .bool false, .bool false] 29 (0, 0)) (by (with_reducible repeat (first | refine blk_drewN ?_ _ | refine blk_drew ?_ | refine blk_alloc ?_ _)); exact BK269.out) hb)
                    have n6_ := Aside0.mk (below_step (by repeat (first | (with_reducible first | exact HB.out | apply below_alloc | apply pw_below_drewN | apply below_drew1 | refine below_set ?_ GE238.out | refine below_set ?_ GE269.out) | exact HB.out)) hb)
                    clear HO_239003
                    clear HO_239004
                    clear BK238
                    clear BK269
                    clear HB
                    have HO_239003 := n0_
                    have HO_239004 := n1_
                    have HO261 := n2_
                    have HO264 := n3_
                    have BK238 := n4_
                    have BK269 := n5_
                    have HB := n6_
                    clear n0_ n1_ n2_ n3_ n4_ n5_ n6_
                    (try clear hb)
                    (try clear hb2)
                    (try clear hk)
                    (try clear hi)
                    (try clear ho0)
                    (try clear ho1)
                    refine hK.out _ _ ⟨(blk_cell BK238.out 0).trans rfl, (blk_cell BK238.out 1).trans rfl, (blk_cell BK238.out 2).trans rfl, (blk_cell BK238.out 3).trans rfl, (blk_cell BK238.out 4).trans rfl, (blk_cell BK238.out 5).trans rfl, (blk_cell BK238.out 6).trans rfl, (blk_cell BK238.out 7).trans rfl, (up_ HB.out hw255_0)⟩ (fun hHeld => ?_)
                    clear hK K
                    refine norm_ (a' := ?_) ?_ ?_
                    rotate_left
                    ·show Act.put _ (some 52) _ = _
                     simp only [Act.put, List.setIfInBounds_toArray, List.set_cons_zero, List.set_cons_succ, i64_w, i32_w]
                     rfl
                    refine pure_ (i := 7) (N := some 45) (v := ?_) (a' := ?_) #[true,true,true,true,true,true,true,true,false,false,true,false,false] rfl rfl (any_of HT_.out (by kernel_rfl)) (fun _ _ _ h => h) (Or.inl ⟨by rfl, ?_⟩) ?_ ?_
                    rotate_left;(intro w';go_simp;with_reducible rfl);rotate_left;(simp only [Act.put, List.setIfInBounds_toArray, List.set_cons_zero, List.set_cons_succ, i64_w, i32_w];rfl)
                    refine pure_ (i := 8) (N := some 53) (v := ?_) (a' := ?_) #[true,true,true,true,true,true,true,true,true,false,true,false,false] rfl rfl (any_of HT_.out (by kernel_rfl)) (fun _ _ _ h => h) (Or.inl ⟨by rfl, ?_⟩) ?_ ?_
                    rotate_left;(intro w';go_simp;with_reducible rfl);rotate_left;(simp only [Act.put, List.setIfInBounds_toArray, List.set_cons_zero, List.set_cons_succ, i64_w, i32_w];rfl)
                    refine pure_ (i := 9) (N := some 54) (v := ?_) (a' := ?_) #[true,true,true,true,true,true,true,true,true,true,true,false,false] rfl rfl (any_of HT_.out (by kernel_rfl)) (fun _ _ _ h => h) (Or.inl ⟨by rfl, ?_⟩) ?_ ?_
                    rotate_left;(intro w';go_simp;with_reducible rfl);rotate_left;(simp only [Act.put, List.setIfInBounds_toArray, List.set_cons_zero, List.set_cons_succ, i64_w, i32_w];rfl)
                    exact norm_ (by simp only [putAll, Act.put, List.setIfInBounds_toArray, List.set_cons_zero, List.set_cons_succ]) (hCont (v260, v263, gb269) _ ⟨hHeld, (by (with_reducible repeat (first | apply Kd.V_alloc | apply Kd.V_drewN | apply Kd.V_drew)); exact HO261.out), (by (with_reducible repeat (first | apply Kd.V_alloc | apply Kd.V_drewN | apply Kd.V_drew)); exact HO264.out), (by (with_reducible repeat (first | apply Kd.V_alloc | apply Kd.V_drewN | apply Kd.V_drew)); exact HO_239003.out), (by (with_reducible repeat (first | apply Kd.V_alloc | apply Kd.V_drewN | apply Kd.V_drew)); exact HO_239004.out), (by (with_reducible repeat (first | refine blk_drewN ?_ _ | refine blk_drew ?_ | refine blk_alloc ?_ _)); exact BK238.out), (by (with_reducible repeat (first | refine blk_drewN ?_ _ | refine blk_drew ?_ | refine blk_alloc ?_ _)); exact BK269.out), GW269.out, GE269.out, NB238_269.out, NB269_238.out, (by repeat (first | (with_reducible first | exact HB.out | apply below_alloc | apply pw_below_drewN | apply below_drew1 | refine below_set ?_ GE238.out | refine below_set ?_ GE269.out) | exact HB.out))⟩)
                  rintro ⟨v260, v263, gb269⟩ w68 ⟨hS_, h0_, h1_, h2_, h3_, h4_, h5_, h6_, h7_, h8_, h9_, h10_⟩
                  have n0_ : Aside0 (Kd.V k67 67 w68 w.heap.size (fun k_ => k_ ≠ gb238 ∧ k_ ≠ gb269) v260 t259) := ⟨h0_⟩
                  have n1_ : Aside0 (Kd.V k67 67 w68 w.heap.size (fun k_ => k_ ≠ gb238 ∧ k_ ≠ gb269) v263 t262) := ⟨h1_⟩
                  have n2_ : Aside0 (Kd.V k67 67 w68 w.heap.size (fun k_ => k_ ≠ gb238 ∧ k_ ≠ gb269) (.slice Ao63 x239003_18.length co63) x239003_18) := ⟨h2_⟩
                  have n3_ : Aside0 (Kd.V k67 67 w68 w.heap.size (fun k_ => k_ ≠ gb238 ∧ k_ ≠ gb269) (.slice Ao64 x239004_18.length co64) x239004_18) := ⟨h3_⟩
                  have n4_ : Aside0 (w68.heap[gb238]? = some (.cells #[.int .u64 x239000_18, .int .u64 x239001_18, .string x239002_18, .slice Ao63 x239003_18.length co63, .slice Ao64 x239004_18.length co64, .bool x239005_18, .bool x239006_18, .bool x239007_18] 29 (0, 0))) := ⟨h4_⟩
                  have n5_ : Aside0 (w68.heap[gb269]? = some (.cells #[.int .u64 0, .int .u64 0, .string (⟨#[]⟩ : ByteArray), .slice none 0 0, .slice none 0 0, .bool false, .bool false, .bool false] 29 (0, 0))) := ⟨h5_⟩
                  have n6_ : Aside0 (w.heap.size ≤ gb269) := ⟨h6_⟩
                  have n7_ : Aside0 (w.heap.size ≤ gb269) := ⟨h7_⟩
                  have n8_ : Aside0 (gb238 ≠ gb269) := ⟨h8_⟩
                  have n9_ : Aside0 (gb269 ≠ gb238) := ⟨h9_⟩
                  have n10_ : Aside0 (Below w.heap.size w w68) := ⟨h10_⟩
                  clear HO_239003
                  clear HO_239004
                  clear BK238
                  clear HB
                  clear h0_ h1_ h2_ h3_ h4_ h5_ h6_ h7_ h8_ h9_ h10_
                  have HO261 := n0_
                  have HO264 := n1_
                  have HO_239003 := n2_
                  have HO_239004 := n3_
                  have BK238 := n4_
                  have BK269 := n5_
                  have GW269 := n6_
                  have GE269 := n7_
                  have NB238_269 := n8_
                  have NB269_238 := n9_
                  have HB := n10_
                  clear n0_ n1_ n2_ n3_ n4_ n5_ n6_ n7_ n8_ n9_ n10_
                  have hHeld : w68.cell? ⟨gb238, 0, none⟩ = some (.int .u64 x239000_18) ∧ w68.cell? ⟨gb238, 1, none⟩ = some (.int .u64 x239001_18) ∧ w68.cell? ⟨gb238, 2, none⟩ = some (.string x239002_18) ∧ w68.cell? ⟨gb238, 3, none⟩ = some (.slice Ao63 x239003_18.length co63) ∧ w68.cell? ⟨gb238, 4, none⟩ = some (.slice Ao64 x239004_18.length co64) ∧ w68.cell? ⟨gb238, 5, none⟩ = some (.bool x239005_18) ∧ w68.cell? ⟨gb238, 6, none⟩ = some (.bool x239006_18) ∧ w68.cell? ⟨gb238, 7, none⟩ = some (.bool x239007_18) ∧ w68.cell? (ad241.add (x9_2).toNat) = some (.string (rdOf ByteArray.empty l0 x9_2)) := hS_
                  obtain ⟨Ao72, co72, eo72⟩ := Kd.V_slice HO261.out
                  (first | subst eo72 | (injection eo72 with f1_ f2_ f3_; have f4_ := f1_.symm; have f5_ := f3_.symm; clear f1_ f2_ f3_; subst f4_; subst f5_))
                  obtain ⟨Ao74, co74, eo74⟩ := Kd.V_slice HO264.out
                  (first | subst eo74 | (injection eo74 with f1_ f2_ f3_; have f4_ := f1_.symm; have f5_ := f3_.symm; clear f1_ f2_ f3_; subst f4_; subst f5_))
                  refine norm_ (a' := ?_) ?_ ?_
                  rotate_left
                  ·simp only [putAll, Act.put, List.setIfInBounds_toArray, List.set_cons_zero, List.set_cons_succ]
                   rfl
                  refine one_ (i := 11) (N := none) #[true,true,true,true,true,true,true,true,true,true,true,true,false] rfl rfl (one_of HT_.out (by kernel_rfl)) (by decide) (fun K hK => ?_)
                  have hs69 : w68.cell? ⟨gb269, 0, none⟩ = some (.int .u64 0) := (blk_cell BK269.out 0).trans rfl
                  have hfs69 := blk_frozen BK269.out 0
                  have hns69_0 := NB238_269.out
                  have hms69_0 := NB269_238.out
                  have hs70 : w68.cell? ⟨gb269, 1, none⟩ = some (.int .u64 0) := (blk_cell BK269.out 1).trans rfl
                  have hfs70 := blk_frozen BK269.out 1
                  have hns70_0 := NB238_269.out
                  have hms70_0 := NB269_238.out
                  have hs71 : w68.cell? ⟨gb269, 2, none⟩ = some (.string (⟨#[]⟩ : ByteArray)) := (blk_cell BK269.out 2).trans rfl
                  have hfs71 := blk_frozen BK269.out 2
                  have hns71_0 := NB238_269.out
                  have hms71_0 := NB269_238.out
                  have hs73 : w68.cell? ⟨gb269, 3, none⟩ = some (.slice none 0 0) := (blk_cell BK269.out 3).trans rfl
                  have hfs73 := blk_frozen BK269.out 3
                  have hns73_0 := NB238_269.out
                  have hms73_0 := NB269_238.out
                  have hs75 : w68.cell? ⟨gb269, 4, none⟩ = some (.slice none 0 0) := (blk_cell BK269.out 4).trans rfl
                  have hfs75 := blk_frozen BK269.out 4
                  have hns75_0 := NB238_269.out
                  have hms75_0 := NB269_238.out
                  have hs76 : w68.cell? ⟨gb269, 5, none⟩ = some (.bool false) := (blk_cell BK269.out 5).trans rfl
                  have hfs76 := blk_frozen BK269.out 5
                  have hns76_0 := NB238_269.out
                  have hms76_0 := NB269_238.out
                  have hs77 : w68.cell? ⟨gb269, 6, none⟩ = some (.bool false) := (blk_cell BK269.out 6).trans rfl
                  have hfs77 := blk_frozen BK269.out 6
                  have hns77_0 := NB238_269.out
                  have hms77_0 := NB269_238.out
                  have hs78 : w68.cell? ⟨gb269, 7, none⟩ = some (.bool false) := (blk_cell BK269.out 7).trans rfl
                  have hfs78 := blk_frozen BK269.out 7
                  have hns78_0 := NB238_269.out
                  have hms78_0 := NB269_238.out
                  refine skip_ (w1 := ?_) (by rfl) rfl ?_ ?_
                  rotate_left
                  ·go_simp
                   rfl
                  refine hK.out _ _ ⟨((cell_far (p := ⟨gb269, _, none⟩) NB238_269.out _).trans (((cell_far (p := ⟨gb269, _, none⟩) NB238_269.out _).trans (((cell_far (p := ⟨gb269, _, none⟩) NB238_269.out _).trans (((cell_far (p := ⟨gb269, _, none⟩) NB238_269.out _).trans (((cell_far (p := ⟨gb269, _, none⟩) NB238_269.out _).trans (((cell_far (p := ⟨gb269, _, none⟩) NB238_269.out _).trans (((cell_far (p := ⟨gb269, _, none⟩) NB238_269.out _).trans (((cell_far (p := ⟨gb269, _, none⟩) NB238_269.out _).trans (hHeld.1)))))))))))))))), ((cell_far (p := ⟨gb269, _, none⟩) NB238_269.out _).trans (((cell_far (p := ⟨gb269, _, none⟩) NB238_269.out _).trans (((cell_far (p := ⟨gb269, _, none⟩) NB238_269.out _).trans (((cell_far (p := ⟨gb269, _, none⟩) NB238_269.out _).trans (((cell_far (p := ⟨gb269, _, none⟩) NB238_269.out _).trans (((cell_far (p := ⟨gb269, _, none⟩) NB238_269.out _).trans (((cell_far (p := ⟨gb269, _, none⟩) NB238_269.out _).trans (((cell_far (p := ⟨gb269, _, none⟩) NB238_269.out _).trans (hHeld.2.1)))))))))))))))), ((cell_far (p := ⟨gb269, _, none⟩) NB238_269.out _).trans (((cell_far (p := ⟨gb269, _, none⟩) NB238_269.out _).trans (((cell_far (p := ⟨gb269, _, none⟩) NB238_269.out _).trans (((cell_far (p := ⟨gb269, _, none⟩) NB238_269.out _).trans (((cell_far (p := ⟨gb269, _, none⟩) NB238_269.out _).trans (((cell_far (p := ⟨gb269, _, none⟩) NB238_269.out _).trans (((cell_far (p := ⟨gb269, _, none⟩) NB238_269.out _).trans (((cell_far (p := ⟨gb269, _, none⟩) NB238_269.out _).trans (hHeld.2.2.1)))))))))))))))), ((cell_far (p := ⟨gb269, _, none⟩) NB238_269.out _).trans (((cell_far (p := ⟨gb269, _, none⟩) NB238_269.out _).trans (((cell_far (p := ⟨gb269, _, none⟩) NB238_269.out _).trans (((cell_far (p := ⟨gb269, _, none⟩) NB238_269.out _).trans (((cell_far (p := ⟨gb269, _, none⟩) NB238_269.out _).trans (((cell_far (p := ⟨gb269, _, none⟩) NB238_269.out _).trans (((cell_far (p := ⟨gb269, _, none⟩) NB238_269.out _).trans (((cell_far (p := ⟨gb269, _, none⟩) NB238_269.out _).trans (hHeld.2.2.2.1)))))))))))))))), ((cell_far (p := ⟨gb269, _, none⟩) NB238_269.out _).trans (((cell_far (p := ⟨gb269, _, none⟩) NB238_269.out _).trans (((cell_far (p := ⟨gb269, _, none⟩) NB238_269.out _).trans (((cell_far (p := ⟨gb269, _, none⟩) NB238_269.out _).trans (((cell_far (p := ⟨gb269, _, none⟩) NB238_269.out _).trans (((cell_far (p := ⟨gb269, _, none⟩) NB238_269.out _).trans (((cell_far (p := ⟨gb269, _, none⟩) NB238_269.out _).trans (((cell_far (p := ⟨gb269, _, none⟩) NB238_269.out _).trans (hHeld.2.2.2.2.1)))))))))))))))), ((cell_far (p := ⟨gb269, _, none⟩) NB238_269.out _).trans (((cell_far (p := ⟨gb269, _, none⟩) NB238_269.out _).trans (((cell_far (p := ⟨gb269, _, none⟩) NB238_269.out _).trans (((cell_far (p := ⟨gb269, _, none⟩) NB238_269.out _).trans (((cell_far (p := ⟨gb269, _, none⟩) NB238_269.out _).trans (((cell_far (p := ⟨gb269, _, none⟩) NB238_269.out _).trans (((cell_far (p := ⟨gb269, _, none⟩) NB238_269.out _).trans (((cell_far (p := ⟨gb269, _, none⟩) NB238_269.out _).trans (hHeld.2.2.2.2.2.1)))))))))))))))), ((cell_far (p := ⟨gb269, _, none⟩) NB238_269.out _).trans (((cell_far (p := ⟨gb269, _, none⟩) NB238_269.out _).trans (((cell_far (p := ⟨gb269, _, none⟩) NB238_269.out _).trans (((cell_far (p := ⟨gb269, _, none⟩) NB238_269.out _).trans (((cell_far (p := ⟨gb269, _, none⟩) NB238_269.out _).trans (((cell_far (p := ⟨gb269, _, none⟩) NB238_269.out _).trans (((cell_far (p := ⟨gb269, _, none⟩) NB238_269.out _).trans (((cell_far (p := ⟨gb269, _, none⟩) NB238_269.out _).trans (hHeld.2.2.2.2.2.2.1)))))))))))))))), ((cell_far (p := ⟨gb269, _, none⟩) NB238_269.out _).trans (((cell_far (p := ⟨gb269, _, none⟩) NB238_269.out _).trans (((cell_far (p := ⟨gb269, _, none⟩) NB238_269.out _).trans (((cell_far (p := ⟨gb269, _, none⟩) NB238_269.out _).trans (((cell_far (p := ⟨gb269, _, none⟩) NB238_269.out _).trans (((cell_far (p := ⟨gb269, _, none⟩) NB238_269.out _).trans (((cell_far (p := ⟨gb269, _, none⟩) NB238_269.out _).trans (((cell_far (p := ⟨gb269, _, none⟩) NB238_269.out _).trans (hHeld.2.2.2.2.2.2.2.1)))))))))))))))), ((far_ hw255_0 GW269.out _).trans (((far_ hw255_0 GW269.out _).trans (((far_ hw255_0 GW269.out _).trans (((far_ hw255_0 GW269.out _).trans (((far_ hw255_0 GW269.out _).trans (((far_ hw255_0 GW269.out _).trans (((far_ hw255_0 GW269.out _).trans (((far_ hw255_0 GW269.out _).trans (hHeld.2.2.2.2.2.2.2.2))))))))))))))))⟩ (fun hHeld => ?_)
                  clear hK K
                  refine pure_ (i := 12) (N := some 11) (v := ?_) (a' := ?_) #[true,true,true,true,true,true,true,true,true,true,true,true,true] rfl rfl (any_of HT_.out (by kernel_rfl)) (fun _ _ _ h => h) (Or.inl ⟨by rfl, ?_⟩) ?_ ?_
                  rotate_left;(intro w';go_simp;with_reducible rfl);rotate_left;(simp only [Act.put, List.setIfInBounds_toArray, List.set_cons_zero, List.set_cons_succ, i64_w, i32_w];rfl)
                  refine done_ (done_of HT_.out (by kernel_rfl)) ?_
                  have p270 : 0 ≤ (x9_2 : Int) := of_decide_eq_true (by first | (with_reducible assumption) | assumption)
                  have q270 : x9_2 < (l0.length : Int) := of_decide_eq_true (by first | (with_reducible assumption) | assumption)
                  obtain ⟨ad270, e270, hx270_0⟩ := Kd.at_string HR0.out x9_2 p270 q270
                  obtain rfl : ad241 = ad270 := (by injection e270)
                  have hn270_0 : ad241.block ≠ gb269 := Nat.ne_of_lt (Nat.lt_of_lt_of_le (by have := World.block_lt_of_cell? _ _ hx270_0; first | rwa [add_block] at this | exact this) GW269.out)
                  have hn270_1 : ad241.block ≠ gb269 := Nat.ne_of_lt (Nat.lt_of_lt_of_le (by have := World.block_lt_of_cell? _ _ hx270_0; first | rwa [add_block] at this | exact this) GW269.out)
                  have hn270_2 : ad241.block ≠ gb269 := Nat.ne_of_lt (Nat.lt_of_lt_of_le (by have := World.block_lt_of_cell? _ _ hx270_0; first | rwa [add_block] at this | exact this) GW269.out)
                  have hn270_3 : ad241.block ≠ gb269 := Nat.ne_of_lt (Nat.lt_of_lt_of_le (by have := World.block_lt_of_cell? _ _ hx270_0; first | rwa [add_block] at this | exact this) GW269.out)
                  have hn270_4 : ad241.block ≠ gb269 := Nat.ne_of_lt (Nat.lt_of_lt_of_le (by have := World.block_lt_of_cell? _ _ hx270_0; first | rwa [add_block] at this | exact this) GW269.out)
                  have hn270_5 : ad241.block ≠ gb269 := Nat.ne_of_lt (Nat.lt_of_lt_of_le (by have := World.block_lt_of_cell? _ _ hx270_0; first | rwa [add_block] at this | exact this) GW269.out)
                  have hn270_6 : ad241.block ≠ gb269 := Nat.ne_of_lt (Nat.lt_of_lt_of_le (by have := World.block_lt_of_cell? _ _ hx270_0; first | rwa [add_block] at this | exact this) GW269.out)
                  have hn270_7 : ad241.block ≠ gb269 := Nat.ne_of_lt (Nat.lt_of_lt_of_le (by have := World.block_lt_of_cell? _ _ hx270_0; first | rwa [add_block] at this | exact this) GW269.out)
                  replace hx270_0 := (HB.out.cell (World.block_lt_of_cell? w _ hx270_0)).trans hx270_0
                  replace hx270_0 := (cell_far (p := ⟨gb269, 0, none⟩) (by first | (rw [add_block]; exact hn270_0) | (show (Addr.add _ _).block ≠ _; rw [add_block]; exact hn270_0) | exact hn270_0) (.int .u64 t256)).trans hx270_0
                  replace hx270_0 := (cell_far (p := ⟨gb269, 1, none⟩) (by first | (rw [add_block]; exact hn270_1) | (show (Addr.add _ _).block ≠ _; rw [add_block]; exact hn270_1) | exact hn270_1) (.int .u64 t257)).trans hx270_0
                  replace hx270_0 := (cell_far (p := ⟨gb269, 2, none⟩) (by first | (rw [add_block]; exact hn270_2) | (show (Addr.add _ _).block ≠ _; rw [add_block]; exact hn270_2) | exact hn270_2) (.string t258)).trans hx270_0
                  replace hx270_0 := (cell_far (p := ⟨gb269, 3, none⟩) (by first | (rw [add_block]; exact hn270_3) | (show (Addr.add _ _).block ≠ _; rw [add_block]; exact hn270_3) | exact hn270_3) (.slice Ao72 t259.length co72)).trans hx270_0
                  replace hx270_0 := (cell_far (p := ⟨gb269, 4, none⟩) (by first | (rw [add_block]; exact hn270_4) | (show (Addr.add _ _).block ≠ _; rw [add_block]; exact hn270_4) | exact hn270_4) (.slice Ao74 t262.length co74)).trans hx270_0
                  replace hx270_0 := (cell_far (p := ⟨gb269, 5, none⟩) (by first | (rw [add_block]; exact hn270_5) | (show (Addr.add _ _).block ≠ _; rw [add_block]; exact hn270_5) | exact hn270_5) (.bool t265)).trans hx270_0
                  replace hx270_0 := (cell_far (p := ⟨gb269, 6, none⟩) (by first | (rw [add_block]; exact hn270_6) | (show (Addr.add _ _).block ≠ _; rw [add_block]; exact hn270_6) | exact hn270_6) (.bool t266)).trans hx270_0
                  replace hx270_0 := (cell_far (p := ⟨gb269, 7, none⟩) (by first | (rw [add_block]; exact hn270_7) | (show (Addr.add _ _).block ≠ _; rw [add_block]; exact hn270_7) | exact hn270_7) (.bool t267)).trans hx270_0
                  clear hn270_0
                  clear hn270_1
                  clear hn270_2
                  clear hn270_3
                  clear hn270_4
                  clear hn270_5
                  clear hn270_6
                  clear hn270_7
                  replace p270 := eq_true p270
                  replace q270 := eq_true q270
                  have p272 : 0 ≤ (x9_2 : Int) := of_decide_eq_true (by first | (with_reducible assumption) | assumption)
                  have q272 : x9_2 < (l0.length : Int) := of_decide_eq_true (by first | (with_reducible assumption) | assumption)
                  obtain ⟨ad272, e272, hx272_0⟩ := Kd.at_string HR0.out x9_2 p272 q272
                  obtain rfl : ad241 = ad272 := (by injection e272)
                  have hn272_0 : ad241.block ≠ gb269 := Nat.ne_of_lt (Nat.lt_of_lt_of_le (by have := World.block_lt_of_cell? _ _ hx272_0; first | rwa [add_block] at this | exact this) GW269.out)
                  have hn272_1 : ad241.block ≠ gb269 := Nat.ne_of_lt (Nat.lt_of_lt_of_le (by have := World.block_lt_of_cell? _ _ hx272_0; first | rwa [add_block] at this | exact this) GW269.out)
                  have hn272_2 : ad241.block ≠ gb269 := Nat.ne_of_lt (Nat.lt_of_lt_of_le (by have := World.block_lt_of_cell? _ _ hx272_0; first | rwa [add_block] at this | exact this) GW269.out)
                  have hn272_3 : ad241.block ≠ gb269 := Nat.ne_of_lt (Nat.lt_of_lt_of_le (by have := World.block_lt_of_cell? _ _ hx272_0; first | rwa [add_block] at this | exact this) GW269.out)
                  have hn272_4 : ad241.block ≠ gb269 := Nat.ne_of_lt (Nat.lt_of_lt_of_le (by have := World.block_lt_of_cell? _ _ hx272_0; first | rwa [add_block] at this | exact this) GW269.out)
                  have hn272_5 : ad241.block ≠ gb269 := Nat.ne_of_lt (Nat.lt_of_lt_of_le (by have := World.block_lt_of_cell? _ _ hx272_0; first | rwa [add_block] at this | exact this) GW269.out)
                  have hn272_6 : ad241.block ≠ gb269 := Nat.ne_of_lt (Nat.lt_of_lt_of_le (by have := World.block_lt_of_cell? _ _ hx272_0; first | rwa [add_block] at this | exact this) GW269.out)
                  have hn272_7 : ad241.block ≠ gb269 := Nat.ne_of_lt (Nat.lt_of_lt_of_le (by have := World.block_lt_of_cell? _ _ hx272_0; first | rwa [add_block] at this | exact this) GW269.out)
                  replace hx272_0 := (HB.out.cell (World.block_lt_of_cell? w _ hx272_0)).trans hx272_0
                  replace hx272_0 := (cell_far (p := ⟨gb269, 0, none⟩) (by first | (rw [add_block]; exact hn272_0) | (show (Addr.add _ _).block ≠ _; rw [add_block]; exact hn272_0) | exact hn272_0) (.int .u64 t256)).trans hx272_0
                  replace hx272_0 := (cell_far (p := ⟨gb269, 1, none⟩) (by first | (rw [add_block]; exact hn272_1) | (show (Addr.add _ _).block ≠ _; rw [add_block]; exact hn272_1) | exact hn272_1) (.int .u64 t257)).trans hx272_0
                  replace hx272_0 := (cell_far (p := ⟨gb269, 2, none⟩) (by first | (rw [add_block]; exact hn272_2) | (show (Addr.add _ _).block ≠ _; rw [add_block]; exact hn272_2) | exact hn272_2) (.string t258)).trans hx272_0
                  replace hx272_0 := (cell_far (p := ⟨gb269, 3, none⟩) (by first | (rw [add_block]; exact hn272_3) | (show (Addr.add _ _).block ≠ _; rw [add_block]; exact hn272_3) | exact hn272_3) (.slice Ao72 t259.length co72)).trans hx272_0
                  replace hx272_0 := (cell_far (p := ⟨gb269, 4, none⟩) (by first | (rw [add_block]; exact hn272_4) | (show (Addr.add _ _).block ≠ _; rw [add_block]; exact hn272_4) | exact hn272_4) (.slice Ao74 t262.length co74)).trans hx272_0
                  replace hx272_0 := (cell_far (p := ⟨gb269, 5, none⟩) (by first | (rw [add_block]; exact hn272_5) | (show (Addr.add _ _).block ≠ _; rw [add_block]; exact hn272_5) | exact hn272_5) (.bool t265)).trans hx272_0
                  replace hx272_0 := (cell_far (p := ⟨gb269, 6, none⟩) (by first | (rw [add_block]; exact hn272_6) | (show (Addr.add _ _).block ≠ _; rw [add_block]; exact hn272_6) | exact hn272_6) (.bool t266)).trans hx272_0
                  replace hx272_0 := (cell_far (p := ⟨gb269, 7, none⟩) (by first | (rw [add_block]; exact hn272_7) | (show (Addr.add _ _).block ≠ _; rw [add_block]; exact hn272_7) | exact hn272_7) (.bool t267)).trans hx272_0
                  clear hn272_0
                  clear hn272_1
                  clear hn272_2
                  clear hn272_3
                  clear hn272_4
                  clear hn272_5
                  clear hn272_6
                  clear hn272_7
                  replace p272 := eq_true p272
                  replace q272 := eq_true q272
                  have hnb79 := NB269_238.out
                  have hnc79 := NB238_269.out
                  have hcz80_0 : w68.cell? ⟨gb269, 0, none⟩ = some (.int .u64 0) := (blk_cell BK269.out 0).trans rfl
                  have hcz80_1 : w68.cell? ⟨gb269, 1, none⟩ = some (.int .u64 0) := (blk_cell BK269.out 1).trans rfl
                  have hcz80_2 : w68.cell? ⟨gb269, 2, none⟩ = some (.string (⟨#[]⟩ : ByteArray)) := (blk_cell BK269.out 2).trans rfl
                  have hcz80_3 : w68.cell? ⟨gb269, 3, none⟩ = some (.slice none 0 0) := (blk_cell BK269.out 3).trans rfl
                  have hcz80_4 : w68.cell? ⟨gb269, 4, none⟩ = some (.slice none 0 0) := (blk_cell BK269.out 4).trans rfl
                  have hcz80_5 : w68.cell? ⟨gb269, 5, none⟩ = some (.bool false) := (blk_cell BK269.out 5).trans rfl
                  have hcz80_6 : w68.cell? ⟨gb269, 6, none⟩ = some (.bool false) := (blk_cell BK269.out 6).trans rfl
                  have hcz80_7 : w68.cell? ⟨gb269, 7, none⟩ = some (.bool false) := (blk_cell BK269.out 7).trans rfl
                  have hfz80_0 := blk_frozen BK269.out 0
                  have hfz80_1 := blk_frozen BK269.out 1
                  have hfz80_2 := blk_frozen BK269.out 2
                  have hfz80_3 := blk_frozen BK269.out 3
                  have hfz80_4 := blk_frozen BK269.out 4
                  have hfz80_5 := blk_frozen BK269.out 5
                  have hfz80_6 := blk_frozen BK269.out 6
                  have hfz80_7 := blk_frozen BK269.out 7
                  have hcz81_0 : w68.cell? ⟨gb238, 0, none⟩ = some (.int .u64 x239000_18) := (blk_cell BK238.out 0).trans rfl
                  have hcz81_1 : w68.cell? ⟨gb238, 1, none⟩ = some (.int .u64 x239001_18) := (blk_cell BK238.out 1).trans rfl
                  have hcz81_2 : w68.cell? ⟨gb238, 2, none⟩ = some (.string x239002_18) := (blk_cell BK238.out 2).trans rfl
                  have hcz81_3 : w68.cell? ⟨gb238, 3, none⟩ = some (.slice Ao63 x239003_18.length co63) := (blk_cell BK238.out 3).trans rfl
                  have hcz81_4 : w68.cell? ⟨gb238, 4, none⟩ = some (.slice Ao64 x239004_18.length co64) := (blk_cell BK238.out 4).trans rfl
                  have hcz81_5 : w68.cell? ⟨gb238, 5, none⟩ = some (.bool x239005_18) := (blk_cell BK238.out 5).trans rfl
                  have hcz81_6 : w68.cell? ⟨gb238, 6, none⟩ = some (.bool x239006_18) := (blk_cell BK238.out 6).trans rfl
                  have hcz81_7 : w68.cell? ⟨gb238, 7, none⟩ = some (.bool x239007_18) := (blk_cell BK238.out 7).trans rfl
                  have hfz81_0 := blk_frozen BK238.out 0
                  have hfz81_1 := blk_frozen BK238.out 1
                  have hfz81_2 := blk_frozen BK238.out 2
                  have hfz81_3 := blk_frozen BK238.out 3
                  have hfz81_4 := blk_frozen BK238.out 4
                  have hfz81_5 := blk_frozen BK238.out 5
                  have hfz81_6 := blk_frozen BK238.out 6
                  have hfz81_7 := blk_frozen BK238.out 7
                  try go_wp2
                  go_roundg kj18
                  case measure => have := HJ3.out; have := HK2.out; have := HJ18.out; omega
                  case rel => exact ⟨(x8_2 ++ ((rdOf ByteArray.empty l0 x9_2).extract 0 (t268 : Int).toNat)), (wrap64 (x9_2 + 1)), (t256), (t257), (t258), (t259), (t262), (t265), (t266), (t267), (.slice Ao72 t259.length co72), (.slice Ao74 t262.length co74), (by first | rfl | (simp; done) | (simp [*]; done)), (by first | rfl | (simp; done) | (simp [*]; done)), H', ⟨by have := HJ3.out; have := HK2.out; have := HJ18.out; omega⟩, ⟨by (with_reducible repeat (first | apply Kd.V_alloc | apply Kd.V_drewN | apply Kd.V_drew)); exact Kd.V_mono (Kd.V_far (p := ⟨gb238, 7, none⟩) (Kd.V_far (p := ⟨gb238, 6, none⟩) (Kd.V_far (p := ⟨gb238, 5, none⟩) (Kd.V_far (p := ⟨gb238, 4, none⟩) (Kd.V_far (p := ⟨gb238, 3, none⟩) (Kd.V_far (p := ⟨gb238, 2, none⟩) (Kd.V_far (p := ⟨gb238, 1, none⟩) (Kd.V_far (p := ⟨gb238, 0, none⟩) (Kd.V_far (p := ⟨gb269, 7, none⟩) (Kd.V_far (p := ⟨gb269, 6, none⟩) (Kd.V_far (p := ⟨gb269, 5, none⟩) (Kd.V_far (p := ⟨gb269, 4, none⟩) (Kd.V_far (p := ⟨gb269, 3, none⟩) (Kd.V_far (p := ⟨gb269, 2, none⟩) (Kd.V_far (p := ⟨gb269, 1, none⟩) (Kd.V_far (p := ⟨gb269, 0, none⟩) (Kd.V_mono (Kd.V_mono HO261.out (fun k_ hk => (⟨hk, hk.2⟩ : _ ∧ k_ ≠ gb269))) (fun k_ hk => (⟨hk, hk.1.1⟩ : _ ∧ k_ ≠ gb238))) (fun _ hk => hk.1.2) (.int .u64 t256)) (fun _ hk => hk.1.2) (.int .u64 t257)) (fun _ hk => hk.1.2) (.string t258)) (fun _ hk => hk.1.2) (.slice Ao72 t259.length co72)) (fun _ hk => hk.1.2) (.slice Ao74 t262.length co74)) (fun _ hk => hk.1.2) (.bool t265)) (fun _ hk => hk.1.2) (.bool t266)) (fun _ hk => hk.1.2) (.bool t267)) (fun _ hk => hk.2) (.int .u64 t256)) (fun _ hk => hk.2) (.int .u64 t257)) (fun _ hk => hk.2) (.string t258)) (fun _ hk => hk.2) (.slice Ao72 t259.length co72)) (fun _ hk => hk.2) (.slice Ao74 t262.length co74)) (fun _ hk => hk.2) (.bool t265)) (fun _ hk => hk.2) (.bool t266)) (fun _ hk => hk.2) (.bool t267)) (fun _ hk => hk.1.1.1)⟩, ⟨by (with_reducible repeat (first | apply Kd.V_alloc | apply Kd.V_drewN | apply Kd.V_drew)); exact Kd.V_mono (Kd.V_far (p := ⟨gb238, 7, none⟩) (Kd.V_far (p := ⟨gb238, 6, none⟩) (Kd.V_far (p := ⟨gb238, 5, none⟩) (Kd.V_far (p := ⟨gb238, 4, none⟩) (Kd.V_far (p := ⟨gb238, 3, none⟩) (Kd.V_far (p := ⟨gb238, 2, none⟩) (Kd.V_far (p := ⟨gb238, 1, none⟩) (Kd.V_far (p := ⟨gb238, 0, none⟩) (Kd.V_far (p := ⟨gb269, 7, none⟩) (Kd.V_far (p := ⟨gb269, 6, none⟩) (Kd.V_far (p := ⟨gb269, 5, none⟩) (Kd.V_far (p := ⟨gb269, 4, none⟩) (Kd.V_far (p := ⟨gb269, 3, none⟩) (Kd.V_far (p := ⟨gb269, 2, none⟩) (Kd.V_far (p := ⟨gb269, 1, none⟩) (Kd.V_far (p := ⟨gb269, 0, none⟩) (Kd.V_mono (Kd.V_mono HO264.out (fun k_ hk => (⟨hk, hk.2⟩ : _ ∧ k_ ≠ gb269))) (fun k_ hk => (⟨hk, hk.1.1⟩ : _ ∧ k_ ≠ gb238))) (fun _ hk => hk.1.2) (.int .u64 t256)) (fun _ hk => hk.1.2) (.int .u64 t257)) (fun _ hk => hk.1.2) (.string t258)) (fun _ hk => hk.1.2) (.slice Ao72 t259.length co72)) (fun _ hk => hk.1.2) (.slice Ao74 t262.length co74)) (fun _ hk => hk.1.2) (.bool t265)) (fun _ hk => hk.1.2) (.bool t266)) (fun _ hk => hk.1.2) (.bool t267)) (fun _ hk => hk.2) (.int .u64 t256)) (fun _ hk => hk.2) (.int .u64 t257)) (fun _ hk => hk.2) (.string t258)) (fun _ hk => hk.2) (.slice Ao72 t259.length co72)) (fun _ hk => hk.2) (.slice Ao74 t262.length co74)) (fun _ hk => hk.2) (.bool t265)) (fun _ hk => hk.2) (.bool t266)) (fun _ hk => hk.2) (.bool t267)) (fun _ hk => hk.1.1.1)⟩, ⟨by (with_reducible repeat (first | refine blk_drewN ?_ _ | refine blk_drew ?_ | refine blk_alloc ?_ _)); refine blk_put (cs := #[.int .u64 t256, .int .u64 t257, .string t258, .slice Ao72 t259.length co72, .slice Ao74 t262.length co74, .bool t265, .bool t266, .bool x239007_18]) ?_ 7 _ rfl; (with_reducible repeat (first | refine blk_drewN ?_ _ | refine blk_drew ?_ | refine blk_alloc ?_ _)); refine blk_put (cs := #[.int .u64 t256, .int .u64 t257, .string t258, .slice Ao72 t259.length co72, .slice Ao74 t262.length co74, .bool t265, .bool x239006_18, .bool x239007_18]) ?_ 6 _ rfl; (with_reducible repeat (first | refine blk_drewN ?_ _ | refine blk_drew ?_ | refine blk_alloc ?_ _)); refine blk_put (cs := #[.int .u64 t256, .int .u64 t257, .string t258, .slice Ao72 t259.length co72, .slice Ao74 t262.length co74, .bool x239005_18, .bool x239006_18, .bool x239007_18]) ?_ 5 _ rfl; (with_reducible repeat (first | refine blk_drewN ?_ _ | refine blk_drew ?_ | refine blk_alloc ?_ _)); refine blk_put (cs := #[.int .u64 t256, .int .u64 t257, .string t258, .slice Ao72 t259.length co72, .slice Ao64 x239004_18.length co64, .bool x239005_18, .bool x239006_18, .bool x239007_18]) ?_ 4 _ rfl; (with_reducible repeat (first | refine blk_drewN ?_ _ | refine blk_drew ?_ | refine blk_alloc ?_ _)); refine blk_put (cs := #[.int .u64 t256, .int .u64 t257, .string t258, .slice Ao63 x239003_18.length co63, .slice Ao64 x239004_18.length co64, .bool x239005_18, .bool x239006_18, .bool x239007_18]) ?_ 3 _ rfl; (with_reducible repeat (first | refine blk_drewN ?_ _ | refine blk_drew ?_ | refine blk_alloc ?_ _)); refine blk_put (cs := #[.int .u64 t256, .int .u64 t257, .string x239002_18, .slice Ao63 x239003_18.length co63, .slice Ao64 x239004_18.length co64, .bool x239005_18, .bool x239006_18, .bool x239007_18]) ?_ 2 _ rfl; (with_reducible repeat (first | refine blk_drewN ?_ _ | refine blk_drew ?_ | refine blk_alloc ?_ _)); refine blk_put (cs := #[.int .u64 t256, .int .u64 x239001_18, .string x239002_18, .slice Ao63 x239003_18.length co63, .slice Ao64 x239004_18.length co64, .bool x239005_18, .bool x239006_18, .bool x239007_18]) ?_ 1 _ rfl; (with_reducible repeat (first | refine blk_drewN ?_ _ | refine blk_drew ?_ | refine blk_alloc ?_ _)); refine blk_put (cs := #[.int .u64 x239000_18, .int .u64 x239001_18, .string x239002_18, .slice Ao63 x239003_18.length co63, .slice Ao64 x239004_18.length co64, .bool x239005_18, .bool x239006_18, .bool x239007_18]) ?_ 0 _ rfl; (with_reducible repeat (first | refine blk_drewN ?_ _ | refine blk_drew ?_ | refine blk_alloc ?_ _)); refine blk_far ?_ NB238_269.out _; (with_reducible repeat (first | refine blk_drewN ?_ _ | refine blk_drew ?_ | refine blk_alloc ?_ _)); refine blk_far ?_ NB238_269.out _; (with_reducible repeat (first | refine blk_drewN ?_ _ | refine blk_drew ?_ | refine blk_alloc ?_ _)); refine blk_far ?_ NB238_269.out _; (with_reducible repeat (first | refine blk_drewN ?_ _ | refine blk_drew ?_ | refine blk_alloc ?_ _)); refine blk_far ?_ NB238_269.out _; (with_reducible repeat (first | refine blk_drewN ?_ _ | refine blk_drew ?_ | refine blk_alloc ?_ _)); refine blk_far ?_ NB238_269.out _; (with_reducible repeat (first | refine blk_drewN ?_ _ | refine blk_drew ?_ | refine blk_alloc ?_ _)); refine blk_far ?_ NB238_269.out _; (with_reducible repeat (first | refine blk_drewN ?_ _ | refine blk_drew ?_ | refine blk_alloc ?_ _)); refine blk_far ?_ NB238_269.out _; (with_reducible repeat (first | refine blk_drewN ?_ _ | refine blk_drew ?_ | refine blk_alloc ?_ _)); refine blk_far ?_ NB238_269.out _; (with_reducible repeat (first | refine blk_drewN ?_ _ | refine blk_drew ?_ | refine blk_alloc ?_ _)); exact BK238.out⟩, ⟨by repeat (first | (with_reducible first | exact HB.out | apply below_alloc | apply pw_below_drewN | apply below_drew1 | refine below_set ?_ GE238.out | refine below_set ?_ GE269.out) | exact HB.out)⟩⟩
                 ·rw [if_neg c62] at H
                  exact absurd H (by simp)
                ·rw [if_neg c61] at H
                 exact absurd H (by simp)
               ·rw [if_neg c60] at H
                exact absurd H (by simp)
              ·rw [if_neg c59] at H
               exact absurd H (by simp)
            ·rw [if_neg c30] at H
             exact absurd H (by simp)
           ·rw [if_neg c29] at H
            exact absurd H (by simp)
       ·rw [if_neg c15] at H
        exact absurd H (by simp)
      ·rw [if_neg c14] at H
       have c14b0 : decide (x9_2 < (l0.length : Int)) = false := decide_eq_false c14
       clear c14
       by_cases c82 : x239002_2.toList = x8_2.toList
       ·rw [if_pos c82] at H
        have c82b0 : (x239002_2.toList == x8_2.toList) = true := beq_iff_eq.mpr c82
        have c82b1 : (x239002_2.toList != x8_2.toList) = false := bne_eq_false_iff_eq.mpr c82
        clear c82
        replace H := Option.bind_eq_some_iff.mp H
        obtain ⟨t239, A830, H⟩ := H
        replace H : (if t239 = (IntKind.u64.wrap ((x8_2.size : Int))) then ((sendq_End.f x239000_2 x239001_2 x239002_2 x239003_2 x239004_2 x239005_2 x239006_2 x239007_2).bind fun t240 => (if t240 = (IntKind.u64.wrap ((x8_2.size : Int))) then (some (x239000_2 == 0)) else (none))) else (none)) = some r := H
        have A83 := Aside0.mk A830
        clear A830
        by_cases c84 : t239 = (IntKind.u64.wrap ((x8_2.size : Int)))
        ·rw [if_pos c84] at H
         have c84b0 : (t239 == (IntKind.u64.wrap ((x8_2.size : Int)))) = true := beq_iff_eq.mpr c84
         have c84b1 : (t239 != (IntKind.u64.wrap ((x8_2.size : Int)))) = false := bne_eq_false_iff_eq.mpr c84
         clear c84
         replace H := Option.bind_eq_some_iff.mp H
         obtain ⟨t240, A850, H⟩ := H
         replace H : (if t240 = (IntKind.u64.wrap ((x8_2.size : Int))) then (some (x239000_2 == 0)) else (none)) = some r := H
         have A85 := Aside0.mk A850
         clear A850
         by_cases c86 : t240 = (IntKind.u64.wrap ((x8_2.size : Int)))
         ·rw [if_pos c86] at H
          have c86b0 : (t240 == (IntKind.u64.wrap ((x8_2.size : Int)))) = true := beq_iff_eq.mpr c86
          have c86b1 : (t240 != (IntKind.u64.wrap ((x8_2.size : Int)))) = false := bne_eq_false_iff_eq.mpr c86
          clear c86
          obtain rfl := Option.some.inj H
          have hcz87_0 : wr.cell? ⟨gb238, 0, none⟩ = some (.int .u64 x239000_2) := (blk_cell BK238.out 0).trans rfl
          have hcz87_1 : wr.cell? ⟨gb238, 1, none⟩ = some (.int .u64 x239001_2) := (blk_cell BK238.out 1).trans rfl
          have hcz87_2 : wr.cell? ⟨gb238, 2, none⟩ = some (.string x239002_2) := (blk_cell BK238.out 2).trans rfl
          have hcz87_3 : wr.cell? ⟨gb238, 3, none⟩ = some (u239003) := (blk_cell BK238.out 3).trans rfl
          have hcz87_4 : wr.cell? ⟨gb238, 4, none⟩ = some (u239004) := (blk_cell BK238.out 4).trans rfl
          have hcz87_5 : wr.cell? ⟨gb238, 5, none⟩ = some (.bool x239005_2) := (blk_cell BK238.out 5).trans rfl
          have hcz87_6 : wr.cell? ⟨gb238, 6, none⟩ = some (.bool x239006_2) := (blk_cell BK238.out 6).trans rfl
          have hcz87_7 : wr.cell? ⟨gb238, 7, none⟩ = some (.bool x239007_2) := (blk_cell BK238.out 7).trans rfl
          have hfz87_0 := blk_frozen BK238.out 0
          have hfz87_1 := blk_frozen BK238.out 1
          have hfz87_2 := blk_frozen BK238.out 2
          have hfz87_3 := blk_frozen BK238.out 3
          have hfz87_4 := blk_frozen BK238.out 4
          have hfz87_5 := blk_frozen BK238.out 5
          have hfz87_6 := blk_frozen BK238.out 6
          have hfz87_7 := blk_frozen BK238.out 7
          obtain ⟨Ao88, co88, eo88⟩ := Kd.V_slice HO_239004.out
          subst eo88
          go_wp2_with (first | (go_at_call 28; (with_reducible refine (ranges_Count.calls k2 _ _ x239004_2 t239 _ ?side1 ?side2 A83.out).mono ?_); (case side1 => repeat (first | exact (Kd.V_reads' HO_239004.out).2.2 | (with_reducible refine Kd.C_alloc ?_ _) | (with_reducible refine Kd.C_drewN ?_ _) | (with_reducible refine Kd.C_drew ?_))); (case side2 => exact (Kd.V_reads' HO_239004.out).2.1); rintro e w89 ⟨rfl, hb⟩; have n0_ := Aside0.mk (Kd.V_below (by (with_reducible repeat (first | apply Kd.V_alloc | apply Kd.V_drewN | apply Kd.V_drew)); exact HO_239003.out) hb); have n1_ := Aside0.mk (Kd.V_below (by (with_reducible repeat (first | apply Kd.V_alloc | apply Kd.V_drewN | apply Kd.V_drew)); exact HO_239004.out) hb); have n2_ := Aside0.mk (blk_below (g := gb238) (o := .cells #[.int .u64 x239000_2, .int .u64 x239001_2, .string x239002_2, u239003, .slice Ao88 x239004_2.length co88, .bool x239005_2, .bool x239006_2, .bool x239007_2] 29 (0, 0)) (by (with_reducible repeat (first | refine blk_drewN ?_ _ | refine blk_drew ?_ | refine blk_alloc ?_ _)); exact BK238.out) hb); have n3_ := Aside0.mk (below_step (by repeat (first | (with_reducible first | exact HB.out | apply below_alloc | apply pw_below_drewN | apply below_drew1 | refine below_set ?_ GE238.out) | exact HB.out)) hb); clear HO_239003; clear HO_239004; clear BK238; clear HB; have HO_239003 := n0_; have HO_239004 := n1_; have BK238 := n2_; have HB := n3_; clear n0_ n1_ n2_ n3_; (try clear hb); (try clear hb2); (try clear hk); (try clear hi); have hcz90_0 : w89.cell? ⟨gb238, 0, none⟩ = some (.int .u64 x239000_2) := (blk_cell BK238.out 0).trans rfl; have hcz90_1 : w89.cell? ⟨gb238, 1, none⟩ = some (.int .u64 x239001_2) := (blk_cell BK238.out 1).trans rfl; have hcz90_2 : w89.cell? ⟨gb238, 2, none⟩ = some (.string x239002_2) := (blk_cell BK238.out 2).trans rfl; have hcz90_3 : w89.cell? ⟨gb238, 3, none⟩ = some (u239003) := (blk_cell BK238.out 3).trans rfl; have hcz90_4 : w89.cell? ⟨gb238, 4, none⟩ = some (.slice Ao88 x239004_2.length co88) := (blk_cell BK238.out 4).trans rfl; have hcz90_5 : w89.cell? ⟨gb238, 5, none⟩ = some (.bool x239005_2) := (blk_cell BK238.out 5).trans rfl; have hcz90_6 : w89.cell? ⟨gb238, 6, none⟩ = some (.bool x239006_2) := (blk_cell BK238.out 6).trans rfl; have hcz90_7 : w89.cell? ⟨gb238, 7, none⟩ = some (.bool x239007_2) := (blk_cell BK238.out 7).trans rfl; have hfz90_0 := blk_frozen BK238.out 0; have hfz90_1 := blk_frozen BK238.out 1; have hfz90_2 := blk_frozen BK238.out 2; have hfz90_3 := blk_frozen BK238.out 3; have hfz90_4 := blk_frozen BK238.out 4; have hfz90_5 := blk_frozen BK238.out 5; have hfz90_6 := blk_frozen BK238.out 6; have hfz90_7 := blk_frozen BK238.out 7; obtain ⟨Ao91, co91, eo91⟩ := Kd.V_slice HO_239003.out; subst eo91) | (go_at_call 26; (with_reducible refine (sendq_End.calls x239000_2 x239001_2 x239002_2 _ _ x239003_2 _ _ x239004_2 x239005_2 x239006_2 x239007_2 t240 _ ?side1 ?side2 ?side3 ?side4 A85.out).mono ?_); (case side1 => repeat (first | exact (Kd.V_reads' HO_239003.out).2.2 | (with_reducible refine Kd.C_alloc ?_ _) | (with_reducible refine Kd.C_drewN ?_ _) | (with_reducible refine Kd.C_drew ?_))); (case side2 => exact (Kd.V_reads' HO_239003.out).2.1); (case side3 => repeat (first | exact (Kd.V_reads' HO_239004.out).2.2 | (with_reducible refine Kd.C_alloc ?_ _) | (with_reducible refine Kd.C_drewN ?_ _) | (with_reducible refine Kd.C_drew ?_))); (case side4 => exact (Kd.V_reads' HO_239004.out).2.1); rintro e w92 ⟨rfl, hb⟩; have n0_ := Aside0.mk (Kd.V_below (by (with_reducible repeat (first | apply Kd.V_alloc | apply Kd.V_drewN | apply Kd.V_drew)); exact HO_239003.out) hb); have n1_ := Aside0.mk (Kd.V_below (by (with_reducible repeat (first | apply Kd.V_alloc | apply Kd.V_drewN | apply Kd.V_drew)); exact HO_239004.out) hb); have n2_ := Aside0.mk (blk_below (g := gb238) (o := .cells #[.int .u64 x239000_2, .int .u64 x239001_2, .string x239002_2, .slice Ao91 x239003_2.length co91, .slice Ao88 x239004_2.length co88, .bool x239005_2, .bool x239006_2, .bool x239007_2] 29 (0, 0)) (by (with_reducible repeat (first | refine blk_drewN ?_ _ | refine blk_drew ?_ | refine blk_alloc ?_ _)); exact BK238.out) hb); have n3_ := Aside0.mk (below_step (by repeat (first | (with_reducible first | exact HB.out | apply below_alloc | apply pw_below_drewN | apply below_drew1 | refine below_set ?_ GE238.out) | exact HB.out)) hb); clear HO_239003; clear HO_239004; clear BK238; clear HB; have HO_239003 := n0_; have HO_239004 := n1_; have BK238 := n2_; have HB := n3_; clear n0_ n1_ n2_ n3_; (try clear hb); (try clear hb2); (try clear hk); (try clear hi); have hcz93_0 : w92.cell? ⟨gb238, 0, none⟩ = some (.int .u64 x239000_2) := (blk_cell BK238.out 0).trans rfl; have hcz93_1 : w92.cell? ⟨gb238, 1, none⟩ = some (.int .u64 x239001_2) := (blk_cell BK238.out 1).trans rfl; have hcz93_2 : w92.cell? ⟨gb238, 2, none⟩ = some (.string x239002_2) := (blk_cell BK238.out 2).trans rfl; have hcz93_3 : w92.cell? ⟨gb238, 3, none⟩ = some (.slice Ao91 x239003_2.length co91) := (blk_cell BK238.out 3).trans rfl; have hcz93_4 : w92.cell? ⟨gb238, 4, none⟩ = some (.slice Ao88 x239004_2.length co88) := (blk_cell BK238.out 4).trans rfl; have hcz93_5 : w92.cell? ⟨gb238, 5, none⟩ = some (.bool x239005_2) := (blk_cell BK238.out 5).trans rfl; have hcz93_6 : w92.cell? ⟨gb238, 6, none⟩ = some (.bool x239006_2) := (blk_cell BK238.out 6).trans rfl; have hcz93_7 : w92.cell? ⟨gb238, 7, none⟩ = some (.bool x239007_2) := (blk_cell BK238.out 7).trans rfl; have hfz93_0 := blk_frozen BK238.out 0; have hfz93_1 := blk_frozen BK238.out 1; have hfz93_2 := blk_frozen BK238.out 2; have hfz93_3 := blk_frozen BK238.out 3; have hfz93_4 := blk_frozen BK238.out 4; have hfz93_5 := blk_frozen BK238.out 5; have hfz93_6 := blk_frozen BK238.out 6; have hfz93_7 := blk_frozen BK238.out 7))
          go_ret
          exact ⟨by first | rfl | (simp [errW_none, errW_some] <;> rfl) | (simp [*, errW_none, errW_some] <;> rfl), by repeat (first | (with_reducible first | exact HB.out | apply below_alloc | apply pw_below_drewN | apply below_drew1 | refine below_set ?_ GE238.out) | exact HB.out)⟩
         ·rw [if_neg c86] at H
          exact absurd H (by simp)
        ·rw [if_neg c84] at H
         exact absurd H (by simp)
       ·rw [if_neg c82] at H
        exact absurd H (by simp)

/-- THE ONE PURE STATEMENT of dominolaw15_SendqWrites: yours. -/
def dominolaw15_SendqWrites.Pure : Prop := ∀ (l0 : List ByteArray) (a1 : Int) (a2 : Int), l0.length ≤ maxLen → l0.length * 16 ≤ 140737488351232 → (∀ x ∈ l0, x.size ≤ 140737488351232) → (Lit.int .i64 a1).wf = true → (Lit.int .u8 a2).wf = true → ∃ k, dominolaw15_SendqWrites.f k l0 a1 a2 = some true
theorem dominolaw15_SendqWrites.walk (P : dominolaw15_SendqWrites.Pure) (a0 : Option Addr) (cap0 : Nat) (l0 : List ByteArray) (a1 : Int) (a2 : Int) (w : World) (hr0 : Kd.C Kd.string w a0 l0.length l0) (hc0 : l0.length ≤ cap0) (w0_0 : l0.length ≤ maxLen) (w0_1 : l0.length * 16 ≤ 140737488351232) (w0_2 : (∀ x ∈ l0, x.size ≤ 140737488351232)) (w1 : (Lit.int .i64 a1).wf = true) (w2 : (Lit.int .u8 a2).wf = true) :
  Calls Try.prog 7 #[.slice a0 l0.length cap0, .int .i64 a1, .int .u8 a2] w fun e w' => e = .returned (.bool true) ∧ Below w.heap.size w w' := by
 obtain ⟨k, h⟩ := P l0 a1 a2 w0_0 w0_1 w0_2 w1 w2
 refine (dominolaw15_SendqWrites.calls k a0 cap0 l0 a1 a2 true w hr0 hc0 h).mono ?_
 rintro e w' ⟨rfl, hd⟩
 exact ⟨rfl, hd⟩

end Go.Proofs.Ytocagkmnefkniaa.PSqw
