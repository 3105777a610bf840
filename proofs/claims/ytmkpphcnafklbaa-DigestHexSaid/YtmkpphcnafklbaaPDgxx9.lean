-- printed for this claim by a program of the claim (wip/tools/pp.py over the kit's print)
import Derived.Test.YtmkpphcnafklbaaPDgxx0
import Derived.Test.YtmkpphcnafklbaaPDgxx4
import Derived.Test.YtmkpphcnafklbaaPDgxx8
namespace Go.Proofs.Ytmkpphcnafklbaa.PDgx
open Go.RowKit Go.Proofs.YtmkpphcnafklbaaW.PrintWords Go.Proofs.YtmkpphcnafklbaaW.PrintLast Go.Proofs.YtmkpphcnafklbaaW.PrintMore
attribute [local go_sem] max2_int min2_int max_two min_two max_three min_three max_four min_four   -- for this text's walks alone
set_option linter.unusedVariables false
set_option linter.unusedSimpArgs false

attribute [local go_sem] isSome_setCell_
/-! ### dominoref07_Unhex: function 17 -/
mutual
def dominoref07_Unhex.l0 : Nat → ByteArray → List Int → Int → Option (ByteArray × Bool)
 | 0, _, _, _ => none
 | k + 1, x0, x4, x5 => if x5 < (x0.size : Int) then (dominoref07_Unhex.l1 k x0 x4 x5 (-1) 0) else (some (strOfNums x4, true))
def dominoref07_Unhex.l1 : Nat → ByteArray → List Int → Int → Int → Int → Option (ByteArray × Bool)
 | 0, _, _, _, _, _ => none
 | k + 1, x0, x4, x5, x6, x7 => if x7 < 256 then ((dominoref07_Hex.f k (strOfNums (([(x7) % 256] : List Int)))).bind fun t171 => (if 0 ≤ x5 then (if x5 ≤ (wrap64 (x5 + 2)) then (if (wrap64 (x5 + 2)) ≤ (x0.size : Int) then (if t171.toList = (x0.extract (x5 : Int).toNat ((wrap64 (x5 + 2)) : Int).toNat).toList then (dominoref07_Unhex.l1 k x0 x4 x5 x7 (wrap64 (x7 + 1))) else (dominoref07_Unhex.l1 k x0 x4 x5 x6 (wrap64 (x7 + 1)))) else (none)) else (none)) else (none))) else (if x6 < 0 then (some ((⟨#[]⟩ : ByteArray), false)) else (if x4.length < 140737488355328 then (dominoref07_Unhex.l0 k x0 (x4 ++ [(x6) % 256]) (wrap64 (x5 + 2))) else (none)))
end
def dominoref07_Unhex.f (k : Nat) (a0 : ByteArray) : Option (ByteArray × Bool) := if ((a0.size : Int) % 2) = 0 then (dominoref07_Unhex.l0 k a0 (([] : List Int)) 0) else (some ((⟨#[]⟩ : ByteArray), false))
theorem dominoref07_Unhex.mono_l : ∀ k, (∀ y0 y1 y2, LeO (dominoref07_Unhex.l0 k y0 y1 y2) (dominoref07_Unhex.l0 (k + 1) y0 y1 y2)) ∧ (∀ y0 y1 y2 y3 y4, LeO (dominoref07_Unhex.l1 k y0 y1 y2 y3 y4) (dominoref07_Unhex.l1 (k + 1) y0 y1 y2 y3 y4))
 | 0 => ⟨fun _ _ _ r h => by simp [dominoref07_Unhex.l0] at h, fun _ _ _ _ _ r h => by simp [dominoref07_Unhex.l1] at h⟩
 | k + 1 => by
  obtain ⟨ih0, ih1⟩ := dominoref07_Unhex.mono_l k
  refine ⟨?_, ?_⟩
  ·intro y0 y1 y2
   unfold dominoref07_Unhex.l0
   repeat' first
   | (with_reducible exact ih0 _ _ _)
   | (with_reducible exact ih1 _ _ _ _ _)
   | (with_reducible exact dominoref07_Hex.mono _ _)
   | (with_reducible exact LeO.refl _)
   | (with_reducible exact LeO.none _)
   | (with_reducible refine LeO.ite ?_ ?_)
   | (with_reducible refine LeO.bind ?_ (fun _ => ?_))
   | exact ih0 _ _ _
   | exact ih1 _ _ _ _ _
   | exact dominoref07_Hex.mono _ _
   | exact LeO.none _
   | refine LeO.ite ?_ ?_
   | refine LeO.bind ?_ (fun _ => ?_)
  ·intro y0 y1 y2 y3 y4
   unfold dominoref07_Unhex.l1
   repeat' first
   | (with_reducible exact ih0 _ _ _)
   | (with_reducible exact ih1 _ _ _ _ _)
   | (with_reducible exact dominoref07_Hex.mono _ _)
   | (with_reducible exact LeO.refl _)
   | (with_reducible exact LeO.none _)
   | (with_reducible refine LeO.ite ?_ ?_)
   | (with_reducible refine LeO.bind ?_ (fun _ => ?_))
   | exact ih0 _ _ _
   | exact ih1 _ _ _ _ _
   | exact dominoref07_Hex.mono _ _
   | exact LeO.none _
   | refine LeO.ite ?_ ?_
   | refine LeO.bind ?_ (fun _ => ?_)
theorem dominoref07_Unhex.mono : ∀ a0 k, LeO (dominoref07_Unhex.f k a0) (dominoref07_Unhex.f (k + 1) a0) := by
 intro a0 k
 obtain ⟨ih0, ih1⟩ := dominoref07_Unhex.mono_l k
 unfold dominoref07_Unhex.f
 repeat' first
   | (with_reducible exact ih0 _ _ _)
   | (with_reducible exact ih1 _ _ _ _ _)
   | (with_reducible exact dominoref07_Hex.mono _ _)
   | (with_reducible exact LeO.refl _)
   | (with_reducible exact LeO.none _)
   | (with_reducible refine LeO.ite ?_ ?_)
   | (with_reducible refine LeO.bind ?_ (fun _ => ?_))
   | exact ih0 _ _ _
   | exact ih1 _ _ _ _ _
   | exact dominoref07_Hex.mono _ _
   | exact LeO.none _
   | refine LeO.ite ?_ ?_
   | refine LeO.bind ?_ (fun _ => ?_)
def dominoref07_Unhex.T11 : Bool × List (List Nat × List Nat) := (true, [([], []), ([0], [0]), ([1], [1]), ([2], [2]), ([3], [3]), ([], []), ([], []), ([], []), ([7], [7]), ([5, 6, 8], [5, 6, 8]), ([4, 9], [4, 9])])
def dominoref07_Unhex.B11 : List Nat := [0, 1, 3, 7, 15, 0, 0, 0, 128, 480, 1023]
theorem dominoref07_Unhex.tab11 : rtab .any (opsOf Try.f17 11) = dominoref07_Unhex.T11 := by kernel_rfl
theorem dominoref07_Unhex.bits11 : waitsOk dominoref07_Unhex.T11.2 dominoref07_Unhex.B11 = true := by kernel_rfl
set_option maxHeartbeats 8000000 in
set_option maxRecDepth 100000 in
theorem dominoref07_Unhex.calls (k : Nat) (a0 : ByteArray) (r1 : ByteArray) (r2 : Bool) (w : World) (h : dominoref07_Unhex.f k a0 = some (r1, r2)) :
  Calls Try.prog 17 #[.string a0] w fun e w' => e = .returned (.tuple #[.string r1, .bool r2]) ∧ Below w.heap.size w w' := by
 have HB := Aside0.mk (Below.refl w.heap.size w)
 have H : (if ((a0.size : Int) % 2) = 0 then (dominoref07_Unhex.l0 k a0 (([] : List Int)) 0) else (some ((⟨#[]⟩ : ByteArray), false))) = some (r1, r2) := h
 clear h
 by_cases c2 : ((a0.size : Int) % 2) = 0
 ·rw [if_pos c2] at H
  have c2b0 : (((a0.size : Int) % 2) == 0) = true := beq_iff_eq.mpr c2
  have c2b1 : (((a0.size : Int) % 2) != 0) = false := bne_eq_false_iff_eq.mpr c2
  clear c2
  obtain ⟨y165, hy165⟩ : ∃ y_ : List Int, y_ = (([] : List Int)) := ⟨_, rfl⟩
  replace H : (dominoref07_Unhex.l0 k a0 y165 0) = some (r1, r2) := by first | (rw [hy165]; with_reducible exact H) | (have H2_ := (Option.bind_some _ _).symm.trans H; rw [hy165]; with_reducible exact H2_) | (have H2_ := (Option.bind_some _ _).symm.trans H; with_reducible exact H2_) | with_reducible exact H | (rw [hy165]; exact H) | exact H
  have Ny165 := Aside0.mk hy165
  clear hy165
  have H' := Aside0.mk H
  clear H
  go_enter Try.func17, Try.ntmps17
  go_wp2_with (first | ((with_reducible refine gate_dst (N := 12) rfl ?_); refine Kd.R_lit (Kd.int .u8) _ 5 ?hg (N := 12) ?hd (xs := ([] : List Int)) (inner := []) (ok := fun _ => True) (okp := fun _ => True) ?hr ?hp (fun _ hk => hk) trivial (Below.refl _ _) (Nat.le_refl _) (by simp) ?_; (case hd => rfl); (case hg => rfl); (case hr => first | (go_simp; done) | (go_simp; rfl)); (case hp => exact (Reps.none _ _)); intro v166 w3 ho4 hb hg_ hnew_; clear hg_ hnew_; (first | rw [← Ny165.out] at ho4 | (simp only [Int.reduceToNat] at ho4; rw [← Ny165.out] at ho4)); have n0_ := Aside0.mk (Kd.R_lower ho4 (below_size (by repeat (first | (with_reducible first | exact HB.out | apply below_alloc | apply pw_below_drewN | apply below_drew1) | exact HB.out)))); have n1_ := Aside0.mk (below_step (by repeat (first | (with_reducible first | exact HB.out | apply below_alloc | apply pw_below_drewN | apply below_drew1) | exact HB.out)) hb); clear HB; have HO167 := n0_; have HB := n1_; clear n0_ n1_; clear hb ho4))
  go_loopg [4, 5] k (fun kq v4 v5 w' => ∃ (x4_1 : List Int) (x5_1 : Int), v5 = .int .i64 x5_1 ∧ Aside0 (dominoref07_Unhex.l0 kq a0 x4_1 x5_1 = some (r1, r2)) ∧ Aside0 (kq ≤ k) ∧ Aside0 (Kd.R (Kd.int .u8) 5 w' w.heap.size (fun _ => True) v4 x4_1) ∧ Aside0 (Below w.heap.size w w'))
  case atStart => exact ⟨(y165), (0), (by first | rfl | (simp; done) | (simp [*]; done)), H', ⟨Nat.le_refl _⟩, ⟨by (with_reducible repeat (first | apply Kd.R_alloc | apply Kd.R_drewN | apply Kd.R_drew)); exact HO167.out⟩, ⟨by repeat (first | (with_reducible first | exact HB.out | apply below_alloc | apply pw_below_drewN | apply below_drew1) | exact HB.out)⟩⟩
  case round =>
   clear H'
   try clear c1
   try clear c2
   try clear c2b0
   try clear c2b1
   try clear p2
   obtain ⟨x4_1, x5_1, rfl, HA, HK1, HO_4, HB⟩ := hrel
   cases gk with
   | zero => exact absurd HA.out (by simp [dominoref07_Unhex.l0])
   | succ k1 =>
    have H := HA.out
    clear HA
    simp only [dominoref07_Unhex.l0] at H
    by_cases c5 : x5_1 < (a0.size : Int)
    ·rw [if_pos c5] at H
     have c5b0 : decide (x5_1 < (a0.size : Int)) = true := decide_eq_true c5
     clear c5
     have H' := Aside0.mk H
     clear H
     go_wp2
     go_loopg [6, 7] k1 (fun kq v6 v7 w' => ∃ (x6_2 : Int) (x7_2 : Int), v6 = .int .i64 x6_2 ∧ v7 = .int .i64 x7_2 ∧ Aside0 (dominoref07_Unhex.l1 kq a0 x4_1 x5_1 x6_2 x7_2 = some (r1, r2)) ∧ Aside0 (kq ≤ k1) ∧ Aside0 (Kd.R (Kd.int .u8) 5 w' w.heap.size (fun _ => True) u4 x4_1) ∧ Aside0 (Below w.heap.size w w'))
     case atStart => exact ⟨((-1)), (0), (by first | rfl | (simp; done) | (simp [*]; done)), (by first | rfl | (simp; done) | (simp [*]; done)), H', ⟨Nat.le_refl _⟩, ⟨by (with_reducible repeat (first | apply Kd.R_alloc | apply Kd.R_drewN | apply Kd.R_drew)); exact HO_4.out⟩, ⟨by repeat (first | (with_reducible first | exact HB.out | apply below_alloc | apply pw_below_drewN | apply below_drew1) | exact HB.out)⟩⟩
     case round =>
      clear H'
      try clear c1
      try clear c2
      try clear c2b0
      try clear c2b1
      try clear p2
      try clear c5
      try clear c5b0
      try clear p2
      obtain ⟨x6_2, x7_2, rfl, rfl, HA, HK2, HO_4, HB⟩ := hrel
      cases gk with
      | zero => exact absurd HA.out (by simp [dominoref07_Unhex.l1])
      | succ k2 =>
       have H := HA.out
       clear HA
       simp only [dominoref07_Unhex.l1] at H
       by_cases c6 : x7_2 < 256
       ·rw [if_pos c6] at H
        have c6b0 : decide (x7_2 < 256) = true := decide_eq_true c6
        clear c6
        obtain ⟨y168, hy168⟩ : ∃ y_ : List Int, y_ = (([(x7_2) % 256] : List Int)) := ⟨_, rfl⟩
        replace H : ((dominoref07_Hex.f k2 (strOfNums y168)).bind fun t171 => (if 0 ≤ x5_1 then (if x5_1 ≤ (wrap64 (x5_1 + 2)) then (if (wrap64 (x5_1 + 2)) ≤ (a0.size : Int) then (if t171.toList = (a0.extract (x5_1 : Int).toNat ((wrap64 (x5_1 + 2)) : Int).toNat).toList then (dominoref07_Unhex.l1 k2 a0 x4_1 x5_1 x7_2 (wrap64 (x7_2 + 1))) else (dominoref07_Unhex.l1 k2 a0 x4_1 x5_1 x6_2 (wrap64 (x7_2 + 1)))) else (none)) else (none)) else (none))) = some (r1, r2) := by first | (rw [hy168]; with_reducible exact H) | (have H2_ := (Option.bind_some _ _).symm.trans H; rw [hy168]; with_reducible exact H2_) | (have H2_ := (Option.bind_some _ _).symm.trans H; with_reducible exact H2_) | with_reducible exact H | (rw [hy168]; exact H) | exact H
        have Ny168 := Aside0.mk hy168
        clear hy168
        replace H := Option.bind_eq_some_iff.mp H
        obtain ⟨t171, A70, H⟩ := H
        replace H : (if 0 ≤ x5_1 then (if x5_1 ≤ (wrap64 (x5_1 + 2)) then (if (wrap64 (x5_1 + 2)) ≤ (a0.size : Int) then (if t171.toList = (a0.extract (x5_1 : Int).toNat ((wrap64 (x5_1 + 2)) : Int).toNat).toList then (dominoref07_Unhex.l1 k2 a0 x4_1 x5_1 x7_2 (wrap64 (x7_2 + 1))) else (dominoref07_Unhex.l1 k2 a0 x4_1 x5_1 x6_2 (wrap64 (x7_2 + 1)))) else (none)) else (none)) else (none)) = some (r1, r2) := H
        have A7 := Aside0.mk A70
        clear A70
        by_cases c8 : 0 ≤ x5_1
        ·rw [if_pos c8] at H
         have c8b0 := eq_true c8
         have c8b1 : decide (0 ≤ x5_1) = true := decide_eq_true c8
         clear c8
         by_cases c9 : x5_1 ≤ (wrap64 (x5_1 + 2))
         ·rw [if_pos c9] at H
          have c9b0 := eq_true c9
          have c9b1 : decide (x5_1 ≤ (wrap64 (x5_1 + 2))) = true := decide_eq_true c9
          by_cases c10 : (wrap64 (x5_1 + 2)) ≤ (a0.size : Int)
          ·rw [if_pos c10] at H
           have c10b0 := eq_true c10
           have c10b1 : decide ((wrap64 (x5_1 + 2)) ≤ (a0.size : Int)) = true := decide_eq_true c10
           by_cases c11 : t171.toList = (a0.extract (x5_1 : Int).toNat ((wrap64 (x5_1 + 2)) : Int).toNat).toList
           ·rw [if_pos c11] at H
            have c11b0 : (t171.toList == (a0.extract (x5_1 : Int).toNat ((wrap64 (x5_1 + 2)) : Int).toNat).toList) = true := beq_iff_eq.mpr c11
            have c11b1 : (t171.toList != (a0.extract (x5_1 : Int).toNat ((wrap64 (x5_1 + 2)) : Int).toNat).toList) = false := bne_eq_false_iff_eq.mpr c11
            clear c11
            have H' := Aside0.mk H
            clear H
            try go_wp2
            have n0_ := Aside0.mk (Kd.R_drew HO_4.out)
            have n1_ := Aside0.mk (below_drew1 HB.out)
            clear HO_4
            clear HB
            have HO_4 := n0_
            have HB := n1_
            clear n0_ n1_
            refine start_ (n := 11) (S := fun w' => True) (ds := []) #[false,false,false,false,false,false,false,false,false,false,false] (by kernel_rfl) rfl rfl trivial (fun hHeld => ?_); refine with_tabW dominoref07_Unhex.tab11 dominoref07_Unhex.bits11 (fun HT_ HW_ => ?_)
            generalize wr.drew = w12 at HO_4 HB hHeld ⊢
            refine pure_ (i := 0) (N := some 23) (v := ?_) (a' := ?_) #[true,false,false,false,false,false,false,false,false,false,false] rfl rfl (any_of HT_.out (by kernel_rfl)) (fun _ _ _ h => h) (Or.inl ⟨by rfl, ?_⟩) ?_ ?_
            rotate_left;(intro w';go_simp;with_reducible rfl);rotate_left;(simp only [Act.put, List.setIfInBounds_toArray, List.set_cons_zero, List.set_cons_succ, i64_w, i32_w];rfl)
            refine pure_ (i := 1) (N := some 24) (v := ?_) (a' := ?_) #[true,true,false,false,false,false,false,false,false,false,false] rfl rfl (any_of HT_.out (by kernel_rfl)) (fun _ _ _ h => h) (Or.inl ⟨by rfl, ?_⟩) ?_ ?_
            rotate_left;(intro w';go_simp;with_reducible rfl);rotate_left;(simp only [Act.put, List.setIfInBounds_toArray, List.set_cons_zero, List.set_cons_succ, i64_w, i32_w];rfl)
            refine pure_ (i := 5) (N := some 28) (v := ?_) (a' := ?_) #[true,true,false,false,false,true,false,false,false,false,false] rfl rfl (any_of HT_.out (by kernel_rfl)) (fun _ _ _ h => h) (Or.inl ⟨by rfl, ?_⟩) ?_ ?_
            rotate_left;(intro w';go_simp;with_reducible rfl);rotate_left;(simp only [Act.put, List.setIfInBounds_toArray, List.set_cons_zero, List.set_cons_succ, i64_w, i32_w];rfl)
            refine pure_ (i := 6) (N := some 29) (v := ?_) (a' := ?_) #[true,true,false,false,false,true,true,false,false,false,false] rfl rfl (any_of HT_.out (by kernel_rfl)) (fun _ _ _ h => h) (Or.inl ⟨by rfl, ?_⟩) ?_ ?_
            rotate_left;(intro w';go_simp;with_reducible rfl);rotate_left;(simp only [Act.put, List.setIfInBounds_toArray, List.set_cons_zero, List.set_cons_succ, i64_w, i32_w];rfl)
            refine pure_ (i := 7) (N := some 30) (v := ?_) (a' := ?_) #[true,true,false,false,false,true,true,true,false,false,false] rfl rfl (any_of HT_.out (by kernel_rfl)) (fun _ _ _ h => h) (Or.inl ⟨by rfl, ?_⟩) ?_ ?_
            rotate_left;(intro w';go_simp;with_reducible rfl);rotate_left;(simp only [Act.put, List.setIfInBounds_toArray, List.set_cons_zero, List.set_cons_succ, i64_w, i32_w];rfl)
            refine pure_ (i := 8) (N := some 31) (v := ?_) (a' := ?_) #[true,true,false,false,false,true,true,true,true,false,false] rfl rfl (any_of HT_.out (by kernel_rfl)) (fun _ _ _ h => h) (Or.inl ⟨by rfl, ?_⟩) ?_ ?_
            rotate_left;(intro w';go_simp;with_reducible rfl);rotate_left;(simp only [Act.put, List.setIfInBounds_toArray, List.set_cons_zero, List.set_cons_succ, i64_w, i32_w];rfl)
            refine pure_ (i := 9) (N := some 32) (v := ?_) (a' := ?_) #[true,true,false,false,false,true,true,true,true,true,false] rfl rfl (any_of HT_.out (by kernel_rfl)) (fun _ _ _ h => h) (Or.inl ⟨by rfl, ?_⟩) ?_ ?_
            rotate_left;(intro w';go_simp;with_reducible rfl);rotate_left;(simp only [Act.put, List.setIfInBounds_toArray, List.set_cons_zero, List.set_cons_succ, i64_w, i32_w];rfl)
            refine one_ (i := 2) (N := some 25) #[true,true,true,false,false,true,true,true,true,true,false] rfl rfl (one_of HT_.out (by kernel_rfl)) (by decide) (fun K hK => ?_)
            refine Kd.R_lit_step (Kd.int .u8) _ 5 ?hg (N := 25) ?hd (xs := ([(x7_2) % 256] : List Int)) (inner := [.int .u8 ((x7_2) % 256)]) (ok := fun _ => True) (okp := fun _ => True) ?hr ?hp (fun _ hk => hk) trivial (Below.refl _ _) (Nat.le_refl _) (by simp) ?_; (case hd => rfl); (case hg => rfl); (case hr => first | (go_simp; done) | (go_simp; rfl)); (case hp => exact (Reps.one (show Kd.M (Kd.int .u8) _ _ _ ((x7_2) % 256) [.int .u8 ((x7_2) % 256)] from rfl) (Reps.none _ _)))
            intro v169 w13 ho14 hb hg_ hnew_
            clear hg_ hnew_
            (first | rw [← Ny168.out] at ho14 | (simp only [Int.reduceToNat] at ho14; rw [← Ny168.out] at ho14))
            have n0_ := Aside0.mk (Kd.R_elder' (by (with_reducible repeat (first | apply Kd.R_alloc | apply Kd.R_drewN | apply Kd.R_drew)); exact HO_4.out) (Kd.R_base ho14) hb)
            have n1_ := Aside0.mk (Kd.R_lower (Kd.R_new' ho14 (Kd.R_lt (by (with_reducible repeat (first | apply Kd.R_alloc | apply Kd.R_drewN | apply Kd.R_drew)); exact HO_4.out))) (below_size (by repeat (first | (with_reducible first | exact HB.out | apply below_alloc | apply pw_below_drewN | apply below_drew1) | exact HB.out))))
            have n2_ := Aside0.mk (below_step (by repeat (first | (with_reducible first | exact HB.out | apply below_alloc | apply pw_below_drewN | apply below_drew1) | exact HB.out)) hb)
            clear HO_4
            clear HB
            have HO_4 := n0_
            have HO170 := n1_
            have HB := n2_
            clear n0_ n1_ n2_
            clear hb ho14
            refine hK.out _ _ trivial (fun hHeld => ?_)
            clear hK K
            refine norm_ (a' := ?_) ?_ ?_
            rotate_left
            ·show Act.put _ (some 25) _ = _
             simp only [Act.put, List.setIfInBounds_toArray, List.set_cons_zero, List.set_cons_succ, i64_w, i32_w]
             rfl
            refine one_ (i := 3) (N := some 26) #[true,true,true,true,false,true,true,true,true,true,false] rfl rfl (one_of HT_.out (by kernel_rfl)) (by decide) (fun K hK => ?_)
            have hcv15 := own_string (P := Try.prog) Try.underlying39 Try.underlying5 Try.underlying9 (Kd.own_of_R HO170.out)
            refine value_ (w1 := ?_) (v := ?_) (by rfl) rfl ?_ ?_
            rotate_left 2
            ·go_simp
             constructor
             ·rfl
             ·rfl
            clear hcv15
            refine hK.out _ _ trivial (fun hHeld => ?_)
            clear hK K
            refine norm_ (a' := ?_) ?_ ?_
            rotate_left
            ·show Act.put _ (some 26) _ = _
             simp only [Act.put, List.setIfInBounds_toArray, List.set_cons_zero, List.set_cons_succ, i64_w, i32_w]
             rfl
            refine one_ (i := 4) (N := some 27) #[true,true,true,true,true,true,true,true,true,true,false] rfl rfl (one_of HT_.out (by kernel_rfl)) (by decide) (fun K hK => ?_)
            refine goes_ Try.func18 (by kernel_rfl) rfl #[.string (strOfNums y168)] (by rfl) rfl rfl (by (try simp only [List.map_toArray, List.map_cons, List.map_nil]); first | done | rfl | (simp only [List.length_drop, List.length_take]; rfl)) ?_
            with_reducible refine (dominoref07_Hex.calls k2 (strOfNums y168) t171 _ A7.out).mono ?_
            rintro e w16 ⟨rfl, hb⟩
            refine ⟨_, rfl, ?_⟩
            have n0_ := Aside0.mk (Kd.R_below (by (with_reducible repeat (first | apply Kd.R_alloc | apply Kd.R_drewN | apply Kd.R_drew)); exact HO_4.out) hb)
            have n1_ := Aside0.mk (Kd.R_below (by (with_reducible repeat (first | apply Kd.R_alloc | apply Kd.R_drewN | apply Kd.R_drew)); exact HO170.out) hb)
            have n2_ := Aside0.mk (below_step (by repeat (first | (with_reducible first | exact HB.out | apply below_alloc | apply pw_below_drewN | apply below_drew1) | exact HB.out)) hb)
            clear HO_4
            clear HO170
            clear HB
            have HO_4 := n0_
            have HO170 := n1_
            have HB := n2_
            clear n0_ n1_ n2_
            (try clear hb)
            (try clear hb2)
            (try clear hk)
            (try clear hi)
            refine hK.out _ _ trivial (fun hHeld => ?_)
            clear hK K
            refine norm_ (a' := ?_) ?_ ?_
            rotate_left
            ·show Act.put _ (some 27) _ = _
             simp only [Act.put, List.setIfInBounds_toArray, List.set_cons_zero, List.set_cons_succ, i64_w, i32_w]
             rfl
            refine pure_ (i := 10) (N := some 33) (v := ?_) (a' := ?_) #[true,true,true,true,true,true,true,true,true,true,true] rfl rfl (any_of HT_.out (by kernel_rfl)) (fun _ _ _ h => h) (Or.inl ⟨by rfl, ?_⟩) ?_ ?_
            rotate_left;(intro w';go_simp;with_reducible rfl);rotate_left;(simp only [Act.put, List.setIfInBounds_toArray, List.set_cons_zero, List.set_cons_succ, i64_w, i32_w];rfl)
            refine done_ (done_of HT_.out (by kernel_rfl)) ?_
            try go_wp2
            go_roundg k2
            case measure => have := HK1.out; have := HK2.out; omega
            case rel => exact ⟨(x7_2), (wrap64 (x7_2 + 1)), (by first | rfl | (simp; done) | (simp [*]; done)), (by first | rfl | (simp; done) | (simp [*]; done)), H', ⟨by have := HK1.out; have := HK2.out; omega⟩, ⟨by (with_reducible repeat (first | apply Kd.R_alloc | apply Kd.R_drewN | apply Kd.R_drew)); exact Kd.R_mono HO_4.out (fun _ hk => trivial)⟩, ⟨by repeat (first | (with_reducible first | exact HB.out | apply below_alloc | apply pw_below_drewN | apply below_drew1) | exact HB.out)⟩⟩
           ·rw [if_neg c11] at H
            have c11b0 : (t171.toList == (a0.extract (x5_1 : Int).toNat ((wrap64 (x5_1 + 2)) : Int).toNat).toList) = false := beq_eq_false_iff_ne.mpr c11
            have c11b1 : (t171.toList != (a0.extract (x5_1 : Int).toNat ((wrap64 (x5_1 + 2)) : Int).toNat).toList) = true := bne_iff_ne.mpr c11
            have H' := Aside0.mk H
            clear H
            try go_wp2
            have n0_ := Aside0.mk (Kd.R_drew HO_4.out)
            have n1_ := Aside0.mk (below_drew1 HB.out)
            clear HO_4
            clear HB
            have HO_4 := n0_
            have HB := n1_
            clear n0_ n1_
            refine start_ (n := 11) (S := fun w' => True) (ds := []) #[false,false,false,false,false,false,false,false,false,false,false] (by kernel_rfl) rfl rfl trivial (fun hHeld => ?_); refine with_tabW dominoref07_Unhex.tab11 dominoref07_Unhex.bits11 (fun HT_ HW_ => ?_)
            generalize wr.drew = w17 at HO_4 HB hHeld ⊢
            refine pure_ (i := 0) (N := some 23) (v := ?_) (a' := ?_) #[true,false,false,false,false,false,false,false,false,false,false] rfl rfl (any_of HT_.out (by kernel_rfl)) (fun _ _ _ h => h) (Or.inl ⟨by rfl, ?_⟩) ?_ ?_
            rotate_left;(intro w';go_simp;with_reducible rfl);rotate_left;(simp only [Act.put, List.setIfInBounds_toArray, List.set_cons_zero, List.set_cons_succ, i64_w, i32_w];rfl)
            refine pure_ (i := 1) (N := some 24) (v := ?_) (a' := ?_) #[true,true,false,false,false,false,false,false,false,false,false] rfl rfl (any_of HT_.out (by kernel_rfl)) (fun _ _ _ h => h) (Or.inl ⟨by rfl, ?_⟩) ?_ ?_
            rotate_left;(intro w';go_simp;with_reducible rfl);rotate_left;(simp only [Act.put, List.setIfInBounds_toArray, List.set_cons_zero, List.set_cons_succ, i64_w, i32_w];rfl)
            refine pure_ (i := 5) (N := some 28) (v := ?_) (a' := ?_) #[true,true,false,false,false,true,false,false,false,false,false] rfl rfl (any_of HT_.out (by kernel_rfl)) (fun _ _ _ h => h) (Or.inl ⟨by rfl, ?_⟩) ?_ ?_
            rotate_left;(intro w';go_simp;with_reducible rfl);rotate_left;(simp only [Act.put, List.setIfInBounds_toArray, List.set_cons_zero, List.set_cons_succ, i64_w, i32_w];rfl)
            refine pure_ (i := 6) (N := some 29) (v := ?_) (a' := ?_) #[true,true,false,false,false,true,true,false,false,false,false] rfl rfl (any_of HT_.out (by kernel_rfl)) (fun _ _ _ h => h) (Or.inl ⟨by rfl, ?_⟩) ?_ ?_
            rotate_left;(intro w';go_simp;with_reducible rfl);rotate_left;(simp only [Act.put, List.setIfInBounds_toArray, List.set_cons_zero, List.set_cons_succ, i64_w, i32_w];rfl)
            refine pure_ (i := 7) (N := some 30) (v := ?_) (a' := ?_) #[true,true,false,false,false,true,true,true,false,false,false] rfl rfl (any_of HT_.out (by kernel_rfl)) (fun _ _ _ h => h) (Or.inl ⟨by rfl, ?_⟩) ?_ ?_
            rotate_left;(intro w';go_simp;with_reducible rfl);rotate_left;(simp only [Act.put, List.setIfInBounds_toArray, List.set_cons_zero, List.set_cons_succ, i64_w, i32_w];rfl)
            refine pure_ (i := 8) (N := some 31) (v := ?_) (a' := ?_) #[true,true,false,false,false,true,true,true,true,false,false] rfl rfl (any_of HT_.out (by kernel_rfl)) (fun _ _ _ h => h) (Or.inl ⟨by rfl, ?_⟩) ?_ ?_
            rotate_left;(intro w';go_simp;with_reducible rfl);rotate_left;(simp only [Act.put, List.setIfInBounds_toArray, List.set_cons_zero, List.set_cons_succ, i64_w, i32_w];rfl)
            refine pure_ (i := 9) (N := some 32) (v := ?_) (a' := ?_) #[true,true,false,false,false,true,true,true,true,true,false] rfl rfl (any_of HT_.out (by kernel_rfl)) (fun _ _ _ h => h) (Or.inl ⟨by rfl, ?_⟩) ?_ ?_
            rotate_left;(intro w';go_simp;with_reducible rfl);rotate_left;(simp only [Act.put, List.setIfInBounds_toArray, List.set_cons_zero, List.set_cons_succ, i64_w, i32_w];rfl)
            refine one_ (i := 2) (N := some 25) #[true,true,true,false,false,true,true,true,true,true,false] rfl rfl (one_of HT_.out (by kernel_rfl)) (by decide) (fun K hK => ?_)
            refine Kd.R_lit_step (Kd.int .u8) _ 5 ?hg (N := 25) ?hd (xs := ([(x7_2) % 256] : List Int)) (inner := [.int .u8 ((x7_2) % 256)]) (ok := fun _ => True) (okp := fun _ => True) ?hr ?hp (fun _ hk => hk) trivial (Below.refl _ _) (Nat.le_refl _) (by simp) ?_; (case hd => rfl); (case hg => rfl); (case hr => first | (go_simp; done) | (go_simp; rfl)); (case hp => exact (Reps.one (show Kd.M (Kd.int .u8) _ _ _ ((x7_2) % 256) [.int .u8 ((x7_2) % 256)] from rfl) (Reps.none _ _)))
            intro v169 w18 ho19 hb hg_ hnew_
            clear hg_ hnew_
            (first | rw [← Ny168.out] at ho19 | (simp only [Int.reduceToNat] at ho19; rw [← Ny168.out] at ho19))
            have n0_ := Aside0.mk (Kd.R_elder' (by (with_reducible repeat (first | apply Kd.R_alloc | apply Kd.R_drewN | apply Kd.R_drew)); exact HO_4.out) (Kd.R_base ho19) hb)
            have n1_ := Aside0.mk (Kd.R_lower (Kd.R_new' ho19 (Kd.R_lt (by (with_reducible repeat (first | apply Kd.R_alloc | apply Kd.R_drewN | apply Kd.R_drew)); exact HO_4.out))) (below_size (by repeat (first | (with_reducible first | exact HB.out | apply below_alloc | apply pw_below_drewN | apply below_drew1) | exact HB.out))))
            have n2_ := Aside0.mk (below_step (by repeat (first | (with_reducible first | exact HB.out | apply below_alloc | apply pw_below_drewN | apply below_drew1) | exact HB.out)) hb)
            clear HO_4
            clear HB
            have HO_4 := n0_
            have HO170 := n1_
            have HB := n2_
            clear n0_ n1_ n2_
            clear hb ho19
            refine hK.out _ _ trivial (fun hHeld => ?_)
            clear hK K
            refine norm_ (a' := ?_) ?_ ?_
            rotate_left
            ·show Act.put _ (some 25) _ = _
             simp only [Act.put, List.setIfInBounds_toArray, List.set_cons_zero, List.set_cons_succ, i64_w, i32_w]
             rfl
            refine one_ (i := 3) (N := some 26) #[true,true,true,true,false,true,true,true,true,true,false] rfl rfl (one_of HT_.out (by kernel_rfl)) (by decide) (fun K hK => ?_)
            have hcv20 := own_string (P := Try.prog) Try.underlying39 Try.underlying5 Try.underlying9 (Kd.own_of_R HO170.out)
            refine value_ (w1 := ?_) (v := ?_) (by rfl) rfl ?_ ?_
            rotate_left 2
            ·go_simp
             constructor
             ·rfl
             ·rfl
            clear hcv20
            refine hK.out _ _ trivial (fun hHeld => ?_)
            clear hK K
            refine norm_ (a' := ?_) ?_ ?_
            rotate_left
            ·show Act.put _ (some 26) _ = _
             simp only [Act.put, List.setIfInBounds_toArray, List.set_cons_zero, List.set_cons_succ, i64_w, i32_w]
             rfl
            refine one_ (i := 4) (N := some 27) #[true,true,true,true,true,true,true,true,true,true,false] rfl rfl (one_of HT_.out (by kernel_rfl)) (by decide) (fun K hK => ?_)
            refine goes_ Try.func18 (by kernel_rfl) rfl #[.string (strOfNums y168)] (by rfl) rfl rfl (by (try simp only [List.map_toArray, List.map_cons, List.map_nil]); first | done | rfl | (simp only [List.length_drop, List.length_take]; rfl)) ?_
            with_reducible refine (dominoref07_Hex.calls k2 (strOfNums y168) t171 _ A7.out).mono ?_
            rintro e w21 ⟨rfl, hb⟩
            refine ⟨_, rfl, ?_⟩
            have n0_ := Aside0.mk (Kd.R_below (by (with_reducible repeat (first | apply Kd.R_alloc | apply Kd.R_drewN | apply Kd.R_drew)); exact HO_4.out) hb)
            have n1_ := Aside0.mk (Kd.R_below (by (with_reducible repeat (first | apply Kd.R_alloc | apply Kd.R_drewN | apply Kd.R_drew)); exact HO170.out) hb)
            have n2_ := Aside0.mk (below_step (by repeat (first | (with_reducible first | exact HB.out | apply below_alloc | apply pw_below_drewN | apply below_drew1) | exact HB.out)) hb)
            clear HO_4
            clear HO170
            clear HB
            have HO_4 := n0_
            have HO170 := n1_
            have HB := n2_
            clear n0_ n1_ n2_
            (try clear hb)
            (try clear hb2)
            (try clear hk)
            (try clear hi)
            refine hK.out _ _ trivial (fun hHeld => ?_)
            clear hK K
            refine norm_ (a' := ?_) ?_ ?_
            rotate_left
            ·show Act.put _ (some 27) _ = _
             simp only [Act.put, List.setIfInBounds_toArray, List.set_cons_zero, List.set_cons_succ, i64_w, i32_w]
             rfl
            refine pure_ (i := 10) (N := some 33) (v := ?_) (a' := ?_) #[true,true,true,true,true,true,true,true,true,true,true] rfl rfl (any_of HT_.out (by kernel_rfl)) (fun _ _ _ h => h) (Or.inl ⟨by rfl, ?_⟩) ?_ ?_
            rotate_left;(intro w';go_simp;with_reducible rfl);rotate_left;(simp only [Act.put, List.setIfInBounds_toArray, List.set_cons_zero, List.set_cons_succ, i64_w, i32_w];rfl)
            refine done_ (done_of HT_.out (by kernel_rfl)) ?_
            try go_wp2
            go_roundg k2
            case measure => have := HK1.out; have := HK2.out; omega
            case rel => exact ⟨(x6_2), (wrap64 (x7_2 + 1)), (by first | rfl | (simp; done) | (simp [*]; done)), (by first | rfl | (simp; done) | (simp [*]; done)), H', ⟨by have := HK1.out; have := HK2.out; omega⟩, ⟨by (with_reducible repeat (first | apply Kd.R_alloc | apply Kd.R_drewN | apply Kd.R_drew)); exact Kd.R_mono HO_4.out (fun _ hk => trivial)⟩, ⟨by repeat (first | (with_reducible first | exact HB.out | apply below_alloc | apply pw_below_drewN | apply below_drew1) | exact HB.out)⟩⟩
          ·rw [if_neg c10] at H
           exact absurd H (by simp)
         ·rw [if_neg c9] at H
          exact absurd H (by simp)
        ·rw [if_neg c8] at H
         exact absurd H (by simp)
       ·rw [if_neg c6] at H
        have c6b0 : decide (x7_2 < 256) = false := decide_eq_false c6
        clear c6
        by_cases c22 : x6_2 < 0
        ·rw [if_pos c22] at H
         have c22b0 : decide (x6_2 < 0) = true := decide_eq_true c22
         clear c22
         simp only [Option.some.injEq, Prod.mk.injEq] at H
         obtain ⟨rfl, rfl⟩ := H
         go_wp2
         go_ret2
         exact ⟨by first | rfl | (simp [errW_none, errW_some] <;> rfl) | (simp [*, errW_none, errW_some] <;> rfl), by repeat (first | (with_reducible first | exact HB.out | apply below_alloc | apply pw_below_drewN | apply below_drew1) | exact HB.out)⟩
        ·rw [if_neg c22] at H
         have c22b0 : decide (x6_2 < 0) = false := decide_eq_false c22
         clear c22
         by_cases c23 : x4_1.length < 140737488355328
         ·rw [if_pos c23] at H
          have LMc23 := Aside0.mk c23
          clear c23
          obtain ⟨y172, hy172⟩ : ∃ y_ : List Int, y_ = (x4_1 ++ [(x6_2) % 256]) := ⟨_, rfl⟩
          replace H : (dominoref07_Unhex.l0 k2 a0 y172 (wrap64 (x5_1 + 2))) = some (r1, r2) := by first | (rw [hy172]; with_reducible exact H) | (have H2_ := (Option.bind_some _ _).symm.trans H; rw [hy172]; with_reducible exact H2_) | (have H2_ := (Option.bind_some _ _).symm.trans H; with_reducible exact H2_) | with_reducible exact H | (rw [hy172]; exact H) | exact H
          have Ny172 := Aside0.mk hy172
          clear hy172
          have H' := Aside0.mk H
          clear H
          go_wp2_with (first | ((with_reducible refine gate_builtin (b := .append) (xs := #[.tmp 37, .tmp 40]) rfl ?_); at_builtin; refine Kd.R_append (Kd.int .u8) (w0 := w) w.heap.size rfl (.tmp 37) (.tmp 40) 39 5 (.int .u8 0) 1 rfl Try.underlying39 info5 rfl (by decide) (by omega) u4 x4_1 ((x6_2) % 256) [.int .u8 ((x6_2) % 256)] (fun _ => True) (fun _ => False) rfl rfl ?aP (fun _ hk => hk.elim) ?aF ?aO ?aB ?aS ?aL ?_; (case aP => exact rfl); (case aB => exact (by repeat (first | (with_reducible first | exact HB.out | apply below_alloc | apply pw_below_drewN | apply below_drew1) | exact HB.out))); (case aF => exact (fun _ _ => trivial)); (case aO => exact (by (with_reducible repeat (first | apply Kd.R_alloc | apply Kd.R_drewN | apply Kd.R_drew)); exact HO_4.out)); (case aS => exact (below_size (by repeat (first | (with_reducible first | exact HB.out | apply below_alloc | apply pw_below_drewN | apply below_drew1) | exact HB.out)))); (case aL => have := LMc23.out; omega); intro v173 w24 ho hb hg hat; rw [← Ny172.out] at ho; have n0_ := Aside0.mk (hb); have n1_ := Aside0.mk (ho); clear HB; clear HO_4; have HB := n0_; have HO174 := n1_; clear n0_ n1_; clear ho hb hg hat))
          go_roundg k2
          case measure => have := HK1.out; have := HK2.out; omega
          case rel => exact ⟨(y172), (wrap64 (x5_1 + 2)), (by first | rfl | (simp; done) | (simp [*]; done)), H', ⟨by have := HK1.out; have := HK2.out; omega⟩, ⟨by (with_reducible repeat (first | apply Kd.R_alloc | apply Kd.R_drewN | apply Kd.R_drew)); exact HO174.out⟩, ⟨by repeat (first | (with_reducible first | exact HB.out | apply below_alloc | apply pw_below_drewN | apply below_drew1) | exact HB.out)⟩⟩
         ·rw [if_neg c23] at H
          exact absurd H (by simp)
    ·rw [if_neg c5] at H
     have c5b0 : decide (x5_1 < (a0.size : Int)) = false := decide_eq_false c5
     clear c5
     simp only [Option.some.injEq, Prod.mk.injEq] at H
     obtain ⟨rfl, rfl⟩ := H
     have hcv25 := own_string (P := Try.prog) Try.underlying39 Try.underlying5 Try.underlying9 (Kd.own_of_R HO_4.out)
     go_wp2
     go_ret2
     exact ⟨by first | rfl | (simp [errW_none, errW_some] <;> rfl) | (simp [*, errW_none, errW_some] <;> rfl), by repeat (first | (with_reducible first | exact HB.out | apply below_alloc | apply pw_below_drewN | apply below_drew1) | exact HB.out)⟩
 ·rw [if_neg c2] at H
  have c2b0 : (((a0.size : Int) % 2) == 0) = false := beq_eq_false_iff_ne.mpr c2
  have c2b1 : (((a0.size : Int) % 2) != 0) = true := bne_iff_ne.mpr c2
  simp only [Option.some.injEq, Prod.mk.injEq] at H
  obtain ⟨rfl, rfl⟩ := H
  go_enter Try.func17, Try.ntmps17
  go_wp2
  go_ret2
  exact ⟨by first | rfl | (simp [errW_none, errW_some] <;> rfl) | (simp [*, errW_none, errW_some] <;> rfl), by repeat (first | (with_reducible first | exact HB.out | apply below_alloc | apply pw_below_drewN | apply below_drew1) | exact HB.out)⟩

/-! ### dominolaw07_DigestHex: function 7 -/
def dominolaw07_DigestHex.j0 : Nat → ByteArray → ByteArray → Bool → Option (Bool)
 | 0, _, _, _ => none
 | k + 1, x0, x1, x22 => if x22 = true then ((dominolaw07_shown.f).bind fun t176 => (some t176)) else ((digest_Unhex.f x1).bind fun bt177 => ((dominoref07_Unhex.f k x1).bind fun bt179 => ((digest_Hex.f x0).bind fun t181 => ((digest_Unhex.f t181).bind fun bt182 => ((dominoref07_Hex.f k x0).bind fun t184 => (if t181.toList = t184.toList then (if bt177.1.toList = bt179.1.toList then (if (bt177.2 == bt179.2) = true then (if bt182.1.toList = x0.toList then (some bt182.2) else (none)) else (none)) else (none)) else (none)))))))
def dominolaw07_DigestHex.f (k : Nat) (a0 : ByteArray) (a1 : ByteArray) : Option (Bool) := if (a0.size : Int) > 300 then (dominolaw07_DigestHex.j0 k a0 a1 true) else (if (a1.size : Int) > 100 then (dominolaw07_DigestHex.j0 k a0 a1 true) else ((dominolaw07_shown.f).bind fun t175 => (dominolaw07_DigestHex.j0 k a0 a1 (!t175))))
theorem dominolaw07_DigestHex.mono_l : ∀ k, (∀ y0 y1 y2, LeO (dominolaw07_DigestHex.j0 k y0 y1 y2) (dominolaw07_DigestHex.j0 (k + 1) y0 y1 y2))
 | 0 => fun _ _ _ r h => by simp [dominolaw07_DigestHex.j0] at h
 | k + 1 => by
  have ih0 := dominolaw07_DigestHex.mono_l k
  ·intro y0 y1 y2
   unfold dominolaw07_DigestHex.j0
   repeat' first
   | (with_reducible exact ih0 _ _ _)
   | (with_reducible exact dominoref07_Hex.mono _ _)
   | (with_reducible exact dominoref07_Unhex.mono _ _)
   | (with_reducible exact LeO.refl _)
   | (with_reducible exact LeO.none _)
   | (with_reducible refine LeO.ite ?_ ?_)
   | (with_reducible refine LeO.bind ?_ (fun _ => ?_))
   | exact ih0 _ _ _
   | exact dominoref07_Hex.mono _ _
   | exact dominoref07_Unhex.mono _ _
   | exact LeO.none _
   | refine LeO.ite ?_ ?_
   | refine LeO.bind ?_ (fun _ => ?_)
theorem dominolaw07_DigestHex.mono : ∀ a0 a1 k, LeO (dominolaw07_DigestHex.f k a0 a1) (dominolaw07_DigestHex.f (k + 1) a0 a1) := by
 intro a0 a1 k
 have ih0 := dominolaw07_DigestHex.mono_l k
 unfold dominolaw07_DigestHex.f
 repeat' first
   | (with_reducible exact ih0 _ _ _)
   | (with_reducible exact dominoref07_Hex.mono _ _)
   | (with_reducible exact dominoref07_Unhex.mono _ _)
   | (with_reducible exact LeO.refl _)
   | (with_reducible exact LeO.none _)
   | (with_reducible refine LeO.ite ?_ ?_)
   | (with_reducible refine LeO.bind ?_ (fun _ => ?_))
   | exact ih0 _ _ _
   | exact dominoref07_Hex.mono _ _
   | exact dominoref07_Unhex.mono _ _
   | exact LeO.none _
   | refine LeO.ite ?_ ?_
   | refine LeO.bind ?_ (fun _ => ?_)
set_option maxHeartbeats 8000000 in
set_option maxRecDepth 100000 in
theorem dominolaw07_DigestHex.calls (k : Nat) (a0 : ByteArray) (a1 : ByteArray) (r : Bool) (w : World) (h : dominolaw07_DigestHex.f k a0 a1 = some r) :
  Calls Try.prog 7 #[.string a0, .string a1] w fun e w' => e = .returned (.bool r) ∧ Below w.heap.size w w' := by
 have HB := Aside0.mk (Below.refl w.heap.size w)
 have H : (if (a0.size : Int) > 300 then (dominolaw07_DigestHex.j0 k a0 a1 true) else (if (a1.size : Int) > 100 then (dominolaw07_DigestHex.j0 k a0 a1 true) else ((dominolaw07_shown.f).bind fun t175 => (dominolaw07_DigestHex.j0 k a0 a1 (!t175))))) = some r := h
 clear h
 have HC3 := Aside0.mk H
 clear H
 go_enter Try.func7, Try.ntmps7
 go_upto_region 1 with (fail)
 go_cut [22] (fun v22 wc => ∃ (kq : Nat) (x22_2 : Bool), v22 = .bool x22_2 ∧ Aside0 (dominolaw07_DigestHex.j0 kq a0 a1 x22_2 = some r) ∧ Aside0 (kq ≤ k) ∧ Aside0 (Below w.heap.size w wc))
 case first =>
  have H := HC3.out
  clear HC3
  by_cases c4 : (a0.size : Int) > 300
  ·rw [if_pos c4] at H
   have c4b0 : decide (300 < (a0.size : Int)) = true := decide_eq_true c4
   have c4b1 : decide (300 < a0.size) = true := decide_eq_true (by omega)
   clear c4
   (first | rw [c4b0] | (simp only [i64_w, i32_w]; rw [c4b0]) | skip)
   have H' := Aside0.mk H
   clear H
   go_wp2
   go_meet
   case rel => exact ⟨_, (true), (by first | rfl | (simp; done) | (simp [*]; done)), H', ⟨by first | omega | exact Nat.le_refl _⟩, ⟨by repeat (first | (with_reducible first | exact HB.out | apply below_alloc | apply pw_below_drewN | apply below_drew1) | exact HB.out)⟩⟩
  ·rw [if_neg c4] at H
   have c4b0 : decide (300 < (a0.size : Int)) = false := decide_eq_false c4
   have c4b1 : decide (300 < a0.size) = false := decide_eq_false (by omega)
   clear c4
   (first | rw [c4b0] | (simp only [i64_w, i32_w]; rw [c4b0]) | skip)
   by_cases c5 : (a1.size : Int) > 100
   ·rw [if_pos c5] at H
    have c5b0 : decide (100 < (a1.size : Int)) = true := decide_eq_true c5
    have c5b1 : decide (100 < a1.size) = true := decide_eq_true (by omega)
    clear c5
    have H' := Aside0.mk H
    clear H
    go_wp2
    go_meet
    case rel => exact ⟨_, (true), (by first | rfl | (simp; done) | (simp [*]; done)), H', ⟨by first | omega | exact Nat.le_refl _⟩, ⟨by repeat (first | (with_reducible first | exact HB.out | apply below_alloc | apply pw_below_drewN | apply below_drew1) | exact HB.out)⟩⟩
   ·rw [if_neg c5] at H
    have c5b0 : decide (100 < (a1.size : Int)) = false := decide_eq_false c5
    have c5b1 : decide (100 < a1.size) = false := decide_eq_false (by omega)
    clear c5
    replace H := Option.bind_eq_some_iff.mp H
    obtain ⟨t175, A60, H⟩ := H
    replace H : (dominolaw07_DigestHex.j0 k a0 a1 (!t175)) = some r := H
    have A6 := Aside0.mk A60
    clear A60
    have H' := Aside0.mk H
    clear H
    go_wp2_with (first | (go_at_call 9; (with_reducible refine (dominolaw07_shown.calls  t175 _ A6.out).mono ?_); rintro e w7 ⟨rfl, hb⟩; have n0_ := Aside0.mk (below_step (by repeat (first | (with_reducible first | exact HB.out | apply below_alloc | apply pw_below_drewN | apply below_drew1) | exact HB.out)) hb); clear HB; have HB := n0_; clear n0_; (try clear hb); (try clear hb2); (try clear hk); (try clear hi)))
    go_meet
    case rel => exact ⟨_, (!t175), (by first | rfl | (simp; done) | (simp [*]; done)), H', ⟨by first | omega | exact Nat.le_refl _⟩, ⟨by repeat (first | (with_reducible first | exact HB.out | apply below_alloc | apply pw_below_drewN | apply below_drew1) | exact HB.out)⟩⟩
 case rest =>
  clear HC3
  try clear p2
  try clear c4
  try clear c4b0
  try clear c4b1
  try clear c5
  try clear c5b0
  try clear c5b1
  try clear c7
  obtain ⟨kq, x22_2, rfl, HA, HJ2, HB⟩ := hcut
  cases kq with
  | zero => exact absurd HA.out (by simp [dominolaw07_DigestHex.j0])
  | succ kj2 =>
   have H := HA.out
   clear HA
   simp only [dominolaw07_DigestHex.j0] at H
   by_cases c8 : x22_2 = true
   ·subst c8
    have H1 : ((dominolaw07_shown.f).bind fun t176 => (some t176)) = some r := by rw [if_pos rfl] at H; exact H
    clear H
    have H := H1
    clear H1
    replace H := Option.bind_eq_some_iff.mp H
    obtain ⟨t176, A90, H⟩ := H
    replace H : (some t176) = some r := H
    have A9 := Aside0.mk A90
    clear A90
    obtain rfl := Option.some.inj H
    go_wp2_with (first | ((with_reducible refine gate_callee (f := 9) rfl ?_); refine goesL_ (some 23) rfl rfl Try.func9 (by kernel_rfl) rfl #[] rfl (by (try simp only [List.map_toArray, List.map_cons, List.map_nil]); first | done | rfl | (simp only [List.length_drop, List.length_take]; rfl)) ?_; (with_reducible refine (dominolaw07_shown.calls  t176 _ A9.out).mono ?_); rintro e w10 ⟨rfl, hb⟩; refine ⟨_, rfl, ?_⟩; have n0_ := Aside0.mk (below_step (by repeat (first | (with_reducible first | exact HB.out | apply below_alloc | apply pw_below_drewN | apply below_drew1) | exact HB.out)) hb); clear HB; have HB := n0_; clear n0_; (try clear hb); (try clear hb2); (try clear hk); (try clear hi)))
    go_ret
    exact ⟨by first | rfl | (simp [errW_none, errW_some] <;> rfl) | (simp [*, errW_none, errW_some] <;> rfl), by repeat (first | (with_reducible first | exact HB.out | apply below_alloc | apply pw_below_drewN | apply below_drew1) | exact HB.out)⟩
   ·replace c8 := Bool.eq_false_iff.mpr c8
    subst c8
    have H1 : ((digest_Unhex.f a1).bind fun bt177 => ((dominoref07_Unhex.f kj2 a1).bind fun bt179 => ((digest_Hex.f a0).bind fun t181 => ((digest_Unhex.f t181).bind fun bt182 => ((dominoref07_Hex.f kj2 a0).bind fun t184 => (if t181.toList = t184.toList then (if bt177.1.toList = bt179.1.toList then (if (bt177.2 == bt179.2) = true then (if bt182.1.toList = a0.toList then (some bt182.2) else (none)) else (none)) else (none)) else (none))))))) = some r := by rw [if_neg (show ¬ (false = true) by decide)] at H; exact H
    clear H
    have H := H1
    clear H1
    replace H := Option.bind_eq_some_iff.mp H
    obtain ⟨⟨t177, t178⟩, A110, H⟩ := H
    replace H : ((dominoref07_Unhex.f kj2 a1).bind fun bt179 => ((digest_Hex.f a0).bind fun t181 => ((digest_Unhex.f t181).bind fun bt182 => ((dominoref07_Hex.f kj2 a0).bind fun t184 => (if t181.toList = t184.toList then (if t177.toList = bt179.1.toList then (if (t178 == bt179.2) = true then (if bt182.1.toList = a0.toList then (some bt182.2) else (none)) else (none)) else (none)) else (none)))))) = some r := H
    have A11 := Aside0.mk A110
    clear A110
    replace H := Option.bind_eq_some_iff.mp H
    obtain ⟨⟨t179, t180⟩, A120, H⟩ := H
    replace H : ((digest_Hex.f a0).bind fun t181 => ((digest_Unhex.f t181).bind fun bt182 => ((dominoref07_Hex.f kj2 a0).bind fun t184 => (if t181.toList = t184.toList then (if t177.toList = t179.toList then (if (t178 == t180) = true then (if bt182.1.toList = a0.toList then (some bt182.2) else (none)) else (none)) else (none)) else (none))))) = some r := H
    have A12 := Aside0.mk A120
    clear A120
    replace H := Option.bind_eq_some_iff.mp H
    obtain ⟨t181, A130, H⟩ := H
    replace H : ((digest_Unhex.f t181).bind fun bt182 => ((dominoref07_Hex.f kj2 a0).bind fun t184 => (if t181.toList = t184.toList then (if t177.toList = t179.toList then (if (t178 == t180) = true then (if bt182.1.toList = a0.toList then (some bt182.2) else (none)) else (none)) else (none)) else (none)))) = some r := H
    have A13 := Aside0.mk A130
    clear A130
    replace H := Option.bind_eq_some_iff.mp H
    obtain ⟨⟨t182, t183⟩, A140, H⟩ := H
    replace H : ((dominoref07_Hex.f kj2 a0).bind fun t184 => (if t181.toList = t184.toList then (if t177.toList = t179.toList then (if (t178 == t180) = true then (if t182.toList = a0.toList then (some t183) else (none)) else (none)) else (none)) else (none))) = some r := H
    have A14 := Aside0.mk A140
    clear A140
    replace H := Option.bind_eq_some_iff.mp H
    obtain ⟨t184, A150, H⟩ := H
    replace H : (if t181.toList = t184.toList then (if t177.toList = t179.toList then (if (t178 == t180) = true then (if t182.toList = a0.toList then (some t183) else (none)) else (none)) else (none)) else (none)) = some r := H
    have A15 := Aside0.mk A150
    clear A150
    by_cases c16 : t181.toList = t184.toList
    ·rw [if_pos c16] at H
     have c16b0 : (t181.toList == t184.toList) = true := beq_iff_eq.mpr c16
     have c16b1 : (t181.toList != t184.toList) = false := bne_eq_false_iff_eq.mpr c16
     clear c16
     by_cases c17 : t177.toList = t179.toList
     ·rw [if_pos c17] at H
      have c17b0 : (t177.toList == t179.toList) = true := beq_iff_eq.mpr c17
      have c17b1 : (t177.toList != t179.toList) = false := bne_eq_false_iff_eq.mpr c17
      clear c17
      by_cases c18 : (t178 == t180) = true
      ·rw [if_pos c18] at H
       have c18b0 : (t178 == t180) = true := c18
       (try (have c18b1 : decide (t178 = t180) = true := by simpa using c18))
       (try (have c18b2 : (t178 == t180) = true := by simpa using c18))
       clear c18
       by_cases c19 : t182.toList = a0.toList
       ·rw [if_pos c19] at H
        have c19b0 : (t182.toList == a0.toList) = true := beq_iff_eq.mpr c19
        have c19b1 : (t182.toList != a0.toList) = false := bne_eq_false_iff_eq.mpr c19
        clear c19
        obtain rfl := Option.some.inj H
        go_wp2_with (first | ((with_reducible refine gate_callee (f := 16) rfl ?_); refine goesL_ (some 26) rfl rfl Try.func16 (by kernel_rfl) rfl #[.string a1] rfl (by (try simp only [List.map_toArray, List.map_cons, List.map_nil]); first | done | rfl | (simp only [List.length_drop, List.length_take]; rfl)) ?_; (with_reducible refine (digest_Unhex.calls a1 t177 t178 _ A11.out).mono ?_); rintro e w20 ⟨rfl, hb⟩; refine ⟨_, rfl, ?_⟩; have n0_ := Aside0.mk (below_step (by repeat (first | (with_reducible first | exact HB.out | apply below_alloc | apply pw_below_drewN | apply below_drew1) | exact HB.out)) hb); clear HB; have HB := n0_; clear n0_; (try clear hb); (try clear hb2); (try clear hk); (try clear hi)) | ((with_reducible refine gate_callee (f := 17) rfl ?_); refine goesL_ (some 31) rfl rfl Try.func17 (by kernel_rfl) rfl #[.string a1] rfl (by (try simp only [List.map_toArray, List.map_cons, List.map_nil]); first | done | rfl | (simp only [List.length_drop, List.length_take]; rfl)) ?_; (with_reducible refine (dominoref07_Unhex.calls kj2 a1 t179 t180 _ A12.out).mono ?_); rintro e w21 ⟨rfl, hb⟩; refine ⟨_, rfl, ?_⟩; have n0_ := Aside0.mk (below_step (by repeat (first | (with_reducible first | exact HB.out | apply below_alloc | apply pw_below_drewN | apply below_drew1) | exact HB.out)) hb); clear HB; have HB := n0_; clear n0_; (try clear hb); (try clear hb2); (try clear hk); (try clear hi)) | ((with_reducible refine gate_callee (f := 15) rfl ?_); refine goesL_ (some 36) rfl rfl Try.func15 (by kernel_rfl) rfl #[.string a0] rfl (by (try simp only [List.map_toArray, List.map_cons, List.map_nil]); first | done | rfl | (simp only [List.length_drop, List.length_take]; rfl)) ?_; (with_reducible refine (digest_Hex.calls a0 t181 _ A13.out).mono ?_); rintro e w22 ⟨rfl, hb⟩; refine ⟨_, rfl, ?_⟩; have n0_ := Aside0.mk (below_step (by repeat (first | (with_reducible first | exact HB.out | apply below_alloc | apply pw_below_drewN | apply below_drew1) | exact HB.out)) hb); clear HB; have HB := n0_; clear n0_; (try clear hb); (try clear hb2); (try clear hk); (try clear hi)) | ((with_reducible refine gate_callee (f := 16) rfl ?_); refine goesL_ (some 37) rfl rfl Try.func16 (by kernel_rfl) rfl #[.string t181] rfl (by (try simp only [List.map_toArray, List.map_cons, List.map_nil]); first | done | rfl | (simp only [List.length_drop, List.length_take]; rfl)) ?_; (with_reducible refine (digest_Unhex.calls t181 t182 t183 _ A14.out).mono ?_); rintro e w23 ⟨rfl, hb⟩; refine ⟨_, rfl, ?_⟩; have n0_ := Aside0.mk (below_step (by repeat (first | (with_reducible first | exact HB.out | apply below_alloc | apply pw_below_drewN | apply below_drew1) | exact HB.out)) hb); clear HB; have HB := n0_; clear n0_; (try clear hb); (try clear hb2); (try clear hk); (try clear hi)) | ((with_reducible refine gate_callee (f := 15) rfl ?_); refine goesL_ (some 41) rfl rfl Try.func15 (by kernel_rfl) rfl #[.string a0] rfl (by (try simp only [List.map_toArray, List.map_cons, List.map_nil]); first | done | rfl | (simp only [List.length_drop, List.length_take]; rfl)) ?_; (with_reducible refine (digest_Hex.calls a0 t181 _ A13.out).mono ?_); rintro e w24 ⟨rfl, hb⟩; refine ⟨_, rfl, ?_⟩; have n0_ := Aside0.mk (below_step (by repeat (first | (with_reducible first | exact HB.out | apply below_alloc | apply pw_below_drewN | apply below_drew1) | exact HB.out)) hb); clear HB; have HB := n0_; clear n0_; (try clear hb); (try clear hb2); (try clear hk); (try clear hi)) | ((with_reducible refine gate_callee (f := 18) rfl ?_); refine goesL_ (some 43) rfl rfl Try.func18 (by kernel_rfl) rfl #[.string a0] rfl (by (try simp only [List.map_toArray, List.map_cons, List.map_nil]); first | done | rfl | (simp only [List.length_drop, List.length_take]; rfl)) ?_; (with_reducible refine (dominoref07_Hex.calls kj2 a0 t184 _ A15.out).mono ?_); rintro e w25 ⟨rfl, hb⟩; refine ⟨_, rfl, ?_⟩; have n0_ := Aside0.mk (below_step (by repeat (first | (with_reducible first | exact HB.out | apply below_alloc | apply pw_below_drewN | apply below_drew1) | exact HB.out)) hb); clear HB; have HB := n0_; clear n0_; (try clear hb); (try clear hb2); (try clear hk); (try clear hi)))
        go_ret
        exact ⟨by first | rfl | (simp [errW_none, errW_some] <;> rfl) | (simp [*, errW_none, errW_some] <;> rfl), by repeat (first | (with_reducible first | exact HB.out | apply below_alloc | apply pw_below_drewN | apply below_drew1) | exact HB.out)⟩
       ·rw [if_neg c19] at H
        exact absurd H (by simp)
      ·rw [if_neg c18] at H
       exact absurd H (by simp)
     ·rw [if_neg c17] at H
      exact absurd H (by simp)
    ·rw [if_neg c16] at H
     exact absurd H (by simp)

/-- THE ONE PURE STATEMENT of dominolaw07_DigestHex: yours. -/
def dominolaw07_DigestHex.Pure : Prop := ∀ (a0 : ByteArray) (a1 : ByteArray), a0.size ≤ 140737488351232 → a1.size ≤ 140737488351232 → ∃ k, dominolaw07_DigestHex.f k a0 a1 = some true
theorem dominolaw07_DigestHex.walk (P : dominolaw07_DigestHex.Pure) (a0 : ByteArray) (a1 : ByteArray) (w : World) (w0 : a0.size ≤ 140737488351232) (w1 : a1.size ≤ 140737488351232) :
  Calls Try.prog 7 #[.string a0, .string a1] w fun e w' => e = .returned (.bool true) ∧ Below w.heap.size w w' := by
 obtain ⟨k, h⟩ := P a0 a1 w0 w1
 refine (dominolaw07_DigestHex.calls k a0 a1 true w h).mono ?_
 rintro e w' ⟨rfl, hd⟩
 exact ⟨rfl, hd⟩

end Go.Proofs.Ytmkpphcnafklbaa.PDgx
