-- printed for this claim by a program of the claim (wip/tools/pp.py over the kit's print)
import Derived.Test.YtghdmlcmoeoohaaPKfxx0
import Derived.Test.YtghdmlcmoeoohaaPKfxx2
import Derived.Test.YtghdmlcmoeoohaaPKfxx4
namespace Go.Proofs.Ytghdmlcmoeoohaa.PKfx
open Go.RowKit Go.Proofs.YtghdmlcmoeoohaaW.PrintWords Go.Proofs.YtghdmlcmoeoohaaW.PrintLast Go.Proofs.YtghdmlcmoeoohaaW.PrintMore
attribute [local go_sem] max2_int min2_int max_two min_two max_three min_three max_four min_four   -- for this text's walks alone
set_option linter.unusedVariables false
set_option linter.unusedSimpArgs false

attribute [local go_sem] isSome_setCell_
/-! ### the code of a text by a key -/
def keyF (a : ByteArray) : ByteArray := (if a.size > 64 then shaF a else a) ++ repB ⟨#[0]⟩ (64 - (if a.size > 64 then shaF a else a).size)
def macF (a s : ByteArray) : ByteArray := shaF (xorF (keyF a) (repB ⟨#[92]⟩ 64) ++ shaF (xorF (keyF a) (repB ⟨#[54]⟩ 64) ++ s))
set_option maxHeartbeats 2000000 in
set_option maxRecDepth 100000 in
theorem mac_c (a0 : ByteArray) (A : Option Addr) (c : Nat) (l : List ByteArray) (w : World) (hr : Kd.C Kd.string w A l.length l) (hc : l.length ≤ c) (h1 : a0.size ≤ 1099511627776) (h2 : (joinB l).size ≤ 1099511627000) (h3 : l.length ≤ 549755813887) :
    Calls Try.prog 18 #[.string a0, .slice A l.length c] w fun e w' => e = .returned (.string (macF a0 (joinB l))) ∧ Below w.heap.size w w' := by
  have HR := Aside0.mk hr
  clear hr
  have HK0 : Aside0 ((w.alloc (.cells #[.string a0] 9)).heap[w.heap.size]? = some (.cells #[.string a0] 9 (0, 0))) := ⟨heap_alloc_new _ _⟩
  have HB0 : Aside0 (Below w.heap.size w (w.alloc (.cells #[.string a0] 9))) := ⟨below_alloc (Below.refl _ _) _⟩
  have hz0 : (w.alloc (.cells #[.string a0] 9)).heap.size = w.heap.size + 1 := by simp
  have hmf : ∀ (fn : Fn) (first cap : Array Value) (w : World), (Instr.makeFunc fn first cap).run Try.prog w = .ok (.func fn first cap) w := fun _ _ _ _ => rfl
  obtain ⟨g, hg⟩ : ∃ g, g = w.heap.size := ⟨_, rfl⟩
  have HG := Aside0.mk hg
  go_enter Try.func18, Try.ntmps18
  by_cases hlong : 64 < a0.size
  · have hl' : (64 : Int) < (a0.size : Int) := by omega
    have hc0 : (w.alloc (.cells #[.string a0] 9)).cell? ⟨w.heap.size, 0, none⟩ = some (.string a0) := blk_cell HK0.out 0
    go_wp2_with fail
    clear hc0
    have hb1 := HB0.out
    generalize w.alloc (.cells #[.string a0] 9) = w1 at HK0 hb1 hz0 ⊢
    have hC1 := strs_row (xs := [a0]) (heap_alloc_new w1 (.cells #[.string a0] 9)) (by simp)
    have hK1 := blk_alloc HK0.out (.cells #[.string a0] 9)
    have hb2 := below_alloc hb1 (.cells #[.string a0] 9)
    rw [hz0] at hC1
    refine (digest_Sum.calls (some ⟨w.heap.size + 1, 0, none⟩) 1 [a0] (shaF (joinB [a0])) _ hC1 (by simp) (if_pos ⟨by rw [jB_one]; omega, by simp⟩)).mono ?_
    rintro e w2 ⟨rfl, hb⟩
    have hK2 := blk_below hK1 hb
    have hb3 := hb2.trans (hb.mono hb2.size)
    rw [jB_one]
    have hc2 : w2.cell? ⟨w.heap.size, 0, none⟩ = some (.string a0) := blk_cell hK2 0
    have hf2 : w2.frozen? ⟨w.heap.size, 0, none⟩ = false := blk_frozen hK2 0
    obtain ⟨k3, hk3⟩ : ∃ k, k = shaF a0 := ⟨_, rfl⟩
    have hks : k3.size ≤ 64 := by rw [hk3, shaF_len]; decide
    have HKK : Aside0 ((if a0.size > 64 then shaF a0 else a0) = k3) := ⟨by rw [if_pos hlong, hk3]⟩
    have HK3 : Aside0 ((w2.setCell ⟨w.heap.size, 0, none⟩ (.string k3)).heap[w.heap.size]? = some (.cells #[.string k3] 9 (0, 0))) := ⟨blk_set hK2 0 _⟩
    have HB3 : Aside0 (Below w.heap.size w (w2.setCell ⟨w.heap.size, 0, none⟩ (.string k3))) := ⟨below_set hb3 (Nat.le_refl _)⟩
    rw [← hk3]
    clear hC1 hK1 hb2 hb hb1 HK0 HB0 hz0 hk3 hl' hb3 hK2
    go_wp2_with fail
    clear hc2 hf2
    generalize w2.setCell ⟨w.heap.size, 0, none⟩ (.string k3) = w3 at HK3 HB3 ⊢
    rw [← hg] at HK3 ⊢
    clear hg hlong
    obtain ⟨y, hy⟩ : ∃ y, y = repB ⟨#[0]⟩ (64 - k3.size) := ⟨_, rfl⟩
    have hw64 : wrap64 (64 - (k3.size : Int)) = ((64 - k3.size : Nat) : Int) := by unfold wrap64; omega
    have hrep := fun w => strings_Repeat.calls ⟨#[0]⟩ (wrap64 (64 - (k3.size : Int))) y w (by rw [hw64, hy]; exact if_pos ⟨by omega, by omega, by show 1 * _ ≤ _; omega⟩)
    have hys : k3.size + y.size = 64 := by rw [hy, repB_size]; show k3.size + (64 - k3.size) * 1 = 64; omega
    have HY := Aside0.mk hy
    clear hy hw64
    have HT_ : Aside0 (rtab .any (opsOf Try.f18 3) = rtab .any (opsOf Try.f18 3)) := ⟨rfl⟩
    refine start_ (n := 7) (S := fun W => W.heap[g]? = some (.cells #[.string k3] 9 (0, 0))) (ds := [6]) #[false, false, false, false, false, false, false] (by kernel_rfl) rfl rfl (blk_drew HK3.out) (fun hHeld => ?_)
    have HBd := Aside0.mk (below_drew1 HB3.out)
    generalize w3.drew = w3d at HBd hHeld ⊢
    refine take_ (i := 0) (N := some 12) (v := .string k3) (a' := ?_) #[true, false, false, false, false, false, false] rfl rfl (by kernel_rfl) (fun _ _ _ h => h) (Or.inl ⟨by rfl, ?_⟩) hHeld ?_ ?_
    · intro w' hw'
      have hc : w'.cell? ⟨g, 0, none⟩ = some (.string k3) := blk_cell hw' 0
      go_simp
    rotate_left
    · simp only [Act.put, List.setIfInBounds_toArray, List.set_cons_zero, List.set_cons_succ, i64_w, i32_w]
      rfl
    refine take_ (i := 1) (N := some 13) (v := .string k3) (a' := ?_) #[true, true, false, false, false, false, false] rfl rfl (by kernel_rfl) (fun _ _ _ h => h) (Or.inl ⟨by rfl, ?_⟩) hHeld ?_ ?_
    · intro w' hw'
      have hc : w'.cell? ⟨g, 0, none⟩ = some (.string k3) := blk_cell hw' 0
      go_simp
    rotate_left
    · simp only [Act.put, List.setIfInBounds_toArray, List.set_cons_zero, List.set_cons_succ, i64_w, i32_w]
      rfl
    refine pure_ (i := 2) (N := some 14) (v := ?_) (a' := ?_) #[true, true, true, false, false, false, false] rfl rfl (any_of HT_.out (by kernel_rfl)) (fun _ _ _ h => h) (Or.inl ⟨by rfl, ?_⟩) ?_ ?_
    rotate_left
    · intro w'
      go_simp
      with_reducible rfl
    rotate_left
    · simp only [Act.put, List.setIfInBounds_toArray, List.set_cons_zero, List.set_cons_succ, i64_w, i32_w]
      rfl
    refine pure_ (i := 3) (N := some 15) (v := ?_) (a' := ?_) #[true, true, true, true, false, false, false] rfl rfl (any_of HT_.out (by kernel_rfl)) (fun _ _ _ h => h) (Or.inl ⟨by rfl, ?_⟩) ?_ ?_
    rotate_left
    · intro w'
      go_simp
      with_reducible rfl
    rotate_left
    · simp only [Act.put, List.setIfInBounds_toArray, List.set_cons_zero, List.set_cons_succ, i64_w, i32_w]
      rfl
    refine one_ (i := 4) (N := some 16) #[true, true, true, true, true, false, false] rfl rfl (one_of HT_.out (by kernel_rfl)) (by decide) (fun K hK => ?_)
    refine goes_ (N := some 16) Try.func34 (by kernel_rfl) rfl #[.string ⟨#[0]⟩, .int .i64 (wrap64 (64 - (k3.size : Int)))] (by rfl) rfl rfl (by (try simp only [List.map_toArray, List.map_cons, List.map_nil]); first | done | rfl) ?_
    refine (hrep _).mono ?_
    rintro e w4 ⟨rfl, hb⟩
    have HB4 := Aside0.mk (HBd.out.trans (hb.mono HBd.out.size))
    have hK4 := blk_below hHeld hb
    clear hb hHeld HBd
    refine ⟨_, rfl, ?_⟩
    refine hK.out _ _ hK4 (fun hHeld4 => ?_)
    clear hK K
    refine norm_ (a' := ?_) ?_ ?_
    rotate_left
    · show Act.put _ (some 16) _ = _
      simp only [Act.put, List.setIfInBounds_toArray, List.set_cons_zero, List.set_cons_succ, i64_w, i32_w]
      rfl
    refine pure_ (i := 5) (N := some 17) (v := ?_) (a' := ?_) #[true, true, true, true, true, true, false] rfl rfl (any_of HT_.out (by kernel_rfl)) (fun _ _ _ h => h) (Or.inl ⟨by rfl, ?_⟩) ?_ ?_
    rotate_left
    · intro w'
      go_simp
      with_reducible rfl
    rotate_left
    · simp only [Act.put, List.setIfInBounds_toArray, List.set_cons_zero, List.set_cons_succ, i64_w, i32_w]
      rfl
    refine last_ (i := 6) (N := none) #[true, true, true, true, true, true, true] rfl rfl (by kernel_rfl) (by decide) (fun K hK => ?_)
    rw [if_pos (by rfl)]
    have hc4 : w4.cell? ⟨g, 0, none⟩ = some (.string k3) := blk_cell hHeld4 0
    have hf4 : w4.frozen? ⟨g, 0, none⟩ = false := blk_frozen hHeld4 0
    unfold Oper.wp execOp
    go_simp
    have HK5 : Aside0 ((w4.setCell ⟨g, 0, none⟩ (.string (k3 ++ y))).heap[g]? = some (.cells #[.string (k3 ++ y)] 9 (0, 0))) := ⟨blk_set hHeld4 0 _⟩
    have HB5 : Aside0 (Below w.heap.size w (w4.setCell ⟨g, 0, none⟩ (.string (k3 ++ y)))) := ⟨below_set HB4.out (by rw [HG.out]; exact Nat.le_refl _)⟩
    generalize w4.setCell ⟨g, 0, none⟩ (.string (k3 ++ y)) = w5 at HK5 HB5 ⊢
    clear hc4 hf4
    refine hK.out _ _ ?_
    clear hK K
    refine done_ (done_of HT_.out (by kernel_rfl)) ?_
    have HKY : Aside0 (keyF a0 = k3 ++ y) := ⟨by unfold keyF; rw [HKK.out, HY.out]⟩
    have hkz : (k3 ++ y).size = 64 := by rw [ByteArray.size_append]; exact hys
    clear hHeld4 HB4 hrep hys
    generalize k3 ++ y = k at HK5 HKY hkz ⊢
    go_wp2_with fail
    refine (pad_c g k ⟨#[92]⟩ _ HK5.out (by omega) (by decide)).mono ?_
    rintro e w6 ⟨rfl, hb⟩
    have HK6 := Aside0.mk (blk_below HK5.out hb)
    have HB6 := Aside0.mk (HB5.out.trans (hb.mono HB5.out.size))
    clear hb HK5 HB5
    obtain ⟨po, hpo⟩ : ∃ p, p = xorF k (repB ⟨#[92]⟩ 64) := ⟨_, rfl⟩
    have hpoz : po.size = 64 := by rw [hpo, xorF_len, repB_size, hkz]; rfl
    rw [← hpo]
    have HPO := Aside0.mk hpo
    clear hpo
    go_wp2_with fail
    refine (pad_c g k ⟨#[54]⟩ _ HK6.out (by omega) (by decide)).mono ?_
    rintro e w7 ⟨rfl, hb⟩
    have HB7 := Aside0.mk (HB6.out.trans (hb.mono HB6.out.size))
    clear hb HK6 HB6
    obtain ⟨pi, hpi⟩ : ∃ p, p = xorF k (repB ⟨#[54]⟩ 64) := ⟨_, rfl⟩
    have hpiz : pi.size = 64 := by rw [hpi, xorF_len, repB_size, hkz]; rfl
    rw [← hpi]
    have HPI := Aside0.mk hpi
    clear hpi hkz hmf
    have HR7 := Aside0.mk (Kd.C_below HR.out HB7.out)
    go_wp2_with fail
    have hz8 : (w7.alloc (.cells #[.string pi] 9)).heap.size = w7.heap.size + 1 := by simp
    have hq := heap_alloc_new (w7.alloc (.cells #[.string pi] 9)) (.cells #[.slice (some ⟨w7.heap.size, 0, none⟩) 1 1, .slice A l.length c] 34)
    rw [hz8] at hq
    have hp := blk_alloc (heap_alloc_new w7 (.cells #[.string pi] 9)) (.cells #[.slice (some ⟨w7.heap.size, 0, none⟩) 1 1, .slice A l.length c] 34)
    have hb9 := below_alloc (below_alloc HB7.out (.cells #[.string pi] 9)) (.cells #[.slice (some ⟨w7.heap.size, 0, none⟩) 1 1, .slice A l.length c] 34)
    have hr9 := Kd.C_alloc (Kd.C_alloc HR7.out (.cells #[.string pi] 9)) (.cells #[.slice (some ⟨w7.heap.size, 0, none⟩) 1 1, .slice A l.length c] 34)
    refine (concat_c (w7.heap.size + 1) w7.heap.size c A pi l _ (blk_cell hq 0) (blk_cell hq 1) (blk_cell hp 0) hr9 hc (by omega)).mono ?_
    clear hq hp hr9 hz8
    rintro e w8 ⟨A', c', rfl, hC, hc', hb⟩
    have HB8 := Aside0.mk (hb9.trans (hb.mono hb9.size))
    clear hb hb9
    obtain ⟨ys, hys2⟩ : ∃ ys, ys = pi :: l := ⟨_, rfl⟩
    have hyj : joinB ys = pi ++ joinB l := by rw [hys2, jB_cons]
    have HYL : Aside0 (ys.length = l.length + 1) := ⟨by rw [hys2]; rfl⟩
    rw [← hys2] at hC hc' ⊢
    have HC8 := Aside0.mk hC
    clear hys2 hC
    go_wp2_with fail
    have hs8 : digest_Sum.f ys = some (shaF (joinB ys)) := by
      unfold digest_Sum.f
      exact if_pos ⟨by rw [hyj, ByteArray.size_append]; omega, by rw [HYL.out]; omega⟩
    have hcall := digest_Sum.calls A' c' ys (shaF (joinB ys)) w8 HC8.out hc' hs8
    with_reducible refine hcall.mono ?_
    clear hcall hs8
    rintro e w10 ⟨rfl, hb⟩
    have HB10 := Aside0.mk (HB8.out.trans (hb.mono HB8.out.size))
    obtain ⟨inn, hinn⟩ : ∃ x, x = shaF (joinB ys) := ⟨_, rfl⟩
    have hinz : inn.size = 32 := by rw [hinn, shaF_len]
    rw [← hinn]
    have HIN : Aside0 (inn = shaF (pi ++ joinB l)) := ⟨by rw [hinn, hyj]⟩
    clear hinn hb HC8 HB8 hyj hc'
    go_wp2_with fail
    have hC2 := strs_row (xs := [po, inn]) (heap_alloc_new w10 (.cells #[.string po, .string inn] 9)) (by simp)
    have hb11 := below_alloc HB10.out (.cells #[.string po, .string inn] 9)
    refine (digest_Sum.calls (some ⟨w10.heap.size, 0, none⟩) 2 [po, inn] (shaF (joinB [po, inn])) _ hC2 (by simp) (if_pos ⟨by rw [jB_two, ByteArray.size_append]; omega, by simp⟩)).mono ?_
    rintro e w12 ⟨rfl, hb⟩
    have HB12 := Aside0.mk (hb11.trans (hb.mono hb11.size))
    clear hb hb11 hC2
    rw [jB_two]
    go_wp2
    go_ret
    refine ⟨?_, HB12.out⟩
    rw [macF, HKY.out, ← HPO.out, ← HPI.out, ← HIN.out]
    rfl

  · have hl' : ¬ (64 : Int) < (a0.size : Int) := by omega
    have hc0 : (w.alloc (.cells #[.string a0] 9)).cell? ⟨w.heap.size, 0, none⟩ = some (.string a0) := blk_cell HK0.out 0
    have HC0 : Aside0 ((if a0.size > 64 then shaF a0 else a0) = a0) := ⟨if_neg hlong⟩
    obtain ⟨k3, hk3⟩ : ∃ k, k = a0 := ⟨_, rfl⟩
    have hks : k3.size ≤ 64 := by rw [hk3]; omega
    go_wp2_with fail
    clear hc0
    generalize w.alloc (.cells #[.string a0] 9) = w3 at HK0 HB0 ⊢
    rw [← hg] at HK0 ⊢
    have HK3 : Aside0 (w3.heap[g]? = some (.cells #[.string k3] 9 (0, 0))) := ⟨by rw [hk3]; exact HK0.out⟩
    have HB3 := HB0
    have HKK : Aside0 ((if a0.size > 64 then shaF a0 else a0) = k3) := ⟨by rw [HC0.out, hk3]⟩
    clear hk3 hg hl' hlong HK0 HB0 HC0
    obtain ⟨y, hy⟩ : ∃ y, y = repB ⟨#[0]⟩ (64 - k3.size) := ⟨_, rfl⟩
    have hw64 : wrap64 (64 - (k3.size : Int)) = ((64 - k3.size : Nat) : Int) := by unfold wrap64; omega
    have hrep := fun w => strings_Repeat.calls ⟨#[0]⟩ (wrap64 (64 - (k3.size : Int))) y w (by rw [hw64, hy]; exact if_pos ⟨by omega, by omega, by show 1 * _ ≤ _; omega⟩)
    have hys : k3.size + y.size = 64 := by rw [hy, repB_size]; show k3.size + (64 - k3.size) * 1 = 64; omega
    have HY := Aside0.mk hy
    clear hy hw64
    have HT_ : Aside0 (rtab .any (opsOf Try.f18 3) = rtab .any (opsOf Try.f18 3)) := ⟨rfl⟩
    refine start_ (n := 7) (S := fun W => W.heap[g]? = some (.cells #[.string k3] 9 (0, 0))) (ds := [6]) #[false, false, false, false, false, false, false] (by kernel_rfl) rfl rfl (blk_drew HK3.out) (fun hHeld => ?_)
    have HBd := Aside0.mk (below_drew1 HB3.out)
    generalize w3.drew = w3d at HBd hHeld ⊢
    refine take_ (i := 0) (N := some 12) (v := .string k3) (a' := ?_) #[true, false, false, false, false, false, false] rfl rfl (by kernel_rfl) (fun _ _ _ h => h) (Or.inl ⟨by rfl, ?_⟩) hHeld ?_ ?_
    · intro w' hw'
      have hc : w'.cell? ⟨g, 0, none⟩ = some (.string k3) := blk_cell hw' 0
      go_simp
    rotate_left
    · simp only [Act.put, List.setIfInBounds_toArray, List.set_cons_zero, List.set_cons_succ, i64_w, i32_w]
      rfl
    refine take_ (i := 1) (N := some 13) (v := .string k3) (a' := ?_) #[true, true, false, false, false, false, false] rfl rfl (by kernel_rfl) (fun _ _ _ h => h) (Or.inl ⟨by rfl, ?_⟩) hHeld ?_ ?_
    · intro w' hw'
      have hc : w'.cell? ⟨g, 0, none⟩ = some (.string k3) := blk_cell hw' 0
      go_simp
    rotate_left
    · simp only [Act.put, List.setIfInBounds_toArray, List.set_cons_zero, List.set_cons_succ, i64_w, i32_w]
      rfl
    refine pure_ (i := 2) (N := some 14) (v := ?_) (a' := ?_) #[true, true, true, false, false, false, false] rfl rfl (any_of HT_.out (by kernel_rfl)) (fun _ _ _ h => h) (Or.inl ⟨by rfl, ?_⟩) ?_ ?_
    rotate_left
    · intro w'
      go_simp
      with_reducible rfl
    rotate_left
    · simp only [Act.put, List.setIfInBounds_toArray, List.set_cons_zero, List.set_cons_succ, i64_w, i32_w]
      rfl
    refine pure_ (i := 3) (N := some 15) (v := ?_) (a' := ?_) #[true, true, true, true, false, false, false] rfl rfl (any_of HT_.out (by kernel_rfl)) (fun _ _ _ h => h) (Or.inl ⟨by rfl, ?_⟩) ?_ ?_
    rotate_left
    · intro w'
      go_simp
      with_reducible rfl
    rotate_left
    · simp only [Act.put, List.setIfInBounds_toArray, List.set_cons_zero, List.set_cons_succ, i64_w, i32_w]
      rfl
    refine one_ (i := 4) (N := some 16) #[true, true, true, true, true, false, false] rfl rfl (one_of HT_.out (by kernel_rfl)) (by decide) (fun K hK => ?_)
    refine goes_ (N := some 16) Try.func34 (by kernel_rfl) rfl #[.string ⟨#[0]⟩, .int .i64 (wrap64 (64 - (k3.size : Int)))] (by rfl) rfl rfl (by (try simp only [List.map_toArray, List.map_cons, List.map_nil]); first | done | rfl) ?_
    refine (hrep _).mono ?_
    rintro e w4 ⟨rfl, hb⟩
    have HB4 := Aside0.mk (HBd.out.trans (hb.mono HBd.out.size))
    have hK4 := blk_below hHeld hb
    clear hb hHeld HBd
    refine ⟨_, rfl, ?_⟩
    refine hK.out _ _ hK4 (fun hHeld4 => ?_)
    clear hK K
    refine norm_ (a' := ?_) ?_ ?_
    rotate_left
    · show Act.put _ (some 16) _ = _
      simp only [Act.put, List.setIfInBounds_toArray, List.set_cons_zero, List.set_cons_succ, i64_w, i32_w]
      rfl
    refine pure_ (i := 5) (N := some 17) (v := ?_) (a' := ?_) #[true, true, true, true, true, true, false] rfl rfl (any_of HT_.out (by kernel_rfl)) (fun _ _ _ h => h) (Or.inl ⟨by rfl, ?_⟩) ?_ ?_
    rotate_left
    · intro w'
      go_simp
      with_reducible rfl
    rotate_left
    · simp only [Act.put, List.setIfInBounds_toArray, List.set_cons_zero, List.set_cons_succ, i64_w, i32_w]
      rfl
    refine last_ (i := 6) (N := none) #[true, true, true, true, true, true, true] rfl rfl (by kernel_rfl) (by decide) (fun K hK => ?_)
    rw [if_pos (by rfl)]
    have hc4 : w4.cell? ⟨g, 0, none⟩ = some (.string k3) := blk_cell hHeld4 0
    have hf4 : w4.frozen? ⟨g, 0, none⟩ = false := blk_frozen hHeld4 0
    unfold Oper.wp execOp
    go_simp
    have HK5 : Aside0 ((w4.setCell ⟨g, 0, none⟩ (.string (k3 ++ y))).heap[g]? = some (.cells #[.string (k3 ++ y)] 9 (0, 0))) := ⟨blk_set hHeld4 0 _⟩
    have HB5 : Aside0 (Below w.heap.size w (w4.setCell ⟨g, 0, none⟩ (.string (k3 ++ y)))) := ⟨below_set HB4.out (by rw [HG.out]; exact Nat.le_refl _)⟩
    generalize w4.setCell ⟨g, 0, none⟩ (.string (k3 ++ y)) = w5 at HK5 HB5 ⊢
    clear hc4 hf4
    refine hK.out _ _ ?_
    clear hK K
    refine done_ (done_of HT_.out (by kernel_rfl)) ?_
    have HKY : Aside0 (keyF a0 = k3 ++ y) := ⟨by unfold keyF; rw [HKK.out, HY.out]⟩
    have hkz : (k3 ++ y).size = 64 := by rw [ByteArray.size_append]; exact hys
    clear hHeld4 HB4 hrep hys
    generalize k3 ++ y = k at HK5 HKY hkz ⊢
    go_wp2_with fail
    refine (pad_c g k ⟨#[92]⟩ _ HK5.out (by omega) (by decide)).mono ?_
    rintro e w6 ⟨rfl, hb⟩
    have HK6 := Aside0.mk (blk_below HK5.out hb)
    have HB6 := Aside0.mk (HB5.out.trans (hb.mono HB5.out.size))
    clear hb HK5 HB5
    obtain ⟨po, hpo⟩ : ∃ p, p = xorF k (repB ⟨#[92]⟩ 64) := ⟨_, rfl⟩
    have hpoz : po.size = 64 := by rw [hpo, xorF_len, repB_size, hkz]; rfl
    rw [← hpo]
    have HPO := Aside0.mk hpo
    clear hpo
    go_wp2_with fail
    refine (pad_c g k ⟨#[54]⟩ _ HK6.out (by omega) (by decide)).mono ?_
    rintro e w7 ⟨rfl, hb⟩
    have HB7 := Aside0.mk (HB6.out.trans (hb.mono HB6.out.size))
    clear hb HK6 HB6
    obtain ⟨pi, hpi⟩ : ∃ p, p = xorF k (repB ⟨#[54]⟩ 64) := ⟨_, rfl⟩
    have hpiz : pi.size = 64 := by rw [hpi, xorF_len, repB_size, hkz]; rfl
    rw [← hpi]
    have HPI := Aside0.mk hpi
    clear hpi hkz hmf
    have HR7 := Aside0.mk (Kd.C_below HR.out HB7.out)
    go_wp2_with fail
    have hz8 : (w7.alloc (.cells #[.string pi] 9)).heap.size = w7.heap.size + 1 := by simp
    have hq := heap_alloc_new (w7.alloc (.cells #[.string pi] 9)) (.cells #[.slice (some ⟨w7.heap.size, 0, none⟩) 1 1, .slice A l.length c] 34)
    rw [hz8] at hq
    have hp := blk_alloc (heap_alloc_new w7 (.cells #[.string pi] 9)) (.cells #[.slice (some ⟨w7.heap.size, 0, none⟩) 1 1, .slice A l.length c] 34)
    have hb9 := below_alloc (below_alloc HB7.out (.cells #[.string pi] 9)) (.cells #[.slice (some ⟨w7.heap.size, 0, none⟩) 1 1, .slice A l.length c] 34)
    have hr9 := Kd.C_alloc (Kd.C_alloc HR7.out (.cells #[.string pi] 9)) (.cells #[.slice (some ⟨w7.heap.size, 0, none⟩) 1 1, .slice A l.length c] 34)
    refine (concat_c (w7.heap.size + 1) w7.heap.size c A pi l _ (blk_cell hq 0) (blk_cell hq 1) (blk_cell hp 0) hr9 hc (by omega)).mono ?_
    clear hq hp hr9 hz8
    rintro e w8 ⟨A', c', rfl, hC, hc', hb⟩
    have HB8 := Aside0.mk (hb9.trans (hb.mono hb9.size))
    clear hb hb9
    obtain ⟨ys, hys2⟩ : ∃ ys, ys = pi :: l := ⟨_, rfl⟩
    have hyj : joinB ys = pi ++ joinB l := by rw [hys2, jB_cons]
    have HYL : Aside0 (ys.length = l.length + 1) := ⟨by rw [hys2]; rfl⟩
    rw [← hys2] at hC hc' ⊢
    have HC8 := Aside0.mk hC
    clear hys2 hC
    go_wp2_with fail
    have hs8 : digest_Sum.f ys = some (shaF (joinB ys)) := by
      unfold digest_Sum.f
      exact if_pos ⟨by rw [hyj, ByteArray.size_append]; omega, by rw [HYL.out]; omega⟩
    have hcall := digest_Sum.calls A' c' ys (shaF (joinB ys)) w8 HC8.out hc' hs8
    with_reducible refine hcall.mono ?_
    clear hcall hs8
    rintro e w10 ⟨rfl, hb⟩
    have HB10 := Aside0.mk (HB8.out.trans (hb.mono HB8.out.size))
    obtain ⟨inn, hinn⟩ : ∃ x, x = shaF (joinB ys) := ⟨_, rfl⟩
    have hinz : inn.size = 32 := by rw [hinn, shaF_len]
    rw [← hinn]
    have HIN : Aside0 (inn = shaF (pi ++ joinB l)) := ⟨by rw [hinn, hyj]⟩
    clear hinn hb HC8 HB8 hyj hc'
    go_wp2_with fail
    have hC2 := strs_row (xs := [po, inn]) (heap_alloc_new w10 (.cells #[.string po, .string inn] 9)) (by simp)
    have hb11 := below_alloc HB10.out (.cells #[.string po, .string inn] 9)
    refine (digest_Sum.calls (some ⟨w10.heap.size, 0, none⟩) 2 [po, inn] (shaF (joinB [po, inn])) _ hC2 (by simp) (if_pos ⟨by rw [jB_two, ByteArray.size_append]; omega, by simp⟩)).mono ?_
    rintro e w12 ⟨rfl, hb⟩
    have HB12 := Aside0.mk (hb11.trans (hb.mono hb11.size))
    clear hb hb11 hC2
    rw [jB_two]
    go_wp2
    go_ret
    refine ⟨?_, HB12.out⟩
    rw [macF, HKY.out, ← HPO.out, ← HPI.out, ← HIN.out]
    rfl


/-! ### kdf_Mac: function 18 -/
def kdf_Mac.f (a0 : ByteArray) (l1 : List ByteArray) : Option (ByteArray) := if a0.size ≤ 1099511627776 ∧ (joinB l1).size ≤ 1099511627000 ∧ l1.length ≤ 549755813887 then some (macF a0 (joinB l1)) else none
theorem kdf_Mac.calls (a0 : ByteArray) (A1 : Option Addr) (c1 : Nat) (l1 : List ByteArray) (r : ByteArray) (w : World) (hr1 : Kd.C Kd.string w A1 l1.length l1) (hc1 : l1.length ≤ c1) (h : kdf_Mac.f a0 l1 = some r) :
    Calls Try.prog 18 #[.string a0, .slice A1 l1.length c1] w fun e w' => e = .returned (.string r) ∧ Below w.heap.size w w' := by
  unfold kdf_Mac.f at h
  by_cases c : a0.size ≤ 1099511627776 ∧ (joinB l1).size ≤ 1099511627000 ∧ l1.length ≤ 549755813887
  · rw [if_pos c] at h
    obtain rfl := Option.some.inj h
    exact mac_c a0 A1 c1 l1 w hr1 hc1 c.1 c.2.1 c.2.2
  · rw [if_neg c] at h
    exact absurd h (by simp)

/-! ### kdf_Expand: function 10 -/
mutual
def kdf_Expand.j0 : Nat → ByteArray → ByteArray → Int → Bool → Option (ByteArray × Int)
  | 0, _, _, _, _ => none
  | k + 1, x0, x1, x2, x16 => if x16 = true then (some ((⟨#[]⟩ : ByteArray), 1)) else (kdf_Expand.l0 k x0 x1 x2 ([] : List ByteArray) (⟨#[]⟩ : ByteArray) 1)
def kdf_Expand.l0 : Nat → ByteArray → ByteArray → Int → List ByteArray → ByteArray → Int → Option (ByteArray × Int)
  | 0, _, _, _, _, _, _ => none
  | k + 1, x0, x1, x2, x8, x9, x10 => if (wrap64 ((x8.length : Int) * 32)) < x2 then ((kdf_Mac.f x0 (([x9, x1, strOfNums (([(x10) % 256] : List Int))] : List ByteArray))).bind fun t113 => (if x8.length < 8796093022208 then (kdf_Expand.l0 k x0 x1 x2 (x8 ++ [t113]) t113 (wrap64 (x10 + 1))) else (none))) else ((strings_Join.f x8 (⟨#[]⟩ : ByteArray)).bind fun t117 => (if 0 ≤ x2 then (if x2 ≤ (t117.size : Int) then (some (t117.extract 0 (x2 : Int).toNat, 0)) else (none)) else (none)))
end
def kdf_Expand.f (k : Nat) (a0 : ByteArray) (a1 : ByteArray) (a2 : Int) : Option (ByteArray × Int) := if a2 < 0 then (kdf_Expand.j0 k a0 a1 a2 true) else (kdf_Expand.j0 k a0 a1 a2 (decide (a2 > 8160)))
theorem kdf_Expand.mono_l : ∀ k, (∀ y0 y1 y2 y3, LeO (kdf_Expand.j0 k y0 y1 y2 y3) (kdf_Expand.j0 (k + 1) y0 y1 y2 y3)) ∧ (∀ y0 y1 y2 y3 y4 y5, LeO (kdf_Expand.l0 k y0 y1 y2 y3 y4 y5) (kdf_Expand.l0 (k + 1) y0 y1 y2 y3 y4 y5))
  | 0 => ⟨fun _ _ _ _ r h => by simp [kdf_Expand.j0] at h, fun _ _ _ _ _ _ r h => by simp [kdf_Expand.l0] at h⟩
  | k + 1 => by
    obtain ⟨ih0, ih1⟩ := kdf_Expand.mono_l k
    refine ⟨?_, ?_⟩
    · intro y0 y1 y2 y3
      unfold kdf_Expand.j0
      repeat' first
      | (with_reducible exact ih0 _ _ _ _)
      | (with_reducible exact ih1 _ _ _ _ _ _)
      | (with_reducible exact LeO.refl _)
      | (with_reducible exact LeO.none _)
      | (with_reducible refine LeO.ite ?_ ?_)
      | (with_reducible refine LeO.bind ?_ (fun _ => ?_))
      | exact ih0 _ _ _ _
      | exact ih1 _ _ _ _ _ _
      | exact LeO.none _
      | refine LeO.ite ?_ ?_
      | refine LeO.bind ?_ (fun _ => ?_)
    · intro y0 y1 y2 y3 y4 y5
      unfold kdf_Expand.l0
      repeat' first
      | (with_reducible exact ih0 _ _ _ _)
      | (with_reducible exact ih1 _ _ _ _ _ _)
      | (with_reducible exact LeO.refl _)
      | (with_reducible exact LeO.none _)
      | (with_reducible refine LeO.ite ?_ ?_)
      | (with_reducible refine LeO.bind ?_ (fun _ => ?_))
      | exact ih0 _ _ _ _
      | exact ih1 _ _ _ _ _ _
      | exact LeO.none _
      | refine LeO.ite ?_ ?_
      | refine LeO.bind ?_ (fun _ => ?_)
theorem kdf_Expand.mono : ∀ a0 a1 a2 k, LeO (kdf_Expand.f k a0 a1 a2) (kdf_Expand.f (k + 1) a0 a1 a2) := by
  intro a0 a1 a2 k
  obtain ⟨ih0, ih1⟩ := kdf_Expand.mono_l k
  unfold kdf_Expand.f
  repeat' first
      | (with_reducible exact ih0 _ _ _ _)
      | (with_reducible exact ih1 _ _ _ _ _ _)
      | (with_reducible exact LeO.refl _)
      | (with_reducible exact LeO.none _)
      | (with_reducible refine LeO.ite ?_ ?_)
      | (with_reducible refine LeO.bind ?_ (fun _ => ?_))
      | exact ih0 _ _ _ _
      | exact ih1 _ _ _ _ _ _
      | exact LeO.none _
      | refine LeO.ite ?_ ?_
      | refine LeO.bind ?_ (fun _ => ?_)
set_option maxHeartbeats 8000000 in
set_option maxRecDepth 100000 in
theorem kdf_Expand.calls (k : Nat) (a0 : ByteArray) (a1 : ByteArray) (a2 : Int) (r1 : ByteArray) (r2 : Int) (w : World) (h : kdf_Expand.f k a0 a1 a2 = some (r1, r2)) :
    Calls Try.prog 10 #[.string a0, .string a1, .int .i64 a2] w fun e w' => e = .returned (.tuple #[.string r1, .int .i64 r2]) ∧ Below w.heap.size w w' := by
  have HB := Aside0.mk (Below.refl w.heap.size w)
  have H : (if a2 < 0 then (kdf_Expand.j0 k a0 a1 a2 true) else (kdf_Expand.j0 k a0 a1 a2 (decide (a2 > 8160)))) = some (r1, r2) := h
  clear h
  have HC4 := Aside0.mk H
  clear H
  go_enter Try.func10, Try.ntmps10
  go_upto_region 1 with (fail)
  go_cut [16] (fun v16 wc => ∃ (kq : Nat) (x16_3 : Bool), v16 = .bool x16_3 ∧ Aside0 (kdf_Expand.j0 kq a0 a1 a2 x16_3 = some (r1, r2)) ∧ Aside0 (kq ≤ k) ∧ Aside0 (Below w.heap.size w wc))
  case first =>
    have H := HC4.out
    clear HC4
    by_cases c5 : a2 < 0
    · rw [if_pos c5] at H
      have c5b0 : decide (a2 < 0) = true := decide_eq_true c5
      clear c5
      (first | rw [c5b0] | (simp only [i64_w, i32_w]; rw [c5b0]) | skip)
      have H' := Aside0.mk H
      clear H
      go_wp2
      go_meet
      case rel => exact ⟨_, (true), (by first | rfl | (simp; done) | (simp [*]; done)), H', ⟨by first | omega | exact Nat.le_refl _⟩, ⟨by repeat (first | (with_reducible first | exact HB.out | apply below_alloc | apply pw_below_drewN | apply below_drew1) | exact HB.out)⟩⟩
    · rw [if_neg c5] at H
      have c5b0 : decide (a2 < 0) = false := decide_eq_false c5
      clear c5
      (first | rw [c5b0] | (simp only [i64_w, i32_w]; rw [c5b0]) | skip)
      have H' := Aside0.mk H
      clear H
      go_wp2
      go_meet
      case rel => exact ⟨_, (decide (a2 > 8160)), (by first | rfl | (simp; done) | (simp [*]; done)), H', ⟨by first | omega | exact Nat.le_refl _⟩, ⟨by repeat (first | (with_reducible first | exact HB.out | apply below_alloc | apply pw_below_drewN | apply below_drew1) | exact HB.out)⟩⟩
  case rest =>
    clear HC4
    try clear c1
    try clear p2
    try clear c5
    try clear c5b0
    obtain ⟨kq, x16_3, rfl, HA, HJ3, HB⟩ := hcut
    cases kq with
    | zero => exact absurd HA.out (by simp [kdf_Expand.j0])
    | succ kj3 =>
      have H := HA.out
      clear HA
      simp only [kdf_Expand.j0] at H
      by_cases c6 : x16_3 = true
      · subst c6
        have H1 : (some ((⟨#[]⟩ : ByteArray), 1)) = some (r1, r2) := by rw [if_pos rfl] at H; exact H
        clear H
        have H := H1
        clear H1
        simp only [Option.some.injEq, Prod.mk.injEq] at H
        obtain ⟨rfl, rfl⟩ := H
        go_wp2
        go_ret2
        exact ⟨by first | rfl | (simp [errW_none, errW_some] <;> rfl) | (simp [*, errW_none, errW_some] <;> rfl), by repeat (first | (with_reducible first | exact HB.out | apply below_alloc | apply pw_below_drewN | apply below_drew1) | exact HB.out)⟩
      · replace c6 := Bool.eq_false_iff.mpr c6
        subst c6
        have H1 : (kdf_Expand.l0 kj3 a0 a1 a2 ([] : List ByteArray) (⟨#[]⟩ : ByteArray) 1) = some (r1, r2) := by rw [if_neg (show ¬ (false = true) by decide)] at H; exact H
        clear H
        have H := H1
        clear H1
        have H' := Aside0.mk H
        clear H
        go_wp2
        go_loopg [8, 9, 10] kj3 (fun kq v8 v9 v10 w' => ∃ (x8_2 : List ByteArray) (x9_2 : ByteArray) (x10_2 : Int), v9 = .string x9_2 ∧ v10 = .int .i64 x10_2 ∧ Aside0 (kdf_Expand.l0 kq a0 a1 a2 x8_2 x9_2 x10_2 = some (r1, r2)) ∧ Aside0 (kq ≤ kj3) ∧ Aside0 (Kd.R Kd.string 9 w' w.heap.size (fun _ => True) v8 x8_2) ∧ Aside0 (Below w.heap.size w w'))
        case atStart => exact ⟨(([] : List ByteArray)), ((⟨#[]⟩ : ByteArray)), (1), (by first | rfl | (simp; done) | (simp [*]; done)), (by first | rfl | (simp; done) | (simp [*]; done)), H', ⟨Nat.le_refl _⟩, ⟨by first | exact Kd.R_nil _ _ _ _ _ | exact Kd.N_nil _ _ _ _ _ | exact Kd.V_nil _ _ _ _ _ | exact Kd.Q_nil _ _ _ _ _ | exact Kd.S_nil _ _ _ _ _⟩, ⟨by repeat (first | (with_reducible first | exact HB.out | apply below_alloc | apply pw_below_drewN | apply below_drew1) | exact HB.out)⟩⟩
        case round =>
          clear H'
          try clear c1
          try clear p2
          try clear c5
          try clear c5b0
          try clear c6
          try clear p2
          obtain ⟨x8_2, x9_2, x10_2, rfl, rfl, HA, HK2, HO_8, HB⟩ := hrel
          cases gk with
          | zero => exact absurd HA.out (by simp [kdf_Expand.l0])
          | succ k2 =>
            have H := HA.out
            clear HA
            simp only [kdf_Expand.l0] at H
            by_cases c7 : (wrap64 ((x8_2.length : Int) * 32)) < a2
            · rw [if_pos c7] at H
              have c7b0 : decide ((wrap64 ((x8_2.length : Int) * 32)) < a2) = true := decide_eq_true c7
              clear c7
              obtain ⟨y107, hy107⟩ : ∃ y_ : List Int, y_ = (([(x10_2) % 256] : List Int)) := ⟨_, rfl⟩
              replace H : ((kdf_Mac.f a0 (([x9_2, a1, strOfNums y107] : List ByteArray))).bind fun t113 => (if x8_2.length < 8796093022208 then (kdf_Expand.l0 k2 a0 a1 a2 (x8_2 ++ [t113]) t113 (wrap64 (x10_2 + 1))) else (none))) = some (r1, r2) := by first | (rw [hy107]; with_reducible exact H) | (have H2_ := (Option.bind_some _ _).symm.trans H; rw [hy107]; with_reducible exact H2_) | (have H2_ := (Option.bind_some _ _).symm.trans H; with_reducible exact H2_) | with_reducible exact H | (rw [hy107]; exact H) | exact H
              have Ny107 := Aside0.mk hy107
              clear hy107
              obtain ⟨y110, hy110⟩ : ∃ y_ : List ByteArray, y_ = (([x9_2, a1, strOfNums y107] : List ByteArray)) := ⟨_, rfl⟩
              replace H : ((kdf_Mac.f a0 y110).bind fun t113 => (if x8_2.length < 8796093022208 then (kdf_Expand.l0 k2 a0 a1 a2 (x8_2 ++ [t113]) t113 (wrap64 (x10_2 + 1))) else (none))) = some (r1, r2) := by first | (rw [hy110]; with_reducible exact H) | (have H2_ := (Option.bind_some _ _).symm.trans H; rw [hy110]; with_reducible exact H2_) | (have H2_ := (Option.bind_some _ _).symm.trans H; with_reducible exact H2_) | with_reducible exact H | (rw [hy110]; exact H) | exact H
              have Ny110 := Aside0.mk hy110
              clear hy110
              replace H := Option.bind_eq_some_iff.mp H
              obtain ⟨t113, A80, H⟩ := H
              replace H : (if x8_2.length < 8796093022208 then (kdf_Expand.l0 k2 a0 a1 a2 (x8_2 ++ [t113]) t113 (wrap64 (x10_2 + 1))) else (none)) = some (r1, r2) := H
              have A8 := Aside0.mk A80
              clear A80
              by_cases c9 : x8_2.length < 8796093022208
              · rw [if_pos c9] at H
                have LMc9 := Aside0.mk c9
                clear c9
                obtain ⟨y114, hy114⟩ : ∃ y_ : List ByteArray, y_ = (x8_2 ++ [t113]) := ⟨_, rfl⟩
                replace H : (kdf_Expand.l0 k2 a0 a1 a2 y114 t113 (wrap64 (x10_2 + 1))) = some (r1, r2) := by first | (rw [hy114]; with_reducible exact H) | (have H2_ := (Option.bind_some _ _).symm.trans H; rw [hy114]; with_reducible exact H2_) | (have H2_ := (Option.bind_some _ _).symm.trans H; with_reducible exact H2_) | with_reducible exact H | (rw [hy114]; exact H) | exact H
                have Ny114 := Aside0.mk hy114
                clear hy114
                have H' := Aside0.mk H
                clear H
                obtain ⟨Ao10, co10, eo10⟩ := Kd.R_slice HO_8.out
                subst eo10
                go_wp2_with (first | ((with_reducible refine gate_dst (N := 29) rfl ?_); refine Kd.R_lit (Kd.int .u8) _ 5 ?hg (N := 29) ?hd (xs := ([(x10_2) % 256] : List Int)) (inner := [.int .u8 ((x10_2) % 256)]) (ok := fun _ => True) (okp := fun _ => True) ?hr ?hp (fun _ hk => hk) trivial (Below.refl _ _) (Nat.le_refl _) (by simp) ?_; (case hd => rfl); (case hg => rfl); (case hr => first | (go_simp; done) | (go_simp; rfl)); (case hp => exact (Reps.one (show Kd.M (Kd.int .u8) _ _ _ ((x10_2) % 256) [.int .u8 ((x10_2) % 256)] from rfl) (Reps.none _ _))); intro v108 w11 ho12 hb hg_ hnew_; clear hg_ hnew_; (first | rw [← Ny107.out] at ho12 | (simp only [Int.reduceToNat] at ho12; rw [← Ny107.out] at ho12)); have n0_ := Aside0.mk (Kd.R_below (by (with_reducible repeat (first | apply Kd.R_alloc | apply Kd.R_drewN | apply Kd.R_drew)); exact HO_8.out) hb); have n1_ := Aside0.mk (Kd.R_lower ho12 (below_size (by repeat (first | (with_reducible first | exact HB.out | apply below_alloc | apply pw_below_drewN | apply below_drew1) | exact HB.out)))); have n2_ := Aside0.mk (below_step (by repeat (first | (with_reducible first | exact HB.out | apply below_alloc | apply pw_below_drewN | apply below_drew1) | exact HB.out)) hb); clear HO_8; clear HB; have HO_8 := n0_; have HO109 := n1_; have HB := n2_; clear n0_ n1_ n2_; clear hb ho12; have hcv13 := own_string (P := Try.prog) Try.underlying46 Try.underlying5 Try.underlying9 (Kd.own_of_R HO109.out)) | ((with_reducible refine gate_dst (N := 31) rfl ?_); refine Kd.R_lit Kd.string _ 9 ?hg (N := 31) ?hd (xs := ([x9_2, a1, strOfNums y107] : List ByteArray)) (inner := [.string x9_2, .string a1, .string (strOfNums y107)]) (ok := fun _ => True) (okp := fun _ => True) ?hr ?hp (fun _ hk => hk) trivial (Below.refl _ _) (Nat.le_refl _) (by simp) ?_; (case hd => rfl); (case hg => rfl); (case hr => first | (go_simp; done) | (go_simp; rfl)); (case hp => exact (Reps.one (show Kd.M Kd.string _ _ _ x9_2 [.string x9_2] from rfl) (Reps.one (show Kd.M Kd.string _ _ _ a1 [.string a1] from rfl) (Reps.one (show Kd.M Kd.string _ _ _ (strOfNums y107) [.string (strOfNums y107)] from rfl) (Reps.none _ _))))); intro v111 w14 ho15 hb hg_ hnew_; clear hg_ hnew_; (first | rw [← Ny110.out] at ho15 | (simp only [Int.reduceToNat] at ho15; rw [← Ny110.out] at ho15)); have n0_ := Aside0.mk (Kd.R_elder' (by (with_reducible repeat (first | apply Kd.R_alloc | apply Kd.R_drewN | apply Kd.R_drew)); exact HO_8.out) (Kd.R_base ho15) hb); have n1_ := Aside0.mk (Kd.R_below (by (with_reducible repeat (first | apply Kd.R_alloc | apply Kd.R_drewN | apply Kd.R_drew)); exact HO109.out) hb); have n2_ := Aside0.mk (Kd.R_lower (Kd.R_new' ho15 (Kd.R_lt (by (with_reducible repeat (first | apply Kd.R_alloc | apply Kd.R_drewN | apply Kd.R_drew)); exact HO_8.out))) (below_size (by repeat (first | (with_reducible first | exact HB.out | apply below_alloc | apply pw_below_drewN | apply below_drew1) | exact HB.out)))); have n3_ := Aside0.mk (below_step (by repeat (first | (with_reducible first | exact HB.out | apply below_alloc | apply pw_below_drewN | apply below_drew1) | exact HB.out)) hb); clear HO_8; clear HO109; clear HB; have HO_8 := n0_; have HO109 := n1_; have HO112 := n2_; have HB := n3_; clear n0_ n1_ n2_ n3_; clear hb ho15; obtain ⟨Ao16, co16, eo16⟩ := Kd.R_slice HO112.out; subst eo16) | ((with_reducible refine gate_callee (f := 18) rfl ?_); refine goesL_ (some 32) rfl rfl Try.func18 (by kernel_rfl) rfl #[.string a0, .slice Ao16 y110.length co16] rfl (by (try simp only [List.map_toArray, List.map_cons, List.map_nil]); first | done | rfl | (simp only [List.length_drop, List.length_take]; rfl)) ?_; (with_reducible refine (kdf_Mac.calls a0 _ _ y110 t113 _ ?side1 ?side2 A8.out).mono ?_); (case side1 => repeat (first | exact (Kd.R_reads' HO112.out).2.2 | (with_reducible refine Kd.C_alloc ?_ _) | (with_reducible refine Kd.C_drewN ?_ _) | (with_reducible refine Kd.C_drew ?_))); (case side2 => exact (Kd.R_reads' HO112.out).2.1); rintro e w17 ⟨rfl, hb⟩; refine ⟨_, rfl, ?_⟩; have n0_ := Aside0.mk (Kd.R_below (by (with_reducible repeat (first | apply Kd.R_alloc | apply Kd.R_drewN | apply Kd.R_drew)); exact HO_8.out) hb); have n1_ := Aside0.mk (Kd.R_below (by (with_reducible repeat (first | apply Kd.R_alloc | apply Kd.R_drewN | apply Kd.R_drew)); exact HO109.out) hb); have n2_ := Aside0.mk (Kd.R_below (by (with_reducible repeat (first | apply Kd.R_alloc | apply Kd.R_drewN | apply Kd.R_drew)); exact HO112.out) hb); have n3_ := Aside0.mk (below_step (by repeat (first | (with_reducible first | exact HB.out | apply below_alloc | apply pw_below_drewN | apply below_drew1) | exact HB.out)) hb); clear HO_8; clear HO109; clear HO112; clear HB; have HO_8 := n0_; have HO109 := n1_; have HO112 := n2_; have HB := n3_; clear n0_ n1_ n2_ n3_; (try clear hb); (try clear hb2); (try clear hk); (try clear hi)) | ((with_reducible refine gate_builtin (b := .append) (xs := #[.tmp 33, .tmp 35]) rfl ?_); at_builtin; refine Kd.R_append Kd.string (w0 := w) w.heap.size rfl (.tmp 33) (.tmp 35) 34 9 (.string ⟨#[]⟩) 16 rfl Try.underlying34 info9 rfl (by decide) (by omega) (.slice Ao10 x8_2.length co10) x8_2 t113 [.string t113] (fun k_ => some k_ ≠ (.slice Ao16 y110.length co16 : Value).ownBlock) (fun _ => False) rfl rfl ?aP (fun _ hk => hk.elim) ?aF ?aO ?aB ?aS ?aL ?_; (case aP => exact rfl); (case aB => exact (by repeat (first | (with_reducible first | exact HB.out | apply below_alloc | apply pw_below_drewN | apply below_drew1) | exact HB.out))); (case aF => exact (fun k_ hk => Kd.fresh' (Kd.R_lt (by (with_reducible repeat (first | apply Kd.R_alloc | apply Kd.R_drewN | apply Kd.R_drew)); exact HO112.out)) k_ hk)); (case aO => exact (by (with_reducible repeat (first | apply Kd.R_alloc | apply Kd.R_drewN | apply Kd.R_drew)); exact Kd.R_mono HO_8.out (fun _ hk => hk.2))); (case aS => exact (below_size (by repeat (first | (with_reducible first | exact HB.out | apply below_alloc | apply pw_below_drewN | apply below_drew1) | exact HB.out)))); (case aL => have := LMc9.out; omega); intro v115 w18 ho hb hg hat; rw [← Ny114.out] at ho; have n0_ := Aside0.mk (Kd.R_over' (by (with_reducible repeat (first | apply Kd.R_alloc | apply Kd.R_drewN | apply Kd.R_drew)); exact HO109.out) (Kd.R_typed (by (with_reducible repeat (first | apply Kd.R_alloc | apply Kd.R_drewN | apply Kd.R_drew)); exact HO_8.out)) (by decide) hg); have n1_ := Aside0.mk (Kd.R_after (ok := (fun _ => True)) (by (with_reducible repeat (first | apply Kd.R_alloc | apply Kd.R_drewN | apply Kd.R_drew)); exact HO112.out) hg hat); have n2_ := Aside0.mk (hb); have n3_ := Aside0.mk (ho); clear HO109; clear HO112; clear HB; clear HO_8; have HO109 := n0_; have HO112 := n1_; have HB := n2_; have HO116 := n3_; clear n0_ n1_ n2_ n3_; clear ho hb hg hat))
                go_roundg k2
                case measure => have := HJ3.out; have := HK2.out; omega
                case rel => exact ⟨(y114), (t113), (wrap64 (x10_2 + 1)), (by first | rfl | (simp; done) | (simp [*]; done)), (by first | rfl | (simp; done) | (simp [*]; done)), H', ⟨by have := HJ3.out; have := HK2.out; omega⟩, ⟨by (with_reducible repeat (first | apply Kd.R_alloc | apply Kd.R_drewN | apply Kd.R_drew)); exact Kd.R_mono HO116.out (fun _ hk => trivial)⟩, ⟨by repeat (first | (with_reducible first | exact HB.out | apply below_alloc | apply pw_below_drewN | apply below_drew1) | exact HB.out)⟩⟩
              · rw [if_neg c9] at H
                exact absurd H (by simp)
            · rw [if_neg c7] at H
              have c7b0 : decide ((wrap64 ((x8_2.length : Int) * 32)) < a2) = false := decide_eq_false c7
              clear c7
              replace H := Option.bind_eq_some_iff.mp H
              obtain ⟨t117, A190, H⟩ := H
              replace H : (if 0 ≤ a2 then (if a2 ≤ (t117.size : Int) then (some (t117.extract 0 (a2 : Int).toNat, 0)) else (none)) else (none)) = some (r1, r2) := H
              have A19 := Aside0.mk A190
              clear A190
              by_cases c20 : 0 ≤ a2
              · rw [if_pos c20] at H
                have c20b0 := eq_true c20
                have c20b1 : decide (0 ≤ a2) = true := decide_eq_true c20
                clear c20
                by_cases c21 : a2 ≤ (t117.size : Int)
                · rw [if_pos c21] at H
                  have c21b0 := eq_true c21
                  have c21b1 : decide (a2 ≤ (t117.size : Int)) = true := decide_eq_true c21
                  clear c21
                  simp only [Option.some.injEq, Prod.mk.injEq] at H
                  obtain ⟨rfl, rfl⟩ := H
                  obtain ⟨Ao22, co22, eo22⟩ := Kd.R_slice HO_8.out
                  subst eo22
                  go_wp2_with (first | ((with_reducible refine gate_callee (f := 29) rfl ?_); refine goesL_ (some 38) rfl rfl Try.func29 (by kernel_rfl) rfl #[.slice Ao22 x8_2.length co22, .string (⟨#[]⟩ : ByteArray)] rfl (by (try simp only [List.map_toArray, List.map_cons, List.map_nil]); first | done | rfl | (simp only [List.length_drop, List.length_take]; rfl)) ?_; (with_reducible refine (strings_Join.calls _ _ x8_2 (⟨#[]⟩ : ByteArray) t117 _ ?side1 ?side2 A19.out).mono ?_); (case side1 => repeat (first | exact (Kd.R_reads' HO_8.out).2.2 | (with_reducible refine Kd.C_alloc ?_ _) | (with_reducible refine Kd.C_drewN ?_ _) | (with_reducible refine Kd.C_drew ?_))); (case side2 => exact (Kd.R_reads' HO_8.out).2.1); rintro e w23 ⟨rfl, hb⟩; refine ⟨_, rfl, ?_⟩; have n0_ := Aside0.mk (Kd.R_below (by (with_reducible repeat (first | apply Kd.R_alloc | apply Kd.R_drewN | apply Kd.R_drew)); exact HO_8.out) hb); have n1_ := Aside0.mk (below_step (by repeat (first | (with_reducible first | exact HB.out | apply below_alloc | apply pw_below_drewN | apply below_drew1) | exact HB.out)) hb); clear HO_8; clear HB; have HO_8 := n0_; have HB := n1_; clear n0_ n1_; (try clear hb); (try clear hb2); (try clear hk); (try clear hi)))
                  go_ret2
                  exact ⟨by first | rfl | (simp [errW_none, errW_some] <;> rfl) | (simp [*, errW_none, errW_some] <;> rfl), by repeat (first | (with_reducible first | exact HB.out | apply below_alloc | apply pw_below_drewN | apply below_drew1) | exact HB.out)⟩
                · rw [if_neg c21] at H
                  exact absurd H (by simp)
              · rw [if_neg c20] at H
                exact absurd H (by simp)

/-! ### kdf_counted: function 31 -/
def kdf_counted.f (l0 : List ByteArray) : Option (ByteArray) := (strings_Join.f l0 (⟨#[]⟩ : ByteArray)).bind fun t118 => ((some (([((t118.size : Int)) % 256] : List Int) : List Int)).bind fun y119 => (if (strOfNums y119).size + t118.size ≤ 9223372036854775807 then (some ((strOfNums y119) ++ t118)) else (none)))
set_option maxHeartbeats 8000000 in
set_option maxRecDepth 100000 in
theorem kdf_counted.calls (A0 : Option Addr) (c0 : Nat) (l0 : List ByteArray) (r : ByteArray) (w : World) (hr0 : Kd.C Kd.string w A0 l0.length l0) (hc0 : l0.length ≤ c0) (h : kdf_counted.f l0 = some r) :
    Calls Try.prog 31 #[.slice A0 l0.length c0] w fun e w' => e = .returned (.string r) ∧ Below w.heap.size w w' := by
  have HR0 := Aside0.mk hr0
  have HC0 := Aside0.mk hc0
  clear hr0 hc0
  have HB := Aside0.mk (Below.refl w.heap.size w)
  have H : ((strings_Join.f l0 (⟨#[]⟩ : ByteArray)).bind fun t118 => ((some (([((t118.size : Int)) % 256] : List Int) : List Int)).bind fun y119 => (if (strOfNums y119).size + t118.size ≤ 9223372036854775807 then (some ((strOfNums y119) ++ t118)) else (none)))) = some r := h
  clear h
  replace H := Option.bind_eq_some_iff.mp H
  obtain ⟨t118, A20, H⟩ := H
  replace H : ((some (([((t118.size : Int)) % 256] : List Int) : List Int)).bind fun y119 => (if (strOfNums y119).size + t118.size ≤ 9223372036854775807 then (some ((strOfNums y119) ++ t118)) else (none))) = some r := H
  have A2 := Aside0.mk A20
  clear A20
  obtain ⟨y119, hy119⟩ : ∃ y_ : List Int, y_ = (([((t118.size : Int)) % 256] : List Int)) := ⟨_, rfl⟩
  replace H : (if (strOfNums y119).size + t118.size ≤ 9223372036854775807 then (some ((strOfNums y119) ++ t118)) else (none)) = some r := by first | (rw [hy119]; with_reducible exact H) | (have H2_ := (Option.bind_some _ _).symm.trans H; rw [hy119]; with_reducible exact H2_) | (have H2_ := (Option.bind_some _ _).symm.trans H; with_reducible exact H2_) | with_reducible exact H | (rw [hy119]; exact H) | exact H
  have Ny119 := Aside0.mk hy119
  clear hy119
  by_cases c3 : (strOfNums y119).size + t118.size ≤ 9223372036854775807
  · rw [if_pos c3] at H
    have c3b0 := eq_true c3
    have c3b1 : decide ((strOfNums y119).size + t118.size ≤ 9223372036854775807) = true := decide_eq_true c3
    try have c3b2 : (9223372036854775807 < (strOfNums y119).size + t118.size) = False := eq_false (Nat.not_lt.2 c3)
    obtain rfl := Option.some.inj H
    go_enter Try.func31, Try.ntmps31
    go_wp2_with (first | ((with_reducible refine gate_callee (f := 29) rfl ?_); refine goesL_ (some 5) rfl rfl Try.func29 (by kernel_rfl) rfl #[.slice A0 l0.length c0, .string (⟨#[]⟩ : ByteArray)] rfl (by (try simp only [List.map_toArray, List.map_cons, List.map_nil]); first | done | rfl | (simp only [List.length_drop, List.length_take]; rfl)) ?_; (with_reducible refine (strings_Join.calls _ _ l0 (⟨#[]⟩ : ByteArray) t118 _ ?side1 ?side2 A2.out).mono ?_); (case side1 => repeat (first | exact HR0.out | (with_reducible refine Kd.C_alloc ?_ _) | (with_reducible refine Kd.C_drewN ?_ _) | (with_reducible refine Kd.C_drew ?_))); (case side2 => exact HC0.out); rintro e w4 ⟨rfl, hb⟩; refine ⟨_, rfl, ?_⟩; have n0_ := Aside0.mk (below_step (by repeat (first | (with_reducible first | exact HB.out | apply below_alloc | apply pw_below_drewN | apply below_drew1) | exact HB.out)) hb); clear HB; have HB := n0_; clear n0_; (try clear hb); (try clear hb2); (try clear hk); (try clear hi)) | ((with_reducible refine gate_dst (N := 9) rfl ?_); refine Kd.R_lit (Kd.int .u8) _ 5 ?hg (N := 9) ?hd (xs := ([((t118.size : Int)) % 256] : List Int)) (inner := [.int .u8 (((t118.size : Int)) % 256)]) (ok := fun _ => True) (okp := fun _ => True) ?hr ?hp (fun _ hk => hk) trivial (Below.refl _ _) (Nat.le_refl _) (by simp) ?_; (case hd => rfl); (case hg => rfl); (case hr => first | (go_simp; done) | (go_simp; rfl)); (case hp => exact (Reps.one (show Kd.M (Kd.int .u8) _ _ _ (((t118.size : Int)) % 256) [.int .u8 (((t118.size : Int)) % 256)] from rfl) (Reps.none _ _))); intro v120 w5 ho6 hb hg_ hnew_; clear hg_ hnew_; (first | rw [← Ny119.out] at ho6 | (simp only [Int.reduceToNat] at ho6; rw [← Ny119.out] at ho6)); have n0_ := Aside0.mk (Kd.R_lower ho6 (below_size (by repeat (first | (with_reducible first | exact HB.out | apply below_alloc | apply pw_below_drewN | apply below_drew1) | exact HB.out)))); have n1_ := Aside0.mk (below_step (by repeat (first | (with_reducible first | exact HB.out | apply below_alloc | apply pw_below_drewN | apply below_drew1) | exact HB.out)) hb); clear HB; have HO121 := n0_; have HB := n1_; clear n0_ n1_; clear hb ho6; have hcv7 := own_string (P := Try.prog) Try.underlying46 Try.underlying5 Try.underlying9 (Kd.own_of_R HO121.out)))
    go_ret
    exact ⟨by first | rfl | (simp [errW_none, errW_some] <;> rfl) | (simp [*, errW_none, errW_some] <;> rfl), by repeat (first | (with_reducible first | exact HB.out | apply below_alloc | apply pw_below_drewN | apply below_drew1) | exact HB.out)⟩
  · rw [if_neg c3] at H
    exact absurd H (by simp)

end Go.Proofs.Ytghdmlcmoeoohaa.PKfx
