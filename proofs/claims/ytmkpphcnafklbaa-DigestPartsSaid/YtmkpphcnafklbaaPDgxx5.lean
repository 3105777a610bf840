-- printed for this claim by a program of the claim (wip/tools/pp.py over the kit's print)
import Derived.Test.YtmkpphcnafklbaaPDgxx0
import Derived.Test.YtmkpphcnafklbaaPDgxx2
import Derived.Test.YtmkpphcnafklbaaPDgxx3
import Derived.Test.YtmkpphcnafklbaaPDgxx4
namespace Go.Proofs.Ytmkpphcnafklbaa.PDgx
open Go.RowKit Go.Proofs.YtmkpphcnafklbaaW.PrintWords Go.Proofs.YtmkpphcnafklbaaW.PrintLast Go.Proofs.YtmkpphcnafklbaaW.PrintMore
attribute [local go_sem] max2_int min2_int max_two min_two max_three min_three max_four min_four   -- for this text's walks alone
set_option linter.unusedVariables false
set_option linter.unusedSimpArgs false

attribute [local go_sem] isSome_setCell_
theorem pow2_some : ∀ m : Fin 57, dominoref07_power.f 60 (m.val : Int) = some (2 ^ m.val) := by decide +kernel
def zn (s : ByteArray) : Nat := (119 - s.size % 64) % 64
def filL (s : ByteArray) : List Int := bytesOf s ++ [128] ++ List.replicate (zn s) 0
def filB (n : Int) : List Int := [n / 72057594037927936 % 256, n / 281474976710656 % 256, n / 1099511627776 % 256, n / 4294967296 % 256, n / 16777216 % 256, n / 65536 % 256, n / 256 % 256, n % 256]
def filF (s : ByteArray) : ByteArray := strOfNums (filL s ++ filB ((s.size : Int) * 8))
set_option maxHeartbeats 4000000 in
set_option maxRecDepth 100000 in
theorem filled_calls (s : ByteArray) (w : World) (hs : s.size ≤ 1099511627776) :
    Calls Try.prog 23 #[.string s] w fun e w' => e = .returned (.string (filF s)) ∧ Below w.heap.size w w' := by
  have hcv := Lib.run_convert_string_bytes (P := Try.prog) w 9 39 5 s Try.underlying9 Try.underlying39 Try.underlying5
  have hb0 := BRO.new w s (by unfold maxLen; omega)
  have hb1 := below_bytes_ w 5 s
  have hbl := bytesOf_length s
  generalize Lib.bytesWorld w 5 s = w1 at hcv hb0 hb1
  have HB := Aside0.mk hb0
  have HW := Aside0.mk hb1
  have hsz1 : w.heap.size ≤ w1.heap.size := hb1.size
  have HBL := Aside0.mk hbl
  clear hb0 hb1 hbl
  go_enter Try.func23, Try.ntmps23
  go_wp2_with (at_builtin; go_loud (refine wpList_append_bro rfl _ _ 39 rfl Try.underlying39 w.heap.size _ (bytesOf s) 128 HB.out rfl hsz1 w1.heap.size rfl rfl (by rw [HBL.out]; omega) ?_; intro v2 w2 hb2 hl2; have HB2 := Aside0.mk hb2; have HW2 := Aside0.mk (HW.out.trans hl2); clear hb2 hl2))
  clear hcv
  obtain ⟨A2, c2, rfl, hr2⟩ := HB2.out.form
  obtain ⟨n2, hn2, hn3⟩ : ∃ n, n = (bytesOf s ++ [(128 : Int)]).length ∧ n = s.size + 1 := ⟨_, rfl, by rw [List.length_append, HBL.out]; rfl⟩
  rw [← hn2] at HB2 ⊢
  have HN3 := Aside0.mk hn3
  have HN2 := Aside0.mk hn2.symm
  have HR0 : Aside0 (BRO w.heap.size w2 (.slice A2 n2 c2) (bytesOf s ++ [128] ++ List.replicate 0 0)) := ⟨by simpa using HB2.out⟩
  clear hn2 hn3 hsz1 hr2
  go_loopg [3] (zn s) (fun r s3 wr => ∃ (k n : Nat) (A : Option Addr) (c : Nat), k + r = zn s ∧ Aside0 (n = s.size + 1 + k) ∧ s3 = .slice A n c ∧ Aside0 (BRO w.heap.size wr (.slice A n c) (bytesOf s ++ [128] ++ List.replicate k 0)) ∧ Aside0 (Below w.heap.size w wr))
  case atStart => exact ⟨0, n2, A2, c2, by omega, ⟨by rw [HN3.out]⟩, rfl, HR0, HW2⟩
  case round =>
    obtain ⟨k, n, A, c, hk, HN, rfl, HR, HW3⟩ := hrel
    have hzn : zn s = (119 - s.size % 64) % 64 := rfl
    have hnl := HN.out
    have hn41 : n ≤ 2199023255552 := by omega
    have hlen : (bytesOf s ++ [(128 : Int)] ++ List.replicate k 0).length = n := by rw [List.length_append, List.length_append, HBL.out, List.length_replicate, hnl]; rfl
    have HL := Aside0.mk hlen
    have hszr : w.heap.size ≤ wr.heap.size := HW3.out.size
    cases gk with
    | zero =>
      have hq : ((n : Int) % 64 != 56) = false := by simp; omega
      have HR1 : Aside0 (BRO w.heap.size wr (.slice A n c) (filL s)) := ⟨by unfold filL; rw [← show k = zn s by omega]; exact HR.out⟩
      have HL1 : Aside0 ((filL s).length = n) := ⟨by unfold filL; rw [← show k = zn s by omega]; exact hlen⟩
      clear hk hzn hnl hlen HR HL
      obtain ⟨xs0, hxs0⟩ : ∃ x, x = filL s := ⟨_, rfl⟩
      rw [← hxs0] at HR1 HL1
      have HXS0 := Aside0.mk hxs0
      clear hxs0
      go_wp2
      refine wp_loop_rounds 9 ?_
      rw [rounds_succ]
      go_wp2_with fail
      refine (dominoref07_power.calls 60 56 _ _ (pow2_some ⟨56, by decide⟩)).mono ?_
      rintro e wp ⟨rfl, ⟨⟨nd, rfl⟩⟩⟩
      have hb0 := HR1.out.below (pw_below_drewN (Below.refl _ _) nd)
      have hw0 := pw_below_drewN HW3.out nd
      have hz0 := hw0.size
      generalize wr.drewN nd = wq0 at hb0 hw0 hz0 ⊢
      have HB0' := Aside0.mk hb0
      have HW0' := Aside0.mk hw0
      have hlb : (xs0).length + 1 ≤ 140737488355328 := by rw [HL1.out]; omega
      clear hb0 hw0
      go_wp2_with (at_builtin; go_loud (refine wpList_append_bro rfl _ _ 39 rfl Try.underlying39 w.heap.size _ xs0 ((s.size : Int) * 8 / 72057594037927936 % 256) HB0'.out rfl hz0 wq0.heap.size rfl rfl hlb ?_; intro u0 y0 hbx hlx; have HX0 := Aside0.mk hbx; have HY0 := Aside0.mk (HW0'.out.trans hlx); clear hbx hlx hlb hz0))
      obtain ⟨A0, c0, rfl, hq0⟩ := HX0.out.form
      obtain ⟨n0, hn0⟩ : ∃ n, n = (xs0 ++ [(s.size : Int) * 8 / 72057594037927936 % 256]).length := ⟨_, rfl⟩
      obtain ⟨xs1, hx1⟩ : ∃ x, x = xs0 ++ [(s.size : Int) * 8 / 72057594037927936 % 256] := ⟨_, rfl⟩
      rw [← hx1] at HX0 hn0 ⊢
      have HL1' : Aside0 (xs1.length = n + 1) := ⟨by rw [hx1, List.length_append, HL1.out]; rfl⟩
      have HXS1 := Aside0.mk hx1
      rw [← hn0] at HX0 ⊢
      have HNL0 := Aside0.mk hn0
      clear hq0 hx1 hn0
      have HR1x : Aside0 (BRO w.heap.size y0 (.slice A0 n0 c0) xs1) := ⟨HX0.out⟩
      rw [rounds_succ]
      go_wp2_with fail
      refine (dominoref07_power.calls 60 48 _ _ (pow2_some ⟨48, by decide⟩)).mono ?_
      rintro e wp ⟨rfl, ⟨⟨nd, rfl⟩⟩⟩
      have hb1 := HR1x.out.below (pw_below_drewN (Below.refl _ _) nd)
      have hw1 := pw_below_drewN HY0.out nd
      have hz1 := hw1.size
      generalize y0.drewN nd = wq1 at hb1 hw1 hz1 ⊢
      have HB1' := Aside0.mk hb1
      have HW1' := Aside0.mk hw1
      have hlb : (xs1).length + 1 ≤ 140737488355328 := by rw [HL1'.out]; omega
      clear hb1 hw1
      go_wp2_with (at_builtin; go_loud (refine wpList_append_bro rfl _ _ 39 rfl Try.underlying39 w.heap.size _ xs1 ((s.size : Int) * 8 / 281474976710656 % 256) HB1'.out rfl hz1 wq1.heap.size rfl rfl hlb ?_; intro u1 y1 hbx hlx; have HX1 := Aside0.mk hbx; have HY1 := Aside0.mk (HW1'.out.trans hlx); clear hbx hlx hlb hz1))
      obtain ⟨A1, c1, rfl, hq1⟩ := HX1.out.form
      obtain ⟨n1, hn1⟩ : ∃ n, n = (xs1 ++ [(s.size : Int) * 8 / 281474976710656 % 256]).length := ⟨_, rfl⟩
      obtain ⟨xs2, hx2⟩ : ∃ x, x = xs1 ++ [(s.size : Int) * 8 / 281474976710656 % 256] := ⟨_, rfl⟩
      rw [← hx2] at HX1 hn1 ⊢
      have HL2' : Aside0 (xs2.length = n + 2) := ⟨by rw [hx2, List.length_append, HL1'.out]; rfl⟩
      have HXS2 := Aside0.mk hx2
      rw [← hn1] at HX1 ⊢
      have HNL1 := Aside0.mk hn1
      clear hq1 hx2 hn1
      have HR2x : Aside0 (BRO w.heap.size y1 (.slice A1 n1 c1) xs2) := ⟨HX1.out⟩
      rw [rounds_succ]
      go_wp2_with fail
      refine (dominoref07_power.calls 60 40 _ _ (pow2_some ⟨40, by decide⟩)).mono ?_
      rintro e wp ⟨rfl, ⟨⟨nd, rfl⟩⟩⟩
      have hb2 := HR2x.out.below (pw_below_drewN (Below.refl _ _) nd)
      have hw2 := pw_below_drewN HY1.out nd
      have hz2 := hw2.size
      generalize y1.drewN nd = wq2 at hb2 hw2 hz2 ⊢
      have HB2' := Aside0.mk hb2
      have HW2' := Aside0.mk hw2
      have hlb : (xs2).length + 1 ≤ 140737488355328 := by rw [HL2'.out]; omega
      clear hb2 hw2
      go_wp2_with (at_builtin; go_loud (refine wpList_append_bro rfl _ _ 39 rfl Try.underlying39 w.heap.size _ xs2 ((s.size : Int) * 8 / 1099511627776 % 256) HB2'.out rfl hz2 wq2.heap.size rfl rfl hlb ?_; intro u2 y2 hbx hlx; have HX2 := Aside0.mk hbx; have HY2 := Aside0.mk (HW2'.out.trans hlx); clear hbx hlx hlb hz2))
      obtain ⟨A2, c2, rfl, hq2⟩ := HX2.out.form
      obtain ⟨n2, hn2⟩ : ∃ n, n = (xs2 ++ [(s.size : Int) * 8 / 1099511627776 % 256]).length := ⟨_, rfl⟩
      obtain ⟨xs3, hx3⟩ : ∃ x, x = xs2 ++ [(s.size : Int) * 8 / 1099511627776 % 256] := ⟨_, rfl⟩
      rw [← hx3] at HX2 hn2 ⊢
      have HL3' : Aside0 (xs3.length = n + 3) := ⟨by rw [hx3, List.length_append, HL2'.out]; rfl⟩
      have HXS3 := Aside0.mk hx3
      rw [← hn2] at HX2 ⊢
      have HNL2 := Aside0.mk hn2
      clear hq2 hx3 hn2
      have HR3x : Aside0 (BRO w.heap.size y2 (.slice A2 n2 c2) xs3) := ⟨HX2.out⟩
      rw [rounds_succ]
      go_wp2_with fail
      refine (dominoref07_power.calls 60 32 _ _ (pow2_some ⟨32, by decide⟩)).mono ?_
      rintro e wp ⟨rfl, ⟨⟨nd, rfl⟩⟩⟩
      have hb3 := HR3x.out.below (pw_below_drewN (Below.refl _ _) nd)
      have hw3 := pw_below_drewN HY2.out nd
      have hz3 := hw3.size
      generalize y2.drewN nd = wq3 at hb3 hw3 hz3 ⊢
      have HB3' := Aside0.mk hb3
      have HW3' := Aside0.mk hw3
      have hlb : (xs3).length + 1 ≤ 140737488355328 := by rw [HL3'.out]; omega
      clear hb3 hw3
      go_wp2_with (at_builtin; go_loud (refine wpList_append_bro rfl _ _ 39 rfl Try.underlying39 w.heap.size _ xs3 ((s.size : Int) * 8 / 4294967296 % 256) HB3'.out rfl hz3 wq3.heap.size rfl rfl hlb ?_; intro u3 y3 hbx hlx; have HX3 := Aside0.mk hbx; have HY3 := Aside0.mk (HW3'.out.trans hlx); clear hbx hlx hlb hz3))
      obtain ⟨A3, c3, rfl, hq3⟩ := HX3.out.form
      obtain ⟨n3, hn3⟩ : ∃ n, n = (xs3 ++ [(s.size : Int) * 8 / 4294967296 % 256]).length := ⟨_, rfl⟩
      obtain ⟨xs4, hx4⟩ : ∃ x, x = xs3 ++ [(s.size : Int) * 8 / 4294967296 % 256] := ⟨_, rfl⟩
      rw [← hx4] at HX3 hn3 ⊢
      have HL4' : Aside0 (xs4.length = n + 4) := ⟨by rw [hx4, List.length_append, HL3'.out]; rfl⟩
      have HXS4 := Aside0.mk hx4
      rw [← hn3] at HX3 ⊢
      have HNL3 := Aside0.mk hn3
      clear hq3 hx4 hn3
      have HR4x : Aside0 (BRO w.heap.size y3 (.slice A3 n3 c3) xs4) := ⟨HX3.out⟩
      rw [rounds_succ]
      go_wp2_with fail
      refine (dominoref07_power.calls 60 24 _ _ (pow2_some ⟨24, by decide⟩)).mono ?_
      rintro e wp ⟨rfl, ⟨⟨nd, rfl⟩⟩⟩
      have hb4 := HR4x.out.below (pw_below_drewN (Below.refl _ _) nd)
      have hw4 := pw_below_drewN HY3.out nd
      have hz4 := hw4.size
      generalize y3.drewN nd = wq4 at hb4 hw4 hz4 ⊢
      have HB4' := Aside0.mk hb4
      have HW4' := Aside0.mk hw4
      have hlb : (xs4).length + 1 ≤ 140737488355328 := by rw [HL4'.out]; omega
      clear hb4 hw4
      go_wp2_with (at_builtin; go_loud (refine wpList_append_bro rfl _ _ 39 rfl Try.underlying39 w.heap.size _ xs4 ((s.size : Int) * 8 / 16777216 % 256) HB4'.out rfl hz4 wq4.heap.size rfl rfl hlb ?_; intro u4 y4 hbx hlx; have HX4 := Aside0.mk hbx; have HY4 := Aside0.mk (HW4'.out.trans hlx); clear hbx hlx hlb hz4))
      obtain ⟨A4, c4, rfl, hq4⟩ := HX4.out.form
      obtain ⟨n4, hn4⟩ : ∃ n, n = (xs4 ++ [(s.size : Int) * 8 / 16777216 % 256]).length := ⟨_, rfl⟩
      obtain ⟨xs5, hx5⟩ : ∃ x, x = xs4 ++ [(s.size : Int) * 8 / 16777216 % 256] := ⟨_, rfl⟩
      rw [← hx5] at HX4 hn4 ⊢
      have HL5' : Aside0 (xs5.length = n + 5) := ⟨by rw [hx5, List.length_append, HL4'.out]; rfl⟩
      have HXS5 := Aside0.mk hx5
      rw [← hn4] at HX4 ⊢
      have HNL4 := Aside0.mk hn4
      clear hq4 hx5 hn4
      have HR5x : Aside0 (BRO w.heap.size y4 (.slice A4 n4 c4) xs5) := ⟨HX4.out⟩
      rw [rounds_succ]
      go_wp2_with fail
      refine (dominoref07_power.calls 60 16 _ _ (pow2_some ⟨16, by decide⟩)).mono ?_
      rintro e wp ⟨rfl, ⟨⟨nd, rfl⟩⟩⟩
      have hb5 := HR5x.out.below (pw_below_drewN (Below.refl _ _) nd)
      have hw5 := pw_below_drewN HY4.out nd
      have hz5 := hw5.size
      generalize y4.drewN nd = wq5 at hb5 hw5 hz5 ⊢
      have HB5' := Aside0.mk hb5
      have HW5' := Aside0.mk hw5
      have hlb : (xs5).length + 1 ≤ 140737488355328 := by rw [HL5'.out]; omega
      clear hb5 hw5
      go_wp2_with (at_builtin; go_loud (refine wpList_append_bro rfl _ _ 39 rfl Try.underlying39 w.heap.size _ xs5 ((s.size : Int) * 8 / 65536 % 256) HB5'.out rfl hz5 wq5.heap.size rfl rfl hlb ?_; intro u5 y5 hbx hlx; have HX5 := Aside0.mk hbx; have HY5 := Aside0.mk (HW5'.out.trans hlx); clear hbx hlx hlb hz5))
      obtain ⟨A5, c5, rfl, hq5⟩ := HX5.out.form
      obtain ⟨n5, hn5⟩ : ∃ n, n = (xs5 ++ [(s.size : Int) * 8 / 65536 % 256]).length := ⟨_, rfl⟩
      obtain ⟨xs6, hx6⟩ : ∃ x, x = xs5 ++ [(s.size : Int) * 8 / 65536 % 256] := ⟨_, rfl⟩
      rw [← hx6] at HX5 hn5 ⊢
      have HL6' : Aside0 (xs6.length = n + 6) := ⟨by rw [hx6, List.length_append, HL5'.out]; rfl⟩
      have HXS6 := Aside0.mk hx6
      rw [← hn5] at HX5 ⊢
      have HNL5 := Aside0.mk hn5
      clear hq5 hx6 hn5
      have HR6x : Aside0 (BRO w.heap.size y5 (.slice A5 n5 c5) xs6) := ⟨HX5.out⟩
      rw [rounds_succ]
      go_wp2_with fail
      refine (dominoref07_power.calls 60 8 _ _ (pow2_some ⟨8, by decide⟩)).mono ?_
      rintro e wp ⟨rfl, ⟨⟨nd, rfl⟩⟩⟩
      have hb6 := HR6x.out.below (pw_below_drewN (Below.refl _ _) nd)
      have hw6 := pw_below_drewN HY5.out nd
      have hz6 := hw6.size
      generalize y5.drewN nd = wq6 at hb6 hw6 hz6 ⊢
      have HB6' := Aside0.mk hb6
      have HW6' := Aside0.mk hw6
      have hlb : (xs6).length + 1 ≤ 140737488355328 := by rw [HL6'.out]; omega
      clear hb6 hw6
      go_wp2_with (at_builtin; go_loud (refine wpList_append_bro rfl _ _ 39 rfl Try.underlying39 w.heap.size _ xs6 ((s.size : Int) * 8 / 256 % 256) HB6'.out rfl hz6 wq6.heap.size rfl rfl hlb ?_; intro u6 y6 hbx hlx; have HX6 := Aside0.mk hbx; have HY6 := Aside0.mk (HW6'.out.trans hlx); clear hbx hlx hlb hz6))
      obtain ⟨A6, c6, rfl, hq6⟩ := HX6.out.form
      obtain ⟨n6, hn6⟩ : ∃ n, n = (xs6 ++ [(s.size : Int) * 8 / 256 % 256]).length := ⟨_, rfl⟩
      obtain ⟨xs7, hx7⟩ : ∃ x, x = xs6 ++ [(s.size : Int) * 8 / 256 % 256] := ⟨_, rfl⟩
      rw [← hx7] at HX6 hn6 ⊢
      have HL7' : Aside0 (xs7.length = n + 7) := ⟨by rw [hx7, List.length_append, HL6'.out]; rfl⟩
      have HXS7 := Aside0.mk hx7
      rw [← hn6] at HX6 ⊢
      have HNL6 := Aside0.mk hn6
      clear hq6 hx7 hn6
      have HR7x : Aside0 (BRO w.heap.size y6 (.slice A6 n6 c6) xs7) := ⟨HX6.out⟩
      rw [rounds_succ]
      go_wp2_with fail
      refine (dominoref07_power.calls 60 0 _ _ (pow2_some ⟨0, by decide⟩)).mono ?_
      rintro e wp ⟨rfl, ⟨⟨nd, rfl⟩⟩⟩
      have hb7 := HR7x.out.below (pw_below_drewN (Below.refl _ _) nd)
      have hw7 := pw_below_drewN HY6.out nd
      have hz7 := hw7.size
      generalize y6.drewN nd = wq7 at hb7 hw7 hz7 ⊢
      have HB7' := Aside0.mk hb7
      have HW7' := Aside0.mk hw7
      have hlb : (xs7).length + 1 ≤ 140737488355328 := by rw [HL7'.out]; omega
      clear hb7 hw7
      go_wp2_with (at_builtin; go_loud (refine wpList_append_bro rfl _ _ 39 rfl Try.underlying39 w.heap.size _ xs7 ((s.size : Int) * 8 % 256) HB7'.out rfl hz7 wq7.heap.size rfl rfl hlb ?_; intro u7 y7 hbx hlx; have HX7 := Aside0.mk hbx; have HY7 := Aside0.mk (HW7'.out.trans hlx); clear hbx hlx hlb hz7))
      obtain ⟨A7, c7, rfl, hq7⟩ := HX7.out.form
      obtain ⟨n7, hn7⟩ : ∃ n, n = (xs7 ++ [(s.size : Int) * 8 % 256]).length := ⟨_, rfl⟩
      obtain ⟨xs8, hx8⟩ : ∃ x, x = xs7 ++ [(s.size : Int) * 8 % 256] := ⟨_, rfl⟩
      rw [← hx8] at HX7 hn7 ⊢
      have HL8' : Aside0 (xs8.length = n + 8) := ⟨by rw [hx8, List.length_append, HL7'.out]; rfl⟩
      have HXS8 := Aside0.mk hx8
      rw [← hn7] at HX7 ⊢
      have HNL7 := Aside0.mk hn7
      clear hq7 hx8 hn7
      have HR8x : Aside0 (BRO w.heap.size y7 (.slice A7 n7 c7) xs8) := ⟨HX7.out⟩
      rw [rounds_succ]
      have hrr := HR8x.out.form
      obtain ⟨A9, c9, hv9, hr9⟩ := hrr
      obtain ⟨rfl, h10, rfl⟩ := Value.slice.inj hv9
      rw [← h10] at hr9
      have hcs := string_of_reads (src := 39) (dst := 9) (e := 5) (c := c7) Try.underlying39 Try.underlying5 Try.underlying9 hr9
      clear hr9 hv9 h10
      go_wp2
      go_ret
      have e : filF s = strOfNums xs8 := by
        unfold filF
        rw [← HXS0.out, HXS8.out, HXS7.out, HXS6.out, HXS5.out, HXS4.out, HXS3.out, HXS2.out, HXS1.out]
        simp [filB]
      exact ⟨by rw [e]; rfl, HY7.out⟩
    | succ r =>
      have hq : ((n : Int) % 64 != 56) = true := by simp; omega
      have hlb : (bytesOf s ++ [(128 : Int)] ++ List.replicate k 0).length + 1 ≤ 140737488355328 := by rw [hlen]; omega
      clear hzn hnl hlen
      go_wp2_with (at_builtin; go_loud (refine wpList_append_bro rfl _ _ 39 rfl Try.underlying39 w.heap.size _ (bytesOf s ++ [128] ++ List.replicate k 0) 0 HR.out rfl hszr wr.heap.size rfl rfl hlb ?_; intro v4 w4 hb4 hl4; have HB4 := Aside0.mk hb4; have HW4 := Aside0.mk (HW3.out.trans hl4); clear hb4 hl4))
      obtain ⟨A4, c4, rfl, hr4⟩ := HB4.out.form
      go_roundg r
      case measure => omega
      case rel =>
        have e1 : bytesOf s ++ [(128 : Int)] ++ List.replicate k 0 ++ [0] = bytesOf s ++ [128] ++ List.replicate (k + 1) 0 := by rw [List.replicate_succ', List.append_assoc]
        have e2 : (bytesOf s ++ [(128 : Int)] ++ List.replicate k 0 ++ [0]).length = n + 1 := by rw [List.length_append, HL.out]; rfl
        refine ⟨k + 1, n + 1, A4, c4, by omega, ⟨by rw [HN.out]; omega⟩, by rw [e2], ⟨?_⟩, HW4⟩
        rw [← e1, ← e2]
        exact HB4.out

def rV0 : S8 := ⟨1779033703, 3144134277, 1013904242, 2773480762, 1359893119, 2600822924, 528734635, 1541459225⟩
def rblocksF : Nat → Nat → ByteArray → S8 → S8
  | 0, _, _, v => v
  | k + 1, i, t, v => rblocksF k (i + 64) t (rblk (t.extract i (i + 64)) v)
theorem filF_size (s : ByteArray) : ∃ m, (filF s).size = 64 * m ∧ 64 * m ≤ s.size + 73 := by
  have h : (filF s).size = s.size + 1 + zn s + 8 := by
    unfold filF filL
    rw [strOfNums_size]
    simp [filB, bytesOf_length]
    omega
  have hz : zn s = (119 - s.size % 64) % 64 := rfl
  exact ⟨(filF s).size / 64, by omega, by omega⟩
theorem rload (g : Nat) (v : S8) (W : World) (h : W.heap[g]? = some (.cells (v.row .u64) 48 (0, 0))) : (Instr.loadAt 48 (.pointer (some ⟨g, 0, none⟩))).run Try.prog W = .ok (.agg (v.row .u64)) W := by
  have i8s : (Try.prog.info? 48).map (·.size) = some (v.row .u64).size := by
    show _ = some 8
    kernel_rfl
  simp only [Instr.loadAt, Instr.sureAddr, Sem.run_bind, Sem.run_pure, Result.andThen_ok, run_loadVar_row W g 48 48 (v.row .u64) (0, 0) _ h Try.underlying48 rfl i8s]
def rbyte (x : Int) (k : Nat) : Int := Int.tmod (IntKind.u64.wrap (Int.tdiv x (2 ^ (8 * (3 - k))))) 256
def rRow (x : Int) : Nat → List Int
  | 0 => []
  | k + 1 => rRow x k ++ [IntKind.u8.wrap (rbyte x k)]
def rOut (l : List Int) : Nat → List Int
  | 0 => []
  | i + 1 => rOut l i ++ rRow (l.getD i 0) 4
def rsF (s : ByteArray) : ByteArray := strOfNums (rOut (rblocksF ((filF s).size / 64) 0 (filF s) rV0).list 8)
set_option maxHeartbeats 1000000 in
theorem power_same (n : Nat) (hn : n ≤ 56) (w : World) : Calls Try.prog 25 #[.int .i64 (n : Int)] w fun e w' => e = .returned (.int .u64 (2 ^ n)) ∧ w' = w := by
  go_enter Try.func25, Try.ntmps25
  go_wp2
  go_loopg [3, 4] n (fun r s3 s4 wr => ∃ k : Nat, k + r = n ∧ s4 = .int .i64 (k : Int) ∧ s3 = .int .u64 ((2 ^ k : Nat) : Int) ∧ wr = w)
  case atStart => exact ⟨0, by omega, rfl, rfl, rfl⟩
  case round =>
    obtain ⟨k, hk, rfl, rfl, rfl⟩ := hrel
    cases gk with
    | zero =>
      have hk2 : n ≤ k := by omega
      obtain rfl : k = n := by omega
      generalize hP : ((2 ^ k : Nat) : Int) = P
      go_wp2
      go_ret
      refine ⟨?_, rfl⟩
      rw [show (2 : Int) ^ k = ((2 ^ k : Nat) : Int) by simp, hP]
      rfl
    | succ r =>
      have hk2 : k < n := by omega
      have hp : 2 ^ k ≤ 2 ^ 55 := Nat.pow_le_pow_right (by decide) (by omega)
      have hp2 : ((2 ^ (k + 1) : Nat) : Int) = ((2 ^ k : Nat) : Int) * 2 := by rw [Nat.pow_succ]; simp
      have HP := Aside0.mk hp2
      clear hp2
      have hb : ((2 ^ k : Nat) : Int) ≤ 36028797018963968 := by
        have : (2 : Nat) ^ 55 = 36028797018963968 := by decide
        omega
      have hb0 : 0 ≤ ((2 ^ k : Nat) : Int) := Int.natCast_nonneg _
      clear hp
      generalize ((2 ^ k : Nat) : Int) = P at hb hb0 HP ⊢
      go_wp2
      go_roundg r
      case measure => omega
      case rel => exact ⟨k + 1, by omega, by go_num, by rw [HP.out], rfl⟩
set_option maxHeartbeats 4000000 in
set_option maxRecDepth 100000 in
theorem rSum_calls (s : ByteArray) (w : World) (hs : s.size ≤ 1099511627776) :
    Calls Try.prog 11 #[.string s] w fun e w' => e = .returned (.string (rsF s)) ∧ Below w.heap.size w w' := by
  have h0 : (w.alloc (.cells (rV0.row .u64) 48)).heap[w.heap.size]? = some (.cells (rV0.row .u64) 48 (0, 0)) := heap_alloc_new _ _
  have h1 : Below w.heap.size w (w.alloc (.cells (rV0.row .u64) 48)) := (Below.refl _ _).alloc (Nat.le_refl _) _
  have hz : (w.alloc (.cells (rV0.row .u64) 48)).heap.size = w.heap.size + 1 := by simp
  go_enter Try.func11, Try.ntmps11
  go_wp2_with fail
  change Calls _ _ _ (w.alloc (.cells (rV0.row .u64) 48)) _
  generalize w.alloc (.cells (rV0.row .u64) 48) = w1 at h0 h1 hz ⊢
  obtain ⟨gh, hgh⟩ : ∃ g, g = w.heap.size := ⟨_, rfl⟩
  rw [← hgh] at h0 ⊢
  refine (filled_calls s _ hs).mono ?_
  rintro e w2 ⟨rfl, hb⟩
  have HR0 : Aside0 (w2.heap[gh]? = some (.cells (rV0.row .u64) 48 (0, 0))) := ⟨blk_below h0 hb⟩
  have HB0 : Aside0 (Below w.heap.size w w2) := ⟨h1.trans (hb.mono (by omega))⟩
  have HG := Aside0.mk hgh
  obtain ⟨m, hm, hm2⟩ := filF_size s
  obtain ⟨t, ht⟩ : ∃ t, t = filF s := ⟨_, rfl⟩
  rw [← ht] at hm ⊢
  have HT := Aside0.mk ht
  have hts : t.size ≤ 1099511628800 := by omega
  have HM := Aside0.mk hm
  clear h0 h1 hz hgh hb ht hm
  go_wp2_with fail
  go_loopg [5] m (fun r s5 wr => ∃ (p : Nat) (v : S8), p + 64 * r = t.size ∧ s5 = .int .i64 (p : Int) ∧ Aside0 (rblocksF r p t v = rblocksF m 0 t rV0) ∧ Aside0 (wr.heap[gh]? = some (.cells (v.row .u64) 48 (0, 0))) ∧ Aside0 (Below w.heap.size w wr))
  case atStart => exact ⟨0, rV0, by rw [HM.out]; omega, rfl, ⟨rfl⟩, HR0, HB0⟩
  case round =>
    obtain ⟨p, v, hp, rfl, HF, HR, HB⟩ := hrel
    cases gk with
    | zero =>
      have hpt : (t.size : Int) ≤ (p : Int) := by omega
      have HF0 := HF
      have hlt : gh < wr.heap.size := blk_lt HR.out
      have HO0 : Aside0 ((wr.alloc (.cells #[] 5)).ownsRow (gh + 1) 5 1 (.slice (some ⟨wr.heap.size, 0, none⟩) 0 0) 0 (nums .u8 (rOut v.list 0))) :=
        ⟨⟨rfl, Or.inr ⟨wr.heap.size, 0, #[], rfl, by omega, heap_alloc_new _ _, Nat.le_refl _, by decide, rfl, rfl⟩⟩⟩
      have HR0' : Aside0 ((wr.alloc (.cells #[] 5)).heap[gh]? = some (.cells (v.row .u64) 48 (0, 0))) := ⟨blk_alloc HR.out _⟩
      have HB0' : Aside0 (Below w.heap.size w (wr.alloc (.cells #[] 5))) := ⟨HB.out.alloc HB.out.size _⟩
      have hi5 : (Try.prog.info? 5).map (fun i => (i.zero, i.size, i.bytes)) = some (some (.int .u8 0), 1, 1) := by kernel_rfl
      obtain ⟨i0, hi, hz0, hz1, hz2⟩ := info_parts hi5
      have HP := Aside0.mk hp
      clear hp hi5 HR HB
      go_wp2
      generalize wr.alloc _ = wa at HO0 HR0' HB0' ⊢
      generalize wr.heap.size = ga at HO0 ⊢
      clear hlt hpt
      generalize Value.bool (decide (p < t.size)) = vb_
      go_loopg [6, 7, 8] 8 (fun r2 s6 s7 s8 wy => ∃ i : Nat, i + r2 = 8 ∧ s7 = .int .i64 (i : Int) ∧ Aside0 (wy.ownsRow (gh + 1) 5 1 s6 (4 * i) (nums .u8 (rOut v.list i))) ∧ Aside0 (wy.heap[gh]? = some (.cells (v.row .u64) 48 (0, 0))) ∧ Aside0 (Below w.heap.size w wy))
      case atStart => exact ⟨0, by omega, rfl, HO0, HR0', HB0'⟩
      case round =>
        obtain ⟨i, hi8, rfl, HO, HR, HB⟩ := hrel
        cases gk with
        | zero =>
          have hj : 8 ≤ i := by omega
          have hj2 : i = 8 := by omega
          obtain ⟨A9, c9, hv9, hr9⟩ := own_reads HO.out
          subst hv9
          have hcs := string_of_reads (src := 39) (dst := 9) (e := 5) (c := c9) Try.underlying39 Try.underlying5 Try.underlying9 hr9
          have HJ := Aside0.mk hj2
          clear hr9 hj2
          go_wp2
          go_ret
          refine ⟨?_, HB.out⟩
          rw [HJ.out]
          have hpm : p = t.size := by have := HP.out; omega
          have hf := HF0.out
          rw [rblocksF] at hf
          have e : rsF s = strOfNums (rOut v.list 8) := by
            unfold rsF
            rw [← HT.out, HM.out, Nat.mul_div_cancel_left _ (by decide), ← hf]
          rw [e]
          rfl
        | succ r2 =>
          have hi8' : i < 8 := by omega
          have hi8'' : (i : Int) < 8 := by omega
          have HR1 : Aside0 (wr.ownsRow (gh + 1) 5 1 u6 (4 * i + 0) (nums .u8 (rOut v.list i ++ rRow (v.list.getD i 0) 0))) := ⟨by rw [rRow, List.append_nil]; exact HO.out⟩
          clear HO
          go_wp2
          go_loopg [6, 8] 4 (fun r3 s6 s8 wz => ∃ k : Nat, k + r3 = 4 ∧ s8 = .int .i64 (3 - (k : Int)) ∧ Aside0 (wz.ownsRow (gh + 1) 5 1 s6 (4 * i + k) (nums .u8 (rOut v.list i ++ rRow (v.list.getD i 0) k))) ∧ Aside0 (wz.heap[gh]? = some (.cells (v.row .u64) 48 (0, 0))) ∧ Aside0 (Below w.heap.size w wz))
          case atStart => exact ⟨0, by omega, rfl, HR1, HR, HB⟩
          case round =>
            obtain ⟨k, hk, rfl, HO, HR, HB⟩ := hrel
            cases gk with
            | zero =>
              have hk4 : 3 - (k : Int) < 0 := by omega
              have hk2 : k = 4 := by omega
              have HK := Aside0.mk hk2
              clear hk2
              go_wp2
              go_roundg r2
              case measure => omega
              case rel =>
                refine ⟨i + 1, by omega, by go_num, ⟨?_⟩, HR, HB⟩
                have h := HO.out
                rw [HK.out] at h
                rw [show 4 * (i + 1) = 4 * i + 4 by omega, rOut]
                exact h
            | succ r3 =>
              have hk4 : 0 ≤ 3 - (k : Int) := by omega
              have hw8 : IntKind.i64.wrap (8 * (3 - (k : Int))) = ((8 * (3 - k) : Nat) : Int) := by rw [IntKind.wrap_i64]; omega
              obtain ⟨x, hx⟩ : ∃ x, x = v.list.getD i 0 := ⟨_, rfl⟩
              obtain ⟨P, hP⟩ : ∃ P, P = (2 : Int) ^ (8 * (3 - k)) := ⟨_, rfl⟩
              have hpw : P ≠ 0 := by
                have : (2 : Int) ^ (8 * (3 - k)) > 0 := Int.pow_pos (by decide)
                omega
              have hpc := power_same (8 * (3 - k)) (by omega) wr.drew
              rw [← hP] at hpc
              rw [← hx] at HO
              have HX := Aside0.mk hx
              have HP2 := Aside0.mk hP
              clear hx hP
              go_wp2_with fail
              have HT_ : Aside0 (rtab .any (opsOf Try.f11 14) = rtab .any (opsOf Try.f11 14)) := ⟨rfl⟩
              have HRd := Aside0.mk (blk_drew HR.out)
              have HOd := Aside0.mk (HO.out.drew)
              have HBd := Aside0.mk (below_drew1 HB.out)
              refine start_ (n := 13) (S := fun W => W.heap[gh]? = some (.cells (v.row .u64) 48 (0, 0))) (ds := [11]) #[false, false, false, false, false, false, false, false, false, false, false, false, false] (by kernel_rfl) rfl rfl HRd.out (fun hHeld => ?_)
              generalize wr.drew = w3 at HRd HBd HOd hHeld hpc ⊢
              refine pure_ (i := 0) (N := some 34) (v := ?_) (a' := ?_) #[true, false, false, false, false, false, false, false, false, false, false, false, false] rfl rfl (any_of HT_.out (by kernel_rfl)) (fun _ _ _ h => h) (Or.inl ⟨by rfl, ?_⟩) ?_ ?_
              rotate_left
              · intro w'
                go_simp
                with_reducible rfl
              rotate_left
              · simp only [Act.put, List.setIfInBounds_toArray, List.set_cons_zero, List.set_cons_succ, i64_w, i32_w]
                rfl
              refine pure_ (i := 1) (N := some 35) (v := ?_) (a' := ?_) #[true, true, false, false, false, false, false, false, false, false, false, false, false] rfl rfl (any_of HT_.out (by kernel_rfl)) (fun _ _ _ h => h) (Or.inl ⟨by rfl, ?_⟩) ?_ ?_
              rotate_left
              · intro w'
                go_simp
                with_reducible rfl
              rotate_left
              · simp only [Act.put, List.setIfInBounds_toArray, List.set_cons_zero, List.set_cons_succ, i64_w, i32_w]
                rfl
              refine pure_ (i := 2) (N := some 36) (v := ?_) (a' := ?_) #[true, true, true, false, false, false, false, false, false, false, false, false, false] rfl rfl (any_of HT_.out (by kernel_rfl)) (fun _ _ _ h => h) (Or.inl ⟨by rfl, ?_⟩) ?_ ?_
              rotate_left
              · intro w'
                go_simp
                with_reducible rfl
              rotate_left
              · simp only [Act.put, List.setIfInBounds_toArray, List.set_cons_zero, List.set_cons_succ, i64_w, i32_w]
                rfl
              refine take_ (i := 3) (N := some 37) (v := .int .u64 x) (a' := ?_) #[true, true, true, true, false, false, false, false, false, false, false, false, false] rfl rfl (by kernel_rfl) (fun _ _ _ h => h) (Or.inl ⟨by rfl, ?_⟩) hHeld ?_ ?_
              · intro w' hw'
                have hc : w'.cell? ⟨gh, i, none⟩ = some (.int .u64 x) := by rw [HX.out]; exact (blk_cell hw' i).trans (nums_at .u64 v.list i hi8')
                go_simp
              rotate_left
              · simp only [Act.put, List.setIfInBounds_toArray, List.set_cons_zero, List.set_cons_succ, i64_w, i32_w]
                rfl
              refine pure_ (i := 4) (N := some 38) (v := ?_) (a' := ?_) #[true, true, true, true, true, false, false, false, false, false, false, false, false] rfl rfl (any_of HT_.out (by kernel_rfl)) (fun _ _ _ h => h) (Or.inl ⟨by rfl, ?_⟩) ?_ ?_
              rotate_left
              · intro w'
                go_simp
                with_reducible rfl
              rotate_left
              · simp only [Act.put, List.setIfInBounds_toArray, List.set_cons_zero, List.set_cons_succ, i64_w, i32_w]
                rfl
              refine pure_ (i := 5) (N := some 39) (v := ?_) (a' := ?_) #[true, true, true, true, true, true, false, false, false, false, false, false, false] rfl rfl (any_of HT_.out (by kernel_rfl)) (fun _ _ _ h => h) (Or.inl ⟨by rfl, ?_⟩) ?_ ?_
              rotate_left
              · intro w'
                go_simp
                with_reducible rfl
              rotate_left
              · simp only [Act.put, List.setIfInBounds_toArray, List.set_cons_zero, List.set_cons_succ, i64_w, i32_w]
                rfl
              refine one_ (i := 6) (N := some 40) #[true, true, true, true, true, true, true, false, false, false, false, false, false] rfl rfl (one_of HT_.out (by kernel_rfl)) (by decide) (fun K hK => ?_)
              refine goes_ (N := some 40) Try.func25 (by kernel_rfl) rfl #[.int .i64 ((8 * (3 - k) : Nat) : Int)] (by rfl) rfl rfl (by (try simp only [List.map_toArray, List.map_cons, List.map_nil]); first | done | rfl) ?_
              refine hpc.mono ?_
              rintro e w4 ⟨rfl, rfl⟩
              refine ⟨_, rfl, ?_⟩
              refine hK.out _ _ hHeld (fun hHeld4 => ?_)
              clear hK K
              refine norm_ (a' := ?_) ?_ ?_
              rotate_left
              · show Act.put _ (some 40) _ = _
                simp only [Act.put, List.setIfInBounds_toArray, List.set_cons_zero, List.set_cons_succ, i64_w, i32_w]
                rfl
              refine pure_ (i := 7) (N := some 41) (v := ?_) (a' := ?_) #[true, true, true, true, true, true, true, true, false, false, false, false, false] rfl rfl (any_of HT_.out (by kernel_rfl)) (fun _ _ _ h => h) (Or.inl ⟨by rfl, ?_⟩) ?_ ?_
              rotate_left
              · intro w'
                go_simp
                with_reducible rfl
              rotate_left
              · simp only [Act.put, List.setIfInBounds_toArray, List.set_cons_zero, List.set_cons_succ, i64_w, i32_w]
                rfl
              refine pure_ (i := 8) (N := some 42) (v := ?_) (a' := ?_) #[true, true, true, true, true, true, true, true, true, false, false, false, false] rfl rfl (any_of HT_.out (by kernel_rfl)) (fun _ _ _ h => h) (Or.inl ⟨by rfl, ?_⟩) ?_ ?_
              rotate_left
              · intro w'
                go_simp
                with_reducible rfl
              rotate_left
              · simp only [Act.put, List.setIfInBounds_toArray, List.set_cons_zero, List.set_cons_succ, i64_w, i32_w]
                rfl
              refine pure_ (i := 9) (N := some 43) (v := ?_) (a' := ?_) #[true, true, true, true, true, true, true, true, true, true, false, false, false] rfl rfl (any_of HT_.out (by kernel_rfl)) (fun _ _ _ h => h) (Or.inl ⟨by rfl, ?_⟩) ?_ ?_
              rotate_left
              · intro w'
                go_simp
                with_reducible rfl
              rotate_left
              · simp only [Act.put, List.setIfInBounds_toArray, List.set_cons_zero, List.set_cons_succ, i64_w, i32_w]
                rfl
              refine one_ (i := 10) (N := some 44) #[true, true, true, true, true, true, true, true, true, true, true, false, false] rfl rfl (one_of HT_.out (by kernel_rfl)) (by decide) (fun K hK => ?_)
              rw [if_pos (by rfl)]
              unfold Oper.wp execOp
              go_simp
              have HE : rbyte x k = Int.tmod (IntKind.u64.wrap (Int.tdiv x P)) 256 := by rw [HP2.out]; rfl
              rw [← HE]
              refine hK.out _ _ (blk_alloc hHeld4 _) (fun hHeld5 => ?_)
              clear hK K
              refine last_ (i := 11) (N := some 45) #[true, true, true, true, true, true, true, true, true, true, true, true, false] rfl rfl (by kernel_rfl) (by decide) (fun K hK => ?_)
              rw [if_pos (by rfl)]
              refine wp_append_own _ _ _ 39 rfl (gh + 1) 5 i0 (.int .u8 0) 1 1 Try.underlying39 hi hz0 hz1 hz2 rfl (by decide) _ _ _ rfl (HOd.out.alloc _) ⟨w4.heap.size, 0, none⟩ 1 1 [.int .u8 (IntKind.u8.wrap (rbyte x k))] rfl rfl (World.news_of_block (cs := #[.int .u8 (IntKind.u8.wrap (rbyte x k))]) (t := 5) (fr := (0, 0)) (heap_alloc_new _ _)) (by simp [Value.oneCell']) (by simp only [maxLen]; omega) (by omega) (by have := blk_lt hHeld4; simp; omega) ?_
              intro v5 w5 ho5 hg5 _
              have HO5 : Aside0 (w5.ownsRow (gh + 1) 5 1 v5 (4 * i + (k + 1)) (nums .u8 (rOut v.list i ++ rRow x (k + 1)))) := ⟨by rw [show rOut v.list i ++ rRow x (k + 1) = (rOut v.list i ++ rRow x k) ++ [IntKind.u8.wrap (rbyte x k)] by rw [rRow, List.append_assoc], nums_append]; exact ho5⟩
              have HR5 : Aside0 (w5.heap[gh]? = some (.cells (v.row .u64) 48 (0, 0))) := ⟨blk_grown hHeld5 hg5 (own_ne (HOd.out.alloc _) hHeld5 (by decide))⟩
              have HB5 : Aside0 (Below w.heap.size w w5) := ⟨(HBd.out.alloc HBd.out.size _).grown hg5 (by have := HBd.out.size; simp; omega) (fun g he => by have := own_base HOd.out g he; have := HG.out; omega)⟩
              clear ho5 hg5
              refine hK.out _ _ ?_
              clear hK K
              refine norm_ (a' := ?_) ?_ ?_
              rotate_left
              · show Act.put _ (some 45) _ = _
                simp only [Act.put, List.setIfInBounds_toArray, List.set_cons_zero, List.set_cons_succ, i64_w, i32_w]
                rfl
              refine pure_ (i := 12) (N := some 6) (v := ?_) (a' := ?_) #[true, true, true, true, true, true, true, true, true, true, true, true, true] rfl rfl (any_of HT_.out (by kernel_rfl)) (fun _ _ _ h => h) (Or.inl ⟨by rfl, ?_⟩) ?_ ?_
              rotate_left
              · intro w'
                go_simp
                with_reducible rfl
              rotate_left
              · simp only [Act.put, List.setIfInBounds_toArray, List.set_cons_zero, List.set_cons_succ, i64_w, i32_w]
                rfl
              refine done_ (done_of HT_.out (by kernel_rfl)) ?_
              go_wp2
              go_roundg r3
              case measure => omega
              case rel => exact ⟨k + 1, by omega, by go_num, by rw [← HX.out]; exact HO5, HR5, HB5⟩
    | succ r =>
      have hpt : (p : Int) < (t.size : Int) := by omega
      have hw0 : IntKind.i64.wrap ((p : Int) + 64) = (p : Int) + 64 := by rw [IntKind.wrap_i64]; omega
      have hw1 : wrap64 ((p : Int) + 64) = (p : Int) + 64 := by unfold wrap64; omega
      have hq0 : (p : Int) ≤ (p : Int) + 64 := by omega
      have hq1 : (p : Int) + 64 ≤ (t.size : Int) := by omega
      have hq2 : ((p : Int) + 64).toNat = p + 64 := by omega
      have hq3 : 0 ≤ (p : Int) + 64 := by omega
      have hsz : 64 ≤ (t.extract p (p + 64)).size := by rw [ByteArray.size_extract]; omega
      have HRd := Aside0.mk (blk_drew HR.out)
      have HBd := Aside0.mk (below_drew1 HB.out)
      have HF2 : Aside0 (rblocksF r (p + 64) t (rblk (t.extract p (p + 64)) v) = rblocksF m 0 t rV0) := ⟨by rw [← HF.out, rblocksF]⟩
      have hld := rload gh v
      have HP : Aside0 (p + 64 + 64 * r = t.size) := ⟨by omega⟩
      clear HF hp
      go_wp2_with fail
      have HT_ : Aside0 (rtab .any (opsOf Try.f11 6) = rtab .any (opsOf Try.f11 6)) := ⟨rfl⟩
      refine start_ (n := 8) (S := fun W => W.heap[gh]? = some (.cells (v.row .u64) 48 (0, 0))) (ds := [7]) #[false, false, false, false, false, false, false, false] (by kernel_rfl) rfl rfl HRd.out (fun hHeld => ?_)
      generalize wr.drew = w3 at HRd HBd hHeld ⊢
      refine take_ (i := 0) (N := some 18) (v := .agg (v.row .u64)) (a' := ?_) #[true, false, false, false, false, false, false, false] rfl rfl (by kernel_rfl) (fun _ _ _ h => h) (Or.inl ⟨by rfl, ?_⟩) hHeld ?_ ?_
      · intro w' hw'
        clear hld
        have c0 : w'.cell? ⟨gh, 0, none⟩ = some (.int .u64 v.a) := blk_cell hw' 0
        have c1 : w'.cell? ⟨gh, 1, none⟩ = some (.int .u64 v.b) := blk_cell hw' 1
        have c2 : w'.cell? ⟨gh, 2, none⟩ = some (.int .u64 v.c) := blk_cell hw' 2
        have c3 : w'.cell? ⟨gh, 3, none⟩ = some (.int .u64 v.d) := blk_cell hw' 3
        have c4 : w'.cell? ⟨gh, 4, none⟩ = some (.int .u64 v.e) := blk_cell hw' 4
        have c5 : w'.cell? ⟨gh, 5, none⟩ = some (.int .u64 v.f) := blk_cell hw' 5
        have c6 : w'.cell? ⟨gh, 6, none⟩ = some (.int .u64 v.g) := blk_cell hw' 6
        have c7 : w'.cell? ⟨gh, 7, none⟩ = some (.int .u64 v.h) := blk_cell hw' 7
        go_simp
        rfl
      rotate_left
      · simp only [Act.put, List.setIfInBounds_toArray, List.set_cons_zero, List.set_cons_succ, i64_w, i32_w]
        rfl
      clear hld
      refine pure_ (i := 1) (N := some 19) (v := ?_) (a' := ?_) #[true, true, false, false, false, false, false, false] rfl rfl (any_of HT_.out (by kernel_rfl)) (fun _ _ _ h => h) (Or.inl ⟨by rfl, ?_⟩) ?_ ?_
      rotate_left
      · intro w'
        go_simp
        with_reducible rfl
      rotate_left
      · simp only [Act.put, List.setIfInBounds_toArray, List.set_cons_zero, List.set_cons_succ, i64_w, i32_w]
        rfl
      refine pure_ (i := 2) (N := some 20) (v := ?_) (a' := ?_) #[true, true, true, false, false, false, false, false] rfl rfl (any_of HT_.out (by kernel_rfl)) (fun _ _ _ h => h) (Or.inl ⟨by rfl, ?_⟩) ?_ ?_
      rotate_left
      · intro w'
        go_simp
        with_reducible rfl
      rotate_left
      · simp only [Act.put, List.setIfInBounds_toArray, List.set_cons_zero, List.set_cons_succ, i64_w, i32_w]
        rfl
      refine pure_ (i := 3) (N := some 21) (v := ?_) (a' := ?_) #[true, true, true, true, false, false, false, false] rfl rfl (any_of HT_.out (by kernel_rfl)) (fun _ _ _ h => h) (Or.inl ⟨by rfl, ?_⟩) ?_ ?_
      rotate_left
      · intro w'
        go_simp
        with_reducible rfl
      rotate_left
      · simp only [Act.put, List.setIfInBounds_toArray, List.set_cons_zero, List.set_cons_succ, i64_w, i32_w]
        rfl
      refine pure_ (i := 4) (N := some 22) (v := ?_) (a' := ?_) #[true, true, true, true, true, false, false, false] rfl rfl (any_of HT_.out (by kernel_rfl)) (fun _ _ _ h => h) (Or.inl ⟨by rfl, ?_⟩) ?_ ?_
      rotate_left
      · intro w'
        go_simp
        with_reducible rfl
      rotate_left
      · simp only [Act.put, List.setIfInBounds_toArray, List.set_cons_zero, List.set_cons_succ, i64_w, i32_w]
        rfl
      refine pure_ (i := 5) (N := some 23) (v := ?_) (a' := ?_) #[true, true, true, true, true, true, false, false] rfl rfl (any_of HT_.out (by kernel_rfl)) (fun _ _ _ h => h) (Or.inl ⟨by rfl, ?_⟩) ?_ ?_
      rotate_left
      · intro w'
        go_simp
        with_reducible rfl
      rotate_left
      · simp only [Act.put, List.setIfInBounds_toArray, List.set_cons_zero, List.set_cons_succ, i64_w, i32_w]
        rfl
      refine one_ (i := 6) (N := some 24) #[true, true, true, true, true, true, true, false] rfl rfl (one_of HT_.out (by kernel_rfl)) (by decide) (fun K hK => ?_)
      refine goes_ (N := some 24) Try.func24 (by kernel_rfl) rfl #[.agg (v.row .u64), .string (t.extract p (p + 64))] (by rfl) rfl rfl (by (try simp only [List.map_toArray, List.map_cons, List.map_nil]); first | done | rfl) ?_
      refine (rblock_calls v _ _ hsz).mono ?_
      rintro e w4 ⟨rfl, hb⟩
      have HR4 := Aside0.mk (blk_below hHeld hb)
      have HB4 := Aside0.mk (HBd.out.trans (hb.mono HBd.out.size))
      refine ⟨_, rfl, ?_⟩
      refine hK.out _ _ HR4.out (fun hHeld4 => ?_)
      clear hK K
      refine norm_ (a' := ?_) ?_ ?_
      rotate_left
      · show Act.put _ (some 24) _ = _
        simp only [Act.put, List.setIfInBounds_toArray, List.set_cons_zero, List.set_cons_succ, i64_w, i32_w]
        rfl
      clear hb hHeld HRd HBd
      refine last_ (i := 7) (N := none) #[true, true, true, true, true, true, true, true] rfl rfl (by kernel_rfl) (by decide) (fun K hK => ?_)
      rw [if_pos (by rfl)]
      have i8s : (Try.prog.info? 48).map (·.size) = some ((rblk (t.extract p (p + 64)) v).row .u64).size := by
        show _ = some 8
        kernel_rfl
      refine wp_store_row 48 (.tmp 3) (.tmp 24) rfl gh ((rblk (t.extract p (p + 64)) v).row .u64) rfl rfl 48 _ HR4.out i8s rfl (row8_one .u64 _) ?_
      have HR5 := Aside0.mk (setRow_heap _ _ _ ((rblk (t.extract p (p + 64)) v).row .u64) _ _ HR4.out)
      have HB5 := Aside0.mk (below_setRow_ HB4.out (by rw [HG.out]; exact Nat.le_refl _) ((rblk (t.extract p (p + 64)) v).row .u64) (g := gh))
      generalize w4.setRow gh _ = w5 at HR5 HB5 ⊢
      refine hK.out _ _ ?_
      clear hK K
      refine norm_ (a' := ?_) ?_ ?_
      rotate_left
      · show Act.put _ none _ = _
        simp only [Act.put]
        rfl
      refine done_ (done_of HT_.out (by kernel_rfl)) ?_
      go_wp2
      go_roundg r
      case measure => omega
      case rel => exact ⟨p + 64, _, HP.out, by go_num, HF2, HR5, HB5⟩


/-! ### dominoref07_Sum: function 11 -/
def dominoref07_Sum.f (a0 : ByteArray) : Option (ByteArray) := if a0.size ≤ 1099511627776 then some (rsF a0) else none
theorem dominoref07_Sum.calls (a0 : ByteArray) (r : ByteArray) (w : World) (h : dominoref07_Sum.f a0 = some r) :
    Calls Try.prog 11 #[.string a0] w fun e w' => e = .returned (.string r) ∧ Below w.heap.size w w' := by
  unfold dominoref07_Sum.f at h
  by_cases c : a0.size ≤ 1099511627776
  · rw [if_pos c] at h
    obtain rfl := Option.some.inj h
    exact rSum_calls a0 w c
  · rw [if_neg c] at h
    exact absurd h (by simp)

/-! ### dominoref07_Join: function 12 -/
def dominoref07_Join.l0 : Nat → List ByteArray → ByteArray → Int → Option (ByteArray)
  | 0, _, _, _ => none
  | k + 1, x0, x3, x4 => if x4 < (x0.length : Int) then (if 0 ≤ x4 then (if x3.size + (rdOf ByteArray.empty x0 x4).size ≤ 9223372036854775807 then (dominoref07_Join.l0 k x0 (x3 ++ (rdOf ByteArray.empty x0 x4)) (wrap64 (x4 + 1))) else (none)) else (none)) else (some x3)
def dominoref07_Join.f (k : Nat) (l0 : List ByteArray) : Option (ByteArray) := dominoref07_Join.l0 k l0 (⟨#[]⟩ : ByteArray) 0
theorem dominoref07_Join.mono_l : ∀ k, (∀ y0 y1 y2, LeO (dominoref07_Join.l0 k y0 y1 y2) (dominoref07_Join.l0 (k + 1) y0 y1 y2))
  | 0 => fun _ _ _ r h => by simp [dominoref07_Join.l0] at h
  | k + 1 => by
    have ih0 := dominoref07_Join.mono_l k
    · intro y0 y1 y2
      unfold dominoref07_Join.l0
      repeat' first
      | (with_reducible exact ih0 _ _ _)
      | (with_reducible exact LeO.refl _)
      | (with_reducible exact LeO.none _)
      | (with_reducible refine LeO.ite ?_ ?_)
      | (with_reducible refine LeO.bind ?_ (fun _ => ?_))
      | exact ih0 _ _ _
      | exact LeO.none _
      | refine LeO.ite ?_ ?_
      | refine LeO.bind ?_ (fun _ => ?_)
theorem dominoref07_Join.mono : ∀ a0 k, LeO (dominoref07_Join.f k a0) (dominoref07_Join.f (k + 1) a0) := by
  intro a0 k
  have ih0 := dominoref07_Join.mono_l k
  unfold dominoref07_Join.f
  repeat' first
      | (with_reducible exact ih0 _ _ _)
      | (with_reducible exact LeO.refl _)
      | (with_reducible exact LeO.none _)
      | (with_reducible refine LeO.ite ?_ ?_)
      | (with_reducible refine LeO.bind ?_ (fun _ => ?_))
      | exact ih0 _ _ _
      | exact LeO.none _
      | refine LeO.ite ?_ ?_
      | refine LeO.bind ?_ (fun _ => ?_)
set_option maxHeartbeats 8000000 in
set_option maxRecDepth 100000 in
theorem dominoref07_Join.calls (k : Nat) (A0 : Option Addr) (c0 : Nat) (l0 : List ByteArray) (r : ByteArray) (w : World) (hr0 : Kd.C Kd.string w A0 l0.length l0) (hc0 : l0.length ≤ c0) (h : dominoref07_Join.f k l0 = some r) :
    Calls Try.prog 12 #[.slice A0 l0.length c0] w fun e w' => e = .returned (.string r) ∧ Drawn0 w w' := by
  have HR0 := Aside0.mk hr0
  have HC0 := Aside0.mk hc0
  clear hr0 hc0
  have H : (dominoref07_Join.l0 k l0 (⟨#[]⟩ : ByteArray) 0) = some r := h
  clear h
  have H' := Aside0.mk H
  clear H
  go_enter Try.func12, Try.ntmps12
  go_wp2
  go_loopg [3, 4] k (fun kq v3 v4 w' => ∃ (x3_1 : ByteArray) (x4_1 : Int), v3 = .string x3_1 ∧ v4 = .int .i64 x4_1 ∧ Aside0 (dominoref07_Join.l0 kq l0 x3_1 x4_1 = some r) ∧ Aside0 (kq ≤ k) ∧ Drawn0 w w')
  case atStart => exact ⟨((⟨#[]⟩ : ByteArray)), (0), (by first | rfl | (simp; done) | (simp [*]; done)), (by first | rfl | (simp; done) | (simp [*]; done)), H', ⟨Nat.le_refl _⟩, by repeat (first | exact Drawn0.refl _ | apply Drawn0.step)⟩
  case round =>
    clear H'
    try clear c1
    obtain ⟨x3_1, x4_1, rfl, rfl, HA, HK1, ⟨m1, rfl⟩⟩ := hrel
    cases gk with
    | zero => exact absurd HA.out (by simp [dominoref07_Join.l0])
    | succ k1 =>
      have H := HA.out
      clear HA
      simp only [dominoref07_Join.l0] at H
      by_cases c2 : x4_1 < (l0.length : Int)
      · rw [if_pos c2] at H
        have c2b0 : decide (x4_1 < (l0.length : Int)) = true := decide_eq_true c2
        clear c2
        by_cases c3 : 0 ≤ x4_1
        · rw [if_pos c3] at H
          have c3b0 : decide (0 ≤ x4_1) = true := decide_eq_true c3
          clear c3
          by_cases c4 : x3_1.size + (rdOf ByteArray.empty l0 x4_1).size ≤ 9223372036854775807
          · rw [if_pos c4] at H
            have c4b0 := eq_true c4
            have c4b1 : decide (x3_1.size + (rdOf ByteArray.empty l0 x4_1).size ≤ 9223372036854775807) = true := decide_eq_true c4
            try have c4b2 : (9223372036854775807 < x3_1.size + (rdOf ByteArray.empty l0 x4_1).size) = False := eq_false (Nat.not_lt.2 c4)
            have H' := Aside0.mk H
            clear H
            have p116 : 0 ≤ (x4_1 : Int) := of_decide_eq_true (by first | (with_reducible assumption) | assumption)
            have q116 : x4_1 < (l0.length : Int) := of_decide_eq_true (by first | (with_reducible assumption) | assumption)
            obtain ⟨ad116, e116, hx116_0⟩ := Kd.at_string HR0.out x4_1 p116 q116
            cases e116
            replace p116 := eq_true p116
            replace q116 := eq_true q116
            go_wp2
            go_roundg k1
            case measure => have := HK1.out; omega
            case rel => exact ⟨(x3_1 ++ (rdOf ByteArray.empty l0 x4_1)), (wrap64 (x4_1 + 1)), (by first | rfl | (simp; done) | (simp [*]; done)), (by first | rfl | (simp; done) | (simp [*]; done)), H', ⟨by have := HK1.out; omega⟩, by repeat (first | exact Drawn0.refl _ | apply Drawn0.step)⟩
          · rw [if_neg c4] at H
            exact absurd H (by simp)
        · rw [if_neg c3] at H
          exact absurd H (by simp)
      · rw [if_neg c2] at H
        have c2b0 : decide (x4_1 < (l0.length : Int)) = false := decide_eq_false c2
        clear c2
        obtain rfl := Option.some.inj H
        go_wp2
        go_ret
        exact ⟨by first | rfl | (simp; done) | (simp [*]; done), by repeat (first | exact Drawn0.refl _ | apply Drawn0.step)⟩

end Go.Proofs.Ytmkpphcnafklbaa.PDgx
