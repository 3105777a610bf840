-- printed for this claim by a program of the claim (wip/tools/pp.py over the kit's print)
import Derived.Test.YtjpafikgbnloaaaDoorPHdmx0
import Derived.Test.YtjpafikgbnloaaaDoorPHdmx8
import Derived.Test.YtjpafikgbnloaaaDoorPHdmx10
import Derived.Test.YtjpafikgbnloaaaDoorPHdmx11
namespace Go.Proofs.YtjpafikgbnloaaaDoor.PHdm
open Go.RowKit Go.Proofs.YtjpafikgbnloaaaDoorW.PrintWords Go.Proofs.YtjpafikgbnloaaaDoorW.PrintLast Go.Proofs.YtjpafikgbnloaaaDoorW.PrintMore
attribute [local go_sem] max2_int min2_int max_two min_two max_three min_three max_four min_four   -- for this text's walks alone
set_option linter.unusedVariables false
set_option linter.unusedSimpArgs false

attribute [local go_sem] isSome_setCell_
/-! ### dominoref04_laid: function 41 -/
def laidG (k : Nat) (s mask : ByteArray) (at_ : Int) : Nat → Nat → List Int → Option (List Int)
 | 0, _, m => some m
 | n + 1, i, m => if 0 ≤ at_ + (i : Int) ∧ at_ + (i : Int) < (m.length : Int) ∧ 1 + i < mask.size then (dominoref04_turned.f k (bt s (at_ + (i : Int))) (bt mask (1 + (i : Int)))).bind fun x => laidG k s mask at_ n (i + 1) (m.set (at_ + (i : Int)).toNat x) else none
theorem laidG.mono (k : Nat) (s mask : ByteArray) (at_ : Int) : ∀ n i m, LeO (laidG k s mask at_ n i m) (laidG (k + 1) s mask at_ n i m)
 | 0, _, _ => LeO.refl _
 | n + 1, i, m => LeO.ite (LeO.bind (dominoref04_turned.mono _ _ _) fun x => laidG.mono k s mask at_ n (i + 1) _) (LeO.refl _)
def dominoref04_laid.f (k : Nat) (a0 : ByteArray) (a1 : ByteArray) (a2 : Int) (a3 : Int) (a4 : Int) : Option (ByteArray) :=
 if 0 < a0.size ∧ a0.size ≤ 9223372036854775807 ∧ a1.size ≤ 9223372036854775807 ∧ 0 ≤ a4 ∧ a4 < 9223372036854775807 then ((laidG k a0 a1 a3 a4.toNat 0 ((bytesOf a0).set 0 a2)).bind fun m => some (strOfNums m)) else none
theorem dominoref04_laid.mono : ∀ a0 a1 a2 a3 a4 k, LeO (dominoref04_laid.f k a0 a1 a2 a3 a4) (dominoref04_laid.f (k + 1) a0 a1 a2 a3 a4) := fun a0 a1 a2 a3 a4 k =>
 LeO.ite (LeO.bind (laidG.mono k a0 a1 a3 _ _ _) fun _ => LeO.refl _) (LeO.refl _)
set_option maxHeartbeats 1600000 in
set_option maxRecDepth 100000 in
theorem dominoref04_laid.calls (k : Nat) (a0 : ByteArray) (a1 : ByteArray) (a2 : Int) (a3 : Int) (a4 : Int) (r : ByteArray) (w : World) (h : dominoref04_laid.f k a0 a1 a2 a3 a4 = some r) :
  Calls Tryd.prog 41 #[.string a0, .string a1, .int .u8 a2, .int .i64 a3, .int .i64 a4] w fun e w' => e = .returned (.string r) ∧ Below w.heap.size w w' := by
 unfold dominoref04_laid.f at h
 by_cases hg : 0 < a0.size ∧ a0.size ≤ 9223372036854775807 ∧ a1.size ≤ 9223372036854775807 ∧ 0 ≤ a4 ∧ a4 < 9223372036854775807
 rotate_left
 ·rw [if_neg hg] at h
  simp at h
 rw [if_pos hg] at h
 obtain ⟨h0, hmax, hmax1, h4, h5⟩ := hg
 obtain ⟨n4, rfl⟩ : ∃ n : Nat, a4 = (n : Int) := ⟨a4.toNat, by omega⟩
 rw [Int.toNat_natCast] at h
 obtain ⟨m, hm, h⟩ := Option.bind_eq_some_iff.1 h
 obtain rfl := Option.some.inj h
 have HM := Aside0.mk hm
 have HB0 := Aside0.mk (BRow.new w a0)
 have hbl := bytesOf_length a0
 have hcv := Lib.run_convert_string_bytes (P := Tryd.prog) w 9 44 5 a0 Tryd.underlying9 Tryd.underlying44 Tryd.underlying5
 have hl1 : ((bytesOf a0).set 0 a2).length = a0.size := by rw [List.length_set]; exact hbl
 have HX : Aside0 (∀ w', BRow w.heap.size (bytesOf a0) w w' → ∃ v, w'.cell? ⟨w.heap.size, 0, none⟩ = some v) := ⟨fun w' h => ⟨_, h.cell 0 (by omega)⟩⟩
 clear hm h
 obtain ⟨g, hg⟩ : ∃ g, g = w.heap.size := ⟨_, rfl⟩
 rw [← hg] at hcv HX
 have HB0 : Aside0 (BRow g (bytesOf a0) w (Lib.bytesWorld w 5 a0)) := ⟨by rw [hg]; exact HB0.out⟩
 clear hg
 generalize hw1 : Lib.bytesWorld w 5 a0 = w1 at HB0 hcv
 obtain ⟨v0, hc⟩ := HX.out _ HB0.out
 have hf : w1.frozen? ⟨g, 0, none⟩ = false := HB0.out.free 0 (by omega)
 have qj : (0 < a0.size) = True := eq_true h0
 have H2 := Aside0.mk (BRow.put HB0.out 0 (by omega) a2)
 generalize (bytesOf a0).set 0 a2 = m1 at H2 hl1 HM
 clear HX HB0 hw1
 go_enter Tryd.func41, Tryd.ntmps41
 go_wp2
 clear hc hf hcv
 go_loopw [12] (fun v12 wr => ∃ (i : Nat) (m' : List Int), i ≤ n4 ∧ v12 = .int .i64 i ∧ m'.length = a0.size ∧ Aside0 (laidG k a0 a1 a3 (n4 - i) i m' = some m) ∧ Aside0 (BRow g m' w wr)) (fun v _ => n4 - (intOf v).toNat)
 case atStart => exact ⟨0, _, by omega, rfl, hl1, ⟨by rw [Nat.sub_zero]; exact HM.out⟩, H2⟩
 case round =>
  obtain ⟨i, m', hi, rfl, hm', HP, HB⟩ := hrel
  by_cases hlt : i < n4
  ·have hp := HP.out
   rw [show n4 - i = (n4 - (i + 1)) + 1 by omega, laidG] at hp
   by_cases c : 0 ≤ a3 + (i : Int) ∧ a3 + (i : Int) < (m'.length : Int) ∧ 1 + i < a1.size
   rotate_left
   ·rw [if_neg c] at hp
    simp at hp
   rw [if_pos c] at hp
   obtain ⟨e1, e2, e3⟩ := c
   obtain ⟨kn, hkn0⟩ : ∃ kn : Nat, a3 + (i : Int) = (kn : Int) := ⟨(a3 + (i : Int)).toNat, by omega⟩
   rw [hkn0, Int.toNat_natCast] at hp
   rw [hkn0] at e1 e2
   obtain ⟨x, hx, hp⟩ := Option.bind_eq_some_iff.1 hp
   have HT := Aside0.mk hx
   have HP2 := Aside0.mk hp
   have hkm : kn < m'.length := by omega
   have hkn : kn < a0.size := by omega
   have hki : (kn : Int) < (a0.size : Int) := by omega
   have hk0 : (0 : Int) ≤ (kn : Int) := by omega
   have hii : (1 : Int) + (i : Int) < (a1.size : Int) := by omega
   have hi0 : (0 : Int) ≤ 1 + (i : Int) := by omega
   have hw : wrap64 (1 + (i : Int)) = 1 + (i : Int) := by unfold wrap64; omega
   have hw3 : IntKind.i64.wrap (1 + (i : Int)) = 1 + (i : Int) := (i64_w _).trans hw
   have ha : wrap64 (a3 + (i : Int)) = (kn : Int) := by rw [hkn0]; unfold wrap64; omega
   have ha3 : IntKind.i64.wrap (a3 + (i : Int)) = (kn : Int) := (i64_w _).trans ha
   have hlt2 : ((i : Int) < (n4 : Int)) = True := eq_true (by omega)
   have hlt3 : decide ((i : Int) < (n4 : Int)) = true := decide_eq_true (by omega)
   have hti := toNat1_ i
   have hbi := bt1_ a1 i
   have hbk : ∀ h : kn < a0.size, ((a0[kn]'h).toNat : Int) = bt a0 (kn : Int) := fun h => by
    have h2 := bt_at a0 (kn : Int) (by rw [Int.toNat_natCast]; exact h)
    simpa only [Int.toNat_natCast] using h2
   have H3 := Aside0.mk (BRow.drew HB.out)
   clear HP hp hx hkn0
   go_wp2_with fail

   refine start_ (n := 16) (S := fun _ => True) (ds := [15]) #[false,false,false,false,false,false,false,false,false,false,false,false,false,false,false,false] (by kernel_rfl) rfl rfl trivial (fun hHeld => ?_)
   refine pure_ (i := 0) (N := some 23) (v := ?_) (a' := ?_) #[true,false,false,false,false,false,false,false,false,false,false,false,false,false,false,false] rfl rfl (by kernel_rfl) (fun _ _ _ h => h) (Or.inl ⟨by rfl, ?_⟩) ?_ ?_
   rotate_left;(intro w';go_simp;with_reducible rfl);rotate_left;(simp only [Act.put, List.setIfInBounds_toArray, List.set_cons_zero, List.set_cons_succ, i64_w, i32_w];rfl)
   refine pure_ (i := 1) (N := some 24) (v := ?_) (a' := ?_) #[true,true,false,false,false,false,false,false,false,false,false,false,false,false,false,false] rfl rfl (by kernel_rfl) (fun _ _ _ h => h) (Or.inl ⟨by rfl, ?_⟩) ?_ ?_
   rotate_left;(intro w';go_simp;with_reducible rfl);rotate_left;(simp only [Act.put, List.setIfInBounds_toArray, List.set_cons_zero, List.set_cons_succ, i64_w, i32_w];rfl)
   refine pure_ (i := 2) (N := some 25) (v := ?_) (a' := ?_) #[true,true,true,false,false,false,false,false,false,false,false,false,false,false,false,false] rfl rfl (by kernel_rfl) (fun _ _ _ h => h) (Or.inl ⟨by rfl, ?_⟩) ?_ ?_
   rotate_left;(intro w';go_simp;with_reducible rfl);rotate_left;(simp only [Act.put, List.setIfInBounds_toArray, List.set_cons_zero, List.set_cons_succ, i64_w, i32_w];rfl)
   refine pure_ (i := 3) (N := some 26) (v := ?_) (a' := ?_) #[true,true,true,true,false,false,false,false,false,false,false,false,false,false,false,false] rfl rfl (by kernel_rfl) (fun _ _ _ h => h) (Or.inl ⟨by rfl, ?_⟩) ?_ ?_
   rotate_left;(intro w';go_simp;with_reducible rfl);rotate_left;(simp only [Act.put, List.setIfInBounds_toArray, List.set_cons_zero, List.set_cons_succ, i64_w, i32_w];rfl)
   refine pure_ (i := 4) (N := some 27) (v := ?_) (a' := ?_) #[true,true,true,true,true,false,false,false,false,false,false,false,false,false,false,false] rfl rfl (by kernel_rfl) (fun _ _ _ h => h) (Or.inl ⟨by rfl, ?_⟩) ?_ ?_
   rotate_left;(intro w';go_simp;with_reducible rfl);rotate_left;(simp only [Act.put, List.setIfInBounds_toArray, List.set_cons_zero, List.set_cons_succ, i64_w, i32_w];rfl)
   refine pure_ (i := 5) (N := some 28) (v := ?_) (a' := ?_) #[true,true,true,true,true,true,false,false,false,false,false,false,false,false,false,false] rfl rfl (by kernel_rfl) (fun _ _ _ h => h) (Or.inl ⟨by rfl, ?_⟩) ?_ ?_
   rotate_left;(intro w';go_simp;with_reducible rfl);rotate_left;(simp only [Act.put, List.setIfInBounds_toArray, List.set_cons_zero, List.set_cons_succ, i64_w, i32_w];rfl)
   refine pure_ (i := 6) (N := some 29) (v := ?_) (a' := ?_) #[true,true,true,true,true,true,true,false,false,false,false,false,false,false,false,false] rfl rfl (by kernel_rfl) (fun _ _ _ h => h) (Or.inl ⟨by rfl, ?_⟩) ?_ ?_
   rotate_left;(intro w';go_simp;with_reducible rfl);rotate_left;(simp only [Act.put, List.setIfInBounds_toArray, List.set_cons_zero, List.set_cons_succ, i64_w, i32_w];rfl)
   refine pure_ (i := 7) (N := some 30) (v := ?_) (a' := ?_) #[true,true,true,true,true,true,true,true,false,false,false,false,false,false,false,false] rfl rfl (by kernel_rfl) (fun _ _ _ h => h) (Or.inl ⟨by rfl, ?_⟩) ?_ ?_
   rotate_left;(intro w';go_simp;with_reducible rfl);rotate_left;(simp only [Act.put, List.setIfInBounds_toArray, List.set_cons_zero, List.set_cons_succ, i64_w, i32_w];rfl)
   refine pure_ (i := 8) (N := some 31) (v := ?_) (a' := ?_) #[true,true,true,true,true,true,true,true,true,false,false,false,false,false,false,false] rfl rfl (by kernel_rfl) (fun _ _ _ h => h) (Or.inl ⟨by rfl, ?_⟩) ?_ ?_
   rotate_left;(intro w';go_simp;with_reducible rfl);rotate_left;(simp only [Act.put, List.setIfInBounds_toArray, List.set_cons_zero, List.set_cons_succ, i64_w, i32_w];rfl)
   refine pure_ (i := 9) (N := some 32) (v := ?_) (a' := ?_) #[true,true,true,true,true,true,true,true,true,true,false,false,false,false,false,false] rfl rfl (by kernel_rfl) (fun _ _ _ h => h) (Or.inl ⟨by rfl, ?_⟩) ?_ ?_
   rotate_left;(intro w';go_simp;with_reducible rfl);rotate_left;(simp only [Act.put, List.setIfInBounds_toArray, List.set_cons_zero, List.set_cons_succ, i64_w, i32_w];rfl)
   refine pure_ (i := 10) (N := some 33) (v := ?_) (a' := ?_) #[true,true,true,true,true,true,true,true,true,true,true,false,false,false,false,false] rfl rfl (by kernel_rfl) (fun _ _ _ h => h) (Or.inl ⟨by rfl, ?_⟩) ?_ ?_
   rotate_left;(intro w';go_simp;with_reducible rfl);rotate_left;(simp only [Act.put, List.setIfInBounds_toArray, List.set_cons_zero, List.set_cons_succ, i64_w, i32_w];rfl)
   refine pure_ (i := 11) (N := some 34) (v := ?_) (a' := ?_) #[true,true,true,true,true,true,true,true,true,true,true,true,false,false,false,false] rfl rfl (by kernel_rfl) (fun _ _ _ h => h) (Or.inl ⟨by rfl, ?_⟩) ?_ ?_
   rotate_left;(intro w';go_simp;with_reducible rfl);rotate_left;(simp only [Act.put, List.setIfInBounds_toArray, List.set_cons_zero, List.set_cons_succ, i64_w, i32_w];rfl)
   refine pure_ (i := 12) (N := some 35) (v := ?_) (a' := ?_) #[true,true,true,true,true,true,true,true,true,true,true,true,true,false,false,false] rfl rfl (by kernel_rfl) (fun _ _ _ h => h) (Or.inl ⟨by rfl, ?_⟩) ?_ ?_
   rotate_left;(intro w';go_simp;with_reducible rfl);rotate_left;(simp only [Act.put, List.setIfInBounds_toArray, List.set_cons_zero, List.set_cons_succ, i64_w, i32_w];rfl)
   refine one_ (i := 13) (N := some 36) #[true,true,true,true,true,true,true,true,true,true,true,true,true,true,false,false] rfl rfl (by kernel_rfl) (by decide) (fun K hK => ?_)
   refine goes_ (N := some 36) Tryd.func51 (by kernel_rfl) rfl #[.int .u8 (bt a0 (kn : Int)), .int .u8 (bt a1 (1 + (i : Int)))] (by rfl) rfl rfl (by (try simp only [List.map_toArray, List.map_cons, List.map_nil]); first | done | rfl) ?_
   refine (dominoref04_turned.calls k _ _ _ _ HT.out).mono ?_
   rintro e w4 ⟨rfl, hd4⟩
   obtain ⟨md, rfl⟩ := hd4
   have H4 : Aside0 (BRow g m' w (wr.drew.drewN md)) := ⟨⟨H3.out.cell, H3.out.free, pw_below_drewN H3.out.below md, H3.out.low⟩⟩
   generalize wr.drew.drewN md = w4 at H4 ⊢
   have hc : w4.cell? ⟨g, kn, none⟩ = some (.int .u8 (m'.getD kn 0)) := H4.out.cell kn hkm
   have hf : w4.frozen? ⟨g, kn, none⟩ = false := H4.out.free kn hkm
   have H5 := Aside0.mk (BRow.put H4.out kn hkm x)
   refine ⟨_, rfl, ?_⟩
   refine hK.out _ _ trivial (fun _ => ?_)
   clear hK K
   refine norm_ (a' := ?_) ?_ ?_
   rotate_left
   ·show Act.put _ (some 36) _ = _
    simp only [Act.put, List.setIfInBounds_toArray, List.set_cons_zero, List.set_cons_succ, i64_w, i32_w]
    rfl
   refine pure_ (i := 14) (N := some 37) (v := ?_) (a' := ?_) #[true,true,true,true,true,true,true,true,true,true,true,true,true,true,true,false] rfl rfl (by kernel_rfl) (fun _ _ _ h => h) (Or.inl ⟨by rfl, ?_⟩) ?_ ?_
   rotate_left;(intro w';go_simp;with_reducible rfl);rotate_left;(simp only [Act.put, List.setIfInBounds_toArray, List.set_cons_zero, List.set_cons_succ, i64_w, i32_w];rfl)
   refine last_ (i := 15) (N := none) #[true,true,true,true,true,true,true,true,true,true,true,true,true,true,true,true] rfl rfl (by kernel_rfl) (by decide) (fun K hK => ?_)
   refine skip_ (w1 := ?_) (by rfl) rfl ?_ ?_
   rotate_left
   ·go_simp
    rfl
   refine hK.out _ _ ?_
   clear hK K
   refine done_ (by kernel_rfl) ?_
   clear hti hbi hi0 hw hw3 hii hki e1 e2 e3 hbk ha ha3 hc hf
   go_wp2
   go_roundw
   case rel => exact ⟨i + 1, _, Nat.succ_le_of_lt hlt, by go_num, by rw [List.length_set]; exact hm', HP2, H5⟩
   case measure => simp [intOf]; omega
  ·have hp := HP.out
   rw [show n4 - i = 0 by omega, laidG] at hp
   obtain rfl := Option.some.inj hp
   have hlt2 : ((i : Int) < (n4 : Int)) = False := eq_false (by omega)
   have hlt3 : decide ((i : Int) < (n4 : Int)) = false := decide_eq_false (by omega)
   have hcv := string_of_reads (src := 44) (dst := 9) (e := 5) (c := grownCap w a0.size 0 5) Tryd.underlying44 Tryd.underlying5 Tryd.underlying9 (HB.out.reads (by omega))
   rw [hm'] at hcv
   clear HP hp
   go_wp2
   go_ret
   exact ⟨rfl, HB.out.below⟩

/-! ### dominoref04_first: function 42 -/
def dominoref04_first.f (k : Nat) (a0 : ByteArray) (a1 : ByteArray) : Option (Int) := if 0 < (a0.size : Int) then (if (bt a0 0) ≥ 128 then (if 0 < (a1.size : Int) then ((dominoref04_turned.f k (bt a0 0) (Int.tmod (bt a1 0) 16)).bind fun t201 => (some t201)) else (none)) else (if 0 < (a1.size : Int) then ((dominoref04_turned.f k (bt a0 0) (Int.tmod (bt a1 0) 32)).bind fun t202 => (some t202)) else (none))) else (none)
theorem dominoref04_first.mono : ∀ a0 a1 k, LeO (dominoref04_first.f k a0 a1) (dominoref04_first.f (k + 1) a0 a1) := by
 intro a0 a1 k
 unfold dominoref04_first.f
 repeat' first
   | (with_reducible exact dominoref04_turned.mono _ _ _)
   | (with_reducible exact LeO.refl _)
   | (with_reducible exact LeO.none _)
   | (with_reducible refine LeO.ite ?_ ?_)
   | (with_reducible refine LeO.bind ?_ (fun _ => ?_))
   | exact dominoref04_turned.mono _ _ _
   | exact LeO.none _
   | refine LeO.ite ?_ ?_
   | refine LeO.bind ?_ (fun _ => ?_)
set_option maxHeartbeats 8000000 in
set_option maxRecDepth 100000 in
theorem dominoref04_first.calls (k : Nat) (a0 : ByteArray) (a1 : ByteArray) (r : Int) (w : World) (h : dominoref04_first.f k a0 a1 = some r) :
  Calls Tryd.prog 42 #[.string a0, .string a1] w fun e w' => e = .returned (.int .u8 r) ∧ Drawn0 w w' := by
 have H : (if 0 < (a0.size : Int) then (if (bt a0 0) ≥ 128 then (if 0 < (a1.size : Int) then ((dominoref04_turned.f k (bt a0 0) (Int.tmod (bt a1 0) 16)).bind fun t201 => (some t201)) else (none)) else (if 0 < (a1.size : Int) then ((dominoref04_turned.f k (bt a0 0) (Int.tmod (bt a1 0) 32)).bind fun t202 => (some t202)) else (none))) else (none)) = some r := h
 clear h
 by_cases c3 : 0 < (a0.size : Int)
 ·rw [if_pos c3] at H
  have c3b0 : decide (0 < (a0.size : Int)) = true := decide_eq_true c3
  have c3b1 : decide (0 < a0.size) = true := decide_eq_true (by omega)
  clear c3
  by_cases c5 : (bt a0 0) ≥ 128
  ·rw [if_pos c5] at H
   have c5b0 : decide (128 ≤ (bt a0 0)) = true := decide_eq_true c5
   clear c5
   by_cases c7 : 0 < (a1.size : Int)
   ·rw [if_pos c7] at H
    have c7b0 : decide (0 < (a1.size : Int)) = true := decide_eq_true c7
    have c7b1 : decide (0 < a1.size) = true := decide_eq_true (by omega)
    clear c7
    replace H := Option.bind_eq_some_iff.mp H
    obtain ⟨t201, A90, H⟩ := H
    replace H : (some t201) = some r := H
    have A9 := Aside0.mk A90
    clear A90
    obtain rfl := Option.some.inj H
    have p4 : 0 ≤ (0 : Int) := (by omega)
    have q4 : 0 < a0.size := (by have : (0 : Int) < (a0.size : Int) := of_decide_eq_true (by first | (with_reducible assumption) | assumption); omega)
    have hx4 : ∀ h : 0 < a0.size, ((a0[0]'h).toNat : Int) = bt a0 0 := bt_at a0 0
    clear p4
    have qi4 : (0 < (a0.size : Int)) = True := eq_true (of_decide_eq_true (by first | (with_reducible assumption) | assumption))
    replace q4 := eq_true q4
    have p6 : 0 ≤ (0 : Int) := (by omega)
    have q6 : 0 < a0.size := (by have : (0 : Int) < (a0.size : Int) := of_decide_eq_true (by first | (with_reducible assumption) | assumption); omega)
    have hx6 : ∀ h : 0 < a0.size, ((a0[0]'h).toNat : Int) = bt a0 0 := bt_at a0 0
    clear p6
    have qi6 : (0 < (a0.size : Int)) = True := eq_true (of_decide_eq_true (by first | (with_reducible assumption) | assumption))
    replace q6 := eq_true q6
    have p8 : 0 ≤ (0 : Int) := (by omega)
    have q8 : 0 < a1.size := (by have : (0 : Int) < (a1.size : Int) := of_decide_eq_true (by first | (with_reducible assumption) | assumption); omega)
    have hx8 : ∀ h : 0 < a1.size, ((a1[0]'h).toNat : Int) = bt a1 0 := bt_at a1 0
    clear p8
    have qi8 : (0 < (a1.size : Int)) = True := eq_true (of_decide_eq_true (by first | (with_reducible assumption) | assumption))
    replace q8 := eq_true q8
    go_enter Tryd.func42, Tryd.ntmps42
    go_wp2_with (first | (go_at_call 51; (with_reducible refine (dominoref04_turned.calls k (bt a0 0) (Int.tmod (bt a1 0) 16) t201 _ A9.out).mono ?_); rintro e w' ⟨rfl, ⟨nd, rfl⟩⟩; (try first | exact ⟨rfl, _, World.drewN_drewN _ _ _⟩ | exact ⟨rfl, _, Eq.trans (World.drewN_drewN _ _ _) (congrArg (World.drewN _) (Nat.add_assoc _ _ _))⟩)))
    repeat (go_quiet (first | (go_at_call 51; (with_reducible refine (dominoref04_turned.calls k (bt a0 0) (Int.tmod (bt a1 0) 16) t201 _ A9.out).mono ?_); rintro e w' ⟨rfl, ⟨nd, rfl⟩⟩; (try first | exact ⟨rfl, _, World.drewN_drewN _ _ _⟩ | exact ⟨rfl, _, Eq.trans (World.drewN_drewN _ _ _) (congrArg (World.drewN _) (Nat.add_assoc _ _ _))⟩))); try go_wp2_with (first | (go_at_call 51; (with_reducible refine (dominoref04_turned.calls k (bt a0 0) (Int.tmod (bt a1 0) 16) t201 _ A9.out).mono ?_); rintro e w' ⟨rfl, ⟨nd, rfl⟩⟩; (try first | exact ⟨rfl, _, World.drewN_drewN _ _ _⟩ | exact ⟨rfl, _, Eq.trans (World.drewN_drewN _ _ _) (congrArg (World.drewN _) (Nat.add_assoc _ _ _))⟩))))
    go_ret
    exact ⟨by first | rfl | (simp; done) | (simp [*]; done), by repeat (first | exact Drawn0.refl _ | apply Drawn0.step)⟩
   ·rw [if_neg c7] at H
    exact absurd H (by simp)
  ·rw [if_neg c5] at H
   have c5b0 : decide (128 ≤ (bt a0 0)) = false := decide_eq_false c5
   clear c5
   by_cases c11 : 0 < (a1.size : Int)
   ·rw [if_pos c11] at H
    have c11b0 : decide (0 < (a1.size : Int)) = true := decide_eq_true c11
    have c11b1 : decide (0 < a1.size) = true := decide_eq_true (by omega)
    clear c11
    replace H := Option.bind_eq_some_iff.mp H
    obtain ⟨t202, A130, H⟩ := H
    replace H : (some t202) = some r := H
    have A13 := Aside0.mk A130
    clear A130
    obtain rfl := Option.some.inj H
    have p4 : 0 ≤ (0 : Int) := (by omega)
    have q4 : 0 < a0.size := (by have : (0 : Int) < (a0.size : Int) := of_decide_eq_true (by first | (with_reducible assumption) | assumption); omega)
    have hx4 : ∀ h : 0 < a0.size, ((a0[0]'h).toNat : Int) = bt a0 0 := bt_at a0 0
    clear p4
    have qi4 : (0 < (a0.size : Int)) = True := eq_true (of_decide_eq_true (by first | (with_reducible assumption) | assumption))
    replace q4 := eq_true q4
    have p10 : 0 ≤ (0 : Int) := (by omega)
    have q10 : 0 < a0.size := (by have : (0 : Int) < (a0.size : Int) := of_decide_eq_true (by first | (with_reducible assumption) | assumption); omega)
    have hx10 : ∀ h : 0 < a0.size, ((a0[0]'h).toNat : Int) = bt a0 0 := bt_at a0 0
    clear p10
    have qi10 : (0 < (a0.size : Int)) = True := eq_true (of_decide_eq_true (by first | (with_reducible assumption) | assumption))
    replace q10 := eq_true q10
    have p12 : 0 ≤ (0 : Int) := (by omega)
    have q12 : 0 < a1.size := (by have : (0 : Int) < (a1.size : Int) := of_decide_eq_true (by first | (with_reducible assumption) | assumption); omega)
    have hx12 : ∀ h : 0 < a1.size, ((a1[0]'h).toNat : Int) = bt a1 0 := bt_at a1 0
    clear p12
    have qi12 : (0 < (a1.size : Int)) = True := eq_true (of_decide_eq_true (by first | (with_reducible assumption) | assumption))
    replace q12 := eq_true q12
    go_enter Tryd.func42, Tryd.ntmps42
    go_wp2_with (first | (go_at_call 51; (with_reducible refine (dominoref04_turned.calls k (bt a0 0) (Int.tmod (bt a1 0) 32) t202 _ A13.out).mono ?_); rintro e w' ⟨rfl, ⟨nd, rfl⟩⟩; (try first | exact ⟨rfl, _, World.drewN_drewN _ _ _⟩ | exact ⟨rfl, _, Eq.trans (World.drewN_drewN _ _ _) (congrArg (World.drewN _) (Nat.add_assoc _ _ _))⟩)))
    repeat (go_quiet (first | (go_at_call 51; (with_reducible refine (dominoref04_turned.calls k (bt a0 0) (Int.tmod (bt a1 0) 32) t202 _ A13.out).mono ?_); rintro e w' ⟨rfl, ⟨nd, rfl⟩⟩; (try first | exact ⟨rfl, _, World.drewN_drewN _ _ _⟩ | exact ⟨rfl, _, Eq.trans (World.drewN_drewN _ _ _) (congrArg (World.drewN _) (Nat.add_assoc _ _ _))⟩))); try go_wp2_with (first | (go_at_call 51; (with_reducible refine (dominoref04_turned.calls k (bt a0 0) (Int.tmod (bt a1 0) 32) t202 _ A13.out).mono ?_); rintro e w' ⟨rfl, ⟨nd, rfl⟩⟩; (try first | exact ⟨rfl, _, World.drewN_drewN _ _ _⟩ | exact ⟨rfl, _, Eq.trans (World.drewN_drewN _ _ _) (congrArg (World.drewN _) (Nat.add_assoc _ _ _))⟩))))
    go_ret
    exact ⟨by first | rfl | (simp; done) | (simp [*]; done), by repeat (first | exact Drawn0.refl _ | apply Drawn0.step)⟩
   ·rw [if_neg c11] at H
    exact absurd H (by simp)
 ·rw [if_neg c3] at H
  exact absurd H (by simp)

/-! ### dominoref04_Mask: function 21 -/
def dominoref04_Mask.f (k : Nat) (a0 : ByteArray) (a1 : ByteArray) : Option (ByteArray × Int) := if (a1.size : Int) = 5 then ((dominoref04_Get.f k a0).bind fun bt203 => (if bt203.2.2.2.2.2.2.2.2.2.2.2.2 = 0 then ((dominoref04_first.f k a0 a1).bind fun t217 => ((dominoref04_laid.f k a0 a1 t217 (wrap64 ((wrap64 ((a0.size : Int) - (bt203.2.2.2.2.2.2.2.2.2.2.2.1.size : Int))) - bt203.2.2.2.2.2.2.2.2.2.1)) bt203.2.2.2.2.2.2.2.2.2.1).bind fun t218 => (some (t218, 0)))) else (some ((⟨#[]⟩ : ByteArray), bt203.2.2.2.2.2.2.2.2.2.2.2.2)))) else (some ((⟨#[]⟩ : ByteArray), 1))
theorem dominoref04_Mask.mono : ∀ a0 a1 k, LeO (dominoref04_Mask.f k a0 a1) (dominoref04_Mask.f (k + 1) a0 a1) := by
 intro a0 a1 k
 unfold dominoref04_Mask.f
 repeat' first
   | (with_reducible exact dominoref04_Get.mono _ _)
   | (with_reducible exact dominoref04_first.mono _ _ _)
   | (with_reducible exact dominoref04_laid.mono _ _ _ _ _ _)
   | (with_reducible exact LeO.refl _)
   | (with_reducible exact LeO.none _)
   | (with_reducible refine LeO.ite ?_ ?_)
   | (with_reducible refine LeO.bind ?_ (fun _ => ?_))
   | exact dominoref04_Get.mono _ _
   | exact dominoref04_first.mono _ _ _
   | exact dominoref04_laid.mono _ _ _ _ _ _
   | exact LeO.none _
   | refine LeO.ite ?_ ?_
   | refine LeO.bind ?_ (fun _ => ?_)
def dominoref04_Mask.T6 : Bool × List (List Nat × List Nat) := (true, [([], []), ([], []), ([], []), ([], []), ([2, 3], [2, 3]), ([], []), ([5], [5]), ([], []), ([7], [7]), ([6, 8], [6, 8]), ([], []), ([10], [10]), ([9, 11], [9, 11]), ([], []), ([13], [13]), ([0, 1, 4, 12, 14, 4], [0, 1, 4, 12, 14]), ([15, 15, 0, 1, 2, 3, 4, 5, 6, 7, 8, 9, 10, 11, 12, 13, 14, 15], [15]), ([16, 0, 1, 2, 3, 4, 5, 6, 7, 8, 9, 10, 11, 12, 13, 14, 15, 16], [])])
def dominoref04_Mask.B6 : List Nat := [0, 0, 0, 0, 12, 0, 32, 0, 128, 480, 0, 1024, 4064, 0, 8192, 32767, 65535, 131071]
theorem dominoref04_Mask.tab6 : rtab .any (opsOf Tryd.f21 6) = dominoref04_Mask.T6 := by kernel_rfl
theorem dominoref04_Mask.bits6 : waitsOk dominoref04_Mask.T6.2 dominoref04_Mask.B6 = true := by kernel_rfl
set_option maxHeartbeats 8000000 in
set_option maxRecDepth 100000 in
theorem dominoref04_Mask.calls (k : Nat) (a0 : ByteArray) (a1 : ByteArray) (r1 : ByteArray) (r2 : Int) (w : World) (h : dominoref04_Mask.f k a0 a1 = some (r1, r2)) :
  Calls Tryd.prog 21 #[.string a0, .string a1] w fun e w' => e = .returned (.tuple #[.string r1, .int .i64 r2]) ∧ Below w.heap.size w w' := by
 have hu28 := Tryd.underlying28
 have HB := Aside0.mk (Below.refl w.heap.size w)
 have H : (if (a1.size : Int) = 5 then ((dominoref04_Get.f k a0).bind fun bt203 => (if bt203.2.2.2.2.2.2.2.2.2.2.2.2 = 0 then ((dominoref04_first.f k a0 a1).bind fun t217 => ((dominoref04_laid.f k a0 a1 t217 (wrap64 ((wrap64 ((a0.size : Int) - (bt203.2.2.2.2.2.2.2.2.2.2.2.1.size : Int))) - bt203.2.2.2.2.2.2.2.2.2.1)) bt203.2.2.2.2.2.2.2.2.2.1).bind fun t218 => (some (t218, 0)))) else (some ((⟨#[]⟩ : ByteArray), bt203.2.2.2.2.2.2.2.2.2.2.2.2)))) else (some ((⟨#[]⟩ : ByteArray), 1))) = some (r1, r2) := h
 clear h
 by_cases c3 : (a1.size : Int) = 5
 ·rw [if_pos c3] at H
  have c3b0 : ((a1.size : Int) == 5) = true := beq_iff_eq.mpr c3
  have c3b1 : ((a1.size : Int) != 5) = false := bne_eq_false_iff_eq.mpr c3
  clear c3
  replace H := Option.bind_eq_some_iff.mp H
  obtain ⟨⟨t203, t204, t205, t206, t207, t208, t209, t210, t211, t212, t213, t214, t215⟩, A40, H⟩ := H
  replace H : (if t215 = 0 then ((dominoref04_first.f k a0 a1).bind fun t217 => ((dominoref04_laid.f k a0 a1 t217 (wrap64 ((wrap64 ((a0.size : Int) - (t214.size : Int))) - t212)) t212).bind fun t218 => (some (t218, 0)))) else (some ((⟨#[]⟩ : ByteArray), t215))) = some (r1, r2) := H
  have A4 := Aside0.mk A40
  clear A40
  by_cases c5 : t215 = 0
  ·rw [if_pos c5] at H
   have c5b0 : (t215 == 0) = true := beq_iff_eq.mpr c5
   have c5b1 : (t215 != 0) = false := bne_eq_false_iff_eq.mpr c5
   clear c5
   replace H := Option.bind_eq_some_iff.mp H
   obtain ⟨t217, A60, H⟩ := H
   replace H : ((dominoref04_laid.f k a0 a1 t217 (wrap64 ((wrap64 ((a0.size : Int) - (t214.size : Int))) - t212)) t212).bind fun t218 => (some (t218, 0))) = some (r1, r2) := H
   have A6 := Aside0.mk A60
   clear A60
   replace H := Option.bind_eq_some_iff.mp H
   obtain ⟨t218, A70, H⟩ := H
   replace H : (some (t218, 0)) = some (r1, r2) := H
   have A7 := Aside0.mk A70
   clear A70
   simp only [Option.some.injEq, Prod.mk.injEq] at H
   obtain ⟨rfl, rfl⟩ := H
   go_enter Tryd.func21, Tryd.ntmps21
   try go_wp2_with (first | ((with_reducible refine gate_callee (f := 15) rfl ?_); refine goesL_ (some 14) rfl rfl Tryd.func15 (by kernel_rfl) rfl #[.string a0] rfl (by (try simp only [List.map_toArray, List.map_cons, List.map_nil]); first | done | rfl | (simp only [List.length_drop, List.length_take]; rfl)) ?_; (with_reducible refine (dominoref04_Get.calls k a0 t203 t204 t205 t206 t207 t208 t209 t210 t211 t212 t213 t214 t215 _ A4.out).mono ?_); rintro e w8 ⟨rfl, hb⟩; refine ⟨_, rfl, ?_⟩; have n0_ := Aside0.mk (below_step (by repeat (first | (with_reducible first | exact HB.out | apply below_alloc | apply pw_below_drewN | apply below_drew1) | exact HB.out)) hb); clear HB; have HB := n0_; clear n0_; (try clear hb); (try clear hb2); (try clear hk); (try clear hi)) | ((with_reducible refine gate_dst (N := 6) rfl ?_); refine box_event ?hg (N := 6) ?hd (cs := #[.bool false, .bool false, .bool false, .int .i64 0, .int .u32 0, .string (⟨#[]⟩ : ByteArray), .string (⟨#[]⟩ : ByteArray), .string (⟨#[]⟩ : ByteArray), .int .u64 0, .int .i64 0, .int .u64 0]) (t := 28) ?hr ?_; (case hd => rfl); (case hg => rfl); (case hr => first | (go_simp; done) | (go_simp; rfl)); intro gb216 hg w9 hbox hb; have n0_ := Aside0.mk (below_step (by repeat (first | (with_reducible first | exact HB.out | apply below_alloc | apply pw_below_drewN | apply below_drew1) | exact HB.out)) hb); have n1_ := Aside0.mk (hbox); have n2_ := Aside0.mk ((by rw [hg]; exact (below_size (by repeat (first | (with_reducible first | exact HB.out | apply below_alloc | apply pw_below_drewN | apply below_drew1) | exact HB.out))) : w.heap.size ≤ gb216)); have n3_ := Aside0.mk ((by rw [hg]; exact (below_size (by repeat (first | (with_reducible first | exact HB.out | apply below_alloc | apply pw_below_drewN | apply below_drew1) | exact HB.out))) : w.heap.size ≤ gb216)); clear HB; have HB := n0_; have BK216 := n1_; have GW216 := n2_; have GE216 := n3_; clear n0_ n1_ n2_ n3_; clear hb hbox hg; obtain ⟨hcz10_0, hcz10_1, hcz10_2, hcz10_3, hcz10_4, hcz10_5, hcz10_6, hcz10_7, hcz10_8, hcz10_9, hcz10_10⟩ := cs11_ BK216.out; have hfz10_0 := blk_frozen BK216.out 0; have hfz10_1 := blk_frozen BK216.out 1; have hfz10_2 := blk_frozen BK216.out 2; have hfz10_3 := blk_frozen BK216.out 3; have hfz10_4 := blk_frozen BK216.out 4; have hfz10_5 := blk_frozen BK216.out 5; have hfz10_6 := blk_frozen BK216.out 6; have hfz10_7 := blk_frozen BK216.out 7; have hfz10_8 := blk_frozen BK216.out 8; have hfz10_9 := blk_frozen BK216.out 9; have hfz10_10 := blk_frozen BK216.out 10))
   have n0_ : Aside0 ((((((((((((w9.setCell ⟨gb216, 0, none⟩ (.bool t203)).setCell ⟨gb216, 1, none⟩ (.bool t204)).setCell ⟨gb216, 2, none⟩ (.bool t205)).setCell ⟨gb216, 3, none⟩ (.int .i64 t206)).setCell ⟨gb216, 4, none⟩ (.int .u32 t207)).setCell ⟨gb216, 5, none⟩ (.string t208)).setCell ⟨gb216, 6, none⟩ (.string t209)).setCell ⟨gb216, 7, none⟩ (.string t210)).setCell ⟨gb216, 8, none⟩ (.int .u64 t211)).setCell ⟨gb216, 9, none⟩ (.int .i64 t212)).setCell ⟨gb216, 10, none⟩ (.int .u64 t213)).heap[gb216]? = some (.cells #[.bool t203, .bool t204, .bool t205, .int .i64 t206, .int .u32 t207, .string t208, .string t209, .string t210, .int .u64 t211, .int .i64 t212, .int .u64 t213] 28 (0, 0))) := ⟨by (with_reducible repeat (first | refine blk_drewN ?_ _ | refine blk_drew ?_ | refine blk_alloc ?_ _)); refine blk_put (cs := #[.bool t203, .bool t204, .bool t205, .int .i64 t206, .int .u32 t207, .string t208, .string t209, .string t210, .int .u64 t211, .int .i64 t212, .int .u64 0]) ?_ 10 _ rfl; (with_reducible repeat (first | refine blk_drewN ?_ _ | refine blk_drew ?_ | refine blk_alloc ?_ _)); refine blk_put (cs := #[.bool t203, .bool t204, .bool t205, .int .i64 t206, .int .u32 t207, .string t208, .string t209, .string t210, .int .u64 t211, .int .i64 0, .int .u64 0]) ?_ 9 _ rfl; (with_reducible repeat (first | refine blk_drewN ?_ _ | refine blk_drew ?_ | refine blk_alloc ?_ _)); refine blk_put (cs := #[.bool t203, .bool t204, .bool t205, .int .i64 t206, .int .u32 t207, .string t208, .string t209, .string t210, .int .u64 0, .int .i64 0, .int .u64 0]) ?_ 8 _ rfl; (with_reducible repeat (first | refine blk_drewN ?_ _ | refine blk_drew ?_ | refine blk_alloc ?_ _)); refine blk_put (cs := #[.bool t203, .bool t204, .bool t205, .int .i64 t206, .int .u32 t207, .string t208, .string t209, .string (⟨#[]⟩ : ByteArray), .int .u64 0, .int .i64 0, .int .u64 0]) ?_ 7 _ rfl; (with_reducible repeat (first | refine blk_drewN ?_ _ | refine blk_drew ?_ | refine blk_alloc ?_ _)); refine blk_put (cs := #[.bool t203, .bool t204, .bool t205, .int .i64 t206, .int .u32 t207, .string t208, .string (⟨#[]⟩ : ByteArray), .string (⟨#[]⟩ : ByteArray), .int .u64 0, .int .i64 0, .int .u64 0]) ?_ 6 _ rfl; (with_reducible repeat (first | refine blk_drewN ?_ _ | refine blk_drew ?_ | refine blk_alloc ?_ _)); refine blk_put (cs := #[.bool t203, .bool t204, .bool t205, .int .i64 t206, .int .u32 t207, .string (⟨#[]⟩ : ByteArray), .string (⟨#[]⟩ : ByteArray), .string (⟨#[]⟩ : ByteArray), .int .u64 0, .int .i64 0, .int .u64 0]) ?_ 5 _ rfl; (with_reducible repeat (first | refine blk_drewN ?_ _ | refine blk_drew ?_ | refine blk_alloc ?_ _)); refine blk_put (cs := #[.bool t203, .bool t204, .bool t205, .int .i64 t206, .int .u32 0, .string (⟨#[]⟩ : ByteArray), .string (⟨#[]⟩ : ByteArray), .string (⟨#[]⟩ : ByteArray), .int .u64 0, .int .i64 0, .int .u64 0]) ?_ 4 _ rfl; (with_reducible repeat (first | refine blk_drewN ?_ _ | refine blk_drew ?_ | refine blk_alloc ?_ _)); refine blk_put (cs := #[.bool t203, .bool t204, .bool t205, .int .i64 0, .int .u32 0, .string (⟨#[]⟩ : ByteArray), .string (⟨#[]⟩ : ByteArray), .string (⟨#[]⟩ : ByteArray), .int .u64 0, .int .i64 0, .int .u64 0]) ?_ 3 _ rfl; (with_reducible repeat (first | refine blk_drewN ?_ _ | refine blk_drew ?_ | refine blk_alloc ?_ _)); refine blk_put (cs := #[.bool t203, .bool t204, .bool false, .int .i64 0, .int .u32 0, .string (⟨#[]⟩ : ByteArray), .string (⟨#[]⟩ : ByteArray), .string (⟨#[]⟩ : ByteArray), .int .u64 0, .int .i64 0, .int .u64 0]) ?_ 2 _ rfl; (with_reducible repeat (first | refine blk_drewN ?_ _ | refine blk_drew ?_ | refine blk_alloc ?_ _)); refine blk_put (cs := #[.bool t203, .bool false, .bool false, .int .i64 0, .int .u32 0, .string (⟨#[]⟩ : ByteArray), .string (⟨#[]⟩ : ByteArray), .string (⟨#[]⟩ : ByteArray), .int .u64 0, .int .i64 0, .int .u64 0]) ?_ 1 _ rfl; (with_reducible repeat (first | refine blk_drewN ?_ _ | refine blk_drew ?_ | refine blk_alloc ?_ _)); refine blk_put (cs := #[.bool false, .bool false, .bool false, .int .i64 0, .int .u32 0, .string (⟨#[]⟩ : ByteArray), .string (⟨#[]⟩ : ByteArray), .string (⟨#[]⟩ : ByteArray), .int .u64 0, .int .i64 0, .int .u64 0]) ?_ 0 _ rfl; (with_reducible repeat (first | refine blk_drewN ?_ _ | refine blk_drew ?_ | refine blk_alloc ?_ _)); exact BK216.out⟩
   have n1_ : Aside0 (Below w.heap.size w (((((((((((w9.setCell ⟨gb216, 0, none⟩ (.bool t203)).setCell ⟨gb216, 1, none⟩ (.bool t204)).setCell ⟨gb216, 2, none⟩ (.bool t205)).setCell ⟨gb216, 3, none⟩ (.int .i64 t206)).setCell ⟨gb216, 4, none⟩ (.int .u32 t207)).setCell ⟨gb216, 5, none⟩ (.string t208)).setCell ⟨gb216, 6, none⟩ (.string t209)).setCell ⟨gb216, 7, none⟩ (.string t210)).setCell ⟨gb216, 8, none⟩ (.int .u64 t211)).setCell ⟨gb216, 9, none⟩ (.int .i64 t212)).setCell ⟨gb216, 10, none⟩ (.int .u64 t213))) := ⟨by repeat (first | (with_reducible first | exact HB.out | apply below_alloc | apply pw_below_drewN | apply below_drew1 | refine below_set ?_ GE216.out) | exact HB.out)⟩
   (try clear BK216)
   (try clear HB)
   generalize (((((((((((w9.setCell ⟨gb216, 0, none⟩ (.bool t203)).setCell ⟨gb216, 1, none⟩ (.bool t204)).setCell ⟨gb216, 2, none⟩ (.bool t205)).setCell ⟨gb216, 3, none⟩ (.int .i64 t206)).setCell ⟨gb216, 4, none⟩ (.int .u32 t207)).setCell ⟨gb216, 5, none⟩ (.string t208)).setCell ⟨gb216, 6, none⟩ (.string t209)).setCell ⟨gb216, 7, none⟩ (.string t210)).setCell ⟨gb216, 8, none⟩ (.int .u64 t211)).setCell ⟨gb216, 9, none⟩ (.int .i64 t212)).setCell ⟨gb216, 10, none⟩ (.int .u64 t213)) = w11 at n0_ n1_ ⊢
   have BK216 := n0_
   have HB := n1_
   clear n0_ n1_
   have n0_ := Aside0.mk (blk_drew BK216.out)
   have n1_ := Aside0.mk (below_drew1 HB.out)
   clear BK216
   clear HB
   have BK216 := n0_
   have HB := n1_
   clear n0_ n1_
   refine start_ (n := 18) (S := fun w' => w'.cell? ⟨gb216, 0, none⟩ = some (.bool t203) ∧ w'.cell? ⟨gb216, 1, none⟩ = some (.bool t204) ∧ w'.cell? ⟨gb216, 2, none⟩ = some (.bool t205) ∧ w'.cell? ⟨gb216, 3, none⟩ = some (.int .i64 t206) ∧ w'.cell? ⟨gb216, 4, none⟩ = some (.int .u32 t207) ∧ w'.cell? ⟨gb216, 5, none⟩ = some (.string t208) ∧ w'.cell? ⟨gb216, 6, none⟩ = some (.string t209) ∧ w'.cell? ⟨gb216, 7, none⟩ = some (.string t210) ∧ w'.cell? ⟨gb216, 8, none⟩ = some (.int .u64 t211) ∧ w'.cell? ⟨gb216, 9, none⟩ = some (.int .i64 t212) ∧ w'.cell? ⟨gb216, 10, none⟩ = some (.int .u64 t213)) (ds := []) #[false,false,false,false,false,false,false,false,false,false,false,false,false,false,false,false,false,false] (by kernel_rfl) rfl rfl ⟨(blk_cell BK216.out 0).trans rfl, (blk_cell BK216.out 1).trans rfl, (blk_cell BK216.out 2).trans rfl, (blk_cell BK216.out 3).trans rfl, (blk_cell BK216.out 4).trans rfl, (blk_cell BK216.out 5).trans rfl, (blk_cell BK216.out 6).trans rfl, (blk_cell BK216.out 7).trans rfl, (blk_cell BK216.out 8).trans rfl, (blk_cell BK216.out 9).trans rfl, (blk_cell BK216.out 10).trans rfl⟩ (fun hHeld => ?_); refine with_tabW dominoref04_Mask.tab6 dominoref04_Mask.bits6 (fun HT_ HW_ => ?_)
   generalize w11.drew = w12 at BK216 HB hHeld ⊢
   refine pure_ (i := 0) (N := some 21) (v := ?_) (a' := ?_) #[true,false,false,false,false,false,false,false,false,false,false,false,false,false,false,false,false,false] rfl rfl (any_of HT_.out (by kernel_rfl)) (fun _ _ _ h => h) (Or.inl ⟨by rfl, ?_⟩) ?_ ?_
   rotate_left;(intro w';go_simp;with_reducible rfl);rotate_left;(simp only [Act.put, List.setIfInBounds_toArray, List.set_cons_zero, List.set_cons_succ, i64_w, i32_w];rfl)
   refine pure_ (i := 1) (N := some 22) (v := ?_) (a' := ?_) #[true,true,false,false,false,false,false,false,false,false,false,false,false,false,false,false,false,false] rfl rfl (any_of HT_.out (by kernel_rfl)) (fun _ _ _ h => h) (Or.inl ⟨by rfl, ?_⟩) ?_ ?_
   rotate_left;(intro w';go_simp;with_reducible rfl);rotate_left;(simp only [Act.put, List.setIfInBounds_toArray, List.set_cons_zero, List.set_cons_succ, i64_w, i32_w];rfl)
   refine pure_ (i := 2) (N := some 23) (v := ?_) (a' := ?_) #[true,true,true,false,false,false,false,false,false,false,false,false,false,false,false,false,false,false] rfl rfl (any_of HT_.out (by kernel_rfl)) (fun _ _ _ h => h) (Or.inl ⟨by rfl, ?_⟩) ?_ ?_
   rotate_left;(intro w';go_simp;with_reducible rfl);rotate_left;(simp only [Act.put, List.setIfInBounds_toArray, List.set_cons_zero, List.set_cons_succ, i64_w, i32_w];rfl)
   refine pure_ (i := 3) (N := some 24) (v := ?_) (a' := ?_) #[true,true,true,true,false,false,false,false,false,false,false,false,false,false,false,false,false,false] rfl rfl (any_of HT_.out (by kernel_rfl)) (fun _ _ _ h => h) (Or.inl ⟨by rfl, ?_⟩) ?_ ?_
   rotate_left;(intro w';go_simp;with_reducible rfl);rotate_left;(simp only [Act.put, List.setIfInBounds_toArray, List.set_cons_zero, List.set_cons_succ, i64_w, i32_w];rfl)
   refine pure_ (i := 5) (N := some 26) (v := ?_) (a' := ?_) #[true,true,true,true,false,true,false,false,false,false,false,false,false,false,false,false,false,false] rfl rfl (any_of HT_.out (by kernel_rfl)) (fun _ _ _ h => h) (Or.inl ⟨by rfl, ?_⟩) ?_ ?_
   rotate_left;(intro w';go_simp;with_reducible rfl);rotate_left;(simp only [Act.put, List.setIfInBounds_toArray, List.set_cons_zero, List.set_cons_succ, i64_w, i32_w];rfl)
   refine pure_ (i := 6) (N := some 27) (v := ?_) (a' := ?_) #[true,true,true,true,false,true,true,false,false,false,false,false,false,false,false,false,false,false] rfl rfl (any_of HT_.out (by kernel_rfl)) (fun _ _ _ h => h) (Or.inl ⟨by rfl, ?_⟩) ?_ ?_
   rotate_left;(intro w';go_simp;with_reducible rfl);rotate_left;(simp only [Act.put, List.setIfInBounds_toArray, List.set_cons_zero, List.set_cons_succ, i64_w, i32_w];rfl)
   refine pure_ (i := 7) (N := some 28) (v := ?_) (a' := ?_) #[true,true,true,true,false,true,true,true,false,false,false,false,false,false,false,false,false,false] rfl rfl (any_of HT_.out (by kernel_rfl)) (fun _ _ _ h => h) (Or.inl ⟨by rfl, ?_⟩) ?_ ?_
   rotate_left;(intro w';go_simp;with_reducible rfl);rotate_left;(simp only [Act.put, List.setIfInBounds_toArray, List.set_cons_zero, List.set_cons_succ, i64_w, i32_w];rfl)
   refine pure_ (i := 8) (N := some 29) (v := ?_) (a' := ?_) #[true,true,true,true,false,true,true,true,true,false,false,false,false,false,false,false,false,false] rfl rfl (any_of HT_.out (by kernel_rfl)) (fun _ _ _ h => h) (Or.inl ⟨by rfl, ?_⟩) ?_ ?_
   rotate_left;(intro w';go_simp;with_reducible rfl);rotate_left;(simp only [Act.put, List.setIfInBounds_toArray, List.set_cons_zero, List.set_cons_succ, i64_w, i32_w];rfl)
   refine pure_ (i := 9) (N := some 30) (v := ?_) (a' := ?_) #[true,true,true,true,false,true,true,true,true,true,false,false,false,false,false,false,false,false] rfl rfl (any_of HT_.out (by kernel_rfl)) (fun _ _ _ h => h) (Or.inl ⟨by rfl, ?_⟩) ?_ ?_
   rotate_left;(intro w';go_simp;with_reducible rfl);rotate_left;(simp only [Act.put, List.setIfInBounds_toArray, List.set_cons_zero, List.set_cons_succ, i64_w, i32_w];rfl)
   refine pure_ (i := 10) (N := some 31) (v := ?_) (a' := ?_) #[true,true,true,true,false,true,true,true,true,true,true,false,false,false,false,false,false,false] rfl rfl (any_of HT_.out (by kernel_rfl)) (fun _ _ _ h => h) (Or.inl ⟨by rfl, ?_⟩) ?_ ?_
   rotate_left;(intro w';go_simp;with_reducible rfl);rotate_left;(simp only [Act.put, List.setIfInBounds_toArray, List.set_cons_zero, List.set_cons_succ, i64_w, i32_w];rfl)
   refine pure_ (i := 13) (N := some 34) (v := ?_) (a' := ?_) #[true,true,true,true,false,true,true,true,true,true,true,false,false,true,false,false,false,false] rfl rfl (any_of HT_.out (by kernel_rfl)) (fun _ _ _ h => h) (Or.inl ⟨by rfl, ?_⟩) ?_ ?_
   rotate_left;(intro w';go_simp;with_reducible rfl);rotate_left;(simp only [Act.put, List.setIfInBounds_toArray, List.set_cons_zero, List.set_cons_succ, i64_w, i32_w];rfl)
   refine take_ (i := 11) (N := some 32) (v := ?_) (a' := ?_) #[true,true,true,true,false,true,true,true,true,true,true,true,false,true,false,false,false,false] rfl rfl (take_ofW HT_.out HW_.out (by kernel_rfl)) (fun _ _ _ h => h) (Or.inl ⟨by rfl, ?_⟩) hHeld ?_ ?_
   rotate_left
   ·rintro w' ⟨s0, s1, s2, s3, s4, s5, s6, s7, s8, s9, s10⟩
    go_simp
    with_reducible rfl
   rotate_left
   ·simp only [Act.put, List.setIfInBounds_toArray, List.set_cons_zero, List.set_cons_succ, i64_w, i32_w]
    rfl
   refine pure_ (i := 12) (N := some 33) (v := ?_) (a' := ?_) #[true,true,true,true,false,true,true,true,true,true,true,true,true,true,false,false,false,false] rfl rfl (any_of HT_.out (by kernel_rfl)) (fun _ _ _ h => h) (Or.inl ⟨by rfl, ?_⟩) ?_ ?_
   rotate_left;(intro w';go_simp;with_reducible rfl);rotate_left;(simp only [Act.put, List.setIfInBounds_toArray, List.set_cons_zero, List.set_cons_succ, i64_w, i32_w];rfl)
   refine take_ (i := 14) (N := some 35) (v := ?_) (a' := ?_) #[true,true,true,true,false,true,true,true,true,true,true,true,true,true,true,false,false,false] rfl rfl (take_ofW HT_.out HW_.out (by kernel_rfl)) (fun _ _ _ h => h) (Or.inl ⟨by rfl, ?_⟩) hHeld ?_ ?_
   rotate_left
   ·rintro w' ⟨s0, s1, s2, s3, s4, s5, s6, s7, s8, s9, s10⟩
    go_simp
    with_reducible rfl
   rotate_left
   ·simp only [Act.put, List.setIfInBounds_toArray, List.set_cons_zero, List.set_cons_succ, i64_w, i32_w]
    rfl
   refine one_ (i := 4) (N := some 25) #[true,true,true,true,true,true,true,true,true,true,true,true,true,true,true,false,false,false] rfl rfl (one_of HT_.out (by kernel_rfl)) (by decide) (fun K hK => ?_)
   refine goes_ Tryd.func42 (by kernel_rfl) rfl #[.string a0, .string a1] (by rfl) rfl rfl (by (try simp only [List.map_toArray, List.map_cons, List.map_nil]); first | done | rfl | (simp only [List.length_drop, List.length_take]; rfl)) ?_
   with_reducible refine (dominoref04_first.calls k a0 a1 t217 _ A6.out).mono ?_
   rintro e w' ⟨rfl, ⟨nd, rfl⟩⟩
   refine ⟨_, rfl, ?_⟩
   refine hK.out _ _ ⟨(blk_cell BK216.out 0).trans rfl, (blk_cell BK216.out 1).trans rfl, (blk_cell BK216.out 2).trans rfl, (blk_cell BK216.out 3).trans rfl, (blk_cell BK216.out 4).trans rfl, (blk_cell BK216.out 5).trans rfl, (blk_cell BK216.out 6).trans rfl, (blk_cell BK216.out 7).trans rfl, (blk_cell BK216.out 8).trans rfl, (blk_cell BK216.out 9).trans rfl, (blk_cell BK216.out 10).trans rfl⟩ (fun hHeld => ?_)
   clear hK K
   refine norm_ (a' := ?_) ?_ ?_
   rotate_left
   ·show Act.put _ (some 25) _ = _
    simp only [Act.put, List.setIfInBounds_toArray, List.set_cons_zero, List.set_cons_succ, i64_w, i32_w]
    rfl
   refine one_ (i := 15) (N := some 36) #[true,true,true,true,true,true,true,true,true,true,true,true,true,true,true,true,false,false] rfl rfl (one_of HT_.out (by kernel_rfl)) (by decide) (fun K hK => ?_)
   refine goes_ Tryd.func41 (by kernel_rfl) rfl #[.string a0, .string a1, .int .u8 t217, .int .i64 (wrap64 ((wrap64 ((a0.size : Int) - (t214.size : Int))) - t212)), .int .i64 t212] (by rfl) rfl rfl (by (try simp only [List.map_toArray, List.map_cons, List.map_nil]); first | done | rfl | (simp only [List.length_drop, List.length_take]; rfl)) ?_
   with_reducible refine (dominoref04_laid.calls k a0 a1 t217 (wrap64 ((wrap64 ((a0.size : Int) - (t214.size : Int))) - t212)) t212 t218 _ A7.out).mono ?_
   rintro e w13 ⟨rfl, hb⟩
   refine ⟨_, rfl, ?_⟩
   have n0_ := Aside0.mk (blk_below (g := gb216) (o := .cells #[.bool t203, .bool t204, .bool t205, .int .i64 t206, .int .u32 t207, .string t208, .string t209, .string t210, .int .u64 t211, .int .i64 t212, .int .u64 t213] 28 (0, 0)) (by (with_reducible repeat (first | refine blk_drewN ?_ _ | refine blk_drew ?_ | refine blk_alloc ?_ _)); exact BK216.out) hb)
   have n1_ := Aside0.mk (below_step (by repeat (first | (with_reducible first | exact HB.out | apply below_alloc | apply pw_below_drewN | apply below_drew1 | refine below_set ?_ GE216.out) | exact HB.out)) hb)
   clear BK216
   clear HB
   have BK216 := n0_
   have HB := n1_
   clear n0_ n1_
   (try clear hb)
   (try clear hb2)
   (try clear hk)
   (try clear hi)
   refine hK.out _ _ ⟨(blk_cell BK216.out 0).trans rfl, (blk_cell BK216.out 1).trans rfl, (blk_cell BK216.out 2).trans rfl, (blk_cell BK216.out 3).trans rfl, (blk_cell BK216.out 4).trans rfl, (blk_cell BK216.out 5).trans rfl, (blk_cell BK216.out 6).trans rfl, (blk_cell BK216.out 7).trans rfl, (blk_cell BK216.out 8).trans rfl, (blk_cell BK216.out 9).trans rfl, (blk_cell BK216.out 10).trans rfl⟩ (fun hHeld => ?_)
   clear hK K
   refine norm_ (a' := ?_) ?_ ?_
   rotate_left
   ·show Act.put _ (some 36) _ = _
    simp only [Act.put, List.setIfInBounds_toArray, List.set_cons_zero, List.set_cons_succ, i64_w, i32_w]
    rfl
   refine pure_ (i := 16) (N := some 4) (v := ?_) (a' := ?_) #[true,true,true,true,true,true,true,true,true,true,true,true,true,true,true,true,true,false] rfl rfl (any_of HT_.out (by kernel_rfl)) (fun _ _ _ h => h) (Or.inl ⟨by rfl, ?_⟩) ?_ ?_
   rotate_left;(intro w';go_simp;with_reducible rfl);rotate_left;(simp only [Act.put, List.setIfInBounds_toArray, List.set_cons_zero, List.set_cons_succ, i64_w, i32_w];rfl)
   refine pure_ (i := 17) (N := some 5) (v := ?_) (a' := ?_) #[true,true,true,true,true,true,true,true,true,true,true,true,true,true,true,true,true,true] rfl rfl (any_of HT_.out (by kernel_rfl)) (fun _ _ _ h => h) (Or.inl ⟨by rfl, ?_⟩) ?_ ?_
   rotate_left;(intro w';go_simp;with_reducible rfl);rotate_left;(simp only [Act.put, List.setIfInBounds_toArray, List.set_cons_zero, List.set_cons_succ, i64_w, i32_w];rfl)
   refine done_ (done_of HT_.out (by kernel_rfl)) ?_
   try go_wp2
   go_ret2
   exact ⟨by first | rfl | (simp [errW_none, errW_some] <;> rfl) | (simp [*, errW_none, errW_some] <;> rfl), by repeat (first | (with_reducible first | exact HB.out | apply below_alloc | apply pw_below_drewN | apply below_drew1 | refine below_set ?_ GE216.out) | exact HB.out)⟩
  ·rw [if_neg c5] at H
   have c5b0 : (t215 == 0) = false := beq_eq_false_iff_ne.mpr c5
   have c5b1 : (t215 != 0) = true := bne_iff_ne.mpr c5
   simp only [Option.some.injEq, Prod.mk.injEq] at H
   obtain ⟨rfl, rfl⟩ := H
   go_enter Tryd.func21, Tryd.ntmps21
   go_wp2_with (first | ((with_reducible refine gate_callee (f := 15) rfl ?_); refine goesL_ (some 14) rfl rfl Tryd.func15 (by kernel_rfl) rfl #[.string a0] rfl (by (try simp only [List.map_toArray, List.map_cons, List.map_nil]); first | done | rfl | (simp only [List.length_drop, List.length_take]; rfl)) ?_; (with_reducible refine (dominoref04_Get.calls k a0 t203 t204 t205 t206 t207 t208 t209 t210 t211 t212 t213 t214 t215 _ A4.out).mono ?_); rintro e w14 ⟨rfl, hb⟩; refine ⟨_, rfl, ?_⟩; have n0_ := Aside0.mk (below_step (by repeat (first | (with_reducible first | exact HB.out | apply below_alloc | apply pw_below_drewN | apply below_drew1) | exact HB.out)) hb); clear HB; have HB := n0_; clear n0_; (try clear hb); (try clear hb2); (try clear hk); (try clear hi)) | ((with_reducible refine gate_dst (N := 6) rfl ?_); refine box_event ?hg (N := 6) ?hd (cs := #[.bool false, .bool false, .bool false, .int .i64 0, .int .u32 0, .string (⟨#[]⟩ : ByteArray), .string (⟨#[]⟩ : ByteArray), .string (⟨#[]⟩ : ByteArray), .int .u64 0, .int .i64 0, .int .u64 0]) (t := 28) ?hr ?_; (case hd => rfl); (case hg => rfl); (case hr => first | (go_simp; done) | (go_simp; rfl)); intro gb216 hg w15 hbox hb; have n0_ := Aside0.mk (below_step (by repeat (first | (with_reducible first | exact HB.out | apply below_alloc | apply pw_below_drewN | apply below_drew1) | exact HB.out)) hb); have n1_ := Aside0.mk (hbox); have n2_ := Aside0.mk ((by rw [hg]; exact (below_size (by repeat (first | (with_reducible first | exact HB.out | apply below_alloc | apply pw_below_drewN | apply below_drew1) | exact HB.out))) : w.heap.size ≤ gb216)); have n3_ := Aside0.mk ((by rw [hg]; exact (below_size (by repeat (first | (with_reducible first | exact HB.out | apply below_alloc | apply pw_below_drewN | apply below_drew1) | exact HB.out))) : w.heap.size ≤ gb216)); clear HB; have HB := n0_; have BK216 := n1_; have GW216 := n2_; have GE216 := n3_; clear n0_ n1_ n2_ n3_; clear hb hbox hg; obtain ⟨hcz16_0, hcz16_1, hcz16_2, hcz16_3, hcz16_4, hcz16_5, hcz16_6, hcz16_7, hcz16_8, hcz16_9, hcz16_10⟩ := cs11_ BK216.out; have hfz16_0 := blk_frozen BK216.out 0; have hfz16_1 := blk_frozen BK216.out 1; have hfz16_2 := blk_frozen BK216.out 2; have hfz16_3 := blk_frozen BK216.out 3; have hfz16_4 := blk_frozen BK216.out 4; have hfz16_5 := blk_frozen BK216.out 5; have hfz16_6 := blk_frozen BK216.out 6; have hfz16_7 := blk_frozen BK216.out 7; have hfz16_8 := blk_frozen BK216.out 8; have hfz16_9 := blk_frozen BK216.out 9; have hfz16_10 := blk_frozen BK216.out 10))
   go_ret2
   exact ⟨by first | rfl | (simp [errW_none, errW_some] <;> rfl) | (simp [*, errW_none, errW_some] <;> rfl), by repeat (first | (with_reducible first | exact HB.out | apply below_alloc | apply pw_below_drewN | apply below_drew1 | refine below_set ?_ GE216.out) | exact HB.out)⟩
 ·rw [if_neg c3] at H
  have c3b0 : ((a1.size : Int) == 5) = false := beq_eq_false_iff_ne.mpr c3
  have c3b1 : ((a1.size : Int) != 5) = true := bne_iff_ne.mpr c3
  simp only [Option.some.injEq, Prod.mk.injEq] at H
  obtain ⟨rfl, rfl⟩ := H
  go_enter Tryd.func21, Tryd.ntmps21
  go_wp2
  go_ret2
  exact ⟨by first | rfl | (simp [errW_none, errW_some] <;> rfl) | (simp [*, errW_none, errW_some] <;> rfl), by repeat (first | (with_reducible first | exact HB.out | apply below_alloc | apply pw_below_drewN | apply below_drew1) | exact HB.out)⟩

/-! ### dominoref04_Place: function 17 -/
def dominoref04_Place.f (k : Nat) (a0 : ByteArray) : Option (Int × Int) := (dominoref04_ahead.f k a0).bind fun bt219 => (if bt219.2.2.2.2.2.2.2.2.2.2.2.2 = true then (some (wrap64 ((a0.size : Int) - (bt219.2.2.2.2.2.2.2.2.2.2.2.1.size : Int)), 0)) else (some (0, 40)))
theorem dominoref04_Place.mono : ∀ a0 k, LeO (dominoref04_Place.f k a0) (dominoref04_Place.f (k + 1) a0) := by
 intro a0 k
 unfold dominoref04_Place.f
 repeat' first
   | (with_reducible exact dominoref04_ahead.mono _ _)
   | (with_reducible exact LeO.refl _)
   | (with_reducible exact LeO.none _)
   | (with_reducible refine LeO.ite ?_ ?_)
   | (with_reducible refine LeO.bind ?_ (fun _ => ?_))
   | exact dominoref04_ahead.mono _ _
   | exact LeO.none _
   | refine LeO.ite ?_ ?_
   | refine LeO.bind ?_ (fun _ => ?_)
set_option maxHeartbeats 8000000 in
set_option maxRecDepth 100000 in
theorem dominoref04_Place.calls (k : Nat) (a0 : ByteArray) (r1 : Int) (r2 : Int) (w : World) (h : dominoref04_Place.f k a0 = some (r1, r2)) :
  Calls Tryd.prog 17 #[.string a0] w fun e w' => e = .returned (.tuple #[.int .i64 r1, .int .i64 r2]) ∧ Below w.heap.size w w' := by
 have hu28 := Tryd.underlying28
 have HB := Aside0.mk (Below.refl w.heap.size w)
 have H : ((dominoref04_ahead.f k a0).bind fun bt219 => (if bt219.2.2.2.2.2.2.2.2.2.2.2.2 = true then (some (wrap64 ((a0.size : Int) - (bt219.2.2.2.2.2.2.2.2.2.2.2.1.size : Int)), 0)) else (some (0, 40)))) = some (r1, r2) := h
 clear h
 replace H := Option.bind_eq_some_iff.mp H
 obtain ⟨⟨t219, t220, t221, t222, t223, t224, t225, t226, t227, t228, t229, t230, t231⟩, A20, H⟩ := H
 replace H : (if t231 = true then (some (wrap64 ((a0.size : Int) - (t230.size : Int)), 0)) else (some (0, 40))) = some (r1, r2) := H
 have A2 := Aside0.mk A20
 clear A20
 by_cases c3 : t231 = true
 ·subst c3
  have H1 : (some (wrap64 ((a0.size : Int) - (t230.size : Int)), 0)) = some (r1, r2) := by rw [if_pos rfl] at H; exact H
  clear H
  have H := H1
  clear H1
  simp only [Option.some.injEq, Prod.mk.injEq] at H
  obtain ⟨rfl, rfl⟩ := H
  go_enter Tryd.func17, Tryd.ntmps17
  go_wp2_with (first | ((with_reducible refine gate_callee (f := 35) rfl ?_); refine goesL_ (some 9) rfl rfl Tryd.func35 (by kernel_rfl) rfl #[.string a0] rfl (by (try simp only [List.map_toArray, List.map_cons, List.map_nil]); first | done | rfl | (simp only [List.length_drop, List.length_take]; rfl)) ?_; (with_reducible refine (dominoref04_ahead.calls k a0 t219 t220 t221 t222 t223 t224 t225 t226 t227 t228 t229 t230 true _ A2.out).mono ?_); rintro e w4 ⟨rfl, hb⟩; refine ⟨_, rfl, ?_⟩; have n0_ := Aside0.mk (below_step (by repeat (first | (with_reducible first | exact HB.out | apply below_alloc | apply pw_below_drewN | apply below_drew1) | exact HB.out)) hb); clear HB; have HB := n0_; clear n0_; (try clear hb); (try clear hb2); (try clear hk); (try clear hi)) | ((with_reducible refine gate_dst (N := 4) rfl ?_); refine box_event ?hg (N := 4) ?hd (cs := #[.bool false, .bool false, .bool false, .int .i64 0, .int .u32 0, .string (⟨#[]⟩ : ByteArray), .string (⟨#[]⟩ : ByteArray), .string (⟨#[]⟩ : ByteArray), .int .u64 0, .int .i64 0, .int .u64 0]) (t := 28) ?hr ?_; (case hd => rfl); (case hg => rfl); (case hr => first | (go_simp; done) | (go_simp; rfl)); intro gb232 hg w5 hbox hb; have n0_ := Aside0.mk (below_step (by repeat (first | (with_reducible first | exact HB.out | apply below_alloc | apply pw_below_drewN | apply below_drew1) | exact HB.out)) hb); have n1_ := Aside0.mk (hbox); have n2_ := Aside0.mk ((by rw [hg]; exact (below_size (by repeat (first | (with_reducible first | exact HB.out | apply below_alloc | apply pw_below_drewN | apply below_drew1) | exact HB.out))) : w.heap.size ≤ gb232)); have n3_ := Aside0.mk ((by rw [hg]; exact (below_size (by repeat (first | (with_reducible first | exact HB.out | apply below_alloc | apply pw_below_drewN | apply below_drew1) | exact HB.out))) : w.heap.size ≤ gb232)); clear HB; have HB := n0_; have BK232 := n1_; have GW232 := n2_; have GE232 := n3_; clear n0_ n1_ n2_ n3_; clear hb hbox hg; obtain ⟨hcz6_0, hcz6_1, hcz6_2, hcz6_3, hcz6_4, hcz6_5, hcz6_6, hcz6_7, hcz6_8, hcz6_9, hcz6_10⟩ := cs11_ BK232.out; have hfz6_0 := blk_frozen BK232.out 0; have hfz6_1 := blk_frozen BK232.out 1; have hfz6_2 := blk_frozen BK232.out 2; have hfz6_3 := blk_frozen BK232.out 3; have hfz6_4 := blk_frozen BK232.out 4; have hfz6_5 := blk_frozen BK232.out 5; have hfz6_6 := blk_frozen BK232.out 6; have hfz6_7 := blk_frozen BK232.out 7; have hfz6_8 := blk_frozen BK232.out 8; have hfz6_9 := blk_frozen BK232.out 9; have hfz6_10 := blk_frozen BK232.out 10))
  go_ret2
  exact ⟨by first | rfl | (simp [errW_none, errW_some] <;> rfl) | (simp [*, errW_none, errW_some] <;> rfl), by repeat (first | (with_reducible first | exact HB.out | apply below_alloc | apply pw_below_drewN | apply below_drew1 | refine below_set ?_ GE232.out) | exact HB.out)⟩
 ·replace c3 := Bool.eq_false_iff.mpr c3
  subst c3
  have H1 : (some (0, 40)) = some (r1, r2) := by rw [if_neg (show ¬ (false = true) by decide)] at H; exact H
  clear H
  have H := H1
  clear H1
  simp only [Option.some.injEq, Prod.mk.injEq] at H
  obtain ⟨rfl, rfl⟩ := H
  go_enter Tryd.func17, Tryd.ntmps17
  go_wp2_with (first | ((with_reducible refine gate_callee (f := 35) rfl ?_); refine goesL_ (some 9) rfl rfl Tryd.func35 (by kernel_rfl) rfl #[.string a0] rfl (by (try simp only [List.map_toArray, List.map_cons, List.map_nil]); first | done | rfl | (simp only [List.length_drop, List.length_take]; rfl)) ?_; (with_reducible refine (dominoref04_ahead.calls k a0 t219 t220 t221 t222 t223 t224 t225 t226 t227 t228 t229 t230 false _ A2.out).mono ?_); rintro e w7 ⟨rfl, hb⟩; refine ⟨_, rfl, ?_⟩; have n0_ := Aside0.mk (below_step (by repeat (first | (with_reducible first | exact HB.out | apply below_alloc | apply pw_below_drewN | apply below_drew1) | exact HB.out)) hb); clear HB; have HB := n0_; clear n0_; (try clear hb); (try clear hb2); (try clear hk); (try clear hi)) | ((with_reducible refine gate_dst (N := 4) rfl ?_); refine box_event ?hg (N := 4) ?hd (cs := #[.bool false, .bool false, .bool false, .int .i64 0, .int .u32 0, .string (⟨#[]⟩ : ByteArray), .string (⟨#[]⟩ : ByteArray), .string (⟨#[]⟩ : ByteArray), .int .u64 0, .int .i64 0, .int .u64 0]) (t := 28) ?hr ?_; (case hd => rfl); (case hg => rfl); (case hr => first | (go_simp; done) | (go_simp; rfl)); intro gb232 hg w8 hbox hb; have n0_ := Aside0.mk (below_step (by repeat (first | (with_reducible first | exact HB.out | apply below_alloc | apply pw_below_drewN | apply below_drew1) | exact HB.out)) hb); have n1_ := Aside0.mk (hbox); have n2_ := Aside0.mk ((by rw [hg]; exact (below_size (by repeat (first | (with_reducible first | exact HB.out | apply below_alloc | apply pw_below_drewN | apply below_drew1) | exact HB.out))) : w.heap.size ≤ gb232)); have n3_ := Aside0.mk ((by rw [hg]; exact (below_size (by repeat (first | (with_reducible first | exact HB.out | apply below_alloc | apply pw_below_drewN | apply below_drew1) | exact HB.out))) : w.heap.size ≤ gb232)); clear HB; have HB := n0_; have BK232 := n1_; have GW232 := n2_; have GE232 := n3_; clear n0_ n1_ n2_ n3_; clear hb hbox hg; obtain ⟨hcz9_0, hcz9_1, hcz9_2, hcz9_3, hcz9_4, hcz9_5, hcz9_6, hcz9_7, hcz9_8, hcz9_9, hcz9_10⟩ := cs11_ BK232.out; have hfz9_0 := blk_frozen BK232.out 0; have hfz9_1 := blk_frozen BK232.out 1; have hfz9_2 := blk_frozen BK232.out 2; have hfz9_3 := blk_frozen BK232.out 3; have hfz9_4 := blk_frozen BK232.out 4; have hfz9_5 := blk_frozen BK232.out 5; have hfz9_6 := blk_frozen BK232.out 6; have hfz9_7 := blk_frozen BK232.out 7; have hfz9_8 := blk_frozen BK232.out 8; have hfz9_9 := blk_frozen BK232.out 9; have hfz9_10 := blk_frozen BK232.out 10))
  go_ret2
  exact ⟨by first | rfl | (simp [errW_none, errW_some] <;> rfl) | (simp [*, errW_none, errW_some] <;> rfl), by repeat (first | (with_reducible first | exact HB.out | apply below_alloc | apply pw_below_drewN | apply below_drew1 | refine below_set ?_ GE232.out) | exact HB.out)⟩

/-! ### dominoref04_Unmask: function 23 -/
def dominoref04_Unmask.f (k : Nat) (a0 : ByteArray) (a1 : ByteArray) : Option (ByteArray × Int) := if (a1.size : Int) = 5 then ((dominoref04_Place.f k a0).bind fun bt233 => (if bt233.2 = 0 then ((dominoref04_first.f k a0 a1).bind fun t235 => (if (a0.size : Int) < (wrap64 (bt233.1 + (wrap64 (1 + (wrap64 (Int.tmod t235 4)))))) then (some ((⟨#[]⟩ : ByteArray), 40)) else ((dominoref04_laid.f k a0 a1 t235 bt233.1 (wrap64 (1 + (wrap64 (Int.tmod t235 4))))).bind fun t236 => ((dominoref04_Get.f k t236).bind fun bt237 => (if bt237.2.2.2.2.2.2.2.2.2.2.2.2 = 0 then (some (t236, 0)) else (some ((⟨#[]⟩ : ByteArray), 40))))))) else (some ((⟨#[]⟩ : ByteArray), bt233.2)))) else (some ((⟨#[]⟩ : ByteArray), 1))
theorem dominoref04_Unmask.mono : ∀ a0 a1 k, LeO (dominoref04_Unmask.f k a0 a1) (dominoref04_Unmask.f (k + 1) a0 a1) := by
 intro a0 a1 k
 unfold dominoref04_Unmask.f
 repeat' first
   | (with_reducible exact dominoref04_Get.mono _ _)
   | (with_reducible exact dominoref04_Place.mono _ _)
   | (with_reducible exact dominoref04_first.mono _ _ _)
   | (with_reducible exact dominoref04_laid.mono _ _ _ _ _ _)
   | (with_reducible exact LeO.refl _)
   | (with_reducible exact LeO.none _)
   | (with_reducible refine LeO.ite ?_ ?_)
   | (with_reducible refine LeO.bind ?_ (fun _ => ?_))
   | exact dominoref04_Get.mono _ _
   | exact dominoref04_Place.mono _ _
   | exact dominoref04_first.mono _ _ _
   | exact dominoref04_laid.mono _ _ _ _ _ _
   | exact LeO.none _
   | refine LeO.ite ?_ ?_
   | refine LeO.bind ?_ (fun _ => ?_)
set_option maxHeartbeats 8000000 in
set_option maxRecDepth 100000 in
theorem dominoref04_Unmask.calls (k : Nat) (a0 : ByteArray) (a1 : ByteArray) (r1 : ByteArray) (r2 : Int) (w : World) (h : dominoref04_Unmask.f k a0 a1 = some (r1, r2)) :
  Calls Tryd.prog 23 #[.string a0, .string a1] w fun e w' => e = .returned (.tuple #[.string r1, .int .i64 r2]) ∧ Below w.heap.size w w' := by
 have hu28 := Tryd.underlying28
 have HB := Aside0.mk (Below.refl w.heap.size w)
 have H : (if (a1.size : Int) = 5 then ((dominoref04_Place.f k a0).bind fun bt233 => (if bt233.2 = 0 then ((dominoref04_first.f k a0 a1).bind fun t235 => (if (a0.size : Int) < (wrap64 (bt233.1 + (wrap64 (1 + (wrap64 (Int.tmod t235 4)))))) then (some ((⟨#[]⟩ : ByteArray), 40)) else ((dominoref04_laid.f k a0 a1 t235 bt233.1 (wrap64 (1 + (wrap64 (Int.tmod t235 4))))).bind fun t236 => ((dominoref04_Get.f k t236).bind fun bt237 => (if bt237.2.2.2.2.2.2.2.2.2.2.2.2 = 0 then (some (t236, 0)) else (some ((⟨#[]⟩ : ByteArray), 40))))))) else (some ((⟨#[]⟩ : ByteArray), bt233.2)))) else (some ((⟨#[]⟩ : ByteArray), 1))) = some (r1, r2) := h
 clear h
 by_cases c3 : (a1.size : Int) = 5
 ·rw [if_pos c3] at H
  have c3b0 : ((a1.size : Int) == 5) = true := beq_iff_eq.mpr c3
  have c3b1 : ((a1.size : Int) != 5) = false := bne_eq_false_iff_eq.mpr c3
  clear c3
  replace H := Option.bind_eq_some_iff.mp H
  obtain ⟨⟨t233, t234⟩, A40, H⟩ := H
  replace H : (if t234 = 0 then ((dominoref04_first.f k a0 a1).bind fun t235 => (if (a0.size : Int) < (wrap64 (t233 + (wrap64 (1 + (wrap64 (Int.tmod t235 4)))))) then (some ((⟨#[]⟩ : ByteArray), 40)) else ((dominoref04_laid.f k a0 a1 t235 t233 (wrap64 (1 + (wrap64 (Int.tmod t235 4))))).bind fun t236 => ((dominoref04_Get.f k t236).bind fun bt237 => (if bt237.2.2.2.2.2.2.2.2.2.2.2.2 = 0 then (some (t236, 0)) else (some ((⟨#[]⟩ : ByteArray), 40))))))) else (some ((⟨#[]⟩ : ByteArray), t234))) = some (r1, r2) := H
  have A4 := Aside0.mk A40
  clear A40
  by_cases c5 : t234 = 0
  ·rw [if_pos c5] at H
   have c5b0 : (t234 == 0) = true := beq_iff_eq.mpr c5
   have c5b1 : (t234 != 0) = false := bne_eq_false_iff_eq.mpr c5
   clear c5
   replace H := Option.bind_eq_some_iff.mp H
   obtain ⟨t235, A60, H⟩ := H
   replace H : (if (a0.size : Int) < (wrap64 (t233 + (wrap64 (1 + (wrap64 (Int.tmod t235 4)))))) then (some ((⟨#[]⟩ : ByteArray), 40)) else ((dominoref04_laid.f k a0 a1 t235 t233 (wrap64 (1 + (wrap64 (Int.tmod t235 4))))).bind fun t236 => ((dominoref04_Get.f k t236).bind fun bt237 => (if bt237.2.2.2.2.2.2.2.2.2.2.2.2 = 0 then (some (t236, 0)) else (some ((⟨#[]⟩ : ByteArray), 40)))))) = some (r1, r2) := H
   have A6 := Aside0.mk A60
   clear A60
   by_cases c7 : (a0.size : Int) < (wrap64 (t233 + (wrap64 (1 + (wrap64 (Int.tmod t235 4))))))
   ·rw [if_pos c7] at H
    have c7b0 : decide ((a0.size : Int) < (wrap64 (t233 + (wrap64 (1 + (wrap64 (Int.tmod t235 4))))))) = true := decide_eq_true c7
    clear c7
    simp only [Option.some.injEq, Prod.mk.injEq] at H
    obtain ⟨rfl, rfl⟩ := H
    go_enter Tryd.func23, Tryd.ntmps23
    go_wp2_with (first | ((with_reducible refine gate_callee (f := 17) rfl ?_); refine goesL_ (some 19) rfl rfl Tryd.func17 (by kernel_rfl) rfl #[.string a0] rfl (by (try simp only [List.map_toArray, List.map_cons, List.map_nil]); first | done | rfl | (simp only [List.length_drop, List.length_take]; rfl)) ?_; (with_reducible refine (dominoref04_Place.calls k a0 t233 t234 _ A4.out).mono ?_); rintro e w8 ⟨rfl, hb⟩; refine ⟨_, rfl, ?_⟩; have n0_ := Aside0.mk (below_step (by repeat (first | (with_reducible first | exact HB.out | apply below_alloc | apply pw_below_drewN | apply below_drew1) | exact HB.out)) hb); clear HB; have HB := n0_; clear n0_; (try clear hb); (try clear hb2); (try clear hk); (try clear hi)) | ((with_reducible refine gate_callee (f := 42) rfl ?_); refine goesL_ (some 27) rfl rfl Tryd.func42 (by kernel_rfl) rfl #[.string a0, .string a1] rfl (by (try simp only [List.map_toArray, List.map_cons, List.map_nil]); first | done | rfl | (simp only [List.length_drop, List.length_take]; rfl)) ?_; (with_reducible refine (dominoref04_first.calls k a0 a1 t235 _ A6.out).mono ?_); rintro e w' ⟨rfl, ⟨nd, rfl⟩⟩; refine ⟨_, rfl, ?_⟩))
    go_ret2
    exact ⟨by first | rfl | (simp [errW_none, errW_some] <;> rfl) | (simp [*, errW_none, errW_some] <;> rfl), by repeat (first | (with_reducible first | exact HB.out | apply below_alloc | apply pw_below_drewN | apply below_drew1) | exact HB.out)⟩
   ·rw [if_neg c7] at H
    have c7b0 : decide ((a0.size : Int) < (wrap64 (t233 + (wrap64 (1 + (wrap64 (Int.tmod t235 4))))))) = false := decide_eq_false c7
    clear c7
    replace H := Option.bind_eq_some_iff.mp H
    obtain ⟨t236, A90, H⟩ := H
    replace H : ((dominoref04_Get.f k t236).bind fun bt237 => (if bt237.2.2.2.2.2.2.2.2.2.2.2.2 = 0 then (some (t236, 0)) else (some ((⟨#[]⟩ : ByteArray), 40)))) = some (r1, r2) := H
    have A9 := Aside0.mk A90
    clear A90
    replace H := Option.bind_eq_some_iff.mp H
    obtain ⟨⟨t237, t238, t239, t240, t241, t242, t243, t244, t245, t246, t247, t248, t249⟩, A100, H⟩ := H
    replace H : (if t249 = 0 then (some (t236, 0)) else (some ((⟨#[]⟩ : ByteArray), 40))) = some (r1, r2) := H
    have A10 := Aside0.mk A100
    clear A100
    by_cases c11 : t249 = 0
    ·rw [if_pos c11] at H
     have c11b0 : (t249 == 0) = true := beq_iff_eq.mpr c11
     have c11b1 : (t249 != 0) = false := bne_eq_false_iff_eq.mpr c11
     clear c11
     simp only [Option.some.injEq, Prod.mk.injEq] at H
     obtain ⟨rfl, rfl⟩ := H
     go_enter Tryd.func23, Tryd.ntmps23
     go_wp2_with (first | ((with_reducible refine gate_callee (f := 17) rfl ?_); refine goesL_ (some 19) rfl rfl Tryd.func17 (by kernel_rfl) rfl #[.string a0] rfl (by (try simp only [List.map_toArray, List.map_cons, List.map_nil]); first | done | rfl | (simp only [List.length_drop, List.length_take]; rfl)) ?_; (with_reducible refine (dominoref04_Place.calls k a0 t233 t234 _ A4.out).mono ?_); rintro e w12 ⟨rfl, hb⟩; refine ⟨_, rfl, ?_⟩; have n0_ := Aside0.mk (below_step (by repeat (first | (with_reducible first | exact HB.out | apply below_alloc | apply pw_below_drewN | apply below_drew1) | exact HB.out)) hb); clear HB; have HB := n0_; clear n0_; (try clear hb); (try clear hb2); (try clear hk); (try clear hi)) | ((with_reducible refine gate_callee (f := 42) rfl ?_); refine goesL_ (some 27) rfl rfl Tryd.func42 (by kernel_rfl) rfl #[.string a0, .string a1] rfl (by (try simp only [List.map_toArray, List.map_cons, List.map_nil]); first | done | rfl | (simp only [List.length_drop, List.length_take]; rfl)) ?_; (with_reducible refine (dominoref04_first.calls k a0 a1 t235 _ A6.out).mono ?_); rintro e w' ⟨rfl, ⟨nd, rfl⟩⟩; refine ⟨_, rfl, ?_⟩; (try (rw [drewN_self w12]; generalize hq_ : World.drewN w12 _ = w12; have n0_ : Aside0 (Below w.heap.size w w12) := ⟨by rw [← hq_]; exact (by repeat (first | (with_reducible first | exact HB.out | apply below_alloc | apply pw_below_drewN | apply below_drew1) | exact HB.out))⟩; clear HB hq_; have HB := n0_; clear n0_))) | ((with_reducible refine gate_callee (f := 41) rfl ?_); refine goesL_ (some 43) rfl rfl Tryd.func41 (by kernel_rfl) rfl #[.string a0, .string a1, .int .u8 t235, .int .i64 t233, .int .i64 (wrap64 (1 + (wrap64 (Int.tmod t235 4))))] rfl (by (try simp only [List.map_toArray, List.map_cons, List.map_nil]); first | done | rfl | (simp only [List.length_drop, List.length_take]; rfl)) ?_; (with_reducible refine (dominoref04_laid.calls k a0 a1 t235 t233 (wrap64 (1 + (wrap64 (Int.tmod t235 4)))) t236 _ A9.out).mono ?_); rintro e w13 ⟨rfl, hb⟩; refine ⟨_, rfl, ?_⟩; have n0_ := Aside0.mk (below_step (by repeat (first | (with_reducible first | exact HB.out | apply below_alloc | apply pw_below_drewN | apply below_drew1) | exact HB.out)) hb); clear HB; have HB := n0_; clear n0_; (try clear hb); (try clear hb2); (try clear hk); (try clear hi)) | ((with_reducible refine gate_callee (f := 15) rfl ?_); refine goesL_ (some 46) rfl rfl Tryd.func15 (by kernel_rfl) rfl #[.string t236] rfl (by (try simp only [List.map_toArray, List.map_cons, List.map_nil]); first | done | rfl | (simp only [List.length_drop, List.length_take]; rfl)) ?_; (with_reducible refine (dominoref04_Get.calls k t236 t237 t238 t239 t240 t241 t242 t243 t244 t245 t246 t247 t248 t249 _ A10.out).mono ?_); rintro e w14 ⟨rfl, hb⟩; refine ⟨_, rfl, ?_⟩; have n0_ := Aside0.mk (below_step (by repeat (first | (with_reducible first | exact HB.out | apply below_alloc | apply pw_below_drewN | apply below_drew1) | exact HB.out)) hb); clear HB; have HB := n0_; clear n0_; (try clear hb); (try clear hb2); (try clear hk); (try clear hi)) | ((with_reducible refine gate_dst (N := 11) rfl ?_); refine box_event ?hg (N := 11) ?hd (cs := #[.bool false, .bool false, .bool false, .int .i64 0, .int .u32 0, .string (⟨#[]⟩ : ByteArray), .string (⟨#[]⟩ : ByteArray), .string (⟨#[]⟩ : ByteArray), .int .u64 0, .int .i64 0, .int .u64 0]) (t := 28) ?hr ?_; (case hd => rfl); (case hg => rfl); (case hr => first | (go_simp; done) | (go_simp; rfl)); intro gb250 hg w15 hbox hb; have n0_ := Aside0.mk (below_step (by repeat (first | (with_reducible first | exact HB.out | apply below_alloc | apply pw_below_drewN | apply below_drew1) | exact HB.out)) hb); have n1_ := Aside0.mk (hbox); have n2_ := Aside0.mk ((by rw [hg]; exact (below_size (by repeat (first | (with_reducible first | exact HB.out | apply below_alloc | apply pw_below_drewN | apply below_drew1) | exact HB.out))) : w.heap.size ≤ gb250)); have n3_ := Aside0.mk ((by rw [hg]; exact (below_size (by repeat (first | (with_reducible first | exact HB.out | apply below_alloc | apply pw_below_drewN | apply below_drew1) | exact HB.out))) : w.heap.size ≤ gb250)); clear HB; have HB := n0_; have BK250 := n1_; have GW250 := n2_; have GE250 := n3_; clear n0_ n1_ n2_ n3_; clear hb hbox hg; obtain ⟨hcz16_0, hcz16_1, hcz16_2, hcz16_3, hcz16_4, hcz16_5, hcz16_6, hcz16_7, hcz16_8, hcz16_9, hcz16_10⟩ := cs11_ BK250.out; have hfz16_0 := blk_frozen BK250.out 0; have hfz16_1 := blk_frozen BK250.out 1; have hfz16_2 := blk_frozen BK250.out 2; have hfz16_3 := blk_frozen BK250.out 3; have hfz16_4 := blk_frozen BK250.out 4; have hfz16_5 := blk_frozen BK250.out 5; have hfz16_6 := blk_frozen BK250.out 6; have hfz16_7 := blk_frozen BK250.out 7; have hfz16_8 := blk_frozen BK250.out 8; have hfz16_9 := blk_frozen BK250.out 9; have hfz16_10 := blk_frozen BK250.out 10))
     go_ret2
     exact ⟨by first | rfl | (simp [errW_none, errW_some] <;> rfl) | (simp [*, errW_none, errW_some] <;> rfl), by repeat (first | (with_reducible first | exact HB.out | apply below_alloc | apply pw_below_drewN | apply below_drew1 | refine below_set ?_ GE250.out) | exact HB.out)⟩
    ·rw [if_neg c11] at H
     have c11b0 : (t249 == 0) = false := beq_eq_false_iff_ne.mpr c11
     have c11b1 : (t249 != 0) = true := bne_iff_ne.mpr c11
     simp only [Option.some.injEq, Prod.mk.injEq] at H
     obtain ⟨rfl, rfl⟩ := H
     go_enter Tryd.func23, Tryd.ntmps23
     go_wp2_with (first | ((with_reducible refine gate_callee (f := 17) rfl ?_); refine goesL_ (some 19) rfl rfl Tryd.func17 (by kernel_rfl) rfl #[.string a0] rfl (by (try simp only [List.map_toArray, List.map_cons, List.map_nil]); first | done | rfl | (simp only [List.length_drop, List.length_take]; rfl)) ?_; (with_reducible refine (dominoref04_Place.calls k a0 t233 t234 _ A4.out).mono ?_); rintro e w17 ⟨rfl, hb⟩; refine ⟨_, rfl, ?_⟩; have n0_ := Aside0.mk (below_step (by repeat (first | (with_reducible first | exact HB.out | apply below_alloc | apply pw_below_drewN | apply below_drew1) | exact HB.out)) hb); clear HB; have HB := n0_; clear n0_; (try clear hb); (try clear hb2); (try clear hk); (try clear hi)) | ((with_reducible refine gate_callee (f := 42) rfl ?_); refine goesL_ (some 27) rfl rfl Tryd.func42 (by kernel_rfl) rfl #[.string a0, .string a1] rfl (by (try simp only [List.map_toArray, List.map_cons, List.map_nil]); first | done | rfl | (simp only [List.length_drop, List.length_take]; rfl)) ?_; (with_reducible refine (dominoref04_first.calls k a0 a1 t235 _ A6.out).mono ?_); rintro e w' ⟨rfl, ⟨nd, rfl⟩⟩; refine ⟨_, rfl, ?_⟩; (try (rw [drewN_self w17]; generalize hq_ : World.drewN w17 _ = w17; have n0_ : Aside0 (Below w.heap.size w w17) := ⟨by rw [← hq_]; exact (by repeat (first | (with_reducible first | exact HB.out | apply below_alloc | apply pw_below_drewN | apply below_drew1) | exact HB.out))⟩; clear HB hq_; have HB := n0_; clear n0_))) | ((with_reducible refine gate_callee (f := 41) rfl ?_); refine goesL_ (some 43) rfl rfl Tryd.func41 (by kernel_rfl) rfl #[.string a0, .string a1, .int .u8 t235, .int .i64 t233, .int .i64 (wrap64 (1 + (wrap64 (Int.tmod t235 4))))] rfl (by (try simp only [List.map_toArray, List.map_cons, List.map_nil]); first | done | rfl | (simp only [List.length_drop, List.length_take]; rfl)) ?_; (with_reducible refine (dominoref04_laid.calls k a0 a1 t235 t233 (wrap64 (1 + (wrap64 (Int.tmod t235 4)))) t236 _ A9.out).mono ?_); rintro e w18 ⟨rfl, hb⟩; refine ⟨_, rfl, ?_⟩; have n0_ := Aside0.mk (below_step (by repeat (first | (with_reducible first | exact HB.out | apply below_alloc | apply pw_below_drewN | apply below_drew1) | exact HB.out)) hb); clear HB; have HB := n0_; clear n0_; (try clear hb); (try clear hb2); (try clear hk); (try clear hi)) | ((with_reducible refine gate_callee (f := 15) rfl ?_); refine goesL_ (some 46) rfl rfl Tryd.func15 (by kernel_rfl) rfl #[.string t236] rfl (by (try simp only [List.map_toArray, List.map_cons, List.map_nil]); first | done | rfl | (simp only [List.length_drop, List.length_take]; rfl)) ?_; (with_reducible refine (dominoref04_Get.calls k t236 t237 t238 t239 t240 t241 t242 t243 t244 t245 t246 t247 t248 t249 _ A10.out).mono ?_); rintro e w19 ⟨rfl, hb⟩; refine ⟨_, rfl, ?_⟩; have n0_ := Aside0.mk (below_step (by repeat (first | (with_reducible first | exact HB.out | apply below_alloc | apply pw_below_drewN | apply below_drew1) | exact HB.out)) hb); clear HB; have HB := n0_; clear n0_; (try clear hb); (try clear hb2); (try clear hk); (try clear hi)) | ((with_reducible refine gate_dst (N := 11) rfl ?_); refine box_event ?hg (N := 11) ?hd (cs := #[.bool false, .bool false, .bool false, .int .i64 0, .int .u32 0, .string (⟨#[]⟩ : ByteArray), .string (⟨#[]⟩ : ByteArray), .string (⟨#[]⟩ : ByteArray), .int .u64 0, .int .i64 0, .int .u64 0]) (t := 28) ?hr ?_; (case hd => rfl); (case hg => rfl); (case hr => first | (go_simp; done) | (go_simp; rfl)); intro gb250 hg w20 hbox hb; have n0_ := Aside0.mk (below_step (by repeat (first | (with_reducible first | exact HB.out | apply below_alloc | apply pw_below_drewN | apply below_drew1) | exact HB.out)) hb); have n1_ := Aside0.mk (hbox); have n2_ := Aside0.mk ((by rw [hg]; exact (below_size (by repeat (first | (with_reducible first | exact HB.out | apply below_alloc | apply pw_below_drewN | apply below_drew1) | exact HB.out))) : w.heap.size ≤ gb250)); have n3_ := Aside0.mk ((by rw [hg]; exact (below_size (by repeat (first | (with_reducible first | exact HB.out | apply below_alloc | apply pw_below_drewN | apply below_drew1) | exact HB.out))) : w.heap.size ≤ gb250)); clear HB; have HB := n0_; have BK250 := n1_; have GW250 := n2_; have GE250 := n3_; clear n0_ n1_ n2_ n3_; clear hb hbox hg; obtain ⟨hcz21_0, hcz21_1, hcz21_2, hcz21_3, hcz21_4, hcz21_5, hcz21_6, hcz21_7, hcz21_8, hcz21_9, hcz21_10⟩ := cs11_ BK250.out; have hfz21_0 := blk_frozen BK250.out 0; have hfz21_1 := blk_frozen BK250.out 1; have hfz21_2 := blk_frozen BK250.out 2; have hfz21_3 := blk_frozen BK250.out 3; have hfz21_4 := blk_frozen BK250.out 4; have hfz21_5 := blk_frozen BK250.out 5; have hfz21_6 := blk_frozen BK250.out 6; have hfz21_7 := blk_frozen BK250.out 7; have hfz21_8 := blk_frozen BK250.out 8; have hfz21_9 := blk_frozen BK250.out 9; have hfz21_10 := blk_frozen BK250.out 10))
     go_ret2
     exact ⟨by first | rfl | (simp [errW_none, errW_some] <;> rfl) | (simp [*, errW_none, errW_some] <;> rfl), by repeat (first | (with_reducible first | exact HB.out | apply below_alloc | apply pw_below_drewN | apply below_drew1 | refine below_set ?_ GE250.out) | exact HB.out)⟩
  ·rw [if_neg c5] at H
   have c5b0 : (t234 == 0) = false := beq_eq_false_iff_ne.mpr c5
   have c5b1 : (t234 != 0) = true := bne_iff_ne.mpr c5
   simp only [Option.some.injEq, Prod.mk.injEq] at H
   obtain ⟨rfl, rfl⟩ := H
   go_enter Tryd.func23, Tryd.ntmps23
   go_wp2_with (first | ((with_reducible refine gate_callee (f := 17) rfl ?_); refine goesL_ (some 19) rfl rfl Tryd.func17 (by kernel_rfl) rfl #[.string a0] rfl (by (try simp only [List.map_toArray, List.map_cons, List.map_nil]); first | done | rfl | (simp only [List.length_drop, List.length_take]; rfl)) ?_; (with_reducible refine (dominoref04_Place.calls k a0 t233 t234 _ A4.out).mono ?_); rintro e w22 ⟨rfl, hb⟩; refine ⟨_, rfl, ?_⟩; have n0_ := Aside0.mk (below_step (by repeat (first | (with_reducible first | exact HB.out | apply below_alloc | apply pw_below_drewN | apply below_drew1) | exact HB.out)) hb); clear HB; have HB := n0_; clear n0_; (try clear hb); (try clear hb2); (try clear hk); (try clear hi)))
   go_ret2
   exact ⟨by first | rfl | (simp [errW_none, errW_some] <;> rfl) | (simp [*, errW_none, errW_some] <;> rfl), by repeat (first | (with_reducible first | exact HB.out | apply below_alloc | apply pw_below_drewN | apply below_drew1) | exact HB.out)⟩
 ·rw [if_neg c3] at H
  have c3b0 : ((a1.size : Int) == 5) = false := beq_eq_false_iff_ne.mpr c3
  have c3b1 : ((a1.size : Int) != 5) = true := bne_iff_ne.mpr c3
  simp only [Option.some.injEq, Prod.mk.injEq] at H
  obtain ⟨rfl, rfl⟩ := H
  go_enter Tryd.func23, Tryd.ntmps23
  go_wp2
  go_ret2
  exact ⟨by first | rfl | (simp [errW_none, errW_some] <;> rfl) | (simp [*, errW_none, errW_some] <;> rfl), by repeat (first | (with_reducible first | exact HB.out | apply below_alloc | apply pw_below_drewN | apply below_drew1) | exact HB.out)⟩

end Go.Proofs.YtjpafikgbnloaaaDoor.PHdm
