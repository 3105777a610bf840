-- printed for this claim by a program of the claim (wip/tools/pp.py over the kit's print)
import Derived.Test.YtmkpphcnafklbaaPDgxx0
import Derived.Test.YtmkpphcnafklbaaPDgxx2
import Derived.Test.YtmkpphcnafklbaaPDgxx3
namespace Go.Proofs.Ytmkpphcnafklbaa.PDgx
open Go.RowKit Go.Proofs.YtmkpphcnafklbaaW.PrintWords Go.Proofs.YtmkpphcnafklbaaW.PrintLast Go.Proofs.YtmkpphcnafklbaaW.PrintMore
attribute [local go_sem] max2_int min2_int max_two min_two max_three min_three max_four min_four   -- for this text's walks alone
set_option linter.unusedVariables false
set_option linter.unusedSimpArgs false

attribute [local go_sem] isSome_setCell_
/-! ### digest_Hex: function 15 -/
def hxBA : ByteArray := ⟨#[48, 49, 50, 51, 52, 53, 54, 55, 56, 57, 97, 98, 99, 100, 101, 102]⟩
def hexL (s : ByteArray) : Nat → Nat → ByteArray → ByteArray
 | 0, _, acc => acc
 | r + 1, i, acc => hexL s r (i + 1) (acc ++ strOfNums [bt hxBA (bt s (i : Int) / 16)] ++ strOfNums [bt hxBA (Go.bits .and .u8 (bt s (i : Int)) 15)])
def hexF (s : ByteArray) : ByteArray := hexL s s.size 0 ⟨#[]⟩
def digest_Hex.f (a0 : ByteArray) : Option (ByteArray) := if a0.size ≤ 1099511627776 then some (hexF a0) else none
theorem and15 : ∀ n : Fin 256, Go.bits .and .u8 (n.val : Int) 15 = ((n.val % 16 : Nat) : Int) := by decide +kernel
theorem hx_at (n : Nat) : (∀ h : n < (⟨#[48, 49, 50, 51, 52, 53, 54, 55, 56, 57, 97, 98, 99, 100, 101, 102]⟩ : ByteArray).size, (((⟨#[48, 49, 50, 51, 52, 53, 54, 55, 56, 57, 97, 98, 99, 100, 101, 102]⟩ : ByteArray)[n]'h).toNat : Int) = bt hxBA (n : Int)) := fun h => by
 have := bt_at hxBA (n : Int) (by rw [Int.toNat_natCast]; exact h)
 rw [← this]
 rfl
theorem bytes_getD (s : ByteArray) (j : Nat) (h : j < s.size) : (bytesOf s).getD j 0 = bt s (j : Int) := by
 unfold bytesOf bt
 rw [Int.toNat_natCast, dif_pos h]
 simp [List.getD_eq_getElem?_getD, h]
 rfl
theorem builder_T : BldrT 53 0 2 := ⟨by decide, by kernel_rfl, by decide⟩
set_option maxHeartbeats 2000000 in
set_option maxRecDepth 100000 in
theorem digest_Hex.calls (a0 : ByteArray) (r : ByteArray) (w : World) (h : digest_Hex.f a0 = some r) :
  Calls Try.prog 15 #[.string a0] w fun e w' => e = .returned (.string r) ∧ Below w.heap.size w w' := by
 unfold digest_Hex.f at h
 by_cases hg : a0.size ≤ 1099511627776
 rotate_left
 ·rw [if_neg hg] at h
  simp at h
 rw [if_pos hg] at h
 obtain rfl := Option.some.inj h
 clear h
 obtain ⟨wA, hwA⟩ : ∃ W, W = w.alloc (.cells #[.pointer none, .slice none 0 0] 53) := ⟨_, rfl⟩
 have hzA : wA.heap.size = w.heap.size + 1 := by rw [hwA]; simp
 have hcv := Lib.run_convert_string_bytes (P := Try.prog) wA 9 39 5 a0 Try.underlying9 Try.underlying39 Try.underlying5
 have HR := Aside0.mk (BRow.new wA a0)
 rw [hwA] at hcv
 have hq : (w.alloc (.cells #[.pointer none, .slice none 0 0] 53)).heap.size = w.heap.size + 1 := by simp
 rw [hq] at hcv
 go_enter Try.func15, Try.ntmps15
 go_wp2
 clear hcv hq
 obtain ⟨w1, hw1⟩ : ∃ W, W = Lib.bytesWorld (w.alloc (.cells #[.pointer none, .slice none 0 0] 53)) 5 a0 := ⟨_, rfl⟩
 rw [← hw1]
 generalize grownCap _ _ _ _ = cap0
 obtain ⟨gb, hgb⟩ : ∃ g, g = w.heap.size := ⟨_, rfl⟩
 obtain ⟨gs, hgs⟩ : ∃ g, g = w.heap.size + 1 := ⟨_, rfl⟩
 obtain ⟨Br, hBr⟩ : ∃ g, g = w1.heap.size := ⟨_, rfl⟩
 have hz1 : Br = w.heap.size + 2 := by rw [hBr, hw1, Lib.bytesWorld_size]; simp
 have hR1 : BRow gs (bytesOf a0) wA w1 := by
  have := HR.out
  rw [hzA, ← hgs] at this
  rw [hw1, ← hwA]
  exact this
 have hb1 : w1.heap[gb]? = some (.cells #[.pointer none, .slice none 0 0] 53 (0, 0)) := by
  rw [hR1.below.block gb (by omega), hwA, hgb]
  exact heap_alloc_new _ _
 have HB0 : Aside0 (Bldr Br gb 0 53 [.pointer none, .slice none 0 0] ⟨#[]⟩ w1) := ⟨hb1, Or.inl rfl, .slice none 0 0, rfl, own_nil w1 Br _ _, by simp [Value.ownBlock]⟩
 have HW : Aside0 (Below w.heap.size w w1) := ⟨(((Below.refl w.heap.size w).alloc (Nat.le_refl _) _).trans (by rw [← hwA]; exact hR1.below.mono (by omega)))⟩
 have HC : Aside0 (∀ j, j < a0.size → w1.cell? ⟨gs, j, none⟩ = some (.int .u8 (bt a0 (j : Int)))) := ⟨fun j hj => by
  rw [hR1.cell j (by rw [bytesOf_length]; exact hj)]
  rw [bytes_getD a0 j hj]⟩
 have HZ := Aside0.mk (And.intro hgb (And.intro hgs (And.intro hBr hz1)))
 have hgs2 : gs = gb + 1 := by omega
 rw [← hgb, ← hgs2]
 clear hgs2 hw1 hR1 hb1 hwA hzA hgb hgs hBr hz1 HR
 have HF : Aside0 (hexL a0 a0.size 0 ⟨#[]⟩ = hexF a0) := ⟨rfl⟩
 go_loopg [5, 9] a0.size (fun r s5 s9 wr => ∃ (i : Nat) (acc : ByteArray) (p v : Value), i + r = a0.size ∧ s9 = .int .i64 (i : Int) ∧ acc.size ≤ 2 * i ∧ Aside0 (hexL a0 r i acc = hexF a0) ∧ Aside0 (Bldr Br gb 0 53 [p, v] acc wr) ∧ Aside0 (KeptG Br gb w1 wr))
 case atStart => exact ⟨0, _, _, _, by omega, rfl, by decide, HF, HB0, ⟨KeptG.refl _ _ _⟩⟩
 case round =>
  obtain ⟨i, acc, p, v, hi, rfl, hacc, HX, HB, HK⟩ := hrel
  cases gk with
  | zero =>
   have hi2 : a0.size ≤ i := by omega
   have hsz : Br ≤ wr.heap.size := by rw [HZ.out.2.2.1]; exact HK.out.size
   go_wp2_with fail
   refine (bldr_string Br gb 0 53 _ acc wr HB.out hsz).mono ?_
   rintro e w3 ⟨rfl, hb⟩
   have HB3 := Aside0.mk hb
   clear hb hsz
   go_wp2
   go_ret
   obtain ⟨e1, e2, e3, e4⟩ := HZ.out
   have hx := HX.out
   rw [hexL] at hx
   refine ⟨by rw [← hx]; rfl, HW.out.trans ((HK.out.ofBelow HB3.out).below (by omega) (by omega))⟩
  | succ r =>
   have hin : i < a0.size := by omega
   have hii : (i : Int) < (a0.size : Int) := by omega
   obtain ⟨e1, e2, e3, e4⟩ := HZ.out
   have hsz : Br ≤ wr.heap.size := by rw [e3]; exact HK.out.size
   have hc : wr.cell? ⟨gs, i, none⟩ = some (.int .u8 (bt a0 (i : Int))) := (HK.out.cell ⟨gs, i, none⟩ (by simp only; omega) (by simp only; omega)).trans (HC.out i hin)
   clear e1 e2 e3 e4
   have hx := HX.out
   rw [hexL] at hx
   obtain ⟨n, hn, hn2⟩ : ∃ n : Nat, bt a0 (i : Int) = (n : Int) ∧ n < 256 := by
    have := bt_range a0 (i : Int)
    exact ⟨(bt a0 (i : Int)).toNat, by omega, by omega⟩
   rw [hn] at hc hx
   have h15 := and15 ⟨n, hn2⟩
   simp only at h15
   rw [h15] at hx
   have t1 : ((n : Int) / 16).toNat = n / 16 := by omega
   have t2 : (n : Int) / 16 < 16 := by omega
   have t3 : 0 ≤ (n : Int) / 16 := by omega
   have t4 : n / 16 < 16 := by omega
   have x1 := hx_at (n / 16)
   have x2 := hx_at (n % 16)
   rw [show ((n / 16 : Nat) : Int) = (n : Int) / 16 from by omega] at x1
   rw [show ((n % 16 : Nat) : Int) = (n : Int) % 16 from by omega] at x2
   have r1 := bt_range hxBA ((n : Int) / 16)
   have r2 := bt_range hxBA ((n : Int) % 16)
   rw [show ((n % 16 : Nat) : Int) = (n : Int) % 16 from by omega] at hx h15
   have t5 : ((n : Int) % 16).toNat = n % 16 := by omega
   have t6 : (n : Int) % 16 < 16 := by omega
   have t7 : 0 ≤ (n : Int) % 16 := by omega
   have t8 : n % 16 < 16 := by omega
   have HX2 := Aside0.mk hx
   have HN := Aside0.mk hn
   clear hx HX hn
   go_wp2_with fail
   refine (bldr_byte Br gb 0 53 [p, v] acc _ wr builder_T HB.out (by omega) hsz r1).mono ?_
   rintro e w3 ⟨rfl, ⟨v3, hb3⟩, hk3⟩
   have HB3 := Aside0.mk hb3
   have HK3 := Aside0.mk (HK.out.trans hk3)
   have hsz3 : Br ≤ w3.heap.size := Nat.le_trans hsz hk3.size
   have hs3 : (acc ++ strOfNums [bt hxBA ((n : Int) / 16)]).size = acc.size + 1 := by rw [ByteArray.size_append]; rfl
   have HS3 := Aside0.mk hs3
   clear hb3 hk3 hs3
   go_wp2_with fail
   refine (bldr_byte Br gb 0 53 [.pointer (some ⟨gb, 0, none⟩), v3] _ _ w3 builder_T HB3.out (by rw [HS3.out]; omega) hsz3 r2).mono ?_
   rintro e w4 ⟨rfl, ⟨v4, hb4⟩, hk4⟩
   have HB4 := Aside0.mk hb4
   have HK4 := Aside0.mk (HK3.out.trans hk4)
   clear hb4 hk4
   go_wp2
   go_roundg r
   case measure => omega
   case rel =>
    refine ⟨i + 1, _, _, _, by omega, by go_num, ?_, HX2, HB4, HK4⟩
    rw [ByteArray.size_append, HS3.out]
    show acc.size + 1 + 1 ≤ _
    omega

/-! ### dominolaw07_shown: function 9 -/
def dominolaw07_shown.f  : Option (Bool) := (digest_Sum.f (([(⟨#[97]⟩ : ByteArray), (⟨#[98, 99]⟩ : ByteArray)] : List ByteArray))).bind fun t111 => ((digest_Hex.f t111).bind fun t112 => (if t112.toList = ([98, 97, 55, 56, 49, 54, 98, 102, 56, 102, 48, 49, 99, 102, 101, 97, 52, 49, 52, 49, 52, 48, 100, 101, 53, 100, 97, 101, 50, 50, 50, 51, 98, 48, 48, 51, 54, 49, 97, 51, 57, 54, 49, 55, 55, 97, 57, 99, 98, 52, 49, 48, 102, 102, 54, 49, 102, 50, 48, 48, 49, 53, 97, 100] : List UInt8) then ((digest_Xor.f (⟨#[97, 98]⟩ : ByteArray) (⟨#[98]⟩ : ByteArray)).bind fun t113 => (some (t113.toList == ([3] : List UInt8)))) else (none)))
set_option maxHeartbeats 8000000 in
set_option maxRecDepth 100000 in
theorem dominolaw07_shown.calls  (r : Bool) (w : World) (h : dominolaw07_shown.f  = some r) :
  Calls Try.prog 9 #[] w fun e w' => e = .returned (.bool r) ∧ Below w.heap.size w w' := by
 have HB := Aside0.mk (Below.refl w.heap.size w)
 have H : ((digest_Sum.f (([(⟨#[97]⟩ : ByteArray), (⟨#[98, 99]⟩ : ByteArray)] : List ByteArray))).bind fun t111 => ((digest_Hex.f t111).bind fun t112 => (if t112.toList = ([98, 97, 55, 56, 49, 54, 98, 102, 56, 102, 48, 49, 99, 102, 101, 97, 52, 49, 52, 49, 52, 48, 100, 101, 53, 100, 97, 101, 50, 50, 50, 51, 98, 48, 48, 51, 54, 49, 97, 51, 57, 54, 49, 55, 55, 97, 57, 99, 98, 52, 49, 48, 102, 102, 54, 49, 102, 50, 48, 48, 49, 53, 97, 100] : List UInt8) then ((digest_Xor.f (⟨#[97, 98]⟩ : ByteArray) (⟨#[98]⟩ : ByteArray)).bind fun t113 => (some (t113.toList == ([3] : List UInt8)))) else (none)))) = some r := h
 clear h
 obtain ⟨y108, hy108⟩ : ∃ y_ : List ByteArray, y_ = (([(⟨#[97]⟩ : ByteArray), (⟨#[98, 99]⟩ : ByteArray)] : List ByteArray)) := ⟨_, rfl⟩
 replace H : ((digest_Sum.f y108).bind fun t111 => ((digest_Hex.f t111).bind fun t112 => (if t112.toList = ([98, 97, 55, 56, 49, 54, 98, 102, 56, 102, 48, 49, 99, 102, 101, 97, 52, 49, 52, 49, 52, 48, 100, 101, 53, 100, 97, 101, 50, 50, 50, 51, 98, 48, 48, 51, 54, 49, 97, 51, 57, 54, 49, 55, 55, 97, 57, 99, 98, 52, 49, 48, 102, 102, 54, 49, 102, 50, 48, 48, 49, 53, 97, 100] : List UInt8) then ((digest_Xor.f (⟨#[97, 98]⟩ : ByteArray) (⟨#[98]⟩ : ByteArray)).bind fun t113 => (some (t113.toList == ([3] : List UInt8)))) else (none)))) = some r := by first | (rw [hy108]; with_reducible exact H) | (have H2_ := (Option.bind_some _ _).symm.trans H; rw [hy108]; with_reducible exact H2_) | (have H2_ := (Option.bind_some _ _).symm.trans H; with_reducible exact H2_) | with_reducible exact H | (rw [hy108]; exact H) | exact H
 have Ny108 := Aside0.mk hy108
 clear hy108
 replace H := Option.bind_eq_some_iff.mp H
 obtain ⟨t111, A10, H⟩ := H
 replace H : ((digest_Hex.f t111).bind fun t112 => (if t112.toList = ([98, 97, 55, 56, 49, 54, 98, 102, 56, 102, 48, 49, 99, 102, 101, 97, 52, 49, 52, 49, 52, 48, 100, 101, 53, 100, 97, 101, 50, 50, 50, 51, 98, 48, 48, 51, 54, 49, 97, 51, 57, 54, 49, 55, 55, 97, 57, 99, 98, 52, 49, 48, 102, 102, 54, 49, 102, 50, 48, 48, 49, 53, 97, 100] : List UInt8) then ((digest_Xor.f (⟨#[97, 98]⟩ : ByteArray) (⟨#[98]⟩ : ByteArray)).bind fun t113 => (some (t113.toList == ([3] : List UInt8)))) else (none))) = some r := H
 have A1 := Aside0.mk A10
 clear A10
 replace H := Option.bind_eq_some_iff.mp H
 obtain ⟨t112, A20, H⟩ := H
 replace H : (if t112.toList = ([98, 97, 55, 56, 49, 54, 98, 102, 56, 102, 48, 49, 99, 102, 101, 97, 52, 49, 52, 49, 52, 48, 100, 101, 53, 100, 97, 101, 50, 50, 50, 51, 98, 48, 48, 51, 54, 49, 97, 51, 57, 54, 49, 55, 55, 97, 57, 99, 98, 52, 49, 48, 102, 102, 54, 49, 102, 50, 48, 48, 49, 53, 97, 100] : List UInt8) then ((digest_Xor.f (⟨#[97, 98]⟩ : ByteArray) (⟨#[98]⟩ : ByteArray)).bind fun t113 => (some (t113.toList == ([3] : List UInt8)))) else (none)) = some r := H
 have A2 := Aside0.mk A20
 clear A20
 by_cases c3 : t112.toList = ([98, 97, 55, 56, 49, 54, 98, 102, 56, 102, 48, 49, 99, 102, 101, 97, 52, 49, 52, 49, 52, 48, 100, 101, 53, 100, 97, 101, 50, 50, 50, 51, 98, 48, 48, 51, 54, 49, 97, 51, 57, 54, 49, 55, 55, 97, 57, 99, 98, 52, 49, 48, 102, 102, 54, 49, 102, 50, 48, 48, 49, 53, 97, 100] : List UInt8)
 ·rw [if_pos c3] at H
  have c3b0 : (t112.toList == ([98, 97, 55, 56, 49, 54, 98, 102, 56, 102, 48, 49, 99, 102, 101, 97, 52, 49, 52, 49, 52, 48, 100, 101, 53, 100, 97, 101, 50, 50, 50, 51, 98, 48, 48, 51, 54, 49, 97, 51, 57, 54, 49, 55, 55, 97, 57, 99, 98, 52, 49, 48, 102, 102, 54, 49, 102, 50, 48, 48, 49, 53, 97, 100] : List UInt8)) = true := beq_iff_eq.mpr c3
  have c3b1 : (t112.toList != ([98, 97, 55, 56, 49, 54, 98, 102, 56, 102, 48, 49, 99, 102, 101, 97, 52, 49, 52, 49, 52, 48, 100, 101, 53, 100, 97, 101, 50, 50, 50, 51, 98, 48, 48, 51, 54, 49, 97, 51, 57, 54, 49, 55, 55, 97, 57, 99, 98, 52, 49, 48, 102, 102, 54, 49, 102, 50, 48, 48, 49, 53, 97, 100] : List UInt8)) = false := bne_eq_false_iff_eq.mpr c3
  clear c3
  replace H := Option.bind_eq_some_iff.mp H
  obtain ⟨t113, A40, H⟩ := H
  replace H : (some (t113.toList == ([3] : List UInt8))) = some r := H
  have A4 := Aside0.mk A40
  clear A40
  obtain rfl := Option.some.inj H
  go_enter Try.func9, Try.ntmps9
  go_wp2_with (first | ((with_reducible refine gate_dst (N := 1) rfl ?_); refine Kd.R_lit Kd.string _ 9 ?hg (N := 1) ?hd (xs := ([(⟨#[97]⟩ : ByteArray), (⟨#[98, 99]⟩ : ByteArray)] : List ByteArray)) (inner := [.string (⟨#[97]⟩ : ByteArray), .string (⟨#[98, 99]⟩ : ByteArray)]) (ok := fun _ => True) (okp := fun _ => True) ?hr ?hp (fun _ hk => hk) trivial (Below.refl _ _) (Nat.le_refl _) (by simp) ?_; (case hd => rfl); (case hg => rfl); (case hr => first | (go_simp; done) | (go_simp; rfl)); (case hp => exact (Reps.one (show Kd.M Kd.string _ _ _ (⟨#[97]⟩ : ByteArray) [.string (⟨#[97]⟩ : ByteArray)] from rfl) (Reps.one (show Kd.M Kd.string _ _ _ (⟨#[98, 99]⟩ : ByteArray) [.string (⟨#[98, 99]⟩ : ByteArray)] from rfl) (Reps.none _ _)))); intro v109 w5 ho6 hb hg_ hnew_; clear hg_ hnew_; (first | rw [← Ny108.out] at ho6 | (simp only [Int.reduceToNat] at ho6; rw [← Ny108.out] at ho6)); have n0_ := Aside0.mk (Kd.R_lower ho6 (below_size (by repeat (first | (with_reducible first | exact HB.out | apply below_alloc | apply pw_below_drewN | apply below_drew1) | exact HB.out)))); have n1_ := Aside0.mk (below_step (by repeat (first | (with_reducible first | exact HB.out | apply below_alloc | apply pw_below_drewN | apply below_drew1) | exact HB.out)) hb); clear HB; have HO110 := n0_; have HB := n1_; clear n0_ n1_; clear hb ho6; obtain ⟨Ao7, co7, eo7⟩ := Kd.R_slice HO110.out; subst eo7) | ((with_reducible refine gate_callee (f := 10) rfl ?_); refine goesL_ (some 2) rfl rfl Try.func10 (by kernel_rfl) rfl #[.slice Ao7 y108.length co7] rfl (by (try simp only [List.map_toArray, List.map_cons, List.map_nil]); first | done | rfl | (simp only [List.length_drop, List.length_take]; rfl)) ?_; (with_reducible refine (digest_Sum.calls _ _ y108 t111 _ ?side1 ?side2 A1.out).mono ?_); (case side1 => repeat (first | exact (Kd.R_reads' HO110.out).2.2 | (with_reducible refine Kd.C_alloc ?_ _) | (with_reducible refine Kd.C_drewN ?_ _) | (with_reducible refine Kd.C_drew ?_))); (case side2 => exact (Kd.R_reads' HO110.out).2.1); rintro e w8 ⟨rfl, hb⟩; refine ⟨_, rfl, ?_⟩; have n0_ := Aside0.mk (Kd.R_below (by (with_reducible repeat (first | apply Kd.R_alloc | apply Kd.R_drewN | apply Kd.R_drew)); exact HO110.out) hb); have n1_ := Aside0.mk (below_step (by repeat (first | (with_reducible first | exact HB.out | apply below_alloc | apply pw_below_drewN | apply below_drew1) | exact HB.out)) hb); clear HO110; clear HB; have HO110 := n0_; have HB := n1_; clear n0_ n1_; (try clear hb); (try clear hb2); (try clear hk); (try clear hi)) | ((with_reducible refine gate_callee (f := 15) rfl ?_); refine goesL_ (some 3) rfl rfl Try.func15 (by kernel_rfl) rfl #[.string t111] rfl (by (try simp only [List.map_toArray, List.map_cons, List.map_nil]); first | done | rfl | (simp only [List.length_drop, List.length_take]; rfl)) ?_; (with_reducible refine (digest_Hex.calls t111 t112 _ A2.out).mono ?_); rintro e w9 ⟨rfl, hb⟩; refine ⟨_, rfl, ?_⟩; have n0_ := Aside0.mk (Kd.R_below (by (with_reducible repeat (first | apply Kd.R_alloc | apply Kd.R_drewN | apply Kd.R_drew)); exact HO110.out) hb); have n1_ := Aside0.mk (below_step (by repeat (first | (with_reducible first | exact HB.out | apply below_alloc | apply pw_below_drewN | apply below_drew1) | exact HB.out)) hb); clear HO110; clear HB; have HO110 := n0_; have HB := n1_; clear n0_ n1_; (try clear hb); (try clear hb2); (try clear hk); (try clear hi)) | (go_at_call 13; (with_reducible refine (digest_Xor.calls (⟨#[97, 98]⟩ : ByteArray) (⟨#[98]⟩ : ByteArray) t113 _ A4.out).mono ?_); rintro e w10 ⟨rfl, hb⟩; have n0_ := Aside0.mk (Kd.R_below (by (with_reducible repeat (first | apply Kd.R_alloc | apply Kd.R_drewN | apply Kd.R_drew)); exact HO110.out) hb); have n1_ := Aside0.mk (below_step (by repeat (first | (with_reducible first | exact HB.out | apply below_alloc | apply pw_below_drewN | apply below_drew1) | exact HB.out)) hb); clear HO110; clear HB; have HO110 := n0_; have HB := n1_; clear n0_ n1_; (try clear hb); (try clear hb2); (try clear hk); (try clear hi)))
  go_ret
  exact ⟨by first | rfl | (simp [errW_none, errW_some] <;> rfl) | (simp [*, errW_none, errW_some] <;> rfl), by repeat (first | (with_reducible first | exact HB.out | apply below_alloc | apply pw_below_drewN | apply below_drew1) | exact HB.out)⟩
 ·rw [if_neg c3] at H
  exact absurd H (by simp)

/-! ### dominoref07_power: function 25 -/
def dominoref07_power.l0 : Nat → Int → Int → Int → Option (Int)
 | 0, _, _, _ => none
 | k + 1, x0, x3, x4 => if x4 < x0 then (dominoref07_power.l0 k x0 (IntKind.u64.wrap (x3 * 2)) (wrap64 (x4 + 1))) else (some x3)
def dominoref07_power.f (k : Nat) (a0 : Int) : Option (Int) := dominoref07_power.l0 k a0 1 0
theorem dominoref07_power.mono_l : ∀ k, (∀ y0 y1 y2, LeO (dominoref07_power.l0 k y0 y1 y2) (dominoref07_power.l0 (k + 1) y0 y1 y2))
 | 0 => fun _ _ _ r h => by simp [dominoref07_power.l0] at h
 | k + 1 => by
  have ih0 := dominoref07_power.mono_l k
  ·intro y0 y1 y2
   unfold dominoref07_power.l0
   repeat' first
   | (with_reducible exact ih0 _ _ _)
   | (with_reducible exact LeO.refl _)
   | (with_reducible exact LeO.none _)
   | (with_reducible refine LeO.ite ?_ ?_)
   | (with_reducible refine LeO.bind ?_ (fun _ => ?_))
   | exact ih0 _ _ _
   | exact LeO.none _
   | refine LeO.ite ?_ ?_
   | refine LeO.bind ?_ (fun _ => ?_)
theorem dominoref07_power.mono : ∀ a0 k, LeO (dominoref07_power.f k a0) (dominoref07_power.f (k + 1) a0) := by
 intro a0 k
 have ih0 := dominoref07_power.mono_l k
 unfold dominoref07_power.f
 repeat' first
   | (with_reducible exact ih0 _ _ _)
   | (with_reducible exact LeO.refl _)
   | (with_reducible exact LeO.none _)
   | (with_reducible refine LeO.ite ?_ ?_)
   | (with_reducible refine LeO.bind ?_ (fun _ => ?_))
   | exact ih0 _ _ _
   | exact LeO.none _
   | refine LeO.ite ?_ ?_
   | refine LeO.bind ?_ (fun _ => ?_)
set_option maxHeartbeats 8000000 in
set_option maxRecDepth 100000 in
theorem dominoref07_power.calls (k : Nat) (a0 : Int) (r : Int) (w : World) (h : dominoref07_power.f k a0 = some r) :
  Calls Try.prog 25 #[.int .i64 a0] w fun e w' => e = .returned (.int .u64 r) ∧ Drawn0 w w' := by
 have H : (dominoref07_power.l0 k a0 1 0) = some r := h
 clear h
 have H' := Aside0.mk H
 clear H
 go_enter Try.func25, Try.ntmps25
 go_wp2
 go_loopg [3, 4] k (fun kq v3 v4 w' => ∃ (x3_1 : Int) (x4_1 : Int), v3 = .int .u64 x3_1 ∧ v4 = .int .i64 x4_1 ∧ Aside0 (dominoref07_power.l0 kq a0 x3_1 x4_1 = some r) ∧ Aside0 (kq ≤ k) ∧ Drawn0 w w')
 case atStart => exact ⟨(1), (0), (by first | rfl | (simp; done) | (simp [*]; done)), (by first | rfl | (simp; done) | (simp [*]; done)), H', ⟨Nat.le_refl _⟩, by repeat (first | exact Drawn0.refl _ | apply Drawn0.step)⟩
 case round =>
  clear H'
  obtain ⟨x3_1, x4_1, rfl, rfl, HA, HK1, ⟨m1, rfl⟩⟩ := hrel
  cases gk with
  | zero => exact absurd HA.out (by simp [dominoref07_power.l0])
  | succ k1 =>
   have H := HA.out
   clear HA
   simp only [dominoref07_power.l0] at H
   by_cases c2 : x4_1 < a0
   ·rw [if_pos c2] at H
    have c2b0 : decide (x4_1 < a0) = true := decide_eq_true c2
    clear c2
    have H' := Aside0.mk H
    clear H
    go_wp2
    go_roundg k1
    case measure => have := HK1.out; omega
    case rel => exact ⟨(IntKind.u64.wrap (x3_1 * 2)), (wrap64 (x4_1 + 1)), (by first | rfl | (simp; done) | (simp [*]; done)), (by first | rfl | (simp; done) | (simp [*]; done)), H', ⟨by have := HK1.out; omega⟩, by repeat (first | exact Drawn0.refl _ | apply Drawn0.step)⟩
   ·rw [if_neg c2] at H
    have c2b0 : decide (x4_1 < a0) = false := decide_eq_false c2
    clear c2
    obtain rfl := Option.some.inj H
    go_wp2
    go_ret
    exact ⟨by first | rfl | (simp; done) | (simp [*]; done), by repeat (first | exact Drawn0.refl _ | apply Drawn0.step)⟩

-- NOT PRINTED: function 23 (dominoref07_filled)

-- NOT PRINTED: function 38 (dominoref07_constants)

/-! ### dominoref07_turn: function 39 -/
def dominoref07_turn.f (k : Nat) (a0 : Int) (a1 : Int) : Option (Int) := (dominoref07_power.f k a1).bind fun t114 => (if t114 = 0 then (none) else ((dominoref07_power.f k (wrap64 (32 - a1))).bind fun t115 => (some (IntKind.u64.wrap ((IntKind.u64.wrap (Int.tdiv a0 t114)) + (IntKind.u64.wrap ((Int.tmod a0 t114) * t115)))))))
theorem dominoref07_turn.mono : ∀ a0 a1 k, LeO (dominoref07_turn.f k a0 a1) (dominoref07_turn.f (k + 1) a0 a1) := by
 intro a0 a1 k
 unfold dominoref07_turn.f
 repeat' first
   | (with_reducible exact dominoref07_power.mono _ _)
   | (with_reducible exact LeO.refl _)
   | (with_reducible exact LeO.none _)
   | (with_reducible refine LeO.ite ?_ ?_)
   | (with_reducible refine LeO.bind ?_ (fun _ => ?_))
   | exact dominoref07_power.mono _ _
   | exact LeO.none _
   | refine LeO.ite ?_ ?_
   | refine LeO.bind ?_ (fun _ => ?_)
set_option maxHeartbeats 8000000 in
set_option maxRecDepth 100000 in
theorem dominoref07_turn.calls (k : Nat) (a0 : Int) (a1 : Int) (r : Int) (w : World) (h : dominoref07_turn.f k a0 a1 = some r) :
  Calls Try.prog 39 #[.int .u64 a0, .int .i64 a1] w fun e w' => e = .returned (.int .u64 r) ∧ Drawn0 w w' := by
 have H : ((dominoref07_power.f k a1).bind fun t114 => (if t114 = 0 then (none) else ((dominoref07_power.f k (wrap64 (32 - a1))).bind fun t115 => (some (IntKind.u64.wrap ((IntKind.u64.wrap (Int.tdiv a0 t114)) + (IntKind.u64.wrap ((Int.tmod a0 t114) * t115)))))))) = some r := h
 clear h
 replace H := Option.bind_eq_some_iff.mp H
 obtain ⟨t114, A30, H⟩ := H
 replace H : (if t114 = 0 then (none) else ((dominoref07_power.f k (wrap64 (32 - a1))).bind fun t115 => (some (IntKind.u64.wrap ((IntKind.u64.wrap (Int.tdiv a0 t114)) + (IntKind.u64.wrap ((Int.tmod a0 t114) * t115))))))) = some r := H
 have A3 := Aside0.mk A30
 clear A30
 by_cases c4 : t114 = 0
 ·rw [if_pos c4] at H
  exact absurd H (by simp)
 ·rw [if_neg c4] at H
  have c4b0 : (t114 == 0) = false := beq_eq_false_iff_ne.mpr c4
  have c4b1 : (t114 != 0) = true := bne_iff_ne.mpr c4
  replace H := Option.bind_eq_some_iff.mp H
  obtain ⟨t115, A50, H⟩ := H
  replace H : (some (IntKind.u64.wrap ((IntKind.u64.wrap (Int.tdiv a0 t114)) + (IntKind.u64.wrap ((Int.tmod a0 t114) * t115))))) = some r := H
  have A5 := Aside0.mk A50
  clear A50
  obtain rfl := Option.some.inj H
  go_enter Try.func39, Try.ntmps39
  go_wp2_with (first | (go_at_call 25; (with_reducible refine (dominoref07_power.calls k a1 t114 _ A3.out).mono ?_); rintro e w' ⟨rfl, ⟨nd, rfl⟩⟩; (try first | exact ⟨rfl, _, World.drewN_drewN _ _ _⟩ | exact ⟨rfl, _, Eq.trans (World.drewN_drewN _ _ _) (congrArg (World.drewN _) (Nat.add_assoc _ _ _))⟩)) | (go_at_call 25; (with_reducible refine (dominoref07_power.calls k a1 t114 _ A3.out).mono ?_); rintro e w' ⟨rfl, ⟨nd, rfl⟩⟩; (try first | exact ⟨rfl, _, World.drewN_drewN _ _ _⟩ | exact ⟨rfl, _, Eq.trans (World.drewN_drewN _ _ _) (congrArg (World.drewN _) (Nat.add_assoc _ _ _))⟩)) | (go_at_call 25; (with_reducible refine (dominoref07_power.calls k (wrap64 (32 - a1)) t115 _ A5.out).mono ?_); rintro e w' ⟨rfl, ⟨nd, rfl⟩⟩; (try first | exact ⟨rfl, _, World.drewN_drewN _ _ _⟩ | exact ⟨rfl, _, Eq.trans (World.drewN_drewN _ _ _) (congrArg (World.drewN _) (Nat.add_assoc _ _ _))⟩)))
  repeat (go_quiet (first | (go_at_call 25; (with_reducible refine (dominoref07_power.calls k a1 t114 _ A3.out).mono ?_); rintro e w' ⟨rfl, ⟨nd, rfl⟩⟩; (try first | exact ⟨rfl, _, World.drewN_drewN _ _ _⟩ | exact ⟨rfl, _, Eq.trans (World.drewN_drewN _ _ _) (congrArg (World.drewN _) (Nat.add_assoc _ _ _))⟩)) | (go_at_call 25; (with_reducible refine (dominoref07_power.calls k a1 t114 _ A3.out).mono ?_); rintro e w' ⟨rfl, ⟨nd, rfl⟩⟩; (try first | exact ⟨rfl, _, World.drewN_drewN _ _ _⟩ | exact ⟨rfl, _, Eq.trans (World.drewN_drewN _ _ _) (congrArg (World.drewN _) (Nat.add_assoc _ _ _))⟩)) | (go_at_call 25; (with_reducible refine (dominoref07_power.calls k (wrap64 (32 - a1)) t115 _ A5.out).mono ?_); rintro e w' ⟨rfl, ⟨nd, rfl⟩⟩; (try first | exact ⟨rfl, _, World.drewN_drewN _ _ _⟩ | exact ⟨rfl, _, Eq.trans (World.drewN_drewN _ _ _) (congrArg (World.drewN _) (Nat.add_assoc _ _ _))⟩))); try go_wp2_with (first | (go_at_call 25; (with_reducible refine (dominoref07_power.calls k a1 t114 _ A3.out).mono ?_); rintro e w' ⟨rfl, ⟨nd, rfl⟩⟩; (try first | exact ⟨rfl, _, World.drewN_drewN _ _ _⟩ | exact ⟨rfl, _, Eq.trans (World.drewN_drewN _ _ _) (congrArg (World.drewN _) (Nat.add_assoc _ _ _))⟩)) | (go_at_call 25; (with_reducible refine (dominoref07_power.calls k a1 t114 _ A3.out).mono ?_); rintro e w' ⟨rfl, ⟨nd, rfl⟩⟩; (try first | exact ⟨rfl, _, World.drewN_drewN _ _ _⟩ | exact ⟨rfl, _, Eq.trans (World.drewN_drewN _ _ _) (congrArg (World.drewN _) (Nat.add_assoc _ _ _))⟩)) | (go_at_call 25; (with_reducible refine (dominoref07_power.calls k (wrap64 (32 - a1)) t115 _ A5.out).mono ?_); rintro e w' ⟨rfl, ⟨nd, rfl⟩⟩; (try first | exact ⟨rfl, _, World.drewN_drewN _ _ _⟩ | exact ⟨rfl, _, Eq.trans (World.drewN_drewN _ _ _) (congrArg (World.drewN _) (Nat.add_assoc _ _ _))⟩))))
  go_ret
  exact ⟨by first | rfl | (simp; done) | (simp [*]; done), by repeat (first | exact Drawn0.refl _ | apply Drawn0.step)⟩

-- NOT PRINTED: function 24 (dominoref07_block)

/-! ### the document's sum: constants, one block -/
def refK : List Int := [1116352408, 1899447441, 3049323471, 3921009573, 961987163, 1508970993, 2453635748, 2870763221, 3624381080, 310598401, 607225278, 1426881987, 1925078388, 2162078206, 2614888103, 3248222580, 3835390401, 4022224774, 264347078, 604807628, 770255983, 1249150122, 1555081692, 1996064986, 2554220882, 2821834349, 2952996808, 3210313671, 3336571891, 3584528711, 113926993, 338241895, 666307205, 773529912, 1294757372, 1396182291, 1695183700, 1986661051, 2177026350, 2456956037, 2730485921, 2820302411, 3259730800, 3345764771, 3516065817, 3600352804, 4094571909, 275423344, 430227734, 506948616, 659060556, 883997877, 958139571, 1322822218, 1537002063, 1747873779, 1955562222, 2024104815, 2227730452, 2361852424, 2428436474, 2756734187, 3204031479, 3329325298]
theorem refK_one : (nums .u64 refK).toArray.all (·.oneCell') = true := by
 rw [Array.all_eq_true_iff_forall_mem]
 intro x hx
 simp only [nums, List.mem_toArray, List.mem_map] at hx
 obtain ⟨j, _, rfl⟩ := hx
 rfl
theorem refK_size : (nums .u64 refK).toArray.size = 64 := by rw [List.size_toArray]; rfl
theorem refK_info : (Try.prog.info? 69).map (·.size) = some (nums .u64 refK).toArray.size := by
 rw [refK_size]; kernel_rfl
set_option maxHeartbeats 2000000 in
set_option maxRecDepth 100000 in
theorem constants_calls (w : World) :
  Calls Try.prog 38 #[] w fun e w' => e = .returned (.agg (nums .u64 refK).toArray) ∧ Below w.heap.size w w' := by
 go_enter Try.func38, Try.ntmps38
 have HA : Aside0 (∀ z : Array Value, (w.alloc (.cells z 69)).heap[w.heap.size]? = some (.cells z 69 (0, 0))) := ⟨fun z => heap_alloc_new _ _⟩
 go_wp2_with ((with_reducible refine gate_store (t := 69) (p := 0) rfl ?_); refine wpList_store_row rfl 69 (.tmp 0) (.tmp 1) rfl w.heap.size (nums .u64 refK).toArray rfl rfl 69 _ (HA.out _) refK_info (by rw [refK_size]; rfl) refK_one ?_)
 refine bodyPost_ret (results_cell_row rfl _ _ w.heap.size 69 (nums .u64 refK).toArray (0, 0) _ rfl (setRow_heap _ _ _ _ _ _ (HA.out _)) Try.underlying69 rfl refK_info) rfl ?_
 exact ⟨rfl, below_setRow_ ((Below.refl _ _).alloc (Nat.le_refl _) _) (Nat.le_refl _) _⟩

def tn (x : Int) (m : Nat) : Int := IntKind.u64.wrap (IntKind.u64.wrap (Int.tdiv x (2 ^ m)) + IntKind.u64.wrap (Int.tmod x (2 ^ m) * 2 ^ (32 - m)))
theorem pow_some : ∀ m : Fin 33, dominoref07_power.f 40 (m.val : Int) = some (2 ^ m.val) := by decide +kernel
theorem tn_some (x : Int) (m : Nat) (h : m ≤ 32) : dominoref07_turn.f 40 x (m : Int) = some (tn x m) := by
 unfold dominoref07_turn.f
 rw [show (m : Int) = ((⟨m, by omega⟩ : Fin 33).val : Int) from rfl, pow_some, Option.bind_some]
 have e : wrap64 (32 - ((⟨m, by omega⟩ : Fin 33).val : Int)) = ((⟨32 - m, by omega⟩ : Fin 33).val : Int) := by
  show wrap64 (32 - (m : Int)) = ((32 - m : Nat) : Int)
  unfold wrap64
  omega
 have hp : (2 : Int) ^ m ≠ 0 := Int.ne_of_gt (Int.pow_pos (by decide))
 rw [if_neg hp, e, pow_some, Option.bind_some]
 rfl
theorem turn_c (x : Int) (m : Nat) (n : Int) (hn : n = (m : Int)) (h : m ≤ 32) (w : World) : Calls Try.prog 39 #[.int .u64 x, .int .i64 n] w fun e w' => e = .returned (.int .u64 (tn x m)) ∧ Drawn0 w w' := by
 subst hn
 exact dominoref07_turn.calls 40 x m _ w (tn_some x m h)
def rNext (l : List Int) (k : Nat) : Int :=
 Int.tmod (IntKind.u64.wrap (IntKind.u64.wrap (IntKind.u64.wrap (l.getD (k - 16) 0 + l.getD (k - 7) 0) + Go.bits .xor .u64 (Go.bits .xor .u64 (tn (l.getD (k - 15) 0) 7) (tn (l.getD (k - 15) 0) 18)) (IntKind.u64.wrap (Int.tdiv (l.getD (k - 15) 0) 8))) + Go.bits .xor .u64 (Go.bits .xor .u64 (tn (l.getD (k - 2) 0) 17) (tn (l.getD (k - 2) 0) 19)) (IntKind.u64.wrap (Int.tdiv (l.getD (k - 2) 0) 1024)))) 4294967296
theorem zeros_one : (nums .u64 (List.replicate 64 0)).toArray.all (·.oneCell') = true := by decide +kernel
theorem zeros_size : (nums .u64 (List.replicate 64 0)).toArray.size = 64 := rfl
theorem zeros_info : (Try.prog.info? 69).map (·.size) = some (nums .u64 (List.replicate 64 0)).toArray.size := by
 rw [zeros_size]; kernel_rfl
def rLoad (s : ByteArray) (k : Nat) (x : Int) : Nat → Int
 | 0 => x
 | n + 1 => IntKind.u64.wrap (IntKind.u64.wrap (rLoad s k x n * 256) + bt s (4 * (k : Int) + (n : Int)))
def rwF (s : ByteArray) : Nat → List Int
 | 0 => List.replicate 64 0
 | k + 1 => (rwF s k).set k (if k < 16 then rLoad s k ((rwF s k).getD k 0) 4 else rNext (rwF s k) k)
theorem rwF_length (s : ByteArray) (k : Nat) : (rwF s k).length = 64 := by
 induction k with
 | zero => simp [rwF]
 | succ k ih => simp [rwF, ih]
theorem set_getD_ (l : List Int) (k : Nat) : l.set k (l.getD k 0) = l := by
 apply List.ext_getElem?
 intro i
 rw [List.getElem?_set]
 split
 ·rename_i e; subst e
  split
  ·rw [List.getD_eq_getElem?_getD]
   simp [*]
  ·rename_i h2; simp [List.getElem?_eq_none (Nat.le_of_not_lt h2)]
 ·rfl
/-- What lies in the blocks of the document's block function. -/
structure RC (gh gr gk gw : Nat) (v : S8) (l : List Int) (w W : World) : Prop where
 o1 : gh < gr
 o2 : gr < gk
 o3 : gk < gw
 h0 : gh = w.heap.size
 hh : W.heap[gh]? = some (.cells (nums .u64 v.list).toArray 48 (0, 0))
 hr : W.heap[gr]? = some (.cells (nums .u64 (List.replicate 8 0)).toArray 48 (0, 0))
 hk : W.heap[gk]? = some (.cells (nums .u64 refK).toArray 69 (0, 0))
 hw : W.heap[gw]? = some (.cells (nums .u64 l).toArray 69 (0, 0))
 below : Below w.heap.size w W
theorem RC.step {gh gr gk gw : Nat} {v : S8} {l : List Int} {w W W' : World} (h : RC gh gr gk gw v l w W) (hb : Below W.heap.size W W') : RC gh gr gk gw v l w W' :=
 ⟨h.o1, h.o2, h.o3, h.h0, blk_below h.hh hb, blk_below h.hr hb, blk_below h.hk hb, blk_below h.hw hb, h.below.trans (hb.mono h.below.size)⟩
theorem RC.alloc {gh gr gk gw : Nat} {v : S8} {l : List Int} {w W : World} (h : RC gh gr gk gw v l w W) (o : Obj) : RC gh gr gk gw v l w (W.alloc o) := h.step ((Below.refl _ _).alloc (Nat.le_refl _) o)
theorem RC.drewN {gh gr gk gw : Nat} {v : S8} {l : List Int} {w W : World} (h : RC gh gr gk gw v l w W) (n : Nat) : RC gh gr gk gw v l w (W.drewN n) := h.step (pw_below_drewN (Below.refl _ _) n)
theorem RC.drew {gh gr gk gw : Nat} {v : S8} {l : List Int} {w W : World} (h : RC gh gr gk gw v l w W) : RC gh gr gk gw v l w W.drew := h.step (below_drew1 (Below.refl _ _))
theorem RC.set {gh gr gk gw : Nat} {v : S8} {l : List Int} {w W : World} (h : RC gh gr gk gw v l w W) (i : Nat) (x : Int) : RC gh gr gk gw v (l.set i x) w (W.setCell ⟨gw, i, none⟩ (.int .u64 x)) := by
 have o1 := h.o1
 have o2 := h.o2
 have o3 := h.o3
 have h0 := h.h0
 exact ⟨h.o1, h.o2, h.o3, h.h0, (Below.heap_setCell _ _ _ _ (by simp only; omega)).trans h.hh, (Below.heap_setCell _ _ _ _ (by simp only; omega)).trans h.hr, (Below.heap_setCell _ _ _ _ (by simp only; omega)).trans h.hk, blk_put h.hw i _ (nums_set _ l i x), h.below.setCell (p := ⟨gw, i, none⟩) (by simp only; omega) _⟩
theorem RC.cellw {gh gr gk gw : Nat} {v : S8} {l : List Int} {w W : World} (h : RC gh gr gk gw v l w W) (i : Nat) (hi : i < l.length) : W.cell? ⟨gw, i, none⟩ = some (.int .u64 (l.getD i 0)) := by
 have := blk_cell h.hw i
 rw [nums_at _ _ _ hi] at this
 exact this
theorem RC.cellk {gh gr gk gw : Nat} {v : S8} {l : List Int} {w W : World} (h : RC gh gr gk gw v l w W) (i : Nat) (hi : i < 64) : W.cell? ⟨gk, i, none⟩ = some (.int .u64 (refK.getD i 0)) := by
 have := blk_cell h.hk i
 rw [nums_at _ _ _ hi] at this
 exact this
/-- The same, but for the word at k. -/
def RCX (gh gr gk gw : Nat) (v : S8) (l : List Int) (k : Nat) (w W : World) : Prop := ∃ u, RC gh gr gk gw v (l.set k u) w W
theorem RCX.of {gh gr gk gw : Nat} {v : S8} {l : List Int} {w W : World} (h : RC gh gr gk gw v l w W) (k : Nat) : RCX gh gr gk gw v l k w W := ⟨l.getD k 0, by rw [set_getD_]; exact h⟩
theorem RCX.drewN {gh gr gk gw : Nat} {v : S8} {l : List Int} {k : Nat} {w W : World} (h : RCX gh gr gk gw v l k w W) (n : Nat) : RCX gh gr gk gw v l k w (W.drewN n) := h.imp fun _ h => h.drewN n
theorem RCX.drew {gh gr gk gw : Nat} {v : S8} {l : List Int} {k : Nat} {w W : World} (h : RCX gh gr gk gw v l k w W) : RCX gh gr gk gw v l k w W.drew := h.imp fun _ h => h.drew
theorem RCX.set {gh gr gk gw : Nat} {v : S8} {l : List Int} {k : Nat} {w W : World} (h : RCX gh gr gk gw v l k w W) (x : Int) : RC gh gr gk gw v (l.set k x) w (W.setCell ⟨gw, k, none⟩ (.int .u64 x)) := by
 obtain ⟨u, h⟩ := h
 have := h.set k x
 rwa [List.set_set] at this
theorem RCX.put {gh gr gk gw : Nat} {v : S8} {l : List Int} {k : Nat} {w W : World} (h : RCX gh gr gk gw v l k w W) (x : Int) : RCX gh gr gk gw v l k w (W.setCell ⟨gw, k, none⟩ (.int .u64 x)) := ⟨x, h.set x⟩
theorem RCX.cell {gh gr gk gw : Nat} {v : S8} {l : List Int} {k : Nat} {w W : World} (h : RCX gh gr gk gw v l k w W) (i : Nat) (hi : i < l.length) (hik : k ≠ i) : W.cell? ⟨gw, i, none⟩ = some (.int .u64 (l.getD i 0)) := by
 obtain ⟨u, h⟩ := h
 rw [h.cellw i (by simpa using hi), List.getD_eq_getElem?_getD, List.getElem?_set_ne hik, ← List.getD_eq_getElem?_getD]
theorem RCX.at_ {gh gr gk gw : Nat} {v : S8} {l : List Int} {k : Nat} {w W : World} (h : RCX gh gr gk gw v l k w W) (hk : k < l.length) : W.cell? ⟨gw, k, none⟩ = some (cellD W ⟨gw, k, none⟩) ∧ W.frozen? ⟨gw, k, none⟩ = false := by
 obtain ⟨u, h⟩ := h
 exact ⟨cellD_some (h.cellw k (by simpa using hk)), blk_frozen h.hw k⟩
theorem turn_q (x : Int) (m : Nat) (n : Int) (hn : n = (m : Int)) (h : m ≤ 32) (w : World) : Calls Try.prog 39 #[.int .u64 x, .int .i64 n] w fun e w' => e = .returned (.int .u64 (tn x m)) ∧ ∃ d, w' = w.drewN d :=
 (turn_c x m n hn h w).mono fun e w' ⟨he, ⟨⟨d, hd⟩⟩⟩ => ⟨he, d, hd⟩
def rT (kk ww : Int) (v : S8) : Int :=
 IntKind.u64.wrap (IntKind.u64.wrap (IntKind.u64.wrap (IntKind.u64.wrap (v.h + Go.bits .xor .u64 (Go.bits .xor .u64 (tn v.e 6) (tn v.e 11)) (tn v.e 25)) + Go.bits .xor .u64 (Go.bits .and .u64 v.e v.f) (Go.bits .and .u64 (IntKind.u64.wrap (4294967295 - v.e)) v.g)) + kk) + ww)
def rU (v : S8) : Int :=
 IntKind.u64.wrap (Go.bits .xor .u64 (Go.bits .xor .u64 (tn v.a 2) (tn v.a 13)) (tn v.a 22) + Go.bits .xor .u64 (Go.bits .xor .u64 (Go.bits .and .u64 v.a v.b) (Go.bits .and .u64 v.a v.c)) (Go.bits .and .u64 v.b v.c))
def rrnd (kk ww : Int) (v : S8) : S8 :=
 ⟨Int.tmod (IntKind.u64.wrap (rT kk ww v + rU v)) 4294967296, v.a, v.b, v.c, Int.tmod (IntKind.u64.wrap (v.d + rT kk ww v)) 4294967296, v.e, v.f, v.g⟩
def rrndF (l : List Int) (v : S8) : Nat → S8
 | 0 => v
 | k + 1 => rrnd (refK.getD k 0) (l.getD k 0) (rrndF l v k)
def S8.row (k : IntKind) (u : S8) : Array Value := #[.int k u.a, .int k u.b, .int k u.c, .int k u.d, .int k u.e, .int k u.f, .int k u.g, .int k u.h]
def addF (h : List Int) : Nat → List Int → List Int
 | 0, l => l
 | k + 1, l => (addF h k l).set k (Int.tmod (IntKind.u64.wrap ((addF h k l).getD k 0 + h.getD k 0)) 4294967296)
theorem addF_length (h l : List Int) (k : Nat) : (addF h k l).length = l.length := by
 induction k with
 | zero => rfl
 | succ k ih => simp [addF, ih]
def rblk (s : ByteArray) (v : S8) : S8 :=
 let u := rrndF (rwF s 64) v 64
 ⟨Int.tmod (IntKind.u64.wrap (u.a + v.a)) 4294967296, Int.tmod (IntKind.u64.wrap (u.b + v.b)) 4294967296, Int.tmod (IntKind.u64.wrap (u.c + v.c)) 4294967296, Int.tmod (IntKind.u64.wrap (u.d + v.d)) 4294967296, Int.tmod (IntKind.u64.wrap (u.e + v.e)) 4294967296, Int.tmod (IntKind.u64.wrap (u.f + v.f)) 4294967296, Int.tmod (IntKind.u64.wrap (u.g + v.g)) 4294967296, Int.tmod (IntKind.u64.wrap (u.h + v.h)) 4294967296⟩
theorem addF_8 (s : ByteArray) (v : S8) : addF v.list 8 (rrndF (rwF s 64) v 64).list = (rblk s v).list := by
 unfold rblk
 generalize rrndF (rwF s 64) v 64 = u
 obtain ⟨a, b, c, d, e, f, g, h⟩ := u
 obtain ⟨a', b', c', d', e', f', g', h'⟩ := v
 simp only [addF, S8.list, List.getD_cons_zero, List.getD_cons_succ, List.set_cons_zero, List.set_cons_succ]
theorem row8_one (k : IntKind) (u : S8) : (u.row k).all (·.oneCell') = true := by
 rw [Array.all_eq_true_iff_forall_mem]
 intro x hx
 simp only [S8.row, List.mem_toArray, List.mem_cons, List.not_mem_nil, or_false] at hx
 rcases hx with rfl | rfl | rfl | rfl | rfl | rfl | rfl | rfl <;> rfl
/-- .. and the state that is worked on, in a block of its own. -/
structure RV (gh gr gk gw gv : Nat) (v u : S8) (l : List Int) (w W : World) : Prop where
 rc : RC gh gr gk gw v l w W
 o4 : gw < gv
 hv : W.heap[gv]? = some (.cells (u.row .u64) 48 (0, 0))
theorem RV.step {gh gr gk gw gv : Nat} {v u : S8} {l : List Int} {w W W' : World} (h : RV gh gr gk gw gv v u l w W) (hb : Below W.heap.size W W') : RV gh gr gk gw gv v u l w W' :=
 ⟨h.rc.step hb, h.o4, blk_below h.hv hb⟩
theorem RV.drewN {gh gr gk gw gv : Nat} {v u : S8} {l : List Int} {w W : World} (h : RV gh gr gk gw gv v u l w W) (n : Nat) : RV gh gr gk gw gv v u l w (W.drewN n) := h.step (pw_below_drewN (Below.refl _ _) n)
theorem RV.drew {gh gr gk gw gv : Nat} {v u : S8} {l : List Int} {w W : World} (h : RV gh gr gk gw gv v u l w W) : RV gh gr gk gw gv v u l w W.drew := h.step (below_drew1 (Below.refl _ _))
theorem RC.other {gh gr gk gw gv : Nat} {v : S8} {l : List Int} {w W W' : World} (h : RC gh gr gk gw v l w W) (ho : gw < gv) (hg : W.grownBy W' (some gv)) : RC gh gr gk gw v l w W' := by
 obtain ⟨o1, o2, o3, h0, hh, hr', hk, hw, hb⟩ := h
 exact ⟨o1, o2, o3, h0, (hg.block gh (blk_lt hh) (by intro e; injection e; omega)).trans hh, (hg.block gr (blk_lt hr') (by intro e; injection e; omega)).trans hr', (hg.block gk (blk_lt hk) (by intro e; injection e; omega)).trans hk, (hg.block gw (blk_lt hw) (by intro e; injection e; omega)).trans hw, hb.grown hg hb.size (by intro k e; injection e; omega)⟩
theorem RV.put {gh gr gk gw gv : Nat} {v u u' : S8} {l : List Int} {w W W' : World} (h : RV gh gr gk gw gv v u l w W) (hr : W'.heap[gv]? = some (.cells (u'.row .u64) 48 (0, 0))) (hg : W.grownBy W' (some gv)) : RV gh gr gk gw gv v u' l w W' := by
 obtain ⟨⟨o1, o2, o3, h0, hh, hr', hk, hw, hb⟩, o4, hv⟩ := h
 have l1 := blk_lt hh
 have l2 := blk_lt hr'
 have l3 := blk_lt hk
 have l4 := blk_lt hw
 exact ⟨⟨o1, o2, o3, h0, (hg.block gh l1 (by intro e; injection e; omega)).trans hh, (hg.block gr l2 (by intro e; injection e; omega)).trans hr', (hg.block gk l3 (by intro e; injection e; omega)).trans hk, (hg.block gw l4 (by intro e; injection e; omega)).trans hw, hb.grown hg hb.size (by intro k e; injection e; omega)⟩, o4, hr⟩
set_option maxHeartbeats 4000000 in
set_option maxRecDepth 100000 in
theorem rblock_calls (v : S8) (s : ByteArray) (w : World) (hs : 64 ≤ s.size) :
  Calls Try.prog 24 #[.agg #[.int .u64 v.a, .int .u64 v.b, .int .u64 v.c, .int .u64 v.d, .int .u64 v.e, .int .u64 v.f, .int .u64 v.g, .int .u64 v.h], .string s] w fun e w' => e = .returned (.agg ((rblk s v).row .u64)) ∧ Below w.heap.size w w' := by
 have HA : Aside0 (∀ (W : World) (z : Array Value), (W.alloc (.cells z 69)).heap[W.heap.size]? = some (.cells z 69 (0, 0))) := ⟨fun W z => heap_alloc_new _ _⟩
 have h8 : w.heap.size + 2 = ((w.alloc (.cells #[.int .u64 v.a, .int .u64 v.b, .int .u64 v.c, .int .u64 v.d, .int .u64 v.e, .int .u64 v.f, .int .u64 v.g, .int .u64 v.h] 48)).alloc (.cells #[.int .u64 0, .int .u64 0, .int .u64 0, .int .u64 0, .int .u64 0, .int .u64 0, .int .u64 0, .int .u64 0] 48)).heap.size := by simp
 have h9 : ((w.alloc (.cells #[.int .u64 v.a, .int .u64 v.b, .int .u64 v.c, .int .u64 v.d, .int .u64 v.e, .int .u64 v.f, .int .u64 v.g, .int .u64 v.h] 48)).alloc (.cells #[.int .u64 0, .int .u64 0, .int .u64 0, .int .u64 0, .int .u64 0, .int .u64 0, .int .u64 0, .int .u64 0] 48)).heap[w.heap.size]? = some (.cells #[.int .u64 v.a, .int .u64 v.b, .int .u64 v.c, .int .u64 v.d, .int .u64 v.e, .int .u64 v.f, .int .u64 v.g, .int .u64 v.h] 48 (0, 0)) := by
  rw [heap_alloc_old _ _ (by simp)]; exact heap_alloc_new _ _
 have h10 : ((w.alloc (.cells #[.int .u64 v.a, .int .u64 v.b, .int .u64 v.c, .int .u64 v.d, .int .u64 v.e, .int .u64 v.f, .int .u64 v.g, .int .u64 v.h] 48)).alloc (.cells #[.int .u64 0, .int .u64 0, .int .u64 0, .int .u64 0, .int .u64 0, .int .u64 0, .int .u64 0, .int .u64 0] 48)).heap[w.heap.size + 1]? = some (.cells #[.int .u64 0, .int .u64 0, .int .u64 0, .int .u64 0, .int .u64 0, .int .u64 0, .int .u64 0, .int .u64 0] 48 (0, 0)) := by
  have := heap_alloc_new (w.alloc (.cells #[.int .u64 v.a, .int .u64 v.b, .int .u64 v.c, .int .u64 v.d, .int .u64 v.e, .int .u64 v.f, .int .u64 v.g, .int .u64 v.h] 48)) (.cells #[.int .u64 0, .int .u64 0, .int .u64 0, .int .u64 0, .int .u64 0, .int .u64 0, .int .u64 0, .int .u64 0] 48)
  simpa using this
 have h11 : Below w.heap.size w ((w.alloc (.cells #[.int .u64 v.a, .int .u64 v.b, .int .u64 v.c, .int .u64 v.d, .int .u64 v.e, .int .u64 v.f, .int .u64 v.g, .int .u64 v.h] 48)).alloc (.cells #[.int .u64 0, .int .u64 0, .int .u64 0, .int .u64 0, .int .u64 0, .int .u64 0, .int .u64 0, .int .u64 0] 48)) := ((Below.refl _ _).alloc (Nat.le_refl _) _).alloc (by simp) _
 have H0 := Aside0.mk (And.intro h8 (And.intro h9 (And.intro h10 h11)))
 clear h8 h9 h10 h11
 go_enter Try.func24, Try.ntmps24
 go_wp2_with fail
 generalize (w.alloc _).alloc _ = wA at H0 ⊢
 obtain ⟨gh, hgh⟩ : ∃ g, g = w.heap.size := ⟨_, rfl⟩
 obtain ⟨gr, hgr⟩ : ∃ g, g = w.heap.size + 1 := ⟨_, rfl⟩
 have hgr2 : gr = gh + 1 := by omega
 rw [← hgh, ← hgr2]
 have HZ := Aside0.mk (And.intro hgh hgr)
 clear hgh hgr hgr2
 refine (constants_calls _).mono ?_
 rintro e w1 ⟨rfl, hb⟩
 obtain ⟨h8, h9, h10, h11⟩ := H0.out
 obtain ⟨e1, e2⟩ := HZ.out
 rw [← e1] at h9
 rw [← e2] at h10
 have hh1 := blk_below h9 hb
 have hr1 := blk_below h10 hb
 have hb1 : Below w.heap.size w w1 := h11.trans (hb.mono (by omega))
 have hz1 : wA.heap.size ≤ w1.heap.size := hb.size
 have H1 := Aside0.mk (And.intro hh1 (And.intro hr1 hb1))
 have HZ2 : Aside0 (gh < gr ∧ gr < w1.heap.size ∧ gh = w.heap.size) := ⟨by omega, by omega, e1⟩
 clear h8 h9 h10 h11 hb e1 e2 hh1 hr1 hb1 hz1 H0
 have hb1 : Below w.heap.size w (w1.alloc (.cells (List.replicate 64 (Value.int .u64 0)).toArray 69)) := H1.out.2.2.alloc H1.out.2.2.size _
 go_wp2_with (first
  | ((with_reducible refine gate_store (t := 69) (p := 5) rfl ?_); refine store_row_ rfl 69 (.tmp 5) (.tmp 18) rfl rfl w1.heap.size (nums .u64 refK).toArray rfl rfl 69 _ (HA.out _ _) refK_info (by rw [refK_size]; rfl) refK_one w.heap.size w hb1 H1.out.2.2.size ?_; intro w2 hw2 hb2 hg2; have H2 := Aside0.mk (And.intro hw2 (And.intro hb2 hg2)); have hb3 := hb2.alloc hb2.size (.cells (List.replicate 64 (Value.int .u64 0)).toArray 69); clear hw2 hb2 hg2 hb1)
  | ((with_reducible refine gate_store (t := 69) (p := 6) rfl ?_); refine store_row_ rfl 69 (.tmp 6) (.tmp 19) rfl rfl w2.heap.size (nums .u64 (List.replicate 64 0)).toArray rfl rfl 69 _ (HA.out _ _) zeros_info (by rw [zeros_size]; rfl) zeros_one w.heap.size w hb3 H2.out.2.1.size ?_; intro w3 hw3 hb3' hg3; have H3 := Aside0.mk (And.intro hw3 (And.intro hb3' hg3)); clear hw3 hb3' hg3 hb3))
 have HC : Aside0 (RC gh gr w1.heap.size w2.heap.size v (rwF s 0) w w3) := by
  obtain ⟨a1, a2, a3⟩ := H1.out
  obtain ⟨b1, b2, b3⟩ := H2.out
  obtain ⟨c1, c2, c3⟩ := H3.out
  obtain ⟨z1, z2, z3⟩ := HZ2.out
  have s2 := b3.size
  simp at s2
  have e2h := (b3.block gh (by simp; omega) (by intro e; injection e; omega)).trans ((heap_alloc_old _ _ (by omega)).trans a1)
  have e2r := (b3.block gr (by simp; omega) (by intro e; injection e; omega)).trans ((heap_alloc_old _ _ (by omega)).trans a2)
  have e3h := (c3.block gh (by simp; omega) (by intro e; injection e; omega)).trans ((heap_alloc_old _ _ (by omega)).trans e2h)
  have e3r := (c3.block gr (by simp; omega) (by intro e; injection e; omega)).trans ((heap_alloc_old _ _ (by omega)).trans e2r)
  have e3k := (c3.block w1.heap.size (by simp; omega) (by intro e; injection e; omega)).trans ((heap_alloc_old _ _ (by omega)).trans b1)
  exact ⟨z1, z2, by omega, z3, e3h, e3r, e3k, c1, c2⟩
 generalize w1.heap.size = gc at HC ⊢
 generalize w2.heap.size = gw at HC ⊢
 clear H1 H2 H3 HZ2 HZ HA
 go_loopg [7, 8, 9, 10] 64 (fun r s7 s8 s9 s10 wr => ∃ k : Nat, k + r = 64 ∧ s7 = .int .i64 (k : Int) ∧ Aside0 (RC gh gr gc gw v (rwF s k) w wr))
 case atStart => exact ⟨0, by omega, rfl, HC⟩
 case round =>
  obtain ⟨k, hk, rfl, HR⟩ := hrel
  cases gk with
  | zero =>
   have hk64 : 64 ≤ k := by omega
   have hk2 : k = 64 := by omega
   have HR2 : Aside0 (RC gh gr gc gw v (rwF s 64) w wr) := ⟨by rw [← hk2]; exact HR.out⟩
   clear hk2 HR
   have hrow := HR2.out.hh
   go_wp2_with ((with_reducible refine gate_dst (N := 82) rfl ?_); refine wpList_load_row rfl 48 (.tmp 2) rfl gh rfl 48 #[.int .u64 v.a, .int .u64 v.b, .int .u64 v.c, .int .u64 v.d, .int .u64 v.e, .int .u64 v.f, .int .u64 v.g, .int .u64 v.h] (0, 0) _ hrow Try.underlying48 rfl (by kernel_rfl) ?_)
   have HV0 : Aside0 (RV gh gr gc gw wr.heap.size v v (rwF s 64) w (wr.alloc (.cells #[.int .u64 v.a, .int .u64 v.b, .int .u64 v.c, .int .u64 v.d, .int .u64 v.e, .int .u64 v.f, .int .u64 v.g, .int .u64 v.h] 48))) := ⟨HR2.out.alloc _, blk_lt HR2.out.hw, heap_alloc_new _ _⟩
   change Code.wp _ _ _ _ (wr.alloc (.cells #[.int .u64 v.a, .int .u64 v.b, .int .u64 v.c, .int .u64 v.d, .int .u64 v.e, .int .u64 v.f, .int .u64 v.g, .int .u64 v.h] 48))
   generalize wr.alloc _ = w4 at HV0 ⊢
   generalize wr.heap.size = gv at HV0 ⊢
   clear hrow HR2
   go_loopg [12, 13, 14, 15, 16] 64 (fun r2 s12 s13 s14 s15 s16 wy => ∃ (i : Nat) (u : S8), i + r2 = 64 ∧ s12 = .int .i64 (i : Int) ∧ Aside0 (u = rrndF (rwF s 64) v i) ∧ Aside0 (RV gh gr gc gw gv v u (rwF s 64) w wy))
   case atStart => exact ⟨0, v, by omega, rfl, ⟨rfl⟩, HV0⟩
   case round =>
    obtain ⟨i, u, hi, rfl, HU, HV⟩ := hrel
    cases gk with
    | zero =>
     have hi64 : 64 ≤ i := by omega
     have hi2 : i = 64 := by omega
     have HU2 : Aside0 (u = rrndF (rwF s 64) v 64) := ⟨by rw [HU.out, hi2]⟩
     clear hi2 HU
     have HL0 : Aside0 (wr.heap[gv]? = some (.cells (nums .u64 (addF v.list 0 u.list)).toArray 48 (0, 0))) := ⟨HV.out.hv⟩
     have HC0 := Aside0.mk HV.out.rc
     have ho := HV.out.o4
     have HWL : Aside0 (wr.grownBy wr (some gv)) := ⟨⟨rfl, rfl, rfl, Nat.le_refl _, fun _ _ _ => rfl⟩⟩
     go_wp2_with fail
     go_loopg [17] 8 (fun r3 s17 wz => ∃ j : Nat, j + r3 = 8 ∧ s17 = .int .i64 (j : Int) ∧ Aside0 (wz.heap[gv]? = some (.cells (nums .u64 (addF v.list j u.list)).toArray 48 (0, 0))) ∧ Aside0 (RC gh gr gc gw v (rwF s 64) w wz))
     case atStart => exact ⟨0, by omega, rfl, HL0, HC0⟩
     case round =>
      obtain ⟨j, hj, rfl, HL, HC⟩ := hrel
      cases gk with
      | zero =>
       have hj8 : 8 ≤ j := by omega
       have hj2 : j = 8 := by omega
       have hl8 := HL.out
       rw [hj2, HU2.out, addF_8] at hl8
       have HL8 : Aside0 (wr.heap[gv]? = some (.cells ((rblk s v).row .u64) 48 (0, 0))) := ⟨hl8⟩
       have i8s : (Try.prog.info? 48).map (·.size) = some ((rblk s v).row .u64).size := by
        show _ = some 8
        kernel_rfl
       have hl8' := HL8.out
       have hr8 := HC.out.hr
       have hbw := HC.out.below
       have hle : w.heap.size ≤ gr := by have a1 := HC.out.o1; have a4 := HC.out.h0; omega
       clear hl8 hj2
       go_wp2_with (first
        | ((with_reducible refine gate_dst (N := 179) rfl ?_); refine wpList_load_row rfl 48 (.tmp 11) rfl gv rfl 48 ((rblk s v).row .u64) (0, 0) _ hl8' Try.underlying48 rfl i8s ?_)
        | ((with_reducible refine gate_store (t := 48) (p := 4) rfl ?_); refine store_row_ rfl 48 (.tmp 4) (.tmp 179) rfl rfl gr ((rblk s v).row .u64) rfl rfl 48 _ hr8 i8s rfl (row8_one .u64 _) w.heap.size w hbw hle ?_; intro w7 hw7 hb7 hg7; have H7 := Aside0.mk (And.intro hw7 hb7); clear hw7 hb7 hg7 hr8 hbw))
       refine bodyPost_ret (results_cell_row rfl _ _ gr 48 ((rblk s v).row .u64) (0, 0) _ rfl H7.out.1 Try.underlying48 rfl i8s) rfl ?_
       exact ⟨rfl, H7.out.2⟩
      | succ r3 =>
       have hj8 : j < 8 := by omega
       have hj8' : (j : Int) < 8 := by omega
       have hal := addF_length v.list u.list j
       have hul : u.list.length = 8 := rfl
       have hvl : v.list.length = 8 := rfl
       have HLd := Aside0.mk (blk_drew HL.out)
       have HCd := Aside0.mk HC.out.drew
       have c1 : wr.drew.cell? ⟨gv, j, none⟩ = some (.int .u64 ((addF v.list j u.list).getD j 0)) := by
        have := blk_cell HLd.out j
        rw [nums_at _ _ _ (by omega)] at this
        exact this
       have c2 : wr.drew.cell? ⟨gh, j, none⟩ = some (.int .u64 (v.list.getD j 0)) := by
        have := blk_cell HCd.out.hh j
        rw [nums_at _ _ _ (by omega)] at this
        exact this
       have cf : wr.drew.frozen? ⟨gv, j, none⟩ = false := blk_frozen HLd.out j
       have HN : Aside0 (addF v.list (j + 1) u.list = (addF v.list j u.list).set j (Int.tmod (IntKind.u64.wrap ((addF v.list j u.list).getD j 0 + v.list.getD j 0)) 4294967296)) := ⟨rfl⟩
       generalize (addF v.list j u.list).getD j 0 = x1 at c1 HN
       generalize v.list.getD j 0 = x2 at c2 HN
       clear hal hul hvl
       go_wp2_with fail
       go_still_tail 10, (by kernel_rfl)
       change wpList _ _ _ _ _ wr.drew
       generalize wr.drew = w4d at HLd HCd c1 c2 cf ⊢
       go_wp2
       go_roundg r3
       case measure => omega
       case rel =>
        refine ⟨j + 1, by omega, by go_num, ⟨?_⟩, ⟨HCd.out.other ho (grown_set_ _ gv j _)⟩⟩
        rw [HN.out]
        exact blk_put HLd.out j _ (nums_set _ _ _ _)
    | succ r2 =>
     have hi64 : i < 64 := by omega
     have hi64' : (i : Int) < 64 := by omega
     have hwl := rwF_length s 64
     have c0 : wr.cell? ⟨gv, 0, none⟩ = some (.int .u64 u.a) := blk_cell HV.out.hv 0
     have c4 : wr.cell? ⟨gv, 4, none⟩ = some (.int .u64 u.e) := blk_cell HV.out.hv 4
     have c5 : wr.cell? ⟨gv, 5, none⟩ = some (.int .u64 u.f) := blk_cell HV.out.hv 5
     have c6 : wr.cell? ⟨gv, 6, none⟩ = some (.int .u64 u.g) := blk_cell HV.out.hv 6
     have c7 : wr.cell? ⟨gv, 7, none⟩ = some (.int .u64 u.h) := blk_cell HV.out.hv 7
     have ck := HV.out.rc.cellk i hi64
     have cw := HV.out.rc.cellw i (by omega)
     have HN : Aside0 (rrndF (rwF s 64) v (i + 1) = rrnd (refK.getD i 0) ((rwF s 64).getD i 0) u) := ⟨by rw [rrndF, ← HU.out]⟩
     generalize refK.getD i 0 = kk at ck HN
     generalize (rwF s 64).getD i 0 = ww at cw HN
     clear HU
     go_wp2_with fail
     go_quiet (first
      | (go_at_call 39; with_reducible exact Calls.quiet_of (turn_q u.e 6 6 rfl (by decide) _))
      | (go_at_call 39; with_reducible exact Calls.quiet_of (turn_q u.e 11 11 rfl (by decide) _))
      | (go_at_call 39; with_reducible exact Calls.quiet_of (turn_q u.e 25 25 rfl (by decide) _)))
     generalize hT : IntKind.u64.wrap (IntKind.u64.wrap (IntKind.u64.wrap (IntKind.u64.wrap (u.h + Go.bits .xor .u64 (Go.bits .xor .u64 (tn u.e 6) (tn u.e 11)) (tn u.e 25)) + Go.bits .xor .u64 (Go.bits .and .u64 u.e u.f) (Go.bits .and .u64 (IntKind.u64.wrap (4294967295 - u.e)) u.g)) + kk) + ww) = tv
     have HTV : Aside0 (rT kk ww u = tv) := ⟨hT⟩
     have HV5 := Aside0.mk (HV.out.drewN nq)
     generalize wr.drewN nq = w5 at HV5 ⊢
     clear c0 c4 c5 c6 c7 ck cw hT
     have c0 : w5.cell? ⟨gv, 0, none⟩ = some (.int .u64 u.a) := blk_cell HV5.out.hv 0
     have c1 : w5.cell? ⟨gv, 1, none⟩ = some (.int .u64 u.b) := blk_cell HV5.out.hv 1
     have c2 : w5.cell? ⟨gv, 2, none⟩ = some (.int .u64 u.c) := blk_cell HV5.out.hv 2
     have c3 : w5.cell? ⟨gv, 3, none⟩ = some (.int .u64 u.d) := blk_cell HV5.out.hv 3
     have c4 : w5.cell? ⟨gv, 4, none⟩ = some (.int .u64 u.e) := blk_cell HV5.out.hv 4
     have c5 : w5.cell? ⟨gv, 5, none⟩ = some (.int .u64 u.f) := blk_cell HV5.out.hv 5
     have c6 : w5.cell? ⟨gv, 6, none⟩ = some (.int .u64 u.g) := blk_cell HV5.out.hv 6
     have c7 : w5.cell? ⟨gv, 7, none⟩ = some (.int .u64 u.h) := blk_cell HV5.out.hv 7
     go_wp2_with fail
     go_quiet (first
      | (go_at_call 39; with_reducible exact Calls.quiet_of (turn_q u.a 2 2 rfl (by decide) _))
      | (go_at_call 39; with_reducible exact Calls.quiet_of (turn_q u.a 13 13 rfl (by decide) _))
      | (go_at_call 39; with_reducible exact Calls.quiet_of (turn_q u.a 22 22 rfl (by decide) _)))
     generalize hU : IntKind.u64.wrap (Go.bits .xor .u64 (Go.bits .xor .u64 (tn u.a 2) (tn u.a 13)) (tn u.a 22) + Go.bits .xor .u64 (Go.bits .xor .u64 (Go.bits .and .u64 u.a u.b) (Go.bits .and .u64 u.a u.c)) (Go.bits .and .u64 u.b u.c)) = uv
     have HUV : Aside0 (rU u = uv) := ⟨hU⟩
     have HV6 := Aside0.mk (HV5.out.drewN nq)
     generalize w5.drewN nq = w6 at HV6 ⊢
     clear c0 c1 c2 c3 c4 c5 c6 c7 hU
     have c0 : w6.cell? ⟨gv, 0, none⟩ = some (.int .u64 u.a) := blk_cell HV6.out.hv 0
     have c1 : w6.cell? ⟨gv, 1, none⟩ = some (.int .u64 u.b) := blk_cell HV6.out.hv 1
     have c2 : w6.cell? ⟨gv, 2, none⟩ = some (.int .u64 u.c) := blk_cell HV6.out.hv 2
     have c3 : w6.cell? ⟨gv, 3, none⟩ = some (.int .u64 u.d) := blk_cell HV6.out.hv 3
     have c4 : w6.cell? ⟨gv, 4, none⟩ = some (.int .u64 u.e) := blk_cell HV6.out.hv 4
     have c5 : w6.cell? ⟨gv, 5, none⟩ = some (.int .u64 u.f) := blk_cell HV6.out.hv 5
     have c6 : w6.cell? ⟨gv, 6, none⟩ = some (.int .u64 u.g) := blk_cell HV6.out.hv 6
     have c7 : w6.cell? ⟨gv, 7, none⟩ = some (.int .u64 u.h) := blk_cell HV6.out.hv 7
     have hv6 := HV6.out.hv
     have i8s : (Try.prog.info? 48).map (·.size) = some 8 := by kernel_rfl
     have hbw := HV6.out.rc.below
     have hle : w.heap.size ≤ gv := by have a1 := HV6.out.rc.o1; have a2 := HV6.out.rc.o2; have a3 := HV6.out.rc.o3; have a4 := HV6.out.rc.h0; have a5 := HV6.out.o4; omega
     go_wp2_with ((with_reducible refine gate_store (t := 48) (p := 11) rfl ?_); refine store_row_ rfl 48 (.tmp 11) (.tmp 164) rfl rfl gv #[.int .u64 (Int.tmod (IntKind.u64.wrap (tv + uv)) 4294967296), .int .u64 u.a, .int .u64 u.b, .int .u64 u.c, .int .u64 (Int.tmod (IntKind.u64.wrap (u.d + tv)) 4294967296), .int .u64 u.e, .int .u64 u.f, .int .u64 u.g] rfl rfl 48 (u.row .u64) hv6 i8s rfl (row8_one .u64 (S8.mk _ _ _ _ _ _ _ _)) w.heap.size w hbw hle ?_; intro w7 hw7 hb7 hg7; have HV7 := Aside0.mk (HV6.out.put (u' := S8.mk (Int.tmod (IntKind.u64.wrap (tv + uv)) 4294967296) u.a u.b u.c (Int.tmod (IntKind.u64.wrap (u.d + tv)) 4294967296) u.e u.f u.g) hw7 hg7); clear hw7 hb7 hg7 hv6)
     go_roundg r2
     case measure => omega
     case rel =>
      refine ⟨i + 1, _, by omega, by go_num, ⟨?_⟩, HV7⟩
      rw [HN.out]
      unfold rrnd
      rw [HTV.out, HUV.out]
  | succ r =>
   have hk64 : k < 64 := by omega
   have hk64' : (k : Int) < 64 := by omega
   have hlen := rwF_length s k
   by_cases h16 : k < 16
   ·have h16' : (k : Int) < 16 := by omega
    have HS : Aside0 (rwF s (k + 1) = (rwF s k).set k (rLoad s k ((rwF s k).getD k 0) 4)) := ⟨by rw [rwF, if_pos h16]⟩
    have HR0 : Aside0 (RC gh gr gc gw v ((rwF s k).set k (rLoad s k ((rwF s k).getD k 0) 0)) w wr) := ⟨by rw [rLoad, set_getD_]; exact HR.out⟩
    generalize (rwF s k).getD k 0 = x0 at HS HR0
    clear HR
    go_wp2
    go_loopg [8] 4 (fun r2 s8 wy => ∃ n : Nat, n + r2 = 4 ∧ s8 = .int .i64 (n : Int) ∧ Aside0 (RC gh gr gc gw v ((rwF s k).set k (rLoad s k x0 n)) w wy))
    case atStart => exact ⟨0, by omega, rfl, HR0⟩
    case round =>
     obtain ⟨n, hn, rfl, HRn⟩ := hrel
     cases gk with
     | zero =>
      have hn4 : 4 ≤ n := by omega
      have hn4' : n = 4 := by omega
      have HN := Aside0.mk hn4'
      clear hn4'
      go_wp2
      go_roundg r
      case measure => omega
      case rel => exact ⟨k + 1, by omega, by go_num, ⟨by rw [HS.out, ← HN.out]; exact HRn.out⟩⟩
     | succ r2 =>
      have hn4 : n < 4 := by omega
      have HD := Aside0.mk HRn.out.drew
      have hc : wr.drew.cell? ⟨gw, k, none⟩ = some (.int .u64 (rLoad s k x0 n)) := by
       have := HD.out.cellw k (by rw [List.length_set]; omega)
       rw [this, List.getD_eq_getElem?_getD, List.getElem?_set_self (by omega)]
       rfl
      have hf : wr.drew.frozen? ⟨gw, k, none⟩ = false := blk_frozen HD.out.hw k
      have HL : Aside0 (rLoad s k x0 (n + 1) = IntKind.u64.wrap (IntKind.u64.wrap (rLoad s k x0 n * 256) + bt s (4 * (k : Int) + (n : Int)))) := ⟨rfl⟩
      generalize hx : rLoad s k x0 n = x at hc HL
      have HX := Aside0.mk hx
      have hw0 : IntKind.i64.wrap (4 * (k : Int)) = 4 * (k : Int) := by rw [IntKind.wrap_i64]; omega
      have hw1 : IntKind.i64.wrap (4 * (k : Int) + (n : Int)) = 4 * (k : Int) + (n : Int) := by rw [IntKind.wrap_i64]; omega
      have hbr := bt_range s (4 * (k : Int) + (n : Int))
      have hw2 : IntKind.u64.wrap (bt s (4 * (k : Int) + (n : Int))) = bt s (4 * (k : Int) + (n : Int)) := by rw [IntKind.wrap_u64]; omega
      obtain ⟨ha0, hb0, hc0, hd0⟩ := bt4_ s (4 * k + n) (4 * (k : Int) + (n : Int)) (by omega) (by omega)
      clear hx hbr
      go_wp2_with fail
      go_still_tail 14, (by kernel_rfl)
      rw [← HL.out]
      have HZ := Aside0.mk (HD.out.set k (rLoad s k x0 (n + 1)))
      rw [List.set_set] at HZ
      change wpList _ _ _ _ _ wr.drew
      generalize hV : rLoad s k x0 (n + 1) = V at HL HZ ⊢
      have HV := Aside0.mk hV.symm
      clear hV
      generalize wr.drew = w4 at HD hc hf HZ ⊢
      clear hw0 hw1 hw2 ha0 hb0 hc0 hd0 HL HD
      go_wp2
      go_roundg r2
      case measure => omega
      case rel => exact ⟨n + 1, by omega, by go_num, ⟨by rw [← HV.out]; exact HZ.out⟩⟩
   ·have HS : Aside0 (rwF s (k + 1) = (rwF s k).set k (rNext (rwF s k) k)) := ⟨by rw [rwF, if_neg h16]⟩
    obtain ⟨i, hi⟩ : ∃ i, k = i + 16 := ⟨k - 16, by omega⟩
    have e16 : IntKind.i64.wrap ((k : Int) - 16) = (i : Int) := by rw [IntKind.wrap_i64]; omega
    have e15 : IntKind.i64.wrap ((k : Int) - 15) = ((i + 1 : Nat) : Int) := by rw [IntKind.wrap_i64]; omega
    have e7 : IntKind.i64.wrap ((k : Int) - 7) = ((i + 9 : Nat) : Int) := by rw [IntKind.wrap_i64]; omega
    have e2 : IntKind.i64.wrap ((k : Int) - 2) = ((i + 14 : Nat) : Int) := by rw [IntKind.wrap_i64]; omega
    obtain ⟨i15, h15⟩ : ∃ j, j = i + 1 := ⟨_, rfl⟩
    obtain ⟨i7, h7⟩ : ∃ j, j = i + 9 := ⟨_, rfl⟩
    obtain ⟨i2, h2⟩ : ∃ j, j = i + 14 := ⟨_, rfl⟩
    rw [← h15] at e15
    rw [← h7] at e7
    rw [← h2] at e2
    have q15 : (k : Int) - 15 = (i15 : Int) := by omega
    have q2 : (k : Int) - 2 = (i2 : Int) := by omega
    have f16 : (i : Int) < 64 := by omega
    have f15 : (i15 : Int) < 64 := by omega
    have f7 : (i7 : Int) < 64 := by omega
    have f2 : (i2 : Int) < 64 := by omega
    have hn16 : ¬ (k : Int) < 16 := by omega
    have hN : rNext (rwF s k) k = Int.tmod (IntKind.u64.wrap (IntKind.u64.wrap (IntKind.u64.wrap ((rwF s k).getD i 0 + (rwF s k).getD i7 0) + Go.bits .xor .u64 (Go.bits .xor .u64 (tn ((rwF s k).getD i15 0) 7) (tn ((rwF s k).getD i15 0) 18)) (IntKind.u64.wrap (Int.tdiv ((rwF s k).getD i15 0) 8))) + Go.bits .xor .u64 (Go.bits .xor .u64 (tn ((rwF s k).getD i2 0) 17) (tn ((rwF s k).getD i2 0) 19)) (IntKind.u64.wrap (Int.tdiv ((rwF s k).getD i2 0) 1024)))) 4294967296 := by
     unfold rNext
     rw [show k - 16 = i by omega, show k - 7 = i7 by omega, show k - 15 = i15 by omega, show k - 2 = i2 by omega]
    rw [hN] at HS
    have c15 := HR.out.cellw i15 (by omega)
    have c2 := HR.out.cellw i2 (by omega)
    have HX := RCX.of HR.out k
    have HS3 : Aside0 (∀ W, RCX gh gr gc gw v (rwF s k) k w W → W.cell? ⟨gw, i, none⟩ = some (.int .u64 ((rwF s k).getD i 0)) ∧ W.cell? ⟨gw, i7, none⟩ = some (.int .u64 ((rwF s k).getD i7 0)) ∧ W.cell? ⟨gw, k, none⟩ = some (cellD W ⟨gw, k, none⟩) ∧ W.frozen? ⟨gw, k, none⟩ = false ∧ RCX gh gr gc gw v (rwF s k) k w W) :=
     ⟨fun W h => ⟨h.cell i (by omega) (by omega), h.cell i7 (by omega) (by omega), (h.at_ (by omega)).1, (h.at_ (by omega)).2, h⟩⟩
    generalize (rwF s k).getD i 0 = x16 at HS3 HS
    generalize (rwF s k).getD i15 0 = x15 at c15 HS
    generalize (rwF s k).getD i7 0 = x7 at HS3 HS
    generalize (rwF s k).getD i2 0 = x2 at c2 HS
    have HI := Aside0.mk (And.intro hi (And.intro h15 (And.intro h7 h2)))
    clear hN hi h15 h7 h2
    go_wp2_with fail
    clear c15 c2
    obtain ⟨d16, d7, dk, df, _⟩ := HS3.out _ HX
    go_region_held3 (fun W => W.cell? ⟨gw, i, none⟩ = some (.int .u64 x16) ∧ W.cell? ⟨gw, i7, none⟩ = some (.int .u64 x7) ∧ W.cell? ⟨gw, k, none⟩ = some (cellD W ⟨gw, k, none⟩) ∧ W.frozen? ⟨gw, k, none⟩ = false ∧ RCX gh gr gc gw v (rwF s k) k w W)
     (first | (refine HS3.out _ ?_; first | assumption | (repeat (first | assumption | apply RCX.drewN | apply RCX.drew | apply RCX.put))) | (go_split_ands; refine HS3.out _ ?_; (repeat (first | assumption | apply RCX.drewN | apply RCX.drew | apply RCX.put))))
     (first
      | (go_at_call 39; (with_reducible refine (turn_c x15 7 7 rfl (by decide) _).mono ?_); rintro e w6 ⟨rfl, ⟨nd, rfl⟩⟩)
      | (go_at_call 39; (with_reducible refine (turn_c x15 18 18 rfl (by decide) _).mono ?_); rintro e w6 ⟨rfl, ⟨nd2, rfl⟩⟩)
      | (go_at_call 39; (with_reducible refine (turn_c x2 17 17 rfl (by decide) _).mono ?_); rintro e w6 ⟨rfl, ⟨nd3, rfl⟩⟩)
      | (go_at_call 39; (with_reducible refine (turn_c x2 19 19 rfl (by decide) _).mono ?_); rintro e w6 ⟨rfl, ⟨nd4, rfl⟩⟩))
    all_goals
     clear d16 d7 dk df
     go_wp2
     go_roundg r
     case measure => omega
     case rel =>
      refine ⟨k + 1, by omega, by go_num, ⟨?_⟩⟩
      rw [HS.out]
      refine RCX.set ?_ _
      repeat (first | assumption | apply RCX.drewN | apply RCX.drew)

/-! ### bytes that are appended to a row that a conversion has made -/
def BRO (B : Nat) (w : World) (v : Value) (xs : List Int) : Prop :=
 w.ownsRow B 5 1 v xs.length (nums .u8 xs) ∨ ∃ g cap, v = .slice (some ⟨g, 0, none⟩) xs.length cap ∧ B ≤ g ∧ xs.length ≤ cap ∧ cap ≤ maxLen ∧ (∀ j, j < xs.length → w.cell? ⟨g, j, none⟩ = some (.int .u8 (xs.getD j 0))) ∧ (∀ j, j < cap → (w.cell? ⟨g, j, none⟩).isSome = true ∧ w.frozen? ⟨g, j, none⟩ = false)
theorem own_low2_ {w : World} {base base' : Nat} {e : TypeId} {size : Nat} {v : Value} {n : Nat} {xs : List Value} (h : w.ownsRow base e size v n xs) (hb : base' ≤ base) : w.ownsRow base' e size v n xs :=
 ⟨h.1, h.2.imp id fun ⟨g, cap, cur, a, b, r⟩ => ⟨g, cap, cur, a, Nat.le_trans hb b, r⟩⟩
theorem BRO.below {B : Nat} {w w' : World} {v : Value} {xs : List Int} (h : BRO B w v xs) (hb : Below w.heap.size w w') : BRO B w' v xs := by
 rcases h with h | ⟨g, cap, hv, hB, hc, hm, hx, hs⟩
 ·exact Or.inl (h.kept (grown_of_below hb none) (by cases v.ownBlock <;> simp))
 ·refine Or.inr ⟨g, cap, hv, hB, hc, hm, fun j hj => up_ hb (hx j hj), fun j hj => ?_⟩
  obtain ⟨u, hu⟩ := Option.isSome_iff_exists.1 (hs j hj).1
  have hlt := World.block_lt_of_cell? _ _ hu
  exact ⟨by rw [up_ hb hu]; rfl, (World.frozen?_of_block (hb.block g hlt)).trans (hs j hj).2⟩
theorem BRO.form {B : Nat} {w : World} {v : Value} {xs : List Int} (h : BRO B w v xs) : ∃ A c, v = .slice A xs.length c ∧ ReadsInt w .u8 A xs.length xs := by
 rcases h with h | ⟨g, cap, hv, hB, hc, hm, hx, hs⟩
 ·exact own_reads h
 ·exact ⟨some ⟨g, 0, none⟩, cap, hv, rfl, by unfold maxLen at hm; omega, fun _ => ⟨_, rfl, fun j hj => by rw [Addr.add_mid, Nat.zero_add]; exact hx j hj⟩⟩
theorem BRO.new (w : World) (s : ByteArray) (hs : s.size ≤ maxLen) : BRO w.heap.size (Lib.bytesWorld w 5 s) (.slice (some ⟨w.heap.size, 0, none⟩) s.size (grownCap w s.size 0 5)) (bytesOf s) := by
 have hl := bytesOf_length s
 have hg := Lib.bytesWorld_at_new w 5 s
 have hcs : (Lib.bytesCells w 5 s).size = grownCap w s.size 0 5 := by
  have := grownCap_ge w s.size 0 5
  simp [Lib.bytesCells]
  omega
 refine Or.inr ⟨w.heap.size, _, by rw [hl], Nat.le_refl _, by rw [hl]; exact grownCap_ge _ _ _ _, grownCap_le_maxLen _ _ _ _ hs, (BRow.new w s).cell, fun j hj => ⟨?_, ?_⟩⟩
 ·unfold World.cell?
  rw [hg]
  simp
  omega
 ·unfold World.frozen?
  rw [hg]
  simp
  omega
theorem wpList_append_bro {ops : Array Oper} {rest : List Oper} {o : Oper} {a : Act} {w : World} {Q : Exit → Act → World → Prop} (hgd : o.guard = none) (s x : Operand) (t : TypeId)
  (ho : o.op = .call { callee := .builtin .append, args := #[s, x], argTypes := #[t, t] }) (ht : Try.prog.underlying t = some (.slice 5))
  (B : Nat) (v : Value) (xs : List Int) (y : Int) (hB : BRO B w v xs) (hs : a.eval s = v) (hBw : B ≤ w.heap.size) (g0 : Nat) (hg0 : g0 = w.heap.size) (hx : a.eval x = .slice (some ⟨g0, 0, none⟩) 1 1) (hlen : xs.length + 1 ≤ 140737488355328)
  (h : ∀ v' w', BRO B w' v' (xs ++ [y]) → Below B w w' → wpList Try.prog ops Q rest (a.put o.dst v') w') : wpList Try.prog ops Q (o :: rest) a (w.alloc (.cells #[.int .u8 y] 5)) := by
 have hi5 : (Try.prog.info? 5).map (fun i => (i.zero, i.size, i.bytes)) = some (some (.int .u8 0), 1, 1) := by kernel_rfl
 obtain ⟨i0, hi, hz0, hz1, hz2⟩ := info_parts hi5
 have hb0 : Below w.heap.size w (w.alloc (.cells #[.int .u8 y] 5)) := (Below.refl _ _).alloc (Nat.le_refl _) _
 have hnews : ∀ (j : Nat) (u : Value), [Value.int .u8 y][j]? = some u → (w.alloc (.cells #[.int .u8 y] 5)).cell? ((⟨g0, 0, none⟩ : Addr).add j) = some u := by rw [hg0]; exact cell_one_new _ _ _
 have hone : ∀ u ∈ [Value.int .u8 y], u.oneCell' = true := by simp [Value.oneCell']
 have h2 := hB.below hb0
 have e1 : (xs ++ [y]).length = xs.length + 1 := by simp
 rcases h2 with h2 | ⟨g, cap, rfl, hBg, hc, hm, hx2, hs2⟩
 ·refine wpList_append_own _ hgd s x t ho B 5 i0 (.int .u8 0) 1 1 ht hi hz0 hz1 hz2 rfl (by decide) v _ _ hs h2 ⟨g0, 0, none⟩ 1 1 [.int .u8 y] hx rfl hnews hone (by unfold maxLen; omega) (by omega) (by simp; omega) ?_
  intro v' w' hown hg _
  refine h v' w' (Or.inl ?_) ((hb0.mono hBw).grown hg (by simp; omega) (fun k hk => (h2.lt k hk).1))
  rw [e1, nums_append]
  exact hown
 ·refine wpList_append_arg _ hgd s x t ho 5 i0 (.int .u8 0) 1 1 ht hi hz0 hz1 hz2 rfl (by decide) g 0 xs.length cap (nums .u8 xs) hs (by simp [nums]) ?_ ⟨g0, 0, none⟩ 1 1 [.int .u8 y] hx rfl hnews hone ?_ (by unfold maxLen at hm ⊢; omega) (by omega) ?_ ?_
  ·intro j u hu
   simp only [nums, List.getElem?_map, Option.map_eq_some_iff] at hu
   obtain ⟨n, hn, rfl⟩ := hu
   have hj := (List.getElem?_eq_some_iff.1 hn).1
   rw [Nat.zero_add, hx2 j hj, List.getD_eq_getElem?_getD, hn]
   rfl
  ·intro hr j hj
   simp at hj
   subst hj
   simpa using hs2 xs.length (by omega)
  ·intro hr
   have hcx := hs2 xs.length (by omega)
   obtain ⟨u, hu⟩ := Option.isSome_iff_exists.1 hcx.1
   have hw : (w.alloc (.cells #[.int .u8 y] 5)).setCells g (0 + xs.length * 1) [.int .u8 y] = (w.alloc (.cells #[.int .u8 y] 5)).setCell ⟨g, xs.length, none⟩ (.int .u8 y) := by simp [World.setCells]
   rw [hw]
   have hv : (Value.slice (some ⟨g, 0, none⟩) (xs.length + 1) cap) = .slice (some ⟨g, 0, none⟩) (xs ++ [y]).length cap := by rw [e1]
   rw [hv]
   refine h _ _ (Or.inr ⟨g, cap, rfl, hBg, by rw [e1]; omega, hm, fun j hj => ?_, fun j hj => ?_⟩) ((hb0.mono hBw).setCell (p := ⟨g, xs.length, none⟩) hBg _)
   ·rw [e1] at hj
    by_cases e : j = xs.length
    ·subst e
     rw [World.cell?_setCell_same _ _ _ hu]
     simp
    ·rw [World.cell?_setCell_other _ _ _ _ (by intro h; injection h; omega), hx2 j (by omega)]
     have : j < xs.length := by omega
     simp [List.getD_eq_getElem?_getD, List.getElem?_append_left this]
   ·refine ⟨?_, (World.frozen?_setCell _ _ _ _).trans (hs2 j hj).2⟩
    rw [isSome_setCell_]
    exact (hs2 j hj).1
  ·intro hr v' w' hown hg
   refine h v' w' (Or.inl ?_) ((hb0.mono hBw).grown hg (by simp; omega) (by simp))
   rw [e1, nums_append]
   exact own_low2_ hown (by simp; omega)

end Go.Proofs.Ytmkpphcnafklbaa.PDgx
