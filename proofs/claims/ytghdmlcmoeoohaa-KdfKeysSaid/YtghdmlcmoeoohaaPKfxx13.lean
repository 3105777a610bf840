-- printed for this claim by a program of the claim (wip/tools/pp.py over the kit's print)
import Derived.Test.YtghdmlcmoeoohaaPKfxx0
import Derived.Test.YtghdmlcmoeoohaaPKfxx1
import Derived.Test.YtghdmlcmoeoohaaPKfxx4
import Derived.Test.YtghdmlcmoeoohaaPKfxx7
import Derived.Test.YtghdmlcmoeoohaaPKfxx9
import Derived.Test.YtghdmlcmoeoohaaPKfxx10
import Derived.Test.YtghdmlcmoeoohaaPKfxx11
namespace Go.Proofs.Ytghdmlcmoeoohaa.PKfx
open Go.RowKit Go.Proofs.YtghdmlcmoeoohaaW.PrintWords Go.Proofs.YtghdmlcmoeoohaaW.PrintLast Go.Proofs.YtghdmlcmoeoohaaW.PrintMore
attribute [local go_sem] max2_int min2_int max_two min_two max_three min_three max_four min_four   -- for this text's walks alone
set_option linter.unusedVariables false
set_option linter.unusedSimpArgs false

attribute [local go_sem] isSome_setCell_
attribute [local go_sem high] eqA30
/-! ### kdf_Shared: function 22 -/
def kdf_Shared.f (k : Nat) (a0 : ByteArray) (a1 : ByteArray) (a2 : ByteArray) : Option (ByteArray × ByteArray) := (kdf_Extract.f (⟨#[100, 111, 109, 105, 110, 111]⟩ : ByteArray) a0).bind fun t251 => ((digest_Sum.f (([a1, a2] : List ByteArray))).bind fun t255 => ((kdf_secret_derive.f k t251 32 (⟨#[99, 108, 105, 101, 110, 116]⟩ : ByteArray) (([t255] : List ByteArray))).bind fun t260 => ((kdf_secret_derive.f k t251 32 (⟨#[115, 101, 114, 118, 101, 114]⟩ : ByteArray) (([t255] : List ByteArray))).bind fun t264 => (some (t260, t264)))))
theorem kdf_Shared.mono : ∀ a0 a1 a2 k, LeO (kdf_Shared.f k a0 a1 a2) (kdf_Shared.f (k + 1) a0 a1 a2) := by
 intro a0 a1 a2 k
 unfold kdf_Shared.f
 repeat' first
   | (with_reducible exact kdf_secret_derive.mono _ _ _ _ _)
   | (with_reducible exact LeO.refl _)
   | (with_reducible exact LeO.none _)
   | (with_reducible refine LeO.ite ?_ ?_)
   | (with_reducible refine LeO.bind ?_ (fun _ => ?_))
   | exact kdf_secret_derive.mono _ _ _ _ _
   | exact LeO.none _
   | refine LeO.ite ?_ ?_
   | refine LeO.bind ?_ (fun _ => ?_)
def kdf_Shared.T2 : Bool × List (List Nat × List Nat) := (true, [([], []), ([0], [0]), ([], []), ([2], [2]), ([3], [3]), ([1, 4], [1, 4]), ([], []), ([6], [6]), ([], []), ([8], [8]), ([9], [9]), ([7, 10, 5], [7, 10]), ([5, 11, 0, 1, 2, 3, 4, 5], [5]), ([11, 12, 0, 1, 2, 3, 4, 5, 6, 7, 8, 9, 10, 11, 12], [11])])
def kdf_Shared.B2 : List Nat := [0, 1, 0, 4, 12, 31, 0, 64, 0, 256, 768, 2047, 4095, 8191]
theorem kdf_Shared.tab2 : rtab .any (opsOf Try.f22 2) = kdf_Shared.T2 := by kernel_rfl
theorem kdf_Shared.bits2 : waitsOk kdf_Shared.T2.2 kdf_Shared.B2 = true := by kernel_rfl
set_option maxHeartbeats 8000000 in
set_option maxRecDepth 100000 in
theorem kdf_Shared.calls (k : Nat) (a0 : ByteArray) (a1 : ByteArray) (a2 : ByteArray) (r1 : ByteArray) (r2 : ByteArray) (w : World) (h : kdf_Shared.f k a0 a1 a2 = some (r1, r2)) :
  Calls Try.prog 22 #[.string a0, .string a1, .string a2] w fun e w' => e = .returned (.tuple #[.string r1, .string r2]) ∧ Below w.heap.size w w' := by
 have hu56 := Try.underlying56
 have HB := Aside0.mk (Below.refl w.heap.size w)
 have H : ((kdf_Extract.f (⟨#[100, 111, 109, 105, 110, 111]⟩ : ByteArray) a0).bind fun t251 => ((digest_Sum.f (([a1, a2] : List ByteArray))).bind fun t255 => ((kdf_secret_derive.f k t251 32 (⟨#[99, 108, 105, 101, 110, 116]⟩ : ByteArray) (([t255] : List ByteArray))).bind fun t260 => ((kdf_secret_derive.f k t251 32 (⟨#[115, 101, 114, 118, 101, 114]⟩ : ByteArray) (([t255] : List ByteArray))).bind fun t264 => (some (t260, t264)))))) = some (r1, r2) := h
 clear h
 replace H := Option.bind_eq_some_iff.mp H
 obtain ⟨t251, A40, H⟩ := H
 replace H : ((digest_Sum.f (([a1, a2] : List ByteArray))).bind fun t255 => ((kdf_secret_derive.f k t251 32 (⟨#[99, 108, 105, 101, 110, 116]⟩ : ByteArray) (([t255] : List ByteArray))).bind fun t260 => ((kdf_secret_derive.f k t251 32 (⟨#[115, 101, 114, 118, 101, 114]⟩ : ByteArray) (([t255] : List ByteArray))).bind fun t264 => (some (t260, t264))))) = some (r1, r2) := H
 have A4 := Aside0.mk A40
 clear A40
 obtain ⟨y252, hy252⟩ : ∃ y_ : List ByteArray, y_ = (([a1, a2] : List ByteArray)) := ⟨_, rfl⟩
 replace H : ((digest_Sum.f y252).bind fun t255 => ((kdf_secret_derive.f k t251 32 (⟨#[99, 108, 105, 101, 110, 116]⟩ : ByteArray) (([t255] : List ByteArray))).bind fun t260 => ((kdf_secret_derive.f k t251 32 (⟨#[115, 101, 114, 118, 101, 114]⟩ : ByteArray) (([t255] : List ByteArray))).bind fun t264 => (some (t260, t264))))) = some (r1, r2) := by first | (rw [hy252]; with_reducible exact H) | (have H2_ := (Option.bind_some _ _).symm.trans H; rw [hy252]; with_reducible exact H2_) | (have H2_ := (Option.bind_some _ _).symm.trans H; with_reducible exact H2_) | with_reducible exact H | (rw [hy252]; exact H) | exact H
 have Ny252 := Aside0.mk hy252
 clear hy252
 replace H := Option.bind_eq_some_iff.mp H
 obtain ⟨t255, A50, H⟩ := H
 replace H : ((kdf_secret_derive.f k t251 32 (⟨#[99, 108, 105, 101, 110, 116]⟩ : ByteArray) (([t255] : List ByteArray))).bind fun t260 => ((kdf_secret_derive.f k t251 32 (⟨#[115, 101, 114, 118, 101, 114]⟩ : ByteArray) (([t255] : List ByteArray))).bind fun t264 => (some (t260, t264)))) = some (r1, r2) := H
 have A5 := Aside0.mk A50
 clear A50
 obtain ⟨y257, hy257⟩ : ∃ y_ : List ByteArray, y_ = (([t255] : List ByteArray)) := ⟨_, rfl⟩
 replace H : ((kdf_secret_derive.f k t251 32 (⟨#[99, 108, 105, 101, 110, 116]⟩ : ByteArray) y257).bind fun t260 => ((kdf_secret_derive.f k t251 32 (⟨#[115, 101, 114, 118, 101, 114]⟩ : ByteArray) (([t255] : List ByteArray))).bind fun t264 => (some (t260, t264)))) = some (r1, r2) := by first | (rw [hy257]; with_reducible exact H) | (have H2_ := (Option.bind_some _ _).symm.trans H; rw [hy257]; with_reducible exact H2_) | (have H2_ := (Option.bind_some _ _).symm.trans H; with_reducible exact H2_) | with_reducible exact H | (rw [hy257]; exact H) | exact H
 have Ny257 := Aside0.mk hy257
 clear hy257
 replace H := Option.bind_eq_some_iff.mp H
 obtain ⟨t260, A60, H⟩ := H
 replace H : ((kdf_secret_derive.f k t251 32 (⟨#[115, 101, 114, 118, 101, 114]⟩ : ByteArray) (([t255] : List ByteArray))).bind fun t264 => (some (t260, t264))) = some (r1, r2) := H
 have A6 := Aside0.mk A60
 clear A60
 obtain ⟨y261, hy261⟩ : ∃ y_ : List ByteArray, y_ = (([t255] : List ByteArray)) := ⟨_, rfl⟩
 replace H : ((kdf_secret_derive.f k t251 32 (⟨#[115, 101, 114, 118, 101, 114]⟩ : ByteArray) y261).bind fun t264 => (some (t260, t264))) = some (r1, r2) := by first | (rw [hy261]; with_reducible exact H) | (have H2_ := (Option.bind_some _ _).symm.trans H; rw [hy261]; with_reducible exact H2_) | (have H2_ := (Option.bind_some _ _).symm.trans H; with_reducible exact H2_) | with_reducible exact H | (rw [hy261]; exact H) | exact H
 have Ny261 := Aside0.mk hy261
 clear hy261
 replace H := Option.bind_eq_some_iff.mp H
 obtain ⟨t264, A70, H⟩ := H
 replace H : (some (t260, t264)) = some (r1, r2) := H
 have A7 := Aside0.mk A70
 clear A70
 simp only [Option.some.injEq, Prod.mk.injEq] at H
 obtain ⟨rfl, rfl⟩ := H
 go_enter Try.func22, Try.ntmps22
 try go_wp2_with (first | ((with_reducible refine gate_callee (f := 20) rfl ?_); refine goesL_ (some 10) rfl rfl Try.func20 (by kernel_rfl) rfl #[.string (⟨#[100, 111, 109, 105, 110, 111]⟩ : ByteArray), .string a0] rfl (by (try simp only [List.map_toArray, List.map_cons, List.map_nil]); first | done | rfl | (simp only [List.length_drop, List.length_take]; rfl)) ?_; (with_reducible refine (kdf_Extract.calls (⟨#[100, 111, 109, 105, 110, 111]⟩ : ByteArray) a0 t251 _ A4.out).mono ?_); rintro e w8 ⟨rfl, hb⟩; refine ⟨_, rfl, ?_⟩; have n0_ := Aside0.mk (below_step (by repeat (first | (with_reducible first | exact HB.out | apply below_alloc | apply pw_below_drewN | apply below_drew1) | exact HB.out)) hb); clear HB; have HB := n0_; clear n0_; (try clear hb); (try clear hb2); (try clear hk); (try clear hi)) | ((with_reducible refine gate_dst (N := 13) rfl ?_); refine Kd.R_lit Kd.string _ 9 ?hg (N := 13) ?hd (xs := ([a1, a2] : List ByteArray)) (inner := [.string a1, .string a2]) (ok := fun _ => True) (okp := fun _ => True) ?hr ?hp (fun _ hk => hk) trivial (Below.refl _ _) (Nat.le_refl _) (by simp) ?_; (case hd => rfl); (case hg => rfl); (case hr => first | (go_simp; done) | (go_simp; rfl)); (case hp => exact (Reps.one (show Kd.M Kd.string _ _ _ a1 [.string a1] from rfl) (Reps.one (show Kd.M Kd.string _ _ _ a2 [.string a2] from rfl) (Reps.none _ _)))); intro v253 w9 ho10 hb hg_ hnew_; clear hg_ hnew_; (first | rw [← Ny252.out] at ho10 | (simp only [Int.reduceToNat] at ho10; rw [← Ny252.out] at ho10)); have n0_ := Aside0.mk (Kd.R_lower ho10 (below_size (by repeat (first | (with_reducible first | exact HB.out | apply below_alloc | apply pw_below_drewN | apply below_drew1) | exact HB.out)))); have n1_ := Aside0.mk (below_step (by repeat (first | (with_reducible first | exact HB.out | apply below_alloc | apply pw_below_drewN | apply below_drew1) | exact HB.out)) hb); clear HB; have HO254 := n0_; have HB := n1_; clear n0_ n1_; clear hb ho10; obtain ⟨Ao11, co11, eo11⟩ := Kd.R_slice HO254.out; subst eo11) | ((with_reducible refine gate_callee (f := 33) rfl ?_); refine goesL_ (some 14) rfl rfl Try.func33 (by kernel_rfl) rfl #[.slice Ao11 y252.length co11] rfl (by (try simp only [List.map_toArray, List.map_cons, List.map_nil]); first | done | rfl | (simp only [List.length_drop, List.length_take]; rfl)) ?_; (with_reducible refine (digest_Sum.calls _ _ y252 t255 _ ?side1 ?side2 A5.out).mono ?_); (case side1 => repeat (first | exact (Kd.R_reads' HO254.out).2.2 | (with_reducible refine Kd.C_alloc ?_ _) | (with_reducible refine Kd.C_drewN ?_ _) | (with_reducible refine Kd.C_drew ?_))); (case side2 => exact (Kd.R_reads' HO254.out).2.1); rintro e w12 ⟨rfl, hb⟩; refine ⟨_, rfl, ?_⟩; have n0_ := Aside0.mk (Kd.R_below (by (with_reducible repeat (first | apply Kd.R_alloc | apply Kd.R_drewN | apply Kd.R_drew)); exact HO254.out) hb); have n1_ := Aside0.mk (below_step (by repeat (first | (with_reducible first | exact HB.out | apply below_alloc | apply pw_below_drewN | apply below_drew1) | exact HB.out)) hb); clear HO254; clear HB; have HO254 := n0_; have HB := n1_; clear n0_ n1_; (try clear hb); (try clear hb2); (try clear hk); (try clear hi)) | ((with_reducible refine gate_dst (N := 8) rfl ?_); refine box_event ?hg (N := 8) ?hd (cs := #[.string (⟨#[]⟩ : ByteArray), .string (⟨#[]⟩ : ByteArray)]) (t := 56) ?hr ?_; (case hd => rfl); (case hg => rfl); (case hr => first | (go_simp; done) | (go_simp; rfl)); intro gb256 hg w13 hbox hb; have n0_ := Aside0.mk (Kd.R_below (by (with_reducible repeat (first | apply Kd.R_alloc | apply Kd.R_drewN | apply Kd.R_drew)); exact HO254.out) hb); have n1_ := Aside0.mk (below_step (by repeat (first | (with_reducible first | exact HB.out | apply below_alloc | apply pw_below_drewN | apply below_drew1) | exact HB.out)) hb); have n2_ := Aside0.mk (hbox); have n3_ := Aside0.mk ((by rw [hg]; exact (below_size (by repeat (first | (with_reducible first | exact HB.out | apply below_alloc | apply pw_below_drewN | apply below_drew1) | exact HB.out))) : w.heap.size ≤ gb256)); have n4_ := Aside0.mk ((by rw [hg]; exact (below_size (by repeat (first | (with_reducible first | exact HB.out | apply below_alloc | apply pw_below_drewN | apply below_drew1) | exact HB.out))) : w.heap.size ≤ gb256)); clear HO254; clear HB; have HO254 := n0_; have HB := n1_; have BK256 := n2_; have GW256 := n3_; have GE256 := n4_; clear n0_ n1_ n2_ n3_ n4_; clear hb hbox hg; have hcz14_0 : w13.cell? ⟨gb256, 0, none⟩ = some (.string (⟨#[]⟩ : ByteArray)) := (blk_cell BK256.out 0).trans rfl; have hcz14_1 : w13.cell? ⟨gb256, 1, none⟩ = some (.string (⟨#[]⟩ : ByteArray)) := (blk_cell BK256.out 1).trans rfl; have hfz14_0 := blk_frozen BK256.out 0; have hfz14_1 := blk_frozen BK256.out 1))
 have n0_ : Aside0 (Kd.R Kd.string 9 ((w13.setCell ⟨gb256, 0, none⟩ (.string t251)).setCell ⟨gb256, 1, none⟩ (.string t255)) w.heap.size (fun _ => True) (.slice Ao11 y252.length co11) y252) := ⟨by (with_reducible repeat (first | apply Kd.R_alloc | apply Kd.R_drewN | apply Kd.R_drew)); exact Kd.R_mono (Kd.R_far (p := ⟨gb256, 1, none⟩) (Kd.R_far (p := ⟨gb256, 0, none⟩) (Kd.R_types HO254.out BK256.out (by decide)) (fun _ hk => by first | exact hk.2 | exact trivial) (.string t251)) (fun _ hk => by first | exact hk.2 | exact trivial) (.string t255)) (fun _ hk => trivial)⟩
 have n1_ : Aside0 (((w13.setCell ⟨gb256, 0, none⟩ (.string t251)).setCell ⟨gb256, 1, none⟩ (.string t255)).heap[gb256]? = some (.cells #[.string t251, .string t255] 56 (0, 0))) := ⟨by (with_reducible repeat (first | refine blk_drewN ?_ _ | refine blk_drew ?_ | refine blk_alloc ?_ _)); refine blk_put (cs := #[.string t251, .string (⟨#[]⟩ : ByteArray)]) ?_ 1 _ rfl; (with_reducible repeat (first | refine blk_drewN ?_ _ | refine blk_drew ?_ | refine blk_alloc ?_ _)); refine blk_put (cs := #[.string (⟨#[]⟩ : ByteArray), .string (⟨#[]⟩ : ByteArray)]) ?_ 0 _ rfl; (with_reducible repeat (first | refine blk_drewN ?_ _ | refine blk_drew ?_ | refine blk_alloc ?_ _)); exact BK256.out⟩
 have n2_ : Aside0 (Below w.heap.size w ((w13.setCell ⟨gb256, 0, none⟩ (.string t251)).setCell ⟨gb256, 1, none⟩ (.string t255))) := ⟨by repeat (first | (with_reducible first | exact HB.out | apply below_alloc | apply pw_below_drewN | apply below_drew1 | refine below_set ?_ GE256.out) | exact HB.out)⟩
 (try clear HO254)
 (try clear BK256)
 (try clear HB)
 generalize ((w13.setCell ⟨gb256, 0, none⟩ (.string t251)).setCell ⟨gb256, 1, none⟩ (.string t255)) = w15 at n0_ n1_ n2_ ⊢
 have HO254 := n0_
 have BK256 := n1_
 have HB := n2_
 clear n0_ n1_ n2_
 have n0_ := Aside0.mk (Kd.R_drew HO254.out)
 have n1_ := Aside0.mk (blk_drew BK256.out)
 have n2_ := Aside0.mk (below_drew1 HB.out)
 clear HO254
 clear BK256
 clear HB
 have HO254 := n0_
 have BK256 := n1_
 have HB := n2_
 clear n0_ n1_ n2_
 refine start_ (n := 14) (S := fun w' => True) (ds := []) #[false,false,false,false,false,false,false,false,false,false,false,false,false,false] (by kernel_rfl) rfl rfl trivial (fun hHeld => ?_); refine with_tabW kdf_Shared.tab2 kdf_Shared.bits2 (fun HT_ HW_ => ?_)
 generalize w15.drew = w16 at HO254 BK256 HB hHeld ⊢
 refine pure_ (i := 0) (N := some 16) (v := ?_) (a' := ?_) #[true,false,false,false,false,false,false,false,false,false,false,false,false,false] rfl rfl (any_of HT_.out (by kernel_rfl)) (fun _ _ _ h => h) (Or.inl ⟨by rfl, ?_⟩) ?_ ?_
 rotate_left;(intro w';go_simp;with_reducible rfl);rotate_left;(simp only [Act.put, List.setIfInBounds_toArray, List.set_cons_zero, List.set_cons_succ, i64_w, i32_w];rfl)
 refine pure_ (i := 2) (N := some 18) (v := ?_) (a' := ?_) #[true,false,true,false,false,false,false,false,false,false,false,false,false,false] rfl rfl (any_of HT_.out (by kernel_rfl)) (fun _ _ _ h => h) (Or.inl ⟨by rfl, ?_⟩) ?_ ?_
 rotate_left;(intro w';go_simp;with_reducible rfl);rotate_left;(simp only [Act.put, List.setIfInBounds_toArray, List.set_cons_zero, List.set_cons_succ, i64_w, i32_w];rfl)
 refine pure_ (i := 6) (N := some 22) (v := ?_) (a' := ?_) #[true,false,true,false,false,false,true,false,false,false,false,false,false,false] rfl rfl (any_of HT_.out (by kernel_rfl)) (fun _ _ _ h => h) (Or.inl ⟨by rfl, ?_⟩) ?_ ?_
 rotate_left;(intro w';go_simp;with_reducible rfl);rotate_left;(simp only [Act.put, List.setIfInBounds_toArray, List.set_cons_zero, List.set_cons_succ, i64_w, i32_w];rfl)
 refine pure_ (i := 8) (N := some 24) (v := ?_) (a' := ?_) #[true,false,true,false,false,false,true,false,true,false,false,false,false,false] rfl rfl (any_of HT_.out (by kernel_rfl)) (fun _ _ _ h => h) (Or.inl ⟨by rfl, ?_⟩) ?_ ?_
 rotate_left;(intro w';go_simp;with_reducible rfl);rotate_left;(simp only [Act.put, List.setIfInBounds_toArray, List.set_cons_zero, List.set_cons_succ, i64_w, i32_w];rfl)
 refine inv_at [1, 3, 4, 5, 7, 9, 10, 11, 12, 13] (fun a0_ b a w' => ∃ (v258 : Value) (v262 : Value), a = putSel a0_ b [(1, 17, .string t251), (3, 19, .string t255), (4, 20, v258), (5, 21, .string t260), (7, 23, .string t251), (9, 25, .string t255), (10, 26, v262), (11, 27, .string t264), (12, 6, .string t260), (13, 7, .string t264)] ∧ (Kd.R Kd.string 9 w' w.heap.size (fun _ => True) (.slice Ao11 y252.length co11) y252) ∧ (w'.heap[gb256]? = some (.cells #[.string t251, .string t255] 56 (0, 0))) ∧ (Below w.heap.size w w') ∧ (b 4 = true → Kd.R Kd.string 9 w' w.heap.size (fun k_ => some k_ ≠ (.slice Ao11 y252.length co11 : Value).ownBlock) v258 y257) ∧ (b 10 = true → Kd.R Kd.string 9 w' w.heap.size (fun k_ => some k_ ≠ (.slice Ao11 y252.length co11 : Value).ownBlock) v262 y261)) HT_.out HW_.out (by kernel_rfl) (by kernel_rfl) ?_ ?_ ?_
 ·exact ⟨.bool false, .bool false, by simp only [putSel, Bool.false_eq_true, if_false], HO254.out, BK256.out, HB.out, fun h_ => absurd h_ (by decide), fun h_ => absurd h_ (by decide)⟩
 ·skip
  clear BK256 HB HO254
  refine steps_cons ?_ ?_
  ·rintro b a w' ⟨v258, v262, ha, Q_HO254, Q_BK256, Q_HB, Q_HO259, Q_HO263⟩ hb_ hon hoff
   refine ⟨_, rfl, fun K hK => ?_⟩
   have e16 : a.tmps[16]? = some (.pointer (some ⟨gb256, 0, none⟩)) := by rw [ha]; exact (putSel_off rfl).trans rfl
   replace ha := Aside0.mk ha
   have HO254 := Aside0.mk Q_HO254
   have BK256 := Aside0.mk Q_BK256
   have HB := Aside0.mk Q_HB
   have hc0_ : w'.cell? ⟨gb256, 0, none⟩ = some (.string t251) := (blk_cell BK256.out 0).trans rfl
   have hc1_ : w'.cell? ⟨gb256, 1, none⟩ = some (.string t255) := (blk_cell BK256.out 1).trans rfl
   refine value_ (w1 := w') (v := .string t251) (by rfl) rfl ?_ ?_
   ·go_simp
    (try simp only [i64_w])
    try rfl
   refine hK.out _ _ ⟨v258, v262, (by rw [ha.out]; exact putSel_upk 0 hb_ rfl rfl rfl), Q_HO254, Q_BK256, Q_HB, Q_HO259, Q_HO263⟩
  refine steps_cons ?_ ?_
  ·rintro b a w' ⟨v258, v262, ha, Q_HO254, Q_BK256, Q_HB, Q_HO259, Q_HO263⟩ hb_ hon hoff
   refine ⟨_, rfl, fun K hK => ?_⟩
   have e18 : a.tmps[18]? = some (.pointer (some ⟨gb256, 1, none⟩)) := by rw [ha]; exact (putSel_off rfl).trans rfl
   replace ha := Aside0.mk ha
   have HO254 := Aside0.mk Q_HO254
   have BK256 := Aside0.mk Q_BK256
   have HB := Aside0.mk Q_HB
   have hc0_ : w'.cell? ⟨gb256, 0, none⟩ = some (.string t251) := (blk_cell BK256.out 0).trans rfl
   have hc1_ : w'.cell? ⟨gb256, 1, none⟩ = some (.string t255) := (blk_cell BK256.out 1).trans rfl
   refine value_ (w1 := w') (v := .string t255) (by rfl) rfl ?_ ?_
   ·go_simp
    (try simp only [i64_w])
    try rfl
   refine hK.out _ _ ⟨v258, v262, (by rw [ha.out]; exact putSel_upk 1 hb_ rfl rfl rfl), Q_HO254, Q_BK256, Q_HB, fun h0_ => absurd ((hoff 4 (by kernel_rfl)).symm.trans h0_) (by decide), Q_HO263⟩
  refine steps_cons ?_ ?_
  ·rintro b a w' ⟨v258, v262, ha, Q_HO254, Q_BK256, Q_HB, Q_HO259, Q_HO263⟩ hb_ hon hoff
   refine ⟨_, rfl, fun K hK => ?_⟩
   have e19 : a.tmps[19]? = some (.string t255) := by rw [ha]; exact putSel_on (e := (3, 19, .string t255)) 1 rfl rfl (hon 3 (by kernel_rfl)) rfl
   replace ha := Aside0.mk ha
   have HO254 := Aside0.mk Q_HO254
   have BK256 := Aside0.mk Q_BK256
   have HB := Aside0.mk Q_HB
   refine Kd.R_lit_step Kd.string _ 9 ?hg (N := 20) ?hd (xs := ([t255] : List ByteArray)) (inner := [.string t255]) (ok := fun _ => True) (okp := fun _ => True) ?hr ?hp (fun _ hk => hk) trivial (Below.refl _ _) (Nat.le_refl _) (by simp) ?_; (case hd => rfl); (case hg => rfl); (case hr => first | (go_simp; done) | (go_simp; rfl)); (case hp => exact (Reps.one (show Kd.M Kd.string _ _ _ t255 [.string t255] from rfl) (Reps.none _ _)))
   intro v258 w17 ho18 hb hg_ hnew_
   clear hg_ hnew_
   (first | rw [← Ny257.out] at ho18 | (simp only [Int.reduceToNat] at ho18; rw [← Ny257.out] at ho18))
   have n0_ := Aside0.mk (Kd.R_elder' (by (with_reducible repeat (first | apply Kd.R_alloc | apply Kd.R_drewN | apply Kd.R_drew)); exact HO254.out) (Kd.R_base ho18) hb)
   have n1_ := Aside0.mk (Kd.R_lower (Kd.R_new' ho18 (Kd.R_lt (by (with_reducible repeat (first | apply Kd.R_alloc | apply Kd.R_drewN | apply Kd.R_drew)); exact HO254.out))) (below_size (by repeat (first | (with_reducible first | exact HB.out | apply below_alloc | apply pw_below_drewN | apply below_drew1 | refine below_set ?_ GE256.out) | exact HB.out))))
   have n2_ := Aside0.mk (blk_below (g := gb256) (o := .cells #[.string t251, .string t255] 56 (0, 0)) (by (with_reducible repeat (first | refine blk_drewN ?_ _ | refine blk_drew ?_ | refine blk_alloc ?_ _)); exact BK256.out) hb)
   have n3_ := Aside0.mk (below_step (by repeat (first | (with_reducible first | exact HB.out | apply below_alloc | apply pw_below_drewN | apply below_drew1 | refine below_set ?_ GE256.out) | exact HB.out)) hb)
   have z_HO263 := fun (h0_ : b 10 = true) => (show Kd.R Kd.string 9 w17 w.heap.size (fun k_ => some k_ ≠ (.slice Ao11 y252.length co11 : Value).ownBlock) v262 y261 from by first | exact (Kd.R_elder' (by (with_reducible repeat (first | apply Kd.R_alloc | apply Kd.R_drewN | apply Kd.R_drew)); exact (Q_HO263 h0_)) (Kd.R_base ho18) hb) | exact Kd.R_mono (Kd.R_elder' (by (with_reducible repeat (first | apply Kd.R_alloc | apply Kd.R_drewN | apply Kd.R_drew)); exact (Q_HO263 h0_)) (Kd.R_base ho18) hb) (fun _ h_ => by first | trivial | exact h_ | exact h_.1))
   clear HO254
   clear BK256
   clear HB
   have HO254 := n0_
   have HO259 := n1_
   have BK256 := n2_
   have HB := n3_
   clear n0_ n1_ n2_ n3_
   clear hb ho18
   refine hK.out _ _ ⟨v258, v262, (by rw [ha.out]; exact putSel_upk 2 hb_ rfl rfl rfl), (by (with_reducible repeat (first | apply Kd.R_alloc | apply Kd.R_drewN | apply Kd.R_drew)); exact Kd.R_mono HO254.out (fun _ hk => by first | exact hk.2 | exact trivial)), (by (with_reducible repeat (first | refine blk_drewN ?_ _ | refine blk_drew ?_ | refine blk_alloc ?_ _)); exact BK256.out), (by repeat (first | (with_reducible first | exact HB.out | apply below_alloc | apply pw_below_drewN | apply below_drew1 | refine below_set ?_ GE256.out) | exact HB.out)), fun _ => (by (with_reducible repeat (first | apply Kd.R_alloc | apply Kd.R_drewN | apply Kd.R_drew)); exact Kd.R_mono HO259.out (fun _ hk => by first | exact hk.2 | exact trivial)), z_HO263⟩
  refine steps_cons ?_ ?_
  ·rintro b a w' ⟨v258, v262, ha, Q_HO254, Q_BK256, Q_HB, Q_HO259, Q_HO263⟩ hb_ hon hoff
   refine ⟨_, rfl, fun K hK => ?_⟩
   have e17 : a.tmps[17]? = some (.string t251) := by rw [ha]; exact putSel_on (e := (1, 17, .string t251)) 0 rfl rfl (hon 1 (by kernel_rfl)) rfl
   have e20 : a.tmps[20]? = some (v258) := by rw [ha]; exact putSel_on (e := (4, 20, v258)) 2 rfl rfl (hon 4 (by kernel_rfl)) rfl
   replace ha := Aside0.mk ha
   have HO254 := Aside0.mk Q_HO254
   have BK256 := Aside0.mk Q_BK256
   have HB := Aside0.mk Q_HB
   have HO259 := Aside0.mk (Q_HO259 (hon 4 (by kernel_rfl)))
   obtain ⟨Ao20, co20, eo20⟩ := Kd.R_slice HO259.out
   (first | subst eo20 | (injection eo20 with f1_ f2_ f3_; have f4_ := f1_.symm; have f5_ := f3_.symm; clear f1_ f2_ f3_; subst f4_; subst f5_))
   refine goes_ Try.func32 (by kernel_rfl) rfl #[.string t251, .int .i64 32, .string (⟨#[99, 108, 105, 101, 110, 116]⟩ : ByteArray), .slice Ao20 y257.length co20] (by rfl) rfl rfl (by first | (simp only [List.map_toArray, List.map_cons, List.map_nil, Act.eval, Array.getD_eq_getD_getElem?, Option.getD_some, e17, e20]; done) | (simp only [List.map_toArray, List.map_cons, List.map_nil, Act.eval, Array.getD_eq_getD_getElem?, Option.getD_some, e17, e20]; rfl)) ?_
   with_reducible refine (kdf_secret_derive.calls k t251 32 (⟨#[99, 108, 105, 101, 110, 116]⟩ : ByteArray) _ _ y257 t260 _ ?side1 ?side2 A6.out).mono ?_
   (case side1 => repeat (first | exact (Kd.R_reads' HO259.out).2.2 | (with_reducible refine Kd.C_alloc ?_ _) | (with_reducible refine Kd.C_drewN ?_ _) | (with_reducible refine Kd.C_drew ?_)))
   (case side2 => exact (Kd.R_reads' HO259.out).2.1)
   rintro e w21 ⟨rfl, hb⟩
   refine ⟨_, rfl, ?_⟩
   have n0_ := Aside0.mk (Kd.R_below (by (with_reducible repeat (first | apply Kd.R_alloc | apply Kd.R_drewN | apply Kd.R_drew)); exact HO254.out) hb)
   have n1_ := Aside0.mk (Kd.R_below (by (with_reducible repeat (first | apply Kd.R_alloc | apply Kd.R_drewN | apply Kd.R_drew)); exact HO259.out) hb)
   have n2_ := Aside0.mk (blk_below (g := gb256) (o := .cells #[.string t251, .string t255] 56 (0, 0)) (by (with_reducible repeat (first | refine blk_drewN ?_ _ | refine blk_drew ?_ | refine blk_alloc ?_ _)); exact BK256.out) hb)
   have n3_ := Aside0.mk (below_step (by repeat (first | (with_reducible first | exact HB.out | apply below_alloc | apply pw_below_drewN | apply below_drew1 | refine below_set ?_ GE256.out) | exact HB.out)) hb)
   have z_HO263 := fun (h0_ : b 10 = true) => (show Kd.R Kd.string 9 w21 w.heap.size (fun k_ => some k_ ≠ (.slice Ao11 y252.length co11 : Value).ownBlock) v262 y261 from by first | exact (Kd.R_below (by (with_reducible repeat (first | apply Kd.R_alloc | apply Kd.R_drewN | apply Kd.R_drew)); exact (Q_HO263 h0_)) hb) | exact Kd.R_mono (Kd.R_below (by (with_reducible repeat (first | apply Kd.R_alloc | apply Kd.R_drewN | apply Kd.R_drew)); exact (Q_HO263 h0_)) hb) (fun _ h_ => by first | trivial | exact h_ | exact h_.1))
   clear HO254
   clear HO259
   clear BK256
   clear HB
   have HO254 := n0_
   have HO259 := n1_
   have BK256 := n2_
   have HB := n3_
   clear n0_ n1_ n2_ n3_
   (try clear hb)
   (try clear hb2)
   (try clear hk)
   (try clear hi)
   refine hK.out _ _ ⟨.slice Ao20 y257.length co20, v262, (by rw [ha.out]; exact putSel_upk 3 hb_ rfl rfl rfl), (by (with_reducible repeat (first | apply Kd.R_alloc | apply Kd.R_drewN | apply Kd.R_drew)); exact HO254.out), (by (with_reducible repeat (first | refine blk_drewN ?_ _ | refine blk_drew ?_ | refine blk_alloc ?_ _)); exact BK256.out), (by repeat (first | (with_reducible first | exact HB.out | apply below_alloc | apply pw_below_drewN | apply below_drew1 | refine below_set ?_ GE256.out) | exact HB.out)), fun _ => (by (with_reducible repeat (first | apply Kd.R_alloc | apply Kd.R_drewN | apply Kd.R_drew)); exact HO259.out), z_HO263⟩
  refine steps_cons ?_ ?_
  ·rintro b a w' ⟨v258, v262, ha, Q_HO254, Q_BK256, Q_HB, Q_HO259, Q_HO263⟩ hb_ hon hoff
   refine ⟨_, rfl, fun K hK => ?_⟩
   have e22 : a.tmps[22]? = some (.pointer (some ⟨gb256, 0, none⟩)) := by rw [ha]; exact (putSel_off rfl).trans rfl
   replace ha := Aside0.mk ha
   have HO254 := Aside0.mk Q_HO254
   have BK256 := Aside0.mk Q_BK256
   have HB := Aside0.mk Q_HB
   have hc0_ : w'.cell? ⟨gb256, 0, none⟩ = some (.string t251) := (blk_cell BK256.out 0).trans rfl
   have hc1_ : w'.cell? ⟨gb256, 1, none⟩ = some (.string t255) := (blk_cell BK256.out 1).trans rfl
   refine value_ (w1 := w') (v := .string t251) (by rfl) rfl ?_ ?_
   ·go_simp
    (try simp only [i64_w])
    try rfl
   refine hK.out _ _ ⟨v258, v262, (by rw [ha.out]; exact putSel_upk 4 hb_ rfl rfl rfl), Q_HO254, Q_BK256, Q_HB, Q_HO259, Q_HO263⟩
  refine steps_cons ?_ ?_
  ·rintro b a w' ⟨v258, v262, ha, Q_HO254, Q_BK256, Q_HB, Q_HO259, Q_HO263⟩ hb_ hon hoff
   refine ⟨_, rfl, fun K hK => ?_⟩
   have e24 : a.tmps[24]? = some (.pointer (some ⟨gb256, 1, none⟩)) := by rw [ha]; exact (putSel_off rfl).trans rfl
   replace ha := Aside0.mk ha
   have HO254 := Aside0.mk Q_HO254
   have BK256 := Aside0.mk Q_BK256
   have HB := Aside0.mk Q_HB
   have hc0_ : w'.cell? ⟨gb256, 0, none⟩ = some (.string t251) := (blk_cell BK256.out 0).trans rfl
   have hc1_ : w'.cell? ⟨gb256, 1, none⟩ = some (.string t255) := (blk_cell BK256.out 1).trans rfl
   refine value_ (w1 := w') (v := .string t255) (by rfl) rfl ?_ ?_
   ·go_simp
    (try simp only [i64_w])
    try rfl
   refine hK.out _ _ ⟨v258, v262, (by rw [ha.out]; exact putSel_upk 5 hb_ rfl rfl rfl), Q_HO254, Q_BK256, Q_HB, Q_HO259, fun h0_ => absurd ((hoff 10 (by kernel_rfl)).symm.trans h0_) (by decide)⟩
  refine steps_cons ?_ ?_
  ·rintro b a w' ⟨v258, v262, ha, Q_HO254, Q_BK256, Q_HB, Q_HO259, Q_HO263⟩ hb_ hon hoff
   refine ⟨_, rfl, fun K hK => ?_⟩
   have e25 : a.tmps[25]? = some (.string t255) := by rw [ha]; exact putSel_on (e := (9, 25, .string t255)) 5 rfl rfl (hon 9 (by kernel_rfl)) rfl
   replace ha := Aside0.mk ha
   have HO254 := Aside0.mk Q_HO254
   have BK256 := Aside0.mk Q_BK256
   have HB := Aside0.mk Q_HB
   refine Kd.R_lit_step Kd.string _ 9 ?hg (N := 26) ?hd (xs := ([t255] : List ByteArray)) (inner := [.string t255]) (ok := fun _ => True) (okp := fun _ => True) ?hr ?hp (fun _ hk => hk) trivial (Below.refl _ _) (Nat.le_refl _) (by simp) ?_; (case hd => rfl); (case hg => rfl); (case hr => first | (go_simp; done) | (go_simp; rfl)); (case hp => exact (Reps.one (show Kd.M Kd.string _ _ _ t255 [.string t255] from rfl) (Reps.none _ _)))
   intro v262 w17 ho18 hb hg_ hnew_
   clear hg_ hnew_
   (first | rw [← Ny261.out] at ho18 | (simp only [Int.reduceToNat] at ho18; rw [← Ny261.out] at ho18))
   have n0_ := Aside0.mk (Kd.R_elder' (by (with_reducible repeat (first | apply Kd.R_alloc | apply Kd.R_drewN | apply Kd.R_drew)); exact HO254.out) (Kd.R_base ho18) hb)
   have n1_ := Aside0.mk (Kd.R_lower (Kd.R_new' ho18 (Kd.R_lt (by (with_reducible repeat (first | apply Kd.R_alloc | apply Kd.R_drewN | apply Kd.R_drew)); exact HO254.out))) (below_size (by repeat (first | (with_reducible first | exact HB.out | apply below_alloc | apply pw_below_drewN | apply below_drew1 | refine below_set ?_ GE256.out) | exact HB.out))))
   have n2_ := Aside0.mk (blk_below (g := gb256) (o := .cells #[.string t251, .string t255] 56 (0, 0)) (by (with_reducible repeat (first | refine blk_drewN ?_ _ | refine blk_drew ?_ | refine blk_alloc ?_ _)); exact BK256.out) hb)
   have n3_ := Aside0.mk (below_step (by repeat (first | (with_reducible first | exact HB.out | apply below_alloc | apply pw_below_drewN | apply below_drew1 | refine below_set ?_ GE256.out) | exact HB.out)) hb)
   have z_HO259 := fun (h0_ : b 4 = true) => (show Kd.R Kd.string 9 w17 w.heap.size (fun k_ => some k_ ≠ (.slice Ao11 y252.length co11 : Value).ownBlock) v258 y257 from by first | exact (Kd.R_elder' (by (with_reducible repeat (first | apply Kd.R_alloc | apply Kd.R_drewN | apply Kd.R_drew)); exact (Q_HO259 h0_)) (Kd.R_base ho18) hb) | exact Kd.R_mono (Kd.R_elder' (by (with_reducible repeat (first | apply Kd.R_alloc | apply Kd.R_drewN | apply Kd.R_drew)); exact (Q_HO259 h0_)) (Kd.R_base ho18) hb) (fun _ h_ => by first | trivial | exact h_ | exact h_.1))
   clear HO254
   clear BK256
   clear HB
   have HO254 := n0_
   have HO263 := n1_
   have BK256 := n2_
   have HB := n3_
   clear n0_ n1_ n2_ n3_
   clear hb ho18
   refine hK.out _ _ ⟨v258, v262, (by rw [ha.out]; exact putSel_upk 6 hb_ rfl rfl rfl), (by (with_reducible repeat (first | apply Kd.R_alloc | apply Kd.R_drewN | apply Kd.R_drew)); exact Kd.R_mono HO254.out (fun _ hk => by first | exact hk.2 | exact trivial)), (by (with_reducible repeat (first | refine blk_drewN ?_ _ | refine blk_drew ?_ | refine blk_alloc ?_ _)); exact BK256.out), (by repeat (first | (with_reducible first | exact HB.out | apply below_alloc | apply pw_below_drewN | apply below_drew1 | refine below_set ?_ GE256.out) | exact HB.out)), z_HO259, fun _ => (by (with_reducible repeat (first | apply Kd.R_alloc | apply Kd.R_drewN | apply Kd.R_drew)); exact Kd.R_mono HO263.out (fun _ hk => by first | exact hk.2 | exact trivial))⟩
  refine steps_cons ?_ ?_
  ·rintro b a w' ⟨v258, v262, ha, Q_HO254, Q_BK256, Q_HB, Q_HO259, Q_HO263⟩ hb_ hon hoff
   refine ⟨_, rfl, fun K hK => ?_⟩
   have e23 : a.tmps[23]? = some (.string t251) := by rw [ha]; exact putSel_on (e := (7, 23, .string t251)) 4 rfl rfl (hon 7 (by kernel_rfl)) rfl
   have e26 : a.tmps[26]? = some (v262) := by rw [ha]; exact putSel_on (e := (10, 26, v262)) 6 rfl rfl (hon 10 (by kernel_rfl)) rfl
   replace ha := Aside0.mk ha
   have HO254 := Aside0.mk Q_HO254
   have BK256 := Aside0.mk Q_BK256
   have HB := Aside0.mk Q_HB
   have HO259 := Aside0.mk (Q_HO259 (hon 4 (by kernel_rfl)))
   have HO263 := Aside0.mk (Q_HO263 (hon 10 (by kernel_rfl)))
   obtain ⟨Ao24, co24, eo24⟩ := Kd.R_slice HO263.out
   (first | subst eo24 | (injection eo24 with f1_ f2_ f3_; have f4_ := f1_.symm; have f5_ := f3_.symm; clear f1_ f2_ f3_; subst f4_; subst f5_))
   refine goes_ Try.func32 (by kernel_rfl) rfl #[.string t251, .int .i64 32, .string (⟨#[115, 101, 114, 118, 101, 114]⟩ : ByteArray), .slice Ao24 y261.length co24] (by rfl) rfl rfl (by first | (simp only [List.map_toArray, List.map_cons, List.map_nil, Act.eval, Array.getD_eq_getD_getElem?, Option.getD_some, e23, e26]; done) | (simp only [List.map_toArray, List.map_cons, List.map_nil, Act.eval, Array.getD_eq_getD_getElem?, Option.getD_some, e23, e26]; rfl)) ?_
   with_reducible refine (kdf_secret_derive.calls k t251 32 (⟨#[115, 101, 114, 118, 101, 114]⟩ : ByteArray) _ _ y261 t264 _ ?side1 ?side2 A7.out).mono ?_
   (case side1 => repeat (first | exact (Kd.R_reads' HO263.out).2.2 | (with_reducible refine Kd.C_alloc ?_ _) | (with_reducible refine Kd.C_drewN ?_ _) | (with_reducible refine Kd.C_drew ?_)))
   (case side2 => exact (Kd.R_reads' HO263.out).2.1)
   rintro e w25 ⟨rfl, hb⟩
   refine ⟨_, rfl, ?_⟩
   have n0_ := Aside0.mk (Kd.R_below (by (with_reducible repeat (first | apply Kd.R_alloc | apply Kd.R_drewN | apply Kd.R_drew)); exact HO254.out) hb)
   have n1_ := Aside0.mk (Kd.R_below (by (with_reducible repeat (first | apply Kd.R_alloc | apply Kd.R_drewN | apply Kd.R_drew)); exact HO259.out) hb)
   have n2_ := Aside0.mk (Kd.R_below (by (with_reducible repeat (first | apply Kd.R_alloc | apply Kd.R_drewN | apply Kd.R_drew)); exact HO263.out) hb)
   have n3_ := Aside0.mk (blk_below (g := gb256) (o := .cells #[.string t251, .string t255] 56 (0, 0)) (by (with_reducible repeat (first | refine blk_drewN ?_ _ | refine blk_drew ?_ | refine blk_alloc ?_ _)); exact BK256.out) hb)
   have n4_ := Aside0.mk (below_step (by repeat (first | (with_reducible first | exact HB.out | apply below_alloc | apply pw_below_drewN | apply below_drew1 | refine below_set ?_ GE256.out) | exact HB.out)) hb)
   clear HO254
   clear HO259
   clear HO263
   clear BK256
   clear HB
   have HO254 := n0_
   have HO259 := n1_
   have HO263 := n2_
   have BK256 := n3_
   have HB := n4_
   clear n0_ n1_ n2_ n3_ n4_
   (try clear hb)
   (try clear hb2)
   (try clear hk)
   (try clear hi)
   refine hK.out _ _ ⟨v258, .slice Ao24 y261.length co24, (by rw [ha.out]; exact putSel_upk 7 hb_ rfl rfl rfl), (by (with_reducible repeat (first | apply Kd.R_alloc | apply Kd.R_drewN | apply Kd.R_drew)); exact HO254.out), (by (with_reducible repeat (first | refine blk_drewN ?_ _ | refine blk_drew ?_ | refine blk_alloc ?_ _)); exact BK256.out), (by repeat (first | (with_reducible first | exact HB.out | apply below_alloc | apply pw_below_drewN | apply below_drew1 | refine below_set ?_ GE256.out) | exact HB.out)), fun _ => (by (with_reducible repeat (first | apply Kd.R_alloc | apply Kd.R_drewN | apply Kd.R_drew)); exact HO259.out), fun _ => (by (with_reducible repeat (first | apply Kd.R_alloc | apply Kd.R_drewN | apply Kd.R_drew)); exact HO263.out)⟩
  refine steps_cons ?_ ?_
  ·rintro b a w' ⟨v258, v262, ha, Q_HO254, Q_BK256, Q_HB, Q_HO259, Q_HO263⟩ hb_ hon hoff
   refine ⟨_, rfl, fun K hK => ?_⟩
   have e21 : a.tmps[21]? = some (.string t260) := by rw [ha]; exact putSel_on (e := (5, 21, .string t260)) 3 rfl rfl (hon 5 (by kernel_rfl)) rfl
   replace ha := Aside0.mk ha
   have HO254 := Aside0.mk Q_HO254
   have BK256 := Aside0.mk Q_BK256
   have HB := Aside0.mk Q_HB
   have HO259 := Aside0.mk (Q_HO259 (hon 4 (by kernel_rfl)))
   have HO263 := Aside0.mk (Q_HO263 (hon 10 (by kernel_rfl)))
   refine value_ (w1 := w') (v := .string t260) (by rfl) rfl ?_ ?_
   ·go_simp
    (try simp only [i64_w])
    try rfl
   refine hK.out _ _ ⟨v258, v262, (by rw [ha.out]; exact putSel_upk 8 hb_ rfl rfl rfl), Q_HO254, Q_BK256, Q_HB, Q_HO259, Q_HO263⟩
  refine steps_cons ?_ ?_
  ·rintro b a w' ⟨v258, v262, ha, Q_HO254, Q_BK256, Q_HB, Q_HO259, Q_HO263⟩ hb_ hon hoff
   refine ⟨_, rfl, fun K hK => ?_⟩
   have e27 : a.tmps[27]? = some (.string t264) := by rw [ha]; exact putSel_on (e := (11, 27, .string t264)) 7 rfl rfl (hon 11 (by kernel_rfl)) rfl
   replace ha := Aside0.mk ha
   have HO254 := Aside0.mk Q_HO254
   have BK256 := Aside0.mk Q_BK256
   have HB := Aside0.mk Q_HB
   have HO259 := Aside0.mk (Q_HO259 (hon 4 (by kernel_rfl)))
   have HO263 := Aside0.mk (Q_HO263 (hon 10 (by kernel_rfl)))
   refine value_ (w1 := w') (v := .string t264) (by rfl) rfl ?_ ?_
   ·go_simp
    (try simp only [i64_w])
    try rfl
   refine hK.out _ _ ⟨v258, v262, (by rw [ha.out]; exact putSel_upk 9 hb_ rfl rfl rfl), Q_HO254, Q_BK256, Q_HB, Q_HO259, Q_HO263⟩
  exact steps_nil
 rintro b a w25 hall ⟨v258, v262, ha, Q_HO254, Q_BK256, Q_HB, Q_HO259, Q_HO263⟩
 clear BK256 HB HO254
 have hb1_ := hall 1 (by kernel_rfl)
 have hb3_ := hall 3 (by kernel_rfl)
 have hb4_ := hall 4 (by kernel_rfl)
 have hb5_ := hall 5 (by kernel_rfl)
 have hb7_ := hall 7 (by kernel_rfl)
 have hb9_ := hall 9 (by kernel_rfl)
 have hb10_ := hall 10 (by kernel_rfl)
 have hb11_ := hall 11 (by kernel_rfl)
 have hb12_ := hall 12 (by kernel_rfl)
 have hb13_ := hall 13 (by kernel_rfl)
 subst ha
 simp only [putSel, hb1_, hb3_, hb4_, hb5_, hb7_, hb9_, hb10_, hb11_, hb12_, hb13_, if_true, Act.put, List.setIfInBounds_toArray, List.set_cons_zero, List.set_cons_succ]
 have HO254 := Aside0.mk Q_HO254
 clear Q_HO254
 have BK256 := Aside0.mk Q_BK256
 clear Q_BK256
 have HB := Aside0.mk Q_HB
 clear Q_HB
 have HO259 := Aside0.mk (Q_HO259 hb4_)
 clear Q_HO259
 have HO263 := Aside0.mk (Q_HO263 hb10_)
 clear Q_HO263
 clear hall hb1_ hb3_ hb4_ hb5_ hb7_ hb9_ hb10_ hb11_ hb12_ hb13_
 try go_wp2
 go_ret2
 exact ⟨by first | rfl | (simp [errW_none, errW_some] <;> rfl) | (simp [*, errW_none, errW_some] <;> rfl), by repeat (first | (with_reducible first | exact HB.out | apply below_alloc | apply pw_below_drewN | apply below_drew1 | refine below_set ?_ GE256.out) | exact HB.out)⟩

/-! ### dominoref08_of: function 39 -/
def dominoref08_of.f (k : Nat) (a0 : ByteArray) (a1 : ByteArray) (a2 : ByteArray) (a3 : Int) : Option (ByteArray) := (dominoref08_Label.f k a0 a1 a2 a3).bind fun bt265 => (some bt265.1)
theorem dominoref08_of.mono : ∀ a0 a1 a2 a3 k, LeO (dominoref08_of.f k a0 a1 a2 a3) (dominoref08_of.f (k + 1) a0 a1 a2 a3) := by
 intro a0 a1 a2 a3 k
 unfold dominoref08_of.f
 repeat' first
   | (with_reducible exact dominoref08_Label.mono _ _ _ _ _)
   | (with_reducible exact LeO.refl _)
   | (with_reducible exact LeO.none _)
   | (with_reducible refine LeO.ite ?_ ?_)
   | (with_reducible refine LeO.bind ?_ (fun _ => ?_))
   | exact dominoref08_Label.mono _ _ _ _ _
   | exact LeO.none _
   | refine LeO.ite ?_ ?_
   | refine LeO.bind ?_ (fun _ => ?_)
set_option maxHeartbeats 8000000 in
set_option maxRecDepth 100000 in
theorem dominoref08_of.calls (k : Nat) (a0 : ByteArray) (a1 : ByteArray) (a2 : ByteArray) (a3 : Int) (r : ByteArray) (w : World) (h : dominoref08_of.f k a0 a1 a2 a3 = some r) :
  Calls Try.prog 39 #[.string a0, .string a1, .string a2, .int .i64 a3] w fun e w' => e = .returned (.string r) ∧ Below w.heap.size w w' := by
 have HB := Aside0.mk (Below.refl w.heap.size w)
 have H : ((dominoref08_Label.f k a0 a1 a2 a3).bind fun bt265 => (some bt265.1)) = some r := h
 clear h
 replace H := Option.bind_eq_some_iff.mp H
 obtain ⟨⟨t265, t266⟩, A50, H⟩ := H
 replace H : (some t265) = some r := H
 have A5 := Aside0.mk A50
 clear A50
 obtain rfl := Option.some.inj H
 go_enter Try.func39, Try.ntmps39
 go_wp2_with (first | ((with_reducible refine gate_callee (f := 13) rfl ?_); refine goesL_ (some 16) rfl rfl Try.func13 (by kernel_rfl) rfl #[.string a0, .string a1, .string a2, .int .i64 a3] rfl (by (try simp only [List.map_toArray, List.map_cons, List.map_nil]); first | done | rfl | (simp only [List.length_drop, List.length_take]; rfl)) ?_; (with_reducible refine (dominoref08_Label.calls k a0 a1 a2 a3 t265 t266 _ A5.out).mono ?_); rintro e w6 ⟨rfl, hb⟩; refine ⟨_, rfl, ?_⟩; have n0_ := Aside0.mk (below_step (by repeat (first | (with_reducible first | exact HB.out | apply below_alloc | apply pw_below_drewN | apply below_drew1) | exact HB.out)) hb); clear HB; have HB := n0_; clear n0_; (try clear hb); (try clear hb2); (try clear hk); (try clear hi)))
 go_ret
 exact ⟨by first | rfl | (simp [errW_none, errW_some] <;> rfl) | (simp [*, errW_none, errW_some] <;> rfl), by repeat (first | (with_reducible first | exact HB.out | apply below_alloc | apply pw_below_drewN | apply below_drew1) | exact HB.out)⟩

/-! ### dominoref08_Of: function 24 -/
def dominoref08_Of.f (k : Nat) (a0 : ByteArray) : Option (ByteArray × ByteArray × ByteArray) := (dominoref08_of.f k a0 (⟨#[113, 117, 105, 99, 32, 107, 101, 121]⟩ : ByteArray) (⟨#[]⟩ : ByteArray) 32).bind fun t268 => ((dominoref08_of.f k a0 (⟨#[113, 117, 105, 99, 32, 105, 118]⟩ : ByteArray) (⟨#[]⟩ : ByteArray) 12).bind fun t269 => ((dominoref08_of.f k a0 (⟨#[113, 117, 105, 99, 32, 104, 112]⟩ : ByteArray) (⟨#[]⟩ : ByteArray) 32).bind fun t270 => (some (t268, t269, t270))))
theorem dominoref08_Of.mono : ∀ a0 k, LeO (dominoref08_Of.f k a0) (dominoref08_Of.f (k + 1) a0) := by
 intro a0 k
 unfold dominoref08_Of.f
 repeat' first
   | (with_reducible exact dominoref08_of.mono _ _ _ _ _)
   | (with_reducible exact LeO.refl _)
   | (with_reducible exact LeO.none _)
   | (with_reducible refine LeO.ite ?_ ?_)
   | (with_reducible refine LeO.bind ?_ (fun _ => ?_))
   | exact dominoref08_of.mono _ _ _ _ _
   | exact LeO.none _
   | refine LeO.ite ?_ ?_
   | refine LeO.bind ?_ (fun _ => ?_)
set_option maxHeartbeats 8000000 in
set_option maxRecDepth 100000 in
theorem dominoref08_Of.calls (k : Nat) (a0 : ByteArray) (r1 : ByteArray) (r2 : ByteArray) (r3 : ByteArray) (w : World) (h : dominoref08_Of.f k a0 = some (r1, r2, r3)) :
  Calls Try.prog 24 #[.string a0] w fun e w' => e = .returned (.agg #[.string r1, .string r2, .string r3]) ∧ Below w.heap.size w w' := by
 have hu42 := Try.underlying42
 have HB := Aside0.mk (Below.refl w.heap.size w)
 have H : ((dominoref08_of.f k a0 (⟨#[113, 117, 105, 99, 32, 107, 101, 121]⟩ : ByteArray) (⟨#[]⟩ : ByteArray) 32).bind fun t268 => ((dominoref08_of.f k a0 (⟨#[113, 117, 105, 99, 32, 105, 118]⟩ : ByteArray) (⟨#[]⟩ : ByteArray) 12).bind fun t269 => ((dominoref08_of.f k a0 (⟨#[113, 117, 105, 99, 32, 104, 112]⟩ : ByteArray) (⟨#[]⟩ : ByteArray) 32).bind fun t270 => (some (t268, t269, t270))))) = some (r1, r2, r3) := h
 clear h
 replace H := Option.bind_eq_some_iff.mp H
 obtain ⟨t268, A20, H⟩ := H
 replace H : ((dominoref08_of.f k a0 (⟨#[113, 117, 105, 99, 32, 105, 118]⟩ : ByteArray) (⟨#[]⟩ : ByteArray) 12).bind fun t269 => ((dominoref08_of.f k a0 (⟨#[113, 117, 105, 99, 32, 104, 112]⟩ : ByteArray) (⟨#[]⟩ : ByteArray) 32).bind fun t270 => (some (t268, t269, t270)))) = some (r1, r2, r3) := H
 have A2 := Aside0.mk A20
 clear A20
 replace H := Option.bind_eq_some_iff.mp H
 obtain ⟨t269, A30, H⟩ := H
 replace H : ((dominoref08_of.f k a0 (⟨#[113, 117, 105, 99, 32, 104, 112]⟩ : ByteArray) (⟨#[]⟩ : ByteArray) 32).bind fun t270 => (some (t268, t269, t270))) = some (r1, r2, r3) := H
 have A3 := Aside0.mk A30
 clear A30
 replace H := Option.bind_eq_some_iff.mp H
 obtain ⟨t270, A40, H⟩ := H
 replace H : (some (t268, t269, t270)) = some (r1, r2, r3) := H
 have A4 := Aside0.mk A40
 clear A40
 simp only [Option.some.injEq, Prod.mk.injEq] at H
 obtain ⟨rfl, rfl, rfl⟩ := H
 go_enter Try.func24, Try.ntmps24
 go_wp2_with (first | ((with_reducible refine gate_dst (N := 2) rfl ?_); refine box_event ?hg (N := 2) ?hd (cs := #[.string (⟨#[]⟩ : ByteArray), .string (⟨#[]⟩ : ByteArray), .string (⟨#[]⟩ : ByteArray)]) (t := 42) ?hr ?_; (case hd => rfl); (case hg => rfl); (case hr => first | (go_simp; done) | (go_simp; rfl)); intro gb267 hg w5 hbox hb; have n0_ := Aside0.mk (below_step (by repeat (first | (with_reducible first | exact HB.out | apply below_alloc | apply pw_below_drewN | apply below_drew1) | exact HB.out)) hb); have n1_ := Aside0.mk (hbox); have n2_ := Aside0.mk ((by rw [hg]; exact (below_size (by repeat (first | (with_reducible first | exact HB.out | apply below_alloc | apply pw_below_drewN | apply below_drew1) | exact HB.out))) : w.heap.size ≤ gb267)); have n3_ := Aside0.mk ((by rw [hg]; exact (below_size (by repeat (first | (with_reducible first | exact HB.out | apply below_alloc | apply pw_below_drewN | apply below_drew1) | exact HB.out))) : w.heap.size ≤ gb267)); clear HB; have HB := n0_; have BK267 := n1_; have GW267 := n2_; have GE267 := n3_; clear n0_ n1_ n2_ n3_; clear hb hbox hg) | ((with_reducible refine gate_callee (f := 39) rfl ?_); refine goesL_ (some 4) rfl rfl Try.func39 (by kernel_rfl) rfl #[.string a0, .string (⟨#[113, 117, 105, 99, 32, 107, 101, 121]⟩ : ByteArray), .string (⟨#[]⟩ : ByteArray), .int .i64 32] rfl (by (try simp only [List.map_toArray, List.map_cons, List.map_nil]); first | done | rfl | (simp only [List.length_drop, List.length_take]; rfl)) ?_; (with_reducible refine (dominoref08_of.calls k a0 (⟨#[113, 117, 105, 99, 32, 107, 101, 121]⟩ : ByteArray) (⟨#[]⟩ : ByteArray) 32 t268 _ A2.out).mono ?_); rintro e w6 ⟨rfl, hb⟩; refine ⟨_, rfl, ?_⟩; have n0_ := Aside0.mk (blk_below (g := gb267) (o := .cells #[.string (⟨#[]⟩ : ByteArray), .string (⟨#[]⟩ : ByteArray), .string (⟨#[]⟩ : ByteArray)] 42 (0, 0)) (by (with_reducible repeat (first | refine blk_drewN ?_ _ | refine blk_drew ?_ | refine blk_alloc ?_ _)); exact BK267.out) hb); have n1_ := Aside0.mk (below_step (by repeat (first | (with_reducible first | exact HB.out | apply below_alloc | apply pw_below_drewN | apply below_drew1 | refine below_set ?_ GE267.out) | exact HB.out)) hb); clear BK267; clear HB; have BK267 := n0_; have HB := n1_; clear n0_ n1_; (try clear hb); (try clear hb2); (try clear hk); (try clear hi)) | ((with_reducible refine gate_callee (f := 39) rfl ?_); refine goesL_ (some 6) rfl rfl Try.func39 (by kernel_rfl) rfl #[.string a0, .string (⟨#[113, 117, 105, 99, 32, 105, 118]⟩ : ByteArray), .string (⟨#[]⟩ : ByteArray), .int .i64 12] rfl (by (try simp only [List.map_toArray, List.map_cons, List.map_nil]); first | done | rfl | (simp only [List.length_drop, List.length_take]; rfl)) ?_; (with_reducible refine (dominoref08_of.calls k a0 (⟨#[113, 117, 105, 99, 32, 105, 118]⟩ : ByteArray) (⟨#[]⟩ : ByteArray) 12 t269 _ A3.out).mono ?_); rintro e w7 ⟨rfl, hb⟩; refine ⟨_, rfl, ?_⟩; have n0_ := Aside0.mk (blk_below (g := gb267) (o := .cells #[.string (⟨#[]⟩ : ByteArray), .string (⟨#[]⟩ : ByteArray), .string (⟨#[]⟩ : ByteArray)] 42 (0, 0)) (by (with_reducible repeat (first | refine blk_drewN ?_ _ | refine blk_drew ?_ | refine blk_alloc ?_ _)); exact BK267.out) hb); have n1_ := Aside0.mk (below_step (by repeat (first | (with_reducible first | exact HB.out | apply below_alloc | apply pw_below_drewN | apply below_drew1 | refine below_set ?_ GE267.out) | exact HB.out)) hb); clear BK267; clear HB; have BK267 := n0_; have HB := n1_; clear n0_ n1_; (try clear hb); (try clear hb2); (try clear hk); (try clear hi)) | ((with_reducible refine gate_callee (f := 39) rfl ?_); refine goesL_ (some 8) rfl rfl Try.func39 (by kernel_rfl) rfl #[.string a0, .string (⟨#[113, 117, 105, 99, 32, 104, 112]⟩ : ByteArray), .string (⟨#[]⟩ : ByteArray), .int .i64 32] rfl (by (try simp only [List.map_toArray, List.map_cons, List.map_nil]); first | done | rfl | (simp only [List.length_drop, List.length_take]; rfl)) ?_; (with_reducible refine (dominoref08_of.calls k a0 (⟨#[113, 117, 105, 99, 32, 104, 112]⟩ : ByteArray) (⟨#[]⟩ : ByteArray) 32 t270 _ A4.out).mono ?_); rintro e w8 ⟨rfl, hb⟩; refine ⟨_, rfl, ?_⟩; have n0_ := Aside0.mk (blk_below (g := gb267) (o := .cells #[.string (⟨#[]⟩ : ByteArray), .string (⟨#[]⟩ : ByteArray), .string (⟨#[]⟩ : ByteArray)] 42 (0, 0)) (by (with_reducible repeat (first | refine blk_drewN ?_ _ | refine blk_drew ?_ | refine blk_alloc ?_ _)); exact BK267.out) hb); have n1_ := Aside0.mk (below_step (by repeat (first | (with_reducible first | exact HB.out | apply below_alloc | apply pw_below_drewN | apply below_drew1 | refine below_set ?_ GE267.out) | exact HB.out)) hb); clear BK267; clear HB; have BK267 := n0_; have HB := n1_; clear n0_ n1_; (try clear hb); (try clear hb2); (try clear hk); (try clear hi); have hcz9_0 : w8.cell? ⟨gb267, 0, none⟩ = some (.string (⟨#[]⟩ : ByteArray)) := (blk_cell BK267.out 0).trans rfl; have hcz9_1 : w8.cell? ⟨gb267, 1, none⟩ = some (.string (⟨#[]⟩ : ByteArray)) := (blk_cell BK267.out 1).trans rfl; have hcz9_2 : w8.cell? ⟨gb267, 2, none⟩ = some (.string (⟨#[]⟩ : ByteArray)) := (blk_cell BK267.out 2).trans rfl; have hfz9_0 := blk_frozen BK267.out 0; have hfz9_1 := blk_frozen BK267.out 1; have hfz9_2 := blk_frozen BK267.out 2))
 refine bodyPost_ret (results_cell_row rfl _ _ gb267 42 #[.string t268, .string t269, .string t270] (0, 0) _ rfl (by (with_reducible repeat (first | refine blk_drewN ?_ _ | refine blk_drew ?_ | refine blk_alloc ?_ _)); refine blk_put (cs := #[.string t268, .string t269, .string (⟨#[]⟩ : ByteArray)]) ?_ 2 _ rfl; (with_reducible repeat (first | refine blk_drewN ?_ _ | refine blk_drew ?_ | refine blk_alloc ?_ _)); refine blk_put (cs := #[.string t268, .string (⟨#[]⟩ : ByteArray), .string (⟨#[]⟩ : ByteArray)]) ?_ 1 _ rfl; (with_reducible repeat (first | refine blk_drewN ?_ _ | refine blk_drew ?_ | refine blk_alloc ?_ _)); refine blk_put (cs := #[.string (⟨#[]⟩ : ByteArray), .string (⟨#[]⟩ : ByteArray), .string (⟨#[]⟩ : ByteArray)]) ?_ 0 _ rfl; (with_reducible repeat (first | refine blk_drewN ?_ _ | refine blk_drew ?_ | refine blk_alloc ?_ _)); exact BK267.out) Try.underlying42 rfl (by kernel_rfl)) rfl ?_
 exact ⟨by first | rfl | (simp [errW_none, errW_some] <;> rfl) | (simp [*, errW_none, errW_some] <;> rfl), by repeat (first | (with_reducible first | exact HB.out | apply below_alloc | apply pw_below_drewN | apply below_drew1 | refine below_set ?_ GE267.out) | exact HB.out)⟩

/-! ### dominolaw08_KdfTurns: function 7 -/
mutual
def dominolaw08_KdfTurns.j0 : Nat → ByteArray → ByteArray → Int → Bool → Option (Bool)
 | 0, _, _, _, _ => none
 | k + 1, x0, x1, x2, x23 => if x23 = true then ((dominolaw08_shown.f k).bind fun t272 => (some t272)) else ((kdf_Shared.f k x0 x1 (⟨#[]⟩ : ByteArray)).bind fun bt273 => ((kdf_Shared.f k x0 (⟨#[]⟩ : ByteArray) x1).bind fun bt275 => (dominolaw08_KdfTurns.l0 k x2 bt273.1 bt273.2 bt275.1 bt275.2 0)))
def dominolaw08_KdfTurns.l0 : Nat → Int → ByteArray → ByteArray → ByteArray → ByteArray → Int → Option (Bool)
 | 0, _, _, _, _, _, _ => none
 | k + 1, x2, x7, x8, x9, x10, x11 => if x11 < (Int.tmod (wrap64 (x2)) 5) then ((kdf_Next.f k x7).bind fun t277 => ((kdf_Next.f k x9).bind fun t278 => (if (t277.size : Int) = 32 then ((kdf_Of.f k t277).bind fun bt279 => ((dominoref08_Of.f k t277).bind fun bt282 => (if (!(bt279.1.toList == bt282.1.toList) || (!(bt279.2.1.toList == bt282.2.1.toList) || (!(bt279.2.2.toList == bt282.2.2.toList)))) = true then (none) else (dominolaw08_KdfTurns.l0 k x2 t277 x8 t278 x10 (wrap64 (x11 + 1)))))) else (none)))) else (if x7.toList = x9.toList then (some (x8.toList == x10.toList)) else (none))
end
def dominolaw08_KdfTurns.f (k : Nat) (a0 : ByteArray) (a1 : ByteArray) (a2 : Int) : Option (Bool) := if (a0.size : Int) > 100 then (dominolaw08_KdfTurns.j0 k a0 a1 a2 true) else (if (a1.size : Int) > 100 then (dominolaw08_KdfTurns.j0 k a0 a1 a2 true) else ((dominolaw08_shown.f k).bind fun t271 => (dominolaw08_KdfTurns.j0 k a0 a1 a2 (!t271))))
theorem dominolaw08_KdfTurns.mono_l : ∀ k, (∀ y0 y1 y2 y3, LeO (dominolaw08_KdfTurns.j0 k y0 y1 y2 y3) (dominolaw08_KdfTurns.j0 (k + 1) y0 y1 y2 y3)) ∧ (∀ y0 y1 y2 y3 y4 y5, LeO (dominolaw08_KdfTurns.l0 k y0 y1 y2 y3 y4 y5) (dominolaw08_KdfTurns.l0 (k + 1) y0 y1 y2 y3 y4 y5))
 | 0 => ⟨fun _ _ _ _ r h => by simp [dominolaw08_KdfTurns.j0] at h, fun _ _ _ _ _ _ r h => by simp [dominolaw08_KdfTurns.l0] at h⟩
 | k + 1 => by
  obtain ⟨ih0, ih1⟩ := dominolaw08_KdfTurns.mono_l k
  refine ⟨?_, ?_⟩
  ·intro y0 y1 y2 y3
   unfold dominolaw08_KdfTurns.j0
   repeat' first
   | (with_reducible exact ih0 _ _ _ _)
   | (with_reducible exact ih1 _ _ _ _ _ _)
   | (with_reducible exact dominolaw08_shown.mono _)
   | (with_reducible exact dominoref08_Of.mono _ _)
   | (with_reducible exact kdf_Next.mono _ _)
   | (with_reducible exact kdf_Of.mono _ _)
   | (with_reducible exact kdf_Shared.mono _ _ _ _)
   | (with_reducible exact LeO.refl _)
   | (with_reducible exact LeO.none _)
   | (with_reducible refine LeO.ite ?_ ?_)
   | (with_reducible refine LeO.bind ?_ (fun _ => ?_))
   | exact ih0 _ _ _ _
   | exact ih1 _ _ _ _ _ _
   | exact dominolaw08_shown.mono _
   | exact dominoref08_Of.mono _ _
   | exact kdf_Next.mono _ _
   | exact kdf_Of.mono _ _
   | exact kdf_Shared.mono _ _ _ _
   | exact LeO.none _
   | refine LeO.ite ?_ ?_
   | refine LeO.bind ?_ (fun _ => ?_)
  ·intro y0 y1 y2 y3 y4 y5
   unfold dominolaw08_KdfTurns.l0
   repeat' first
   | (with_reducible exact ih0 _ _ _ _)
   | (with_reducible exact ih1 _ _ _ _ _ _)
   | (with_reducible exact dominolaw08_shown.mono _)
   | (with_reducible exact dominoref08_Of.mono _ _)
   | (with_reducible exact kdf_Next.mono _ _)
   | (with_reducible exact kdf_Of.mono _ _)
   | (with_reducible exact kdf_Shared.mono _ _ _ _)
   | (with_reducible exact LeO.refl _)
   | (with_reducible exact LeO.none _)
   | (with_reducible refine LeO.ite ?_ ?_)
   | (with_reducible refine LeO.bind ?_ (fun _ => ?_))
   | exact ih0 _ _ _ _
   | exact ih1 _ _ _ _ _ _
   | exact dominolaw08_shown.mono _
   | exact dominoref08_Of.mono _ _
   | exact kdf_Next.mono _ _
   | exact kdf_Of.mono _ _
   | exact kdf_Shared.mono _ _ _ _
   | exact LeO.none _
   | refine LeO.ite ?_ ?_
   | refine LeO.bind ?_ (fun _ => ?_)
theorem dominolaw08_KdfTurns.mono : ∀ a0 a1 a2 k, LeO (dominolaw08_KdfTurns.f k a0 a1 a2) (dominolaw08_KdfTurns.f (k + 1) a0 a1 a2) := by
 intro a0 a1 a2 k
 obtain ⟨ih0, ih1⟩ := dominolaw08_KdfTurns.mono_l k
 unfold dominolaw08_KdfTurns.f
 repeat' first
   | (with_reducible exact ih0 _ _ _ _)
   | (with_reducible exact ih1 _ _ _ _ _ _)
   | (with_reducible exact dominolaw08_shown.mono _)
   | (with_reducible exact dominoref08_Of.mono _ _)
   | (with_reducible exact kdf_Next.mono _ _)
   | (with_reducible exact kdf_Of.mono _ _)
   | (with_reducible exact kdf_Shared.mono _ _ _ _)
   | (with_reducible exact LeO.refl _)
   | (with_reducible exact LeO.none _)
   | (with_reducible refine LeO.ite ?_ ?_)
   | (with_reducible refine LeO.bind ?_ (fun _ => ?_))
   | exact ih0 _ _ _ _
   | exact ih1 _ _ _ _ _ _
   | exact dominolaw08_shown.mono _
   | exact dominoref08_Of.mono _ _
   | exact kdf_Next.mono _ _
   | exact kdf_Of.mono _ _
   | exact kdf_Shared.mono _ _ _ _
   | exact LeO.none _
   | refine LeO.ite ?_ ?_
   | refine LeO.bind ?_ (fun _ => ?_)
set_option maxHeartbeats 8000000 in
set_option maxRecDepth 100000 in
theorem dominolaw08_KdfTurns.calls (k : Nat) (a0 : ByteArray) (a1 : ByteArray) (a2 : Int) (r : Bool) (w : World) (h : dominolaw08_KdfTurns.f k a0 a1 a2 = some r) :
  Calls Try.prog 7 #[.string a0, .string a1, .int .u8 a2] w fun e w' => e = .returned (.bool r) ∧ Below w.heap.size w w' := by
 have HB := Aside0.mk (Below.refl w.heap.size w)
 have H : (if (a0.size : Int) > 100 then (dominolaw08_KdfTurns.j0 k a0 a1 a2 true) else (if (a1.size : Int) > 100 then (dominolaw08_KdfTurns.j0 k a0 a1 a2 true) else ((dominolaw08_shown.f k).bind fun t271 => (dominolaw08_KdfTurns.j0 k a0 a1 a2 (!t271))))) = some r := h
 clear h
 have HC4 := Aside0.mk H
 clear H
 go_enter Try.func7, Try.ntmps7
 go_upto_region 1 with (fail)
 go_cut [23] (fun v23 wc => ∃ (kq : Nat) (x23_3 : Bool), v23 = .bool x23_3 ∧ Aside0 (dominolaw08_KdfTurns.j0 kq a0 a1 a2 x23_3 = some r) ∧ Aside0 (kq ≤ k) ∧ Aside0 (Below w.heap.size w wc))
 case first =>
  have H := HC4.out
  clear HC4
  by_cases c5 : (a0.size : Int) > 100
  ·rw [if_pos c5] at H
   have c5b0 : decide (100 < (a0.size : Int)) = true := decide_eq_true c5
   have c5b1 : decide (100 < a0.size) = true := decide_eq_true (by omega)
   clear c5
   (first | rw [c5b0] | (simp only [i64_w, i32_w]; rw [c5b0]) | skip)
   have H' := Aside0.mk H
   clear H
   go_wp2
   go_meet
   case rel => exact ⟨_, (true), (by first | rfl | (simp; done) | (simp [*]; done)), H', ⟨by first | omega | exact Nat.le_refl _⟩, ⟨by repeat (first | (with_reducible first | exact HB.out | apply below_alloc | apply pw_below_drewN | apply below_drew1) | exact HB.out)⟩⟩
  ·rw [if_neg c5] at H
   have c5b0 : decide (100 < (a0.size : Int)) = false := decide_eq_false c5
   have c5b1 : decide (100 < a0.size) = false := decide_eq_false (by omega)
   clear c5
   (first | rw [c5b0] | (simp only [i64_w, i32_w]; rw [c5b0]) | skip)
   by_cases c6 : (a1.size : Int) > 100
   ·rw [if_pos c6] at H
    have c6b0 : decide (100 < (a1.size : Int)) = true := decide_eq_true c6
    have c6b1 : decide (100 < a1.size) = true := decide_eq_true (by omega)
    clear c6
    have H' := Aside0.mk H
    clear H
    go_wp2
    go_meet
    case rel => exact ⟨_, (true), (by first | rfl | (simp; done) | (simp [*]; done)), H', ⟨by first | omega | exact Nat.le_refl _⟩, ⟨by repeat (first | (with_reducible first | exact HB.out | apply below_alloc | apply pw_below_drewN | apply below_drew1) | exact HB.out)⟩⟩
   ·rw [if_neg c6] at H
    have c6b0 : decide (100 < (a1.size : Int)) = false := decide_eq_false c6
    have c6b1 : decide (100 < a1.size) = false := decide_eq_false (by omega)
    clear c6
    replace H := Option.bind_eq_some_iff.mp H
    obtain ⟨t271, A70, H⟩ := H
    replace H : (dominolaw08_KdfTurns.j0 k a0 a1 a2 (!t271)) = some r := H
    have A7 := Aside0.mk A70
    clear A70
    have H' := Aside0.mk H
    clear H
    go_wp2_with (first | (go_at_call 9; (with_reducible refine (dominolaw08_shown.calls k  t271 _ A7.out).mono ?_); rintro e w8 ⟨rfl, hb⟩; have n0_ := Aside0.mk (below_step (by repeat (first | (with_reducible first | exact HB.out | apply below_alloc | apply pw_below_drewN | apply below_drew1) | exact HB.out)) hb); clear HB; have HB := n0_; clear n0_; (try clear hb); (try clear hb2); (try clear hk); (try clear hi)))
    go_meet
    case rel => exact ⟨_, (!t271), (by first | rfl | (simp; done) | (simp [*]; done)), H', ⟨by first | omega | exact Nat.le_refl _⟩, ⟨by repeat (first | (with_reducible first | exact HB.out | apply below_alloc | apply pw_below_drewN | apply below_drew1) | exact HB.out)⟩⟩
 case rest =>
  clear HC4
  try clear p2
  try clear c5
  try clear c5b0
  try clear c5b1
  try clear c6
  try clear c6b0
  try clear c6b1
  try clear c7
  obtain ⟨kq, x23_3, rfl, HA, HJ3, HB⟩ := hcut
  cases kq with
  | zero => exact absurd HA.out (by simp [dominolaw08_KdfTurns.j0])
  | succ kj3 =>
   have H := HA.out
   clear HA
   simp only [dominolaw08_KdfTurns.j0] at H
   by_cases c9 : x23_3 = true
   ·subst c9
    have H1 : ((dominolaw08_shown.f kj3).bind fun t272 => (some t272)) = some r := by rw [if_pos rfl] at H; exact H
    clear H
    have H := H1
    clear H1
    replace H := Option.bind_eq_some_iff.mp H
    obtain ⟨t272, A100, H⟩ := H
    replace H : (some t272) = some r := H
    have A10 := Aside0.mk A100
    clear A100
    obtain rfl := Option.some.inj H
    go_wp2_with (first | ((with_reducible refine gate_callee (f := 9) rfl ?_); refine goesL_ (some 24) rfl rfl Try.func9 (by kernel_rfl) rfl #[] rfl (by (try simp only [List.map_toArray, List.map_cons, List.map_nil]); first | done | rfl | (simp only [List.length_drop, List.length_take]; rfl)) ?_; (with_reducible refine (dominolaw08_shown.calls kj3  t272 _ A10.out).mono ?_); rintro e w11 ⟨rfl, hb⟩; refine ⟨_, rfl, ?_⟩; have n0_ := Aside0.mk (below_step (by repeat (first | (with_reducible first | exact HB.out | apply below_alloc | apply pw_below_drewN | apply below_drew1) | exact HB.out)) hb); clear HB; have HB := n0_; clear n0_; (try clear hb); (try clear hb2); (try clear hk); (try clear hi)))
    go_ret
    exact ⟨by first | rfl | (simp [errW_none, errW_some] <;> rfl) | (simp [*, errW_none, errW_some] <;> rfl), by repeat (first | (with_reducible first | exact HB.out | apply below_alloc | apply pw_below_drewN | apply below_drew1) | exact HB.out)⟩
   ·replace c9 := Bool.eq_false_iff.mpr c9
    subst c9
    have H1 : ((kdf_Shared.f kj3 a0 a1 (⟨#[]⟩ : ByteArray)).bind fun bt273 => ((kdf_Shared.f kj3 a0 (⟨#[]⟩ : ByteArray) a1).bind fun bt275 => (dominolaw08_KdfTurns.l0 kj3 a2 bt273.1 bt273.2 bt275.1 bt275.2 0))) = some r := by rw [if_neg (show ¬ (false = true) by decide)] at H; exact H
    clear H
    have H := H1
    clear H1
    replace H := Option.bind_eq_some_iff.mp H
    obtain ⟨⟨t273, t274⟩, A120, H⟩ := H
    replace H : ((kdf_Shared.f kj3 a0 (⟨#[]⟩ : ByteArray) a1).bind fun bt275 => (dominolaw08_KdfTurns.l0 kj3 a2 t273 t274 bt275.1 bt275.2 0)) = some r := H
    have A12 := Aside0.mk A120
    clear A120
    replace H := Option.bind_eq_some_iff.mp H
    obtain ⟨⟨t275, t276⟩, A130, H⟩ := H
    replace H : (dominolaw08_KdfTurns.l0 kj3 a2 t273 t274 t275 t276 0) = some r := H
    have A13 := Aside0.mk A130
    clear A130
    have H' := Aside0.mk H
    clear H
    go_wp2_with (first | ((with_reducible refine gate_callee (f := 22) rfl ?_); refine goesL_ (some 28) rfl rfl Try.func22 (by kernel_rfl) rfl #[.string a0, .string a1, .string (⟨#[]⟩ : ByteArray)] rfl (by (try simp only [List.map_toArray, List.map_cons, List.map_nil]); first | done | rfl | (simp only [List.length_drop, List.length_take]; rfl)) ?_; (with_reducible refine (kdf_Shared.calls kj3 a0 a1 (⟨#[]⟩ : ByteArray) t273 t274 _ A12.out).mono ?_); rintro e w14 ⟨rfl, hb⟩; refine ⟨_, rfl, ?_⟩; have n0_ := Aside0.mk (below_step (by repeat (first | (with_reducible first | exact HB.out | apply below_alloc | apply pw_below_drewN | apply below_drew1) | exact HB.out)) hb); clear HB; have HB := n0_; clear n0_; (try clear hb); (try clear hb2); (try clear hk); (try clear hi)) | ((with_reducible refine gate_callee (f := 22) rfl ?_); refine goesL_ (some 34) rfl rfl Try.func22 (by kernel_rfl) rfl #[.string a0, .string (⟨#[]⟩ : ByteArray), .string a1] rfl (by (try simp only [List.map_toArray, List.map_cons, List.map_nil]); first | done | rfl | (simp only [List.length_drop, List.length_take]; rfl)) ?_; (with_reducible refine (kdf_Shared.calls kj3 a0 (⟨#[]⟩ : ByteArray) a1 t275 t276 _ A13.out).mono ?_); rintro e w15 ⟨rfl, hb⟩; refine ⟨_, rfl, ?_⟩; have n0_ := Aside0.mk (below_step (by repeat (first | (with_reducible first | exact HB.out | apply below_alloc | apply pw_below_drewN | apply below_drew1) | exact HB.out)) hb); clear HB; have HB := n0_; clear n0_; (try clear hb); (try clear hb2); (try clear hk); (try clear hi)))
    go_loopg [7, 9, 11] kj3 (fun kq v7 v9 v11 w' => ∃ (x7_2 : ByteArray) (x9_2 : ByteArray) (x11_2 : Int), v7 = .string x7_2 ∧ v9 = .string x9_2 ∧ v11 = .int .i64 x11_2 ∧ Aside0 (dominolaw08_KdfTurns.l0 kq a2 x7_2 t274 x9_2 t276 x11_2 = some r) ∧ Aside0 (kq ≤ kj3) ∧ Aside0 (Below w.heap.size w w'))
    case atStart => exact ⟨(t273), (t275), (0), (by first | rfl | (simp; done) | (simp [*]; done)), (by first | rfl | (simp; done) | (simp [*]; done)), (by first | rfl | (simp; done) | (simp [*]; done)), H', ⟨Nat.le_refl _⟩, ⟨by repeat (first | (with_reducible first | exact HB.out | apply below_alloc | apply pw_below_drewN | apply below_drew1) | exact HB.out)⟩⟩
    case round =>
     clear H'
     try clear c2
     try clear p2
     try clear c5
     try clear c5b0
     try clear c5b1
     try clear c6
     try clear c6b0
     try clear c6b1
     try clear c7
     try clear c9
     try clear p2
     obtain ⟨x7_2, x9_2, x11_2, rfl, rfl, rfl, HA, HK2, HB⟩ := hrel
     cases gk with
     | zero => exact absurd HA.out (by simp [dominolaw08_KdfTurns.l0])
     | succ k2 =>
      have H := HA.out
      clear HA
      simp only [dominolaw08_KdfTurns.l0] at H
      by_cases c16 : x11_2 < (Int.tmod (wrap64 (a2)) 5)
      ·rw [if_pos c16] at H
       have c16b0 : decide (x11_2 < (Int.tmod (wrap64 (a2)) 5)) = true := decide_eq_true c16
       clear c16
       replace H := Option.bind_eq_some_iff.mp H
       obtain ⟨t277, A170, H⟩ := H
       replace H : ((kdf_Next.f k2 x9_2).bind fun t278 => (if (t277.size : Int) = 32 then ((kdf_Of.f k2 t277).bind fun bt279 => ((dominoref08_Of.f k2 t277).bind fun bt282 => (if (!(bt279.1.toList == bt282.1.toList) || (!(bt279.2.1.toList == bt282.2.1.toList) || (!(bt279.2.2.toList == bt282.2.2.toList)))) = true then (none) else (dominolaw08_KdfTurns.l0 k2 a2 t277 t274 t278 t276 (wrap64 (x11_2 + 1)))))) else (none))) = some r := H
       have A17 := Aside0.mk A170
       clear A170
       replace H := Option.bind_eq_some_iff.mp H
       obtain ⟨t278, A180, H⟩ := H
       replace H : (if (t277.size : Int) = 32 then ((kdf_Of.f k2 t277).bind fun bt279 => ((dominoref08_Of.f k2 t277).bind fun bt282 => (if (!(bt279.1.toList == bt282.1.toList) || (!(bt279.2.1.toList == bt282.2.1.toList) || (!(bt279.2.2.toList == bt282.2.2.toList)))) = true then (none) else (dominolaw08_KdfTurns.l0 k2 a2 t277 t274 t278 t276 (wrap64 (x11_2 + 1)))))) else (none)) = some r := H
       have A18 := Aside0.mk A180
       clear A180
       by_cases c19 : (t277.size : Int) = 32
       ·rw [if_pos c19] at H
        have c19b0 : ((t277.size : Int) == 32) = true := beq_iff_eq.mpr c19
        have c19b1 : ((t277.size : Int) != 32) = false := bne_eq_false_iff_eq.mpr c19
        clear c19
        replace H := Option.bind_eq_some_iff.mp H
        obtain ⟨⟨t279, t280, t281⟩, A200, H⟩ := H
        replace H : ((dominoref08_Of.f k2 t277).bind fun bt282 => (if (!(t279.toList == bt282.1.toList) || (!(t280.toList == bt282.2.1.toList) || (!(t281.toList == bt282.2.2.toList)))) = true then (none) else (dominolaw08_KdfTurns.l0 k2 a2 t277 t274 t278 t276 (wrap64 (x11_2 + 1))))) = some r := H
        have A20 := Aside0.mk A200
        clear A200
        replace H := Option.bind_eq_some_iff.mp H
        obtain ⟨⟨t282, t283, t284⟩, A210, H⟩ := H
        replace H : (if (!(t279.toList == t282.toList) || (!(t280.toList == t283.toList) || (!(t281.toList == t284.toList)))) = true then (none) else (dominolaw08_KdfTurns.l0 k2 a2 t277 t274 t278 t276 (wrap64 (x11_2 + 1)))) = some r := H
        have A21 := Aside0.mk A210
        clear A210
        by_cases c22 : (!(t279.toList == t282.toList) || (!(t280.toList == t283.toList) || (!(t281.toList == t284.toList)))) = true
        ·rw [if_pos c22] at H
         exact absurd H (by simp)
        ·rw [if_neg c22] at H
         have c22b0 : (!(t279.toList == t282.toList) || (!(t280.toList == t283.toList) || (!(t281.toList == t284.toList)))) = false := by simpa using c22
         have c22q := c22b0
         simp only [Bool.not_false, Bool.not_true, Bool.true_and, Bool.and_eq_true, Bool.or_eq_false_iff, Bool.not_eq_eq_eq_not, beq_iff_eq] at c22q
         replace c22q := eq_true c22q
         clear c22
         have H' := Aside0.mk H
         clear H
         go_wp2_with (first | ((with_reducible refine gate_callee (f := 23) rfl ?_); refine goesL_ (some 45) rfl rfl Try.func23 (by kernel_rfl) rfl #[.string x7_2] rfl (by (try simp only [List.map_toArray, List.map_cons, List.map_nil]); first | done | rfl | (simp only [List.length_drop, List.length_take]; rfl)) ?_; (with_reducible refine (kdf_Next.calls k2 x7_2 t277 _ A17.out).mono ?_); rintro e w23 ⟨rfl, hb⟩; refine ⟨_, rfl, ?_⟩; have n0_ := Aside0.mk (below_step (by repeat (first | (with_reducible first | exact HB.out | apply below_alloc | apply pw_below_drewN | apply below_drew1) | exact HB.out)) hb); clear HB; have HB := n0_; clear n0_; (try clear hb); (try clear hb2); (try clear hk); (try clear hi)) | ((with_reducible refine gate_callee (f := 23) rfl ?_); refine goesL_ (some 47) rfl rfl Try.func23 (by kernel_rfl) rfl #[.string x9_2] rfl (by (try simp only [List.map_toArray, List.map_cons, List.map_nil]); first | done | rfl | (simp only [List.length_drop, List.length_take]; rfl)) ?_; (with_reducible refine (kdf_Next.calls k2 x9_2 t278 _ A18.out).mono ?_); rintro e w24 ⟨rfl, hb⟩; refine ⟨_, rfl, ?_⟩; have n0_ := Aside0.mk (below_step (by repeat (first | (with_reducible first | exact HB.out | apply below_alloc | apply pw_below_drewN | apply below_drew1) | exact HB.out)) hb); clear HB; have HB := n0_; clear n0_; (try clear hb); (try clear hb2); (try clear hk); (try clear hi)) | (go_at_call 14; (with_reducible refine (kdf_Of.calls k2 t277 t279 t280 t281 _ A20.out).mono ?_); rintro e w25 ⟨rfl, hb⟩; have n0_ := Aside0.mk (below_step (by repeat (first | (with_reducible first | exact HB.out | apply below_alloc | apply pw_below_drewN | apply below_drew1) | exact HB.out)) hb); clear HB; have HB := n0_; clear n0_; (try clear hb); (try clear hb2); (try clear hk); (try clear hi)) | (go_at_call 24; (with_reducible refine (dominoref08_Of.calls k2 t277 t282 t283 t284 _ A21.out).mono ?_); rintro e w26 ⟨rfl, hb⟩; have n0_ := Aside0.mk (below_step (by repeat (first | (with_reducible first | exact HB.out | apply below_alloc | apply pw_below_drewN | apply below_drew1) | exact HB.out)) hb); clear HB; have HB := n0_; clear n0_; (try clear hb); (try clear hb2); (try clear hk); (try clear hi)))
         go_roundg k2
         case measure => have := HJ3.out; have := HK2.out; omega
         case rel => exact ⟨(t277), (t278), (wrap64 (x11_2 + 1)), (by first | rfl | (simp; done) | (simp [*]; done)), (by first | rfl | (simp; done) | (simp [*]; done)), (by first | rfl | (simp; done) | (simp [*]; done)), H', ⟨by have := HJ3.out; have := HK2.out; omega⟩, ⟨by repeat (first | (with_reducible first | exact HB.out | apply below_alloc | apply pw_below_drewN | apply below_drew1) | exact HB.out)⟩⟩
         all_goals (have hq_ := of_eq_true c22q; first | (exact absurd hq_.1 (by assumption)) | (exact absurd hq_.2.1 (by assumption)) | (exact absurd hq_.2.2 (by assumption)))
       ·rw [if_neg c19] at H
        exact absurd H (by simp)
      ·rw [if_neg c16] at H
       have c16b0 : decide (x11_2 < (Int.tmod (wrap64 (a2)) 5)) = false := decide_eq_false c16
       clear c16
       by_cases c27 : x7_2.toList = x9_2.toList
       ·rw [if_pos c27] at H
        have c27b0 : (x7_2.toList == x9_2.toList) = true := beq_iff_eq.mpr c27
        have c27b1 : (x7_2.toList != x9_2.toList) = false := bne_eq_false_iff_eq.mpr c27
        clear c27
        obtain rfl := Option.some.inj H
        go_wp2
        go_ret
        exact ⟨by first | rfl | (have hq_ := of_eq_true c22q; simp [errW_none, errW_some, hq_, bne]; done) | (have hq_ := of_eq_true c22q; simp [errW_none, errW_some, hq_, bne]; rfl) | (simp [errW_none, errW_some] <;> rfl) | (simp [*, errW_none, errW_some] <;> rfl), by repeat (first | (with_reducible first | exact HB.out | apply below_alloc | apply pw_below_drewN | apply below_drew1) | exact HB.out)⟩
       ·rw [if_neg c27] at H
        exact absurd H (by simp)

/-- THE ONE PURE STATEMENT of dominolaw08_KdfTurns: yours. -/
def dominolaw08_KdfTurns.Pure : Prop := ∀ (a0 : ByteArray) (a1 : ByteArray) (a2 : Int), a0.size ≤ 140737488351232 → a1.size ≤ 140737488351232 → (Lit.int .u8 a2).wf = true → ∃ k, dominolaw08_KdfTurns.f k a0 a1 a2 = some true
theorem dominolaw08_KdfTurns.walk (P : dominolaw08_KdfTurns.Pure) (a0 : ByteArray) (a1 : ByteArray) (a2 : Int) (w : World) (w0 : a0.size ≤ 140737488351232) (w1 : a1.size ≤ 140737488351232) (w2 : (Lit.int .u8 a2).wf = true) :
  Calls Try.prog 7 #[.string a0, .string a1, .int .u8 a2] w fun e w' => e = .returned (.bool true) ∧ Below w.heap.size w w' := by
 obtain ⟨k, h⟩ := P a0 a1 a2 w0 w1 w2
 refine (dominolaw08_KdfTurns.calls k a0 a1 a2 true w h).mono ?_
 rintro e w' ⟨rfl, hd⟩
 exact ⟨rfl, hd⟩

/-! ### dominoref08_Shared: function 25 -/
def dominoref08_Shared.f (k : Nat) (a0 : ByteArray) (a1 : ByteArray) (a2 : ByteArray) : Option (ByteArray × ByteArray) := (dominoref08_Extract.f k (⟨#[100, 111, 109, 105, 110, 111]⟩ : ByteArray) a0).bind fun t285 => (if a1.size + a2.size ≤ 9223372036854775807 then ((dominoref07_Sum.f (a1 ++ a2)).bind fun t286 => ((dominoref08_of.f k t285 (⟨#[99, 108, 105, 101, 110, 116]⟩ : ByteArray) t286 32).bind fun t287 => ((dominoref08_of.f k t285 (⟨#[115, 101, 114, 118, 101, 114]⟩ : ByteArray) t286 32).bind fun t288 => (some (t287, t288))))) else (none))
theorem dominoref08_Shared.mono : ∀ a0 a1 a2 k, LeO (dominoref08_Shared.f k a0 a1 a2) (dominoref08_Shared.f (k + 1) a0 a1 a2) := by
 intro a0 a1 a2 k
 unfold dominoref08_Shared.f
 repeat' first
   | (with_reducible exact dominoref08_Extract.mono _ _ _)
   | (with_reducible exact dominoref08_of.mono _ _ _ _ _)
   | (with_reducible exact LeO.refl _)
   | (with_reducible exact LeO.none _)
   | (with_reducible refine LeO.ite ?_ ?_)
   | (with_reducible refine LeO.bind ?_ (fun _ => ?_))
   | exact dominoref08_Extract.mono _ _ _
   | exact dominoref08_of.mono _ _ _ _ _
   | exact LeO.none _
   | refine LeO.ite ?_ ?_
   | refine LeO.bind ?_ (fun _ => ?_)
set_option maxHeartbeats 8000000 in
set_option maxRecDepth 100000 in
theorem dominoref08_Shared.calls (k : Nat) (a0 : ByteArray) (a1 : ByteArray) (a2 : ByteArray) (r1 : ByteArray) (r2 : ByteArray) (w : World) (h : dominoref08_Shared.f k a0 a1 a2 = some (r1, r2)) :
  Calls Try.prog 25 #[.string a0, .string a1, .string a2] w fun e w' => e = .returned (.tuple #[.string r1, .string r2]) ∧ Below w.heap.size w w' := by
 have HB := Aside0.mk (Below.refl w.heap.size w)
 have H : ((dominoref08_Extract.f k (⟨#[100, 111, 109, 105, 110, 111]⟩ : ByteArray) a0).bind fun t285 => (if a1.size + a2.size ≤ 9223372036854775807 then ((dominoref07_Sum.f (a1 ++ a2)).bind fun t286 => ((dominoref08_of.f k t285 (⟨#[99, 108, 105, 101, 110, 116]⟩ : ByteArray) t286 32).bind fun t287 => ((dominoref08_of.f k t285 (⟨#[115, 101, 114, 118, 101, 114]⟩ : ByteArray) t286 32).bind fun t288 => (some (t287, t288))))) else (none))) = some (r1, r2) := h
 clear h
 replace H := Option.bind_eq_some_iff.mp H
 obtain ⟨t285, A40, H⟩ := H
 replace H : (if a1.size + a2.size ≤ 9223372036854775807 then ((dominoref07_Sum.f (a1 ++ a2)).bind fun t286 => ((dominoref08_of.f k t285 (⟨#[99, 108, 105, 101, 110, 116]⟩ : ByteArray) t286 32).bind fun t287 => ((dominoref08_of.f k t285 (⟨#[115, 101, 114, 118, 101, 114]⟩ : ByteArray) t286 32).bind fun t288 => (some (t287, t288))))) else (none)) = some (r1, r2) := H
 have A4 := Aside0.mk A40
 clear A40
 by_cases c5 : a1.size + a2.size ≤ 9223372036854775807
 ·rw [if_pos c5] at H
  have c5b0 := eq_true c5
  have c5b1 : decide (a1.size + a2.size ≤ 9223372036854775807) = true := decide_eq_true c5
  try have c5b2 : (9223372036854775807 < a1.size + a2.size) = False := eq_false (Nat.not_lt.2 c5)
  replace H := Option.bind_eq_some_iff.mp H
  obtain ⟨t286, A60, H⟩ := H
  replace H : ((dominoref08_of.f k t285 (⟨#[99, 108, 105, 101, 110, 116]⟩ : ByteArray) t286 32).bind fun t287 => ((dominoref08_of.f k t285 (⟨#[115, 101, 114, 118, 101, 114]⟩ : ByteArray) t286 32).bind fun t288 => (some (t287, t288)))) = some (r1, r2) := H
  have A6 := Aside0.mk A60
  clear A60
  replace H := Option.bind_eq_some_iff.mp H
  obtain ⟨t287, A70, H⟩ := H
  replace H : ((dominoref08_of.f k t285 (⟨#[115, 101, 114, 118, 101, 114]⟩ : ByteArray) t286 32).bind fun t288 => (some (t287, t288))) = some (r1, r2) := H
  have A7 := Aside0.mk A70
  clear A70
  replace H := Option.bind_eq_some_iff.mp H
  obtain ⟨t288, A80, H⟩ := H
  replace H : (some (t287, t288)) = some (r1, r2) := H
  have A8 := Aside0.mk A80
  clear A80
  simp only [Option.some.injEq, Prod.mk.injEq] at H
  obtain ⟨rfl, rfl⟩ := H
  go_enter Try.func25, Try.ntmps25
  go_wp2_with (first | ((with_reducible refine gate_callee (f := 21) rfl ?_); refine goesL_ (some 11) rfl rfl Try.func21 (by kernel_rfl) rfl #[.string (⟨#[100, 111, 109, 105, 110, 111]⟩ : ByteArray), .string a0] rfl (by (try simp only [List.map_toArray, List.map_cons, List.map_nil]); first | done | rfl | (simp only [List.length_drop, List.length_take]; rfl)) ?_; (with_reducible refine (dominoref08_Extract.calls k (⟨#[100, 111, 109, 105, 110, 111]⟩ : ByteArray) a0 t285 _ A4.out).mono ?_); rintro e w9 ⟨rfl, hb⟩; refine ⟨_, rfl, ?_⟩; have n0_ := Aside0.mk (below_step (by repeat (first | (with_reducible first | exact HB.out | apply below_alloc | apply pw_below_drewN | apply below_drew1) | exact HB.out)) hb); clear HB; have HB := n0_; clear n0_; (try clear hb); (try clear hb2); (try clear hk); (try clear hi)) | ((with_reducible refine gate_callee (f := 38) rfl ?_); refine goesL_ (some 15) rfl rfl Try.func38 (by kernel_rfl) rfl #[.string (a1 ++ a2)] rfl (by (try simp only [List.map_toArray, List.map_cons, List.map_nil]); first | done | rfl | (simp only [List.length_drop, List.length_take]; rfl)) ?_; (with_reducible refine (dominoref07_Sum.calls (a1 ++ a2) t286 _ A6.out).mono ?_); rintro e w10 ⟨rfl, hb⟩; refine ⟨_, rfl, ?_⟩; have n0_ := Aside0.mk (below_step (by repeat (first | (with_reducible first | exact HB.out | apply below_alloc | apply pw_below_drewN | apply below_drew1) | exact HB.out)) hb); clear HB; have HB := n0_; clear n0_; (try clear hb); (try clear hb2); (try clear hk); (try clear hi)) | ((with_reducible refine gate_callee (f := 39) rfl ?_); refine goesL_ (some 18) rfl rfl Try.func39 (by kernel_rfl) rfl #[.string t285, .string (⟨#[99, 108, 105, 101, 110, 116]⟩ : ByteArray), .string t286, .int .i64 32] rfl (by (try simp only [List.map_toArray, List.map_cons, List.map_nil]); first | done | rfl | (simp only [List.length_drop, List.length_take]; rfl)) ?_; (with_reducible refine (dominoref08_of.calls k t285 (⟨#[99, 108, 105, 101, 110, 116]⟩ : ByteArray) t286 32 t287 _ A7.out).mono ?_); rintro e w11 ⟨rfl, hb⟩; refine ⟨_, rfl, ?_⟩; have n0_ := Aside0.mk (below_step (by repeat (first | (with_reducible first | exact HB.out | apply below_alloc | apply pw_below_drewN | apply below_drew1) | exact HB.out)) hb); clear HB; have HB := n0_; clear n0_; (try clear hb); (try clear hb2); (try clear hk); (try clear hi)) | ((with_reducible refine gate_callee (f := 39) rfl ?_); refine goesL_ (some 21) rfl rfl Try.func39 (by kernel_rfl) rfl #[.string t285, .string (⟨#[115, 101, 114, 118, 101, 114]⟩ : ByteArray), .string t286, .int .i64 32] rfl (by (try simp only [List.map_toArray, List.map_cons, List.map_nil]); first | done | rfl | (simp only [List.length_drop, List.length_take]; rfl)) ?_; (with_reducible refine (dominoref08_of.calls k t285 (⟨#[115, 101, 114, 118, 101, 114]⟩ : ByteArray) t286 32 t288 _ A8.out).mono ?_); rintro e w12 ⟨rfl, hb⟩; refine ⟨_, rfl, ?_⟩; have n0_ := Aside0.mk (below_step (by repeat (first | (with_reducible first | exact HB.out | apply below_alloc | apply pw_below_drewN | apply below_drew1) | exact HB.out)) hb); clear HB; have HB := n0_; clear n0_; (try clear hb); (try clear hb2); (try clear hk); (try clear hi)))
  go_ret2
  exact ⟨by first | rfl | (simp [errW_none, errW_some] <;> rfl) | (simp [*, errW_none, errW_some] <;> rfl), by repeat (first | (with_reducible first | exact HB.out | apply below_alloc | apply pw_below_drewN | apply below_drew1) | exact HB.out)⟩
 ·rw [if_neg c5] at H
  exact absurd H (by simp)

/-! ### dominoref08_Next: function 26 -/
def dominoref08_Next.f (k : Nat) (a0 : ByteArray) : Option (ByteArray) := (dominoref08_of.f k a0 (⟨#[113, 117, 105, 99, 32, 107, 117]⟩ : ByteArray) (⟨#[]⟩ : ByteArray) 32).bind fun t289 => (some t289)
theorem dominoref08_Next.mono : ∀ a0 k, LeO (dominoref08_Next.f k a0) (dominoref08_Next.f (k + 1) a0) := by
 intro a0 k
 unfold dominoref08_Next.f
 repeat' first
   | (with_reducible exact dominoref08_of.mono _ _ _ _ _)
   | (with_reducible exact LeO.refl _)
   | (with_reducible exact LeO.none _)
   | (with_reducible refine LeO.ite ?_ ?_)
   | (with_reducible refine LeO.bind ?_ (fun _ => ?_))
   | exact dominoref08_of.mono _ _ _ _ _
   | exact LeO.none _
   | refine LeO.ite ?_ ?_
   | refine LeO.bind ?_ (fun _ => ?_)
set_option maxHeartbeats 8000000 in
set_option maxRecDepth 100000 in
theorem dominoref08_Next.calls (k : Nat) (a0 : ByteArray) (r : ByteArray) (w : World) (h : dominoref08_Next.f k a0 = some r) :
  Calls Try.prog 26 #[.string a0] w fun e w' => e = .returned (.string r) ∧ Below w.heap.size w w' := by
 have HB := Aside0.mk (Below.refl w.heap.size w)
 have H : ((dominoref08_of.f k a0 (⟨#[113, 117, 105, 99, 32, 107, 117]⟩ : ByteArray) (⟨#[]⟩ : ByteArray) 32).bind fun t289 => (some t289)) = some r := h
 clear h
 replace H := Option.bind_eq_some_iff.mp H
 obtain ⟨t289, A20, H⟩ := H
 replace H : (some t289) = some r := H
 have A2 := Aside0.mk A20
 clear A20
 obtain rfl := Option.some.inj H
 go_enter Try.func26, Try.ntmps26
 go_wp2_with (first | ((with_reducible refine gate_callee (f := 39) rfl ?_); refine goesL_ (some 4) rfl rfl Try.func39 (by kernel_rfl) rfl #[.string a0, .string (⟨#[113, 117, 105, 99, 32, 107, 117]⟩ : ByteArray), .string (⟨#[]⟩ : ByteArray), .int .i64 32] rfl (by (try simp only [List.map_toArray, List.map_cons, List.map_nil]); first | done | rfl | (simp only [List.length_drop, List.length_take]; rfl)) ?_; (with_reducible refine (dominoref08_of.calls k a0 (⟨#[113, 117, 105, 99, 32, 107, 117]⟩ : ByteArray) (⟨#[]⟩ : ByteArray) 32 t289 _ A2.out).mono ?_); rintro e w3 ⟨rfl, hb⟩; refine ⟨_, rfl, ?_⟩; have n0_ := Aside0.mk (below_step (by repeat (first | (with_reducible first | exact HB.out | apply below_alloc | apply pw_below_drewN | apply below_drew1) | exact HB.out)) hb); clear HB; have HB := n0_; clear n0_; (try clear hb); (try clear hb2); (try clear hk); (try clear hi)))
 go_ret
 exact ⟨by first | rfl | (simp [errW_none, errW_some] <;> rfl) | (simp [*, errW_none, errW_some] <;> rfl), by repeat (first | (with_reducible first | exact HB.out | apply below_alloc | apply pw_below_drewN | apply below_drew1) | exact HB.out)⟩

/-! ### dominoref08_Reset: function 27 -/
def dominoref08_Reset.f (k : Nat) (a0 : ByteArray) (a1 : ByteArray) : Option (ByteArray) := (dominoref08_Mac.f k a0 a1).bind fun t290 => (if 0 ≤ 16 then (if 16 ≤ (t290.size : Int) then (some (t290.extract 0 16)) else (none)) else (none))
theorem dominoref08_Reset.mono : ∀ a0 a1 k, LeO (dominoref08_Reset.f k a0 a1) (dominoref08_Reset.f (k + 1) a0 a1) := by
 intro a0 a1 k
 unfold dominoref08_Reset.f
 repeat' first
   | (with_reducible exact dominoref08_Mac.mono _ _ _)
   | (with_reducible exact LeO.refl _)
   | (with_reducible exact LeO.none _)
   | (with_reducible refine LeO.ite ?_ ?_)
   | (with_reducible refine LeO.bind ?_ (fun _ => ?_))
   | exact dominoref08_Mac.mono _ _ _
   | exact LeO.none _
   | refine LeO.ite ?_ ?_
   | refine LeO.bind ?_ (fun _ => ?_)
set_option maxHeartbeats 8000000 in
set_option maxRecDepth 100000 in
theorem dominoref08_Reset.calls (k : Nat) (a0 : ByteArray) (a1 : ByteArray) (r : ByteArray) (w : World) (h : dominoref08_Reset.f k a0 a1 = some r) :
  Calls Try.prog 27 #[.string a0, .string a1] w fun e w' => e = .returned (.string r) ∧ Below w.heap.size w w' := by
 have HB := Aside0.mk (Below.refl w.heap.size w)
 have H : ((dominoref08_Mac.f k a0 a1).bind fun t290 => (if 0 ≤ 16 then (if 16 ≤ (t290.size : Int) then (some (t290.extract 0 16)) else (none)) else (none))) = some r := h
 clear h
 replace H := Option.bind_eq_some_iff.mp H
 obtain ⟨t290, A30, H⟩ := H
 replace H : (if 0 ≤ 16 then (if 16 ≤ (t290.size : Int) then (some (t290.extract 0 16)) else (none)) else (none)) = some r := H
 have A3 := Aside0.mk A30
 clear A30
 by_cases c4 : 0 ≤ 16
 ·rw [if_pos c4] at H
  have c4b0 := eq_true c4
  have c4b1 : decide (0 ≤ 16) = true := decide_eq_true c4
  clear c4
  by_cases c5 : 16 ≤ (t290.size : Int)
  ·rw [if_pos c5] at H
   have c5b0 := eq_true c5
   have c5b1 : decide (16 ≤ (t290.size : Int)) = true := decide_eq_true c5
   clear c5
   obtain rfl := Option.some.inj H
   go_enter Try.func27, Try.ntmps27
   go_wp2_with (first | ((with_reducible refine gate_callee (f := 19) rfl ?_); refine goesL_ (some 7) rfl rfl Try.func19 (by kernel_rfl) rfl #[.string a0, .string a1] rfl (by (try simp only [List.map_toArray, List.map_cons, List.map_nil]); first | done | rfl | (simp only [List.length_drop, List.length_take]; rfl)) ?_; (with_reducible refine (dominoref08_Mac.calls k a0 a1 t290 _ A3.out).mono ?_); rintro e w6 ⟨rfl, hb⟩; refine ⟨_, rfl, ?_⟩; have n0_ := Aside0.mk (below_step (by repeat (first | (with_reducible first | exact HB.out | apply below_alloc | apply pw_below_drewN | apply below_drew1) | exact HB.out)) hb); clear HB; have HB := n0_; clear n0_; (try clear hb); (try clear hb2); (try clear hk); (try clear hi)))
   go_ret
   exact ⟨by first | rfl | (simp [errW_none, errW_some] <;> rfl) | (simp [*, errW_none, errW_some] <;> rfl), by repeat (first | (with_reducible first | exact HB.out | apply below_alloc | apply pw_below_drewN | apply below_drew1) | exact HB.out)⟩
  ·rw [if_neg c5] at H
   exact absurd H (by simp)
 ·rw [if_neg c4] at H
  exact absurd H (by simp)

end Go.Proofs.Ytghdmlcmoeoohaa.PKfx
