-- printed for this claim by a program of the claim (wip/tools/pp.py over the kit's print)
import Derived.Test.YtlcfjimgnfcdkaaPAkox0
import Derived.Test.YtlcfjimgnfcdkaaPAkox2
namespace Go.Proofs.Ytlcfjimgnfcdkaa.PAko
open Go.RowKit Go.Proofs.YtlcfjimgnfcdkaaW.PrintWords Go.Proofs.YtlcfjimgnfcdkaaW.PrintLast Go.Proofs.YtlcfjimgnfcdkaaW.PrintMore
attribute [local go_sem] max2_int min2_int max_two min_two max_three min_three max_four min_four   -- for this text's walks alone
set_option linter.unusedVariables false
set_option linter.unusedSimpArgs false

attribute [local go_sem] isSome_setCell_
/-! ### ranges_Add: function 18 -/
def ranges_Add.f (k : Nat) (l0 : List S44) (a1_0 a1_1 : Int) : Option (List S44) := (ranges_edges.f k l0 1).bind fun e1 => (ranges_edges.f k [⟨a1_0, a1_1⟩] 1).bind fun e2 => if e1.length + e2.length ≤ 549755813888 then some (sweepF wantPos (e1 ++ e2)) else none
theorem ranges_Add.mono : ∀ l0 a1_0 a1_1 k, LeO (ranges_Add.f k l0 a1_0 a1_1) (ranges_Add.f (k + 1) l0 a1_0 a1_1) := fun l0 a1_0 a1_1 k => LeO.bind (ranges_edges.mono l0 1 k) fun _ => LeO.bind (ranges_edges.mono _ 1 k) fun _ => LeO.refl _
set_option maxHeartbeats 400000 in
theorem ranges_Add_w (x : Int) (W : World) : Calls Try.prog 29 #[.int .i64 x] W fun e w' => e = .returned (.bool (wantPos x)) ∧ w' = W := by
 obtain ⟨b, hb⟩ : ∃ b, wantPos x = b := ⟨_, rfl⟩
 rw [hb]
 have hb2 : decide (0 < x) = b := hb
 clear hb
 go_enter Try.func29, Try.ntmps29
 go_wp2
 go_ret
 exact ⟨by first | rfl | rw [hb2] | simp [hb2], rfl⟩
theorem ranges_Add_e : ∀ args w, (callFunc 29 args).run Try.prog w = .ok (.enter 29 args) w := enters_of Try.func29 (by kernel_rfl) rfl
set_option maxHeartbeats 4000000 in
set_option maxRecDepth 100000 in
theorem ranges_Add.calls (k : Nat) (A0 : Option Addr) (c0 : Nat) (l0 : List S44) (a1_0 a1_1 : Int) (r : List S44) (w : World) (hr0 : Kd.C k44 w A0 l0.length l0) (hc0 : l0.length ≤ c0) (h : ranges_Add.f k l0 a1_0 a1_1 = some r) :
  Calls Try.prog 18 #[.slice A0 l0.length c0, .agg #[.int .u64 a1_0, .int .u64 a1_1]] w fun e w' => ∃ v0_ : Value, e = .returned (v0_) ∧ Kd.R k44 44 w' w.heap.size (fun _ => True) v0_ r ∧ Below w.heap.size w w' := by
 obtain ⟨e1, h1, h2⟩ := Option.bind_eq_some_iff.1 h
 obtain ⟨e2, h4, h3⟩ := Option.bind_eq_some_iff.1 h2
 by_cases c : e1.length + e2.length ≤ 549755813888
 ·rw [if_pos c] at h3
  obtain rfl := Option.some.inj h3
  have H1 := Aside0.mk h1
  have H2 := Aside0.mk h4
  have HR := Aside0.mk hr0
  have HC := Aside0.mk hc0
  clear h h1 h2 h4 h3 hr0 hc0
  have HBx : Aside0 (Below w.heap.size w (w.alloc (.cells #[.int .u64 a1_0, .int .u64 a1_1] 44)).drew) := ⟨below_drew1 (below_alloc (Below.refl _ _) _)⟩
  have HSx : RS w.heap.size a1_0 a1_1 (w.alloc (.cells #[.int .u64 a1_0, .int .u64 a1_1] 44)).drew := RS.new w a1_0 a1_1 44
  have HSY := Aside0.mk HSx
  clear HSx
  go_enter Try.func18, Try.ntmps18
  go_wp2_with fail
  refine start_ (n := 8) (S := RS w.heap.size a1_0 a1_1) (ds := []) #[false,false,false,false,false,false,false,false] (by kernel_rfl) rfl rfl HSY.out (fun hHeld => ?_)
  generalize (w.alloc (.cells #[.int .u64 a1_0, .int .u64 a1_1] 44)).drew = w1 at hHeld HBx HSY ⊢
  clear HSY
  refine pure_ (i := 0) (N := some 5) (v := ?_) (a' := ?_) #[true,false,false,false,false,false,false,false] rfl rfl (by kernel_rfl) (fun _ _ _ h => h) (Or.inl ⟨by rfl, ?_⟩) ?_ ?_
  rotate_left;(intro w';go_simp;with_reducible rfl);rotate_left;(simp only [Act.put, List.setIfInBounds_toArray, List.set_cons_zero, List.set_cons_succ, i64_w, i32_w];rfl)
  refine take_ (i := 2) (N := some 7) (v := ?_) (a' := ?_) #[true,false,true,false,false,false,false,false] rfl rfl (by kernel_rfl) (fun _ _ _ h => h) (Or.inl ⟨by rfl, ?_⟩) hHeld ?_ ?_
  rotate_left
  ·rintro w' ⟨s0, s1⟩
   go_simp
   with_reducible rfl
  rotate_left
  ·simp only [Act.put, List.setIfInBounds_toArray, List.set_cons_zero, List.set_cons_succ, i64_w, i32_w]
   rfl
  refine two_ (i := 1) (j := 3) (Ni := some 6) (Nj := some 8) #[true,true,true,false,false,false,false,false] #[true,false,true,true,false,false,false,false] rfl rfl rfl rfl (by kernel_rfl) (by decide) (by decide) (fun K hK => ?_) (fun K hK => ?_)
  ·skip
   refine goes_ (N := some 6) Try.func30 (by kernel_rfl) rfl #[.slice A0 l0.length c0, .int .i64 1] (by rfl) rfl rfl (by (try simp only [List.map_toArray, List.map_cons, List.map_nil]); first | done | rfl) ?_
   refine (ranges_edges.calls k A0 c0 l0 1 e1 _ (Kd.C_below HR.out HBx.out) HC.out H1.out).mono ?_
   rintro e w2 ⟨v, rfl, ho, hb⟩
   obtain ⟨B1, d1, rfl, hl1, hC1⟩ := Kd.R_reads ho
   refine ⟨_, rfl, ?_⟩
   have HB2 := Aside0.mk (below_step HBx.out hb)
   have HS2 := hHeld.below hb
   have HC1 : Aside0 (Kd.C k87 (w2.alloc (.cells #[.int .u64 a1_0, .int .u64 a1_1] 44)) B1 e1.length e1) := ⟨Kd.C_below hC1 (below_alloc (Below.refl _ _) _)⟩
   clear ho hC1 hl1 hb hHeld
   refine hK.out _ _ (HS2) (fun hHeld => ?_)
   clear hK K
   refine norm_ (a' := ?_) ?_ ?_
   rotate_left
   ·show Act.put _ (some 6) _ = _
    simp only [Act.put, List.setIfInBounds_toArray, List.set_cons_zero, List.set_cons_succ, i64_w, i32_w]
    rfl
   clear HS2
   refine one_ (i := 3) (N := some 8) #[true,true,true,true,false,false,false,false] rfl rfl (by kernel_rfl) (by decide) (fun K hK => ?_)
   refine value_ (w1 := ?_) (v := ?_) (by rfl) rfl ?_ ?_
   rotate_left 2
   ·go_simp
    constructor
    ·rfl
    ·rfl
   refine hK.out _ _ (hHeld.alloc _) (fun hHeld => ?_)
   clear hK K
   refine norm_ (a' := ?_) ?_ ?_
   rotate_left
   ·show Act.put _ (some 8) _ = _
    simp only [Act.put, List.setIfInBounds_toArray, List.set_cons_zero, List.set_cons_succ, i64_w, i32_w]
    rfl
   have HO : Aside0 (Kd.C k44 (w2.alloc (.cells #[.int .u64 a1_0, .int .u64 a1_1] 44)) (some ⟨w2.heap.size, 0, none⟩) 1 [(⟨a1_0, a1_1⟩ : S44)]) := ⟨one_range (heap_alloc_new w2 _)⟩
   have HB3 := Aside0.mk (below_alloc HB2.out (.cells #[.int .u64 a1_0, .int .u64 a1_1] 44))
   refine one_ (i := 4) (N := some 9) #[true,true,true,true,true,false,false,false] rfl rfl (by kernel_rfl) (by decide) (fun K hK => ?_)
   refine goes_ (N := some 9) Try.func30 (by kernel_rfl) rfl #[.slice (some ⟨w2.heap.size, 0, none⟩) 1 1, .int .i64 1] (by rfl) rfl rfl (by (try simp only [List.map_toArray, List.map_cons, List.map_nil]); first | done | rfl) ?_
   refine (ranges_edges.calls k _ 1 [(⟨a1_0, a1_1⟩ : S44)] 1 e2 _ HO.out (Nat.le_refl _) H2.out).mono ?_
   rintro e w8 ⟨v, rfl, ho, hb⟩
   obtain ⟨B2, d2, rfl, hl2, hC3⟩ := Kd.R_reads ho
   refine ⟨_, rfl, ?_⟩
   have HC4 := Aside0.mk (Kd.C_below HC1.out hb)
   have HC5 := Aside0.mk hC3
   have HB8 := Aside0.mk (below_step HB3.out hb)
   have HS8 := hHeld.below hb
   clear ho hC3 hl2 hb hHeld
   refine hK.out _ _ (HS8) (fun hHeld => ?_)
   clear hK K
   refine norm_ (a' := ?_) ?_ ?_
   rotate_left
   ·show Act.put _ (some 9) _ = _
    simp only [Act.put, List.setIfInBounds_toArray, List.set_cons_zero, List.set_cons_succ, i64_w, i32_w]
    rfl
   clear HS8
   refine one_ (i := 5) (N := some 10) #[true,true,true,true,true,true,false,false] rfl rfl (by kernel_rfl) (by decide) (fun K hK => ?_)
   refine value_ (w1 := ?_) (v := ?_) (by rfl) rfl ?_ ?_
   rotate_left 2
   ·go_simp
    constructor
    ·rfl
    ·rfl
   refine hK.out _ _ (hHeld.alloc _) (fun hHeld => ?_)
   clear hK K
   refine norm_ (a' := ?_) ?_ ?_
   rotate_left
   ·show Act.put _ (some 10) _ = _
    simp only [Act.put, List.setIfInBounds_toArray, List.set_cons_zero, List.set_cons_succ, i64_w, i32_w]
    rfl
   have hb2 : Below w8.heap.size w8 (w8.alloc (.cells #[.slice B1 e1.length d1, .slice B2 e2.length d2] 73)) := below_alloc (Below.refl _ _) _
   have HS := Aside0.mk (swept2 29 wantPos ranges_Add_e ranges_Add_w w8.heap.size B1 B2 d1 d2 e1 e2 (w8.alloc (.cells #[.slice B1 e1.length d1, .slice B2 e2.length d2] 73)) ((blk_cell (heap_alloc_new w8 _) 0).trans rfl) ((blk_cell (heap_alloc_new w8 _) 1).trans rfl) (Kd.C_below HC4.out hb2) (Kd.C_below HC5.out hb2) c)
   have HB9 := Aside0.mk (below_alloc HB8.out (.cells #[.slice B1 e1.length d1, .slice B2 e2.length d2] 73))
   clear hb2
   refine one_ (i := 6) (N := some 11) #[true,true,true,true,true,true,true,false] rfl rfl (by kernel_rfl) (by decide) (fun K hK => ?_)
   refine goes_ (N := some 11) Try.func28 (by kernel_rfl) rfl #[.func (.func 29) #[] #[], .slice (some ⟨w8.heap.size, 0, none⟩) 2 2] (by rfl) rfl rfl (by (try simp only [List.map_toArray, List.map_cons, List.map_nil]); first | done | rfl) ?_
   refine HS.out.mono ?_
   rintro e w9 ⟨v, rfl, ho, hb⟩
   refine ⟨_, rfl, ?_⟩
   have HO9 := Aside0.mk ho
   have HBZ := Aside0.mk (below_step HB9.out hb)
   have HS9 := hHeld.below hb
   clear ho hb hHeld
   refine hK.out _ _ (HS9) (fun hHeld => ?_)
   clear hK K
   refine norm_ (a' := ?_) ?_ ?_
   rotate_left
   ·show Act.put _ (some 11) _ = _
    simp only [Act.put, List.setIfInBounds_toArray, List.set_cons_zero, List.set_cons_succ, i64_w, i32_w]
    rfl
   clear HS9
   refine pure_ (i := 7) (N := some 4) (v := ?_) (a' := ?_) #[true,true,true,true,true,true,true,true] rfl rfl (by kernel_rfl) (fun _ _ _ h => h) (Or.inl ⟨by rfl, ?_⟩) ?_ ?_
   rotate_left;(intro w';go_simp;with_reducible rfl);rotate_left;(simp only [Act.put, List.setIfInBounds_toArray, List.set_cons_zero, List.set_cons_succ, i64_w, i32_w];rfl)
   refine done_ (by kernel_rfl) ?_
   go_wp2
   go_ret
   exact ⟨_, rfl, Kd.R_lower HO9.out HB9.out.size, HBZ.out⟩
  ·skip
   refine value_ (w1 := ?_) (v := ?_) (by rfl) rfl ?_ ?_
   rotate_left 2
   ·go_simp
    constructor
    ·rfl
    ·rfl
   refine hK.out _ _ (hHeld.alloc _) (fun hHeld => ?_)
   clear hK K
   refine norm_ (a' := ?_) ?_ ?_
   rotate_left
   ·show Act.put _ (some 8) _ = _
    simp only [Act.put, List.setIfInBounds_toArray, List.set_cons_zero, List.set_cons_succ, i64_w, i32_w]
    rfl
   have HO0 : Aside0 (Kd.C k44 (w1.alloc (.cells #[.int .u64 a1_0, .int .u64 a1_1] 44)) (some ⟨w1.heap.size, 0, none⟩) 1 [(⟨a1_0, a1_1⟩ : S44)]) := ⟨one_range (heap_alloc_new w1 _)⟩
   have HB2 := Aside0.mk (below_alloc HBx.out (.cells #[.int .u64 a1_0, .int .u64 a1_1] 44))
   refine one_ (i := 1) (N := some 6) #[true,true,true,true,false,false,false,false] rfl rfl (by kernel_rfl) (by decide) (fun K hK => ?_)
   refine goes_ (N := some 6) Try.func30 (by kernel_rfl) rfl #[.slice A0 l0.length c0, .int .i64 1] (by rfl) rfl rfl (by (try simp only [List.map_toArray, List.map_cons, List.map_nil]); first | done | rfl) ?_
   refine (ranges_edges.calls k A0 c0 l0 1 e1 _ (Kd.C_below HR.out HB2.out) HC.out H1.out).mono ?_
   rintro e w2 ⟨v, rfl, ho, hb⟩
   obtain ⟨B1, d1, rfl, hl1, hC1⟩ := Kd.R_reads ho
   refine ⟨_, rfl, ?_⟩
   have HB3 := Aside0.mk (below_step HB2.out hb)
   have HS2 := hHeld.below hb
   have HC1 := Aside0.mk hC1
   have HO := Aside0.mk (Kd.C_below HO0.out hb)
   clear ho hC1 hl1 hb hHeld
   refine hK.out _ _ (HS2) (fun hHeld => ?_)
   clear hK K
   refine norm_ (a' := ?_) ?_ ?_
   rotate_left
   ·show Act.put _ (some 6) _ = _
    simp only [Act.put, List.setIfInBounds_toArray, List.set_cons_zero, List.set_cons_succ, i64_w, i32_w]
    rfl
   clear HS2
   refine one_ (i := 4) (N := some 9) #[true,true,true,true,true,false,false,false] rfl rfl (by kernel_rfl) (by decide) (fun K hK => ?_)
   refine goes_ (N := some 9) Try.func30 (by kernel_rfl) rfl #[.slice (some ⟨w1.heap.size, 0, none⟩) 1 1, .int .i64 1] (by rfl) rfl rfl (by (try simp only [List.map_toArray, List.map_cons, List.map_nil]); first | done | rfl) ?_
   refine (ranges_edges.calls k _ 1 [(⟨a1_0, a1_1⟩ : S44)] 1 e2 _ HO.out (Nat.le_refl _) H2.out).mono ?_
   rintro e w8 ⟨v, rfl, ho, hb⟩
   obtain ⟨B2, d2, rfl, hl2, hC3⟩ := Kd.R_reads ho
   refine ⟨_, rfl, ?_⟩
   have HC4 := Aside0.mk (Kd.C_below HC1.out hb)
   have HC5 := Aside0.mk hC3
   have HB8 := Aside0.mk (below_step HB3.out hb)
   have HS8 := hHeld.below hb
   clear ho hC3 hl2 hb hHeld
   refine hK.out _ _ (HS8) (fun hHeld => ?_)
   clear hK K
   refine norm_ (a' := ?_) ?_ ?_
   rotate_left
   ·show Act.put _ (some 9) _ = _
    simp only [Act.put, List.setIfInBounds_toArray, List.set_cons_zero, List.set_cons_succ, i64_w, i32_w]
    rfl
   clear HS8
   refine one_ (i := 5) (N := some 10) #[true,true,true,true,true,true,false,false] rfl rfl (by kernel_rfl) (by decide) (fun K hK => ?_)
   refine value_ (w1 := ?_) (v := ?_) (by rfl) rfl ?_ ?_
   rotate_left 2
   ·go_simp
    constructor
    ·rfl
    ·rfl
   refine hK.out _ _ (hHeld.alloc _) (fun hHeld => ?_)
   clear hK K
   refine norm_ (a' := ?_) ?_ ?_
   rotate_left
   ·show Act.put _ (some 10) _ = _
    simp only [Act.put, List.setIfInBounds_toArray, List.set_cons_zero, List.set_cons_succ, i64_w, i32_w]
    rfl
   have hb2 : Below w8.heap.size w8 (w8.alloc (.cells #[.slice B1 e1.length d1, .slice B2 e2.length d2] 73)) := below_alloc (Below.refl _ _) _
   have HS := Aside0.mk (swept2 29 wantPos ranges_Add_e ranges_Add_w w8.heap.size B1 B2 d1 d2 e1 e2 (w8.alloc (.cells #[.slice B1 e1.length d1, .slice B2 e2.length d2] 73)) ((blk_cell (heap_alloc_new w8 _) 0).trans rfl) ((blk_cell (heap_alloc_new w8 _) 1).trans rfl) (Kd.C_below HC4.out hb2) (Kd.C_below HC5.out hb2) c)
   have HB9 := Aside0.mk (below_alloc HB8.out (.cells #[.slice B1 e1.length d1, .slice B2 e2.length d2] 73))
   clear hb2
   refine one_ (i := 6) (N := some 11) #[true,true,true,true,true,true,true,false] rfl rfl (by kernel_rfl) (by decide) (fun K hK => ?_)
   refine goes_ (N := some 11) Try.func28 (by kernel_rfl) rfl #[.func (.func 29) #[] #[], .slice (some ⟨w8.heap.size, 0, none⟩) 2 2] (by rfl) rfl rfl (by (try simp only [List.map_toArray, List.map_cons, List.map_nil]); first | done | rfl) ?_
   refine HS.out.mono ?_
   rintro e w9 ⟨v, rfl, ho, hb⟩
   refine ⟨_, rfl, ?_⟩
   have HO9 := Aside0.mk ho
   have HBZ := Aside0.mk (below_step HB9.out hb)
   have HS9 := hHeld.below hb
   clear ho hb hHeld
   refine hK.out _ _ (HS9) (fun hHeld => ?_)
   clear hK K
   refine norm_ (a' := ?_) ?_ ?_
   rotate_left
   ·show Act.put _ (some 11) _ = _
    simp only [Act.put, List.setIfInBounds_toArray, List.set_cons_zero, List.set_cons_succ, i64_w, i32_w]
    rfl
   clear HS9
   refine pure_ (i := 7) (N := some 4) (v := ?_) (a' := ?_) #[true,true,true,true,true,true,true,true] rfl rfl (by kernel_rfl) (fun _ _ _ h => h) (Or.inl ⟨by rfl, ?_⟩) ?_ ?_
   rotate_left;(intro w';go_simp;with_reducible rfl);rotate_left;(simp only [Act.put, List.setIfInBounds_toArray, List.set_cons_zero, List.set_cons_succ, i64_w, i32_w];rfl)
   refine done_ (by kernel_rfl) ?_
   go_wp2
   go_ret
   exact ⟨_, rfl, Kd.R_lower HO9.out HB9.out.size, HBZ.out⟩
 ·rw [if_neg c] at h3
  exact absurd h3 (by simp)

/-- A state of type 60 at block g of W; what its slices lead to came in by w0. -/
def IsS60 (w0 W : World) (g : Nat) (f0 : List (S44)) (f1 : Int) (f2 : Int) (f3 : Int) (f4 : Int) (f5 : Int) : Prop := ∃ A0 c0, W.heap[g]? = some (.cells #[.slice A0 f0.length c0, .int .u64 f1, .int .i64 f2, .int .i64 f3, .int .i64 f4, .int .i64 f5] 60 (0, 0)) ∧ w0.heap.size ≤ g ∧ Kd.C k44 w0 A0 f0.length f0
theorem IsS60.grown {w0 W : World} {g : Nat} {f0 : List (S44)} {f1 : Int} {f2 : Int} {f3 : Int} {f4 : Int} {f5 : Int} {W1 : World} {row : Option Nat} (h : IsS60 w0 W g f0 f1 f2 f3 f4 f5) (hw : W.grownBy W1 row) (hne : some g ≠ row) : IsS60 w0 W1 g f0 f1 f2 f3 f4 f5 := by
 obtain ⟨A0, c0, hb, hg, hr0⟩ := h
 exact ⟨A0, c0, blk_grown hb hw hne, hg, hr0⟩
theorem IsS60.own_neN {w0 W : World} {g : Nat} {f0 : List (S44)} {f1 : Int} {f2 : Int} {f3 : Int} {f4 : Int} {f5 : Int} {α : Type} {d : Kd α} {e : Nat} {base : Nat} {ok : Nat → Prop} {v : Value} {xs : List α} (h : IsS60 w0 W g f0 f1 f2 f3 f4 f5) (ho : Kd.N d e W base ok v xs) (ht : e ≠ 60) : some g ≠ v.ownBlock := by
 obtain ⟨A0, c0, hb, hg, hr0⟩ := h
 exact Kd.N_ne ho hb ht
theorem IsS60.fresh {w0 W : World} {g : Nat} {f0 : List (S44)} {f1 : Int} {f2 : Int} {f3 : Int} {f4 : Int} {f5 : Int} (h : IsS60 w0 W g f0 f1 f2 f3 f4 f5) : ∀ k, W.heap.size ≤ k → k ≠ g := by
 obtain ⟨A0, c0, hb, hg, hr0⟩ := h
 exact Kd.freshB hb
theorem IsS60.kept {w0 W : World} {g : Nat} {f0 : List (S44)} {f1 : Int} {f2 : Int} {f3 : Int} {f4 : Int} {f5 : Int} {W1 : World} {S : Nat → Prop} (h : IsS60 w0 W g f0 f1 f2 f3 f4 f5) (hk : Kept W W1 S) (hne : ¬ S g) : IsS60 w0 W1 g f0 f1 f2 f3 f4 f5 := by
 obtain ⟨A0, c0, hb, hg, hr0⟩ := h
 exact ⟨A0, c0, blk_kept hb hk hne, hg, hr0⟩
theorem IsS60.below {w0 W : World} {g : Nat} {f0 : List (S44)} {f1 : Int} {f2 : Int} {f3 : Int} {f4 : Int} {f5 : Int} {W1 : World} (h : IsS60 w0 W g f0 f1 f2 f3 f4 f5) (hw : Below W.heap.size W W1) : IsS60 w0 W1 g f0 f1 f2 f3 f4 f5 := h.grown (grown_of_below hw none) (by simp)
theorem IsS60.alloc {w0 W : World} {g : Nat} {f0 : List (S44)} {f1 : Int} {f2 : Int} {f3 : Int} {f4 : Int} {f5 : Int} (h : IsS60 w0 W g f0 f1 f2 f3 f4 f5) (o : Obj) : IsS60 w0 (W.alloc o) g f0 f1 f2 f3 f4 f5 := h.below (below_alloc (Below.refl _ _) o)
theorem IsS60.drewN {w0 W : World} {g : Nat} {f0 : List (S44)} {f1 : Int} {f2 : Int} {f3 : Int} {f4 : Int} {f5 : Int} (h : IsS60 w0 W g f0 f1 f2 f3 f4 f5) (m : Nat) : IsS60 w0 (W.drewN m) g f0 f1 f2 f3 f4 f5 := h
theorem IsS60.drew {w0 W : World} {g : Nat} {f0 : List (S44)} {f1 : Int} {f2 : Int} {f3 : Int} {f4 : Int} {f5 : Int} (h : IsS60 w0 W g f0 f1 f2 f3 f4 f5) : IsS60 w0 W.drew g f0 f1 f2 f3 f4 f5 := h
theorem IsS60.at_ {w0 W : World} {g : Nat} {f0 : List (S44)} {f1 : Int} {f2 : Int} {f3 : Int} {f4 : Int} {f5 : Int} {w' : World} {m : Nat} (hq : W.drewN m = w') (h : IsS60 w0 W g f0 f1 f2 f3 f4 f5) : IsS60 w0 w' g f0 f1 f2 f3 f4 f5 := by subst hq; exact IsS60.drewN h m
theorem IsS60.apart {w0 W : World} {g : Nat} {f0 : List (S44)} {f1 : Int} {f2 : Int} {f3 : Int} {f4 : Int} {f5 : Int} {α : Type} {d : Kd α} {e : Nat} {base : Nat} {ok : Nat → Prop} {v : Value} {xs : List α} (h : IsS60 w0 W g f0 f1 f2 f3 f4 f5) (ho : d.R e W base ok v xs) (ht : ∀ q, q ∈ e :: d.E → q ≠ 60) : d.R e W base (fun k => ok k ∧ k ≠ g) v xs := by
 obtain ⟨A0, c0, hb, hg, hr0⟩ := h
 exact Kd.R_types ho hb ht
theorem IsS60.own_ne {w0 W : World} {g : Nat} {f0 : List (S44)} {f1 : Int} {f2 : Int} {f3 : Int} {f4 : Int} {f5 : Int} {α : Type} {d : Kd α} {e : Nat} {base : Nat} {ok : Nat → Prop} {v : Value} {xs : List α} (h : IsS60 w0 W g f0 f1 f2 f3 f4 f5) (ho : d.R e W base ok v xs) (ht : e ≠ 60) : some g ≠ v.ownBlock := by
 obtain ⟨A0, c0, hb, hg, hr0⟩ := h
 exact Kd.R_ne ho hb ht
theorem IsS60.apartQ {w0 W : World} {g : Nat} {f0 : List (S44)} {f1 : Int} {f2 : Int} {f3 : Int} {f4 : Int} {f5 : Int} {α : Type} {d : Kd α} {e : Nat} {base : Nat} {ok : Nat → Prop} {v : Value} {xs : List α} (h : IsS60 w0 W g f0 f1 f2 f3 f4 f5) (ho : d.Q e W base ok v xs) (ht : ∀ q, q ∈ e :: d.E → q ≠ 60) : d.Q e W base (fun k => ok k ∧ k ≠ g) v xs := by
 obtain ⟨A0, c0, hb, hg, hr0⟩ := h
 exact Kd.Q_types ho hb ht
theorem IsS60.own_neQ {w0 W : World} {g : Nat} {f0 : List (S44)} {f1 : Int} {f2 : Int} {f3 : Int} {f4 : Int} {f5 : Int} {α : Type} {d : Kd α} {e : Nat} {base : Nat} {ok : Nat → Prop} {v : Value} {xs : List α} (h : IsS60 w0 W g f0 f1 f2 f3 f4 f5) (ho : d.Q e W base ok v xs) (ht : e ≠ 60) : some g ≠ v.ownBlock := by
 obtain ⟨A0, c0, hb, hg, hr0⟩ := h
 exact Kd.Q_ne ho hb ht
theorem IsS60.apartS {w0 W : World} {g : Nat} {f0 : List (S44)} {f1 : Int} {f2 : Int} {f3 : Int} {f4 : Int} {f5 : Int} {α : Type} {d : Kd α} {e : Nat} {base : Nat} {ok : Nat → Prop} {v : Value} {xs : List α} (h : IsS60 w0 W g f0 f1 f2 f3 f4 f5) (ho : d.S e W base ok v xs) (ht : ∀ q, q ∈ e :: d.E → q ≠ 60) : d.S e W base (fun k => ok k ∧ k ≠ g) v xs := by
 obtain ⟨A0, c0, hb, hg, hr0⟩ := h
 exact Kd.S_types ho hb ht
theorem IsS60.own_neS {w0 W : World} {g : Nat} {f0 : List (S44)} {f1 : Int} {f2 : Int} {f3 : Int} {f4 : Int} {f5 : Int} {α : Type} {d : Kd α} {e : Nat} {base : Nat} {ok : Nat → Prop} {v : Value} {xs : List α} (h : IsS60 w0 W g f0 f1 f2 f3 f4 f5) (ho : d.S e W base ok v xs) (ht : e ≠ 60) : some g ≠ v.ownBlock := by
 obtain ⟨A0, c0, hb, hg, hr0⟩ := h
 exact Kd.S_ne ho hb ht
theorem IsS60.lt {w0 W : World} {g : Nat} {f0 : List (S44)} {f1 : Int} {f2 : Int} {f3 : Int} {f4 : Int} {f5 : Int} (h : IsS60 w0 W g f0 f1 f2 f3 f4 f5) : g < W.heap.size := by
 obtain ⟨A0, c0, hb, hg, hr0⟩ := h
 exact blk_lt hb
theorem IsS60.ge {w0 W : World} {g : Nat} {f0 : List (S44)} {f1 : Int} {f2 : Int} {f3 : Int} {f4 : Int} {f5 : Int} (h : IsS60 w0 W g f0 f1 f2 f3 f4 f5) : w0.heap.size ≤ g := by
 obtain ⟨A0, c0, hb, hg, hr0⟩ := h
 exact hg
theorem IsS60.ne_blk {w0 W : World} {g : Nat} {f0 : List (S44)} {f1 : Int} {f2 : Int} {f3 : Int} {f4 : Int} {f5 : Int} {a : Nat} {cs : Array Value} {t : TypeId} {fr : Nat × Nat} (h : IsS60 w0 W g f0 f1 f2 f3 f4 f5) (hb2 : W.heap[a]? = some (.cells cs t fr)) (ht : t ≠ 60) : g ≠ a := by
 obtain ⟨A0, c0, hb, hg, hr0⟩ := h
 rintro rfl
 rw [hb] at hb2
 injection hb2 with hb2
 injection hb2 with _ ht2
 exact ht ht2.symm
theorem IsS60.far {w0 W : World} {g : Nat} {f0 : List (S44)} {f1 : Int} {f2 : Int} {f3 : Int} {f4 : Int} {f5 : Int} {p : Addr} (h : IsS60 w0 W g f0 f1 f2 f3 f4 f5) (hne : g ≠ p.block) (u : Value) : IsS60 w0 (W.setCell p u) g f0 f1 f2 f3 f4 f5 := by
 obtain ⟨A0, c0, hb, hg, hr0⟩ := h
 exact ⟨A0, c0, blk_far hb hne u, hg, hr0⟩
theorem cellS60_0 {W : World} {g : Nat} {A0 : Option Addr} {c0 : Nat} {f0 : List (S44)} {f1 : Int} {f2 : Int} {f3 : Int} {f4 : Int} {f5 : Int} (h : W.heap[g]? = some (.cells #[.slice A0 f0.length c0, .int .u64 f1, .int .i64 f2, .int .i64 f3, .int .i64 f4, .int .i64 f5] 60 (0, 0))) : W.cell? ⟨g, 0, none⟩ = some (.slice A0 f0.length c0) := (blk_cell h 0).trans rfl
theorem cellS60_1 {W : World} {g : Nat} {A0 : Option Addr} {c0 : Nat} {f0 : List (S44)} {f1 : Int} {f2 : Int} {f3 : Int} {f4 : Int} {f5 : Int} (h : W.heap[g]? = some (.cells #[.slice A0 f0.length c0, .int .u64 f1, .int .i64 f2, .int .i64 f3, .int .i64 f4, .int .i64 f5] 60 (0, 0))) : W.cell? ⟨g, 1, none⟩ = some (.int .u64 f1) := (blk_cell h 1).trans rfl
theorem IsS60.set_1 {w0 W : World} {g : Nat} {f0 : List (S44)} {f1 : Int} {f2 : Int} {f3 : Int} {f4 : Int} {f5 : Int} (h : IsS60 w0 W g f0 f1 f2 f3 f4 f5) (x : Int) : IsS60 w0 (W.setCell ⟨g, 1, none⟩ (.int .u64 x)) g f0 x f2 f3 f4 f5 := by
 obtain ⟨A0, c0, hb, hg, hr0⟩ := h
 exact ⟨A0, c0, by simpa using blk_set hb 1 (.int .u64 x), hg, hr0⟩
theorem cellS60_2 {W : World} {g : Nat} {A0 : Option Addr} {c0 : Nat} {f0 : List (S44)} {f1 : Int} {f2 : Int} {f3 : Int} {f4 : Int} {f5 : Int} (h : W.heap[g]? = some (.cells #[.slice A0 f0.length c0, .int .u64 f1, .int .i64 f2, .int .i64 f3, .int .i64 f4, .int .i64 f5] 60 (0, 0))) : W.cell? ⟨g, 2, none⟩ = some (.int .i64 f2) := (blk_cell h 2).trans rfl
theorem IsS60.set_2 {w0 W : World} {g : Nat} {f0 : List (S44)} {f1 : Int} {f2 : Int} {f3 : Int} {f4 : Int} {f5 : Int} (h : IsS60 w0 W g f0 f1 f2 f3 f4 f5) (x : Int) : IsS60 w0 (W.setCell ⟨g, 2, none⟩ (.int .i64 x)) g f0 f1 x f3 f4 f5 := by
 obtain ⟨A0, c0, hb, hg, hr0⟩ := h
 exact ⟨A0, c0, by simpa using blk_set hb 2 (.int .i64 x), hg, hr0⟩
theorem cellS60_3 {W : World} {g : Nat} {A0 : Option Addr} {c0 : Nat} {f0 : List (S44)} {f1 : Int} {f2 : Int} {f3 : Int} {f4 : Int} {f5 : Int} (h : W.heap[g]? = some (.cells #[.slice A0 f0.length c0, .int .u64 f1, .int .i64 f2, .int .i64 f3, .int .i64 f4, .int .i64 f5] 60 (0, 0))) : W.cell? ⟨g, 3, none⟩ = some (.int .i64 f3) := (blk_cell h 3).trans rfl
theorem IsS60.set_3 {w0 W : World} {g : Nat} {f0 : List (S44)} {f1 : Int} {f2 : Int} {f3 : Int} {f4 : Int} {f5 : Int} (h : IsS60 w0 W g f0 f1 f2 f3 f4 f5) (x : Int) : IsS60 w0 (W.setCell ⟨g, 3, none⟩ (.int .i64 x)) g f0 f1 f2 x f4 f5 := by
 obtain ⟨A0, c0, hb, hg, hr0⟩ := h
 exact ⟨A0, c0, by simpa using blk_set hb 3 (.int .i64 x), hg, hr0⟩
theorem cellS60_4 {W : World} {g : Nat} {A0 : Option Addr} {c0 : Nat} {f0 : List (S44)} {f1 : Int} {f2 : Int} {f3 : Int} {f4 : Int} {f5 : Int} (h : W.heap[g]? = some (.cells #[.slice A0 f0.length c0, .int .u64 f1, .int .i64 f2, .int .i64 f3, .int .i64 f4, .int .i64 f5] 60 (0, 0))) : W.cell? ⟨g, 4, none⟩ = some (.int .i64 f4) := (blk_cell h 4).trans rfl
theorem IsS60.set_4 {w0 W : World} {g : Nat} {f0 : List (S44)} {f1 : Int} {f2 : Int} {f3 : Int} {f4 : Int} {f5 : Int} (h : IsS60 w0 W g f0 f1 f2 f3 f4 f5) (x : Int) : IsS60 w0 (W.setCell ⟨g, 4, none⟩ (.int .i64 x)) g f0 f1 f2 f3 x f5 := by
 obtain ⟨A0, c0, hb, hg, hr0⟩ := h
 exact ⟨A0, c0, by simpa using blk_set hb 4 (.int .i64 x), hg, hr0⟩
theorem cellS60_5 {W : World} {g : Nat} {A0 : Option Addr} {c0 : Nat} {f0 : List (S44)} {f1 : Int} {f2 : Int} {f3 : Int} {f4 : Int} {f5 : Int} (h : W.heap[g]? = some (.cells #[.slice A0 f0.length c0, .int .u64 f1, .int .i64 f2, .int .i64 f3, .int .i64 f4, .int .i64 f5] 60 (0, 0))) : W.cell? ⟨g, 5, none⟩ = some (.int .i64 f5) := (blk_cell h 5).trans rfl
theorem IsS60.set_5 {w0 W : World} {g : Nat} {f0 : List (S44)} {f1 : Int} {f2 : Int} {f3 : Int} {f4 : Int} {f5 : Int} (h : IsS60 w0 W g f0 f1 f2 f3 f4 f5) (x : Int) : IsS60 w0 (W.setCell ⟨g, 5, none⟩ (.int .i64 x)) g f0 f1 f2 f3 f4 x := by
 obtain ⟨A0, c0, hb, hg, hr0⟩ := h
 exact ⟨A0, c0, by simpa using blk_set hb 5 (.int .i64 x), hg, hr0⟩
theorem IsS60.new (w0 W : World) (A0 : Option Addr) (c0 : Nat) (f0 : List (S44)) (f1 : Int) (f2 : Int) (f3 : Int) (f4 : Int) (f5 : Int) (hB : Below w0.heap.size w0 W) (hr0 : Kd.C k44 w0 A0 f0.length f0) : IsS60 w0 (W.alloc (.cells #[.slice A0 f0.length c0, .int .u64 f1, .int .i64 f2, .int .i64 f3, .int .i64 f4, .int .i64 f5] 60)) W.heap.size f0 f1 f2 f3 f4 f5 := ⟨A0, c0, by simpa using heap_alloc_new W _, hB.size, hr0⟩

/-! ### acks_log_owe: function 19 -/
def acks_log_owe.f (s0_0 : List (S44)) (s0_1 : Int) (s0_2 : Int) (s0_3 : Int) (s0_4 : Int) (s0_5 : Int) : Option (Int × Int × Int × Int × Int) := if (wrap64 (s0_3 + 1)) = 1 then (some (s0_1, s0_2, wrap64 (s0_3 + 1), s0_5, s0_5)) else (some (s0_1, s0_2, wrap64 (s0_3 + 1), s0_4, s0_5))
set_option maxHeartbeats 8000000 in
set_option maxRecDepth 100000 in
theorem acks_log_owe.calls (g : Nat) (s0_0 : List (S44)) (s0_1 : Int) (s0_2 : Int) (s0_3 : Int) (s0_4 : Int) (s0_5 : Int) (r1 : Int) (r2 : Int) (r3 : Int) (r4 : Int) (r5 : Int) (w0 w : World) (hI : IsS60 w0 w g s0_0 s0_1 s0_2 s0_3 s0_4 s0_5) (hB : Below w0.heap.size w0 w) (h : acks_log_owe.f s0_0 s0_1 s0_2 s0_3 s0_4 s0_5 = some (r1, r2, r3, r4, r5)) :
  Calls Try.prog 19 #[.pointer (some ⟨g, 0, none⟩)] w fun e w' => e = .returned (.tuple #[]) ∧ IsS60 w0 w' g s0_0 r1 r2 r3 r4 r5 ∧ Below w0.heap.size w0 w' ∧ KeepBut w w' g none := by
 have HI0 := Aside0.mk hI
 have HK := Aside0.mk (KeepBut.refl w g none)
 have HL := Aside0.mk hB.size
 clear hI
 have HW0 := Aside0.mk hB.size
 have HB := Aside0.mk hB
 clear hB
 have H : (if (wrap64 (s0_3 + 1)) = 1 then (some (s0_1, s0_2, wrap64 (s0_3 + 1), s0_5, s0_5)) else (some (s0_1, s0_2, wrap64 (s0_3 + 1), s0_4, s0_5))) = some (r1, r2, r3, r4, r5) := h
 clear h
 by_cases c2 : (wrap64 (s0_3 + 1)) = 1
 ·rw [if_pos c2] at H
  have c2b0 : ((wrap64 (s0_3 + 1)) == 1) = true := beq_iff_eq.mpr c2
  have c2b1 : ((wrap64 (s0_3 + 1)) != 1) = false := bne_eq_false_iff_eq.mpr c2
  clear c2
  simp only [Option.some.injEq, Prod.mk.injEq] at H
  obtain ⟨rfl, rfl, rfl, rfl, rfl⟩ := H
  obtain ⟨ASz3_0, cSz3_0, HGz3, hgz3, HSz3_0⟩ := HI0.out
  have hcz3_0 := cellS60_0 HGz3
  have hcz3_1 := cellS60_1 HGz3
  have hcz3_2 := cellS60_2 HGz3
  have hcz3_3 := cellS60_3 HGz3
  have hcz3_4 := cellS60_4 HGz3
  have hcz3_5 := cellS60_5 HGz3
  have hfz3_1 := blk_frozen HGz3 1
  have hfz3_2 := blk_frozen HGz3 2
  have hfz3_3 := blk_frozen HGz3 3
  have hfz3_4 := blk_frozen HGz3 4
  have hfz3_5 := blk_frozen HGz3 5
  clear HGz3 hgz3
  go_enter Try.func19, Try.ntmps19
  go_wp2
  first | go_end0 | ((try simp only [Exit.inBlock, Exit.then]); refine bodyPost_ret (results_none rfl _ _ _) rfl ?_)
  exact ⟨by first | rfl | (simp [errW_none, errW_some] <;> rfl) | (simp [*, errW_none, errW_some] <;> rfl), by repeat (first | (with_reducible first | exact HI0.out | apply IsS60.alloc | apply IsS60.drewN | apply IsS60.drew | apply IsS60.set_1 | apply IsS60.set_2 | apply IsS60.set_3 | apply IsS60.set_4 | apply IsS60.set_5) | exact HI0.out), by repeat (first | (with_reducible first | exact HB.out | apply below_alloc | apply pw_below_drewN | apply below_drew1 | refine below_set ?_ (IsS60.ge HI0.out)) | exact HB.out), by repeat (first | (with_reducible first | exact HK.out | apply KeepBut.set_ | apply keep_drewN | apply keep_drew | apply keep_alloc) | exact HK.out)⟩
 ·rw [if_neg c2] at H
  have c2b0 : ((wrap64 (s0_3 + 1)) == 1) = false := beq_eq_false_iff_ne.mpr c2
  have c2b1 : ((wrap64 (s0_3 + 1)) != 1) = true := bne_iff_ne.mpr c2
  simp only [Option.some.injEq, Prod.mk.injEq] at H
  obtain ⟨rfl, rfl, rfl, rfl, rfl⟩ := H
  obtain ⟨ASz4_0, cSz4_0, HGz4, hgz4, HSz4_0⟩ := HI0.out
  have hcz4_0 := cellS60_0 HGz4
  have hcz4_1 := cellS60_1 HGz4
  have hcz4_2 := cellS60_2 HGz4
  have hcz4_3 := cellS60_3 HGz4
  have hcz4_4 := cellS60_4 HGz4
  have hcz4_5 := cellS60_5 HGz4
  have hfz4_1 := blk_frozen HGz4 1
  have hfz4_2 := blk_frozen HGz4 2
  have hfz4_3 := blk_frozen HGz4 3
  have hfz4_4 := blk_frozen HGz4 4
  have hfz4_5 := blk_frozen HGz4 5
  clear HGz4 hgz4
  go_enter Try.func19, Try.ntmps19
  go_wp2
  first | go_end0 | ((try simp only [Exit.inBlock, Exit.then]); refine bodyPost_ret (results_none rfl _ _ _) rfl ?_)
  exact ⟨by first | rfl | (simp [errW_none, errW_some] <;> rfl) | (simp [*, errW_none, errW_some] <;> rfl), by repeat (first | (with_reducible first | exact HI0.out | apply IsS60.alloc | apply IsS60.drewN | apply IsS60.drew | apply IsS60.set_1 | apply IsS60.set_2 | apply IsS60.set_3 | apply IsS60.set_4 | apply IsS60.set_5) | exact HI0.out), by repeat (first | (with_reducible first | exact HB.out | apply below_alloc | apply pw_below_drewN | apply below_drew1 | refine below_set ?_ (IsS60.ge HI0.out)) | exact HB.out), by repeat (first | (with_reducible first | exact HK.out | apply KeepBut.set_ | apply keep_drewN | apply keep_drew | apply keep_alloc) | exact HK.out)⟩

/-! ### ranges_Range_21: function 21 -/
def ranges_Range_21.f (l0 : List S44) : Option (List S44) := if l0.length < 8796093022208 then some l0 else none
set_option maxHeartbeats 1000000 in
set_option maxRecDepth 100000 in
theorem ranges_Range_21.calls (A0 : Option Addr) (c0 : Nat) (l0 : List S44) (r : List S44) (w : World) (hr0 : Kd.C k44 w A0 l0.length l0) (hc0 : l0.length ≤ c0) (h : ranges_Range_21.f l0 = some r) :
  Calls Try.prog 21 #[.slice A0 l0.length c0] w fun e w' => ∃ v0_ : Value, e = .returned (v0_) ∧ Kd.R k44 44 w' w.heap.size (fun _ => True) v0_ r ∧ Below w.heap.size w w' := by
 have hu26 := Try.underlying26
 have qS : ∀ (w : World) (a : Option Addr) (n c : Nat), (binOp .eql 26 (.slice a n c) (.slice none 0 0)).run Try.prog w = .ok (.bool a.isNone) w := fun w a n c => Lib.run_eql_slice_nil w _ _ a n c 0 0 hu26
 have hinfo : (Try.prog.info? 44).map (fun i => (i.zero, i.size, i.bytes)) = some (some (.agg #[(.int .u64 0), (.int .u64 0)]), 2, 16) := by kernel_rfl
 have HR0 := Aside0.mk hr0
 have HB := Aside0.mk (Below.refl w.heap.size w)
 obtain ⟨hl, rfl⟩ : l0.length < 8796093022208 ∧ l0 = r := by
  unfold ranges_Range_21.f at h
  by_cases c : l0.length < 8796093022208
  ·rw [if_pos c] at h
   exact ⟨c, Option.some.inj h⟩
  ·rw [if_neg c] at h
   cases h
 have LM := Aside0.mk hl
 clear hl h
 go_enter Try.func21, Try.ntmps21
 cases A0 with
 | none =>
  have hz : l0 = [] := by
   have := hr0.2.2
   by_cases e : l0.length = 0
   ·exact List.length_eq_zero_iff.1 e
   ·obtain ⟨_, e2, _⟩ := this (by omega)
    cases e2
  subst hz
  clear hr0
  go_wp2
  go_ret
  exact ⟨_, by first | rfl | (simp [errW_none, errW_some] <;> rfl) | (simp [*, errW_none, errW_some] <;> rfl), Kd.R_nil _ _ _ _ _, Below.refl _ _⟩
 | some ad =>
  clear hr0
  go_wp2_with (first | ((with_reducible refine gate_dst (N := 5) rfl ?_); (try (refine gate_guard (by rfl) ?_; dsimp only)); refine Kd.R_lit k44 _ 44 ?hg (N := 5) ?hd (xs := ([] : List (S44))) (inner := []) (ok := fun _ => True) (okp := fun _ => True) ?hr ?hp (fun _ hk => hk) trivial (Below.refl _ _) (Nat.le_refl _) (by simp) ?_; (case hd => rfl); (case hg => rfl); (case hr => first | (go_simp; done) | (go_simp; rfl)); (case hp => exact (Reps.none _ _)); intro v142 w13 ho14 hb hg_ hnew_; clear hg_ hnew_; have n0_ := Aside0.mk (Kd.R_lower ho14 (below_size (by repeat (first | (with_reducible first | exact HB.out | apply below_alloc | apply pw_below_drewN | apply below_drew1) | exact HB.out)))); have n1_ := Aside0.mk (below_step (by repeat (first | (with_reducible first | exact HB.out | apply below_alloc | apply pw_below_drewN | apply below_drew1) | exact HB.out)) hb); clear HB; have HO143 := n0_; have HB := n1_; clear n0_ n1_; clear hb ho14) | ((with_reducible refine gate_builtin (b := .append) (xs := #[.tmp 5, .tmp 6]) rfl ?_); (try (refine gate_guard (by rfl) ?_; dsimp only)); at_builtin; refine Kd.R_append_rows k44 (w0 := w) w.heap.size rfl (.tmp 5) (.tmp 6) 26 44 (.agg #[(.int .u64 0), (.int .u64 0)]) 16 rfl Try.underlying26 hinfo rfl (by decide) (by omega) v142 [] l0 _ _ _ (fun _ => True) (fun _ => False) rfl rfl ?aO ?aR (fun _ _ h => h) (fun _ h => h.elim) ?aF ?aB ?aS ?aL ?_; (case aR => repeat (first | exact (Kd.C_below HR0.out HB.out) | (with_reducible refine Kd.C_alloc ?_ _) | (with_reducible refine Kd.C_drewN ?_ _) | (with_reducible refine Kd.C_drew ?_))); (case aB => exact (by repeat (first | (with_reducible first | exact HB.out | apply below_alloc | apply pw_below_drewN | apply below_drew1) | exact HB.out))); (case aF => exact (fun _ _ => trivial)); (case aO => exact (by (with_reducible repeat (first | apply Kd.R_alloc | apply Kd.R_drewN | apply Kd.R_drew)); exact HO143.out)); (case aS => exact (below_size (by repeat (first | (with_reducible first | exact HB.out | apply below_alloc | apply pw_below_drewN | apply below_drew1) | exact HB.out)))); (case aL => have := LM.out; simp; omega); intro v145 w15 ho hb hg hat; have n0_ := Aside0.mk (hb); have n1_ := Aside0.mk (ho); clear HB; clear HO143; have HB := n0_; have HO146 := n1_; clear n0_ n1_; clear ho hb hg hat))
  go_ret
  exact ⟨_, by first | rfl | (simp [errW_none, errW_some] <;> rfl) | (simp [*, errW_none, errW_some] <;> rfl), by (with_reducible repeat (first | apply Kd.R_alloc | apply Kd.R_drewN | apply Kd.R_drew)); exact HO146.out, by repeat (first | (with_reducible first | exact HB.out | apply below_alloc | apply pw_below_drewN | apply below_drew1) | exact HB.out)⟩

-- NOT PRINTED: function 20 (acks_log_forget)

/-! ### (*log).owe, (*log).forget, over the log's block -/
def logB (v : Value) (f1 f2 f3 f4 f5 : Int) : Obj := .cells #[v, .int .u64 f1, .int .i64 f2, .int .i64 f3, .int .i64 f4, .int .i64 f5] 60 (0, 0)
theorem owe_c (g : Nat) (v : Value) (f1 f2 f3 f4 f5 : Int) (w : World) (hg : w.heap[g]? = some (logB v f1 f2 f3 f4 f5)) :
  Calls Try.prog 19 #[.pointer (some ⟨g, 0, none⟩)] w fun e w' => e = .returned (.tuple #[]) ∧ w' = if wrap64 (f3 + 1) = 1 then (w.setCell ⟨g, 3, none⟩ (.int .i64 (wrap64 (f3 + 1)))).setCell ⟨g, 4, none⟩ (.int .i64 f5) else w.setCell ⟨g, 3, none⟩ (.int .i64 (wrap64 (f3 + 1))) := by
 have hu1 := Try.underlying60
 have hu2 := Try.underlying28
 unfold logB at hg
 have c3 : w.cell? ⟨g, 3, none⟩ = some (.int .i64 f3) := (blk_cell hg 3).trans rfl
 have c4 : w.cell? ⟨g, 4, none⟩ = some (.int .i64 f4) := (blk_cell hg 4).trans rfl
 have c5 : w.cell? ⟨g, 5, none⟩ = some (.int .i64 f5) := (blk_cell hg 5).trans rfl
 have z3 := blk_frozen hg 3
 have z4 := blk_frozen hg 4
 have z5 := blk_frozen hg 5
 clear hg
 by_cases c : wrap64 (f3 + 1) = 1
 ·have b0 : ((wrap64 (f3 + 1)) == 1) = true := beq_iff_eq.mpr c
  rw [if_pos c]
  clear c
  go_enter Try.func19, Try.ntmps19
  go_wp2
  first | go_end0 | ((try simp only [Exit.inBlock, Exit.then]); refine bodyPost_ret (results_none rfl _ _ _) rfl ?_)
  exact ⟨rfl, rfl⟩
 ·have b0 : ((wrap64 (f3 + 1)) == 1) = false := beq_eq_false_iff_ne.mpr c
  rw [if_neg c]
  clear c
  go_enter Try.func19, Try.ntmps19
  go_wp2
  first | go_end0 | ((try simp only [Exit.inBlock, Exit.then]); refine bodyPost_ret (results_none rfl _ _ _) rfl ?_)
  exact ⟨rfl, rfl⟩
def forgetP (g : Nat) (t : List S44) (w w' : World) : Prop := t.length ≤ 32 ∧ w' = w ∨ 32 < t.length ∧ ∃ (w1 : World) (v : Value), Below w.heap.size w w1 ∧ Kd.R k44 44 w1 w.heap.size (fun _ => True) v (t.drop 1) ∧ w' = (w1.setCell ⟨g, 1, none⟩ (.int .u64 (IntKind.u64.wrap ((rd_T44 t 0).f1 + 1)))).setCell ⟨g, 0, none⟩ v
set_option maxHeartbeats 4000000 in
set_option maxRecDepth 100000 in
theorem forget_c (g : Nat) (A : Option Addr) (c : Nat) (t : List S44) (f1 f2 f3 f4 f5 : Int) (w : World) (hg : w.heap[g]? = some (logB (.slice A t.length c) f1 f2 f3 f4 f5)) (hC : Kd.C k44 w A t.length t) (hc : t.length ≤ c) (hl : t.length < 8796093022208) :
  Calls Try.prog 20 #[.pointer (some ⟨g, 0, none⟩)] w fun e w' => e = .returned (.tuple #[]) ∧ forgetP g t w w' := by
 have hu1 := Try.underlying60
 have hu2 := Try.underlying28
 have hu3 := Try.underlying26
 have hu4 := Try.underlying44
 unfold logB at hg
 have c0 : w.cell? ⟨g, 0, none⟩ = some (.slice A t.length c) := (blk_cell hg 0).trans rfl
 have z0 := blk_frozen hg 0
 have z1 := blk_frozen hg 1
 by_cases hn : 32 < t.length
 ·have b0 : decide ((32 : Int) < (t.length : Int)) = true := decide_eq_true (by omega)
  have b1 : decide (32 < t.length) = true := decide_eq_true hn
  obtain ⟨ad, rfl, hx0, hx1⟩ := at_T44 hC 0 (by decide) (by omega)
  have hx1 : w.cell? ⟨ad.block, ad.off + 1, none⟩ = some (.int .u64 ((rd_T44 t 0).f1)) := by simpa [Addr.add] using hx1
  go_enter Try.func20, Try.ntmps20
  go_upto_region 1 with fail
  have hD0 := Kd.C_drop hC (m := 1) (by omega) hc
  rw [if_neg (by omega)] at hD0
  have hA : ad.add (1 * 2) = ⟨ad.block, ad.off + 2, none⟩ := by simp [Addr.add]
  have hD1 : Kd.C k44 w (some (ad.add (1 * 2))) (t.drop 1).length (t.drop 1) := hD0
  rw [hA] at hD1
  have hD := hD1
  clear hD1 hA
  clear hD0
  have hf : ranges_Range_21.f (t.drop 1) = some (t.drop 1) := by
   unfold ranges_Range_21.f
   exact if_pos (by rw [List.length_drop]; omega)
  have hW : Below w.heap.size w w.drew := below_drew1 (Below.refl _ _)
  have hz : w.drew.heap.size = w.heap.size := rfl
  have n0 := Aside0.mk (show w.drew.heap[g]? = _ from hg)
  have n1 := Aside0.mk (Kd.C_drew hC)
  have n2 := Aside0.mk (Kd.C_drew hD)
  have n3 := Aside0.mk (show w.drew.cell? _ = _ from c0)
  have n4 := Aside0.mk (show w.drew.cell? _ = _ from hx1)
  clear hg hC hD c0 hx0 hx1 z0 z1
  have hg := n0.out
  have hC := n1.out
  have hD := n2.out
  have c0 := n3.out
  have hx1 := n4.out
  clear n0 n1 n2 n3 n4
  have p6 : (0 < t.length) = True := eq_true (by omega)
  have p0 : decide ((0 : Int) < (t.length : Int)) = true := decide_eq_true (by omega)
  have p1 : ((0 : Int) < (t.length : Int)) = True := eq_true (by omega)
  have p2 : ((1 : Int) ≤ (t.length : Int)) = True := eq_true (by omega)
  have p3 : (1 ≤ t.length) = True := eq_true (by omega)
  have p4 : (c = 1) = False := eq_false (by omega)
  have p5 : (t.length ≤ c) = True := eq_true hc
  refine start_ (n := 26) (S := fun w' => w'.cell? ⟨g, 0, none⟩ = some (.slice (some ad) t.length c) ∧ w'.cell? ⟨ad.block, ad.off + 1, none⟩ = some (.int .u64 ((rd_T44 t 0).f1))) (ds := [21, 25]) #[false,false,false,false,false,false,false,false,false,false,false,false,false,false,false,false,false,false,false,false,false,false,false,false,false,false] (by kernel_rfl) rfl rfl ⟨c0, hx1⟩ (fun hHeld => ?_)
  generalize w.drew = w2 at *
  refine pure_ (i := 0) (N := some 9) (v := ?_) (a' := ?_) #[true,false,false,false,false,false,false,false,false,false,false,false,false,false,false,false,false,false,false,false,false,false,false,false,false,false] rfl rfl (by kernel_rfl) (fun _ _ _ h => h) (Or.inl ⟨by rfl, ?_⟩) ?_ ?_
  rotate_left;(intro w';go_simp;with_reducible rfl);rotate_left;(simp only [Act.put, List.setIfInBounds_toArray, List.set_cons_zero, List.set_cons_succ, i64_w, i32_w];rfl)
  refine pure_ (i := 1) (N := some 10) (v := ?_) (a' := ?_) #[true,true,false,false,false,false,false,false,false,false,false,false,false,false,false,false,false,false,false,false,false,false,false,false,false,false] rfl rfl (by kernel_rfl) (fun _ _ _ h => h) (Or.inl ⟨by rfl, ?_⟩) ?_ ?_
  rotate_left;(intro w';go_simp;with_reducible rfl);rotate_left;(simp only [Act.put, List.setIfInBounds_toArray, List.set_cons_zero, List.set_cons_succ, i64_w, i32_w];rfl)
  refine pure_ (i := 2) (N := some 11) (v := ?_) (a' := ?_) #[true,true,true,false,false,false,false,false,false,false,false,false,false,false,false,false,false,false,false,false,false,false,false,false,false,false] rfl rfl (by kernel_rfl) (fun _ _ _ h => h) (Or.inl ⟨by rfl, ?_⟩) ?_ ?_
  rotate_left;(intro w';go_simp;with_reducible rfl);rotate_left;(simp only [Act.put, List.setIfInBounds_toArray, List.set_cons_zero, List.set_cons_succ, i64_w, i32_w];rfl)
  refine pure_ (i := 11) (N := some 20) (v := ?_) (a' := ?_) #[true,true,true,false,false,false,false,false,false,false,false,true,false,false,false,false,false,false,false,false,false,false,false,false,false,false] rfl rfl (by kernel_rfl) (fun _ _ _ h => h) (Or.inl ⟨by rfl, ?_⟩) ?_ ?_
  rotate_left;(intro w';go_simp;with_reducible rfl);rotate_left;(simp only [Act.put, List.setIfInBounds_toArray, List.set_cons_zero, List.set_cons_succ, i64_w, i32_w];rfl)
  refine pure_ (i := 3) (N := some 12) (v := ?_) (a' := ?_) #[true,true,true,true,false,false,false,false,false,false,false,true,false,false,false,false,false,false,false,false,false,false,false,false,false,false] rfl rfl (by kernel_rfl) (fun _ _ _ h => h) (Or.inl ⟨by rfl, ?_⟩) ?_ ?_
  rotate_left;(intro w';go_simp;with_reducible rfl);rotate_left;(simp only [Act.put, List.setIfInBounds_toArray, List.set_cons_zero, List.set_cons_succ, i64_w, i32_w];rfl)
  refine pure_ (i := 4) (N := some 13) (v := ?_) (a' := ?_) #[true,true,true,true,true,false,false,false,false,false,false,true,false,false,false,false,false,false,false,false,false,false,false,false,false,false] rfl rfl (by kernel_rfl) (fun _ _ _ h => h) (Or.inl ⟨by rfl, ?_⟩) ?_ ?_
  rotate_left;(intro w';go_simp;with_reducible rfl);rotate_left;(simp only [Act.put, List.setIfInBounds_toArray, List.set_cons_zero, List.set_cons_succ, i64_w, i32_w];rfl)
  refine pure_ (i := 5) (N := some 14) (v := ?_) (a' := ?_) #[true,true,true,true,true,true,false,false,false,false,false,true,false,false,false,false,false,false,false,false,false,false,false,false,false,false] rfl rfl (by kernel_rfl) (fun _ _ _ h => h) (Or.inl ⟨by rfl, ?_⟩) ?_ ?_
  rotate_left;(intro w';go_simp;with_reducible rfl);rotate_left;(simp only [Act.put, List.setIfInBounds_toArray, List.set_cons_zero, List.set_cons_succ, i64_w, i32_w];rfl)
  refine pure_ (i := 12) (N := some 21) (v := ?_) (a' := ?_) #[true,true,true,true,true,true,false,false,false,false,false,true,true,false,false,false,false,false,false,false,false,false,false,false,false,false] rfl rfl (by kernel_rfl) (fun _ _ _ h => h) (Or.inl ⟨by rfl, ?_⟩) ?_ ?_
  rotate_left;(intro w';go_simp;with_reducible rfl);rotate_left;(simp only [Act.put, List.setIfInBounds_toArray, List.set_cons_zero, List.set_cons_succ, i64_w, i32_w];rfl)
  refine pure_ (i := 13) (N := some 22) (v := ?_) (a' := ?_) #[true,true,true,true,true,true,false,false,false,false,false,true,true,true,false,false,false,false,false,false,false,false,false,false,false,false] rfl rfl (by kernel_rfl) (fun _ _ _ h => h) (Or.inl ⟨by rfl, ?_⟩) ?_ ?_
  rotate_left;(intro w';go_simp;with_reducible rfl);rotate_left;(simp only [Act.put, List.setIfInBounds_toArray, List.set_cons_zero, List.set_cons_succ, i64_w, i32_w];rfl)
  refine pure_ (i := 14) (N := some 23) (v := ?_) (a' := ?_) #[true,true,true,true,true,true,false,false,false,false,false,true,true,true,true,false,false,false,false,false,false,false,false,false,false,false] rfl rfl (by kernel_rfl) (fun _ _ _ h => h) (Or.inl ⟨by rfl, ?_⟩) ?_ ?_
  rotate_left;(intro w';go_simp;with_reducible rfl);rotate_left;(simp only [Act.put, List.setIfInBounds_toArray, List.set_cons_zero, List.set_cons_succ, i64_w, i32_w];rfl)
  refine take_ (i := 6) (N := some 15) (v := ?_) (a' := ?_) #[true,true,true,true,true,true,true,false,false,false,false,true,true,true,true,false,false,false,false,false,false,false,false,false,false,false] rfl rfl (by kernel_rfl) (fun _ _ _ h => h) (Or.inl ⟨by rfl, ?_⟩) hHeld ?_ ?_
  rotate_left
  ·rintro w' ⟨s0, s1⟩
   go_simp
   with_reducible rfl
  rotate_left
  ·simp only [Act.put, List.setIfInBounds_toArray, List.set_cons_zero, List.set_cons_succ, i64_w, i32_w]
   rfl
  refine take_ (i := 15) (N := some 24) (v := ?_) (a' := ?_) #[true,true,true,true,true,true,true,false,false,false,false,true,true,true,true,true,false,false,false,false,false,false,false,false,false,false] rfl rfl (by kernel_rfl) (fun _ _ _ h => h) (Or.inl ⟨by rfl, ?_⟩) hHeld ?_ ?_
  rotate_left
  ·rintro w' ⟨s0, s1⟩
   go_simp
   with_reducible rfl
  rotate_left
  ·simp only [Act.put, List.setIfInBounds_toArray, List.set_cons_zero, List.set_cons_succ, i64_w, i32_w]
   rfl
  refine pure_ (i := 7) (N := some 16) (v := ?_) (a' := ?_) #[true,true,true,true,true,true,true,true,false,false,false,true,true,true,true,true,false,false,false,false,false,false,false,false,false,false] rfl rfl (by kernel_rfl) (fun _ _ _ h => h) (Or.inl ⟨by rfl, ?_⟩) ?_ ?_
  rotate_left;(intro w';go_simp;with_reducible rfl);rotate_left;(simp only [Act.put, List.setIfInBounds_toArray, List.set_cons_zero, List.set_cons_succ, i64_w, i32_w];rfl)
  refine pure_ (i := 8) (N := some 17) (v := ?_) (a' := ?_) #[true,true,true,true,true,true,true,true,true,false,false,true,true,true,true,true,false,false,false,false,false,false,false,false,false,false] rfl rfl (by kernel_rfl) (fun _ _ _ h => h) (Or.inl ⟨by rfl, ?_⟩) ?_ ?_
  rotate_left;(intro w';go_simp;with_reducible rfl);rotate_left;(simp only [Act.put, List.setIfInBounds_toArray, List.set_cons_zero, List.set_cons_succ, i64_w, i32_w];rfl)
  refine take_ (i := 9) (N := some 18) (v := ?_) (a' := ?_) #[true,true,true,true,true,true,true,true,true,true,false,true,true,true,true,true,false,false,false,false,false,false,false,false,false,false] rfl rfl (by kernel_rfl) (fun _ _ _ h => h) (Or.inl ⟨by rfl, ?_⟩) hHeld ?_ ?_
  rotate_left
  ·rintro w' ⟨s0, s1⟩
   go_simp
   with_reducible rfl
  rotate_left
  ·simp only [Act.put, List.setIfInBounds_toArray, List.set_cons_zero, List.set_cons_succ, i64_w, i32_w]
   rfl
  refine pure_ (i := 10) (N := some 19) (v := ?_) (a' := ?_) #[true,true,true,true,true,true,true,true,true,true,true,true,true,true,true,true,false,false,false,false,false,false,false,false,false,false] rfl rfl (by kernel_rfl) (fun _ _ _ h => h) (Or.inl ⟨by rfl, ?_⟩) ?_ ?_
  rotate_left;(intro w';go_simp;with_reducible rfl);rotate_left;(simp only [Act.put, List.setIfInBounds_toArray, List.set_cons_zero, List.set_cons_succ, i64_w, i32_w];rfl)
  refine pure_ (i := 16) (N := some 25) (v := ?_) (a' := ?_) #[true,true,true,true,true,true,true,true,true,true,true,true,true,true,true,true,true,false,false,false,false,false,false,false,false,false] rfl rfl (by kernel_rfl) (fun _ _ _ h => h) (Or.inl ⟨by rfl, ?_⟩) ?_ ?_
  rotate_left;(intro w';go_simp;with_reducible rfl);rotate_left;(simp only [Act.put, List.setIfInBounds_toArray, List.set_cons_zero, List.set_cons_succ, i64_w, i32_w];rfl)
  refine one_ (i := 17) (N := some 26) #[true,true,true,true,true,true,true,true,true,true,true,true,true,true,true,true,true,true,false,false,false,false,false,false,false,false] rfl rfl (by kernel_rfl) (by decide) (fun K hK => ?_)
  refine goes_ (N := some 26) Try.func21 (by kernel_rfl) rfl #[.slice (some ⟨ad.block, ad.off + 2, none⟩) (t.drop 1).length (c - 1)] (by rfl) rfl rfl (by (try simp only [List.map_toArray, List.map_cons, List.map_nil]); first | done | rfl | (simp only [List.length_drop, List.length_take]; rfl)) ?_
  with_reducible refine (ranges_Range_21.calls _ _ (t.drop 1) (t.drop 1) _ ?side1 ?side2 hf).mono ?_
  (case side1 => exact hD)
  (case side2 => (simp only [List.length_drop]; omega))
  rintro e w3 ⟨v3, rfl, hv, hb⟩
  obtain ⟨A3, c3, ev3⟩ := Kd.R_slice hv
  subst ev3
  have hb2 : Below w.heap.size w w3 := below_step hW hb
  have d0 : w3.cell? ⟨g, 0, none⟩ = some (.slice (some ad) t.length c) := (blk_cell (blk_below hg hb) 0).trans rfl
  have d1 : w3.cell? ⟨g, 1, none⟩ = some (.int .u64 f1) := (blk_cell (blk_below hg hb) 1).trans rfl
  have y0 := blk_frozen (blk_below hg hb) 0
  have y1 := blk_frozen (blk_below hg hb) 1
  obtain ⟨ad3, e3, _, hx4⟩ := at_T44 (Kd.C_below hC hb) 0 (by decide) (by omega)
  obtain rfl : ad = ad3 := by injection e3
  have d2 : w3.cell? ⟨ad.block, ad.off + 1, none⟩ = some (.int .u64 ((rd_T44 t 0).f1)) := by simpa [Addr.add] using hx4
  refine ⟨_, rfl, ?_⟩
  refine hK.out _ _ ⟨d0, d2⟩ (fun _ => ?_)
  clear hK K
  refine norm_ (a' := ?_) ?_ ?_
  rotate_left
  ·show Act.put _ (some 26) _ = _
   simp only [Act.put, List.setIfInBounds_toArray, List.set_cons_zero, List.set_cons_succ, i64_w, i32_w]
   rfl
  refine pure_ (i := 18) (N := some 27) (v := ?_) (a' := ?_) #[true,true,true,true,true,true,true,true,true,true,true,true,true,true,true,true,true,true,true,false,false,false,false,false,false,false] rfl rfl (by kernel_rfl) (fun _ _ _ h => h) (Or.inl ⟨by rfl, ?_⟩) ?_ ?_
  rotate_left;(intro w';go_simp;with_reducible rfl);rotate_left;(simp only [Act.put, List.setIfInBounds_toArray, List.set_cons_zero, List.set_cons_succ, i64_w, i32_w];rfl)
  refine pure_ (i := 19) (N := some 28) (v := ?_) (a' := ?_) #[true,true,true,true,true,true,true,true,true,true,true,true,true,true,true,true,true,true,true,true,false,false,false,false,false,false] rfl rfl (by kernel_rfl) (fun _ _ _ h => h) (Or.inl ⟨by rfl, ?_⟩) ?_ ?_
  rotate_left;(intro w';go_simp;with_reducible rfl);rotate_left;(simp only [Act.put, List.setIfInBounds_toArray, List.set_cons_zero, List.set_cons_succ, i64_w, i32_w];rfl)
  refine pure_ (i := 20) (N := some 29) (v := ?_) (a' := ?_) #[true,true,true,true,true,true,true,true,true,true,true,true,true,true,true,true,true,true,true,true,true,false,false,false,false,false] rfl rfl (by kernel_rfl) (fun _ _ _ h => h) (Or.inl ⟨by rfl, ?_⟩) ?_ ?_
  rotate_left;(intro w';go_simp;with_reducible rfl);rotate_left;(simp only [Act.put, List.setIfInBounds_toArray, List.set_cons_zero, List.set_cons_succ, i64_w, i32_w];rfl)
  refine last_ (i := 21) (N := none) #[true,true,true,true,true,true,true,true,true,true,true,true,true,true,true,true,true,true,true,true,true,true,false,false,false,false] rfl rfl (by kernel_rfl) (by decide) (fun K hK => ?_)
  refine skip_ (w1 := ?_) (by rfl) rfl ?_ ?_
  rotate_left
  ·go_simp
   rfl
  refine hK.out _ _ ?_
  clear hK K
  refine pure_ (i := 22) (N := some 30) (v := ?_) (a' := ?_) #[true,true,true,true,true,true,true,true,true,true,true,true,true,true,true,true,true,true,true,true,true,true,true,false,false,false] rfl rfl (by kernel_rfl) (fun _ _ _ h => h) (Or.inl ⟨by rfl, ?_⟩) ?_ ?_
  rotate_left;(intro w';go_simp;with_reducible rfl);rotate_left;(simp only [Act.put, List.setIfInBounds_toArray, List.set_cons_zero, List.set_cons_succ, i64_w, i32_w];rfl)
  refine pure_ (i := 23) (N := some 31) (v := ?_) (a' := ?_) #[true,true,true,true,true,true,true,true,true,true,true,true,true,true,true,true,true,true,true,true,true,true,true,true,false,false] rfl rfl (by kernel_rfl) (fun _ _ _ h => h) (Or.inl ⟨by rfl, ?_⟩) ?_ ?_
  rotate_left;(intro w';go_simp;with_reducible rfl);rotate_left;(simp only [Act.put, List.setIfInBounds_toArray, List.set_cons_zero, List.set_cons_succ, i64_w, i32_w];rfl)
  refine pure_ (i := 24) (N := some 32) (v := ?_) (a' := ?_) #[true,true,true,true,true,true,true,true,true,true,true,true,true,true,true,true,true,true,true,true,true,true,true,true,true,false] rfl rfl (by kernel_rfl) (fun _ _ _ h => h) (Or.inl ⟨by rfl, ?_⟩) ?_ ?_
  rotate_left;(intro w';go_simp;with_reducible rfl);rotate_left;(simp only [Act.put, List.setIfInBounds_toArray, List.set_cons_zero, List.set_cons_succ, i64_w, i32_w];rfl)
  refine last_ (i := 25) (N := none) #[true,true,true,true,true,true,true,true,true,true,true,true,true,true,true,true,true,true,true,true,true,true,true,true,true,true] rfl rfl (by kernel_rfl) (by decide) (fun K hK => ?_)
  refine skip_ (w1 := ?_) (by rfl) rfl ?_ ?_
  rotate_left
  ·go_simp
   rfl
  refine hK.out _ _ ?_
  clear hK K
  refine done_ (by kernel_rfl) ?_
  try go_wp2
  first | go_end0 | ((try simp only [Exit.inBlock, Exit.then]); refine bodyPost_ret (results_none rfl _ _ _) rfl ?_)
  exact ⟨rfl, Or.inr ⟨hn, w3, _, hb2, (by rw [← hz]; exact hv), (by simp only [List.length_drop])⟩⟩
 ·have b0 : decide ((32 : Int) < (t.length : Int)) = false := decide_eq_false (by omega)
  have b1 : decide (32 < t.length) = false := decide_eq_false hn
  go_enter Try.func20, Try.ntmps20
  go_wp2
  first | go_end0 | ((try simp only [Exit.inBlock, Exit.then]); refine bodyPost_ret (results_none rfl _ _ _) rfl ?_)
  exact ⟨rfl, Or.inl ⟨by omega, rfl⟩⟩
/-! ### the same, of any row: writes into the log's block alone -/
def Sets (g : Nat) (w w' : World) : Prop := ∃ l : List (Nat × Value), w' = l.foldl (fun w p => w.setCell ⟨g, p.1, none⟩ p.2) w
theorem Sets.refl (g : Nat) (w : World) : Sets g w w := ⟨[], rfl⟩
theorem Sets.set {g : Nat} {w w' : World} (h : Sets g w w') (i : Nat) (v : Value) : Sets g w (w'.setCell ⟨g, i, none⟩ v) := by
 obtain ⟨l, rfl⟩ := h
 exact ⟨l ++ [(i, v)], by rw [List.foldl_append]; rfl⟩
theorem Sets.ind {g : Nat} {w w' : World} (h : Sets g w w') {P : World → Prop} (hP : P w) (hs : ∀ w i v, P w → P (w.setCell ⟨g, i, none⟩ v)) : P w' := by
 obtain ⟨l, rfl⟩ := h
 induction l generalizing w with
 | nil => exact hP
 | cons p l ih => exact ih (hs _ _ _ hP)
def oweO (o : Int) : Int := wrap64 (o + 1)
def oweS (o s t : Int) : Int := if wrap64 (o + 1) = 1 then t else s
theorem owe_c2 (g : Nat) (v : Value) (f1 f2 f3 f4 f5 : Int) (w : World) (hg : w.heap[g]? = some (logB v f1 f2 f3 f4 f5)) :
  Calls Try.prog 19 #[.pointer (some ⟨g, 0, none⟩)] w fun e w' => e = .returned (.tuple #[]) ∧ Sets g w w' ∧ w'.heap[g]? = some (logB v f1 f2 (oweO f3) (oweS f3 f4 f5) f5) := by
 refine (owe_c g v f1 f2 f3 f4 f5 w hg).mono ?_
 rintro e w' ⟨rfl, rfl⟩
 refine ⟨rfl, ?_⟩
 unfold oweS oweO
 by_cases c : wrap64 (f3 + 1) = 1
 ·rw [if_pos c, if_pos c]
  exact ⟨((Sets.refl g w).set 3 _).set 4 _, blk_put (cs := #[v, .int .u64 f1, .int .i64 f2, .int .i64 (wrap64 (f3 + 1)), .int .i64 f4, .int .i64 f5]) (blk_put (cs := #[v, .int .u64 f1, .int .i64 f2, .int .i64 f3, .int .i64 f4, .int .i64 f5]) hg 3 _ rfl) 4 _ rfl⟩
 ·rw [if_neg c, if_neg c]
  exact ⟨(Sets.refl g w).set 3 _, blk_put (cs := #[v, .int .u64 f1, .int .i64 f2, .int .i64 f3, .int .i64 f4, .int .i64 f5]) hg 3 _ rfl⟩
def forT (t : List S44) : List S44 := if t.length ≤ 32 then t else t.drop 1
def forF (t : List S44) (f : Int) : Int := if t.length ≤ 32 then f else IntKind.u64.wrap ((rd_T44 t 0).f1 + 1)
theorem forget_c2 (g : Nat) (A : Option Addr) (c : Nat) (t : List S44) (f1 f2 f3 f4 f5 : Int) (w : World) (base : Nat) (ok : Nat → Prop) (hg : w.heap[g]? = some (logB (.slice A t.length c) f1 f2 f3 f4 f5)) (hR : Kd.R k44 44 w base ok (.slice A t.length c) t)
  (hb : base ≤ w.heap.size) (hok : ∀ k, w.heap.size ≤ k → ok k) (hl : t.length < 8796093022208) :
  Calls Try.prog 20 #[.pointer (some ⟨g, 0, none⟩)] w fun e w' => e = .returned (.tuple #[]) ∧ ∃ (w1 : World) (v : Value), Below w.heap.size w w1 ∧ Sets g w1 w' ∧ w'.heap[g]? = some (logB v (forF t f1) f2 f3 f4 f5) ∧ Kd.R k44 44 w' base ok v (forT t) := by
 refine (forget_c g A c t f1 f2 f3 f4 f5 w hg (Kd.R_reads' hR).2.2 (Kd.R_reads' hR).2.1 hl).mono ?_
 rintro e w' ⟨rfl, h⟩
 refine ⟨rfl, ?_⟩
 unfold forT forF
 rcases h with ⟨h, rfl⟩ | ⟨h, w1, v, h1, h2, rfl⟩
 ·rw [if_pos h, if_pos h]
  exact ⟨_, _, Below.refl _ _, Sets.refl g _, hg, hR⟩
 ·rw [if_neg (by omega), if_neg (by omega)]
  have hg1 : w1.heap[g]? = some (logB (.slice A t.length c) f1 f2 f3 f4 f5) := blk_below hg h1
  refine ⟨w1, v, h1, ((Sets.refl g w1).set 1 _).set 0 _, blk_put (cs := #[.slice A t.length c, .int .u64 (IntKind.u64.wrap ((rd_T44 t 0).f1 + 1)), .int .i64 f2, .int .i64 f3, .int .i64 f4, .int .i64 f5]) (blk_put (cs := #[.slice A t.length c, .int .u64 f1, .int .i64 f2, .int .i64 f3, .int .i64 f4, .int .i64 f5]) hg1 1 _ rfl) 0 _ rfl, ?_⟩
  have hn := Kd.R_lower (Kd.R_newM (M := ok) h2 (Nat.le_refl _) hok) hb
  exact Kd.R_mono (Kd.R_far (p := ⟨g, 0, none⟩) (Kd.R_far (p := ⟨g, 1, none⟩) (Kd.R_types hn hg1 (by decide)) (fun _ hk => hk.2) _) (fun _ hk => hk.2) _) (fun _ hk => hk.1.1)
/-! ### the log's box beside what else there is -/
structure GotW (w W : World) (g b : Nat) (cs : Array Value) (v : Value) (t : List S44) (f top o s tick : Int) : Prop where
 hg : W.heap[g]? = some (logB v f top o s tick)
 h2 : W.heap[b]? = some (.cells cs 28 (0, 0))
 hR : Kd.R k44 44 W w.heap.size (fun k => w.heap.size ≤ k) v t
 hB : Below w.heap.size w W
 ge : w.heap.size ≤ g
 ne : b ≠ g
theorem GotW.owe {w W : World} {g b : Nat} {cs : Array Value} {v : Value} {t : List S44} {f top o s tick : Int} (h : GotW w W g b cs v t f top o s tick) :
  Calls Try.prog 19 #[.pointer (some ⟨g, 0, none⟩)] W fun e W' => e = .returned (.tuple #[]) ∧ GotW w W' g b cs v t f top (oweO o) (oweS o s tick) tick := by
 refine (owe_c2 g v f top o s tick W h.hg).mono ?_
 rintro e W' ⟨rfl, hS, hg⟩
 refine ⟨rfl, hg, hS.ind (P := fun W' => W'.heap[b]? = some (.cells cs 28 (0, 0))) h.h2 (fun _ i _ q => blk_far (p := ⟨g, i, none⟩) q h.ne _), ?_, hS.ind (P := fun W' => Below w.heap.size w W') h.hB (fun _ i _ q => below_set (g := g) (j := i) q h.ge), h.ge, h.ne⟩
 exact Kd.R_mono (hS.ind (P := fun W' => Kd.R k44 44 W' w.heap.size (fun k => (w.heap.size ≤ k) ∧ k ≠ g) v t) (Kd.R_types h.hR h.hg (by decide)) (fun _ i _ q => Kd.R_mono (Kd.R_far (p := ⟨g, i, none⟩) q (fun _ hk => hk.2) _) (fun _ hk => hk))) (fun _ hk => hk.1)
theorem GotW.forget {w W : World} {g b : Nat} {cs : Array Value} {A : Option Addr} {c : Nat} {t : List S44} {f top o s tick : Int} (h : GotW w W g b cs (.slice A t.length c) t f top o s tick) (hl : t.length < 8796093022208) :
  Calls Try.prog 20 #[.pointer (some ⟨g, 0, none⟩)] W fun e W' => e = .returned (.tuple #[]) ∧ ∃ v', GotW w W' g b cs v' (forT t) (forF t f) top o s tick := by
 refine (forget_c2 g A c t f top o s tick W w.heap.size _ h.hg h.hR (below_size h.hB) (fun k hk => Nat.le_trans (below_size h.hB) hk) hl).mono ?_
 rintro e W' ⟨rfl, w1, v', hb, hS, hg, hR⟩
 exact ⟨rfl, v', hg, hS.ind (P := fun W' => W'.heap[b]? = some (.cells cs 28 (0, 0))) (blk_below h.h2 hb) (fun _ i _ q => blk_far (p := ⟨g, i, none⟩) q h.ne _), hR, hS.ind (P := fun W' => Below w.heap.size w W') (below_step h.hB hb) (fun _ i _ q => below_set (g := g) (j := i) q h.ge), h.ge, h.ne⟩
def gotEnd (x2 : Bool) (x3 : Int) (t : List S44) (f top o s : Int) : Option (List S44 × Int × Int × Int × Int × Bool) :=
 if t.length < 8796093022208 then some (forT t, forF t f, top, (if x2 = true then oweO o else o), (if x2 = true then oweS o s x3 else s), true) else none
theorem gotEnd_t {x3 : Int} {t : List S44} {f top o s : Int} {r1 : List S44} {r2 r3 r4 r5 : Int} {r6 : Bool} (h : gotEnd true x3 t f top o s = some (r1, r2, r3, r4, r5, r6)) : t.length < 8796093022208 ∧ forT t = r1 ∧ forF t f = r2 ∧ top = r3 ∧ oweO o = r4 ∧ oweS o s x3 = r5 ∧ true = r6 := by
 unfold gotEnd at h
 by_cases c : t.length < 8796093022208
 ·rw [if_pos c] at h
  simpa [c] using h
 ·rw [if_neg c] at h
  cases h
theorem gotEnd_f {x3 : Int} {t : List S44} {f top o s : Int} {r1 : List S44} {r2 r3 r4 r5 : Int} {r6 : Bool} (h : gotEnd false x3 t f top o s = some (r1, r2, r3, r4, r5, r6)) : t.length < 8796093022208 ∧ forT t = r1 ∧ forF t f = r2 ∧ top = r3 ∧ o = r4 ∧ s = r5 ∧ true = r6 := by
 unfold gotEnd at h
 by_cases c : t.length < 8796093022208
 ·rw [if_pos c] at h
  simpa [c] using h
 ·rw [if_neg c] at h
  cases h

end Go.Proofs.Ytlcfjimgnfcdkaa.PAko
