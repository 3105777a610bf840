-- printed for this claim by a program of the claim (wip/tools/pp.py over the kit's print)
import Derived.Test.YtlcfjimgnfcdkaaPAkox0
namespace Go.Proofs.Ytlcfjimgnfcdkaa.PAko
open Go.RowKit Go.Proofs.YtlcfjimgnfcdkaaW.PrintWords Go.Proofs.YtlcfjimgnfcdkaaW.PrintLast Go.Proofs.YtlcfjimgnfcdkaaW.PrintMore
attribute [local go_sem] max2_int min2_int max_two min_two max_three min_three max_four min_four   -- for this text's walks alone
set_option linter.unusedVariables false
set_option linter.unusedSimpArgs false

attribute [local go_sem] isSome_setCell_
-- NOT PRINTED: function 35 (ranges_Range_uint64)

-- skip: math/bits.Len32
-- skip: math/bits.Len
-- skip: slices.nextPowerOfTwo
/-! ### rows of edges and of ranges -/
open Go.Proofs.YtlcfjimgnfcdkaaR
def toE (x : S87) : Int × Int := (x.f0, x.f1)
def ofR (x : Int × Int) : S44 := ⟨x.1, x.2⟩
def sweepF (wantF : Int → Bool) (l : List S87) : List S44 := (allW wantF (sortF (l.map toE))).map ofR
theorem edge_cells {w : World} {A : Option Addr} {n : Nat} {xs : List S87} (h : Kd.C k87 w A n xs) (h0 : 0 < n) : ∃ ad, A = some ad ∧ ∀ j (hj : j < xs.length), w.cell? (ad.add (j * 2 + 0)) = some (.int .u64 xs[j].f0) ∧ w.cell? (ad.add (j * 2 + 1)) = some (.int .i64 xs[j].f1) := by
 obtain ⟨ad, ha, hx⟩ := h.2.2 h0
 refine ⟨ad, ha, fun j hj => ?_⟩
 obtain ⟨cs, hl, hk, hc⟩ := hx j xs[j] (by simp [hj])
 obtain ⟨c0, c1, rfl, e0, e1⟩ := hk
 obtain rfl : c0 = [Value.int .u64 xs[j].f0] := e0
 obtain rfl : c1 = [Value.int .i64 xs[j].f1] := e1
 exact ⟨hc 0 _ rfl, hc 1 _ rfl⟩
theorem edges_of {w : World} {base : Nat} {ok : Nat → Prop} {v : Value} {xs : List S87} (h : Kd.R k87 87 w base ok v xs) : Edges base w v (xs.map toE) := by
 obtain ⟨inner, ho⟩ := Kd.R_own h
 rcases ho.2 with ⟨rfl, h0⟩ | ⟨g, cap, cur, rfl, hg, hblk, _⟩
 ·exact Or.inl ⟨rfl, by rw [List.eq_nil_of_length_eq_zero h0]; rfl⟩
 ·refine Or.inr ⟨g, cap, by rw [List.length_map], hg, (Array.getElem?_eq_some_iff.1 hblk).1, fun j hj => ?_⟩
  rw [Go.Sort.size_flatK] at hj
  have hn : j / 2 < xs.length := by simp at hj; omega
  obtain ⟨ad, ha, hx⟩ := edge_cells (Kd.R_reads' h).2.2 (by omega)
  cases ha
  obtain ⟨x0, x1⟩ := hx (j / 2) hn
  rw [Go.Sort.get_flatK _ _ _ _ hj, get_bang _ _ (by simpa using hn), List.getElem_map]
  have ea : ∀ m, (⟨g, 0, none⟩ : Addr).add m = ⟨g, m, none⟩ := fun m => by unfold Addr.add; split <;> simp_all
  rw [ea] at x0 x1
  refine ⟨?_, by simp [World.frozen?, hblk]⟩
  rcases Nat.mod_two_eq_zero_or_one j with e | e
  ·rw [e, show 0 + j = j / 2 * 2 + 0 by omega]
   exact x0
  ·rw [e, show 0 + j = j / 2 * 2 + 1 by omega]
   exact x1
theorem reps_flat {w : World} {base : Nat} {ok : Nat → Prop} : ∀ l : List (Int × Int), Reps (Kd.M k44 w base ok) 2 (l.map ofR) (flatR l)
 | [] => Reps.none _ _
 | x :: l => by
  obtain ⟨h1, h2⟩ := reps_flat (w := w) (base := base) (ok := ok) l
  refine ⟨by rw [flatR_len, List.length_map], fun j p hj => ?_⟩
  match j, hj with
  | 0, hj =>
   obtain rfl : ofR x = p := by simpa using hj
   exact ⟨[.int .u64 x.1], [.int .u64 x.2], rfl, rfl, rfl⟩
  | j + 1, hj =>
   have h := h2 j p (by simpa using hj)
   have e : ((flatR (x :: l)).drop ((j + 1) * 2)).take 2 = ((flatR l).drop (j * 2)).take 2 := by
    rw [show (j + 1) * 2 = j * 2 + 1 + 1 by omega]
    rfl
   rw [e]
   exact h
theorem ranges_of {w : World} {base : Nat} {v : Value} {rs : List (Int × Int)} (h : w.ownsRow base 44 2 v rs.length (flatR rs)) : Kd.R k44 44 w base (fun _ => True) v (rs.map ofR) :=
 ⟨fun _ _ => trivial, flatR rs, by rw [List.length_map]; exact h, reps_flat rs⟩
set_option maxHeartbeats 1000000 in
set_option maxRecDepth 100000 in
theorem grow_e (n : Nat) (hn : n ≤ 1099511627776) (w : World) :
  Calls Try.prog 45 #[.slice none 0 0, .int .i64 (n : Int)] w fun e w' => ∃ v, e = .returned v ∧ Kd.R k87 87 w' w.heap.size (fun _ => True) v [] ∧ Below w.heap.size w w' := by
 rcases Nat.eq_zero_or_pos n with rfl | h0
 ·have h00 : decide ((0 : Int) < 0) = false := rfl
  go_enter Try.func45, Try.ntmps45
  go_wp2
  go_ret
  exact ⟨_, rfl, Kd.R_nil _ _ _ _ _, Below.refl _ _⟩
 ·have hi5 : (Try.prog.info? 87).map (fun i => (i.zero, i.size, i.bytes)) = some (some (.agg #[.int .u64 0, .int .i64 0]), 2, 16) := by kernel_rfl
  obtain ⟨i0, hi, hz0, hz1, hz2⟩ := info_parts hi5
  have hcap := grownCap_ge w n 0 87
  have hcap2 := grownCap_le_maxLen w n 0 87 (by simp only [maxLen]; omega)
  have hrun := Lib.run_append_nil_zeros (P := Try.prog) w 73 3 73 87 i0 (.agg #[.int .u64 0, .int .i64 0]) .i64 .i64 Try.underlying73 Try.underlying3 hi hz0 n h0 (by omega) (by omega) (by rw [hz2]; omega)
  have HO : Aside0 ((w.drew.alloc (.cells (Builtin.zeroCells (Value.agg #[.int .u64 0, .int .i64 0]).cells n ++ Builtin.zeroCells (Value.agg #[.int .u64 0, .int .i64 0]).cells (grownCap w n 0 87 - n)) 87)).ownsRow w.heap.size 87 2 (.slice (some ⟨w.heap.size, 0, none⟩) 0 (grownCap w n 0 87)) 0 []) :=
   ⟨⟨rfl, Or.inr ⟨w.heap.size, grownCap w n 0 87, _, rfl, Nat.le_refl _, heap_alloc_new w.drew _, Nat.zero_le _, hcap2, by simp [Builtin.zeroCells, Value.cells]; omega, by simp⟩⟩⟩
  have HB : Aside0 (Below w.heap.size w (w.drew.alloc (.cells (Builtin.zeroCells (Value.agg #[.int .u64 0, .int .i64 0]).cells n ++ Builtin.zeroCells (Value.agg #[.int .u64 0, .int .i64 0]).cells (grownCap w n 0 87 - n)) 87))) := ⟨below_alloc (below_drew1 (Below.refl _ _)) _⟩
  generalize w.drew.alloc _ = w1 at hrun HO HB
  generalize grownCap w n 0 87 = cap at hrun HO hcap hcap2
  have hn0 : (0 : Int) < (n : Int) := by omega
  go_enter Try.func45, Try.ntmps45
  go_wp2_with (at_builtin; refine Lib.wpList_append_run _ rfl _ _ _ _ rfl _ _ rfl rfl _ _ hrun ?_)
  go_ret
  exact ⟨_, rfl, ⟨fun _ _ => trivial, [], HO.out, Reps.none _ _⟩, HB.out⟩
set_option maxHeartbeats 2000000 in
set_option maxRecDepth 100000 in
theorem concat_e2 (gq : Nat) (A1 A2 : Option Addr) (c1 c2 : Nat) (l1 l2 : List S87) (w : World) (hq0 : w.cell? ⟨gq, 0, none⟩ = some (.slice A1 l1.length c1)) (hq1 : w.cell? ⟨gq, 1, none⟩ = some (.slice A2 l2.length c2))
  (hr1 : Kd.C k87 w A1 l1.length l1) (hr2 : Kd.C k87 w A2 l2.length l2) (hl : l1.length + l2.length ≤ 549755813888) :
  Calls Try.prog 38 #[.slice (some ⟨gq, 0, none⟩) 2 2] w fun e w' => ∃ v, e = .returned v ∧ Kd.R k87 87 w' w.heap.size (fun _ => True) v (l1 ++ l2) ∧ Below w.heap.size w w' := by
 have HP := Aside0.mk hr1
 have HR := Aside0.mk hr2
 clear hr1 hr2
 have hne : ((l1.length : Int) + (l2.length : Int)) = ((l1.length + l2.length : Nat) : Int) := by omega
 have HE := Aside0.mk hne
 clear hne
 go_enter Try.func38, Try.ntmps38
 go_wp2
 refine wp_loop_rounds 3 ?_
 rw [rounds_succ]
 go_wp2
 rw [rounds_succ]
 go_wp2
 rw [rounds_succ]
 go_wp2_with fail
 rw [HE.out]
 refine (grow_e (l1.length + l2.length) (by omega) w).mono ?_
 rintro e w1 ⟨v1, rfl, ho, hb⟩
 have HB1 := Aside0.mk hb
 have hq0' := pw_cell_below hb hq0
 have hq1' := pw_cell_below hb hq1
 have HP1 := Aside0.mk (Kd.C_below HP.out hb)
 have HO1 := Aside0.mk ho
 have hbs := hb.size
 have HQ1 := Aside0.mk hq1
 clear ho hb hq0 hq1 HP
 go_wp2_with fail
 refine wp_loop_rounds 3 ?_
 rw [rounds_succ]
 go_wp2_with (at_builtin; refine Kd.R_append_rows k87 (w0 := w) w.heap.size rfl _ _ 73 87 (.agg #[.int .u64 0, .int .i64 0]) 16 rfl Try.underlying73 (by kernel_rfl) rfl (by decide) (by decide) _ [] l1 _ _ _ (fun _ => True) (fun _ => False) rfl rfl HO1.out HP1.out (fun _ _ h => h) (fun _ h => h.elim) (fun _ _ => trivial) HB1.out hbs (by simp; omega) ?_; intro v2 w2 ho hb _ _; have HO2 := Aside0.mk ho; have HB2 := Aside0.mk hb; clear ho hb)
 clear hq0' hq1' HP1 HO1 HB1 hbs
 have hq1' := pw_cell_below HB2.out HQ1.out
 have HR2 := Aside0.mk (Kd.C_below HR.out HB2.out)
 have hbs := HB2.out.size
 rw [rounds_succ]
 go_wp2_with (at_builtin; refine Kd.R_append_rows k87 (w0 := w) w.heap.size rfl _ _ 73 87 (.agg #[.int .u64 0, .int .i64 0]) 16 rfl Try.underlying73 (by kernel_rfl) rfl (by decide) (by decide) _ ([] ++ l1) l2 _ _ _ (fun _ => True) (fun _ => False) rfl rfl HO2.out HR2.out (fun _ _ h => h) (fun _ h => h.elim) (fun _ _ => trivial) HB2.out hbs (by simp; omega) ?_; intro v3 w3 ho hb _ _; have HO3 := Aside0.mk ho; have HB3 := Aside0.mk hb; clear ho hb)
 clear hq1' HR2 HO2 HB2 hbs
 rw [rounds_succ]
 obtain ⟨A', c', hv, hl', hC⟩ := Kd.R_reads HO3.out
 subst hv
 clear hC
 go_wp2
 go_ret
 exact ⟨_, rfl, HO3.out, HB3.out⟩
set_option maxHeartbeats 2000000 in
set_option maxRecDepth 100000 in
theorem concat_e1 (gq : Nat) (A1 : Option Addr) (c1 : Nat) (l1 : List S87) (w : World) (hq0 : w.cell? ⟨gq, 0, none⟩ = some (.slice A1 l1.length c1))
  (hr1 : Kd.C k87 w A1 l1.length l1) (hl : l1.length ≤ 549755813888) :
  Calls Try.prog 38 #[.slice (some ⟨gq, 0, none⟩) 1 1] w fun e w' => ∃ v, e = .returned v ∧ Kd.R k87 87 w' w.heap.size (fun _ => True) v l1 ∧ Below w.heap.size w w' := by
 have HP := Aside0.mk hr1
 clear hr1
 go_enter Try.func38, Try.ntmps38
 go_wp2
 refine wp_loop_rounds 2 ?_
 rw [rounds_succ]
 go_wp2
 rw [rounds_succ]
 go_wp2_with fail
 refine (grow_e l1.length (by omega) w).mono ?_
 rintro e w1 ⟨v1, rfl, ho, hb⟩
 have HB1 := Aside0.mk hb
 have hq0' := pw_cell_below hb hq0
 have HP1 := Aside0.mk (Kd.C_below HP.out hb)
 have HO1 := Aside0.mk ho
 have hbs := hb.size
 clear ho hb hq0 HP
 go_wp2_with fail
 refine wp_loop_rounds 2 ?_
 rw [rounds_succ]
 go_wp2_with (at_builtin; refine Kd.R_append_rows k87 (w0 := w) w.heap.size rfl _ _ 73 87 (.agg #[.int .u64 0, .int .i64 0]) 16 rfl Try.underlying73 (by kernel_rfl) rfl (by decide) (by decide) _ [] l1 _ _ _ (fun _ => True) (fun _ => False) rfl rfl HO1.out HP1.out (fun _ _ h => h) (fun _ h => h.elim) (fun _ _ => trivial) HB1.out hbs (by simp; omega) ?_; intro v2 w2 ho hb _ _; have HO2 := Aside0.mk ho; have HB2 := Aside0.mk hb; clear ho hb)
 clear hq0' HP1 HO1 HB1 hbs
 rw [rounds_succ]
 obtain ⟨A', c', hv, hl', hC⟩ := Kd.R_reads HO2.out
 subst hv
 clear hC
 go_wp2
 go_ret
 exact ⟨_, rfl, HO2.out, HB2.out⟩
/-- ranges.swept of two rows of edges, of one. -/
theorem swept2 (wf : Nat) (wantF : Int → Bool) (ew : ∀ args w, (callFunc wf args).run Try.prog w = .ok (.enter wf args) w) (hwant : ∀ x W, Calls Try.prog wf #[.int .i64 x] W fun e w' => e = .returned (.bool (wantF x)) ∧ w' = W)
  (gq : Nat) (A1 A2 : Option Addr) (c1 c2 : Nat) (l1 l2 : List S87) (w : World) (hq0 : w.cell? ⟨gq, 0, none⟩ = some (.slice A1 l1.length c1)) (hq1 : w.cell? ⟨gq, 1, none⟩ = some (.slice A2 l2.length c2))
  (hr1 : Kd.C k87 w A1 l1.length l1) (hr2 : Kd.C k87 w A2 l2.length l2) (hl : l1.length + l2.length ≤ 549755813888) :
  Calls Try.prog 28 #[.func (.func wf) #[] #[], .slice (some ⟨gq, 0, none⟩) 2 2] w fun e w' => ∃ v, e = .returned v ∧ Kd.R k44 44 w' w.heap.size (fun _ => True) v (sweepF wantF (l1 ++ l2)) ∧ Below w.heap.size w w' := by
 have hb : Below w.heap.size w (w.alloc (.cells #[.slice none 0 0] 26)) := below_alloc (Below.refl _ _) _
 have hz : (w.alloc (.cells #[.slice none 0 0] 26)).heap.size = w.heap.size + 1 := by simp
 have hc := concat_e2 gq A1 A2 c1 c2 l1 l2 (w.alloc (.cells #[.slice none 0 0] 26)) (pw_cell_below hb hq0) (pw_cell_below hb hq1) (Kd.C_below hr1 hb) (Kd.C_below hr2 hb) hl
 refine (swept_c wf wantF ew hwant _ _ _ ((l1 ++ l2).map toE) w (by rw [List.length_map, List.length_append]; omega) (hc.mono ?_)).mono ?_
 ·rintro e w' ⟨v, rfl, ho, hb⟩
  rw [hz] at ho hb
  exact ⟨v, rfl, edges_of ho, hb⟩
 ·rintro e w' ⟨v, rfl, ho, hb⟩
  exact ⟨v, rfl, ranges_of ho, hb⟩
theorem swept1 (wf : Nat) (wantF : Int → Bool) (ew : ∀ args w, (callFunc wf args).run Try.prog w = .ok (.enter wf args) w) (hwant : ∀ x W, Calls Try.prog wf #[.int .i64 x] W fun e w' => e = .returned (.bool (wantF x)) ∧ w' = W)
  (gq : Nat) (A1 : Option Addr) (c1 : Nat) (l1 : List S87) (w : World) (hq0 : w.cell? ⟨gq, 0, none⟩ = some (.slice A1 l1.length c1))
  (hr1 : Kd.C k87 w A1 l1.length l1) (hl : l1.length ≤ 549755813888) :
  Calls Try.prog 28 #[.func (.func wf) #[] #[], .slice (some ⟨gq, 0, none⟩) 1 1] w fun e w' => ∃ v, e = .returned v ∧ Kd.R k44 44 w' w.heap.size (fun _ => True) v (sweepF wantF l1) ∧ Below w.heap.size w w' := by
 have hb : Below w.heap.size w (w.alloc (.cells #[.slice none 0 0] 26)) := below_alloc (Below.refl _ _) _
 have hz : (w.alloc (.cells #[.slice none 0 0] 26)).heap.size = w.heap.size + 1 := by simp
 have hc := concat_e1 gq A1 c1 l1 (w.alloc (.cells #[.slice none 0 0] 26)) (pw_cell_below hb hq0) (Kd.C_below hr1 hb) hl
 refine (swept_c wf wantF ew hwant _ _ _ (l1.map toE) w (by rw [List.length_map]; omega) (hc.mono ?_)).mono ?_
 ·rintro e w' ⟨v, rfl, ho, hb⟩
  rw [hz] at ho hb
  exact ⟨v, rfl, edges_of ho, hb⟩
 ·rintro e w' ⟨v, rfl, ho, hb⟩
  exact ⟨v, rfl, ranges_of ho, hb⟩
def wantPos (x : Int) : Bool := decide (0 < x)
def wantIs (n : Int) (x : Int) : Bool := x == n
theorem one_range {w : World} {g : Nat} {a b : Int} {T : TypeId} (h : w.heap[g]? = some (.cells #[.int .u64 a, .int .u64 b] T (0, 0))) : Kd.C k44 w (some ⟨g, 0, none⟩) 1 [(⟨a, b⟩ : S44)] :=
 ⟨rfl, by decide, fun _ => ⟨_, rfl, fun j x hj => by
  have hj0 : j = 0 := by
   have := (List.getElem?_eq_some_iff.1 hj).1
   simp at this
   omega
  subst hj0
  obtain rfl : (⟨a, b⟩ : S44) = x := by simpa using hj
  refine ⟨[.int .u64 a, .int .u64 b], rfl, ⟨[.int .u64 a], [.int .u64 b], rfl, rfl, rfl⟩, fun i u hu => ?_⟩
  have e : (⟨g, 0, none⟩ : Addr).add (0 * 2 + i) = ⟨g, i, none⟩ := by unfold Addr.add; split <;> simp_all
  show w.cell? ((⟨g, 0, none⟩ : Addr).add (0 * 2 + i)) = _
  rw [e, blk_cell h i]
  simpa using hu⟩⟩
/-- What a boxed range holds. -/
def RS (g : Nat) (a b : Int) (w : World) : Prop := w.cell? ⟨g, 0, none⟩ = some (.int .u64 a) ∧ w.cell? ⟨g, 1, none⟩ = some (.int .u64 b)
theorem RS.below {g : Nat} {a b : Int} {w w' : World} (h : RS g a b w) (hb : Below w.heap.size w w') : RS g a b w' := ⟨up_ hb h.1, up_ hb h.2⟩
theorem RS.alloc {g : Nat} {a b : Int} {w : World} (h : RS g a b w) (o : Obj) : RS g a b (w.alloc o) := h.below (below_alloc (Below.refl _ _) _)
theorem RS.new (w : World) (a b : Int) (T : TypeId) : RS w.heap.size a b (w.alloc (.cells #[.int .u64 a, .int .u64 b] T)).drew :=
 ⟨(blk_cell (blk_drew (heap_alloc_new w _)) 0).trans rfl, (blk_cell (blk_drew (heap_alloc_new w _)) 1).trans rfl⟩

/-! ### ranges_Has: function 27 -/
/-- Of a range and a number: -1: it lies below; 1: above; 0: it has it. -/
def cmpH (r : S44) (n : Int) : Int := if r.f1 < n then -1 else if n < r.f0 then 1 else 0
def bsL (l : List S44) (n : Int) : Nat → Nat → Nat → Nat
 | 0, i, _ => i
 | k + 1, i, j => if i < j then (if cmpH (rd_T44 l (((i + j) / 2 : Nat) : Int)) n < 0 then bsL l n k ((i + j) / 2 + 1) j else bsL l n k i ((i + j) / 2)) else i
theorem bsL_le (l : List S44) (n : Int) : ∀ k i j, i ≤ j → bsL l n k i j ≤ j
 | 0, i, j, h => h
 | k + 1, i, j, h => by
  rw [bsL]
  split
  ·split
   ·exact bsL_le l n k _ j (by omega)
   ·exact Nat.le_trans (bsL_le l n k i _ (by omega)) (by omega)
  ·exact h
def hasF (l : List S44) (n : Int) : Bool := let i := bsL l n (l.length + 1) 0 l.length; decide (i < l.length) && cmpH (rd_T44 l (i : Int)) n == 0
def ranges_Has.f (l0 : List S44) (a1 : Int) : Option Bool := if l0.length ≤ 1099511627776 then some (hasF l0 a1) else none
set_option maxHeartbeats 1000000 in
theorem cmpH_calls (a b n : Int) (w : World) : Calls Try.prog 36 #[.agg #[.int .u64 a, .int .u64 b], .int .u64 n] w fun e w' => e = .returned (.int .i64 (cmpH ⟨a, b⟩ n)) ∧ Below w.heap.size w w' := by
 unfold cmpH
 by_cases h1 : b < n
 ·have hd : decide (b < n) = true := decide_eq_true h1
  rw [if_pos h1]
  go_enter Try.func36, Try.ntmps36
  go_wp2
  go_ret
  exact ⟨rfl, below_alloc (Below.refl _ _) _⟩
 ·have hd : decide (b < n) = false := decide_eq_false h1
  rw [if_neg h1]
  by_cases h2 : n < a
  ·have hd2 : decide (n < a) = true := decide_eq_true h2
   rw [if_pos h2]
   go_enter Try.func36, Try.ntmps36
   go_wp2
   go_ret
   exact ⟨rfl, below_alloc (Below.refl _ _) _⟩
  ·have hd2 : decide (n < a) = false := decide_eq_false h2
   rw [if_neg h2]
   go_enter Try.func36, Try.ntmps36
   go_wp2
   go_ret
   exact ⟨rfl, below_alloc (Below.refl _ _) _⟩
theorem cmpH_e : ∀ args w, (callFunc 36 args).run Try.prog w = .ok (.enter 36 args) w := enters_of Try.func36 (by kernel_rfl) rfl
set_option maxHeartbeats 4000000 in
set_option maxRecDepth 100000 in
theorem search_calls (A0 : Option Addr) (c0 : Nat) (l0 : List S44) (n : Int) (w : World) (hr0 : Kd.C k44 w A0 l0.length l0) (hl : l0.length ≤ 1099511627776) :
  Calls Try.prog 35 #[.slice A0 l0.length c0, .int .u64 n, .func (.func 36) #[] #[]] w fun e w' =>
   e = .returned (.tuple #[.int .i64 (bsL l0 n (l0.length + 1) 0 l0.length : Nat), .bool (hasF l0 n)]) ∧ Below w.heap.size w w' := by
 obtain ⟨R, hR⟩ : ∃ R, bsL l0 n (l0.length + 1) 0 l0.length = R := ⟨_, rfl⟩
 have hle : R ≤ l0.length := by rw [← hR]; exact bsL_le _ _ _ _ _ (Nat.zero_le _)
 have hF : hasF l0 n = (decide (R < l0.length) && cmpH (rd_T44 l0 (R : Int)) n == 0) := by unfold hasF; rw [hR]
 rw [hR, hF]
 have HF := Aside0.mk hR
 have HR := Aside0.mk hr0
 clear hR hr0 hF
 have hmf := cmpH_e
 go_enter Try.func35, Try.ntmps35
 go_wp2
 go_loopg [9, 10] (l0.length + 1) (fun k s9 s10 wr => ∃ i j : Nat, s9 = .int .i64 i ∧ s10 = .int .i64 j ∧ i ≤ j ∧ j ≤ l0.length ∧ j - i < k ∧ Aside0 (bsL l0 n k i j = R) ∧ Aside0 (Below w.heap.size w wr))
 case atStart => exact ⟨0, l0.length, rfl, rfl, Nat.zero_le _, Nat.le_refl _, by omega, HF, ⟨Below.refl _ _⟩⟩
 case round =>
  obtain ⟨i, j, rfl, rfl, hij, hjl, hk, HS, HB⟩ := hrel
  cases gk with
  | zero => omega
  | succ k =>
  by_cases hlt : i < j
  ·have hm : (i + j) / 2 < l0.length := by omega
   obtain ⟨ad, rfl, x0, x1⟩ := at_T44 HR.out (((i + j) / 2 : Nat) : Int) (by omega) (by omega)
   rw [Int.toNat_natCast] at x0 x1
   replace x0 := up_ HB.out x0
   replace x1 := up_ HB.out x1
   have hS := HS.out
   rw [bsL, if_pos hlt] at hS
   clear HS
   generalize rd_T44 l0 (((i + j) / 2 : Nat) : Int) = y at x0 x1 hS
   obtain ⟨ya, yb⟩ := y
   have hc := cmpH_calls ya yb n wr
   generalize cmpH ⟨ya, yb⟩ n = cy at hc hS
   have HCY := Aside0.mk hc
   clear hc
   by_cases hcy : cy < 0
   ·rw [if_pos hcy] at hS
    have HS := Aside0.mk hS
    clear hS
    have hcd : decide (cy < 0) = true := decide_eq_true hcy
    go_wp2_with (go_at_call 36; refine HCY.out.mono ?_; rintro e w3 ⟨rfl, hb⟩; have HB3 := Aside0.mk (below_step HB.out hb); clear hb)
    go_roundg k
    case measure => omega
    case rel => exact ⟨(i + j) / 2 + 1, j, by first | rfl | go_num | (rw [show (((i : Int) + (j : Int)) / 2 + 1) = (((i + j) / 2 + 1 : Nat) : Int) by omega]), rfl, by omega, hjl, by omega, HS, HB3⟩
   ·rw [if_neg hcy] at hS
    have HS := Aside0.mk hS
    clear hS
    have hcd : decide (cy < 0) = false := decide_eq_false hcy
    go_wp2_with (go_at_call 36; refine HCY.out.mono ?_; rintro e w3 ⟨rfl, hb⟩; have HB3 := Aside0.mk (below_step HB.out hb); clear hb)
    go_roundg k
    case measure => omega
    case rel => exact ⟨i, (i + j) / 2, rfl, by first | rfl | go_num | (rw [show (((i : Int) + (j : Int)) / 2) = (((i + j) / 2 : Nat) : Int) by omega]), by omega, by omega, by omega, HS, HB3⟩
  ·have hS := HS.out
   rw [bsL, if_neg hlt] at hS
   subst hS
   obtain rfl : j = i := by omega
   clear HS hlt
   by_cases hn : j < l0.length
   ·obtain ⟨ad, rfl, x0, x1⟩ := at_T44 HR.out (j : Int) (by omega) (by omega)
    rw [Int.toNat_natCast] at x0 x1
    replace x0 := up_ HB.out x0
    replace x1 := up_ HB.out x1
    obtain ⟨y, hy⟩ : ∃ y, rd_T44 l0 (j : Int) = y := ⟨_, rfl⟩
    rw [hy] at x0 x1
    obtain ⟨ya, yb⟩ := y
    have hc := cmpH_calls ya yb n wr
    obtain ⟨cy, hcy⟩ : ∃ cy, cmpH ⟨ya, yb⟩ n = cy := ⟨_, rfl⟩
    rw [hcy] at hc
    have HE : Aside0 (cmpH (rd_T44 l0 (j : Int)) n = cy) := ⟨by rw [hy]; exact hcy⟩
    have HCY := Aside0.mk hc
    clear hc hy hcy
    go_wp2_with (go_at_call 36; refine HCY.out.mono ?_; rintro e w3 ⟨rfl, hb⟩; have HB3 := Aside0.mk (below_step HB.out hb); clear hb)
    go_ret2
    exact ⟨by rw [HE.out]; simp [hn], HB3.out⟩
   ·go_wp2
    go_ret2
    exact ⟨by simp [hn], HB.out⟩
set_option maxHeartbeats 1000000 in
theorem ranges_Has.calls (A0 : Option Addr) (c0 : Nat) (l0 : List S44) (a1 : Int) (r : Bool) (w : World) (hr0 : Kd.C k44 w A0 l0.length l0) (hc0 : l0.length ≤ c0) (h : ranges_Has.f l0 a1 = some r) :
  Calls Try.prog 27 #[.slice A0 l0.length c0, .int .u64 a1] w fun e w' => e = .returned (.bool r) ∧ Below w.heap.size w w' := by
 unfold ranges_Has.f at h
 by_cases c : l0.length ≤ 1099511627776
 ·rw [if_pos c] at h
  obtain rfl := Option.some.inj h
  have HS := Aside0.mk (search_calls A0 c0 l0 a1 w hr0 c)
  have hle : bsL l0 a1 (l0.length + 1) 0 l0.length ≤ l0.length := bsL_le _ _ _ _ _ (Nat.zero_le _)
  have hh : hasF l0 a1 = true → bsL l0 a1 (l0.length + 1) 0 l0.length < l0.length := fun e => by
   unfold hasF at e
   simp only [Bool.and_eq_true, decide_eq_true_eq] at e
   exact e.1
  generalize bsL l0 a1 (l0.length + 1) 0 l0.length = R at HS hle hh
  generalize hasF l0 a1 = b at HS hh
  clear hr0 h
  cases b with
  | true =>
   have hR := hh rfl
   clear hh
   go_enter Try.func27, Try.ntmps27
   go_wp2_with fail
   refine HS.out.mono ?_
   rintro e w1 ⟨rfl, hb⟩
   go_wp2
   go_ret
   exact ⟨rfl, hb⟩
  | false =>
   clear hh
   go_enter Try.func27, Try.ntmps27
   go_wp2_with fail
   refine HS.out.mono ?_
   rintro e w1 ⟨rfl, hb⟩
   go_wp2
   go_ret
   exact ⟨rfl, hb⟩
 ·rw [if_neg c] at h
  exact absurd h (by simp)

/-! ### acks_State_had: function 16 -/
def acks_State_had.f (l0_0 : List (S44)) (a0_1 : Int) (a0_2 : Int) (a0_3 : Int) (a0_4 : Int) (a1 : Int) : Option (Bool) := if a1 < a0_1 then (some true) else ((ranges_Has.f l0_0 a1).bind fun t102 => (some t102))
set_option maxHeartbeats 8000000 in
set_option maxRecDepth 100000 in
theorem acks_State_had.calls (A0_0 : Option Addr) (c0_0 : Nat) (l0_0 : List (S44)) (a0_1 : Int) (a0_2 : Int) (a0_3 : Int) (a0_4 : Int) (a1 : Int) (r : Bool) (w : World) (hr0_0 : Kd.C k44 w A0_0 l0_0.length l0_0) (hc0_0 : l0_0.length ≤ c0_0) (h : acks_State_had.f l0_0 a0_1 a0_2 a0_3 a0_4 a1 = some r) :
  Calls Try.prog 16 #[.agg #[.slice A0_0 l0_0.length c0_0, .int .u64 a0_1, .int .i64 a0_2, .int .i64 a0_3, .int .i64 a0_4], .int .u64 a1] w fun e w' => e = .returned (.bool r) ∧ Below w.heap.size w w' := by
 have hu28 := Try.underlying28
 have HR0_0 := Aside0.mk hr0_0
 have HC0_0 := Aside0.mk hc0_0
 clear hr0_0 hc0_0
 have HB := Aside0.mk (Below.refl w.heap.size w)
 have H : (if a1 < a0_1 then (some true) else ((ranges_Has.f l0_0 a1).bind fun t102 => (some t102))) = some r := h
 clear h
 by_cases c3 : a1 < a0_1
 ·rw [if_pos c3] at H
  have c3b0 : decide (a1 < a0_1) = true := decide_eq_true c3
  clear c3
  obtain rfl := Option.some.inj H
  go_enter Try.func16, Try.ntmps16
  go_wp2_with (first | ((with_reducible refine gate_dst (N := 2) rfl ?_); refine box_event ?hg (N := 2) ?hd (cs := #[.slice A0_0 l0_0.length c0_0, .int .u64 a0_1, .int .i64 a0_2, .int .i64 a0_3, .int .i64 a0_4]) (t := 28) ?hr ?_; (case hd => rfl); (case hg => rfl); (case hr => first | (go_simp; done) | (go_simp; rfl)); intro gb101 hg w4 hbox hb; have n0_ := Aside0.mk (below_step (by repeat (first | (with_reducible first | exact HB.out | apply below_alloc | apply pw_below_drewN | apply below_drew1) | exact HB.out)) hb); have n1_ := Aside0.mk (hbox); have n2_ := Aside0.mk ((by rw [hg]; exact (below_size (by repeat (first | (with_reducible first | exact HB.out | apply below_alloc | apply pw_below_drewN | apply below_drew1) | exact HB.out))) : w.heap.size ≤ gb101)); have n3_ := Aside0.mk ((by rw [hg]; exact (below_size (by repeat (first | (with_reducible first | exact HB.out | apply below_alloc | apply pw_below_drewN | apply below_drew1) | exact HB.out))) : w.heap.size ≤ gb101)); clear HB; have HB := n0_; have BK101 := n1_; have GW101 := n2_; have GE101 := n3_; clear n0_ n1_ n2_ n3_; clear hb hbox hg; have hcz5_0 : w4.cell? ⟨gb101, 0, none⟩ = some (.slice A0_0 l0_0.length c0_0) := (blk_cell BK101.out 0).trans rfl; have hcz5_1 : w4.cell? ⟨gb101, 1, none⟩ = some (.int .u64 a0_1) := (blk_cell BK101.out 1).trans rfl; have hcz5_2 : w4.cell? ⟨gb101, 2, none⟩ = some (.int .i64 a0_2) := (blk_cell BK101.out 2).trans rfl; have hcz5_3 : w4.cell? ⟨gb101, 3, none⟩ = some (.int .i64 a0_3) := (blk_cell BK101.out 3).trans rfl; have hcz5_4 : w4.cell? ⟨gb101, 4, none⟩ = some (.int .i64 a0_4) := (blk_cell BK101.out 4).trans rfl; have hfz5_0 := blk_frozen BK101.out 0; have hfz5_1 := blk_frozen BK101.out 1; have hfz5_2 := blk_frozen BK101.out 2; have hfz5_3 := blk_frozen BK101.out 3; have hfz5_4 := blk_frozen BK101.out 4))
  go_ret
  exact ⟨by first | rfl | (simp [errW_none, errW_some] <;> rfl) | (simp [*, errW_none, errW_some] <;> rfl), by repeat (first | (with_reducible first | exact HB.out | apply below_alloc | apply pw_below_drewN | apply below_drew1 | refine below_set ?_ GE101.out) | exact HB.out)⟩
 ·rw [if_neg c3] at H
  have c3b0 : decide (a1 < a0_1) = false := decide_eq_false c3
  clear c3
  replace H := Option.bind_eq_some_iff.mp H
  obtain ⟨t102, A60, H⟩ := H
  replace H : (some t102) = some r := H
  have A6 := Aside0.mk A60
  clear A60
  obtain rfl := Option.some.inj H
  go_enter Try.func16, Try.ntmps16
  go_wp2_with (first | ((with_reducible refine gate_dst (N := 2) rfl ?_); refine box_event ?hg (N := 2) ?hd (cs := #[.slice A0_0 l0_0.length c0_0, .int .u64 a0_1, .int .i64 a0_2, .int .i64 a0_3, .int .i64 a0_4]) (t := 28) ?hr ?_; (case hd => rfl); (case hg => rfl); (case hr => first | (go_simp; done) | (go_simp; rfl)); intro gb101 hg w7 hbox hb; have n0_ := Aside0.mk (below_step (by repeat (first | (with_reducible first | exact HB.out | apply below_alloc | apply pw_below_drewN | apply below_drew1) | exact HB.out)) hb); have n1_ := Aside0.mk (hbox); have n2_ := Aside0.mk ((by rw [hg]; exact (below_size (by repeat (first | (with_reducible first | exact HB.out | apply below_alloc | apply pw_below_drewN | apply below_drew1) | exact HB.out))) : w.heap.size ≤ gb101)); have n3_ := Aside0.mk ((by rw [hg]; exact (below_size (by repeat (first | (with_reducible first | exact HB.out | apply below_alloc | apply pw_below_drewN | apply below_drew1) | exact HB.out))) : w.heap.size ≤ gb101)); clear HB; have HB := n0_; have BK101 := n1_; have GW101 := n2_; have GE101 := n3_; clear n0_ n1_ n2_ n3_; clear hb hbox hg; have hcz8_0 : w7.cell? ⟨gb101, 0, none⟩ = some (.slice A0_0 l0_0.length c0_0) := (blk_cell BK101.out 0).trans rfl; have hcz8_1 : w7.cell? ⟨gb101, 1, none⟩ = some (.int .u64 a0_1) := (blk_cell BK101.out 1).trans rfl; have hcz8_2 : w7.cell? ⟨gb101, 2, none⟩ = some (.int .i64 a0_2) := (blk_cell BK101.out 2).trans rfl; have hcz8_3 : w7.cell? ⟨gb101, 3, none⟩ = some (.int .i64 a0_3) := (blk_cell BK101.out 3).trans rfl; have hcz8_4 : w7.cell? ⟨gb101, 4, none⟩ = some (.int .i64 a0_4) := (blk_cell BK101.out 4).trans rfl; have hfz8_0 := blk_frozen BK101.out 0; have hfz8_1 := blk_frozen BK101.out 1; have hfz8_2 := blk_frozen BK101.out 2; have hfz8_3 := blk_frozen BK101.out 3; have hfz8_4 := blk_frozen BK101.out 4) | (go_at_call 27; (with_reducible refine (ranges_Has.calls _ _ l0_0 a1 t102 _ ?side1 ?side2 A6.out).mono ?_); (case side1 => repeat (first | exact (Kd.C_below HR0_0.out HB.out) | (with_reducible refine Kd.C_alloc ?_ _) | (with_reducible refine Kd.C_drewN ?_ _) | (with_reducible refine Kd.C_drew ?_))); (case side2 => exact HC0_0.out); rintro e w9 ⟨rfl, hb⟩; have n0_ := Aside0.mk (blk_below (g := gb101) (o := .cells #[.slice A0_0 l0_0.length c0_0, .int .u64 a0_1, .int .i64 a0_2, .int .i64 a0_3, .int .i64 a0_4] 28 (0, 0)) (by (with_reducible repeat (first | refine blk_drewN ?_ _ | refine blk_drew ?_ | refine blk_alloc ?_ _)); exact BK101.out) hb); have n1_ := Aside0.mk (below_step (by repeat (first | (with_reducible first | exact HB.out | apply below_alloc | apply pw_below_drewN | apply below_drew1 | refine below_set ?_ GE101.out) | exact HB.out)) hb); clear BK101; clear HB; have BK101 := n0_; have HB := n1_; clear n0_ n1_; (try clear hb); (try clear hb2); (try clear hk); (try clear hi)))
  go_ret
  exact ⟨by first | rfl | (simp [errW_none, errW_some] <;> rfl) | (simp [*, errW_none, errW_some] <;> rfl), by repeat (first | (with_reducible first | exact HB.out | apply below_alloc | apply pw_below_drewN | apply below_drew1 | refine below_set ?_ GE101.out) | exact HB.out)⟩

/-! ### acks_State_top: function 17 -/
def acks_State_top.f (l0_0 : List (S44)) (a0_1 : Int) (a0_2 : Int) (a0_3 : Int) (a0_4 : Int) : Option (Int × Bool) := if (l0_0.length : Int) = 0 then (some (0, false)) else (if 0 ≤ (wrap64 ((l0_0.length : Int) - 1)) then (if (wrap64 ((l0_0.length : Int) - 1)) < (l0_0.length : Int) then (some ((rd_T44 l0_0 (wrap64 ((l0_0.length : Int) - 1))).f1, true)) else (none)) else (none))
set_option maxHeartbeats 8000000 in
set_option maxRecDepth 100000 in
theorem acks_State_top.calls (A0_0 : Option Addr) (c0_0 : Nat) (l0_0 : List (S44)) (a0_1 : Int) (a0_2 : Int) (a0_3 : Int) (a0_4 : Int) (r1 : Int) (r2 : Bool) (w : World) (hr0_0 : Kd.C k44 w A0_0 l0_0.length l0_0) (hc0_0 : l0_0.length ≤ c0_0) (h : acks_State_top.f l0_0 a0_1 a0_2 a0_3 a0_4 = some (r1, r2)) :
  Calls Try.prog 17 #[.agg #[.slice A0_0 l0_0.length c0_0, .int .u64 a0_1, .int .i64 a0_2, .int .i64 a0_3, .int .i64 a0_4]] w fun e w' => e = .returned (.tuple #[.int .u64 r1, .bool r2]) ∧ Below w.heap.size w w' := by
 have hu28 := Try.underlying28
 have HR0_0 := Aside0.mk hr0_0
 have HC0_0 := Aside0.mk hc0_0
 clear hr0_0 hc0_0
 have HB := Aside0.mk (Below.refl w.heap.size w)
 have H : (if (l0_0.length : Int) = 0 then (some (0, false)) else (if 0 ≤ (wrap64 ((l0_0.length : Int) - 1)) then (if (wrap64 ((l0_0.length : Int) - 1)) < (l0_0.length : Int) then (some ((rd_T44 l0_0 (wrap64 ((l0_0.length : Int) - 1))).f1, true)) else (none)) else (none))) = some (r1, r2) := h
 clear h
 by_cases c2 : (l0_0.length : Int) = 0
 ·rw [if_pos c2] at H
  have c2b0 : ((l0_0.length : Int) == 0) = true := beq_iff_eq.mpr c2
  have c2b1 : ((l0_0.length : Int) != 0) = false := bne_eq_false_iff_eq.mpr c2
  clear c2
  simp only [Option.some.injEq, Prod.mk.injEq] at H
  obtain ⟨rfl, rfl⟩ := H
  go_enter Try.func17, Try.ntmps17
  go_wp2_with (first | ((with_reducible refine gate_dst (N := 1) rfl ?_); refine box_event ?hg (N := 1) ?hd (cs := #[.slice A0_0 l0_0.length c0_0, .int .u64 a0_1, .int .i64 a0_2, .int .i64 a0_3, .int .i64 a0_4]) (t := 28) ?hr ?_; (case hd => rfl); (case hg => rfl); (case hr => first | (go_simp; done) | (go_simp; rfl)); intro gb103 hg w3 hbox hb; have n0_ := Aside0.mk (below_step (by repeat (first | (with_reducible first | exact HB.out | apply below_alloc | apply pw_below_drewN | apply below_drew1) | exact HB.out)) hb); have n1_ := Aside0.mk (hbox); have n2_ := Aside0.mk ((by rw [hg]; exact (below_size (by repeat (first | (with_reducible first | exact HB.out | apply below_alloc | apply pw_below_drewN | apply below_drew1) | exact HB.out))) : w.heap.size ≤ gb103)); have n3_ := Aside0.mk ((by rw [hg]; exact (below_size (by repeat (first | (with_reducible first | exact HB.out | apply below_alloc | apply pw_below_drewN | apply below_drew1) | exact HB.out))) : w.heap.size ≤ gb103)); clear HB; have HB := n0_; have BK103 := n1_; have GW103 := n2_; have GE103 := n3_; clear n0_ n1_ n2_ n3_; clear hb hbox hg; have hcz4_0 : w3.cell? ⟨gb103, 0, none⟩ = some (.slice A0_0 l0_0.length c0_0) := (blk_cell BK103.out 0).trans rfl; have hcz4_1 : w3.cell? ⟨gb103, 1, none⟩ = some (.int .u64 a0_1) := (blk_cell BK103.out 1).trans rfl; have hcz4_2 : w3.cell? ⟨gb103, 2, none⟩ = some (.int .i64 a0_2) := (blk_cell BK103.out 2).trans rfl; have hcz4_3 : w3.cell? ⟨gb103, 3, none⟩ = some (.int .i64 a0_3) := (blk_cell BK103.out 3).trans rfl; have hcz4_4 : w3.cell? ⟨gb103, 4, none⟩ = some (.int .i64 a0_4) := (blk_cell BK103.out 4).trans rfl; have hfz4_0 := blk_frozen BK103.out 0; have hfz4_1 := blk_frozen BK103.out 1; have hfz4_2 := blk_frozen BK103.out 2; have hfz4_3 := blk_frozen BK103.out 3; have hfz4_4 := blk_frozen BK103.out 4))
  go_ret2
  exact ⟨by first | rfl | (simp [errW_none, errW_some] <;> rfl) | (simp [*, errW_none, errW_some] <;> rfl), by repeat (first | (with_reducible first | exact HB.out | apply below_alloc | apply pw_below_drewN | apply below_drew1 | refine below_set ?_ GE103.out) | exact HB.out)⟩
 ·rw [if_neg c2] at H
  have c2b0 : ((l0_0.length : Int) == 0) = false := beq_eq_false_iff_ne.mpr c2
  have c2b1 : ((l0_0.length : Int) != 0) = true := bne_iff_ne.mpr c2
  have c2b2 : ¬ (l0_0 = []) := fun h_ => c2 (by rw [h_]; rfl)
  obtain ⟨ji5, hji5⟩ : ∃ j_ : Int, (wrap64 ((l0_0.length : Int) - 1)) = j_ := ⟨_, rfl⟩
  replace H : (if 0 ≤ (ji5) then (if (ji5) < (l0_0.length : Int) then (some ((rd_T44 l0_0 (ji5)).f1, true)) else (none)) else (none)) = some (r1, r2) := by first | (rw [hji5] at H; exact H) | (simp only [hji5] at H ⊢; exact H)
  have hji5w : (IntKind.i64.wrap ((l0_0.length : Int) - 1)) = ji5 := (i64_w _).trans hji5
  by_cases c6 : 0 ≤ (ji5)
  ·rw [if_pos c6] at H
   have c6b0 : decide (0 ≤ (ji5)) = true := decide_eq_true c6
   clear c6
   by_cases c7 : (ji5) < (l0_0.length : Int)
   ·rw [if_pos c7] at H
    have c7b0 : decide ((ji5) < (l0_0.length : Int)) = true := decide_eq_true c7
    clear c7
    simp only [Option.some.injEq, Prod.mk.injEq] at H
    obtain ⟨rfl, rfl⟩ := H
    go_enter Try.func17, Try.ntmps17
    go_wp2_with (first | ((with_reducible refine gate_dst (N := 1) rfl ?_); refine box_event ?hg (N := 1) ?hd (cs := #[.slice A0_0 l0_0.length c0_0, .int .u64 a0_1, .int .i64 a0_2, .int .i64 a0_3, .int .i64 a0_4]) (t := 28) ?hr ?_; (case hd => rfl); (case hg => rfl); (case hr => first | (go_simp; done) | (go_simp; rfl)); intro gb103 hg w8 hbox hb; have n0_ := Aside0.mk (below_step (by repeat (first | (with_reducible first | exact HB.out | apply below_alloc | apply pw_below_drewN | apply below_drew1) | exact HB.out)) hb); have n1_ := Aside0.mk (hbox); have n2_ := Aside0.mk ((by rw [hg]; exact (below_size (by repeat (first | (with_reducible first | exact HB.out | apply below_alloc | apply pw_below_drewN | apply below_drew1) | exact HB.out))) : w.heap.size ≤ gb103)); have n3_ := Aside0.mk ((by rw [hg]; exact (below_size (by repeat (first | (with_reducible first | exact HB.out | apply below_alloc | apply pw_below_drewN | apply below_drew1) | exact HB.out))) : w.heap.size ≤ gb103)); clear HB; have HB := n0_; have BK103 := n1_; have GW103 := n2_; have GE103 := n3_; clear n0_ n1_ n2_ n3_; clear hb hbox hg; have hcz9_0 : w8.cell? ⟨gb103, 0, none⟩ = some (.slice A0_0 l0_0.length c0_0) := (blk_cell BK103.out 0).trans rfl; have hcz9_1 : w8.cell? ⟨gb103, 1, none⟩ = some (.int .u64 a0_1) := (blk_cell BK103.out 1).trans rfl; have hcz9_2 : w8.cell? ⟨gb103, 2, none⟩ = some (.int .i64 a0_2) := (blk_cell BK103.out 2).trans rfl; have hcz9_3 : w8.cell? ⟨gb103, 3, none⟩ = some (.int .i64 a0_3) := (blk_cell BK103.out 3).trans rfl; have hcz9_4 : w8.cell? ⟨gb103, 4, none⟩ = some (.int .i64 a0_4) := (blk_cell BK103.out 4).trans rfl; have hfz9_0 := blk_frozen BK103.out 0; have hfz9_1 := blk_frozen BK103.out 1; have hfz9_2 := blk_frozen BK103.out 2; have hfz9_3 := blk_frozen BK103.out 3; have hfz9_4 := blk_frozen BK103.out 4; have p104 : 0 ≤ ((ji5) : Int) := of_decide_eq_true (by first | (with_reducible assumption) | assumption); have q104 : (ji5) < (l0_0.length : Int) := of_decide_eq_true (by first | (with_reducible assumption) | assumption); obtain ⟨ad104, e104, hx104_0, hx104_1⟩ := at_T44 HR0_0.out (ji5) p104 q104; cases e104; replace hx104_0 := (HB.out.cell (World.block_lt_of_cell? w _ hx104_0)).trans hx104_0; replace hx104_1 := (HB.out.cell (World.block_lt_of_cell? w _ hx104_1)).trans hx104_1; replace p104 := eq_true p104; replace q104 := eq_true q104))
    go_ret2
    exact ⟨by first | rfl | (simp [errW_none, errW_some] <;> rfl) | (simp only [← hji5]; first | rfl | (simp [errW_none, errW_some] <;> rfl)) | (simp [*, errW_none, errW_some] <;> rfl), by repeat (first | (with_reducible first | exact HB.out | apply below_alloc | apply pw_below_drewN | apply below_drew1 | refine below_set ?_ GE103.out) | exact HB.out)⟩
   ·rw [if_neg c7] at H
    exact absurd H (by simp)
  ·rw [if_neg c6] at H
   exact absurd H (by simp)

-- NOT PRINTED: function 48 (ranges_edge_48)

-- NOT PRINTED: function 58 (ranges_edge_58)

-- NOT PRINTED: function 49 (ranges_edge_49)

-- NOT PRINTED: function 56 (bits_Len32)

/-! ### bits_Len64: function 57 -/
def bits_Len64.f (a0 : Int) : Option (Int) := if 0 ≤ a0 then (if a0 ≤ 18446744073709551615 then some (Lib.bitLen a0.toNat : Int) else none) else none
theorem bits_Len64.calls (a0 : Int) (r : Int) (w : World) (h : bits_Len64.f a0 = some r) :
  Calls Try.prog 57 #[.int .u64 a0] w fun e w' => e = .returned (.int .i64 r) ∧ Drawn0 w w' := by
 unfold bits_Len64.f at h
 by_cases h0 : 0 ≤ a0
 ·by_cases h1 : a0 ≤ 18446744073709551615
  ·rw [if_pos h0, if_pos h1] at h
   refine (Go.Proofs.YtlcfjimgnfcdkaaLen64.bits_Len64_core a0 w h0 h1).mono ?_
   rintro e w' ⟨rfl, rfl⟩
   exact ⟨by rw [Option.some.inj h], Drawn0.refl _⟩
  ·rw [if_pos h0, if_neg h1] at h
   exact absurd h (by simp)
 ·rw [if_neg h0] at h
  exact absurd h (by simp)

-- NOT PRINTED: function 47 (bits_Len)

-- NOT PRINTED: function 59 (slices_nextPowerOfTwo)

-- NOT PRINTED: function 60 (slices_xorshift_Next)

-- NOT PRINTED: function 50 (ranges_edge_50)

-- NOT PRINTED: function 63 (ranges_edge_63)

-- NOT PRINTED: function 62 (ranges_edge_62)

-- NOT PRINTED: function 61 (ranges_edge_61)

-- NOT PRINTED: function 51 (ranges_edge_51)

-- NOT PRINTED: function 52 (ranges_edge_52)

-- NOT PRINTED: function 53 (ranges_edge_53)

-- NOT PRINTED: function 54 (ranges_edge_54)

-- NOT PRINTED: function 55 (ranges_edge_55)

-- NOT PRINTED: function 46 (ranges_edge_46)

-- NOT PRINTED: function 42 (ranges_edge_42)

-- NOT PRINTED: function 37 (ranges_runs)

-- NOT PRINTED: function 45 (ranges_edge_45)

-- NOT PRINTED: function 38 (ranges_edge_38)

-- NOT PRINTED: function 28 (ranges_swept)

/-! ### ranges_Range_empty: function 26 -/
def ranges_Range_empty.f (a0_0 : Int) (a0_1 : Int) : Option (Bool) := some (decide (a0_1 < a0_0))
set_option maxHeartbeats 8000000 in
set_option maxRecDepth 100000 in
theorem ranges_Range_empty.calls (a0_0 : Int) (a0_1 : Int) (r : Bool) (w : World) (h : ranges_Range_empty.f a0_0 a0_1 = some r) :
  Calls Try.prog 26 #[.agg #[.int .u64 a0_0, .int .u64 a0_1]] w fun e w' => e = .returned (.bool r) ∧ Below w.heap.size w w' := by
 have hu44 := Try.underlying44
 have HB := Aside0.mk (Below.refl w.heap.size w)
 have H : (some (decide (a0_1 < a0_0))) = some r := h
 clear h
 obtain rfl := Option.some.inj H
 go_enter Try.func26, Try.ntmps26
 go_wp2_with (first | ((with_reducible refine gate_dst (N := 1) rfl ?_); refine box_event ?hg (N := 1) ?hd (cs := #[.int .u64 a0_0, .int .u64 a0_1]) (t := 44) ?hr ?_; (case hd => rfl); (case hg => rfl); (case hr => first | (go_simp; done) | (go_simp; rfl)); intro gb106 hg w2 hbox hb; have n0_ := Aside0.mk (below_step (by repeat (first | (with_reducible first | exact HB.out | apply below_alloc | apply pw_below_drewN | apply below_drew1) | exact HB.out)) hb); have n1_ := Aside0.mk (hbox); have n2_ := Aside0.mk ((by rw [hg]; exact (below_size (by repeat (first | (with_reducible first | exact HB.out | apply below_alloc | apply pw_below_drewN | apply below_drew1) | exact HB.out))) : w.heap.size ≤ gb106)); have n3_ := Aside0.mk ((by rw [hg]; exact (below_size (by repeat (first | (with_reducible first | exact HB.out | apply below_alloc | apply pw_below_drewN | apply below_drew1) | exact HB.out))) : w.heap.size ≤ gb106)); clear HB; have HB := n0_; have BK106 := n1_; have GW106 := n2_; have GE106 := n3_; clear n0_ n1_ n2_ n3_; clear hb hbox hg; have hcz3_0 : w2.cell? ⟨gb106, 0, none⟩ = some (.int .u64 a0_0) := (blk_cell BK106.out 0).trans rfl; have hcz3_1 : w2.cell? ⟨gb106, 1, none⟩ = some (.int .u64 a0_1) := (blk_cell BK106.out 1).trans rfl; have hfz3_0 := blk_frozen BK106.out 0; have hfz3_1 := blk_frozen BK106.out 1))
 go_ret
 exact ⟨by first | rfl | (simp [errW_none, errW_some] <;> rfl) | (simp [*, errW_none, errW_some] <;> rfl), by repeat (first | (with_reducible first | exact HB.out | apply below_alloc | apply pw_below_drewN | apply below_drew1 | refine below_set ?_ GE106.out) | exact HB.out)⟩

/-! ### ranges_edges: function 30 -/
def ranges_edges.l0 : Nat → Int → List (S87) → List (S44) → Int → Int → Option ((List (S87)))
 | 0, _, _, _, _, _ => none
 | k + 1, x1, x4, x7, x8, x9 => if x9 < x8 then (if 0 ≤ x9 then (if x9 < (x7.length : Int) then ((ranges_Range_empty.f ((rd_T44 x7 x9).f0) ((rd_T44 x7 x9).f1)).bind fun t109 => (if t109 = true then (ranges_edges.l0 k x1 x4 x7 x8 (wrap64 (x9 + 1))) else ((some (([(⟨(rd_T44 x7 x9).f0, x1⟩ : S87), (⟨IntKind.u64.wrap (((rd_T44 x7 x9).f1) + 1), wrap64 (-x1)⟩ : S87)] : List (S87)) : List (S87))).bind fun y110 => (if x4.length + y110.length < 8796093022208 then (ranges_edges.l0 k x1 (x4 ++ y110) x7 x8 (wrap64 (x9 + 1))) else (none))))) else (none)) else (none)) else (some x4)
def ranges_edges.f (k : Nat) (l0 : List (S44)) (a1 : Int) : Option ((List (S87))) := ranges_edges.l0 k a1 ([] : List (S87)) l0 (l0.length : Int) 0
theorem ranges_edges.mono_l : ∀ k, (∀ y0 y1 y2 y3 y4, LeO (ranges_edges.l0 k y0 y1 y2 y3 y4) (ranges_edges.l0 (k + 1) y0 y1 y2 y3 y4))
 | 0 => fun _ _ _ _ _ r h => by simp [ranges_edges.l0] at h
 | k + 1 => by
  have ih0 := ranges_edges.mono_l k
  ·intro y0 y1 y2 y3 y4
   unfold ranges_edges.l0
   repeat' first
   | (with_reducible exact ih0 _ _ _ _ _)
   | (with_reducible exact LeO.refl _)
   | (with_reducible exact LeO.none _)
   | (with_reducible refine LeO.ite ?_ ?_)
   | (with_reducible refine LeO.bind ?_ (fun _ => ?_))
   | exact ih0 _ _ _ _ _
   | exact LeO.none _
   | refine LeO.ite ?_ ?_
   | refine LeO.bind ?_ (fun _ => ?_)
theorem ranges_edges.mono : ∀ a0 a1 k, LeO (ranges_edges.f k a0 a1) (ranges_edges.f (k + 1) a0 a1) := by
 intro a0 a1 k
 have ih0 := ranges_edges.mono_l k
 unfold ranges_edges.f
 repeat' first
   | (with_reducible exact ih0 _ _ _ _ _)
   | (with_reducible exact LeO.refl _)
   | (with_reducible exact LeO.none _)
   | (with_reducible refine LeO.ite ?_ ?_)
   | (with_reducible refine LeO.bind ?_ (fun _ => ?_))
   | exact ih0 _ _ _ _ _
   | exact LeO.none _
   | refine LeO.ite ?_ ?_
   | refine LeO.bind ?_ (fun _ => ?_)
set_option maxHeartbeats 8000000 in
set_option maxRecDepth 100000 in
theorem ranges_edges.calls (k : Nat) (A0 : Option Addr) (c0 : Nat) (l0 : List (S44)) (a1 : Int) (r : List (S87)) (w : World) (hr0 : Kd.C k44 w A0 l0.length l0) (hc0 : l0.length ≤ c0) (h : ranges_edges.f k l0 a1 = some r) :
  Calls Try.prog 30 #[.slice A0 l0.length c0, .int .i64 a1] w fun e w' => ∃ v0_ : Value, e = .returned (v0_) ∧ Kd.R k87 87 w' w.heap.size (fun _ => True) v0_ r ∧ Below w.heap.size w w' := by
 have hu44 := Try.underlying44
 have hu87 := Try.underlying87
 have HR0 := Aside0.mk hr0
 have HC0 := Aside0.mk hc0
 clear hr0 hc0
 have HB := Aside0.mk (Below.refl w.heap.size w)
 have H : (ranges_edges.l0 k a1 ([] : List (S87)) l0 (l0.length : Int) 0) = some r := h
 clear h
 have H' := Aside0.mk H
 clear H
 go_enter Try.func30, Try.ntmps30
 go_wp2
 go_loopg [4, 9] k (fun kq v4 v9 w' => ∃ (x4_1 : List (S87)) (x9_1 : Int), v9 = .int .i64 x9_1 ∧ Aside0 (ranges_edges.l0 kq a1 x4_1 l0 (l0.length : Int) x9_1 = some r) ∧ Aside0 (kq ≤ k) ∧ Aside0 (Kd.R k87 87 w' w.heap.size (fun _ => True) v4 x4_1) ∧ Aside0 (Below w.heap.size w w'))
 case atStart => exact ⟨(([] : List (S87))), (0), (by first | rfl | (simp; done) | (simp [*]; done)), H', ⟨Nat.le_refl _⟩, ⟨by first | exact Kd.R_nil _ _ _ _ _ | exact Kd.N_nil _ _ _ _ _ | exact Kd.V_nil _ _ _ _ _ | exact Kd.Q_nil _ _ _ _ _ | exact Kd.S_nil _ _ _ _ _⟩, ⟨by repeat (first | (with_reducible first | exact HB.out | apply below_alloc | apply pw_below_drewN | apply below_drew1) | exact HB.out)⟩⟩
 case round =>
  clear H'
  try clear p2
  obtain ⟨x4_1, x9_1, rfl, HA, HK1, HO_4, HB⟩ := hrel
  cases gk with
  | zero => exact absurd HA.out (by simp [ranges_edges.l0])
  | succ k1 =>
   have H := HA.out
   clear HA
   simp only [ranges_edges.l0] at H
   by_cases c3 : x9_1 < (l0.length : Int)
   ·rw [if_pos c3] at H
    have c3b0 : decide (x9_1 < (l0.length : Int)) = true := decide_eq_true c3
    clear c3
    by_cases c4 : 0 ≤ x9_1
    ·rw [if_pos c4] at H
     have c4b0 : decide (0 ≤ x9_1) = true := decide_eq_true c4
     clear c4
     by_cases c5 : x9_1 < (l0.length : Int)
     ·rw [if_pos c5] at H
      have c5b0 : decide (x9_1 < (l0.length : Int)) = true := decide_eq_true c5
      clear c5
      replace H := Option.bind_eq_some_iff.mp H
      obtain ⟨t109, A60, H⟩ := H
      replace H : (if t109 = true then (ranges_edges.l0 k1 a1 x4_1 l0 (l0.length : Int) (wrap64 (x9_1 + 1))) else ((some (([(⟨(rd_T44 l0 x9_1).f0, a1⟩ : S87), (⟨IntKind.u64.wrap (((rd_T44 l0 x9_1).f1) + 1), wrap64 (-a1)⟩ : S87)] : List (S87)) : List (S87))).bind fun y110 => (if x4_1.length + y110.length < 8796093022208 then (ranges_edges.l0 k1 a1 (x4_1 ++ y110) l0 (l0.length : Int) (wrap64 (x9_1 + 1))) else (none)))) = some r := H
      have A6 := Aside0.mk A60
      clear A60
      by_cases c7 : t109 = true
      ·subst c7
       have H1 : (ranges_edges.l0 k1 a1 x4_1 l0 (l0.length : Int) (wrap64 (x9_1 + 1))) = some r := by rw [if_pos rfl] at H; exact H
       clear H
       have H := H1
       clear H1
       have H' := Aside0.mk H
       clear H
       have p107 : 0 ≤ (x9_1 : Int) := of_decide_eq_true (by first | (with_reducible assumption) | assumption)
       have q107 : x9_1 < (l0.length : Int) := of_decide_eq_true (by first | (with_reducible assumption) | assumption)
       obtain ⟨ad107, e107, hx107_0, hx107_1⟩ := at_T44 HR0.out x9_1 p107 q107
       cases e107
       replace hx107_0 := (HB.out.cell (World.block_lt_of_cell? w _ hx107_0)).trans hx107_0
       replace hx107_1 := (HB.out.cell (World.block_lt_of_cell? w _ hx107_1)).trans hx107_1
       replace p107 := eq_true p107
       replace q107 := eq_true q107
       go_wp2_with (first | ((with_reducible refine gate_dst (N := 6) rfl ?_); refine box_event ?hg (N := 6) ?hd (cs := #[.int .u64 0, .int .u64 0]) (t := 44) ?hr ?_; (case hd => rfl); (case hg => rfl); (case hr => first | (go_simp; done) | (go_simp; rfl)); intro gb108 hg w8 hbox hb; have n0_ := Aside0.mk (Kd.R_below (by (with_reducible repeat (first | apply Kd.R_alloc | apply Kd.R_drewN | apply Kd.R_drew)); exact HO_4.out) hb); have n1_ := Aside0.mk (below_step (by repeat (first | (with_reducible first | exact HB.out | apply below_alloc | apply pw_below_drewN | apply below_drew1) | exact HB.out)) hb); have n2_ := Aside0.mk (hbox); have n3_ := Aside0.mk ((by rw [hg]; exact (below_size (by repeat (first | (with_reducible first | exact HB.out | apply below_alloc | apply pw_below_drewN | apply below_drew1) | exact HB.out))) : w.heap.size ≤ gb108)); have n4_ := Aside0.mk ((by rw [hg]; exact (below_size (by repeat (first | (with_reducible first | exact HB.out | apply below_alloc | apply pw_below_drewN | apply below_drew1) | exact HB.out))) : w.heap.size ≤ gb108)); clear HO_4; clear HB; have HO_4 := n0_; have HB := n1_; have BK108 := n2_; have GW108 := n3_; have GE108 := n4_; clear n0_ n1_ n2_ n3_ n4_; clear hb hbox hg; have hcz9_0 : w8.cell? ⟨gb108, 0, none⟩ = some (.int .u64 0) := (blk_cell BK108.out 0).trans rfl; have hcz9_1 : w8.cell? ⟨gb108, 1, none⟩ = some (.int .u64 0) := (blk_cell BK108.out 1).trans rfl; have hfz9_0 := blk_frozen BK108.out 0; have hfz9_1 := blk_frozen BK108.out 1) | ((with_reducible refine gate_callee (f := 26) rfl ?_); refine goesL_ (some 14) rfl rfl Try.func26 (by kernel_rfl) rfl #[.agg #[.int .u64 ((rd_T44 l0 x9_1).f0), .int .u64 ((rd_T44 l0 x9_1).f1)]] rfl (by (try simp only [List.map_toArray, List.map_cons, List.map_nil]); first | done | rfl | (simp only [List.length_drop, List.length_take]; rfl)) ?_; (with_reducible refine (ranges_Range_empty.calls ((rd_T44 l0 x9_1).f0) ((rd_T44 l0 x9_1).f1) true _ A6.out).mono ?_); rintro e w10 ⟨rfl, hb⟩; refine ⟨_, rfl, ?_⟩; have n0_ := Aside0.mk (Kd.R_below (by (with_reducible repeat (first | apply Kd.R_alloc | apply Kd.R_drewN | apply Kd.R_drew)); exact (Kd.R_mono (Kd.R_far (p := ⟨gb108, 1, none⟩) (Kd.R_far (p := ⟨gb108, 0, none⟩) (Kd.R_types HO_4.out BK108.out (by decide)) (fun _ hk => hk.2) (.int .u64 ((rd_T44 l0 x9_1).f0))) (fun _ hk => hk.2) (.int .u64 ((rd_T44 l0 x9_1).f1))) (fun _ h_ => h_.1))) hb); have n1_ := Aside0.mk (blk_below (g := gb108) (o := .cells #[.int .u64 ((rd_T44 l0 x9_1).f0), .int .u64 ((rd_T44 l0 x9_1).f1)] 44 (0, 0)) (by (with_reducible repeat (first | refine blk_drewN ?_ _ | refine blk_drew ?_ | refine blk_alloc ?_ _)); refine blk_put (cs := #[.int .u64 ((rd_T44 l0 x9_1).f0), .int .u64 0]) ?_ 1 _ rfl; (with_reducible repeat (first | refine blk_drewN ?_ _ | refine blk_drew ?_ | refine blk_alloc ?_ _)); refine blk_put (cs := #[.int .u64 0, .int .u64 0]) ?_ 0 _ rfl; (with_reducible repeat (first | refine blk_drewN ?_ _ | refine blk_drew ?_ | refine blk_alloc ?_ _)); exact BK108.out) hb); have n2_ := Aside0.mk (below_step (by repeat (first | (with_reducible first | exact HB.out | apply below_alloc | apply pw_below_drewN | apply below_drew1 | refine below_set ?_ GE108.out) | exact HB.out)) hb); clear HO_4; clear BK108; clear HB; have HO_4 := n0_; have BK108 := n1_; have HB := n2_; clear n0_ n1_ n2_; (try clear hb); (try clear hb2); (try clear hk); (try clear hi)))
       go_roundg k1
       case measure => have := HK1.out; omega
       case rel => exact ⟨(x4_1), (wrap64 (x9_1 + 1)), (by first | rfl | (simp; done) | (simp [*]; done)), H', ⟨by have := HK1.out; omega⟩, ⟨by (with_reducible repeat (first | apply Kd.R_alloc | apply Kd.R_drewN | apply Kd.R_drew)); exact HO_4.out⟩, ⟨by repeat (first | (with_reducible first | exact HB.out | apply below_alloc | apply pw_below_drewN | apply below_drew1 | refine below_set ?_ GE108.out) | exact HB.out)⟩⟩
      ·replace c7 := Bool.eq_false_iff.mpr c7
       subst c7
       have H1 : ((some (([(⟨(rd_T44 l0 x9_1).f0, a1⟩ : S87), (⟨IntKind.u64.wrap (((rd_T44 l0 x9_1).f1) + 1), wrap64 (-a1)⟩ : S87)] : List (S87)) : List (S87))).bind fun y110 => (if x4_1.length + y110.length < 8796093022208 then (ranges_edges.l0 k1 a1 (x4_1 ++ y110) l0 (l0.length : Int) (wrap64 (x9_1 + 1))) else (none))) = some r := by rw [if_neg (show ¬ (false = true) by decide)] at H; exact H
       clear H
       have H := H1
       clear H1
       obtain ⟨y110, hy110⟩ : ∃ y_ : List (S87), y_ = (([(⟨(rd_T44 l0 x9_1).f0, a1⟩ : S87), (⟨IntKind.u64.wrap (((rd_T44 l0 x9_1).f1) + 1), wrap64 (-a1)⟩ : S87)] : List (S87))) := ⟨_, rfl⟩
       replace H : (if x4_1.length + y110.length < 8796093022208 then (ranges_edges.l0 k1 a1 (x4_1 ++ y110) l0 (l0.length : Int) (wrap64 (x9_1 + 1))) else (none)) = some r := by first | (rw [hy110]; with_reducible exact H) | (have H2_ := (Option.bind_some _ _).symm.trans H; rw [hy110]; with_reducible exact H2_) | (have H2_ := (Option.bind_some _ _).symm.trans H; with_reducible exact H2_) | with_reducible exact H | (rw [hy110]; exact H) | exact H
       have Ny110 := Aside0.mk hy110
       clear hy110
       by_cases c11 : x4_1.length + y110.length < 8796093022208
       ·rw [if_pos c11] at H
        have LMc11 := Aside0.mk c11
        clear c11
        obtain ⟨y113, hy113⟩ : ∃ y_ : List (S87), y_ = (x4_1 ++ y110) := ⟨_, rfl⟩
        replace H : (ranges_edges.l0 k1 a1 y113 l0 (l0.length : Int) (wrap64 (x9_1 + 1))) = some r := by first | (rw [hy113]; with_reducible exact H) | (have H2_ := (Option.bind_some _ _).symm.trans H; rw [hy113]; with_reducible exact H2_) | (have H2_ := (Option.bind_some _ _).symm.trans H; with_reducible exact H2_) | with_reducible exact H | (rw [hy113]; exact H) | exact H
        have Ny113 := Aside0.mk hy113
        clear hy113
        have H' := Aside0.mk H
        clear H
        have p107 : 0 ≤ (x9_1 : Int) := of_decide_eq_true (by first | (with_reducible assumption) | assumption)
        have q107 : x9_1 < (l0.length : Int) := of_decide_eq_true (by first | (with_reducible assumption) | assumption)
        obtain ⟨ad107, e107, hx107_0, hx107_1⟩ := at_T44 HR0.out x9_1 p107 q107
        cases e107
        replace hx107_0 := (HB.out.cell (World.block_lt_of_cell? w _ hx107_0)).trans hx107_0
        replace hx107_1 := (HB.out.cell (World.block_lt_of_cell? w _ hx107_1)).trans hx107_1
        replace p107 := eq_true p107
        replace q107 := eq_true q107
        go_wp2_with (first | ((with_reducible refine gate_dst (N := 6) rfl ?_); refine box_event ?hg (N := 6) ?hd (cs := #[.int .u64 0, .int .u64 0]) (t := 44) ?hr ?_; (case hd => rfl); (case hg => rfl); (case hr => first | (go_simp; done) | (go_simp; rfl)); intro gb108 hg w12 hbox hb; have n0_ := Aside0.mk (Kd.R_below (by (with_reducible repeat (first | apply Kd.R_alloc | apply Kd.R_drewN | apply Kd.R_drew)); exact HO_4.out) hb); have n1_ := Aside0.mk (below_step (by repeat (first | (with_reducible first | exact HB.out | apply below_alloc | apply pw_below_drewN | apply below_drew1) | exact HB.out)) hb); have n2_ := Aside0.mk (hbox); have n3_ := Aside0.mk ((by rw [hg]; exact (below_size (by repeat (first | (with_reducible first | exact HB.out | apply below_alloc | apply pw_below_drewN | apply below_drew1) | exact HB.out))) : w.heap.size ≤ gb108)); have n4_ := Aside0.mk ((by rw [hg]; exact (below_size (by repeat (first | (with_reducible first | exact HB.out | apply below_alloc | apply pw_below_drewN | apply below_drew1) | exact HB.out))) : w.heap.size ≤ gb108)); clear HO_4; clear HB; have HO_4 := n0_; have HB := n1_; have BK108 := n2_; have GW108 := n3_; have GE108 := n4_; clear n0_ n1_ n2_ n3_ n4_; clear hb hbox hg; have hcz13_0 : w12.cell? ⟨gb108, 0, none⟩ = some (.int .u64 0) := (blk_cell BK108.out 0).trans rfl; have hcz13_1 : w12.cell? ⟨gb108, 1, none⟩ = some (.int .u64 0) := (blk_cell BK108.out 1).trans rfl; have hfz13_0 := blk_frozen BK108.out 0; have hfz13_1 := blk_frozen BK108.out 1) | ((with_reducible refine gate_callee (f := 26) rfl ?_); refine goesL_ (some 14) rfl rfl Try.func26 (by kernel_rfl) rfl #[.agg #[.int .u64 ((rd_T44 l0 x9_1).f0), .int .u64 ((rd_T44 l0 x9_1).f1)]] rfl (by (try simp only [List.map_toArray, List.map_cons, List.map_nil]); first | done | rfl | (simp only [List.length_drop, List.length_take]; rfl)) ?_; (with_reducible refine (ranges_Range_empty.calls ((rd_T44 l0 x9_1).f0) ((rd_T44 l0 x9_1).f1) false _ A6.out).mono ?_); rintro e w14 ⟨rfl, hb⟩; refine ⟨_, rfl, ?_⟩; have n0_ := Aside0.mk (Kd.R_below (by (with_reducible repeat (first | apply Kd.R_alloc | apply Kd.R_drewN | apply Kd.R_drew)); exact (Kd.R_mono (Kd.R_far (p := ⟨gb108, 1, none⟩) (Kd.R_far (p := ⟨gb108, 0, none⟩) (Kd.R_types HO_4.out BK108.out (by decide)) (fun _ hk => hk.2) (.int .u64 ((rd_T44 l0 x9_1).f0))) (fun _ hk => hk.2) (.int .u64 ((rd_T44 l0 x9_1).f1))) (fun _ h_ => h_.1))) hb); have n1_ := Aside0.mk (blk_below (g := gb108) (o := .cells #[.int .u64 ((rd_T44 l0 x9_1).f0), .int .u64 ((rd_T44 l0 x9_1).f1)] 44 (0, 0)) (by (with_reducible repeat (first | refine blk_drewN ?_ _ | refine blk_drew ?_ | refine blk_alloc ?_ _)); refine blk_put (cs := #[.int .u64 ((rd_T44 l0 x9_1).f0), .int .u64 0]) ?_ 1 _ rfl; (with_reducible repeat (first | refine blk_drewN ?_ _ | refine blk_drew ?_ | refine blk_alloc ?_ _)); refine blk_put (cs := #[.int .u64 0, .int .u64 0]) ?_ 0 _ rfl; (with_reducible repeat (first | refine blk_drewN ?_ _ | refine blk_drew ?_ | refine blk_alloc ?_ _)); exact BK108.out) hb); have n2_ := Aside0.mk (below_step (by repeat (first | (with_reducible first | exact HB.out | apply below_alloc | apply pw_below_drewN | apply below_drew1 | refine below_set ?_ GE108.out) | exact HB.out)) hb); clear HO_4; clear BK108; clear HB; have HO_4 := n0_; have BK108 := n1_; have HB := n2_; clear n0_ n1_ n2_; (try clear hb); (try clear hb2); (try clear hk); (try clear hi); have hcz15_0 : w14.cell? ⟨gb108, 0, none⟩ = some (.int .u64 ((rd_T44 l0 x9_1).f0)) := (blk_cell BK108.out 0).trans rfl; have hcz15_1 : w14.cell? ⟨gb108, 1, none⟩ = some (.int .u64 ((rd_T44 l0 x9_1).f1)) := (blk_cell BK108.out 1).trans rfl; have hfz15_0 := blk_frozen BK108.out 0; have hfz15_1 := blk_frozen BK108.out 1) | ((with_reducible refine gate_dst (N := 27) rfl ?_); refine Kd.R_lit k87 _ 87 ?hg (N := 27) ?hd (xs := ([(⟨(rd_T44 l0 x9_1).f0, a1⟩ : S87), (⟨IntKind.u64.wrap (((rd_T44 l0 x9_1).f1) + 1), wrap64 (-a1)⟩ : S87)] : List (S87))) (inner := [.int .u64 ((rd_T44 l0 x9_1).f0), .int .i64 a1, .int .u64 (IntKind.u64.wrap (((rd_T44 l0 x9_1).f1) + 1)), .int .i64 (wrap64 (-a1))]) (ok := fun _ => True) (okp := fun _ => True) ?hr ?hp (fun _ hk => hk) trivial (Below.refl _ _) (Nat.le_refl _) (by simp) ?_; (case hd => rfl); (case hg => rfl); (case hr => first | (go_simp; done) | (go_simp; rfl)); (case hp => exact (Reps.c2 (show Kd.M k87 _ _ _ (⟨(rd_T44 l0 x9_1).f0, a1⟩ : S87) [.int .u64 ((rd_T44 l0 x9_1).f0), .int .i64 a1] from (k87_mkM _ _ _ (⟨(rd_T44 l0 x9_1).f0, a1⟩ : S87) )) (Reps.c2 (show Kd.M k87 _ _ _ (⟨IntKind.u64.wrap (((rd_T44 l0 x9_1).f1) + 1), wrap64 (-a1)⟩ : S87) [.int .u64 (IntKind.u64.wrap (((rd_T44 l0 x9_1).f1) + 1)), .int .i64 (wrap64 (-a1))] from (k87_mkM _ _ _ (⟨IntKind.u64.wrap (((rd_T44 l0 x9_1).f1) + 1), wrap64 (-a1)⟩ : S87) )) (Reps.none _ _)))); intro v111 w16 ho17 hb hg_ hnew_; clear hg_ hnew_; (first | rw [← Ny110.out] at ho17 | (simp only [Int.reduceToNat] at ho17; rw [← Ny110.out] at ho17)); have n0_ := Aside0.mk (Kd.R_elder' (by (with_reducible repeat (first | apply Kd.R_alloc | apply Kd.R_drewN | apply Kd.R_drew)); exact HO_4.out) (Kd.R_base ho17) hb); have n1_ := Aside0.mk (Kd.R_lower (Kd.R_new' ho17 (Kd.R_lt (by (with_reducible repeat (first | apply Kd.R_alloc | apply Kd.R_drewN | apply Kd.R_drew)); exact HO_4.out))) (below_size (by repeat (first | (with_reducible first | exact HB.out | apply below_alloc | apply pw_below_drewN | apply below_drew1 | refine below_set ?_ GE108.out) | exact HB.out)))); have n2_ := Aside0.mk (blk_below (g := gb108) (o := .cells #[.int .u64 ((rd_T44 l0 x9_1).f0), .int .u64 ((rd_T44 l0 x9_1).f1)] 44 (0, 0)) (by (with_reducible repeat (first | refine blk_drewN ?_ _ | refine blk_drew ?_ | refine blk_alloc ?_ _)); exact BK108.out) hb); have n3_ := Aside0.mk (below_step (by repeat (first | (with_reducible first | exact HB.out | apply below_alloc | apply pw_below_drewN | apply below_drew1 | refine below_set ?_ GE108.out) | exact HB.out)) hb); clear HO_4; clear BK108; clear HB; have HO_4 := n0_; have HO112 := n1_; have BK108 := n2_; have HB := n3_; clear n0_ n1_ n2_ n3_; clear hb ho17; obtain ⟨Ao19, co19, eo19⟩ := Kd.R_slice HO112.out; subst eo19) | ((with_reducible refine gate_builtin (b := .append) (xs := #[.tmp 16, .tmp 27]) rfl ?_); at_builtin; refine Kd.R_append_rows k87 (w0 := w) w.heap.size rfl (.tmp 16) (.tmp 27) 73 87 (.agg #[(.int .u64 0), (.int .i64 0)]) 16 rfl Try.underlying73 info87 rfl (by decide) (by omega) u4 x4_1 y110 _ _ _ (fun k_ => some k_ ≠ (.slice Ao19 y110.length co19 : Value).ownBlock) (fun _ => False) rfl rfl ?aO ?aR (fun _ _ h => h) (fun _ h => h.elim) ?aF ?aB ?aS ?aL ?_; (case aR => repeat (first | exact (Kd.R_reads' HO112.out).2.2 | (with_reducible refine Kd.C_alloc ?_ _) | (with_reducible refine Kd.C_drewN ?_ _) | (with_reducible refine Kd.C_drew ?_))); (case aB => exact (by repeat (first | (with_reducible first | exact HB.out | apply below_alloc | apply pw_below_drewN | apply below_drew1 | refine below_set ?_ GE108.out) | exact HB.out))); (case aF => exact (fun k_ hk => Kd.fresh' (Kd.R_lt (by (with_reducible repeat (first | apply Kd.R_alloc | apply Kd.R_drewN | apply Kd.R_drew)); exact HO112.out)) k_ hk)); (case aO => exact (by (with_reducible repeat (first | apply Kd.R_alloc | apply Kd.R_drewN | apply Kd.R_drew)); exact Kd.R_mono HO_4.out (fun _ hk => hk.2))); (case aS => exact (below_size (by repeat (first | (with_reducible first | exact HB.out | apply below_alloc | apply pw_below_drewN | apply below_drew1 | refine below_set ?_ GE108.out) | exact HB.out)))); (case aL => have := LMc11.out; omega); intro v114 w18 ho hb hg hat; rw [← Ny113.out] at ho; have n0_ := Aside0.mk (blk_grown (g := gb108) (o := .cells #[.int .u64 ((rd_T44 l0 x9_1).f0), .int .u64 ((rd_T44 l0 x9_1).f1)] 44 (0, 0)) (by (with_reducible repeat (first | refine blk_drewN ?_ _ | refine blk_drew ?_ | refine blk_alloc ?_ _)); exact BK108.out) hg (Kd.R_ne HO_4.out BK108.out (by decide))); have n1_ := Aside0.mk (Kd.R_after (ok := (fun _ => True)) (by (with_reducible repeat (first | apply Kd.R_alloc | apply Kd.R_drewN | apply Kd.R_drew)); exact HO112.out) hg hat); have n2_ := Aside0.mk (hb); have n3_ := Aside0.mk (ho); clear BK108; clear HO112; clear HB; clear HO_4; have BK108 := n0_; have HO112 := n1_; have HB := n2_; have HO115 := n3_; clear n0_ n1_ n2_ n3_; clear ho hb hg hat))
        go_roundg k1
        case measure => have := HK1.out; omega
        case rel => exact ⟨(y113), (wrap64 (x9_1 + 1)), (by first | rfl | (simp; done) | (simp [*]; done)), H', ⟨by have := HK1.out; omega⟩, ⟨by (with_reducible repeat (first | apply Kd.R_alloc | apply Kd.R_drewN | apply Kd.R_drew)); exact Kd.R_mono HO115.out (fun _ hk => trivial)⟩, ⟨by repeat (first | (with_reducible first | exact HB.out | apply below_alloc | apply pw_below_drewN | apply below_drew1 | refine below_set ?_ GE108.out) | exact HB.out)⟩⟩
       ·rw [if_neg c11] at H
        exact absurd H (by simp)
     ·rw [if_neg c5] at H
      exact absurd H (by simp)
    ·rw [if_neg c4] at H
     exact absurd H (by simp)
   ·rw [if_neg c3] at H
    have c3b0 : decide (x9_1 < (l0.length : Int)) = false := decide_eq_false c3
    clear c3
    obtain rfl := Option.some.inj H
    go_wp2
    go_ret
    exact ⟨_, by first | rfl | (simp [errW_none, errW_some] <;> rfl) | (simp [*, errW_none, errW_some] <;> rfl), by (with_reducible repeat (first | apply Kd.R_alloc | apply Kd.R_drewN | apply Kd.R_drew)); exact HO_4.out, by repeat (first | (with_reducible first | exact HB.out | apply below_alloc | apply pw_below_drewN | apply below_drew1) | exact HB.out)⟩

end Go.Proofs.Ytlcfjimgnfcdkaa.PAko
