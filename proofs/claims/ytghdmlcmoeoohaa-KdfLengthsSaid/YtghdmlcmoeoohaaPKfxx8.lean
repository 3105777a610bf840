-- printed for this claim by a program of the claim (wip/tools/pp.py over the kit's print)
import Derived.Test.YtghdmlcmoeoohaaPKfxx0
import Derived.Test.YtghdmlcmoeoohaaPKfxx3
import Derived.Test.YtghdmlcmoeoohaaPKfxx4
import Derived.Test.YtghdmlcmoeoohaaPKfxx7
namespace Go.Proofs.Ytghdmlcmoeoohaa.PKfx
open Go.RowKit Go.Proofs.YtghdmlcmoeoohaaW.PrintWords Go.Proofs.YtghdmlcmoeoohaaW.PrintLast Go.Proofs.YtghdmlcmoeoohaaW.PrintMore
attribute [local go_sem] max2_int min2_int max_two min_two max_three min_three max_four min_four   -- for this text's walks alone
set_option linter.unusedVariables false
set_option linter.unusedSimpArgs false

attribute [local go_sem] isSome_setCell_
/-! ### the document's sum: constants, one block -/
def refK : List Int := [1116352408, 1899447441, 3049323471, 3921009573, 961987163, 1508970993, 2453635748, 2870763221, 3624381080, 310598401, 607225278, 1426881987, 1925078388, 2162078206, 2614888103, 3248222580, 3835390401, 4022224774, 264347078, 604807628, 770255983, 1249150122, 1555081692, 1996064986, 2554220882, 2821834349, 2952996808, 3210313671, 3336571891, 3584528711, 113926993, 338241895, 666307205, 773529912, 1294757372, 1396182291, 1695183700, 1986661051, 2177026350, 2456956037, 2730485921, 2820302411, 3259730800, 3345764771, 3516065817, 3600352804, 4094571909, 275423344, 430227734, 506948616, 659060556, 883997877, 958139571, 1322822218, 1537002063, 1747873779, 1955562222, 2024104815, 2227730452, 2361852424, 2428436474, 2756734187, 3204031479, 3329325298]
theorem refK_one : (nums .u64 refK).toArray.all (·.oneCell') = true := by
 rw [Array.all_eq_true_iff_forall_mem]
 intro x hx
 simp only [nums, List.mem_toArray, List.mem_map] at hx
 obtain ⟨j, _, rfl⟩ := hx
 rfl
theorem refK_size : (nums .u64 refK).toArray.size = 64 := by rw [List.size_toArray]; rfl
theorem refK_info : (Try.prog.info? 95).map (·.size) = some (nums .u64 refK).toArray.size := by
 rw [refK_size]; kernel_rfl
set_option maxHeartbeats 2000000 in
set_option maxRecDepth 100000 in
theorem constants_calls (w : World) :
  Calls Try.prog 62 #[] w fun e w' => e = .returned (.agg (nums .u64 refK).toArray) ∧ Below w.heap.size w w' := by
 go_enter Try.func62, Try.ntmps62
 have HA : Aside0 (∀ z : Array Value, (w.alloc (.cells z 95)).heap[w.heap.size]? = some (.cells z 95 (0, 0))) := ⟨fun z => heap_alloc_new _ _⟩
 go_wp2_with ((with_reducible refine gate_store (t := 95) (p := 0) rfl ?_); refine wpList_store_row rfl 95 (.tmp 0) (.tmp 1) rfl w.heap.size (nums .u64 refK).toArray rfl rfl 95 _ (HA.out _) refK_info (by rw [refK_size]; rfl) refK_one ?_)
 refine bodyPost_ret (results_cell_row rfl _ _ w.heap.size 95 (nums .u64 refK).toArray (0, 0) _ rfl (setRow_heap _ _ _ _ _ _ (HA.out _)) Try.underlying95 rfl refK_info) rfl ?_
 exact ⟨rfl, below_setRow_ ((Below.refl _ _).alloc (Nat.le_refl _) _) (Nat.le_refl _) _⟩

def tn (x : Int) (m : Nat) : Int := IntKind.u64.wrap (IntKind.u64.wrap (Int.tdiv x (2 ^ m)) + IntKind.u64.wrap (Int.tmod x (2 ^ m) * 2 ^ (32 - m)))
theorem pow_some : ∀ m : Fin 33, dominoref07_power.f 40 (m.val : Int) = some (2 ^ m.val) := by decide +kernel
theorem tn_some (x : Int) (m : Nat) (h : m ≤ 32) : dominoref07_turn.f 40 x (m : Int) = some (tn x m) := by
 unfold dominoref07_turn.f
 rw [show (m : Int) = ((⟨m, by omega⟩ : Fin 33).val : Int) from rfl, pow_some, Option.bind_some]
 have e : wrap64 (32 - ((⟨m, by omega⟩ : Fin 33).val : Int)) = ((⟨32 - m, by omega⟩ : Fin 33).val : Int) := by
  show wrap64 (32 - (m : Int)) = ((32 - m : Nat) : Int)
  unfold wrap64
  omega
 have hp : (2 : Int) ^ m ≠ 0 := Int.ne_of_gt (Int.pow_pos (by decide))
 rw [if_neg hp, e, pow_some, Option.bind_some]
 rfl
theorem turn_c (x : Int) (m : Nat) (n : Int) (hn : n = (m : Int)) (h : m ≤ 32) (w : World) : Calls Try.prog 63 #[.int .u64 x, .int .i64 n] w fun e w' => e = .returned (.int .u64 (tn x m)) ∧ Drawn0 w w' := by
 subst hn
 exact dominoref07_turn.calls 40 x m _ w (tn_some x m h)
def rNext (l : List Int) (k : Nat) : Int :=
 Int.tmod (IntKind.u64.wrap (IntKind.u64.wrap (IntKind.u64.wrap (l.getD (k - 16) 0 + l.getD (k - 7) 0) + Go.bits .xor .u64 (Go.bits .xor .u64 (tn (l.getD (k - 15) 0) 7) (tn (l.getD (k - 15) 0) 18)) (IntKind.u64.wrap (Int.tdiv (l.getD (k - 15) 0) 8))) + Go.bits .xor .u64 (Go.bits .xor .u64 (tn (l.getD (k - 2) 0) 17) (tn (l.getD (k - 2) 0) 19)) (IntKind.u64.wrap (Int.tdiv (l.getD (k - 2) 0) 1024)))) 4294967296
theorem zeros_one : (nums .u64 (List.replicate 64 0)).toArray.all (·.oneCell') = true := by decide +kernel
theorem zeros_size : (nums .u64 (List.replicate 64 0)).toArray.size = 64 := rfl
theorem zeros_info : (Try.prog.info? 95).map (·.size) = some (nums .u64 (List.replicate 64 0)).toArray.size := by
 rw [zeros_size]; kernel_rfl
def rLoad (s : ByteArray) (k : Nat) (x : Int) : Nat → Int
 | 0 => x
 | n + 1 => IntKind.u64.wrap (IntKind.u64.wrap (rLoad s k x n * 256) + bt s (4 * (k : Int) + (n : Int)))
def rwF (s : ByteArray) : Nat → List Int
 | 0 => List.replicate 64 0
 | k + 1 => (rwF s k).set k (if k < 16 then rLoad s k ((rwF s k).getD k 0) 4 else rNext (rwF s k) k)
theorem rwF_length (s : ByteArray) (k : Nat) : (rwF s k).length = 64 := by
 induction k with
 | zero => simp [rwF]
 | succ k ih => simp [rwF, ih]
theorem set_getD_ (l : List Int) (k : Nat) : l.set k (l.getD k 0) = l := by
 apply List.ext_getElem?
 intro i
 rw [List.getElem?_set]
 split
 ·rename_i e; subst e
  split
  ·rw [List.getD_eq_getElem?_getD]
   simp [*]
  ·rename_i h2; simp [List.getElem?_eq_none (Nat.le_of_not_lt h2)]
 ·rfl
/-- What lies in the blocks of the document's block function. -/
structure RC (gh gr gk gw : Nat) (v : S8) (l : List Int) (w W : World) : Prop where
 o1 : gh < gr
 o2 : gr < gk
 o3 : gk < gw
 h0 : gh = w.heap.size
 hh : W.heap[gh]? = some (.cells (nums .u64 v.list).toArray 83 (0, 0))
 hr : W.heap[gr]? = some (.cells (nums .u64 (List.replicate 8 0)).toArray 83 (0, 0))
 hk : W.heap[gk]? = some (.cells (nums .u64 refK).toArray 95 (0, 0))
 hw : W.heap[gw]? = some (.cells (nums .u64 l).toArray 95 (0, 0))
 below : Below w.heap.size w W
theorem RC.step {gh gr gk gw : Nat} {v : S8} {l : List Int} {w W W' : World} (h : RC gh gr gk gw v l w W) (hb : Below W.heap.size W W') : RC gh gr gk gw v l w W' :=
 ⟨h.o1, h.o2, h.o3, h.h0, blk_below h.hh hb, blk_below h.hr hb, blk_below h.hk hb, blk_below h.hw hb, h.below.trans (hb.mono h.below.size)⟩
theorem RC.alloc {gh gr gk gw : Nat} {v : S8} {l : List Int} {w W : World} (h : RC gh gr gk gw v l w W) (o : Obj) : RC gh gr gk gw v l w (W.alloc o) := h.step ((Below.refl _ _).alloc (Nat.le_refl _) o)
theorem RC.drewN {gh gr gk gw : Nat} {v : S8} {l : List Int} {w W : World} (h : RC gh gr gk gw v l w W) (n : Nat) : RC gh gr gk gw v l w (W.drewN n) := h.step (pw_below_drewN (Below.refl _ _) n)
theorem RC.drew {gh gr gk gw : Nat} {v : S8} {l : List Int} {w W : World} (h : RC gh gr gk gw v l w W) : RC gh gr gk gw v l w W.drew := h.step (below_drew1 (Below.refl _ _))
theorem RC.set {gh gr gk gw : Nat} {v : S8} {l : List Int} {w W : World} (h : RC gh gr gk gw v l w W) (i : Nat) (x : Int) : RC gh gr gk gw v (l.set i x) w (W.setCell ⟨gw, i, none⟩ (.int .u64 x)) := by
 have o1 := h.o1
 have o2 := h.o2
 have o3 := h.o3
 have h0 := h.h0
 exact ⟨h.o1, h.o2, h.o3, h.h0, (Below.heap_setCell _ _ _ _ (by simp only; omega)).trans h.hh, (Below.heap_setCell _ _ _ _ (by simp only; omega)).trans h.hr, (Below.heap_setCell _ _ _ _ (by simp only; omega)).trans h.hk, blk_put h.hw i _ (nums_set _ l i x), h.below.setCell (p := ⟨gw, i, none⟩) (by simp only; omega) _⟩
theorem RC.cellw {gh gr gk gw : Nat} {v : S8} {l : List Int} {w W : World} (h : RC gh gr gk gw v l w W) (i : Nat) (hi : i < l.length) : W.cell? ⟨gw, i, none⟩ = some (.int .u64 (l.getD i 0)) := by
 have := blk_cell h.hw i
 rw [nums_at _ _ _ hi] at this
 exact this
theorem RC.cellk {gh gr gk gw : Nat} {v : S8} {l : List Int} {w W : World} (h : RC gh gr gk gw v l w W) (i : Nat) (hi : i < 64) : W.cell? ⟨gk, i, none⟩ = some (.int .u64 (refK.getD i 0)) := by
 have := blk_cell h.hk i
 rw [nums_at _ _ _ hi] at this
 exact this
/-- The same, but for the word at k. -/
def RCX (gh gr gk gw : Nat) (v : S8) (l : List Int) (k : Nat) (w W : World) : Prop := ∃ u, RC gh gr gk gw v (l.set k u) w W
theorem RCX.of {gh gr gk gw : Nat} {v : S8} {l : List Int} {w W : World} (h : RC gh gr gk gw v l w W) (k : Nat) : RCX gh gr gk gw v l k w W := ⟨l.getD k 0, by rw [set_getD_]; exact h⟩
theorem RCX.drewN {gh gr gk gw : Nat} {v : S8} {l : List Int} {k : Nat} {w W : World} (h : RCX gh gr gk gw v l k w W) (n : Nat) : RCX gh gr gk gw v l k w (W.drewN n) := h.imp fun _ h => h.drewN n
theorem RCX.drew {gh gr gk gw : Nat} {v : S8} {l : List Int} {k : Nat} {w W : World} (h : RCX gh gr gk gw v l k w W) : RCX gh gr gk gw v l k w W.drew := h.imp fun _ h => h.drew
theorem RCX.set {gh gr gk gw : Nat} {v : S8} {l : List Int} {k : Nat} {w W : World} (h : RCX gh gr gk gw v l k w W) (x : Int) : RC gh gr gk gw v (l.set k x) w (W.setCell ⟨gw, k, none⟩ (.int .u64 x)) := by
 obtain ⟨u, h⟩ := h
 have := h.set k x
 rwa [List.set_set] at this
theorem RCX.put {gh gr gk gw : Nat} {v : S8} {l : List Int} {k : Nat} {w W : World} (h : RCX gh gr gk gw v l k w W) (x : Int) : RCX gh gr gk gw v l k w (W.setCell ⟨gw, k, none⟩ (.int .u64 x)) := ⟨x, h.set x⟩
theorem RCX.cell {gh gr gk gw : Nat} {v : S8} {l : List Int} {k : Nat} {w W : World} (h : RCX gh gr gk gw v l k w W) (i : Nat) (hi : i < l.length) (hik : k ≠ i) : W.cell? ⟨gw, i, none⟩ = some (.int .u64 (l.getD i 0)) := by
 obtain ⟨u, h⟩ := h
 rw [h.cellw i (by simpa using hi), List.getD_eq_getElem?_getD, List.getElem?_set_ne hik, ← List.getD_eq_getElem?_getD]
theorem RCX.at_ {gh gr gk gw : Nat} {v : S8} {l : List Int} {k : Nat} {w W : World} (h : RCX gh gr gk gw v l k w W) (hk : k < l.length) : W.cell? ⟨gw, k, none⟩ = some (cellD W ⟨gw, k, none⟩) ∧ W.frozen? ⟨gw, k, none⟩ = false := by
 obtain ⟨u, h⟩ := h
 exact ⟨cellD_some (h.cellw k (by simpa using hk)), blk_frozen h.hw k⟩
theorem turn_q (x : Int) (m : Nat) (n : Int) (hn : n = (m : Int)) (h : m ≤ 32) (w : World) : Calls Try.prog 63 #[.int .u64 x, .int .i64 n] w fun e w' => e = .returned (.int .u64 (tn x m)) ∧ ∃ d, w' = w.drewN d :=
 (turn_c x m n hn h w).mono fun e w' ⟨he, ⟨⟨d, hd⟩⟩⟩ => ⟨he, d, hd⟩
def rT (kk ww : Int) (v : S8) : Int :=
 IntKind.u64.wrap (IntKind.u64.wrap (IntKind.u64.wrap (IntKind.u64.wrap (v.h + Go.bits .xor .u64 (Go.bits .xor .u64 (tn v.e 6) (tn v.e 11)) (tn v.e 25)) + Go.bits .xor .u64 (Go.bits .and .u64 v.e v.f) (Go.bits .and .u64 (IntKind.u64.wrap (4294967295 - v.e)) v.g)) + kk) + ww)
def rU (v : S8) : Int :=
 IntKind.u64.wrap (Go.bits .xor .u64 (Go.bits .xor .u64 (tn v.a 2) (tn v.a 13)) (tn v.a 22) + Go.bits .xor .u64 (Go.bits .xor .u64 (Go.bits .and .u64 v.a v.b) (Go.bits .and .u64 v.a v.c)) (Go.bits .and .u64 v.b v.c))
def rrnd (kk ww : Int) (v : S8) : S8 :=
 ⟨Int.tmod (IntKind.u64.wrap (rT kk ww v + rU v)) 4294967296, v.a, v.b, v.c, Int.tmod (IntKind.u64.wrap (v.d + rT kk ww v)) 4294967296, v.e, v.f, v.g⟩
def rrndF (l : List Int) (v : S8) : Nat → S8
 | 0 => v
 | k + 1 => rrnd (refK.getD k 0) (l.getD k 0) (rrndF l v k)
def S8.row (k : IntKind) (u : S8) : Array Value := #[.int k u.a, .int k u.b, .int k u.c, .int k u.d, .int k u.e, .int k u.f, .int k u.g, .int k u.h]
def addF (h : List Int) : Nat → List Int → List Int
 | 0, l => l
 | k + 1, l => (addF h k l).set k (Int.tmod (IntKind.u64.wrap ((addF h k l).getD k 0 + h.getD k 0)) 4294967296)
theorem addF_length (h l : List Int) (k : Nat) : (addF h k l).length = l.length := by
 induction k with
 | zero => rfl
 | succ k ih => simp [addF, ih]
def rblk (s : ByteArray) (v : S8) : S8 :=
 let u := rrndF (rwF s 64) v 64
 ⟨Int.tmod (IntKind.u64.wrap (u.a + v.a)) 4294967296, Int.tmod (IntKind.u64.wrap (u.b + v.b)) 4294967296, Int.tmod (IntKind.u64.wrap (u.c + v.c)) 4294967296, Int.tmod (IntKind.u64.wrap (u.d + v.d)) 4294967296, Int.tmod (IntKind.u64.wrap (u.e + v.e)) 4294967296, Int.tmod (IntKind.u64.wrap (u.f + v.f)) 4294967296, Int.tmod (IntKind.u64.wrap (u.g + v.g)) 4294967296, Int.tmod (IntKind.u64.wrap (u.h + v.h)) 4294967296⟩
theorem addF_8 (s : ByteArray) (v : S8) : addF v.list 8 (rrndF (rwF s 64) v 64).list = (rblk s v).list := by
 unfold rblk
 generalize rrndF (rwF s 64) v 64 = u
 obtain ⟨a, b, c, d, e, f, g, h⟩ := u
 obtain ⟨a', b', c', d', e', f', g', h'⟩ := v
 simp only [addF, S8.list, List.getD_cons_zero, List.getD_cons_succ, List.set_cons_zero, List.set_cons_succ]
theorem row8_one (k : IntKind) (u : S8) : (u.row k).all (·.oneCell') = true := by
 rw [Array.all_eq_true_iff_forall_mem]
 intro x hx
 simp only [S8.row, List.mem_toArray, List.mem_cons, List.not_mem_nil, or_false] at hx
 rcases hx with rfl | rfl | rfl | rfl | rfl | rfl | rfl | rfl <;> rfl
/-- .. and the state that is worked on, in a block of its own. -/
structure RV (gh gr gk gw gv : Nat) (v u : S8) (l : List Int) (w W : World) : Prop where
 rc : RC gh gr gk gw v l w W
 o4 : gw < gv
 hv : W.heap[gv]? = some (.cells (u.row .u64) 83 (0, 0))
theorem RV.step {gh gr gk gw gv : Nat} {v u : S8} {l : List Int} {w W W' : World} (h : RV gh gr gk gw gv v u l w W) (hb : Below W.heap.size W W') : RV gh gr gk gw gv v u l w W' :=
 ⟨h.rc.step hb, h.o4, blk_below h.hv hb⟩
theorem RV.drewN {gh gr gk gw gv : Nat} {v u : S8} {l : List Int} {w W : World} (h : RV gh gr gk gw gv v u l w W) (n : Nat) : RV gh gr gk gw gv v u l w (W.drewN n) := h.step (pw_below_drewN (Below.refl _ _) n)
theorem RV.drew {gh gr gk gw gv : Nat} {v u : S8} {l : List Int} {w W : World} (h : RV gh gr gk gw gv v u l w W) : RV gh gr gk gw gv v u l w W.drew := h.step (below_drew1 (Below.refl _ _))
theorem RC.other {gh gr gk gw gv : Nat} {v : S8} {l : List Int} {w W W' : World} (h : RC gh gr gk gw v l w W) (ho : gw < gv) (hg : W.grownBy W' (some gv)) : RC gh gr gk gw v l w W' := by
 obtain ⟨o1, o2, o3, h0, hh, hr', hk, hw, hb⟩ := h
 exact ⟨o1, o2, o3, h0, (hg.block gh (blk_lt hh) (by intro e; injection e; omega)).trans hh, (hg.block gr (blk_lt hr') (by intro e; injection e; omega)).trans hr', (hg.block gk (blk_lt hk) (by intro e; injection e; omega)).trans hk, (hg.block gw (blk_lt hw) (by intro e; injection e; omega)).trans hw, hb.grown hg hb.size (by intro k e; injection e; omega)⟩
theorem RV.put {gh gr gk gw gv : Nat} {v u u' : S8} {l : List Int} {w W W' : World} (h : RV gh gr gk gw gv v u l w W) (hr : W'.heap[gv]? = some (.cells (u'.row .u64) 83 (0, 0))) (hg : W.grownBy W' (some gv)) : RV gh gr gk gw gv v u' l w W' := by
 obtain ⟨⟨o1, o2, o3, h0, hh, hr', hk, hw, hb⟩, o4, hv⟩ := h
 have l1 := blk_lt hh
 have l2 := blk_lt hr'
 have l3 := blk_lt hk
 have l4 := blk_lt hw
 exact ⟨⟨o1, o2, o3, h0, (hg.block gh l1 (by intro e; injection e; omega)).trans hh, (hg.block gr l2 (by intro e; injection e; omega)).trans hr', (hg.block gk l3 (by intro e; injection e; omega)).trans hk, (hg.block gw l4 (by intro e; injection e; omega)).trans hw, hb.grown hg hb.size (by intro k e; injection e; omega)⟩, o4, hr⟩
set_option maxHeartbeats 4000000 in
set_option maxRecDepth 100000 in
theorem rblock_calls (v : S8) (s : ByteArray) (w : World) (hs : 64 ≤ s.size) :
  Calls Try.prog 51 #[.agg #[.int .u64 v.a, .int .u64 v.b, .int .u64 v.c, .int .u64 v.d, .int .u64 v.e, .int .u64 v.f, .int .u64 v.g, .int .u64 v.h], .string s] w fun e w' => e = .returned (.agg ((rblk s v).row .u64)) ∧ Below w.heap.size w w' := by
 have HA : Aside0 (∀ (W : World) (z : Array Value), (W.alloc (.cells z 95)).heap[W.heap.size]? = some (.cells z 95 (0, 0))) := ⟨fun W z => heap_alloc_new _ _⟩
 have h8 : w.heap.size + 2 = ((w.alloc (.cells #[.int .u64 v.a, .int .u64 v.b, .int .u64 v.c, .int .u64 v.d, .int .u64 v.e, .int .u64 v.f, .int .u64 v.g, .int .u64 v.h] 83)).alloc (.cells #[.int .u64 0, .int .u64 0, .int .u64 0, .int .u64 0, .int .u64 0, .int .u64 0, .int .u64 0, .int .u64 0] 83)).heap.size := by simp
 have h9 : ((w.alloc (.cells #[.int .u64 v.a, .int .u64 v.b, .int .u64 v.c, .int .u64 v.d, .int .u64 v.e, .int .u64 v.f, .int .u64 v.g, .int .u64 v.h] 83)).alloc (.cells #[.int .u64 0, .int .u64 0, .int .u64 0, .int .u64 0, .int .u64 0, .int .u64 0, .int .u64 0, .int .u64 0] 83)).heap[w.heap.size]? = some (.cells #[.int .u64 v.a, .int .u64 v.b, .int .u64 v.c, .int .u64 v.d, .int .u64 v.e, .int .u64 v.f, .int .u64 v.g, .int .u64 v.h] 83 (0, 0)) := by
  rw [heap_alloc_old _ _ (by simp)]; exact heap_alloc_new _ _
 have h10 : ((w.alloc (.cells #[.int .u64 v.a, .int .u64 v.b, .int .u64 v.c, .int .u64 v.d, .int .u64 v.e, .int .u64 v.f, .int .u64 v.g, .int .u64 v.h] 83)).alloc (.cells #[.int .u64 0, .int .u64 0, .int .u64 0, .int .u64 0, .int .u64 0, .int .u64 0, .int .u64 0, .int .u64 0] 83)).heap[w.heap.size + 1]? = some (.cells #[.int .u64 0, .int .u64 0, .int .u64 0, .int .u64 0, .int .u64 0, .int .u64 0, .int .u64 0, .int .u64 0] 83 (0, 0)) := by
  have := heap_alloc_new (w.alloc (.cells #[.int .u64 v.a, .int .u64 v.b, .int .u64 v.c, .int .u64 v.d, .int .u64 v.e, .int .u64 v.f, .int .u64 v.g, .int .u64 v.h] 83)) (.cells #[.int .u64 0, .int .u64 0, .int .u64 0, .int .u64 0, .int .u64 0, .int .u64 0, .int .u64 0, .int .u64 0] 83)
  simpa using this
 have h11 : Below w.heap.size w ((w.alloc (.cells #[.int .u64 v.a, .int .u64 v.b, .int .u64 v.c, .int .u64 v.d, .int .u64 v.e, .int .u64 v.f, .int .u64 v.g, .int .u64 v.h] 83)).alloc (.cells #[.int .u64 0, .int .u64 0, .int .u64 0, .int .u64 0, .int .u64 0, .int .u64 0, .int .u64 0, .int .u64 0] 83)) := ((Below.refl _ _).alloc (Nat.le_refl _) _).alloc (by simp) _
 have H0 := Aside0.mk (And.intro h8 (And.intro h9 (And.intro h10 h11)))
 clear h8 h9 h10 h11
 go_enter Try.func51, Try.ntmps51
 go_wp2_with fail
 generalize (w.alloc _).alloc _ = wA at H0 ⊢
 obtain ⟨gh, hgh⟩ : ∃ g, g = w.heap.size := ⟨_, rfl⟩
 obtain ⟨gr, hgr⟩ : ∃ g, g = w.heap.size + 1 := ⟨_, rfl⟩
 have hgr2 : gr = gh + 1 := by omega
 rw [← hgh, ← hgr2]
 have HZ := Aside0.mk (And.intro hgh hgr)
 clear hgh hgr hgr2
 refine (constants_calls _).mono ?_
 rintro e w1 ⟨rfl, hb⟩
 obtain ⟨h8, h9, h10, h11⟩ := H0.out
 obtain ⟨e1, e2⟩ := HZ.out
 rw [← e1] at h9
 rw [← e2] at h10
 have hh1 := blk_below h9 hb
 have hr1 := blk_below h10 hb
 have hb1 : Below w.heap.size w w1 := h11.trans (hb.mono (by omega))
 have hz1 : wA.heap.size ≤ w1.heap.size := hb.size
 have H1 := Aside0.mk (And.intro hh1 (And.intro hr1 hb1))
 have HZ2 : Aside0 (gh < gr ∧ gr < w1.heap.size ∧ gh = w.heap.size) := ⟨by omega, by omega, e1⟩
 clear h8 h9 h10 h11 hb e1 e2 hh1 hr1 hb1 hz1 H0
 have hb1 : Below w.heap.size w (w1.alloc (.cells (List.replicate 64 (Value.int .u64 0)).toArray 95)) := H1.out.2.2.alloc H1.out.2.2.size _
 go_wp2_with (first
  | ((with_reducible refine gate_store (t := 95) (p := 5) rfl ?_); refine store_row_ rfl 95 (.tmp 5) (.tmp 18) rfl rfl w1.heap.size (nums .u64 refK).toArray rfl rfl 95 _ (HA.out _ _) refK_info (by rw [refK_size]; rfl) refK_one w.heap.size w hb1 H1.out.2.2.size ?_; intro w2 hw2 hb2 hg2; have H2 := Aside0.mk (And.intro hw2 (And.intro hb2 hg2)); have hb3 := hb2.alloc hb2.size (.cells (List.replicate 64 (Value.int .u64 0)).toArray 95); clear hw2 hb2 hg2 hb1)
  | ((with_reducible refine gate_store (t := 95) (p := 6) rfl ?_); refine store_row_ rfl 95 (.tmp 6) (.tmp 19) rfl rfl w2.heap.size (nums .u64 (List.replicate 64 0)).toArray rfl rfl 95 _ (HA.out _ _) zeros_info (by rw [zeros_size]; rfl) zeros_one w.heap.size w hb3 H2.out.2.1.size ?_; intro w3 hw3 hb3' hg3; have H3 := Aside0.mk (And.intro hw3 (And.intro hb3' hg3)); clear hw3 hb3' hg3 hb3))
 have HC : Aside0 (RC gh gr w1.heap.size w2.heap.size v (rwF s 0) w w3) := by
  obtain ⟨a1, a2, a3⟩ := H1.out
  obtain ⟨b1, b2, b3⟩ := H2.out
  obtain ⟨c1, c2, c3⟩ := H3.out
  obtain ⟨z1, z2, z3⟩ := HZ2.out
  have s2 := b3.size
  simp at s2
  have e2h := (b3.block gh (by simp; omega) (by intro e; injection e; omega)).trans ((heap_alloc_old _ _ (by omega)).trans a1)
  have e2r := (b3.block gr (by simp; omega) (by intro e; injection e; omega)).trans ((heap_alloc_old _ _ (by omega)).trans a2)
  have e3h := (c3.block gh (by simp; omega) (by intro e; injection e; omega)).trans ((heap_alloc_old _ _ (by omega)).trans e2h)
  have e3r := (c3.block gr (by simp; omega) (by intro e; injection e; omega)).trans ((heap_alloc_old _ _ (by omega)).trans e2r)
  have e3k := (c3.block w1.heap.size (by simp; omega) (by intro e; injection e; omega)).trans ((heap_alloc_old _ _ (by omega)).trans b1)
  exact ⟨z1, z2, by omega, z3, e3h, e3r, e3k, c1, c2⟩
 generalize w1.heap.size = gc at HC ⊢
 generalize w2.heap.size = gw at HC ⊢
 clear H1 H2 H3 HZ2 HZ HA
 go_loopg [7, 8, 9, 10] 64 (fun r s7 s8 s9 s10 wr => ∃ k : Nat, k + r = 64 ∧ s7 = .int .i64 (k : Int) ∧ Aside0 (RC gh gr gc gw v (rwF s k) w wr))
 case atStart => exact ⟨0, by omega, rfl, HC⟩
 case round =>
  obtain ⟨k, hk, rfl, HR⟩ := hrel
  cases gk with
  | zero =>
   have hk64 : 64 ≤ k := by omega
   have hk2 : k = 64 := by omega
   have HR2 : Aside0 (RC gh gr gc gw v (rwF s 64) w wr) := ⟨by rw [← hk2]; exact HR.out⟩
   clear hk2 HR
   have hrow := HR2.out.hh
   go_wp2_with ((with_reducible refine gate_dst (N := 82) rfl ?_); refine wpList_load_row rfl 83 (.tmp 2) rfl gh rfl 83 #[.int .u64 v.a, .int .u64 v.b, .int .u64 v.c, .int .u64 v.d, .int .u64 v.e, .int .u64 v.f, .int .u64 v.g, .int .u64 v.h] (0, 0) _ hrow Try.underlying83 rfl (by kernel_rfl) ?_)
   have HV0 : Aside0 (RV gh gr gc gw wr.heap.size v v (rwF s 64) w (wr.alloc (.cells #[.int .u64 v.a, .int .u64 v.b, .int .u64 v.c, .int .u64 v.d, .int .u64 v.e, .int .u64 v.f, .int .u64 v.g, .int .u64 v.h] 83))) := ⟨HR2.out.alloc _, blk_lt HR2.out.hw, heap_alloc_new _ _⟩
   change Code.wp _ _ _ _ (wr.alloc (.cells #[.int .u64 v.a, .int .u64 v.b, .int .u64 v.c, .int .u64 v.d, .int .u64 v.e, .int .u64 v.f, .int .u64 v.g, .int .u64 v.h] 83))
   generalize wr.alloc _ = w4 at HV0 ⊢
   generalize wr.heap.size = gv at HV0 ⊢
   clear hrow HR2
   go_loopg [12, 13, 14, 15, 16] 64 (fun r2 s12 s13 s14 s15 s16 wy => ∃ (i : Nat) (u : S8), i + r2 = 64 ∧ s12 = .int .i64 (i : Int) ∧ Aside0 (u = rrndF (rwF s 64) v i) ∧ Aside0 (RV gh gr gc gw gv v u (rwF s 64) w wy))
   case atStart => exact ⟨0, v, by omega, rfl, ⟨rfl⟩, HV0⟩
   case round =>
    obtain ⟨i, u, hi, rfl, HU, HV⟩ := hrel
    cases gk with
    | zero =>
     have hi64 : 64 ≤ i := by omega
     have hi2 : i = 64 := by omega
     have HU2 : Aside0 (u = rrndF (rwF s 64) v 64) := ⟨by rw [HU.out, hi2]⟩
     clear hi2 HU
     have HL0 : Aside0 (wr.heap[gv]? = some (.cells (nums .u64 (addF v.list 0 u.list)).toArray 83 (0, 0))) := ⟨HV.out.hv⟩
     have HC0 := Aside0.mk HV.out.rc
     have ho := HV.out.o4
     have HWL : Aside0 (wr.grownBy wr (some gv)) := ⟨⟨rfl, rfl, rfl, Nat.le_refl _, fun _ _ _ => rfl⟩⟩
     go_wp2_with fail
     go_loopg [17] 8 (fun r3 s17 wz => ∃ j : Nat, j + r3 = 8 ∧ s17 = .int .i64 (j : Int) ∧ Aside0 (wz.heap[gv]? = some (.cells (nums .u64 (addF v.list j u.list)).toArray 83 (0, 0))) ∧ Aside0 (RC gh gr gc gw v (rwF s 64) w wz))
     case atStart => exact ⟨0, by omega, rfl, HL0, HC0⟩
     case round =>
      obtain ⟨j, hj, rfl, HL, HC⟩ := hrel
      cases gk with
      | zero =>
       have hj8 : 8 ≤ j := by omega
       have hj2 : j = 8 := by omega
       have hl8 := HL.out
       rw [hj2, HU2.out, addF_8] at hl8
       have HL8 : Aside0 (wr.heap[gv]? = some (.cells ((rblk s v).row .u64) 83 (0, 0))) := ⟨hl8⟩
       have i8s : (Try.prog.info? 83).map (·.size) = some ((rblk s v).row .u64).size := by
        show _ = some 8
        kernel_rfl
       have hl8' := HL8.out
       have hr8 := HC.out.hr
       have hbw := HC.out.below
       have hle : w.heap.size ≤ gr := by have a1 := HC.out.o1; have a4 := HC.out.h0; omega
       clear hl8 hj2
       go_wp2_with (first
        | ((with_reducible refine gate_dst (N := 179) rfl ?_); refine wpList_load_row rfl 83 (.tmp 11) rfl gv rfl 83 ((rblk s v).row .u64) (0, 0) _ hl8' Try.underlying83 rfl i8s ?_)
        | ((with_reducible refine gate_store (t := 83) (p := 4) rfl ?_); refine store_row_ rfl 83 (.tmp 4) (.tmp 179) rfl rfl gr ((rblk s v).row .u64) rfl rfl 83 _ hr8 i8s rfl (row8_one .u64 _) w.heap.size w hbw hle ?_; intro w7 hw7 hb7 hg7; have H7 := Aside0.mk (And.intro hw7 hb7); clear hw7 hb7 hg7 hr8 hbw))
       refine bodyPost_ret (results_cell_row rfl _ _ gr 83 ((rblk s v).row .u64) (0, 0) _ rfl H7.out.1 Try.underlying83 rfl i8s) rfl ?_
       exact ⟨rfl, H7.out.2⟩
      | succ r3 =>
       have hj8 : j < 8 := by omega
       have hj8' : (j : Int) < 8 := by omega
       have hal := addF_length v.list u.list j
       have hul : u.list.length = 8 := rfl
       have hvl : v.list.length = 8 := rfl
       have HLd := Aside0.mk (blk_drew HL.out)
       have HCd := Aside0.mk HC.out.drew
       have c1 : wr.drew.cell? ⟨gv, j, none⟩ = some (.int .u64 ((addF v.list j u.list).getD j 0)) := by
        have := blk_cell HLd.out j
        rw [nums_at _ _ _ (by omega)] at this
        exact this
       have c2 : wr.drew.cell? ⟨gh, j, none⟩ = some (.int .u64 (v.list.getD j 0)) := by
        have := blk_cell HCd.out.hh j
        rw [nums_at _ _ _ (by omega)] at this
        exact this
       have cf : wr.drew.frozen? ⟨gv, j, none⟩ = false := blk_frozen HLd.out j
       have HN : Aside0 (addF v.list (j + 1) u.list = (addF v.list j u.list).set j (Int.tmod (IntKind.u64.wrap ((addF v.list j u.list).getD j 0 + v.list.getD j 0)) 4294967296)) := ⟨rfl⟩
       generalize (addF v.list j u.list).getD j 0 = x1 at c1 HN
       generalize v.list.getD j 0 = x2 at c2 HN
       clear hal hul hvl
       go_wp2_with fail
       go_still_tail 10, (by kernel_rfl)
       change wpList _ _ _ _ _ wr.drew
       generalize wr.drew = w4d at HLd HCd c1 c2 cf ⊢
       go_wp2
       go_roundg r3
       case measure => omega
       case rel =>
        refine ⟨j + 1, by omega, by go_num, ⟨?_⟩, ⟨HCd.out.other ho (grown_set_ _ gv j _)⟩⟩
        rw [HN.out]
        exact blk_put HLd.out j _ (nums_set _ _ _ _)
    | succ r2 =>
     have hi64 : i < 64 := by omega
     have hi64' : (i : Int) < 64 := by omega
     have hwl := rwF_length s 64
     have c0 : wr.cell? ⟨gv, 0, none⟩ = some (.int .u64 u.a) := blk_cell HV.out.hv 0
     have c4 : wr.cell? ⟨gv, 4, none⟩ = some (.int .u64 u.e) := blk_cell HV.out.hv 4
     have c5 : wr.cell? ⟨gv, 5, none⟩ = some (.int .u64 u.f) := blk_cell HV.out.hv 5
     have c6 : wr.cell? ⟨gv, 6, none⟩ = some (.int .u64 u.g) := blk_cell HV.out.hv 6
     have c7 : wr.cell? ⟨gv, 7, none⟩ = some (.int .u64 u.h) := blk_cell HV.out.hv 7
     have ck := HV.out.rc.cellk i hi64
     have cw := HV.out.rc.cellw i (by omega)
     have HN : Aside0 (rrndF (rwF s 64) v (i + 1) = rrnd (refK.getD i 0) ((rwF s 64).getD i 0) u) := ⟨by rw [rrndF, ← HU.out]⟩
     generalize refK.getD i 0 = kk at ck HN
     generalize (rwF s 64).getD i 0 = ww at cw HN
     clear HU
     go_wp2_with fail
     go_quiet (first
      | (go_at_call 63; with_reducible exact Calls.quiet_of (turn_q u.e 6 6 rfl (by decide) _))
      | (go_at_call 63; with_reducible exact Calls.quiet_of (turn_q u.e 11 11 rfl (by decide) _))
      | (go_at_call 63; with_reducible exact Calls.quiet_of (turn_q u.e 25 25 rfl (by decide) _)))
     generalize hT : IntKind.u64.wrap (IntKind.u64.wrap (IntKind.u64.wrap (IntKind.u64.wrap (u.h + Go.bits .xor .u64 (Go.bits .xor .u64 (tn u.e 6) (tn u.e 11)) (tn u.e 25)) + Go.bits .xor .u64 (Go.bits .and .u64 u.e u.f) (Go.bits .and .u64 (IntKind.u64.wrap (4294967295 - u.e)) u.g)) + kk) + ww) = tv
     have HTV : Aside0 (rT kk ww u = tv) := ⟨hT⟩
     have HV5 := Aside0.mk (HV.out.drewN nq)
     generalize wr.drewN nq = w5 at HV5 ⊢
     clear c0 c4 c5 c6 c7 ck cw hT
     have c0 : w5.cell? ⟨gv, 0, none⟩ = some (.int .u64 u.a) := blk_cell HV5.out.hv 0
     have c1 : w5.cell? ⟨gv, 1, none⟩ = some (.int .u64 u.b) := blk_cell HV5.out.hv 1
     have c2 : w5.cell? ⟨gv, 2, none⟩ = some (.int .u64 u.c) := blk_cell HV5.out.hv 2
     have c3 : w5.cell? ⟨gv, 3, none⟩ = some (.int .u64 u.d) := blk_cell HV5.out.hv 3
     have c4 : w5.cell? ⟨gv, 4, none⟩ = some (.int .u64 u.e) := blk_cell HV5.out.hv 4
     have c5 : w5.cell? ⟨gv, 5, none⟩ = some (.int .u64 u.f) := blk_cell HV5.out.hv 5
     have c6 : w5.cell? ⟨gv, 6, none⟩ = some (.int .u64 u.g) := blk_cell HV5.out.hv 6
     have c7 : w5.cell? ⟨gv, 7, none⟩ = some (.int .u64 u.h) := blk_cell HV5.out.hv 7
     go_wp2_with fail
     go_quiet (first
      | (go_at_call 63; with_reducible exact Calls.quiet_of (turn_q u.a 2 2 rfl (by decide) _))
      | (go_at_call 63; with_reducible exact Calls.quiet_of (turn_q u.a 13 13 rfl (by decide) _))
      | (go_at_call 63; with_reducible exact Calls.quiet_of (turn_q u.a 22 22 rfl (by decide) _)))
     generalize hU : IntKind.u64.wrap (Go.bits .xor .u64 (Go.bits .xor .u64 (tn u.a 2) (tn u.a 13)) (tn u.a 22) + Go.bits .xor .u64 (Go.bits .xor .u64 (Go.bits .and .u64 u.a u.b) (Go.bits .and .u64 u.a u.c)) (Go.bits .and .u64 u.b u.c)) = uv
     have HUV : Aside0 (rU u = uv) := ⟨hU⟩
     have HV6 := Aside0.mk (HV5.out.drewN nq)
     generalize w5.drewN nq = w6 at HV6 ⊢
     clear c0 c1 c2 c3 c4 c5 c6 c7 hU
     have c0 : w6.cell? ⟨gv, 0, none⟩ = some (.int .u64 u.a) := blk_cell HV6.out.hv 0
     have c1 : w6.cell? ⟨gv, 1, none⟩ = some (.int .u64 u.b) := blk_cell HV6.out.hv 1
     have c2 : w6.cell? ⟨gv, 2, none⟩ = some (.int .u64 u.c) := blk_cell HV6.out.hv 2
     have c3 : w6.cell? ⟨gv, 3, none⟩ = some (.int .u64 u.d) := blk_cell HV6.out.hv 3
     have c4 : w6.cell? ⟨gv, 4, none⟩ = some (.int .u64 u.e) := blk_cell HV6.out.hv 4
     have c5 : w6.cell? ⟨gv, 5, none⟩ = some (.int .u64 u.f) := blk_cell HV6.out.hv 5
     have c6 : w6.cell? ⟨gv, 6, none⟩ = some (.int .u64 u.g) := blk_cell HV6.out.hv 6
     have c7 : w6.cell? ⟨gv, 7, none⟩ = some (.int .u64 u.h) := blk_cell HV6.out.hv 7
     have hv6 := HV6.out.hv
     have i8s : (Try.prog.info? 83).map (·.size) = some 8 := by kernel_rfl
     have hbw := HV6.out.rc.below
     have hle : w.heap.size ≤ gv := by have a1 := HV6.out.rc.o1; have a2 := HV6.out.rc.o2; have a3 := HV6.out.rc.o3; have a4 := HV6.out.rc.h0; have a5 := HV6.out.o4; omega
     go_wp2_with ((with_reducible refine gate_store (t := 83) (p := 11) rfl ?_); refine store_row_ rfl 83 (.tmp 11) (.tmp 164) rfl rfl gv #[.int .u64 (Int.tmod (IntKind.u64.wrap (tv + uv)) 4294967296), .int .u64 u.a, .int .u64 u.b, .int .u64 u.c, .int .u64 (Int.tmod (IntKind.u64.wrap (u.d + tv)) 4294967296), .int .u64 u.e, .int .u64 u.f, .int .u64 u.g] rfl rfl 83 (u.row .u64) hv6 i8s rfl (row8_one .u64 (S8.mk _ _ _ _ _ _ _ _)) w.heap.size w hbw hle ?_; intro w7 hw7 hb7 hg7; have HV7 := Aside0.mk (HV6.out.put (u' := S8.mk (Int.tmod (IntKind.u64.wrap (tv + uv)) 4294967296) u.a u.b u.c (Int.tmod (IntKind.u64.wrap (u.d + tv)) 4294967296) u.e u.f u.g) hw7 hg7); clear hw7 hb7 hg7 hv6)
     go_roundg r2
     case measure => omega
     case rel =>
      refine ⟨i + 1, _, by omega, by go_num, ⟨?_⟩, HV7⟩
      rw [HN.out]
      unfold rrnd
      rw [HTV.out, HUV.out]
  | succ r =>
   have hk64 : k < 64 := by omega
   have hk64' : (k : Int) < 64 := by omega
   have hlen := rwF_length s k
   by_cases h16 : k < 16
   ·have h16' : (k : Int) < 16 := by omega
    have HS : Aside0 (rwF s (k + 1) = (rwF s k).set k (rLoad s k ((rwF s k).getD k 0) 4)) := ⟨by rw [rwF, if_pos h16]⟩
    have HR0 : Aside0 (RC gh gr gc gw v ((rwF s k).set k (rLoad s k ((rwF s k).getD k 0) 0)) w wr) := ⟨by rw [rLoad, set_getD_]; exact HR.out⟩
    generalize (rwF s k).getD k 0 = x0 at HS HR0
    clear HR
    go_wp2
    go_loopg [8] 4 (fun r2 s8 wy => ∃ n : Nat, n + r2 = 4 ∧ s8 = .int .i64 (n : Int) ∧ Aside0 (RC gh gr gc gw v ((rwF s k).set k (rLoad s k x0 n)) w wy))
    case atStart => exact ⟨0, by omega, rfl, HR0⟩
    case round =>
     obtain ⟨n, hn, rfl, HRn⟩ := hrel
     cases gk with
     | zero =>
      have hn4 : 4 ≤ n := by omega
      have hn4' : n = 4 := by omega
      have HN := Aside0.mk hn4'
      clear hn4'
      go_wp2
      go_roundg r
      case measure => omega
      case rel => exact ⟨k + 1, by omega, by go_num, ⟨by rw [HS.out, ← HN.out]; exact HRn.out⟩⟩
     | succ r2 =>
      have hn4 : n < 4 := by omega
      have HD := Aside0.mk HRn.out.drew
      have hc : wr.drew.cell? ⟨gw, k, none⟩ = some (.int .u64 (rLoad s k x0 n)) := by
       have := HD.out.cellw k (by rw [List.length_set]; omega)
       rw [this, List.getD_eq_getElem?_getD, List.getElem?_set_self (by omega)]
       rfl
      have hf : wr.drew.frozen? ⟨gw, k, none⟩ = false := blk_frozen HD.out.hw k
      have HL : Aside0 (rLoad s k x0 (n + 1) = IntKind.u64.wrap (IntKind.u64.wrap (rLoad s k x0 n * 256) + bt s (4 * (k : Int) + (n : Int)))) := ⟨rfl⟩
      generalize hx : rLoad s k x0 n = x at hc HL
      have HX := Aside0.mk hx
      have hw0 : IntKind.i64.wrap (4 * (k : Int)) = 4 * (k : Int) := by rw [IntKind.wrap_i64]; omega
      have hw1 : IntKind.i64.wrap (4 * (k : Int) + (n : Int)) = 4 * (k : Int) + (n : Int) := by rw [IntKind.wrap_i64]; omega
      have hbr := bt_range s (4 * (k : Int) + (n : Int))
      have hw2 : IntKind.u64.wrap (bt s (4 * (k : Int) + (n : Int))) = bt s (4 * (k : Int) + (n : Int)) := by rw [IntKind.wrap_u64]; omega
      obtain ⟨ha0, hb0, hc0, hd0⟩ := bt4_ s (4 * k + n) (4 * (k : Int) + (n : Int)) (by omega) (by omega)
      clear hx hbr
      go_wp2_with fail
      go_still_tail 14, (by kernel_rfl)
      rw [← HL.out]
      have HZ := Aside0.mk (HD.out.set k (rLoad s k x0 (n + 1)))
      rw [List.set_set] at HZ
      change wpList _ _ _ _ _ wr.drew
      generalize hV : rLoad s k x0 (n + 1) = V at HL HZ ⊢
      have HV := Aside0.mk hV.symm
      clear hV
      generalize wr.drew = w4 at HD hc hf HZ ⊢
      clear hw0 hw1 hw2 ha0 hb0 hc0 hd0 HL HD
      go_wp2
      go_roundg r2
      case measure => omega
      case rel => exact ⟨n + 1, by omega, by go_num, ⟨by rw [← HV.out]; exact HZ.out⟩⟩
   ·have HS : Aside0 (rwF s (k + 1) = (rwF s k).set k (rNext (rwF s k) k)) := ⟨by rw [rwF, if_neg h16]⟩
    obtain ⟨i, hi⟩ : ∃ i, k = i + 16 := ⟨k - 16, by omega⟩
    have e16 : IntKind.i64.wrap ((k : Int) - 16) = (i : Int) := by rw [IntKind.wrap_i64]; omega
    have e15 : IntKind.i64.wrap ((k : Int) - 15) = ((i + 1 : Nat) : Int) := by rw [IntKind.wrap_i64]; omega
    have e7 : IntKind.i64.wrap ((k : Int) - 7) = ((i + 9 : Nat) : Int) := by rw [IntKind.wrap_i64]; omega
    have e2 : IntKind.i64.wrap ((k : Int) - 2) = ((i + 14 : Nat) : Int) := by rw [IntKind.wrap_i64]; omega
    obtain ⟨i15, h15⟩ : ∃ j, j = i + 1 := ⟨_, rfl⟩
    obtain ⟨i7, h7⟩ : ∃ j, j = i + 9 := ⟨_, rfl⟩
    obtain ⟨i2, h2⟩ : ∃ j, j = i + 14 := ⟨_, rfl⟩
    rw [← h15] at e15
    rw [← h7] at e7
    rw [← h2] at e2
    have q15 : (k : Int) - 15 = (i15 : Int) := by omega
    have q2 : (k : Int) - 2 = (i2 : Int) := by omega
    have f16 : (i : Int) < 64 := by omega
    have f15 : (i15 : Int) < 64 := by omega
    have f7 : (i7 : Int) < 64 := by omega
    have f2 : (i2 : Int) < 64 := by omega
    have hn16 : ¬ (k : Int) < 16 := by omega
    have hN : rNext (rwF s k) k = Int.tmod (IntKind.u64.wrap (IntKind.u64.wrap (IntKind.u64.wrap ((rwF s k).getD i 0 + (rwF s k).getD i7 0) + Go.bits .xor .u64 (Go.bits .xor .u64 (tn ((rwF s k).getD i15 0) 7) (tn ((rwF s k).getD i15 0) 18)) (IntKind.u64.wrap (Int.tdiv ((rwF s k).getD i15 0) 8))) + Go.bits .xor .u64 (Go.bits .xor .u64 (tn ((rwF s k).getD i2 0) 17) (tn ((rwF s k).getD i2 0) 19)) (IntKind.u64.wrap (Int.tdiv ((rwF s k).getD i2 0) 1024)))) 4294967296 := by
     unfold rNext
     rw [show k - 16 = i by omega, show k - 7 = i7 by omega, show k - 15 = i15 by omega, show k - 2 = i2 by omega]
    rw [hN] at HS
    have c15 := HR.out.cellw i15 (by omega)
    have c2 := HR.out.cellw i2 (by omega)
    have HX := RCX.of HR.out k
    have HS3 : Aside0 (∀ W, RCX gh gr gc gw v (rwF s k) k w W → W.cell? ⟨gw, i, none⟩ = some (.int .u64 ((rwF s k).getD i 0)) ∧ W.cell? ⟨gw, i7, none⟩ = some (.int .u64 ((rwF s k).getD i7 0)) ∧ W.cell? ⟨gw, k, none⟩ = some (cellD W ⟨gw, k, none⟩) ∧ W.frozen? ⟨gw, k, none⟩ = false ∧ RCX gh gr gc gw v (rwF s k) k w W) :=
     ⟨fun W h => ⟨h.cell i (by omega) (by omega), h.cell i7 (by omega) (by omega), (h.at_ (by omega)).1, (h.at_ (by omega)).2, h⟩⟩
    generalize (rwF s k).getD i 0 = x16 at HS3 HS
    generalize (rwF s k).getD i15 0 = x15 at c15 HS
    generalize (rwF s k).getD i7 0 = x7 at HS3 HS
    generalize (rwF s k).getD i2 0 = x2 at c2 HS
    have HI := Aside0.mk (And.intro hi (And.intro h15 (And.intro h7 h2)))
    clear hN hi h15 h7 h2
    go_wp2_with fail
    clear c15 c2
    obtain ⟨d16, d7, dk, df, _⟩ := HS3.out _ HX
    go_region_held3 (fun W => W.cell? ⟨gw, i, none⟩ = some (.int .u64 x16) ∧ W.cell? ⟨gw, i7, none⟩ = some (.int .u64 x7) ∧ W.cell? ⟨gw, k, none⟩ = some (cellD W ⟨gw, k, none⟩) ∧ W.frozen? ⟨gw, k, none⟩ = false ∧ RCX gh gr gc gw v (rwF s k) k w W)
     (first | (refine HS3.out _ ?_; first | assumption | (repeat (first | assumption | apply RCX.drewN | apply RCX.drew | apply RCX.put))) | (go_split_ands; refine HS3.out _ ?_; (repeat (first | assumption | apply RCX.drewN | apply RCX.drew | apply RCX.put))))
     (first
      | (go_at_call 63; (with_reducible refine (turn_c x15 7 7 rfl (by decide) _).mono ?_); rintro e w6 ⟨rfl, ⟨nd, rfl⟩⟩)
      | (go_at_call 63; (with_reducible refine (turn_c x15 18 18 rfl (by decide) _).mono ?_); rintro e w6 ⟨rfl, ⟨nd2, rfl⟩⟩)
      | (go_at_call 63; (with_reducible refine (turn_c x2 17 17 rfl (by decide) _).mono ?_); rintro e w6 ⟨rfl, ⟨nd3, rfl⟩⟩)
      | (go_at_call 63; (with_reducible refine (turn_c x2 19 19 rfl (by decide) _).mono ?_); rintro e w6 ⟨rfl, ⟨nd4, rfl⟩⟩))
    all_goals
     clear d16 d7 dk df
     go_wp2
     go_roundg r
     case measure => omega
     case rel =>
      refine ⟨k + 1, by omega, by go_num, ⟨?_⟩⟩
      rw [HS.out]
      refine RCX.set ?_ _
      repeat (first | assumption | apply RCX.drewN | apply RCX.drew)

/-! ### bytes that are appended to a row that a conversion has made -/
def BRO (B : Nat) (w : World) (v : Value) (xs : List Int) : Prop :=
 w.ownsRow B 5 1 v xs.length (nums .u8 xs) ∨ ∃ g cap, v = .slice (some ⟨g, 0, none⟩) xs.length cap ∧ B ≤ g ∧ xs.length ≤ cap ∧ cap ≤ maxLen ∧ (∀ j, j < xs.length → w.cell? ⟨g, j, none⟩ = some (.int .u8 (xs.getD j 0))) ∧ (∀ j, j < cap → (w.cell? ⟨g, j, none⟩).isSome = true ∧ w.frozen? ⟨g, j, none⟩ = false)
theorem own_low2_ {w : World} {base base' : Nat} {e : TypeId} {size : Nat} {v : Value} {n : Nat} {xs : List Value} (h : w.ownsRow base e size v n xs) (hb : base' ≤ base) : w.ownsRow base' e size v n xs :=
 ⟨h.1, h.2.imp id fun ⟨g, cap, cur, a, b, r⟩ => ⟨g, cap, cur, a, Nat.le_trans hb b, r⟩⟩
theorem BRO.below {B : Nat} {w w' : World} {v : Value} {xs : List Int} (h : BRO B w v xs) (hb : Below w.heap.size w w') : BRO B w' v xs := by
 rcases h with h | ⟨g, cap, hv, hB, hc, hm, hx, hs⟩
 ·exact Or.inl (h.kept (grown_of_below hb none) (by cases v.ownBlock <;> simp))
 ·refine Or.inr ⟨g, cap, hv, hB, hc, hm, fun j hj => up_ hb (hx j hj), fun j hj => ?_⟩
  obtain ⟨u, hu⟩ := Option.isSome_iff_exists.1 (hs j hj).1
  have hlt := World.block_lt_of_cell? _ _ hu
  exact ⟨by rw [up_ hb hu]; rfl, (World.frozen?_of_block (hb.block g hlt)).trans (hs j hj).2⟩
theorem BRO.form {B : Nat} {w : World} {v : Value} {xs : List Int} (h : BRO B w v xs) : ∃ A c, v = .slice A xs.length c ∧ ReadsInt w .u8 A xs.length xs := by
 rcases h with h | ⟨g, cap, hv, hB, hc, hm, hx, hs⟩
 ·exact own_reads h
 ·exact ⟨some ⟨g, 0, none⟩, cap, hv, rfl, by unfold maxLen at hm; omega, fun _ => ⟨_, rfl, fun j hj => by rw [Addr.add_mid, Nat.zero_add]; exact hx j hj⟩⟩
theorem BRO.new (w : World) (s : ByteArray) (hs : s.size ≤ maxLen) : BRO w.heap.size (Lib.bytesWorld w 5 s) (.slice (some ⟨w.heap.size, 0, none⟩) s.size (grownCap w s.size 0 5)) (bytesOf s) := by
 have hl := bytesOf_length s
 have hg := Lib.bytesWorld_at_new w 5 s
 have hcs : (Lib.bytesCells w 5 s).size = grownCap w s.size 0 5 := by
  have := grownCap_ge w s.size 0 5
  simp [Lib.bytesCells]
  omega
 refine Or.inr ⟨w.heap.size, _, by rw [hl], Nat.le_refl _, by rw [hl]; exact grownCap_ge _ _ _ _, grownCap_le_maxLen _ _ _ _ hs, (BRow.new w s).cell, fun j hj => ⟨?_, ?_⟩⟩
 ·unfold World.cell?
  rw [hg]
  simp
  omega
 ·unfold World.frozen?
  rw [hg]
  simp
  omega
theorem wpList_append_bro {ops : Array Oper} {rest : List Oper} {o : Oper} {a : Act} {w : World} {Q : Exit → Act → World → Prop} (hgd : o.guard = none) (s x : Operand) (t : TypeId)
  (ho : o.op = .call { callee := .builtin .append, args := #[s, x], argTypes := #[t, t] }) (ht : Try.prog.underlying t = some (.slice 5))
  (B : Nat) (v : Value) (xs : List Int) (y : Int) (hB : BRO B w v xs) (hs : a.eval s = v) (hBw : B ≤ w.heap.size) (g0 : Nat) (hg0 : g0 = w.heap.size) (hx : a.eval x = .slice (some ⟨g0, 0, none⟩) 1 1) (hlen : xs.length + 1 ≤ 140737488355328)
  (h : ∀ v' w', BRO B w' v' (xs ++ [y]) → Below B w w' → wpList Try.prog ops Q rest (a.put o.dst v') w') : wpList Try.prog ops Q (o :: rest) a (w.alloc (.cells #[.int .u8 y] 5)) := by
 have hi5 : (Try.prog.info? 5).map (fun i => (i.zero, i.size, i.bytes)) = some (some (.int .u8 0), 1, 1) := by kernel_rfl
 obtain ⟨i0, hi, hz0, hz1, hz2⟩ := info_parts hi5
 have hb0 : Below w.heap.size w (w.alloc (.cells #[.int .u8 y] 5)) := (Below.refl _ _).alloc (Nat.le_refl _) _
 have hnews : ∀ (j : Nat) (u : Value), [Value.int .u8 y][j]? = some u → (w.alloc (.cells #[.int .u8 y] 5)).cell? ((⟨g0, 0, none⟩ : Addr).add j) = some u := by rw [hg0]; exact cell_one_new _ _ _
 have hone : ∀ u ∈ [Value.int .u8 y], u.oneCell' = true := by simp [Value.oneCell']
 have h2 := hB.below hb0
 have e1 : (xs ++ [y]).length = xs.length + 1 := by simp
 rcases h2 with h2 | ⟨g, cap, rfl, hBg, hc, hm, hx2, hs2⟩
 ·refine wpList_append_own _ hgd s x t ho B 5 i0 (.int .u8 0) 1 1 ht hi hz0 hz1 hz2 rfl (by decide) v _ _ hs h2 ⟨g0, 0, none⟩ 1 1 [.int .u8 y] hx rfl hnews hone (by unfold maxLen; omega) (by omega) (by simp; omega) ?_
  intro v' w' hown hg _
  refine h v' w' (Or.inl ?_) ((hb0.mono hBw).grown hg (by simp; omega) (fun k hk => (h2.lt k hk).1))
  rw [e1, nums_append]
  exact hown
 ·refine wpList_append_arg _ hgd s x t ho 5 i0 (.int .u8 0) 1 1 ht hi hz0 hz1 hz2 rfl (by decide) g 0 xs.length cap (nums .u8 xs) hs (by simp [nums]) ?_ ⟨g0, 0, none⟩ 1 1 [.int .u8 y] hx rfl hnews hone ?_ (by unfold maxLen at hm ⊢; omega) (by omega) ?_ ?_
  ·intro j u hu
   simp only [nums, List.getElem?_map, Option.map_eq_some_iff] at hu
   obtain ⟨n, hn, rfl⟩ := hu
   have hj := (List.getElem?_eq_some_iff.1 hn).1
   rw [Nat.zero_add, hx2 j hj, List.getD_eq_getElem?_getD, hn]
   rfl
  ·intro hr j hj
   simp at hj
   subst hj
   simpa using hs2 xs.length (by omega)
  ·intro hr
   have hcx := hs2 xs.length (by omega)
   obtain ⟨u, hu⟩ := Option.isSome_iff_exists.1 hcx.1
   have hw : (w.alloc (.cells #[.int .u8 y] 5)).setCells g (0 + xs.length * 1) [.int .u8 y] = (w.alloc (.cells #[.int .u8 y] 5)).setCell ⟨g, xs.length, none⟩ (.int .u8 y) := by simp [World.setCells]
   rw [hw]
   have hv : (Value.slice (some ⟨g, 0, none⟩) (xs.length + 1) cap) = .slice (some ⟨g, 0, none⟩) (xs ++ [y]).length cap := by rw [e1]
   rw [hv]
   refine h _ _ (Or.inr ⟨g, cap, rfl, hBg, by rw [e1]; omega, hm, fun j hj => ?_, fun j hj => ?_⟩) ((hb0.mono hBw).setCell (p := ⟨g, xs.length, none⟩) hBg _)
   ·rw [e1] at hj
    by_cases e : j = xs.length
    ·subst e
     rw [World.cell?_setCell_same _ _ _ hu]
     simp
    ·rw [World.cell?_setCell_other _ _ _ _ (by intro h; injection h; omega), hx2 j (by omega)]
     have : j < xs.length := by omega
     simp [List.getD_eq_getElem?_getD, List.getElem?_append_left this]
   ·refine ⟨?_, (World.frozen?_setCell _ _ _ _).trans (hs2 j hj).2⟩
    rw [isSome_setCell_]
    exact (hs2 j hj).1
  ·intro hr v' w' hown hg
   refine h v' w' (Or.inl ?_) ((hb0.mono hBw).grown hg (by simp; omega) (by simp))
   rw [e1, nums_append]
   exact own_low2_ hown (by simp; omega)

theorem pow2_some : ∀ m : Fin 57, dominoref07_power.f 60 (m.val : Int) = some (2 ^ m.val) := by decide +kernel
def zn (s : ByteArray) : Nat := (119 - s.size % 64) % 64
def filL (s : ByteArray) : List Int := bytesOf s ++ [128] ++ List.replicate (zn s) 0
def filB (n : Int) : List Int := [n / 72057594037927936 % 256, n / 281474976710656 % 256, n / 1099511627776 % 256, n / 4294967296 % 256, n / 16777216 % 256, n / 65536 % 256, n / 256 % 256, n % 256]
def filF (s : ByteArray) : ByteArray := strOfNums (filL s ++ filB ((s.size : Int) * 8))
set_option maxHeartbeats 4000000 in
set_option maxRecDepth 100000 in
theorem filled_calls (s : ByteArray) (w : World) (hs : s.size ≤ 1099511627776) :
  Calls Try.prog 50 #[.string s] w fun e w' => e = .returned (.string (filF s)) ∧ Below w.heap.size w w' := by
 have hcv := Lib.run_convert_string_bytes (P := Try.prog) w 9 46 5 s Try.underlying9 Try.underlying46 Try.underlying5
 have hb0 := BRO.new w s (by unfold maxLen; omega)
 have hb1 := below_bytes_ w 5 s
 have hbl := bytesOf_length s
 generalize Lib.bytesWorld w 5 s = w1 at hcv hb0 hb1
 have HB := Aside0.mk hb0
 have HW := Aside0.mk hb1
 have hsz1 : w.heap.size ≤ w1.heap.size := hb1.size
 have HBL := Aside0.mk hbl
 clear hb0 hb1 hbl
 go_enter Try.func50, Try.ntmps50
 go_wp2_with (at_builtin; go_loud (refine wpList_append_bro rfl _ _ 46 rfl Try.underlying46 w.heap.size _ (bytesOf s) 128 HB.out rfl hsz1 w1.heap.size rfl rfl (by rw [HBL.out]; omega) ?_; intro v2 w2 hb2 hl2; have HB2 := Aside0.mk hb2; have HW2 := Aside0.mk (HW.out.trans hl2); clear hb2 hl2))
 clear hcv
 obtain ⟨A2, c2, rfl, hr2⟩ := HB2.out.form
 obtain ⟨n2, hn2, hn3⟩ : ∃ n, n = (bytesOf s ++ [(128 : Int)]).length ∧ n = s.size + 1 := ⟨_, rfl, by rw [List.length_append, HBL.out]; rfl⟩
 rw [← hn2] at HB2 ⊢
 have HN3 := Aside0.mk hn3
 have HN2 := Aside0.mk hn2.symm
 have HR0 : Aside0 (BRO w.heap.size w2 (.slice A2 n2 c2) (bytesOf s ++ [128] ++ List.replicate 0 0)) := ⟨by simpa using HB2.out⟩
 clear hn2 hn3 hsz1 hr2
 go_loopg [3] (zn s) (fun r s3 wr => ∃ (k n : Nat) (A : Option Addr) (c : Nat), k + r = zn s ∧ Aside0 (n = s.size + 1 + k) ∧ s3 = .slice A n c ∧ Aside0 (BRO w.heap.size wr (.slice A n c) (bytesOf s ++ [128] ++ List.replicate k 0)) ∧ Aside0 (Below w.heap.size w wr))
 case atStart => exact ⟨0, n2, A2, c2, by omega, ⟨by rw [HN3.out]⟩, rfl, HR0, HW2⟩
 case round =>
  obtain ⟨k, n, A, c, hk, HN, rfl, HR, HW3⟩ := hrel
  have hzn : zn s = (119 - s.size % 64) % 64 := rfl
  have hnl := HN.out
  have hn41 : n ≤ 2199023255552 := by omega
  have hlen : (bytesOf s ++ [(128 : Int)] ++ List.replicate k 0).length = n := by rw [List.length_append, List.length_append, HBL.out, List.length_replicate, hnl]; rfl
  have HL := Aside0.mk hlen
  have hszr : w.heap.size ≤ wr.heap.size := HW3.out.size
  cases gk with
  | zero =>
   have hq : ((n : Int) % 64 != 56) = false := by simp; omega
   have HR1 : Aside0 (BRO w.heap.size wr (.slice A n c) (filL s)) := ⟨by unfold filL; rw [← show k = zn s by omega]; exact HR.out⟩
   have HL1 : Aside0 ((filL s).length = n) := ⟨by unfold filL; rw [← show k = zn s by omega]; exact hlen⟩
   clear hk hzn hnl hlen HR HL
   obtain ⟨xs0, hxs0⟩ : ∃ x, x = filL s := ⟨_, rfl⟩
   rw [← hxs0] at HR1 HL1
   have HXS0 := Aside0.mk hxs0
   clear hxs0
   go_wp2
   refine wp_loop_rounds 9 ?_
   rw [rounds_succ]
   go_wp2_with fail
   refine (dominoref07_power.calls 60 56 _ _ (pow2_some ⟨56, by decide⟩)).mono ?_
   rintro e wp ⟨rfl, ⟨⟨nd, rfl⟩⟩⟩
   have hb0 := HR1.out.below (pw_below_drewN (Below.refl _ _) nd)
   have hw0 := pw_below_drewN HW3.out nd
   have hz0 := hw0.size
   generalize wr.drewN nd = wq0 at hb0 hw0 hz0 ⊢
   have HB0' := Aside0.mk hb0
   have HW0' := Aside0.mk hw0
   have hlb : (xs0).length + 1 ≤ 140737488355328 := by rw [HL1.out]; omega
   clear hb0 hw0
   go_wp2_with (at_builtin; go_loud (refine wpList_append_bro rfl _ _ 46 rfl Try.underlying46 w.heap.size _ xs0 ((s.size : Int) * 8 / 72057594037927936 % 256) HB0'.out rfl hz0 wq0.heap.size rfl rfl hlb ?_; intro u0 y0 hbx hlx; have HX0 := Aside0.mk hbx; have HY0 := Aside0.mk (HW0'.out.trans hlx); clear hbx hlx hlb hz0))
   obtain ⟨A0, c0, rfl, hq0⟩ := HX0.out.form
   obtain ⟨n0, hn0⟩ : ∃ n, n = (xs0 ++ [(s.size : Int) * 8 / 72057594037927936 % 256]).length := ⟨_, rfl⟩
   obtain ⟨xs1, hx1⟩ : ∃ x, x = xs0 ++ [(s.size : Int) * 8 / 72057594037927936 % 256] := ⟨_, rfl⟩
   rw [← hx1] at HX0 hn0 ⊢
   have HL1' : Aside0 (xs1.length = n + 1) := ⟨by rw [hx1, List.length_append, HL1.out]; rfl⟩
   have HXS1 := Aside0.mk hx1
   rw [← hn0] at HX0 ⊢
   have HNL0 := Aside0.mk hn0
   clear hq0 hx1 hn0
   have HR1x : Aside0 (BRO w.heap.size y0 (.slice A0 n0 c0) xs1) := ⟨HX0.out⟩
   rw [rounds_succ]
   go_wp2_with fail
   refine (dominoref07_power.calls 60 48 _ _ (pow2_some ⟨48, by decide⟩)).mono ?_
   rintro e wp ⟨rfl, ⟨⟨nd, rfl⟩⟩⟩
   have hb1 := HR1x.out.below (pw_below_drewN (Below.refl _ _) nd)
   have hw1 := pw_below_drewN HY0.out nd
   have hz1 := hw1.size
   generalize y0.drewN nd = wq1 at hb1 hw1 hz1 ⊢
   have HB1' := Aside0.mk hb1
   have HW1' := Aside0.mk hw1
   have hlb : (xs1).length + 1 ≤ 140737488355328 := by rw [HL1'.out]; omega
   clear hb1 hw1
   go_wp2_with (at_builtin; go_loud (refine wpList_append_bro rfl _ _ 46 rfl Try.underlying46 w.heap.size _ xs1 ((s.size : Int) * 8 / 281474976710656 % 256) HB1'.out rfl hz1 wq1.heap.size rfl rfl hlb ?_; intro u1 y1 hbx hlx; have HX1 := Aside0.mk hbx; have HY1 := Aside0.mk (HW1'.out.trans hlx); clear hbx hlx hlb hz1))
   obtain ⟨A1, c1, rfl, hq1⟩ := HX1.out.form
   obtain ⟨n1, hn1⟩ : ∃ n, n = (xs1 ++ [(s.size : Int) * 8 / 281474976710656 % 256]).length := ⟨_, rfl⟩
   obtain ⟨xs2, hx2⟩ : ∃ x, x = xs1 ++ [(s.size : Int) * 8 / 281474976710656 % 256] := ⟨_, rfl⟩
   rw [← hx2] at HX1 hn1 ⊢
   have HL2' : Aside0 (xs2.length = n + 2) := ⟨by rw [hx2, List.length_append, HL1'.out]; rfl⟩
   have HXS2 := Aside0.mk hx2
   rw [← hn1] at HX1 ⊢
   have HNL1 := Aside0.mk hn1
   clear hq1 hx2 hn1
   have HR2x : Aside0 (BRO w.heap.size y1 (.slice A1 n1 c1) xs2) := ⟨HX1.out⟩
   rw [rounds_succ]
   go_wp2_with fail
   refine (dominoref07_power.calls 60 40 _ _ (pow2_some ⟨40, by decide⟩)).mono ?_
   rintro e wp ⟨rfl, ⟨⟨nd, rfl⟩⟩⟩
   have hb2 := HR2x.out.below (pw_below_drewN (Below.refl _ _) nd)
   have hw2 := pw_below_drewN HY1.out nd
   have hz2 := hw2.size
   generalize y1.drewN nd = wq2 at hb2 hw2 hz2 ⊢
   have HB2' := Aside0.mk hb2
   have HW2' := Aside0.mk hw2
   have hlb : (xs2).length + 1 ≤ 140737488355328 := by rw [HL2'.out]; omega
   clear hb2 hw2
   go_wp2_with (at_builtin; go_loud (refine wpList_append_bro rfl _ _ 46 rfl Try.underlying46 w.heap.size _ xs2 ((s.size : Int) * 8 / 1099511627776 % 256) HB2'.out rfl hz2 wq2.heap.size rfl rfl hlb ?_; intro u2 y2 hbx hlx; have HX2 := Aside0.mk hbx; have HY2 := Aside0.mk (HW2'.out.trans hlx); clear hbx hlx hlb hz2))
   obtain ⟨A2, c2, rfl, hq2⟩ := HX2.out.form
   obtain ⟨n2, hn2⟩ : ∃ n, n = (xs2 ++ [(s.size : Int) * 8 / 1099511627776 % 256]).length := ⟨_, rfl⟩
   obtain ⟨xs3, hx3⟩ : ∃ x, x = xs2 ++ [(s.size : Int) * 8 / 1099511627776 % 256] := ⟨_, rfl⟩
   rw [← hx3] at HX2 hn2 ⊢
   have HL3' : Aside0 (xs3.length = n + 3) := ⟨by rw [hx3, List.length_append, HL2'.out]; rfl⟩
   have HXS3 := Aside0.mk hx3
   rw [← hn2] at HX2 ⊢
   have HNL2 := Aside0.mk hn2
   clear hq2 hx3 hn2
   have HR3x : Aside0 (BRO w.heap.size y2 (.slice A2 n2 c2) xs3) := ⟨HX2.out⟩
   rw [rounds_succ]
   go_wp2_with fail
   refine (dominoref07_power.calls 60 32 _ _ (pow2_some ⟨32, by decide⟩)).mono ?_
   rintro e wp ⟨rfl, ⟨⟨nd, rfl⟩⟩⟩
   have hb3 := HR3x.out.below (pw_below_drewN (Below.refl _ _) nd)
   have hw3 := pw_below_drewN HY2.out nd
   have hz3 := hw3.size
   generalize y2.drewN nd = wq3 at hb3 hw3 hz3 ⊢
   have HB3' := Aside0.mk hb3
   have HW3' := Aside0.mk hw3
   have hlb : (xs3).length + 1 ≤ 140737488355328 := by rw [HL3'.out]; omega
   clear hb3 hw3
   go_wp2_with (at_builtin; go_loud (refine wpList_append_bro rfl _ _ 46 rfl Try.underlying46 w.heap.size _ xs3 ((s.size : Int) * 8 / 4294967296 % 256) HB3'.out rfl hz3 wq3.heap.size rfl rfl hlb ?_; intro u3 y3 hbx hlx; have HX3 := Aside0.mk hbx; have HY3 := Aside0.mk (HW3'.out.trans hlx); clear hbx hlx hlb hz3))
   obtain ⟨A3, c3, rfl, hq3⟩ := HX3.out.form
   obtain ⟨n3, hn3⟩ : ∃ n, n = (xs3 ++ [(s.size : Int) * 8 / 4294967296 % 256]).length := ⟨_, rfl⟩
   obtain ⟨xs4, hx4⟩ : ∃ x, x = xs3 ++ [(s.size : Int) * 8 / 4294967296 % 256] := ⟨_, rfl⟩
   rw [← hx4] at HX3 hn3 ⊢
   have HL4' : Aside0 (xs4.length = n + 4) := ⟨by rw [hx4, List.length_append, HL3'.out]; rfl⟩
   have HXS4 := Aside0.mk hx4
   rw [← hn3] at HX3 ⊢
   have HNL3 := Aside0.mk hn3
   clear hq3 hx4 hn3
   have HR4x : Aside0 (BRO w.heap.size y3 (.slice A3 n3 c3) xs4) := ⟨HX3.out⟩
   rw [rounds_succ]
   go_wp2_with fail
   refine (dominoref07_power.calls 60 24 _ _ (pow2_some ⟨24, by decide⟩)).mono ?_
   rintro e wp ⟨rfl, ⟨⟨nd, rfl⟩⟩⟩
   have hb4 := HR4x.out.below (pw_below_drewN (Below.refl _ _) nd)
   have hw4 := pw_below_drewN HY3.out nd
   have hz4 := hw4.size
   generalize y3.drewN nd = wq4 at hb4 hw4 hz4 ⊢
   have HB4' := Aside0.mk hb4
   have HW4' := Aside0.mk hw4
   have hlb : (xs4).length + 1 ≤ 140737488355328 := by rw [HL4'.out]; omega
   clear hb4 hw4
   go_wp2_with (at_builtin; go_loud (refine wpList_append_bro rfl _ _ 46 rfl Try.underlying46 w.heap.size _ xs4 ((s.size : Int) * 8 / 16777216 % 256) HB4'.out rfl hz4 wq4.heap.size rfl rfl hlb ?_; intro u4 y4 hbx hlx; have HX4 := Aside0.mk hbx; have HY4 := Aside0.mk (HW4'.out.trans hlx); clear hbx hlx hlb hz4))
   obtain ⟨A4, c4, rfl, hq4⟩ := HX4.out.form
   obtain ⟨n4, hn4⟩ : ∃ n, n = (xs4 ++ [(s.size : Int) * 8 / 16777216 % 256]).length := ⟨_, rfl⟩
   obtain ⟨xs5, hx5⟩ : ∃ x, x = xs4 ++ [(s.size : Int) * 8 / 16777216 % 256] := ⟨_, rfl⟩
   rw [← hx5] at HX4 hn4 ⊢
   have HL5' : Aside0 (xs5.length = n + 5) := ⟨by rw [hx5, List.length_append, HL4'.out]; rfl⟩
   have HXS5 := Aside0.mk hx5
   rw [← hn4] at HX4 ⊢
   have HNL4 := Aside0.mk hn4
   clear hq4 hx5 hn4
   have HR5x : Aside0 (BRO w.heap.size y4 (.slice A4 n4 c4) xs5) := ⟨HX4.out⟩
   rw [rounds_succ]
   go_wp2_with fail
   refine (dominoref07_power.calls 60 16 _ _ (pow2_some ⟨16, by decide⟩)).mono ?_
   rintro e wp ⟨rfl, ⟨⟨nd, rfl⟩⟩⟩
   have hb5 := HR5x.out.below (pw_below_drewN (Below.refl _ _) nd)
   have hw5 := pw_below_drewN HY4.out nd
   have hz5 := hw5.size
   generalize y4.drewN nd = wq5 at hb5 hw5 hz5 ⊢
   have HB5' := Aside0.mk hb5
   have HW5' := Aside0.mk hw5
   have hlb : (xs5).length + 1 ≤ 140737488355328 := by rw [HL5'.out]; omega
   clear hb5 hw5
   go_wp2_with (at_builtin; go_loud (refine wpList_append_bro rfl _ _ 46 rfl Try.underlying46 w.heap.size _ xs5 ((s.size : Int) * 8 / 65536 % 256) HB5'.out rfl hz5 wq5.heap.size rfl rfl hlb ?_; intro u5 y5 hbx hlx; have HX5 := Aside0.mk hbx; have HY5 := Aside0.mk (HW5'.out.trans hlx); clear hbx hlx hlb hz5))
   obtain ⟨A5, c5, rfl, hq5⟩ := HX5.out.form
   obtain ⟨n5, hn5⟩ : ∃ n, n = (xs5 ++ [(s.size : Int) * 8 / 65536 % 256]).length := ⟨_, rfl⟩
   obtain ⟨xs6, hx6⟩ : ∃ x, x = xs5 ++ [(s.size : Int) * 8 / 65536 % 256] := ⟨_, rfl⟩
   rw [← hx6] at HX5 hn5 ⊢
   have HL6' : Aside0 (xs6.length = n + 6) := ⟨by rw [hx6, List.length_append, HL5'.out]; rfl⟩
   have HXS6 := Aside0.mk hx6
   rw [← hn5] at HX5 ⊢
   have HNL5 := Aside0.mk hn5
   clear hq5 hx6 hn5
   have HR6x : Aside0 (BRO w.heap.size y5 (.slice A5 n5 c5) xs6) := ⟨HX5.out⟩
   rw [rounds_succ]
   go_wp2_with fail
   refine (dominoref07_power.calls 60 8 _ _ (pow2_some ⟨8, by decide⟩)).mono ?_
   rintro e wp ⟨rfl, ⟨⟨nd, rfl⟩⟩⟩
   have hb6 := HR6x.out.below (pw_below_drewN (Below.refl _ _) nd)
   have hw6 := pw_below_drewN HY5.out nd
   have hz6 := hw6.size
   generalize y5.drewN nd = wq6 at hb6 hw6 hz6 ⊢
   have HB6' := Aside0.mk hb6
   have HW6' := Aside0.mk hw6
   have hlb : (xs6).length + 1 ≤ 140737488355328 := by rw [HL6'.out]; omega
   clear hb6 hw6
   go_wp2_with (at_builtin; go_loud (refine wpList_append_bro rfl _ _ 46 rfl Try.underlying46 w.heap.size _ xs6 ((s.size : Int) * 8 / 256 % 256) HB6'.out rfl hz6 wq6.heap.size rfl rfl hlb ?_; intro u6 y6 hbx hlx; have HX6 := Aside0.mk hbx; have HY6 := Aside0.mk (HW6'.out.trans hlx); clear hbx hlx hlb hz6))
   obtain ⟨A6, c6, rfl, hq6⟩ := HX6.out.form
   obtain ⟨n6, hn6⟩ : ∃ n, n = (xs6 ++ [(s.size : Int) * 8 / 256 % 256]).length := ⟨_, rfl⟩
   obtain ⟨xs7, hx7⟩ : ∃ x, x = xs6 ++ [(s.size : Int) * 8 / 256 % 256] := ⟨_, rfl⟩
   rw [← hx7] at HX6 hn6 ⊢
   have HL7' : Aside0 (xs7.length = n + 7) := ⟨by rw [hx7, List.length_append, HL6'.out]; rfl⟩
   have HXS7 := Aside0.mk hx7
   rw [← hn6] at HX6 ⊢
   have HNL6 := Aside0.mk hn6
   clear hq6 hx7 hn6
   have HR7x : Aside0 (BRO w.heap.size y6 (.slice A6 n6 c6) xs7) := ⟨HX6.out⟩
   rw [rounds_succ]
   go_wp2_with fail
   refine (dominoref07_power.calls 60 0 _ _ (pow2_some ⟨0, by decide⟩)).mono ?_
   rintro e wp ⟨rfl, ⟨⟨nd, rfl⟩⟩⟩
   have hb7 := HR7x.out.below (pw_below_drewN (Below.refl _ _) nd)
   have hw7 := pw_below_drewN HY6.out nd
   have hz7 := hw7.size
   generalize y6.drewN nd = wq7 at hb7 hw7 hz7 ⊢
   have HB7' := Aside0.mk hb7
   have HW7' := Aside0.mk hw7
   have hlb : (xs7).length + 1 ≤ 140737488355328 := by rw [HL7'.out]; omega
   clear hb7 hw7
   go_wp2_with (at_builtin; go_loud (refine wpList_append_bro rfl _ _ 46 rfl Try.underlying46 w.heap.size _ xs7 ((s.size : Int) * 8 % 256) HB7'.out rfl hz7 wq7.heap.size rfl rfl hlb ?_; intro u7 y7 hbx hlx; have HX7 := Aside0.mk hbx; have HY7 := Aside0.mk (HW7'.out.trans hlx); clear hbx hlx hlb hz7))
   obtain ⟨A7, c7, rfl, hq7⟩ := HX7.out.form
   obtain ⟨n7, hn7⟩ : ∃ n, n = (xs7 ++ [(s.size : Int) * 8 % 256]).length := ⟨_, rfl⟩
   obtain ⟨xs8, hx8⟩ : ∃ x, x = xs7 ++ [(s.size : Int) * 8 % 256] := ⟨_, rfl⟩
   rw [← hx8] at HX7 hn7 ⊢
   have HL8' : Aside0 (xs8.length = n + 8) := ⟨by rw [hx8, List.length_append, HL7'.out]; rfl⟩
   have HXS8 := Aside0.mk hx8
   rw [← hn7] at HX7 ⊢
   have HNL7 := Aside0.mk hn7
   clear hq7 hx8 hn7
   have HR8x : Aside0 (BRO w.heap.size y7 (.slice A7 n7 c7) xs8) := ⟨HX7.out⟩
   rw [rounds_succ]
   have hrr := HR8x.out.form
   obtain ⟨A9, c9, hv9, hr9⟩ := hrr
   obtain ⟨rfl, h10, rfl⟩ := Value.slice.inj hv9
   rw [← h10] at hr9
   have hcs := string_of_reads (src := 46) (dst := 9) (e := 5) (c := c7) Try.underlying46 Try.underlying5 Try.underlying9 hr9
   clear hr9 hv9 h10
   go_wp2
   go_ret
   have e : filF s = strOfNums xs8 := by
    unfold filF
    rw [← HXS0.out, HXS8.out, HXS7.out, HXS6.out, HXS5.out, HXS4.out, HXS3.out, HXS2.out, HXS1.out]
    simp [filB]
   exact ⟨by rw [e]; rfl, HY7.out⟩
  | succ r =>
   have hq : ((n : Int) % 64 != 56) = true := by simp; omega
   have hlb : (bytesOf s ++ [(128 : Int)] ++ List.replicate k 0).length + 1 ≤ 140737488355328 := by rw [hlen]; omega
   clear hzn hnl hlen
   go_wp2_with (at_builtin; go_loud (refine wpList_append_bro rfl _ _ 46 rfl Try.underlying46 w.heap.size _ (bytesOf s ++ [128] ++ List.replicate k 0) 0 HR.out rfl hszr wr.heap.size rfl rfl hlb ?_; intro v4 w4 hb4 hl4; have HB4 := Aside0.mk hb4; have HW4 := Aside0.mk (HW3.out.trans hl4); clear hb4 hl4))
   obtain ⟨A4, c4, rfl, hr4⟩ := HB4.out.form
   go_roundg r
   case measure => omega
   case rel =>
    have e1 : bytesOf s ++ [(128 : Int)] ++ List.replicate k 0 ++ [0] = bytesOf s ++ [128] ++ List.replicate (k + 1) 0 := by rw [List.replicate_succ', List.append_assoc]
    have e2 : (bytesOf s ++ [(128 : Int)] ++ List.replicate k 0 ++ [0]).length = n + 1 := by rw [List.length_append, HL.out]; rfl
    refine ⟨k + 1, n + 1, A4, c4, by omega, ⟨by rw [HN.out]; omega⟩, by rw [e2], ⟨?_⟩, HW4⟩
    rw [← e1, ← e2]
    exact HB4.out

end Go.Proofs.Ytghdmlcmoeoohaa.PKfx
