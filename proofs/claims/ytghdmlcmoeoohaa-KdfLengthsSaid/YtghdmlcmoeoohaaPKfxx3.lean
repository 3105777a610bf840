-- printed for this claim by a program of the claim (wip/tools/pp.py over the kit's print)
import Derived.Test.YtghdmlcmoeoohaaPKfxx0
import Derived.Test.YtghdmlcmoeoohaaPKfxx2
namespace Go.Proofs.Ytghdmlcmoeoohaa.PKfx
open Go.RowKit Go.Proofs.YtghdmlcmoeoohaaW.PrintWords Go.Proofs.YtghdmlcmoeoohaaW.PrintLast Go.Proofs.YtghdmlcmoeoohaaW.PrintMore
attribute [local go_sem] max2_int min2_int max_two min_two max_three min_three max_four min_four   -- for this text's walks alone
set_option linter.unusedVariables false
set_option linter.unusedSimpArgs false

attribute [local go_sem] isSome_setCell_
def shaPs (n : Nat) : List Int := (prF 1000 n [] 2).getD []
theorem shaPs_64 : prF 1000 64 [] 2 = some (shaPs 64) ∧ (shaPs 64).length = 64 := by constructor <;> decide +kernel
theorem shaPs_8 : prF 1000 8 [] 2 = some (shaPs 8) ∧ (shaPs 8).length = 8 := by constructor <;> decide +kernel
def shaK : List Int := rootL cubeS (shaPs 64)
def shaH : List Int := rootL squareS (shaPs 8)
theorem shaK_length : shaK.length = 64 := by unfold shaK; rw [rootL_length, shaPs_64.2]
theorem shaH_length : shaH.length = 8 := by unfold shaH; rw [rootL_length, shaPs_8.2]
/-- A hash in block g: its state, and its constants in a row of their own. -/
structure HashAt (B g : Nat) (st : List Int) (w : World) : Prop where
  low : B ≤ g
  len : st.length = 8
  row : ∃ gk c, w.heap[g]? = some (.cells (nums .u32 st ++ [Value.slice (some ⟨gk, 0, none⟩) 64 c]).toArray 76 (0, 0)) ∧ gk ≠ g ∧ B ≤ gk ∧ ∀ j, j < 64 → w.cell? ⟨gk, j, none⟩ = some (.int .u32 (shaK.getD j 0))
theorem HashAt.below {B g : Nat} {st : List Int} {w w' : World} (h : HashAt B g st w) (hb : Below w.heap.size w w') : HashAt B g st w' := by
  obtain ⟨gk, c, h1, h2, h3, h4⟩ := h.row
  exact ⟨h.low, h.len, gk, c, blk_below h1 hb, h2, h3, fun j hj => up_ hb (h4 j hj)⟩
theorem HashAt.lower {B B2 g : Nat} {st : List Int} {w : World} (h : HashAt B g st w) (hB : B2 ≤ B) : HashAt B2 g st w := by
  obtain ⟨gk, c, h1, h2, h3, h4⟩ := h.row
  exact ⟨Nat.le_trans hB h.low, h.len, gk, c, h1, h2, Nat.le_trans hB h3, h4⟩
theorem own_cells_ {w : World} {base : Nat} {e : TypeId} {k : IntKind} {v : Value} {xs : List Int} (h : w.ownsRow base e 1 v xs.length (nums k xs)) (h0 : 0 < xs.length) :
    ∃ gk c, v = .slice (some ⟨gk, 0, none⟩) xs.length c ∧ base ≤ gk ∧ gk < w.heap.size ∧ ∀ j, j < xs.length → w.cell? ⟨gk, j, none⟩ = some (.int k (xs.getD j 0)) := by
  rcases h.2 with ⟨_, hz⟩ | ⟨g, cap, cur, hv, hbg, hg, hnc, hcm, hcs, htake⟩
  · omega
  · subst hv
    refine ⟨g, cap, rfl, hbg, (h.lt g rfl).2, fun j hj => ?_⟩
    have hc := h.cells (g := g) rfl j (.int k (xs.getD j 0)) (by simp [nums, List.getD_eq_getElem?_getD, hj])
    have e : (⟨g, 0, none⟩ : Addr).add j = ⟨g, j, none⟩ := by unfold Addr.add; split <;> simp_all
    rw [e] at hc
    exact hc
theorem sl8_full (g : Nat) (W : World) : (Instr.sliceAt 73 (.pointer (some ⟨g, 0, none⟩)) none none none).run Try.prog W = .ok (.slice (some ⟨g, 0, none⟩) 8 8) W := by
  have hl : Try.prog.arrayLen 73 = 8 := by kernel_rfl
  have hz : (sizeOf (Try.prog.elem 73)).run Try.prog W = .ok 1 W := by
    have hi : (Try.prog.info? (Try.prog.elem 73)).map (·.size) = some 1 := by kernel_rfl
    obtain ⟨i, h1, h2⟩ := Option.map_eq_some_iff.1 hi
    simp [sizeOf, typeInfo, h1, h2]
  rw [run_sliceAt_array_all W 73 ⟨g, 0, none⟩ (Try.underlying73.trans (by kernel_rfl)), hz, hl]
  rfl
set_option maxHeartbeats 4000000 in
set_option maxRecDepth 100000 in
theorem fresh_calls (w : World) :
    Calls Try.prog 44 #[] w fun e w' => (∃ g, e = .returned (.pointer (some ⟨g, 0, none⟩)) ∧ HashAt w.heap.size g shaH w') ∧ Below w.heap.size w w' := by
  go_enter Try.func44, Try.ntmps44
  go_wp2_with fail
  refine (roots_cube 1000 64 (shaPs 64) _ shaPs_64.1 (by decide) (by decide) (by rw [shaPs_64.2]; decide)).mono ?_
  rintro e w1 ⟨⟨v, rfl, ho⟩, hb⟩
  rw [shaPs_64.2] at ho
  have ho2 : w1.ownsRow w.heap.size 72 1 v shaK.length (nums .u32 shaK) := by rw [shaK_length]; exact ho
  obtain ⟨gk, c, rfl, hlow, hlt, hcells⟩ := own_cells_ ho2 (by rw [shaK_length]; decide)
  rw [shaK_length] at hcells ⊢
  have HL := Aside0.mk (And.intro hlow hlt)
  have HC := Aside0.mk hcells
  have HB1 := Aside0.mk hb
  clear ho ho2 hlow hlt hcells hb
  go_wp2_with fail
  have HT_ : Aside0 (rtab .any (opsOf Try.f44 2) = rtab .any (opsOf Try.f44 2)) := ⟨rfl⟩
  refine start_ (n := 6) (S := fun _ => True) (ds := []) #[false, false, false, false, false, false] (by kernel_rfl) rfl rfl trivial (fun hHeld => ?_)
  clear hHeld
  generalize hw2 : (w1.alloc _).drew = w2
  have h2g : w2.heap[w1.heap.size]? = some (.cells (List.replicate 8 (Value.int .u32 0) ++ [Value.slice (some ⟨gk, 0, none⟩) 64 c]).toArray 76 (0, 0)) := by rw [← hw2]; exact heap_alloc_new _ _
  have h2b : Below w1.heap.size w1 w2 := by rw [← hw2]; exact below_drew1 ((Below.refl _ _).alloc (Nat.le_refl _) _)
  have h2z : w2.heap.size = w1.heap.size + 1 := by rw [← hw2]; simp
  have H2 := Aside0.mk (And.intro h2g (And.intro h2b h2z))
  clear hw2 h2g h2b h2z
  refine pure_ (i := 0) (N := some 5) (v := ?_) (a' := ?_) #[true, false, false, false, false, false] rfl rfl (any_of HT_.out (by kernel_rfl)) (fun _ _ _ h => h) (Or.inl ⟨by rfl, ?_⟩) ?_ ?_
  rotate_left
  · intro w'
    go_simp
    with_reducible rfl
  rotate_left
  · simp only [Act.put, List.setIfInBounds_toArray, List.set_cons_zero, List.set_cons_succ, i64_w, i32_w]
    rfl
  refine pure_ (i := 1) (N := some 6) (v := ?_) (a' := ?_) #[true, true, false, false, false, false] rfl rfl (any_of HT_.out (by kernel_rfl)) (fun _ _ _ h => h) (Or.inl ⟨by rfl, ?_⟩) ?_ ?_
  rotate_left
  · intro w'
    go_simp
    with_reducible rfl
  rotate_left
  · simp only [Act.put, List.setIfInBounds_toArray, List.set_cons_zero, List.set_cons_succ, i64_w, i32_w]
    rfl
  refine pure_ (i := 2) (N := some 7) (v := ?_) (a' := ?_) #[true, true, true, false, false, false] rfl rfl (any_of HT_.out (by kernel_rfl)) (fun _ _ _ h => h) (Or.inl ⟨by rfl, ?_⟩) ?_ ?_
  rotate_left
  · intro w'
    go_simp
    with_reducible rfl
  rotate_left
  · simp only [Act.put, List.setIfInBounds_toArray, List.set_cons_zero, List.set_cons_succ, i64_w, i32_w]
    rfl
  have hsl := sl8_full w1.heap.size
  refine pure_ (i := 3) (N := some 8) (v := ?_) (a' := ?_) #[true, true, true, true, false, false] rfl rfl (any_of HT_.out (by kernel_rfl)) (fun _ _ _ h => h) (Or.inl ⟨by rfl, ?_⟩) ?_ ?_
  rotate_left
  · intro w'
    go_simp
    with_reducible rfl
  rotate_left
  · simp only [Act.put, List.setIfInBounds_toArray, List.set_cons_zero, List.set_cons_succ, i64_w, i32_w]
    rfl
  clear hsl
  refine one_ (i := 4) (N := some 9) #[true, true, true, true, true, false] rfl rfl (one_of HT_.out (by kernel_rfl)) (by decide) (fun K hK => ?_)
  refine goes_ (N := some 9) Try.func55 (by kernel_rfl) rfl #[.int .i64 8, .func (.func 57) #[] #[]] (by rfl) rfl rfl (by (try simp only [List.map_toArray, List.map_cons, List.map_nil]); first | done | rfl) ?_
  refine (roots_square 1000 8 (shaPs 8) _ shaPs_8.1 (by decide) (by decide) (by rw [shaPs_8.2]; decide)).mono ?_
  rintro e w3 ⟨⟨v, rfl, ho⟩, hb⟩
  have ho2 : w3.ownsRow w2.heap.size 72 1 v shaH.length (nums .u32 shaH) := by rw [shaH_length, ← shaPs_8.2]; exact ho
  obtain ⟨gh, ch, rfl, hlow2, hlt2, hc2⟩ := own_cells_ ho2 (by rw [shaH_length]; decide)
  rw [shaH_length] at hc2
  have H3 := Aside0.mk (And.intro hc2 hb)
  clear hc2 hb ho ho2 hlow2 hlt2
  rw [shaH_length]
  refine ⟨_, rfl, ?_⟩
  refine hK.out _ _ trivial (fun _ => ?_)
  clear hK K
  refine norm_ (a' := ?_) ?_ ?_
  rotate_left
  · show Act.put _ (some 9) _ = _
    simp only [Act.put, List.setIfInBounds_toArray, List.set_cons_zero, List.set_cons_succ, i64_w, i32_w]
    rfl
  obtain ⟨h2g, h2b, h2z⟩ := H2.out
  obtain ⟨hc2, hb3⟩ := H3.out
  have hg3 := blk_below h2g hb3
  have hz1 := HB1.out.size
  have hB3 : Below w1.heap.size w1 w3 := h2b.trans (hb3.mono (by omega))
  clear h2g h2b h2z
  refine one_ (i := 5) (N := some 10) #[true, true, true, true, true, true] rfl rfl (one_of HT_.out (by kernel_rfl)) (by decide) (fun K hK => ?_)
  refine step_copy_splice rfl (.tmp 8) (.tmp 9) 74 74 rfl 72 Try.underlying74 (by kernel_rfl) (some ⟨w1.heap.size, 0, none⟩) (some ⟨gh, 0, none⟩) 8 8 8 ch rfl rfl w1.heap.size 0 _ 76 hg3 (nums .u32 shaH) (by simp [nums, shaH_length]) ?_ (by simp [nums, shaH_length]) (by intro v hv; simp only [nums, List.mem_map] at hv; obtain ⟨n, _, rfl⟩ := hv; rfl) w1.heap.size w1 hB3 (Nat.le_refl _) ?_
  · intro _
    refine ⟨rfl, _, rfl, fun j v hv => ?_⟩
    simp only [nums, List.getElem?_map, Option.map_eq_some_iff] at hv
    obtain ⟨n, hn, rfl⟩ := hv
    have hj := (List.getElem?_eq_some_iff.1 hn).1
    rw [shaH_length] at hj
    have e : (⟨gh, 0, none⟩ : Addr).add j = ⟨gh, j, none⟩ := by unfold Addr.add; split <;> simp_all
    rw [e, hc2 j hj, List.getD_eq_getElem?_getD, hn]
    rfl
  intro w4 hg4 hb4
  have H4 := Aside0.mk (And.intro hg4.out hb4)
  clear hg4 hb4 hg3 hc2 hb3 hB3
  refine hK.out _ _ trivial (fun _ => ?_)
  clear hK K
  refine norm_ (a' := ?_) ?_ ?_
  rotate_left
  · show Act.put _ (some 10) _ = _
    simp only [Act.put, List.setIfInBounds_toArray, List.set_cons_zero, List.set_cons_succ, i64_w, i32_w]
    rfl
  refine done_ (done_of HT_.out (by kernel_rfl)) ?_
  go_wp2
  go_ret
  obtain ⟨hg4, hb4⟩ := H4.out
  obtain ⟨hlow, hlt⟩ := HL.out
  refine ⟨⟨w1.heap.size, rfl, HB1.out.size, shaH_length, gk, c, ?_, by omega, hlow, fun j hj => ?_⟩, HB1.out.trans (hb4.mono HB1.out.size)⟩
  · rw [hg4]
    congr 3
  · exact (hb4.cell (p := ⟨gk, j, none⟩) hlt).trans (HC.out j hj)

/-! ### turns to the right, laid on one another -/
def rt (x : Int) (m : Nat) : Int := Go.bits .or .u32 (IntKind.u32.wrap (x * 2 ^ (32 - m))) (x / 2 ^ m)
def rgt (x : Int) (l : List Nat) : Int := l.foldl (fun y m => Go.bits .xor .u32 y (rt x m)) 0
theorem rt_and : ∀ m : Fin 32, 0 < m.val → Go.bits .and .u64 (IntKind.u64.wrap (-(m.val : Int))) 31 = 32 - (m.val : Int) := by decide +kernel
theorem rt_some (x : Int) (m : Nat) (h0 : 0 < m) (h1 : m < 32) : bits_RotateLeft32.f x (-(m : Int)) = some (rt x m) := by
  have e := rt_and ⟨m, h1⟩ h0
  have e2 : IntKind.u64.wrap (32 - (32 - (m : Int))) = m := by rw [IntKind.wrap_u64]; omega
  unfold bits_RotateLeft32.f
  rw [e, e2, if_pos (by omega), if_pos (by omega)]
  unfold rt shl shr
  have e3 : min (32 - (m : Int)).toNat IntKind.u32.bits = 32 - m := by (simp [IntKind.bits]; try omega)
  have e4 : min (m : Int).toNat IntKind.u32.bits = m := by (simp [IntKind.bits]; try omega)
  rw [e3, e4]
theorem rgt_snoc (x : Int) (l : List Nat) (k : Nat) (h : k < l.length) : rgt x (l.take (k + 1)) = Go.bits .xor .u32 (rgt x (l.take k)) (rt x (l.getD k 0)) := by
  unfold rgt
  rw [List.take_succ_eq_append_getElem h, List.foldl_append]
  simp [List.getD_eq_getElem?_getD, h]
set_option maxHeartbeats 1000000 in
theorem right_c (x : Int) (l : List Nat) (n c g : Nat) (w : World) (hn : l.length = n) (hl : ∀ m ∈ l, 0 < m ∧ m < 32) (hlen : n ≤ 10) (hc : ∀ j, j < n → w.cell? ⟨g, j, none⟩ = some (.int .i64 (l.getD j 0 : Nat))) :
    Calls Try.prog 58 #[.int .u32 x, .slice (some ⟨g, 0, none⟩) n c] w fun e w' => e = .returned (.int .u32 (rgt x l)) ∧ Drawn0 w w' := by
  have HC := Aside0.mk hc
  have HL := Aside0.mk hl
  have HN := Aside0.mk hn
  clear hc hl hn
  go_enter Try.func58, Try.ntmps58
  go_wp2
  go_loopg [4, 6, 9] n (fun r s4 s6 s9 wr => ∃ k : Nat, k + r = n ∧ s9 = .int .i64 (k : Int) ∧ s4 = .int .u32 (rgt x (l.take k)) ∧ Aside0 (Drawn0 w wr))
  case atStart => exact ⟨0, by omega, rfl, rfl, ⟨⟨0, rfl⟩⟩⟩
  case round =>
    obtain ⟨k, hk, rfl, rfl, HD⟩ := hrel
    cases gk with
    | zero =>
      have hk' : n ≤ k := by omega
      go_wp2
      go_ret
      have e : k = l.length := by rw [HN.out]; omega
      refine ⟨?_, HD.out⟩
      rw [e, List.take_length]
      rfl
    | succ r =>
      have hk' : k < n := by omega
      have hm := HL.out (l.getD k 0) (by rw [List.getD_eq_getElem?_getD, List.getElem?_eq_getElem (by rw [HN.out]; exact hk')]; exact List.getElem_mem _)
      have hx : wr.cell? ⟨g, k, none⟩ = some (.int .i64 (l.getD k 0 : Nat)) := by
        obtain ⟨⟨d, hd⟩⟩ := HD.out
        rw [hd]; simpa using HC.out k hk'
      have HS := Aside0.mk (rgt_snoc x l k (by rw [HN.out]; exact hk'))
      generalize l.getD k 0 = m at hm hx HS
      obtain ⟨hm0, hm1⟩ := hm
      have HR := Aside0.mk (rt_some x m hm0 hm1)
      go_wp2_with fail
      refine (bits_RotateLeft32.calls x _ _ _ HR.out).mono ?_
      rintro e w1 ⟨rfl, ⟨nd, rfl⟩⟩
      go_wp2
      go_roundg r
      case measure => omega
      case rel => exact ⟨k + 1, by omega, by go_num, by rw [HS.out], ⟨HD.out.step nd⟩⟩

def wLoad (s : ByteArray) (k : Nat) : Int := Go.bits .or .u32 (Go.bits .or .u32 (Go.bits .or .u32 (bt s (4 * (k : Int)) * 16777216) (bt s (4 * (k : Int) + 1) * 65536)) (bt s (4 * (k : Int) + 2) * 256)) (bt s (4 * (k : Int) + 3))
def wNext (l : List Int) (k : Nat) : Int :=
  IntKind.u32.wrap (IntKind.u32.wrap (IntKind.u32.wrap (l.getD (k - 16) 0 + l.getD (k - 7) 0) + Go.bits .xor .u32 (rgt (l.getD (k - 15) 0) [7, 18]) (l.getD (k - 15) 0 / 8)) + Go.bits .xor .u32 (rgt (l.getD (k - 2) 0) [17, 19]) (l.getD (k - 2) 0 / 1024))
def wSet (s : ByteArray) (l : List Int) (k : Nat) : List Int := l.set k (if k < 16 then wLoad s k else wNext l k)
def wF (s : ByteArray) : Nat → List Int
  | 0 => List.replicate 64 0
  | k + 1 => wSet s (wF s k) k
theorem wF_length (s : ByteArray) (k : Nat) : (wF s k).length = 64 := by
  induction k with
  | zero => simp [wF]
  | succ k ih => simp [wF, wSet, ih]
theorem u32b_ {b : Int} (h : 0 ≤ b ∧ b ≤ 255) : IntKind.u32.wrap b = b ∧ IntKind.u32.wrap (b * 256) = b * 256 ∧ IntKind.u32.wrap (b * 16777216) = b * 16777216 ∧ IntKind.u32.wrap (b * 65536) = b * 65536 := by
  simp only [IntKind.wrap_u32]
  omega
theorem nums_at (k : IntKind) (l : List Int) (i : Nat) (h : i < l.length) : (nums k l).toArray[i]? = some (.int k (l.getD i 0)) := by
  simp [nums, List.getD_eq_getElem?_getD, h]
theorem nums_set (k : IntKind) (l : List Int) (i : Nat) (v : Int) : (nums k l).toArray.setIfInBounds i (.int k v) = (nums k (l.set i v)).toArray := by
  simp [nums, List.map_set]
/-- A row of 64 words in a block of the call's own. -/
structure RowAt (gw : Nat) (T : TypeId) (k : IntKind) (l : List Int) (w w' : World) : Prop where
  row : w'.heap[gw]? = some (.cells (nums k l).toArray T (0, 0))
  below : Below gw w w'
theorem RowAt.alloc {gw : Nat} {T : TypeId} {k : IntKind} {l : List Int} {w w' : World} (h : RowAt gw T k l w w') (o : Obj) : RowAt gw T k l w (w'.alloc o) :=
  ⟨blk_alloc h.row _, h.below.alloc (Nat.le_of_lt (blk_lt h.row)) _⟩
theorem RowAt.drewN {gw : Nat} {T : TypeId} {k : IntKind} {l : List Int} {w w' : World} (h : RowAt gw T k l w w') (n : Nat) : RowAt gw T k l w (w'.drewN n) :=
  ⟨blk_drewN h.row n, pw_below_drewN h.below n⟩
theorem RowAt.drew {gw : Nat} {T : TypeId} {k : IntKind} {l : List Int} {w w' : World} (h : RowAt gw T k l w w') : RowAt gw T k l w w'.drew :=
  ⟨blk_drew h.row, below_drew1 h.below⟩
theorem RowAt.cell {gw : Nat} {T : TypeId} {k : IntKind} {l : List Int} {w w' : World} (h : RowAt gw T k l w w') (i : Nat) (hi : i < l.length) : w'.cell? ⟨gw, i, none⟩ = some (.int k (l.getD i 0)) := by
  have := blk_cell h.row i
  rw [nums_at _ _ _ hi] at this
  exact this
theorem RowAt.set {gw : Nat} {T : TypeId} {k : IntKind} {l : List Int} {w w' : World} (h : RowAt gw T k l w w') (i : Nat) (v : Int) : RowAt gw T k (l.set i v) w (w'.setCell ⟨gw, i, none⟩ (.int k v)) :=
  ⟨blk_put h.row i _ (nums_set k l i v), h.below.setCell (p := ⟨gw, i, none⟩) (Nat.le_refl _) _⟩
/-- The same, but for the word at k. -/
def RowX (gw : Nat) (T : TypeId) (kd : IntKind) (l : List Int) (k : Nat) (w W : World) : Prop := ∃ v, RowAt gw T kd (l.set k v) w W
theorem RowX.of {gw : Nat} {T : TypeId} {kd : IntKind} {l : List Int} {w W : World} (h : RowAt gw T kd l w W) (k : Nat) : RowX gw T kd l k w W := ⟨l.getD k 0, by
  have e : l.set k (l.getD k 0) = l := by
    apply List.ext_getElem?
    intro i
    rw [List.getElem?_set]
    split
    · rename_i e; subst e
      split
      · rw [List.getD_eq_getElem?_getD]
        simp [*]
      · rename_i h2; simp [List.getElem?_eq_none (Nat.le_of_not_lt h2)]
    · rfl
  rw [e]; exact h⟩
theorem RowX.alloc {gw : Nat} {T : TypeId} {kd : IntKind} {l : List Int} {k : Nat} {w W : World} (h : RowX gw T kd l k w W) (o : Obj) : RowX gw T kd l k w (W.alloc o) := h.imp fun _ h => h.alloc o
theorem RowX.drewN {gw : Nat} {T : TypeId} {kd : IntKind} {l : List Int} {k : Nat} {w W : World} (h : RowX gw T kd l k w W) (n : Nat) : RowX gw T kd l k w (W.drewN n) := h.imp fun _ h => h.drewN n
theorem RowX.drew {gw : Nat} {T : TypeId} {kd : IntKind} {l : List Int} {k : Nat} {w W : World} (h : RowX gw T kd l k w W) : RowX gw T kd l k w W.drew := h.imp fun _ h => h.drew
theorem RowX.set {gw : Nat} {T : TypeId} {kd : IntKind} {l : List Int} {k : Nat} {w W : World} (h : RowX gw T kd l k w W) (v : Int) : RowAt gw T kd (l.set k v) w (W.setCell ⟨gw, k, none⟩ (.int kd v)) := by
  obtain ⟨u, h⟩ := h
  have := h.set k v
  rwa [List.set_set] at this
theorem RowX.put {gw : Nat} {T : TypeId} {kd : IntKind} {l : List Int} {k : Nat} {w W : World} (h : RowX gw T kd l k w W) (v : Int) : RowX gw T kd l k w (W.setCell ⟨gw, k, none⟩ (.int kd v)) := ⟨v, h.set v⟩
theorem RowX.cell {gw : Nat} {T : TypeId} {kd : IntKind} {l : List Int} {k : Nat} {w W : World} (h : RowX gw T kd l k w W) (i : Nat) (hi : i < l.length) (hik : k ≠ i) : W.cell? ⟨gw, i, none⟩ = some (.int kd (l.getD i 0)) := by
  obtain ⟨u, h⟩ := h
  rw [h.cell i (by simpa using hi), List.getD_eq_getElem?_getD, List.getElem?_set_ne hik, ← List.getD_eq_getElem?_getD]
/-- Whatever a cell holds. -/
def cellD (W : World) (a : Addr) : Value := (W.cell? a).getD undef
theorem cellD_some {W : World} {a : Addr} {v : Value} (h : W.cell? a = some v) : W.cell? a = some (cellD W a) := by unfold cellD; rw [h]; rfl
theorem RowX.at_ {gw : Nat} {T : TypeId} {kd : IntKind} {l : List Int} {k : Nat} {w W : World} (h : RowX gw T kd l k w W) (hk : k < l.length) : W.cell? ⟨gw, k, none⟩ = some (cellD W ⟨gw, k, none⟩) ∧ W.frozen? ⟨gw, k, none⟩ = false := by
  obtain ⟨u, h⟩ := h
  exact ⟨cellD_some (h.cell k (by simpa using hk)), blk_frozen h.row k⟩
theorem bt4_ (s : ByteArray) (a : Nat) (i : Int) (hi : i = (a : Int)) (h : a < s.size) : (∀ h : a < s.size, ((s[a]'h).toNat : Int) = bt s i) ∧ i.toNat = a ∧ (i < (s.size : Int)) ∧ 0 ≤ i := by
  subst hi
  refine ⟨fun h => ?_, by omega, by omega, by omega⟩
  have h2 := bt_at s (a : Int) (by rw [Int.toNat_natCast]; exact h)
  simpa only [Int.toNat_natCast] using h2
structure S8 where
  (a b c d e f g h : Int)
def rnd (kk ww : Int) (v : S8) : S8 :=
  ⟨IntKind.u32.wrap (IntKind.u32.wrap (IntKind.u32.wrap (IntKind.u32.wrap (IntKind.u32.wrap (v.h + rgt v.e [6, 11, 25]) + Go.bits .xor .u32 v.g (Go.bits .and .u32 v.e (Go.bits .xor .u32 v.f v.g))) + kk) + ww) + IntKind.u32.wrap (rgt v.a [2, 13, 22] + Go.bits .or .u32 (Go.bits .and .u32 v.a v.b) (Go.bits .and .u32 v.c (Go.bits .or .u32 v.a v.b)))),
    v.a, v.b, v.c,
    IntKind.u32.wrap (v.d + IntKind.u32.wrap (IntKind.u32.wrap (IntKind.u32.wrap (IntKind.u32.wrap (v.h + rgt v.e [6, 11, 25]) + Go.bits .xor .u32 v.g (Go.bits .and .u32 v.e (Go.bits .xor .u32 v.f v.g))) + kk) + ww)),
    v.e, v.f, v.g⟩
def rndF (l : List Int) (v : S8) : Nat → S8
  | 0 => v
  | k + 1 => rnd (shaK.getD k 0) (l.getD k 0) (rndF l v k)
/-- A block's state. -/
def blkF (s : ByteArray) (v : S8) : S8 :=
  let u := rndF (wF s 64) v 64
  ⟨IntKind.u32.wrap (v.a + u.a), IntKind.u32.wrap (v.b + u.b), IntKind.u32.wrap (v.c + u.c), IntKind.u32.wrap (v.d + u.d), IntKind.u32.wrap (v.e + u.e), IntKind.u32.wrap (v.f + u.f), IntKind.u32.wrap (v.g + u.g), IntKind.u32.wrap (v.h + u.h)⟩
def S8.list (v : S8) : List Int := [v.a, v.b, v.c, v.d, v.e, v.f, v.g, v.h]
theorem grown_trans_ {a b c : World} {row : Option Nat} (h1 : a.grownBy b row) (h2 : b.grownBy c row) : a.grownBy c row :=
  ⟨h2.os.trans h1.os, h2.tape.trans h1.tape, h2.output.trans h1.output, Nat.le_trans h1.size h2.size, fun k hk hr => (h2.block k (Nat.lt_of_lt_of_le hk h1.size) hr).trans (h1.block k hk hr)⟩
theorem st_step {wr wj : World} {g j : Nat} {cs cs' : Array Value} {T : TypeId} {v : Value} (hb : wj.heap[g]? = some (.cells cs T (0, 0))) (hg : wr.grownBy wj (some g)) (e : cs.setIfInBounds j v = cs') :
    (wj.drew.setCell ⟨g, j, none⟩ v).heap[g]? = some (.cells cs' T (0, 0)) ∧ wr.grownBy (wj.drew.setCell ⟨g, j, none⟩ v) (some g) :=
  ⟨blk_put (blk_drew hb) j v e, grown_trans_ (grown_trans_ hg (⟨rfl, rfl, rfl, Nat.le_refl _, fun _ _ _ => rfl⟩ : wj.grownBy wj.drew (some g))) (grown_set_ _ g j v)⟩
set_option maxHeartbeats 4000000 in
set_option maxRecDepth 100000 in
theorem block_calls (B g : Nat) (st : S8) (s : ByteArray) (w : World) (h : HashAt B g st.list w) (hs : 64 ≤ s.size) (hBw : B ≤ w.heap.size) :
    Calls Try.prog 45 #[.pointer (some ⟨g, 0, none⟩), .string s] w fun e w' => e = .returned (.tuple #[]) ∧ HashAt B g (blkF s st).list w' ∧ Below B w w' := by
  have H := Aside0.mk h
  clear h
  go_enter Try.func45, Try.ntmps45
  go_wp2
  have h0 : (w.alloc (.cells (List.replicate 64 (Value.int .u32 0)).toArray 89)).heap[w.heap.size]? = some (.cells (nums .u32 (wF s 0)).toArray 89 (0, 0)) := heap_alloc_new _ _
  have hb0 : Below w.heap.size w (w.alloc (.cells (List.replicate 64 (Value.int .u32 0)).toArray 89)) := (Below.refl _ _).alloc (Nat.le_refl _) _
  have H0 := Aside0.mk (And.intro h0 hb0)
  clear h0 hb0
  change Code.wp _ _ _ _ (w.alloc (.cells (List.replicate 64 (Value.int .u32 0)).toArray 89))
  generalize w.alloc (.cells (List.replicate 64 (Value.int .u32 0)).toArray 89) = w0 at H0 ⊢
  obtain ⟨gw, hgw⟩ : ∃ gw, gw = w.heap.size := ⟨_, rfl⟩
  rw [← hgw] at H0 ⊢
  have HG := Aside0.mk hgw
  clear hgw
  go_loopg [5, 6, 7, 21] 64 (fun r s5 s6 s7 s21 wr => ∃ k : Nat, k + r = 64 ∧ s21 = .int .i64 (k : Int) ∧ Aside0 (RowAt gw 89 .u32 (wF s k) w wr))
  case atStart => exact ⟨0, by omega, rfl, ⟨H0.out.1, H0.out.2⟩⟩
  case round =>
    obtain ⟨k, hk, rfl, HW⟩ := hrel
    cases gk with
    | zero =>
      have hk64 : 64 ≤ k := by omega
      have hk2 : k = 64 := by omega
      have HK := Aside0.mk hk2
      clear hk2
      have hrow := HW.out
      rw [HK.out] at hrow
      have HS : Aside0 (∀ W, RowAt gw 89 .u32 (wF s 64) w W → HashAt B g st.list W) := ⟨fun W h => H.out.below (by rw [← HG.out]; exact h.below)⟩
      have HR := Aside0.mk hrow
      obtain ⟨gk, c, h1, hne, hlo, hkc⟩ := (HS.out _ hrow).row
      have d0 : wr.cell? ⟨g, 0, none⟩ = some (.int .u32 st.a) := blk_cell h1 0
      have d1 : wr.cell? ⟨g, 1, none⟩ = some (.int .u32 st.b) := blk_cell h1 1
      have d2 : wr.cell? ⟨g, 2, none⟩ = some (.int .u32 st.c) := blk_cell h1 2
      have d3 : wr.cell? ⟨g, 3, none⟩ = some (.int .u32 st.d) := blk_cell h1 3
      have d4 : wr.cell? ⟨g, 4, none⟩ = some (.int .u32 st.e) := blk_cell h1 4
      have d5 : wr.cell? ⟨g, 5, none⟩ = some (.int .u32 st.f) := blk_cell h1 5
      have d6 : wr.cell? ⟨g, 6, none⟩ = some (.int .u32 st.g) := blk_cell h1 6
      have d7 : wr.cell? ⟨g, 7, none⟩ = some (.int .u32 st.h) := blk_cell h1 7
      clear hrow h1 hne hlo hkc
      go_wp2_with fail
      go_quiet (fail)
      have HR2 := Aside0.mk (HR.out.drewN nq)
      generalize wr.drewN nq = w2 at HR2 ⊢
      clear d0 d1 d2 d3 d4 d5 d6 d7
      go_wp2_with fail
      go_loopg [8, 9, 10, 11, 12, 13, 14, 15, 16, 17, 18, 131] 64 (fun r2 s8 s9 s10 s11 s12 s13 s14 s15 s16 s17 s18 s131 wy => ∃ (i : Nat) (v : S8), i + r2 = 64 ∧ s131 = .int .i64 (i : Int) ∧ Aside0 (v = rndF (wF s 64) st i) ∧ s8 = .int .u32 v.a ∧ s9 = .int .u32 v.b ∧ s10 = .int .u32 v.c ∧ s11 = .int .u32 v.d ∧ s12 = .int .u32 v.e ∧ s13 = .int .u32 v.f ∧ s14 = .int .u32 v.g ∧ s15 = .int .u32 v.h ∧ Aside0 (RowAt gw 89 .u32 (wF s 64) w wy))
      case atStart => exact ⟨0, st, by omega, rfl, ⟨rfl⟩, rfl, rfl, rfl, rfl, rfl, rfl, rfl, rfl, HR2⟩
      case round =>
        obtain ⟨i, ⟨va, vb, vc, vd, ve, vf, vg, vh⟩, hi, rfl, HV, rfl, rfl, rfl, rfl, rfl, rfl, rfl, rfl, HRy⟩ := hrel
        dsimp only
        cases gk with
        | zero =>
          have hi64 : 64 ≤ i := by omega
          have hi2 : i = 64 := by omega
          have HI := Aside0.mk hi2
          obtain ⟨gk, c, h1, hne, hlo, hkc⟩ := (HS.out _ HRy.out).row
          have HX := Aside0.mk (And.intro hne (And.intro hlo hkc))
          have HB0 : Aside0 (wr.heap[g]? = some (.cells #[.int .u32 st.a, .int .u32 st.b, .int .u32 st.c, .int .u32 st.d, .int .u32 st.e, .int .u32 st.f, .int .u32 st.g, .int .u32 st.h, .slice (some ⟨gk, 0, none⟩) 64 c] 76 (0, 0))) := ⟨h1⟩
          have HG0 : Aside0 (wr.grownBy wr (some g)) := ⟨⟨rfl, rfl, rfl, Nat.le_refl _, fun _ _ _ => rfl⟩⟩
          clear h1 hne hlo hkc hi2
          have q0 : ∀ W : World, (Instr.index 73 (.agg #[.int .u32 va, .int .u32 vb, .int .u32 vc, .int .u32 vd, .int .u32 ve, .int .u32 vf, .int .u32 vg, .int .u32 vh]) (.int .i64 0)).run Try.prog W = .ok (.int .u32 va) W := fun _ => by rfl
          have q1 : ∀ W : World, (Instr.index 73 (.agg #[.int .u32 va, .int .u32 vb, .int .u32 vc, .int .u32 vd, .int .u32 ve, .int .u32 vf, .int .u32 vg, .int .u32 vh]) (.int .i64 1)).run Try.prog W = .ok (.int .u32 vb) W := fun _ => by rfl
          have q2 : ∀ W : World, (Instr.index 73 (.agg #[.int .u32 va, .int .u32 vb, .int .u32 vc, .int .u32 vd, .int .u32 ve, .int .u32 vf, .int .u32 vg, .int .u32 vh]) (.int .i64 2)).run Try.prog W = .ok (.int .u32 vc) W := fun _ => by rfl
          have q3 : ∀ W : World, (Instr.index 73 (.agg #[.int .u32 va, .int .u32 vb, .int .u32 vc, .int .u32 vd, .int .u32 ve, .int .u32 vf, .int .u32 vg, .int .u32 vh]) (.int .i64 3)).run Try.prog W = .ok (.int .u32 vd) W := fun _ => by rfl
          have q4 : ∀ W : World, (Instr.index 73 (.agg #[.int .u32 va, .int .u32 vb, .int .u32 vc, .int .u32 vd, .int .u32 ve, .int .u32 vf, .int .u32 vg, .int .u32 vh]) (.int .i64 4)).run Try.prog W = .ok (.int .u32 ve) W := fun _ => by rfl
          have q5 : ∀ W : World, (Instr.index 73 (.agg #[.int .u32 va, .int .u32 vb, .int .u32 vc, .int .u32 vd, .int .u32 ve, .int .u32 vf, .int .u32 vg, .int .u32 vh]) (.int .i64 5)).run Try.prog W = .ok (.int .u32 vf) W := fun _ => by rfl
          have q6 : ∀ W : World, (Instr.index 73 (.agg #[.int .u32 va, .int .u32 vb, .int .u32 vc, .int .u32 vd, .int .u32 ve, .int .u32 vf, .int .u32 vg, .int .u32 vh]) (.int .i64 6)).run Try.prog W = .ok (.int .u32 vg) W := fun _ => by rfl
          have q7 : ∀ W : World, (Instr.index 73 (.agg #[.int .u32 va, .int .u32 vb, .int .u32 vc, .int .u32 vd, .int .u32 ve, .int .u32 vf, .int .u32 vg, .int .u32 vh]) (.int .i64 7)).run Try.prog W = .ok (.int .u32 vh) W := fun _ => by rfl
          go_wp2
          refine wp_loop_rounds 9 ?_
          obtain ⟨w0q, hw0q⟩ : ∃ W, W = wr := ⟨_, rfl⟩
          have HBr := HB0
          have HGr := HG0
          rw [← hw0q] at HBr
          have HGw : Aside0 (wr.grownBy w0q (some g)) := ⟨by rw [hw0q]; exact HG0.out⟩
          clear HB0 HG0 HGr
          rw [← hw0q]
          clear hw0q
          rw [rounds_succ]
          have d1 : w0q.drew.cell? ⟨g, 0, none⟩ = some (.int .u32 st.a) := (blk_cell (blk_drew HBr.out) 0).trans rfl
          have d2 : w0q.drew.frozen? ⟨g, 0, none⟩ = false := blk_frozen (blk_drew HBr.out) 0
          go_wp2_with fail
          go_still_tail 11, (by kernel_rfl)
          change wpList _ _ _ _ _ w0q.drew
          have HZ := Aside0.mk (st_step (cs' := #[.int .u32 (IntKind.u32.wrap (st.a + va)), .int .u32 st.b, .int .u32 st.c, .int .u32 st.d, .int .u32 st.e, .int .u32 st.f, .int .u32 st.g, .int .u32 st.h, .slice (some ⟨gk, 0, none⟩) 64 c]) HBr.out HGw.out (j := 0) (v := .int .u32 (IntKind.u32.wrap (st.a + va))) rfl)
          generalize w0q.drew = wd at HZ d1 d2 ⊢
          generalize hV : IntKind.u32.wrap (st.a + va) = V0 at HZ ⊢
          have HV0 := Aside0.mk hV
          clear hV
          go_wp2
          clear d1 d2
          generalize wd.setCell ⟨g, 0, none⟩ (.int .u32 V0) = w1q at HZ ⊢
          have HB1 := Aside0.mk HZ.out.1
          have HG1 := Aside0.mk HZ.out.2
          clear HZ HBr HGw
          rw [rounds_succ]
          have d1 : w1q.drew.cell? ⟨g, 1, none⟩ = some (.int .u32 st.b) := (blk_cell (blk_drew HB1.out) 1).trans rfl
          have d2 : w1q.drew.frozen? ⟨g, 1, none⟩ = false := blk_frozen (blk_drew HB1.out) 1
          go_wp2_with fail
          go_still_tail 11, (by kernel_rfl)
          change wpList _ _ _ _ _ w1q.drew
          have HZ := Aside0.mk (st_step (cs' := #[.int .u32 V0, .int .u32 (IntKind.u32.wrap (st.b + vb)), .int .u32 st.c, .int .u32 st.d, .int .u32 st.e, .int .u32 st.f, .int .u32 st.g, .int .u32 st.h, .slice (some ⟨gk, 0, none⟩) 64 c]) HB1.out HG1.out (j := 1) (v := .int .u32 (IntKind.u32.wrap (st.b + vb))) rfl)
          generalize w1q.drew = wd at HZ d1 d2 ⊢
          generalize hV : IntKind.u32.wrap (st.b + vb) = V1 at HZ ⊢
          have HV1 := Aside0.mk hV
          clear hV
          go_wp2
          clear d1 d2
          generalize wd.setCell ⟨g, 1, none⟩ (.int .u32 V1) = w2q at HZ ⊢
          have HB2 := Aside0.mk HZ.out.1
          have HG2 := Aside0.mk HZ.out.2
          clear HZ HB1 HG1
          rw [rounds_succ]
          have d1 : w2q.drew.cell? ⟨g, 2, none⟩ = some (.int .u32 st.c) := (blk_cell (blk_drew HB2.out) 2).trans rfl
          have d2 : w2q.drew.frozen? ⟨g, 2, none⟩ = false := blk_frozen (blk_drew HB2.out) 2
          go_wp2_with fail
          go_still_tail 11, (by kernel_rfl)
          change wpList _ _ _ _ _ w2q.drew
          have HZ := Aside0.mk (st_step (cs' := #[.int .u32 V0, .int .u32 V1, .int .u32 (IntKind.u32.wrap (st.c + vc)), .int .u32 st.d, .int .u32 st.e, .int .u32 st.f, .int .u32 st.g, .int .u32 st.h, .slice (some ⟨gk, 0, none⟩) 64 c]) HB2.out HG2.out (j := 2) (v := .int .u32 (IntKind.u32.wrap (st.c + vc))) rfl)
          generalize w2q.drew = wd at HZ d1 d2 ⊢
          generalize hV : IntKind.u32.wrap (st.c + vc) = V2 at HZ ⊢
          have HV2 := Aside0.mk hV
          clear hV
          go_wp2
          clear d1 d2
          generalize wd.setCell ⟨g, 2, none⟩ (.int .u32 V2) = w3q at HZ ⊢
          have HB3 := Aside0.mk HZ.out.1
          have HG3 := Aside0.mk HZ.out.2
          clear HZ HB2 HG2
          rw [rounds_succ]
          have d1 : w3q.drew.cell? ⟨g, 3, none⟩ = some (.int .u32 st.d) := (blk_cell (blk_drew HB3.out) 3).trans rfl
          have d2 : w3q.drew.frozen? ⟨g, 3, none⟩ = false := blk_frozen (blk_drew HB3.out) 3
          go_wp2_with fail
          go_still_tail 11, (by kernel_rfl)
          change wpList _ _ _ _ _ w3q.drew
          have HZ := Aside0.mk (st_step (cs' := #[.int .u32 V0, .int .u32 V1, .int .u32 V2, .int .u32 (IntKind.u32.wrap (st.d + vd)), .int .u32 st.e, .int .u32 st.f, .int .u32 st.g, .int .u32 st.h, .slice (some ⟨gk, 0, none⟩) 64 c]) HB3.out HG3.out (j := 3) (v := .int .u32 (IntKind.u32.wrap (st.d + vd))) rfl)
          generalize w3q.drew = wd at HZ d1 d2 ⊢
          generalize hV : IntKind.u32.wrap (st.d + vd) = V3 at HZ ⊢
          have HV3 := Aside0.mk hV
          clear hV
          go_wp2
          clear d1 d2
          generalize wd.setCell ⟨g, 3, none⟩ (.int .u32 V3) = w4q at HZ ⊢
          have HB4 := Aside0.mk HZ.out.1
          have HG4 := Aside0.mk HZ.out.2
          clear HZ HB3 HG3
          rw [rounds_succ]
          have d1 : w4q.drew.cell? ⟨g, 4, none⟩ = some (.int .u32 st.e) := (blk_cell (blk_drew HB4.out) 4).trans rfl
          have d2 : w4q.drew.frozen? ⟨g, 4, none⟩ = false := blk_frozen (blk_drew HB4.out) 4
          go_wp2_with fail
          go_still_tail 11, (by kernel_rfl)
          change wpList _ _ _ _ _ w4q.drew
          have HZ := Aside0.mk (st_step (cs' := #[.int .u32 V0, .int .u32 V1, .int .u32 V2, .int .u32 V3, .int .u32 (IntKind.u32.wrap (st.e + ve)), .int .u32 st.f, .int .u32 st.g, .int .u32 st.h, .slice (some ⟨gk, 0, none⟩) 64 c]) HB4.out HG4.out (j := 4) (v := .int .u32 (IntKind.u32.wrap (st.e + ve))) rfl)
          generalize w4q.drew = wd at HZ d1 d2 ⊢
          generalize hV : IntKind.u32.wrap (st.e + ve) = V4 at HZ ⊢
          have HV4 := Aside0.mk hV
          clear hV
          go_wp2
          clear d1 d2
          generalize wd.setCell ⟨g, 4, none⟩ (.int .u32 V4) = w5q at HZ ⊢
          have HB5 := Aside0.mk HZ.out.1
          have HG5 := Aside0.mk HZ.out.2
          clear HZ HB4 HG4
          rw [rounds_succ]
          have d1 : w5q.drew.cell? ⟨g, 5, none⟩ = some (.int .u32 st.f) := (blk_cell (blk_drew HB5.out) 5).trans rfl
          have d2 : w5q.drew.frozen? ⟨g, 5, none⟩ = false := blk_frozen (blk_drew HB5.out) 5
          go_wp2_with fail
          go_still_tail 11, (by kernel_rfl)
          change wpList _ _ _ _ _ w5q.drew
          have HZ := Aside0.mk (st_step (cs' := #[.int .u32 V0, .int .u32 V1, .int .u32 V2, .int .u32 V3, .int .u32 V4, .int .u32 (IntKind.u32.wrap (st.f + vf)), .int .u32 st.g, .int .u32 st.h, .slice (some ⟨gk, 0, none⟩) 64 c]) HB5.out HG5.out (j := 5) (v := .int .u32 (IntKind.u32.wrap (st.f + vf))) rfl)
          generalize w5q.drew = wd at HZ d1 d2 ⊢
          generalize hV : IntKind.u32.wrap (st.f + vf) = V5 at HZ ⊢
          have HV5 := Aside0.mk hV
          clear hV
          go_wp2
          clear d1 d2
          generalize wd.setCell ⟨g, 5, none⟩ (.int .u32 V5) = w6q at HZ ⊢
          have HB6 := Aside0.mk HZ.out.1
          have HG6 := Aside0.mk HZ.out.2
          clear HZ HB5 HG5
          rw [rounds_succ]
          have d1 : w6q.drew.cell? ⟨g, 6, none⟩ = some (.int .u32 st.g) := (blk_cell (blk_drew HB6.out) 6).trans rfl
          have d2 : w6q.drew.frozen? ⟨g, 6, none⟩ = false := blk_frozen (blk_drew HB6.out) 6
          go_wp2_with fail
          go_still_tail 11, (by kernel_rfl)
          change wpList _ _ _ _ _ w6q.drew
          have HZ := Aside0.mk (st_step (cs' := #[.int .u32 V0, .int .u32 V1, .int .u32 V2, .int .u32 V3, .int .u32 V4, .int .u32 V5, .int .u32 (IntKind.u32.wrap (st.g + vg)), .int .u32 st.h, .slice (some ⟨gk, 0, none⟩) 64 c]) HB6.out HG6.out (j := 6) (v := .int .u32 (IntKind.u32.wrap (st.g + vg))) rfl)
          generalize w6q.drew = wd at HZ d1 d2 ⊢
          generalize hV : IntKind.u32.wrap (st.g + vg) = V6 at HZ ⊢
          have HV6 := Aside0.mk hV
          clear hV
          go_wp2
          clear d1 d2
          generalize wd.setCell ⟨g, 6, none⟩ (.int .u32 V6) = w7q at HZ ⊢
          have HB7 := Aside0.mk HZ.out.1
          have HG7 := Aside0.mk HZ.out.2
          clear HZ HB6 HG6
          rw [rounds_succ]
          have d1 : w7q.drew.cell? ⟨g, 7, none⟩ = some (.int .u32 st.h) := (blk_cell (blk_drew HB7.out) 7).trans rfl
          have d2 : w7q.drew.frozen? ⟨g, 7, none⟩ = false := blk_frozen (blk_drew HB7.out) 7
          go_wp2_with fail
          go_still_tail 11, (by kernel_rfl)
          change wpList _ _ _ _ _ w7q.drew
          have HZ := Aside0.mk (st_step (cs' := #[.int .u32 V0, .int .u32 V1, .int .u32 V2, .int .u32 V3, .int .u32 V4, .int .u32 V5, .int .u32 V6, .int .u32 (IntKind.u32.wrap (st.h + vh)), .slice (some ⟨gk, 0, none⟩) 64 c]) HB7.out HG7.out (j := 7) (v := .int .u32 (IntKind.u32.wrap (st.h + vh))) rfl)
          generalize w7q.drew = wd at HZ d1 d2 ⊢
          generalize hV : IntKind.u32.wrap (st.h + vh) = V7 at HZ ⊢
          have HV7 := Aside0.mk hV
          clear hV
          go_wp2
          clear d1 d2
          generalize wd.setCell ⟨g, 7, none⟩ (.int .u32 V7) = w8q at HZ ⊢
          have HB8 := Aside0.mk HZ.out.1
          have HG8 := Aside0.mk HZ.out.2
          clear HZ HB7 HG7
          rw [rounds_succ]
          go_wp2
          go_end0
          obtain ⟨hne, hlo, hkc⟩ := HX.out
          have hv := HV.out
          rw [HI.out] at hv
          have hlt : g < wr.heap.size := blk_lt (HS.out _ HRy.out).row.choose_spec.choose_spec.1
          refine ⟨rfl, ⟨H.out.low, rfl, gk, c, ?_, hne, hlo, fun j hj => ?_⟩, ?_⟩
          · rw [HB8.out]
            unfold blkF S8.list
            dsimp only
            rw [← hv]
            dsimp only
            rw [HV0.out, HV1.out, HV2.out, HV3.out, HV4.out, HV5.out, HV6.out, HV7.out]
            rfl
          · have hc := hkc j hj
            exact (HG8.out.cell_far ⟨gk, j, none⟩ (World.block_lt_of_cell? _ _ hc) (fun e => hne (by injection e))).trans hc
          · refine (HRy.out.below.mono ?_).grown HG8.out ?_ ?_
            · rw [HG.out]; exact hBw
            · exact Nat.le_trans hBw (by rw [← HG.out]; exact Nat.le_of_lt (blk_lt HRy.out.row))
            · intro k hk; injection hk with hk; rw [← hk]; exact H.out.low
        | succ r2 =>
          first | done | skip
          have hi64 : i < 64 := by omega
          obtain ⟨gk, c, h1, hne, hlo, hkc⟩ := (HS.out _ HRy.out).row
          have hwl := wF_length s 64
          have p0 : wr.cell? ⟨g, 8, none⟩ = some (.slice (some ⟨gk, 0, none⟩) 64 c) := blk_cell h1 8
          have p1 := hkc i hi64
          have p2 := HRy.out.cell i (by omega)
          have HN : Aside0 (rndF (wF s 64) st (i + 1) = rnd (shaK.getD i 0) ((wF s 64).getD i 0) ⟨va, vb, vc, vd, ve, vf, vg, vh⟩) := ⟨by rw [rndF, ← HV.out]⟩
          have HS3 : Aside0 (∀ W, Below wr.heap.size wr W → W.cell? ⟨g, 8, none⟩ = some (.slice (some ⟨gk, 0, none⟩) 64 c) ∧ W.cell? ⟨gk, i, none⟩ = some (.int .u32 (shaK.getD i 0)) ∧ W.cell? ⟨gw, i, none⟩ = some (.int .u32 ((wF s 64).getD i 0)) ∧ Below wr.heap.size wr W) :=
            ⟨fun W h => ⟨up_ h p0, up_ h p1, up_ h p2, h⟩⟩
          have HQ := Aside0.mk (HS3.out wr (Below.refl _ _))
          have HB9 := Below.refl wr.heap.size wr
          clear h1 hne hlo hkc hwl p0 p1 p2
          generalize shaK.getD i 0 = kk at HN HS3 HQ
          generalize (wF s 64).getD i 0 = ww at HN HS3 HQ
          obtain ⟨p0, p1, p2, _⟩ := HQ.out
          generalize hwr : wr = wq at HRy HS3 HQ HB9 p0 p1 p2 ⊢
          clear hwr
          go_wp2_with fail
          go_region_held3 (fun W => W.cell? ⟨g, 8, none⟩ = some (.slice (some ⟨gk, 0, none⟩) 64 c) ∧ W.cell? ⟨gk, i, none⟩ = some (.int .u32 kk) ∧ W.cell? ⟨gw, i, none⟩ = some (.int .u32 ww) ∧ Below wq.heap.size wq W)
            (first | (refine HS3.out _ ?_; first | assumption | (repeat (first | assumption | apply below_alloc | apply pw_below_drewN | apply below_drew1))) | (go_split_ands; refine HS3.out _ ?_; (repeat (first | assumption | apply below_alloc | apply pw_below_drewN | apply below_drew1))))
            (first
              | (go_at_call 58; (with_reducible refine (right_c ve [6, 11, 25] 3 3 _ _ rfl (by decide) (by decide) ?_).mono ?_); (intro j hj; have hj2 : j = 0 ∨ j = 1 ∨ j = 2 := (by omega); rcases hj2 with rfl | rfl | rfl <;> go_simp); rintro e w6 ⟨rfl, ⟨nd, rfl⟩⟩))
          clear p0 p1 p2 HB9
          go_wp2_with fail
          refine (right_c va [2, 13, 22] 3 3 _ _ rfl (by decide) (by decide) ?_).mono ?_
          · intro j hj
            have hj2 : j = 0 ∨ j = 1 ∨ j = 2 := by omega
            rcases hj2 with rfl | rfl | rfl <;> go_simp
          rintro e w7 ⟨rfl, ⟨nd2, rfl⟩⟩
          go_wp2
          go_roundg r2
          case measure => omega
          case rel =>
            refine ⟨i + 1, rnd kk ww ⟨va, vb, vc, vd, ve, vf, vg, vh⟩, by omega, by go_num, ⟨HN.out.symm⟩, rfl, rfl, rfl, rfl, rfl, rfl, rfl, rfl, ⟨?_⟩⟩
            repeat (first | exact HRy.out | apply RowAt.alloc | apply RowAt.drewN | apply RowAt.drew)
    | succ r =>
      have hk64 : k < 64 := by omega
      have hlen := wF_length s k
      by_cases h16 : k < 16
      · have hset : wF s (k + 1) = (wF s k).set k (wLoad s k) := by rw [wF, wSet, if_pos h16]
        have HS := Aside0.mk hset
        have hc : wr.drew.cell? ⟨gw, k, none⟩ = some (.int .u32 ((wF s k).getD k 0)) := by
          exact HW.out.drew.cell k (by omega)
        have hf : wr.drew.frozen? ⟨gw, k, none⟩ = false := blk_frozen HW.out.row k
        generalize (wF s k).getD k 0 = x0 at hc
        clear hset
        have hw0 : IntKind.i64.wrap (4 * (k : Int)) = 4 * (k : Int) := by rw [IntKind.wrap_i64]; omega
        have hw1 : IntKind.i64.wrap (4 * (k : Int) + 1) = 4 * (k : Int) + 1 := by rw [IntKind.wrap_i64]; omega
        have hw2 : IntKind.i64.wrap (4 * (k : Int) + 2) = 4 * (k : Int) + 2 := by rw [IntKind.wrap_i64]; omega
        have hw3 : IntKind.i64.wrap (4 * (k : Int) + 3) = 4 * (k : Int) + 3 := by rw [IntKind.wrap_i64]; omega
        obtain ⟨ha0, hb0, hc0, hd0⟩ := bt4_ s (4 * k) (4 * (k : Int)) (by omega) (by omega)
        obtain ⟨ha1, hb1, hc1, hd1⟩ := bt4_ s (4 * k + 1) (4 * (k : Int) + 1) (by omega) (by omega)
        obtain ⟨ha2, hb2, hc2, hd2⟩ := bt4_ s (4 * k + 2) (4 * (k : Int) + 2) (by omega) (by omega)
        obtain ⟨ha3, hb3, hc3, hd3⟩ := bt4_ s (4 * k + 3) (4 * (k : Int) + 3) (by omega) (by omega)
        obtain ⟨V, hV⟩ : ∃ V, V = wLoad s k := ⟨_, rfl⟩
        have hV2 := hV
        unfold wLoad at hV2
        rw [← hV] at HS
        clear hV
        obtain ⟨u0, z0⟩ := u32b_ (bt_range s (4 * (k : Int)))
        obtain ⟨u1, z1⟩ := u32b_ (bt_range s (4 * (k : Int) + 1))
        obtain ⟨u2, z2⟩ := u32b_ (bt_range s (4 * (k : Int) + 2))
        obtain ⟨u3, z3⟩ := u32b_ (bt_range s (4 * (k : Int) + 3))
        obtain ⟨_, z4, _⟩ := z0
        obtain ⟨_, _, z5⟩ := z1
        obtain ⟨z6, _⟩ := z2
        have HV := Aside0.mk hV2
        clear hV2
        go_wp2_with fail
        go_still_tail 31, (by kernel_rfl)
        rw [← HV.out]
        change wpList _ _ _ _ _ wr.drew
        have HW4 := Aside0.mk HW.out.drew
        generalize wr.drew = w4 at hc hf HW4 ⊢
        clear hw0 hw1 hw2 hw3 ha0 hb0 hc0 hd0 ha1 hb1 hc1 hd1 ha2 hb2 hc2 hd2 ha3 hb3 hc3 hd3 u0 u1 u2 u3 z4 z5 z6 HV hlen
        go_wp2
        go_roundg r
        case measure => omega
        case rel =>
          refine ⟨k + 1, by omega, by go_num, ⟨?_⟩⟩
          rw [HS.out]
          exact HW4.out.set k V
      · have hset : wF s (k + 1) = (wF s k).set k (wNext (wF s k) k) := by rw [wF, wSet, if_neg h16]
        obtain ⟨i, hi⟩ : ∃ i, k = i + 16 := ⟨k - 16, by omega⟩
        have e16 : IntKind.i64.wrap ((k : Int) - 16) = (i : Int) := by rw [IntKind.wrap_i64]; omega
        have e15 : IntKind.i64.wrap ((k : Int) - 15) = ((i + 1 : Nat) : Int) := by rw [IntKind.wrap_i64]; omega
        have e7 : IntKind.i64.wrap ((k : Int) - 7) = ((i + 9 : Nat) : Int) := by rw [IntKind.wrap_i64]; omega
        have e2 : IntKind.i64.wrap ((k : Int) - 2) = ((i + 14 : Nat) : Int) := by rw [IntKind.wrap_i64]; omega
        obtain ⟨i15, h15⟩ : ∃ j, j = i + 1 := ⟨_, rfl⟩
        obtain ⟨i7, h7⟩ : ∃ j, j = i + 9 := ⟨_, rfl⟩
        obtain ⟨i2, h2⟩ : ∃ j, j = i + 14 := ⟨_, rfl⟩
        rw [← h15] at e15
        rw [← h7] at e7
        rw [← h2] at e2
        have f16 : (i : Int) < 64 := by omega
        have f15 : (i15 : Int) < 64 := by omega
        have f7 : (i7 : Int) < 64 := by omega
        have f2 : (i2 : Int) < 64 := by omega
        have hn16 : ¬ (k : Int) < 16 := by omega
        have hg16 : (16 : Int) ≤ (k : Int) := by omega
        have hN : wNext (wF s k) k = IntKind.u32.wrap (IntKind.u32.wrap (IntKind.u32.wrap ((wF s k).getD i 0 + (wF s k).getD i7 0) + Go.bits .xor .u32 (rgt ((wF s k).getD i15 0) [7, 18]) ((wF s k).getD i15 0 / 8)) + Go.bits .xor .u32 (rgt ((wF s k).getD i2 0) [17, 19]) ((wF s k).getD i2 0 / 1024)) := by
          unfold wNext
          rw [show k - 16 = i by omega, show k - 7 = i7 by omega, show k - 15 = i15 by omega, show k - 2 = i2 by omega]
        rw [hN] at hset
        have HS := Aside0.mk hset
        have hc (j : Nat) (hj : j < 64) : wr.cell? ⟨gw, j, none⟩ = some (.int .u32 ((wF s k).getD j 0)) := HW.out.cell j (by omega)
        have hc16 (w' : World) (h : RowX gw 89 .u32 (wF s k) k w w') := h.cell i (by omega) (by omega)
        have hc7 (w' : World) (h : RowX gw 89 .u32 (wF s k) k w w') := h.cell i7 (by omega) (by omega)
        have hck (w' : World) (h : RowX gw 89 .u32 (wF s k) k w w') := h.at_ (by omega)
        have c16 := hc i (by omega)
        have c15 := hc i15 (by omega)
        have c7 := hc i7 (by omega)
        have c2 := hc i2 (by omega)
        generalize (wF s k).getD i 0 = x16 at c16 hc16 HS
        generalize (wF s k).getD i15 0 = x15 at c15 HS
        generalize (wF s k).getD i7 0 = x7 at c7 hc7 HS
        generalize (wF s k).getD i2 0 = x2 at c2 HS
        have HI := Aside0.mk (And.intro hi (And.intro h15 (And.intro h7 h2)))
        have HX := Aside0.mk (And.intro hc16 (And.intro hc7 hck))
        clear hset hN hc hi h15 h7 h2 hc16 hc7 hck
        go_wp2_with fail
        go_quiet (fail)
        have HW5 := RowX.of (HW.out.drewN nq) k
        have d16 := HX.out.1 _ HW5
        have d7 := HX.out.2.1 _ HW5
        obtain ⟨dk, dk2⟩ := HX.out.2.2 _ HW5
        generalize wr.drewN nq = w5 at HW5 d16 d7 dk dk2 ⊢
        clear c16 c15 c7 c2
        have HS3 : Aside0 (∀ W, RowX gw 89 .u32 (wF s k) k w W → W.cell? ⟨gw, i, none⟩ = some (.int .u32 x16) ∧ W.cell? ⟨gw, i7, none⟩ = some (.int .u32 x7) ∧ W.cell? ⟨gw, k, none⟩ = some (cellD W ⟨gw, k, none⟩) ∧ W.frozen? ⟨gw, k, none⟩ = false ∧ RowX gw 89 .u32 (wF s k) k w W) := ⟨fun W h => ⟨HX.out.1 W h, HX.out.2.1 W h, (HX.out.2.2 W h).1, (HX.out.2.2 W h).2, h⟩⟩
        go_wp2_with fail
        go_region_held3 (fun W => W.cell? ⟨gw, i, none⟩ = some (.int .u32 x16) ∧ W.cell? ⟨gw, i7, none⟩ = some (.int .u32 x7) ∧ W.cell? ⟨gw, k, none⟩ = some (cellD W ⟨gw, k, none⟩) ∧ W.frozen? ⟨gw, k, none⟩ = false ∧ RowX gw 89 .u32 (wF s k) k w W)
          (first | (refine HS3.out _ ?_; first | assumption | (repeat (first | assumption | apply RowX.alloc | apply RowX.drewN | apply RowX.drew | apply RowX.put))) | (go_split_ands; refine HS3.out _ ?_; (repeat (first | assumption | apply RowX.alloc | apply RowX.drewN | apply RowX.drew | apply RowX.put))))
          (first
            | (go_at_call 58; (with_reducible refine (right_c x15 [7, 18] 2 2 _ _ rfl (by decide) (by decide) ?_).mono ?_); (intro j hj; have hj2 : j = 0 ∨ j = 1 := (by omega); rcases hj2 with rfl | rfl <;> go_simp); rintro e w6 ⟨rfl, ⟨nd, rfl⟩⟩)
            | (go_at_call 58; (with_reducible refine (right_c x2 [17, 19] 2 2 _ _ rfl (by decide) (by decide) ?_).mono ?_); (intro j hj; have hj2 : j = 0 ∨ j = 1 := (by omega); rcases hj2 with rfl | rfl <;> go_simp); rintro e w7 ⟨rfl, ⟨nd2, rfl⟩⟩))
        all_goals
          clear d16 d7 dk dk2 e16 e15 e7 e2
          go_wp2
          go_roundg r
          case measure => omega
          case rel =>
            refine ⟨k + 1, by omega, by go_num, ⟨?_⟩⟩
            rw [HS.out]
            refine RowX.set ?_ _
            repeat (first | assumption | apply RowX.alloc | apply RowX.drewN | apply RowX.drew)

end Go.Proofs.Ytghdmlcmoeoohaa.PKfx
