/- Runs of sorted edges, collected into a set: ranges.runs, ranges.swept. -/
import Derived.Test.YtocagkmnefkniaaRangesB
namespace Go.Proofs.YtocagkmnefkniaaR
open Go.RowKit Go.Shelf
attribute [local go_sem] Oper.semAt_some
set_option linter.unusedVariables false
set_option linter.unusedSimpArgs false
theorem Row2.of_heap {enc : Int × Int → List Value} {W W' : World} {blk : Nat} {l : List (Int × Int)} (h : Row2 enc W blk 0 l) (e : W'.heap[blk]? = W.heap[blk]?) : Row2 enc W' blk 0 l := fun j hj => by
  obtain ⟨h1, h2⟩ := h j hj
  refine ⟨(cell_heap e).trans h1, ?_⟩
  rw [← h2]
  simp [World.frozen?, e]
/-- What a slice of edges is: nil, or a row of its own. -/
def Edges (B : Nat) (W : World) (v : Value) (es : List (Int × Int)) : Prop :=
  (v = .slice none 0 0 ∧ es = []) ∨ ∃ g cap, v = .slice (some ⟨g, 0, none⟩) es.length cap ∧ B ≤ g ∧ g < W.heap.size ∧ Row2 encE W g 0 es
theorem Edges.of_heap {B : Nat} {W W' : World} {v : Value} {es : List (Int × Int)} (h : Edges B W v es) (hs : W.heap.size ≤ W'.heap.size) (e : ∀ k, B ≤ k → k < W.heap.size → W'.heap[k]? = W.heap[k]?) : Edges B W' v es := by
  rcases h with h | ⟨g, cap, h1, h2, h3, h4⟩
  · exact Or.inl h
  · exact Or.inr ⟨g, cap, h1, h2, by omega, h4.of_heap (e g h2 h3)⟩
theorem below_heap {B : Nat} {w W : World} (h : Below B w W) {k : Nat} (hk : k < B) : W.heap[k]? = w.heap[k]? := h.block k hk
theorem allW_nil (wantF : Int → Bool) : allW wantF [] = [] := rfl
set_option maxRecDepth 100000 in
set_option maxHeartbeats 2000000 in
theorem runs2_nil_in (F : Fence) (n : Nat) (h44 : F.fn 53) (hro : F.round = none) (hn : 2 ≤ n) (l Bl Bw : Nat) (J : List (Int × Int) → World → Prop)
    (W : World) (hBl : W.cell? ⟨Bl, 0, none⟩ = some (.slice none 0 0)) (h0 : J [] W) :
    CallsIn F n Try.prog 53 #[.func (.yield l) #[] #[], .pointer (some ⟨Bl, 0, none⟩), .pointer (some ⟨Bw, 0, none⟩)] W fun e W' => (∃ v, e = .returned v) ∧ J [] W' := by
  have HJ := As0.mk h0
  clear h0
  refine callsIn_of_wp Try.func53 rfl h44 ?_ hro
  simp only [Try.ntmps53, List.size_toArray, List.length_cons, List.length_nil, Nat.reduceAdd, Nat.reduceSub, Array.replicate_succ, Array.replicate_zero, List.push_toArray, List.append_toArray, List.nil_append, List.cons_append]
  gi_wp2
  gi_loopw [4, 5, 6, 7] (fun s4 s5 s6 s7 wr => s4 = .int .i64 0 ∧ s5 = .bool false ∧ s6 = .int .u64 0 ∧ s7 = .int .i64 0 ∧ As0 (wr = W)) (fun _ _ _ _ _ => 0)
  case atStart => exact ⟨rfl, rfl, rfl, rfl, ⟨rfl⟩⟩
  case round =>
    obtain ⟨rfl, rfl, rfl, rfl, ⟨rfl⟩⟩ := hrel
    gi_wp2
    go_end0
    exact ⟨⟨_, rfl⟩, HJ.out⟩
theorem runs2_stops (n : Nat) (wf : Nat) (hn : 2 ≤ n) (Bl Bw n₁ n₀ : Nat) (wantF : Int → Bool) (es : List (Int × Int)) (sv : Value) (w : World) (hn₀ : n₀ ≤ w.heap.size) (hbl : n₁ ≤ Bl ∧ Bl < n₀) (hbw : n₁ ≤ Bw ∧ Bw < n₀) (hlen : es.length < 1099511627776)
    (ew : ∀ args w, (callFunc wf args).run Try.prog w = .ok (.enter wf args) w)
    (hwant : ∀ x W, Calls Try.prog wf #[.int .i64 x] W fun e w' => e = .returned (.bool (wantF x)) ∧ w' = W)
    (hBl : w.cell? ⟨Bl, 0, none⟩ = some sv) (hBw : w.cell? ⟨Bw, 0, none⟩ = some (.func (.func wf) #[] #[])) (hE : Edges n₁ w sv es) (hg : ∀ g cap, sv = .slice (some ⟨g, 0, none⟩) es.length cap → g < n₀) :
    SeqStopsK Fence.wide n Try.prog 53 #[.pointer (some ⟨Bl, 0, none⟩), .pointer (some ⟨Bw, 0, none⟩)] (fun x : Int × Int => #[.agg #[.int .u64 x.1, .int .u64 x.2]]) (KeepIn n₁ n₀) (fun ys => ys = allW wantF es) (fun pre => pre <+: allW wantF es) (allW wantF es).length w := fun l J Jx W hW _ _ hY h0 => by
  have cl := (hW.cell (p := ⟨Bl, 0, none⟩) (show Bl < w.heap.size by omega)).trans hBl
  have cw := (hW.cell (p := ⟨Bw, 0, none⟩) (show Bw < w.heap.size by omega)).trans hBw
  rcases hE with ⟨rfl, rfl⟩ | ⟨g, cap, rfl, h2, h3, h4⟩
  · exact (runs2_nil_in Fence.wide n trivial rfl hn l Bl Bw J W cl h0).mono fun e W' ⟨he, hj⟩ => ⟨he, .inl ⟨[], rfl, hj⟩⟩
  · exact runs2_in Fence.wide n trivial wf trivial rfl hn l Bl Bw n₁ n₀ g cap wantF es ⟨h2, hg g cap rfl⟩ hbl hbw hlen ew (fun x W => callsIn_wide.2 (hwant x W)) J Jx hY W cl cw (h4.of_heap (hW.block g h3)) h0
set_option maxHeartbeats 2000000 in
/-- ranges.runs: the edges are sorted in place; what comes back goes over them. -/
theorem runs_c (wf : Nat) (B : Nat) (sv : Value) (l : List (Int × Int)) (w : World) (hE : Edges B w sv l) (hB : B ≤ w.heap.size) (hsz : l.length < 1099511627776) :
    Calls Try.prog 48 #[sv, .func (.func wf) #[] #[]] w fun e w' =>
      e = .returned (.func (.func 53) #[] #[.pointer (some ⟨w.heap.size, 0, none⟩), .pointer (some ⟨w.heap.size + 1, 0, none⟩)]) ∧ w.heap.size + 2 ≤ w'.heap.size ∧
      w'.cell? ⟨w.heap.size, 0, none⟩ = some sv ∧ w'.cell? ⟨w.heap.size + 1, 0, none⟩ = some (.func (.func wf) #[] #[]) ∧ Edges B w' sv (sortF l) ∧ Below B w w' := by
  have hmf : ∀ (fn : Fn) (first cap : Array Value) (w : World), (Instr.makeFunc fn first cap).run Try.prog w = .ok (.func fn first cap) w := fun _ _ _ _ => rfl
  have c0 : ((w.alloc (.cells #[sv] 82)).alloc (.cells #[.func (.func wf) #[] #[]] 81)).cell? ⟨w.heap.size, 0, none⟩ = some sv := ((Boxed.new w 82 sv).alloc _).cell
  have c1 : ((w.alloc (.cells #[sv] 82)).alloc (.cells #[.func (.func wf) #[] #[]] 81)).cell? ⟨w.heap.size + 1, 0, none⟩ = some (.func (.func wf) #[] #[]) := by
    have h := (Boxed.new (w.alloc (.cells #[sv] 82)) 81 (.func (.func wf) #[] #[])).cell
    rw [World.size_alloc] at h
    exact h
  have hb0 : Below B w ((w.alloc (.cells #[sv] 82)).alloc (.cells #[.func (.func wf) #[] #[]] 81)) := ((Below.refl _ _).alloc hB _).alloc (by simp; omega) _
  have hw0 : Below w.heap.size w ((w.alloc (.cells #[sv] 82)).alloc (.cells #[.func (.func wf) #[] #[]] 81)) := ((Below.refl _ _).alloc (Nat.le_refl _) _).alloc (by simp) _
  have hz0 : ((w.alloc (.cells #[sv] 82)).alloc (.cells #[.func (.func wf) #[] #[]] 81)).heap.size = w.heap.size + 2 := by simp
  have C1 := As0.mk c1
  have HB0 := As0.mk hb0
  have HW0 := As0.mk hw0
  have HZ := As0.mk hz0
  clear c1 hb0 hw0 hz0
  rcases hE with ⟨rfl, rfl⟩ | ⟨g, cap, rfl, h2, h3, h4⟩
  · have hs := fun W => AnyF.slices_SortFunc_none Try.sort51 none 0 (.func (.func 52) #[] #[]) W
    change ∀ W, Calls Try.prog 51 _ _ _ at hs
    go_enter Try.func48, Try.ntmps48
    go_wp2_with (go_at_call 51; refine (hs _).mono ?_; rintro e w' ⟨rfl, rfl⟩)
    go_ret
    exact ⟨rfl, Nat.le_of_eq HZ.out.symm, c0, C1.out, Or.inl ⟨rfl, List.eq_nil_of_length_eq_zero (sortF_says []).2.1⟩, HB0.out⟩
  · have hs := sort_c g cap l ((w.alloc (.cells #[.slice (some ⟨g, 0, none⟩) l.length cap] 82)).alloc (.cells #[.func (.func wf) #[] #[]] 81)) (h4.of_heap (HW0.out.block g h3)) (by rw [HZ.out]; omega) hsz
    have HS := As0.mk hs
    have H4 := As0.mk h4
    clear hs h4
    go_enter Try.func48, Try.ntmps48
    go_wp2_with (go_at_call 51; refine HS.out.mono ?_; rintro e w' ⟨rfl, hR, hlt, hbel, hsame⟩)
    go_ret
    have hz := HZ.out
    have hbb := hbel B h2 (by omega)
    have hs2 := hbb.size
    refine ⟨rfl, by omega, ?_, ?_, Or.inr ⟨g, cap, by rw [(sortF_says l).2.1], h2, hlt, hR⟩, HB0.out.trans hbb⟩
    · exact (cell_heap (hsame _ (by omega) (by omega))).trans c0
    · exact (cell_heap (hsame _ (by omega) (by omega))).trans C1.out
/-! ### the body: 'out = append(out, r)' -/
/-- A variable of two cells. -/
def Boxed2 (W : World) (B : Nat) (t : TypeId) (x : Int × Int) : Prop := W.heap[B]? = some (.cells #[.int .u64 x.1, .int .u64 x.2] t (0, 0))
theorem Boxed2.cells {W : World} {B : Nat} {t : TypeId} {x : Int × Int} (h : Boxed2 W B t x) : W.cell? ⟨B, 0, none⟩ = some (.int .u64 x.1) ∧ W.cell? ⟨B, 1, none⟩ = some (.int .u64 x.2) := by
  have h' : W.heap[B]? = _ := h
  simp [World.cell?, h']
theorem appended2 {W w1 : World} {base B : Nat} {t e : TypeId} {size : Nat} {v v' : Value} {k m : Nat} {xs ys : List Value} {tmp : Obj}
    (hv : Boxed W B t v) (hte : t ≠ e) (hrow : W.ownsRow base e size v k xs) (hb : base ≤ W.heap.size) (hB : B < base)
    (hown' : w1.ownsRow base e size v' m ys) (hgrow : (W.alloc tmp).grownBy w1 v.ownBlock) :
    Boxed w1 B t v ∧ Boxed (w1.setCell ⟨B, 0, none⟩ v') B t v' ∧ (w1.setCell ⟨B, 0, none⟩ v').ownsRow base e size v' m ys ∧ KeepsOthers W (w1.setCell ⟨B, 0, none⟩ v') ∧ KeepIn (B + 1) base W (w1.setCell ⟨B, 0, none⟩ v') ∧ Below B W (w1.setCell ⟨B, 0, none⟩ v') := by
  have hv1 : Boxed w1 B t v := (hv.alloc tmp).kept hgrow (hv.not_row hte hrow)
  have hbl : ∀ j, v.ownBlock = some j → base ≤ j := fun j ej => by
    rcases hrow.2 with ⟨rfl, _⟩ | ⟨g, cap, cur, rfl, hb, _, _⟩
    · simp [Value.ownBlock] at ej
    · obtain rfl : g = j := by simpa [Value.ownBlock] using ej
      exact hb
  have hbw : Below base W w1 := ((Below.refl base W).alloc hb tmp).grown hgrow (by simp; omega) hbl
  refine ⟨hv1, hv1.set v', hown'.kept (grownBy_setCell' w1 B v') (.inr (hv1.not_row hte hown').symm), ?_, ?_, ?_⟩
  · refine ((KeepsOthers.alloc W tmp).trans (KeepsOthers.of_grownBy hgrow fun j o ej hj => ?_)).trans (KeepsOthers.setCell _ _ _)
    rcases (hrow.alloc tmp).2 with ⟨rfl, _⟩ | ⟨g, cap, cur, rfl, _, hgb, _⟩
    · simp [Value.ownBlock] at ej
    · obtain rfl : g = j := by simpa [Value.ownBlock] using ej
      rw [hgb] at hj; cases hj; rfl
  · intro j h1 h2
    exact (Below.heap_setCell _ _ _ _ (by intro e; simp at e; omega)).trans (hbw.block j h2)
  · exact (hbw.mono (Nat.le_of_lt hB)).setCell (p := ⟨B, 0, none⟩) (Nat.le_refl _) v'
theorem Boxed2.lt {W : World} {B : Nat} {t : TypeId} {x : Int × Int} (h : Boxed2 W B t x) : B < W.heap.size := (Array.getElem?_eq_some_iff.1 h).1
theorem Boxed2.kept {X Y : World} {B b : Nat} {t : TypeId} {x : Int × Int} {row : Option Nat} (h : Boxed2 X B t x) (hg : X.grownBy Y row) (hr : ∀ r, row = some r → b ≤ r ∧ ∃ o : Obj, X.heap[r]? = some o ∧ o.isCells = false) : Boxed2 Y B t x := by
  refine (hg.block B h.lt fun e => ?_).trans h
  obtain ⟨_, o, ho, hc⟩ := hr B e.symm
  rw [show X.heap[B]? = _ from h] at ho
  cases ho
  cases hc
theorem ownFrom_size {β : Type} (b n : Nat) : OwnFrom b (fun (_ : β) W => n ≤ W.heap.size) := fun _ _ _ _ hs hg _ => Nat.le_trans hs hg.size
def flatR (l : List (Int × Int)) : List Value := l.flatMap encR
theorem flatR_snoc (l : List (Int × Int)) (x : Int × Int) : flatR (l ++ [x]) = flatR l ++ encR x := by simp [flatR]
theorem flatR_len : ∀ l : List (Int × Int), (flatR l).length = l.length * 2
  | [] => rfl
  | x :: l => by
    have := flatR_len l
    simp [flatR, encR] at this ⊢
    omega
theorem runsW_len (wantF : Int → Bool) : ∀ (k : Nat) (l : List (Int × Int)) (w fr : Int) (op : Bool), (runsW wantF k l w op fr).length ≤ l.length
  | 0, _, _, _, _ => Nat.zero_le _
  | _ + 1, [], _, _, _ => Nat.le_refl _
  | k + 1, e :: t, w, fr, op => by
    have hg : (grpW e.1 w (e :: t)).2.length ≤ t.length := by
      rw [grpW, if_pos rfl]
      exact grpW_len _ _ _
    have ih := fun f o => runsW_len wantF k (grpW e.1 w (e :: t)).2 (grpW e.1 w (e :: t)).1 f o
    rw [runsW]
    simp only [List.length_cons]
    split
    · split
      · have := ih fr op; omega
      · have := ih e.1 true; omega
    · split
      · have := ih fr false; simp only [List.length_cons]; omega
      · have := ih fr op; omega
theorem allW_len (wantF : Int → Bool) (es : List (Int × Int)) : (allW wantF es).length ≤ es.length := runsW_len _ _ _ _ _ _
theorem infoR : (Try.prog.info? 67).map (fun i => (i.zero, i.size, i.bytes)) = some (some (.agg #[.int .u64 0, .int .u64 0]), 2, 16) := by kernel_rfl
theorem own_base {W : World} {b b' : Nat} {e : TypeId} {size k : Nat} {v : Value} {xs : List Value} (hb : b ≤ b') (h : W.ownsRow b' e size v k xs) : W.ownsRow b e size v k xs := by
  rcases h with ⟨h1, h2 | ⟨g, c, cur, a1, a2, a3⟩⟩
  · exact ⟨h1, Or.inl h2⟩
  · exact ⟨h1, Or.inr ⟨g, c, cur, a1, Nat.le_trans hb a2, a3⟩⟩
theorem two_new (W : World) (x : Int × Int) (t : TypeId) : ∀ j u, (encR x)[j]? = some u → (W.alloc (.cells #[.int .u64 x.1, .int .u64 x.2] t)).cell? ((⟨W.heap.size, 0, none⟩ : Addr).add j) = some u := by
  intro j u h
  have h2 : Boxed2 (W.alloc (.cells #[.int .u64 x.1, .int .u64 x.2] t)) W.heap.size t x := World.alloc_heap_new W _
  obtain ⟨a, b⟩ := h2.cells
  match j, h with
  | 0, h => obtain rfl : Value.int .u64 x.1 = u := by simpa [encR] using h
            exact a
  | 1, h => obtain rfl : Value.int .u64 x.2 = u := by simpa [encR] using h
            exact b
  | j + 2, h => simp [encR] at h
set_option maxRecDepth 100000 in
set_option maxHeartbeats 4000000 in
theorem swept_c (wf : Nat) (wantF : Int → Bool) (ew : ∀ args w, (callFunc wf args).run Try.prog w = .ok (.enter wf args) w)
    (hwant : ∀ x W, Calls Try.prog wf #[.int .i64 x] W fun e w' => e = .returned (.bool (wantF x)) ∧ w' = W)
    (Al : Option Addr) (nl cl : Nat) (es : List (Int × Int)) (w : World) (hlen : es.length < 1099511627776)
    (hcat : Calls Try.prog 49 #[.slice Al nl cl] (w.alloc (.cells #[.slice none 0 0] 27)) fun e w' => ∃ v, e = .returned v ∧ Edges (w.heap.size + 1) w' v es ∧ Below (w.heap.size + 1) (w.alloc (.cells #[.slice none 0 0] 27)) w') :
    Calls Try.prog 41 #[.func (.func wf) #[] #[], .slice Al nl cl] w fun e w' => ∃ v, e = .returned v ∧ w'.ownsRow w.heap.size 67 2 v (allW wantF (sortF es)).length (flatR (allW wantF (sortF es))) ∧ Below w.heap.size w w' := by
  obtain ⟨i0, hi, hq0, hq1, hq2⟩ := info_parts infoR
  have hle := allW_len wantF (sortF es)
  rw [(sortF_says es).2.1] at hle
  refine (callsIn_wide (n := 6)).1 ?_
  have h1 : 1 ≤ 6 := by omega
  have hro : Fence.wide.round = none := rfl
  refine callsIn_of_wp_marks Try.func41 rfl trivial ?_ hro
  simp only [Try.ntmps41, List.size_toArray, List.length_cons, List.length_nil, Nat.reduceAdd, Nat.reduceSub, Array.replicate_succ, Array.replicate_zero, List.push_toArray, List.append_toArray, List.nil_append, List.cons_append]
  have HCAT := As0.mk hcat
  clear hcat
  gi_wp2
  refine ⟨trivial, ?_⟩
  refine (callsIn_wide.2 HCAT.out).mono ?_
  rintro e w1 ⟨v, rfl, hE, hB1⟩
  have hz1 := hB1.size
  rw [World.size_alloc] at hz1
  have HR := As0.mk (runs_c wf (w.heap.size + 1) v es w1 hE hz1 hlen)
  have bO := (hB1.block w.heap.size (Nat.lt_succ_self _)).trans (Boxed.new w 27 (.slice none 0 0))
  have hW1 : Below w.heap.size w w1 := ((Below.refl _ _).alloc (Nat.le_refl _) _).trans (hB1.mono (Nat.le_succ _))
  have BO := As0.mk bO
  have HW1 := As0.mk hW1
  clear bO hW1 hB1 hE HCAT
  gi_wp2
  refine ⟨trivial, ?_⟩
  refine (callsIn_wide.2 HR.out).mono ?_
  rintro e w2 ⟨rfl, hz2', cl, cw, hE2, hB2⟩
  have bO : Boxed w2 w.heap.size 27 (.slice none 0 0) := (hB2.block w.heap.size (Nat.lt_succ_self _)).trans BO.out
  have hW2 : Below w.heap.size w w2 := HW1.out.trans (hB2.mono (Nat.le_succ _))
  have hg : ∀ g cap, v = .slice (some ⟨g, 0, none⟩) (sortF es).length cap → g < w2.heap.size := fun g cap e => by
    rcases hE2 with ⟨h, _⟩ | ⟨g', c', h, _, h3, _⟩
    · rw [h] at e; cases e
    · rw [h] at e; cases e; exact h3
  have hst := runs2_stops 5 wf (by omega) w1.heap.size (w1.heap.size + 1) (w.heap.size + 1) w2.heap.size wantF (sortF es) v w2 (Nat.le_refl _) ⟨hz1, by omega⟩ ⟨by omega, by omega⟩ (by rw [(sortF_says es).2.1]; exact hlen) ew hwant cl cw hE2 hg
  have HST := As0.mk hst
  clear hst hE2 hg cl cw HR BO HW1
  have hs0 : w.heap.size + 3 ≤ w2.heap.size := by omega
  gi_wp2
  refine wpIn_rangeFunc_ownH hro h1 (gf := 53) (lb := #[.pointer (some ⟨w1.heap.size, 0, none⟩), .pointer (some ⟨w1.heap.size + 1, 0, none⟩)]) rfl trivial (enters_of Try.func53 (by kernel_rfl) rfl)
    HST.out KeepIn.trans (fun W l o o' hl _ _ _ => fun k _ h2 => World.putObj_heap_other (by omega)) (Below.refl _ _) (fun _ => rfl)
    (fun pre W => ((∃ v, Boxed W w.heap.size 27 v ∧ W.ownsRow w2.heap.size 67 2 v pre.length (flatR pre) ∧ True) ∧ Below w.heap.size w W) ∧ w2.heap.size ≤ W.heap.size)
    (fun _ _ _ => False)
    (OwnFrom.and (OwnFrom.and (Own.from (holdsRow_own w2.heap.size w.heap.size 27 67 2 (fun pre : List (Int × Int) => pre.length) flatR (fun _ _ => True)) _) (ownFrom_below (Nat.le_refl _) (by omega))) (ownFrom_size _ _))
    (fun _ _ _ _ _ hs _ _ => hs)
    ⟨⟨⟨_, bO, World.ownsRow_nil _ _ _ _, trivial⟩, hW2⟩, Nat.le_refl _⟩
    (fun x a' W => ∃ Bx, w2.heap.size ≤ Bx ∧ Boxed2 W Bx 67 x ∧ a' = { tmps := #[.func (.func wf) #[] #[], .slice Al nl cl, undef, undef, .pointer (some ⟨w.heap.size, 0, none⟩), .pointer (some ⟨Bx, 0, none⟩), .slice Al nl cl, v, .func (.func wf) #[] #[], .func (.func 53) #[] #[.pointer (some ⟨w1.heap.size, 0, none⟩), .pointer (some ⟨w1.heap.size + 1, 0, none⟩)], .agg #[.int .u64 x.1, .int .u64 x.2], undef, undef, undef, undef, undef], defers := [] })
    (fun x a' _ X Y row hs hg hr => by obtain ⟨Bx, h1, h2, h3⟩ := hs; exact ⟨Bx, h1, h2.kept hg hr, h3⟩)
    ?assign ?body ?done ?stop
  case assign =>
    rintro l pre x W K ⟨⟨⟨v', hv, hrow, _⟩, hB⟩, hsz⟩ hK
    gi_wp2
    exact hK _ _ ((KeepsOthers.alloc _ _).from _) (fun k _ h2 => Below.heap_alloc W _ k (by omega)) ⟨⟨⟨v', hv.alloc _, hrow.alloc _, trivial⟩, hB.alloc (by omega) _⟩, by simp; omega⟩ ⟨W.heap.size, hsz, World.alloc_heap_new W _, rfl⟩
  case body =>
    rintro l pre x a' W hl ⟨r, hr⟩ ⟨⟨⟨v', hv, hrow, _⟩, hB⟩, hsz⟩ ⟨Bx, hBx, bX, rfl⟩ hlt
    have hc := hv.cell
    obtain ⟨x0, x1⟩ := bX.cells
    have hlt0 : w.heap.size < w2.heap.size := by omega
    gi_wp2_with (gi_at_builtin; refine wpListIn_append_own _ rfl _ _ 27 rfl w2.heap.size 67 i0 (.agg #[.int .u64 0, .int .u64 0]) 2 16 Try.underlying27 hi hq0 hq1 hq2 rfl (by decide) _ _ _ rfl (hrow.alloc _) ⟨W.heap.size, 0, none⟩ 1 1 (encR x) rfl rfl (two_new W x _) (by simp [encR, Value.oneCell']) (by unfold maxLen; omega) (by omega) (by simp; omega) ?_; intro v'' w3 hown' hgrow _; obtain ⟨g', cap', rfl⟩ := ownsRow_succ hown'; obtain ⟨hv1, hv2, hr2, hk2, hki, hb2⟩ := appended2 hv (by decide) hrow hsz hlt0 hown' hgrow; have hc1 := hv1.cell; have hf1 := hv1.frozen)
    exact ⟨hk2.from _, hki, ⟨⟨_, hv2, by rw [flatR_snoc, List.length_append]; exact hr2, trivial⟩, hB.trans hb2⟩, Nat.le_trans hsz hb2.size⟩
  case done =>
    rintro D ys W hD rfl ⟨⟨⟨v', hv, hrow, _⟩, hB⟩, hsz⟩ hK
    have hc := hv.cell
    have hf := hv.frozen
    obtain ⟨A', n', c', rfl⟩ : ∃ A n c, v' = .slice A n c := by
      rcases hrow.2 with ⟨rfl, _⟩ | ⟨g, c, _, rfl, _⟩ <;> exact ⟨_, _, _, rfl⟩
    gi_wp2
    have hK' := (KeepsOthers.setCell W ⟨w.heap.size, 0, none⟩ (.slice A' n' c')).same D _ hK rfl
    refine ⟨by simp, .inl ⟨_, _, rfl, run_takeDeferred hK', ?_⟩⟩
    have hv2 : Boxed (W.setCell ⟨w.heap.size, 0, none⟩ (.slice A' n' c')) w.heap.size 27 (.slice A' n' c') := hv.set _
    have hc5 := cell_kept hv2.cell (grownBy_putObj' _ D (.deferred none)) (fun r e => by cases e; exact ⟨_, hK', rfl⟩)
    have hr2 := hrow.kept (grownBy_setCell' W w.heap.size (.slice A' n' c')) (.inr (hv.not_row (by decide) hrow).symm)
    refine ⟨.slice A' n' c', ?_, .slice A' n' c', rfl, ?_, (hB.setCell (p := ⟨w.heap.size, 0, none⟩) (Nat.le_refl _) _).trans (belowK_b (w := w) (Nat.le_refl _) _ D _ _ (by omega) hK' rfl rfl)⟩
    · simp [results, Try.f41, go_sem, hc5]
    · exact own_base (by omega) (ownsRow_putObj hr2 _ hK' rfl)
  case stop =>
    rintro D c pre W _ _ h _
    exact h.elim
end Go.Proofs.YtocagkmnefkniaaR
