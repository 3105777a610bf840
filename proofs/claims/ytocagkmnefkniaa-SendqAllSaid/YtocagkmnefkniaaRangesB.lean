/- The runs of the numbers whose weight is wanted, as Go's iterator tells them. -/
import Derived.Shelf.AbstractIn
import Derived.Test.YtocagkmnefkniaaRangesA
namespace Go.Proofs.YtocagkmnefkniaaR
open Go.RowKit Go.Shelf
attribute [local go_sem] Oper.semAt_some
set_option linter.unusedVariables false
set_option linter.unusedSimpArgs false
/-- The weight behind all edges at a, and the edges that are left. -/
def grpW (a : Int) : Int → List (Int × Int) → Int × List (Int × Int)
  | w, [] => (w, [])
  | w, e :: t => if e.1 = a then grpW a (wrap64 (w + e.2)) t else (w, e :: t)
/-- The blocks from a on, below b, lie as they lay. -/
def KeepIn (a b : Nat) (W W' : World) : Prop := ∀ k, a ≤ k → k < b → W'.heap[k]? = W.heap[k]?
theorem KeepIn.refl (a b : Nat) (W : World) : KeepIn a b W W := fun _ _ _ => rfl
theorem KeepIn.trans {a b : Nat} {A B C : World} (h : KeepIn a b A B) (k : KeepIn a b B C) : KeepIn a b A C := fun i h1 h2 => (k i h1 h2).trans (h i h1 h2)
theorem cell_heap {W W' : World} {k o : Nat} (h : W'.heap[k]? = W.heap[k]?) : W'.cell? ⟨k, o, none⟩ = W.cell? ⟨k, o, none⟩ := by simp [World.cell?, h]
theorem KeepIn.cell {a b k o : Nat} {W W' : World} (h : KeepIn a b W W') (h1 : a ≤ k ∧ k < b) : W'.cell? ⟨k, o, none⟩ = W.cell? ⟨k, o, none⟩ := cell_heap (h k h1.1 h1.2)
def runsW (wanted : Int → Bool) : Nat → List (Int × Int) → Int → Bool → Int → List (Int × Int)
  | 0, _, _, _, _ => []
  | _ + 1, [], _, _, _ => []
  | k + 1, e :: t, w, op, from_ =>
    let g := grpW e.1 w (e :: t)
    if wanted g.1 then (if op then runsW wanted k g.2 g.1 op from_ else runsW wanted k g.2 g.1 true e.1)
    else if op then (from_, IntKind.u64.wrap (e.1 - 1)) :: runsW wanted k g.2 g.1 false from_ else runsW wanted k g.2 g.1 op from_
theorem grpW_len (a : Int) : ∀ (l : List (Int × Int)) (w : Int), (grpW a w l).2.length ≤ l.length
  | [], _ => Nat.le_refl _
  | e :: t, w => by
    rw [grpW]
    split
    · have := grpW_len a t (wrap64 (w + e.2)); simp; omega
    · exact Nat.le_refl _
theorem runsW_fuel (wanted : Int → Bool) : ∀ (k k' : Nat) (l : List (Int × Int)) (w from_ : Int) (op : Bool), l.length < k → l.length < k' → runsW wanted k l w op from_ = runsW wanted k' l w op from_
  | 0, _, l, _, _, _, h, _ => absurd h (by omega)
  | _, 0, l, _, _, _, _, h => absurd h (by omega)
  | k + 1, k' + 1, [], _, _, _, _, _ => rfl
  | k + 1, k' + 1, e :: t, w, from_, op, h, h' => by
    have hg : (grpW e.1 w (e :: t)).2.length ≤ t.length := by
      rw [grpW, if_pos rfl]
      exact grpW_len _ _ _
    simp at h h'
    rw [runsW, runsW]
    have ih := fun f o => runsW_fuel wanted k k' (grpW e.1 w (e :: t)).2 (grpW e.1 w (e :: t)).1 f o (by omega) (by omega)
    simp only [ih]
/-- All runs of a row of edges. -/
def allW (wanted : Int → Bool) (es : List (Int × Int)) : List (Int × Int) := runsW wanted (es.length + 1) es 0 false 0
theorem drop_at (es : List (Int × Int)) (i : Nat) (h : i < es.length) : es.drop i = es[i] :: es.drop (i + 1) := List.drop_eq_getElem_cons h
theorem get_bang (es : List (Int × Int)) (i : Nat) (h : i < es.length) : es.toArray[i]! = es[i] := by simp [h]
theorem row_cell {W : World} {blk : Nat} {es : List (Int × Int)} (h : Row2 encE W blk 0 es) (i : Nat) (hi : i < es.length) : W.cell? ⟨blk, i * 2, none⟩ = some (.int .u64 es[i].1) ∧ W.cell? ⟨blk, i * 2 + 1, none⟩ = some (.int .i64 es[i].2) := by
  have h0 := (h.cell (i := i) (c := 0) (by simpa using hi) (by decide)).1
  have h1 := (h.cell (i := i) (c := 1) (by simpa using hi) (by decide)).1
  rw [get_bang es i hi, Nat.zero_add] at h0 h1
  exact ⟨h0, h1⟩
theorem runsW_step (wantF : Int → Bool) (es : List (Int × Int)) (i j : Nat) (wt w a fr : Int) (op : Bool) (hi : i < es.length) (ha : es[i].1 = a) (hG : grpW a wt (es.drop i) = (w, es.drop j)) (hij : i < j) (hj : j ≤ es.length) :
    runsW wantF (es.length - i + 1) (es.drop i) wt op fr =
      if wantF w then (if op then runsW wantF (es.length - j + 1) (es.drop j) w op fr else runsW wantF (es.length - j + 1) (es.drop j) w true a)
      else if op then (fr, IntKind.u64.wrap (a - 1)) :: runsW wantF (es.length - j + 1) (es.drop j) w false fr else runsW wantF (es.length - j + 1) (es.drop j) w op fr := by
  have hf : ∀ f o, runsW wantF (es.length - i) (es.drop j) w o f = runsW wantF (es.length - j + 1) (es.drop j) w o f := fun f o => runsW_fuel _ _ _ _ _ _ _ (by rw [List.length_drop]; omega) (by rw [List.length_drop]; omega)
  rw [drop_at es i hi] at hG ⊢
  rw [runsW, ha, hG]
  simp only [hf]
theorem grpW_stop (a w : Int) (es : List (Int × Int)) (j : Nat) (h : ∀ hj : j < es.length, es[j].1 ≠ a) : grpW a w (es.drop j) = (w, es.drop j) := by
  by_cases hj : j < es.length
  · rw [drop_at es j hj, grpW, if_neg (h hj)]
  · rw [List.drop_of_length_le (by omega), grpW]
theorem grpW_go (a w : Int) (es : List (Int × Int)) (i : Nat) (hi : i < es.length) (ha : es[i].1 = a) : grpW a w (es.drop i) = grpW a (wrap64 (w + es[i].2)) (es.drop (i + 1)) := by
  rw [drop_at es i hi, grpW, if_pos ha]
set_option maxRecDepth 100000 in
set_option maxHeartbeats 8000000 in
theorem runs2_in (F : Fence) (n : Nat) (h44 : F.fn 53) (wf : Nat) (hwf : F.fn wf) (hro : F.round = none) (hn : 2 ≤ n) (l Bl Bw n₁ n₀ blk cap : Nat) (wantF : Int → Bool) (es : List (Int × Int)) (hblk : n₁ ≤ blk ∧ blk < n₀) (hbl : n₁ ≤ Bl ∧ Bl < n₀) (hbw : n₁ ≤ Bw ∧ Bw < n₀) (hlen : es.length < 1099511627776)
    (ew : ∀ args w, (callFunc wf args).run Try.prog w = .ok (.enter wf args) w)
    (hwant : ∀ x W, CallsIn F (n - 1) Try.prog wf #[.int .i64 x] W fun e w' => e = .returned (.bool (wantF x)) ∧ w' = W) (J Jx : List (Int × Int) → World → Prop)
    (hY : ∀ pre x W, J pre W → pre.length < (allW wantF es).length → YieldAt F (n - 1) Try.prog l #[.agg #[.int .u64 x.1, .int .u64 x.2]] W fun e W' =>
      (e = .returned (.bool true) ∧ J (pre ++ [x]) W' ∧ KeepIn n₁ n₀ W W') ∨ (e = .returned (.bool false) ∧ Jx (pre ++ [x]) W'))
    (W : World) (hBl : W.cell? ⟨Bl, 0, none⟩ = some (.slice (some ⟨blk, 0, none⟩) es.length cap)) (hBw : W.cell? ⟨Bw, 0, none⟩ = some (.func (.func wf) #[] #[])) (hc : Row2 encE W blk 0 es) (h0 : J [] W) :
    CallsIn F n Try.prog 53 #[.func (.yield l) #[] #[], .pointer (some ⟨Bl, 0, none⟩), .pointer (some ⟨Bw, 0, none⟩)] W fun e W' => (∃ v, e = .returned v) ∧
      ((∃ ys, ys = allW wantF es ∧ J ys W') ∨ (∃ pre, pre <+: allW wantF es ∧ Jx pre W')) := by
  have h1n : 1 ≤ n := by omega
  have HC := As0.mk hc
  have HL := As0.mk hBl
  have HW := As0.mk hBw
  clear hc hBl hBw
  refine callsIn_of_wp Try.func53 rfl h44 ?_ hro
  simp only [Try.ntmps53, List.size_toArray, List.length_cons, List.length_nil, Nat.reduceAdd, Nat.reduceSub, Array.replicate_succ, Array.replicate_zero, List.push_toArray, List.append_toArray, List.nil_append, List.cons_append]
  gi_wp2
  gi_loopw [4, 5, 6, 7] (fun s4 s5 s6 s7 wr => ∃ (i : Nat) (wt fr : Int) (op : Bool) (pre : List (Int × Int)), s4 = .int .i64 wt ∧ s5 = .bool op ∧ s6 = .int .u64 fr ∧ s7 = .int .i64 i ∧ i ≤ es.length ∧ As0 (pre ++ runsW wantF (es.length - i + 1) (es.drop i) wt op fr = allW wantF es) ∧ As0 (J pre wr) ∧ As0 (KeepIn n₁ n₀ W wr)) (fun _ _ _ s7 _ => es.length - (intOf s7).toNat)
  case atStart => exact ⟨0, 0, 0, false, [], rfl, rfl, rfl, rfl, Nat.zero_le _, ⟨rfl⟩, ⟨h0⟩, ⟨KeepIn.refl _ _ _⟩⟩
  case round =>
    obtain ⟨i, wt, fr, op, pre, rfl, rfl, rfl, rfl, hi, HA, HJ, HB⟩ := hrel
    have cl : wr.cell? ⟨Bl, 0, none⟩ = some (.slice (some ⟨blk, 0, none⟩) es.length cap) := (HB.out.cell hbl).trans HL.out
    by_cases hlt : i < es.length
    · have cE : ∀ j (hj : j < es.length), wr.cell? ⟨blk, j * 2, none⟩ = some (.int .u64 es[j].1) ∧ wr.cell? ⟨blk, j * 2 + 1, none⟩ = some (.int .i64 es[j].2) := fun j hj => ⟨(HB.out.cell hblk).trans (row_cell HC.out j hj).1, (HB.out.cell hblk).trans (row_cell HC.out j hj).2⟩
      have ci := (cE i hlt).1
      have CE := As0.mk cE
      clear cE
      generalize ha : es[i].1 = a at ci
      have HAa := As0.mk ha
      clear ha
      gi_wp2
      gi_loopw [4, 7] (fun s4 s7 wr' => ∃ (j : Nat) (w : Int), s4 = .int .i64 w ∧ s7 = .int .i64 j ∧ i ≤ j ∧ j ≤ es.length ∧ As0 (grpW a w (es.drop j) = grpW a wt (es.drop i)) ∧ As0 (wr' = wr)) (fun _ s7 _ => es.length - (intOf s7).toNat)
      case atStart => exact ⟨i, wt, rfl, rfl, Nat.le_refl _, hi, ⟨rfl⟩, ⟨rfl⟩⟩
      case round =>
        obtain ⟨j, w, rfl, rfl, hij, hj, HG, ⟨rfl⟩⟩ := hrel
        by_cases hjl : j < es.length
        · obtain ⟨cj, cj2⟩ := CE.out j hjl
          have hd := drop_at es j hjl
          have HD := As0.mk hd
          clear hd
          generalize hx : es[j].1 = x at cj
          generalize hy : es[j].2 = y at cj2
          by_cases hxa : x = a
          · subst hxa
            have HX := As0.mk hx
            have HYy := As0.mk hy
            clear hx hy
            gi_wp2
            go_roundw
            case rel => exact ⟨j + 1, wrap64 (w + y), rfl, by go_num, by omega, by omega, ⟨by rw [← HG.out, HD.out, grpW, if_pos HX.out, HYy.out]⟩, by first | exact ⟨rfl⟩ | exact ⟨trivial⟩⟩
            case measure => simp [intOf]; omega
          · have hne : (x == a) = false := beq_eq_false_iff_ne.2 hxa
            have HX := As0.mk hx
            have HN := As0.mk hxa
            have hne2 : decide (x = a) = false := decide_eq_false hxa
            have HG2 : grpW a wt (es.drop i) = (w, es.drop j) := HG.out.symm.trans (grpW_stop a w es j (fun _ => by rw [hx]; exact hxa))
            have hij2 : i < j := by
              rcases Nat.lt_or_ge i j with h | h
              · exact h
              · obtain rfl : i = j := by omega
                exact absurd (hx.symm.trans HAa.out) hxa
            clear hx hy
            have hS := runsW_step wantF es i j wt w a fr op hlt HAa.out HG2 hij2 hj
            have HS := As0.mk hS
            clear hS HG2
            have cw : wr.cell? ⟨Bw, 0, none⟩ = some (.func (.func wf) #[] #[]) := (HB.out.cell hbw).trans HW.out
            have hww := hwant w
            obtain ⟨b, hb⟩ : ∃ b, wantF w = b := ⟨_, rfl⟩
            rw [hb] at hww
            have HS2 := HS.out
            rw [hb] at HS2
            clear hb HS
            cases b
            · cases op
              · simp only [Bool.false_eq_true, if_false] at HS2
                have HS3 := As0.mk HS2
                clear HS2
                gi_wp2_with (gi_at_fn wf; refine (hww _).mono ?_; rintro e w' ⟨rfl, rfl⟩)
                go_roundw
                case rel => exact ⟨j, w, fr, false, pre, rfl, rfl, rfl, rfl, hj, ⟨by rw [← HS3.out]; exact HA.out⟩, HJ, HB⟩
                case measure => simp [intOf]; omega
              · simp only [Bool.false_eq_true, if_false, if_true] at HS2
                have HS3 := As0.mk HS2
                clear HS2
                obtain ⟨fn, tmps, assign, body, hy, hR⟩ := hY pre (fr, IntKind.u64.wrap (a - 1)) wr HJ.out (by rw [← HA.out, HS3.out]; simp)
                dsimp only at hy
                gi_wp2_with (gi_at_fn wf; refine (hww _).mono ?_; rintro e w' ⟨rfl, rfl⟩)
                refine hR.mono ?_
                rintro e W3 (⟨rfl, hJ3, hk3⟩ | ⟨rfl, hJx3⟩)
                · have HJ3 := As0.mk hJ3
                  have HB3 := As0.mk (HB.out.trans hk3)
                  clear hJ3 hk3
                  gi_wp2
                  go_roundw
                  case rel => exact ⟨j, w, fr, false, pre ++ [(fr, IntKind.u64.wrap (a - 1))], rfl, rfl, rfl, rfl, hj, ⟨by rw [← HA.out, HS3.out]; simp⟩, HJ3, HB3⟩
                  case measure => simp [intOf]; omega
                · have HJ3 := As0.mk hJx3
                  clear hJx3
                  gi_wp2
                  refine bodyPost_ret (results_none rfl _ _ _) rfl ?_
                  exact ⟨⟨_, rfl⟩, .inr ⟨pre ++ [(fr, IntKind.u64.wrap (a - 1))], ⟨_, by rw [← HA.out, HS3.out]; simp; rfl⟩, HJ3.out⟩⟩
            · cases op
              · simp only [Bool.false_eq_true, if_false, if_true] at HS2
                have HS3 := As0.mk HS2
                clear HS2
                gi_wp2_with (gi_at_fn wf; refine (hww _).mono ?_; rintro e w' ⟨rfl, rfl⟩)
                go_roundw
                case rel => exact ⟨j, w, a, true, pre, rfl, rfl, rfl, rfl, hj, ⟨by rw [← HS3.out]; exact HA.out⟩, HJ, HB⟩
                case measure => simp [intOf]; omega
              · simp only [if_true] at HS2
                have HS3 := As0.mk HS2
                clear HS2
                gi_wp2_with (gi_at_fn wf; refine (hww _).mono ?_; rintro e w' ⟨rfl, rfl⟩)
                go_roundw
                case rel => exact ⟨j, w, fr, true, pre, rfl, rfl, rfl, rfl, hj, ⟨by rw [← HS3.out]; exact HA.out⟩, HJ, HB⟩
                case measure => simp [intOf]; omega
        · have HG2 : grpW a wt (es.drop i) = (w, es.drop j) := HG.out.symm.trans (grpW_stop a w es j (fun h => absurd h hjl))
          have hij2 : i < j := by omega
          have hje : es.length ≤ j := by omega
          have hS := runsW_step wantF es i j wt w a fr op hlt HAa.out HG2 hij2 hj
          have HS := As0.mk hS
          clear hS HG2
          have cw : wr.cell? ⟨Bw, 0, none⟩ = some (.func (.func wf) #[] #[]) := (HB.out.cell hbw).trans HW.out
          have hww := hwant w
          obtain ⟨b, hb⟩ : ∃ b, wantF w = b := ⟨_, rfl⟩
          rw [hb] at hww
          have HS2 := HS.out
          rw [hb] at HS2
          clear hb HS
          cases b
          · cases op
            · simp only [Bool.false_eq_true, if_false] at HS2
              have HS3 := As0.mk HS2
              clear HS2
              gi_wp2_with (gi_at_fn wf; refine (hww _).mono ?_; rintro e w' ⟨rfl, rfl⟩)
              go_roundw
              case rel => exact ⟨j, w, fr, false, pre, rfl, rfl, rfl, rfl, hj, ⟨by rw [← HS3.out]; exact HA.out⟩, HJ, HB⟩
              case measure => simp [intOf]; omega
            · simp only [Bool.false_eq_true, if_false, if_true] at HS2
              have HS3 := As0.mk HS2
              clear HS2
              obtain ⟨fn, tmps, assign, body, hy, hR⟩ := hY pre (fr, IntKind.u64.wrap (a - 1)) wr HJ.out (by rw [← HA.out, HS3.out]; simp)
              dsimp only at hy
              gi_wp2_with (gi_at_fn wf; refine (hww _).mono ?_; rintro e w' ⟨rfl, rfl⟩)
              refine hR.mono ?_
              rintro e W3 (⟨rfl, hJ3, hk3⟩ | ⟨rfl, hJx3⟩)
              · have HJ3 := As0.mk hJ3
                have HB3 := As0.mk (HB.out.trans hk3)
                clear hJ3 hk3
                gi_wp2
                go_roundw
                case rel => exact ⟨j, w, fr, false, pre ++ [(fr, IntKind.u64.wrap (a - 1))], rfl, rfl, rfl, rfl, hj, ⟨by rw [← HA.out, HS3.out]; simp⟩, HJ3, HB3⟩
                case measure => simp [intOf]; omega
              · have HJ3 := As0.mk hJx3
                clear hJx3
                gi_wp2
                refine bodyPost_ret (results_none rfl _ _ _) rfl ?_
                exact ⟨⟨_, rfl⟩, .inr ⟨pre ++ [(fr, IntKind.u64.wrap (a - 1))], ⟨_, by rw [← HA.out, HS3.out]; simp; rfl⟩, HJ3.out⟩⟩
          · cases op
            · simp only [Bool.false_eq_true, if_false, if_true] at HS2
              have HS3 := As0.mk HS2
              clear HS2
              gi_wp2_with (gi_at_fn wf; refine (hww _).mono ?_; rintro e w' ⟨rfl, rfl⟩)
              go_roundw
              case rel => exact ⟨j, w, a, true, pre, rfl, rfl, rfl, rfl, hj, ⟨by rw [← HS3.out]; exact HA.out⟩, HJ, HB⟩
              case measure => simp [intOf]; omega
            · simp only [if_true] at HS2
              have HS3 := As0.mk HS2
              clear HS2
              gi_wp2_with (gi_at_fn wf; refine (hww _).mono ?_; rintro e w' ⟨rfl, rfl⟩)
              go_roundw
              case rel => exact ⟨j, w, fr, true, pre, rfl, rfl, rfl, rfl, hj, ⟨by rw [← HS3.out]; exact HA.out⟩, HJ, HB⟩
              case measure => simp [intOf]; omega
    · obtain rfl : i = es.length := by omega
      have hR : runsW wantF (es.length - es.length + 1) (es.drop es.length) wt op fr = [] := by rw [List.drop_length]; rfl
      have hA := HA.out
      rw [hR, List.append_nil] at hA
      have HA2 := As0.mk hA
      clear hA hR HA
      gi_wp2
      go_end0
      exact ⟨⟨_, rfl⟩, .inl ⟨pre, HA2.out, HJ.out⟩⟩
end Go.Proofs.YtocagkmnefkniaaR
