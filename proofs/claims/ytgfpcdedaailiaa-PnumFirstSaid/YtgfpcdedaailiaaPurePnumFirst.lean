/- PnumFirst, for every 64-bit number, no condition: without an acknowledged number a number needs as many bytes as one more than it needs behind 0. -/
import Derived.Test.YtgfpcdedaailiaaPPnumFirstx1
namespace Go.Proofs.Ytgfpcdedaailiaa.Pure
open Go.RowKit Go.Proofs.Ytgfpcdedaailiaa.PPnumFirst Go.Proofs.YtgfpcdedaailiaaW.PrintWords Go.Proofs.YtgfpcdedaailiaaW.PrintLast
theorem u64b {n : Int} (h : (Lit.int .u64 n).wf = true) : 0 ≤ n ∧ n < 18446744073709551616 := by
  simp [Lit.wf, IntKind.min, IntKind.max, IntKind.signed, IntKind.bits] at h
  omega
theorem wU (n : Int) : IntKind.u64.wrap n = n % 18446744073709551616 := by simp [IntKind.wrap, IntKind.bits, IntKind.signed]
theorem wUi {n : Int} (h0 : 0 ≤ n) (h1 : n < 18446744073709551616) : IntKind.u64.wrap n = n := by rw [wU]; omega
theorem tm {a b : Int} (h : 0 ≤ a) : Int.tmod a b = a % b := Int.tmod_eq_emod_of_nonneg h
def win (x : Int) : Int := if x ≤ 1 then 256 else if x ≤ 2 then 65536 else if x ≤ 3 then 16777216 else 4294967296
def bts (x : Int) : Int := if x ≤ 1 then 8 else if x ≤ 2 then 16 else if x ≤ 3 then 24 else 32
theorem win4 (x : Int) : (bts x = 8 ∧ win x = 256) ∨ (bts x = 16 ∧ win x = 65536) ∨ (bts x = 24 ∧ win x = 16777216) ∨ (bts x = 32 ∧ win x = 4294967296) := by
  unfold bts win
  (repeat' split) <;> simp
theorem of_win (x : Int) : pnum_of.f x = some (bts x) := by
  unfold pnum_of.f bts mn mx
  simp only [Option.some.injEq]
  (repeat' split) <;> omega
theorem window_eq (x : Int) : pnum_width_window.f (bts x) = some (win x) := by
  rcases win4 x with ⟨h, h'⟩ | ⟨h, h'⟩ | ⟨h, h'⟩ | ⟨h, h'⟩ <;> rw [h, h'] <;> decide +kernel
theorem low_eq (x n : Int) (h0 : 0 ≤ n) (h1 : n < 18446744073709551616) : pnum_width_low.f (bts x) n = some (n % win x) := by
  unfold pnum_width_low.f
  rw [window_eq]
  simp only [Option.bind_some, Option.some.injEq]
  have hk : ∀ n : Int, 0 ≤ n → n < 2 ^ 64 → IntKind.u64.wrap n = n := fun n a b => wUi a (by simpa using b)
  have h2 : n < 2 ^ 64 := by simpa using h1
  rcases win4 x with ⟨_, h'⟩ | ⟨_, h'⟩ | ⟨_, h'⟩ | ⟨_, h'⟩ <;> rw [h', wU]
  · exact bits_mask .u64 64 (by decide) hk 8 (by decide) n h0 h2
  · exact bits_mask .u64 64 (by decide) hk 16 (by decide) n h0 h2
  · exact bits_mask .u64 64 (by decide) hk 24 (by decide) n h0 h2
  · exact bits_mask .u64 64 (by decide) hk 32 (by decide) n h0 h2
theorem cut_eq (x n : Int) (h0 : 0 ≤ n) (h1 : n < 18446744073709551616) : pnum_Cut.f n x = some (n % win x) := by
  unfold pnum_Cut.f
  rw [of_win]
  simp only [Option.bind_some]
  rw [low_eq x n h0 h1]
  rfl
def near (e c w : Int) : Int := if e - e % w + c + w / 2 ≤ e ∧ e - e % w + c < 4611686018427387904 - w then e - e % w + c + w else if e + w / 2 < e - e % w + c ∧ w ≤ e - e % w + c then e - e % w + c - w else e - e % w + c
theorem or_eq (x e c : Int) (he0 : 0 ≤ e) (he : e ≤ 4611686018427387904) : Go.bits .or .u64 (IntKind.u64.wrap (e - e % win x)) (c % win x) = e - e % win x + c % win x := by
  have hk : ∀ n : Int, 0 ≤ n → n < 2 ^ 64 → IntKind.u64.wrap n = n := fun n a b => wUi a (by simpa using b)
  rcases win4 x with ⟨_, h'⟩ | ⟨_, h'⟩ | ⟨_, h'⟩ | ⟨_, h'⟩ <;> rw [h', wUi (by omega) (by omega)]
  · exact bits_join .u64 64 (by decide) hk 8 _ _ (by omega) (by first | omega | (simp; omega) | simp) (by first | omega | (simp; omega) | simp) (by omega) (by first | omega | (simp; omega) | simp) (by first | omega | (simp; omega) | simp)
  · exact bits_join .u64 64 (by decide) hk 16 _ _ (by omega) (by first | omega | (simp; omega) | simp) (by first | omega | (simp; omega) | simp) (by omega) (by first | omega | (simp; omega) | simp) (by first | omega | (simp; omega) | simp)
  · exact bits_join .u64 64 (by decide) hk 24 _ _ (by omega) (by first | omega | (simp; omega) | simp) (by first | omega | (simp; omega) | simp) (by omega) (by first | omega | (simp; omega) | simp) (by first | omega | (simp; omega) | simp)
  · exact bits_join .u64 64 (by decide) hk 32 _ _ (by omega) (by first | omega | (simp; omega) | simp) (by first | omega | (simp; omega) | simp) (by omega) (by first | omega | (simp; omega) | simp) (by first | omega | (simp; omega) | simp)
theorem closest_core (e p q w : Int) (hw0 : 0 < w) (hw : w ≤ 4294967296) (he : e ≤ 4611686018427387904) (hp0 : 0 ≤ p) (hp : p ≤ e) (hpw : p < w) (hq0 : 0 ≤ q) (hq : q < w) :
    (if IntKind.u64.wrap (e - p + q + w / 2) ≤ e then (if e - p + q < IntKind.u64.wrap (4611686018427387904 - w) then some (IntKind.u64.wrap (e - p + q + w)) else if e - p + q > IntKind.u64.wrap (e + w / 2) then (if e - p + q ≥ w then some (IntKind.u64.wrap (e - p + q - w)) else some (e - p + q)) else some (e - p + q))
      else if e - p + q > IntKind.u64.wrap (e + w / 2) then (if e - p + q ≥ w then some (IntKind.u64.wrap (e - p + q - w)) else some (e - p + q)) else some (e - p + q)) =
    some (if e - p + q + w / 2 ≤ e ∧ e - p + q < 4611686018427387904 - w then e - p + q + w else if e + w / 2 < e - p + q ∧ w ≤ e - p + q then e - p + q - w else e - p + q) := by
  rw [wUi (n := e - p + q + w / 2) (by omega) (by omega), wUi (n := 4611686018427387904 - w) (by omega) (by omega), wUi (n := e - p + q + w) (by omega) (by omega), wUi (n := e + w / 2) (by omega) (by omega)]
  by_cases h : e - p + q ≥ w
  · rw [wUi (n := e - p + q - w) (by omega) (by omega)]
    (repeat' split) <;> (first | rfl | (exfalso; omega))
  · rw [if_neg h]
    (repeat' split) <;> (first | rfl | (exfalso; omega))
theorem win_m (x n : Int) (h : 0 ≤ n) : 0 < win x ∧ win x ≤ 4294967296 ∧ 0 ≤ n % win x ∧ n % win x < win x ∧ n % win x ≤ n := by
  rcases win4 x with ⟨_, h'⟩ | ⟨_, h'⟩ | ⟨_, h'⟩ | ⟨_, h'⟩ <;> rw [h'] <;> omega
theorem closest_eq (k : Nat) (x e c : Int) (he0 : 0 ≤ e) (he : e ≤ 4611686018427387904) (hc0 : 0 ≤ c) (hc : c < 18446744073709551616) :
    pnum_near_closest.f (k + 1) (bts x) e c = some (near e (c % win x) (win x)) := by
  unfold pnum_near_closest.f
  rw [window_eq, low_eq x e he0 (by omega), low_eq x c hc0 hc]
  simp only [Option.bind_some, or_eq x e c he0 he, pnum_near_closest.j0, window_eq, decide_eq_true_eq, Bool.false_eq_true, if_false]
  obtain ⟨w0, w1, p0, p1, p2⟩ := win_m x e he0
  obtain ⟨_, _, q0, q1, _⟩ := win_m x c hc0
  exact closest_core e (e % win x) (c % win x) (win x) w0 w1 he p0 p2 p1 q0 q1
theorem expand_eq (k : Nat) (x l c : Int) (any : Bool) (hl0 : 0 ≤ l) (hl : l < 4611686018427387904) (hc0 : 0 ≤ c) (hc : c < 18446744073709551616) :
    pnum_Expand.f (k + 1) l any c x = some (near (if any = true then l + 1 else 0) (c % win x) (win x)) := by
  unfold pnum_Expand.f
  rw [of_win]
  simp only [Option.bind_some]
  cases any
  · rw [if_neg (by simp), closest_eq k x 0 c (by omega) (by omega) hc0 hc]; rfl
  · rw [if_pos rfl, wUi (by omega) (by omega), closest_eq k x (l + 1) c (by omega) (by omega) hc0 hc]; rfl
theorem near_back (x e n : Int) (h0 : 0 ≤ n) (h1 : n < 4611686018427387904) (he : 0 ≤ e) (ha : e < n + win x / 2) (hb : n ≤ e + win x / 2) : near e (n % win x) (win x) = n := by
  unfold near
  rcases win4 x with ⟨_, h'⟩ | ⟨_, h'⟩ | ⟨_, h'⟩ | ⟨_, h'⟩ <;> rw [h'] at ha hb ⊢ <;> (repeat' split) <;> omega
theorem shown_t (k : Nat) : dominolaw02_shown.f (k + 8) = some true := at_rounds dominolaw02_shown.mono (Nat.le_add_left 8 k) (by decide +kernel)
def need (d : Int) : Int := if 2 * d < 256 then 1 else if 2 * d < 65536 then 2 else if 2 * d < 16777216 then 3 else 4
def dist (a b : Int) (any : Bool) : Int := if any = true then (if b < a then a - b else 1) else a + 1
theorem bytes_step (k : Nat) (d j : Int) : pnum_Bytes.l0 (k + 1) d j = if j < 4 then (if win j ≤ IntKind.u64.wrap (d * 2) then pnum_Bytes.l0 k d (wrap64 (j + 1)) else some j) else some j := by
  simp only [pnum_Bytes.l0, of_win, Option.bind_some, window_eq]
theorem bytes_l (k : Nat) (d : Int) (h0 : 0 ≤ d) (h1 : d ≤ 4611686018427387904) : pnum_Bytes.l0 (k + 4) d 1 = some (need d) := by
  have e1 : wrap64 (1 + 1) = 2 := by decide +kernel
  have e2 : wrap64 (2 + 1) = 3 := by decide +kernel
  have e3 : wrap64 (3 + 1) = 4 := by decide +kernel
  have w1 : win 1 = 256 := by decide +kernel
  have w2 : win 2 = 65536 := by decide +kernel
  have w3 : win 3 = 16777216 := by decide +kernel
  rw [bytes_step, bytes_step, e1, bytes_step, e2, bytes_step, e3, wUi (by omega) (by omega), w1, w2, w3]
  unfold need
  (repeat' split) <;> (first | rfl | (exfalso; omega))
theorem bytes_eq (k : Nat) (a b : Int) (any : Bool) (ha0 : 0 ≤ a) (ha : a < 4611686018427387904) (hb0 : 0 ≤ b) (hb : b < 18446744073709551616) :
    pnum_Bytes.f (k + 5) a b any = some (need (dist a b any)) := by
  unfold pnum_Bytes.f dist
  cases any
  · rw [if_neg (by simp), if_neg (by simp), wUi (by omega) (by omega)]
    simp only [pnum_Bytes.j0]
    exact bytes_l k _ (by omega) (by omega)
  · rw [if_pos rfl, if_pos rfl]
    by_cases h : a > b
    · rw [if_pos h, if_pos (by omega), wUi (by omega) (by omega)]
      simp only [pnum_Bytes.j0]
      exact bytes_l k _ (by omega) (by omega)
    · rw [if_neg h, if_neg (by omega)]
      simp only [pnum_Bytes.j0]
      exact bytes_l k _ (by omega) (by omega)
theorem PnumFirst : dominolaw02_PnumFirst.Pure := by
  intro n hn
  obtain ⟨h0, h1⟩ := u64b hn
  refine ⟨20, ?_⟩
  unfold dominolaw02_PnumFirst.f
  have hs := shown_t 12
  have hs' := shown_t 11
  by_cases h : n ≥ 4611686018427387903
  · rw [if_pos h]
    simp only [dominolaw02_PnumFirst.j0, if_true]
    rw [hs']; rfl
  · rw [if_neg h, hs]
    simp only [Option.bind_some, Bool.not_true, dominolaw02_PnumFirst.j0, Bool.false_eq_true, if_false]
    rw [wUi (by omega) (by omega), bytes_eq 14 n 0 false h0 (by omega) (by omega) (by omega), bytes_eq 14 (n + 1) 0 true (by omega) (by omega) (by omega) (by omega),
      bytes_eq 14 n n true (by omega) (by omega) (by omega) (by omega), bytes_eq 14 n (n + 1) true (by omega) (by omega) (by omega) (by omega)]
    simp only [Option.bind_some]
    have e1 : dist n 0 false = n + 1 := by unfold dist; simp
    have e2 : dist (n + 1) 0 true = n + 1 := by unfold dist; rw [if_pos rfl, if_pos (by omega)]; omega
    have e3 : dist n n true = 1 := by unfold dist; rw [if_pos rfl, if_neg (by omega)]
    have e4 : dist n (n + 1) true = 1 := by unfold dist; rw [if_pos rfl, if_neg (by omega)]
    have e5 : need 1 = 1 := by decide +kernel
    rw [e1, e2, e3, e4, e5]
    simp

end Go.Proofs.Ytgfpcdedaailiaa.Pure
