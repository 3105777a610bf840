/- PnumStep, for every first number, width and distance, no condition: of numbers that rise one by one each is expanded to itself, as wide as its distance from any one that is behind by less than a quarter of the window. -/
import Derived.Test.YtgfpcdedaailiaaPPnumStepx1
namespace Go.Proofs.Ytgfpcdedaailiaa.Pure
open Go.RowKit Go.Proofs.Ytgfpcdedaailiaa.PPnumStep Go.Proofs.YtgfpcdedaailiaaW.PrintWords Go.Proofs.YtgfpcdedaailiaaW.PrintLast
theorem u64b {n : Int} (h : (Lit.int .u64 n).wf = true) : 0 ≤ n ∧ n < 18446744073709551616 := by
  simp [Lit.wf, IntKind.min, IntKind.max, IntKind.signed, IntKind.bits] at h
  omega
theorem wU (n : Int) : IntKind.u64.wrap n = n % 18446744073709551616 := by simp [IntKind.wrap, IntKind.bits, IntKind.signed]
theorem wUi {n : Int} (h0 : 0 ≤ n) (h1 : n < 18446744073709551616) : IntKind.u64.wrap n = n := by rw [wU]; omega
theorem tm {a b : Int} (h : 0 ≤ a) : Int.tmod a b = a % b := Int.tmod_eq_emod_of_nonneg h
def win (x : Int) : Int := if x ≤ 1 then 256 else if x ≤ 2 then 65536 else if x ≤ 3 then 16777216 else 4294967296
def bts (x : Int) : Int := if x ≤ 1 then 8 else if x ≤ 2 then 16 else if x ≤ 3 then 24 else 32
theorem win4 (x : Int) : (bts x = 8 ∧ win x = 256) ∨ (bts x = 16 ∧ win x = 65536) ∨ (bts x = 24 ∧ win x = 16777216) ∨ (bts x = 32 ∧ win x = 4294967296) := by
  unfold bts win
  (repeat' split) <;> simp
theorem of_win (x : Int) : pnum_of.f x = some (bts x) := by
  unfold pnum_of.f bts mn mx
  simp only [Option.some.injEq]
  (repeat' split) <;> omega
theorem window_eq (x : Int) : pnum_width_window.f (bts x) = some (win x) := by
  rcases win4 x with ⟨h, h'⟩ | ⟨h, h'⟩ | ⟨h, h'⟩ | ⟨h, h'⟩ <;> rw [h, h'] <;> decide +kernel
theorem low_eq (x n : Int) (h0 : 0 ≤ n) (h1 : n < 18446744073709551616) : pnum_width_low.f (bts x) n = some (n % win x) := by
  unfold pnum_width_low.f
  rw [window_eq]
  simp only [Option.bind_some, Option.some.injEq]
  have hk : ∀ n : Int, 0 ≤ n → n < 2 ^ 64 → IntKind.u64.wrap n = n := fun n a b => wUi a (by simpa using b)
  have h2 : n < 2 ^ 64 := by simpa using h1
  rcases win4 x with ⟨_, h'⟩ | ⟨_, h'⟩ | ⟨_, h'⟩ | ⟨_, h'⟩ <;> rw [h', wU]
  · exact bits_mask .u64 64 (by decide) hk 8 (by decide) n h0 h2
  · exact bits_mask .u64 64 (by decide) hk 16 (by decide) n h0 h2
  · exact bits_mask .u64 64 (by decide) hk 24 (by decide) n h0 h2
  · exact bits_mask .u64 64 (by decide) hk 32 (by decide) n h0 h2
theorem cut_eq (x n : Int) (h0 : 0 ≤ n) (h1 : n < 18446744073709551616) : pnum_Cut.f n x = some (n % win x) := by
  unfold pnum_Cut.f
  rw [of_win]
  simp only [Option.bind_some]
  rw [low_eq x n h0 h1]
  rfl
def near (e c w : Int) : Int := if e - e % w + c + w / 2 ≤ e ∧ e - e % w + c < 4611686018427387904 - w then e - e % w + c + w else if e + w / 2 < e - e % w + c ∧ w ≤ e - e % w + c then e - e % w + c - w else e - e % w + c
theorem or_eq (x e c : Int) (he0 : 0 ≤ e) (he : e ≤ 4611686018427387904) : Go.bits .or .u64 (IntKind.u64.wrap (e - e % win x)) (c % win x) = e - e % win x + c % win x := by
  have hk : ∀ n : Int, 0 ≤ n → n < 2 ^ 64 → IntKind.u64.wrap n = n := fun n a b => wUi a (by simpa using b)
  rcases win4 x with ⟨_, h'⟩ | ⟨_, h'⟩ | ⟨_, h'⟩ | ⟨_, h'⟩ <;> rw [h', wUi (by omega) (by omega)]
  · exact bits_join .u64 64 (by decide) hk 8 _ _ (by omega) (by first | omega | (simp; omega) | simp) (by first | omega | (simp; omega) | simp) (by omega) (by first | omega | (simp; omega) | simp) (by first | omega | (simp; omega) | simp)
  · exact bits_join .u64 64 (by decide) hk 16 _ _ (by omega) (by first | omega | (simp; omega) | simp) (by first | omega | (simp; omega) | simp) (by omega) (by first | omega | (simp; omega) | simp) (by first | omega | (simp; omega) | simp)
  · exact bits_join .u64 64 (by decide) hk 24 _ _ (by omega) (by first | omega | (simp; omega) | simp) (by first | omega | (simp; omega) | simp) (by omega) (by first | omega | (simp; omega) | simp) (by first | omega | (simp; omega) | simp)
  · exact bits_join .u64 64 (by decide) hk 32 _ _ (by omega) (by first | omega | (simp; omega) | simp) (by first | omega | (simp; omega) | simp) (by omega) (by first | omega | (simp; omega) | simp) (by first | omega | (simp; omega) | simp)
theorem closest_core (e p q w : Int) (hw0 : 0 < w) (hw : w ≤ 4294967296) (he : e ≤ 4611686018427387904) (hp0 : 0 ≤ p) (hp : p ≤ e) (hpw : p < w) (hq0 : 0 ≤ q) (hq : q < w) :
    (if IntKind.u64.wrap (e - p + q + w / 2) ≤ e then (if e - p + q < IntKind.u64.wrap (4611686018427387904 - w) then some (IntKind.u64.wrap (e - p + q + w)) else if e - p + q > IntKind.u64.wrap (e + w / 2) then (if e - p + q ≥ w then some (IntKind.u64.wrap (e - p + q - w)) else some (e - p + q)) else some (e - p + q))
      else if e - p + q > IntKind.u64.wrap (e + w / 2) then (if e - p + q ≥ w then some (IntKind.u64.wrap (e - p + q - w)) else some (e - p + q)) else some (e - p + q)) =
    some (if e - p + q + w / 2 ≤ e ∧ e - p + q < 4611686018427387904 - w then e - p + q + w else if e + w / 2 < e - p + q ∧ w ≤ e - p + q then e - p + q - w else e - p + q) := by
  rw [wUi (n := e - p + q + w / 2) (by omega) (by omega), wUi (n := 4611686018427387904 - w) (by omega) (by omega), wUi (n := e - p + q + w) (by omega) (by omega), wUi (n := e + w / 2) (by omega) (by omega)]
  by_cases h : e - p + q ≥ w
  · rw [wUi (n := e - p + q - w) (by omega) (by omega)]
    (repeat' split) <;> (first | rfl | (exfalso; omega))
  · rw [if_neg h]
    (repeat' split) <;> (first | rfl | (exfalso; omega))
theorem win_m (x n : Int) (h : 0 ≤ n) : 0 < win x ∧ win x ≤ 4294967296 ∧ 0 ≤ n % win x ∧ n % win x < win x ∧ n % win x ≤ n := by
  rcases win4 x with ⟨_, h'⟩ | ⟨_, h'⟩ | ⟨_, h'⟩ | ⟨_, h'⟩ <;> rw [h'] <;> omega
theorem closest_eq (k : Nat) (x e c : Int) (he0 : 0 ≤ e) (he : e ≤ 4611686018427387904) (hc0 : 0 ≤ c) (hc : c < 18446744073709551616) :
    pnum_near_closest.f (k + 1) (bts x) e c = some (near e (c % win x) (win x)) := by
  unfold pnum_near_closest.f
  rw [window_eq, low_eq x e he0 (by omega), low_eq x c hc0 hc]
  simp only [Option.bind_some, or_eq x e c he0 he, pnum_near_closest.j0, window_eq, decide_eq_true_eq, Bool.false_eq_true, if_false]
  obtain ⟨w0, w1, p0, p1, p2⟩ := win_m x e he0
  obtain ⟨_, _, q0, q1, _⟩ := win_m x c hc0
  exact closest_core e (e % win x) (c % win x) (win x) w0 w1 he p0 p2 p1 q0 q1
theorem expand_eq (k : Nat) (x l c : Int) (any : Bool) (hl0 : 0 ≤ l) (hl : l < 4611686018427387904) (hc0 : 0 ≤ c) (hc : c < 18446744073709551616) :
    pnum_Expand.f (k + 1) l any c x = some (near (if any = true then l + 1 else 0) (c % win x) (win x)) := by
  unfold pnum_Expand.f
  rw [of_win]
  simp only [Option.bind_some]
  cases any
  · rw [if_neg (by simp), closest_eq k x 0 c (by omega) (by omega) hc0 hc]; rfl
  · rw [if_pos rfl, wUi (by omega) (by omega), closest_eq k x (l + 1) c (by omega) (by omega) hc0 hc]; rfl
theorem near_back (x e n : Int) (h0 : 0 ≤ n) (h1 : n < 4611686018427387904) (he : 0 ≤ e) (ha : e < n + win x / 2) (hb : n ≤ e + win x / 2) : near e (n % win x) (win x) = n := by
  unfold near
  rcases win4 x with ⟨_, h'⟩ | ⟨_, h'⟩ | ⟨_, h'⟩ | ⟨_, h'⟩ <;> rw [h'] at ha hb ⊢ <;> (repeat' split) <;> omega
theorem shown_t (k : Nat) : dominolaw02_shown.f (k + 8) = some true := at_rounds dominolaw02_shown.mono (Nat.le_add_left 8 k) (by decide +kernel)
theorem u8b {n : Int} (h : (Lit.int .u8 n).wf = true) : 0 ≤ n ∧ n < 256 := by
  simp [Lit.wf, IntKind.min, IntKind.max, IntKind.signed, IntKind.bits] at h
  omega
theorem u32b {n : Int} (h : (Lit.int .u32 n).wf = true) : 0 ≤ n ∧ n < 4294967296 := by
  simp [Lit.wf, IntKind.min, IntKind.max, IntKind.signed, IntKind.bits] at h
  omega
theorem stepped (l x b : Int) (l0 : 0 ≤ l) (l1 : l ≤ 4611686000000000000) (b0 : 0 ≤ b) (hb : b < win x / 4) (k : Nat) : dominolaw02_PnumStep.j0 (k + 2) l x b false = some true := by
  have hw : 0 < win x ∧ win x ≤ 4294967296 := by
    rcases win4 x with ⟨_, h'⟩ | ⟨_, h'⟩ | ⟨_, h'⟩ | ⟨_, h'⟩ <;> rw [h'] <;> omega
  simp only [dominolaw02_PnumStep.j0, Bool.false_eq_true, if_false]
  rw [wUi (n := l + b) (by omega) (by omega), cut_eq x (l + b) (by omega) (by omega), cut_eq x l (by omega) (by omega)]
  simp only [Option.bind_some]
  have hm0 := Int.emod_nonneg (l + b) (b := win x) (by omega)
  have hm1 := Int.emod_lt_of_pos (l + b) hw.1
  have hn0 := Int.emod_nonneg l (b := win x) (by omega)
  have hn1 := Int.emod_lt_of_pos l hw.1
  rw [expand_eq k x l _ true l0 (by omega) hm0 (by omega), expand_eq k x (l + b) _ true (by omega) (by omega) hn0 (by omega), if_pos rfl, if_pos rfl]
  simp only [Option.bind_some, Int.emod_emod]
  rw [near_back x (l + 1) (l + b) (by omega) (by omega) (by omega) (by omega) (by omega), near_back x (l + b + 1) l (by omega) (by omega) (by omega) (by omega) (by omega), if_pos rfl]
  simp
theorem widths (y : Int) (h0 : 0 ≤ y) (h1 : y < 256) : ∃ x, wrap64 (1 + (Int.tmod (wrap64 y) 4)) = x ∧ 1 ≤ x ∧ x ≤ 4 := by
  have e : wrap64 y = y := by unfold wrap64; omega
  refine ⟨_, rfl, ?_⟩
  rw [e, tm h0]
  unfold wrap64
  omega
theorem wide_shl (x : Int) (h0 : 1 ≤ x) (h1 : x ≤ 4) : wrap64 (8 * x) = bts x ∧ shl .u64 1 (wrap64 (8 * x)) = win x := by
  have : x = 1 ∨ x = 2 ∨ x = 3 ∨ x = 4 := by omega
  rcases this with rfl | rfl | rfl | rfl <;> decide +kernel
theorem PnumStep : dominolaw02_PnumStep.Pure := by
  intro l y b hl hy hb
  obtain ⟨l0, l1⟩ := u64b hl
  obtain ⟨y0, y1⟩ := u8b hy
  obtain ⟨b0, b1⟩ := u32b hb
  refine ⟨20, ?_⟩
  unfold dominolaw02_PnumStep.f
  have hs := shown_t 12
  have hs' := shown_t 11
  obtain ⟨x, hx, x0, x1⟩ := widths y y0 y1
  obtain ⟨g1, g2⟩ := wide_shl x x0 x1
  rw [hx, g2, g1]
  have hbt : 0 ≤ bts x := by rcases win4 x with ⟨h', _⟩ | ⟨h', _⟩ | ⟨h', _⟩ | ⟨h', _⟩ <;> rw [h'] <;> omega
  have hw : 0 < win x / 4 ∧ win x / 4 ≤ 4294967296 := by
    rcases win4 x with ⟨_, h'⟩ | ⟨_, h'⟩ | ⟨_, h'⟩ | ⟨_, h'⟩ <;> rw [h'] <;> omega
  rw [if_pos hbt, if_neg (by omega), wUi (n := b) (by omega) (by omega), tm b0]
  by_cases h : l > 4611686000000000000
  · rw [if_pos h]
    simp only [dominolaw02_PnumStep.j0, if_true]
    rw [hs']; rfl
  · rw [if_neg h, hs]
    simp only [Option.bind_some, Bool.not_true]
    exact stepped l x _ l0 (by omega) (Int.emod_nonneg _ (by omega)) (Int.emod_lt_of_pos _ hw.1) 18

end Go.Proofs.Ytgfpcdedaailiaa.Pure
