/- A set is the same, in whatever order its ranges come, also if they come again. -/
import Derived.Test.YtpjohlcidmnikaaPRgxx13
import Derived.Test.YtpjohlcidmnikaaPRgxx5
import Derived.Test.YtpjohlcidmnikaaPRgxx6
import Derived.Test.YtpjohlcidmnikaaPRgxx13
namespace Go.Proofs.Ytpjohlcidmnikaa.Pure
open Go.RowKit Go.Proofs.Ytpjohlcidmnikaa.PRgx Go.Proofs.YtpjohlcidmnikaaW.PrintWords Go.Proofs.YtpjohlcidmnikaaW.PrintLast
set_option linter.unusedVariables false
set_option linter.unusedSimpArgs false
/-! ### sets of ranges -/
def memR (s : List (Int × Int)) (n : Int) : Prop := ∃ r ∈ s, r.1 ≤ n ∧ n ≤ r.2
def mayR : Int → List (Int × Int) → Prop
  | _, [] => True
  | e, r :: t => r.1 ≤ r.2 ∧ e ≤ r.1 ∧ r.2 < 9223372036854775808 ∧ mayR (r.2 + 2) t
theorem memR_nil (n : Int) : ¬ memR [] n := by rintro ⟨r, h, _⟩; cases h
theorem memR_cons (r : Int × Int) (t : List (Int × Int)) (n : Int) : memR (r :: t) n ↔ (r.1 ≤ n ∧ n ≤ r.2) ∨ memR t n := by
  constructor
  · rintro ⟨q, h, h2⟩
    rcases List.mem_cons.1 h with rfl | h
    · exact Or.inl h2
    · exact Or.inr ⟨q, h, h2⟩
  · rintro (h | ⟨q, h, h2⟩)
    · exact ⟨r, List.mem_cons_self, h⟩
    · exact ⟨q, List.mem_cons_of_mem _ h, h2⟩
theorem memR_append (s t : List (Int × Int)) (n : Int) : memR (s ++ t) n ↔ memR s n ∨ memR t n := by
  induction s with
  | nil => simp [memR_nil]
  | cons r s ih => rw [List.cons_append, memR_cons, memR_cons, ih, or_assoc]
theorem mayR_le {s : List (Int × Int)} {e e' : Int} (h : mayR e s) (h' : e' ≤ e) : mayR e' s := by
  cases s with
  | nil => trivial
  | cons r t => exact ⟨h.1, by have := h.2.1; omega, h.2.2⟩
theorem mayR_low {s : List (Int × Int)} : ∀ {e : Int}, mayR e s → ∀ n, memR s n → e ≤ n ∧ n < 9223372036854775808 := by
  induction s with
  | nil => intro e _ n h; exact absurd h (memR_nil n)
  | cons r t ih =>
    intro e h n hn
    obtain ⟨h1, h2, h3, h4⟩ := h
    rcases (memR_cons r t n).1 hn with hn | hn
    · omega
    · have := ih h4 n hn; omega
theorem mayR_unique {s : List (Int × Int)} : ∀ {e e' : Int} {t : List (Int × Int)}, mayR e s → mayR e' t → (∀ n, memR s n ↔ memR t n) → s = t := by
  induction s with
  | nil =>
    intro e e' t _ ht h
    cases t with
    | nil => rfl
    | cons q t => exact absurd ((h q.1).2 ((memR_cons q t q.1).2 (Or.inl ⟨Int.le_refl _, ht.1⟩))) (memR_nil _)
  | cons r s ih =>
    intro e e' t hs ht h
    cases t with
    | nil => exact absurd ((h r.1).1 ((memR_cons r s r.1).2 (Or.inl ⟨Int.le_refl _, hs.1⟩))) (memR_nil _)
    | cons q t =>
      obtain ⟨r1, r2, r3, r4⟩ := hs
      obtain ⟨q1, q2, q3, q4⟩ := ht
      have ms : ∀ n, memR s n → r.2 + 2 ≤ n := fun n hn => (mayR_low r4 n hn).1
      have mt : ∀ n, memR t n → q.2 + 2 ≤ n := fun n hn => (mayR_low q4 n hn).1
      have e1 : r.1 = q.1 := by
        have a := (memR_cons q t r.1).1 ((h r.1).1 ((memR_cons r s r.1).2 (Or.inl ⟨Int.le_refl _, r1⟩)))
        have b := (memR_cons r s q.1).1 ((h q.1).2 ((memR_cons q t q.1).2 (Or.inl ⟨Int.le_refl _, q1⟩)))
        have c := mt r.1
        have d := ms q.1
        rcases a with a | a
        · rcases b with b | b
          · omega
          · have := d b; omega
        · have := c a
          rcases b with b | b
          · omega
          · have := d b; omega
      have e2 : r.2 = q.2 := by
        rcases Int.lt_trichotomy r.2 q.2 with c | c | c
        · have a := (memR_cons r s (r.2 + 1)).1 ((h (r.2 + 1)).2 ((memR_cons q t (r.2 + 1)).2 (Or.inl (by omega))))
          rcases a with a | a
          · omega
          · have := ms _ a; omega
        · exact c
        · have a := (memR_cons q t (q.2 + 1)).1 ((h (q.2 + 1)).1 ((memR_cons r s (q.2 + 1)).2 (Or.inl (by omega))))
          rcases a with a | a
          · omega
          · have := mt _ a; omega
      have e3 : r = q := Prod.ext e1 e2
      subst e3
      rw [ih r4 q4 (fun n => ?_)]
      constructor
      · intro hn
        rcases (memR_cons r t n).1 ((h n).1 ((memR_cons r s n).2 (Or.inr hn))) with a | a
        · have := ms n hn; omega
        · exact a
      · intro hn
        rcases (memR_cons r s n).1 ((h n).2 ((memR_cons r t n).2 (Or.inr hn))) with a | a
        · have := mt n hn; omega
        · exact a
/-! ### edges, weights, runs -/
def wtE (l : List (Int × Int)) (n : Int) : Int := match l with
  | [] => 0
  | e :: t => (if e.1 ≤ n then e.2 else 0) + wtE t n
def sumE (l : List (Int × Int)) : Int := match l with
  | [] => 0
  | e :: t => e.2 + sumE t
/-- The weight behind all edges at a, and the edges that are left. -/
def grpE (a : Int) : Int → List (Int × Int) → Int × List (Int × Int)
  | w, [] => (w, [])
  | w, e :: t => if e.1 = a then grpE a (w + e.2) t else (w, e :: t)
theorem grpE_len (a : Int) : ∀ (l : List (Int × Int)) (w : Int), (grpE a w l).2.length ≤ l.length
  | [], _ => Nat.le_refl _
  | e :: t, w => by
    rw [grpE]
    split
    · have := grpE_len a t (w + e.2); simp; omega
    · exact Nat.le_refl _
def runsE (wanted : Int → Bool) : Nat → List (Int × Int) → Int → Bool → Int → List (Int × Int)
  | 0, _, _, _, _ => []
  | _ + 1, [], _, _, _ => []
  | k + 1, e :: t, w, op, from_ =>
    let g := grpE e.1 w (e :: t)
    if wanted g.1 then (if op then runsE wanted k g.2 g.1 op from_ else runsE wanted k g.2 g.1 true e.1)
    else if op then (from_, e.1 - 1) :: runsE wanted k g.2 g.1 false from_ else runsE wanted k g.2 g.1 op from_
def sortE : List (Int × Int) → Prop
  | [] => True
  | e :: t => (∀ x ∈ t, e.1 ≤ x.1) ∧ sortE t
theorem grpE_says (a : Int) : ∀ (l : List (Int × Int)) (w : Int), sortE l → (∀ x ∈ l, a ≤ x.1) → sortE (grpE a w l).2 ∧ (∀ x ∈ (grpE a w l).2, a < x.1 ∧ x ∈ l) ∧ (grpE a w l).1 + sumE (grpE a w l).2 = w + sumE l ∧
    (∀ n, a ≤ n → (grpE a w l).1 + wtE (grpE a w l).2 n = w + wtE l n)
  | [], w, _, _ => ⟨trivial, by simp [grpE], rfl, fun _ _ => rfl⟩
  | e :: t, w, hs, ha => by
    rw [grpE]
    by_cases c : e.1 = a
    · rw [if_pos c]
      obtain ⟨h1, h2, h3, h4⟩ := grpE_says a t (w + e.2) hs.2 (fun x hx => ha x (List.mem_cons_of_mem _ hx))
      refine ⟨h1, fun x hx => ⟨(h2 x hx).1, List.mem_cons_of_mem _ (h2 x hx).2⟩, by rw [h3, sumE]; omega, fun n hn => ?_⟩
      rw [h4 n hn, wtE, if_pos (by omega)]
      omega
    · rw [if_neg c]
      have he := ha e List.mem_cons_self
      refine ⟨hs, fun x hx => ⟨?_, hx⟩, rfl, fun n _ => rfl⟩
      rcases List.mem_cons.1 hx with rfl | hx2
      · omega
      · have := hs.1 x hx2; omega
theorem wtE_low {l : List (Int × Int)} {n : Int} (h : ∀ x ∈ l, n < x.1) : wtE l n = 0 := by
  induction l with
  | nil => rfl
  | cons e t ih =>
    have := h e List.mem_cons_self
    rw [wtE, if_neg (by omega), ih (fun x hx => h x (List.mem_cons_of_mem _ hx))]
    rfl
/-- The runs: they may be, and a number is in one just where its weight is wanted. -/
theorem runsE_says (wanted : Int → Bool) (hw0 : wanted 0 = false) : ∀ (k : Nat) (l : List (Int × Int)) (w from_ lo : Int) (op : Bool), l.length < k → sortE l → (∀ x ∈ l, lo ≤ x.1 ∧ x.1 ≤ 9223372036854775808) → w + sumE l = 0 → op = wanted w → (op = true → from_ < lo) →
    mayR (if op then from_ else lo) (runsE wanted k l w op from_) ∧ ∀ n, memR (runsE wanted k l w op from_) n ↔ ((op = true → from_ ≤ n) ∧ wanted (w + wtE l n) = true)
  | 0, l, w, from_, lo, op, hk, _, _, _, _, _ => absurd hk (by omega)
  | k + 1, [], w, from_, lo, op, hk, _, _, hz, ho, _ => by
    have e : w = 0 := by simpa [sumE] using hz
    subst e
    rw [hw0] at ho
    subst ho
    refine ⟨trivial, fun n => ?_⟩
    rw [runsE]
    constructor
    · intro h; exact absurd h (memR_nil n)
    · rintro ⟨_, h⟩
      simp [wtE, hw0] at h
  | k + 1, e :: t, w, from_, lo, op, hk, hs, hb, hz, ho, hf => by
    have hlo := hb e List.mem_cons_self
    obtain ⟨g1, g2, g3, g4⟩ := grpE_says e.1 (e :: t) w hs (fun x hx => by
      rcases List.mem_cons.1 hx with rfl | hx2
      · exact Int.le_refl _
      · exact hs.1 x hx2)
    have hgl : (grpE e.1 w (e :: t)).2.length < k := by
      have h := grpE_len e.1 t (w + e.2)
      rw [grpE, if_pos rfl]
      simp at hk
      omega
    have hb2 : ∀ x ∈ (grpE e.1 w (e :: t)).2, e.1 + 1 ≤ x.1 ∧ x.1 ≤ 9223372036854775808 := fun x hx => ⟨by have := (g2 x hx).1; omega, (hb x (g2 x hx).2).2⟩
    have hlow : ∀ n, n < e.1 → wtE (e :: t) n = 0 := fun n hn => wtE_low (fun x hx => by
      rcases List.mem_cons.1 hx with rfl | hx2
      · exact hn
      · have := hs.1 x hx2; omega)
    have hlow2 : ∀ n, n ≤ e.1 → wtE (grpE e.1 w (e :: t)).2 n = 0 := fun n hn => wtE_low (fun x hx => by have := (g2 x hx).1; omega)
    rw [runsE]
    generalize grpE e.1 w (e :: t) = g at *
    have ih := fun f o (h1 : o = wanted g.1) (h2 : o = true → f < e.1 + 1) => runsE_says wanted hw0 k g.2 g.1 f (e.1 + 1) o hgl g1 hb2 (by omega) h1 h2
    have lowW : ∀ n, n < e.1 → wanted (w + wtE (e :: t) n) = op := fun n hn => by rw [hlow n hn, ho]; simp
    have hiW : ∀ n, e.1 ≤ n → wanted (w + wtE (e :: t) n) = wanted (g.1 + wtE g.2 n) := fun n hn => by rw [g4 n hn]
    by_cases c : wanted g.1 = true
    · rw [if_pos c]
      cases op with
      | true =>
        simp only [if_true]
        have hf := hf rfl
        obtain ⟨m1, m2⟩ := ih from_ true c.symm (fun _ => by omega)
        refine ⟨m1, fun n => ?_⟩
        rw [m2 n]
        by_cases hn : e.1 ≤ n
        · rw [hiW n hn]
          simp
        · rw [lowW n (by omega), hlow2 n (by omega)]
          simp [c]
      | false =>
        simp only [Bool.false_eq_true, if_false]
        obtain ⟨m1, m2⟩ := ih e.1 true c.symm (fun _ => by omega)
        refine ⟨mayR_le m1 hlo.1, fun n => ?_⟩
        rw [m2 n]
        by_cases hn : e.1 ≤ n
        · rw [hiW n hn]
          simp [hn]
        · rw [lowW n (by omega)]
          simp [hn]
    · rw [if_neg c]
      have c' : false = wanted g.1 := by simpa using c
      cases op with
      | true =>
        simp only [if_true]
        have hf := hf rfl
        obtain ⟨m1, m2⟩ := ih from_ false c' (fun h => by cases h)
        simp only [Bool.false_eq_true, if_false] at m1
        refine ⟨⟨by show from_ ≤ e.1 - 1; omega, Int.le_refl _, by show e.1 - 1 < _; omega, mayR_le m1 (by show e.1 - 1 + 2 ≤ _; omega)⟩, fun n => ?_⟩
        rw [memR_cons, m2 n]
        by_cases hn : e.1 ≤ n
        · rw [hiW n hn]
          constructor
          · rintro (h | h)
            · have : n ≤ e.1 - 1 := h.2; omega
            · exact ⟨fun _ => by omega, h.2⟩
          · rintro ⟨_, h⟩
            exact Or.inr ⟨(fun h => by cases h), h⟩
        · rw [lowW n (by omega), hlow2 n (by omega)]
          constructor
          · rintro (h | h)
            · exact ⟨fun _ => h.1, rfl⟩
            · have := h.2; rw [Int.add_zero, ← c'] at this; cases this
          · rintro ⟨h, _⟩
            exact Or.inl ⟨h trivial, by show n ≤ e.1 - 1; omega⟩
      | false =>
        simp only [Bool.false_eq_true, if_false]
        obtain ⟨m1, m2⟩ := ih from_ false c' (fun h => by cases h)
        simp only [Bool.false_eq_true, if_false] at m1
        refine ⟨mayR_le m1 (by omega), fun n => ?_⟩
        rw [m2 n]
        by_cases hn : e.1 ≤ n
        · rw [hiW n hn]
          simp
        · rw [lowW n (by omega), hlow2 n (by omega), Int.add_zero, ← c']
          simp
open Go.Proofs.YtpjohlcidmnikaaR
/-! ### edges of a list of ranges; what is swept -/
def rg (x : S34) : Int × Int := (x.f0, x.f1)
def rg2 (x : S42) : Int × Int := (x.f0, x.f1)
theorem wtE_perm {l l' : List (Int × Int)} (h : l.Perm l') (n : Int) : wtE l n = wtE l' n := by
  induction h with
  | nil => rfl
  | cons x _ ih => rw [wtE, wtE, ih]
  | swap x y l => rw [wtE, wtE, wtE, wtE]; omega
  | trans _ _ h1 h2 => exact h1.trans h2
theorem sumE_perm {l l' : List (Int × Int)} (h : l.Perm l') : sumE l = sumE l' := by
  induction h with
  | nil => rfl
  | cons x _ ih => rw [sumE, sumE, ih]
  | swap x y l => rw [sumE, sumE, sumE, sumE]; omega
  | trans _ _ h1 h2 => exact h1.trans h2
theorem wtE_app (a b : List (Int × Int)) (n : Int) : wtE (a ++ b) n = wtE a n + wtE b n := by
  induction a with
  | nil => simp [wtE]
  | cons x a ih => rw [List.cons_append, wtE, wtE, ih]; omega
theorem sumE_app (a b : List (Int × Int)) : sumE (a ++ b) = sumE a + sumE b := by
  induction a with
  | nil => simp [sumE]
  | cons x a ih => rw [List.cons_append, sumE, sumE, ih]; omega
theorem grpW_eq (a : Int) : ∀ (l : List (Int × Int)) (w : Int), (∀ e ∈ l, -1 ≤ e.2 ∧ e.2 ≤ 1) → -1099511627776 ≤ w - l.length → w + l.length ≤ 1099511627776 → grpW a w l = grpE a w l ∧ -1099511627776 ≤ (grpE a w l).1 - (grpE a w l).2.length ∧ (grpE a w l).1 + (grpE a w l).2.length ≤ 1099511627776
  | [], w, _, h1, h2 => ⟨rfl, h1, h2⟩
  | e :: t, w, hb, h1, h2 => by
    have he := hb e List.mem_cons_self
    simp only [List.length_cons] at h1 h2
    rw [grpW, grpE]
    by_cases c : e.1 = a
    · have hw : wrap64 (w + e.2) = w + e.2 := by unfold wrap64; omega
      rw [if_pos c, if_pos c, hw]
      exact grpW_eq a t (w + e.2) (fun x hx => hb x (List.mem_cons_of_mem _ hx)) (by omega) (by omega)
    · rw [if_neg c, if_neg c]
      exact ⟨rfl, by simp only [List.length_cons]; omega, by simp only [List.length_cons]; omega⟩
theorem runsW_eq (wanted : Int → Bool) : ∀ (k : Nat) (l : List (Int × Int)) (w fr : Int) (op : Bool), (∀ e ∈ l, (-1 ≤ e.2 ∧ e.2 ≤ 1) ∧ 0 ≤ e.1 ∧ e.1 ≤ 9223372036854775808) → sortE l → -1099511627776 ≤ w - l.length → w + l.length ≤ 1099511627776 → (op = true → ∀ e ∈ l, 1 ≤ e.1) →
    runsW wanted k l w op fr = runsE wanted k l w op fr
  | 0, _, _, _, _, _, _, _, _, _ => rfl
  | _ + 1, [], _, _, _, _, _, _, _, _ => rfl
  | k + 1, e :: t, w, fr, op, hb, hs, h1, h2, ho => by
    obtain ⟨g1, g2, g3⟩ := grpW_eq e.1 (e :: t) w (fun x hx => (hb x hx).1) h1 h2
    obtain ⟨s1, s2, _, _⟩ := grpE_says e.1 (e :: t) w hs (fun x hx => by
      rcases List.mem_cons.1 hx with rfl | hx2
      · exact Int.le_refl _
      · exact hs.1 x hx2)
    have he := hb e List.mem_cons_self
    rw [runsW, runsE, g1]
    generalize grpE e.1 w (e :: t) = g at *
    have ih := fun f o ho => runsW_eq wanted k g.2 g.1 f o (fun x hx => hb x (s2 x hx).2) s1 g2 g3 ho
    have hlt : ∀ x ∈ g.2, 1 ≤ x.1 := fun x hx => by have := (s2 x hx).1; omega
    by_cases c : wanted g.1 = true
    · simp only [c, if_true]
      cases op with
      | true => simp only [if_true]; exact ih _ _ (fun _ => hlt)
      | false => simp only [Bool.false_eq_true, if_false]; exact ih _ _ (fun _ => hlt)
    · simp only [c]
      cases op with
      | true =>
        have h3 := ho rfl e List.mem_cons_self
        have hw : IntKind.u64.wrap (e.1 - 1) = e.1 - 1 := by rw [IntKind.wrap_u64]; omega
        simp only [if_true, hw, Bool.false_eq_true, if_false]
        rw [ih fr false (fun h => by cases h)]
      | false => simp only [Bool.false_eq_true, if_false]; exact ih _ _ (fun h => by cases h)
theorem sortE_of (l : List (Int × Int)) (h : ∀ i j, i < j → j < l.length → l.toArray[i]!.1 ≤ l.toArray[j]!.1) : sortE l := by
  induction l with
  | nil => trivial
  | cons e t ih =>
    refine ⟨fun x hx => ?_, ih fun i j hij hj => ?_⟩
    · obtain ⟨j, hj, rfl⟩ := List.getElem_of_mem hx
      have := h 0 (j + 1) (by omega) (by simp; omega)
      simpa [hj] using this
    · have := h (i + 1) (j + 1) (by omega) (by simp; omega)
      have hi : i < t.length := by omega
      simpa [hj, hi] using this
theorem sortF_sorted (l : List (Int × Int)) : sortE (sortF l) := by
  obtain ⟨_, hl, hs⟩ := sortF_says l
  refine sortE_of _ fun i j hij hj => ?_
  have h := hs i j (Nat.zero_le _) hij (by omega)
  rw [ltE] at h
  simpa using h
theorem ofR_rg (l : List (Int × Int)) : (l.map ofR).map rg = l := by
  rw [List.map_map]
  exact List.map_id l
/-- What is swept may be, and a number is in it just where its weight is wanted. -/
theorem sweep_says (wanted : Int → Bool) (hw0 : wanted 0 = false) (es : List S63) (hl : es.length ≤ 549755813888) (hb : ∀ e ∈ es, (-1 ≤ e.f1 ∧ e.f1 ≤ 1) ∧ 0 ≤ e.f0 ∧ e.f0 ≤ 9223372036854775808) (hz : sumE (es.map toE) = 0) :
    mayR 0 ((sweepF wanted es).map rg) ∧ (∀ n, memR ((sweepF wanted es).map rg) n ↔ wanted (wtE (es.map toE) n) = true) ∧ (sweepF wanted es).length ≤ es.length := by
  obtain ⟨hp, hlen, _⟩ := sortF_says (es.map toE)
  rw [List.length_map] at hlen
  have hb2 : ∀ e ∈ sortF (es.map toE), (-1 ≤ e.2 ∧ e.2 ≤ 1) ∧ 0 ≤ e.1 ∧ e.1 ≤ 9223372036854775808 := fun e he => by
    have h := hp.mem_iff.1 he
    obtain ⟨x, hx, rfl⟩ := List.mem_map.1 h
    exact hb x hx
  have e1 : (sweepF wanted es).map rg = runsE wanted ((sortF (es.map toE)).length + 1) (sortF (es.map toE)) 0 false 0 := by
    unfold sweepF
    rw [ofR_rg]
    exact runsW_eq wanted _ _ 0 0 false hb2 (sortF_sorted _) (by omega) (by omega) (fun h => by cases h)
  obtain ⟨m1, m2⟩ := runsE_says wanted hw0 ((sortF (es.map toE)).length + 1) (sortF (es.map toE)) 0 0 0 false (by omega) (sortF_sorted _) (fun x hx => (hb2 x hx).2) (by rw [sumE_perm hp, hz]; rfl) hw0.symm (fun h => by cases h)
  rw [e1]
  refine ⟨m1, fun n => ?_, ?_⟩
  · rw [m2 n, wtE_perm hp, Int.zero_add]
    simp
  · have h := allW_len wanted (sortF (es.map toE))
    unfold sweepF
    rw [List.length_map]
    omega
/-- The edges of ranges. -/
def edgL (b : Int) : List S34 → List S63
  | [] => []
  | r :: t => if r.f1 < r.f0 then edgL b t else ⟨r.f0, b⟩ :: ⟨r.f1 + 1, -b⟩ :: edgL b t
/-- How many ranges have a number. -/
def cntR (s : List (Int × Int)) (n : Int) : Int := match s with
  | [] => 0
  | r :: t => (if r.1 ≤ n ∧ n ≤ r.2 then 1 else 0) + cntR t n
def lowS (s : List S34) : Prop := ∀ x ∈ s, (0 ≤ x.f0 ∧ x.f0 < 9223372036854775808) ∧ 0 ≤ x.f1 ∧ x.f1 < 9223372036854775808
theorem edgL_says (b : Int) (hb : -1 ≤ b ∧ b ≤ 1) : ∀ s : List S34, lowS s → (∀ e ∈ edgL b s, (-1 ≤ e.f1 ∧ e.f1 ≤ 1) ∧ 0 ≤ e.f0 ∧ e.f0 ≤ 9223372036854775808) ∧ sumE ((edgL b s).map toE) = 0 ∧ (∀ n, wtE ((edgL b s).map toE) n = b * cntR (s.map rg) n) ∧ (edgL b s).length ≤ 2 * s.length
  | [], _ => ⟨by simp [edgL], rfl, fun n => by simp [edgL, wtE, cntR], Nat.le_refl _⟩
  | r :: t, h => by
    obtain ⟨h1, h2, h3, h4⟩ := edgL_says b hb t (fun x hx => h x (List.mem_cons_of_mem _ hx))
    have hr := h r List.mem_cons_self
    rw [edgL]
    by_cases c : r.f1 < r.f0
    · rw [if_pos c]
      refine ⟨h1, h2, fun n => ?_, by simp; omega⟩
      have hn : ¬ ((rg r).1 ≤ n ∧ n ≤ (rg r).2) := fun ⟨a, b⟩ => by have a' : r.f0 ≤ n := a; have b' : n ≤ r.f1 := b; omega
      rw [h3 n, List.map_cons, cntR, if_neg hn, Int.zero_add]
    · rw [if_neg c]
      refine ⟨fun e he => ?_, ?_, fun n => ?_, by simp; omega⟩
      · rcases List.mem_cons.1 he with rfl | he
        · exact ⟨hb, by show 0 ≤ r.f0 ∧ r.f0 ≤ _; omega⟩
        · rcases List.mem_cons.1 he with rfl | he
          · exact ⟨⟨by show -1 ≤ -b; omega, by show -b ≤ 1; omega⟩, by show 0 ≤ r.f1 + 1 ∧ r.f1 + 1 ≤ _; omega⟩
          · exact h1 e he
      · show b + (-b + sumE _) = 0
        rw [h2]
        omega
      · show (if r.f0 ≤ n then b else 0) + ((if r.f1 + 1 ≤ n then -b else 0) + wtE ((edgL b t).map toE) n) = b * ((if r.f0 ≤ n ∧ n ≤ r.f1 then 1 else 0) + cntR (t.map rg) n)
        rw [h3 n, Int.mul_add]
        by_cases c1 : r.f0 ≤ n
        · by_cases c2 : n ≤ r.f1
          · rw [if_pos c1, if_neg (by omega), if_pos ⟨c1, c2⟩]
            omega
          · rw [if_pos c1, if_pos (by omega), if_neg (fun x => c2 x.2)]
            omega
        · rw [if_neg c1, if_neg (by omega), if_neg (fun x => c1 x.1)]
          omega
theorem cntR_nn : ∀ (s : List (Int × Int)) (n : Int), 0 ≤ cntR s n
  | [], _ => Int.le_refl _
  | r :: t, n => by
    have := cntR_nn t n
    rw [cntR]
    split <;> omega
theorem cntR_pos : ∀ (s : List (Int × Int)) (n : Int), 0 < cntR s n ↔ memR s n
  | [], n => ⟨fun h => absurd h (by simp [cntR]), fun h => absurd h (memR_nil n)⟩
  | r :: t, n => by
    have h := cntR_nn t n
    rw [cntR, memR_cons, ← cntR_pos t n]
    by_cases c : r.1 ≤ n ∧ n ≤ r.2
    · rw [if_pos c]
      exact ⟨fun _ => Or.inl c, fun _ => by omega⟩
    · rw [if_neg c, Int.zero_add]
      exact ⟨Or.inr, fun x => x.elim (fun y => absurd y c) id⟩
/-- In a set a number is once, or not at all. -/
theorem cntR_set {s : List (Int × Int)} : ∀ {e : Int}, mayR e s → ∀ n, (memR s n ∧ cntR s n = 1) ∨ (¬ memR s n ∧ cntR s n = 0) := by
  induction s with
  | nil => exact fun _ n => Or.inr ⟨memR_nil n, rfl⟩
  | cons r t ih =>
    intro e h n
    obtain ⟨h1, h2, h3, h4⟩ := h
    rw [cntR, memR_cons]
    rcases ih h4 n with ⟨a, b⟩ | ⟨a, b⟩
    · have := (mayR_low h4 n a).1
      rw [if_neg (by omega), b]
      exact Or.inl ⟨Or.inr a, rfl⟩
    · rw [b]
      by_cases c : r.1 ≤ n ∧ n ≤ r.2
      · rw [if_pos c]
        exact Or.inl ⟨Or.inl c, rfl⟩
      · rw [if_neg c]
        exact Or.inr ⟨fun x => x.elim c a, rfl⟩
theorem mayR_lowS {s : List S34} (h : mayR 0 (s.map rg)) : lowS s := by
  have go : ∀ (s : List S34) (e : Int), 0 ≤ e → mayR e (s.map rg) → lowS s := by
    intro s
    induction s with
    | nil => exact fun _ _ _ x hx => by cases hx
    | cons r t ih =>
      intro e he h x hx
      obtain ⟨h1, h2, h3, h4⟩ := h
      have h1' : r.f0 ≤ r.f1 := h1
      have h2' : e ≤ r.f0 := h2
      have h3' : r.f1 < 9223372036854775808 := h3
      rcases List.mem_cons.1 hx with rfl | hx
      · omega
      · exact ih (r.f1 + 2) (by omega) h4 x hx
  exact go s 0 (Int.le_refl _) h
/-! ### the program's functions -/
theorem w64 (i : Nat) (h : i < 4611686018427387904) : wrap64 ((i : Int) + 1) = ((i + 1 : Nat) : Int) := by unfold wrap64; omega
theorem rd_at (l : List S34) (i : Nat) (h : i < l.length) : rd_T34 l (i : Int) = l[i] := by
  unfold rd_T34
  rw [Int.toNat_natCast]
  simp [List.getD_eq_getElem?_getD, h]
theorem empty_f (a b : Int) : ranges_Range_empty.f a b = some (decide (b < a)) := rfl
theorem edges_run (b : Int) (hb : b = 1 ∨ b = -1) (l : List S34) (hs : lowS l) (hl : l.length ≤ 1000000) : ∀ (m i k : Nat) (acc : List S63), i + m = l.length → acc.length + 2 * m ≤ 10000000 →
    ranges_edges.l0 (k + m + 1) b acc l (l.length : Int) (i : Int) = some (acc ++ edgL b (l.drop i)) := by
  intro m
  induction m with
  | zero =>
    intro i k acc hi _
    rw [ranges_edges.l0, if_neg (by omega), List.drop_of_length_le (by omega), edgL, List.append_nil]
  | succ m ih =>
    intro i k acc hi ha
    have hlt : i < l.length := by omega
    have hx := hs l[i] (List.getElem_mem hlt)
    rw [show k + (m + 1) + 1 = (k + m + 1) + 1 by omega, ranges_edges.l0, if_pos (by omega), if_pos (by omega), if_pos (by omega), rd_at l i hlt, empty_f, Option.bind_some, List.drop_eq_getElem_cons hlt, edgL, w64 i (by omega)]
    by_cases c : l[i].f1 < l[i].f0
    · rw [if_pos (decide_eq_true c), if_pos c]
      exact ih (i + 1) k acc (by omega) (by omega)
    · have hw : IntKind.u64.wrap (l[i].f1 + 1) = l[i].f1 + 1 := by rw [IntKind.wrap_u64]; omega
      have hn : wrap64 (-b) = -b := by rcases hb with rfl | rfl <;> (unfold wrap64; omega)
      rw [if_neg (by simpa using c), if_neg c, Option.bind_some, if_pos (by simp; omega), hw, hn, ih (i + 1) k _ (by omega) (by simp; omega)]
      simp
theorem edges_f (b : Int) (hb : b = 1 ∨ b = -1) (l : List S34) (hs : lowS l) (k : Nat) (hl : l.length ≤ 1000000) (hk : l.length < k) : ranges_edges.f k l b = some (edgL b l) := by
  have h := edges_run b hb l hs hl l.length 0 (k - l.length - 1) [] (by omega) (by simp; omega)
  rw [show k - l.length - 1 + l.length + 1 = k by omega] at h
  exact h
def ofL (l : List S34) : List S34 := sweepF wantPos (edgL 1 l)
def addL (s : List S34) (r : S34) : List S34 := sweepF wantPos (edgL 1 s ++ edgL 1 [r])
def cutL (s : List S34) (r : S34) : List S34 := sweepF (wantIs 1) (edgL 1 s ++ edgL (-1) [r])
def meetL (a b : List S34) : List S34 := sweepF (wantIs 2) (edgL 1 a ++ edgL 1 b)
def gapsL (s : List S34) (r : S34) : List S34 := sweepF (wantIs 1) (edgL 1 [r] ++ edgL (-1) s)
/-- What a set is: in order, parted, below the top. -/
def Set_ (s : List S34) : Prop := mayR 0 (s.map rg)
def In (s : List S34) (n : Int) : Prop := memR (s.map rg) n
def lowR (r : S34) : Prop := (0 ≤ r.f0 ∧ r.f0 < 9223372036854775808) ∧ 0 ≤ r.f1 ∧ r.f1 < 9223372036854775808
theorem low_one {r : S34} (h : lowR r) : lowS [r] := fun x hx => by
  rcases List.mem_cons.1 hx with rfl | hx
  · exact h
  · cases hx
theorem in_one (r : S34) (n : Int) : memR ([r].map rg) n ↔ r.f0 ≤ n ∧ n ≤ r.f1 := by
  show memR [rg r] n ↔ _
  rw [memR_cons]
  exact ⟨fun h => h.elim id (fun h => absurd h (memR_nil n)), Or.inl⟩
theorem cnt_one (r : S34) (n : Int) : cntR ([r].map rg) n = if r.f0 ≤ n ∧ n ≤ r.f1 then 1 else 0 := by
  show cntR [rg r] n = _
  rw [cntR, cntR]
  exact Int.add_zero _
theorem sweep2 (wanted : Int → Bool) (hw : wanted 0 = false) (a b : List S34) (x y : Int) (hx : -1 ≤ x ∧ x ≤ 1) (hy : -1 ≤ y ∧ y ≤ 1) (ha : lowS a) (hb : lowS b) (la : a.length ≤ 1000000) (lb : b.length ≤ 1000000) :
    Set_ (sweepF wanted (edgL x a ++ edgL y b)) ∧ (∀ n, In (sweepF wanted (edgL x a ++ edgL y b)) n ↔ wanted (x * cntR (a.map rg) n + y * cntR (b.map rg) n) = true) ∧ (sweepF wanted (edgL x a ++ edgL y b)).length ≤ 2 * (a.length + b.length) := by
  obtain ⟨a1, a2, a3, a4⟩ := edgL_says x hx a ha
  obtain ⟨b1, b2, b3, b4⟩ := edgL_says y hy b hb
  obtain ⟨s1, s2, s3⟩ := sweep_says wanted hw (edgL x a ++ edgL y b) (by rw [List.length_append]; omega) (fun e he => (List.mem_append.1 he).elim (a1 e) (b1 e)) (by rw [List.map_append, sumE_app, a2, b2]; rfl)
  refine ⟨s1, fun n => ?_, by rw [List.length_append] at s3; omega⟩
  refine (s2 n).trans ?_
  rw [List.map_append, wtE_app, a3, b3]
theorem edgL_nil (b : Int) : edgL b [] = [] := rfl
theorem ofL_says (l : List S34) (h : lowS l) (hl : l.length ≤ 1000000) : Set_ (ofL l) ∧ (∀ n, In (ofL l) n ↔ In l n) ∧ (ofL l).length ≤ 2 * l.length := by
  obtain ⟨s1, s2, s3⟩ := sweep2 wantPos rfl l [] 1 1 (by decide) (by decide) h (fun x hx => by cases hx) hl (by decide)
  rw [edgL_nil, List.append_nil] at s1 s2 s3
  refine ⟨s1, fun n => (s2 n).trans ?_, s3⟩
  have e : (1 : Int) * cntR (l.map rg) n + 1 * cntR (([] : List S34).map rg) n = cntR (l.map rg) n := by show 1 * _ + 1 * 0 = _; omega
  rw [e]
  exact (decide_eq_true_iff).trans (cntR_pos _ n)
theorem addL_says (s : List S34) (r : S34) (h : lowS s) (hr : lowR r) (hl : s.length ≤ 999999) : Set_ (addL s r) ∧ (∀ n, In (addL s r) n ↔ In s n ∨ (r.f0 ≤ n ∧ n ≤ r.f1)) ∧ (addL s r).length ≤ 2 * s.length + 2 := by
  obtain ⟨s1, s2, s3⟩ := sweep2 wantPos rfl s [r] 1 1 (by decide) (by decide) h (low_one hr) (by omega) (by simp)
  refine ⟨s1, fun n => (s2 n).trans ?_, by show (sweepF wantPos (edgL 1 s ++ edgL 1 [r])).length ≤ _; simpa [Nat.mul_add] using s3⟩
  have h1 := cntR_nn (s.map rg) n
  have h2 := cntR_nn ([r].map rg) n
  show decide (0 < _) = true ↔ _
  rw [decide_eq_true_iff]
  have e1 := cntR_pos (s.map rg) n
  have e2 := (cntR_pos ([r].map rg) n).trans (in_one r n)
  show _ ↔ memR (s.map rg) n ∨ _
  rw [← e1, ← e2]
  omega
theorem is_iff (m x : Int) : wantIs m x = true ↔ x = m := by unfold wantIs; exact beq_iff_eq
theorem cutL_says (s : List S34) (r : S34) (h : Set_ s) (hr : lowR r) (hl : s.length ≤ 999999) : Set_ (cutL s r) ∧ (∀ n, In (cutL s r) n ↔ In s n ∧ ¬ (r.f0 ≤ n ∧ n ≤ r.f1)) ∧ (cutL s r).length ≤ 2 * s.length + 2 := by
  obtain ⟨s1, s2, s3⟩ := sweep2 (wantIs 1) rfl s [r] 1 (-1) (by decide) (by decide) (mayR_lowS h) (low_one hr) (by omega) (by simp)
  refine ⟨s1, fun n => (s2 n).trans ?_, by show (sweepF (wantIs 1) (edgL 1 s ++ edgL (-1) [r])).length ≤ _; simpa [Nat.mul_add] using s3⟩
  rw [is_iff, cnt_one]
  show _ ↔ memR (s.map rg) n ∧ _
  rcases cntR_set h n with ⟨a, b⟩ | ⟨a, b⟩
  · rw [b]
    by_cases c : r.f0 ≤ n ∧ n ≤ r.f1
    · rw [if_pos c]
      exact ⟨fun x => by omega, fun x => absurd c x.2⟩
    · rw [if_neg c]
      exact ⟨fun _ => ⟨a, c⟩, fun _ => rfl⟩
  · rw [b]
    refine ⟨fun x => ?_, fun x => absurd x.1 a⟩
    split at x <;> omega
theorem meetL_says (a b : List S34) (ha : Set_ a) (hb : Set_ b) (la : a.length ≤ 1000000) (lb : b.length ≤ 1000000) : Set_ (meetL a b) ∧ (∀ n, In (meetL a b) n ↔ In a n ∧ In b n) ∧ (meetL a b).length ≤ 2 * (a.length + b.length) := by
  obtain ⟨s1, s2, s3⟩ := sweep2 (wantIs 2) rfl a b 1 1 (by decide) (by decide) (mayR_lowS ha) (mayR_lowS hb) la lb
  refine ⟨s1, fun n => (s2 n).trans ?_, s3⟩
  rw [is_iff]
  show _ ↔ memR (a.map rg) n ∧ memR (b.map rg) n
  rcases cntR_set ha n with ⟨p, q⟩ | ⟨p, q⟩ <;> rcases cntR_set hb n with ⟨u, v⟩ | ⟨u, v⟩ <;> rw [q, v] <;> constructor
  · exact fun _ => ⟨p, u⟩
  · exact fun _ => rfl
  · exact fun x => by omega
  · exact fun x => absurd x.2 u
  · exact fun x => by omega
  · exact fun x => absurd x.1 p
  · exact fun x => by omega
  · exact fun x => absurd x.1 p
theorem gapsL_says (s : List S34) (r : S34) (h : Set_ s) (hr : lowR r) (hl : s.length ≤ 999999) : Set_ (gapsL s r) ∧ (∀ n, In (gapsL s r) n ↔ (r.f0 ≤ n ∧ n ≤ r.f1) ∧ ¬ In s n) ∧ (gapsL s r).length ≤ 2 * s.length + 2 := by
  obtain ⟨s1, s2, s3⟩ := sweep2 (wantIs 1) rfl [r] s 1 (-1) (by decide) (by decide) (low_one hr) (mayR_lowS h) (by simp) (by omega)
  refine ⟨s1, fun n => (s2 n).trans ?_, by show (sweepF (wantIs 1) (edgL 1 [r] ++ edgL (-1) s)).length ≤ _; simp at s3; omega⟩
  rw [is_iff, cnt_one]
  show _ ↔ _ ∧ ¬ memR (s.map rg) n
  rcases cntR_set h n with ⟨a, b⟩ | ⟨a, b⟩
  · rw [b]
    refine ⟨fun x => ?_, fun x => absurd a x.2⟩
    split at x <;> omega
  · rw [b]
    by_cases c : r.f0 ≤ n ∧ n ≤ r.f1
    · rw [if_pos c]
      exact ⟨fun _ => ⟨c, a⟩, fun _ => rfl⟩
    · rw [if_neg c]
      exact ⟨fun x => by omega, fun x => absurd x.1 c⟩
theorem of_f (l : List S34) (hs : lowS l) (k : Nat) (hl : l.length ≤ 100000) (hk : l.length < k) : ranges_Of.f k l = some (ofL l) := by
  have h := (edgL_says 1 (by decide) l hs).2.2.2
  unfold ranges_Of.f
  rw [edges_f 1 (Or.inl rfl) l hs k (by omega) hk, Option.bind_some, if_pos (by omega)]
  rfl
theorem add_f (s : List S34) (r : S34) (hs : lowS s) (hr : lowR r) (k : Nat) (hl : s.length ≤ 100000) (hk : s.length + 1 < k) : ranges_Add.f k s r.f0 r.f1 = some (addL s r) := by
  have h := (edgL_says 1 (by decide) s hs).2.2.2
  have h2 := (edgL_says 1 (by decide) [r] (low_one hr)).2.2.2
  simp at h2
  unfold ranges_Add.f
  rw [edges_f 1 (Or.inl rfl) s hs k (by omega) (by omega), Option.bind_some, edges_f 1 (Or.inl rfl) [r] (low_one hr) k (by simp) (by simp; omega), Option.bind_some, if_pos (by omega)]
  rfl
theorem cut_f (s : List S34) (r : S34) (hs : lowS s) (hr : lowR r) (k : Nat) (hl : s.length ≤ 100000) (hk : s.length + 1 < k) : ranges_Cut.f k s r.f0 r.f1 = some (cutL s r) := by
  have h := (edgL_says 1 (by decide) s hs).2.2.2
  have h2 := (edgL_says (-1) (by decide) [r] (low_one hr)).2.2.2
  simp at h2
  unfold ranges_Cut.f
  rw [edges_f 1 (Or.inl rfl) s hs k (by omega) (by omega), Option.bind_some, edges_f (-1) (Or.inr rfl) [r] (low_one hr) k (by simp) (by simp; omega), Option.bind_some, if_pos (by omega)]
  rfl
theorem gaps_f (s : List S34) (r : S34) (hs : lowS s) (hr : lowR r) (k : Nat) (hl : s.length ≤ 100000) (hk : s.length + 1 < k) : ranges_Gaps.f k s r.f0 r.f1 = some (gapsL s r) := by
  have h := (edgL_says (-1) (by decide) s hs).2.2.2
  have h2 := (edgL_says 1 (by decide) [r] (low_one hr)).2.2.2
  simp at h2
  unfold ranges_Gaps.f
  rw [edges_f 1 (Or.inl rfl) [r] (low_one hr) k (by simp) (by simp; omega), Option.bind_some, edges_f (-1) (Or.inr rfl) s hs k (by omega) (by omega), Option.bind_some, if_pos (by omega)]
  rfl
/-! May, Has, Count -/
def mayB : Int → List (Int × Int) → Bool
  | _, [] => true
  | e, r :: t => if r.2 < r.1 then false else if r.2 ≥ 9223372036854775808 then false else if r.1 < e then false else mayB (r.2 + 2) t
theorem mayB_iff : ∀ (l : List (Int × Int)) (e : Int), mayB e l = true ↔ mayR e l
  | [], _ => ⟨fun _ => trivial, fun _ => rfl⟩
  | r :: t, e => by
    rw [mayB]
    have ih := mayB_iff t (r.2 + 2)
    show _ ↔ r.1 ≤ r.2 ∧ e ≤ r.1 ∧ r.2 < 9223372036854775808 ∧ mayR (r.2 + 2) t
    by_cases c1 : r.2 < r.1
    · rw [if_pos c1]
      exact ⟨(fun h => by cases h), fun h => by omega⟩
    rw [if_neg c1]
    by_cases c2 : r.2 ≥ 9223372036854775808
    · rw [if_pos c2]
      exact ⟨(fun h => by cases h), fun h => by omega⟩
    rw [if_neg c2]
    by_cases c3 : r.1 < e
    · rw [if_pos c3]
      exact ⟨(fun h => by cases h), fun h => by omega⟩
    rw [if_neg c3, ih]
    exact ⟨fun h => ⟨by omega, by omega, by omega, h⟩, fun h => h.2.2.2⟩
theorem may_run (l : List S34) (hl : l.length ≤ 1000000) (h0 : ∀ x ∈ l, 0 ≤ x.f1) : ∀ (m i k : Nat) (e : Int), i + m = l.length → ranges_May.l0 (k + m + 1) e l (l.length : Int) (i : Int) = some (mayB e ((l.drop i).map rg)) := by
  intro m
  induction m with
  | zero =>
    intro i k e hi
    rw [ranges_May.l0, if_neg (by omega), List.drop_of_length_le (by omega)]
    rfl
  | succ m ih =>
    intro i k e hi
    have hlt : i < l.length := by omega
    have hx := h0 l[i] (List.getElem_mem hlt)
    rw [show k + (m + 1) + 1 = (k + m + 1) + 1 by omega, ranges_May.l0, if_pos (by omega), if_pos (by omega), if_pos (by omega), rd_at l i hlt, empty_f, Option.bind_some, List.drop_eq_getElem_cons hlt, List.map_cons, mayB, w64 i (by omega)]
    show _ = some (if l[i].f1 < l[i].f0 then false else if l[i].f1 ≥ 9223372036854775808 then false else if l[i].f0 < e then false else mayB (l[i].f1 + 2) _)
    by_cases c1 : l[i].f1 < l[i].f0
    · rw [if_pos (decide_eq_true c1), if_pos c1]
    rw [if_neg (by simpa using c1), if_neg c1]
    by_cases c2 : l[i].f1 ≥ 9223372036854775808
    · rw [if_pos c2, if_pos c2]
    rw [if_neg c2, if_neg c2]
    by_cases c3 : l[i].f0 < e
    · rw [if_pos c3, if_pos c3]
    have hw : IntKind.u64.wrap (l[i].f1 + 2) = l[i].f1 + 2 := by rw [IntKind.wrap_u64]; omega
    rw [if_neg c3, if_neg c3, hw]
    exact ih (i + 1) k _ (by omega)
theorem may_f (l : List S34) (k : Nat) (hl : l.length ≤ 1000000) (h0 : ∀ x ∈ l, 0 ≤ x.f1) (hk : l.length < k) : ranges_May.f k l = some (mayB 0 (l.map rg)) := by
  have h := may_run l hl h0 l.length 0 (k - l.length - 1) 0 (by omega)
  rw [show k - l.length - 1 + l.length + 1 = k by omega] at h
  exact h
theorem may_set (s : List S34) (h : Set_ s) (k : Nat) (hl : s.length ≤ 1000000) (hk : s.length < k) : ranges_May.f k s = some true := by
  rw [may_f s k hl (fun x hx => (mayR_lowS h x hx).2.1) hk, (mayB_iff _ _).2 h]
/-! ### a meeting -/
theorem meet_f (a b : List S34) (ha : lowS a) (hb : lowS b) (k : Nat) (la : a.length ≤ 100000) (lb : b.length ≤ 100000) (hk : a.length < k) (hk2 : b.length < k) : ranges_Meet.f k a b = some (meetL a b) := by
  have h := (edgL_says 1 (by decide) a ha).2.2.2
  have h2 := (edgL_says 1 (by decide) b hb).2.2.2
  unfold ranges_Meet.f
  rw [edges_f 1 (Or.inl rfl) a ha k (by omega) hk, Option.bind_some, edges_f 1 (Or.inl rfl) b hb k (by omega) hk2, Option.bind_some, if_pos (by omega)]
  rfl
/-! ### Has, Count, what the laws use -/
theorem rg_inj {x y : S34} (h : rg x = rg y) : x = y := by
  obtain ⟨a, b⟩ := x
  obtain ⟨c, d⟩ := y
  injection h with h1 h2
  subst h1
  subst h2
  rfl
theorem map_rg_inj : ∀ {s t : List S34}, s.map rg = t.map rg → s = t
  | [], [], _ => rfl
  | [], _ :: _, h => by cases h
  | _ :: _, [], h => by cases h
  | x :: s, y :: t, h => by
    injection h with h1 h2
    rw [rg_inj h1, map_rg_inj h2]
/-- Sets with the same numbers are the same. -/
theorem set_unique {s t : List S34} (hs : Set_ s) (ht : Set_ t) (h : ∀ n, In s n ↔ In t n) : s = t := map_rg_inj (mayR_unique hs ht h)
def inB (s : List S34) (n : Int) : Bool := s.any fun r => decide (r.f0 ≤ n) && decide (n ≤ r.f1)
theorem inB_iff (s : List S34) (n : Int) : inB s n = true ↔ In s n := by
  unfold inB In
  induction s with
  | nil => exact ⟨(fun h => by cases h), fun h => absurd h (memR_nil n)⟩
  | cons r t ih =>
    rw [List.any_cons, Bool.or_eq_true, List.map_cons, memR_cons, ih]
    simp [rg]
theorem inB_of {s t : List S34} {n : Int} (h : In s n ↔ In t n) : inB s n = inB t n := by
  rw [Bool.eq_iff_iff, inB_iff, inB_iff]
  exact h
/-- In a set the ranges rise. -/
theorem set_rise {s : List S34} : ∀ {e : Int}, mayR e (s.map rg) → ∀ i j (hi : i < s.length) (hj : j < s.length), i < j → s[i].f1 < s[j].f0 := by
  induction s with
  | nil => intro e _ i j hi _ _; simp at hi
  | cons r t ih =>
    intro e h i j hi hj hij
    obtain ⟨h1, h2, h3, h4⟩ := h
    match j, hj, hij with
    | j + 1, hj, hij =>
      have hj' : j < t.length := by simpa using hj
      match i, hi, hij with
      | 0, _, _ =>
        have hm : memR (t.map rg) t[j].f0 := ⟨rg t[j], List.mem_map.2 ⟨t[j], List.getElem_mem hj', rfl⟩, Int.le_refl _, ?_⟩
        · have := (mayR_low h4 _ hm).1
          show r.f1 < t[j].f0
          have h5 : (rg r).2 = r.f1 := rfl
          omega
        · have h6 : ∀ (l : List (Int × Int)) (e : Int), mayR e l → ∀ x ∈ l, x.1 ≤ x.2 := by
            intro l
            induction l with
            | nil => intro _ _ x hx; cases hx
            | cons a l ih2 =>
              intro e h x hx
              rcases List.mem_cons.1 hx with rfl | hx
              · exact h.1
              · exact ih2 _ h.2.2.2 x hx
          exact h6 _ _ h4 (rg t[j]) (List.mem_map.2 ⟨t[j], List.getElem_mem hj', rfl⟩)
      | i + 1, hi, hij => exact ih h4 i j (by simpa using hi) hj' (by omega)
theorem set_ne {s : List S34} : ∀ {e : Int}, mayR e (s.map rg) → ∀ i (hi : i < s.length), s[i].f0 ≤ s[i].f1 := by
  induction s with
  | nil => intro e _ i hi; simp at hi
  | cons r t ih =>
    intro e h i hi
    match i, hi with
    | 0, _ => exact h.1
    | i + 1, hi => exact ih h.2.2.2 i (by simpa using hi)
theorem bsL_says (s : List S34) (n : Int) (hm : ∀ i j (hi : i < s.length) (hj : j < s.length), i < j → s[i].f1 < s[j].f1) : ∀ k i j, j - i < k → i ≤ j → j ≤ s.length → (∀ t (ht : t < s.length), t < i → s[t].f1 < n) → (∀ t (ht : t < s.length), j ≤ t → n ≤ s[t].f1) →
    bsL s n k i j ≤ s.length ∧ (∀ t (ht : t < s.length), t < bsL s n k i j → s[t].f1 < n) ∧ (∀ t (ht : t < s.length), bsL s n k i j ≤ t → n ≤ s[t].f1)
  | 0, i, j, h, _, _, _, _ => absurd h (by omega)
  | k + 1, i, j, h, hij, hj, h1, h2 => by
    rw [bsL]
    by_cases c : i < j
    · have hh : (i + j) / 2 < s.length := by omega
      rw [if_pos c, rd_at s _ hh]
      by_cases d : s[(i + j) / 2].f1 < n
      · have e : cmpH s[(i + j) / 2] n < 0 := by unfold cmpH; rw [if_pos d]; decide
        rw [if_pos e]
        refine bsL_says s n hm k _ j (by omega) (by omega) hj (fun t ht hlt => ?_) h2
        rcases Nat.lt_or_ge t ((i + j) / 2) with q | q
        · have := hm t ((i + j) / 2) ht hh q; omega
        · have e2 : t = (i + j) / 2 := by omega
          subst e2
          exact d
      · have e : ¬ cmpH s[(i + j) / 2] n < 0 := by
          unfold cmpH
          rw [if_neg d]
          split <;> decide
        rw [if_neg e]
        refine bsL_says s n hm k i _ (by omega) (by omega) (by omega) h1 (fun t ht hle => ?_)
        rcases Nat.lt_or_ge ((i + j) / 2) t with q | q
        · have := hm ((i + j) / 2) t hh ht q; omega
        · have e2 : t = (i + j) / 2 := by omega
          subst e2
          omega
    · rw [if_neg c]
      exact ⟨by omega, h1, fun t ht hle => h2 t ht (by omega)⟩
theorem has_f (s : List S34) (h : Set_ s) (n : Int) (hl : s.length ≤ 1000000) : ranges_Has.f s n = some (inB s n) := by
  have hr := fun i j hi hj hij => set_rise h i j hi hj hij
  have hn := fun i hi => set_ne h i hi
  have hm : ∀ i j (hi : i < s.length) (hj : j < s.length), i < j → s[i].f1 < s[j].f1 := fun i j hi hj hij => by
    have a := hr i j hi hj hij
    have b := hn j hj
    omega
  obtain ⟨b1, b2, b3⟩ := bsL_says s n hm (s.length + 1) 0 s.length (by omega) (Nat.zero_le _) (Nat.le_refl _) (fun t _ h => absurd h (by omega)) (fun t ht h => absurd h (by omega))
  unfold ranges_Has.f
  rw [if_pos (by omega)]
  congr 1
  unfold hasF
  dsimp only
  generalize bsL s n (s.length + 1) 0 s.length = R at *
  rw [Bool.eq_iff_iff, inB_iff, Bool.and_eq_true, decide_eq_true_iff]
  constructor
  · rintro ⟨hR, he⟩
    rw [rd_at s R hR] at he
    have he' : cmpH s[R] n = 0 := by simpa using he
    unfold cmpH at he'
    refine ⟨rg s[R], List.mem_map.2 ⟨s[R], List.getElem_mem hR, rfl⟩, ?_, ?_⟩
    · show s[R].f0 ≤ n
      by_cases a : s[R].f1 < n
      · rw [if_pos a] at he'; cases he'
      · rw [if_neg a] at he'
        by_cases b : n < s[R].f0
        · rw [if_pos b] at he'; cases he'
        · omega
    · show n ≤ s[R].f1
      have := b3 R hR (Nat.le_refl _)
      omega
  · rintro ⟨q, hq, h1, h2⟩
    obtain ⟨x, hx, rfl⟩ := List.mem_map.1 hq
    obtain ⟨t, ht, rfl⟩ := List.getElem_of_mem hx
    have h1' : s[t].f0 ≤ n := h1
    have h2' : n ≤ s[t].f1 := h2
    have hRt : R = t := by
      rcases Nat.lt_trichotomy R t with q | q | q
      · have hR : R < s.length := by omega
        have a := b3 R hR (Nat.le_refl _)
        have b := hr R t hR ht q
        omega
      · exact q
      · have := b2 t ht q
        omega
    subst hRt
    refine ⟨ht, ?_⟩
    rw [rd_at s R ht]
    unfold cmpH
    rw [if_neg (by omega), if_neg (by omega)]
    rfl
/-- How many numbers. -/
def lenS : List S34 → Int
  | [] => 0
  | r :: t => (r.f1 - r.f0 + 1) + lenS t
theorem lenS_range {s : List S34} : ∀ {e : Int}, mayR e (s.map rg) → 0 ≤ lenS s ∧ (s ≠ [] → lenS s + e ≤ 9223372036854775808) := by
  induction s with
  | nil => intro e _; exact ⟨Int.le_refl _, fun h => absurd rfl h⟩
  | cons r t ih =>
    intro e h
    obtain ⟨h1, h2, h3, h4⟩ := h
    obtain ⟨i1, i2⟩ := ih h4
    have h1' : r.f0 ≤ r.f1 := h1
    have h2' : e ≤ r.f0 := h2
    have h3' : r.f1 < 9223372036854775808 := h3
    have i2' : t ≠ [] → lenS t + (r.f1 + 2) ≤ 9223372036854775808 := i2
    rw [lenS]
    refine ⟨by omega, fun _ => ?_⟩
    by_cases ht : t = []
    · subst ht
      show r.f1 - r.f0 + 1 + 0 + e ≤ _
      omega
    · have := i2' ht
      omega
theorem count_run (l : List S34) (hl : l.length ≤ 1000000) : ∀ (m i k : Nat) (x e : Int), i + m = l.length → mayR e ((l.drop i).map rg) → 0 ≤ e → 0 ≤ x → x ≤ e → ranges_Count.l0 (k + m + 1) x l (l.length : Int) (i : Int) = some (x + lenS (l.drop i)) := by
  intro m
  induction m with
  | zero =>
    intro i k x e hi _ _ _ _
    rw [ranges_Count.l0, if_neg (by omega), List.drop_of_length_le (by omega), lenS, Int.add_zero]
  | succ m ih =>
    intro i k x e hi hm he hx hxe
    have hlt : i < l.length := by omega
    rw [List.drop_eq_getElem_cons hlt] at hm ⊢
    obtain ⟨h1, h2, h3, h4⟩ := hm
    have h1' : l[i].f0 ≤ l[i].f1 := h1
    have h2' : e ≤ l[i].f0 := h2
    have h3' : l[i].f1 < 9223372036854775808 := h3
    have w1 : IntKind.u64.wrap (l[i].f1 - l[i].f0) = l[i].f1 - l[i].f0 := by rw [IntKind.wrap_u64]; omega
    have w2 : IntKind.u64.wrap (l[i].f1 - l[i].f0 + 1) = l[i].f1 - l[i].f0 + 1 := by rw [IntKind.wrap_u64]; omega
    have w3 : IntKind.u64.wrap (x + (l[i].f1 - l[i].f0 + 1)) = x + (l[i].f1 - l[i].f0 + 1) := by rw [IntKind.wrap_u64]; omega
    rw [show k + (m + 1) + 1 = (k + m + 1) + 1 by omega, ranges_Count.l0, if_pos (by omega), if_pos (by omega), if_pos (by omega), rd_at l i hlt, w64 i (by omega), w1, w2, w3, lenS, ih (i + 1) k _ (l[i].f1 + 2) (by omega) h4 (by omega) (by omega) (by omega)]
    congr 1
    omega
theorem count_f (s : List S34) (h : Set_ s) (k : Nat) (hl : s.length ≤ 1000000) (hk : s.length < k) : ranges_Count.f k s = some (lenS s) := by
  have h2 := count_run s hl s.length 0 (k - s.length - 1) 0 0 (by omega) h (Int.le_refl _) (Int.le_refl _) (Int.le_refl _)
  rw [show k - s.length - 1 + s.length + 1 = k by omega, List.drop_zero, Int.zero_add] at h2
  exact h2
def cv (x : S34) : S42 := ⟨x.f0, x.f1⟩
theorem its_run (l : List S34) (hl : l.length ≤ 1000000) : ∀ (m i k : Nat) (acc : List S42), i + m = l.length → acc.length + m ≤ 1000000 → dominolaw03_its.l0 (k + m + 1) l acc (i : Int) = some (acc ++ (l.drop i).map cv) := by
  intro m
  induction m with
  | zero =>
    intro i k acc hi _
    rw [dominolaw03_its.l0, if_neg (by omega), List.drop_of_length_le (by omega), List.map_nil, List.append_nil]
  | succ m ih =>
    intro i k acc hi ha
    have hlt : i < l.length := by omega
    rw [show k + (m + 1) + 1 = (k + m + 1) + 1 by omega, dominolaw03_its.l0, if_pos (by omega), if_pos (by omega), if_pos (by omega), rd_at l i hlt, w64 i (by omega), ih (i + 1) k _ (by omega) (by simp; omega), List.drop_eq_getElem_cons hlt, List.map_cons, List.append_assoc]
    rfl
theorem its_f (l : List S34) (k : Nat) (hl : l.length ≤ 1000000) (hk : l.length < k) : dominolaw03_its.f k l = some (l.map cv) := by
  have h := its_run l hl l.length 0 (k - l.length - 1) [] (by omega) (by simp; omega)
  rw [show k - l.length - 1 + l.length + 1 = k by omega] at h
  exact h
def lowB (l : List S34) : Bool := l.all fun x => decide (x.f0 < 9223372036854775808) && decide (x.f1 < 9223372036854775808)
theorem low_run (l : List S34) (hl : l.length < 4611686018427387904) : ∀ (m i k : Nat), i + m = l.length → dominolaw03_low.l0 (k + m + 1) l (i : Int) = some (lowB (l.drop i) && decide ((l.length : Int) ≤ 40)) := by
  intro m
  induction m with
  | zero =>
    intro i k hi
    rw [dominolaw03_low.l0, if_neg (by omega), List.drop_of_length_le (by omega)]
    rfl
  | succ m ih =>
    intro i k hi
    have hlt : i < l.length := by omega
    rw [show k + (m + 1) + 1 = (k + m + 1) + 1 by omega, dominolaw03_low.l0, if_pos (by omega), if_pos (by omega), rd_at l i hlt, w64 i (by omega), List.drop_eq_getElem_cons hlt]
    unfold lowB
    rw [List.all_cons]
    by_cases c1 : l[i].f0 ≥ 9223372036854775808
    · rw [if_pos c1, decide_eq_false (by omega)]
      rfl
    rw [if_neg c1]
    by_cases c2 : l[i].f1 ≥ 9223372036854775808
    · rw [if_pos c2, decide_eq_false (show ¬ l[i].f1 < _ by omega), Bool.and_false]
      rfl
    rw [if_neg c2, ih (i + 1) k (by omega), decide_eq_true (show l[i].f0 < _ by omega), decide_eq_true (show l[i].f1 < _ by omega)]
    rfl
theorem low_f (l : List S34) (k : Nat) (hl : l.length < 4611686018427387904) (hk : l.length < k) : dominolaw03_low.f k l = some (lowB l && decide ((l.length : Int) ≤ 40)) := by
  have h := low_run l hl l.length 0 (k - l.length - 1) (by omega)
  rw [show k - l.length - 1 + l.length + 1 = k by omega, List.drop_zero] at h
  exact h
theorem wf_u64 {a : Int} (h : (Lit.int .u64 a).wf = true) : 0 ≤ a ∧ a < 18446744073709551616 := by
  simp [Lit.wf, IntKind.min, IntKind.max, IntKind.signed, IntKind.bits] at h
  omega
theorem low_of {l : List S34} (hw : ∀ x ∈ l, ((Lit.int .u64 x.f0).wf = true ∧ (Lit.int .u64 x.f1).wf = true)) (h : lowB l = true) : lowS l := fun x hx => by
  have a := wf_u64 (hw x hx).1
  have b := wf_u64 (hw x hx).2
  have c := List.all_eq_true.1 h x hx
  simp at c
  omega
theorem low_one_of {a b : Int} (ha : (Lit.int .u64 a).wf = true) (hb : (Lit.int .u64 b).wf = true) (h : lowB [(⟨a, b⟩ : S34)] = true) : lowR (⟨a, b⟩ : S34) :=
  low_of (l := [(⟨a, b⟩ : S34)]) (fun x hx => by
    rcases List.mem_cons.1 hx with rfl | hx
    · exact ⟨ha, hb⟩
    · cases hx) h _ List.mem_cons_self
theorem shown_f (k : Nat) (hk : 10 ≤ k) : dominolaw03_shown.f k = some true := by
  have hs : lowS [(⟨3, 4⟩ : S34), ⟨1, 2⟩, ⟨7, 6⟩] := fun x hx => by
    simp at hx
    rcases hx with rfl | rfl | rfl <;> decide
  obtain ⟨o1, o2, _⟩ := ofL_says _ hs (by decide)
  have hone : Set_ [(⟨1, 4⟩ : S34)] := by
    show mayR 0 [((1 : Int), (4 : Int))]
    exact ⟨by decide, by decide, by decide, trivial⟩
  have e : ofL [(⟨3, 4⟩ : S34), ⟨1, 2⟩, ⟨7, 6⟩] = [⟨1, 4⟩] := set_unique o1 hone fun n => by
    rw [o2 n]
    show memR [((3 : Int), (4 : Int)), (1, 2), (7, 6)] n ↔ memR [((1 : Int), (4 : Int))] n
    simp only [memR_cons]
    constructor
    · rintro (h | h | h | h)
      · exact Or.inl (by omega)
      · exact Or.inl (by omega)
      · omega
      · exact absurd h (memR_nil n)
    · rintro (h | h)
      · by_cases c : n ≤ 2
        · exact Or.inr (Or.inl (by omega))
        · exact Or.inl (by omega)
      · exact absurd h (memR_nil n)
  unfold dominolaw03_shown.f
  rw [of_f _ hs k (by decide) (by show 3 < k; omega), e, Option.bind_some, if_pos (by rfl), if_pos (by decide), if_pos (by rfl), may_set _ hone k (by decide) (by show 1 < k; omega), Option.bind_some, if_pos rfl,
    has_f _ hone 3 (by decide), Option.bind_some, if_pos (by rfl), count_f _ hone k (by decide) (by show 1 < k; omega), Option.bind_some]
  rfl
open Go.Proofs.YtpjohlcidmnikaaR
/-! ### sets, how long they are -/
structure Ok (B : Nat) (s : List S34) : Prop where
  set : Set_ s
  len : s.length ≤ B
theorem Ok.low {B : Nat} {s : List S34} (h : Ok B s) : lowS s := mayR_lowS h.set
theorem ok_of {l : List S34} (h : lowS l) (B : Nat) (hl : l.length ≤ B) (hB : B ≤ 9000) : Ok (2 * B) (ofL l) := by
  obtain ⟨a, _, c⟩ := ofL_says l h (by omega)
  exact ⟨a, by omega⟩
theorem ok_add {B : Nat} {s : List S34} {a b : Int} (h : Ok B s) (hr : lowR ⟨a, b⟩) (hB : B ≤ 9000) : Ok (2 * B + 2) (addL s ⟨a, b⟩) := by
  have := h.len
  obtain ⟨a, _, c⟩ := addL_says s ⟨a, b⟩ h.low hr (by omega)
  exact ⟨a, by omega⟩
theorem ok_cut {B : Nat} {s : List S34} {a b : Int} (h : Ok B s) (hr : lowR ⟨a, b⟩) (hB : B ≤ 9000) : Ok (2 * B + 2) (cutL s ⟨a, b⟩) := by
  have := h.len
  obtain ⟨a, _, c⟩ := cutL_says s ⟨a, b⟩ h.set hr (by omega)
  exact ⟨a, by omega⟩
theorem ok_gaps {B : Nat} {s : List S34} {a b : Int} (h : Ok B s) (hr : lowR ⟨a, b⟩) (hB : B ≤ 9000) : Ok (2 * B + 2) (gapsL s ⟨a, b⟩) := by
  have := h.len
  obtain ⟨a, _, c⟩ := gapsL_says s ⟨a, b⟩ h.set hr (by omega)
  exact ⟨a, by omega⟩
theorem ok_meet {B C : Nat} {s t : List S34} (h : Ok B s) (h2 : Ok C t) (hB : B ≤ 9000) (hC : C ≤ 9000) : Ok (2 * (B + C)) (meetL s t) := by
  have := h.len
  have := h2.len
  obtain ⟨a, _, c⟩ := meetL_says s t h.set h2.set (by omega) (by omega)
  exact ⟨a, by omega⟩
theorem in_of {l : List S34} (h : lowS l) (hl : l.length ≤ 9000) (n : Int) : In (ofL l) n ↔ In l n := (ofL_says l h (by omega)).2.1 n
theorem in_add {B : Nat} {s : List S34} {a b : Int} (h : Ok B s) (hr : lowR ⟨a, b⟩) (hB : B ≤ 9000) (n : Int) : In (addL s ⟨a, b⟩) n ↔ In s n ∨ (a ≤ n ∧ n ≤ b) := (addL_says s ⟨a, b⟩ h.low hr (by have := h.len; omega)).2.1 n
theorem in_cut {B : Nat} {s : List S34} {a b : Int} (h : Ok B s) (hr : lowR ⟨a, b⟩) (hB : B ≤ 9000) (n : Int) : In (cutL s ⟨a, b⟩) n ↔ In s n ∧ ¬ (a ≤ n ∧ n ≤ b) := (cutL_says s ⟨a, b⟩ h.set hr (by have := h.len; omega)).2.1 n
theorem in_gaps {B : Nat} {s : List S34} {a b : Int} (h : Ok B s) (hr : lowR ⟨a, b⟩) (hB : B ≤ 9000) (n : Int) : In (gapsL s ⟨a, b⟩) n ↔ (a ≤ n ∧ n ≤ b) ∧ ¬ In s n := (gapsL_says s ⟨a, b⟩ h.set hr (by have := h.len; omega)).2.1 n
theorem in_meet {B C : Nat} {s t : List S34} (h : Ok B s) (h2 : Ok C t) (hB : B ≤ 9000) (hC : C ≤ 9000) (n : Int) : In (meetL s t) n ↔ In s n ∧ In t n := (meetL_says s t h.set h2.set (by have := h.len; omega) (by have := h2.len; omega)).2.1 n
theorem in_r (a b n : Int) : In [(⟨a, b⟩ : S34)] n ↔ a ≤ n ∧ n ≤ b := in_one ⟨a, b⟩ n
theorem f_of {l : List S34} (h : lowS l) (k : Nat) (hl : l.length ≤ 9000) (hk : 10000 ≤ k) : ranges_Of.f k l = some (ofL l) := of_f l h k (by omega) (by omega)
theorem f_add {B : Nat} {s : List S34} {a b : Int} (h : Ok B s) (hr : lowR ⟨a, b⟩) (hB : B ≤ 9000) (k : Nat) (hk : 10000 ≤ k) : ranges_Add.f k s a b = some (addL s ⟨a, b⟩) := by
  have := h.len
  exact add_f s ⟨a, b⟩ h.low hr k (by omega) (by omega)
theorem f_cut {B : Nat} {s : List S34} {a b : Int} (h : Ok B s) (hr : lowR ⟨a, b⟩) (hB : B ≤ 9000) (k : Nat) (hk : 10000 ≤ k) : ranges_Cut.f k s a b = some (cutL s ⟨a, b⟩) := by
  have := h.len
  exact cut_f s ⟨a, b⟩ h.low hr k (by omega) (by omega)
theorem f_gaps {B : Nat} {s : List S34} {a b : Int} (h : Ok B s) (hr : lowR ⟨a, b⟩) (hB : B ≤ 9000) (k : Nat) (hk : 10000 ≤ k) : ranges_Gaps.f k s a b = some (gapsL s ⟨a, b⟩) := by
  have := h.len
  exact gaps_f s ⟨a, b⟩ h.low hr k (by omega) (by omega)
theorem f_meet {B C : Nat} {s t : List S34} (h : Ok B s) (h2 : Ok C t) (hB : B ≤ 9000) (hC : C ≤ 9000) (k : Nat) (hk : 10000 ≤ k) : ranges_Meet.f k s t = some (meetL s t) := by
  have := h.len
  have := h2.len
  exact meet_f s t h.low h2.low k (by omega) (by omega) (by omega) (by omega)
theorem f_has {B : Nat} {s : List S34} (h : Ok B s) (hB : B ≤ 9000) (n : Int) : ranges_Has.f s n = some (inB s n) := has_f s h.set n (by have := h.len; omega)
theorem f_may {B : Nat} {s : List S34} (h : Ok B s) (hB : B ≤ 9000) (k : Nat) (hk : 10000 ≤ k) : ranges_May.f k s = some true := may_set s h.set k (by have := h.len; omega) (by have := h.len; omega)
theorem f_count {B : Nat} {s : List S34} (h : Ok B s) (hB : B ≤ 9000) (k : Nat) (hk : 10000 ≤ k) : ranges_Count.f k s = some (lenS s) := count_f s h.set k (by have := h.len; omega) (by have := h.len; omega)
theorem f_its {B : Nat} {s : List S34} (h : Ok B s) (hB : B ≤ 9000) (k : Nat) (hk : 10000 ≤ k) : dominolaw03_its.f k s = some (s.map cv) := its_f s k (by have := h.len; omega) (by have := h.len; omega)
theorem ok_eq {B C : Nat} {s t : List S34} (h : Ok B s) (h2 : Ok C t) (e : ∀ n, In s n ↔ In t n) : s = t := set_unique h.set h2.set e
theorem inB_dec {s : List S34} {n : Int} {P : Bool} (h : In s n ↔ P = true) : inB s n = P := Bool.eq_iff_iff.2 ((inB_iff s n).trans h)
theorem rd2_at (l : List S42) (i : Nat) (h : i < l.length) : rd_T42 l (i : Int) = l[i] := by
  unfold rd_T42
  rw [Int.toNat_natCast]
  simp [List.getD_eq_getElem?_getD, h]
theorem same_run (l : List S42) (hl : l.length ≤ 1000000) : ∀ (m i k : Nat), i + m = l.length → dominoref03_Same.l0 (k + m + 1) l l (i : Int) = some true := by
  intro m
  induction m with
  | zero =>
    intro i k hi
    rw [dominoref03_Same.l0, if_neg (by omega)]
  | succ m ih =>
    intro i k hi
    have hlt : i < l.length := by omega
    rw [show k + (m + 1) + 1 = (k + m + 1) + 1 by omega, dominoref03_Same.l0, if_pos (by omega), if_pos (by omega), if_pos (by omega), w64 i (by omega), if_neg (by simp)]
    exact ih (i + 1) k (by omega)
theorem same_f (l : List S42) (k : Nat) (hl : l.length ≤ 1000000) (hk : l.length < k) : dominoref03_Same.f k l l = some true := by
  have h := same_run l hl l.length 0 (k - l.length - 1) (by omega)
  rw [show k - l.length - 1 + l.length + 1 = k by omega] at h
  unfold dominoref03_Same.f
  rw [if_pos rfl]
  exact h
theorem f_same {B : Nat} {s : List S34} (h : Ok B s) (hB : B ≤ 9000) (k : Nat) (hk : 10000 ≤ k) : dominoref03_Same.f k (s.map cv) (s.map cv) = some true := same_f _ k (by have := h.len; rw [List.length_map]; omega) (by have := h.len; rw [List.length_map]; omega)
theorem low_iff {l : List S34} {k : Nat} (hl : l.length * 16 ≤ 140737488351232) (hk : l.length < k) : dominolaw03_low.f k l = some (lowB l && decide ((l.length : Int) ≤ 40)) := low_f l k (by omega) hk
theorem low_and {l : List S34} (hw : ∀ x ∈ l, ((Lit.int .u64 x.f0).wf = true ∧ (Lit.int .u64 x.f1).wf = true)) (h : (lowB l && decide ((l.length : Int) ≤ 40)) = true) : lowS l ∧ l.length ≤ 40 := by
  rw [Bool.and_eq_true] at h
  have := of_decide_eq_true h.2
  exact ⟨low_of hw h.1, by omega⟩
theorem low_r {a b : Int} (ha : (Lit.int .u64 a).wf = true) (hb : (Lit.int .u64 b).wf = true) (h : (lowB [(⟨a, b⟩ : S34)] && decide ((([(⟨a, b⟩ : S34)].length : Nat) : Int) ≤ 40)) = true) : lowR (⟨a, b⟩ : S34) := by
  rw [Bool.and_eq_true] at h
  exact low_one_of ha hb h.1
open Go.Proofs.YtpjohlcidmnikaaR
theorem order_j2 (l : List S34) (w1 : lowS l) (n1 : l.length ≤ 40) (x : List S34) (hx : ∀ y ∈ x, y ∈ l) (n2 : x.length ≤ 40) (k : Nat) (hk : 10000 ≤ k) : dominolaw03_RangesOrder.j2 (k + 1) l x = some true := by
  have os := ok_of w1 40 n1 (by decide)
  have wx : lowS (x ++ l) := fun y hy => by
    rcases List.mem_append.1 hy with h | h
    · exact w1 y (hx y h)
    · exact w1 y h
  have nx : (x ++ l).length ≤ 80 := by rw [List.length_append]; omega
  have ox := ok_of wx 80 nx (by decide)
  have oo := ok_of os.low 80 os.len (by decide)
  have e1 : ofL (x ++ l) = ofL l := ok_eq ox os fun n => by
    rw [in_of wx (by omega), in_of w1 (by omega)]
    show memR ((x ++ l).map rg) n ↔ memR (l.map rg) n
    rw [List.map_append, memR_append]
    constructor
    · rintro (⟨q, h, h2⟩ | h)
      · obtain ⟨y, hy, rfl⟩ := List.mem_map.1 h
        exact ⟨rg y, List.mem_map_of_mem (hx y hy), h2⟩
      · exact h
    · exact Or.inr
  have e2 : ofL (ofL l) = ofL l := ok_eq oo os fun n => in_of os.low (Nat.le_trans os.len (by decide)) n
  rw [dominolaw03_RangesOrder.j2, f_of w1 _ (by omega) hk, Option.bind_some, f_its os (by decide) _ hk, Option.bind_some, if_pos (by omega), f_of wx _ (by omega) hk, e1, Option.bind_some, f_its os (by decide) _ hk, Option.bind_some, f_same os (by decide) _ hk, Option.bind_some, if_pos rfl,
    Option.bind_some, f_of os.low _ (Nat.le_trans os.len (by decide)) hk, e2, Option.bind_some, f_its os (by decide) _ hk, Option.bind_some, f_same os (by decide) _ hk, Option.bind_some]
theorem order_run (l : List S34) (w1 : lowS l) (n1 : l.length ≤ 40) (by_ : List Int) (hb : ∀ x ∈ by_, 0 ≤ x ∧ x < 256) : ∀ (m i k : Nat) (x : List S34), i + m = x.length → (∀ y ∈ x, y ∈ l) → x.length ≤ 40 → 10000 ≤ k → dominolaw03_RangesOrder.l0 (k + m + 2) l by_ x (i : Int) = some true := by
  intro m
  induction m with
  | zero =>
    intro i k x hi hx hn hk
    rw [dominolaw03_RangesOrder.l0, if_neg (by omega)]
    exact order_j2 l w1 n1 x hx hn k hk
  | succ m ih =>
    intro i k x hi hx hn hk
    rw [show k + (m + 1) + 2 = (k + m + 2) + 1 by omega, dominolaw03_RangesOrder.l0, if_pos (by omega)]
    by_cases c : (i : Int) < (by_.length : Int)
    case neg =>
      rw [if_neg c]
      exact order_j2 l w1 n1 x hx hn (k + m + 1) (by omega)
    have hib : i < by_.length := by omega
    have hv : 0 ≤ rd by_ (i : Int) ∧ rd by_ (i : Int) < 256 := by
      have e : rd by_ (i : Int) = by_[i] := by
        unfold rd
        simp [List.getD_eq_getElem?_getD, hib]
      rw [e]
      exact hb _ (List.getElem_mem hib)
    generalize rd by_ (i : Int) = v at *
    have hw : wrap64 v = v := by unfold wrap64; omega
    have hp : (0 : Int) < (x.length : Int) := by omega
    have t1 : 0 ≤ Int.tmod v (x.length : Int) := Int.tmod_nonneg _ hv.1
    have t2 : Int.tmod v (x.length : Int) < (x.length : Int) := Int.tmod_lt_of_pos v hp
    rw [if_pos c, if_pos (by omega), if_neg (by omega), hw, if_pos t1, if_pos t2, w64 i (by omega)]
    obtain ⟨j, hj⟩ : ∃ j : Nat, Int.tmod v (x.length : Int) = (j : Int) := ⟨_, (Int.toNat_of_nonneg t1).symm⟩
    rw [hj] at t2 ⊢
    have hjl : j < x.length := by omega
    have hil : i < x.length := by omega
    rw [rd_at x j hjl, rd_at x i hil]
    refine ih (i + 1) k _ (by rw [List.length_set, List.length_set]; omega) (fun y hy => ?_) (by rw [List.length_set, List.length_set]; exact hn) hk
    rcases List.mem_or_eq_of_mem_set hy with h | h
    · rcases List.mem_or_eq_of_mem_set h with h | h
      · exact hx y h
      · rw [h]; exact hx _ (List.getElem_mem hjl)
    · rw [h]; exact hx _ (List.getElem_mem hil)
theorem RangesOrder : dominolaw03_RangesOrder.Pure := by
  intro l by_ _ h2 hw _ _ hb
  obtain ⟨K, hK⟩ : ∃ K, K = l.length + 10000 := ⟨_, rfl⟩
  refine ⟨K + 3, ?_⟩
  have hS : ∀ k, 10 ≤ k → dominolaw03_shown.f k = some true := shown_f
  have hT : dominolaw03_RangesOrder.j0 (K + 3) l by_ true = some true := by
    rw [dominolaw03_RangesOrder.j0, if_pos rfl, hS _ (by omega)]
    rfl
  unfold dominolaw03_RangesOrder.f
  rw [low_iff h2 (by omega), Option.bind_some]
  by_cases c1 : (lowB l && decide ((l.length : Int) ≤ 40)) = true
  case neg => rw [if_neg c1, hT]
  rw [if_pos c1, hS _ (by omega), Option.bind_some]
  obtain ⟨w1, n1⟩ := low_and hw c1
  have hb2 : ∀ x ∈ by_, 0 ≤ x ∧ x < 256 := fun x hx => by
    have h := hb x hx
    simp [Lit.wf, IntKind.min, IntKind.max, IntKind.signed, IntKind.bits] at h
    omega
  show dominolaw03_RangesOrder.j0 (K + 3) l by_ false = some true
  rw [dominolaw03_RangesOrder.j0, if_neg (by decide), Option.bind_some, if_pos (by show 0 + l.length < _; omega), List.nil_append]
  have h := order_run l w1 n1 by_ hb2 l.length 0 (K - l.length) l (by omega) (fun _ h => h) n1 (by omega)
  rw [show K - l.length + l.length + 2 = K + 2 by omega] at h
  exact h

end Go.Proofs.Ytpjohlcidmnikaa.Pure
