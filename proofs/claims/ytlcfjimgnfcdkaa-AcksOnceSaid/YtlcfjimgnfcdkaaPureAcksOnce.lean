/- No number is taken twice; one that is greater than all is always taken, and is told, then. -/
import Derived.Test.YtlcfjimgnfcdkaaPAkox6
import Derived.Lib.Bytes
namespace Go.Proofs.Ytlcfjimgnfcdkaa.Pure
open Go.RowKit Go.Proofs.Ytlcfjimgnfcdkaa.PAko Go.Proofs.YtlcfjimgnfcdkaaW.PrintWords Go.Proofs.YtlcfjimgnfcdkaaW.PrintLast
set_option linter.unusedVariables false
set_option linter.unusedSimpArgs false
/-! ### sets of ranges -/
def memR (s : List (Int × Int)) (n : Int) : Prop := ∃ r ∈ s, r.1 ≤ n ∧ n ≤ r.2
def mayR : Int → List (Int × Int) → Prop
  | _, [] => True
  | e, r :: t => r.1 ≤ r.2 ∧ e ≤ r.1 ∧ r.2 < 9223372036854775808 ∧ mayR (r.2 + 2) t
theorem memR_nil (n : Int) : ¬ memR [] n := by rintro ⟨r, h, _⟩; cases h
theorem memR_cons (r : Int × Int) (t : List (Int × Int)) (n : Int) : memR (r :: t) n ↔ (r.1 ≤ n ∧ n ≤ r.2) ∨ memR t n := by
  constructor
  · rintro ⟨q, h, h2⟩
    rcases List.mem_cons.1 h with rfl | h
    · exact Or.inl h2
    · exact Or.inr ⟨q, h, h2⟩
  · rintro (h | ⟨q, h, h2⟩)
    · exact ⟨r, List.mem_cons_self, h⟩
    · exact ⟨q, List.mem_cons_of_mem _ h, h2⟩
theorem memR_append (s t : List (Int × Int)) (n : Int) : memR (s ++ t) n ↔ memR s n ∨ memR t n := by
  induction s with
  | nil => simp [memR_nil]
  | cons r s ih => rw [List.cons_append, memR_cons, memR_cons, ih, or_assoc]
theorem mayR_le {s : List (Int × Int)} {e e' : Int} (h : mayR e s) (h' : e' ≤ e) : mayR e' s := by
  cases s with
  | nil => trivial
  | cons r t => exact ⟨h.1, by have := h.2.1; omega, h.2.2⟩
theorem mayR_low {s : List (Int × Int)} : ∀ {e : Int}, mayR e s → ∀ n, memR s n → e ≤ n ∧ n < 9223372036854775808 := by
  induction s with
  | nil => intro e _ n h; exact absurd h (memR_nil n)
  | cons r t ih =>
    intro e h n hn
    obtain ⟨h1, h2, h3, h4⟩ := h
    rcases (memR_cons r t n).1 hn with hn | hn
    · omega
    · have := ih h4 n hn; omega
theorem mayR_unique {s : List (Int × Int)} : ∀ {e e' : Int} {t : List (Int × Int)}, mayR e s → mayR e' t → (∀ n, memR s n ↔ memR t n) → s = t := by
  induction s with
  | nil =>
    intro e e' t _ ht h
    cases t with
    | nil => rfl
    | cons q t => exact absurd ((h q.1).2 ((memR_cons q t q.1).2 (Or.inl ⟨Int.le_refl _, ht.1⟩))) (memR_nil _)
  | cons r s ih =>
    intro e e' t hs ht h
    cases t with
    | nil => exact absurd ((h r.1).1 ((memR_cons r s r.1).2 (Or.inl ⟨Int.le_refl _, hs.1⟩))) (memR_nil _)
    | cons q t =>
      obtain ⟨r1, r2, r3, r4⟩ := hs
      obtain ⟨q1, q2, q3, q4⟩ := ht
      have ms : ∀ n, memR s n → r.2 + 2 ≤ n := fun n hn => (mayR_low r4 n hn).1
      have mt : ∀ n, memR t n → q.2 + 2 ≤ n := fun n hn => (mayR_low q4 n hn).1
      have e1 : r.1 = q.1 := by
        have a := (memR_cons q t r.1).1 ((h r.1).1 ((memR_cons r s r.1).2 (Or.inl ⟨Int.le_refl _, r1⟩)))
        have b := (memR_cons r s q.1).1 ((h q.1).2 ((memR_cons q t q.1).2 (Or.inl ⟨Int.le_refl _, q1⟩)))
        have c := mt r.1
        have d := ms q.1
        rcases a with a | a
        · rcases b with b | b
          · omega
          · have := d b; omega
        · have := c a
          rcases b with b | b
          · omega
          · have := d b; omega
      have e2 : r.2 = q.2 := by
        rcases Int.lt_trichotomy r.2 q.2 with c | c | c
        · have a := (memR_cons r s (r.2 + 1)).1 ((h (r.2 + 1)).2 ((memR_cons q t (r.2 + 1)).2 (Or.inl (by omega))))
          rcases a with a | a
          · omega
          · have := ms _ a; omega
        · exact c
        · have a := (memR_cons q t (q.2 + 1)).1 ((h (q.2 + 1)).1 ((memR_cons r s (q.2 + 1)).2 (Or.inl (by omega))))
          rcases a with a | a
          · omega
          · have := mt _ a; omega
      have e3 : r = q := Prod.ext e1 e2
      subst e3
      rw [ih r4 q4 (fun n => ?_)]
      constructor
      · intro hn
        rcases (memR_cons r t n).1 ((h n).1 ((memR_cons r s n).2 (Or.inr hn))) with a | a
        · have := ms n hn; omega
        · exact a
      · intro hn
        rcases (memR_cons r s n).1 ((h n).2 ((memR_cons r t n).2 (Or.inr hn))) with a | a
        · have := mt n hn; omega
        · exact a
/-! ### edges, weights, runs -/
def wtE (l : List (Int × Int)) (n : Int) : Int := match l with
  | [] => 0
  | e :: t => (if e.1 ≤ n then e.2 else 0) + wtE t n
def sumE (l : List (Int × Int)) : Int := match l with
  | [] => 0
  | e :: t => e.2 + sumE t
/-- The weight behind all edges at a, and the edges that are left. -/
def grpE (a : Int) : Int → List (Int × Int) → Int × List (Int × Int)
  | w, [] => (w, [])
  | w, e :: t => if e.1 = a then grpE a (w + e.2) t else (w, e :: t)
theorem grpE_len (a : Int) : ∀ (l : List (Int × Int)) (w : Int), (grpE a w l).2.length ≤ l.length
  | [], _ => Nat.le_refl _
  | e :: t, w => by
    rw [grpE]
    split
    · have := grpE_len a t (w + e.2); simp; omega
    · exact Nat.le_refl _
def runsE (wanted : Int → Bool) : Nat → List (Int × Int) → Int → Bool → Int → List (Int × Int)
  | 0, _, _, _, _ => []
  | _ + 1, [], _, _, _ => []
  | k + 1, e :: t, w, op, from_ =>
    let g := grpE e.1 w (e :: t)
    if wanted g.1 then (if op then runsE wanted k g.2 g.1 op from_ else runsE wanted k g.2 g.1 true e.1)
    else if op then (from_, e.1 - 1) :: runsE wanted k g.2 g.1 false from_ else runsE wanted k g.2 g.1 op from_
def sortE : List (Int × Int) → Prop
  | [] => True
  | e :: t => (∀ x ∈ t, e.1 ≤ x.1) ∧ sortE t
theorem grpE_says (a : Int) : ∀ (l : List (Int × Int)) (w : Int), sortE l → (∀ x ∈ l, a ≤ x.1) → sortE (grpE a w l).2 ∧ (∀ x ∈ (grpE a w l).2, a < x.1 ∧ x ∈ l) ∧ (grpE a w l).1 + sumE (grpE a w l).2 = w + sumE l ∧
    (∀ n, a ≤ n → (grpE a w l).1 + wtE (grpE a w l).2 n = w + wtE l n)
  | [], w, _, _ => ⟨trivial, by simp [grpE], rfl, fun _ _ => rfl⟩
  | e :: t, w, hs, ha => by
    rw [grpE]
    by_cases c : e.1 = a
    · rw [if_pos c]
      obtain ⟨h1, h2, h3, h4⟩ := grpE_says a t (w + e.2) hs.2 (fun x hx => ha x (List.mem_cons_of_mem _ hx))
      refine ⟨h1, fun x hx => ⟨(h2 x hx).1, List.mem_cons_of_mem _ (h2 x hx).2⟩, by rw [h3, sumE]; omega, fun n hn => ?_⟩
      rw [h4 n hn, wtE, if_pos (by omega)]
      omega
    · rw [if_neg c]
      have he := ha e List.mem_cons_self
      refine ⟨hs, fun x hx => ⟨?_, hx⟩, rfl, fun n _ => rfl⟩
      rcases List.mem_cons.1 hx with rfl | hx2
      · omega
      · have := hs.1 x hx2; omega
theorem wtE_low {l : List (Int × Int)} {n : Int} (h : ∀ x ∈ l, n < x.1) : wtE l n = 0 := by
  induction l with
  | nil => rfl
  | cons e t ih =>
    have := h e List.mem_cons_self
    rw [wtE, if_neg (by omega), ih (fun x hx => h x (List.mem_cons_of_mem _ hx))]
    rfl
/-- The runs: they may be, and a number is in one just where its weight is wanted. -/
theorem runsE_says (wanted : Int → Bool) (hw0 : wanted 0 = false) : ∀ (k : Nat) (l : List (Int × Int)) (w from_ lo : Int) (op : Bool), l.length < k → sortE l → (∀ x ∈ l, lo ≤ x.1 ∧ x.1 ≤ 9223372036854775808) → w + sumE l = 0 → op = wanted w → (op = true → from_ < lo) →
    mayR (if op then from_ else lo) (runsE wanted k l w op from_) ∧ ∀ n, memR (runsE wanted k l w op from_) n ↔ ((op = true → from_ ≤ n) ∧ wanted (w + wtE l n) = true)
  | 0, l, w, from_, lo, op, hk, _, _, _, _, _ => absurd hk (by omega)
  | k + 1, [], w, from_, lo, op, hk, _, _, hz, ho, _ => by
    have e : w = 0 := by simpa [sumE] using hz
    subst e
    rw [hw0] at ho
    subst ho
    refine ⟨trivial, fun n => ?_⟩
    rw [runsE]
    constructor
    · intro h; exact absurd h (memR_nil n)
    · rintro ⟨_, h⟩
      simp [wtE, hw0] at h
  | k + 1, e :: t, w, from_, lo, op, hk, hs, hb, hz, ho, hf => by
    have hlo := hb e List.mem_cons_self
    obtain ⟨g1, g2, g3, g4⟩ := grpE_says e.1 (e :: t) w hs (fun x hx => by
      rcases List.mem_cons.1 hx with rfl | hx2
      · exact Int.le_refl _
      · exact hs.1 x hx2)
    have hgl : (grpE e.1 w (e :: t)).2.length < k := by
      have h := grpE_len e.1 t (w + e.2)
      rw [grpE, if_pos rfl]
      simp at hk
      omega
    have hb2 : ∀ x ∈ (grpE e.1 w (e :: t)).2, e.1 + 1 ≤ x.1 ∧ x.1 ≤ 9223372036854775808 := fun x hx => ⟨by have := (g2 x hx).1; omega, (hb x (g2 x hx).2).2⟩
    have hlow : ∀ n, n < e.1 → wtE (e :: t) n = 0 := fun n hn => wtE_low (fun x hx => by
      rcases List.mem_cons.1 hx with rfl | hx2
      · exact hn
      · have := hs.1 x hx2; omega)
    have hlow2 : ∀ n, n ≤ e.1 → wtE (grpE e.1 w (e :: t)).2 n = 0 := fun n hn => wtE_low (fun x hx => by have := (g2 x hx).1; omega)
    rw [runsE]
    generalize grpE e.1 w (e :: t) = g at *
    have ih := fun f o (h1 : o = wanted g.1) (h2 : o = true → f < e.1 + 1) => runsE_says wanted hw0 k g.2 g.1 f (e.1 + 1) o hgl g1 hb2 (by omega) h1 h2
    have lowW : ∀ n, n < e.1 → wanted (w + wtE (e :: t) n) = op := fun n hn => by rw [hlow n hn, ho]; simp
    have hiW : ∀ n, e.1 ≤ n → wanted (w + wtE (e :: t) n) = wanted (g.1 + wtE g.2 n) := fun n hn => by rw [g4 n hn]
    by_cases c : wanted g.1 = true
    · rw [if_pos c]
      cases op with
      | true =>
        simp only [if_true]
        have hf := hf rfl
        obtain ⟨m1, m2⟩ := ih from_ true c.symm (fun _ => by omega)
        refine ⟨m1, fun n => ?_⟩
        rw [m2 n]
        by_cases hn : e.1 ≤ n
        · rw [hiW n hn]
          simp
        · rw [lowW n (by omega), hlow2 n (by omega)]
          simp [c]
      | false =>
        simp only [Bool.false_eq_true, if_false]
        obtain ⟨m1, m2⟩ := ih e.1 true c.symm (fun _ => by omega)
        refine ⟨mayR_le m1 hlo.1, fun n => ?_⟩
        rw [m2 n]
        by_cases hn : e.1 ≤ n
        · rw [hiW n hn]
          simp [hn]
        · rw [lowW n (by omega)]
          simp [hn]
    · rw [if_neg c]
      have c' : false = wanted g.1 := by simpa using c
      cases op with
      | true =>
        simp only [if_true]
        have hf := hf rfl
        obtain ⟨m1, m2⟩ := ih from_ false c' (fun h => by cases h)
        simp only [Bool.false_eq_true, if_false] at m1
        refine ⟨⟨by show from_ ≤ e.1 - 1; omega, Int.le_refl _, by show e.1 - 1 < _; omega, mayR_le m1 (by show e.1 - 1 + 2 ≤ _; omega)⟩, fun n => ?_⟩
        rw [memR_cons, m2 n]
        by_cases hn : e.1 ≤ n
        · rw [hiW n hn]
          constructor
          · rintro (h | h)
            · have : n ≤ e.1 - 1 := h.2; omega
            · exact ⟨fun _ => by omega, h.2⟩
          · rintro ⟨_, h⟩
            exact Or.inr ⟨(fun h => by cases h), h⟩
        · rw [lowW n (by omega), hlow2 n (by omega)]
          constructor
          · rintro (h | h)
            · exact ⟨fun _ => h.1, rfl⟩
            · have := h.2; rw [Int.add_zero, ← c'] at this; cases this
          · rintro ⟨h, _⟩
            exact Or.inl ⟨h trivial, by show n ≤ e.1 - 1; omega⟩
      | false =>
        simp only [Bool.false_eq_true, if_false]
        obtain ⟨m1, m2⟩ := ih from_ false c' (fun h => by cases h)
        simp only [Bool.false_eq_true, if_false] at m1
        refine ⟨mayR_le m1 (by omega), fun n => ?_⟩
        rw [m2 n]
        by_cases hn : e.1 ≤ n
        · rw [hiW n hn]
          simp
        · rw [lowW n (by omega), hlow2 n (by omega), Int.add_zero, ← c']
          simp
open Go.Proofs.YtlcfjimgnfcdkaaR
/-! ### edges of a list of ranges; what is swept -/
def rg (x : S44) : Int × Int := (x.f0, x.f1)
theorem wtE_perm {l l' : List (Int × Int)} (h : l.Perm l') (n : Int) : wtE l n = wtE l' n := by
  induction h with
  | nil => rfl
  | cons x _ ih => rw [wtE, wtE, ih]
  | swap x y l => rw [wtE, wtE, wtE, wtE]; omega
  | trans _ _ h1 h2 => exact h1.trans h2
theorem sumE_perm {l l' : List (Int × Int)} (h : l.Perm l') : sumE l = sumE l' := by
  induction h with
  | nil => rfl
  | cons x _ ih => rw [sumE, sumE, ih]
  | swap x y l => rw [sumE, sumE, sumE, sumE]; omega
  | trans _ _ h1 h2 => exact h1.trans h2
theorem wtE_app (a b : List (Int × Int)) (n : Int) : wtE (a ++ b) n = wtE a n + wtE b n := by
  induction a with
  | nil => simp [wtE]
  | cons x a ih => rw [List.cons_append, wtE, wtE, ih]; omega
theorem sumE_app (a b : List (Int × Int)) : sumE (a ++ b) = sumE a + sumE b := by
  induction a with
  | nil => simp [sumE]
  | cons x a ih => rw [List.cons_append, sumE, sumE, ih]; omega
theorem grpW_eq (a : Int) : ∀ (l : List (Int × Int)) (w : Int), (∀ e ∈ l, -1 ≤ e.2 ∧ e.2 ≤ 1) → -1099511627776 ≤ w - l.length → w + l.length ≤ 1099511627776 → grpW a w l = grpE a w l ∧ -1099511627776 ≤ (grpE a w l).1 - (grpE a w l).2.length ∧ (grpE a w l).1 + (grpE a w l).2.length ≤ 1099511627776
  | [], w, _, h1, h2 => ⟨rfl, h1, h2⟩
  | e :: t, w, hb, h1, h2 => by
    have he := hb e List.mem_cons_self
    simp only [List.length_cons] at h1 h2
    rw [grpW, grpE]
    by_cases c : e.1 = a
    · have hw : wrap64 (w + e.2) = w + e.2 := by unfold wrap64; omega
      rw [if_pos c, if_pos c, hw]
      exact grpW_eq a t (w + e.2) (fun x hx => hb x (List.mem_cons_of_mem _ hx)) (by omega) (by omega)
    · rw [if_neg c, if_neg c]
      exact ⟨rfl, by simp only [List.length_cons]; omega, by simp only [List.length_cons]; omega⟩
theorem runsW_eq (wanted : Int → Bool) : ∀ (k : Nat) (l : List (Int × Int)) (w fr : Int) (op : Bool), (∀ e ∈ l, (-1 ≤ e.2 ∧ e.2 ≤ 1) ∧ 0 ≤ e.1 ∧ e.1 ≤ 9223372036854775808) → sortE l → -1099511627776 ≤ w - l.length → w + l.length ≤ 1099511627776 → (op = true → ∀ e ∈ l, 1 ≤ e.1) →
    runsW wanted k l w op fr = runsE wanted k l w op fr
  | 0, _, _, _, _, _, _, _, _, _ => rfl
  | _ + 1, [], _, _, _, _, _, _, _, _ => rfl
  | k + 1, e :: t, w, fr, op, hb, hs, h1, h2, ho => by
    obtain ⟨g1, g2, g3⟩ := grpW_eq e.1 (e :: t) w (fun x hx => (hb x hx).1) h1 h2
    obtain ⟨s1, s2, _, _⟩ := grpE_says e.1 (e :: t) w hs (fun x hx => by
      rcases List.mem_cons.1 hx with rfl | hx2
      · exact Int.le_refl _
      · exact hs.1 x hx2)
    have he := hb e List.mem_cons_self
    rw [runsW, runsE, g1]
    generalize grpE e.1 w (e :: t) = g at *
    have ih := fun f o ho => runsW_eq wanted k g.2 g.1 f o (fun x hx => hb x (s2 x hx).2) s1 g2 g3 ho
    have hlt : ∀ x ∈ g.2, 1 ≤ x.1 := fun x hx => by have := (s2 x hx).1; omega
    by_cases c : wanted g.1 = true
    · simp only [c, if_true]
      cases op with
      | true => simp only [if_true]; exact ih _ _ (fun _ => hlt)
      | false => simp only [Bool.false_eq_true, if_false]; exact ih _ _ (fun _ => hlt)
    · simp only [c]
      cases op with
      | true =>
        have h3 := ho rfl e List.mem_cons_self
        have hw : IntKind.u64.wrap (e.1 - 1) = e.1 - 1 := by rw [IntKind.wrap_u64]; omega
        simp only [if_true, hw, Bool.false_eq_true, if_false]
        rw [ih fr false (fun h => by cases h)]
      | false => simp only [Bool.false_eq_true, if_false]; exact ih _ _ (fun h => by cases h)
theorem sortE_of (l : List (Int × Int)) (h : ∀ i j, i < j → j < l.length → l.toArray[i]!.1 ≤ l.toArray[j]!.1) : sortE l := by
  induction l with
  | nil => trivial
  | cons e t ih =>
    refine ⟨fun x hx => ?_, ih fun i j hij hj => ?_⟩
    · obtain ⟨j, hj, rfl⟩ := List.getElem_of_mem hx
      have := h 0 (j + 1) (by omega) (by simp; omega)
      simpa [hj] using this
    · have := h (i + 1) (j + 1) (by omega) (by simp; omega)
      have hi : i < t.length := by omega
      simpa [hj, hi] using this
theorem sortF_sorted (l : List (Int × Int)) : sortE (sortF l) := by
  obtain ⟨_, hl, hs⟩ := sortF_says l
  refine sortE_of _ fun i j hij hj => ?_
  have h := hs i j (Nat.zero_le _) hij (by omega)
  rw [ltE] at h
  simpa using h
theorem ofR_rg (l : List (Int × Int)) : (l.map ofR).map rg = l := by
  rw [List.map_map]
  exact List.map_id l
/-- What is swept may be, and a number is in it just where its weight is wanted. -/
theorem sweep_says (wanted : Int → Bool) (hw0 : wanted 0 = false) (es : List S87) (hl : es.length ≤ 549755813888) (hb : ∀ e ∈ es, (-1 ≤ e.f1 ∧ e.f1 ≤ 1) ∧ 0 ≤ e.f0 ∧ e.f0 ≤ 9223372036854775808) (hz : sumE (es.map toE) = 0) :
    mayR 0 ((sweepF wanted es).map rg) ∧ (∀ n, memR ((sweepF wanted es).map rg) n ↔ wanted (wtE (es.map toE) n) = true) ∧ (sweepF wanted es).length ≤ es.length := by
  obtain ⟨hp, hlen, _⟩ := sortF_says (es.map toE)
  rw [List.length_map] at hlen
  have hb2 : ∀ e ∈ sortF (es.map toE), (-1 ≤ e.2 ∧ e.2 ≤ 1) ∧ 0 ≤ e.1 ∧ e.1 ≤ 9223372036854775808 := fun e he => by
    have h := hp.mem_iff.1 he
    obtain ⟨x, hx, rfl⟩ := List.mem_map.1 h
    exact hb x hx
  have e1 : (sweepF wanted es).map rg = runsE wanted ((sortF (es.map toE)).length + 1) (sortF (es.map toE)) 0 false 0 := by
    unfold sweepF
    rw [ofR_rg]
    exact runsW_eq wanted _ _ 0 0 false hb2 (sortF_sorted _) (by omega) (by omega) (fun h => by cases h)
  obtain ⟨m1, m2⟩ := runsE_says wanted hw0 ((sortF (es.map toE)).length + 1) (sortF (es.map toE)) 0 0 0 false (by omega) (sortF_sorted _) (fun x hx => (hb2 x hx).2) (by rw [sumE_perm hp, hz]; rfl) hw0.symm (fun h => by cases h)
  rw [e1]
  refine ⟨m1, fun n => ?_, ?_⟩
  · rw [m2 n, wtE_perm hp, Int.zero_add]
    simp
  · have h := allW_len wanted (sortF (es.map toE))
    unfold sweepF
    rw [List.length_map]
    omega
/-- The edges of ranges. -/
def edgL (b : Int) : List S44 → List S87
  | [] => []
  | r :: t => if r.f1 < r.f0 then edgL b t else ⟨r.f0, b⟩ :: ⟨r.f1 + 1, -b⟩ :: edgL b t
/-- How many ranges have a number. -/
def cntR (s : List (Int × Int)) (n : Int) : Int := match s with
  | [] => 0
  | r :: t => (if r.1 ≤ n ∧ n ≤ r.2 then 1 else 0) + cntR t n
def lowS (s : List S44) : Prop := ∀ x ∈ s, (0 ≤ x.f0 ∧ x.f0 < 9223372036854775808) ∧ 0 ≤ x.f1 ∧ x.f1 < 9223372036854775808
theorem edgL_says (b : Int) (hb : -1 ≤ b ∧ b ≤ 1) : ∀ s : List S44, lowS s → (∀ e ∈ edgL b s, (-1 ≤ e.f1 ∧ e.f1 ≤ 1) ∧ 0 ≤ e.f0 ∧ e.f0 ≤ 9223372036854775808) ∧ sumE ((edgL b s).map toE) = 0 ∧ (∀ n, wtE ((edgL b s).map toE) n = b * cntR (s.map rg) n) ∧ (edgL b s).length ≤ 2 * s.length
  | [], _ => ⟨by simp [edgL], rfl, fun n => by simp [edgL, wtE, cntR], Nat.le_refl _⟩
  | r :: t, h => by
    obtain ⟨h1, h2, h3, h4⟩ := edgL_says b hb t (fun x hx => h x (List.mem_cons_of_mem _ hx))
    have hr := h r List.mem_cons_self
    rw [edgL]
    by_cases c : r.f1 < r.f0
    · rw [if_pos c]
      refine ⟨h1, h2, fun n => ?_, by simp; omega⟩
      have hn : ¬ ((rg r).1 ≤ n ∧ n ≤ (rg r).2) := fun ⟨a, b⟩ => by have a' : r.f0 ≤ n := a; have b' : n ≤ r.f1 := b; omega
      rw [h3 n, List.map_cons, cntR, if_neg hn, Int.zero_add]
    · rw [if_neg c]
      refine ⟨fun e he => ?_, ?_, fun n => ?_, by simp; omega⟩
      · rcases List.mem_cons.1 he with rfl | he
        · exact ⟨hb, by show 0 ≤ r.f0 ∧ r.f0 ≤ _; omega⟩
        · rcases List.mem_cons.1 he with rfl | he
          · exact ⟨⟨by show -1 ≤ -b; omega, by show -b ≤ 1; omega⟩, by show 0 ≤ r.f1 + 1 ∧ r.f1 + 1 ≤ _; omega⟩
          · exact h1 e he
      · show b + (-b + sumE _) = 0
        rw [h2]
        omega
      · show (if r.f0 ≤ n then b else 0) + ((if r.f1 + 1 ≤ n then -b else 0) + wtE ((edgL b t).map toE) n) = b * ((if r.f0 ≤ n ∧ n ≤ r.f1 then 1 else 0) + cntR (t.map rg) n)
        rw [h3 n, Int.mul_add]
        by_cases c1 : r.f0 ≤ n
        · by_cases c2 : n ≤ r.f1
          · rw [if_pos c1, if_neg (by omega), if_pos ⟨c1, c2⟩]
            omega
          · rw [if_pos c1, if_pos (by omega), if_neg (fun x => c2 x.2)]
            omega
        · rw [if_neg c1, if_neg (by omega), if_neg (fun x => c1 x.1)]
          omega
theorem cntR_nn : ∀ (s : List (Int × Int)) (n : Int), 0 ≤ cntR s n
  | [], _ => Int.le_refl _
  | r :: t, n => by
    have := cntR_nn t n
    rw [cntR]
    split <;> omega
theorem cntR_pos : ∀ (s : List (Int × Int)) (n : Int), 0 < cntR s n ↔ memR s n
  | [], n => ⟨fun h => absurd h (by simp [cntR]), fun h => absurd h (memR_nil n)⟩
  | r :: t, n => by
    have h := cntR_nn t n
    rw [cntR, memR_cons, ← cntR_pos t n]
    by_cases c : r.1 ≤ n ∧ n ≤ r.2
    · rw [if_pos c]
      exact ⟨fun _ => Or.inl c, fun _ => by omega⟩
    · rw [if_neg c, Int.zero_add]
      exact ⟨Or.inr, fun x => x.elim (fun y => absurd y c) id⟩
/-- In a set a number is once, or not at all. -/
theorem cntR_set {s : List (Int × Int)} : ∀ {e : Int}, mayR e s → ∀ n, (memR s n ∧ cntR s n = 1) ∨ (¬ memR s n ∧ cntR s n = 0) := by
  induction s with
  | nil => exact fun _ n => Or.inr ⟨memR_nil n, rfl⟩
  | cons r t ih =>
    intro e h n
    obtain ⟨h1, h2, h3, h4⟩ := h
    rw [cntR, memR_cons]
    rcases ih h4 n with ⟨a, b⟩ | ⟨a, b⟩
    · have := (mayR_low h4 n a).1
      rw [if_neg (by omega), b]
      exact Or.inl ⟨Or.inr a, rfl⟩
    · rw [b]
      by_cases c : r.1 ≤ n ∧ n ≤ r.2
      · rw [if_pos c]
        exact Or.inl ⟨Or.inl c, rfl⟩
      · rw [if_neg c]
        exact Or.inr ⟨fun x => x.elim c a, rfl⟩
theorem mayR_lowS {s : List S44} (h : mayR 0 (s.map rg)) : lowS s := by
  have go : ∀ (s : List S44) (e : Int), 0 ≤ e → mayR e (s.map rg) → lowS s := by
    intro s
    induction s with
    | nil => exact fun _ _ _ x hx => by cases hx
    | cons r t ih =>
      intro e he h x hx
      obtain ⟨h1, h2, h3, h4⟩ := h
      have h1' : r.f0 ≤ r.f1 := h1
      have h2' : e ≤ r.f0 := h2
      have h3' : r.f1 < 9223372036854775808 := h3
      rcases List.mem_cons.1 hx with rfl | hx
      · omega
      · exact ih (r.f1 + 2) (by omega) h4 x hx
  exact go s 0 (Int.le_refl _) h
/-! ### the program's functions -/
theorem w64 (i : Nat) (h : i < 4611686018427387904) : wrap64 ((i : Int) + 1) = ((i + 1 : Nat) : Int) := by unfold wrap64; omega
theorem rd_at (l : List S44) (i : Nat) (h : i < l.length) : rd_T44 l (i : Int) = l[i] := by
  unfold rd_T44
  rw [Int.toNat_natCast]
  simp [List.getD_eq_getElem?_getD, h]
theorem empty_f (a b : Int) : ranges_Range_empty.f a b = some (decide (b < a)) := rfl
theorem edges_run (b : Int) (hb : b = 1 ∨ b = -1) (l : List S44) (hs : lowS l) (hl : l.length ≤ 1000000) : ∀ (m i k : Nat) (acc : List S87), i + m = l.length → acc.length + 2 * m ≤ 10000000 →
    ranges_edges.l0 (k + m + 1) b acc l (l.length : Int) (i : Int) = some (acc ++ edgL b (l.drop i)) := by
  intro m
  induction m with
  | zero =>
    intro i k acc hi _
    rw [ranges_edges.l0, if_neg (by omega), List.drop_of_length_le (by omega), edgL, List.append_nil]
  | succ m ih =>
    intro i k acc hi ha
    have hlt : i < l.length := by omega
    have hx := hs l[i] (List.getElem_mem hlt)
    rw [show k + (m + 1) + 1 = (k + m + 1) + 1 by omega, ranges_edges.l0, if_pos (by omega), if_pos (by omega), if_pos (by omega), rd_at l i hlt, empty_f, Option.bind_some, List.drop_eq_getElem_cons hlt, edgL, w64 i (by omega)]
    by_cases c : l[i].f1 < l[i].f0
    · rw [if_pos (decide_eq_true c), if_pos c]
      exact ih (i + 1) k acc (by omega) (by omega)
    · have hw : IntKind.u64.wrap (l[i].f1 + 1) = l[i].f1 + 1 := by rw [IntKind.wrap_u64]; omega
      have hn : wrap64 (-b) = -b := by rcases hb with rfl | rfl <;> (unfold wrap64; omega)
      rw [if_neg (by simpa using c), if_neg c, Option.bind_some, if_pos (by simp; omega), hw, hn, ih (i + 1) k _ (by omega) (by simp; omega)]
      simp
theorem edges_f (b : Int) (hb : b = 1 ∨ b = -1) (l : List S44) (hs : lowS l) (k : Nat) (hl : l.length ≤ 1000000) (hk : l.length < k) : ranges_edges.f k l b = some (edgL b l) := by
  have h := edges_run b hb l hs hl l.length 0 (k - l.length - 1) [] (by omega) (by simp; omega)
  rw [show k - l.length - 1 + l.length + 1 = k by omega] at h
  exact h
def addL (s : List S44) (r : S44) : List S44 := sweepF wantPos (edgL 1 s ++ edgL 1 [r])
/-- What a set is: in order, parted, below the top. -/
def Set_ (s : List S44) : Prop := mayR 0 (s.map rg)
def In (s : List S44) (n : Int) : Prop := memR (s.map rg) n
def lowR (r : S44) : Prop := (0 ≤ r.f0 ∧ r.f0 < 9223372036854775808) ∧ 0 ≤ r.f1 ∧ r.f1 < 9223372036854775808
theorem low_one {r : S44} (h : lowR r) : lowS [r] := fun x hx => by
  rcases List.mem_cons.1 hx with rfl | hx
  · exact h
  · cases hx
theorem in_one (r : S44) (n : Int) : memR ([r].map rg) n ↔ r.f0 ≤ n ∧ n ≤ r.f1 := by
  show memR [rg r] n ↔ _
  rw [memR_cons]
  exact ⟨fun h => h.elim id (fun h => absurd h (memR_nil n)), Or.inl⟩
theorem cnt_one (r : S44) (n : Int) : cntR ([r].map rg) n = if r.f0 ≤ n ∧ n ≤ r.f1 then 1 else 0 := by
  show cntR [rg r] n = _
  rw [cntR, cntR]
  exact Int.add_zero _
theorem sweep2 (wanted : Int → Bool) (hw : wanted 0 = false) (a b : List S44) (x y : Int) (hx : -1 ≤ x ∧ x ≤ 1) (hy : -1 ≤ y ∧ y ≤ 1) (ha : lowS a) (hb : lowS b) (la : a.length ≤ 1000000) (lb : b.length ≤ 1000000) :
    Set_ (sweepF wanted (edgL x a ++ edgL y b)) ∧ (∀ n, In (sweepF wanted (edgL x a ++ edgL y b)) n ↔ wanted (x * cntR (a.map rg) n + y * cntR (b.map rg) n) = true) ∧ (sweepF wanted (edgL x a ++ edgL y b)).length ≤ 2 * (a.length + b.length) := by
  obtain ⟨a1, a2, a3, a4⟩ := edgL_says x hx a ha
  obtain ⟨b1, b2, b3, b4⟩ := edgL_says y hy b hb
  obtain ⟨s1, s2, s3⟩ := sweep_says wanted hw (edgL x a ++ edgL y b) (by rw [List.length_append]; omega) (fun e he => (List.mem_append.1 he).elim (a1 e) (b1 e)) (by rw [List.map_append, sumE_app, a2, b2]; rfl)
  refine ⟨s1, fun n => ?_, by rw [List.length_append] at s3; omega⟩
  refine (s2 n).trans ?_
  rw [List.map_append, wtE_app, a3, b3]
theorem edgL_nil (b : Int) : edgL b [] = [] := rfl
theorem addL_says (s : List S44) (r : S44) (h : lowS s) (hr : lowR r) (hl : s.length ≤ 999999) : Set_ (addL s r) ∧ (∀ n, In (addL s r) n ↔ In s n ∨ (r.f0 ≤ n ∧ n ≤ r.f1)) ∧ (addL s r).length ≤ 2 * s.length + 2 := by
  obtain ⟨s1, s2, s3⟩ := sweep2 wantPos rfl s [r] 1 1 (by decide) (by decide) h (low_one hr) (by omega) (by simp)
  refine ⟨s1, fun n => (s2 n).trans ?_, by show (sweepF wantPos (edgL 1 s ++ edgL 1 [r])).length ≤ _; simpa [Nat.mul_add] using s3⟩
  have h1 := cntR_nn (s.map rg) n
  have h2 := cntR_nn ([r].map rg) n
  show decide (0 < _) = true ↔ _
  rw [decide_eq_true_iff]
  have e1 := cntR_pos (s.map rg) n
  have e2 := (cntR_pos ([r].map rg) n).trans (in_one r n)
  show _ ↔ memR (s.map rg) n ∨ _
  rw [← e1, ← e2]
  omega
theorem add_f (s : List S44) (r : S44) (hs : lowS s) (hr : lowR r) (k : Nat) (hl : s.length ≤ 100000) (hk : s.length + 1 < k) : ranges_Add.f k s r.f0 r.f1 = some (addL s r) := by
  have h := (edgL_says 1 (by decide) s hs).2.2.2
  have h2 := (edgL_says 1 (by decide) [r] (low_one hr)).2.2.2
  simp at h2
  unfold ranges_Add.f
  rw [edges_f 1 (Or.inl rfl) s hs k (by omega) (by omega), Option.bind_some, edges_f 1 (Or.inl rfl) [r] (low_one hr) k (by simp) (by simp; omega), Option.bind_some, if_pos (by omega)]
  rfl
/-! May, Has, Count -/
/-! ### Has, Count, what the laws use -/
theorem rg_inj {x y : S44} (h : rg x = rg y) : x = y := by
  obtain ⟨a, b⟩ := x
  obtain ⟨c, d⟩ := y
  injection h with h1 h2
  subst h1
  subst h2
  rfl
theorem map_rg_inj : ∀ {s t : List S44}, s.map rg = t.map rg → s = t
  | [], [], _ => rfl
  | [], _ :: _, h => by cases h
  | _ :: _, [], h => by cases h
  | x :: s, y :: t, h => by
    injection h with h1 h2
    rw [rg_inj h1, map_rg_inj h2]
/-- Sets with the same numbers are the same. -/
theorem set_unique {s t : List S44} (hs : Set_ s) (ht : Set_ t) (h : ∀ n, In s n ↔ In t n) : s = t := map_rg_inj (mayR_unique hs ht h)
def inB (s : List S44) (n : Int) : Bool := s.any fun r => decide (r.f0 ≤ n) && decide (n ≤ r.f1)
theorem inB_iff (s : List S44) (n : Int) : inB s n = true ↔ In s n := by
  unfold inB In
  induction s with
  | nil => exact ⟨(fun h => by cases h), fun h => absurd h (memR_nil n)⟩
  | cons r t ih =>
    rw [List.any_cons, Bool.or_eq_true, List.map_cons, memR_cons, ih]
    simp [rg]
theorem inB_of {s t : List S44} {n : Int} (h : In s n ↔ In t n) : inB s n = inB t n := by
  rw [Bool.eq_iff_iff, inB_iff, inB_iff]
  exact h
/-- In a set the ranges rise. -/
theorem set_rise {s : List S44} : ∀ {e : Int}, mayR e (s.map rg) → ∀ i j (hi : i < s.length) (hj : j < s.length), i < j → s[i].f1 < s[j].f0 := by
  induction s with
  | nil => intro e _ i j hi _ _; simp at hi
  | cons r t ih =>
    intro e h i j hi hj hij
    obtain ⟨h1, h2, h3, h4⟩ := h
    match j, hj, hij with
    | j + 1, hj, hij =>
      have hj' : j < t.length := by simpa using hj
      match i, hi, hij with
      | 0, _, _ =>
        have hm : memR (t.map rg) t[j].f0 := ⟨rg t[j], List.mem_map.2 ⟨t[j], List.getElem_mem hj', rfl⟩, Int.le_refl _, ?_⟩
        · have := (mayR_low h4 _ hm).1
          show r.f1 < t[j].f0
          have h5 : (rg r).2 = r.f1 := rfl
          omega
        · have h6 : ∀ (l : List (Int × Int)) (e : Int), mayR e l → ∀ x ∈ l, x.1 ≤ x.2 := by
            intro l
            induction l with
            | nil => intro _ _ x hx; cases hx
            | cons a l ih2 =>
              intro e h x hx
              rcases List.mem_cons.1 hx with rfl | hx
              · exact h.1
              · exact ih2 _ h.2.2.2 x hx
          exact h6 _ _ h4 (rg t[j]) (List.mem_map.2 ⟨t[j], List.getElem_mem hj', rfl⟩)
      | i + 1, hi, hij => exact ih h4 i j (by simpa using hi) hj' (by omega)
theorem set_ne {s : List S44} : ∀ {e : Int}, mayR e (s.map rg) → ∀ i (hi : i < s.length), s[i].f0 ≤ s[i].f1 := by
  induction s with
  | nil => intro e _ i hi; simp at hi
  | cons r t ih =>
    intro e h i hi
    match i, hi with
    | 0, _ => exact h.1
    | i + 1, hi => exact ih h.2.2.2 i (by simpa using hi)
theorem bsL_says (s : List S44) (n : Int) (hm : ∀ i j (hi : i < s.length) (hj : j < s.length), i < j → s[i].f1 < s[j].f1) : ∀ k i j, j - i < k → i ≤ j → j ≤ s.length → (∀ t (ht : t < s.length), t < i → s[t].f1 < n) → (∀ t (ht : t < s.length), j ≤ t → n ≤ s[t].f1) →
    bsL s n k i j ≤ s.length ∧ (∀ t (ht : t < s.length), t < bsL s n k i j → s[t].f1 < n) ∧ (∀ t (ht : t < s.length), bsL s n k i j ≤ t → n ≤ s[t].f1)
  | 0, i, j, h, _, _, _, _ => absurd h (by omega)
  | k + 1, i, j, h, hij, hj, h1, h2 => by
    rw [bsL]
    by_cases c : i < j
    · have hh : (i + j) / 2 < s.length := by omega
      rw [if_pos c, rd_at s _ hh]
      by_cases d : s[(i + j) / 2].f1 < n
      · have e : cmpH s[(i + j) / 2] n < 0 := by unfold cmpH; rw [if_pos d]; decide
        rw [if_pos e]
        refine bsL_says s n hm k _ j (by omega) (by omega) hj (fun t ht hlt => ?_) h2
        rcases Nat.lt_or_ge t ((i + j) / 2) with q | q
        · have := hm t ((i + j) / 2) ht hh q; omega
        · have e2 : t = (i + j) / 2 := by omega
          subst e2
          exact d
      · have e : ¬ cmpH s[(i + j) / 2] n < 0 := by
          unfold cmpH
          rw [if_neg d]
          split <;> decide
        rw [if_neg e]
        refine bsL_says s n hm k i _ (by omega) (by omega) (by omega) h1 (fun t ht hle => ?_)
        rcases Nat.lt_or_ge ((i + j) / 2) t with q | q
        · have := hm ((i + j) / 2) t hh ht q; omega
        · have e2 : t = (i + j) / 2 := by omega
          subst e2
          omega
    · rw [if_neg c]
      exact ⟨by omega, h1, fun t ht hle => h2 t ht (by omega)⟩
theorem has_f (s : List S44) (h : Set_ s) (n : Int) (hl : s.length ≤ 1000000) : ranges_Has.f s n = some (inB s n) := by
  have hr := fun i j hi hj hij => set_rise h i j hi hj hij
  have hn := fun i hi => set_ne h i hi
  have hm : ∀ i j (hi : i < s.length) (hj : j < s.length), i < j → s[i].f1 < s[j].f1 := fun i j hi hj hij => by
    have a := hr i j hi hj hij
    have b := hn j hj
    omega
  obtain ⟨b1, b2, b3⟩ := bsL_says s n hm (s.length + 1) 0 s.length (by omega) (Nat.zero_le _) (Nat.le_refl _) (fun t _ h => absurd h (by omega)) (fun t ht h => absurd h (by omega))
  unfold ranges_Has.f
  rw [if_pos (by omega)]
  congr 1
  unfold hasF
  dsimp only
  generalize bsL s n (s.length + 1) 0 s.length = R at *
  rw [Bool.eq_iff_iff, inB_iff, Bool.and_eq_true, decide_eq_true_iff]
  constructor
  · rintro ⟨hR, he⟩
    rw [rd_at s R hR] at he
    have he' : cmpH s[R] n = 0 := by simpa using he
    unfold cmpH at he'
    refine ⟨rg s[R], List.mem_map.2 ⟨s[R], List.getElem_mem hR, rfl⟩, ?_, ?_⟩
    · show s[R].f0 ≤ n
      by_cases a : s[R].f1 < n
      · rw [if_pos a] at he'; cases he'
      · rw [if_neg a] at he'
        by_cases b : n < s[R].f0
        · rw [if_pos b] at he'; cases he'
        · omega
    · show n ≤ s[R].f1
      have := b3 R hR (Nat.le_refl _)
      omega
  · rintro ⟨q, hq, h1, h2⟩
    obtain ⟨x, hx, rfl⟩ := List.mem_map.1 hq
    obtain ⟨t, ht, rfl⟩ := List.getElem_of_mem hx
    have h1' : s[t].f0 ≤ n := h1
    have h2' : n ≤ s[t].f1 := h2
    have hRt : R = t := by
      rcases Nat.lt_trichotomy R t with q | q | q
      · have hR : R < s.length := by omega
        have a := b3 R hR (Nat.le_refl _)
        have b := hr R t hR ht q
        omega
      · exact q
      · have := b2 t ht q
        omega
    subst hRt
    refine ⟨ht, ?_⟩
    rw [rd_at s R ht]
    unfold cmpH
    rw [if_neg (by omega), if_neg (by omega)]
    rfl
theorem wf_u64 {a : Int} (h : (Lit.int .u64 a).wf = true) : 0 ≤ a ∧ a < 18446744073709551616 := by
  simp [Lit.wf, IntKind.min, IntKind.max, IntKind.signed, IntKind.bits] at h
  omega
open Go.Proofs.YtlcfjimgnfcdkaaR
/-! ### Got -/
theorem low_of_set {s : List S44} (h : Set_ s) : lowS s := mayR_lowS h
theorem top_f (s : List S44) (a b c d : Int) (hl : s.length ≤ 1000000) : acks_State_top.f s a b c d = some (if h : s = [] then (0, false) else ((s.getLast h).f1, true)) := by
  unfold acks_State_top.f
  by_cases h : s = []
  · subst h; rfl
  · have hp : 0 < s.length := List.length_pos_iff.2 h
    have hw : wrap64 ((s.length : Int) - 1) = ((s.length - 1 : Nat) : Int) := by unfold wrap64; omega
    rw [if_neg (by omega), hw, if_pos (by omega), if_pos (by omega), rd_at s _ (by omega), dif_neg h, List.getLast_eq_getElem]
theorem had_f (s : List S44) (h : Set_ s) (fl b c d n : Int) (hl : s.length ≤ 1000000) : acks_State_had.f s fl b c d n = some (decide (n < fl) || inB s n) := by
  unfold acks_State_had.f
  by_cases c : n < fl
  · rw [if_pos c, decide_eq_true c, Bool.true_or]
  · rw [if_neg c, has_f s h n hl, decide_eq_false c, Bool.false_or]
    rfl
def topU (s : List S44) (n top tick : Int) : Int := if h : s = [] then tick else if n > (s.getLast h).f1 then tick else top
theorem addL_eq {s t : List S44} {a b : Int} (hs : Set_ s) (hr : lowR ⟨a, b⟩) (hl : s.length ≤ 999999) (ht : Set_ t) (e : ∀ n, In t n ↔ In s n ∨ (a ≤ n ∧ n ≤ b)) : addL s ⟨a, b⟩ = t := by
  obtain ⟨h1, h2, _⟩ := addL_says s ⟨a, b⟩ (low_of_set hs) hr hl
  exact set_unique h1 ht (fun n => (h2 n).trans (e n).symm)
theorem got_no {s : List S44} {fl top o si n t : Int} {el : Bool} (hs : Set_ s) (hl : s.length ≤ 9000) (h : (decide (n < fl) || inB s n) = true) (k : Nat) : acks_Got.f k s fl top o si n el t = some (s, fl, top, o, si, false) := by
  unfold acks_Got.f
  rw [had_f s hs fl _ _ _ n (by omega), h]
  rfl
theorem got_yes {s u : List S44} {fl top o si n t : Int} {el : Bool} (hs : Set_ s) (hl : s.length ≤ 9000) (h : (decide (n < fl) || inB s n) = false) (hn : 0 ≤ n ∧ n < 9223372036854775808) (hu : addL s ⟨n, n⟩ = u) (hlu : u.length ≤ 1000000) (k : Nat) (hk : 10001 ≤ k) :
    acks_Got.f k s fl top o si n el t = some (forT u, forF u fl, topU s n top t, (if el = true then oweO o else o), (if el = true then oweS o si t else si), true) := by
  unfold acks_Got.f
  rw [had_f s hs fl _ _ _ n (by omega), h]
  simp only [Option.bind_some, Bool.false_eq_true, if_false]
  rw [top_f s _ _ _ _ (by omega)]
  have ha : ∀ m, 10000 ≤ m → ranges_Add.f m s n n = some u := fun m hm => by rw [← hu]; exact add_f s ⟨n, n⟩ (low_of_set hs) ⟨hn, hn⟩ m (by omega) (by omega)
  have he : ∀ tp, gotEnd el t u fl tp o si = some (forT u, forF u fl, tp, (if el = true then oweO o else o), (if el = true then oweS o si t else si), true) := fun tp => by unfold gotEnd; rw [if_pos (by omega)]
  obtain ⟨m, rfl⟩ : ∃ m, k = m + 1 := ⟨k - 1, by omega⟩
  by_cases c : s = []
  · rw [dif_pos c]
    simp only [Option.bind_some, Bool.false_eq_true, if_false]
    rw [acks_Got.j0, if_pos rfl, ha m (by omega), Option.bind_some, he]
    unfold topU
    rw [dif_pos c]
  · rw [dif_neg c]
    simp only [Option.bind_some, if_true]
    unfold topU
    rw [dif_neg c]
    by_cases c2 : n > (s.getLast c).f1
    · rw [decide_eq_true c2, acks_Got.j0, if_pos rfl, ha m (by omega), Option.bind_some, he, if_pos c2]
    · rw [decide_eq_false c2, acks_Got.j0, if_neg (by decide), ha m (by omega), Option.bind_some, he, if_neg c2]
theorem set_one {a b : Int} (h : 0 ≤ a) (h1 : a ≤ b) (h2 : b < 9223372036854775808) : Set_ [(⟨a, b⟩ : S44)] := ⟨h1, h, h2, trivial⟩
theorem set_nil : Set_ [] := trivial
theorem in_r (a b n : Int) : In [(⟨a, b⟩ : S44)] n ↔ a ≤ n ∧ n ≤ b := in_one ⟨a, b⟩ n
theorem in_nil (n : Int) : ¬ In [] n := memR_nil n
theorem inB_no {s : List S44} {n : Int} (h : ¬ In s n) : inB s n = false := by
  cases e : inB s n with
  | false => rfl
  | true => exact absurd ((inB_iff s n).1 e) h
theorem add_nil {n : Int} (h : 0 ≤ n ∧ n < 9223372036854775808) : addL [] ⟨n, n⟩ = [⟨n, n⟩] := addL_eq set_nil ⟨h, h⟩ (by decide) (set_one h.1 (by omega) h.2) (fun m => by
  rw [in_r]
  exact ⟨Or.inr, fun x => x.elim (fun y => absurd y (in_nil m)) id⟩)
theorem forT_few {u : List S44} (h : u.length ≤ 32) : forT u = u := if_pos h
theorem forF_few {u : List S44} {f : Int} (h : u.length ≤ 32) : forF u f = f := if_pos h
theorem range_f (u : List S44) (h : u.length ≤ 1000000) : ranges_Range_21.f u = some u := if_pos (by omega)
theorem frame_f (s : List S44) (h : s ≠ []) (fl top o si t : Int) (hl : s.length ≤ 1000000) : acks_Frame.f s fl top o si t = some (2, 0, 0, 0, 0, 0, 0, IntKind.u64.wrap (mx 0 (wrap64 (t - top))), false, (⟨#[]⟩ : ByteArray), (⟨#[]⟩ : ByteArray), (⟨#[]⟩ : ByteArray), s, true) := by
  unfold acks_Frame.f
  rw [top_f s _ _ _ _ hl, dif_neg h]
  simp only [Option.bind_some, if_true]
  rw [range_f s hl]
  rfl
theorem oweO_f {o : Int} (h : 0 ≤ o ∧ o < 1099511627776) : oweO o = o + 1 := by unfold oweO wrap64; omega
theorem oweS_f {o s t : Int} (h : 0 ≤ o ∧ o < 1099511627776) : oweS o s t = if o = 0 then t else s := by
  unfold oweS wrap64
  by_cases c : o = 0
  · rw [if_pos c, if_pos (by omega)]
  · rw [if_neg c, if_neg (by omega)]
theorem topU_nil (n top t : Int) : topU [] n top t = t := by unfold topU; rw [dif_pos rfl]
theorem topU_one (a b n top t : Int) : topU [(⟨a, b⟩ : S44)] n top t = if n > b then t else top := by unfold topU; rw [dif_neg (by simp)]; rfl
theorem wrap_u64 {n : Int} (h : 0 ≤ n ∧ n < 18446744073709551616) : IntKind.u64.wrap n = n := by rw [IntKind.wrap_u64]; omega
theorem wf_u8 {a : Int} (h : (Lit.int .u8 a).wf = true) : 0 ≤ a ∧ a < 256 := by
  simp [Lit.wf, IntKind.min, IntKind.max, IntKind.signed, IntKind.bits] at h
  omega
open Go.Proofs.YtlcfjimgnfcdkaaR
theorem shown_f (k : Nat) (hk : 10001 ≤ k) : dominolaw13_shown.f k = some true := by
  unfold dominolaw13_shown.f
  have g1 : acks_Got.f k [] 0 0 0 0 3 true 5 = some ([⟨3, 3⟩], 0, 5, 1, 5, true) := by
    rw [got_yes (u := [⟨3, 3⟩]) set_nil (by decide) (by rw [inB_no (in_nil 3)]; rfl) (by omega) (add_nil (by omega)) (by decide) k hk, forT_few (by decide), forF_few (by decide), topU_nil, oweO_f (by omega), oweS_f (by omega)]
    rfl
  have g2 : acks_Got.f k [⟨3, 3⟩] 0 5 1 5 2 true 6 = some ([⟨2, 3⟩], 0, 5, 2, 5, true) := by
    rw [got_yes (u := [⟨2, 3⟩]) (set_one (by omega) (by omega) (by omega)) (by decide) (by rw [inB_no (fun h => by have := (in_r 3 3 2).1 h; omega)]; rfl) (by omega) (addL_eq (set_one (by omega) (by omega) (by omega)) ⟨by decide, by decide⟩ (by decide) (set_one (by omega) (by omega) (by omega)) (fun m => by rw [in_r, in_r]; omega)) (by decide) k hk, forT_few (by decide), forF_few (by decide), topU_one, oweO_f (by omega), oweS_f (by omega)]
    rfl
  have g3 : acks_Got.f k [⟨2, 3⟩] 0 5 2 5 3 true 7 = some ([⟨2, 3⟩], 0, 5, 2, 5, false) := got_no (set_one (by omega) (by omega) (by omega)) (by decide) (by rw [(inB_iff _ _).2 ((in_r 2 3 3).2 (by omega))]; rfl) k
  have g4 : acks_Frame.f [⟨2, 3⟩] 0 5 2 5 9 = some (2, 0, 0, 0, 0, 0, 0, 4, false, (⟨#[]⟩ : ByteArray), (⟨#[]⟩ : ByteArray), (⟨#[]⟩ : ByteArray), [⟨2, 3⟩], true) := by
    rw [frame_f _ (by simp) _ _ _ _ _ (by decide), show wrap64 (9 - 5) = 4 by unfold wrap64; omega, show mx 0 4 = 4 by unfold mx; omega, wrap_u64 (by omega)]
  rw [g1]; simp only [Option.bind_some]
  rw [g2]; simp only [Option.bind_some]
  rw [g3]; simp only [Option.bind_some]
  rw [g4]; simp only [Option.bind_some]
  have d1 : acks_Due.f [⟨2, 3⟩] 0 5 2 5 6 9 = some true := by unfold acks_Due.f; rw [if_neg (by omega), if_neg (by omega)]
  have d2 : acks_Due.f [⟨2, 3⟩] 0 5 0 0 9 0 = some false := by unfold acks_Due.f; rw [if_pos rfl]
  simp [d1, acks_Sent.f, d2, rd_T44]
open Go.Proofs.YtlcfjimgnfcdkaaR
def mayB : Int → List (Int × Int) → Bool
  | _, [] => true
  | e, r :: t => if r.2 < r.1 then false else if r.2 ≥ 9223372036854775808 then false else if r.1 < e then false else mayB (r.2 + 2) t
theorem mayB_iff : ∀ (l : List (Int × Int)) (e : Int), mayB e l = true ↔ mayR e l
  | [], _ => ⟨fun _ => trivial, fun _ => rfl⟩
  | r :: t, e => by
    rw [mayB]
    have ih := mayB_iff t (r.2 + 2)
    show _ ↔ r.1 ≤ r.2 ∧ e ≤ r.1 ∧ r.2 < 9223372036854775808 ∧ mayR (r.2 + 2) t
    by_cases c1 : r.2 < r.1
    · rw [if_pos c1]
      exact ⟨(fun h => by cases h), fun h => by omega⟩
    rw [if_neg c1]
    by_cases c2 : r.2 ≥ 9223372036854775808
    · rw [if_pos c2]
      exact ⟨(fun h => by cases h), fun h => by omega⟩
    rw [if_neg c2]
    by_cases c3 : r.1 < e
    · rw [if_pos c3]
      exact ⟨(fun h => by cases h), fun h => by omega⟩
    rw [if_neg c3, ih]
    exact ⟨fun h => ⟨by omega, by omega, by omega, h⟩, fun h => h.2.2.2⟩
theorem may_run (l : List S44) (hl : l.length ≤ 1000000) (h0 : ∀ x ∈ l, 0 ≤ x.f1) : ∀ (m i k : Nat) (e : Int), i + m = l.length → ranges_May.l0 (k + m + 1) e l (l.length : Int) (i : Int) = some (mayB e ((l.drop i).map rg)) := by
  intro m
  induction m with
  | zero =>
    intro i k e hi
    rw [ranges_May.l0, if_neg (by omega), List.drop_of_length_le (by omega)]
    rfl
  | succ m ih =>
    intro i k e hi
    have hlt : i < l.length := by omega
    have hx := h0 l[i] (List.getElem_mem hlt)
    rw [show k + (m + 1) + 1 = (k + m + 1) + 1 by omega, ranges_May.l0, if_pos (by omega), if_pos (by omega), if_pos (by omega), rd_at l i hlt, empty_f, Option.bind_some, List.drop_eq_getElem_cons hlt, List.map_cons, mayB, w64 i (by omega)]
    show _ = some (if l[i].f1 < l[i].f0 then false else if l[i].f1 ≥ 9223372036854775808 then false else if l[i].f0 < e then false else mayB (l[i].f1 + 2) _)
    by_cases c1 : l[i].f1 < l[i].f0
    · rw [if_pos (decide_eq_true c1), if_pos c1]
    rw [if_neg (by simpa using c1), if_neg c1]
    by_cases c2 : l[i].f1 ≥ 9223372036854775808
    · rw [if_pos c2, if_pos c2]
    rw [if_neg c2, if_neg c2]
    by_cases c3 : l[i].f0 < e
    · rw [if_pos c3, if_pos c3]
    have hw : IntKind.u64.wrap (l[i].f1 + 2) = l[i].f1 + 2 := by rw [IntKind.wrap_u64]; omega
    rw [if_neg c3, if_neg c3, hw]
    exact ih (i + 1) k _ (by omega)
theorem may_f (l : List S44) (k : Nat) (hl : l.length ≤ 1000000) (h0 : ∀ x ∈ l, 0 ≤ x.f1) (hk : l.length < k) : ranges_May.f k l = some (mayB 0 (l.map rg)) := by
  have h := may_run l hl h0 l.length 0 (k - l.length - 1) 0 (by omega)
  rw [show k - l.length - 1 + l.length + 1 = k by omega] at h
  exact h
theorem may_set (s : List S44) (h : Set_ s) (k : Nat) (hl : s.length ≤ 1000000) (hk : s.length < k) : ranges_May.f k s = some true := by
  rw [may_f s k hl (fun x hx => (mayR_lowS h x hx).2.1) hk, (mayB_iff _ _).2 h]
open Go.Proofs.YtlcfjimgnfcdkaaR
/-! ### how many ranges a set has -/
theorem starts_len : ∀ (u : List S44) (e : Int) (P : List Int), mayR e (u.map rg) → (∀ r ∈ u, r.f0 ∈ P) → u.length ≤ P.length
  | [], _, P, _, _ => Nat.zero_le _
  | r :: t, e, P, h, hP => by
    obtain ⟨h1, h2, h3, h4⟩ := h
    have h1 : r.f0 ≤ r.f1 := h1
    have h4 : mayR (r.f1 + 2) (t.map rg) := h4
    have hm : r.f0 ∈ P := hP r List.mem_cons_self
    have ih := starts_len t (r.f1 + 2) (P.erase r.f0) h4 (fun q hq => by
      have hq2 := hP q (List.mem_cons_of_mem _ hq)
      have hlow : r.f1 + 2 ≤ q.f0 := by
        obtain ⟨i, hi, rfl⟩ := List.getElem_of_mem hq
        have hn := set_ne h4 i hi
        exact (mayR_low h4 _ ⟨rg t[i], List.mem_map.2 ⟨t[i], List.getElem_mem hi, rfl⟩, Int.le_refl _, hn⟩).1
      exact (List.mem_erase_of_ne (by omega)).2 hq2)
    rw [List.length_erase_of_mem hm] at ih
    have : 0 < P.length := List.length_pos_of_mem hm
    rw [List.length_cons]
    omega
/-- A range's beginning has nothing beside it ahead. -/
theorem start_out : ∀ (u : List S44) (e : Int), mayR e (u.map rg) → ∀ r ∈ u, In u r.f0 ∧ ¬ In u (r.f0 - 1)
  | [], _, _, _, h => by cases h
  | q :: t, e, h, r, hr => by
    obtain ⟨h1, h2, h3, h4⟩ := h
    have h1 : q.f0 ≤ q.f1 := h1
    have h4 : mayR (q.f1 + 2) (t.map rg) := h4
    rcases List.mem_cons.1 hr with rfl | hr
    · refine ⟨(memR_cons _ _ _).2 (Or.inl ⟨Int.le_refl _, h1⟩), fun hn => ?_⟩
      rcases (memR_cons _ _ _).1 hn with z | z
      · have : r.f0 ≤ r.f0 - 1 := z.1
        omega
      · have := (mayR_low h4 _ z).1
        omega
    · obtain ⟨a, b⟩ := start_out t (q.f1 + 2) h4 r hr
      have hl := (mayR_low h4 _ a).1
      refine ⟨(memR_cons _ _ _).2 (Or.inr a), fun hn => ?_⟩
      rcases (memR_cons _ _ _).1 hn with z | z
      · have : r.f0 - 1 ≤ q.f1 := z.2
        omega
      · exact b z
theorem start_is : ∀ (s : List S44) (e n : Int), mayR e (s.map rg) → In s n → ¬ In s (n - 1) → n ∈ s.map (·.f0)
  | [], _, n, _, h, _ => absurd h (memR_nil n)
  | q :: t, e, n, h, hi, ho => by
    obtain ⟨h1, h2, h3, h4⟩ := h
    rcases (memR_cons _ _ _).1 hi with z | z
    · have z1 : q.f0 ≤ n := z.1
      have z2 : n ≤ q.f1 := z.2
      by_cases c : n = q.f0
      · rw [c]; exact List.mem_cons_self
      · exact absurd ((memR_cons _ _ _).2 (Or.inl ⟨by show q.f0 ≤ n - 1; omega, by show n - 1 ≤ q.f1; omega⟩)) ho
    · exact List.mem_cons_of_mem _ (start_is t _ n h4 z (fun y => ho ((memR_cons _ _ _).2 (Or.inr y))))
theorem add_len {s u : List S44} {x : Int} (hs : Set_ s) (hu : Set_ u) (h : ∀ n, In u n ↔ In s n ∨ (x ≤ n ∧ n ≤ x)) : u.length ≤ s.length + 1 := by
  have hh := starts_len u 0 (s.map (·.f0) ++ [x]) hu (fun r hr => by
    obtain ⟨a, b⟩ := start_out u 0 hu r hr
    rcases (h _).1 a with z | z
    · by_cases c : In s (r.f0 - 1)
      · exact absurd ((h _).2 (Or.inl c)) b
      · exact List.mem_append_left _ (start_is s 0 _ hs z c)
    · exact List.mem_append_right _ (by rw [List.mem_singleton]; omega))
  simpa using hh
/-- The last range's end is the greatest of the set. -/
theorem last_max : ∀ (u : List S44) (e : Int) (h : u ≠ []), mayR e (u.map rg) → In u (u.getLast h).f1 ∧ ∀ n, In u n → n ≤ (u.getLast h).f1
  | [q], e, h, hm => by
    obtain ⟨h1, _, _, _⟩ := hm
    have h1 : q.f0 ≤ q.f1 := h1
    exact ⟨(memR_cons _ _ _).2 (Or.inl ⟨h1, Int.le_refl _⟩), fun n hn => by
      rcases (memR_cons _ _ _).1 hn with z | z
      · exact z.2
      · exact absurd z (memR_nil n)⟩
  | q :: r :: t, e, h, hm => by
    obtain ⟨h1, h2, h3, h4⟩ := hm
    obtain ⟨a, b⟩ := last_max (r :: t) _ (by simp) h4
    rw [List.getLast_cons (by simp)]
    refine ⟨(memR_cons _ _ _).2 (Or.inr a), fun n hn => ?_⟩
    rcases (memR_cons _ _ _).1 hn with z | z
    · have := (mayR_low h4 _ a).1
      have z2 : n ≤ q.f1 := z.2
      have hq : (rg q).2 = q.f1 := rfl
      omega
    · exact b n z
theorem w64_small {n : Int} (h : -1 ≤ n ∧ n < 65536) : wrap64 n = n := by unfold wrap64; omega
theorem u64_small {n : Int} (h : 0 ≤ n ∧ n < 65536) : IntKind.u64.wrap n = n := wrap_u64 (by omega)
theorem cnt_app (a x : Int) (tk : List Int) : cntT a (tk ++ [x]) = cntT a tk + (if x = a then 1 else 0) := by
  unfold cntT
  rw [List.filter_append, List.length_append]
  by_cases c : x = a
  · subst c
    rw [if_pos rfl]
    simp
  · rw [if_neg c]
    have : (x == a) = false := beq_eq_false_iff_ne.2 c
    simp [this]
theorem cnt_no {a : Int} {tk : List Int} (h : ¬ a ∈ tk) : cntT a tk = 0 := by
  unfold cntT
  have : tk.filter (· == a) = [] := List.filter_eq_nil_iff.2 (fun x hx => by
    intro e
    have := eq_of_beq e
    subst this
    exact h hx)
  rw [this]
  rfl
structure OInv (s : List S44) (fl top : Int) (tk : List Int) : Prop where
  sx : Set_ s
  len : s.length ≤ 32
  lo : ∀ n, In s n → fl ≤ n ∧ n ≤ top
  f0 : 0 ≤ fl
  ft : fl ≤ top + 1
  t0 : -1 ≤ top ∧ top < 65536
  tks : ∀ a ∈ tk, a < fl ∨ In s a
  one : ∀ a, cntT a tk ≤ 1
  emp : s = [] → top = -1
  lst : ∀ h : s ≠ [], (s.getLast h).f1 = top
set_option maxHeartbeats 1000000 in
theorem once_step {s : List S44} {fl top : Int} {tk : List Int} (h : OInv s fl top tk) {x : Int} (hx : 0 ≤ x ∧ x < 65536) (tp o si t : Int) (k : Nat) (hk : 10001 ≤ k) :
    ∃ s' fl' tp' o' si' is tk', acks_Got.f k s fl tp o si x false t = some (s', fl', tp', o', si', is) ∧ (is = true → tk' = tk ++ [x]) ∧ (is = false → tk' = tk) ∧ OInv s' fl' (mx top x) tk' ∧ s' ≠ [] ∧ (x > top → is = true) := by
  have hlen := h.len
  have hft := h.ft
  have ht0 := h.t0
  by_cases had : (decide (x < fl) || inB s x) = true
  · have hle : x ≤ top := by
      rcases Bool.or_eq_true _ _ ▸ had with z | z
      · have := of_decide_eq_true z; omega
      · exact (h.lo x ((inB_iff _ _).1 z)).2
    have hmx : mx top x = top := by unfold mx; omega
    refine ⟨s, fl, tp, o, si, false, tk, got_no h.sx (by omega) had k, (fun z => by cases z), (fun _ => rfl), by rw [hmx]; exact h, fun e => ?_, fun z => absurd z (by omega)⟩
    have := h.emp e
    omega
  · have had : (decide (x < fl) || inB s x) = false := by simpa using had
    have hnf : ¬ x < fl := fun z => by rw [decide_eq_true z] at had; cases had
    have hni : ¬ In s x := fun z => by rw [(inB_iff _ _).2 z, Bool.or_true] at had; cases had
    have hnt : ¬ x ∈ tk := fun z => (h.tks x z).elim hnf hni
    have hr : lowR (⟨x, x⟩ : S44) := ⟨⟨hx.1, by show x < _; omega⟩, hx.1, by show x < _; omega⟩
    obtain ⟨u1, u2, u3⟩ := addL_says s ⟨x, x⟩ (low_of_set h.sx) hr (by omega)
    obtain ⟨u, hu⟩ : ∃ u, addL s ⟨x, x⟩ = u := ⟨_, rfl⟩
    rw [hu] at u1 u2 u3
    have u2 : ∀ n, In u n ↔ In s n ∨ (x ≤ n ∧ n ≤ x) := u2
    have ul := add_len h.sx u1 u2
    have hxu : In u x := (u2 x).2 (Or.inr ⟨Int.le_refl _, Int.le_refl _⟩)
    have hne : u ≠ [] := fun e => by rw [e] at hxu; exact in_nil x hxu
    obtain ⟨m1, m2⟩ := last_max u 0 hne u1
    obtain ⟨T, hT⟩ : ∃ T : Int, mx top x = T := ⟨_, rfl⟩
    have hTb : top ≤ T ∧ x ≤ T ∧ T < 65536 ∧ -1 ≤ T ∧ (T = top ∨ T = x) := by rw [← hT]; unfold mx; omega
    have hlast : (u.getLast hne).f1 = T := by
      have a1 : (u.getLast hne).f1 ≤ T := by
        rcases (u2 _).1 m1 with z | z
        · have := (h.lo _ z).2; omega
        · omega
      have a2 := m2 x hxu
      have a3 : top ≤ (u.getLast hne).f1 := by
        by_cases e : s = []
        · have := h.emp e; omega
        · have q := (last_max s 0 e h.sx).1
          rw [h.lst e] at q
          exact m2 top ((u2 _).2 (Or.inl q))
      omega
    have hlo : ∀ n, In u n → fl ≤ n ∧ n ≤ T := fun n hn => by
      rcases (u2 n).1 hn with z | z
      · have := h.lo n z; omega
      · omega
    have htk : ∀ a ∈ tk ++ [x], a < fl ∨ In u a := fun a ha => by
      rcases List.mem_append.1 ha with z | z
      · exact (h.tks a z).imp id (fun q => (u2 a).2 (Or.inl q))
      · rw [List.mem_singleton.1 z]; exact Or.inr hxu
    have hone : ∀ a, cntT a (tk ++ [x]) ≤ 1 := fun a => by
      rw [cnt_app]
      by_cases c : x = a
      · subst c; rw [cnt_no hnt, if_pos rfl]; omega
      · rw [if_neg c]; have := h.one a; omega
    have hf0 := h.f0
    have g := got_yes (fl := fl) (top := tp) (o := o) (si := si) (n := x) (t := t) (el := false) h.sx (by omega) had (by omega) hu (by omega) k hk
    rw [hT]
    by_cases c : u.length ≤ 32
    · rw [forT_few c, forF_few c] at g
      exact ⟨_, _, _, _, _, _, tk ++ [x], g, fun _ => rfl, (fun z => by cases z), ⟨u1, c, hlo, hf0, by omega, by omega, htk, hone, fun e => absurd e hne, fun _ => hlast⟩, hne, fun _ => rfl⟩
    · cases u with
      | nil => exact absurd rfl hne
      | cons r v =>
        obtain ⟨v1, v2, v3, v4⟩ := u1
        have v1 : r.f0 ≤ r.f1 := v1
        have v4 : mayR (r.f1 + 2) (v.map rg) := v4
        have hvl : v.length = 32 := by rw [List.length_cons] at ul c; omega
        have hvn : v ≠ [] := fun e => by rw [e] at hvl; cases hvl
        have r0 := hlo _ ((memR_cons _ _ _).2 (Or.inl ⟨Int.le_refl _, v1⟩) : In (r :: v) r.f0)
        have r1 := hlo _ ((memR_cons _ _ _).2 (Or.inl ⟨v1, Int.le_refl _⟩) : In (r :: v) r.f1)
        have eF : forF (r :: v) fl = r.f1 + 1 := by
          unfold forF
          rw [if_neg c]
          show IntKind.u64.wrap (r.f1 + 1) = _
          exact wrap_u64 (by omega)
        have eT : forT (r :: v) = v := by unfold forT; rw [if_neg c]; rfl
        rw [eF, eT] at g
        have hvlast : (v.getLast hvn).f1 = T := by rw [List.getLast_cons hvn] at hlast; exact hlast
        refine ⟨_, _, _, _, _, _, tk ++ [x], g, fun _ => rfl, (fun z => by cases z), ⟨mayR_le v4 (by omega), by omega, fun n hn => ?_, by omega, by omega, by omega, fun a ha => ?_, hone, fun e => absurd e hvn, fun _ => hvlast⟩, hvn, fun _ => rfl⟩
        · have a := (mayR_low v4 n hn).1
          have b := hlo n ((memR_cons _ _ _).2 (Or.inr hn))
          omega
        · rcases htk a ha with z | z
          · left; omega
          · rcases (memR_cons _ _ _).1 z with y | y
            · left
              have : a ≤ r.f1 := y.2
              omega
            · exact Or.inr y
theorem rd_in (l : List Int) (i : Nat) (h : i < l.length) : rd l (i : Int) = l[i] := by
  unfold rd
  rw [Int.toNat_natCast]
  simp [List.getD_eq_getElem?_getD, h]
set_option maxHeartbeats 1000000 in
theorem once_go (l : List Int) (hW : ∀ x ∈ l, 0 ≤ x ∧ x < 65536) (hl : l.length ≤ 200) (i : Nat) (hlt : i < l.length) (q : Nat) (hq : 20000 ≤ q) {s : List S44} {fl top : Int} {tk : List Int} (tp o si : Int) (h : OInv s fl top tk) :
    ∃ s' fl' top' tp' o' si' tk', dominolaw13_AcksOnce.l0 (q + 1 + 1 + 1) l top (i : Int) tk s fl tp o si = dominolaw13_AcksOnce.l0 q l top' ((i + 1 : Nat) : Int) tk' s' fl' tp' o' si' ∧ OInv s' fl' top' tk' := by
  have c1 : (i : Int) < (l.length : Int) := by omega
  have c2 : (0 : Int) ≤ (i : Int) := by omega
  have hx := hW l[i] (List.getElem_mem hlt)
  have e0 := rd_in l i hlt
  have hk2 : 10001 ≤ q + 1 + 1 := by omega
  obtain ⟨x, hxe⟩ : ∃ x, l[i] = x := ⟨_, rfl⟩
  rw [hxe] at hx e0
  obtain ⟨s', fl', tp', o', si', is, tk', g, t1, t2, h', hne, big⟩ := once_step h hx tp o si (i : Int) (q + 1 + 1) hk2
  have hT0 := h'.t0
  have hl' := h'.len
  have hlst := h'.lst hne
  have hone := h'.one x
  have hmay := may_set s' h'.sx q (by omega) (by omega)
  have n32 : ¬ (s'.length : Int) > 32 := by omega
  have n1 : ¬ cntT x tk' > 1 := by omega
  have q1 : s'.length ≤ 1000000 := by omega
  have q2 : i < 4611686018427387904 := by omega
  have q3 : -1 ≤ x ∧ x < 65536 := by omega
  have wx : IntKind.u64.wrap x = x := u64_small hx
  have wx2 : wrap64 x = x := w64_small q3
  have wT : wrap64 (mx top x) = mx top x := w64_small hT0
  have hL : acks_Largest.f s' fl' tp' o' si' = some (mx top x, true) := by
    unfold acks_Largest.f
    rw [top_f s' _ _ _ _ q1, dif_neg hne, hlst]
    rfl
  have k3 : dominolaw13_AcksOnce.j3 (q + 1) l top (i : Int) tk' false s' fl' tp' o' si' = dominolaw13_AcksOnce.l0 q l (mx top x) ((i + 1 : Nat) : Int) tk' s' fl' tp' o' si' := by
    rw [dominolaw13_AcksOnce.j3, if_neg (by decide), if_pos c2, if_pos c1, hL]
    simp only [Option.bind_some, if_true]
    rw [e0, wx2, wT, if_pos rfl, if_neg n32, hmay]
    simp only [Option.bind_some, if_true]
    rw [w64 i q2]
  have k2 : dominolaw13_AcksOnce.j2 (q + 1 + 1) l top (i : Int) tk' is s' fl' tp' o' si' = dominolaw13_AcksOnce.l0 q l (mx top x) ((i + 1 : Nat) : Int) tk' s' fl' tp' o' si' := by
    rw [dominolaw13_AcksOnce.j2, if_pos c2, if_pos c1, e0, if_neg n1, wx2]
    by_cases b : x > top
    · rw [if_pos b, big b]
      exact k3
    · rw [if_neg b]
      exact k3
  refine ⟨s', fl', mx top x, tp', o', si', tk', ?_, h'⟩
  rw [dominolaw13_AcksOnce.l0, if_pos c1, if_pos c2, e0, wx, g]
  simp only [Option.bind_some]
  cases is with
  | true =>
    have e := t1 rfl
    subst e
    simp only [if_true]
    exact k2
  | false =>
    have e := t2 rfl
    subst e
    simp only [Bool.false_eq_true, if_false]
    exact k2
theorem once_run (l : List Int) (hl : l.length ≤ 200) (hW : ∀ x ∈ l, 0 ≤ x ∧ x < 65536) : ∀ (m i k : Nat) (s : List S44) (fl top : Int) (tk : List Int) (tp o si : Int), i + m = l.length → OInv s fl top tk → 20000 ≤ k →
    dominolaw13_AcksOnce.l0 (k + 3 * m + 1) l top (i : Int) tk s fl tp o si = some true
  | 0, i, k, s, fl, top, tk, tp, o, si, hi, h, hk => by
    have c0 : ¬ (i : Int) < (l.length : Int) := by omega
    rw [show k + 3 * 0 + 1 = k + 1 from rfl, dominolaw13_AcksOnce.l0, if_neg c0]
  | m + 1, i, k, s, fl, top, tk, tp, o, si, hi, h, hk => by
    obtain ⟨s', fl', top', tp', o', si', tk', e1, e2⟩ := once_go l hW hl i (by omega) (k + 3 * m + 1) (by omega) tp o si h
    rw [show k + 3 * (m + 1) + 1 = (k + 3 * m + 1) + 1 + 1 + 1 by omega, e1]
    exact once_run l hl hW m (i + 1) k s' fl' top' tk' tp' o' si' (by omega) e2 hk
theorem wf_u16 {a : Int} (h : (Lit.int .u16 a).wf = true) : 0 ≤ a ∧ a < 65536 := by
  simp [Lit.wf, IntKind.min, IntKind.max, IntKind.signed, IntKind.bits] at h
  omega
theorem AcksOnce : dominolaw13_AcksOnce.Pure := by
  intro l _ _ hW
  obtain ⟨K, hK⟩ : ∃ K, K = 20000 := ⟨_, rfl⟩
  have hK2 : 10001 ≤ K + 3 * l.length + 1 + 1 := by omega
  have hK3 : 20000 ≤ K := by omega
  clear hK
  refine ⟨K + 3 * l.length + 1 + 1, ?_⟩
  unfold dominolaw13_AcksOnce.f
  by_cases c : (l.length : Int) > 200
  · rw [if_pos c, dominolaw13_AcksOnce.j0, if_pos rfl, shown_f _ (by omega)]
    rfl
  · have h : OInv [] 0 (-1) [] := ⟨set_nil, by decide, fun n hn => absurd hn (in_nil n), by omega, by omega, by omega, (fun a ha => by cases ha), (fun a => by show (0 : Int) ≤ 1; omega), (fun _ => rfl), fun e => absurd rfl e⟩
    have hr := once_run l (by omega) (fun x hx => wf_u16 (hW x hx)) l.length 0 K [] 0 (-1) [] 0 0 0 (by omega) h hK3
    rw [show ((0 : Nat) : Int) = 0 from rfl] at hr
    rw [if_neg c, shown_f _ hK2, Option.bind_some, dominolaw13_AcksOnce.j0, if_neg (by decide)]
    exact hr

end Go.Proofs.Ytlcfjimgnfcdkaa.Pure
