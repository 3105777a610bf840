/- Everything that was written is told, and acknowledged, in the end. -/
import Derived.Test.YtocagkmnefkniaaPSqxx9
import Derived.Lib.Bytes
import Derived.Lib.Bytes
namespace Go.Proofs.Ytocagkmnefkniaa.Pure
open Go.RowKit Go.Proofs.Ytocagkmnefkniaa.PSqx Go.Proofs.YtocagkmnefkniaaW.PrintWords Go.Proofs.YtocagkmnefkniaaW.PrintLast
set_option linter.unusedVariables false
set_option linter.unusedSimpArgs false
/-! ### sets of ranges -/
def memR (s : List (Int × Int)) (n : Int) : Prop := ∃ r ∈ s, r.1 ≤ n ∧ n ≤ r.2
def mayR : Int → List (Int × Int) → Prop
  | _, [] => True
  | e, r :: t => r.1 ≤ r.2 ∧ e ≤ r.1 ∧ r.2 < 9223372036854775808 ∧ mayR (r.2 + 2) t
theorem memR_nil (n : Int) : ¬ memR [] n := by rintro ⟨r, h, _⟩; cases h
theorem memR_cons (r : Int × Int) (t : List (Int × Int)) (n : Int) : memR (r :: t) n ↔ (r.1 ≤ n ∧ n ≤ r.2) ∨ memR t n := by
  constructor
  · rintro ⟨q, h, h2⟩
    rcases List.mem_cons.1 h with rfl | h
    · exact Or.inl h2
    · exact Or.inr ⟨q, h, h2⟩
  · rintro (h | ⟨q, h, h2⟩)
    · exact ⟨r, List.mem_cons_self, h⟩
    · exact ⟨q, List.mem_cons_of_mem _ h, h2⟩
theorem memR_append (s t : List (Int × Int)) (n : Int) : memR (s ++ t) n ↔ memR s n ∨ memR t n := by
  induction s with
  | nil => simp [memR_nil]
  | cons r s ih => rw [List.cons_append, memR_cons, memR_cons, ih, or_assoc]
theorem mayR_le {s : List (Int × Int)} {e e' : Int} (h : mayR e s) (h' : e' ≤ e) : mayR e' s := by
  cases s with
  | nil => trivial
  | cons r t => exact ⟨h.1, by have := h.2.1; omega, h.2.2⟩
theorem mayR_low {s : List (Int × Int)} : ∀ {e : Int}, mayR e s → ∀ n, memR s n → e ≤ n ∧ n < 9223372036854775808 := by
  induction s with
  | nil => intro e _ n h; exact absurd h (memR_nil n)
  | cons r t ih =>
    intro e h n hn
    obtain ⟨h1, h2, h3, h4⟩ := h
    rcases (memR_cons r t n).1 hn with hn | hn
    · omega
    · have := ih h4 n hn; omega
theorem mayR_unique {s : List (Int × Int)} : ∀ {e e' : Int} {t : List (Int × Int)}, mayR e s → mayR e' t → (∀ n, memR s n ↔ memR t n) → s = t := by
  induction s with
  | nil =>
    intro e e' t _ ht h
    cases t with
    | nil => rfl
    | cons q t => exact absurd ((h q.1).2 ((memR_cons q t q.1).2 (Or.inl ⟨Int.le_refl _, ht.1⟩))) (memR_nil _)
  | cons r s ih =>
    intro e e' t hs ht h
    cases t with
    | nil => exact absurd ((h r.1).1 ((memR_cons r s r.1).2 (Or.inl ⟨Int.le_refl _, hs.1⟩))) (memR_nil _)
    | cons q t =>
      obtain ⟨r1, r2, r3, r4⟩ := hs
      obtain ⟨q1, q2, q3, q4⟩ := ht
      have ms : ∀ n, memR s n → r.2 + 2 ≤ n := fun n hn => (mayR_low r4 n hn).1
      have mt : ∀ n, memR t n → q.2 + 2 ≤ n := fun n hn => (mayR_low q4 n hn).1
      have e1 : r.1 = q.1 := by
        have a := (memR_cons q t r.1).1 ((h r.1).1 ((memR_cons r s r.1).2 (Or.inl ⟨Int.le_refl _, r1⟩)))
        have b := (memR_cons r s q.1).1 ((h q.1).2 ((memR_cons q t q.1).2 (Or.inl ⟨Int.le_refl _, q1⟩)))
        have c := mt r.1
        have d := ms q.1
        rcases a with a | a
        · rcases b with b | b
          · omega
          · have := d b; omega
        · have := c a
          rcases b with b | b
          · omega
          · have := d b; omega
      have e2 : r.2 = q.2 := by
        rcases Int.lt_trichotomy r.2 q.2 with c | c | c
        · have a := (memR_cons r s (r.2 + 1)).1 ((h (r.2 + 1)).2 ((memR_cons q t (r.2 + 1)).2 (Or.inl (by omega))))
          rcases a with a | a
          · omega
          · have := ms _ a; omega
        · exact c
        · have a := (memR_cons q t (q.2 + 1)).1 ((h (q.2 + 1)).1 ((memR_cons r s (q.2 + 1)).2 (Or.inl (by omega))))
          rcases a with a | a
          · omega
          · have := mt _ a; omega
      have e3 : r = q := Prod.ext e1 e2
      subst e3
      rw [ih r4 q4 (fun n => ?_)]
      constructor
      · intro hn
        rcases (memR_cons r t n).1 ((h n).1 ((memR_cons r s n).2 (Or.inr hn))) with a | a
        · have := ms n hn; omega
        · exact a
      · intro hn
        rcases (memR_cons r s n).1 ((h n).2 ((memR_cons r t n).2 (Or.inr hn))) with a | a
        · have := mt n hn; omega
        · exact a
/-! ### edges, weights, runs -/
def wtE (l : List (Int × Int)) (n : Int) : Int := match l with
  | [] => 0
  | e :: t => (if e.1 ≤ n then e.2 else 0) + wtE t n
def sumE (l : List (Int × Int)) : Int := match l with
  | [] => 0
  | e :: t => e.2 + sumE t
/-- The weight behind all edges at a, and the edges that are left. -/
def grpE (a : Int) : Int → List (Int × Int) → Int × List (Int × Int)
  | w, [] => (w, [])
  | w, e :: t => if e.1 = a then grpE a (w + e.2) t else (w, e :: t)
theorem grpE_len (a : Int) : ∀ (l : List (Int × Int)) (w : Int), (grpE a w l).2.length ≤ l.length
  | [], _ => Nat.le_refl _
  | e :: t, w => by
    rw [grpE]
    split
    · have := grpE_len a t (w + e.2); simp; omega
    · exact Nat.le_refl _
def runsE (wanted : Int → Bool) : Nat → List (Int × Int) → Int → Bool → Int → List (Int × Int)
  | 0, _, _, _, _ => []
  | _ + 1, [], _, _, _ => []
  | k + 1, e :: t, w, op, from_ =>
    let g := grpE e.1 w (e :: t)
    if wanted g.1 then (if op then runsE wanted k g.2 g.1 op from_ else runsE wanted k g.2 g.1 true e.1)
    else if op then (from_, e.1 - 1) :: runsE wanted k g.2 g.1 false from_ else runsE wanted k g.2 g.1 op from_
def sortE : List (Int × Int) → Prop
  | [] => True
  | e :: t => (∀ x ∈ t, e.1 ≤ x.1) ∧ sortE t
theorem grpE_says (a : Int) : ∀ (l : List (Int × Int)) (w : Int), sortE l → (∀ x ∈ l, a ≤ x.1) → sortE (grpE a w l).2 ∧ (∀ x ∈ (grpE a w l).2, a < x.1 ∧ x ∈ l) ∧ (grpE a w l).1 + sumE (grpE a w l).2 = w + sumE l ∧
    (∀ n, a ≤ n → (grpE a w l).1 + wtE (grpE a w l).2 n = w + wtE l n)
  | [], w, _, _ => ⟨trivial, by simp [grpE], rfl, fun _ _ => rfl⟩
  | e :: t, w, hs, ha => by
    rw [grpE]
    by_cases c : e.1 = a
    · rw [if_pos c]
      obtain ⟨h1, h2, h3, h4⟩ := grpE_says a t (w + e.2) hs.2 (fun x hx => ha x (List.mem_cons_of_mem _ hx))
      refine ⟨h1, fun x hx => ⟨(h2 x hx).1, List.mem_cons_of_mem _ (h2 x hx).2⟩, by rw [h3, sumE]; omega, fun n hn => ?_⟩
      rw [h4 n hn, wtE, if_pos (by omega)]
      omega
    · rw [if_neg c]
      have he := ha e List.mem_cons_self
      refine ⟨hs, fun x hx => ⟨?_, hx⟩, rfl, fun n _ => rfl⟩
      rcases List.mem_cons.1 hx with rfl | hx2
      · omega
      · have := hs.1 x hx2; omega
theorem wtE_low {l : List (Int × Int)} {n : Int} (h : ∀ x ∈ l, n < x.1) : wtE l n = 0 := by
  induction l with
  | nil => rfl
  | cons e t ih =>
    have := h e List.mem_cons_self
    rw [wtE, if_neg (by omega), ih (fun x hx => h x (List.mem_cons_of_mem _ hx))]
    rfl
/-- The runs: they may be, and a number is in one just where its weight is wanted. -/
theorem runsE_says (wanted : Int → Bool) (hw0 : wanted 0 = false) : ∀ (k : Nat) (l : List (Int × Int)) (w from_ lo : Int) (op : Bool), l.length < k → sortE l → (∀ x ∈ l, lo ≤ x.1 ∧ x.1 ≤ 9223372036854775808) → w + sumE l = 0 → op = wanted w → (op = true → from_ < lo) →
    mayR (if op then from_ else lo) (runsE wanted k l w op from_) ∧ ∀ n, memR (runsE wanted k l w op from_) n ↔ ((op = true → from_ ≤ n) ∧ wanted (w + wtE l n) = true)
  | 0, l, w, from_, lo, op, hk, _, _, _, _, _ => absurd hk (by omega)
  | k + 1, [], w, from_, lo, op, hk, _, _, hz, ho, _ => by
    have e : w = 0 := by simpa [sumE] using hz
    subst e
    rw [hw0] at ho
    subst ho
    refine ⟨trivial, fun n => ?_⟩
    rw [runsE]
    constructor
    · intro h; exact absurd h (memR_nil n)
    · rintro ⟨_, h⟩
      simp [wtE, hw0] at h
  | k + 1, e :: t, w, from_, lo, op, hk, hs, hb, hz, ho, hf => by
    have hlo := hb e List.mem_cons_self
    obtain ⟨g1, g2, g3, g4⟩ := grpE_says e.1 (e :: t) w hs (fun x hx => by
      rcases List.mem_cons.1 hx with rfl | hx2
      · exact Int.le_refl _
      · exact hs.1 x hx2)
    have hgl : (grpE e.1 w (e :: t)).2.length < k := by
      have h := grpE_len e.1 t (w + e.2)
      rw [grpE, if_pos rfl]
      simp at hk
      omega
    have hb2 : ∀ x ∈ (grpE e.1 w (e :: t)).2, e.1 + 1 ≤ x.1 ∧ x.1 ≤ 9223372036854775808 := fun x hx => ⟨by have := (g2 x hx).1; omega, (hb x (g2 x hx).2).2⟩
    have hlow : ∀ n, n < e.1 → wtE (e :: t) n = 0 := fun n hn => wtE_low (fun x hx => by
      rcases List.mem_cons.1 hx with rfl | hx2
      · exact hn
      · have := hs.1 x hx2; omega)
    have hlow2 : ∀ n, n ≤ e.1 → wtE (grpE e.1 w (e :: t)).2 n = 0 := fun n hn => wtE_low (fun x hx => by have := (g2 x hx).1; omega)
    rw [runsE]
    generalize grpE e.1 w (e :: t) = g at *
    have ih := fun f o (h1 : o = wanted g.1) (h2 : o = true → f < e.1 + 1) => runsE_says wanted hw0 k g.2 g.1 f (e.1 + 1) o hgl g1 hb2 (by omega) h1 h2
    have lowW : ∀ n, n < e.1 → wanted (w + wtE (e :: t) n) = op := fun n hn => by rw [hlow n hn, ho]; simp
    have hiW : ∀ n, e.1 ≤ n → wanted (w + wtE (e :: t) n) = wanted (g.1 + wtE g.2 n) := fun n hn => by rw [g4 n hn]
    by_cases c : wanted g.1 = true
    · rw [if_pos c]
      cases op with
      | true =>
        simp only [if_true]
        have hf := hf rfl
        obtain ⟨m1, m2⟩ := ih from_ true c.symm (fun _ => by omega)
        refine ⟨m1, fun n => ?_⟩
        rw [m2 n]
        by_cases hn : e.1 ≤ n
        · rw [hiW n hn]
          simp
        · rw [lowW n (by omega), hlow2 n (by omega)]
          simp [c]
      | false =>
        simp only [Bool.false_eq_true, if_false]
        obtain ⟨m1, m2⟩ := ih e.1 true c.symm (fun _ => by omega)
        refine ⟨mayR_le m1 hlo.1, fun n => ?_⟩
        rw [m2 n]
        by_cases hn : e.1 ≤ n
        · rw [hiW n hn]
          simp [hn]
        · rw [lowW n (by omega)]
          simp [hn]
    · rw [if_neg c]
      have c' : false = wanted g.1 := by simpa using c
      cases op with
      | true =>
        simp only [if_true]
        have hf := hf rfl
        obtain ⟨m1, m2⟩ := ih from_ false c' (fun h => by cases h)
        simp only [Bool.false_eq_true, if_false] at m1
        refine ⟨⟨by show from_ ≤ e.1 - 1; omega, Int.le_refl _, by show e.1 - 1 < _; omega, mayR_le m1 (by show e.1 - 1 + 2 ≤ _; omega)⟩, fun n => ?_⟩
        rw [memR_cons, m2 n]
        by_cases hn : e.1 ≤ n
        · rw [hiW n hn]
          constructor
          · rintro (h | h)
            · have : n ≤ e.1 - 1 := h.2; omega
            · exact ⟨fun _ => by omega, h.2⟩
          · rintro ⟨_, h⟩
            exact Or.inr ⟨(fun h => by cases h), h⟩
        · rw [lowW n (by omega), hlow2 n (by omega)]
          constructor
          · rintro (h | h)
            · exact ⟨fun _ => h.1, rfl⟩
            · have := h.2; rw [Int.add_zero, ← c'] at this; cases this
          · rintro ⟨h, _⟩
            exact Or.inl ⟨h trivial, by show n ≤ e.1 - 1; omega⟩
      | false =>
        simp only [Bool.false_eq_true, if_false]
        obtain ⟨m1, m2⟩ := ih from_ false c' (fun h => by cases h)
        simp only [Bool.false_eq_true, if_false] at m1
        refine ⟨mayR_le m1 (by omega), fun n => ?_⟩
        rw [m2 n]
        by_cases hn : e.1 ≤ n
        · rw [hiW n hn]
          simp
        · rw [lowW n (by omega), hlow2 n (by omega), Int.add_zero, ← c']
          simp
open Go.Proofs.YtocagkmnefkniaaR
/-! ### edges of a list of ranges; what is swept -/
def rg (x : S67) : Int × Int := (x.f0, x.f1)
theorem wtE_perm {l l' : List (Int × Int)} (h : l.Perm l') (n : Int) : wtE l n = wtE l' n := by
  induction h with
  | nil => rfl
  | cons x _ ih => rw [wtE, wtE, ih]
  | swap x y l => rw [wtE, wtE, wtE, wtE]; omega
  | trans _ _ h1 h2 => exact h1.trans h2
theorem sumE_perm {l l' : List (Int × Int)} (h : l.Perm l') : sumE l = sumE l' := by
  induction h with
  | nil => rfl
  | cons x _ ih => rw [sumE, sumE, ih]
  | swap x y l => rw [sumE, sumE, sumE, sumE]; omega
  | trans _ _ h1 h2 => exact h1.trans h2
theorem wtE_app (a b : List (Int × Int)) (n : Int) : wtE (a ++ b) n = wtE a n + wtE b n := by
  induction a with
  | nil => simp [wtE]
  | cons x a ih => rw [List.cons_append, wtE, wtE, ih]; omega
theorem sumE_app (a b : List (Int × Int)) : sumE (a ++ b) = sumE a + sumE b := by
  induction a with
  | nil => simp [sumE]
  | cons x a ih => rw [List.cons_append, sumE, sumE, ih]; omega
theorem grpW_eq (a : Int) : ∀ (l : List (Int × Int)) (w : Int), (∀ e ∈ l, -1 ≤ e.2 ∧ e.2 ≤ 1) → -1099511627776 ≤ w - l.length → w + l.length ≤ 1099511627776 → grpW a w l = grpE a w l ∧ -1099511627776 ≤ (grpE a w l).1 - (grpE a w l).2.length ∧ (grpE a w l).1 + (grpE a w l).2.length ≤ 1099511627776
  | [], w, _, h1, h2 => ⟨rfl, h1, h2⟩
  | e :: t, w, hb, h1, h2 => by
    have he := hb e List.mem_cons_self
    simp only [List.length_cons] at h1 h2
    rw [grpW, grpE]
    by_cases c : e.1 = a
    · have hw : wrap64 (w + e.2) = w + e.2 := by unfold wrap64; omega
      rw [if_pos c, if_pos c, hw]
      exact grpW_eq a t (w + e.2) (fun x hx => hb x (List.mem_cons_of_mem _ hx)) (by omega) (by omega)
    · rw [if_neg c, if_neg c]
      exact ⟨rfl, by simp only [List.length_cons]; omega, by simp only [List.length_cons]; omega⟩
theorem runsW_eq (wanted : Int → Bool) : ∀ (k : Nat) (l : List (Int × Int)) (w fr : Int) (op : Bool), (∀ e ∈ l, (-1 ≤ e.2 ∧ e.2 ≤ 1) ∧ 0 ≤ e.1 ∧ e.1 ≤ 9223372036854775808) → sortE l → -1099511627776 ≤ w - l.length → w + l.length ≤ 1099511627776 → (op = true → ∀ e ∈ l, 1 ≤ e.1) →
    runsW wanted k l w op fr = runsE wanted k l w op fr
  | 0, _, _, _, _, _, _, _, _, _ => rfl
  | _ + 1, [], _, _, _, _, _, _, _, _ => rfl
  | k + 1, e :: t, w, fr, op, hb, hs, h1, h2, ho => by
    obtain ⟨g1, g2, g3⟩ := grpW_eq e.1 (e :: t) w (fun x hx => (hb x hx).1) h1 h2
    obtain ⟨s1, s2, _, _⟩ := grpE_says e.1 (e :: t) w hs (fun x hx => by
      rcases List.mem_cons.1 hx with rfl | hx2
      · exact Int.le_refl _
      · exact hs.1 x hx2)
    have he := hb e List.mem_cons_self
    rw [runsW, runsE, g1]
    generalize grpE e.1 w (e :: t) = g at *
    have ih := fun f o ho => runsW_eq wanted k g.2 g.1 f o (fun x hx => hb x (s2 x hx).2) s1 g2 g3 ho
    have hlt : ∀ x ∈ g.2, 1 ≤ x.1 := fun x hx => by have := (s2 x hx).1; omega
    by_cases c : wanted g.1 = true
    · simp only [c, if_true]
      cases op with
      | true => simp only [if_true]; exact ih _ _ (fun _ => hlt)
      | false => simp only [Bool.false_eq_true, if_false]; exact ih _ _ (fun _ => hlt)
    · simp only [c]
      cases op with
      | true =>
        have h3 := ho rfl e List.mem_cons_self
        have hw : IntKind.u64.wrap (e.1 - 1) = e.1 - 1 := by rw [IntKind.wrap_u64]; omega
        simp only [if_true, hw, Bool.false_eq_true, if_false]
        rw [ih fr false (fun h => by cases h)]
      | false => simp only [Bool.false_eq_true, if_false]; exact ih _ _ (fun h => by cases h)
theorem sortE_of (l : List (Int × Int)) (h : ∀ i j, i < j → j < l.length → l.toArray[i]!.1 ≤ l.toArray[j]!.1) : sortE l := by
  induction l with
  | nil => trivial
  | cons e t ih =>
    refine ⟨fun x hx => ?_, ih fun i j hij hj => ?_⟩
    · obtain ⟨j, hj, rfl⟩ := List.getElem_of_mem hx
      have := h 0 (j + 1) (by omega) (by simp; omega)
      simpa [hj] using this
    · have := h (i + 1) (j + 1) (by omega) (by simp; omega)
      have hi : i < t.length := by omega
      simpa [hj, hi] using this
theorem sortF_sorted (l : List (Int × Int)) : sortE (sortF l) := by
  obtain ⟨_, hl, hs⟩ := sortF_says l
  refine sortE_of _ fun i j hij hj => ?_
  have h := hs i j (Nat.zero_le _) hij (by omega)
  rw [ltE] at h
  simpa using h
theorem ofR_rg (l : List (Int × Int)) : (l.map ofR).map rg = l := by
  rw [List.map_map]
  exact List.map_id l
/-- What is swept may be, and a number is in it just where its weight is wanted. -/
theorem sweep_says (wanted : Int → Bool) (hw0 : wanted 0 = false) (es : List S90) (hl : es.length ≤ 549755813888) (hb : ∀ e ∈ es, (-1 ≤ e.f1 ∧ e.f1 ≤ 1) ∧ 0 ≤ e.f0 ∧ e.f0 ≤ 9223372036854775808) (hz : sumE (es.map toE) = 0) :
    mayR 0 ((sweepF wanted es).map rg) ∧ (∀ n, memR ((sweepF wanted es).map rg) n ↔ wanted (wtE (es.map toE) n) = true) ∧ (sweepF wanted es).length ≤ es.length := by
  obtain ⟨hp, hlen, _⟩ := sortF_says (es.map toE)
  rw [List.length_map] at hlen
  have hb2 : ∀ e ∈ sortF (es.map toE), (-1 ≤ e.2 ∧ e.2 ≤ 1) ∧ 0 ≤ e.1 ∧ e.1 ≤ 9223372036854775808 := fun e he => by
    have h := hp.mem_iff.1 he
    obtain ⟨x, hx, rfl⟩ := List.mem_map.1 h
    exact hb x hx
  have e1 : (sweepF wanted es).map rg = runsE wanted ((sortF (es.map toE)).length + 1) (sortF (es.map toE)) 0 false 0 := by
    unfold sweepF
    rw [ofR_rg]
    exact runsW_eq wanted _ _ 0 0 false hb2 (sortF_sorted _) (by omega) (by omega) (fun h => by cases h)
  obtain ⟨m1, m2⟩ := runsE_says wanted hw0 ((sortF (es.map toE)).length + 1) (sortF (es.map toE)) 0 0 0 false (by omega) (sortF_sorted _) (fun x hx => (hb2 x hx).2) (by rw [sumE_perm hp, hz]; rfl) hw0.symm (fun h => by cases h)
  rw [e1]
  refine ⟨m1, fun n => ?_, ?_⟩
  · rw [m2 n, wtE_perm hp, Int.zero_add]
    simp
  · have h := allW_len wanted (sortF (es.map toE))
    unfold sweepF
    rw [List.length_map]
    omega
/-- The edges of ranges. -/
def edgL (b : Int) : List S67 → List S90
  | [] => []
  | r :: t => if r.f1 < r.f0 then edgL b t else ⟨r.f0, b⟩ :: ⟨r.f1 + 1, -b⟩ :: edgL b t
/-- How many ranges have a number. -/
def cntR (s : List (Int × Int)) (n : Int) : Int := match s with
  | [] => 0
  | r :: t => (if r.1 ≤ n ∧ n ≤ r.2 then 1 else 0) + cntR t n
def lowS (s : List S67) : Prop := ∀ x ∈ s, (0 ≤ x.f0 ∧ x.f0 < 9223372036854775808) ∧ 0 ≤ x.f1 ∧ x.f1 < 9223372036854775808
theorem edgL_says (b : Int) (hb : -1 ≤ b ∧ b ≤ 1) : ∀ s : List S67, lowS s → (∀ e ∈ edgL b s, (-1 ≤ e.f1 ∧ e.f1 ≤ 1) ∧ 0 ≤ e.f0 ∧ e.f0 ≤ 9223372036854775808) ∧ sumE ((edgL b s).map toE) = 0 ∧ (∀ n, wtE ((edgL b s).map toE) n = b * cntR (s.map rg) n) ∧ (edgL b s).length ≤ 2 * s.length
  | [], _ => ⟨by simp [edgL], rfl, fun n => by simp [edgL, wtE, cntR], Nat.le_refl _⟩
  | r :: t, h => by
    obtain ⟨h1, h2, h3, h4⟩ := edgL_says b hb t (fun x hx => h x (List.mem_cons_of_mem _ hx))
    have hr := h r List.mem_cons_self
    rw [edgL]
    by_cases c : r.f1 < r.f0
    · rw [if_pos c]
      refine ⟨h1, h2, fun n => ?_, by simp; omega⟩
      have hn : ¬ ((rg r).1 ≤ n ∧ n ≤ (rg r).2) := fun ⟨a, b⟩ => by have a' : r.f0 ≤ n := a; have b' : n ≤ r.f1 := b; omega
      rw [h3 n, List.map_cons, cntR, if_neg hn, Int.zero_add]
    · rw [if_neg c]
      refine ⟨fun e he => ?_, ?_, fun n => ?_, by simp; omega⟩
      · rcases List.mem_cons.1 he with rfl | he
        · exact ⟨hb, by show 0 ≤ r.f0 ∧ r.f0 ≤ _; omega⟩
        · rcases List.mem_cons.1 he with rfl | he
          · exact ⟨⟨by show -1 ≤ -b; omega, by show -b ≤ 1; omega⟩, by show 0 ≤ r.f1 + 1 ∧ r.f1 + 1 ≤ _; omega⟩
          · exact h1 e he
      · show b + (-b + sumE _) = 0
        rw [h2]
        omega
      · show (if r.f0 ≤ n then b else 0) + ((if r.f1 + 1 ≤ n then -b else 0) + wtE ((edgL b t).map toE) n) = b * ((if r.f0 ≤ n ∧ n ≤ r.f1 then 1 else 0) + cntR (t.map rg) n)
        rw [h3 n, Int.mul_add]
        by_cases c1 : r.f0 ≤ n
        · by_cases c2 : n ≤ r.f1
          · rw [if_pos c1, if_neg (by omega), if_pos ⟨c1, c2⟩]
            omega
          · rw [if_pos c1, if_pos (by omega), if_neg (fun x => c2 x.2)]
            omega
        · rw [if_neg c1, if_neg (by omega), if_neg (fun x => c1 x.1)]
          omega
theorem cntR_nn : ∀ (s : List (Int × Int)) (n : Int), 0 ≤ cntR s n
  | [], _ => Int.le_refl _
  | r :: t, n => by
    have := cntR_nn t n
    rw [cntR]
    split <;> omega
theorem cntR_pos : ∀ (s : List (Int × Int)) (n : Int), 0 < cntR s n ↔ memR s n
  | [], n => ⟨fun h => absurd h (by simp [cntR]), fun h => absurd h (memR_nil n)⟩
  | r :: t, n => by
    have h := cntR_nn t n
    rw [cntR, memR_cons, ← cntR_pos t n]
    by_cases c : r.1 ≤ n ∧ n ≤ r.2
    · rw [if_pos c]
      exact ⟨fun _ => Or.inl c, fun _ => by omega⟩
    · rw [if_neg c, Int.zero_add]
      exact ⟨Or.inr, fun x => x.elim (fun y => absurd y c) id⟩
/-- In a set a number is once, or not at all. -/
theorem cntR_set {s : List (Int × Int)} : ∀ {e : Int}, mayR e s → ∀ n, (memR s n ∧ cntR s n = 1) ∨ (¬ memR s n ∧ cntR s n = 0) := by
  induction s with
  | nil => exact fun _ n => Or.inr ⟨memR_nil n, rfl⟩
  | cons r t ih =>
    intro e h n
    obtain ⟨h1, h2, h3, h4⟩ := h
    rw [cntR, memR_cons]
    rcases ih h4 n with ⟨a, b⟩ | ⟨a, b⟩
    · have := (mayR_low h4 n a).1
      rw [if_neg (by omega), b]
      exact Or.inl ⟨Or.inr a, rfl⟩
    · rw [b]
      by_cases c : r.1 ≤ n ∧ n ≤ r.2
      · rw [if_pos c]
        exact Or.inl ⟨Or.inl c, rfl⟩
      · rw [if_neg c]
        exact Or.inr ⟨fun x => x.elim c a, rfl⟩
theorem mayR_lowS {s : List S67} (h : mayR 0 (s.map rg)) : lowS s := by
  have go : ∀ (s : List S67) (e : Int), 0 ≤ e → mayR e (s.map rg) → lowS s := by
    intro s
    induction s with
    | nil => exact fun _ _ _ x hx => by cases hx
    | cons r t ih =>
      intro e he h x hx
      obtain ⟨h1, h2, h3, h4⟩ := h
      have h1' : r.f0 ≤ r.f1 := h1
      have h2' : e ≤ r.f0 := h2
      have h3' : r.f1 < 9223372036854775808 := h3
      rcases List.mem_cons.1 hx with rfl | hx
      · omega
      · exact ih (r.f1 + 2) (by omega) h4 x hx
  exact go s 0 (Int.le_refl _) h
/-! ### the program's functions -/
theorem w64 (i : Nat) (h : i < 4611686018427387904) : wrap64 ((i : Int) + 1) = ((i + 1 : Nat) : Int) := by unfold wrap64; omega
theorem rd_at (l : List S67) (i : Nat) (h : i < l.length) : rd_T67 l (i : Int) = l[i] := by
  unfold rd_T67
  rw [Int.toNat_natCast]
  simp [List.getD_eq_getElem?_getD, h]
theorem empty_f (a b : Int) : ranges_Range_empty.f a b = some (decide (b < a)) := rfl
theorem edges_run (b : Int) (hb : b = 1 ∨ b = -1) (l : List S67) (hs : lowS l) (hl : l.length ≤ 1000000) : ∀ (m i k : Nat) (acc : List S90), i + m = l.length → acc.length + 2 * m ≤ 10000000 →
    ranges_edges.l0 (k + m + 1) b acc l (l.length : Int) (i : Int) = some (acc ++ edgL b (l.drop i)) := by
  intro m
  induction m with
  | zero =>
    intro i k acc hi _
    rw [ranges_edges.l0, if_neg (by omega), List.drop_of_length_le (by omega), edgL, List.append_nil]
  | succ m ih =>
    intro i k acc hi ha
    have hlt : i < l.length := by omega
    have hx := hs l[i] (List.getElem_mem hlt)
    rw [show k + (m + 1) + 1 = (k + m + 1) + 1 by omega, ranges_edges.l0, if_pos (by omega), if_pos (by omega), if_pos (by omega), rd_at l i hlt, empty_f, Option.bind_some, List.drop_eq_getElem_cons hlt, edgL, w64 i (by omega)]
    by_cases c : l[i].f1 < l[i].f0
    · rw [if_pos (decide_eq_true c), if_pos c]
      exact ih (i + 1) k acc (by omega) (by omega)
    · have hw : IntKind.u64.wrap (l[i].f1 + 1) = l[i].f1 + 1 := by rw [IntKind.wrap_u64]; omega
      have hn : wrap64 (-b) = -b := by rcases hb with rfl | rfl <;> (unfold wrap64; omega)
      rw [if_neg (by simpa using c), if_neg c, Option.bind_some, if_pos (by simp; omega), hw, hn, ih (i + 1) k _ (by omega) (by simp; omega)]
      simp
theorem edges_f (b : Int) (hb : b = 1 ∨ b = -1) (l : List S67) (hs : lowS l) (k : Nat) (hl : l.length ≤ 1000000) (hk : l.length < k) : ranges_edges.f k l b = some (edgL b l) := by
  have h := edges_run b hb l hs hl l.length 0 (k - l.length - 1) [] (by omega) (by simp; omega)
  rw [show k - l.length - 1 + l.length + 1 = k by omega] at h
  exact h
def addL (s : List S67) (r : S67) : List S67 := sweepF wantPos (edgL 1 s ++ edgL 1 [r])
def cutL (s : List S67) (r : S67) : List S67 := sweepF (wantIs 1) (edgL 1 s ++ edgL (-1) [r])
def gapsL (s : List S67) (r : S67) : List S67 := sweepF (wantIs 1) (edgL 1 [r] ++ edgL (-1) s)
/-- What a set is: in order, parted, below the top. -/
def Set_ (s : List S67) : Prop := mayR 0 (s.map rg)
def In (s : List S67) (n : Int) : Prop := memR (s.map rg) n
def lowR (r : S67) : Prop := (0 ≤ r.f0 ∧ r.f0 < 9223372036854775808) ∧ 0 ≤ r.f1 ∧ r.f1 < 9223372036854775808
theorem low_one {r : S67} (h : lowR r) : lowS [r] := fun x hx => by
  rcases List.mem_cons.1 hx with rfl | hx
  · exact h
  · cases hx
theorem in_one (r : S67) (n : Int) : memR ([r].map rg) n ↔ r.f0 ≤ n ∧ n ≤ r.f1 := by
  show memR [rg r] n ↔ _
  rw [memR_cons]
  exact ⟨fun h => h.elim id (fun h => absurd h (memR_nil n)), Or.inl⟩
theorem cnt_one (r : S67) (n : Int) : cntR ([r].map rg) n = if r.f0 ≤ n ∧ n ≤ r.f1 then 1 else 0 := by
  show cntR [rg r] n = _
  rw [cntR, cntR]
  exact Int.add_zero _
theorem sweep2 (wanted : Int → Bool) (hw : wanted 0 = false) (a b : List S67) (x y : Int) (hx : -1 ≤ x ∧ x ≤ 1) (hy : -1 ≤ y ∧ y ≤ 1) (ha : lowS a) (hb : lowS b) (la : a.length ≤ 1000000) (lb : b.length ≤ 1000000) :
    Set_ (sweepF wanted (edgL x a ++ edgL y b)) ∧ (∀ n, In (sweepF wanted (edgL x a ++ edgL y b)) n ↔ wanted (x * cntR (a.map rg) n + y * cntR (b.map rg) n) = true) ∧ (sweepF wanted (edgL x a ++ edgL y b)).length ≤ 2 * (a.length + b.length) := by
  obtain ⟨a1, a2, a3, a4⟩ := edgL_says x hx a ha
  obtain ⟨b1, b2, b3, b4⟩ := edgL_says y hy b hb
  obtain ⟨s1, s2, s3⟩ := sweep_says wanted hw (edgL x a ++ edgL y b) (by rw [List.length_append]; omega) (fun e he => (List.mem_append.1 he).elim (a1 e) (b1 e)) (by rw [List.map_append, sumE_app, a2, b2]; rfl)
  refine ⟨s1, fun n => ?_, by rw [List.length_append] at s3; omega⟩
  refine (s2 n).trans ?_
  rw [List.map_append, wtE_app, a3, b3]
theorem edgL_nil (b : Int) : edgL b [] = [] := rfl
theorem addL_says (s : List S67) (r : S67) (h : lowS s) (hr : lowR r) (hl : s.length ≤ 999999) : Set_ (addL s r) ∧ (∀ n, In (addL s r) n ↔ In s n ∨ (r.f0 ≤ n ∧ n ≤ r.f1)) ∧ (addL s r).length ≤ 2 * s.length + 2 := by
  obtain ⟨s1, s2, s3⟩ := sweep2 wantPos rfl s [r] 1 1 (by decide) (by decide) h (low_one hr) (by omega) (by simp)
  refine ⟨s1, fun n => (s2 n).trans ?_, by show (sweepF wantPos (edgL 1 s ++ edgL 1 [r])).length ≤ _; simpa [Nat.mul_add] using s3⟩
  have h1 := cntR_nn (s.map rg) n
  have h2 := cntR_nn ([r].map rg) n
  show decide (0 < _) = true ↔ _
  rw [decide_eq_true_iff]
  have e1 := cntR_pos (s.map rg) n
  have e2 := (cntR_pos ([r].map rg) n).trans (in_one r n)
  show _ ↔ memR (s.map rg) n ∨ _
  rw [← e1, ← e2]
  omega
theorem is_iff (m x : Int) : wantIs m x = true ↔ x = m := by unfold wantIs; exact beq_iff_eq
theorem cutL_says (s : List S67) (r : S67) (h : Set_ s) (hr : lowR r) (hl : s.length ≤ 999999) : Set_ (cutL s r) ∧ (∀ n, In (cutL s r) n ↔ In s n ∧ ¬ (r.f0 ≤ n ∧ n ≤ r.f1)) ∧ (cutL s r).length ≤ 2 * s.length + 2 := by
  obtain ⟨s1, s2, s3⟩ := sweep2 (wantIs 1) rfl s [r] 1 (-1) (by decide) (by decide) (mayR_lowS h) (low_one hr) (by omega) (by simp)
  refine ⟨s1, fun n => (s2 n).trans ?_, by show (sweepF (wantIs 1) (edgL 1 s ++ edgL (-1) [r])).length ≤ _; simpa [Nat.mul_add] using s3⟩
  rw [is_iff, cnt_one]
  show _ ↔ memR (s.map rg) n ∧ _
  rcases cntR_set h n with ⟨a, b⟩ | ⟨a, b⟩
  · rw [b]
    by_cases c : r.f0 ≤ n ∧ n ≤ r.f1
    · rw [if_pos c]
      exact ⟨fun x => by omega, fun x => absurd c x.2⟩
    · rw [if_neg c]
      exact ⟨fun _ => ⟨a, c⟩, fun _ => rfl⟩
  · rw [b]
    refine ⟨fun x => ?_, fun x => absurd x.1 a⟩
    split at x <;> omega
theorem gapsL_says (s : List S67) (r : S67) (h : Set_ s) (hr : lowR r) (hl : s.length ≤ 999999) : Set_ (gapsL s r) ∧ (∀ n, In (gapsL s r) n ↔ (r.f0 ≤ n ∧ n ≤ r.f1) ∧ ¬ In s n) ∧ (gapsL s r).length ≤ 2 * s.length + 2 := by
  obtain ⟨s1, s2, s3⟩ := sweep2 (wantIs 1) rfl [r] s 1 (-1) (by decide) (by decide) (low_one hr) (mayR_lowS h) (by simp) (by omega)
  refine ⟨s1, fun n => (s2 n).trans ?_, by show (sweepF (wantIs 1) (edgL 1 [r] ++ edgL (-1) s)).length ≤ _; simp at s3; omega⟩
  rw [is_iff, cnt_one]
  show _ ↔ _ ∧ ¬ memR (s.map rg) n
  rcases cntR_set h n with ⟨a, b⟩ | ⟨a, b⟩
  · rw [b]
    refine ⟨fun x => ?_, fun x => absurd a x.2⟩
    split at x <;> omega
  · rw [b]
    by_cases c : r.f0 ≤ n ∧ n ≤ r.f1
    · rw [if_pos c]
      exact ⟨fun _ => ⟨c, a⟩, fun _ => rfl⟩
    · rw [if_neg c]
      exact ⟨fun x => by omega, fun x => absurd x.1 c⟩
theorem add_f (s : List S67) (r : S67) (hs : lowS s) (hr : lowR r) (k : Nat) (hl : s.length ≤ 100000) (hk : s.length + 1 < k) : ranges_Add.f k s r.f0 r.f1 = some (addL s r) := by
  have h := (edgL_says 1 (by decide) s hs).2.2.2
  have h2 := (edgL_says 1 (by decide) [r] (low_one hr)).2.2.2
  simp at h2
  unfold ranges_Add.f
  rw [edges_f 1 (Or.inl rfl) s hs k (by omega) (by omega), Option.bind_some, edges_f 1 (Or.inl rfl) [r] (low_one hr) k (by simp) (by simp; omega), Option.bind_some, if_pos (by omega)]
  rfl
theorem cut_f (s : List S67) (r : S67) (hs : lowS s) (hr : lowR r) (k : Nat) (hl : s.length ≤ 100000) (hk : s.length + 1 < k) : ranges_Cut.f k s r.f0 r.f1 = some (cutL s r) := by
  have h := (edgL_says 1 (by decide) s hs).2.2.2
  have h2 := (edgL_says (-1) (by decide) [r] (low_one hr)).2.2.2
  simp at h2
  unfold ranges_Cut.f
  rw [edges_f 1 (Or.inl rfl) s hs k (by omega) (by omega), Option.bind_some, edges_f (-1) (Or.inr rfl) [r] (low_one hr) k (by simp) (by simp; omega), Option.bind_some, if_pos (by omega)]
  rfl
theorem gaps_f (s : List S67) (r : S67) (hs : lowS s) (hr : lowR r) (k : Nat) (hl : s.length ≤ 100000) (hk : s.length + 1 < k) : ranges_Gaps.f k s r.f0 r.f1 = some (gapsL s r) := by
  have h := (edgL_says (-1) (by decide) s hs).2.2.2
  have h2 := (edgL_says 1 (by decide) [r] (low_one hr)).2.2.2
  simp at h2
  unfold ranges_Gaps.f
  rw [edges_f 1 (Or.inl rfl) [r] (low_one hr) k (by simp) (by simp; omega), Option.bind_some, edges_f (-1) (Or.inr rfl) s hs k (by omega) (by omega), Option.bind_some, if_pos (by omega)]
  rfl
/-! May, Has, Count -/
/-! ### Has, Count, what the laws use -/
theorem rg_inj {x y : S67} (h : rg x = rg y) : x = y := by
  obtain ⟨a, b⟩ := x
  obtain ⟨c, d⟩ := y
  injection h with h1 h2
  subst h1
  subst h2
  rfl
theorem map_rg_inj : ∀ {s t : List S67}, s.map rg = t.map rg → s = t
  | [], [], _ => rfl
  | [], _ :: _, h => by cases h
  | _ :: _, [], h => by cases h
  | x :: s, y :: t, h => by
    injection h with h1 h2
    rw [rg_inj h1, map_rg_inj h2]
/-- Sets with the same numbers are the same. -/
theorem set_unique {s t : List S67} (hs : Set_ s) (ht : Set_ t) (h : ∀ n, In s n ↔ In t n) : s = t := map_rg_inj (mayR_unique hs ht h)
def inB (s : List S67) (n : Int) : Bool := s.any fun r => decide (r.f0 ≤ n) && decide (n ≤ r.f1)
theorem inB_iff (s : List S67) (n : Int) : inB s n = true ↔ In s n := by
  unfold inB In
  induction s with
  | nil => exact ⟨(fun h => by cases h), fun h => absurd h (memR_nil n)⟩
  | cons r t ih =>
    rw [List.any_cons, Bool.or_eq_true, List.map_cons, memR_cons, ih]
    simp [rg]
theorem inB_of {s t : List S67} {n : Int} (h : In s n ↔ In t n) : inB s n = inB t n := by
  rw [Bool.eq_iff_iff, inB_iff, inB_iff]
  exact h
theorem wf_u64 {a : Int} (h : (Lit.int .u64 a).wf = true) : 0 ≤ a ∧ a < 18446744073709551616 := by
  simp [Lit.wf, IntKind.min, IntKind.max, IntKind.signed, IntKind.bits] at h
  omega
theorem set_ne {s : List S67} : ∀ {e : Int}, mayR e (s.map rg) → ∀ i (hi : i < s.length), s[i].f0 ≤ s[i].f1 := by
  induction s with
  | nil => intro e _ i hi; simp at hi
  | cons r t ih =>
    intro e h i hi
    match i, hi with
    | 0, _ => exact h.1
    | i + 1, hi => exact ih h.2.2.2 i (by simpa using hi)
open Go.Proofs.YtocagkmnefkniaaR
/-! ### sets that are told by what is in them -/
theorem low_of_set {s : List S67} (h : Set_ s) : lowS s := mayR_lowS h
theorem set_one {a b : Int} (h : 0 ≤ a) (h1 : a ≤ b) (h2 : b < 9223372036854775808) : Set_ [(⟨a, b⟩ : S67)] := ⟨h1, h, h2, trivial⟩
theorem set_nil : Set_ [] := trivial
theorem in_r (a b n : Int) : In [(⟨a, b⟩ : S67)] n ↔ a ≤ n ∧ n ≤ b := in_one ⟨a, b⟩ n
theorem in_nil (n : Int) : ¬ In [] n := memR_nil n
theorem low_r {a b : Int} (h : 0 ≤ a ∧ a < 4611686018427387904) (h2 : 0 ≤ b ∧ b < 4611686018427387904) : lowR (⟨a, b⟩ : S67) := ⟨⟨h.1, by show a < _; omega⟩, h2.1, by show b < _; omega⟩
theorem add_eq {s t : List S67} {a b : Int} (hs : Set_ s) (hr : lowR ⟨a, b⟩) (hl : s.length ≤ 99999) (ht : Set_ t) (e : ∀ n, In t n ↔ In s n ∨ (a ≤ n ∧ n ≤ b)) (k : Nat) (hk : s.length + 1 < k) : ranges_Add.f k s a b = some t := by
  obtain ⟨h1, h2, _⟩ := addL_says s ⟨a, b⟩ (low_of_set hs) hr (by omega)
  rw [← set_unique h1 ht (fun n => (h2 n).trans (e n).symm)]
  exact add_f s ⟨a, b⟩ (low_of_set hs) hr k (by omega) hk
theorem cut_eq {s t : List S67} {a b : Int} (hs : Set_ s) (hr : lowR ⟨a, b⟩) (hl : s.length ≤ 99999) (ht : Set_ t) (e : ∀ n, In t n ↔ In s n ∧ ¬ (a ≤ n ∧ n ≤ b)) (k : Nat) (hk : s.length + 1 < k) : ranges_Cut.f k s a b = some t := by
  obtain ⟨h1, h2, _⟩ := cutL_says s ⟨a, b⟩ hs hr (by omega)
  rw [← set_unique h1 ht (fun n => (h2 n).trans (e n).symm)]
  exact cut_f s ⟨a, b⟩ (low_of_set hs) hr k (by omega) hk
theorem gaps_eq {s t : List S67} {a b : Int} (hs : Set_ s) (hr : lowR ⟨a, b⟩) (hl : s.length ≤ 99999) (ht : Set_ t) (e : ∀ n, In t n ↔ (a ≤ n ∧ n ≤ b) ∧ ¬ In s n) (k : Nat) (hk : s.length + 1 < k) : ranges_Gaps.f k s a b = some t := by
  obtain ⟨h1, h2, _⟩ := gapsL_says s ⟨a, b⟩ hs hr (by omega)
  rw [← set_unique h1 ht (fun n => (h2 n).trans (e n).symm)]
  exact gaps_f s ⟨a, b⟩ (low_of_set hs) hr k (by omega) hk
theorem wrap_u64 {n : Int} (h : 0 ≤ n ∧ n < 18446744073709551616) : IntKind.u64.wrap n = n := by rw [IntKind.wrap_u64]; omega
theorem wf_u8 {a : Int} (h : (Lit.int .u8 a).wf = true) : 0 ≤ a ∧ a < 256 := by
  simp [Lit.wf, IntKind.min, IntKind.max, IntKind.signed, IntKind.bits] at h
  omega
theorem wf_i64 {a : Int} (h : (Lit.int .i64 a).wf = true) : -9223372036854775808 ≤ a ∧ a < 9223372036854775808 := by
  simp [Lit.wf, IntKind.min, IntKind.max, IntKind.signed, IntKind.bits] at h
  omega
theorem end_f (b t : Int) (d : ByteArray) (x y : List S67) (f g h : Bool) (hb : 0 ≤ b ∧ b < 4611686018427387904) (hd : d.size < 4611686018427387904) : sendq_State_end.f b t d x y f g h = some (b + (d.size : Int)) := by
  unfold sendq_State_end.f
  rw [wrap_u64 (n := (d.size : Int)) (by omega), wrap_u64 (by omega)]
open Go.Proofs.YtocagkmnefkniaaR
/-! ### Write, Finish -/
theorem write_no {b t : Int} {d : ByteArray} {x y : List S67} {f g h : Bool} {data : ByteArray} {room : Int} (hn : f = true ∨ mn (data.size : Int) (wrap64 ((mx 0 room) - (d.size : Int))) ≤ 0) (k : Nat) (hk : 1 ≤ k) : sendq_Write.f k b t d x y f g h data room = some (b, t, d, x, y, f, g, h, 0) := by
  obtain ⟨k, rfl⟩ : ∃ q, k = q + 1 := ⟨k - 1, by omega⟩
  unfold sendq_Write.f
  by_cases c : f = true
  · rw [if_pos c, sendq_Write.j0, if_pos rfl]
  · rw [if_neg c, decide_eq_true (hn.resolve_left c), sendq_Write.j0, if_pos rfl]
theorem write_yes {b t : Int} {d : ByteArray} {x y y2 : List S67} {g h : Bool} {data : ByteArray} {room n : Int} (hn : mn (data.size : Int) (wrap64 ((mx 0 room) - (d.size : Int))) = n) (h0 : 0 < n) (h1 : n ≤ (data.size : Int)) (h2 : data.size ≤ 1000000) (hb : 0 ≤ b ∧ b < 4611686018427387904) (hd : d.size < 1000000000) (k : Nat) (hk : 1 ≤ k)
    (hy : ranges_Add.f (k - 1) y (b + (d.size : Int)) (b + (d.size : Int) + n - 1) = some y2) : sendq_Write.f k b t d x y false g h data room = some (b, t, d ++ data.extract 0 n.toNat, x, y2, false, g, h, n) := by
  obtain ⟨k, rfl⟩ : ∃ q, k = q + 1 := ⟨k - 1, by omega⟩
  have w1 : IntKind.u64.wrap n = n := wrap_u64 (by omega)
  have w2 : IntKind.u64.wrap (b + (d.size : Int) + n) = b + (d.size : Int) + n := wrap_u64 (by omega)
  have w3 : IntKind.u64.wrap (b + (d.size : Int) + n - 1) = b + (d.size : Int) + n - 1 := wrap_u64 (by omega)
  have hs : d.size + (data.extract 0 n.toNat).size ≤ 9223372036854775807 := by rw [ByteArray.size_extract]; omega
  unfold sendq_Write.f
  rw [if_neg (by decide), hn, decide_eq_false (by omega), sendq_Write.j0, if_neg (by decide), end_f b t d x y false g h hb (by omega), Option.bind_some, w1, w2, w3]
  rw [show k + 1 - 1 = k from rfl] at hy
  rw [hy, Option.bind_some, if_pos (by omega), if_pos h1, if_pos hs]
theorem window_f {b t : Int} {d : ByteArray} {x y : List S67} {f g h : Bool} {off n : Int} (hb : 0 ≤ b ∧ b < 4611686018427387904) (hd : d.size < 1000000000) (ho : 0 ≤ off ∧ off < 4611686018427387904) (hn : n ≤ 1000000000) (h1 : 1 ≤ mn (off + mx 0 n) (b + (d.size : Int))) :
    sendq_State_window.f b t d x y f g h off n = some (mx off b, mn (off + mx 0 n) (b + (d.size : Int)) - 1, decide (mx off b < mn (off + mx 0 n) (b + (d.size : Int)))) := by
  have w0 : 0 ≤ mx 0 n ∧ mx 0 n ≤ 1000000000 := by unfold mx; omega
  have w1 : IntKind.u64.wrap (mx 0 n) = mx 0 n := wrap_u64 (by omega)
  have w2 : IntKind.u64.wrap (off + mx 0 n) = off + mx 0 n := wrap_u64 (by omega)
  have w3 : mn (off + mx 0 n) (b + (d.size : Int)) ≤ b + (d.size : Int) := by unfold mn; omega
  have w4 : IntKind.u64.wrap (mn (off + mx 0 n) (b + (d.size : Int)) - 1) = mn (off + mx 0 n) (b + (d.size : Int)) - 1 := wrap_u64 (by omega)
  unfold sendq_State_window.f
  rw [end_f b t d x y f g h hb (by omega), Option.bind_some, w1, w2, w4]
open Go.Proofs.YtocagkmnefkniaaR
/-! ### shown -/
theorem rd_0 (a b : Int) (t : List S67) : rd_T67 (⟨a, b⟩ :: t) 0 = ⟨a, b⟩ := rfl
theorem set_two {a b c e : Int} (h : 0 ≤ a) (h1 : a ≤ b) (h2 : b + 2 ≤ c) (h3 : c ≤ e) (h4 : e < 4611686018427387904) : Set_ [(⟨a, b⟩ : S67), ⟨c, e⟩] := ⟨h1, h, by show b < _; omega, h3, h2, by show e < _; omega, trivial⟩
theorem in_two (a b c e n : Int) : In [(⟨a, b⟩ : S67), ⟨c, e⟩] n ↔ (a ≤ n ∧ n ≤ b) ∨ (c ≤ n ∧ n ≤ e) := by
  unfold In
  rw [List.map_cons, memR_cons]
  exact or_congr Iff.rfl (in_r c e n)
abbrev abc : ByteArray := ⟨#[97, 98, 99]⟩
theorem win_abc (t : Int) (x y : List S67) (f g h : Bool) (off n a b : Int) (ho : 0 ≤ off ∧ off ≤ 3) (hn : n ≤ 9) (h1 : 1 ≤ mn (off + mx 0 n) 3) (ha : mx off 0 = a) (hb : mn (off + mx 0 n) 3 - 1 = b) (hc : a ≤ b) : sendq_State_window.f 0 t abc x y f g h off n = some (a, b, true) := by
  have hs : ((abc.size : Nat) : Int) = 3 := rfl
  have hz : (0 : Int) + ((abc.size : Nat) : Int) = 3 := rfl
  rw [window_f (by omega) (by decide) (by omega) (by omega) (by rw [hz]; exact h1), hz, ha, hb, decide_eq_true (by omega)]
theorem end_abc (t : Int) (x y : List S67) (f g h : Bool) : sendq_State_end.f 0 t abc x y f g h = some 3 := by
  rw [end_f 0 t abc x y f g h (by omega) (by decide)]
  rfl
theorem shown_f (k : Nat) (hk : 100 ≤ k) : dominolaw15_shown.f k = some true := by
  obtain ⟨q, hq⟩ : ∃ q, k = q + 50 := ⟨k - 50, by omega⟩
  have hm : mx 0 9 = 9 := by unfold mx; omega
  have hm2 : mx 0 2 = 2 := by unfold mx; omega
  have hm3 : mx 0 3 = 3 := by unfold mx; omega
  have hm1 : mx 0 1 = 1 := by unfold mx; omega
  have g1 : sendq_Write.f k 0 0 (⟨#[]⟩ : ByteArray) [] [] false false false (⟨#[97, 98, 99]⟩ : ByteArray) 9 = some (0, 0, abc, [], [⟨0, 2⟩], false, false, false, 3) := by
    have e := write_yes (b := 0) (t := 0) (d := (⟨#[]⟩ : ByteArray)) (x := []) (y := []) (y2 := [⟨0, 2⟩]) (g := false) (h := false) (data := abc) (room := 9) (n := 3) (by
      have z1 : ((abc.size : Nat) : Int) = 3 := rfl
      have z2 : (((⟨#[]⟩ : ByteArray).size : Nat) : Int) = 0 := rfl
      rw [z1, z2, hm]; unfold mn wrap64; omega) (by omega) (by decide) (by decide) (by omega) (by decide) k (by omega) (add_eq set_nil (low_r (by decide) (by decide)) (by decide) (set_one (by omega) (by omega) (by omega)) (fun n => by
        rw [in_r]
        show _ ↔ _ ∨ (0 ≤ n ∧ n ≤ 2)
        exact ⟨Or.inr, fun h => h.elim (fun h => absurd h (in_nil n)) id⟩) _ (by simp; omega))
    rw [e]
    rfl
  have g2 : sendq_Finish.f 0 0 abc [] [⟨0, 2⟩] false false false = some (0, 0, abc, [], [⟨0, 2⟩], true, true, false) := rfl
  have g3 : sendq_Next.f 0 0 abc [] [⟨0, 2⟩] true true false 2 9 = some (0, (⟨#[97, 98]⟩ : ByteArray), false, true) := by
    have w1 : IntKind.u64.wrap ((2 : Int) + 1) = 3 := wrap_u64 (by omega)
    have w2 : IntKind.u64.wrap (2 : Int) = 2 := wrap_u64 (by omega)
    have w3 : IntKind.u64.wrap ((0 : Int) + 2) = 2 := wrap_u64 (by omega)
    have w4 : mn (mn 3 2) 9 = 2 := by unfold mn; omega
    have w5 : IntKind.u64.wrap ((0 : Int) - 0) = 0 := wrap_u64 (by omega)
    have w6 : IntKind.u64.wrap ((2 : Int) - 0) = 2 := wrap_u64 (by omega)
    unfold sendq_Next.f
    rw [if_neg (by simp), if_pos (by simp), rd_0, hm2]
    simp only []
    rw [w1, w2, w3, w4, w5, w6, if_neg (by omega), if_pos (by omega), if_pos (by omega), if_pos (by decide), if_pos trivial, if_pos trivial, end_abc, Option.bind_some]
    rfl
  have g4 : sendq_Sent.f k 0 0 abc [] [⟨0, 2⟩] true true false 0 3 true = some (0, 3, abc, [], [], true, false, false) := by
    have w2 : IntKind.u64.wrap (3 : Int) = 3 := wrap_u64 (by omega)
    have w3 : IntKind.u64.wrap ((0 : Int) + 3) = 3 := wrap_u64 (by omega)
    have w4 : mx 0 (mn 3 3) = 3 := by unfold mn mx; omega
    have c : ranges_Cut.f k [⟨0, 2⟩] 0 2 = some [] := cut_eq (set_one (by omega) (by omega) (by omega)) (low_r (by decide) (by decide)) (by decide) set_nil (fun n => by
      rw [in_r]
      exact ⟨fun h => absurd h (in_nil n), fun h => absurd h.1 h.2⟩) k (by simp; omega)
    unfold sendq_Sent.f
    rw [win_abc 0 [] [⟨0, 2⟩] true true false 0 3 0 2 (by omega) (by omega) (by unfold mn mx; omega) (by unfold mx; omega) (by unfold mn mx; omega) (by omega), Option.bind_some, if_pos rfl, c, Option.bind_some, end_abc, Option.bind_some, if_pos rfl, hm3, w2, w3, w4]
    rfl
  have g5 : sendq_Next.f 0 3 abc [] [] true false false 9 9 = some (0, (⟨#[]⟩ : ByteArray), false, false) := by
    unfold sendq_Next.f
    rw [if_pos (by simp), if_neg (by decide)]
  have g6 : sendq_Acked.f k 0 3 abc [] [] true false false 1 1 false = some (0, 3, abc, [⟨1, 1⟩], [], true, false, false) := by
    have a : ranges_Add.f k [] 1 1 = some [⟨1, 1⟩] := add_eq set_nil (low_r (by decide) (by decide)) (by decide) (set_one (by omega) (by omega) (by omega)) (fun n => by
      rw [in_r]
      exact ⟨Or.inr, fun h => h.elim (fun h => absurd h (in_nil n)) id⟩) k (by simp; omega)
    have c : ranges_Cut.f k [] 1 1 = some [] := cut_eq set_nil (low_r (by decide) (by decide)) (by decide) set_nil (fun n => ⟨fun h => absurd h (in_nil n), fun h => h.1⟩) k (by simp; omega)
    have s : slideStay 0 [(⟨1, 1⟩ : S67)] := Or.inr (by decide)
    have e : ackEnd 0 3 abc [(⟨1, 1⟩ : S67)] [] true false false = some (0, 3, abc, [⟨1, 1⟩], [], true, false, false) := by
      unfold ackEnd slideB slideD slideT
      rw [if_pos ⟨by decide, Or.inl s⟩, if_pos s, if_pos s, if_pos s]
    unfold sendq_Acked.f
    rw [win_abc 3 [] [] true false false 1 1 1 1 (by omega) (by omega) (by unfold mn mx; omega) (by unfold mx; omega) (by unfold mn mx; omega) (by omega), Option.bind_some, if_pos rfl, a, Option.bind_some, c, Option.bind_some, if_neg (by decide), e]
  have g7 : sendq_Lost.f k 0 3 abc [⟨1, 1⟩] [] true false false 0 3 true = some (0, 3, abc, [⟨1, 1⟩], [⟨0, 0⟩, ⟨2, 2⟩], true, true, false) := by
    have c : ranges_Gaps.f k [⟨1, 1⟩] 0 2 = some [⟨0, 0⟩, ⟨2, 2⟩] := gaps_eq (set_one (by omega) (by omega) (by omega)) (low_r (by decide) (by decide)) (by decide) (set_two (by omega) (by omega) (by omega) (by omega) (by omega)) (fun n => by
      rw [in_r, in_two]; omega) k (by simp; omega)
    have a1 : ∀ m, 10 ≤ m → ranges_Add.f m [] 0 0 = some [⟨0, 0⟩] := fun m hm => add_eq set_nil (low_r (by decide) (by decide)) (by decide) (set_one (by omega) (by omega) (by omega)) (fun n => by
      rw [in_r]
      exact ⟨Or.inr, fun h => h.elim (fun h => absurd h (in_nil n)) id⟩) m (by simp; omega)
    have a2 : ∀ m, 10 ≤ m → ranges_Add.f m [⟨0, 0⟩] 2 2 = some [⟨0, 0⟩, ⟨2, 2⟩] := fun m hm => add_eq (set_one (by omega) (by omega) (by omega)) (low_r (by decide) (by decide)) (by decide) (set_two (by omega) (by omega) (by omega) (by omega) (by omega)) (fun n => by
      rw [in_r, in_two]) m (by simp; omega)
    have r1 : rd_T67 [(⟨0, 0⟩ : S67), ⟨2, 2⟩] 1 = ⟨2, 2⟩ := rfl
    have w1 : wrap64 (0 + 1) = 1 := by unfold wrap64; omega
    have w2 : wrap64 (1 + 1) = 2 := by unfold wrap64; omega
    unfold sendq_Lost.f
    rw [win_abc 3 [⟨1, 1⟩] [] true false false 0 3 0 2 (by omega) (by omega) (by unfold mn mx; omega) (by unfold mx; omega) (by unfold mn mx; omega) (by omega), Option.bind_some, if_pos rfl, c, Option.bind_some, hq, show q + 50 = q + 47 + 1 + 1 + 1 by omega]
    rw [sendq_Lost.l0, if_pos (by simp), if_pos (by omega), if_pos (by simp), rd_0, a1 _ (by omega), Option.bind_some, w1, sendq_Lost.l0, if_pos (by simp), if_pos (by omega), if_pos (by simp), r1, a2 _ (by omega), Option.bind_some, w2, sendq_Lost.l0, if_neg (by simp), if_neg (by decide), if_pos rfl, if_pos rfl]
    rfl
  have g8 : sendq_Next.f 0 3 abc [⟨1, 1⟩] [⟨0, 0⟩, ⟨2, 2⟩] true true false 9 9 = some (0, (⟨#[97]⟩ : ByteArray), false, true) := by
    have w1 : IntKind.u64.wrap ((0 : Int) + 1) = 1 := wrap_u64 (by omega)
    have w2 : IntKind.u64.wrap (9 : Int) = 9 := wrap_u64 (by omega)
    have w3 : IntKind.u64.wrap ((0 : Int) + 9) = 9 := wrap_u64 (by omega)
    have w4 : mn (mn 1 9) 9 = 1 := by unfold mn; omega
    have w5 : IntKind.u64.wrap ((0 : Int) - 0) = 0 := wrap_u64 (by omega)
    have w6 : IntKind.u64.wrap ((1 : Int) - 0) = 1 := wrap_u64 (by omega)
    unfold sendq_Next.f
    rw [if_neg (by simp), if_pos (by simp), rd_0, hm]
    simp only []
    rw [w1, w2, w3, w4, w5, w6, if_neg (by omega), if_pos (by omega), if_pos (by omega), if_pos (by decide), if_pos trivial, if_pos trivial, end_abc, Option.bind_some]
    rfl
  have l1 : (⟨#[97, 98]⟩ : ByteArray).toList = [97, 98] := by rw [Go.Lib.toList_data]
  have l2 : (⟨#[97]⟩ : ByteArray).toList = [97] := by rw [Go.Lib.toList_data]
  have g9 : sendq_End.f 0 3 abc [⟨1, 1⟩] [⟨0, 0⟩, ⟨2, 2⟩] true true false = some 3 := by unfold sendq_End.f; rw [end_abc]; rfl
  have g10 : sendq_Done.f 0 3 abc [⟨1, 1⟩] [⟨0, 0⟩, ⟨2, 2⟩] true true false = some false := rfl
  unfold dominolaw15_shown.f
  rw [g1]; simp only [Option.bind_some]
  rw [g2]; simp only [Option.bind_some]
  rw [g3]; simp only [Option.bind_some]
  rw [g4]; simp only [Option.bind_some]
  rw [g5]; simp only [Option.bind_some]
  rw [g6]; simp only [Option.bind_some]
  rw [g7]; simp only [Option.bind_some]
  rw [g8]; simp only [Option.bind_some]
  rw [g9]; simp only [Option.bind_some]
  rw [g10]; simp only [Option.bind_some]
  simp [l1, l2]
open Go.Proofs.YtocagkmnefkniaaR
/-! ### what holds of every state: what is acknowledged, and what has to be sent, lie within, apart -/
structure Inv (M b : Int) (d : ByteArray) (x y : List S67) (f g : Bool) : Prop where
  b0 : 0 ≤ b
  bM : b + (d.size : Int) ≤ M
  sx : Set_ x
  sy : Set_ y
  ix : ∀ n, In x n → b ≤ n ∧ n < b + (d.size : Int)
  iy : ∀ n, In y n → b ≤ n ∧ n < b + (d.size : Int)
  dis : ∀ n, In x n → ¬ In y n
  fg : g = true → f = true
theorem may_len {M : Int} : ∀ (s : List S67) (e : Int), mayR e (s.map rg) → (∀ n, memR (s.map rg) n → n < M) → s = [] ∨ (s.length : Int) ≤ M - e
  | [], _, _, _ => Or.inl rfl
  | r :: t, e, h, hM => by
    obtain ⟨h1, h2, h3, h4⟩ := h
    have h1 : r.f0 ≤ r.f1 := h1
    have h2 : e ≤ r.f0 := h2
    have h5 : r.f1 < M := hM r.f1 ((memR_cons _ _ _).2 (Or.inl ⟨h1, Int.le_refl _⟩))
    have h4 : mayR (r.f1 + 2) (t.map rg) := h4
    right
    rcases may_len t (r.f1 + 2) h4 (fun n hn => hM n ((memR_cons _ _ _).2 (Or.inr hn))) with h | h
    · subst h; simp; omega
    · rw [List.length_cons]; omega
theorem set_len {M : Int} (hM : 0 ≤ M) {s : List S67} (h : Set_ s) (hb : ∀ n, In s n → n < M) : (s.length : Int) ≤ M := by
  rcases may_len s 0 h hb with e | e
  · subst e; simp; exact hM
  · omega
theorem Inv.lx {M b : Int} {d : ByteArray} {x y : List S67} {f g : Bool} (h : Inv M b d x y f g) : (x.length : Int) ≤ M := set_len (by have := h.b0; have := h.bM; omega) h.sx (fun n hn => by have := (h.ix n hn).2; have := h.bM; omega)
theorem Inv.ly {M b : Int} {d : ByteArray} {x y : List S67} {f g : Bool} (h : Inv M b d x y f g) : (y.length : Int) ≤ M := set_len (by have := h.b0; have := h.bM; omega) h.sy (fun n hn => by have := (h.iy n hn).2; have := h.bM; omega)
theorem Inv.up {M M' b : Int} {d : ByteArray} {x y : List S67} {f g : Bool} (h : Inv M b d x y f g) (hm : M ≤ M') : Inv M' b d x y f g := ⟨h.b0, by have := h.bM; omega, h.sx, h.sy, h.ix, h.iy, h.dis, h.fg⟩
theorem add_in {M : Int} {s : List S67} {a c : Int} (hs : Set_ s) (hl : (s.length : Int) ≤ M) (hM : M ≤ 20000) (ha : 0 ≤ a ∧ a ≤ 20000) (hc : 0 ≤ c ∧ c ≤ 20000) (k : Nat) (hk : 20010 ≤ k) : ∃ t, ranges_Add.f k s a c = some t ∧ Set_ t ∧ ∀ n, In t n ↔ In s n ∨ (a ≤ n ∧ n ≤ c) := by
  obtain ⟨h1, h2, _⟩ := addL_says s ⟨a, c⟩ (low_of_set hs) (low_r (by omega) (by omega)) (by omega)
  exact ⟨_, add_f s ⟨a, c⟩ (low_of_set hs) (low_r (by omega) (by omega)) k (by omega) (by omega), h1, h2⟩
theorem cut_in {M : Int} {s : List S67} {a c : Int} (hs : Set_ s) (hl : (s.length : Int) ≤ M) (hM : M ≤ 20000) (ha : 0 ≤ a ∧ a ≤ 20000) (hc : 0 ≤ c ∧ c ≤ 20000) (k : Nat) (hk : 20010 ≤ k) : ∃ t, ranges_Cut.f k s a c = some t ∧ Set_ t ∧ ∀ n, In t n ↔ In s n ∧ ¬ (a ≤ n ∧ n ≤ c) := by
  obtain ⟨h1, h2, _⟩ := cutL_says s ⟨a, c⟩ hs (low_r (by omega) (by omega)) (by omega)
  exact ⟨_, cut_f s ⟨a, c⟩ (low_of_set hs) (low_r (by omega) (by omega)) k (by omega) (by omega), h1, h2⟩
theorem gaps_in {M : Int} {s : List S67} {a c : Int} (hs : Set_ s) (hl : (s.length : Int) ≤ M) (hM : M ≤ 20000) (ha : 0 ≤ a ∧ a ≤ 20000) (hc : 0 ≤ c ∧ c ≤ 20000) (k : Nat) (hk : 20010 ≤ k) : ∃ t, ranges_Gaps.f k s a c = some t ∧ Set_ t ∧ ∀ n, In t n ↔ (a ≤ n ∧ n ≤ c) ∧ ¬ In s n := by
  obtain ⟨h1, h2, _⟩ := gapsL_says s ⟨a, c⟩ hs (low_r (by omega) (by omega)) (by omega)
  exact ⟨_, gaps_f s ⟨a, c⟩ (low_of_set hs) (low_r (by omega) (by omega)) k (by omega) (by omega), h1, h2⟩
open Go.Proofs.YtocagkmnefkniaaR
/-! ### Acked, Next -/
theorem inv_slide {M b : Int} {d : ByteArray} {x y : List S67} {f g : Bool} (hI : Inv M b d x y f g) (hM : M ≤ 10000) : slideOk b d x ∧ Inv M (slideB b x) (slideD b d x) (slideT b x) y f g := by
  have hb0 := hI.b0
  have hbM := hI.bM
  have hlx := hI.lx
  unfold slideB slideD slideT
  by_cases s : slideStay b x
  · rw [if_pos s, if_pos s, if_pos s]
    exact ⟨⟨by omega, Or.inl s⟩, hI⟩
  · rw [if_neg s, if_neg s, if_neg s]
    cases x with
    | nil => exact absurd (Or.inl rfl) s
    | cons r t =>
      obtain ⟨m1, m2, m3, m4⟩ := hI.sx
      have m1 : r.f0 ≤ r.f1 := m1
      have m4 : mayR (r.f1 + 2) (t.map rg) := m4
      have e0 : rd_T67 (r :: t) 0 = r := rfl
      have hlo : ¬ b < r.f0 := fun z => s (Or.inr (by rw [e0]; exact z))
      have i0 : In (r :: t) r.f0 := (memR_cons _ _ _).2 (Or.inl ⟨Int.le_refl _, m1⟩)
      have i1 : In (r :: t) r.f1 := (memR_cons _ _ _).2 (Or.inl ⟨m1, Int.le_refl _⟩)
      have j0 := hI.ix _ i0
      have j1 := hI.ix _ i1
      have eT : slideTo (r :: t) = r.f1 + 1 := by unfold slideTo; rw [e0]; exact wrap_u64 (by omega)
      have eN : slideN b (r :: t) = r.f1 + 1 - b := by unfold slideN; rw [eT]; exact wrap_u64 (by omega)
      have hsz : (d.extract (r.f1 + 1 - b).toNat d.size).size = d.size - (r.f1 + 1 - b).toNat := by rw [ByteArray.size_extract]; omega
      have low : ∀ n, In t n → r.f1 + 2 ≤ n := fun n hn => (mayR_low m4 n hn).1
      have sub : ∀ n, In t n → In (r :: t) n := fun n hn => (memR_cons _ _ _).2 (Or.inr hn)
      rw [eN, eT]
      refine ⟨⟨by omega, Or.inr ⟨by omega, by omega⟩⟩, by omega, by rw [hsz]; omega, mayR_le m4 (by omega), hI.sy, fun n hn => ?_, fun n hn => ?_, fun n hn => hI.dis n (sub n hn), hI.fg⟩
      · have a := hI.ix n (sub n hn)
        have c := low n hn
        rw [hsz]; omega
      · have a := hI.iy n hn
        have c : ¬ (r.f0 ≤ n ∧ n ≤ r.f1) := fun z => hI.dis n ((memR_cons _ _ _).2 (Or.inl z)) hn
        rw [hsz]; omega
open Go.Proofs.YtocagkmnefkniaaR
/-! ### how many numbers below a bound a set holds -/
def cn (s : List S67) : Nat → Int
  | 0 => 0
  | n + 1 => cn s n + (if inB s (n : Int) = true then 1 else 0)
theorem cn_nn (s : List S67) : ∀ n : Nat, 0 ≤ cn s n ∧ cn s n ≤ (n : Int)
  | 0 => ⟨Int.le_refl _, Int.le_refl _⟩
  | n + 1 => by
    have := cn_nn s n
    unfold cn
    by_cases c : inB s (n : Int) = true
    · rw [if_pos c]; omega
    · rw [if_neg c]; omega
theorem cn_add {s t : List S67} {a c : Int} (h : ∀ n, In t n → In s n ∨ (a ≤ n ∧ n < c)) (ha : 0 ≤ a) (hc : a ≤ c) : ∀ N : Nat, cn t N ≤ cn s N + (mn c N - mn a N)
  | 0 => by
    have e1 : mn c ((0 : Nat) : Int) = 0 := by unfold mn; omega
    have e2 : mn a ((0 : Nat) : Int) = 0 := by unfold mn; omega
    rw [e1, e2]
    exact Int.le_refl _
  | N + 1 => by
    have ih := cn_add h ha hc N
    unfold cn
    have e : mn c ((N + 1 : Nat) : Int) - mn a ((N + 1 : Nat) : Int) = mn c (N : Int) - mn a (N : Int) + (if a ≤ (N : Int) ∧ (N : Int) < c then 1 else 0) := by
      unfold mn
      split <;> omega
    rw [e]
    by_cases c1 : inB t (N : Int) = true
    · rw [if_pos c1]
      rcases h _ ((inB_iff t _).1 c1) with z | z
      · rw [if_pos ((inB_iff s _).2 z)]
        split <;> omega
      · rw [if_pos z]
        split <;> omega
    · rw [if_neg c1]
      split <;> split <;> omega
theorem cn_cut {s t : List S67} {a c : Int} (h : ∀ n, In t n → In s n ∧ ¬ (a ≤ n ∧ n < c)) (h2 : ∀ n, a ≤ n → n < c → In s n) (ha : 0 ≤ a) (hc : a ≤ c) : ∀ N : Nat, cn t N + (mn c N - mn a N) ≤ cn s N
  | 0 => by
    have e1 : mn c ((0 : Nat) : Int) = 0 := by unfold mn; omega
    have e2 : mn a ((0 : Nat) : Int) = 0 := by unfold mn; omega
    rw [e1, e2]
    exact Int.le_refl _
  | N + 1 => by
    have ih := cn_cut h h2 ha hc N
    unfold cn
    have e : mn c ((N + 1 : Nat) : Int) - mn a ((N + 1 : Nat) : Int) = mn c (N : Int) - mn a (N : Int) + (if a ≤ (N : Int) ∧ (N : Int) < c then 1 else 0) := by
      unfold mn
      split <;> omega
    rw [e]
    by_cases c1 : a ≤ (N : Int) ∧ (N : Int) < c
    · rw [if_pos c1, if_pos ((inB_iff s _).2 (h2 _ c1.1 c1.2)), if_neg (fun z => (h _ ((inB_iff t _).1 z)).2 c1)]
      omega
    · rw [if_neg c1]
      by_cases c2 : inB t (N : Int) = true
      · rw [if_pos c2, if_pos ((inB_iff s _).2 (h _ ((inB_iff t _).1 c2)).1)]
        omega
      · rw [if_neg c2]
        split <;> omega
theorem cn_mono {s t : List S67} (h : ∀ n, In t n → In s n) : ∀ N : Nat, cn t N ≤ cn s N
  | 0 => Int.le_refl _
  | N + 1 => by
    have ih := cn_mono h N
    unfold cn
    by_cases c2 : inB t (N : Int) = true
    · rw [if_pos c2, if_pos ((inB_iff s _).2 (h _ ((inB_iff t _).1 c2)))]
      omega
    · rw [if_neg c2]
      split <;> omega
theorem cn_zero {s : List S67} : ∀ N : Nat, cn s N = 0 → ∀ n : Int, 0 ≤ n → n < N → ¬ In s n
  | 0, _, n, h0, h1 => by omega
  | N + 1, h, n, h0, h1 => fun hn => by
    have nn := (cn_nn s N).1
    unfold cn at h
    by_cases e : n = (N : Int)
    · rw [e] at hn
      rw [if_pos ((inB_iff s _).2 hn)] at h
      omega
    · refine cn_zero N ?_ n h0 (by omega) hn
      split at h <;> omega
theorem cn_nil (N : Nat) : cn [] N = 0 := by
  have h := cn_mono (s := []) (t := []) (fun _ h => h) N
  induction N with
  | zero => rfl
  | succ N ih =>
    unfold cn
    rw [ih (cn_mono (fun _ h => h) N), if_neg (fun z => in_nil _ ((inB_iff _ _).1 z))]
    rfl
open Go.Proofs.YtocagkmnefkniaaR
/-! ### what the steps do, told exactly (of a state that is finished) -/
theorem win_ex {b t : Int} {d : ByteArray} {x y : List S67} {f g h : Bool} {off n : Int} (hb : 0 ≤ b) (hM : b + (d.size : Int) ≤ 10000) (ho : 0 ≤ off) (hn : 0 ≤ n) (he : off + n ≤ b + (d.size : Int)) :
    ∃ a c is, sendq_State_window.f b t d x y f g h off n = some (a, c, is) ∧ (is = true → b ≤ a ∧ off ≤ a ∧ (a = off ∨ a = b) ∧ a ≤ c ∧ c + 1 = off + n) ∧ (is = false → off + n ≤ b ∨ n = 0) := by
  have w0 : mx 0 n = n := by unfold mx; omega
  have w1 : IntKind.u64.wrap n = n := wrap_u64 (by omega)
  have w2 : IntKind.u64.wrap (off + n) = off + n := wrap_u64 (by omega)
  have w3 : mn (off + n) (b + (d.size : Int)) = off + n := by unfold mn; omega
  obtain ⟨a, ha⟩ : ∃ a : Int, mx off b = a := ⟨_, rfl⟩
  have w4 : b ≤ a ∧ off ≤ a ∧ (a = off ∨ a = b) := by rw [← ha]; unfold mx; omega
  unfold sendq_State_window.f
  rw [end_f b t d x y f g h (by omega) (by omega), Option.bind_some, w0, w1, w2, w3, ha]
  refine ⟨a, _, _, rfl, fun hi => ?_, fun hi => ?_⟩
  · have hi := of_decide_eq_true hi
    rw [wrap_u64 (by omega)]
    omega
  · have hi := of_decide_eq_false hi
    omega
theorem sent_ex {M b t : Int} {d : ByteArray} {x y : List S67} {g h : Bool} (hI : Inv M b d x y true g) (hM : M ≤ 10000) {off n : Int} (ho : 0 ≤ off) (hn : 0 ≤ n) (he : off + n ≤ b + (d.size : Int)) (fin : Bool) (k : Nat) (hk : 30000 ≤ k) :
    ∃ y', sendq_Sent.f k b t d x y true g h off n fin = some (b, mx t (off + n), d, x, y', true, g && !fin, h) ∧ Inv M b d x y' true (g && !fin) ∧ ∀ m, In y' m ↔ In y m ∧ ¬ (off ≤ m ∧ m < off + n) := by
  have hb0 := hI.b0
  have hbM := hI.bM
  have hly := hI.ly
  obtain ⟨a, c, is, h1, h2, h3⟩ := win_ex (t := t) (x := x) (y := y) (f := true) (g := g) (h := h) hb0 (by omega) ho hn he
  have hE : ∀ (t : Int) (x y : List S67), sendq_State_end.f b t d x y true g h = some (b + (d.size : Int)) := fun t x y => end_f b t d x y true g h (by omega) (by omega)
  have w0 : mx 0 n = n := by unfold mx; omega
  have w1 : IntKind.u64.wrap n = n := wrap_u64 (by omega)
  have w2 : IntKind.u64.wrap (off + n) = off + n := wrap_u64 (by omega)
  have w3 : mn (off + n) (b + (d.size : Int)) = off + n := by unfold mn; omega
  unfold sendq_Sent.f
  rw [h1, Option.bind_some]
  cases is with
  | true =>
    obtain ⟨q1, q2, q3, q4, q5⟩ := h2 rfl
    obtain ⟨y2, a1, a2, a3⟩ := cut_in (k := k) (a := a) (c := c) hI.sy hly (by omega) (by omega) (by omega) (by omega)
    have iff : ∀ m, In y2 m ↔ In y m ∧ ¬ (off ≤ m ∧ m < off + n) := fun m => by
      rw [a3]
      constructor
      · rintro ⟨z1, z2⟩
        have := hI.iy m z1
        exact ⟨z1, by omega⟩
      · rintro ⟨z1, z2⟩
        exact ⟨z1, by omega⟩
    have inv : ∀ g', Inv M b d x y2 true g' := fun g' => ⟨hb0, hbM, hI.sx, a2, hI.ix, fun m hm => hI.iy m ((a3 m).1 hm).1, fun m hm hy => hI.dis m hm ((a3 m).1 hy).1, fun _ => rfl⟩
    simp only [if_true]
    rw [a1, Option.bind_some, hE, Option.bind_some, w0, w1, w2, w3]
    cases g with
    | true => exact ⟨y2, rfl, inv _, iff⟩
    | false => exact ⟨y2, rfl, inv _, iff⟩
  | false =>
    have h3 := h3 rfl
    have iff : ∀ m, In y m ↔ In y m ∧ ¬ (off ≤ m ∧ m < off + n) := fun m => ⟨fun z => ⟨z, by have := hI.iy m z; omega⟩, fun z => z.1⟩
    have inv : ∀ g', Inv M b d x y true g' := fun g' => ⟨hb0, hbM, hI.sx, hI.sy, hI.ix, hI.iy, hI.dis, fun _ => rfl⟩
    simp only [Bool.false_eq_true, if_false]
    rw [hE, Option.bind_some, w0, w1, w2, w3]
    cases g with
    | true => exact ⟨y, rfl, inv _, iff⟩
    | false => exact ⟨y, rfl, inv _, iff⟩
theorem lost_run_ex {b t : Int} {d : ByteArray} {x : List S67} {g h : Bool} (fin : Bool) (gl : List S67) (hgl : gl.length ≤ 10000) (hr : ∀ r ∈ gl, r.f0 ≤ r.f1 ∧ 0 ≤ r.f0 ∧ r.f1 < 10000) : ∀ (m i : Nat) (y : List S67) (k : Nat), i + m = gl.length → Set_ y → (∀ n, In y n → n < 10000) → 30000 ≤ k →
    ∃ y', sendq_Lost.l0 (k + m + 1) fin gl (gl.length : Int) (i : Int) b t d x y true g h = some (b, t, d, x, y', true, g || (fin && !h), h) ∧ Set_ y' ∧ ∀ n, In y' n ↔ In y n ∨ memR ((gl.drop i).map rg) n
  | 0, i, y, k, hi, hy, hb, hk => by
    rw [sendq_Lost.l0, if_neg (by omega)]
    have hd : gl.drop i = [] := List.drop_eq_nil_of_le (by omega)
    have iff : ∀ n, In y n ↔ In y n ∨ memR ((gl.drop i).map rg) n := fun n => by
      rw [hd]
      exact ⟨Or.inl, fun z => z.elim id (fun z => absurd z (memR_nil n))⟩
    cases g with
    | true => exact ⟨y, rfl, hy, iff⟩
    | false =>
      cases fin with
      | true => exact ⟨y, rfl, hy, iff⟩
      | false => exact ⟨y, rfl, hy, iff⟩
  | m + 1, i, y, k, hi, hy, hb, hk => by
    have hlt : i < gl.length := by omega
    obtain ⟨r1, r2, r3⟩ := hr gl[i] (List.getElem_mem hlt)
    have hly : (y.length : Int) ≤ 10000 := set_len (by omega) hy hb
    obtain ⟨y2, a1, a2, a3⟩ := add_in (k := k + m + 1) (a := gl[i].f0) (c := gl[i].f1) hy hly (by omega) (by omega) (by omega) (by omega)
    have c1 : (i : Int) < (gl.length : Int) := by omega
    have c2 : (0 : Int) ≤ (i : Int) := by omega
    have c3 : wrap64 ((i : Int) + 1) = ((i + 1 : Nat) : Int) := w64 i (by omega)
    rw [show k + (m + 1) + 1 = (k + m + 1) + 1 from rfl, sendq_Lost.l0, if_pos c1, if_pos c2, if_pos c1, rd_at gl i hlt, a1, Option.bind_some, c3]
    obtain ⟨y', e1, e2, e3⟩ := lost_run_ex fin gl hgl hr m (i + 1) y2 k (by omega) a2 (fun n hn => by
      rcases (a3 n).1 hn with z | z
      · exact hb n z
      · omega) hk
    refine ⟨y', e1, e2, fun n => ?_⟩
    rw [e3, a3, List.drop_eq_getElem_cons hlt, List.map_cons, memR_cons, or_assoc]
    exact Iff.rfl
theorem lost_ex {M b t : Int} {d : ByteArray} {x y : List S67} {g h : Bool} (hI : Inv M b d x y true g) (hM : M ≤ 9000) {off n : Int} (ho : 0 ≤ off) (hn : 0 ≤ n) (he : off + n ≤ b + (d.size : Int)) (fin : Bool) (k : Nat) (hk : 60000 ≤ k) :
    ∃ y', sendq_Lost.f k b t d x y true g h off n fin = some (b, t, d, x, y', true, g || (fin && !h), h) ∧ Inv M b d x y' true (g || (fin && !h)) ∧ ∀ m, In y' m ↔ In y m ∨ (b ≤ m ∧ off ≤ m ∧ m < off + n ∧ ¬ In x m) := by
  have hb0 := hI.b0
  have hbM := hI.bM
  have hlx := hI.lx
  obtain ⟨a, c, is, h1, h2, h3⟩ := win_ex (t := t) (x := x) (y := y) (f := true) (g := g) (h := h) hb0 (by omega) ho hn he
  unfold sendq_Lost.f
  rw [h1, Option.bind_some]
  cases is with
  | true =>
    obtain ⟨q1, q2, q3, q4, q5⟩ := h2 rfl
    obtain ⟨gl, a1, a2, a3⟩ := gaps_in (k := k) (a := a) (c := c) hI.sx hlx (by omega) (by omega) (by omega) (by omega)
    have hgl : (gl.length : Int) ≤ M := set_len (by omega) a2 (fun n hn => by have := ((a3 n).1 hn).1.2; omega)
    have hmem : ∀ r ∈ gl, r.f0 ≤ r.f1 := fun r hr => by
      obtain ⟨i, hi, rfl⟩ := List.getElem_of_mem hr
      exact set_ne a2 i hi
    have hr : ∀ r ∈ gl, r.f0 ≤ r.f1 ∧ 0 ≤ r.f0 ∧ r.f1 < 10000 := fun r hr => by
      have e := hmem r hr
      have i0 : In gl r.f0 := ⟨rg r, List.mem_map.2 ⟨r, hr, rfl⟩, Int.le_refl _, e⟩
      have i1 : In gl r.f1 := ⟨rg r, List.mem_map.2 ⟨r, hr, rfl⟩, e, Int.le_refl _⟩
      have j0 := ((a3 _).1 i0).1
      have j1 := ((a3 _).1 i1).1
      exact ⟨e, by omega, by omega⟩
    simp only [if_true]
    rw [a1, Option.bind_some]
    obtain ⟨q, hq⟩ : ∃ q, k = q + gl.length + 1 := ⟨k - gl.length - 1, by omega⟩
    obtain ⟨y', e1, e2, e3⟩ := lost_run_ex (b := b) (t := t) (d := d) (x := x) (g := g) (h := h) fin gl (by omega) hr gl.length 0 y q (by omega) hI.sy (fun n hn => by have := hI.iy n hn; omega) (by omega)
    have iff : ∀ m, In y' m ↔ In y m ∨ (b ≤ m ∧ off ≤ m ∧ m < off + n ∧ ¬ In x m) := fun m => by
      rw [e3]
      have e4 : memR ((gl.drop 0).map rg) m ↔ (a ≤ m ∧ m ≤ c) ∧ ¬ In x m := a3 m
      rw [e4]
      constructor
      · rintro (z | ⟨z, z2⟩)
        · exact Or.inl z
        · exact Or.inr ⟨by omega, by omega, by omega, z2⟩
      · rintro (z | ⟨z1, z2, z3, z4⟩)
        · exact Or.inl z
        · exact Or.inr ⟨by omega, z4⟩
    rw [hq]
    refine ⟨y', e1, ⟨hb0, hbM, hI.sx, e2, hI.ix, fun m hm => ?_, fun m hx hy => ?_, fun _ => rfl⟩, iff⟩
    · rcases (iff m).1 hm with z | z
      · exact hI.iy m z
      · omega
    · rcases (iff m).1 hy with z | z
      · exact hI.dis m hx z
      · exact z.2.2.2 hx
  | false =>
    have h3 := h3 rfl
    have iff : ∀ m, In y m ↔ In y m ∨ (b ≤ m ∧ off ≤ m ∧ m < off + n ∧ ¬ In x m) := fun m => ⟨Or.inl, fun z => z.elim id (fun z => by omega)⟩
    have inv : ∀ g', Inv M b d x y true g' := fun g' => ⟨hb0, hbM, hI.sx, hI.sy, hI.ix, hI.iy, hI.dis, fun _ => rfl⟩
    simp only [Bool.false_eq_true, if_false]
    cases g with
    | true => exact ⟨y, rfl, inv _, iff⟩
    | false =>
      cases fin with
      | true => exact ⟨y, rfl, inv _, iff⟩
      | false => exact ⟨y, rfl, inv _, iff⟩
theorem ba_extract_all (d : ByteArray) : d.extract 0 d.size = d := by
  apply ByteArray.ext
  rw [ByteArray.data_extract]
  exact Array.extract_size
theorem ba_ext2 (T : ByteArray) (b off n : Nat) (h1 : b ≤ off) (h2 : off + n ≤ T.size) : (T.extract b T.size).extract (off - b) (off - b + n) = T.extract off (off + n) := by
  rw [ByteArray.extract_extract]
  congr 1 <;> omega
theorem slide_ex {M b : Int} {d : ByteArray} {x y : List S67} {f g : Bool} (hI : Inv M b d x y f g) (hM : M ≤ 10000) :
    b ≤ slideB b x ∧ slideB b x + ((slideD b d x).size : Int) = b + (d.size : Int) ∧ slideD b d x = d.extract (slideB b x - b).toNat d.size ∧ (∀ m, slideB b x ≤ m → (In (slideT b x) m ↔ In x m)) ∧ ¬ In (slideT b x) (slideB b x) := by
  have hb0 := hI.b0
  have hbM := hI.bM
  unfold slideB slideD slideT
  by_cases s : slideStay b x
  · rw [if_pos s, if_pos s, if_pos s]
    refine ⟨Int.le_refl _, rfl, ?_, fun _ _ => Iff.rfl, ?_⟩
    · rw [show (b - b).toNat = 0 by omega, ba_extract_all]
    · cases x with
      | nil => exact in_nil b
      | cons r t =>
        obtain ⟨m1, m2, m3, m4⟩ := hI.sx
        have m1 : r.f0 ≤ r.f1 := m1
        have m4 : mayR (r.f1 + 2) (t.map rg) := m4
        have e0 : rd_T67 (r :: t) 0 = r := rfl
        have hlo : b < r.f0 := by
          rcases s with s | s
          · simp at s
          · rw [e0] at s; exact s
        intro z
        rcases (memR_cons _ _ _).1 z with z | z
        · have : r.f0 ≤ b := z.1
          omega
        · have := (mayR_low m4 b z).1
          omega
  · rw [if_neg s, if_neg s, if_neg s]
    cases x with
    | nil => exact absurd (Or.inl rfl) s
    | cons r t =>
      obtain ⟨m1, m2, m3, m4⟩ := hI.sx
      have m1 : r.f0 ≤ r.f1 := m1
      have m4 : mayR (r.f1 + 2) (t.map rg) := m4
      have e0 : rd_T67 (r :: t) 0 = r := rfl
      have hlo : ¬ b < r.f0 := fun z => s (Or.inr (by rw [e0]; exact z))
      have i0 : In (r :: t) r.f0 := (memR_cons _ _ _).2 (Or.inl ⟨Int.le_refl _, m1⟩)
      have i1 : In (r :: t) r.f1 := (memR_cons _ _ _).2 (Or.inl ⟨m1, Int.le_refl _⟩)
      have j0 := hI.ix _ i0
      have j1 := hI.ix _ i1
      have eT : slideTo (r :: t) = r.f1 + 1 := by unfold slideTo; rw [e0]; exact wrap_u64 (by omega)
      have eN : slideN b (r :: t) = r.f1 + 1 - b := by unfold slideN; rw [eT]; exact wrap_u64 (by omega)
      have hsz : (d.extract (r.f1 + 1 - b).toNat d.size).size = d.size - (r.f1 + 1 - b).toNat := by rw [ByteArray.size_extract]; omega
      have low : ∀ n, In t n → r.f1 + 2 ≤ n := fun n hn => (mayR_low m4 n hn).1
      rw [eN, eT]
      refine ⟨by omega, by rw [hsz]; omega, rfl, fun m hm => ⟨fun z => (memR_cons _ _ _).2 (Or.inr z), fun z => ?_⟩, fun z => ?_⟩
      · rcases (memR_cons _ _ _).1 z with z | z
        · have : m ≤ r.f1 := z.2
          omega
        · exact z
      · have := low _ z
        omega
theorem acked_ex {M b t : Int} {d : ByteArray} {x y : List S67} {g h : Bool} (hI : Inv M b d x y true g) (hM : M ≤ 10000) (hnb : ¬ In x b) {off n : Int} (ho : 0 ≤ off) (hn : 0 ≤ n) (he : off + n ≤ b + (d.size : Int)) (fin : Bool) (k : Nat) (hk : 60000 ≤ k) :
    ∃ b' d' x' y', sendq_Acked.f k b t d x y true g h off n fin = some (b', t, d', x', y', true, g && !fin, h || fin) ∧ Inv M b' d' x' y' true (g && !fin) ∧ b ≤ b' ∧ b' + (d'.size : Int) = b + (d.size : Int) ∧ d' = d.extract (b' - b).toNat d.size ∧
      (∀ m, b' ≤ m → (In x' m ↔ In x m ∨ (off ≤ m ∧ m < off + n))) ∧ (∀ m, In y' m ↔ In y m ∧ ¬ (off ≤ m ∧ m < off + n)) ∧ ¬ In x' b' := by
  have hb0 := hI.b0
  have hbM := hI.bM
  have hlx := hI.lx
  have hly := hI.ly
  obtain ⟨a, c, is, h1, h2, h3⟩ := win_ex (t := t) (x := x) (y := y) (f := true) (g := g) (h := h) hb0 (by omega) ho hn he
  unfold sendq_Acked.f
  rw [h1, Option.bind_some]
  cases is with
  | true =>
    obtain ⟨q1, q2, q3, q4, q5⟩ := h2 rfl
    obtain ⟨x2, a1, a2, a3⟩ := add_in (k := k) (a := a) (c := c) hI.sx hlx (by omega) (by omega) (by omega) (by omega)
    obtain ⟨y2, b1, b2, b3⟩ := cut_in (k := k) (a := a) (c := c) hI.sy hly (by omega) (by omega) (by omega) (by omega)
    have hI2 : ∀ g', Inv M b d x2 y2 true g' := fun g' => ⟨hb0, hbM, a2, b2, fun m hm => by
      rcases (a3 m).1 hm with z | z
      · exact hI.ix m z
      · omega, fun m hm => hI.iy m ((b3 m).1 hm).1, fun m hm hy => by
      rcases (a3 m).1 hm with z | z
      · exact hI.dis m z ((b3 m).1 hy).1
      · exact ((b3 m).1 hy).2 z, fun _ => rfl⟩
    have iffy : ∀ m, In y2 m ↔ In y m ∧ ¬ (off ≤ m ∧ m < off + n) := fun m => by
      rw [b3]
      constructor
      · rintro ⟨z1, z2⟩
        have := hI.iy m z1
        exact ⟨z1, by omega⟩
      · rintro ⟨z1, z2⟩
        exact ⟨z1, by omega⟩
    simp only [if_true]
    rw [a1, Option.bind_some, b1, Option.bind_some]
    have fin_ : ∀ g' h', ∃ b' d' x' y', ackEnd b t d x2 y2 true g' h' = some (b', t, d', x', y', true, g', h') ∧ Inv M b' d' x' y' true g' ∧ b ≤ b' ∧ b' + (d'.size : Int) = b + (d.size : Int) ∧ d' = d.extract (b' - b).toNat d.size ∧
        (∀ m, b' ≤ m → (In x' m ↔ In x m ∨ (off ≤ m ∧ m < off + n))) ∧ (∀ m, In y' m ↔ In y m ∧ ¬ (off ≤ m ∧ m < off + n)) ∧ ¬ In x' b' := fun g' h' => by
      obtain ⟨s1, s2⟩ := inv_slide (hI2 g') hM
      obtain ⟨u1, u2, u3, u4, u5⟩ := slide_ex (hI2 g') hM
      unfold ackEnd
      rw [if_pos s1]
      refine ⟨_, _, _, _, rfl, s2, u1, u2, u3, fun m hm => ?_, iffy, u5⟩
      rw [u4 m hm, a3]
      constructor
      · rintro (z | z)
        · exact Or.inl z
        · exact Or.inr (by omega)
      · rintro (z | z)
        · exact Or.inl z
        · exact Or.inr (by omega)
    cases fin with
    | true =>
      have e := fin_ false true
      cases g <;> cases h <;> exact e
    | false =>
      have e := fin_ g h
      cases g <;> cases h <;> exact e
  | false =>
    have h3 := h3 rfl
    have inv : ∀ g', Inv M b d x y true g' := fun g' => ⟨hb0, hbM, hI.sx, hI.sy, hI.ix, hI.iy, hI.dis, fun _ => rfl⟩
    have ey : d = d.extract (b - b).toNat d.size := by rw [show (b - b).toNat = 0 by omega, ba_extract_all]
    have iffx : ∀ m, b ≤ m → (In x m ↔ In x m ∨ (off ≤ m ∧ m < off + n)) := fun m hm => ⟨Or.inl, fun z => z.elim id (fun z => by omega)⟩
    have iffy : ∀ m, In y m ↔ In y m ∧ ¬ (off ≤ m ∧ m < off + n) := fun m => ⟨fun z => ⟨z, by have := hI.iy m z; omega⟩, fun z => z.1⟩
    simp only [Bool.false_eq_true, if_false]
    cases fin with
    | true => cases g <;> cases h <;> exact ⟨b, d, x, y, rfl, inv _, Int.le_refl _, rfl, ey, iffx, iffy, hnb⟩
    | false => cases g <;> cases h <;> exact ⟨b, d, x, y, rfl, inv _, Int.le_refl _, rfl, ey, iffx, iffy, hnb⟩
theorem next_ex {M b t : Int} {d : ByteArray} {x y : List S67} {g h : Bool} (hI : Inv M b d x y true g) (hM : M ≤ 900) {most : Int} (hm : 1 ≤ most ∧ most ≤ 100) :
    ∃ off s fin is, sendq_Next.f b t d x y true g h most 1000 = some (off, s, fin, is) ∧
      ((is = false ∧ y = [] ∧ g = false) ∨ (is = true ∧ s = (⟨#[]⟩ : ByteArray) ∧ fin = true ∧ g = true ∧ y = [] ∧ off = b + (d.size : Int)) ∨
       (is = true ∧ 0 < s.size ∧ b ≤ off ∧ off + (s.size : Int) ≤ b + (d.size : Int) ∧ s = d.extract (off - b).toNat ((off - b).toNat + s.size) ∧ (∀ m, off ≤ m → m < off + (s.size : Int) → In y m) ∧ (fin = true → g = true ∧ off + (s.size : Int) = b + (d.size : Int)))) := by
  have hb0 := hI.b0
  have hbM := hI.bM
  have he : sendq_State_end.f b t d x y true g h = some (b + (d.size : Int)) := end_f b t d x y true g h (by omega) (by omega)
  unfold sendq_Next.f
  cases y with
  | nil =>
    rw [if_pos (by rfl)]
    by_cases cg : g = true
    · rw [if_pos cg, he, Option.bind_some, cg]
      exact ⟨_, _, _, _, rfl, Or.inr (Or.inl ⟨rfl, rfl, rfl, rfl, rfl, rfl⟩)⟩
    · have cg' : g = false := by simpa using cg
      rw [if_neg cg, cg']
      exact ⟨_, _, _, _, rfl, Or.inl ⟨rfl, rfl, rfl⟩⟩
  | cons r ys =>
    obtain ⟨m1, _, _, _⟩ := hI.sy
    have m1 : r.f0 ≤ r.f1 := m1
    have e0 : rd_T67 (r :: ys) 0 = r := rfl
    have j0 := hI.iy _ ((memR_cons _ _ _).2 (Or.inl ⟨Int.le_refl _, m1⟩) : In (r :: ys) r.f0)
    have j1 := hI.iy _ ((memR_cons _ _ _).2 (Or.inl ⟨m1, Int.le_refl _⟩) : In (r :: ys) r.f1)
    have w0 : mx 0 most = most := by unfold mx; omega
    have w1 : IntKind.u64.wrap most = most := wrap_u64 (by omega)
    have w2 : IntKind.u64.wrap (r.f1 + 1) = r.f1 + 1 := wrap_u64 (by omega)
    have w3 : IntKind.u64.wrap (r.f0 + most) = r.f0 + most := wrap_u64 (by omega)
    obtain ⟨tt, hto⟩ : ∃ tt : Int, mn (mn (r.f1 + 1) (r.f0 + most)) 1000 = tt := ⟨_, rfl⟩
    have t1 : tt ≤ r.f1 + 1 ∧ tt ≤ r.f0 + most ∧ r.f0 + 1 ≤ tt := by rw [← hto]; unfold mn; omega
    have l0 : ¬ (((r :: ys).length : Nat) : Int) = 0 := by rw [List.length_cons]; omega
    have l1 : (0 : Int) < (((r :: ys).length : Nat) : Int) := by rw [List.length_cons]; omega
    rw [if_neg l0, if_pos l1, e0, w0, w1, w2, w3, hto]
    have w4 : IntKind.u64.wrap (r.f0 - b) = r.f0 - b := wrap_u64 (by omega)
    have w5 : IntKind.u64.wrap (tt - b) = tt - b := wrap_u64 (by omega)
    have hsz : ((d.extract (r.f0 - b).toNat (tt - b).toNat).size : Int) = tt - r.f0 := by rw [ByteArray.size_extract]; omega
    have c : ∀ fin : Bool, (fin = true → g = true ∧ tt = b + (d.size : Int)) → ((true = false ∧ r :: ys = [] ∧ g = false) ∨ (true = true ∧ (d.extract (r.f0 - b).toNat (tt - b).toNat) = (⟨#[]⟩ : ByteArray) ∧ fin = true ∧ g = true ∧ r :: ys = [] ∧ r.f0 = b + (d.size : Int)) ∨
        (true = true ∧ 0 < (d.extract (r.f0 - b).toNat (tt - b).toNat).size ∧ b ≤ r.f0 ∧ r.f0 + ((d.extract (r.f0 - b).toNat (tt - b).toNat).size : Int) ≤ b + (d.size : Int) ∧ (d.extract (r.f0 - b).toNat (tt - b).toNat) = d.extract (r.f0 - b).toNat ((r.f0 - b).toNat + (d.extract (r.f0 - b).toNat (tt - b).toNat).size) ∧
          (∀ m, r.f0 ≤ m → m < r.f0 + ((d.extract (r.f0 - b).toNat (tt - b).toNat).size : Int) → In (r :: ys) m) ∧ (fin = true → g = true ∧ r.f0 + ((d.extract (r.f0 - b).toNat (tt - b).toNat).size : Int) = b + (d.size : Int)))) := fun fin hf => by
      refine Or.inr (Or.inr ⟨rfl, by omega, by omega, by omega, ?_, fun m hm1 hm2 => ?_, fun z => ?_⟩)
      · congr 1
        omega
      · refine (memR_cons _ _ _).2 (Or.inl ⟨hm1, ?_⟩)
        show m ≤ r.f1
        omega
      · have := hf z
        exact ⟨this.1, by omega⟩
    rw [if_neg (by omega), w4, w5, if_pos (by omega), if_pos (by omega), if_pos (by omega), if_pos rfl]
    by_cases cg : g = true
    · rw [if_pos cg, he, Option.bind_some]
      exact ⟨_, _, _, _, rfl, c _ (fun z => ⟨cg, eq_of_beq z⟩)⟩
    · rw [if_neg cg]
      exact ⟨_, _, _, _, rfl, c _ (fun z => by cases z)⟩
open Go.Proofs.YtocagkmnefkniaaR
/-! ### SendqAll: what is out, and what holds between -/
def wt (o : S57) : Int := o.f1 + (if o.f2 = true then 1 else 0)
def wsum : List S57 → Int
  | [] => 0
  | o :: l => wt o + wsum l
def bit (g : Bool) : Int := if g = true then 1 else 0
theorem bit_le (g : Bool) : 0 ≤ bit g ∧ bit g ≤ 1 := by cases g <;> decide
theorem wt_bit (a b : Int) (f : Bool) : wt ⟨a, b, f⟩ = b + bit f := rfl
theorem wt_of (o : S57) : wt o = o.f1 + bit o.f2 := rfl
theorem wsum_app : ∀ a b : List S57, wsum (a ++ b) = wsum a + wsum b
  | [], b => by show wsum b = 0 + wsum b; omega
  | o :: a, b => by
    show wt o + wsum (a ++ b) = wt o + wsum a + wsum b
    rw [wsum_app a b]
    omega
theorem wsum_len : ∀ out : List S57, (∀ o ∈ out, 1 ≤ wt o) → (out.length : Int) ≤ wsum out
  | [], _ => Int.le_refl _
  | o :: l, h => by
    have h1 := h o List.mem_cons_self
    have h2 := wsum_len l (fun q hq => h q (List.mem_cons_of_mem _ hq))
    show ((l.length + 1 : Nat) : Int) ≤ wt o + wsum l
    omega
def rem (out : List S57) (i : Nat) : List S57 := ([] ++ out.take i) ++ out.drop (i + 1)
theorem rem_says (out : List S57) (i : Nat) (h : i < out.length) : wsum out = wsum (rem out i) + wt out[i] ∧ out.length = (rem out i).length + 1 ∧ ∀ o, o ∈ out ↔ o ∈ rem out i ∨ o = out[i] := by
  have e : out = out.take i ++ out[i] :: out.drop (i + 1) := by
    rw [List.getElem_cons_drop, List.take_append_drop]
  have er : rem out i = out.take i ++ out.drop (i + 1) := by unfold rem; rw [List.nil_append]
  rw [er]
  refine ⟨?_, ?_, fun o => ?_⟩
  · conv => lhs; rw [e]
    rw [wsum_app, wsum_app]
    show wsum _ + (wt out[i] + wsum _) = _
    omega
  · rw [List.length_append, List.length_take, List.length_drop]
    omega
  · conv => lhs; rw [e]
    rw [List.mem_append, List.mem_cons, List.mem_append]
    constructor
    · rintro (z | z | z)
      · exact Or.inl (Or.inl z)
      · exact Or.inr z
      · exact Or.inl (Or.inr z)
    · rintro ((z | z) | z)
      · exact Or.inl z
      · exact Or.inr (Or.inr z)
      · exact Or.inr (Or.inl z)
structure AI (T : ByteArray) (out : List S57) (b t : Int) (d : ByteArray) (x y : List S67) (g h : Bool) : Prop where
  inv : Inv (T.size : Int) b d x y true g
  hN : b + (d.size : Int) = (T.size : Int)
  dT : d = T.extract b.toNat T.size
  nb : ¬ In x b
  cov : ∀ m, b ≤ m → m < (T.size : Int) → In x m ∨ In y m ∨ ∃ o ∈ out, o.f0 ≤ m ∧ m < o.f0 + o.f1
  fc : g = true ∨ h = true ∨ ∃ o ∈ out, o.f2 = true
  pc : ∀ o ∈ out, 0 ≤ o.f0 ∧ 0 ≤ o.f1 ∧ o.f0 + o.f1 ≤ t ∧ 1 ≤ wt o
  t0 : 0 ≤ t ∧ t ≤ (T.size : Int)
  tc : ∀ m, 0 ≤ m → m < (T.size : Int) → In y m ∨ m < t
  V : cn y T.size + wsum out + bit g ≤ (T.size : Int) + 1
def pot (T : ByteArray) (out : List S57) (y : List S67) (g : Bool) : Int := (out.length : Int) + 2 * cn y T.size + 2 * bit g
theorem AI.len {T : ByteArray} {out : List S57} {b t : Int} {d : ByteArray} {x y : List S67} {g h : Bool} (hA : AI T out b t d x y g h) : (out.length : Int) ≤ (T.size : Int) + 1 := by
  have h1 := wsum_len out (fun o ho => (hA.pc o ho).2.2.2)
  have h2 := hA.V
  have h3 := (cn_nn y T.size).1
  have h4 := (bit_le g).1
  omega
theorem AI.pot_le {T : ByteArray} {out : List S57} {b t : Int} {d : ByteArray} {x y : List S67} {g h : Bool} (hA : AI T out b t d x y g h) : 0 ≤ pot T out y g ∧ pot T out y g ≤ 2 * (T.size : Int) + 2 := by
  have h1 := wsum_len out (fun o ho => (hA.pc o ho).2.2.2)
  have h2 := hA.V
  have h3 := (cn_nn y T.size).1
  have h4 := (bit_le g).1
  unfold pot
  omega
theorem bit_and (g f : Bool) : bit (g && !f) ≤ bit g ∧ (f = true → g = true → bit (g && !f) + 1 = bit g) ∧ (f = false → bit (g && !f) = bit g) := by cases g <;> cases f <;> decide
theorem bit_or (g f h : Bool) : bit (g || (f && !h)) ≤ bit g + bit f := by cases g <;> cases f <;> cases h <;> decide
theorem ai_sent {T : ByteArray} (hT : T.size ≤ 200) {out : List S57} {b t : Int} {d : ByteArray} {x y : List S67} {g h : Bool} (hA : AI T out b t d x y g h) {off n : Int} {fin : Bool} (hn : 0 ≤ n) (hb : b ≤ off) (he : off + n ≤ (T.size : Int))
    (hy : ∀ m, off ≤ m → m < off + n → In y m) (hf : fin = true → g = true) (hw : 1 ≤ n + bit fin) (k : Nat) (hk : 60000 ≤ k) :
    ∃ t' y' g', sendq_Sent.f k b t d x y true g h off n fin = some (b, t', d, x, y', true, g', h) ∧ AI T (out ++ [⟨off, n, fin⟩]) b t' d x y' g' h ∧ pot T (out ++ [⟨off, n, fin⟩]) y' g' + 1 ≤ pot T out y g := by
  have hb0 := hA.inv.b0
  have hN := hA.hN
  have ht := hA.t0
  obtain ⟨y', e1, e2, e3⟩ := sent_ex (t := t) (h := h) hA.inv (by omega) (off := off) (n := n) (by omega) hn (by omega) fin k (by omega)
  obtain ⟨t', ht'⟩ : ∃ t' : Int, mx t (off + n) = t' := ⟨_, rfl⟩
  have ht2 : t ≤ t' ∧ off + n ≤ t' ∧ t' ≤ (T.size : Int) := by rw [← ht']; unfold mx; omega
  rw [ht'] at e1
  have hc := cn_cut (a := off) (c := off + n) (fun m hm => (e3 m).1 hm) hy (by omega) (by omega) T.size
  have hc2 : mn (off + n) (T.size : Int) - mn off (T.size : Int) = n := by unfold mn; omega
  rw [hc2] at hc
  obtain ⟨g1, g2, g3⟩ := bit_and g fin
  have hbits : bit (g && !fin) + bit fin ≤ bit g := by
    cases fin with
    | true =>
      have z := g2 rfl (hf rfl)
      have z2 : bit true = 1 := rfl
      omega
    | false =>
      have z := g3 rfl
      have z2 : bit false = 0 := rfl
      omega
  have hV := hA.V
  have hbf := (bit_le fin).1
  refine ⟨t', y', _, e1, ⟨e2, hN, hA.dT, hA.nb, fun m h1 h2 => ?_, ?_, fun o ho => ?_, ⟨by omega, by omega⟩, fun m h1 h2 => ?_, ?_⟩, ?_⟩
  · rcases hA.cov m h1 h2 with z | z | ⟨o, z1, z2⟩
    · exact Or.inl z
    · by_cases c : off ≤ m ∧ m < off + n
      · exact Or.inr (Or.inr ⟨_, List.mem_append.2 (Or.inr (List.mem_singleton.2 rfl)), c⟩)
      · exact Or.inr (Or.inl ((e3 m).2 ⟨z, c⟩))
    · exact Or.inr (Or.inr ⟨o, List.mem_append.2 (Or.inl z1), z2⟩)
  · cases fin with
    | true => exact Or.inr (Or.inr ⟨_, List.mem_append.2 (Or.inr (List.mem_singleton.2 rfl)), rfl⟩)
    | false =>
      rcases hA.fc with z | z | ⟨o, z1, z2⟩
      · left; rw [z]; rfl
      · exact Or.inr (Or.inl z)
      · exact Or.inr (Or.inr ⟨o, List.mem_append.2 (Or.inl z1), z2⟩)
  · rcases List.mem_append.1 ho with z | z
    · obtain ⟨p1, p2, p3, p4⟩ := hA.pc o z
      exact ⟨p1, p2, by omega, p4⟩
    · rw [List.mem_singleton.1 z]
      exact ⟨by show 0 ≤ off; omega, hn, ht2.2.1, hw⟩
  · rcases hA.tc m h1 h2 with z | z
    · by_cases c : off ≤ m ∧ m < off + n
      · right; omega
      · exact Or.inl ((e3 m).2 ⟨z, c⟩)
    · right; omega
  · rw [wsum_app]
    have e : wsum [(⟨off, n, fin⟩ : S57)] = n + bit fin := by
      show wt _ + 0 = _
      rw [wt_bit]
      omega
    rw [e]
    omega
  · unfold pot
    rw [List.length_append]
    show ((out.length + 1 : Nat) : Int) + _ + _ + 1 ≤ _
    omega
theorem ai_ack {T : ByteArray} (hT : T.size ≤ 200) {out : List S57} {b t : Int} {d : ByteArray} {x y : List S67} {g h : Bool} (hA : AI T out b t d x y g h) (i : Nat) (hi : i < out.length) (k : Nat) (hk : 60000 ≤ k) :
    ∃ b' d' x' y' g' h', sendq_Acked.f k b t d x y true g h out[i].f0 out[i].f1 out[i].f2 = some (b', t, d', x', y', true, g', h') ∧ AI T (rem out i) b' t d' x' y' g' h' ∧ pot T (rem out i) y' g' + 1 ≤ pot T out y g := by
  have hb0 := hA.inv.b0
  have hN := hA.hN
  have ht := hA.t0
  obtain ⟨p1, p2, p3, p4⟩ := hA.pc out[i] (List.getElem_mem hi)
  obtain ⟨r1, r2, r3⟩ := rem_says out i hi
  obtain ⟨b', d', x', y', e1, e2, e3, e4, e5, e6, e7, e8⟩ := acked_ex (t := t) (h := h) hA.inv (by omega) hA.nb p1 p2 (by omega) out[i].f2 k hk
  have hc := cn_mono (s := y) (t := y') (fun m hm => ((e7 m).1 hm).1) T.size
  obtain ⟨g1, _, _⟩ := bit_and g out[i].f2
  have hV := hA.V
  refine ⟨b', d', x', y', _, _, e1, ⟨e2, by omega, ?_, e8, fun m h1 h2 => ?_, ?_, fun o ho => hA.pc o ((r3 o).2 (Or.inl ho)), ht, fun m h1 h2 => ?_, ?_⟩, ?_⟩
  · have hs : (T.extract b.toNat T.size).size = T.size - b.toNat := by rw [ByteArray.size_extract]; omega
    have hb1 : b' ≤ (T.size : Int) := by omega
    have hd := hA.dT
    rw [e5, hd, hs]
    have z := ba_ext2 T b.toNat b'.toNat (T.size - b'.toNat) (by omega) (by omega)
    rw [show (b' - b).toNat = b'.toNat - b.toNat by omega, show T.size - b.toNat = b'.toNat - b.toNat + (T.size - b'.toNat) by omega, z]
    congr 1
    omega
  · have hm : b ≤ m := by omega
    rcases hA.cov m hm h2 with z | z | ⟨o, z1, z2⟩
    · exact Or.inl ((e6 m h1).2 (Or.inl z))
    · by_cases c : out[i].f0 ≤ m ∧ m < out[i].f0 + out[i].f1
      · exact Or.inl ((e6 m h1).2 (Or.inr c))
      · exact Or.inr (Or.inl ((e7 m).2 ⟨z, c⟩))
    · rcases (r3 o).1 z1 with q | q
      · exact Or.inr (Or.inr ⟨o, q, z2⟩)
      · rw [q] at z2
        exact Or.inl ((e6 m h1).2 (Or.inr z2))
  · rcases hA.fc with z | z | ⟨o, z1, z2⟩
    · cases hfin : out[i].f2 with
      | true => right; left; cases h <;> rfl
      | false => left; rw [z]; rfl
    · right; left; rw [z]; rfl
    · rcases (r3 o).1 z1 with q | q
      · exact Or.inr (Or.inr ⟨o, q, z2⟩)
      · rw [q] at z2
        right; left; rw [z2]; cases h <;> rfl
  · rcases hA.tc m h1 h2 with z | z
    · by_cases c : out[i].f0 ≤ m ∧ m < out[i].f0 + out[i].f1
      · right; omega
      · exact Or.inl ((e7 m).2 ⟨z, c⟩)
    · exact Or.inr z
  · omega
  · unfold pot
    omega
theorem ai_lost {T : ByteArray} (hT : T.size ≤ 200) {out : List S57} {b t : Int} {d : ByteArray} {x y : List S67} {g h : Bool} (hA : AI T out b t d x y g h) (i : Nat) (hi : i < out.length) (k : Nat) (hk : 60000 ≤ k) :
    ∃ y' g', sendq_Lost.f k b t d x y true g h out[i].f0 out[i].f1 out[i].f2 = some (b, t, d, x, y', true, g', h) ∧ AI T (rem out i) b t d x y' g' h := by
  have hb0 := hA.inv.b0
  have hN := hA.hN
  have ht := hA.t0
  obtain ⟨p1, p2, p3, p4⟩ := hA.pc out[i] (List.getElem_mem hi)
  obtain ⟨r1, r2, r3⟩ := rem_says out i hi
  obtain ⟨y', e1, e2, e3⟩ := lost_ex (t := t) (h := h) hA.inv (by omega) p1 p2 (by omega) out[i].f2 k hk
  have hc := cn_add (s := y) (t := y') (a := out[i].f0) (c := out[i].f0 + out[i].f1) (fun m hm => by
    rcases (e3 m).1 hm with z | z
    · exact Or.inl z
    · exact Or.inr ⟨z.2.1, z.2.2.1⟩) p1 (by omega) T.size
  have hc2 : mn (out[i].f0 + out[i].f1) (T.size : Int) - mn out[i].f0 (T.size : Int) = out[i].f1 := by
    generalize out[i] = o at *
    unfold mn; omega
  rw [hc2] at hc
  have g1 := bit_or g out[i].f2 h
  have hV := hA.V
  have hw := wt_of out[i]
  refine ⟨y', _, e1, ⟨e2, hN, hA.dT, hA.nb, fun m h1 h2 => ?_, ?_, fun o ho => hA.pc o ((r3 o).2 (Or.inl ho)), ht, fun m h1 h2 => ?_, ?_⟩⟩
  · rcases hA.cov m h1 h2 with z | z | ⟨o, z1, z2⟩
    · exact Or.inl z
    · exact Or.inr (Or.inl ((e3 m).2 (Or.inl z)))
    · rcases (r3 o).1 z1 with q | q
      · exact Or.inr (Or.inr ⟨o, q, z2⟩)
      · rw [q] at z2
        by_cases c : In x m
        · exact Or.inl c
        · exact Or.inr (Or.inl ((e3 m).2 (Or.inr ⟨h1, z2.1, z2.2, c⟩)))
  · rcases hA.fc with z | z | ⟨o, z1, z2⟩
    · left; rw [z]; rfl
    · right; left; exact z
    · rcases (r3 o).1 z1 with q | q
      · exact Or.inr (Or.inr ⟨o, q, z2⟩)
      · rw [q] at z2
        rw [z2]
        cases h with
        | true => right; left; rfl
        | false => left; cases g <;> rfl
  · rcases hA.tc m h1 h2 with z | z
    · exact Or.inl ((e3 m).2 (Or.inl z))
    · exact Or.inr z
  · omega
theorem tmod_20 (p : Int) (hp : 0 ≤ p ∧ p < 256) : 0 ≤ Int.tmod p 20 ∧ Int.tmod p 20 < 20 := ⟨Int.tmod_nonneg _ hp.1, Int.tmod_lt_of_pos _ (by omega)⟩
theorem j5_send {T : ByteArray} (hT : T.size ≤ 200) (l : List Int) {out : List S57} (i : Nat) (hi : i < 10000) {b t : Int} {d : ByteArray} {x y : List S67} {g h : Bool} (hA : AI T out b t d x y g h) (p : Int) (hp : 0 ≤ p ∧ p < 256) (k : Nat) (hk : 60000 ≤ k) :
    ∃ out' t' y' g', dominolaw15_SendqAll.j5 (k + 1) T l out (i : Int) p true b t d x y true g h = dominolaw15_SendqAll.l0 k T l out' ((i + 1 : Nat) : Int) b t' d x y' true g' h ∧ AI T out' b t' d x y' g' h ∧ (pot T out' y' g' + 1 ≤ pot T out y g ∨ (pot T out' y' g' = (out.length : Int) ∧ out' = out)) := by
  have hb0 := hA.inv.b0
  have hN := hA.hN
  have hlen := hA.len
  have hw : wrap64 ((i : Int) + 1) = ((i + 1 : Nat) : Int) := w64 i (by omega)
  have hp1 : wrap64 p = p := by unfold wrap64; omega
  have hp2 := tmod_20 p hp
  have hp3 : wrap64 (1 + Int.tmod p 20) = 1 + Int.tmod p 20 := by
    generalize Int.tmod p 20 = q at hp2
    unfold wrap64; omega
  obtain ⟨off, s, fin, is, e1, e2⟩ := next_ex (t := t) (h := h) hA.inv (by omega) (most := 1 + Int.tmod p 20) (by omega)
  rw [dominolaw15_SendqAll.j5, if_pos rfl, hp1, hp3, e1, Option.bind_some]
  have main : 0 ≤ off → off + (s.size : Int) ≤ (T.size : Int) → (T.extract off.toNat (off + (s.size : Int)).toNat).toList = s.toList → (fin = true → off + (s.size : Int) = (T.size : Int)) →
      (∃ t' y' g', sendq_Sent.f k b t d x y true g h off (s.size : Int) fin = some (b, t', d, x, y', true, g', h) ∧ AI T (out ++ [⟨off, (s.size : Int), fin⟩]) b t' d x y' g' h ∧ pot T (out ++ [⟨off, (s.size : Int), fin⟩]) y' g' + 1 ≤ pot T out y g) →
      ∃ out' t' y' g', (if (IntKind.u64.wrap (off + (IntKind.u64.wrap ((s.size : Int))))) > (IntKind.u64.wrap ((T.size : Int))) then (none) else (if 0 ≤ off then (if off ≤ (IntKind.u64.wrap (off + (IntKind.u64.wrap ((s.size : Int))))) then (if (IntKind.u64.wrap (off + (IntKind.u64.wrap ((s.size : Int))))) ≤ (T.size : Int) then (if (T.extract (off : Int).toNat ((IntKind.u64.wrap (off + (IntKind.u64.wrap ((s.size : Int))))) : Int).toNat).toList = s.toList then (if fin = true then (if (IntKind.u64.wrap (off + (IntKind.u64.wrap ((s.size : Int))))) = (IntKind.u64.wrap ((T.size : Int))) then ((sendq_Sent.f k b t d x y true g h off (s.size : Int) fin).bind fun bt272 => (if out.length < 5864062014805 then (dominolaw15_SendqAll.l0 k T l (out ++ [(⟨off, (s.size : Int), fin⟩ : S57)]) (wrap64 ((i : Int) + 1)) bt272.1 bt272.2.1 bt272.2.2.1 bt272.2.2.2.1 bt272.2.2.2.2.1 bt272.2.2.2.2.2.1 bt272.2.2.2.2.2.2.1 bt272.2.2.2.2.2.2.2) else (none))) else (none)) else ((sendq_Sent.f k b t d x y true g h off (s.size : Int) fin).bind fun bt287 => (if out.length < 5864062014805 then (dominolaw15_SendqAll.l0 k T l (out ++ [(⟨off, (s.size : Int), fin⟩ : S57)]) (wrap64 ((i : Int) + 1)) bt287.1 bt287.2.1 bt287.2.2.1 bt287.2.2.2.1 bt287.2.2.2.2.1 bt287.2.2.2.2.2.1 bt287.2.2.2.2.2.2.1 bt287.2.2.2.2.2.2.2) else (none)))) else (none)) else (none)) else (none)) else (none))) = dominolaw15_SendqAll.l0 k T l out' ((i + 1 : Nat) : Int) b t' d x y' true g' h ∧ AI T out' b t' d x y' g' h ∧ (pot T out' y' g' + 1 ≤ pot T out y g ∨ (pot T out' y' g' = (out.length : Int) ∧ out' = out)) := by
    rintro h1 h2 h3 h4 ⟨t', y', g', q1, q2, q3⟩
    have w1 : IntKind.u64.wrap (s.size : Int) = (s.size : Int) := wrap_u64 (by omega)
    have w2 : IntKind.u64.wrap (off + (s.size : Int)) = off + (s.size : Int) := wrap_u64 (by omega)
    have w3 : IntKind.u64.wrap (T.size : Int) = (T.size : Int) := wrap_u64 (by omega)
    refine ⟨_, t', y', g', ?_, q2, Or.inl q3⟩
    have hl2 : out.length < 5864062014805 := by omega
    rw [w1, w2, w3, if_neg (by omega), if_pos h1, if_pos (by omega), if_pos h2, if_pos h3]
    by_cases c : fin = true
    · rw [if_pos c, if_pos (h4 c), q1, Option.bind_some, if_pos hl2, hw]
    · rw [if_neg c, q1, Option.bind_some, if_pos hl2, hw]
  rcases e2 with ⟨z1, z2, z3⟩ | ⟨z1, z2, z3, z4, z5, z6⟩ | ⟨z1, z2, z3, z4, z5, z6, z7⟩
  · subst z1
    have c0 : ¬ (false = true) := by decide
    rw [if_neg c0, hw]
    refine ⟨out, t, y, g, rfl, hA, Or.inr ⟨?_, rfl⟩⟩
    unfold pot
    rw [z2, z3, cn_nil]
    show (out.length : Int) + 2 * 0 + 2 * 0 = _
    omega
  · subst z1
    rw [if_pos rfl]
    subst z2
    have hz : (((⟨#[]⟩ : ByteArray).size : Nat) : Int) = 0 := rfl
    refine main (by omega) (by rw [hz]; omega) ?_ (fun _ => by rw [hz]; omega) (ai_sent hT hA (by rw [hz]; omega) (by omega) (by rw [hz]; omega) (fun m h1 h2 => by rw [hz] at h2; omega) (fun _ => z4) (by rw [hz, z3]; decide) k hk)
    have e0 : (T.extract off.toNat (off + (((⟨#[]⟩ : ByteArray).size : Nat) : Int)).toNat) = (⟨#[]⟩ : ByteArray) := by
      rw [hz, show (off + 0).toNat = off.toNat by omega]
      apply ByteArray.ext
      rw [ByteArray.data_extract]
      apply Array.ext'
      simp
    rw [e0]
  · subst z1
    rw [if_pos rfl]
    have hbz : 0 ≤ bit fin := (bit_le fin).1
    refine main (by omega) (by omega) ?_ (fun z => by have := (z7 z).2; omega) (ai_sent hT hA (by omega) z3 (by omega) z6 (fun z => (z7 z).1) (by omega) k hk)
    have hd := hA.dT
    have e0 : s = T.extract off.toNat (off.toNat + s.size) := by
      conv => lhs; rw [z5, hd]
      rw [show (off - b).toNat = off.toNat - b.toNat by omega]
      exact ba_ext2 T b.toNat off.toNat s.size (by omega) (by omega)
    rw [show (off + (s.size : Int)).toNat = off.toNat + s.size by omega, ← e0]
theorem rd57_at (l : List S57) (i : Nat) (h : i < l.length) : rd_T57 l (i : Int) = l[i] := by
  unfold rd_T57
  rw [Int.toNat_natCast]
  simp [List.getD_eq_getElem?_getD, h]
theorem j5_pick {T : ByteArray} (hT : T.size ≤ 200) (l : List Int) {out : List S57} (i : Nat) (hi : i < 10000) {b t : Int} {d : ByteArray} {x y : List S67} {g h : Bool} (hA : AI T out b t d x y g h) (p : Int) (hp : 0 ≤ p ∧ p < 256) (ho : out ≠ []) (k : Nat) (hk : 60000 ≤ k) :
    ∃ out' b' t' d' x' y' g' h', dominolaw15_SendqAll.j5 (k + 1) T l out (i : Int) p false b t d x y true g h = dominolaw15_SendqAll.l0 k T l out' ((i + 1 : Nat) : Int) b' t' d' x' y' true g' h' ∧ AI T out' b' t' d' x' y' g' h' ∧ (Int.tmod p 3 = 1 → pot T out' y' g' + 1 ≤ pot T out y g) := by
  have hlen := hA.len
  have hw : wrap64 ((i : Int) + 1) = ((i + 1 : Nat) : Int) := w64 i (by omega)
  have hpos : 0 < out.length := List.length_pos_iff.2 ho
  have hq0 : 0 ≤ (Int.tdiv p 3 % 256) % (out.length : Int) := Int.emod_nonneg _ (by omega)
  have hq1 : (Int.tdiv p 3 % 256) % (out.length : Int) < (out.length : Int) := Int.emod_lt_of_pos _ (by omega)
  obtain ⟨q, hq⟩ : ∃ q : Nat, (Int.tdiv p 3 % 256) % (out.length : Int) = (q : Int) := ⟨((Int.tdiv p 3 % 256) % (out.length : Int)).toNat, by omega⟩
  rw [hq] at hq0 hq1
  have hql : q < out.length := by omega
  have hwq : wrap64 ((q : Int) + 1) = ((q + 1 : Nat) : Int) := w64 q (by omega)
  have c0 : ¬ (false = true) := by decide
  have c1 : ¬ (out.length : Int) = 0 := by omega
  rw [dominolaw15_SendqAll.j5, if_neg c0, if_neg c1, hq, if_pos hq0, if_pos hq1, Option.bind_some, if_pos (by omega), Option.bind_some, Int.toNat_natCast]
  rw [if_pos (by rw [List.length_take, List.length_nil]; omega), Option.bind_some, hwq, if_pos (by omega), if_pos (by omega), Option.bind_some, Int.toNat_natCast]
  rw [if_pos (by rw [List.length_append, List.length_take, List.length_drop, List.length_nil]; omega), Option.bind_some, rd57_at out q hql, hw]
  show ∃ out' b' t' d' x' y' g' h', (if Int.tmod p 3 = 1 then ((sendq_Acked.f k b t d x y true g h out[q].f0 out[q].f1 out[q].f2).bind fun bt321 => (dominolaw15_SendqAll.l0 k T l (rem out q) ((i + 1 : Nat) : Int) bt321.1 bt321.2.1 bt321.2.2.1 bt321.2.2.2.1 bt321.2.2.2.2.1 bt321.2.2.2.2.2.1 bt321.2.2.2.2.2.2.1 bt321.2.2.2.2.2.2.2)) else ((sendq_Lost.f k b t d x y true g h out[q].f0 out[q].f1 out[q].f2).bind fun bt333 => (dominolaw15_SendqAll.l0 k T l (rem out q) ((i + 1 : Nat) : Int) bt333.1 bt333.2.1 bt333.2.2.1 bt333.2.2.2.1 bt333.2.2.2.2.1 bt333.2.2.2.2.2.1 bt333.2.2.2.2.2.2.1 bt333.2.2.2.2.2.2.2))) = _ ∧ _
  by_cases c : Int.tmod p 3 = 1
  · obtain ⟨b', d', x', y', g', h', e1, e2, e3⟩ := ai_ack hT hA q hql k hk
    rw [if_pos c, e1, Option.bind_some]
    exact ⟨_, b', t, d', x', y', g', h', rfl, e2, fun _ => e3⟩
  · obtain ⟨y', g', e1, e2⟩ := ai_lost hT hA q hql k hk
    rw [if_neg c, e1, Option.bind_some]
    exact ⟨_, b, t, d, x, y', g', h, rfl, e2, fun z => absurd z c⟩
theorem j4_step {T : ByteArray} (hT : T.size ≤ 200) (l : List Int) {out : List S57} (i : Nat) (hi : i < 10000) {b t : Int} {d : ByteArray} {x y : List S67} {g h : Bool} (hA : AI T out b t d x y g h) (p : Int) (hp : 0 ≤ p ∧ p < 256) (k : Nat) (hk : 60000 ≤ k) :
    ∃ out' b' t' d' x' y' g' h', dominolaw15_SendqAll.j4 (k + 1 + 1) T l out (i : Int) p b t d x y true g h = dominolaw15_SendqAll.l0 k T l out' ((i + 1 : Nat) : Int) b' t' d' x' y' true g' h' ∧ AI T out' b' t' d' x' y' g' h' ∧
      (((out = [] ∧ p = 0) ∨ (out ≠ [] ∧ p = 1)) → pot T out' y' g' + 1 ≤ pot T out y g ∨ pot T out' y' g' = 0) := by
  have send : ∃ out' b' t' d' x' y' g' h', dominolaw15_SendqAll.j5 (k + 1) T l out (i : Int) p true b t d x y true g h = dominolaw15_SendqAll.l0 k T l out' ((i + 1 : Nat) : Int) b' t' d' x' y' true g' h' ∧ AI T out' b' t' d' x' y' g' h' ∧
      (out = [] → pot T out' y' g' + 1 ≤ pot T out y g ∨ pot T out' y' g' = 0) := by
    obtain ⟨out', t', y', g', e1, e2, e3⟩ := j5_send hT l i hi hA p hp k hk
    refine ⟨out', b, t', d, x, y', g', h, e1, e2, fun z => ?_⟩
    rcases e3 with e3 | ⟨e3, _⟩
    · exact Or.inl e3
    · right
      rw [e3, z]
      rfl
  rw [dominolaw15_SendqAll.j4]
  by_cases c : Int.tmod p 3 = 0
  · rw [if_pos c]
    obtain ⟨out', b', t', d', x', y', g', h', e1, e2, e3⟩ := send
    refine ⟨out', b', t', d', x', y', g', h', e1, e2, fun z => ?_⟩
    rcases z with z | z
    · exact e3 z.1
    · rw [z.2] at c
      exact absurd c (by decide)
  · rw [if_neg c]
    by_cases ho : out = []
    · have e : ((out.length : Int) == 0) = true := by rw [ho]; rfl
      rw [e]
      obtain ⟨out', b', t', d', x', y', g', h', e1, e2, e3⟩ := send
      exact ⟨out', b', t', d', x', y', g', h', e1, e2, fun _ => e3 ho⟩
    · have hpos : 0 < out.length := List.length_pos_iff.2 ho
      have e : ((out.length : Int) == 0) = false := by
        rw [beq_eq_false_iff_ne]
        omega
      rw [e]
      obtain ⟨out', b', t', d', x', y', g', h', e1, e2, e3⟩ := j5_pick hT l i hi hA p hp ho k hk
      refine ⟨out', b', t', d', x', y', g', h', e1, e2, fun z => Or.inl (e3 ?_)⟩
      rcases z with z | z
      · exact absurd z.1 ho
      · rw [z.2]; decide
theorem rd_mem (l : List Int) (i : Nat) (h : i < l.length) : rd l (i : Int) ∈ l := by
  unfold rd
  rw [Int.toNat_natCast, List.getD_eq_getElem?_getD, List.getElem?_eq_getElem h]
  exact List.getElem_mem h
theorem round {T : ByteArray} (hT : T.size ≤ 200) (l : List Int) (hl : l.length ≤ 200) (hwf : ∀ x ∈ l, 0 ≤ x ∧ x < 256) {out : List S57} (i : Nat) (hi : i < l.length + 500) {b t : Int} {d : ByteArray} {x y : List S67} {g h : Bool} (hA : AI T out b t d x y g h) (k : Nat) (hk : 60000 ≤ k) :
    ∃ out' b' t' d' x' y' g' h', dominolaw15_SendqAll.l0 (k + 1 + 1 + 1 + 1 + 1) T l out (i : Int) b t d x y true g h = dominolaw15_SendqAll.l0 k T l out' ((i + 1 : Nat) : Int) b' t' d' x' y' true g' h' ∧ AI T out' b' t' d' x' y' g' h' ∧
      (l.length ≤ i → pot T out' y' g' + 1 ≤ pot T out y g ∨ pot T out' y' g' = 0) := by
  have hw : wrap64 ((l.length : Int) + 500) = (l.length : Int) + 500 := by unfold wrap64; omega
  have c0 : (i : Int) < (l.length : Int) + 500 := by omega
  rw [dominolaw15_SendqAll.l0, hw, if_pos c0]
  by_cases c : i < l.length
  · have c1 : (i : Int) < (l.length : Int) := by omega
    have c2 : (0 : Int) ≤ (i : Int) := by omega
    have c3 : ¬ (i : Int) ≥ (l.length : Int) := by omega
    have c4 : ¬ (false = true) := by decide
    rw [if_pos c1, if_pos c2, dominolaw15_SendqAll.j2, if_neg c3, dominolaw15_SendqAll.j3, if_neg c4]
    obtain ⟨out', b', t', d', x', y', g', h', e1, e2, e3⟩ := j4_step hT l i (by omega) hA (rd l (i : Int)) (hwf _ (rd_mem l i c)) k hk
    exact ⟨out', b', t', d', x', y', g', h', e1, e2, fun z => by omega⟩
  · have c1 : ¬ (i : Int) < (l.length : Int) := by omega
    have c3 : (i : Int) ≥ (l.length : Int) := by omega
    rw [if_neg c1, dominolaw15_SendqAll.j2, if_pos c3, dominolaw15_SendqAll.j3]
    by_cases ho : out = []
    · have e : decide ((out.length : Int) > 0) = false := by rw [ho]; rfl
      have c4 : ¬ (false = true) := by decide
      rw [e, if_neg c4]
      obtain ⟨out', b', t', d', x', y', g', h', e1, e2, e3⟩ := j4_step hT l i (by omega) hA 0 (by omega) k hk
      exact ⟨out', b', t', d', x', y', g', h', e1, e2, fun _ => e3 (Or.inl ⟨ho, rfl⟩)⟩
    · have hpos : 0 < out.length := List.length_pos_iff.2 ho
      have e : decide ((out.length : Int) > 0) = true := decide_eq_true (by omega)
      rw [e, if_pos rfl]
      obtain ⟨out', b', t', d', x', y', g', h', e1, e2, e3⟩ := j4_step hT l i (by omega) hA 1 (by omega) k hk
      exact ⟨out', b', t', d', x', y', g', h', e1, e2, fun _ => e3 (Or.inr ⟨ho, rfl⟩)⟩
/-- The end: nothing is out, nothing is left to send: all is acknowledged. -/
theorem ends {T : ByteArray} (hT : T.size ≤ 200) (l : List Int) (hl : l.length ≤ 200) {out : List S57} {b t : Int} {d : ByteArray} {x y : List S67} {g h : Bool} (hA : AI T out b t d x y g h) (hz : pot T out y g = 0) (k : Nat) :
    dominolaw15_SendqAll.l0 (k + 1) T l out ((l.length + 500 : Nat) : Int) b t d x y true g h = some true := by
  have hw : wrap64 ((l.length : Int) + 500) = (l.length : Int) + 500 := by unfold wrap64; omega
  have hb0 := hA.inv.b0
  have hN := hA.hN
  have ht := hA.t0
  have h3 := (cn_nn y T.size).1
  have h4 := (bit_le g).1
  unfold pot at hz
  have ho : out = [] := List.length_eq_zero_iff.1 (by omega)
  have hy := cn_zero T.size (s := y) (by omega)
  have hg : g = false := by
    cases g with
    | false => rfl
    | true =>
      have : bit true = 1 := rfl
      omega
  have hh : h = true := by
    rcases hA.fc with z | z | ⟨o, z, _⟩
    · rw [hg] at z; cases z
    · exact z
    · rw [ho] at z; cases z
  have hb : b = (T.size : Int) := by
    by_cases c : b < (T.size : Int)
    · rcases hA.cov b (Int.le_refl _) c with z | z | ⟨o, z, _⟩
      · exact absurd z hA.nb
      · exact absurd z (hy b hb0 c)
      · rw [ho] at z; cases z
    · omega
  have hd : d.size = 0 := by omega
  have ht2 : t = (T.size : Int) := by
    by_cases c : T.size = 0
    · omega
    · rcases hA.tc ((T.size : Int) - 1) (by omega) (by omega) with z | z
      · exact absurd z (hy _ (by omega) (by omega))
      · omega
  have hdl : (d.toList == ([] : List UInt8)) = true := by
    rw [Go.Lib.toList_data]
    have : d.data.toList = [] := List.length_eq_zero_iff.1 (by rw [Array.length_toList]; exact hd)
    rw [this]
    rfl
  have w3 : IntKind.u64.wrap (T.size : Int) = (T.size : Int) := wrap_u64 (by omega)
  have c0 : ¬ (((l.length + 500 : Nat) : Int) < (l.length : Int) + 500) := by omega
  have c1 : (out.length : Int) = 0 := by rw [ho]; rfl
  rw [dominolaw15_SendqAll.l0, hw, if_neg c0]
  unfold sendq_Done.f
  rw [if_pos rfl, if_pos hh, Option.bind_some, hdl, if_pos rfl, if_pos c1, w3, if_pos hb, ht2, beq_self_eq_true]
theorem run_all {T : ByteArray} (hT : T.size ≤ 200) (l : List Int) (hl : l.length ≤ 200) (hwf : ∀ x ∈ l, 0 ≤ x ∧ x < 256) : ∀ (m i : Nat), i + m = l.length + 500 → ∀ (out : List S57) (b t : Int) (d : ByteArray) (x y : List S67) (g h : Bool), AI T out b t d x y g h →
    (l.length ≤ i → pot T out y g ≤ (m : Int)) → ∀ k : Nat, 60000 ≤ k → dominolaw15_SendqAll.l0 (k + 5 * m + 1) T l out (i : Int) b t d x y true g h = some true
  | 0, i, hi, out, b, t, d, x, y, g, h, hA, hp, k, hk => by
    have e : i = l.length + 500 := by omega
    subst e
    have := hA.pot_le.1
    exact ends hT l hl hA (by have := hp (by omega); omega) (k + 5 * 0)
  | m + 1, i, hi, out, b, t, d, x, y, g, h, hA, hp, k, hk => by
    obtain ⟨out', b', t', d', x', y', g', h', e1, e2, e3⟩ := round hT l hl hwf i (by omega) hA (k + 5 * m + 1) (by omega)
    rw [show k + 5 * (m + 1) + 1 = (k + 5 * m + 1) + 1 + 1 + 1 + 1 + 1 by omega, e1]
    refine run_all hT l hl hwf m (i + 1) (by omega) out' b' t' d' x' y' g' h' e2 (fun hle => ?_) k hk
    have hpl := e2.pot_le
    by_cases c : l.length ≤ i
    · have := hp c
      rcases e3 c with z | z <;> omega
    · have : i + 1 = l.length := by omega
      omega
theorem ba_nil_app (d : ByteArray) : (⟨#[]⟩ : ByteArray) ++ d = d := by
  apply ByteArray.ext
  rw [ByteArray.data_append]
  simp
theorem ai_start {T : ByteArray} {y : List S67} (hs : Set_ y) (hy : ∀ m, In y m ↔ 0 ≤ m ∧ m < (T.size : Int)) : AI T [] 0 0 T [] y true false := by
  refine ⟨⟨Int.le_refl _, by omega, set_nil, hs, fun n hn => absurd hn (in_nil n), fun n hn => ?_, fun n hn => absurd hn (in_nil n), fun _ => rfl⟩, by omega, (ba_extract_all T).symm, in_nil 0, fun m h1 h2 => Or.inr (Or.inl ((hy m).2 ⟨h1, h2⟩)), Or.inl rfl, fun o ho => (by cases ho), by omega, fun m h1 h2 => Or.inl ((hy m).2 ⟨h1, h2⟩), ?_⟩
  · have := (hy n).1 hn
    omega
  · have := (cn_nn y T.size).2
    show cn y T.size + 0 + 1 ≤ _
    omega
theorem j0_run {T : ByteArray} (hT : T.size ≤ 200) (l : List Int) (hl : l.length ≤ 200) (hwf : ∀ x ∈ l, 0 ≤ x ∧ x < 256) : dominolaw15_SendqAll.j0 (60000 + 5 * (l.length + 500) + 1 + 1) T l false = some true := by
  have c4 : ¬ (false = true) := by decide
  rw [dominolaw15_SendqAll.j0, if_neg c4]
  have go : ∀ y : List S67, Set_ y → (∀ m, In y m ↔ 0 ≤ m ∧ m < (T.size : Int)) → dominolaw15_SendqAll.l0 (60000 + 5 * (l.length + 500) + 1) T l [] 0 0 0 T [] y true true false = some true := fun y h1 h2 => by
    have hA := ai_start (T := T) h1 h2
    have hp := hA.pot_le.2
    exact run_all hT l hl hwf (l.length + 500) 0 (by omega) [] 0 0 T [] y true false hA (fun _ => by omega) 60000 (by omega)
  have hm : mx 0 300 = 300 := by unfold mx; omega
  by_cases c : T.size = 0
  · have e : sendq_Write.f (60000 + 5 * (l.length + 500) + 1) 0 0 (⟨#[]⟩ : ByteArray) [] [] false false false T 300 = some (0, 0, (⟨#[]⟩ : ByteArray), [], [], false, false, false, 0) := write_no (Or.inr (by
      rw [c, hm]
      unfold mn
      omega)) _ (by omega)
    have eT : (⟨#[]⟩ : ByteArray) = T := by
      apply ByteArray.ext
      apply Array.ext'
      have : T.data.toList = [] := List.length_eq_zero_iff.1 (by rw [Array.length_toList]; exact c)
      rw [this]
    have f : sendq_Finish.f 0 0 (⟨#[]⟩ : ByteArray) [] [] false false false = some (0, 0, (⟨#[]⟩ : ByteArray), [], [], true, true, false) := rfl
    rw [e, Option.bind_some]
    show (sendq_Finish.f 0 0 (⟨#[]⟩ : ByteArray) [] [] false false false).bind _ = _
    rw [f, Option.bind_some]
    show (if (0 : Int) = (T.size : Int) then dominolaw15_SendqAll.l0 (60000 + 5 * (l.length + 500) + 1) T l [] 0 0 0 (⟨#[]⟩ : ByteArray) [] [] true true false else none) = _
    rw [if_pos (by omega), eT]
    exact go [] set_nil (fun m => ⟨fun z => absurd z (in_nil m), fun z => by omega⟩)
  · obtain ⟨n, hn⟩ : ∃ n : Int, mn (T.size : Int) (wrap64 (mx 0 300 - ((⟨#[]⟩ : ByteArray).size : Int))) = n := ⟨_, rfl⟩
    have hnT : n = (T.size : Int) := by
      have hz : (((⟨#[]⟩ : ByteArray).size : Nat) : Int) = 0 := rfl
      rw [← hn, hm, hz]
      have : wrap64 (300 - 0) = 300 := by unfold wrap64; omega
      rw [this]
      unfold mn
      omega
    have hz : (((⟨#[]⟩ : ByteArray).size : Nat) : Int) = 0 := rfl
    have e := write_yes (b := 0) (t := 0) (d := (⟨#[]⟩ : ByteArray)) (x := []) (y := []) (y2 := [⟨0, (T.size : Int) - 1⟩]) (g := false) (h := false) (data := T) (room := 300) (n := n) hn (by omega) (by omega) (by omega) (by omega) (by decide) (60000 + 5 * (l.length + 500) + 1) (by omega) (by
      rw [hz, hnT]
      exact add_eq set_nil (low_r (by omega) (by omega)) (by decide) (set_one (by omega) (by omega) (by omega)) (fun m => by
        rw [in_r]
        constructor
        · intro z; right; omega
        · rintro (z | z)
          · exact absurd z (in_nil m)
          · omega) _ (by show 0 + 1 < _; omega))
    have ed : (⟨#[]⟩ : ByteArray) ++ T.extract 0 n.toNat = T := by
      rw [ba_nil_app, hnT, Int.toNat_natCast, ba_extract_all]
    rw [ed] at e
    have f : sendq_Finish.f 0 0 T [] [⟨0, (T.size : Int) - 1⟩] false false false = some (0, 0, T, [], [⟨0, (T.size : Int) - 1⟩], true, true, false) := rfl
    rw [e, Option.bind_some]
    show (sendq_Finish.f 0 0 T [] [⟨0, (T.size : Int) - 1⟩] false false false).bind _ = _
    rw [f, Option.bind_some]
    show (if n = (T.size : Int) then dominolaw15_SendqAll.l0 (60000 + 5 * (l.length + 500) + 1) T l [] 0 0 0 T [] [⟨0, (T.size : Int) - 1⟩] true true false else none) = _
    rw [if_pos hnT]
    exact go _ (set_one (by omega) (by omega) (by omega)) (fun m => by rw [in_r]; omega)
theorem SendqAll : dominolaw15_SendqAll.Pure := by
  intro T l _ _ _ hw
  have hwf : ∀ x ∈ l, 0 ≤ x ∧ x < 256 := fun x hx => wf_u8 (hw x hx)
  refine ⟨60000 + 5 * (l.length + 500) + 1 + 1, ?_⟩
  have hs : dominolaw15_shown.f (60000 + 5 * (l.length + 500) + 1) = some true := shown_f _ (by omega)
  have hs2 : dominolaw15_shown.f (60000 + 5 * (l.length + 500) + 1 + 1) = some true := shown_f _ (by omega)
  have out : dominolaw15_SendqAll.j0 (60000 + 5 * (l.length + 500) + 1 + 1) T l true = some true := by
    rw [dominolaw15_SendqAll.j0, if_pos rfl, hs]
    rfl
  unfold dominolaw15_SendqAll.f
  by_cases c1 : (T.size : Int) > 200
  · rw [if_pos c1]; exact out
  · rw [if_neg c1]
    by_cases c2 : (l.length : Int) > 200
    · rw [if_pos c2]; exact out
    · rw [if_neg c2, hs2]
      exact j0_run (by omega) l (by omega) hwf

end Go.Proofs.Ytocagkmnefkniaa.Pure
