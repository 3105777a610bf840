-- printed for this claim by a program of the claim (wip/tools/pp.py over the kit's print)
import Derived.Test.YtghdmlcmoeoohaaPKfxx0
import Derived.Test.YtghdmlcmoeoohaaPKfxx2
import Derived.Test.YtghdmlcmoeoohaaPKfxx3
import Derived.Test.YtghdmlcmoeoohaaPKfxx5
import Derived.Test.YtghdmlcmoeoohaaPKfxx8
namespace Go.Proofs.Ytghdmlcmoeoohaa.PKfx
open Go.RowKit Go.Proofs.YtghdmlcmoeoohaaW.PrintWords Go.Proofs.YtghdmlcmoeoohaaW.PrintLast Go.Proofs.YtghdmlcmoeoohaaW.PrintMore
attribute [local go_sem] max2_int min2_int max_two min_two max_three min_three max_four min_four   -- for this text's walks alone
set_option linter.unusedVariables false
set_option linter.unusedSimpArgs false

attribute [local go_sem] isSome_setCell_
def rV0 : S8 := ⟨1779033703, 3144134277, 1013904242, 2773480762, 1359893119, 2600822924, 528734635, 1541459225⟩
def rblocksF : Nat → Nat → ByteArray → S8 → S8
 | 0, _, _, v => v
 | k + 1, i, t, v => rblocksF k (i + 64) t (rblk (t.extract i (i + 64)) v)
theorem filF_size (s : ByteArray) : ∃ m, (filF s).size = 64 * m ∧ 64 * m ≤ s.size + 73 := by
 have h : (filF s).size = s.size + 1 + zn s + 8 := by
  unfold filF filL
  rw [strOfNums_size]
  simp [filB, bytesOf_length]
  omega
 have hz : zn s = (119 - s.size % 64) % 64 := rfl
 exact ⟨(filF s).size / 64, by omega, by omega⟩
theorem rload (g : Nat) (v : S8) (W : World) (h : W.heap[g]? = some (.cells (v.row .u64) 83 (0, 0))) : (Instr.loadAt 83 (.pointer (some ⟨g, 0, none⟩))).run Try.prog W = .ok (.agg (v.row .u64)) W := by
 have i8s : (Try.prog.info? 83).map (·.size) = some (v.row .u64).size := by
  show _ = some 8
  kernel_rfl
 simp only [Instr.loadAt, Instr.sureAddr, Sem.run_bind, Sem.run_pure, Result.andThen_ok, run_loadVar_row W g 83 83 (v.row .u64) (0, 0) _ h Try.underlying83 rfl i8s]
def rbyte (x : Int) (k : Nat) : Int := Int.tmod (IntKind.u64.wrap (Int.tdiv x (2 ^ (8 * (3 - k))))) 256
def rRow (x : Int) : Nat → List Int
 | 0 => []
 | k + 1 => rRow x k ++ [IntKind.u8.wrap (rbyte x k)]
def rOut (l : List Int) : Nat → List Int
 | 0 => []
 | i + 1 => rOut l i ++ rRow (l.getD i 0) 4
def rsF (s : ByteArray) : ByteArray := strOfNums (rOut (rblocksF ((filF s).size / 64) 0 (filF s) rV0).list 8)
set_option maxHeartbeats 1000000 in
theorem power_same (n : Nat) (hn : n ≤ 56) (w : World) : Calls Try.prog 52 #[.int .i64 (n : Int)] w fun e w' => e = .returned (.int .u64 (2 ^ n)) ∧ w' = w := by
 go_enter Try.func52, Try.ntmps52
 go_wp2
 go_loopg [3, 4] n (fun r s3 s4 wr => ∃ k : Nat, k + r = n ∧ s4 = .int .i64 (k : Int) ∧ s3 = .int .u64 ((2 ^ k : Nat) : Int) ∧ wr = w)
 case atStart => exact ⟨0, by omega, rfl, rfl, rfl⟩
 case round =>
  obtain ⟨k, hk, rfl, rfl, rfl⟩ := hrel
  cases gk with
  | zero =>
   have hk2 : n ≤ k := by omega
   obtain rfl : k = n := by omega
   generalize hP : ((2 ^ k : Nat) : Int) = P
   go_wp2
   go_ret
   refine ⟨?_, rfl⟩
   rw [show (2 : Int) ^ k = ((2 ^ k : Nat) : Int) by simp, hP]
   rfl
  | succ r =>
   have hk2 : k < n := by omega
   have hp : 2 ^ k ≤ 2 ^ 55 := Nat.pow_le_pow_right (by decide) (by omega)
   have hp2 : ((2 ^ (k + 1) : Nat) : Int) = ((2 ^ k : Nat) : Int) * 2 := by rw [Nat.pow_succ]; simp
   have HP := Aside0.mk hp2
   clear hp2
   have hb : ((2 ^ k : Nat) : Int) ≤ 36028797018963968 := by
    have : (2 : Nat) ^ 55 = 36028797018963968 := by decide
    omega
   have hb0 : 0 ≤ ((2 ^ k : Nat) : Int) := Int.natCast_nonneg _
   clear hp
   generalize ((2 ^ k : Nat) : Int) = P at hb hb0 HP ⊢
   go_wp2
   go_roundg r
   case measure => omega
   case rel => exact ⟨k + 1, by omega, by go_num, by rw [HP.out], rfl⟩
set_option maxHeartbeats 4000000 in
set_option maxRecDepth 100000 in
theorem rSum_calls (s : ByteArray) (w : World) (hs : s.size ≤ 1099511627776) :
  Calls Try.prog 38 #[.string s] w fun e w' => e = .returned (.string (rsF s)) ∧ Below w.heap.size w w' := by
 have h0 : (w.alloc (.cells (rV0.row .u64) 83)).heap[w.heap.size]? = some (.cells (rV0.row .u64) 83 (0, 0)) := heap_alloc_new _ _
 have h1 : Below w.heap.size w (w.alloc (.cells (rV0.row .u64) 83)) := (Below.refl _ _).alloc (Nat.le_refl _) _
 have hz : (w.alloc (.cells (rV0.row .u64) 83)).heap.size = w.heap.size + 1 := by simp
 go_enter Try.func38, Try.ntmps38
 go_wp2_with fail
 change Calls _ _ _ (w.alloc (.cells (rV0.row .u64) 83)) _
 generalize w.alloc (.cells (rV0.row .u64) 83) = w1 at h0 h1 hz ⊢
 obtain ⟨gh, hgh⟩ : ∃ g, g = w.heap.size := ⟨_, rfl⟩
 rw [← hgh] at h0 ⊢
 refine (filled_calls s _ hs).mono ?_
 rintro e w2 ⟨rfl, hb⟩
 have HR0 : Aside0 (w2.heap[gh]? = some (.cells (rV0.row .u64) 83 (0, 0))) := ⟨blk_below h0 hb⟩
 have HB0 : Aside0 (Below w.heap.size w w2) := ⟨h1.trans (hb.mono (by omega))⟩
 have HG := Aside0.mk hgh
 obtain ⟨m, hm, hm2⟩ := filF_size s
 obtain ⟨t, ht⟩ : ∃ t, t = filF s := ⟨_, rfl⟩
 rw [← ht] at hm ⊢
 have HT := Aside0.mk ht
 have hts : t.size ≤ 1099511628800 := by omega
 have HM := Aside0.mk hm
 clear h0 h1 hz hgh hb ht hm
 go_wp2_with fail
 go_loopg [5] m (fun r s5 wr => ∃ (p : Nat) (v : S8), p + 64 * r = t.size ∧ s5 = .int .i64 (p : Int) ∧ Aside0 (rblocksF r p t v = rblocksF m 0 t rV0) ∧ Aside0 (wr.heap[gh]? = some (.cells (v.row .u64) 83 (0, 0))) ∧ Aside0 (Below w.heap.size w wr))
 case atStart => exact ⟨0, rV0, by rw [HM.out]; omega, rfl, ⟨rfl⟩, HR0, HB0⟩
 case round =>
  obtain ⟨p, v, hp, rfl, HF, HR, HB⟩ := hrel
  cases gk with
  | zero =>
   have hpt : (t.size : Int) ≤ (p : Int) := by omega
   have HF0 := HF
   have hlt : gh < wr.heap.size := blk_lt HR.out
   have HO0 : Aside0 ((wr.alloc (.cells #[] 5)).ownsRow (gh + 1) 5 1 (.slice (some ⟨wr.heap.size, 0, none⟩) 0 0) 0 (nums .u8 (rOut v.list 0))) :=
    ⟨⟨rfl, Or.inr ⟨wr.heap.size, 0, #[], rfl, by omega, heap_alloc_new _ _, Nat.le_refl _, by decide, rfl, rfl⟩⟩⟩
   have HR0' : Aside0 ((wr.alloc (.cells #[] 5)).heap[gh]? = some (.cells (v.row .u64) 83 (0, 0))) := ⟨blk_alloc HR.out _⟩
   have HB0' : Aside0 (Below w.heap.size w (wr.alloc (.cells #[] 5))) := ⟨HB.out.alloc HB.out.size _⟩
   have hi5 : (Try.prog.info? 5).map (fun i => (i.zero, i.size, i.bytes)) = some (some (.int .u8 0), 1, 1) := by kernel_rfl
   obtain ⟨i0, hi, hz0, hz1, hz2⟩ := info_parts hi5
   have HP := Aside0.mk hp
   clear hp hi5 HR HB
   go_wp2
   generalize wr.alloc _ = wa at HO0 HR0' HB0' ⊢
   generalize wr.heap.size = ga at HO0 ⊢
   clear hlt hpt
   generalize Value.bool (decide (p < t.size)) = vb_
   go_loopg [6, 7, 8] 8 (fun r2 s6 s7 s8 wy => ∃ i : Nat, i + r2 = 8 ∧ s7 = .int .i64 (i : Int) ∧ Aside0 (wy.ownsRow (gh + 1) 5 1 s6 (4 * i) (nums .u8 (rOut v.list i))) ∧ Aside0 (wy.heap[gh]? = some (.cells (v.row .u64) 83 (0, 0))) ∧ Aside0 (Below w.heap.size w wy))
   case atStart => exact ⟨0, by omega, rfl, HO0, HR0', HB0'⟩
   case round =>
    obtain ⟨i, hi8, rfl, HO, HR, HB⟩ := hrel
    cases gk with
    | zero =>
     have hj : 8 ≤ i := by omega
     have hj2 : i = 8 := by omega
     obtain ⟨A9, c9, hv9, hr9⟩ := own_reads HO.out
     subst hv9
     have hcs := string_of_reads (src := 46) (dst := 9) (e := 5) (c := c9) Try.underlying46 Try.underlying5 Try.underlying9 hr9
     have HJ := Aside0.mk hj2
     clear hr9 hj2
     go_wp2
     go_ret
     refine ⟨?_, HB.out⟩
     rw [HJ.out]
     have hpm : p = t.size := by have := HP.out; omega
     have hf := HF0.out
     rw [rblocksF] at hf
     have e : rsF s = strOfNums (rOut v.list 8) := by
      unfold rsF
      rw [← HT.out, HM.out, Nat.mul_div_cancel_left _ (by decide), ← hf]
     rw [e]
     rfl
    | succ r2 =>
     have hi8' : i < 8 := by omega
     have hi8'' : (i : Int) < 8 := by omega
     have HR1 : Aside0 (wr.ownsRow (gh + 1) 5 1 u6 (4 * i + 0) (nums .u8 (rOut v.list i ++ rRow (v.list.getD i 0) 0))) := ⟨by rw [rRow, List.append_nil]; exact HO.out⟩
     clear HO
     go_wp2
     go_loopg [6, 8] 4 (fun r3 s6 s8 wz => ∃ k : Nat, k + r3 = 4 ∧ s8 = .int .i64 (3 - (k : Int)) ∧ Aside0 (wz.ownsRow (gh + 1) 5 1 s6 (4 * i + k) (nums .u8 (rOut v.list i ++ rRow (v.list.getD i 0) k))) ∧ Aside0 (wz.heap[gh]? = some (.cells (v.row .u64) 83 (0, 0))) ∧ Aside0 (Below w.heap.size w wz))
     case atStart => exact ⟨0, by omega, rfl, HR1, HR, HB⟩
     case round =>
      obtain ⟨k, hk, rfl, HO, HR, HB⟩ := hrel
      cases gk with
      | zero =>
       have hk4 : 3 - (k : Int) < 0 := by omega
       have hk2 : k = 4 := by omega
       have HK := Aside0.mk hk2
       clear hk2
       go_wp2
       go_roundg r2
       case measure => omega
       case rel =>
        refine ⟨i + 1, by omega, by go_num, ⟨?_⟩, HR, HB⟩
        have h := HO.out
        rw [HK.out] at h
        rw [show 4 * (i + 1) = 4 * i + 4 by omega, rOut]
        exact h
      | succ r3 =>
       have hk4 : 0 ≤ 3 - (k : Int) := by omega
       have hw8 : IntKind.i64.wrap (8 * (3 - (k : Int))) = ((8 * (3 - k) : Nat) : Int) := by rw [IntKind.wrap_i64]; omega
       obtain ⟨x, hx⟩ : ∃ x, x = v.list.getD i 0 := ⟨_, rfl⟩
       obtain ⟨P, hP⟩ : ∃ P, P = (2 : Int) ^ (8 * (3 - k)) := ⟨_, rfl⟩
       have hpw : P ≠ 0 := by
        have : (2 : Int) ^ (8 * (3 - k)) > 0 := Int.pow_pos (by decide)
        omega
       have hpc := power_same (8 * (3 - k)) (by omega) wr.drew
       rw [← hP] at hpc
       rw [← hx] at HO
       have HX := Aside0.mk hx
       have HP2 := Aside0.mk hP
       clear hx hP
       go_wp2_with fail
       have HT_ : Aside0 (rtab .any (opsOf Try.f38 14) = rtab .any (opsOf Try.f38 14)) := ⟨rfl⟩
       have HRd := Aside0.mk (blk_drew HR.out)
       have HOd := Aside0.mk (HO.out.drew)
       have HBd := Aside0.mk (below_drew1 HB.out)
       refine start_ (n := 13) (S := fun W => W.heap[gh]? = some (.cells (v.row .u64) 83 (0, 0))) (ds := [11]) #[false,false,false,false,false,false,false,false,false,false,false,false,false] (by kernel_rfl) rfl rfl HRd.out (fun hHeld => ?_)
       generalize wr.drew = w3 at HRd HBd HOd hHeld hpc ⊢
       refine pure_ (i := 0) (N := some 34) (v := ?_) (a' := ?_) #[true,false,false,false,false,false,false,false,false,false,false,false,false] rfl rfl (any_of HT_.out (by kernel_rfl)) (fun _ _ _ h => h) (Or.inl ⟨by rfl, ?_⟩) ?_ ?_
       rotate_left;(intro w';go_simp;with_reducible rfl);rotate_left;(simp only [Act.put, List.setIfInBounds_toArray, List.set_cons_zero, List.set_cons_succ, i64_w, i32_w];rfl)
       refine pure_ (i := 1) (N := some 35) (v := ?_) (a' := ?_) #[true,true,false,false,false,false,false,false,false,false,false,false,false] rfl rfl (any_of HT_.out (by kernel_rfl)) (fun _ _ _ h => h) (Or.inl ⟨by rfl, ?_⟩) ?_ ?_
       rotate_left;(intro w';go_simp;with_reducible rfl);rotate_left;(simp only [Act.put, List.setIfInBounds_toArray, List.set_cons_zero, List.set_cons_succ, i64_w, i32_w];rfl)
       refine pure_ (i := 2) (N := some 36) (v := ?_) (a' := ?_) #[true,true,true,false,false,false,false,false,false,false,false,false,false] rfl rfl (any_of HT_.out (by kernel_rfl)) (fun _ _ _ h => h) (Or.inl ⟨by rfl, ?_⟩) ?_ ?_
       rotate_left;(intro w';go_simp;with_reducible rfl);rotate_left;(simp only [Act.put, List.setIfInBounds_toArray, List.set_cons_zero, List.set_cons_succ, i64_w, i32_w];rfl)
       refine take_ (i := 3) (N := some 37) (v := .int .u64 x) (a' := ?_) #[true,true,true,true,false,false,false,false,false,false,false,false,false] rfl rfl (by kernel_rfl) (fun _ _ _ h => h) (Or.inl ⟨by rfl, ?_⟩) hHeld ?_ ?_
       ·intro w' hw'
        have hc : w'.cell? ⟨gh, i, none⟩ = some (.int .u64 x) := by rw [HX.out]; exact (blk_cell hw' i).trans (nums_at .u64 v.list i hi8')
        go_simp
       rotate_left
       ·simp only [Act.put, List.setIfInBounds_toArray, List.set_cons_zero, List.set_cons_succ, i64_w, i32_w]
        rfl
       refine pure_ (i := 4) (N := some 38) (v := ?_) (a' := ?_) #[true,true,true,true,true,false,false,false,false,false,false,false,false] rfl rfl (any_of HT_.out (by kernel_rfl)) (fun _ _ _ h => h) (Or.inl ⟨by rfl, ?_⟩) ?_ ?_
       rotate_left;(intro w';go_simp;with_reducible rfl);rotate_left;(simp only [Act.put, List.setIfInBounds_toArray, List.set_cons_zero, List.set_cons_succ, i64_w, i32_w];rfl)
       refine pure_ (i := 5) (N := some 39) (v := ?_) (a' := ?_) #[true,true,true,true,true,true,false,false,false,false,false,false,false] rfl rfl (any_of HT_.out (by kernel_rfl)) (fun _ _ _ h => h) (Or.inl ⟨by rfl, ?_⟩) ?_ ?_
       rotate_left;(intro w';go_simp;with_reducible rfl);rotate_left;(simp only [Act.put, List.setIfInBounds_toArray, List.set_cons_zero, List.set_cons_succ, i64_w, i32_w];rfl)
       refine one_ (i := 6) (N := some 40) #[true,true,true,true,true,true,true,false,false,false,false,false,false] rfl rfl (one_of HT_.out (by kernel_rfl)) (by decide) (fun K hK => ?_)
       refine goes_ (N := some 40) Try.func52 (by kernel_rfl) rfl #[.int .i64 ((8 * (3 - k) : Nat) : Int)] (by rfl) rfl rfl (by (try simp only [List.map_toArray, List.map_cons, List.map_nil]); first | done | rfl) ?_
       refine hpc.mono ?_
       rintro e w4 ⟨rfl, rfl⟩
       refine ⟨_, rfl, ?_⟩
       refine hK.out _ _ hHeld (fun hHeld4 => ?_)
       clear hK K
       refine norm_ (a' := ?_) ?_ ?_
       rotate_left
       ·show Act.put _ (some 40) _ = _
        simp only [Act.put, List.setIfInBounds_toArray, List.set_cons_zero, List.set_cons_succ, i64_w, i32_w]
        rfl
       refine pure_ (i := 7) (N := some 41) (v := ?_) (a' := ?_) #[true,true,true,true,true,true,true,true,false,false,false,false,false] rfl rfl (any_of HT_.out (by kernel_rfl)) (fun _ _ _ h => h) (Or.inl ⟨by rfl, ?_⟩) ?_ ?_
       rotate_left;(intro w';go_simp;with_reducible rfl);rotate_left;(simp only [Act.put, List.setIfInBounds_toArray, List.set_cons_zero, List.set_cons_succ, i64_w, i32_w];rfl)
       refine pure_ (i := 8) (N := some 42) (v := ?_) (a' := ?_) #[true,true,true,true,true,true,true,true,true,false,false,false,false] rfl rfl (any_of HT_.out (by kernel_rfl)) (fun _ _ _ h => h) (Or.inl ⟨by rfl, ?_⟩) ?_ ?_
       rotate_left;(intro w';go_simp;with_reducible rfl);rotate_left;(simp only [Act.put, List.setIfInBounds_toArray, List.set_cons_zero, List.set_cons_succ, i64_w, i32_w];rfl)
       refine pure_ (i := 9) (N := some 43) (v := ?_) (a' := ?_) #[true,true,true,true,true,true,true,true,true,true,false,false,false] rfl rfl (any_of HT_.out (by kernel_rfl)) (fun _ _ _ h => h) (Or.inl ⟨by rfl, ?_⟩) ?_ ?_
       rotate_left;(intro w';go_simp;with_reducible rfl);rotate_left;(simp only [Act.put, List.setIfInBounds_toArray, List.set_cons_zero, List.set_cons_succ, i64_w, i32_w];rfl)
       refine one_ (i := 10) (N := some 44) #[true,true,true,true,true,true,true,true,true,true,true,false,false] rfl rfl (one_of HT_.out (by kernel_rfl)) (by decide) (fun K hK => ?_)
       rw [if_pos (by rfl)]
       unfold Oper.wp execOp
       go_simp
       have HE : rbyte x k = Int.tmod (IntKind.u64.wrap (Int.tdiv x P)) 256 := by rw [HP2.out]; rfl
       rw [← HE]
       refine hK.out _ _ (blk_alloc hHeld4 _) (fun hHeld5 => ?_)
       clear hK K
       refine last_ (i := 11) (N := some 45) #[true,true,true,true,true,true,true,true,true,true,true,true,false] rfl rfl (by kernel_rfl) (by decide) (fun K hK => ?_)
       rw [if_pos (by rfl)]
       refine wp_append_own _ _ _ 46 rfl (gh + 1) 5 i0 (.int .u8 0) 1 1 Try.underlying46 hi hz0 hz1 hz2 rfl (by decide) _ _ _ rfl (HOd.out.alloc _) ⟨w4.heap.size, 0, none⟩ 1 1 [.int .u8 (IntKind.u8.wrap (rbyte x k))] rfl rfl (World.news_of_block (cs := #[.int .u8 (IntKind.u8.wrap (rbyte x k))]) (t := 5) (fr := (0, 0)) (heap_alloc_new _ _)) (by simp [Value.oneCell']) (by simp only [maxLen]; omega) (by omega) (by have := blk_lt hHeld4; simp; omega) ?_
       intro v5 w5 ho5 hg5 _
       have HO5 : Aside0 (w5.ownsRow (gh + 1) 5 1 v5 (4 * i + (k + 1)) (nums .u8 (rOut v.list i ++ rRow x (k + 1)))) := ⟨by rw [show rOut v.list i ++ rRow x (k + 1) = (rOut v.list i ++ rRow x k) ++ [IntKind.u8.wrap (rbyte x k)] by rw [rRow, List.append_assoc], nums_append]; exact ho5⟩
       have HR5 : Aside0 (w5.heap[gh]? = some (.cells (v.row .u64) 83 (0, 0))) := ⟨blk_grown hHeld5 hg5 (own_ne (HOd.out.alloc _) hHeld5 (by decide))⟩
       have HB5 : Aside0 (Below w.heap.size w w5) := ⟨(HBd.out.alloc HBd.out.size _).grown hg5 (by have := HBd.out.size; simp; omega) (fun g he => by have := own_base HOd.out g he; have := HG.out; omega)⟩
       clear ho5 hg5
       refine hK.out _ _ ?_
       clear hK K
       refine norm_ (a' := ?_) ?_ ?_
       rotate_left
       ·show Act.put _ (some 45) _ = _
        simp only [Act.put, List.setIfInBounds_toArray, List.set_cons_zero, List.set_cons_succ, i64_w, i32_w]
        rfl
       refine pure_ (i := 12) (N := some 6) (v := ?_) (a' := ?_) #[true,true,true,true,true,true,true,true,true,true,true,true,true] rfl rfl (any_of HT_.out (by kernel_rfl)) (fun _ _ _ h => h) (Or.inl ⟨by rfl, ?_⟩) ?_ ?_
       rotate_left;(intro w';go_simp;with_reducible rfl);rotate_left;(simp only [Act.put, List.setIfInBounds_toArray, List.set_cons_zero, List.set_cons_succ, i64_w, i32_w];rfl)
       refine done_ (done_of HT_.out (by kernel_rfl)) ?_
       go_wp2
       go_roundg r3
       case measure => omega
       case rel => exact ⟨k + 1, by omega, by go_num, by rw [← HX.out]; exact HO5, HR5, HB5⟩
  | succ r =>
   have hpt : (p : Int) < (t.size : Int) := by omega
   have hw0 : IntKind.i64.wrap ((p : Int) + 64) = (p : Int) + 64 := by rw [IntKind.wrap_i64]; omega
   have hw1 : wrap64 ((p : Int) + 64) = (p : Int) + 64 := by unfold wrap64; omega
   have hq0 : (p : Int) ≤ (p : Int) + 64 := by omega
   have hq1 : (p : Int) + 64 ≤ (t.size : Int) := by omega
   have hq2 : ((p : Int) + 64).toNat = p + 64 := by omega
   have hq3 : 0 ≤ (p : Int) + 64 := by omega
   have hsz : 64 ≤ (t.extract p (p + 64)).size := by rw [ByteArray.size_extract]; omega
   have HRd := Aside0.mk (blk_drew HR.out)
   have HBd := Aside0.mk (below_drew1 HB.out)
   have HF2 : Aside0 (rblocksF r (p + 64) t (rblk (t.extract p (p + 64)) v) = rblocksF m 0 t rV0) := ⟨by rw [← HF.out, rblocksF]⟩
   have hld := rload gh v
   have HP : Aside0 (p + 64 + 64 * r = t.size) := ⟨by omega⟩
   clear HF hp
   go_wp2_with fail
   have HT_ : Aside0 (rtab .any (opsOf Try.f38 6) = rtab .any (opsOf Try.f38 6)) := ⟨rfl⟩
   refine start_ (n := 8) (S := fun W => W.heap[gh]? = some (.cells (v.row .u64) 83 (0, 0))) (ds := [7]) #[false,false,false,false,false,false,false,false] (by kernel_rfl) rfl rfl HRd.out (fun hHeld => ?_)
   generalize wr.drew = w3 at HRd HBd hHeld ⊢
   refine take_ (i := 0) (N := some 18) (v := .agg (v.row .u64)) (a' := ?_) #[true,false,false,false,false,false,false,false] rfl rfl (by kernel_rfl) (fun _ _ _ h => h) (Or.inl ⟨by rfl, ?_⟩) hHeld ?_ ?_
   ·intro w' hw'
    clear hld
    have c0 : w'.cell? ⟨gh, 0, none⟩ = some (.int .u64 v.a) := blk_cell hw' 0
    have c1 : w'.cell? ⟨gh, 1, none⟩ = some (.int .u64 v.b) := blk_cell hw' 1
    have c2 : w'.cell? ⟨gh, 2, none⟩ = some (.int .u64 v.c) := blk_cell hw' 2
    have c3 : w'.cell? ⟨gh, 3, none⟩ = some (.int .u64 v.d) := blk_cell hw' 3
    have c4 : w'.cell? ⟨gh, 4, none⟩ = some (.int .u64 v.e) := blk_cell hw' 4
    have c5 : w'.cell? ⟨gh, 5, none⟩ = some (.int .u64 v.f) := blk_cell hw' 5
    have c6 : w'.cell? ⟨gh, 6, none⟩ = some (.int .u64 v.g) := blk_cell hw' 6
    have c7 : w'.cell? ⟨gh, 7, none⟩ = some (.int .u64 v.h) := blk_cell hw' 7
    go_simp
    rfl
   rotate_left
   ·simp only [Act.put, List.setIfInBounds_toArray, List.set_cons_zero, List.set_cons_succ, i64_w, i32_w]
    rfl
   clear hld
   refine pure_ (i := 1) (N := some 19) (v := ?_) (a' := ?_) #[true,true,false,false,false,false,false,false] rfl rfl (any_of HT_.out (by kernel_rfl)) (fun _ _ _ h => h) (Or.inl ⟨by rfl, ?_⟩) ?_ ?_
   rotate_left;(intro w';go_simp;with_reducible rfl);rotate_left;(simp only [Act.put, List.setIfInBounds_toArray, List.set_cons_zero, List.set_cons_succ, i64_w, i32_w];rfl)
   refine pure_ (i := 2) (N := some 20) (v := ?_) (a' := ?_) #[true,true,true,false,false,false,false,false] rfl rfl (any_of HT_.out (by kernel_rfl)) (fun _ _ _ h => h) (Or.inl ⟨by rfl, ?_⟩) ?_ ?_
   rotate_left;(intro w';go_simp;with_reducible rfl);rotate_left;(simp only [Act.put, List.setIfInBounds_toArray, List.set_cons_zero, List.set_cons_succ, i64_w, i32_w];rfl)
   refine pure_ (i := 3) (N := some 21) (v := ?_) (a' := ?_) #[true,true,true,true,false,false,false,false] rfl rfl (any_of HT_.out (by kernel_rfl)) (fun _ _ _ h => h) (Or.inl ⟨by rfl, ?_⟩) ?_ ?_
   rotate_left;(intro w';go_simp;with_reducible rfl);rotate_left;(simp only [Act.put, List.setIfInBounds_toArray, List.set_cons_zero, List.set_cons_succ, i64_w, i32_w];rfl)
   refine pure_ (i := 4) (N := some 22) (v := ?_) (a' := ?_) #[true,true,true,true,true,false,false,false] rfl rfl (any_of HT_.out (by kernel_rfl)) (fun _ _ _ h => h) (Or.inl ⟨by rfl, ?_⟩) ?_ ?_
   rotate_left;(intro w';go_simp;with_reducible rfl);rotate_left;(simp only [Act.put, List.setIfInBounds_toArray, List.set_cons_zero, List.set_cons_succ, i64_w, i32_w];rfl)
   refine pure_ (i := 5) (N := some 23) (v := ?_) (a' := ?_) #[true,true,true,true,true,true,false,false] rfl rfl (any_of HT_.out (by kernel_rfl)) (fun _ _ _ h => h) (Or.inl ⟨by rfl, ?_⟩) ?_ ?_
   rotate_left;(intro w';go_simp;with_reducible rfl);rotate_left;(simp only [Act.put, List.setIfInBounds_toArray, List.set_cons_zero, List.set_cons_succ, i64_w, i32_w];rfl)
   refine one_ (i := 6) (N := some 24) #[true,true,true,true,true,true,true,false] rfl rfl (one_of HT_.out (by kernel_rfl)) (by decide) (fun K hK => ?_)
   refine goes_ (N := some 24) Try.func51 (by kernel_rfl) rfl #[.agg (v.row .u64), .string (t.extract p (p + 64))] (by rfl) rfl rfl (by (try simp only [List.map_toArray, List.map_cons, List.map_nil]); first | done | rfl) ?_
   refine (rblock_calls v _ _ hsz).mono ?_
   rintro e w4 ⟨rfl, hb⟩
   have HR4 := Aside0.mk (blk_below hHeld hb)
   have HB4 := Aside0.mk (HBd.out.trans (hb.mono HBd.out.size))
   refine ⟨_, rfl, ?_⟩
   refine hK.out _ _ HR4.out (fun hHeld4 => ?_)
   clear hK K
   refine norm_ (a' := ?_) ?_ ?_
   rotate_left
   ·show Act.put _ (some 24) _ = _
    simp only [Act.put, List.setIfInBounds_toArray, List.set_cons_zero, List.set_cons_succ, i64_w, i32_w]
    rfl
   clear hb hHeld HRd HBd
   refine last_ (i := 7) (N := none) #[true,true,true,true,true,true,true,true] rfl rfl (by kernel_rfl) (by decide) (fun K hK => ?_)
   rw [if_pos (by rfl)]
   have i8s : (Try.prog.info? 83).map (·.size) = some ((rblk (t.extract p (p + 64)) v).row .u64).size := by
    show _ = some 8
    kernel_rfl
   refine wp_store_row 83 (.tmp 3) (.tmp 24) rfl gh ((rblk (t.extract p (p + 64)) v).row .u64) rfl rfl 83 _ HR4.out i8s rfl (row8_one .u64 _) ?_
   have HR5 := Aside0.mk (setRow_heap _ _ _ ((rblk (t.extract p (p + 64)) v).row .u64) _ _ HR4.out)
   have HB5 := Aside0.mk (below_setRow_ HB4.out (by rw [HG.out]; exact Nat.le_refl _) ((rblk (t.extract p (p + 64)) v).row .u64) (g := gh))
   generalize w4.setRow gh _ = w5 at HR5 HB5 ⊢
   refine hK.out _ _ ?_
   clear hK K
   refine norm_ (a' := ?_) ?_ ?_
   rotate_left
   ·show Act.put _ none _ = _
    simp only [Act.put]
    rfl
   refine done_ (done_of HT_.out (by kernel_rfl)) ?_
   go_wp2
   go_roundg r
   case measure => omega
   case rel => exact ⟨p + 64, _, HP.out, by go_num, HF2, HR5, HB5⟩


/-! ### dominoref07_Sum: function 38 -/
def dominoref07_Sum.f (a0 : ByteArray) : Option (ByteArray) := if a0.size ≤ 1099511627776 then some (rsF a0) else none
theorem dominoref07_Sum.calls (a0 : ByteArray) (r : ByteArray) (w : World) (h : dominoref07_Sum.f a0 = some r) :
  Calls Try.prog 38 #[.string a0] w fun e w' => e = .returned (.string r) ∧ Below w.heap.size w w' := by
 unfold dominoref07_Sum.f at h
 by_cases c : a0.size ≤ 1099511627776
 ·rw [if_pos c] at h
  obtain rfl := Option.some.inj h
  exact rSum_calls a0 w c
 ·rw [if_neg c] at h
  exact absurd h (by simp)

/-! ### dominoref08_Mac: function 19 -/
mutual
def dominoref08_Mac.j0 : Nat → ByteArray → ByteArray → Option (ByteArray)
 | 0, _, _ => none
 | k + 1, x0, x1 => dominoref08_Mac.l0 k x0 x1 (([] : List Int)) (([] : List Int)) 0
def dominoref08_Mac.l0 : Nat → ByteArray → ByteArray → List Int → List Int → Int → Option (ByteArray)
 | 0, _, _, _, _, _ => none
 | k + 1, x0, x1, x5, x6, x7 => if x7 < 64 then (if x7 < (x0.size : Int) then (if 0 ≤ x7 then (if x5.length < 140737488355328 then (if x6.length < 140737488355328 then (dominoref08_Mac.l0 k x0 x1 (x5 ++ [Go.bits .xor .u8 (bt x0 x7) 54]) (x6 ++ [Go.bits .xor .u8 (bt x0 x7) 92]) (wrap64 (x7 + 1))) else (none)) else (none)) else (none)) else (if x5.length < 140737488355328 then (if x6.length < 140737488355328 then (dominoref08_Mac.l0 k x0 x1 (x5 ++ [Go.bits .xor .u8 0 54]) (x6 ++ [Go.bits .xor .u8 0 92]) (wrap64 (x7 + 1))) else (none)) else (none))) else (if (strOfNums x5).size + x1.size ≤ 9223372036854775807 then ((dominoref07_Sum.f ((strOfNums x5) ++ x1)).bind fun t168 => (if (strOfNums x6).size + t168.size ≤ 9223372036854775807 then ((dominoref07_Sum.f ((strOfNums x6) ++ t168)).bind fun t169 => (some t169)) else (none))) else (none))
end
def dominoref08_Mac.f (k : Nat) (a0 : ByteArray) (a1 : ByteArray) : Option (ByteArray) := if (a0.size : Int) > 64 then ((dominoref07_Sum.f a0).bind fun t149 => (dominoref08_Mac.j0 k t149 a1)) else (dominoref08_Mac.j0 k a0 a1)
theorem dominoref08_Mac.mono_l : ∀ k, (∀ y0 y1, LeO (dominoref08_Mac.j0 k y0 y1) (dominoref08_Mac.j0 (k + 1) y0 y1)) ∧ (∀ y0 y1 y2 y3 y4, LeO (dominoref08_Mac.l0 k y0 y1 y2 y3 y4) (dominoref08_Mac.l0 (k + 1) y0 y1 y2 y3 y4))
 | 0 => ⟨fun _ _ r h => by simp [dominoref08_Mac.j0] at h, fun _ _ _ _ _ r h => by simp [dominoref08_Mac.l0] at h⟩
 | k + 1 => by
  obtain ⟨ih0, ih1⟩ := dominoref08_Mac.mono_l k
  refine ⟨?_, ?_⟩
  ·intro y0 y1
   unfold dominoref08_Mac.j0
   repeat' first
   | (with_reducible exact ih0 _ _)
   | (with_reducible exact ih1 _ _ _ _ _)
   | (with_reducible exact LeO.refl _)
   | (with_reducible exact LeO.none _)
   | (with_reducible refine LeO.ite ?_ ?_)
   | (with_reducible refine LeO.bind ?_ (fun _ => ?_))
   | exact ih0 _ _
   | exact ih1 _ _ _ _ _
   | exact LeO.none _
   | refine LeO.ite ?_ ?_
   | refine LeO.bind ?_ (fun _ => ?_)
  ·intro y0 y1 y2 y3 y4
   unfold dominoref08_Mac.l0
   repeat' first
   | (with_reducible exact ih0 _ _)
   | (with_reducible exact ih1 _ _ _ _ _)
   | (with_reducible exact LeO.refl _)
   | (with_reducible exact LeO.none _)
   | (with_reducible refine LeO.ite ?_ ?_)
   | (with_reducible refine LeO.bind ?_ (fun _ => ?_))
   | exact ih0 _ _
   | exact ih1 _ _ _ _ _
   | exact LeO.none _
   | refine LeO.ite ?_ ?_
   | refine LeO.bind ?_ (fun _ => ?_)
theorem dominoref08_Mac.mono : ∀ a0 a1 k, LeO (dominoref08_Mac.f k a0 a1) (dominoref08_Mac.f (k + 1) a0 a1) := by
 intro a0 a1 k
 obtain ⟨ih0, ih1⟩ := dominoref08_Mac.mono_l k
 unfold dominoref08_Mac.f
 repeat' first
   | (with_reducible exact ih0 _ _)
   | (with_reducible exact ih1 _ _ _ _ _)
   | (with_reducible exact LeO.refl _)
   | (with_reducible exact LeO.none _)
   | (with_reducible refine LeO.ite ?_ ?_)
   | (with_reducible refine LeO.bind ?_ (fun _ => ?_))
   | exact ih0 _ _
   | exact ih1 _ _ _ _ _
   | exact LeO.none _
   | refine LeO.ite ?_ ?_
   | refine LeO.bind ?_ (fun _ => ?_)
def dominoref08_Mac.T13 : Bool × List (List Nat × List Nat) := (true, [([], []), ([0], [0]), ([], []), ([2], [2]), ([], []), ([3, 4], [3, 4]), ([5], [5]), ([1, 6], [1, 6]), ([7, 6], [7]), ([8, 8, 0, 1, 2, 3, 4, 5, 6, 7, 8], [8])])
def dominoref08_Mac.B13 : List Nat := [0, 1, 0, 4, 0, 28, 60, 127, 255, 511]
theorem dominoref08_Mac.tab13 : rtab .any (opsOf Try.f19 13) = dominoref08_Mac.T13 := by kernel_rfl
theorem dominoref08_Mac.bits13 : waitsOk dominoref08_Mac.T13.2 dominoref08_Mac.B13 = true := by kernel_rfl
set_option maxHeartbeats 8000000 in
set_option maxRecDepth 100000 in
theorem dominoref08_Mac.calls (k : Nat) (a0 : ByteArray) (a1 : ByteArray) (r : ByteArray) (w : World) (h : dominoref08_Mac.f k a0 a1 = some r) :
  Calls Try.prog 19 #[.string a0, .string a1] w fun e w' => e = .returned (.string r) ∧ Below w.heap.size w w' := by
 have HB := Aside0.mk (Below.refl w.heap.size w)
 have H : (if (a0.size : Int) > 64 then ((dominoref07_Sum.f a0).bind fun t149 => (dominoref08_Mac.j0 k t149 a1)) else (dominoref08_Mac.j0 k a0 a1)) = some r := h
 clear h
 have HC3 := Aside0.mk H
 clear H
 go_enter Try.func19, Try.ntmps19
 go_upto_if 11 with (fail)
 go_cut [0] (fun v0 wc => ∃ (kq : Nat) (x0_2 : ByteArray), v0 = .string x0_2 ∧ Aside0 (dominoref08_Mac.j0 kq x0_2 a1 = some r) ∧ Aside0 (kq ≤ k) ∧ Aside0 (Below w.heap.size w wc))
 case first =>
  have H := HC3.out
  clear HC3
  by_cases c4 : (a0.size : Int) > 64
  ·rw [if_pos c4] at H
   have c4b0 : decide (64 < (a0.size : Int)) = true := decide_eq_true c4
   have c4b1 : decide (64 < a0.size) = true := decide_eq_true (by omega)
   clear c4
   (first | rw [c4b0] | (simp only [i64_w, i32_w]; rw [c4b0]) | skip)
   replace H := Option.bind_eq_some_iff.mp H
   obtain ⟨t149, A50, H⟩ := H
   replace H : (dominoref08_Mac.j0 k t149 a1) = some r := H
   have A5 := Aside0.mk A50
   clear A50
   have H' := Aside0.mk H
   clear H
   go_wp2_with (first | ((with_reducible refine gate_callee (f := 38) rfl ?_); refine goesL_ (some 13) rfl rfl Try.func38 (by kernel_rfl) rfl #[.string a0] rfl (by (try simp only [List.map_toArray, List.map_cons, List.map_nil]); first | done | rfl | (simp only [List.length_drop, List.length_take]; rfl)) ?_; (with_reducible refine (dominoref07_Sum.calls a0 t149 _ A5.out).mono ?_); rintro e w6 ⟨rfl, hb⟩; refine ⟨_, rfl, ?_⟩; have n0_ := Aside0.mk (below_step (by repeat (first | (with_reducible first | exact HB.out | apply below_alloc | apply pw_below_drewN | apply below_drew1) | exact HB.out)) hb); clear HB; have HB := n0_; clear n0_; (try clear hb); (try clear hb2); (try clear hk); (try clear hi)))
   go_meet
   case rel => exact ⟨_, (t149), (by first | rfl | (simp; done) | (simp [*]; done)), H', ⟨by first | omega | exact Nat.le_refl _⟩, ⟨by repeat (first | (with_reducible first | exact HB.out | apply below_alloc | apply pw_below_drewN | apply below_drew1) | exact HB.out)⟩⟩
  ·rw [if_neg c4] at H
   have c4b0 : decide (64 < (a0.size : Int)) = false := decide_eq_false c4
   have c4b1 : decide (64 < a0.size) = false := decide_eq_false (by omega)
   clear c4
   (first | rw [c4b0] | (simp only [i64_w, i32_w]; rw [c4b0]) | skip)
   have H' := Aside0.mk H
   clear H
   go_wp2
   go_meet
   case rel => exact ⟨_, (a0), (by first | rfl | (simp; done) | (simp [*]; done)), H', ⟨by first | omega | exact Nat.le_refl _⟩, ⟨by repeat (first | (with_reducible first | exact HB.out | apply below_alloc | apply pw_below_drewN | apply below_drew1) | exact HB.out)⟩⟩
 case rest =>
  clear HC3
  try clear c1
  try clear p2
  try clear c3
  try clear c4
  try clear c4b0
  try clear c4b1
  obtain ⟨kq, x0_2, rfl, HA, HJ2, HB⟩ := hcut
  cases kq with
  | zero => exact absurd HA.out (by simp [dominoref08_Mac.j0])
  | succ kj2 =>
   have H := HA.out
   clear HA
   simp only [dominoref08_Mac.j0] at H
   obtain ⟨y150, hy150⟩ : ∃ y_ : List Int, y_ = (([] : List Int)) := ⟨_, rfl⟩
   replace H : (dominoref08_Mac.l0 kj2 x0_2 a1 y150 (([] : List Int)) 0) = some r := by first | (rw [hy150]; with_reducible exact H) | (have H2_ := (Option.bind_some _ _).symm.trans H; rw [hy150]; with_reducible exact H2_) | (have H2_ := (Option.bind_some _ _).symm.trans H; with_reducible exact H2_) | with_reducible exact H | (rw [hy150]; exact H) | exact H
   have Ny150 := Aside0.mk hy150
   clear hy150
   obtain ⟨y153, hy153⟩ : ∃ y_ : List Int, y_ = (([] : List Int)) := ⟨_, rfl⟩
   replace H : (dominoref08_Mac.l0 kj2 x0_2 a1 y150 y153 0) = some r := by first | (rw [hy153]; with_reducible exact H) | (have H2_ := (Option.bind_some _ _).symm.trans H; rw [hy153]; with_reducible exact H2_) | (have H2_ := (Option.bind_some _ _).symm.trans H; with_reducible exact H2_) | with_reducible exact H | (rw [hy153]; exact H) | exact H
   have Ny153 := Aside0.mk hy153
   clear hy153
   have H' := Aside0.mk H
   clear H
   go_wp2_with (first | ((with_reducible refine gate_dst (N := 14) rfl ?_); refine Kd.R_lit (Kd.int .u8) _ 5 ?hg (N := 14) ?hd (xs := ([] : List Int)) (inner := []) (ok := fun _ => True) (okp := fun _ => True) ?hr ?hp (fun _ hk => hk) trivial (Below.refl _ _) (Nat.le_refl _) (by simp) ?_; (case hd => rfl); (case hg => rfl); (case hr => first | (go_simp; done) | (go_simp; rfl)); (case hp => exact (Reps.none _ _)); intro v151 w7 ho8 hb hg_ hnew_; clear hg_ hnew_; (first | rw [← Ny150.out] at ho8 | (simp only [Int.reduceToNat] at ho8; rw [← Ny150.out] at ho8)); have n0_ := Aside0.mk (Kd.R_lower ho8 (below_size (by repeat (first | (with_reducible first | exact HB.out | apply below_alloc | apply pw_below_drewN | apply below_drew1) | exact HB.out)))); have n1_ := Aside0.mk (below_step (by repeat (first | (with_reducible first | exact HB.out | apply below_alloc | apply pw_below_drewN | apply below_drew1) | exact HB.out)) hb); clear HB; have HO152 := n0_; have HB := n1_; clear n0_ n1_; clear hb ho8) | ((with_reducible refine gate_dst (N := 15) rfl ?_); refine Kd.R_lit (Kd.int .u8) _ 5 ?hg (N := 15) ?hd (xs := ([] : List Int)) (inner := []) (ok := fun _ => True) (okp := fun _ => True) ?hr ?hp (fun _ hk => hk) trivial (Below.refl _ _) (Nat.le_refl _) (by simp) ?_; (case hd => rfl); (case hg => rfl); (case hr => first | (go_simp; done) | (go_simp; rfl)); (case hp => exact (Reps.none _ _)); intro v154 w9 ho10 hb hg_ hnew_; clear hg_ hnew_; (first | rw [← Ny153.out] at ho10 | (simp only [Int.reduceToNat] at ho10; rw [← Ny153.out] at ho10)); have n0_ := Aside0.mk (Kd.R_elder' (by (with_reducible repeat (first | apply Kd.R_alloc | apply Kd.R_drewN | apply Kd.R_drew)); exact HO152.out) (Kd.R_base ho10) hb); have n1_ := Aside0.mk (Kd.R_lower (Kd.R_new' ho10 (Kd.R_lt (by (with_reducible repeat (first | apply Kd.R_alloc | apply Kd.R_drewN | apply Kd.R_drew)); exact HO152.out))) (below_size (by repeat (first | (with_reducible first | exact HB.out | apply below_alloc | apply pw_below_drewN | apply below_drew1) | exact HB.out)))); have n2_ := Aside0.mk (below_step (by repeat (first | (with_reducible first | exact HB.out | apply below_alloc | apply pw_below_drewN | apply below_drew1) | exact HB.out)) hb); clear HO152; clear HB; have HO152 := n0_; have HO155 := n1_; have HB := n2_; clear n0_ n1_ n2_; clear hb ho10))
   go_loopg [5, 6, 7] kj2 (fun kq v5 v6 v7 w' => ∃ (x5_2 : List Int) (x6_2 : List Int) (x7_2 : Int), v7 = .int .i64 x7_2 ∧ Aside0 (dominoref08_Mac.l0 kq x0_2 a1 x5_2 x6_2 x7_2 = some r) ∧ Aside0 (kq ≤ kj2) ∧ Aside0 (Kd.R (Kd.int .u8) 5 w' w.heap.size (fun k_ => some k_ ≠ (v6 : Value).ownBlock) v5 x5_2) ∧ Aside0 (Kd.R (Kd.int .u8) 5 w' w.heap.size (fun k_ => some k_ ≠ (v5 : Value).ownBlock) v6 x6_2) ∧ Aside0 (Below w.heap.size w w'))
   case atStart => exact ⟨(y150), (y153), (0), (by first | rfl | (simp; done) | (simp [*]; done)), H', ⟨Nat.le_refl _⟩, ⟨by (with_reducible repeat (first | apply Kd.R_alloc | apply Kd.R_drewN | apply Kd.R_drew)); exact Kd.R_mono HO152.out (fun _ hk => hk.2)⟩, ⟨by (with_reducible repeat (first | apply Kd.R_alloc | apply Kd.R_drewN | apply Kd.R_drew)); exact Kd.R_mono HO155.out (fun _ hk => hk.2)⟩, ⟨by repeat (first | (with_reducible first | exact HB.out | apply below_alloc | apply pw_below_drewN | apply below_drew1) | exact HB.out)⟩⟩
   case round =>
    clear H'
    try clear c1
    try clear p2
    try clear c3
    try clear c4
    try clear c4b0
    try clear c4b1
    try clear p2
    obtain ⟨x5_2, x6_2, x7_2, rfl, HA, HK2, HO_5, HO_6, HB⟩ := hrel
    cases gk with
    | zero => exact absurd HA.out (by simp [dominoref08_Mac.l0])
    | succ k2 =>
     have H := HA.out
     clear HA
     simp only [dominoref08_Mac.l0] at H
     by_cases c11 : x7_2 < 64
     ·rw [if_pos c11] at H
      have c11b0 : decide (x7_2 < 64) = true := decide_eq_true c11
      clear c11
      by_cases c12 : x7_2 < (x0_2.size : Int)
      ·rw [if_pos c12] at H
       have c12b0 : decide (x7_2 < (x0_2.size : Int)) = true := decide_eq_true c12
       clear c12
       by_cases c13 : 0 ≤ x7_2
       ·rw [if_pos c13] at H
        have c13b0 : decide (0 ≤ x7_2) = true := decide_eq_true c13
        clear c13
        by_cases c15 : x5_2.length < 140737488355328
        ·rw [if_pos c15] at H
         have LMc15 := Aside0.mk c15
         clear c15
         obtain ⟨y156, hy156⟩ : ∃ y_ : List Int, y_ = (x5_2 ++ [Go.bits .xor .u8 (bt x0_2 x7_2) 54]) := ⟨_, rfl⟩
         replace H : (if x6_2.length < 140737488355328 then (dominoref08_Mac.l0 k2 x0_2 a1 y156 (x6_2 ++ [Go.bits .xor .u8 (bt x0_2 x7_2) 92]) (wrap64 (x7_2 + 1))) else (none)) = some r := by first | (rw [hy156]; with_reducible exact H) | (have H2_ := (Option.bind_some _ _).symm.trans H; rw [hy156]; with_reducible exact H2_) | (have H2_ := (Option.bind_some _ _).symm.trans H; with_reducible exact H2_) | with_reducible exact H | (rw [hy156]; exact H) | exact H
         have Ny156 := Aside0.mk hy156
         clear hy156
         by_cases c16 : x6_2.length < 140737488355328
         ·rw [if_pos c16] at H
          have LMc16 := Aside0.mk c16
          clear c16
          obtain ⟨y159, hy159⟩ : ∃ y_ : List Int, y_ = (x6_2 ++ [Go.bits .xor .u8 (bt x0_2 x7_2) 92]) := ⟨_, rfl⟩
          replace H : (dominoref08_Mac.l0 k2 x0_2 a1 y156 y159 (wrap64 (x7_2 + 1))) = some r := by first | (rw [hy159]; with_reducible exact H) | (have H2_ := (Option.bind_some _ _).symm.trans H; rw [hy159]; with_reducible exact H2_) | (have H2_ := (Option.bind_some _ _).symm.trans H; with_reducible exact H2_) | with_reducible exact H | (rw [hy159]; exact H) | exact H
          have Ny159 := Aside0.mk hy159
          clear hy159
          have H' := Aside0.mk H
          clear H
          have p14 : 0 ≤ (x7_2 : Int) := of_decide_eq_true (by first | (with_reducible assumption) | assumption)
          have q14 : x7_2 < (x0_2.size : Int) := of_decide_eq_true (by first | (with_reducible assumption) | assumption)
          have hx14 := bt_at x0_2 x7_2
          replace p14 := eq_true p14
          replace q14 := eq_true q14
          go_wp2_with (first | ((with_reducible refine gate_builtin (b := .append) (xs := #[.tmp 27, .tmp 30]) rfl ?_); at_builtin; refine Kd.R_append (Kd.int .u8) (w0 := w) w.heap.size rfl (.tmp 27) (.tmp 30) 46 5 (.int .u8 0) 1 rfl Try.underlying46 info5 rfl (by decide) (by omega) u5 x5_2 (Go.bits .xor .u8 (bt x0_2 x7_2) 54) [.int .u8 (Go.bits .xor .u8 (bt x0_2 x7_2) 54)] (fun k_ => some k_ ≠ (u6 : Value).ownBlock) (fun _ => False) rfl rfl ?aP (fun _ hk => hk.elim) ?aF ?aO ?aB ?aS ?aL ?_; (case aP => exact rfl); (case aB => exact (by repeat (first | (with_reducible first | exact HB.out | apply below_alloc | apply pw_below_drewN | apply below_drew1) | exact HB.out))); (case aF => exact (fun k_ hk => Kd.fresh' (Kd.R_lt (by (with_reducible repeat (first | apply Kd.R_alloc | apply Kd.R_drewN | apply Kd.R_drew)); exact HO_6.out)) k_ hk)); (case aO => exact (by (with_reducible repeat (first | apply Kd.R_alloc | apply Kd.R_drewN | apply Kd.R_drew)); exact HO_5.out)); (case aS => exact (below_size (by repeat (first | (with_reducible first | exact HB.out | apply below_alloc | apply pw_below_drewN | apply below_drew1) | exact HB.out)))); (case aL => have := LMc15.out; omega); intro v157 w17 ho hb hg hat; rw [← Ny156.out] at ho; have n0_ := Aside0.mk (Kd.R_after (ok := (fun _ => True)) (by (with_reducible repeat (first | apply Kd.R_alloc | apply Kd.R_drewN | apply Kd.R_drew)); exact Kd.R_mono HO_6.out (fun _ hk => ⟨trivial, hk⟩)) hg hat); have n1_ := Aside0.mk (hb); have n2_ := Aside0.mk (ho); clear HO_6; clear HB; clear HO_5; have HO_6 := n0_; have HB := n1_; have HO158 := n2_; clear n0_ n1_ n2_; clear ho hb hg hat) | ((with_reducible refine gate_builtin (b := .append) (xs := #[.tmp 32, .tmp 35]) rfl ?_); at_builtin; refine Kd.R_append (Kd.int .u8) (w0 := w) w.heap.size rfl (.tmp 32) (.tmp 35) 46 5 (.int .u8 0) 1 rfl Try.underlying46 info5 rfl (by decide) (by omega) u6 x6_2 (Go.bits .xor .u8 (bt x0_2 x7_2) 92) [.int .u8 (Go.bits .xor .u8 (bt x0_2 x7_2) 92)] (fun k_ => some k_ ≠ (v157 : Value).ownBlock) (fun _ => False) rfl rfl ?aP (fun _ hk => hk.elim) ?aF ?aO ?aB ?aS ?aL ?_; (case aP => exact rfl); (case aB => exact (by repeat (first | (with_reducible first | exact HB.out | apply below_alloc | apply pw_below_drewN | apply below_drew1) | exact HB.out))); (case aF => exact (fun k_ hk => Kd.fresh' (Kd.R_lt (by (with_reducible repeat (first | apply Kd.R_alloc | apply Kd.R_drewN | apply Kd.R_drew)); exact HO158.out)) k_ hk)); (case aO => exact (by (with_reducible repeat (first | apply Kd.R_alloc | apply Kd.R_drewN | apply Kd.R_drew)); exact Kd.R_mono HO_6.out (fun _ hk => hk.2))); (case aS => exact (below_size (by repeat (first | (with_reducible first | exact HB.out | apply below_alloc | apply pw_below_drewN | apply below_drew1) | exact HB.out)))); (case aL => have := LMc16.out; omega); intro v160 w18 ho hb hg hat; rw [← Ny159.out] at ho; have n0_ := Aside0.mk (Kd.R_after (ok := (fun _ => True)) (by (with_reducible repeat (first | apply Kd.R_alloc | apply Kd.R_drewN | apply Kd.R_drew)); exact Kd.R_mono HO158.out (fun _ hk => ⟨trivial, hk⟩)) hg hat); have n1_ := Aside0.mk (hb); have n2_ := Aside0.mk (ho); clear HO158; clear HB; clear HO_6; have HO158 := n0_; have HB := n1_; have HO161 := n2_; clear n0_ n1_ n2_; clear ho hb hg hat))
          go_roundg k2
          case measure => have := HJ2.out; have := HK2.out; omega
          case rel => exact ⟨(y156), (y159), (wrap64 (x7_2 + 1)), (by first | rfl | (simp; done) | (simp [*]; done)), H', ⟨by have := HJ2.out; have := HK2.out; omega⟩, ⟨by (with_reducible repeat (first | apply Kd.R_alloc | apply Kd.R_drewN | apply Kd.R_drew)); exact Kd.R_mono HO158.out (fun _ hk => hk.2)⟩, ⟨by (with_reducible repeat (first | apply Kd.R_alloc | apply Kd.R_drewN | apply Kd.R_drew)); exact HO161.out⟩, ⟨by repeat (first | (with_reducible first | exact HB.out | apply below_alloc | apply pw_below_drewN | apply below_drew1) | exact HB.out)⟩⟩
         ·rw [if_neg c16] at H
          exact absurd H (by simp)
        ·rw [if_neg c15] at H
         exact absurd H (by simp)
       ·rw [if_neg c13] at H
        exact absurd H (by simp)
      ·rw [if_neg c12] at H
       have c12b0 : decide (x7_2 < (x0_2.size : Int)) = false := decide_eq_false c12
       clear c12
       by_cases c19 : x5_2.length < 140737488355328
       ·rw [if_pos c19] at H
        have LMc19 := Aside0.mk c19
        clear c19
        obtain ⟨y162, hy162⟩ : ∃ y_ : List Int, y_ = (x5_2 ++ [Go.bits .xor .u8 0 54]) := ⟨_, rfl⟩
        replace H : (if x6_2.length < 140737488355328 then (dominoref08_Mac.l0 k2 x0_2 a1 y162 (x6_2 ++ [Go.bits .xor .u8 0 92]) (wrap64 (x7_2 + 1))) else (none)) = some r := by first | (rw [hy162]; with_reducible exact H) | (have H2_ := (Option.bind_some _ _).symm.trans H; rw [hy162]; with_reducible exact H2_) | (have H2_ := (Option.bind_some _ _).symm.trans H; with_reducible exact H2_) | with_reducible exact H | (rw [hy162]; exact H) | exact H
        have Ny162 := Aside0.mk hy162
        clear hy162
        by_cases c20 : x6_2.length < 140737488355328
        ·rw [if_pos c20] at H
         have LMc20 := Aside0.mk c20
         clear c20
         obtain ⟨y165, hy165⟩ : ∃ y_ : List Int, y_ = (x6_2 ++ [Go.bits .xor .u8 0 92]) := ⟨_, rfl⟩
         replace H : (dominoref08_Mac.l0 k2 x0_2 a1 y162 y165 (wrap64 (x7_2 + 1))) = some r := by first | (rw [hy165]; with_reducible exact H) | (have H2_ := (Option.bind_some _ _).symm.trans H; rw [hy165]; with_reducible exact H2_) | (have H2_ := (Option.bind_some _ _).symm.trans H; with_reducible exact H2_) | with_reducible exact H | (rw [hy165]; exact H) | exact H
         have Ny165 := Aside0.mk hy165
         clear hy165
         have H' := Aside0.mk H
         clear H
         go_wp2_with (first | ((with_reducible refine gate_builtin (b := .append) (xs := #[.tmp 27, .tmp 30]) rfl ?_); at_builtin; refine Kd.R_append (Kd.int .u8) (w0 := w) w.heap.size rfl (.tmp 27) (.tmp 30) 46 5 (.int .u8 0) 1 rfl Try.underlying46 info5 rfl (by decide) (by omega) u5 x5_2 (Go.bits .xor .u8 0 54) [.int .u8 (Go.bits .xor .u8 0 54)] (fun k_ => some k_ ≠ (u6 : Value).ownBlock) (fun _ => False) rfl rfl ?aP (fun _ hk => hk.elim) ?aF ?aO ?aB ?aS ?aL ?_; (case aP => exact rfl); (case aB => exact (by repeat (first | (with_reducible first | exact HB.out | apply below_alloc | apply pw_below_drewN | apply below_drew1) | exact HB.out))); (case aF => exact (fun k_ hk => Kd.fresh' (Kd.R_lt (by (with_reducible repeat (first | apply Kd.R_alloc | apply Kd.R_drewN | apply Kd.R_drew)); exact HO_6.out)) k_ hk)); (case aO => exact (by (with_reducible repeat (first | apply Kd.R_alloc | apply Kd.R_drewN | apply Kd.R_drew)); exact HO_5.out)); (case aS => exact (below_size (by repeat (first | (with_reducible first | exact HB.out | apply below_alloc | apply pw_below_drewN | apply below_drew1) | exact HB.out)))); (case aL => have := LMc19.out; omega); intro v163 w21 ho hb hg hat; rw [← Ny162.out] at ho; have n0_ := Aside0.mk (Kd.R_after (ok := (fun _ => True)) (by (with_reducible repeat (first | apply Kd.R_alloc | apply Kd.R_drewN | apply Kd.R_drew)); exact Kd.R_mono HO_6.out (fun _ hk => ⟨trivial, hk⟩)) hg hat); have n1_ := Aside0.mk (hb); have n2_ := Aside0.mk (ho); clear HO_6; clear HB; clear HO_5; have HO_6 := n0_; have HB := n1_; have HO164 := n2_; clear n0_ n1_ n2_; clear ho hb hg hat) | ((with_reducible refine gate_builtin (b := .append) (xs := #[.tmp 32, .tmp 35]) rfl ?_); at_builtin; refine Kd.R_append (Kd.int .u8) (w0 := w) w.heap.size rfl (.tmp 32) (.tmp 35) 46 5 (.int .u8 0) 1 rfl Try.underlying46 info5 rfl (by decide) (by omega) u6 x6_2 (Go.bits .xor .u8 0 92) [.int .u8 (Go.bits .xor .u8 0 92)] (fun k_ => some k_ ≠ (v163 : Value).ownBlock) (fun _ => False) rfl rfl ?aP (fun _ hk => hk.elim) ?aF ?aO ?aB ?aS ?aL ?_; (case aP => exact rfl); (case aB => exact (by repeat (first | (with_reducible first | exact HB.out | apply below_alloc | apply pw_below_drewN | apply below_drew1) | exact HB.out))); (case aF => exact (fun k_ hk => Kd.fresh' (Kd.R_lt (by (with_reducible repeat (first | apply Kd.R_alloc | apply Kd.R_drewN | apply Kd.R_drew)); exact HO164.out)) k_ hk)); (case aO => exact (by (with_reducible repeat (first | apply Kd.R_alloc | apply Kd.R_drewN | apply Kd.R_drew)); exact Kd.R_mono HO_6.out (fun _ hk => hk.2))); (case aS => exact (below_size (by repeat (first | (with_reducible first | exact HB.out | apply below_alloc | apply pw_below_drewN | apply below_drew1) | exact HB.out)))); (case aL => have := LMc20.out; omega); intro v166 w22 ho hb hg hat; rw [← Ny165.out] at ho; have n0_ := Aside0.mk (Kd.R_after (ok := (fun _ => True)) (by (with_reducible repeat (first | apply Kd.R_alloc | apply Kd.R_drewN | apply Kd.R_drew)); exact Kd.R_mono HO164.out (fun _ hk => ⟨trivial, hk⟩)) hg hat); have n1_ := Aside0.mk (hb); have n2_ := Aside0.mk (ho); clear HO164; clear HB; clear HO_6; have HO164 := n0_; have HB := n1_; have HO167 := n2_; clear n0_ n1_ n2_; clear ho hb hg hat))
         go_roundg k2
         case measure => have := HJ2.out; have := HK2.out; omega
         case rel => exact ⟨(y162), (y165), (wrap64 (x7_2 + 1)), (by first | rfl | (simp; done) | (simp [*]; done)), H', ⟨by have := HJ2.out; have := HK2.out; omega⟩, ⟨by (with_reducible repeat (first | apply Kd.R_alloc | apply Kd.R_drewN | apply Kd.R_drew)); exact Kd.R_mono HO164.out (fun _ hk => hk.2)⟩, ⟨by (with_reducible repeat (first | apply Kd.R_alloc | apply Kd.R_drewN | apply Kd.R_drew)); exact HO167.out⟩, ⟨by repeat (first | (with_reducible first | exact HB.out | apply below_alloc | apply pw_below_drewN | apply below_drew1) | exact HB.out)⟩⟩
        ·rw [if_neg c20] at H
         exact absurd H (by simp)
       ·rw [if_neg c19] at H
        exact absurd H (by simp)
     ·rw [if_neg c11] at H
      have c11b0 : decide (x7_2 < 64) = false := decide_eq_false c11
      clear c11
      by_cases c23 : (strOfNums x5_2).size + a1.size ≤ 9223372036854775807
      ·rw [if_pos c23] at H
       have c23b0 := eq_true c23
       have c23b1 : decide ((strOfNums x5_2).size + a1.size ≤ 9223372036854775807) = true := decide_eq_true c23
       try have c23b2 : (9223372036854775807 < (strOfNums x5_2).size + a1.size) = False := eq_false (Nat.not_lt.2 c23)
       replace H := Option.bind_eq_some_iff.mp H
       obtain ⟨t168, A240, H⟩ := H
       replace H : (if (strOfNums x6_2).size + t168.size ≤ 9223372036854775807 then ((dominoref07_Sum.f ((strOfNums x6_2) ++ t168)).bind fun t169 => (some t169)) else (none)) = some r := H
       have A24 := Aside0.mk A240
       clear A240
       by_cases c25 : (strOfNums x6_2).size + t168.size ≤ 9223372036854775807
       ·rw [if_pos c25] at H
        have c25b0 := eq_true c25
        have c25b1 : decide ((strOfNums x6_2).size + t168.size ≤ 9223372036854775807) = true := decide_eq_true c25
        try have c25b2 : (9223372036854775807 < (strOfNums x6_2).size + t168.size) = False := eq_false (Nat.not_lt.2 c25)
        replace H := Option.bind_eq_some_iff.mp H
        obtain ⟨t169, A260, H⟩ := H
        replace H : (some t169) = some r := H
        have A26 := Aside0.mk A260
        clear A260
        obtain rfl := Option.some.inj H
        try go_wp2
        have n0_ := Aside0.mk (Kd.R_drew HO_5.out)
        have n1_ := Aside0.mk (Kd.R_drew HO_6.out)
        have n2_ := Aside0.mk (below_drew1 HB.out)
        clear HO_5
        clear HO_6
        clear HB
        have HO_5 := n0_
        have HO_6 := n1_
        have HB := n2_
        clear n0_ n1_ n2_
        have hcv28 := own_string (P := Try.prog) Try.underlying46 Try.underlying5 Try.underlying9 (Kd.own_of_R HO_6.out)
        have hcv29 := own_string (P := Try.prog) Try.underlying46 Try.underlying5 Try.underlying9 (Kd.own_of_R HO_5.out)
        refine start_ (n := 10) (S := fun w' => w'.ownsRow w.heap.size 5 1 u6 x6_2.length (encs (Value.int .u8) x6_2) ∧ w'.ownsRow w.heap.size 5 1 u5 x5_2.length (encs (Value.int .u8) x5_2)) (ds := []) #[false,false,false,false,false,false,false,false,false,false] (by kernel_rfl) rfl rfl ⟨Kd.own_of_R HO_6.out, Kd.own_of_R HO_5.out⟩ (fun hHeld => ?_); refine with_tabW dominoref08_Mac.tab13 dominoref08_Mac.bits13 (fun HT_ HW_ => ?_)
        generalize wr.drew = w27 at HO_5 HO_6 HB hHeld ⊢
        refine pure_ (i := 0) (N := some 37) (v := ?_) (a' := ?_) #[true,false,false,false,false,false,false,false,false,false] rfl rfl (any_of HT_.out (by kernel_rfl)) (fun _ _ _ h => h) (Or.inl ⟨by rfl, ?_⟩) ?_ ?_
        rotate_left;(intro w';go_simp;with_reducible rfl);rotate_left;(simp only [Act.put, List.setIfInBounds_toArray, List.set_cons_zero, List.set_cons_succ, i64_w, i32_w];rfl)
        refine take_ (i := 1) (N := some 38) (v := ?_) (a' := ?_) #[true,true,false,false,false,false,false,false,false,false] rfl rfl (take_ofW HT_.out HW_.out (by kernel_rfl)) (fun _ _ _ h => h) (Or.inl ⟨by rfl, ?_⟩) hHeld ?_ ?_
        rotate_left
        ·intro w' hw'
         have hcv_ := own_string (P := Try.prog) Try.underlying46 Try.underlying5 Try.underlying9 hw'.1
         go_simp
         with_reducible rfl
        rotate_left
        ·simp only [Act.put, List.setIfInBounds_toArray, List.set_cons_zero, List.set_cons_succ, i64_w, i32_w]
         rfl
        refine pure_ (i := 2) (N := some 39) (v := ?_) (a' := ?_) #[true,true,true,false,false,false,false,false,false,false] rfl rfl (any_of HT_.out (by kernel_rfl)) (fun _ _ _ h => h) (Or.inl ⟨by rfl, ?_⟩) ?_ ?_
        rotate_left;(intro w';go_simp;with_reducible rfl);rotate_left;(simp only [Act.put, List.setIfInBounds_toArray, List.set_cons_zero, List.set_cons_succ, i64_w, i32_w];rfl)
        refine take_ (i := 3) (N := some 40) (v := ?_) (a' := ?_) #[true,true,true,true,false,false,false,false,false,false] rfl rfl (take_ofW HT_.out HW_.out (by kernel_rfl)) (fun _ _ _ h => h) (Or.inl ⟨by rfl, ?_⟩) hHeld ?_ ?_
        rotate_left
        ·intro w' hw'
         have hcv_ := own_string (P := Try.prog) Try.underlying46 Try.underlying5 Try.underlying9 hw'.2
         go_simp
         with_reducible rfl
        rotate_left
        ·simp only [Act.put, List.setIfInBounds_toArray, List.set_cons_zero, List.set_cons_succ, i64_w, i32_w]
         rfl
        refine pure_ (i := 4) (N := some 41) (v := ?_) (a' := ?_) #[true,true,true,true,true,false,false,false,false,false] rfl rfl (any_of HT_.out (by kernel_rfl)) (fun _ _ _ h => h) (Or.inl ⟨by rfl, ?_⟩) ?_ ?_
        rotate_left;(intro w';go_simp;with_reducible rfl);rotate_left;(simp only [Act.put, List.setIfInBounds_toArray, List.set_cons_zero, List.set_cons_succ, i64_w, i32_w];rfl)
        refine pure_ (i := 5) (N := some 42) (v := ?_) (a' := ?_) #[true,true,true,true,true,true,false,false,false,false] rfl rfl (any_of HT_.out (by kernel_rfl)) (fun _ _ _ h => h) (Or.inl ⟨by rfl, ?_⟩) ?_ ?_
        rotate_left;(intro w';go_simp;with_reducible rfl);rotate_left;(simp only [Act.put, List.setIfInBounds_toArray, List.set_cons_zero, List.set_cons_succ, i64_w, i32_w];rfl)
        refine one_ (i := 6) (N := some 43) #[true,true,true,true,true,true,true,false,false,false] rfl rfl (one_of HT_.out (by kernel_rfl)) (by decide) (fun K hK => ?_)
        refine goes_ Try.func38 (by kernel_rfl) rfl #[.string ((strOfNums x5_2) ++ a1)] (by rfl) rfl rfl (by (try simp only [List.map_toArray, List.map_cons, List.map_nil]); first | done | rfl | (simp only [List.length_drop, List.length_take]; rfl)) ?_
        with_reducible refine (dominoref07_Sum.calls ((strOfNums x5_2) ++ a1) t168 _ A24.out).mono ?_
        rintro e w30 ⟨rfl, hb⟩
        refine ⟨_, rfl, ?_⟩
        have n0_ := Aside0.mk (Kd.R_below (by (with_reducible repeat (first | apply Kd.R_alloc | apply Kd.R_drewN | apply Kd.R_drew)); exact HO_5.out) hb)
        have n1_ := Aside0.mk (Kd.R_below (by (with_reducible repeat (first | apply Kd.R_alloc | apply Kd.R_drewN | apply Kd.R_drew)); exact HO_6.out) hb)
        have n2_ := Aside0.mk (below_step (by repeat (first | (with_reducible first | exact HB.out | apply below_alloc | apply pw_below_drewN | apply below_drew1) | exact HB.out)) hb)
        clear HO_5
        clear HO_6
        clear HB
        have HO_5 := n0_
        have HO_6 := n1_
        have HB := n2_
        clear n0_ n1_ n2_
        (try clear hb)
        (try clear hb2)
        (try clear hk)
        (try clear hi)
        refine hK.out _ _ ⟨Kd.own_of_R HO_6.out, Kd.own_of_R HO_5.out⟩ (fun hHeld => ?_)
        clear hK K
        refine norm_ (a' := ?_) ?_ ?_
        rotate_left
        ·show Act.put _ (some 43) _ = _
         simp only [Act.put, List.setIfInBounds_toArray, List.set_cons_zero, List.set_cons_succ, i64_w, i32_w]
         rfl
        refine pure_ (i := 7) (N := some 44) (v := ?_) (a' := ?_) #[true,true,true,true,true,true,true,true,false,false] rfl rfl (any_of HT_.out (by kernel_rfl)) (fun _ _ _ h => h) (Or.inl ⟨by rfl, ?_⟩) ?_ ?_
        rotate_left;(intro w';go_simp;with_reducible rfl);rotate_left;(simp only [Act.put, List.setIfInBounds_toArray, List.set_cons_zero, List.set_cons_succ, i64_w, i32_w];rfl)
        refine one_ (i := 8) (N := some 45) #[true,true,true,true,true,true,true,true,true,false] rfl rfl (one_of HT_.out (by kernel_rfl)) (by decide) (fun K hK => ?_)
        refine goes_ Try.func38 (by kernel_rfl) rfl #[.string ((strOfNums x6_2) ++ t168)] (by rfl) rfl rfl (by (try simp only [List.map_toArray, List.map_cons, List.map_nil]); first | done | rfl | (simp only [List.length_drop, List.length_take]; rfl)) ?_
        with_reducible refine (dominoref07_Sum.calls ((strOfNums x6_2) ++ t168) t169 _ A26.out).mono ?_
        rintro e w32 ⟨rfl, hb⟩
        refine ⟨_, rfl, ?_⟩
        have n0_ := Aside0.mk (Kd.R_below (by (with_reducible repeat (first | apply Kd.R_alloc | apply Kd.R_drewN | apply Kd.R_drew)); exact HO_5.out) hb)
        have n1_ := Aside0.mk (Kd.R_below (by (with_reducible repeat (first | apply Kd.R_alloc | apply Kd.R_drewN | apply Kd.R_drew)); exact HO_6.out) hb)
        have n2_ := Aside0.mk (below_step (by repeat (first | (with_reducible first | exact HB.out | apply below_alloc | apply pw_below_drewN | apply below_drew1) | exact HB.out)) hb)
        clear HO_5
        clear HO_6
        clear HB
        have HO_5 := n0_
        have HO_6 := n1_
        have HB := n2_
        clear n0_ n1_ n2_
        (try clear hb)
        (try clear hb2)
        (try clear hk)
        (try clear hi)
        refine hK.out _ _ ⟨Kd.own_of_R HO_6.out, Kd.own_of_R HO_5.out⟩ (fun hHeld => ?_)
        clear hK K
        refine norm_ (a' := ?_) ?_ ?_
        rotate_left
        ·show Act.put _ (some 45) _ = _
         simp only [Act.put, List.setIfInBounds_toArray, List.set_cons_zero, List.set_cons_succ, i64_w, i32_w]
         rfl
        refine pure_ (i := 9) (N := some 4) (v := ?_) (a' := ?_) #[true,true,true,true,true,true,true,true,true,true] rfl rfl (any_of HT_.out (by kernel_rfl)) (fun _ _ _ h => h) (Or.inl ⟨by rfl, ?_⟩) ?_ ?_
        rotate_left;(intro w';go_simp;with_reducible rfl);rotate_left;(simp only [Act.put, List.setIfInBounds_toArray, List.set_cons_zero, List.set_cons_succ, i64_w, i32_w];rfl)
        refine done_ (done_of HT_.out (by kernel_rfl)) ?_
        try go_wp2
        go_ret
        exact ⟨by first | rfl | (simp [errW_none, errW_some] <;> rfl) | (simp [*, errW_none, errW_some] <;> rfl), by repeat (first | (with_reducible first | exact HB.out | apply below_alloc | apply pw_below_drewN | apply below_drew1) | exact HB.out)⟩
       ·rw [if_neg c25] at H
        exact absurd H (by simp)
      ·rw [if_neg c23] at H
       exact absurd H (by simp)

/-! ### kdf_Extract: function 20 -/
def kdf_Extract.f (a0 : ByteArray) (a1 : ByteArray) : Option (ByteArray) := if a0.toList = ([] : List UInt8) then ((strings_Repeat.f (⟨#[0]⟩ : ByteArray) 32).bind fun t170 => ((kdf_Mac.f t170 (([a1] : List ByteArray))).bind fun t174 => (some t174))) else ((kdf_Mac.f a0 (([a1] : List ByteArray))).bind fun t178 => (some t178))
set_option maxHeartbeats 8000000 in
set_option maxRecDepth 100000 in
theorem kdf_Extract.calls (a0 : ByteArray) (a1 : ByteArray) (r : ByteArray) (w : World) (h : kdf_Extract.f a0 a1 = some r) :
  Calls Try.prog 20 #[.string a0, .string a1] w fun e w' => e = .returned (.string r) ∧ Below w.heap.size w w' := by
 have HB := Aside0.mk (Below.refl w.heap.size w)
 have H : (if a0.toList = ([] : List UInt8) then ((strings_Repeat.f (⟨#[0]⟩ : ByteArray) 32).bind fun t170 => ((kdf_Mac.f t170 (([a1] : List ByteArray))).bind fun t174 => (some t174))) else ((kdf_Mac.f a0 (([a1] : List ByteArray))).bind fun t178 => (some t178))) = some r := h
 clear h
 by_cases c3 : a0.toList = ([] : List UInt8)
 ·rw [if_pos c3] at H
  have c3b0 : (a0.toList == ([] : List UInt8)) = true := beq_iff_eq.mpr c3
  have c3b1 : (a0.toList != ([] : List UInt8)) = false := bne_eq_false_iff_eq.mpr c3
  clear c3
  replace H := Option.bind_eq_some_iff.mp H
  obtain ⟨t170, A40, H⟩ := H
  replace H : ((kdf_Mac.f t170 (([a1] : List ByteArray))).bind fun t174 => (some t174)) = some r := H
  have A4 := Aside0.mk A40
  clear A40
  obtain ⟨y171, hy171⟩ : ∃ y_ : List ByteArray, y_ = (([a1] : List ByteArray)) := ⟨_, rfl⟩
  replace H : ((kdf_Mac.f t170 y171).bind fun t174 => (some t174)) = some r := by first | (rw [hy171]; with_reducible exact H) | (have H2_ := (Option.bind_some _ _).symm.trans H; rw [hy171]; with_reducible exact H2_) | (have H2_ := (Option.bind_some _ _).symm.trans H; with_reducible exact H2_) | with_reducible exact H | (rw [hy171]; exact H) | exact H
  have Ny171 := Aside0.mk hy171
  clear hy171
  replace H := Option.bind_eq_some_iff.mp H
  obtain ⟨t174, A50, H⟩ := H
  replace H : (some t174) = some r := H
  have A5 := Aside0.mk A50
  clear A50
  obtain rfl := Option.some.inj H
  go_enter Try.func20, Try.ntmps20
  go_wp2_with (first | ((with_reducible refine gate_callee (f := 34) rfl ?_); refine goesL_ (some 7) rfl rfl Try.func34 (by kernel_rfl) rfl #[.string (⟨#[0]⟩ : ByteArray), .int .i64 32] rfl (by (try simp only [List.map_toArray, List.map_cons, List.map_nil]); first | done | rfl | (simp only [List.length_drop, List.length_take]; rfl)) ?_; (with_reducible refine (strings_Repeat.calls (⟨#[0]⟩ : ByteArray) 32 t170 _ A4.out).mono ?_); rintro e w6 ⟨rfl, hb⟩; refine ⟨_, rfl, ?_⟩; have n0_ := Aside0.mk (below_step (by repeat (first | (with_reducible first | exact HB.out | apply below_alloc | apply pw_below_drewN | apply below_drew1) | exact HB.out)) hb); clear HB; have HB := n0_; clear n0_; (try clear hb); (try clear hb2); (try clear hk); (try clear hi)) | ((with_reducible refine gate_dst (N := 10) rfl ?_); refine Kd.R_lit Kd.string _ 9 ?hg (N := 10) ?hd (xs := ([a1] : List ByteArray)) (inner := [.string a1]) (ok := fun _ => True) (okp := fun _ => True) ?hr ?hp (fun _ hk => hk) trivial (Below.refl _ _) (Nat.le_refl _) (by simp) ?_; (case hd => rfl); (case hg => rfl); (case hr => first | (go_simp; done) | (go_simp; rfl)); (case hp => exact (Reps.one (show Kd.M Kd.string _ _ _ a1 [.string a1] from rfl) (Reps.none _ _))); intro v172 w7 ho8 hb hg_ hnew_; clear hg_ hnew_; (first | rw [← Ny171.out] at ho8 | (simp only [Int.reduceToNat] at ho8; rw [← Ny171.out] at ho8)); have n0_ := Aside0.mk (Kd.R_lower ho8 (below_size (by repeat (first | (with_reducible first | exact HB.out | apply below_alloc | apply pw_below_drewN | apply below_drew1) | exact HB.out)))); have n1_ := Aside0.mk (below_step (by repeat (first | (with_reducible first | exact HB.out | apply below_alloc | apply pw_below_drewN | apply below_drew1) | exact HB.out)) hb); clear HB; have HO173 := n0_; have HB := n1_; clear n0_ n1_; clear hb ho8; obtain ⟨Ao9, co9, eo9⟩ := Kd.R_slice HO173.out; subst eo9) | ((with_reducible refine gate_callee (f := 18) rfl ?_); refine goesL_ (some 11) rfl rfl Try.func18 (by kernel_rfl) rfl #[.string t170, .slice Ao9 y171.length co9] rfl (by (try simp only [List.map_toArray, List.map_cons, List.map_nil]); first | done | rfl | (simp only [List.length_drop, List.length_take]; rfl)) ?_; (with_reducible refine (kdf_Mac.calls t170 _ _ y171 t174 _ ?side1 ?side2 A5.out).mono ?_); (case side1 => repeat (first | exact (Kd.R_reads' HO173.out).2.2 | (with_reducible refine Kd.C_alloc ?_ _) | (with_reducible refine Kd.C_drewN ?_ _) | (with_reducible refine Kd.C_drew ?_))); (case side2 => exact (Kd.R_reads' HO173.out).2.1); rintro e w10 ⟨rfl, hb⟩; refine ⟨_, rfl, ?_⟩; have n0_ := Aside0.mk (Kd.R_below (by (with_reducible repeat (first | apply Kd.R_alloc | apply Kd.R_drewN | apply Kd.R_drew)); exact HO173.out) hb); have n1_ := Aside0.mk (below_step (by repeat (first | (with_reducible first | exact HB.out | apply below_alloc | apply pw_below_drewN | apply below_drew1) | exact HB.out)) hb); clear HO173; clear HB; have HO173 := n0_; have HB := n1_; clear n0_ n1_; (try clear hb); (try clear hb2); (try clear hk); (try clear hi)))
  go_ret
  exact ⟨by first | rfl | (simp [errW_none, errW_some] <;> rfl) | (simp [*, errW_none, errW_some] <;> rfl), by repeat (first | (with_reducible first | exact HB.out | apply below_alloc | apply pw_below_drewN | apply below_drew1) | exact HB.out)⟩
 ·rw [if_neg c3] at H
  have c3b0 : (a0.toList == ([] : List UInt8)) = false := beq_eq_false_iff_ne.mpr c3
  have c3b1 : (a0.toList != ([] : List UInt8)) = true := bne_iff_ne.mpr c3
  obtain ⟨y175, hy175⟩ : ∃ y_ : List ByteArray, y_ = (([a1] : List ByteArray)) := ⟨_, rfl⟩
  replace H : ((kdf_Mac.f a0 y175).bind fun t178 => (some t178)) = some r := by first | (rw [hy175]; with_reducible exact H) | (have H2_ := (Option.bind_some _ _).symm.trans H; rw [hy175]; with_reducible exact H2_) | (have H2_ := (Option.bind_some _ _).symm.trans H; with_reducible exact H2_) | with_reducible exact H | (rw [hy175]; exact H) | exact H
  have Ny175 := Aside0.mk hy175
  clear hy175
  replace H := Option.bind_eq_some_iff.mp H
  obtain ⟨t178, A110, H⟩ := H
  replace H : (some t178) = some r := H
  have A11 := Aside0.mk A110
  clear A110
  obtain rfl := Option.some.inj H
  go_enter Try.func20, Try.ntmps20
  go_wp2_with (first | ((with_reducible refine gate_dst (N := 10) rfl ?_); refine Kd.R_lit Kd.string _ 9 ?hg (N := 10) ?hd (xs := ([a1] : List ByteArray)) (inner := [.string a1]) (ok := fun _ => True) (okp := fun _ => True) ?hr ?hp (fun _ hk => hk) trivial (Below.refl _ _) (Nat.le_refl _) (by simp) ?_; (case hd => rfl); (case hg => rfl); (case hr => first | (go_simp; done) | (go_simp; rfl)); (case hp => exact (Reps.one (show Kd.M Kd.string _ _ _ a1 [.string a1] from rfl) (Reps.none _ _))); intro v176 w12 ho13 hb hg_ hnew_; clear hg_ hnew_; (first | rw [← Ny175.out] at ho13 | (simp only [Int.reduceToNat] at ho13; rw [← Ny175.out] at ho13)); have n0_ := Aside0.mk (Kd.R_lower ho13 (below_size (by repeat (first | (with_reducible first | exact HB.out | apply below_alloc | apply pw_below_drewN | apply below_drew1) | exact HB.out)))); have n1_ := Aside0.mk (below_step (by repeat (first | (with_reducible first | exact HB.out | apply below_alloc | apply pw_below_drewN | apply below_drew1) | exact HB.out)) hb); clear HB; have HO177 := n0_; have HB := n1_; clear n0_ n1_; clear hb ho13; obtain ⟨Ao14, co14, eo14⟩ := Kd.R_slice HO177.out; subst eo14) | ((with_reducible refine gate_callee (f := 18) rfl ?_); refine goesL_ (some 11) rfl rfl Try.func18 (by kernel_rfl) rfl #[.string a0, .slice Ao14 y175.length co14] rfl (by (try simp only [List.map_toArray, List.map_cons, List.map_nil]); first | done | rfl | (simp only [List.length_drop, List.length_take]; rfl)) ?_; (with_reducible refine (kdf_Mac.calls a0 _ _ y175 t178 _ ?side1 ?side2 A11.out).mono ?_); (case side1 => repeat (first | exact (Kd.R_reads' HO177.out).2.2 | (with_reducible refine Kd.C_alloc ?_ _) | (with_reducible refine Kd.C_drewN ?_ _) | (with_reducible refine Kd.C_drew ?_))); (case side2 => exact (Kd.R_reads' HO177.out).2.1); rintro e w15 ⟨rfl, hb⟩; refine ⟨_, rfl, ?_⟩; have n0_ := Aside0.mk (Kd.R_below (by (with_reducible repeat (first | apply Kd.R_alloc | apply Kd.R_drewN | apply Kd.R_drew)); exact HO177.out) hb); have n1_ := Aside0.mk (below_step (by repeat (first | (with_reducible first | exact HB.out | apply below_alloc | apply pw_below_drewN | apply below_drew1) | exact HB.out)) hb); clear HO177; clear HB; have HO177 := n0_; have HB := n1_; clear n0_ n1_; (try clear hb); (try clear hb2); (try clear hk); (try clear hi)))
  go_ret
  exact ⟨by first | rfl | (simp [errW_none, errW_some] <;> rfl) | (simp [*, errW_none, errW_some] <;> rfl), by repeat (first | (with_reducible first | exact HB.out | apply below_alloc | apply pw_below_drewN | apply below_drew1) | exact HB.out)⟩

end Go.Proofs.Ytghdmlcmoeoohaa.PKfx
