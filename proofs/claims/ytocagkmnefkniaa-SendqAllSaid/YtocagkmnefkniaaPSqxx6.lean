-- printed for this claim by a program of the claim (wip/tools/pp.py over the kit's print)
import Derived.Test.YtocagkmnefkniaaPSqxx0
namespace Go.Proofs.Ytocagkmnefkniaa.PSqx
open Go.RowKit Go.Proofs.YtocagkmnefkniaaW.PrintWords Go.Proofs.YtocagkmnefkniaaW.PrintLast Go.Proofs.YtocagkmnefkniaaW.PrintMore
attribute [local go_sem] max2_int min2_int max_two min_two max_three min_three max_four min_four   -- for this text's walks alone
set_option linter.unusedVariables false
set_option linter.unusedSimpArgs false

attribute [local go_sem] isSome_setCell_
/-! ### (*queue).slide,over the queue's block -/
def qB (f0 f1 : Int) (d : ByteArray) (v3 v4 : Value) (b5 b6 b7 : Bool) : Obj:=.cells #[.int .u64 f0,.int .u64 f1,.string d,v3,v4,.bool b5,.bool b6,.bool b7] 77 (0,0)
/-- Writes into the block alone,and draws. -/
def SetsD (g : Nat) (w w' : World) : Prop:=∀ P : World → Prop,P w → (∀ w i v,P w → P (w.setCell ⟨g,i,none⟩ v)) → (∀ w n,P w → P (w.drewN n)) → P w'
theorem SetsD.refl (g : Nat) (w : World) : SetsD g w w:=fun _ h _ _ => h
theorem SetsD.set {g : Nat} {w w' : World} (h : SetsD g w w') (i : Nat) (v : Value) : SetsD g w (w'.setCell ⟨g,i,none⟩ v):=fun P h0 h1 h2 => h1 _ _ _ (h P h0 h1 h2)
theorem SetsD.draw {g : Nat} {w w' : World} (h : SetsD g w w') (n : Nat) : SetsD g w (w'.drewN n):=fun P h0 h1 h2 => h2 _ _ (h P h0 h1 h2)
def slideTo (t : List S67) : Int:=IntKind.u64.wrap ((rd_T67 t 0).f1 + 1)
def slideN (f0 : Int) (t : List S67) : Int:=IntKind.u64.wrap (slideTo t - f0)
def cut1 (A : Option Addr) (c n : Nat) : Value:=.slice (if c = 1 then A else A.map (·.add (1 * 2))) (n - 1) (c - 1)
set_option maxHeartbeats 4000000 in
set_option maxRecDepth 100000 in
theorem slide_no (g : Nat) (A : Option Addr) (c : Nat) (t : List S67) (f0 f1 : Int) (d : ByteArray) (v4 : Value) (b5 b6 b7 : Bool) (w : World) (hg : w.heap[g]? = some (qB f0 f1 d (.slice A t.length c) v4 b5 b6 b7)) (hC : Kd.C k67 w A t.length t) (hn : t = [] ∨ t ≠ [] ∧ f0 < (rd_T67 t 0).f0) (hl : t.length < 8796093022208) :
    Calls Try.prog 38 #[.pointer (some ⟨g,0,none⟩)] w fun e w' => e = .returned (.tuple #[]) ∧ SetsD g w w' ∧ w'.heap[g]? = some (qB f0 f1 d (.slice A t.length c) v4 b5 b6 b7):=by
  have hu1:=Try.underlying77
  have hu2:=Try.underlying29
  have hu3:=Try.underlying27
  have hu4:=Try.underlying67
  have hg0:=am_ hg
  unfold qB at hg
  have c0 : w.cell? ⟨g,0,none⟩ = some (.int .u64 f0):=(kc_ hg 0).trans rfl
  have c3 : w.cell? ⟨g,3,none⟩ = some (.slice A t.length c):=(kc_ hg 3).trans rfl
  clear hg
  rcases hn with rfl|⟨hn,hlo⟩
  · go_enter Try.func38,Try.ntmps38
    go_wp2
    go_quiet (fail)
    try go_wp2
    first|go_end0|((try simp only [Exit.inBlock,Exit.then]);refine bodyPost_ret (results_none rfl _ _ _) rfl ?_)
    exact ⟨rfl,(SetsD.refl g w).draw _,hg0.out⟩
  · have hp : 0 < t.length:=List.length_pos_iff.2 hn
    have b0 : ((t.length : Int) == 0) = false:=beq_eq_false_iff_ne.mpr (by omega)
    have b1 : decide (((rd_T67 t 0).f0) > f0) = true:=decide_eq_true hlo
    have b2 : decide (f0 < ((rd_T67 t 0).f0)) = true:=decide_eq_true hlo
    have p0 : (0 < t.length) = True:=eq_true hp
    have p1 : ((0 : Int) < (t.length : Int)) = True:=eq_true (by omega)
    have p2 : decide ((0 : Int) < (t.length : Int)) = true:=decide_eq_true (by omega)
    obtain ⟨ad,rfl,hx0,hx1⟩:=at_T67 hC 0 (by decide) (by omega)
    have hx0 : w.cell? ad = some (.int .u64 ((rd_T67 t 0).f0)):=by simpa [Addr.add] using hx0
    clear hC hx1
    go_enter Try.func38,Try.ntmps38
    go_wp2
    go_quiet (fail)
    try go_wp2
    first|go_end0|((try simp only [Exit.inBlock,Exit.then]);refine bodyPost_ret (results_none rfl _ _ _) rfl ?_)
    exact ⟨rfl,(SetsD.refl g w).draw _,hg0.out⟩
set_option maxHeartbeats 4000000 in
set_option maxRecDepth 100000 in
theorem slide_go (g : Nat) (A : Option Addr) (c : Nat) (t : List S67) (f0 f1 : Int) (d : ByteArray) (v4 : Value) (b5 b6 b7 : Bool) (w : World) (hg : w.heap[g]? = some (qB f0 f1 d (.slice A t.length c) v4 b5 b6 b7)) (hC : Kd.C k67 w A t.length t) (hc : t.length ≤ c) (hn : t ≠ []) (hlo : (rd_T67 t 0).f0 ≤ f0) (hl : t.length < 8796093022208) (hN : 0 ≤ slideN f0 t ∧ slideN f0 t ≤ (d.size : Int)) :
    Calls Try.prog 38 #[.pointer (some ⟨g,0,none⟩)] w fun e w' => e = .returned (.tuple #[]) ∧ SetsD g w w' ∧ w'.heap[g]? = some (qB (slideTo t) f1 (d.extract (slideN f0 t).toNat d.size) (cut1 A c t.length) v4 b5 b6 b7):=by
  have hu1:=Try.underlying77
  have hu2:=Try.underlying29
  have hu3:=Try.underlying27
  have hu4:=Try.underlying67
  have hg0:=am_ hg
  unfold qB at hg
  have c0 : w.cell? ⟨g,0,none⟩ = some (.int .u64 f0):=(kc_ hg 0).trans rfl
  have c2 : w.cell? ⟨g,2,none⟩ = some (.string d):=(kc_ hg 2).trans rfl
  have c3 : w.cell? ⟨g,3,none⟩ = some (.slice A t.length c):=(kc_ hg 3).trans rfl
  have z0:=blk_frozen hg 0
  have z2:=blk_frozen hg 2
  have z3:=blk_frozen hg 3
  clear hg
  have hp : 0 < t.length:=List.length_pos_iff.2 hn
  have b0 : ((t.length : Int) == 0) = false:=beq_eq_false_iff_ne.mpr (by omega)
  have b1 : decide (((rd_T67 t 0).f0) > f0) = false:=decide_eq_false (by omega)
  have b2 : decide (f0 < ((rd_T67 t 0).f0)) = false:=decide_eq_false (by omega)
  have p0 : (0 < t.length) = True:=eq_true hp
  have p1 : ((0 : Int) < (t.length : Int)) = True:=eq_true (by omega)
  have p2 : decide ((0 : Int) < (t.length : Int)) = true:=decide_eq_true (by omega)
  have p3 : ((1 : Int) ≤ (t.length : Int)) = True:=eq_true (by omega)
  have p4 : (1 ≤ t.length) = True:=eq_true (by omega)
  have p5 : (t.length ≤ c) = True:=eq_true hc
  have hN0 : 0 ≤ IntKind.u64.wrap (IntKind.u64.wrap ((rd_T67 t 0).f1 + 1) - f0) ∧ IntKind.u64.wrap (IntKind.u64.wrap ((rd_T67 t 0).f1 + 1) - f0) ≤ (d.size : Int):=hN
  have q0 : ((0 : Int) ≤ IntKind.u64.wrap (IntKind.u64.wrap ((rd_T67 t 0).f1 + 1) - f0)) = True:=eq_true hN0.1
  have q1 : (IntKind.u64.wrap (IntKind.u64.wrap ((rd_T67 t 0).f1 + 1) - f0) ≤ (d.size : Int)) = True:=eq_true hN0.2
  have q2 : ((IntKind.u64.wrap (IntKind.u64.wrap ((rd_T67 t 0).f1 + 1) - f0)).toNat ≤ d.size) = True:=eq_true (by omega)
  obtain ⟨ad,rfl,hx0,hx1⟩:=at_T67 hC 0 (by decide) (by omega)
  have hx0 : w.cell? ad = some (.int .u64 ((rd_T67 t 0).f0)):=by simpa [Addr.add] using hx0
  have hx1 : w.cell? ⟨ad.block,ad.off + 1,none⟩ = some (.int .u64 ((rd_T67 t 0).f1)):=by simpa [Addr.add] using hx1
  clear hC
  go_enter Try.func38,Try.ntmps38
  go_wp2
  go_quiet (fail)
  try go_wp2
  by_cases c1 : c = 1
  · have p6 : (c = 1) = True:=eq_true c1
    refine start_ (n:=35) (S:=fun w' => w'.cell? ⟨g,0,none⟩ = some (.int .u64 f0) ∧ w'.cell? ⟨g,2,none⟩ = some (.string d) ∧ w'.cell? ⟨g,3,none⟩ = some (.slice (some ad) t.length c)) (ds:=[26,30,34]) #[F_,F_,F_,F_,F_,F_,F_,F_,F_,F_,F_,F_,F_,F_,F_,F_,F_,F_,F_,F_,F_,F_,F_,F_,F_,F_,F_,F_,F_,F_,F_,F_,F_,F_,F_] (by kernel_rfl) rfl rfl ⟨c0,c2,c3⟩ (fun hHeld => ?_)
    refine pure_ (i:=0) (N:=some 35) (v:=?_) (a':=?_) #[T_,F_,F_,F_,F_,F_,F_,F_,F_,F_,F_,F_,F_,F_,F_,F_,F_,F_,F_,F_,F_,F_,F_,F_,F_,F_,F_,F_,F_,F_,F_,F_,F_,F_,F_] rfl rfl (by kernel_rfl) (fun _ _ _ h => h) (Or.inl ⟨by rfl,?_⟩) ?_ ?_
    rotate_left;(intro w';go_simp;with_reducible rfl);rotate_left;(simp only [Act.put,ps_,i64_w,i32_w];rfl)
    refine pure_ (i:=1) (N:=some 36) (v:=?_) (a':=?_) #[T_,T_,F_,F_,F_,F_,F_,F_,F_,F_,F_,F_,F_,F_,F_,F_,F_,F_,F_,F_,F_,F_,F_,F_,F_,F_,F_,F_,F_,F_,F_,F_,F_,F_,F_] rfl rfl (by kernel_rfl) (fun _ _ _ h => h) (Or.inl ⟨by rfl,?_⟩) ?_ ?_
    rotate_left;(intro w';go_simp;with_reducible rfl);rotate_left;(simp only [Act.put,ps_,i64_w,i32_w];rfl)
    refine pure_ (i:=2) (N:=some 37) (v:=?_) (a':=?_) #[T_,T_,T_,F_,F_,F_,F_,F_,F_,F_,F_,F_,F_,F_,F_,F_,F_,F_,F_,F_,F_,F_,F_,F_,F_,F_,F_,F_,F_,F_,F_,F_,F_,F_,F_] rfl rfl (by kernel_rfl) (fun _ _ _ h => h) (Or.inl ⟨by rfl,?_⟩) ?_ ?_
    rotate_left;(intro w';go_simp;with_reducible rfl);rotate_left;(simp only [Act.put,ps_,i64_w,i32_w];rfl)
    refine pure_ (i:=3) (N:=some 38) (v:=?_) (a':=?_) #[T_,T_,T_,T_,F_,F_,F_,F_,F_,F_,F_,F_,F_,F_,F_,F_,F_,F_,F_,F_,F_,F_,F_,F_,F_,F_,F_,F_,F_,F_,F_,F_,F_,F_,F_] rfl rfl (by kernel_rfl) (fun _ _ _ h => h) (Or.inl ⟨by rfl,?_⟩) ?_ ?_
    rotate_left;(intro w';go_simp;with_reducible rfl);rotate_left;(simp only [Act.put,ps_,i64_w,i32_w];rfl)
    refine pure_ (i:=4) (N:=some 39) (v:=?_) (a':=?_) #[T_,T_,T_,T_,T_,F_,F_,F_,F_,F_,F_,F_,F_,F_,F_,F_,F_,F_,F_,F_,F_,F_,F_,F_,F_,F_,F_,F_,F_,F_,F_,F_,F_,F_,F_] rfl rfl (by kernel_rfl) (fun _ _ _ h => h) (Or.inl ⟨by rfl,?_⟩) ?_ ?_
    rotate_left;(intro w';go_simp;with_reducible rfl);rotate_left;(simp only [Act.put,ps_,i64_w,i32_w];rfl)
    refine pure_ (i:=5) (N:=some 40) (v:=?_) (a':=?_) #[T_,T_,T_,T_,T_,T_,F_,F_,F_,F_,F_,F_,F_,F_,F_,F_,F_,F_,F_,F_,F_,F_,F_,F_,F_,F_,F_,F_,F_,F_,F_,F_,F_,F_,F_] rfl rfl (by kernel_rfl) (fun _ _ _ h => h) (Or.inl ⟨by rfl,?_⟩) ?_ ?_
    rotate_left;(intro w';go_simp;with_reducible rfl);rotate_left;(simp only [Act.put,ps_,i64_w,i32_w];rfl)
    refine pure_ (i:=6) (N:=some 41) (v:=?_) (a':=?_) #[T_,T_,T_,T_,T_,T_,T_,F_,F_,F_,F_,F_,F_,F_,F_,F_,F_,F_,F_,F_,F_,F_,F_,F_,F_,F_,F_,F_,F_,F_,F_,F_,F_,F_,F_] rfl rfl (by kernel_rfl) (fun _ _ _ h => h) (Or.inl ⟨by rfl,?_⟩) ?_ ?_
    rotate_left;(intro w';go_simp;with_reducible rfl);rotate_left;(simp only [Act.put,ps_,i64_w,i32_w];rfl)
    refine take_ (i:=7) (N:=some 42) (v:=?_) (a':=?_) #[T_,T_,T_,T_,T_,T_,T_,T_,F_,F_,F_,F_,F_,F_,F_,F_,F_,F_,F_,F_,F_,F_,F_,F_,F_,F_,F_,F_,F_,F_,F_,F_,F_,F_,F_] rfl rfl (by kernel_rfl) (fun _ _ _ h => h) (Or.inl ⟨by rfl,?_⟩) hHeld ?_ ?_
    rotate_left
    · rintro w' ⟨s0,s1,s2⟩
      go_simp
      with_reducible rfl
    rotate_left
    · simp only [Act.put,ps_,i64_w,i32_w]
      rfl
    refine pure_ (i:=8) (N:=some 43) (v:=?_) (a':=?_) #[T_,T_,T_,T_,T_,T_,T_,T_,T_,F_,F_,F_,F_,F_,F_,F_,F_,F_,F_,F_,F_,F_,F_,F_,F_,F_,F_,F_,F_,F_,F_,F_,F_,F_,F_] rfl rfl (by kernel_rfl) (fun _ _ _ h => h) (Or.inl ⟨by rfl,?_⟩) ?_ ?_
    rotate_left;(intro w';go_simp;with_reducible rfl);rotate_left;(simp only [Act.put,ps_,i64_w,i32_w];rfl)
    refine pure_ (i:=9) (N:=some 44) (v:=?_) (a':=?_) #[T_,T_,T_,T_,T_,T_,T_,T_,T_,T_,F_,F_,F_,F_,F_,F_,F_,F_,F_,F_,F_,F_,F_,F_,F_,F_,F_,F_,F_,F_,F_,F_,F_,F_,F_] rfl rfl (by kernel_rfl) (fun _ _ _ h => h) (Or.inl ⟨by rfl,?_⟩) ?_ ?_
    rotate_left;(intro w';go_simp;with_reducible rfl);rotate_left;(simp only [Act.put,ps_,i64_w,i32_w];rfl)
    refine pure_ (i:=10) (N:=some 45) (v:=?_) (a':=?_) #[T_,T_,T_,T_,T_,T_,T_,T_,T_,T_,T_,F_,F_,F_,F_,F_,F_,F_,F_,F_,F_,F_,F_,F_,F_,F_,F_,F_,F_,F_,F_,F_,F_,F_,F_] rfl rfl (by kernel_rfl) (fun _ _ _ h => h) (Or.inl ⟨by rfl,?_⟩) ?_ ?_
    rotate_left;(intro w';go_simp;with_reducible rfl);rotate_left;(simp only [Act.put,ps_,i64_w,i32_w];rfl)
    refine pure_ (i:=11) (N:=some 46) (v:=?_) (a':=?_) #[T_,T_,T_,T_,T_,T_,T_,T_,T_,T_,T_,T_,F_,F_,F_,F_,F_,F_,F_,F_,F_,F_,F_,F_,F_,F_,F_,F_,F_,F_,F_,F_,F_,F_,F_] rfl rfl (by kernel_rfl) (fun _ _ _ h => h) (Or.inl ⟨by rfl,?_⟩) ?_ ?_
    rotate_left;(intro w';go_simp;with_reducible rfl);rotate_left;(simp only [Act.put,ps_,i64_w,i32_w];rfl)
    refine pure_ (i:=12) (N:=some 47) (v:=?_) (a':=?_) #[T_,T_,T_,T_,T_,T_,T_,T_,T_,T_,T_,T_,T_,F_,F_,F_,F_,F_,F_,F_,F_,F_,F_,F_,F_,F_,F_,F_,F_,F_,F_,F_,F_,F_,F_] rfl rfl (by kernel_rfl) (fun _ _ _ h => h) (Or.inl ⟨by rfl,?_⟩) ?_ ?_
    rotate_left;(intro w';go_simp;with_reducible rfl);rotate_left;(simp only [Act.put,ps_,i64_w,i32_w];rfl)
    refine take_ (i:=13) (N:=some 48) (v:=?_) (a':=?_) #[T_,T_,T_,T_,T_,T_,T_,T_,T_,T_,T_,T_,T_,T_,F_,F_,F_,F_,F_,F_,F_,F_,F_,F_,F_,F_,F_,F_,F_,F_,F_,F_,F_,F_,F_] rfl rfl (by kernel_rfl) (fun _ _ _ h => h) (Or.inl ⟨by rfl,?_⟩) hHeld ?_ ?_
    rotate_left
    · rintro w' ⟨s0,s1,s2⟩
      go_simp
      with_reducible rfl
    rotate_left
    · simp only [Act.put,ps_,i64_w,i32_w]
      rfl
    refine pure_ (i:=14) (N:=some 49) (v:=?_) (a':=?_) #[T_,T_,T_,T_,T_,T_,T_,T_,T_,T_,T_,T_,T_,T_,T_,F_,F_,F_,F_,F_,F_,F_,F_,F_,F_,F_,F_,F_,F_,F_,F_,F_,F_,F_,F_] rfl rfl (by kernel_rfl) (fun _ _ _ h => h) (Or.inl ⟨by rfl,?_⟩) ?_ ?_
    rotate_left;(intro w';go_simp;with_reducible rfl);rotate_left;(simp only [Act.put,ps_,i64_w,i32_w];rfl)
    refine pure_ (i:=15) (N:=some 50) (v:=?_) (a':=?_) #[T_,T_,T_,T_,T_,T_,T_,T_,T_,T_,T_,T_,T_,T_,T_,T_,F_,F_,F_,F_,F_,F_,F_,F_,F_,F_,F_,F_,F_,F_,F_,F_,F_,F_,F_] rfl rfl (by kernel_rfl) (fun _ _ _ h => h) (Or.inl ⟨by rfl,?_⟩) ?_ ?_
    rotate_left;(intro w';go_simp;with_reducible rfl);rotate_left;(simp only [Act.put,ps_,i64_w,i32_w];rfl)
    refine pure_ (i:=16) (N:=some 51) (v:=?_) (a':=?_) #[T_,T_,T_,T_,T_,T_,T_,T_,T_,T_,T_,T_,T_,T_,T_,T_,T_,F_,F_,F_,F_,F_,F_,F_,F_,F_,F_,F_,F_,F_,F_,F_,F_,F_,F_] rfl rfl (by kernel_rfl) (fun _ _ _ h => h) (Or.inl ⟨by rfl,?_⟩) ?_ ?_
    rotate_left;(intro w';go_simp;with_reducible rfl);rotate_left;(simp only [Act.put,ps_,i64_w,i32_w];rfl)
    refine pure_ (i:=17) (N:=some 52) (v:=?_) (a':=?_) #[T_,T_,T_,T_,T_,T_,T_,T_,T_,T_,T_,T_,T_,T_,T_,T_,T_,T_,F_,F_,F_,F_,F_,F_,F_,F_,F_,F_,F_,F_,F_,F_,F_,F_,F_] rfl rfl (by kernel_rfl) (fun _ _ _ h => h) (Or.inl ⟨by rfl,?_⟩) ?_ ?_
    rotate_left;(intro w';go_simp;with_reducible rfl);rotate_left;(simp only [Act.put,ps_,i64_w,i32_w];rfl)
    refine pure_ (i:=18) (N:=some 53) (v:=?_) (a':=?_) #[T_,T_,T_,T_,T_,T_,T_,T_,T_,T_,T_,T_,T_,T_,T_,T_,T_,T_,T_,F_,F_,F_,F_,F_,F_,F_,F_,F_,F_,F_,F_,F_,F_,F_,F_] rfl rfl (by kernel_rfl) (fun _ _ _ h => h) (Or.inl ⟨by rfl,?_⟩) ?_ ?_
    rotate_left;(intro w';go_simp;with_reducible rfl);rotate_left;(simp only [Act.put,ps_,i64_w,i32_w];rfl)
    refine pure_ (i:=19) (N:=some 54) (v:=?_) (a':=?_) #[T_,T_,T_,T_,T_,T_,T_,T_,T_,T_,T_,T_,T_,T_,T_,T_,T_,T_,T_,T_,F_,F_,F_,F_,F_,F_,F_,F_,F_,F_,F_,F_,F_,F_,F_] rfl rfl (by kernel_rfl) (fun _ _ _ h => h) (Or.inl ⟨by rfl,?_⟩) ?_ ?_
    rotate_left;(intro w';go_simp;with_reducible rfl);rotate_left;(simp only [Act.put,ps_,i64_w,i32_w];rfl)
    refine pure_ (i:=20) (N:=some 55) (v:=?_) (a':=?_) #[T_,T_,T_,T_,T_,T_,T_,T_,T_,T_,T_,T_,T_,T_,T_,T_,T_,T_,T_,T_,T_,F_,F_,F_,F_,F_,F_,F_,F_,F_,F_,F_,F_,F_,F_] rfl rfl (by kernel_rfl) (fun _ _ _ h => h) (Or.inl ⟨by rfl,?_⟩) ?_ ?_
    rotate_left;(intro w';go_simp;with_reducible rfl);rotate_left;(simp only [Act.put,ps_,i64_w,i32_w];rfl)
    refine take_ (i:=21) (N:=some 56) (v:=?_) (a':=?_) #[T_,T_,T_,T_,T_,T_,T_,T_,T_,T_,T_,T_,T_,T_,T_,T_,T_,T_,T_,T_,T_,T_,F_,F_,F_,F_,F_,F_,F_,F_,F_,F_,F_,F_,F_] rfl rfl (by kernel_rfl) (fun _ _ _ h => h) (Or.inl ⟨by rfl,?_⟩) hHeld ?_ ?_
    rotate_left
    · rintro w' ⟨s0,s1,s2⟩
      go_simp
      with_reducible rfl
    rotate_left
    · simp only [Act.put,ps_,i64_w,i32_w]
      rfl
    refine pure_ (i:=22) (N:=some 57) (v:=?_) (a':=?_) #[T_,T_,T_,T_,T_,T_,T_,T_,T_,T_,T_,T_,T_,T_,T_,T_,T_,T_,T_,T_,T_,T_,T_,F_,F_,F_,F_,F_,F_,F_,F_,F_,F_,F_,F_] rfl rfl (by kernel_rfl) (fun _ _ _ h => h) (Or.inl ⟨by rfl,?_⟩) ?_ ?_
    rotate_left;(intro w';go_simp;with_reducible rfl);rotate_left;(simp only [Act.put,ps_,i64_w,i32_w];rfl)
    refine pure_ (i:=23) (N:=some 58) (v:=?_) (a':=?_) #[T_,T_,T_,T_,T_,T_,T_,T_,T_,T_,T_,T_,T_,T_,T_,T_,T_,T_,T_,T_,T_,T_,T_,T_,F_,F_,F_,F_,F_,F_,F_,F_,F_,F_,F_] rfl rfl (by kernel_rfl) (fun _ _ _ h => h) (Or.inl ⟨by rfl,?_⟩) ?_ ?_
    rotate_left;(intro w';go_simp;with_reducible rfl);rotate_left;(simp only [Act.put,ps_,i64_w,i32_w];rfl)
    refine pure_ (i:=24) (N:=some 59) (v:=?_) (a':=?_) #[T_,T_,T_,T_,T_,T_,T_,T_,T_,T_,T_,T_,T_,T_,T_,T_,T_,T_,T_,T_,T_,T_,T_,T_,T_,F_,F_,F_,F_,F_,F_,F_,F_,F_,F_] rfl rfl (by kernel_rfl) (fun _ _ _ h => h) (Or.inl ⟨by rfl,?_⟩) ?_ ?_
    rotate_left;(intro w';go_simp;with_reducible rfl);rotate_left;(simp only [Act.put,ps_,i64_w,i32_w];rfl)
    refine pure_ (i:=25) (N:=some 60) (v:=?_) (a':=?_) #[T_,T_,T_,T_,T_,T_,T_,T_,T_,T_,T_,T_,T_,T_,T_,T_,T_,T_,T_,T_,T_,T_,T_,T_,T_,T_,F_,F_,F_,F_,F_,F_,F_,F_,F_] rfl rfl (by kernel_rfl) (fun _ _ _ h => h) (Or.inl ⟨by rfl,?_⟩) ?_ ?_
    rotate_left;(intro w';go_simp;with_reducible rfl);rotate_left;(simp only [Act.put,ps_,i64_w,i32_w];rfl)
    refine last_ (i:=26) (N:=none) #[T_,T_,T_,T_,T_,T_,T_,T_,T_,T_,T_,T_,T_,T_,T_,T_,T_,T_,T_,T_,T_,T_,T_,T_,T_,T_,T_,F_,F_,F_,F_,F_,F_,F_,F_] rfl rfl (by kernel_rfl) (by decide) (fun K hK => ?_)
    refine skip_ (w1:=?_) (by rfl) rfl ?_ ?_
    rotate_left
    · go_simp
      rfl
    refine hK.out _ _ ?_
    clear hK K
    refine pure_ (i:=27) (N:=some 61) (v:=?_) (a':=?_) #[T_,T_,T_,T_,T_,T_,T_,T_,T_,T_,T_,T_,T_,T_,T_,T_,T_,T_,T_,T_,T_,T_,T_,T_,T_,T_,T_,T_,F_,F_,F_,F_,F_,F_,F_] rfl rfl (by kernel_rfl) (fun _ _ _ h => h) (Or.inl ⟨by rfl,?_⟩) ?_ ?_
    rotate_left;(intro w';go_simp;with_reducible rfl);rotate_left;(simp only [Act.put,ps_,i64_w,i32_w];rfl)
    refine pure_ (i:=28) (N:=some 62) (v:=?_) (a':=?_) #[T_,T_,T_,T_,T_,T_,T_,T_,T_,T_,T_,T_,T_,T_,T_,T_,T_,T_,T_,T_,T_,T_,T_,T_,T_,T_,T_,T_,T_,F_,F_,F_,F_,F_,F_] rfl rfl (by kernel_rfl) (fun _ _ _ h => h) (Or.inl ⟨by rfl,?_⟩) ?_ ?_
    rotate_left;(intro w';go_simp;with_reducible rfl);rotate_left;(simp only [Act.put,ps_,i64_w,i32_w];rfl)
    refine pure_ (i:=29) (N:=some 63) (v:=?_) (a':=?_) #[T_,T_,T_,T_,T_,T_,T_,T_,T_,T_,T_,T_,T_,T_,T_,T_,T_,T_,T_,T_,T_,T_,T_,T_,T_,T_,T_,T_,T_,T_,F_,F_,F_,F_,F_] rfl rfl (by kernel_rfl) (fun _ _ _ h => h) (Or.inl ⟨by rfl,?_⟩) ?_ ?_
    rotate_left;(intro w';go_simp;with_reducible rfl);rotate_left;(simp only [Act.put,ps_,i64_w,i32_w];rfl)
    refine last_ (i:=30) (N:=none) #[T_,T_,T_,T_,T_,T_,T_,T_,T_,T_,T_,T_,T_,T_,T_,T_,T_,T_,T_,T_,T_,T_,T_,T_,T_,T_,T_,T_,T_,T_,T_,F_,F_,F_,F_] rfl rfl (by kernel_rfl) (by decide) (fun K hK => ?_)
    refine skip_ (w1:=?_) (by rfl) rfl ?_ ?_
    rotate_left
    · go_simp
      rfl
    refine hK.out _ _ ?_
    clear hK K
    refine pure_ (i:=31) (N:=some 64) (v:=?_) (a':=?_) #[T_,T_,T_,T_,T_,T_,T_,T_,T_,T_,T_,T_,T_,T_,T_,T_,T_,T_,T_,T_,T_,T_,T_,T_,T_,T_,T_,T_,T_,T_,T_,T_,F_,F_,F_] rfl rfl (by kernel_rfl) (fun _ _ _ h => h) (Or.inl ⟨by rfl,?_⟩) ?_ ?_
    rotate_left;(intro w';go_simp;with_reducible rfl);rotate_left;(simp only [Act.put,ps_,i64_w,i32_w];rfl)
    refine pure_ (i:=32) (N:=some 65) (v:=?_) (a':=?_) #[T_,T_,T_,T_,T_,T_,T_,T_,T_,T_,T_,T_,T_,T_,T_,T_,T_,T_,T_,T_,T_,T_,T_,T_,T_,T_,T_,T_,T_,T_,T_,T_,T_,F_,F_] rfl rfl (by kernel_rfl) (fun _ _ _ h => h) (Or.inl ⟨by rfl,?_⟩) ?_ ?_
    rotate_left;(intro w';go_simp;with_reducible rfl);rotate_left;(simp only [Act.put,ps_,i64_w,i32_w];rfl)
    refine pure_ (i:=33) (N:=some 66) (v:=?_) (a':=?_) #[T_,T_,T_,T_,T_,T_,T_,T_,T_,T_,T_,T_,T_,T_,T_,T_,T_,T_,T_,T_,T_,T_,T_,T_,T_,T_,T_,T_,T_,T_,T_,T_,T_,T_,F_] rfl rfl (by kernel_rfl) (fun _ _ _ h => h) (Or.inl ⟨by rfl,?_⟩) ?_ ?_
    rotate_left;(intro w';go_simp;with_reducible rfl);rotate_left;(simp only [Act.put,ps_,i64_w,i32_w];rfl)
    refine last_ (i:=34) (N:=none) #[T_,T_,T_,T_,T_,T_,T_,T_,T_,T_,T_,T_,T_,T_,T_,T_,T_,T_,T_,T_,T_,T_,T_,T_,T_,T_,T_,T_,T_,T_,T_,T_,T_,T_,T_] rfl rfl (by kernel_rfl) (by decide) (fun K hK => ?_)
    refine skip_ (w1:=?_) (by rfl) rfl ?_ ?_
    rotate_left
    · go_simp
      rfl
    refine hK.out _ _ ?_
    clear hK K
    refine done_ (by kernel_rfl) ?_
    try go_wp2
    first|go_end0|((try simp only [Exit.inBlock,Exit.then]);refine bodyPost_ret (results_none rfl _ _ _) rfl ?_)
    have e_ : cut1 (some ad) c t.length = .slice (some ad) (t.length - 1) 0:=by unfold cut1;rw [if_pos c1,c1]
    rw [e_]
    exact ⟨rfl,((((SetsD.refl g w).draw _).set 2 _).set 0 _).set 3 _,blk_put (cs:=#[.int .u64 (slideTo t),.int .u64 f1,.string (d.extract (slideN f0 t).toNat d.size),.slice (some ad) t.length c,v4,.bool b5,.bool b6,.bool b7]) (blk_put (cs:=#[.int .u64 f0,.int .u64 f1,.string (d.extract (slideN f0 t).toNat d.size),.slice (some ad) t.length c,v4,.bool b5,.bool b6,.bool b7]) (blk_put (cs:=#[.int .u64 f0,.int .u64 f1,.string d,.slice (some ad) t.length c,v4,.bool b5,.bool b6,.bool b7]) (kn_ hg0.out _) 2 _ rfl) 0 _ rfl) 3 _ rfl⟩
  · have p6 : (c = 1) = False:=eq_false c1
    refine start_ (n:=35) (S:=fun w' => w'.cell? ⟨g,0,none⟩ = some (.int .u64 f0) ∧ w'.cell? ⟨g,2,none⟩ = some (.string d) ∧ w'.cell? ⟨g,3,none⟩ = some (.slice (some ad) t.length c)) (ds:=[26,30,34]) #[F_,F_,F_,F_,F_,F_,F_,F_,F_,F_,F_,F_,F_,F_,F_,F_,F_,F_,F_,F_,F_,F_,F_,F_,F_,F_,F_,F_,F_,F_,F_,F_,F_,F_,F_] (by kernel_rfl) rfl rfl ⟨c0,c2,c3⟩ (fun hHeld => ?_)
    refine pure_ (i:=0) (N:=some 35) (v:=?_) (a':=?_) #[T_,F_,F_,F_,F_,F_,F_,F_,F_,F_,F_,F_,F_,F_,F_,F_,F_,F_,F_,F_,F_,F_,F_,F_,F_,F_,F_,F_,F_,F_,F_,F_,F_,F_,F_] rfl rfl (by kernel_rfl) (fun _ _ _ h => h) (Or.inl ⟨by rfl,?_⟩) ?_ ?_
    rotate_left;(intro w';go_simp;with_reducible rfl);rotate_left;(simp only [Act.put,ps_,i64_w,i32_w];rfl)
    refine pure_ (i:=1) (N:=some 36) (v:=?_) (a':=?_) #[T_,T_,F_,F_,F_,F_,F_,F_,F_,F_,F_,F_,F_,F_,F_,F_,F_,F_,F_,F_,F_,F_,F_,F_,F_,F_,F_,F_,F_,F_,F_,F_,F_,F_,F_] rfl rfl (by kernel_rfl) (fun _ _ _ h => h) (Or.inl ⟨by rfl,?_⟩) ?_ ?_
    rotate_left;(intro w';go_simp;with_reducible rfl);rotate_left;(simp only [Act.put,ps_,i64_w,i32_w];rfl)
    refine pure_ (i:=2) (N:=some 37) (v:=?_) (a':=?_) #[T_,T_,T_,F_,F_,F_,F_,F_,F_,F_,F_,F_,F_,F_,F_,F_,F_,F_,F_,F_,F_,F_,F_,F_,F_,F_,F_,F_,F_,F_,F_,F_,F_,F_,F_] rfl rfl (by kernel_rfl) (fun _ _ _ h => h) (Or.inl ⟨by rfl,?_⟩) ?_ ?_
    rotate_left;(intro w';go_simp;with_reducible rfl);rotate_left;(simp only [Act.put,ps_,i64_w,i32_w];rfl)
    refine pure_ (i:=3) (N:=some 38) (v:=?_) (a':=?_) #[T_,T_,T_,T_,F_,F_,F_,F_,F_,F_,F_,F_,F_,F_,F_,F_,F_,F_,F_,F_,F_,F_,F_,F_,F_,F_,F_,F_,F_,F_,F_,F_,F_,F_,F_] rfl rfl (by kernel_rfl) (fun _ _ _ h => h) (Or.inl ⟨by rfl,?_⟩) ?_ ?_
    rotate_left;(intro w';go_simp;with_reducible rfl);rotate_left;(simp only [Act.put,ps_,i64_w,i32_w];rfl)
    refine pure_ (i:=4) (N:=some 39) (v:=?_) (a':=?_) #[T_,T_,T_,T_,T_,F_,F_,F_,F_,F_,F_,F_,F_,F_,F_,F_,F_,F_,F_,F_,F_,F_,F_,F_,F_,F_,F_,F_,F_,F_,F_,F_,F_,F_,F_] rfl rfl (by kernel_rfl) (fun _ _ _ h => h) (Or.inl ⟨by rfl,?_⟩) ?_ ?_
    rotate_left;(intro w';go_simp;with_reducible rfl);rotate_left;(simp only [Act.put,ps_,i64_w,i32_w];rfl)
    refine pure_ (i:=5) (N:=some 40) (v:=?_) (a':=?_) #[T_,T_,T_,T_,T_,T_,F_,F_,F_,F_,F_,F_,F_,F_,F_,F_,F_,F_,F_,F_,F_,F_,F_,F_,F_,F_,F_,F_,F_,F_,F_,F_,F_,F_,F_] rfl rfl (by kernel_rfl) (fun _ _ _ h => h) (Or.inl ⟨by rfl,?_⟩) ?_ ?_
    rotate_left;(intro w';go_simp;with_reducible rfl);rotate_left;(simp only [Act.put,ps_,i64_w,i32_w];rfl)
    refine pure_ (i:=6) (N:=some 41) (v:=?_) (a':=?_) #[T_,T_,T_,T_,T_,T_,T_,F_,F_,F_,F_,F_,F_,F_,F_,F_,F_,F_,F_,F_,F_,F_,F_,F_,F_,F_,F_,F_,F_,F_,F_,F_,F_,F_,F_] rfl rfl (by kernel_rfl) (fun _ _ _ h => h) (Or.inl ⟨by rfl,?_⟩) ?_ ?_
    rotate_left;(intro w';go_simp;with_reducible rfl);rotate_left;(simp only [Act.put,ps_,i64_w,i32_w];rfl)
    refine take_ (i:=7) (N:=some 42) (v:=?_) (a':=?_) #[T_,T_,T_,T_,T_,T_,T_,T_,F_,F_,F_,F_,F_,F_,F_,F_,F_,F_,F_,F_,F_,F_,F_,F_,F_,F_,F_,F_,F_,F_,F_,F_,F_,F_,F_] rfl rfl (by kernel_rfl) (fun _ _ _ h => h) (Or.inl ⟨by rfl,?_⟩) hHeld ?_ ?_
    rotate_left
    · rintro w' ⟨s0,s1,s2⟩
      go_simp
      with_reducible rfl
    rotate_left
    · simp only [Act.put,ps_,i64_w,i32_w]
      rfl
    refine pure_ (i:=8) (N:=some 43) (v:=?_) (a':=?_) #[T_,T_,T_,T_,T_,T_,T_,T_,T_,F_,F_,F_,F_,F_,F_,F_,F_,F_,F_,F_,F_,F_,F_,F_,F_,F_,F_,F_,F_,F_,F_,F_,F_,F_,F_] rfl rfl (by kernel_rfl) (fun _ _ _ h => h) (Or.inl ⟨by rfl,?_⟩) ?_ ?_
    rotate_left;(intro w';go_simp;with_reducible rfl);rotate_left;(simp only [Act.put,ps_,i64_w,i32_w];rfl)
    refine pure_ (i:=9) (N:=some 44) (v:=?_) (a':=?_) #[T_,T_,T_,T_,T_,T_,T_,T_,T_,T_,F_,F_,F_,F_,F_,F_,F_,F_,F_,F_,F_,F_,F_,F_,F_,F_,F_,F_,F_,F_,F_,F_,F_,F_,F_] rfl rfl (by kernel_rfl) (fun _ _ _ h => h) (Or.inl ⟨by rfl,?_⟩) ?_ ?_
    rotate_left;(intro w';go_simp;with_reducible rfl);rotate_left;(simp only [Act.put,ps_,i64_w,i32_w];rfl)
    refine pure_ (i:=10) (N:=some 45) (v:=?_) (a':=?_) #[T_,T_,T_,T_,T_,T_,T_,T_,T_,T_,T_,F_,F_,F_,F_,F_,F_,F_,F_,F_,F_,F_,F_,F_,F_,F_,F_,F_,F_,F_,F_,F_,F_,F_,F_] rfl rfl (by kernel_rfl) (fun _ _ _ h => h) (Or.inl ⟨by rfl,?_⟩) ?_ ?_
    rotate_left;(intro w';go_simp;with_reducible rfl);rotate_left;(simp only [Act.put,ps_,i64_w,i32_w];rfl)
    refine pure_ (i:=11) (N:=some 46) (v:=?_) (a':=?_) #[T_,T_,T_,T_,T_,T_,T_,T_,T_,T_,T_,T_,F_,F_,F_,F_,F_,F_,F_,F_,F_,F_,F_,F_,F_,F_,F_,F_,F_,F_,F_,F_,F_,F_,F_] rfl rfl (by kernel_rfl) (fun _ _ _ h => h) (Or.inl ⟨by rfl,?_⟩) ?_ ?_
    rotate_left;(intro w';go_simp;with_reducible rfl);rotate_left;(simp only [Act.put,ps_,i64_w,i32_w];rfl)
    refine pure_ (i:=12) (N:=some 47) (v:=?_) (a':=?_) #[T_,T_,T_,T_,T_,T_,T_,T_,T_,T_,T_,T_,T_,F_,F_,F_,F_,F_,F_,F_,F_,F_,F_,F_,F_,F_,F_,F_,F_,F_,F_,F_,F_,F_,F_] rfl rfl (by kernel_rfl) (fun _ _ _ h => h) (Or.inl ⟨by rfl,?_⟩) ?_ ?_
    rotate_left;(intro w';go_simp;with_reducible rfl);rotate_left;(simp only [Act.put,ps_,i64_w,i32_w];rfl)
    refine take_ (i:=13) (N:=some 48) (v:=?_) (a':=?_) #[T_,T_,T_,T_,T_,T_,T_,T_,T_,T_,T_,T_,T_,T_,F_,F_,F_,F_,F_,F_,F_,F_,F_,F_,F_,F_,F_,F_,F_,F_,F_,F_,F_,F_,F_] rfl rfl (by kernel_rfl) (fun _ _ _ h => h) (Or.inl ⟨by rfl,?_⟩) hHeld ?_ ?_
    rotate_left
    · rintro w' ⟨s0,s1,s2⟩
      go_simp
      with_reducible rfl
    rotate_left
    · simp only [Act.put,ps_,i64_w,i32_w]
      rfl
    refine pure_ (i:=14) (N:=some 49) (v:=?_) (a':=?_) #[T_,T_,T_,T_,T_,T_,T_,T_,T_,T_,T_,T_,T_,T_,T_,F_,F_,F_,F_,F_,F_,F_,F_,F_,F_,F_,F_,F_,F_,F_,F_,F_,F_,F_,F_] rfl rfl (by kernel_rfl) (fun _ _ _ h => h) (Or.inl ⟨by rfl,?_⟩) ?_ ?_
    rotate_left;(intro w';go_simp;with_reducible rfl);rotate_left;(simp only [Act.put,ps_,i64_w,i32_w];rfl)
    refine pure_ (i:=15) (N:=some 50) (v:=?_) (a':=?_) #[T_,T_,T_,T_,T_,T_,T_,T_,T_,T_,T_,T_,T_,T_,T_,T_,F_,F_,F_,F_,F_,F_,F_,F_,F_,F_,F_,F_,F_,F_,F_,F_,F_,F_,F_] rfl rfl (by kernel_rfl) (fun _ _ _ h => h) (Or.inl ⟨by rfl,?_⟩) ?_ ?_
    rotate_left;(intro w';go_simp;with_reducible rfl);rotate_left;(simp only [Act.put,ps_,i64_w,i32_w];rfl)
    refine pure_ (i:=16) (N:=some 51) (v:=?_) (a':=?_) #[T_,T_,T_,T_,T_,T_,T_,T_,T_,T_,T_,T_,T_,T_,T_,T_,T_,F_,F_,F_,F_,F_,F_,F_,F_,F_,F_,F_,F_,F_,F_,F_,F_,F_,F_] rfl rfl (by kernel_rfl) (fun _ _ _ h => h) (Or.inl ⟨by rfl,?_⟩) ?_ ?_
    rotate_left;(intro w';go_simp;with_reducible rfl);rotate_left;(simp only [Act.put,ps_,i64_w,i32_w];rfl)
    refine pure_ (i:=17) (N:=some 52) (v:=?_) (a':=?_) #[T_,T_,T_,T_,T_,T_,T_,T_,T_,T_,T_,T_,T_,T_,T_,T_,T_,T_,F_,F_,F_,F_,F_,F_,F_,F_,F_,F_,F_,F_,F_,F_,F_,F_,F_] rfl rfl (by kernel_rfl) (fun _ _ _ h => h) (Or.inl ⟨by rfl,?_⟩) ?_ ?_
    rotate_left;(intro w';go_simp;with_reducible rfl);rotate_left;(simp only [Act.put,ps_,i64_w,i32_w];rfl)
    refine pure_ (i:=18) (N:=some 53) (v:=?_) (a':=?_) #[T_,T_,T_,T_,T_,T_,T_,T_,T_,T_,T_,T_,T_,T_,T_,T_,T_,T_,T_,F_,F_,F_,F_,F_,F_,F_,F_,F_,F_,F_,F_,F_,F_,F_,F_] rfl rfl (by kernel_rfl) (fun _ _ _ h => h) (Or.inl ⟨by rfl,?_⟩) ?_ ?_
    rotate_left;(intro w';go_simp;with_reducible rfl);rotate_left;(simp only [Act.put,ps_,i64_w,i32_w];rfl)
    refine pure_ (i:=19) (N:=some 54) (v:=?_) (a':=?_) #[T_,T_,T_,T_,T_,T_,T_,T_,T_,T_,T_,T_,T_,T_,T_,T_,T_,T_,T_,T_,F_,F_,F_,F_,F_,F_,F_,F_,F_,F_,F_,F_,F_,F_,F_] rfl rfl (by kernel_rfl) (fun _ _ _ h => h) (Or.inl ⟨by rfl,?_⟩) ?_ ?_
    rotate_left;(intro w';go_simp;with_reducible rfl);rotate_left;(simp only [Act.put,ps_,i64_w,i32_w];rfl)
    refine pure_ (i:=20) (N:=some 55) (v:=?_) (a':=?_) #[T_,T_,T_,T_,T_,T_,T_,T_,T_,T_,T_,T_,T_,T_,T_,T_,T_,T_,T_,T_,T_,F_,F_,F_,F_,F_,F_,F_,F_,F_,F_,F_,F_,F_,F_] rfl rfl (by kernel_rfl) (fun _ _ _ h => h) (Or.inl ⟨by rfl,?_⟩) ?_ ?_
    rotate_left;(intro w';go_simp;with_reducible rfl);rotate_left;(simp only [Act.put,ps_,i64_w,i32_w];rfl)
    refine take_ (i:=21) (N:=some 56) (v:=?_) (a':=?_) #[T_,T_,T_,T_,T_,T_,T_,T_,T_,T_,T_,T_,T_,T_,T_,T_,T_,T_,T_,T_,T_,T_,F_,F_,F_,F_,F_,F_,F_,F_,F_,F_,F_,F_,F_] rfl rfl (by kernel_rfl) (fun _ _ _ h => h) (Or.inl ⟨by rfl,?_⟩) hHeld ?_ ?_
    rotate_left
    · rintro w' ⟨s0,s1,s2⟩
      go_simp
      with_reducible rfl
    rotate_left
    · simp only [Act.put,ps_,i64_w,i32_w]
      rfl
    refine pure_ (i:=22) (N:=some 57) (v:=?_) (a':=?_) #[T_,T_,T_,T_,T_,T_,T_,T_,T_,T_,T_,T_,T_,T_,T_,T_,T_,T_,T_,T_,T_,T_,T_,F_,F_,F_,F_,F_,F_,F_,F_,F_,F_,F_,F_] rfl rfl (by kernel_rfl) (fun _ _ _ h => h) (Or.inl ⟨by rfl,?_⟩) ?_ ?_
    rotate_left;(intro w';go_simp;with_reducible rfl);rotate_left;(simp only [Act.put,ps_,i64_w,i32_w];rfl)
    refine pure_ (i:=23) (N:=some 58) (v:=?_) (a':=?_) #[T_,T_,T_,T_,T_,T_,T_,T_,T_,T_,T_,T_,T_,T_,T_,T_,T_,T_,T_,T_,T_,T_,T_,T_,F_,F_,F_,F_,F_,F_,F_,F_,F_,F_,F_] rfl rfl (by kernel_rfl) (fun _ _ _ h => h) (Or.inl ⟨by rfl,?_⟩) ?_ ?_
    rotate_left;(intro w';go_simp;with_reducible rfl);rotate_left;(simp only [Act.put,ps_,i64_w,i32_w];rfl)
    refine pure_ (i:=24) (N:=some 59) (v:=?_) (a':=?_) #[T_,T_,T_,T_,T_,T_,T_,T_,T_,T_,T_,T_,T_,T_,T_,T_,T_,T_,T_,T_,T_,T_,T_,T_,T_,F_,F_,F_,F_,F_,F_,F_,F_,F_,F_] rfl rfl (by kernel_rfl) (fun _ _ _ h => h) (Or.inl ⟨by rfl,?_⟩) ?_ ?_
    rotate_left;(intro w';go_simp;with_reducible rfl);rotate_left;(simp only [Act.put,ps_,i64_w,i32_w];rfl)
    refine pure_ (i:=25) (N:=some 60) (v:=?_) (a':=?_) #[T_,T_,T_,T_,T_,T_,T_,T_,T_,T_,T_,T_,T_,T_,T_,T_,T_,T_,T_,T_,T_,T_,T_,T_,T_,T_,F_,F_,F_,F_,F_,F_,F_,F_,F_] rfl rfl (by kernel_rfl) (fun _ _ _ h => h) (Or.inl ⟨by rfl,?_⟩) ?_ ?_
    rotate_left;(intro w';go_simp;with_reducible rfl);rotate_left;(simp only [Act.put,ps_,i64_w,i32_w];rfl)
    refine last_ (i:=26) (N:=none) #[T_,T_,T_,T_,T_,T_,T_,T_,T_,T_,T_,T_,T_,T_,T_,T_,T_,T_,T_,T_,T_,T_,T_,T_,T_,T_,T_,F_,F_,F_,F_,F_,F_,F_,F_] rfl rfl (by kernel_rfl) (by decide) (fun K hK => ?_)
    refine skip_ (w1:=?_) (by rfl) rfl ?_ ?_
    rotate_left
    · go_simp
      rfl
    refine hK.out _ _ ?_
    clear hK K
    refine pure_ (i:=27) (N:=some 61) (v:=?_) (a':=?_) #[T_,T_,T_,T_,T_,T_,T_,T_,T_,T_,T_,T_,T_,T_,T_,T_,T_,T_,T_,T_,T_,T_,T_,T_,T_,T_,T_,T_,F_,F_,F_,F_,F_,F_,F_] rfl rfl (by kernel_rfl) (fun _ _ _ h => h) (Or.inl ⟨by rfl,?_⟩) ?_ ?_
    rotate_left;(intro w';go_simp;with_reducible rfl);rotate_left;(simp only [Act.put,ps_,i64_w,i32_w];rfl)
    refine pure_ (i:=28) (N:=some 62) (v:=?_) (a':=?_) #[T_,T_,T_,T_,T_,T_,T_,T_,T_,T_,T_,T_,T_,T_,T_,T_,T_,T_,T_,T_,T_,T_,T_,T_,T_,T_,T_,T_,T_,F_,F_,F_,F_,F_,F_] rfl rfl (by kernel_rfl) (fun _ _ _ h => h) (Or.inl ⟨by rfl,?_⟩) ?_ ?_
    rotate_left;(intro w';go_simp;with_reducible rfl);rotate_left;(simp only [Act.put,ps_,i64_w,i32_w];rfl)
    refine pure_ (i:=29) (N:=some 63) (v:=?_) (a':=?_) #[T_,T_,T_,T_,T_,T_,T_,T_,T_,T_,T_,T_,T_,T_,T_,T_,T_,T_,T_,T_,T_,T_,T_,T_,T_,T_,T_,T_,T_,T_,F_,F_,F_,F_,F_] rfl rfl (by kernel_rfl) (fun _ _ _ h => h) (Or.inl ⟨by rfl,?_⟩) ?_ ?_
    rotate_left;(intro w';go_simp;with_reducible rfl);rotate_left;(simp only [Act.put,ps_,i64_w,i32_w];rfl)
    refine last_ (i:=30) (N:=none) #[T_,T_,T_,T_,T_,T_,T_,T_,T_,T_,T_,T_,T_,T_,T_,T_,T_,T_,T_,T_,T_,T_,T_,T_,T_,T_,T_,T_,T_,T_,T_,F_,F_,F_,F_] rfl rfl (by kernel_rfl) (by decide) (fun K hK => ?_)
    refine skip_ (w1:=?_) (by rfl) rfl ?_ ?_
    rotate_left
    · go_simp
      rfl
    refine hK.out _ _ ?_
    clear hK K
    refine pure_ (i:=31) (N:=some 64) (v:=?_) (a':=?_) #[T_,T_,T_,T_,T_,T_,T_,T_,T_,T_,T_,T_,T_,T_,T_,T_,T_,T_,T_,T_,T_,T_,T_,T_,T_,T_,T_,T_,T_,T_,T_,T_,F_,F_,F_] rfl rfl (by kernel_rfl) (fun _ _ _ h => h) (Or.inl ⟨by rfl,?_⟩) ?_ ?_
    rotate_left;(intro w';go_simp;with_reducible rfl);rotate_left;(simp only [Act.put,ps_,i64_w,i32_w];rfl)
    refine pure_ (i:=32) (N:=some 65) (v:=?_) (a':=?_) #[T_,T_,T_,T_,T_,T_,T_,T_,T_,T_,T_,T_,T_,T_,T_,T_,T_,T_,T_,T_,T_,T_,T_,T_,T_,T_,T_,T_,T_,T_,T_,T_,T_,F_,F_] rfl rfl (by kernel_rfl) (fun _ _ _ h => h) (Or.inl ⟨by rfl,?_⟩) ?_ ?_
    rotate_left;(intro w';go_simp;with_reducible rfl);rotate_left;(simp only [Act.put,ps_,i64_w,i32_w];rfl)
    refine pure_ (i:=33) (N:=some 66) (v:=?_) (a':=?_) #[T_,T_,T_,T_,T_,T_,T_,T_,T_,T_,T_,T_,T_,T_,T_,T_,T_,T_,T_,T_,T_,T_,T_,T_,T_,T_,T_,T_,T_,T_,T_,T_,T_,T_,F_] rfl rfl (by kernel_rfl) (fun _ _ _ h => h) (Or.inl ⟨by rfl,?_⟩) ?_ ?_
    rotate_left;(intro w';go_simp;with_reducible rfl);rotate_left;(simp only [Act.put,ps_,i64_w,i32_w];rfl)
    refine last_ (i:=34) (N:=none) #[T_,T_,T_,T_,T_,T_,T_,T_,T_,T_,T_,T_,T_,T_,T_,T_,T_,T_,T_,T_,T_,T_,T_,T_,T_,T_,T_,T_,T_,T_,T_,T_,T_,T_,T_] rfl rfl (by kernel_rfl) (by decide) (fun K hK => ?_)
    refine skip_ (w1:=?_) (by rfl) rfl ?_ ?_
    rotate_left
    · go_simp
      rfl
    refine hK.out _ _ ?_
    clear hK K
    refine done_ (by kernel_rfl) ?_
    try go_wp2
    first|go_end0|((try simp only [Exit.inBlock,Exit.then]);refine bodyPost_ret (results_none rfl _ _ _) rfl ?_)
    have e_ : cut1 (some ad) c t.length = .slice (some ⟨ad.block,ad.off + 2,none⟩) (t.length - 1) (c - 1):=by unfold cut1;rw [if_neg c1];rfl
    rw [e_]
    exact ⟨rfl,((((SetsD.refl g w).draw _).set 2 _).set 0 _).set 3 _,blk_put (cs:=#[.int .u64 (slideTo t),.int .u64 f1,.string (d.extract (slideN f0 t).toNat d.size),.slice (some ad) t.length c,v4,.bool b5,.bool b6,.bool b7]) (blk_put (cs:=#[.int .u64 f0,.int .u64 f1,.string (d.extract (slideN f0 t).toNat d.size),.slice (some ad) t.length c,v4,.bool b5,.bool b6,.bool b7]) (blk_put (cs:=#[.int .u64 f0,.int .u64 f1,.string d,.slice (some ad) t.length c,v4,.bool b5,.bool b6,.bool b7]) (kn_ hg0.out _) 2 _ rfl) 0 _ rfl) 3 _ rfl⟩
/-! ### the queue's box beside what else there is -/
abbrev slideStay (f0 : Int) (t : List S67) : Prop:=t.length = 0 ∨ f0 < (rd_T67 t 0).f0
def slideB (f0 : Int) (t : List S67) : Int:=if slideStay f0 t then f0 else slideTo t
def slideD (f0 : Int) (d : ByteArray) (t : List S67) : ByteArray:=if slideStay f0 t then d else d.extract (slideN f0 t).toNat d.size
def slideT (f0 : Int) (t : List S67) : List S67:=if slideStay f0 t then t else t.drop 1
abbrev slideOk (f0 : Int) (d : ByteArray) (t : List S67) : Prop:=t.length < 8796093022208 ∧ (slideStay f0 t ∨ (0 ≤ slideN f0 t ∧ slideN f0 t ≤ (d.size : Int)))
def ackEnd (f0 f1 : Int) (d : ByteArray) (t t4 : List S67) (b5 b6 b7 : Bool) : Option (Int × Int × ByteArray × (List S67) × (List S67) × Bool × Bool × Bool) :=
  if slideOk f0 d t then some (slideB f0 t,f1,slideD f0 d t,slideT f0 t,t4,b5,b6,b7) else none
theorem ackEnd_h {f0 f1 : Int} {d : ByteArray} {t t4 : List S67} {b5 b6 b7 : Bool} {r1 r2 : Int} {r3 : ByteArray} {r4 r5 : List S67} {r6 r7 r8 : Bool} (h : ackEnd f0 f1 d t t4 b5 b6 b7 = some (r1,r2,r3,r4,r5,r6,r7,r8)) :
    slideOk f0 d t ∧ slideB f0 t = r1 ∧ f1 = r2 ∧ slideD f0 d t = r3 ∧ slideT f0 t = r4 ∧ t4 = r5 ∧ b5 = r6 ∧ b6 = r7 ∧ b7 = r8:=by
  unfold ackEnd at h
  by_cases c : slideOk f0 d t
  · rw [if_pos c] at h
    simp only [Option.some.injEq,Prod.mk.injEq] at h
    exact ⟨c,h⟩
  · rw [if_neg c] at h
    cases h
structure QW (w W : World) (g b : Nat) (cs : Array Value) (v3 v4 : Value) (t3 t4 : List S67) (f0 f1 : Int) (d : ByteArray) (b5 b6 b7 : Bool) : Prop where
  hg : W.heap[g]? = some (qB f0 f1 d v3 v4 b5 b6 b7)
  h2 : W.heap[b]? = some (.cells cs 29 (0,0))
  h3 : Kd.V k67 67 W w.heap.size (fun k => (w.heap.size ≤ k ∧ k ≠ g) ∧ k ≠ b) v3 t3
  h4 : Kd.V k67 67 W w.heap.size (fun k => (w.heap.size ≤ k ∧ k ≠ g) ∧ k ≠ b) v4 t4
  hB : Below w.heap.size w W
  ge : w.heap.size ≤ g
  ne : b ≠ g
theorem QW.carry {w W W' : World} {g b : Nat} {cs : Array Value} {v3 v4 v3' : Value} {t3 t4 t3' : List S67} {f0 f1 f0' : Int} {d d' : ByteArray} {b5 b6 b7 : Bool} (h : QW w W g b cs v3 v4 t3 t4 f0 f1 d b5 b6 b7) (hS : SetsD g W W') (hg : W'.heap[g]? = some (qB f0' f1 d' v3' v4 b5 b6 b7))
    (h3 : Kd.V k67 67 W w.heap.size (fun k => (w.heap.size ≤ k ∧ k ≠ g) ∧ k ≠ b) v3' t3') : QW w W' g b cs v3' v4 t3' t4 f0' f1 d' b5 b6 b7 :=
  ⟨hg,hS (fun W' => W'.heap[b]? = some (.cells cs 29 (0,0))) h.h2 (fun _ i _ q => blk_far (p:=⟨g,i,none⟩) q h.ne _) (fun _ n q => kn_ q n),
   hS (fun W' => Kd.V k67 67 W' w.heap.size (fun k => (w.heap.size ≤ k ∧ k ≠ g) ∧ k ≠ b) v3' t3') h3 (fun _ i _ q => Kd.V_far (p:=⟨g,i,none⟩) q (fun _ hk => hk.1.2) _) (fun _ n q => Kd.V_drewN q n),
   hS (fun W' => Kd.V k67 67 W' w.heap.size (fun k => (w.heap.size ≤ k ∧ k ≠ g) ∧ k ≠ b) v4 t4) h.h4 (fun _ i _ q => Kd.V_far (p:=⟨g,i,none⟩) q (fun _ hk => hk.1.2) _) (fun _ n q => Kd.V_drewN q n),
   hS (fun W' => Below w.heap.size w W') h.hB (fun _ i _ q => bs_ (g:=g) (j:=i) q h.ge) (fun _ n q => pn_ q n),h.ge,h.ne⟩
theorem QW.slide {w W : World} {g b : Nat} {cs : Array Value} {A : Option Addr} {c : Nat} {v4 : Value} {t t4 : List S67} {f0 f1 : Int} {d : ByteArray} {b5 b6 b7 : Bool} (h : QW w W g b cs (.slice A t.length c) v4 t t4 f0 f1 d b5 b6 b7) (hk : slideOk f0 d t) :
    Calls Try.prog 38 #[.pointer (some ⟨g,0,none⟩)] W fun e W' => e = .returned (.tuple #[]) ∧ ∃ v',QW w W' g b cs v' v4 (slideT f0 t) t4 (slideB f0 t) f1 (slideD f0 d t) b5 b6 b7:=by
  obtain ⟨_,hc,hF⟩:=Kd.V_at h.h3
  unfold slideT slideB slideD
  by_cases s : slideStay f0 t
  · rw [if_pos s,if_pos s,if_pos s]
    have hs : t = [] ∨ t ≠ [] ∧ f0 < (rd_T67 t 0).f0:=by
      by_cases e : t = []
      · exact Or.inl e
      · exact Or.inr ⟨e,s.elim (fun z => absurd (List.length_eq_zero_iff.1 z) e) id⟩
    refine (slide_no g A c t f0 f1 d v4 b5 b6 b7 W h.hg (Kd.V_reads' h.h3).2.2 hs hk.1).mono ?_
    rintro e W' ⟨rfl,hS,hg⟩
    exact ⟨rfl,_,h.carry hS hg h.h3⟩
  · rw [if_neg s,if_neg s,if_neg s]
    have e : t ≠ []:=fun e => s (Or.inl (by rw [e];rfl))
    have e2 : 0 < t.length:=List.length_pos_iff.2 e
    refine (slide_go g A c t f0 f1 d v4 b5 b6 b7 W h.hg (Kd.V_reads' h.h3).2.2 hc e (by have : ¬ f0 < (rd_T67 t 0).f0:=fun x => s (Or.inr x);omega) hk.1 (hk.2.resolve_left s)).mono ?_
    rintro e' W' ⟨rfl,hS,hg⟩
    refine ⟨rfl,_,h.carry hS hg ⟨_,c - 1,(by unfold cut1;rw [List.length_drop];rfl),(by rw [List.length_drop];omega),Kd.F_cut (m:=1) hF e2 hc⟩⟩

end Go.Proofs.Ytocagkmnefkniaa.PSqx
