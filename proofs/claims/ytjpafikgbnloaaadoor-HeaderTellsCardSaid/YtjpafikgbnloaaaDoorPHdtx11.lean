-- printed for this claim by a program of the claim (wip/tools/pp.py over the kit's print)
import Derived.Test.YtjpafikgbnloaaaDoorPHdtx0
import Derived.Test.YtjpafikgbnloaaaDoorPHdtx9
import Derived.Test.YtjpafikgbnloaaaDoorPHdtx10
namespace Go.Proofs.YtjpafikgbnloaaaDoor.PHdt
open Go.RowKit Go.Proofs.YtjpafikgbnloaaaDoorW.PrintWords Go.Proofs.YtjpafikgbnloaaaDoorW.PrintLast Go.Proofs.YtjpafikgbnloaaaDoorW.PrintMore
attribute [local go_sem] max2_int min2_int max_two min_two max_three min_three max_four min_four   -- for this text's walks alone
set_option linter.unusedVariables false
set_option linter.unusedSimpArgs false

attribute [local go_sem] isSome_setCell_
/-! ### dominoref04_Put: function 13 -/
def dominoref04_Put.f (k : Nat) (a0_0 : Bool) (a0_1 : Bool) (a0_2 : Bool) (a0_3 : Int) (a0_4 : Int) (a0_5 : ByteArray) (a0_6 : ByteArray) (a0_7 : ByteArray) (a0_8 : Int) (a0_9 : Int) (a0_10 : Int) : Option (ByteArray × Int):=(dominoref04_May.f k a0_0 a0_1 a0_2 a0_3 a0_4 a0_5 a0_6 a0_7 a0_8 a0_9 a0_10).bind fun t226 => (if t226 = true then ((dominoref01_Fixed.f k a0_10 a0_9).bind fun t227 => (if a0_0 = true then ((some (([(((((wrap64 (a0_9 - 1)) % 256) + 192) % 256) + ((wrap64 (16 * a0_3)) % 256)) % 256] : List Int) : List Int)).bind fun y240 => ((dominoref01_Fixed.f k (IntKind.u64.wrap (a0_4)) 4).bind fun t243 => (if (strOfNums y240).size + t243.size ≤ 9223372036854775807 then ((dominoref04_short.f a0_5).bind fun t244 => (if ((strOfNums y240) ++ t243).size + t244.size ≤ 9223372036854775807 then ((dominoref04_short.f a0_6).bind fun t245 => (if (((strOfNums y240) ++ t243) ++ t244).size + t245.size ≤ 9223372036854775807 then (if a0_3 = 0 then ((dominoref04_v.f k (IntKind.u64.wrap ((a0_7.size : Int)))).bind fun t246 => (if ((((strOfNums y240) ++ t243) ++ t244) ++ t245).size + t246.size ≤ 9223372036854775807 then (if (((((strOfNums y240) ++ t243) ++ t244) ++ t245) ++ t246).size + a0_7.size ≤ 9223372036854775807 then ((dominoref04_v.f k a0_8).bind fun t247 => (if ((((((strOfNums y240) ++ t243) ++ t244) ++ t245) ++ t246) ++ a0_7).size + t247.size ≤ 9223372036854775807 then (if (((((((strOfNums y240) ++ t243) ++ t244) ++ t245) ++ t246) ++ a0_7) ++ t247).size + t227.size ≤ 9223372036854775807 then (some ((((((((strOfNums y240) ++ t243) ++ t244) ++ t245) ++ t246) ++ a0_7) ++ t247) ++ t227,0)) else (none)) else (none))) else (none)) else (none))) else ((dominoref04_v.f k a0_8).bind fun t248 => (if ((((strOfNums y240) ++ t243) ++ t244) ++ t245).size + t248.size ≤ 9223372036854775807 then (if (((((strOfNums y240) ++ t243) ++ t244) ++ t245) ++ t248).size + t227.size ≤ 9223372036854775807 then (some ((((((strOfNums y240) ++ t243) ++ t244) ++ t245) ++ t248) ++ t227,0)) else (none)) else (none)))) else (none))) else (none))) else (none)))) else (if a0_1 = true then (if a0_2 = true then ((some (([(((((((wrap64 (a0_9 - 1)) % 256) + 64) % 256) + 32) % 256) + 4) % 256] : List Int) : List Int)).bind fun y228 => (if (strOfNums y228).size + a0_5.size ≤ 9223372036854775807 then (if ((strOfNums y228) ++ a0_5).size + t227.size ≤ 9223372036854775807 then (some (((strOfNums y228) ++ a0_5) ++ t227,0)) else (none)) else (none))) else ((some (([(((((wrap64 (a0_9 - 1)) % 256) + 64) % 256) + 32) % 256] : List Int) : List Int)).bind fun y231 => (if (strOfNums y231).size + a0_5.size ≤ 9223372036854775807 then (if ((strOfNums y231) ++ a0_5).size + t227.size ≤ 9223372036854775807 then (some (((strOfNums y231) ++ a0_5) ++ t227,0)) else (none)) else (none)))) else (if a0_2 = true then ((some (([(((((wrap64 (a0_9 - 1)) % 256) + 64) % 256) + 4) % 256] : List Int) : List Int)).bind fun y234 => (if (strOfNums y234).size + a0_5.size ≤ 9223372036854775807 then (if ((strOfNums y234) ++ a0_5).size + t227.size ≤ 9223372036854775807 then (some (((strOfNums y234) ++ a0_5) ++ t227,0)) else (none)) else (none))) else ((some (([(((wrap64 (a0_9 - 1)) % 256) + 64) % 256] : List Int) : List Int)).bind fun y237 => (if (strOfNums y237).size + a0_5.size ≤ 9223372036854775807 then (if ((strOfNums y237) ++ a0_5).size + t227.size ≤ 9223372036854775807 then (some (((strOfNums y237) ++ a0_5) ++ t227,0)) else (none)) else (none))))))) else (some ((⟨#[]⟩ : ByteArray),1)))
theorem dominoref04_Put.mono : ∀ a0 a1 a2 a3 a4 a5 a6 a7 a8 a9 a10 k,LeO (dominoref04_Put.f k a0 a1 a2 a3 a4 a5 a6 a7 a8 a9 a10) (dominoref04_Put.f (k + 1) a0 a1 a2 a3 a4 a5 a6 a7 a8 a9 a10):=by
 intro a0 a1 a2 a3 a4 a5 a6 a7 a8 a9 a10 k
 unfold dominoref04_Put.f
 repeat' first
   | (with_reducible exact dominoref01_Fixed.mono _ _ _)
   | (with_reducible exact dominoref04_May.mono _ _ _ _ _ _ _ _ _ _ _ _)
   | (with_reducible exact dominoref04_v.mono _ _)
   | (with_reducible exact LeO.refl _)
   | (with_reducible exact LeO.none _)
   | (with_reducible refine LeO.ite ?_ ?_)
   | (with_reducible refine LeO.bind ?_ (fun _ => ?_))
   | exact dominoref01_Fixed.mono _ _ _
   | exact dominoref04_May.mono _ _ _ _ _ _ _ _ _ _ _ _
   | exact dominoref04_v.mono _ _
   | exact LeO.none _
   | refine LeO.ite ?_ ?_
   | refine LeO.bind ?_ (fun _ => ?_)
def dominoref04_Put.T13 : Bool × List (List Nat × List Nat):=(true,[([],[]),([0],[0]),([1],[1]),([],[]),([3],[3]),([4],[4]),([5],[5]),([2,6],[2,6]),([],[]),([8],[8]),([9,6],[9]),([7,10],[7,10]),([],[]),([12],[12]),([13,10],[13]),([11,14],[11,14]),([15,14,0,1,2,3,4,5,6,7,8,9,10,11,12,13,14,15],[15])])
def dominoref04_Put.B13 : List Nat:=[0,1,3,0,8,24,56,127,0,256,888,2047,0,4096,14200,32767,65535]
theorem dominoref04_Put.tab13 : rtab .any (opsOf Tryd.f13 13) = dominoref04_Put.T13:=by kernel_rfl
theorem dominoref04_Put.bits13 : waitsOk dominoref04_Put.T13.2 dominoref04_Put.B13 = true:=by kernel_rfl
def dominoref04_Put.T15 : Bool × List (List Nat × List Nat):=(true,[([],[]),([],[]),([1],[1]),([2],[2]),([3],[3]),([4],[4]),([0,5],[0,5]),([],[]),([7],[7]),([6,8],[6,8]),([9,5,0,1,2,3,4,5,6,7,8,9],[0,9])])
def dominoref04_Put.B15 : List Nat:=[0,0,2,6,14,30,63,0,128,511,1023]
theorem dominoref04_Put.tab15 : rtab .any (opsOf Tryd.f13 15) = dominoref04_Put.T15:=by kernel_rfl
theorem dominoref04_Put.bits15 : waitsOk dominoref04_Put.T15.2 dominoref04_Put.B15 = true:=by kernel_rfl
set_option maxHeartbeats 8000000 in
set_option maxRecDepth 100000 in
theorem dominoref04_Put.calls (k : Nat) (a0_0 : Bool) (a0_1 : Bool) (a0_2 : Bool) (a0_3 : Int) (a0_4 : Int) (a0_5 : ByteArray) (a0_6 : ByteArray) (a0_7 : ByteArray) (a0_8 : Int) (a0_9 : Int) (a0_10 : Int) (r1 : ByteArray) (r2 : Int) (w : World) (h : dominoref04_Put.f k a0_0 a0_1 a0_2 a0_3 a0_4 a0_5 a0_6 a0_7 a0_8 a0_9 a0_10 = some (r1,r2)) :
  Calls Tryd.prog 13 #[.agg #[.bool a0_0,.bool a0_1,.bool a0_2,.int .i64 a0_3,.int .u32 a0_4,.string a0_5,.string a0_6,.string a0_7,.int .u64 a0_8,.int .i64 a0_9,.int .u64 a0_10]] w fun e w' => e = .returned (.tuple #[.string r1,.int .i64 r2]) ∧ Below w.heap.size w w':=by
 have hu28:=Tryd.underlying28
 have HB:=am_ (Below.refl w.heap.size w)
 have H : ((dominoref04_May.f k a0_0 a0_1 a0_2 a0_3 a0_4 a0_5 a0_6 a0_7 a0_8 a0_9 a0_10).bind fun t226 => (if t226 = true then ((dominoref01_Fixed.f k a0_10 a0_9).bind fun t227 => (if a0_0 = true then ((some (([(((((wrap64 (a0_9 - 1)) % 256) + 192) % 256) + ((wrap64 (16 * a0_3)) % 256)) % 256] : List Int) : List Int)).bind fun y240 => ((dominoref01_Fixed.f k (IntKind.u64.wrap (a0_4)) 4).bind fun t243 => (if (strOfNums y240).size + t243.size ≤ 9223372036854775807 then ((dominoref04_short.f a0_5).bind fun t244 => (if ((strOfNums y240) ++ t243).size + t244.size ≤ 9223372036854775807 then ((dominoref04_short.f a0_6).bind fun t245 => (if (((strOfNums y240) ++ t243) ++ t244).size + t245.size ≤ 9223372036854775807 then (if a0_3 = 0 then ((dominoref04_v.f k (IntKind.u64.wrap ((a0_7.size : Int)))).bind fun t246 => (if ((((strOfNums y240) ++ t243) ++ t244) ++ t245).size + t246.size ≤ 9223372036854775807 then (if (((((strOfNums y240) ++ t243) ++ t244) ++ t245) ++ t246).size + a0_7.size ≤ 9223372036854775807 then ((dominoref04_v.f k a0_8).bind fun t247 => (if ((((((strOfNums y240) ++ t243) ++ t244) ++ t245) ++ t246) ++ a0_7).size + t247.size ≤ 9223372036854775807 then (if (((((((strOfNums y240) ++ t243) ++ t244) ++ t245) ++ t246) ++ a0_7) ++ t247).size + t227.size ≤ 9223372036854775807 then (some ((((((((strOfNums y240) ++ t243) ++ t244) ++ t245) ++ t246) ++ a0_7) ++ t247) ++ t227,0)) else (none)) else (none))) else (none)) else (none))) else ((dominoref04_v.f k a0_8).bind fun t248 => (if ((((strOfNums y240) ++ t243) ++ t244) ++ t245).size + t248.size ≤ 9223372036854775807 then (if (((((strOfNums y240) ++ t243) ++ t244) ++ t245) ++ t248).size + t227.size ≤ 9223372036854775807 then (some ((((((strOfNums y240) ++ t243) ++ t244) ++ t245) ++ t248) ++ t227,0)) else (none)) else (none)))) else (none))) else (none))) else (none)))) else (if a0_1 = true then (if a0_2 = true then ((some (([(((((((wrap64 (a0_9 - 1)) % 256) + 64) % 256) + 32) % 256) + 4) % 256] : List Int) : List Int)).bind fun y228 => (if (strOfNums y228).size + a0_5.size ≤ 9223372036854775807 then (if ((strOfNums y228) ++ a0_5).size + t227.size ≤ 9223372036854775807 then (some (((strOfNums y228) ++ a0_5) ++ t227,0)) else (none)) else (none))) else ((some (([(((((wrap64 (a0_9 - 1)) % 256) + 64) % 256) + 32) % 256] : List Int) : List Int)).bind fun y231 => (if (strOfNums y231).size + a0_5.size ≤ 9223372036854775807 then (if ((strOfNums y231) ++ a0_5).size + t227.size ≤ 9223372036854775807 then (some (((strOfNums y231) ++ a0_5) ++ t227,0)) else (none)) else (none)))) else (if a0_2 = true then ((some (([(((((wrap64 (a0_9 - 1)) % 256) + 64) % 256) + 4) % 256] : List Int) : List Int)).bind fun y234 => (if (strOfNums y234).size + a0_5.size ≤ 9223372036854775807 then (if ((strOfNums y234) ++ a0_5).size + t227.size ≤ 9223372036854775807 then (some (((strOfNums y234) ++ a0_5) ++ t227,0)) else (none)) else (none))) else ((some (([(((wrap64 (a0_9 - 1)) % 256) + 64) % 256] : List Int) : List Int)).bind fun y237 => (if (strOfNums y237).size + a0_5.size ≤ 9223372036854775807 then (if ((strOfNums y237) ++ a0_5).size + t227.size ≤ 9223372036854775807 then (some (((strOfNums y237) ++ a0_5) ++ t227,0)) else (none)) else (none))))))) else (some ((⟨#[]⟩ : ByteArray),1)))) = some (r1,r2):=h
 clear h
 replace H:=Option.bind_eq_some_iff.mp H
 obtain ⟨t226,A20,H⟩:=H
 replace H : (if t226 = true then ((dominoref01_Fixed.f k a0_10 a0_9).bind fun t227 => (if a0_0 = true then ((some (([(((((wrap64 (a0_9 - 1)) % 256) + 192) % 256) + ((wrap64 (16 * a0_3)) % 256)) % 256] : List Int) : List Int)).bind fun y240 => ((dominoref01_Fixed.f k (IntKind.u64.wrap (a0_4)) 4).bind fun t243 => (if (strOfNums y240).size + t243.size ≤ 9223372036854775807 then ((dominoref04_short.f a0_5).bind fun t244 => (if ((strOfNums y240) ++ t243).size + t244.size ≤ 9223372036854775807 then ((dominoref04_short.f a0_6).bind fun t245 => (if (((strOfNums y240) ++ t243) ++ t244).size + t245.size ≤ 9223372036854775807 then (if a0_3 = 0 then ((dominoref04_v.f k (IntKind.u64.wrap ((a0_7.size : Int)))).bind fun t246 => (if ((((strOfNums y240) ++ t243) ++ t244) ++ t245).size + t246.size ≤ 9223372036854775807 then (if (((((strOfNums y240) ++ t243) ++ t244) ++ t245) ++ t246).size + a0_7.size ≤ 9223372036854775807 then ((dominoref04_v.f k a0_8).bind fun t247 => (if ((((((strOfNums y240) ++ t243) ++ t244) ++ t245) ++ t246) ++ a0_7).size + t247.size ≤ 9223372036854775807 then (if (((((((strOfNums y240) ++ t243) ++ t244) ++ t245) ++ t246) ++ a0_7) ++ t247).size + t227.size ≤ 9223372036854775807 then (some ((((((((strOfNums y240) ++ t243) ++ t244) ++ t245) ++ t246) ++ a0_7) ++ t247) ++ t227,0)) else (none)) else (none))) else (none)) else (none))) else ((dominoref04_v.f k a0_8).bind fun t248 => (if ((((strOfNums y240) ++ t243) ++ t244) ++ t245).size + t248.size ≤ 9223372036854775807 then (if (((((strOfNums y240) ++ t243) ++ t244) ++ t245) ++ t248).size + t227.size ≤ 9223372036854775807 then (some ((((((strOfNums y240) ++ t243) ++ t244) ++ t245) ++ t248) ++ t227,0)) else (none)) else (none)))) else (none))) else (none))) else (none)))) else (if a0_1 = true then (if a0_2 = true then ((some (([(((((((wrap64 (a0_9 - 1)) % 256) + 64) % 256) + 32) % 256) + 4) % 256] : List Int) : List Int)).bind fun y228 => (if (strOfNums y228).size + a0_5.size ≤ 9223372036854775807 then (if ((strOfNums y228) ++ a0_5).size + t227.size ≤ 9223372036854775807 then (some (((strOfNums y228) ++ a0_5) ++ t227,0)) else (none)) else (none))) else ((some (([(((((wrap64 (a0_9 - 1)) % 256) + 64) % 256) + 32) % 256] : List Int) : List Int)).bind fun y231 => (if (strOfNums y231).size + a0_5.size ≤ 9223372036854775807 then (if ((strOfNums y231) ++ a0_5).size + t227.size ≤ 9223372036854775807 then (some (((strOfNums y231) ++ a0_5) ++ t227,0)) else (none)) else (none)))) else (if a0_2 = true then ((some (([(((((wrap64 (a0_9 - 1)) % 256) + 64) % 256) + 4) % 256] : List Int) : List Int)).bind fun y234 => (if (strOfNums y234).size + a0_5.size ≤ 9223372036854775807 then (if ((strOfNums y234) ++ a0_5).size + t227.size ≤ 9223372036854775807 then (some (((strOfNums y234) ++ a0_5) ++ t227,0)) else (none)) else (none))) else ((some (([(((wrap64 (a0_9 - 1)) % 256) + 64) % 256] : List Int) : List Int)).bind fun y237 => (if (strOfNums y237).size + a0_5.size ≤ 9223372036854775807 then (if ((strOfNums y237) ++ a0_5).size + t227.size ≤ 9223372036854775807 then (some (((strOfNums y237) ++ a0_5) ++ t227,0)) else (none)) else (none))))))) else (some ((⟨#[]⟩ : ByteArray),1))) = some (r1,r2):=H
 have A2:=am_ A20
 clear A20
 by_cases c3 : t226 = true
 ·subst c3
  have H1 : ((dominoref01_Fixed.f k a0_10 a0_9).bind fun t227 => (if a0_0 = true then ((some (([(((((wrap64 (a0_9 - 1)) % 256) + 192) % 256) + ((wrap64 (16 * a0_3)) % 256)) % 256] : List Int) : List Int)).bind fun y240 => ((dominoref01_Fixed.f k (IntKind.u64.wrap (a0_4)) 4).bind fun t243 => (if (strOfNums y240).size + t243.size ≤ 9223372036854775807 then ((dominoref04_short.f a0_5).bind fun t244 => (if ((strOfNums y240) ++ t243).size + t244.size ≤ 9223372036854775807 then ((dominoref04_short.f a0_6).bind fun t245 => (if (((strOfNums y240) ++ t243) ++ t244).size + t245.size ≤ 9223372036854775807 then (if a0_3 = 0 then ((dominoref04_v.f k (IntKind.u64.wrap ((a0_7.size : Int)))).bind fun t246 => (if ((((strOfNums y240) ++ t243) ++ t244) ++ t245).size + t246.size ≤ 9223372036854775807 then (if (((((strOfNums y240) ++ t243) ++ t244) ++ t245) ++ t246).size + a0_7.size ≤ 9223372036854775807 then ((dominoref04_v.f k a0_8).bind fun t247 => (if ((((((strOfNums y240) ++ t243) ++ t244) ++ t245) ++ t246) ++ a0_7).size + t247.size ≤ 9223372036854775807 then (if (((((((strOfNums y240) ++ t243) ++ t244) ++ t245) ++ t246) ++ a0_7) ++ t247).size + t227.size ≤ 9223372036854775807 then (some ((((((((strOfNums y240) ++ t243) ++ t244) ++ t245) ++ t246) ++ a0_7) ++ t247) ++ t227,0)) else (none)) else (none))) else (none)) else (none))) else ((dominoref04_v.f k a0_8).bind fun t248 => (if ((((strOfNums y240) ++ t243) ++ t244) ++ t245).size + t248.size ≤ 9223372036854775807 then (if (((((strOfNums y240) ++ t243) ++ t244) ++ t245) ++ t248).size + t227.size ≤ 9223372036854775807 then (some ((((((strOfNums y240) ++ t243) ++ t244) ++ t245) ++ t248) ++ t227,0)) else (none)) else (none)))) else (none))) else (none))) else (none)))) else (if a0_1 = true then (if a0_2 = true then ((some (([(((((((wrap64 (a0_9 - 1)) % 256) + 64) % 256) + 32) % 256) + 4) % 256] : List Int) : List Int)).bind fun y228 => (if (strOfNums y228).size + a0_5.size ≤ 9223372036854775807 then (if ((strOfNums y228) ++ a0_5).size + t227.size ≤ 9223372036854775807 then (some (((strOfNums y228) ++ a0_5) ++ t227,0)) else (none)) else (none))) else ((some (([(((((wrap64 (a0_9 - 1)) % 256) + 64) % 256) + 32) % 256] : List Int) : List Int)).bind fun y231 => (if (strOfNums y231).size + a0_5.size ≤ 9223372036854775807 then (if ((strOfNums y231) ++ a0_5).size + t227.size ≤ 9223372036854775807 then (some (((strOfNums y231) ++ a0_5) ++ t227,0)) else (none)) else (none)))) else (if a0_2 = true then ((some (([(((((wrap64 (a0_9 - 1)) % 256) + 64) % 256) + 4) % 256] : List Int) : List Int)).bind fun y234 => (if (strOfNums y234).size + a0_5.size ≤ 9223372036854775807 then (if ((strOfNums y234) ++ a0_5).size + t227.size ≤ 9223372036854775807 then (some (((strOfNums y234) ++ a0_5) ++ t227,0)) else (none)) else (none))) else ((some (([(((wrap64 (a0_9 - 1)) % 256) + 64) % 256] : List Int) : List Int)).bind fun y237 => (if (strOfNums y237).size + a0_5.size ≤ 9223372036854775807 then (if ((strOfNums y237) ++ a0_5).size + t227.size ≤ 9223372036854775807 then (some (((strOfNums y237) ++ a0_5) ++ t227,0)) else (none)) else (none))))))) = some (r1,r2):=by rw [if_pos rfl] at H;exact H
  clear H
  have H:=H1
  clear H1
  replace H:=Option.bind_eq_some_iff.mp H
  obtain ⟨t227,A40,H⟩:=H
  replace H : (if a0_0 = true then ((some (([(((((wrap64 (a0_9 - 1)) % 256) + 192) % 256) + ((wrap64 (16 * a0_3)) % 256)) % 256] : List Int) : List Int)).bind fun y240 => ((dominoref01_Fixed.f k (IntKind.u64.wrap (a0_4)) 4).bind fun t243 => (if (strOfNums y240).size + t243.size ≤ 9223372036854775807 then ((dominoref04_short.f a0_5).bind fun t244 => (if ((strOfNums y240) ++ t243).size + t244.size ≤ 9223372036854775807 then ((dominoref04_short.f a0_6).bind fun t245 => (if (((strOfNums y240) ++ t243) ++ t244).size + t245.size ≤ 9223372036854775807 then (if a0_3 = 0 then ((dominoref04_v.f k (IntKind.u64.wrap ((a0_7.size : Int)))).bind fun t246 => (if ((((strOfNums y240) ++ t243) ++ t244) ++ t245).size + t246.size ≤ 9223372036854775807 then (if (((((strOfNums y240) ++ t243) ++ t244) ++ t245) ++ t246).size + a0_7.size ≤ 9223372036854775807 then ((dominoref04_v.f k a0_8).bind fun t247 => (if ((((((strOfNums y240) ++ t243) ++ t244) ++ t245) ++ t246) ++ a0_7).size + t247.size ≤ 9223372036854775807 then (if (((((((strOfNums y240) ++ t243) ++ t244) ++ t245) ++ t246) ++ a0_7) ++ t247).size + t227.size ≤ 9223372036854775807 then (some ((((((((strOfNums y240) ++ t243) ++ t244) ++ t245) ++ t246) ++ a0_7) ++ t247) ++ t227,0)) else (none)) else (none))) else (none)) else (none))) else ((dominoref04_v.f k a0_8).bind fun t248 => (if ((((strOfNums y240) ++ t243) ++ t244) ++ t245).size + t248.size ≤ 9223372036854775807 then (if (((((strOfNums y240) ++ t243) ++ t244) ++ t245) ++ t248).size + t227.size ≤ 9223372036854775807 then (some ((((((strOfNums y240) ++ t243) ++ t244) ++ t245) ++ t248) ++ t227,0)) else (none)) else (none)))) else (none))) else (none))) else (none)))) else (if a0_1 = true then (if a0_2 = true then ((some (([(((((((wrap64 (a0_9 - 1)) % 256) + 64) % 256) + 32) % 256) + 4) % 256] : List Int) : List Int)).bind fun y228 => (if (strOfNums y228).size + a0_5.size ≤ 9223372036854775807 then (if ((strOfNums y228) ++ a0_5).size + t227.size ≤ 9223372036854775807 then (some (((strOfNums y228) ++ a0_5) ++ t227,0)) else (none)) else (none))) else ((some (([(((((wrap64 (a0_9 - 1)) % 256) + 64) % 256) + 32) % 256] : List Int) : List Int)).bind fun y231 => (if (strOfNums y231).size + a0_5.size ≤ 9223372036854775807 then (if ((strOfNums y231) ++ a0_5).size + t227.size ≤ 9223372036854775807 then (some (((strOfNums y231) ++ a0_5) ++ t227,0)) else (none)) else (none)))) else (if a0_2 = true then ((some (([(((((wrap64 (a0_9 - 1)) % 256) + 64) % 256) + 4) % 256] : List Int) : List Int)).bind fun y234 => (if (strOfNums y234).size + a0_5.size ≤ 9223372036854775807 then (if ((strOfNums y234) ++ a0_5).size + t227.size ≤ 9223372036854775807 then (some (((strOfNums y234) ++ a0_5) ++ t227,0)) else (none)) else (none))) else ((some (([(((wrap64 (a0_9 - 1)) % 256) + 64) % 256] : List Int) : List Int)).bind fun y237 => (if (strOfNums y237).size + a0_5.size ≤ 9223372036854775807 then (if ((strOfNums y237) ++ a0_5).size + t227.size ≤ 9223372036854775807 then (some (((strOfNums y237) ++ a0_5) ++ t227,0)) else (none)) else (none)))))) = some (r1,r2):=H
  have A4:=am_ A40
  clear A40
  by_cases c5 : a0_0 = true
  ·subst c5
   have H1 : ((some (([(((((wrap64 (a0_9 - 1)) % 256) + 192) % 256) + ((wrap64 (16 * a0_3)) % 256)) % 256] : List Int) : List Int)).bind fun y240 => ((dominoref01_Fixed.f k (IntKind.u64.wrap (a0_4)) 4).bind fun t243 => (if (strOfNums y240).size + t243.size ≤ 9223372036854775807 then ((dominoref04_short.f a0_5).bind fun t244 => (if ((strOfNums y240) ++ t243).size + t244.size ≤ 9223372036854775807 then ((dominoref04_short.f a0_6).bind fun t245 => (if (((strOfNums y240) ++ t243) ++ t244).size + t245.size ≤ 9223372036854775807 then (if a0_3 = 0 then ((dominoref04_v.f k (IntKind.u64.wrap ((a0_7.size : Int)))).bind fun t246 => (if ((((strOfNums y240) ++ t243) ++ t244) ++ t245).size + t246.size ≤ 9223372036854775807 then (if (((((strOfNums y240) ++ t243) ++ t244) ++ t245) ++ t246).size + a0_7.size ≤ 9223372036854775807 then ((dominoref04_v.f k a0_8).bind fun t247 => (if ((((((strOfNums y240) ++ t243) ++ t244) ++ t245) ++ t246) ++ a0_7).size + t247.size ≤ 9223372036854775807 then (if (((((((strOfNums y240) ++ t243) ++ t244) ++ t245) ++ t246) ++ a0_7) ++ t247).size + t227.size ≤ 9223372036854775807 then (some ((((((((strOfNums y240) ++ t243) ++ t244) ++ t245) ++ t246) ++ a0_7) ++ t247) ++ t227,0)) else (none)) else (none))) else (none)) else (none))) else ((dominoref04_v.f k a0_8).bind fun t248 => (if ((((strOfNums y240) ++ t243) ++ t244) ++ t245).size + t248.size ≤ 9223372036854775807 then (if (((((strOfNums y240) ++ t243) ++ t244) ++ t245) ++ t248).size + t227.size ≤ 9223372036854775807 then (some ((((((strOfNums y240) ++ t243) ++ t244) ++ t245) ++ t248) ++ t227,0)) else (none)) else (none)))) else (none))) else (none))) else (none)))) = some (r1,r2):=by rw [if_pos rfl] at H;exact H
   clear H
   have H:=H1
   clear H1
   obtain ⟨y240,hy240⟩ : ∃ y_ : List Int,y_ = (([(((((wrap64 (a0_9 - 1)) % 256) + 192) % 256) + ((wrap64 (16 * a0_3)) % 256)) % 256] : List Int)):=⟨_,rfl⟩
   replace H : ((dominoref01_Fixed.f k (IntKind.u64.wrap (a0_4)) 4).bind fun t243 => (if (strOfNums y240).size + t243.size ≤ 9223372036854775807 then ((dominoref04_short.f a0_5).bind fun t244 => (if ((strOfNums y240) ++ t243).size + t244.size ≤ 9223372036854775807 then ((dominoref04_short.f a0_6).bind fun t245 => (if (((strOfNums y240) ++ t243) ++ t244).size + t245.size ≤ 9223372036854775807 then (if a0_3 = 0 then ((dominoref04_v.f k (IntKind.u64.wrap ((a0_7.size : Int)))).bind fun t246 => (if ((((strOfNums y240) ++ t243) ++ t244) ++ t245).size + t246.size ≤ 9223372036854775807 then (if (((((strOfNums y240) ++ t243) ++ t244) ++ t245) ++ t246).size + a0_7.size ≤ 9223372036854775807 then ((dominoref04_v.f k a0_8).bind fun t247 => (if ((((((strOfNums y240) ++ t243) ++ t244) ++ t245) ++ t246) ++ a0_7).size + t247.size ≤ 9223372036854775807 then (if (((((((strOfNums y240) ++ t243) ++ t244) ++ t245) ++ t246) ++ a0_7) ++ t247).size + t227.size ≤ 9223372036854775807 then (some ((((((((strOfNums y240) ++ t243) ++ t244) ++ t245) ++ t246) ++ a0_7) ++ t247) ++ t227,0)) else (none)) else (none))) else (none)) else (none))) else ((dominoref04_v.f k a0_8).bind fun t248 => (if ((((strOfNums y240) ++ t243) ++ t244) ++ t245).size + t248.size ≤ 9223372036854775807 then (if (((((strOfNums y240) ++ t243) ++ t244) ++ t245) ++ t248).size + t227.size ≤ 9223372036854775807 then (some ((((((strOfNums y240) ++ t243) ++ t244) ++ t245) ++ t248) ++ t227,0)) else (none)) else (none)))) else (none))) else (none))) else (none))) = some (r1,r2):=by first|(rw [hy240];with_reducible exact H)|(have H2_:=(Option.bind_some _ _).symm.trans H;rw [hy240];with_reducible exact H2_)|(have H2_:=(Option.bind_some _ _).symm.trans H;with_reducible exact H2_)|with_reducible exact H|(rw [hy240];exact H)|exact H
   have Ny240:=am_ hy240
   clear hy240
   replace H:=Option.bind_eq_some_iff.mp H
   obtain ⟨t243,A60,H⟩:=H
   replace H : (if (strOfNums y240).size + t243.size ≤ 9223372036854775807 then ((dominoref04_short.f a0_5).bind fun t244 => (if ((strOfNums y240) ++ t243).size + t244.size ≤ 9223372036854775807 then ((dominoref04_short.f a0_6).bind fun t245 => (if (((strOfNums y240) ++ t243) ++ t244).size + t245.size ≤ 9223372036854775807 then (if a0_3 = 0 then ((dominoref04_v.f k (IntKind.u64.wrap ((a0_7.size : Int)))).bind fun t246 => (if ((((strOfNums y240) ++ t243) ++ t244) ++ t245).size + t246.size ≤ 9223372036854775807 then (if (((((strOfNums y240) ++ t243) ++ t244) ++ t245) ++ t246).size + a0_7.size ≤ 9223372036854775807 then ((dominoref04_v.f k a0_8).bind fun t247 => (if ((((((strOfNums y240) ++ t243) ++ t244) ++ t245) ++ t246) ++ a0_7).size + t247.size ≤ 9223372036854775807 then (if (((((((strOfNums y240) ++ t243) ++ t244) ++ t245) ++ t246) ++ a0_7) ++ t247).size + t227.size ≤ 9223372036854775807 then (some ((((((((strOfNums y240) ++ t243) ++ t244) ++ t245) ++ t246) ++ a0_7) ++ t247) ++ t227,0)) else (none)) else (none))) else (none)) else (none))) else ((dominoref04_v.f k a0_8).bind fun t248 => (if ((((strOfNums y240) ++ t243) ++ t244) ++ t245).size + t248.size ≤ 9223372036854775807 then (if (((((strOfNums y240) ++ t243) ++ t244) ++ t245) ++ t248).size + t227.size ≤ 9223372036854775807 then (some ((((((strOfNums y240) ++ t243) ++ t244) ++ t245) ++ t248) ++ t227,0)) else (none)) else (none)))) else (none))) else (none))) else (none)) = some (r1,r2):=H
   have A6:=am_ A60
   clear A60
   by_cases c7 : (strOfNums y240).size + t243.size ≤ 9223372036854775807
   ·rw [if_pos c7] at H
    have c7b0:=eq_true c7
    have c7b1 : decide ((strOfNums y240).size + t243.size ≤ 9223372036854775807) = true:=decide_eq_true c7
    try have c7b2 : (9223372036854775807 < (strOfNums y240).size + t243.size) = False:=eq_false (Nat.not_lt.2 c7)
    replace H:=Option.bind_eq_some_iff.mp H
    obtain ⟨t244,A80,H⟩:=H
    replace H : (if ((strOfNums y240) ++ t243).size + t244.size ≤ 9223372036854775807 then ((dominoref04_short.f a0_6).bind fun t245 => (if (((strOfNums y240) ++ t243) ++ t244).size + t245.size ≤ 9223372036854775807 then (if a0_3 = 0 then ((dominoref04_v.f k (IntKind.u64.wrap ((a0_7.size : Int)))).bind fun t246 => (if ((((strOfNums y240) ++ t243) ++ t244) ++ t245).size + t246.size ≤ 9223372036854775807 then (if (((((strOfNums y240) ++ t243) ++ t244) ++ t245) ++ t246).size + a0_7.size ≤ 9223372036854775807 then ((dominoref04_v.f k a0_8).bind fun t247 => (if ((((((strOfNums y240) ++ t243) ++ t244) ++ t245) ++ t246) ++ a0_7).size + t247.size ≤ 9223372036854775807 then (if (((((((strOfNums y240) ++ t243) ++ t244) ++ t245) ++ t246) ++ a0_7) ++ t247).size + t227.size ≤ 9223372036854775807 then (some ((((((((strOfNums y240) ++ t243) ++ t244) ++ t245) ++ t246) ++ a0_7) ++ t247) ++ t227,0)) else (none)) else (none))) else (none)) else (none))) else ((dominoref04_v.f k a0_8).bind fun t248 => (if ((((strOfNums y240) ++ t243) ++ t244) ++ t245).size + t248.size ≤ 9223372036854775807 then (if (((((strOfNums y240) ++ t243) ++ t244) ++ t245) ++ t248).size + t227.size ≤ 9223372036854775807 then (some ((((((strOfNums y240) ++ t243) ++ t244) ++ t245) ++ t248) ++ t227,0)) else (none)) else (none)))) else (none))) else (none)) = some (r1,r2):=H
    have A8:=am_ A80
    clear A80
    by_cases c9 : ((strOfNums y240) ++ t243).size + t244.size ≤ 9223372036854775807
    ·rw [if_pos c9] at H
     have c9b0:=eq_true c9
     have c9b1 : decide (((strOfNums y240) ++ t243).size + t244.size ≤ 9223372036854775807) = true:=decide_eq_true c9
     try have c9b2 : (9223372036854775807 < ((strOfNums y240) ++ t243).size + t244.size) = False:=eq_false (Nat.not_lt.2 c9)
     (try (have c9b3:=c9;simp [ByteArray.size_append] at c9b3;have c9b4:=eq_false (Nat.not_lt.2 c9b3);have c9b5:=eq_true c9b3;clear c9b3))
     replace H:=Option.bind_eq_some_iff.mp H
     obtain ⟨t245,A100,H⟩:=H
     replace H : (if (((strOfNums y240) ++ t243) ++ t244).size + t245.size ≤ 9223372036854775807 then (if a0_3 = 0 then ((dominoref04_v.f k (IntKind.u64.wrap ((a0_7.size : Int)))).bind fun t246 => (if ((((strOfNums y240) ++ t243) ++ t244) ++ t245).size + t246.size ≤ 9223372036854775807 then (if (((((strOfNums y240) ++ t243) ++ t244) ++ t245) ++ t246).size + a0_7.size ≤ 9223372036854775807 then ((dominoref04_v.f k a0_8).bind fun t247 => (if ((((((strOfNums y240) ++ t243) ++ t244) ++ t245) ++ t246) ++ a0_7).size + t247.size ≤ 9223372036854775807 then (if (((((((strOfNums y240) ++ t243) ++ t244) ++ t245) ++ t246) ++ a0_7) ++ t247).size + t227.size ≤ 9223372036854775807 then (some ((((((((strOfNums y240) ++ t243) ++ t244) ++ t245) ++ t246) ++ a0_7) ++ t247) ++ t227,0)) else (none)) else (none))) else (none)) else (none))) else ((dominoref04_v.f k a0_8).bind fun t248 => (if ((((strOfNums y240) ++ t243) ++ t244) ++ t245).size + t248.size ≤ 9223372036854775807 then (if (((((strOfNums y240) ++ t243) ++ t244) ++ t245) ++ t248).size + t227.size ≤ 9223372036854775807 then (some ((((((strOfNums y240) ++ t243) ++ t244) ++ t245) ++ t248) ++ t227,0)) else (none)) else (none)))) else (none)) = some (r1,r2):=H
     have A10:=am_ A100
     clear A100
     by_cases c11 : (((strOfNums y240) ++ t243) ++ t244).size + t245.size ≤ 9223372036854775807
     ·rw [if_pos c11] at H
      have c11b0:=eq_true c11
      have c11b1 : decide ((((strOfNums y240) ++ t243) ++ t244).size + t245.size ≤ 9223372036854775807) = true:=decide_eq_true c11
      try have c11b2 : (9223372036854775807 < (((strOfNums y240) ++ t243) ++ t244).size + t245.size) = False:=eq_false (Nat.not_lt.2 c11)
      (try (have c11b3:=c11;simp [ByteArray.size_append] at c11b3;have c11b4:=eq_false (Nat.not_lt.2 c11b3);have c11b5:=eq_true c11b3;clear c11b3))
      by_cases c12 : a0_3 = 0
      ·rw [if_pos c12] at H
       have c12b0 : (a0_3 == 0) = true:=beq_iff_eq.mpr c12
       have c12b1 : (a0_3 != 0) = false:=bne_eq_false_iff_eq.mpr c12
       clear c12
       replace H:=Option.bind_eq_some_iff.mp H
       obtain ⟨t246,A130,H⟩:=H
       replace H : (if ((((strOfNums y240) ++ t243) ++ t244) ++ t245).size + t246.size ≤ 9223372036854775807 then (if (((((strOfNums y240) ++ t243) ++ t244) ++ t245) ++ t246).size + a0_7.size ≤ 9223372036854775807 then ((dominoref04_v.f k a0_8).bind fun t247 => (if ((((((strOfNums y240) ++ t243) ++ t244) ++ t245) ++ t246) ++ a0_7).size + t247.size ≤ 9223372036854775807 then (if (((((((strOfNums y240) ++ t243) ++ t244) ++ t245) ++ t246) ++ a0_7) ++ t247).size + t227.size ≤ 9223372036854775807 then (some ((((((((strOfNums y240) ++ t243) ++ t244) ++ t245) ++ t246) ++ a0_7) ++ t247) ++ t227,0)) else (none)) else (none))) else (none)) else (none)) = some (r1,r2):=H
       have A13:=am_ A130
       clear A130
       by_cases c14 : ((((strOfNums y240) ++ t243) ++ t244) ++ t245).size + t246.size ≤ 9223372036854775807
       ·rw [if_pos c14] at H
        have c14b0:=eq_true c14
        have c14b1 : decide (((((strOfNums y240) ++ t243) ++ t244) ++ t245).size + t246.size ≤ 9223372036854775807) = true:=decide_eq_true c14
        try have c14b2 : (9223372036854775807 < ((((strOfNums y240) ++ t243) ++ t244) ++ t245).size + t246.size) = False:=eq_false (Nat.not_lt.2 c14)
        (try (have c14b3:=c14;simp [ByteArray.size_append] at c14b3;have c14b4:=eq_false (Nat.not_lt.2 c14b3);have c14b5:=eq_true c14b3;clear c14b3))
        by_cases c15 : (((((strOfNums y240) ++ t243) ++ t244) ++ t245) ++ t246).size + a0_7.size ≤ 9223372036854775807
        ·rw [if_pos c15] at H
         have c15b0:=eq_true c15
         have c15b1 : decide ((((((strOfNums y240) ++ t243) ++ t244) ++ t245) ++ t246).size + a0_7.size ≤ 9223372036854775807) = true:=decide_eq_true c15
         try have c15b2 : (9223372036854775807 < (((((strOfNums y240) ++ t243) ++ t244) ++ t245) ++ t246).size + a0_7.size) = False:=eq_false (Nat.not_lt.2 c15)
         (try (have c15b3:=c15;simp [ByteArray.size_append] at c15b3;have c15b4:=eq_false (Nat.not_lt.2 c15b3);have c15b5:=eq_true c15b3;clear c15b3))
         replace H:=Option.bind_eq_some_iff.mp H
         obtain ⟨t247,A160,H⟩:=H
         replace H : (if ((((((strOfNums y240) ++ t243) ++ t244) ++ t245) ++ t246) ++ a0_7).size + t247.size ≤ 9223372036854775807 then (if (((((((strOfNums y240) ++ t243) ++ t244) ++ t245) ++ t246) ++ a0_7) ++ t247).size + t227.size ≤ 9223372036854775807 then (some ((((((((strOfNums y240) ++ t243) ++ t244) ++ t245) ++ t246) ++ a0_7) ++ t247) ++ t227,0)) else (none)) else (none)) = some (r1,r2):=H
         have A16:=am_ A160
         clear A160
         by_cases c17 : ((((((strOfNums y240) ++ t243) ++ t244) ++ t245) ++ t246) ++ a0_7).size + t247.size ≤ 9223372036854775807
         ·rw [if_pos c17] at H
          have c17b0:=eq_true c17
          have c17b1 : decide (((((((strOfNums y240) ++ t243) ++ t244) ++ t245) ++ t246) ++ a0_7).size + t247.size ≤ 9223372036854775807) = true:=decide_eq_true c17
          try have c17b2 : (9223372036854775807 < ((((((strOfNums y240) ++ t243) ++ t244) ++ t245) ++ t246) ++ a0_7).size + t247.size) = False:=eq_false (Nat.not_lt.2 c17)
          (try (have c17b3:=c17;simp [ByteArray.size_append] at c17b3;have c17b4:=eq_false (Nat.not_lt.2 c17b3);have c17b5:=eq_true c17b3;clear c17b3))
          by_cases c18 : (((((((strOfNums y240) ++ t243) ++ t244) ++ t245) ++ t246) ++ a0_7) ++ t247).size + t227.size ≤ 9223372036854775807
          ·rw [if_pos c18] at H
           have c18b0:=eq_true c18
           have c18b1 : decide ((((((((strOfNums y240) ++ t243) ++ t244) ++ t245) ++ t246) ++ a0_7) ++ t247).size + t227.size ≤ 9223372036854775807) = true:=decide_eq_true c18
           try have c18b2 : (9223372036854775807 < (((((((strOfNums y240) ++ t243) ++ t244) ++ t245) ++ t246) ++ a0_7) ++ t247).size + t227.size) = False:=eq_false (Nat.not_lt.2 c18)
           (try (have c18b3:=c18;simp [ByteArray.size_append] at c18b3;have c18b4:=eq_false (Nat.not_lt.2 c18b3);have c18b5:=eq_true c18b3;clear c18b3))
           simp only [Option.some.injEq,Prod.mk.injEq] at H
           obtain ⟨rfl,rfl⟩:=H
           go_enter Tryd.func13,Tryd.ntmps13
           try go_wp2_with (first|((with_reducible refine gate_dst (N:=1) rfl ?_);refine box_event ?hg (N:=1) ?hd (cs:=#[.bool true,.bool a0_1,.bool a0_2,.int .i64 a0_3,.int .u32 a0_4,.string a0_5,.string a0_6,.string a0_7,.int .u64 a0_8,.int .i64 a0_9,.int .u64 a0_10]) (t:=28) ?hr ?_;(case hd => rfl);(case hg => rfl);(case hr => first|(go_simp;done)|(go_simp;rfl));intro gb225 hg w19 hbox hb;have n0_:=am_ (below_step (by repeat (first|(with_reducible first|exact HB.out|apply ba_|apply pn_|apply pd_)|exact HB.out)) hb);have n1_:=am_ (hbox);have n2_:=am_ ((by rw [hg];exact (below_size (by repeat (first|(with_reducible first|exact HB.out|apply ba_|apply pn_|apply pd_)|exact HB.out))) : w.heap.size ≤ gb225));have n3_:=am_ ((by rw [hg];exact (below_size (by repeat (first|(with_reducible first|exact HB.out|apply ba_|apply pn_|apply pd_)|exact HB.out))) : w.heap.size ≤ gb225));clear HB;have HB:=n0_;have BK225:=n1_;have GW225:=n2_;have GE225:=n3_;clear n0_ n1_ n2_ n3_;clear hb hbox hg;have hcz20_0 : w19.cell? ⟨gb225,0,none⟩ = some (.bool true):=(kc_ BK225.out 0).trans rfl;have hcz20_1 : w19.cell? ⟨gb225,1,none⟩ = some (.bool a0_1):=(kc_ BK225.out 1).trans rfl;have hcz20_2 : w19.cell? ⟨gb225,2,none⟩ = some (.bool a0_2):=(kc_ BK225.out 2).trans rfl;have hcz20_3 : w19.cell? ⟨gb225,3,none⟩ = some (.int .i64 a0_3):=(kc_ BK225.out 3).trans rfl;have hcz20_4 : w19.cell? ⟨gb225,4,none⟩ = some (.int .u32 a0_4):=(kc_ BK225.out 4).trans rfl;have hcz20_5 : w19.cell? ⟨gb225,5,none⟩ = some (.string a0_5):=(kc_ BK225.out 5).trans rfl;have hcz20_6 : w19.cell? ⟨gb225,6,none⟩ = some (.string a0_6):=(kc_ BK225.out 6).trans rfl;have hcz20_7 : w19.cell? ⟨gb225,7,none⟩ = some (.string a0_7):=(kc_ BK225.out 7).trans rfl;have hcz20_8 : w19.cell? ⟨gb225,8,none⟩ = some (.int .u64 a0_8):=(kc_ BK225.out 8).trans rfl;have hcz20_9 : w19.cell? ⟨gb225,9,none⟩ = some (.int .i64 a0_9):=(kc_ BK225.out 9).trans rfl;have hcz20_10 : w19.cell? ⟨gb225,10,none⟩ = some (.int .u64 a0_10):=(kc_ BK225.out 10).trans rfl;have hfz20_0:=blk_frozen BK225.out 0;have hfz20_1:=blk_frozen BK225.out 1;have hfz20_2:=blk_frozen BK225.out 2;have hfz20_3:=blk_frozen BK225.out 3;have hfz20_4:=blk_frozen BK225.out 4;have hfz20_5:=blk_frozen BK225.out 5;have hfz20_6:=blk_frozen BK225.out 6;have hfz20_7:=blk_frozen BK225.out 7;have hfz20_8:=blk_frozen BK225.out 8;have hfz20_9:=blk_frozen BK225.out 9;have hfz20_10:=blk_frozen BK225.out 10;skip)|((with_reducible refine gate_callee (f:=19) rfl ?_);refine goesL_ (some 8) rfl rfl Tryd.func19 (by kernel_rfl) rfl #[.agg #[.bool true,.bool a0_1,.bool a0_2,.int .i64 a0_3,.int .u32 a0_4,.string a0_5,.string a0_6,.string a0_7,.int .u64 a0_8,.int .i64 a0_9,.int .u64 a0_10]] rfl (by (try simp only [List.map_toArray,List.map_cons,List.map_nil]);first|done|rfl|(simp only [List.length_drop,List.length_take];rfl)) ?_;(with_reducible refine (dominoref04_May.calls k true a0_1 a0_2 a0_3 a0_4 a0_5 a0_6 a0_7 a0_8 a0_9 a0_10 true _ A2.out).mono ?_);rintro e w21 ⟨rfl,hb⟩;refine ⟨_,rfl,?_⟩;have n0_:=am_ (blk_below (g:=gb225) (o:=.cells #[.bool true,.bool a0_1,.bool a0_2,.int .i64 a0_3,.int .u32 a0_4,.string a0_5,.string a0_6,.string a0_7,.int .u64 a0_8,.int .i64 a0_9,.int .u64 a0_10] 28 (0,0)) (by (with_reducible repeat (first|refine kn_ ?_ _|refine kd_ ?_|refine ka_ ?_ _));exact BK225.out) hb);have n1_:=am_ (below_step (by repeat (first|(with_reducible first|exact HB.out|apply ba_|apply pn_|apply pd_|refine bs_ ?_ GE225.out)|exact HB.out)) hb);clear BK225;clear HB;have BK225:=n0_;have HB:=n1_;clear n0_ n1_;(try clear hb);(try clear hb2);(try clear hk);(try clear hi);have hcz22_0 : w21.cell? ⟨gb225,0,none⟩ = some (.bool true):=(kc_ BK225.out 0).trans rfl;have hcz22_1 : w21.cell? ⟨gb225,1,none⟩ = some (.bool a0_1):=(kc_ BK225.out 1).trans rfl;have hcz22_2 : w21.cell? ⟨gb225,2,none⟩ = some (.bool a0_2):=(kc_ BK225.out 2).trans rfl;have hcz22_3 : w21.cell? ⟨gb225,3,none⟩ = some (.int .i64 a0_3):=(kc_ BK225.out 3).trans rfl;have hcz22_4 : w21.cell? ⟨gb225,4,none⟩ = some (.int .u32 a0_4):=(kc_ BK225.out 4).trans rfl;have hcz22_5 : w21.cell? ⟨gb225,5,none⟩ = some (.string a0_5):=(kc_ BK225.out 5).trans rfl;have hcz22_6 : w21.cell? ⟨gb225,6,none⟩ = some (.string a0_6):=(kc_ BK225.out 6).trans rfl;have hcz22_7 : w21.cell? ⟨gb225,7,none⟩ = some (.string a0_7):=(kc_ BK225.out 7).trans rfl;have hcz22_8 : w21.cell? ⟨gb225,8,none⟩ = some (.int .u64 a0_8):=(kc_ BK225.out 8).trans rfl;have hcz22_9 : w21.cell? ⟨gb225,9,none⟩ = some (.int .i64 a0_9):=(kc_ BK225.out 9).trans rfl;have hcz22_10 : w21.cell? ⟨gb225,10,none⟩ = some (.int .u64 a0_10):=(kc_ BK225.out 10).trans rfl;have hfz22_0:=blk_frozen BK225.out 0;have hfz22_1:=blk_frozen BK225.out 1;have hfz22_2:=blk_frozen BK225.out 2;have hfz22_3:=blk_frozen BK225.out 3;have hfz22_4:=blk_frozen BK225.out 4;have hfz22_5:=blk_frozen BK225.out 5;have hfz22_6:=blk_frozen BK225.out 6;have hfz22_7:=blk_frozen BK225.out 7;have hfz22_8:=blk_frozen BK225.out 8;have hfz22_9:=blk_frozen BK225.out 9;have hfz22_10:=blk_frozen BK225.out 10;skip)|((with_reducible refine gate_callee (f:=29) rfl ?_);refine goesL_ (some 18) rfl rfl Tryd.func29 (by kernel_rfl) rfl #[.int .u64 a0_10,.int .i64 a0_9] rfl (by (try simp only [List.map_toArray,List.map_cons,List.map_nil]);first|done|rfl|(simp only [List.length_drop,List.length_take];rfl)) ?_;(with_reducible refine (dominoref01_Fixed.calls k a0_10 a0_9 t227 _ A4.out).mono ?_);rintro e w23 ⟨rfl,hb⟩;refine ⟨_,rfl,?_⟩;have n0_:=am_ (blk_below (g:=gb225) (o:=.cells #[.bool true,.bool a0_1,.bool a0_2,.int .i64 a0_3,.int .u32 a0_4,.string a0_5,.string a0_6,.string a0_7,.int .u64 a0_8,.int .i64 a0_9,.int .u64 a0_10] 28 (0,0)) (by (with_reducible repeat (first|refine kn_ ?_ _|refine kd_ ?_|refine ka_ ?_ _));exact BK225.out) hb);have n1_:=am_ (below_step (by repeat (first|(with_reducible first|exact HB.out|apply ba_|apply pn_|apply pd_|refine bs_ ?_ GE225.out)|exact HB.out)) hb);clear BK225;clear HB;have BK225:=n0_;have HB:=n1_;clear n0_ n1_;(try clear hb);(try clear hb2);(try clear hk);(try clear hi);have hcz24_0 : w23.cell? ⟨gb225,0,none⟩ = some (.bool true):=(kc_ BK225.out 0).trans rfl;have hcz24_1 : w23.cell? ⟨gb225,1,none⟩ = some (.bool a0_1):=(kc_ BK225.out 1).trans rfl;have hcz24_2 : w23.cell? ⟨gb225,2,none⟩ = some (.bool a0_2):=(kc_ BK225.out 2).trans rfl;have hcz24_3 : w23.cell? ⟨gb225,3,none⟩ = some (.int .i64 a0_3):=(kc_ BK225.out 3).trans rfl;have hcz24_4 : w23.cell? ⟨gb225,4,none⟩ = some (.int .u32 a0_4):=(kc_ BK225.out 4).trans rfl;have hcz24_5 : w23.cell? ⟨gb225,5,none⟩ = some (.string a0_5):=(kc_ BK225.out 5).trans rfl;have hcz24_6 : w23.cell? ⟨gb225,6,none⟩ = some (.string a0_6):=(kc_ BK225.out 6).trans rfl;have hcz24_7 : w23.cell? ⟨gb225,7,none⟩ = some (.string a0_7):=(kc_ BK225.out 7).trans rfl;have hcz24_8 : w23.cell? ⟨gb225,8,none⟩ = some (.int .u64 a0_8):=(kc_ BK225.out 8).trans rfl;have hcz24_9 : w23.cell? ⟨gb225,9,none⟩ = some (.int .i64 a0_9):=(kc_ BK225.out 9).trans rfl;have hcz24_10 : w23.cell? ⟨gb225,10,none⟩ = some (.int .u64 a0_10):=(kc_ BK225.out 10).trans rfl;have hfz24_0:=blk_frozen BK225.out 0;have hfz24_1:=blk_frozen BK225.out 1;have hfz24_2:=blk_frozen BK225.out 2;have hfz24_3:=blk_frozen BK225.out 3;have hfz24_4:=blk_frozen BK225.out 4;have hfz24_5:=blk_frozen BK225.out 5;have hfz24_6:=blk_frozen BK225.out 6;have hfz24_7:=blk_frozen BK225.out 7;have hfz24_8:=blk_frozen BK225.out 8;have hfz24_9:=blk_frozen BK225.out 9;have hfz24_10:=blk_frozen BK225.out 10;skip))
           have n0_:=am_ (kd_ BK225.out)
           have n1_:=am_ (pd_ HB.out)
           clear BK225
           clear HB
           have BK225:=n0_
           have HB:=n1_
           clear n0_ n1_
           refine start_ (n:=17) (S:=fun w' => w'.cell? ⟨gb225,0,none⟩ = some (.bool true) ∧ w'.cell? ⟨gb225,1,none⟩ = some (.bool a0_1) ∧ w'.cell? ⟨gb225,2,none⟩ = some (.bool a0_2) ∧ w'.cell? ⟨gb225,3,none⟩ = some (.int .i64 a0_3) ∧ w'.cell? ⟨gb225,4,none⟩ = some (.int .u32 a0_4) ∧ w'.cell? ⟨gb225,5,none⟩ = some (.string a0_5) ∧ w'.cell? ⟨gb225,6,none⟩ = some (.string a0_6) ∧ w'.cell? ⟨gb225,7,none⟩ = some (.string a0_7) ∧ w'.cell? ⟨gb225,8,none⟩ = some (.int .u64 a0_8) ∧ w'.cell? ⟨gb225,9,none⟩ = some (.int .i64 a0_9) ∧ w'.cell? ⟨gb225,10,none⟩ = some (.int .u64 a0_10)) (ds:=[]) #[F_,F_,F_,F_,F_,F_,F_,F_,F_,F_,F_,F_,F_,F_,F_,F_,F_] (by kernel_rfl) rfl rfl ⟨(kc_ BK225.out 0).trans rfl,(kc_ BK225.out 1).trans rfl,(kc_ BK225.out 2).trans rfl,(kc_ BK225.out 3).trans rfl,(kc_ BK225.out 4).trans rfl,(kc_ BK225.out 5).trans rfl,(kc_ BK225.out 6).trans rfl,(kc_ BK225.out 7).trans rfl,(kc_ BK225.out 8).trans rfl,(kc_ BK225.out 9).trans rfl,(kc_ BK225.out 10).trans rfl⟩ (fun hHeld => ?_);refine with_tabW dominoref04_Put.tab13 dominoref04_Put.bits13 (fun HT_ HW_ => ?_)
           generalize w23.drew = w25 at BK225 HB hHeld ⊢
           refine pure_ (i:=0) (N:=some 47) (v:=?_) (a':=?_) #[T_,F_,F_,F_,F_,F_,F_,F_,F_,F_,F_,F_,F_,F_,F_,F_,F_] rfl rfl (any_of HT_.out (by kernel_rfl)) (fun _ _ _ h => h) (Or.inl ⟨by rfl,?_⟩) ?_ ?_
           rotate_left;(intro w';go_simp;with_reducible rfl);rotate_left;(simp only [Act.put,ps_,i64_w,i32_w];rfl)
           refine pure_ (i:=3) (N:=some 50) (v:=?_) (a':=?_) #[T_,F_,F_,T_,F_,F_,F_,F_,F_,F_,F_,F_,F_,F_,F_,F_,F_] rfl rfl (any_of HT_.out (by kernel_rfl)) (fun _ _ _ h => h) (Or.inl ⟨by rfl,?_⟩) ?_ ?_
           rotate_left;(intro w';go_simp;with_reducible rfl);rotate_left;(simp only [Act.put,ps_,i64_w,i32_w];rfl)
           refine pure_ (i:=8) (N:=some 55) (v:=?_) (a':=?_) #[T_,F_,F_,T_,F_,F_,F_,F_,T_,F_,F_,F_,F_,F_,F_,F_,F_] rfl rfl (any_of HT_.out (by kernel_rfl)) (fun _ _ _ h => h) (Or.inl ⟨by rfl,?_⟩) ?_ ?_
           rotate_left;(intro w';go_simp;with_reducible rfl);rotate_left;(simp only [Act.put,ps_,i64_w,i32_w];rfl)
           refine pure_ (i:=12) (N:=some 59) (v:=?_) (a':=?_) #[T_,F_,F_,T_,F_,F_,F_,F_,T_,F_,F_,F_,T_,F_,F_,F_,F_] rfl rfl (any_of HT_.out (by kernel_rfl)) (fun _ _ _ h => h) (Or.inl ⟨by rfl,?_⟩) ?_ ?_
           rotate_left;(intro w';go_simp;with_reducible rfl);rotate_left;(simp only [Act.put,ps_,i64_w,i32_w];rfl)
           refine take_ (i:=4) (N:=some 51) (v:=?_) (a':=?_) #[T_,F_,F_,T_,T_,F_,F_,F_,T_,F_,F_,F_,T_,F_,F_,F_,F_] rfl rfl (take_ofW HT_.out HW_.out (by kernel_rfl)) (fun _ _ _ h => h) (Or.inl ⟨by rfl,?_⟩) hHeld ?_ ?_
           rotate_left
           ·rintro w' ⟨s0,s1,s2,s3,s4,s5,s6,s7,s8,s9,s10⟩
            go_simp
            with_reducible rfl
           rotate_left
           ·simp only [Act.put,ps_,i64_w,i32_w]
            rfl
           refine pure_ (i:=5) (N:=some 52) (v:=?_) (a':=?_) #[T_,F_,F_,T_,T_,T_,F_,F_,T_,F_,F_,F_,T_,F_,F_,F_,F_] rfl rfl (any_of HT_.out (by kernel_rfl)) (fun _ _ _ h => h) (Or.inl ⟨by rfl,?_⟩) ?_ ?_
           rotate_left;(intro w';go_simp;with_reducible rfl);rotate_left;(simp only [Act.put,ps_,i64_w,i32_w];rfl)
           refine take_ (i:=9) (N:=some 56) (v:=?_) (a':=?_) #[T_,F_,F_,T_,T_,T_,F_,F_,T_,T_,F_,F_,T_,F_,F_,F_,F_] rfl rfl (take_ofW HT_.out HW_.out (by kernel_rfl)) (fun _ _ _ h => h) (Or.inl ⟨by rfl,?_⟩) hHeld ?_ ?_
           rotate_left
           ·rintro w' ⟨s0,s1,s2,s3,s4,s5,s6,s7,s8,s9,s10⟩
            go_simp
            with_reducible rfl
           rotate_left
           ·simp only [Act.put,ps_,i64_w,i32_w]
            rfl
           refine take_ (i:=13) (N:=some 60) (v:=?_) (a':=?_) #[T_,F_,F_,T_,T_,T_,F_,F_,T_,T_,F_,F_,T_,T_,F_,F_,F_] rfl rfl (take_ofW HT_.out HW_.out (by kernel_rfl)) (fun _ _ _ h => h) (Or.inl ⟨by rfl,?_⟩) hHeld ?_ ?_
           rotate_left
           ·rintro w' ⟨s0,s1,s2,s3,s4,s5,s6,s7,s8,s9,s10⟩
            go_simp
            with_reducible rfl
           rotate_left
           ·simp only [Act.put,ps_,i64_w,i32_w]
            rfl
           refine join_ (σ:=Value) 2 #[T_,T_,T_,T_,T_,T_,T_,T_,T_,T_,T_,T_,T_,T_,T_,F_,F_] (fun s_ => [(48,s_),(49,.string (strOfNums y240)),(53,.string t243),(57,.string t244),(61,.string t245),(54,.string ((strOfNums y240) ++ t243)),(58,.string (((strOfNums y240) ++ t243) ++ t244))]) (fun s_ w' => (w'.cell? ⟨gb225,0,none⟩ = some (.bool true) ∧ w'.cell? ⟨gb225,1,none⟩ = some (.bool a0_1) ∧ w'.cell? ⟨gb225,2,none⟩ = some (.bool a0_2) ∧ w'.cell? ⟨gb225,3,none⟩ = some (.int .i64 a0_3) ∧ w'.cell? ⟨gb225,4,none⟩ = some (.int .u32 a0_4) ∧ w'.cell? ⟨gb225,5,none⟩ = some (.string a0_5) ∧ w'.cell? ⟨gb225,6,none⟩ = some (.string a0_6) ∧ w'.cell? ⟨gb225,7,none⟩ = some (.string a0_7) ∧ w'.cell? ⟨gb225,8,none⟩ = some (.int .u64 a0_8) ∧ w'.cell? ⟨gb225,9,none⟩ = some (.int .i64 a0_9) ∧ w'.cell? ⟨gb225,10,none⟩ = some (.int .u64 a0_10)) ∧ (Kd.R (Kd.int .u8) 5 w' w.heap.size (fun _ => True) s_ y240) ∧ (w'.heap[gb225]? = some (.cells #[.bool true,.bool a0_1,.bool a0_2,.int .i64 a0_3,.int .u32 a0_4,.string a0_5,.string a0_6,.string a0_7,.int .u64 a0_8,.int .i64 a0_9,.int .u64 a0_10] 28 (0,0))) ∧ (Below w.heap.size w w')) ?_ ?_
           rotate_left
           ·intro hJ1_2_6_10_14
            refine join_ (σ:=Value) 3 #[T_,T_,T_,T_,T_,T_,T_,T_,T_,T_,T_,T_,T_,T_,F_,F_,F_] (fun s_ => [(48,s_),(49,.string (strOfNums y240)),(53,.string t243),(57,.string t244),(54,.string ((strOfNums y240) ++ t243)),(58,.string (((strOfNums y240) ++ t243) ++ t244))]) (fun s_ w' => (w'.cell? ⟨gb225,0,none⟩ = some (.bool true) ∧ w'.cell? ⟨gb225,1,none⟩ = some (.bool a0_1) ∧ w'.cell? ⟨gb225,2,none⟩ = some (.bool a0_2) ∧ w'.cell? ⟨gb225,3,none⟩ = some (.int .i64 a0_3) ∧ w'.cell? ⟨gb225,4,none⟩ = some (.int .u32 a0_4) ∧ w'.cell? ⟨gb225,5,none⟩ = some (.string a0_5) ∧ w'.cell? ⟨gb225,6,none⟩ = some (.string a0_6) ∧ w'.cell? ⟨gb225,7,none⟩ = some (.string a0_7) ∧ w'.cell? ⟨gb225,8,none⟩ = some (.int .u64 a0_8) ∧ w'.cell? ⟨gb225,9,none⟩ = some (.int .i64 a0_9) ∧ w'.cell? ⟨gb225,10,none⟩ = some (.int .u64 a0_10)) ∧ (Kd.R (Kd.int .u8) 5 w' w.heap.size (fun _ => True) s_ y240) ∧ (w'.heap[gb225]? = some (.cells #[.bool true,.bool a0_1,.bool a0_2,.int .i64 a0_3,.int .u32 a0_4,.string a0_5,.string a0_6,.string a0_7,.int .u64 a0_8,.int .i64 a0_9,.int .u64 a0_10] 28 (0,0))) ∧ (Below w.heap.size w w')) ?_ ?_
            rotate_left
            ·intro hJ1_2_6_10
             refine join_ (σ:=Value) 5 #[T_,T_,F_,T_,T_,T_,T_,F_,T_,T_,T_,F_,T_,T_,T_,F_,F_] (fun s_ => [(48,s_),(53,.string t243),(57,.string t244),(61,.string t245)]) (fun s_ w' => (w'.cell? ⟨gb225,0,none⟩ = some (.bool true) ∧ w'.cell? ⟨gb225,1,none⟩ = some (.bool a0_1) ∧ w'.cell? ⟨gb225,2,none⟩ = some (.bool a0_2) ∧ w'.cell? ⟨gb225,3,none⟩ = some (.int .i64 a0_3) ∧ w'.cell? ⟨gb225,4,none⟩ = some (.int .u32 a0_4) ∧ w'.cell? ⟨gb225,5,none⟩ = some (.string a0_5) ∧ w'.cell? ⟨gb225,6,none⟩ = some (.string a0_6) ∧ w'.cell? ⟨gb225,7,none⟩ = some (.string a0_7) ∧ w'.cell? ⟨gb225,8,none⟩ = some (.int .u64 a0_8) ∧ w'.cell? ⟨gb225,9,none⟩ = some (.int .i64 a0_9) ∧ w'.cell? ⟨gb225,10,none⟩ = some (.int .u64 a0_10)) ∧ (Kd.R (Kd.int .u8) 5 w' w.heap.size (fun _ => True) s_ y240) ∧ (w'.heap[gb225]? = some (.cells #[.bool true,.bool a0_1,.bool a0_2,.int .i64 a0_3,.int .u32 a0_4,.string a0_5,.string a0_6,.string a0_7,.int .u64 a0_8,.int .i64 a0_9,.int .u64 a0_10] 28 (0,0))) ∧ (Below w.heap.size w w')) ?_ ?_
             rotate_left
             ·intro hJ1_6_10_14
              refine join_ (σ:=Value) 5 #[T_,T_,T_,T_,T_,T_,T_,T_,T_,T_,F_,F_,T_,T_,F_,F_,F_] (fun s_ => [(48,s_),(49,.string (strOfNums y240)),(53,.string t243),(54,.string ((strOfNums y240) ++ t243))]) (fun s_ w' => (w'.cell? ⟨gb225,0,none⟩ = some (.bool true) ∧ w'.cell? ⟨gb225,1,none⟩ = some (.bool a0_1) ∧ w'.cell? ⟨gb225,2,none⟩ = some (.bool a0_2) ∧ w'.cell? ⟨gb225,3,none⟩ = some (.int .i64 a0_3) ∧ w'.cell? ⟨gb225,4,none⟩ = some (.int .u32 a0_4) ∧ w'.cell? ⟨gb225,5,none⟩ = some (.string a0_5) ∧ w'.cell? ⟨gb225,6,none⟩ = some (.string a0_6) ∧ w'.cell? ⟨gb225,7,none⟩ = some (.string a0_7) ∧ w'.cell? ⟨gb225,8,none⟩ = some (.int .u64 a0_8) ∧ w'.cell? ⟨gb225,9,none⟩ = some (.int .i64 a0_9) ∧ w'.cell? ⟨gb225,10,none⟩ = some (.int .u64 a0_10)) ∧ (Kd.R (Kd.int .u8) 5 w' w.heap.size (fun _ => True) s_ y240) ∧ (w'.heap[gb225]? = some (.cells #[.bool true,.bool a0_1,.bool a0_2,.int .i64 a0_3,.int .u32 a0_4,.string a0_5,.string a0_6,.string a0_7,.int .u64 a0_8,.int .i64 a0_9,.int .u64 a0_10] 28 (0,0))) ∧ (Below w.heap.size w w')) ?_ ?_
              rotate_left
              ·intro hJ1_2_6
               refine join_ (σ:=Value) 6 #[T_,T_,F_,T_,T_,T_,T_,F_,T_,T_,T_,F_,T_,T_,F_,F_,F_] (fun s_ => [(48,s_),(53,.string t243),(57,.string t244)]) (fun s_ w' => (w'.cell? ⟨gb225,0,none⟩ = some (.bool true) ∧ w'.cell? ⟨gb225,1,none⟩ = some (.bool a0_1) ∧ w'.cell? ⟨gb225,2,none⟩ = some (.bool a0_2) ∧ w'.cell? ⟨gb225,3,none⟩ = some (.int .i64 a0_3) ∧ w'.cell? ⟨gb225,4,none⟩ = some (.int .u32 a0_4) ∧ w'.cell? ⟨gb225,5,none⟩ = some (.string a0_5) ∧ w'.cell? ⟨gb225,6,none⟩ = some (.string a0_6) ∧ w'.cell? ⟨gb225,7,none⟩ = some (.string a0_7) ∧ w'.cell? ⟨gb225,8,none⟩ = some (.int .u64 a0_8) ∧ w'.cell? ⟨gb225,9,none⟩ = some (.int .i64 a0_9) ∧ w'.cell? ⟨gb225,10,none⟩ = some (.int .u64 a0_10)) ∧ (Kd.R (Kd.int .u8) 5 w' w.heap.size (fun _ => True) s_ y240) ∧ (w'.heap[gb225]? = some (.cells #[.bool true,.bool a0_1,.bool a0_2,.int .i64 a0_3,.int .u32 a0_4,.string a0_5,.string a0_6,.string a0_7,.int .u64 a0_8,.int .i64 a0_9,.int .u64 a0_10] 28 (0,0))) ∧ (Below w.heap.size w w')) ?_ ?_
               rotate_left
               ·intro hJ1_6_10
                refine join_ (σ:=Unit) 6 #[T_,F_,F_,T_,T_,T_,T_,F_,T_,T_,T_,F_,T_,T_,T_,F_,F_] (fun s_ => [(53,.string t243),(57,.string t244),(61,.string t245)]) (fun s_ w' => (w'.cell? ⟨gb225,0,none⟩ = some (.bool true) ∧ w'.cell? ⟨gb225,1,none⟩ = some (.bool a0_1) ∧ w'.cell? ⟨gb225,2,none⟩ = some (.bool a0_2) ∧ w'.cell? ⟨gb225,3,none⟩ = some (.int .i64 a0_3) ∧ w'.cell? ⟨gb225,4,none⟩ = some (.int .u32 a0_4) ∧ w'.cell? ⟨gb225,5,none⟩ = some (.string a0_5) ∧ w'.cell? ⟨gb225,6,none⟩ = some (.string a0_6) ∧ w'.cell? ⟨gb225,7,none⟩ = some (.string a0_7) ∧ w'.cell? ⟨gb225,8,none⟩ = some (.int .u64 a0_8) ∧ w'.cell? ⟨gb225,9,none⟩ = some (.int .i64 a0_9) ∧ w'.cell? ⟨gb225,10,none⟩ = some (.int .u64 a0_10)) ∧ (w'.heap[gb225]? = some (.cells #[.bool true,.bool a0_1,.bool a0_2,.int .i64 a0_3,.int .u32 a0_4,.string a0_5,.string a0_6,.string a0_7,.int .u64 a0_8,.int .i64 a0_9,.int .u64 a0_10] 28 (0,0))) ∧ (Below w.heap.size w w')) ?_ ?_
                rotate_left
                ·intro hJ6_10_14
                 refine join_ (σ:=Value) 7 #[T_,T_,T_,T_,T_,T_,F_,F_,T_,T_,F_,F_,T_,T_,F_,F_,F_] (fun s_ => [(48,s_),(49,.string (strOfNums y240))]) (fun s_ w' => (w'.cell? ⟨gb225,0,none⟩ = some (.bool true) ∧ w'.cell? ⟨gb225,1,none⟩ = some (.bool a0_1) ∧ w'.cell? ⟨gb225,2,none⟩ = some (.bool a0_2) ∧ w'.cell? ⟨gb225,3,none⟩ = some (.int .i64 a0_3) ∧ w'.cell? ⟨gb225,4,none⟩ = some (.int .u32 a0_4) ∧ w'.cell? ⟨gb225,5,none⟩ = some (.string a0_5) ∧ w'.cell? ⟨gb225,6,none⟩ = some (.string a0_6) ∧ w'.cell? ⟨gb225,7,none⟩ = some (.string a0_7) ∧ w'.cell? ⟨gb225,8,none⟩ = some (.int .u64 a0_8) ∧ w'.cell? ⟨gb225,9,none⟩ = some (.int .i64 a0_9) ∧ w'.cell? ⟨gb225,10,none⟩ = some (.int .u64 a0_10)) ∧ (Kd.R (Kd.int .u8) 5 w' w.heap.size (fun _ => True) s_ y240) ∧ (w'.heap[gb225]? = some (.cells #[.bool true,.bool a0_1,.bool a0_2,.int .i64 a0_3,.int .u32 a0_4,.string a0_5,.string a0_6,.string a0_7,.int .u64 a0_8,.int .i64 a0_9,.int .u64 a0_10] 28 (0,0))) ∧ (Below w.heap.size w w')) ?_ ?_
                 rotate_left
                 ·intro hJ1_2
                  refine join_ (σ:=Value) 7 #[T_,T_,F_,T_,T_,T_,T_,F_,T_,T_,F_,F_,T_,T_,F_,F_,F_] (fun s_ => [(48,s_),(53,.string t243)]) (fun s_ w' => (w'.cell? ⟨gb225,0,none⟩ = some (.bool true) ∧ w'.cell? ⟨gb225,1,none⟩ = some (.bool a0_1) ∧ w'.cell? ⟨gb225,2,none⟩ = some (.bool a0_2) ∧ w'.cell? ⟨gb225,3,none⟩ = some (.int .i64 a0_3) ∧ w'.cell? ⟨gb225,4,none⟩ = some (.int .u32 a0_4) ∧ w'.cell? ⟨gb225,5,none⟩ = some (.string a0_5) ∧ w'.cell? ⟨gb225,6,none⟩ = some (.string a0_6) ∧ w'.cell? ⟨gb225,7,none⟩ = some (.string a0_7) ∧ w'.cell? ⟨gb225,8,none⟩ = some (.int .u64 a0_8) ∧ w'.cell? ⟨gb225,9,none⟩ = some (.int .i64 a0_9) ∧ w'.cell? ⟨gb225,10,none⟩ = some (.int .u64 a0_10)) ∧ (Kd.R (Kd.int .u8) 5 w' w.heap.size (fun _ => True) s_ y240) ∧ (w'.heap[gb225]? = some (.cells #[.bool true,.bool a0_1,.bool a0_2,.int .i64 a0_3,.int .u32 a0_4,.string a0_5,.string a0_6,.string a0_7,.int .u64 a0_8,.int .i64 a0_9,.int .u64 a0_10] 28 (0,0))) ∧ (Below w.heap.size w w')) ?_ ?_
                  rotate_left
                  ·intro hJ1_6
                   refine join_ (σ:=Unit) 7 #[T_,F_,F_,T_,T_,T_,T_,F_,T_,T_,T_,F_,T_,T_,F_,F_,F_] (fun s_ => [(53,.string t243),(57,.string t244)]) (fun s_ w' => (w'.cell? ⟨gb225,0,none⟩ = some (.bool true) ∧ w'.cell? ⟨gb225,1,none⟩ = some (.bool a0_1) ∧ w'.cell? ⟨gb225,2,none⟩ = some (.bool a0_2) ∧ w'.cell? ⟨gb225,3,none⟩ = some (.int .i64 a0_3) ∧ w'.cell? ⟨gb225,4,none⟩ = some (.int .u32 a0_4) ∧ w'.cell? ⟨gb225,5,none⟩ = some (.string a0_5) ∧ w'.cell? ⟨gb225,6,none⟩ = some (.string a0_6) ∧ w'.cell? ⟨gb225,7,none⟩ = some (.string a0_7) ∧ w'.cell? ⟨gb225,8,none⟩ = some (.int .u64 a0_8) ∧ w'.cell? ⟨gb225,9,none⟩ = some (.int .i64 a0_9) ∧ w'.cell? ⟨gb225,10,none⟩ = some (.int .u64 a0_10)) ∧ (w'.heap[gb225]? = some (.cells #[.bool true,.bool a0_1,.bool a0_2,.int .i64 a0_3,.int .u32 a0_4,.string a0_5,.string a0_6,.string a0_7,.int .u64 a0_8,.int .i64 a0_9,.int .u64 a0_10] 28 (0,0))) ∧ (Below w.heap.size w w')) ?_ ?_
                   rotate_left
                   ·intro hJ6_10
                    refine join_ (σ:=Value) 8 #[T_,T_,F_,T_,T_,T_,F_,F_,T_,T_,F_,F_,T_,T_,F_,F_,F_] (fun s_ => [(48,s_)]) (fun s_ w' => (w'.cell? ⟨gb225,0,none⟩ = some (.bool true) ∧ w'.cell? ⟨gb225,1,none⟩ = some (.bool a0_1) ∧ w'.cell? ⟨gb225,2,none⟩ = some (.bool a0_2) ∧ w'.cell? ⟨gb225,3,none⟩ = some (.int .i64 a0_3) ∧ w'.cell? ⟨gb225,4,none⟩ = some (.int .u32 a0_4) ∧ w'.cell? ⟨gb225,5,none⟩ = some (.string a0_5) ∧ w'.cell? ⟨gb225,6,none⟩ = some (.string a0_6) ∧ w'.cell? ⟨gb225,7,none⟩ = some (.string a0_7) ∧ w'.cell? ⟨gb225,8,none⟩ = some (.int .u64 a0_8) ∧ w'.cell? ⟨gb225,9,none⟩ = some (.int .i64 a0_9) ∧ w'.cell? ⟨gb225,10,none⟩ = some (.int .u64 a0_10)) ∧ (Kd.R (Kd.int .u8) 5 w' w.heap.size (fun _ => True) s_ y240) ∧ (w'.heap[gb225]? = some (.cells #[.bool true,.bool a0_1,.bool a0_2,.int .i64 a0_3,.int .u32 a0_4,.string a0_5,.string a0_6,.string a0_7,.int .u64 a0_8,.int .i64 a0_9,.int .u64 a0_10] 28 (0,0))) ∧ (Below w.heap.size w w')) ?_ ?_
                    rotate_left
                    ·intro hJ1
                     refine join_ (σ:=Unit) 8 #[T_,F_,F_,T_,T_,T_,T_,F_,T_,T_,F_,F_,T_,T_,F_,F_,F_] (fun s_ => [(53,.string t243)]) (fun s_ w' => (w'.cell? ⟨gb225,0,none⟩ = some (.bool true) ∧ w'.cell? ⟨gb225,1,none⟩ = some (.bool a0_1) ∧ w'.cell? ⟨gb225,2,none⟩ = some (.bool a0_2) ∧ w'.cell? ⟨gb225,3,none⟩ = some (.int .i64 a0_3) ∧ w'.cell? ⟨gb225,4,none⟩ = some (.int .u32 a0_4) ∧ w'.cell? ⟨gb225,5,none⟩ = some (.string a0_5) ∧ w'.cell? ⟨gb225,6,none⟩ = some (.string a0_6) ∧ w'.cell? ⟨gb225,7,none⟩ = some (.string a0_7) ∧ w'.cell? ⟨gb225,8,none⟩ = some (.int .u64 a0_8) ∧ w'.cell? ⟨gb225,9,none⟩ = some (.int .i64 a0_9) ∧ w'.cell? ⟨gb225,10,none⟩ = some (.int .u64 a0_10)) ∧ (w'.heap[gb225]? = some (.cells #[.bool true,.bool a0_1,.bool a0_2,.int .i64 a0_3,.int .u32 a0_4,.string a0_5,.string a0_6,.string a0_7,.int .u64 a0_8,.int .i64 a0_9,.int .u64 a0_10] 28 (0,0))) ∧ (Below w.heap.size w w')) ?_ ?_
                     rotate_left
                     ·intro hJ6
                      refine two_ (i:=1) (j:=6) (Ni:=some 48) (Nj:=some 53) #[T_,T_,F_,T_,T_,T_,F_,F_,T_,T_,F_,F_,T_,T_,F_,F_,F_] #[T_,F_,F_,T_,T_,T_,T_,F_,T_,T_,F_,F_,T_,T_,F_,F_,F_] rfl rfl rfl rfl (two_of HT_.out (by kernel_rfl)) (by decide) (by decide) (fun K hK => ?_) (fun K hK => ?_)
                      ·skip
                       refine Kd.R_lit_step (Kd.int .u8) _ 5 ?hg (N:=48) ?hd (xs:=([(((((wrap64 (a0_9 - 1)) % 256) + 192) % 256) + ((wrap64 (16 * a0_3)) % 256)) % 256] : List Int)) (inner:=[.int .u8 ((((((wrap64 (a0_9 - 1)) % 256) + 192) % 256) + ((wrap64 (16 * a0_3)) % 256)) % 256)]) (ok:=fun _ => True) (okp:=fun _ => True) ?hr ?hp (fun _ hk => hk) trivial (Below.refl _ _) (Nat.le_refl _) (by simp) ?_;(case hd => rfl);(case hg => rfl);(case hr => first|(go_simp;done)|(go_simp;rfl));(case hp => exact (Reps.one (show Kd.M (Kd.int .u8) _ _ _ ((((((wrap64 (a0_9 - 1)) % 256) + 192) % 256) + ((wrap64 (16 * a0_3)) % 256)) % 256) [.int .u8 ((((((wrap64 (a0_9 - 1)) % 256) + 192) % 256) + ((wrap64 (16 * a0_3)) % 256)) % 256)] from rfl) (Reps.none _ _)))
                       intro v241 w26 ho27 hb hg_ hnew_
                       clear hg_ hnew_
                       (first|rw [← Ny240.out] at ho27|(simp only [Int.reduceToNat] at ho27;rw [← Ny240.out] at ho27))
                       have n0_:=am_ (Kd.R_lower ho27 (below_size (by repeat (first|(with_reducible first|exact HB.out|apply ba_|apply pn_|apply pd_|refine bs_ ?_ GE225.out)|exact HB.out))))
                       have n1_:=am_ (blk_below (g:=gb225) (o:=.cells #[.bool true,.bool a0_1,.bool a0_2,.int .i64 a0_3,.int .u32 a0_4,.string a0_5,.string a0_6,.string a0_7,.int .u64 a0_8,.int .i64 a0_9,.int .u64 a0_10] 28 (0,0)) (by (with_reducible repeat (first|refine kn_ ?_ _|refine kd_ ?_|refine ka_ ?_ _));exact BK225.out) hb)
                       have n2_:=am_ (below_step (by repeat (first|(with_reducible first|exact HB.out|apply ba_|apply pn_|apply pd_|refine bs_ ?_ GE225.out)|exact HB.out)) hb)
                       clear BK225
                       clear HB
                       have HO242:=n0_
                       have BK225:=n1_
                       have HB:=n2_
                       clear n0_ n1_ n2_
                       clear hb ho27
                       refine hK.out _ _ ⟨(kc_ BK225.out 0).trans rfl,(kc_ BK225.out 1).trans rfl,(kc_ BK225.out 2).trans rfl,(kc_ BK225.out 3).trans rfl,(kc_ BK225.out 4).trans rfl,(kc_ BK225.out 5).trans rfl,(kc_ BK225.out 6).trans rfl,(kc_ BK225.out 7).trans rfl,(kc_ BK225.out 8).trans rfl,(kc_ BK225.out 9).trans rfl,(kc_ BK225.out 10).trans rfl⟩ (fun hHeld => ?_)
                       clear hK K
                       refine norm_ (a':=?_) ?_ ?_
                       rotate_left
                       ·show Act.put _ (some 48) _ = _
                        simp only [Act.put,ps_,i64_w,i32_w]
                        rfl
                       exact norm_ (by first|(simp only [putAll,Act.put,ps_];done)|(simp only [putAll,Act.put,ps_];rfl)) (hJ1 (v241) _ ⟨hHeld,(by (with_reducible repeat (first|apply ra_|apply rn_|apply rd_));exact HO242.out),(by (with_reducible repeat (first|refine kn_ ?_ _|refine kd_ ?_|refine ka_ ?_ _));exact BK225.out),(by repeat (first|(with_reducible first|exact HB.out|apply ba_|apply pn_|apply pd_|refine bs_ ?_ GE225.out)|exact HB.out))⟩)
                      ·skip
                       refine goes_ Tryd.func29 (by kernel_rfl) rfl #[.int .u64 (IntKind.u64.wrap (a0_4)),.int .i64 4] (by rfl) rfl rfl (by (try simp only [List.map_toArray,List.map_cons,List.map_nil]);first|done|rfl|(simp only [List.length_drop,List.length_take];rfl)) ?_
                       with_reducible refine (dominoref01_Fixed.calls k (IntKind.u64.wrap (a0_4)) 4 t243 _ A6.out).mono ?_
                       rintro e w26 ⟨rfl,hb⟩
                       refine ⟨_,rfl,?_⟩
                       have n0_:=am_ (blk_below (g:=gb225) (o:=.cells #[.bool true,.bool a0_1,.bool a0_2,.int .i64 a0_3,.int .u32 a0_4,.string a0_5,.string a0_6,.string a0_7,.int .u64 a0_8,.int .i64 a0_9,.int .u64 a0_10] 28 (0,0)) (by (with_reducible repeat (first|refine kn_ ?_ _|refine kd_ ?_|refine ka_ ?_ _));exact BK225.out) hb)
                       have n1_:=am_ (below_step (by repeat (first|(with_reducible first|exact HB.out|apply ba_|apply pn_|apply pd_|refine bs_ ?_ GE225.out)|exact HB.out)) hb)
                       clear BK225
                       clear HB
                       have BK225:=n0_
                       have HB:=n1_
                       clear n0_ n1_
                       (try clear hb)
                       (try clear hb2)
                       (try clear hk)
                       (try clear hi)
                       refine hK.out _ _ ⟨(kc_ BK225.out 0).trans rfl,(kc_ BK225.out 1).trans rfl,(kc_ BK225.out 2).trans rfl,(kc_ BK225.out 3).trans rfl,(kc_ BK225.out 4).trans rfl,(kc_ BK225.out 5).trans rfl,(kc_ BK225.out 6).trans rfl,(kc_ BK225.out 7).trans rfl,(kc_ BK225.out 8).trans rfl,(kc_ BK225.out 9).trans rfl,(kc_ BK225.out 10).trans rfl⟩ (fun hHeld => ?_)
                       clear hK K
                       refine norm_ (a':=?_) ?_ ?_
                       rotate_left
                       ·show Act.put _ (some 53) _ = _
                        simp only [Act.put,ps_,i64_w,i32_w]
                        rfl
                       exact norm_ (by first|(simp only [putAll,Act.put,ps_];done)|(simp only [putAll,Act.put,ps_];rfl)) (hJ6 () _ ⟨hHeld,(by (with_reducible repeat (first|refine kn_ ?_ _|refine kd_ ?_|refine ka_ ?_ _));exact BK225.out),(by repeat (first|(with_reducible first|exact HB.out|apply ba_|apply pn_|apply pd_|refine bs_ ?_ GE225.out)|exact HB.out))⟩)
                     ·skip
                      rintro _ w27 ⟨hS_,h0_,h1_⟩
                      have n0_ : Aside0 (w27.heap[gb225]? = some (.cells #[.bool true,.bool a0_1,.bool a0_2,.int .i64 a0_3,.int .u32 a0_4,.string a0_5,.string a0_6,.string a0_7,.int .u64 a0_8,.int .i64 a0_9,.int .u64 a0_10] 28 (0,0))):=⟨h0_⟩
                      have n1_ : Aside0 (Below w.heap.size w w27):=⟨h1_⟩
                      clear BK225
                      clear HB
                      clear h0_ h1_
                      have BK225:=n0_
                      have HB:=n1_
                      clear n0_ n1_
                      have hHeld : w27.cell? ⟨gb225,0,none⟩ = some (.bool true) ∧ w27.cell? ⟨gb225,1,none⟩ = some (.bool a0_1) ∧ w27.cell? ⟨gb225,2,none⟩ = some (.bool a0_2) ∧ w27.cell? ⟨gb225,3,none⟩ = some (.int .i64 a0_3) ∧ w27.cell? ⟨gb225,4,none⟩ = some (.int .u32 a0_4) ∧ w27.cell? ⟨gb225,5,none⟩ = some (.string a0_5) ∧ w27.cell? ⟨gb225,6,none⟩ = some (.string a0_6) ∧ w27.cell? ⟨gb225,7,none⟩ = some (.string a0_7) ∧ w27.cell? ⟨gb225,8,none⟩ = some (.int .u64 a0_8) ∧ w27.cell? ⟨gb225,9,none⟩ = some (.int .i64 a0_9) ∧ w27.cell? ⟨gb225,10,none⟩ = some (.int .u64 a0_10):=hS_
                      refine norm_ (a':=?_) ?_ ?_
                      rotate_left
                      ·simp only [putAll,Act.put,ps_]
                       rfl
                      refine two_ (i:=1) (j:=10) (Ni:=some 48) (Nj:=some 57) #[T_,T_,F_,T_,T_,T_,T_,F_,T_,T_,F_,F_,T_,T_,F_,F_,F_] #[T_,F_,F_,T_,T_,T_,T_,F_,T_,T_,T_,F_,T_,T_,F_,F_,F_] rfl rfl rfl rfl (two_of HT_.out (by kernel_rfl)) (by decide) (by decide) (fun K hK => ?_) (fun K hK => ?_)
                      ·skip
                       refine Kd.R_lit_step (Kd.int .u8) _ 5 ?hg (N:=48) ?hd (xs:=([(((((wrap64 (a0_9 - 1)) % 256) + 192) % 256) + ((wrap64 (16 * a0_3)) % 256)) % 256] : List Int)) (inner:=[.int .u8 ((((((wrap64 (a0_9 - 1)) % 256) + 192) % 256) + ((wrap64 (16 * a0_3)) % 256)) % 256)]) (ok:=fun _ => True) (okp:=fun _ => True) ?hr ?hp (fun _ hk => hk) trivial (Below.refl _ _) (Nat.le_refl _) (by simp) ?_;(case hd => rfl);(case hg => rfl);(case hr => first|(go_simp;done)|(go_simp;rfl));(case hp => exact (Reps.one (show Kd.M (Kd.int .u8) _ _ _ ((((((wrap64 (a0_9 - 1)) % 256) + 192) % 256) + ((wrap64 (16 * a0_3)) % 256)) % 256) [.int .u8 ((((((wrap64 (a0_9 - 1)) % 256) + 192) % 256) + ((wrap64 (16 * a0_3)) % 256)) % 256)] from rfl) (Reps.none _ _)))
                       intro v241 w28 ho29 hb hg_ hnew_
                       clear hg_ hnew_
                       (first|rw [← Ny240.out] at ho29|(simp only [Int.reduceToNat] at ho29;rw [← Ny240.out] at ho29))
                       have n0_:=am_ (Kd.R_lower ho29 (below_size (by repeat (first|(with_reducible first|exact HB.out|apply ba_|apply pn_|apply pd_|refine bs_ ?_ GE225.out)|exact HB.out))))
                       have n1_:=am_ (blk_below (g:=gb225) (o:=.cells #[.bool true,.bool a0_1,.bool a0_2,.int .i64 a0_3,.int .u32 a0_4,.string a0_5,.string a0_6,.string a0_7,.int .u64 a0_8,.int .i64 a0_9,.int .u64 a0_10] 28 (0,0)) (by (with_reducible repeat (first|refine kn_ ?_ _|refine kd_ ?_|refine ka_ ?_ _));exact BK225.out) hb)
                       have n2_:=am_ (below_step (by repeat (first|(with_reducible first|exact HB.out|apply ba_|apply pn_|apply pd_|refine bs_ ?_ GE225.out)|exact HB.out)) hb)
                       clear BK225
                       clear HB
                       have HO242:=n0_
                       have BK225:=n1_
                       have HB:=n2_
                       clear n0_ n1_ n2_
                       clear hb ho29
                       refine hK.out _ _ ⟨(kc_ BK225.out 0).trans rfl,(kc_ BK225.out 1).trans rfl,(kc_ BK225.out 2).trans rfl,(kc_ BK225.out 3).trans rfl,(kc_ BK225.out 4).trans rfl,(kc_ BK225.out 5).trans rfl,(kc_ BK225.out 6).trans rfl,(kc_ BK225.out 7).trans rfl,(kc_ BK225.out 8).trans rfl,(kc_ BK225.out 9).trans rfl,(kc_ BK225.out 10).trans rfl⟩ (fun hHeld => ?_)
                       clear hK K
                       refine norm_ (a':=?_) ?_ ?_
                       rotate_left
                       ·show Act.put _ (some 48) _ = _
                        simp only [Act.put,ps_,i64_w,i32_w]
                        rfl
                       exact norm_ (by first|(simp only [putAll,Act.put,ps_];done)|(simp only [putAll,Act.put,ps_];rfl)) (hJ1_6 (v241) _ ⟨hHeld,(by (with_reducible repeat (first|apply ra_|apply rn_|apply rd_));exact HO242.out),(by (with_reducible repeat (first|refine kn_ ?_ _|refine kd_ ?_|refine ka_ ?_ _));exact BK225.out),(by repeat (first|(with_reducible first|exact HB.out|apply ba_|apply pn_|apply pd_|refine bs_ ?_ GE225.out)|exact HB.out))⟩)
                      ·skip
                       refine goes_ Tryd.func30 (by kernel_rfl) rfl #[.string a0_5] (by rfl) rfl rfl (by (try simp only [List.map_toArray,List.map_cons,List.map_nil]);first|done|rfl|(simp only [List.length_drop,List.length_take];rfl)) ?_
                       with_reducible refine (dominoref04_short.calls a0_5 t244 _ A8.out).mono ?_
                       rintro e w28 ⟨rfl,hb⟩
                       refine ⟨_,rfl,?_⟩
                       have n0_:=am_ (blk_below (g:=gb225) (o:=.cells #[.bool true,.bool a0_1,.bool a0_2,.int .i64 a0_3,.int .u32 a0_4,.string a0_5,.string a0_6,.string a0_7,.int .u64 a0_8,.int .i64 a0_9,.int .u64 a0_10] 28 (0,0)) (by (with_reducible repeat (first|refine kn_ ?_ _|refine kd_ ?_|refine ka_ ?_ _));exact BK225.out) hb)
                       have n1_:=am_ (below_step (by repeat (first|(with_reducible first|exact HB.out|apply ba_|apply pn_|apply pd_|refine bs_ ?_ GE225.out)|exact HB.out)) hb)
                       clear BK225
                       clear HB
                       have BK225:=n0_
                       have HB:=n1_
                       clear n0_ n1_
                       (try clear hb)
                       (try clear hb2)
                       (try clear hk)
                       (try clear hi)
                       refine hK.out _ _ ⟨(kc_ BK225.out 0).trans rfl,(kc_ BK225.out 1).trans rfl,(kc_ BK225.out 2).trans rfl,(kc_ BK225.out 3).trans rfl,(kc_ BK225.out 4).trans rfl,(kc_ BK225.out 5).trans rfl,(kc_ BK225.out 6).trans rfl,(kc_ BK225.out 7).trans rfl,(kc_ BK225.out 8).trans rfl,(kc_ BK225.out 9).trans rfl,(kc_ BK225.out 10).trans rfl⟩ (fun hHeld => ?_)
                       clear hK K
                       refine norm_ (a':=?_) ?_ ?_
                       rotate_left
                       ·show Act.put _ (some 57) _ = _
                        simp only [Act.put,ps_,i64_w,i32_w]
                        rfl
                       exact norm_ (by first|(simp only [putAll,Act.put,ps_];done)|(simp only [putAll,Act.put,ps_];rfl)) (hJ6_10 () _ ⟨hHeld,(by (with_reducible repeat (first|refine kn_ ?_ _|refine kd_ ?_|refine ka_ ?_ _));exact BK225.out),(by repeat (first|(with_reducible first|exact HB.out|apply ba_|apply pn_|apply pd_|refine bs_ ?_ GE225.out)|exact HB.out))⟩)
                    ·skip
                     rintro v241 w28 ⟨hS_,h0_,h1_,h2_⟩
                     have n0_ : Aside0 (Kd.R (Kd.int .u8) 5 w28 w.heap.size (fun _ => True) v241 y240):=⟨h0_⟩
                     have n1_ : Aside0 (w28.heap[gb225]? = some (.cells #[.bool true,.bool a0_1,.bool a0_2,.int .i64 a0_3,.int .u32 a0_4,.string a0_5,.string a0_6,.string a0_7,.int .u64 a0_8,.int .i64 a0_9,.int .u64 a0_10] 28 (0,0))):=⟨h1_⟩
                     have n2_ : Aside0 (Below w.heap.size w w28):=⟨h2_⟩
                     clear BK225
                     clear HB
                     clear h0_ h1_ h2_
                     have HO242:=n0_
                     have BK225:=n1_
                     have HB:=n2_
                     clear n0_ n1_ n2_
                     have hHeld : w28.cell? ⟨gb225,0,none⟩ = some (.bool true) ∧ w28.cell? ⟨gb225,1,none⟩ = some (.bool a0_1) ∧ w28.cell? ⟨gb225,2,none⟩ = some (.bool a0_2) ∧ w28.cell? ⟨gb225,3,none⟩ = some (.int .i64 a0_3) ∧ w28.cell? ⟨gb225,4,none⟩ = some (.int .u32 a0_4) ∧ w28.cell? ⟨gb225,5,none⟩ = some (.string a0_5) ∧ w28.cell? ⟨gb225,6,none⟩ = some (.string a0_6) ∧ w28.cell? ⟨gb225,7,none⟩ = some (.string a0_7) ∧ w28.cell? ⟨gb225,8,none⟩ = some (.int .u64 a0_8) ∧ w28.cell? ⟨gb225,9,none⟩ = some (.int .i64 a0_9) ∧ w28.cell? ⟨gb225,10,none⟩ = some (.int .u64 a0_10):=hS_
                     refine norm_ (a':=?_) ?_ ?_
                     rotate_left
                     ·simp only [putAll,Act.put,ps_]
                      rfl
                     refine two_ (i:=2) (j:=6) (Ni:=some 49) (Nj:=some 53) #[T_,T_,T_,T_,T_,T_,F_,F_,T_,T_,F_,F_,T_,T_,F_,F_,F_] #[T_,T_,F_,T_,T_,T_,T_,F_,T_,T_,F_,F_,T_,T_,F_,F_,F_] rfl rfl rfl rfl (two_of HT_.out (by kernel_rfl)) (by decide) (by decide) (fun K hK => ?_) (fun K hK => ?_)
                     ·skip
                      have hcv29:=own_string (P:=Tryd.prog) Tryd.underlying44 Tryd.underlying5 Tryd.underlying9 (Kd.own_of_R HO242.out)
                      refine value_ (w1:=?_) (v:=?_) (by rfl) rfl ?_ ?_
                      rotate_left 2
                      ·go_simp
                       constructor
                       ·rfl
                       ·rfl
                      clear hcv29
                      refine hK.out _ _ ⟨(kc_ BK225.out 0).trans rfl,(kc_ BK225.out 1).trans rfl,(kc_ BK225.out 2).trans rfl,(kc_ BK225.out 3).trans rfl,(kc_ BK225.out 4).trans rfl,(kc_ BK225.out 5).trans rfl,(kc_ BK225.out 6).trans rfl,(kc_ BK225.out 7).trans rfl,(kc_ BK225.out 8).trans rfl,(kc_ BK225.out 9).trans rfl,(kc_ BK225.out 10).trans rfl⟩ (fun hHeld => ?_)
                      clear hK K
                      refine norm_ (a':=?_) ?_ ?_
                      rotate_left
                      ·show Act.put _ (some 49) _ = _
                       simp only [Act.put,ps_,i64_w,i32_w]
                       rfl
                      exact norm_ (by first|(simp only [putAll,Act.put,ps_];done)|(simp only [putAll,Act.put,ps_];rfl)) (hJ1_2 (v241) _ ⟨hHeld,(by (with_reducible repeat (first|apply ra_|apply rn_|apply rd_));exact HO242.out),(by (with_reducible repeat (first|refine kn_ ?_ _|refine kd_ ?_|refine ka_ ?_ _));exact BK225.out),(by repeat (first|(with_reducible first|exact HB.out|apply ba_|apply pn_|apply pd_|refine bs_ ?_ GE225.out)|exact HB.out))⟩)
                     ·skip
                      refine goes_ Tryd.func29 (by kernel_rfl) rfl #[.int .u64 (IntKind.u64.wrap (a0_4)),.int .i64 4] (by rfl) rfl rfl (by (try simp only [List.map_toArray,List.map_cons,List.map_nil]);first|done|rfl|(simp only [List.length_drop,List.length_take];rfl)) ?_
                      with_reducible refine (dominoref01_Fixed.calls k (IntKind.u64.wrap (a0_4)) 4 t243 _ A6.out).mono ?_
                      rintro e w29 ⟨rfl,hb⟩
                      refine ⟨_,rfl,?_⟩
                      have n0_:=am_ (Kd.R_below (by (with_reducible repeat (first|apply ra_|apply rn_|apply rd_));exact HO242.out) hb)
                      have n1_:=am_ (blk_below (g:=gb225) (o:=.cells #[.bool true,.bool a0_1,.bool a0_2,.int .i64 a0_3,.int .u32 a0_4,.string a0_5,.string a0_6,.string a0_7,.int .u64 a0_8,.int .i64 a0_9,.int .u64 a0_10] 28 (0,0)) (by (with_reducible repeat (first|refine kn_ ?_ _|refine kd_ ?_|refine ka_ ?_ _));exact BK225.out) hb)
                      have n2_:=am_ (below_step (by repeat (first|(with_reducible first|exact HB.out|apply ba_|apply pn_|apply pd_|refine bs_ ?_ GE225.out)|exact HB.out)) hb)
                      clear HO242
                      clear BK225
                      clear HB
                      have HO242:=n0_
                      have BK225:=n1_
                      have HB:=n2_
                      clear n0_ n1_ n2_
                      (try clear hb)
                      (try clear hb2)
                      (try clear hk)
                      (try clear hi)
                      refine hK.out _ _ ⟨(kc_ BK225.out 0).trans rfl,(kc_ BK225.out 1).trans rfl,(kc_ BK225.out 2).trans rfl,(kc_ BK225.out 3).trans rfl,(kc_ BK225.out 4).trans rfl,(kc_ BK225.out 5).trans rfl,(kc_ BK225.out 6).trans rfl,(kc_ BK225.out 7).trans rfl,(kc_ BK225.out 8).trans rfl,(kc_ BK225.out 9).trans rfl,(kc_ BK225.out 10).trans rfl⟩ (fun hHeld => ?_)
                      clear hK K
                      refine norm_ (a':=?_) ?_ ?_
                      rotate_left
                      ·show Act.put _ (some 53) _ = _
                       simp only [Act.put,ps_,i64_w,i32_w]
                       rfl
                      exact norm_ (by first|(simp only [putAll,Act.put,ps_];done)|(simp only [putAll,Act.put,ps_];rfl)) (hJ1_6 (v241) _ ⟨hHeld,(by (with_reducible repeat (first|apply ra_|apply rn_|apply rd_));exact HO242.out),(by (with_reducible repeat (first|refine kn_ ?_ _|refine kd_ ?_|refine ka_ ?_ _));exact BK225.out),(by repeat (first|(with_reducible first|exact HB.out|apply ba_|apply pn_|apply pd_|refine bs_ ?_ GE225.out)|exact HB.out))⟩)
                   ·skip
                    rintro _ w28 ⟨hS_,h0_,h1_⟩
                    have n0_ : Aside0 (w28.heap[gb225]? = some (.cells #[.bool true,.bool a0_1,.bool a0_2,.int .i64 a0_3,.int .u32 a0_4,.string a0_5,.string a0_6,.string a0_7,.int .u64 a0_8,.int .i64 a0_9,.int .u64 a0_10] 28 (0,0))):=⟨h0_⟩
                    have n1_ : Aside0 (Below w.heap.size w w28):=⟨h1_⟩
                    clear BK225
                    clear HB
                    clear h0_ h1_
                    have BK225:=n0_
                    have HB:=n1_
                    clear n0_ n1_
                    have hHeld : w28.cell? ⟨gb225,0,none⟩ = some (.bool true) ∧ w28.cell? ⟨gb225,1,none⟩ = some (.bool a0_1) ∧ w28.cell? ⟨gb225,2,none⟩ = some (.bool a0_2) ∧ w28.cell? ⟨gb225,3,none⟩ = some (.int .i64 a0_3) ∧ w28.cell? ⟨gb225,4,none⟩ = some (.int .u32 a0_4) ∧ w28.cell? ⟨gb225,5,none⟩ = some (.string a0_5) ∧ w28.cell? ⟨gb225,6,none⟩ = some (.string a0_6) ∧ w28.cell? ⟨gb225,7,none⟩ = some (.string a0_7) ∧ w28.cell? ⟨gb225,8,none⟩ = some (.int .u64 a0_8) ∧ w28.cell? ⟨gb225,9,none⟩ = some (.int .i64 a0_9) ∧ w28.cell? ⟨gb225,10,none⟩ = some (.int .u64 a0_10):=hS_
                    refine norm_ (a':=?_) ?_ ?_
                    rotate_left
                    ·simp only [putAll,Act.put,ps_]
                     rfl
                    refine two_ (i:=1) (j:=14) (Ni:=some 48) (Nj:=some 61) #[T_,T_,F_,T_,T_,T_,T_,F_,T_,T_,T_,F_,T_,T_,F_,F_,F_] #[T_,F_,F_,T_,T_,T_,T_,F_,T_,T_,T_,F_,T_,T_,T_,F_,F_] rfl rfl rfl rfl (two_of HT_.out (by kernel_rfl)) (by decide) (by decide) (fun K hK => ?_) (fun K hK => ?_)
                    ·skip
                     refine Kd.R_lit_step (Kd.int .u8) _ 5 ?hg (N:=48) ?hd (xs:=([(((((wrap64 (a0_9 - 1)) % 256) + 192) % 256) + ((wrap64 (16 * a0_3)) % 256)) % 256] : List Int)) (inner:=[.int .u8 ((((((wrap64 (a0_9 - 1)) % 256) + 192) % 256) + ((wrap64 (16 * a0_3)) % 256)) % 256)]) (ok:=fun _ => True) (okp:=fun _ => True) ?hr ?hp (fun _ hk => hk) trivial (Below.refl _ _) (Nat.le_refl _) (by simp) ?_;(case hd => rfl);(case hg => rfl);(case hr => first|(go_simp;done)|(go_simp;rfl));(case hp => exact (Reps.one (show Kd.M (Kd.int .u8) _ _ _ ((((((wrap64 (a0_9 - 1)) % 256) + 192) % 256) + ((wrap64 (16 * a0_3)) % 256)) % 256) [.int .u8 ((((((wrap64 (a0_9 - 1)) % 256) + 192) % 256) + ((wrap64 (16 * a0_3)) % 256)) % 256)] from rfl) (Reps.none _ _)))
                     intro v241 w29 ho30 hb hg_ hnew_
                     clear hg_ hnew_
                     (first|rw [← Ny240.out] at ho30|(simp only [Int.reduceToNat] at ho30;rw [← Ny240.out] at ho30))
                     have n0_:=am_ (Kd.R_lower ho30 (below_size (by repeat (first|(with_reducible first|exact HB.out|apply ba_|apply pn_|apply pd_|refine bs_ ?_ GE225.out)|exact HB.out))))
                     have n1_:=am_ (blk_below (g:=gb225) (o:=.cells #[.bool true,.bool a0_1,.bool a0_2,.int .i64 a0_3,.int .u32 a0_4,.string a0_5,.string a0_6,.string a0_7,.int .u64 a0_8,.int .i64 a0_9,.int .u64 a0_10] 28 (0,0)) (by (with_reducible repeat (first|refine kn_ ?_ _|refine kd_ ?_|refine ka_ ?_ _));exact BK225.out) hb)
                     have n2_:=am_ (below_step (by repeat (first|(with_reducible first|exact HB.out|apply ba_|apply pn_|apply pd_|refine bs_ ?_ GE225.out)|exact HB.out)) hb)
                     clear BK225
                     clear HB
                     have HO242:=n0_
                     have BK225:=n1_
                     have HB:=n2_
                     clear n0_ n1_ n2_
                     clear hb ho30
                     refine hK.out _ _ ⟨(kc_ BK225.out 0).trans rfl,(kc_ BK225.out 1).trans rfl,(kc_ BK225.out 2).trans rfl,(kc_ BK225.out 3).trans rfl,(kc_ BK225.out 4).trans rfl,(kc_ BK225.out 5).trans rfl,(kc_ BK225.out 6).trans rfl,(kc_ BK225.out 7).trans rfl,(kc_ BK225.out 8).trans rfl,(kc_ BK225.out 9).trans rfl,(kc_ BK225.out 10).trans rfl⟩ (fun hHeld => ?_)
                     clear hK K
                     refine norm_ (a':=?_) ?_ ?_
                     rotate_left
                     ·show Act.put _ (some 48) _ = _
                      simp only [Act.put,ps_,i64_w,i32_w]
                      rfl
                     exact norm_ (by first|(simp only [putAll,Act.put,ps_];done)|(simp only [putAll,Act.put,ps_];rfl)) (hJ1_6_10 (v241) _ ⟨hHeld,(by (with_reducible repeat (first|apply ra_|apply rn_|apply rd_));exact HO242.out),(by (with_reducible repeat (first|refine kn_ ?_ _|refine kd_ ?_|refine ka_ ?_ _));exact BK225.out),(by repeat (first|(with_reducible first|exact HB.out|apply ba_|apply pn_|apply pd_|refine bs_ ?_ GE225.out)|exact HB.out))⟩)
                    ·skip
                     refine goes_ Tryd.func30 (by kernel_rfl) rfl #[.string a0_6] (by rfl) rfl rfl (by (try simp only [List.map_toArray,List.map_cons,List.map_nil]);first|done|rfl|(simp only [List.length_drop,List.length_take];rfl)) ?_
                     with_reducible refine (dominoref04_short.calls a0_6 t245 _ A10.out).mono ?_
                     rintro e w29 ⟨rfl,hb⟩
                     refine ⟨_,rfl,?_⟩
                     have n0_:=am_ (blk_below (g:=gb225) (o:=.cells #[.bool true,.bool a0_1,.bool a0_2,.int .i64 a0_3,.int .u32 a0_4,.string a0_5,.string a0_6,.string a0_7,.int .u64 a0_8,.int .i64 a0_9,.int .u64 a0_10] 28 (0,0)) (by (with_reducible repeat (first|refine kn_ ?_ _|refine kd_ ?_|refine ka_ ?_ _));exact BK225.out) hb)
                     have n1_:=am_ (below_step (by repeat (first|(with_reducible first|exact HB.out|apply ba_|apply pn_|apply pd_|refine bs_ ?_ GE225.out)|exact HB.out)) hb)
                     clear BK225
                     clear HB
                     have BK225:=n0_
                     have HB:=n1_
                     clear n0_ n1_
                     (try clear hb)
                     (try clear hb2)
                     (try clear hk)
                     (try clear hi)
                     refine hK.out _ _ ⟨(kc_ BK225.out 0).trans rfl,(kc_ BK225.out 1).trans rfl,(kc_ BK225.out 2).trans rfl,(kc_ BK225.out 3).trans rfl,(kc_ BK225.out 4).trans rfl,(kc_ BK225.out 5).trans rfl,(kc_ BK225.out 6).trans rfl,(kc_ BK225.out 7).trans rfl,(kc_ BK225.out 8).trans rfl,(kc_ BK225.out 9).trans rfl,(kc_ BK225.out 10).trans rfl⟩ (fun hHeld => ?_)
                     clear hK K
                     refine norm_ (a':=?_) ?_ ?_
                     rotate_left
                     ·show Act.put _ (some 61) _ = _
                      simp only [Act.put,ps_,i64_w,i32_w]
                      rfl
                     exact norm_ (by first|(simp only [putAll,Act.put,ps_];done)|(simp only [putAll,Act.put,ps_];rfl)) (hJ6_10_14 () _ ⟨hHeld,(by (with_reducible repeat (first|refine kn_ ?_ _|refine kd_ ?_|refine ka_ ?_ _));exact BK225.out),(by repeat (first|(with_reducible first|exact HB.out|apply ba_|apply pn_|apply pd_|refine bs_ ?_ GE225.out)|exact HB.out))⟩)
                  ·skip
                   rintro v241 w29 ⟨hS_,h0_,h1_,h2_⟩
                   have n0_ : Aside0 (Kd.R (Kd.int .u8) 5 w29 w.heap.size (fun _ => True) v241 y240):=⟨h0_⟩
                   have n1_ : Aside0 (w29.heap[gb225]? = some (.cells #[.bool true,.bool a0_1,.bool a0_2,.int .i64 a0_3,.int .u32 a0_4,.string a0_5,.string a0_6,.string a0_7,.int .u64 a0_8,.int .i64 a0_9,.int .u64 a0_10] 28 (0,0))):=⟨h1_⟩
                   have n2_ : Aside0 (Below w.heap.size w w29):=⟨h2_⟩
                   clear BK225
                   clear HB
                   clear h0_ h1_ h2_
                   have HO242:=n0_
                   have BK225:=n1_
                   have HB:=n2_
                   clear n0_ n1_ n2_
                   have hHeld : w29.cell? ⟨gb225,0,none⟩ = some (.bool true) ∧ w29.cell? ⟨gb225,1,none⟩ = some (.bool a0_1) ∧ w29.cell? ⟨gb225,2,none⟩ = some (.bool a0_2) ∧ w29.cell? ⟨gb225,3,none⟩ = some (.int .i64 a0_3) ∧ w29.cell? ⟨gb225,4,none⟩ = some (.int .u32 a0_4) ∧ w29.cell? ⟨gb225,5,none⟩ = some (.string a0_5) ∧ w29.cell? ⟨gb225,6,none⟩ = some (.string a0_6) ∧ w29.cell? ⟨gb225,7,none⟩ = some (.string a0_7) ∧ w29.cell? ⟨gb225,8,none⟩ = some (.int .u64 a0_8) ∧ w29.cell? ⟨gb225,9,none⟩ = some (.int .i64 a0_9) ∧ w29.cell? ⟨gb225,10,none⟩ = some (.int .u64 a0_10):=hS_
                   refine norm_ (a':=?_) ?_ ?_
                   rotate_left
                   ·simp only [putAll,Act.put,ps_]
                    rfl
                   refine two_ (i:=2) (j:=10) (Ni:=some 49) (Nj:=some 57) #[T_,T_,T_,T_,T_,T_,T_,F_,T_,T_,F_,F_,T_,T_,F_,F_,F_] #[T_,T_,F_,T_,T_,T_,T_,F_,T_,T_,T_,F_,T_,T_,F_,F_,F_] rfl rfl rfl rfl (two_of HT_.out (by kernel_rfl)) (by decide) (by decide) (fun K hK => ?_) (fun K hK => ?_)
                   ·skip
                    have hcv30:=own_string (P:=Tryd.prog) Tryd.underlying44 Tryd.underlying5 Tryd.underlying9 (Kd.own_of_R HO242.out)
                    refine value_ (w1:=?_) (v:=?_) (by rfl) rfl ?_ ?_
                    rotate_left 2
                    ·go_simp
                     constructor
                     ·rfl
                     ·rfl
                    clear hcv30
                    refine hK.out _ _ ⟨(kc_ BK225.out 0).trans rfl,(kc_ BK225.out 1).trans rfl,(kc_ BK225.out 2).trans rfl,(kc_ BK225.out 3).trans rfl,(kc_ BK225.out 4).trans rfl,(kc_ BK225.out 5).trans rfl,(kc_ BK225.out 6).trans rfl,(kc_ BK225.out 7).trans rfl,(kc_ BK225.out 8).trans rfl,(kc_ BK225.out 9).trans rfl,(kc_ BK225.out 10).trans rfl⟩ (fun hHeld => ?_)
                    clear hK K
                    refine norm_ (a':=?_) ?_ ?_
                    rotate_left
                    ·show Act.put _ (some 49) _ = _
                     simp only [Act.put,ps_,i64_w,i32_w]
                     rfl
                    refine pure_ (i:=7) (N:=some 54) (v:=?_) (a':=?_) #[T_,T_,T_,T_,T_,T_,T_,T_,T_,T_,F_,F_,T_,T_,F_,F_,F_] rfl rfl (any_of HT_.out (by kernel_rfl)) (fun _ _ _ h => h) (Or.inl ⟨by rfl,?_⟩) ?_ ?_
                    rotate_left;(intro w';go_simp;with_reducible rfl);rotate_left;(simp only [Act.put,ps_,i64_w,i32_w];rfl)
                    exact norm_ (by first|(simp only [putAll,Act.put,ps_];done)|(simp only [putAll,Act.put,ps_];rfl)) (hJ1_2_6 (v241) _ ⟨hHeld,(by (with_reducible repeat (first|apply ra_|apply rn_|apply rd_));exact HO242.out),(by (with_reducible repeat (first|refine kn_ ?_ _|refine kd_ ?_|refine ka_ ?_ _));exact BK225.out),(by repeat (first|(with_reducible first|exact HB.out|apply ba_|apply pn_|apply pd_|refine bs_ ?_ GE225.out)|exact HB.out))⟩)
                   ·skip
                    refine goes_ Tryd.func30 (by kernel_rfl) rfl #[.string a0_5] (by rfl) rfl rfl (by (try simp only [List.map_toArray,List.map_cons,List.map_nil]);first|done|rfl|(simp only [List.length_drop,List.length_take];rfl)) ?_
                    with_reducible refine (dominoref04_short.calls a0_5 t244 _ A8.out).mono ?_
                    rintro e w30 ⟨rfl,hb⟩
                    refine ⟨_,rfl,?_⟩
                    have n0_:=am_ (Kd.R_below (by (with_reducible repeat (first|apply ra_|apply rn_|apply rd_));exact HO242.out) hb)
                    have n1_:=am_ (blk_below (g:=gb225) (o:=.cells #[.bool true,.bool a0_1,.bool a0_2,.int .i64 a0_3,.int .u32 a0_4,.string a0_5,.string a0_6,.string a0_7,.int .u64 a0_8,.int .i64 a0_9,.int .u64 a0_10] 28 (0,0)) (by (with_reducible repeat (first|refine kn_ ?_ _|refine kd_ ?_|refine ka_ ?_ _));exact BK225.out) hb)
                    have n2_:=am_ (below_step (by repeat (first|(with_reducible first|exact HB.out|apply ba_|apply pn_|apply pd_|refine bs_ ?_ GE225.out)|exact HB.out)) hb)
                    clear HO242
                    clear BK225
                    clear HB
                    have HO242:=n0_
                    have BK225:=n1_
                    have HB:=n2_
                    clear n0_ n1_ n2_
                    (try clear hb)
                    (try clear hb2)
                    (try clear hk)
                    (try clear hi)
                    refine hK.out _ _ ⟨(kc_ BK225.out 0).trans rfl,(kc_ BK225.out 1).trans rfl,(kc_ BK225.out 2).trans rfl,(kc_ BK225.out 3).trans rfl,(kc_ BK225.out 4).trans rfl,(kc_ BK225.out 5).trans rfl,(kc_ BK225.out 6).trans rfl,(kc_ BK225.out 7).trans rfl,(kc_ BK225.out 8).trans rfl,(kc_ BK225.out 9).trans rfl,(kc_ BK225.out 10).trans rfl⟩ (fun hHeld => ?_)
                    clear hK K
                    refine norm_ (a':=?_) ?_ ?_
                    rotate_left
                    ·show Act.put _ (some 57) _ = _
                     simp only [Act.put,ps_,i64_w,i32_w]
                     rfl
                    exact norm_ (by first|(simp only [putAll,Act.put,ps_];done)|(simp only [putAll,Act.put,ps_];rfl)) (hJ1_6_10 (v241) _ ⟨hHeld,(by (with_reducible repeat (first|apply ra_|apply rn_|apply rd_));exact HO242.out),(by (with_reducible repeat (first|refine kn_ ?_ _|refine kd_ ?_|refine ka_ ?_ _));exact BK225.out),(by repeat (first|(with_reducible first|exact HB.out|apply ba_|apply pn_|apply pd_|refine bs_ ?_ GE225.out)|exact HB.out))⟩)
                 ·skip
                  rintro v241 w29 ⟨hS_,h0_,h1_,h2_⟩
                  have n0_ : Aside0 (Kd.R (Kd.int .u8) 5 w29 w.heap.size (fun _ => True) v241 y240):=⟨h0_⟩
                  have n1_ : Aside0 (w29.heap[gb225]? = some (.cells #[.bool true,.bool a0_1,.bool a0_2,.int .i64 a0_3,.int .u32 a0_4,.string a0_5,.string a0_6,.string a0_7,.int .u64 a0_8,.int .i64 a0_9,.int .u64 a0_10] 28 (0,0))):=⟨h1_⟩
                  have n2_ : Aside0 (Below w.heap.size w w29):=⟨h2_⟩
                  clear BK225
                  clear HB
                  clear h0_ h1_ h2_
                  have HO242:=n0_
                  have BK225:=n1_
                  have HB:=n2_
                  clear n0_ n1_ n2_
                  have hHeld : w29.cell? ⟨gb225,0,none⟩ = some (.bool true) ∧ w29.cell? ⟨gb225,1,none⟩ = some (.bool a0_1) ∧ w29.cell? ⟨gb225,2,none⟩ = some (.bool a0_2) ∧ w29.cell? ⟨gb225,3,none⟩ = some (.int .i64 a0_3) ∧ w29.cell? ⟨gb225,4,none⟩ = some (.int .u32 a0_4) ∧ w29.cell? ⟨gb225,5,none⟩ = some (.string a0_5) ∧ w29.cell? ⟨gb225,6,none⟩ = some (.string a0_6) ∧ w29.cell? ⟨gb225,7,none⟩ = some (.string a0_7) ∧ w29.cell? ⟨gb225,8,none⟩ = some (.int .u64 a0_8) ∧ w29.cell? ⟨gb225,9,none⟩ = some (.int .i64 a0_9) ∧ w29.cell? ⟨gb225,10,none⟩ = some (.int .u64 a0_10):=hS_
                  refine norm_ (a':=?_) ?_ ?_
                  rotate_left
                  ·simp only [putAll,Act.put,ps_]
                   rfl
                  refine one_ (i:=6) (N:=some 53) #[T_,T_,T_,T_,T_,T_,T_,F_,T_,T_,F_,F_,T_,T_,F_,F_,F_] rfl rfl (one_of HT_.out (by kernel_rfl)) (by decide) (fun K hK => ?_)
                  refine goes_ Tryd.func29 (by kernel_rfl) rfl #[.int .u64 (IntKind.u64.wrap (a0_4)),.int .i64 4] (by rfl) rfl rfl (by (try simp only [List.map_toArray,List.map_cons,List.map_nil]);first|done|rfl|(simp only [List.length_drop,List.length_take];rfl)) ?_
                  with_reducible refine (dominoref01_Fixed.calls k (IntKind.u64.wrap (a0_4)) 4 t243 _ A6.out).mono ?_
                  rintro e w30 ⟨rfl,hb⟩
                  refine ⟨_,rfl,?_⟩
                  have n0_:=am_ (Kd.R_below (by (with_reducible repeat (first|apply ra_|apply rn_|apply rd_));exact HO242.out) hb)
                  have n1_:=am_ (blk_below (g:=gb225) (o:=.cells #[.bool true,.bool a0_1,.bool a0_2,.int .i64 a0_3,.int .u32 a0_4,.string a0_5,.string a0_6,.string a0_7,.int .u64 a0_8,.int .i64 a0_9,.int .u64 a0_10] 28 (0,0)) (by (with_reducible repeat (first|refine kn_ ?_ _|refine kd_ ?_|refine ka_ ?_ _));exact BK225.out) hb)
                  have n2_:=am_ (below_step (by repeat (first|(with_reducible first|exact HB.out|apply ba_|apply pn_|apply pd_|refine bs_ ?_ GE225.out)|exact HB.out)) hb)
                  clear HO242
                  clear BK225
                  clear HB
                  have HO242:=n0_
                  have BK225:=n1_
                  have HB:=n2_
                  clear n0_ n1_ n2_
                  (try clear hb)
                  (try clear hb2)
                  (try clear hk)
                  (try clear hi)
                  refine hK.out _ _ ⟨(kc_ BK225.out 0).trans rfl,(kc_ BK225.out 1).trans rfl,(kc_ BK225.out 2).trans rfl,(kc_ BK225.out 3).trans rfl,(kc_ BK225.out 4).trans rfl,(kc_ BK225.out 5).trans rfl,(kc_ BK225.out 6).trans rfl,(kc_ BK225.out 7).trans rfl,(kc_ BK225.out 8).trans rfl,(kc_ BK225.out 9).trans rfl,(kc_ BK225.out 10).trans rfl⟩ (fun hHeld => ?_)
                  clear hK K
                  refine norm_ (a':=?_) ?_ ?_
                  rotate_left
                  ·show Act.put _ (some 53) _ = _
                   simp only [Act.put,ps_,i64_w,i32_w]
                   rfl
                  refine pure_ (i:=7) (N:=some 54) (v:=?_) (a':=?_) #[T_,T_,T_,T_,T_,T_,T_,T_,T_,T_,F_,F_,T_,T_,F_,F_,F_] rfl rfl (any_of HT_.out (by kernel_rfl)) (fun _ _ _ h => h) (Or.inl ⟨by rfl,?_⟩) ?_ ?_
                  rotate_left;(intro w';go_simp;with_reducible rfl);rotate_left;(simp only [Act.put,ps_,i64_w,i32_w];rfl)
                  exact norm_ (by first|(simp only [putAll,Act.put,ps_];done)|(simp only [putAll,Act.put,ps_];rfl)) (hJ1_2_6 (v241) _ ⟨hHeld,(by (with_reducible repeat (first|apply ra_|apply rn_|apply rd_));exact HO242.out),(by (with_reducible repeat (first|refine kn_ ?_ _|refine kd_ ?_|refine ka_ ?_ _));exact BK225.out),(by repeat (first|(with_reducible first|exact HB.out|apply ba_|apply pn_|apply pd_|refine bs_ ?_ GE225.out)|exact HB.out))⟩)
                ·skip
                 rintro _ w29 ⟨hS_,h0_,h1_⟩
                 have n0_ : Aside0 (w29.heap[gb225]? = some (.cells #[.bool true,.bool a0_1,.bool a0_2,.int .i64 a0_3,.int .u32 a0_4,.string a0_5,.string a0_6,.string a0_7,.int .u64 a0_8,.int .i64 a0_9,.int .u64 a0_10] 28 (0,0))):=⟨h0_⟩
                 have n1_ : Aside0 (Below w.heap.size w w29):=⟨h1_⟩
                 clear BK225
                 clear HB
                 clear h0_ h1_
                 have BK225:=n0_
                 have HB:=n1_
                 clear n0_ n1_
                 have hHeld : w29.cell? ⟨gb225,0,none⟩ = some (.bool true) ∧ w29.cell? ⟨gb225,1,none⟩ = some (.bool a0_1) ∧ w29.cell? ⟨gb225,2,none⟩ = some (.bool a0_2) ∧ w29.cell? ⟨gb225,3,none⟩ = some (.int .i64 a0_3) ∧ w29.cell? ⟨gb225,4,none⟩ = some (.int .u32 a0_4) ∧ w29.cell? ⟨gb225,5,none⟩ = some (.string a0_5) ∧ w29.cell? ⟨gb225,6,none⟩ = some (.string a0_6) ∧ w29.cell? ⟨gb225,7,none⟩ = some (.string a0_7) ∧ w29.cell? ⟨gb225,8,none⟩ = some (.int .u64 a0_8) ∧ w29.cell? ⟨gb225,9,none⟩ = some (.int .i64 a0_9) ∧ w29.cell? ⟨gb225,10,none⟩ = some (.int .u64 a0_10):=hS_
                 refine norm_ (a':=?_) ?_ ?_
                 rotate_left
                 ·simp only [putAll,Act.put,ps_]
                  rfl
                 refine one_ (i:=1) (N:=some 48) #[T_,T_,F_,T_,T_,T_,T_,F_,T_,T_,T_,F_,T_,T_,T_,F_,F_] rfl rfl (one_of HT_.out (by kernel_rfl)) (by decide) (fun K hK => ?_)
                 refine Kd.R_lit_step (Kd.int .u8) _ 5 ?hg (N:=48) ?hd (xs:=([(((((wrap64 (a0_9 - 1)) % 256) + 192) % 256) + ((wrap64 (16 * a0_3)) % 256)) % 256] : List Int)) (inner:=[.int .u8 ((((((wrap64 (a0_9 - 1)) % 256) + 192) % 256) + ((wrap64 (16 * a0_3)) % 256)) % 256)]) (ok:=fun _ => True) (okp:=fun _ => True) ?hr ?hp (fun _ hk => hk) trivial (Below.refl _ _) (Nat.le_refl _) (by simp) ?_;(case hd => rfl);(case hg => rfl);(case hr => first|(go_simp;done)|(go_simp;rfl));(case hp => exact (Reps.one (show Kd.M (Kd.int .u8) _ _ _ ((((((wrap64 (a0_9 - 1)) % 256) + 192) % 256) + ((wrap64 (16 * a0_3)) % 256)) % 256) [.int .u8 ((((((wrap64 (a0_9 - 1)) % 256) + 192) % 256) + ((wrap64 (16 * a0_3)) % 256)) % 256)] from rfl) (Reps.none _ _)))
                 intro v241 w30 ho31 hb hg_ hnew_
                 clear hg_ hnew_
                 (first|rw [← Ny240.out] at ho31|(simp only [Int.reduceToNat] at ho31;rw [← Ny240.out] at ho31))
                 have n0_:=am_ (Kd.R_lower ho31 (below_size (by repeat (first|(with_reducible first|exact HB.out|apply ba_|apply pn_|apply pd_|refine bs_ ?_ GE225.out)|exact HB.out))))
                 have n1_:=am_ (blk_below (g:=gb225) (o:=.cells #[.bool true,.bool a0_1,.bool a0_2,.int .i64 a0_3,.int .u32 a0_4,.string a0_5,.string a0_6,.string a0_7,.int .u64 a0_8,.int .i64 a0_9,.int .u64 a0_10] 28 (0,0)) (by (with_reducible repeat (first|refine kn_ ?_ _|refine kd_ ?_|refine ka_ ?_ _));exact BK225.out) hb)
                 have n2_:=am_ (below_step (by repeat (first|(with_reducible first|exact HB.out|apply ba_|apply pn_|apply pd_|refine bs_ ?_ GE225.out)|exact HB.out)) hb)
                 clear BK225
                 clear HB
                 have HO242:=n0_
                 have BK225:=n1_
                 have HB:=n2_
                 clear n0_ n1_ n2_
                 clear hb ho31
                 refine hK.out _ _ ⟨(kc_ BK225.out 0).trans rfl,(kc_ BK225.out 1).trans rfl,(kc_ BK225.out 2).trans rfl,(kc_ BK225.out 3).trans rfl,(kc_ BK225.out 4).trans rfl,(kc_ BK225.out 5).trans rfl,(kc_ BK225.out 6).trans rfl,(kc_ BK225.out 7).trans rfl,(kc_ BK225.out 8).trans rfl,(kc_ BK225.out 9).trans rfl,(kc_ BK225.out 10).trans rfl⟩ (fun hHeld => ?_)
                 clear hK K
                 refine norm_ (a':=?_) ?_ ?_
                 rotate_left
                 ·show Act.put _ (some 48) _ = _
                  simp only [Act.put,ps_,i64_w,i32_w]
                  rfl
                 exact norm_ (by first|(simp only [putAll,Act.put,ps_];done)|(simp only [putAll,Act.put,ps_];rfl)) (hJ1_6_10_14 (v241) _ ⟨hHeld,(by (with_reducible repeat (first|apply ra_|apply rn_|apply rd_));exact HO242.out),(by (with_reducible repeat (first|refine kn_ ?_ _|refine kd_ ?_|refine ka_ ?_ _));exact BK225.out),(by repeat (first|(with_reducible first|exact HB.out|apply ba_|apply pn_|apply pd_|refine bs_ ?_ GE225.out)|exact HB.out))⟩)
               ·skip
                rintro v241 w30 ⟨hS_,h0_,h1_,h2_⟩
                have n0_ : Aside0 (Kd.R (Kd.int .u8) 5 w30 w.heap.size (fun _ => True) v241 y240):=⟨h0_⟩
                have n1_ : Aside0 (w30.heap[gb225]? = some (.cells #[.bool true,.bool a0_1,.bool a0_2,.int .i64 a0_3,.int .u32 a0_4,.string a0_5,.string a0_6,.string a0_7,.int .u64 a0_8,.int .i64 a0_9,.int .u64 a0_10] 28 (0,0))):=⟨h1_⟩
                have n2_ : Aside0 (Below w.heap.size w w30):=⟨h2_⟩
                clear BK225
                clear HB
                clear h0_ h1_ h2_
                have HO242:=n0_
                have BK225:=n1_
                have HB:=n2_
                clear n0_ n1_ n2_
                have hHeld : w30.cell? ⟨gb225,0,none⟩ = some (.bool true) ∧ w30.cell? ⟨gb225,1,none⟩ = some (.bool a0_1) ∧ w30.cell? ⟨gb225,2,none⟩ = some (.bool a0_2) ∧ w30.cell? ⟨gb225,3,none⟩ = some (.int .i64 a0_3) ∧ w30.cell? ⟨gb225,4,none⟩ = some (.int .u32 a0_4) ∧ w30.cell? ⟨gb225,5,none⟩ = some (.string a0_5) ∧ w30.cell? ⟨gb225,6,none⟩ = some (.string a0_6) ∧ w30.cell? ⟨gb225,7,none⟩ = some (.string a0_7) ∧ w30.cell? ⟨gb225,8,none⟩ = some (.int .u64 a0_8) ∧ w30.cell? ⟨gb225,9,none⟩ = some (.int .i64 a0_9) ∧ w30.cell? ⟨gb225,10,none⟩ = some (.int .u64 a0_10):=hS_
                refine norm_ (a':=?_) ?_ ?_
                rotate_left
                ·simp only [putAll,Act.put,ps_]
                 rfl
                refine two_ (i:=2) (j:=14) (Ni:=some 49) (Nj:=some 61) #[T_,T_,T_,T_,T_,T_,T_,F_,T_,T_,T_,F_,T_,T_,F_,F_,F_] #[T_,T_,F_,T_,T_,T_,T_,F_,T_,T_,T_,F_,T_,T_,T_,F_,F_] rfl rfl rfl rfl (two_of HT_.out (by kernel_rfl)) (by decide) (by decide) (fun K hK => ?_) (fun K hK => ?_)
                ·skip
                 have hcv31:=own_string (P:=Tryd.prog) Tryd.underlying44 Tryd.underlying5 Tryd.underlying9 (Kd.own_of_R HO242.out)
                 refine value_ (w1:=?_) (v:=?_) (by rfl) rfl ?_ ?_
                 rotate_left 2
                 ·go_simp
                  constructor
                  ·rfl
                  ·rfl
                 clear hcv31
                 refine hK.out _ _ ⟨(kc_ BK225.out 0).trans rfl,(kc_ BK225.out 1).trans rfl,(kc_ BK225.out 2).trans rfl,(kc_ BK225.out 3).trans rfl,(kc_ BK225.out 4).trans rfl,(kc_ BK225.out 5).trans rfl,(kc_ BK225.out 6).trans rfl,(kc_ BK225.out 7).trans rfl,(kc_ BK225.out 8).trans rfl,(kc_ BK225.out 9).trans rfl,(kc_ BK225.out 10).trans rfl⟩ (fun hHeld => ?_)
                 clear hK K
                 refine norm_ (a':=?_) ?_ ?_
                 rotate_left
                 ·show Act.put _ (some 49) _ = _
                  simp only [Act.put,ps_,i64_w,i32_w]
                  rfl
                 refine pure_ (i:=7) (N:=some 54) (v:=?_) (a':=?_) #[T_,T_,T_,T_,T_,T_,T_,T_,T_,T_,T_,F_,T_,T_,F_,F_,F_] rfl rfl (any_of HT_.out (by kernel_rfl)) (fun _ _ _ h => h) (Or.inl ⟨by rfl,?_⟩) ?_ ?_
                 rotate_left;(intro w';go_simp;with_reducible rfl);rotate_left;(simp only [Act.put,ps_,i64_w,i32_w];rfl)
                 refine pure_ (i:=11) (N:=some 58) (v:=?_) (a':=?_) #[T_,T_,T_,T_,T_,T_,T_,T_,T_,T_,T_,T_,T_,T_,F_,F_,F_] rfl rfl (any_of HT_.out (by kernel_rfl)) (fun _ _ _ h => h) (Or.inl ⟨by rfl,?_⟩) ?_ ?_
                 rotate_left;(intro w';go_simp;with_reducible rfl);rotate_left;(simp only [Act.put,ps_,i64_w,i32_w];rfl)
                 exact norm_ (by first|(simp only [putAll,Act.put,ps_];done)|(simp only [putAll,Act.put,ps_];rfl)) (hJ1_2_6_10 (v241) _ ⟨hHeld,(by (with_reducible repeat (first|apply ra_|apply rn_|apply rd_));exact HO242.out),(by (with_reducible repeat (first|refine kn_ ?_ _|refine kd_ ?_|refine ka_ ?_ _));exact BK225.out),(by repeat (first|(with_reducible first|exact HB.out|apply ba_|apply pn_|apply pd_|refine bs_ ?_ GE225.out)|exact HB.out))⟩)
                ·skip
                 refine goes_ Tryd.func30 (by kernel_rfl) rfl #[.string a0_6] (by rfl) rfl rfl (by (try simp only [List.map_toArray,List.map_cons,List.map_nil]);first|done|rfl|(simp only [List.length_drop,List.length_take];rfl)) ?_
                 with_reducible refine (dominoref04_short.calls a0_6 t245 _ A10.out).mono ?_
                 rintro e w31 ⟨rfl,hb⟩
                 refine ⟨_,rfl,?_⟩
                 have n0_:=am_ (Kd.R_below (by (with_reducible repeat (first|apply ra_|apply rn_|apply rd_));exact HO242.out) hb)
                 have n1_:=am_ (blk_below (g:=gb225) (o:=.cells #[.bool true,.bool a0_1,.bool a0_2,.int .i64 a0_3,.int .u32 a0_4,.string a0_5,.string a0_6,.string a0_7,.int .u64 a0_8,.int .i64 a0_9,.int .u64 a0_10] 28 (0,0)) (by (with_reducible repeat (first|refine kn_ ?_ _|refine kd_ ?_|refine ka_ ?_ _));exact BK225.out) hb)
                 have n2_:=am_ (below_step (by repeat (first|(with_reducible first|exact HB.out|apply ba_|apply pn_|apply pd_|refine bs_ ?_ GE225.out)|exact HB.out)) hb)
                 clear HO242
                 clear BK225
                 clear HB
                 have HO242:=n0_
                 have BK225:=n1_
                 have HB:=n2_
                 clear n0_ n1_ n2_
                 (try clear hb)
                 (try clear hb2)
                 (try clear hk)
                 (try clear hi)
                 refine hK.out _ _ ⟨(kc_ BK225.out 0).trans rfl,(kc_ BK225.out 1).trans rfl,(kc_ BK225.out 2).trans rfl,(kc_ BK225.out 3).trans rfl,(kc_ BK225.out 4).trans rfl,(kc_ BK225.out 5).trans rfl,(kc_ BK225.out 6).trans rfl,(kc_ BK225.out 7).trans rfl,(kc_ BK225.out 8).trans rfl,(kc_ BK225.out 9).trans rfl,(kc_ BK225.out 10).trans rfl⟩ (fun hHeld => ?_)
                 clear hK K
                 refine norm_ (a':=?_) ?_ ?_
                 rotate_left
                 ·show Act.put _ (some 61) _ = _
                  simp only [Act.put,ps_,i64_w,i32_w]
                  rfl
                 exact norm_ (by first|(simp only [putAll,Act.put,ps_];done)|(simp only [putAll,Act.put,ps_];rfl)) (hJ1_6_10_14 (v241) _ ⟨hHeld,(by (with_reducible repeat (first|apply ra_|apply rn_|apply rd_));exact HO242.out),(by (with_reducible repeat (first|refine kn_ ?_ _|refine kd_ ?_|refine ka_ ?_ _));exact BK225.out),(by repeat (first|(with_reducible first|exact HB.out|apply ba_|apply pn_|apply pd_|refine bs_ ?_ GE225.out)|exact HB.out))⟩)
              ·skip
               rintro v241 w30 ⟨hS_,h0_,h1_,h2_⟩
               have n0_ : Aside0 (Kd.R (Kd.int .u8) 5 w30 w.heap.size (fun _ => True) v241 y240):=⟨h0_⟩
               have n1_ : Aside0 (w30.heap[gb225]? = some (.cells #[.bool true,.bool a0_1,.bool a0_2,.int .i64 a0_3,.int .u32 a0_4,.string a0_5,.string a0_6,.string a0_7,.int .u64 a0_8,.int .i64 a0_9,.int .u64 a0_10] 28 (0,0))):=⟨h1_⟩
               have n2_ : Aside0 (Below w.heap.size w w30):=⟨h2_⟩
               clear BK225
               clear HB
               clear h0_ h1_ h2_
               have HO242:=n0_
               have BK225:=n1_
               have HB:=n2_
               clear n0_ n1_ n2_
               have hHeld : w30.cell? ⟨gb225,0,none⟩ = some (.bool true) ∧ w30.cell? ⟨gb225,1,none⟩ = some (.bool a0_1) ∧ w30.cell? ⟨gb225,2,none⟩ = some (.bool a0_2) ∧ w30.cell? ⟨gb225,3,none⟩ = some (.int .i64 a0_3) ∧ w30.cell? ⟨gb225,4,none⟩ = some (.int .u32 a0_4) ∧ w30.cell? ⟨gb225,5,none⟩ = some (.string a0_5) ∧ w30.cell? ⟨gb225,6,none⟩ = some (.string a0_6) ∧ w30.cell? ⟨gb225,7,none⟩ = some (.string a0_7) ∧ w30.cell? ⟨gb225,8,none⟩ = some (.int .u64 a0_8) ∧ w30.cell? ⟨gb225,9,none⟩ = some (.int .i64 a0_9) ∧ w30.cell? ⟨gb225,10,none⟩ = some (.int .u64 a0_10):=hS_
               refine norm_ (a':=?_) ?_ ?_
               rotate_left
               ·simp only [putAll,Act.put,ps_]
                rfl
               refine one_ (i:=10) (N:=some 57) #[T_,T_,T_,T_,T_,T_,T_,T_,T_,T_,T_,F_,T_,T_,F_,F_,F_] rfl rfl (one_of HT_.out (by kernel_rfl)) (by decide) (fun K hK => ?_)
               refine goes_ Tryd.func30 (by kernel_rfl) rfl #[.string a0_5] (by rfl) rfl rfl (by (try simp only [List.map_toArray,List.map_cons,List.map_nil]);first|done|rfl|(simp only [List.length_drop,List.length_take];rfl)) ?_
               with_reducible refine (dominoref04_short.calls a0_5 t244 _ A8.out).mono ?_
               rintro e w31 ⟨rfl,hb⟩
               refine ⟨_,rfl,?_⟩
               have n0_:=am_ (Kd.R_below (by (with_reducible repeat (first|apply ra_|apply rn_|apply rd_));exact HO242.out) hb)
               have n1_:=am_ (blk_below (g:=gb225) (o:=.cells #[.bool true,.bool a0_1,.bool a0_2,.int .i64 a0_3,.int .u32 a0_4,.string a0_5,.string a0_6,.string a0_7,.int .u64 a0_8,.int .i64 a0_9,.int .u64 a0_10] 28 (0,0)) (by (with_reducible repeat (first|refine kn_ ?_ _|refine kd_ ?_|refine ka_ ?_ _));exact BK225.out) hb)
               have n2_:=am_ (below_step (by repeat (first|(with_reducible first|exact HB.out|apply ba_|apply pn_|apply pd_|refine bs_ ?_ GE225.out)|exact HB.out)) hb)
               clear HO242
               clear BK225
               clear HB
               have HO242:=n0_
               have BK225:=n1_
               have HB:=n2_
               clear n0_ n1_ n2_
               (try clear hb)
               (try clear hb2)
               (try clear hk)
               (try clear hi)
               refine hK.out _ _ ⟨(kc_ BK225.out 0).trans rfl,(kc_ BK225.out 1).trans rfl,(kc_ BK225.out 2).trans rfl,(kc_ BK225.out 3).trans rfl,(kc_ BK225.out 4).trans rfl,(kc_ BK225.out 5).trans rfl,(kc_ BK225.out 6).trans rfl,(kc_ BK225.out 7).trans rfl,(kc_ BK225.out 8).trans rfl,(kc_ BK225.out 9).trans rfl,(kc_ BK225.out 10).trans rfl⟩ (fun hHeld => ?_)
               clear hK K
               refine norm_ (a':=?_) ?_ ?_
               rotate_left
               ·show Act.put _ (some 57) _ = _
                simp only [Act.put,ps_,i64_w,i32_w]
                rfl
               refine pure_ (i:=11) (N:=some 58) (v:=?_) (a':=?_) #[T_,T_,T_,T_,T_,T_,T_,T_,T_,T_,T_,T_,T_,T_,F_,F_,F_] rfl rfl (any_of HT_.out (by kernel_rfl)) (fun _ _ _ h => h) (Or.inl ⟨by rfl,?_⟩) ?_ ?_
               rotate_left;(intro w';go_simp;with_reducible rfl);rotate_left;(simp only [Act.put,ps_,i64_w,i32_w];rfl)
               exact norm_ (by first|(simp only [putAll,Act.put,ps_];done)|(simp only [putAll,Act.put,ps_];rfl)) (hJ1_2_6_10 (v241) _ ⟨hHeld,(by (with_reducible repeat (first|apply ra_|apply rn_|apply rd_));exact HO242.out),(by (with_reducible repeat (first|refine kn_ ?_ _|refine kd_ ?_|refine ka_ ?_ _));exact BK225.out),(by repeat (first|(with_reducible first|exact HB.out|apply ba_|apply pn_|apply pd_|refine bs_ ?_ GE225.out)|exact HB.out))⟩)
             ·skip
              rintro v241 w31 ⟨hS_,h0_,h1_,h2_⟩
              have n0_ : Aside0 (Kd.R (Kd.int .u8) 5 w31 w.heap.size (fun _ => True) v241 y240):=⟨h0_⟩
              have n1_ : Aside0 (w31.heap[gb225]? = some (.cells #[.bool true,.bool a0_1,.bool a0_2,.int .i64 a0_3,.int .u32 a0_4,.string a0_5,.string a0_6,.string a0_7,.int .u64 a0_8,.int .i64 a0_9,.int .u64 a0_10] 28 (0,0))):=⟨h1_⟩
              have n2_ : Aside0 (Below w.heap.size w w31):=⟨h2_⟩
              clear BK225
              clear HB
              clear h0_ h1_ h2_
              have HO242:=n0_
              have BK225:=n1_
              have HB:=n2_
              clear n0_ n1_ n2_
              have hHeld : w31.cell? ⟨gb225,0,none⟩ = some (.bool true) ∧ w31.cell? ⟨gb225,1,none⟩ = some (.bool a0_1) ∧ w31.cell? ⟨gb225,2,none⟩ = some (.bool a0_2) ∧ w31.cell? ⟨gb225,3,none⟩ = some (.int .i64 a0_3) ∧ w31.cell? ⟨gb225,4,none⟩ = some (.int .u32 a0_4) ∧ w31.cell? ⟨gb225,5,none⟩ = some (.string a0_5) ∧ w31.cell? ⟨gb225,6,none⟩ = some (.string a0_6) ∧ w31.cell? ⟨gb225,7,none⟩ = some (.string a0_7) ∧ w31.cell? ⟨gb225,8,none⟩ = some (.int .u64 a0_8) ∧ w31.cell? ⟨gb225,9,none⟩ = some (.int .i64 a0_9) ∧ w31.cell? ⟨gb225,10,none⟩ = some (.int .u64 a0_10):=hS_
              refine norm_ (a':=?_) ?_ ?_
              rotate_left
              ·simp only [putAll,Act.put,ps_]
               rfl
              refine one_ (i:=2) (N:=some 49) #[T_,T_,T_,T_,T_,T_,T_,F_,T_,T_,T_,F_,T_,T_,T_,F_,F_] rfl rfl (one_of HT_.out (by kernel_rfl)) (by decide) (fun K hK => ?_)
              have hcv32:=own_string (P:=Tryd.prog) Tryd.underlying44 Tryd.underlying5 Tryd.underlying9 (Kd.own_of_R HO242.out)
              refine value_ (w1:=?_) (v:=?_) (by rfl) rfl ?_ ?_
              rotate_left 2
              ·go_simp
               constructor
               ·rfl
               ·rfl
              clear hcv32
              refine hK.out _ _ ⟨(kc_ BK225.out 0).trans rfl,(kc_ BK225.out 1).trans rfl,(kc_ BK225.out 2).trans rfl,(kc_ BK225.out 3).trans rfl,(kc_ BK225.out 4).trans rfl,(kc_ BK225.out 5).trans rfl,(kc_ BK225.out 6).trans rfl,(kc_ BK225.out 7).trans rfl,(kc_ BK225.out 8).trans rfl,(kc_ BK225.out 9).trans rfl,(kc_ BK225.out 10).trans rfl⟩ (fun hHeld => ?_)
              clear hK K
              refine norm_ (a':=?_) ?_ ?_
              rotate_left
              ·show Act.put _ (some 49) _ = _
               simp only [Act.put,ps_,i64_w,i32_w]
               rfl
              refine pure_ (i:=7) (N:=some 54) (v:=?_) (a':=?_) #[T_,T_,T_,T_,T_,T_,T_,T_,T_,T_,T_,F_,T_,T_,T_,F_,F_] rfl rfl (any_of HT_.out (by kernel_rfl)) (fun _ _ _ h => h) (Or.inl ⟨by rfl,?_⟩) ?_ ?_
              rotate_left;(intro w';go_simp;with_reducible rfl);rotate_left;(simp only [Act.put,ps_,i64_w,i32_w];rfl)
              refine pure_ (i:=11) (N:=some 58) (v:=?_) (a':=?_) #[T_,T_,T_,T_,T_,T_,T_,T_,T_,T_,T_,T_,T_,T_,T_,F_,F_] rfl rfl (any_of HT_.out (by kernel_rfl)) (fun _ _ _ h => h) (Or.inl ⟨by rfl,?_⟩) ?_ ?_
              rotate_left;(intro w';go_simp;with_reducible rfl);rotate_left;(simp only [Act.put,ps_,i64_w,i32_w];rfl)
              exact norm_ (by first|(simp only [putAll,Act.put,ps_];done)|(simp only [putAll,Act.put,ps_];rfl)) (hJ1_2_6_10_14 (v241) _ ⟨hHeld,(by (with_reducible repeat (first|apply ra_|apply rn_|apply rd_));exact HO242.out),(by (with_reducible repeat (first|refine kn_ ?_ _|refine kd_ ?_|refine ka_ ?_ _));exact BK225.out),(by repeat (first|(with_reducible first|exact HB.out|apply ba_|apply pn_|apply pd_|refine bs_ ?_ GE225.out)|exact HB.out))⟩)
            ·skip
             rintro v241 w31 ⟨hS_,h0_,h1_,h2_⟩
             have n0_ : Aside0 (Kd.R (Kd.int .u8) 5 w31 w.heap.size (fun _ => True) v241 y240):=⟨h0_⟩
             have n1_ : Aside0 (w31.heap[gb225]? = some (.cells #[.bool true,.bool a0_1,.bool a0_2,.int .i64 a0_3,.int .u32 a0_4,.string a0_5,.string a0_6,.string a0_7,.int .u64 a0_8,.int .i64 a0_9,.int .u64 a0_10] 28 (0,0))):=⟨h1_⟩
             have n2_ : Aside0 (Below w.heap.size w w31):=⟨h2_⟩
             clear BK225
             clear HB
             clear h0_ h1_ h2_
             have HO242:=n0_
             have BK225:=n1_
             have HB:=n2_
             clear n0_ n1_ n2_
             have hHeld : w31.cell? ⟨gb225,0,none⟩ = some (.bool true) ∧ w31.cell? ⟨gb225,1,none⟩ = some (.bool a0_1) ∧ w31.cell? ⟨gb225,2,none⟩ = some (.bool a0_2) ∧ w31.cell? ⟨gb225,3,none⟩ = some (.int .i64 a0_3) ∧ w31.cell? ⟨gb225,4,none⟩ = some (.int .u32 a0_4) ∧ w31.cell? ⟨gb225,5,none⟩ = some (.string a0_5) ∧ w31.cell? ⟨gb225,6,none⟩ = some (.string a0_6) ∧ w31.cell? ⟨gb225,7,none⟩ = some (.string a0_7) ∧ w31.cell? ⟨gb225,8,none⟩ = some (.int .u64 a0_8) ∧ w31.cell? ⟨gb225,9,none⟩ = some (.int .i64 a0_9) ∧ w31.cell? ⟨gb225,10,none⟩ = some (.int .u64 a0_10):=hS_
             refine norm_ (a':=?_) ?_ ?_
             rotate_left
             ·simp only [putAll,Act.put,ps_]
              rfl
             refine one_ (i:=14) (N:=some 61) #[T_,T_,T_,T_,T_,T_,T_,T_,T_,T_,T_,T_,T_,T_,T_,F_,F_] rfl rfl (one_of HT_.out (by kernel_rfl)) (by decide) (fun K hK => ?_)
             refine goes_ Tryd.func30 (by kernel_rfl) rfl #[.string a0_6] (by rfl) rfl rfl (by (try simp only [List.map_toArray,List.map_cons,List.map_nil]);first|done|rfl|(simp only [List.length_drop,List.length_take];rfl)) ?_
             with_reducible refine (dominoref04_short.calls a0_6 t245 _ A10.out).mono ?_
             rintro e w32 ⟨rfl,hb⟩
             refine ⟨_,rfl,?_⟩
             have n0_:=am_ (Kd.R_below (by (with_reducible repeat (first|apply ra_|apply rn_|apply rd_));exact HO242.out) hb)
             have n1_:=am_ (blk_below (g:=gb225) (o:=.cells #[.bool true,.bool a0_1,.bool a0_2,.int .i64 a0_3,.int .u32 a0_4,.string a0_5,.string a0_6,.string a0_7,.int .u64 a0_8,.int .i64 a0_9,.int .u64 a0_10] 28 (0,0)) (by (with_reducible repeat (first|refine kn_ ?_ _|refine kd_ ?_|refine ka_ ?_ _));exact BK225.out) hb)
             have n2_:=am_ (below_step (by repeat (first|(with_reducible first|exact HB.out|apply ba_|apply pn_|apply pd_|refine bs_ ?_ GE225.out)|exact HB.out)) hb)
             clear HO242
             clear BK225
             clear HB
             have HO242:=n0_
             have BK225:=n1_
             have HB:=n2_
             clear n0_ n1_ n2_
             (try clear hb)
             (try clear hb2)
             (try clear hk)
             (try clear hi)
             refine hK.out _ _ ⟨(kc_ BK225.out 0).trans rfl,(kc_ BK225.out 1).trans rfl,(kc_ BK225.out 2).trans rfl,(kc_ BK225.out 3).trans rfl,(kc_ BK225.out 4).trans rfl,(kc_ BK225.out 5).trans rfl,(kc_ BK225.out 6).trans rfl,(kc_ BK225.out 7).trans rfl,(kc_ BK225.out 8).trans rfl,(kc_ BK225.out 9).trans rfl,(kc_ BK225.out 10).trans rfl⟩ (fun hHeld => ?_)
             clear hK K
             refine norm_ (a':=?_) ?_ ?_
             rotate_left
             ·show Act.put _ (some 61) _ = _
              simp only [Act.put,ps_,i64_w,i32_w]
              rfl
             exact norm_ (by first|(simp only [putAll,Act.put,ps_];done)|(simp only [putAll,Act.put,ps_];rfl)) (hJ1_2_6_10_14 (v241) _ ⟨hHeld,(by (with_reducible repeat (first|apply ra_|apply rn_|apply rd_));exact HO242.out),(by (with_reducible repeat (first|refine kn_ ?_ _|refine kd_ ?_|refine ka_ ?_ _));exact BK225.out),(by repeat (first|(with_reducible first|exact HB.out|apply ba_|apply pn_|apply pd_|refine bs_ ?_ GE225.out)|exact HB.out))⟩)
           rintro v241 w32 ⟨hS_,h0_,h1_,h2_⟩
           have n0_ : Aside0 (Kd.R (Kd.int .u8) 5 w32 w.heap.size (fun _ => True) v241 y240):=⟨h0_⟩
           have n1_ : Aside0 (w32.heap[gb225]? = some (.cells #[.bool true,.bool a0_1,.bool a0_2,.int .i64 a0_3,.int .u32 a0_4,.string a0_5,.string a0_6,.string a0_7,.int .u64 a0_8,.int .i64 a0_9,.int .u64 a0_10] 28 (0,0))):=⟨h1_⟩
           have n2_ : Aside0 (Below w.heap.size w w32):=⟨h2_⟩
           clear BK225
           clear HB
           clear h0_ h1_ h2_
           have HO242:=n0_
           have BK225:=n1_
           have HB:=n2_
           clear n0_ n1_ n2_
           have hHeld : w32.cell? ⟨gb225,0,none⟩ = some (.bool true) ∧ w32.cell? ⟨gb225,1,none⟩ = some (.bool a0_1) ∧ w32.cell? ⟨gb225,2,none⟩ = some (.bool a0_2) ∧ w32.cell? ⟨gb225,3,none⟩ = some (.int .i64 a0_3) ∧ w32.cell? ⟨gb225,4,none⟩ = some (.int .u32 a0_4) ∧ w32.cell? ⟨gb225,5,none⟩ = some (.string a0_5) ∧ w32.cell? ⟨gb225,6,none⟩ = some (.string a0_6) ∧ w32.cell? ⟨gb225,7,none⟩ = some (.string a0_7) ∧ w32.cell? ⟨gb225,8,none⟩ = some (.int .u64 a0_8) ∧ w32.cell? ⟨gb225,9,none⟩ = some (.int .i64 a0_9) ∧ w32.cell? ⟨gb225,10,none⟩ = some (.int .u64 a0_10):=hS_
           refine norm_ (a':=?_) ?_ ?_
           rotate_left
           ·simp only [putAll,Act.put,ps_]
            rfl
           refine pure_ (i:=15) (N:=some 62) (v:=?_) (a':=?_) #[T_,T_,T_,T_,T_,T_,T_,T_,T_,T_,T_,T_,T_,T_,T_,T_,F_] rfl rfl (any_of HT_.out (by kernel_rfl)) (fun _ _ _ h => h) (Or.inl ⟨by rfl,?_⟩) ?_ ?_
           rotate_left;(intro w';go_simp;with_reducible rfl);rotate_left;(simp only [Act.put,ps_,i64_w,i32_w];rfl)
           refine pure_ (i:=16) (N:=some 6) (v:=?_) (a':=?_) #[T_,T_,T_,T_,T_,T_,T_,T_,T_,T_,T_,T_,T_,T_,T_,T_,T_] rfl rfl (any_of HT_.out (by kernel_rfl)) (fun _ _ _ h => h) (Or.inl ⟨by rfl,?_⟩) ?_ ?_
           rotate_left;(intro w';go_simp;with_reducible rfl);rotate_left;(simp only [Act.put,ps_,i64_w,i32_w];rfl)
           refine done_ (done_of HT_.out (by kernel_rfl)) ?_
           have hcz33_0 : w32.cell? ⟨gb225,0,none⟩ = some (.bool true):=(kc_ BK225.out 0).trans rfl
           have hcz33_1 : w32.cell? ⟨gb225,1,none⟩ = some (.bool a0_1):=(kc_ BK225.out 1).trans rfl
           have hcz33_2 : w32.cell? ⟨gb225,2,none⟩ = some (.bool a0_2):=(kc_ BK225.out 2).trans rfl
           have hcz33_3 : w32.cell? ⟨gb225,3,none⟩ = some (.int .i64 a0_3):=(kc_ BK225.out 3).trans rfl
           have hcz33_4 : w32.cell? ⟨gb225,4,none⟩ = some (.int .u32 a0_4):=(kc_ BK225.out 4).trans rfl
           have hcz33_5 : w32.cell? ⟨gb225,5,none⟩ = some (.string a0_5):=(kc_ BK225.out 5).trans rfl
           have hcz33_6 : w32.cell? ⟨gb225,6,none⟩ = some (.string a0_6):=(kc_ BK225.out 6).trans rfl
           have hcz33_7 : w32.cell? ⟨gb225,7,none⟩ = some (.string a0_7):=(kc_ BK225.out 7).trans rfl
           have hcz33_8 : w32.cell? ⟨gb225,8,none⟩ = some (.int .u64 a0_8):=(kc_ BK225.out 8).trans rfl
           have hcz33_9 : w32.cell? ⟨gb225,9,none⟩ = some (.int .i64 a0_9):=(kc_ BK225.out 9).trans rfl
           have hcz33_10 : w32.cell? ⟨gb225,10,none⟩ = some (.int .u64 a0_10):=(kc_ BK225.out 10).trans rfl
           have hfz33_0:=blk_frozen BK225.out 0
           have hfz33_1:=blk_frozen BK225.out 1
           have hfz33_2:=blk_frozen BK225.out 2
           have hfz33_3:=blk_frozen BK225.out 3
           have hfz33_4:=blk_frozen BK225.out 4
           have hfz33_5:=blk_frozen BK225.out 5
           have hfz33_6:=blk_frozen BK225.out 6
           have hfz33_7:=blk_frozen BK225.out 7
           have hfz33_8:=blk_frozen BK225.out 8
           have hfz33_9:=blk_frozen BK225.out 9
           have hfz33_10:=blk_frozen BK225.out 10
           try go_wp2
           have n0_:=am_ (rd_ HO242.out)
           have n1_:=am_ (kd_ BK225.out)
           have n2_:=am_ (pd_ HB.out)
           clear HO242
           clear BK225
           clear HB
           have HO242:=n0_
           have BK225:=n1_
           have HB:=n2_
           clear n0_ n1_ n2_
           refine start_ (n:=11) (S:=fun w' => w'.cell? ⟨gb225,0,none⟩ = some (.bool true) ∧ w'.cell? ⟨gb225,1,none⟩ = some (.bool a0_1) ∧ w'.cell? ⟨gb225,2,none⟩ = some (.bool a0_2) ∧ w'.cell? ⟨gb225,3,none⟩ = some (.int .i64 a0_3) ∧ w'.cell? ⟨gb225,4,none⟩ = some (.int .u32 a0_4) ∧ w'.cell? ⟨gb225,5,none⟩ = some (.string a0_5) ∧ w'.cell? ⟨gb225,6,none⟩ = some (.string a0_6) ∧ w'.cell? ⟨gb225,7,none⟩ = some (.string a0_7) ∧ w'.cell? ⟨gb225,8,none⟩ = some (.int .u64 a0_8) ∧ w'.cell? ⟨gb225,9,none⟩ = some (.int .i64 a0_9) ∧ w'.cell? ⟨gb225,10,none⟩ = some (.int .u64 a0_10)) (ds:=[]) #[F_,F_,F_,F_,F_,F_,F_,F_,F_,F_,F_] (by kernel_rfl) rfl rfl ⟨(kc_ BK225.out 0).trans rfl,(kc_ BK225.out 1).trans rfl,(kc_ BK225.out 2).trans rfl,(kc_ BK225.out 3).trans rfl,(kc_ BK225.out 4).trans rfl,(kc_ BK225.out 5).trans rfl,(kc_ BK225.out 6).trans rfl,(kc_ BK225.out 7).trans rfl,(kc_ BK225.out 8).trans rfl,(kc_ BK225.out 9).trans rfl,(kc_ BK225.out 10).trans rfl⟩ (fun hHeld => ?_);refine with_tabW dominoref04_Put.tab15 dominoref04_Put.bits15 (fun HT_ HW_ => ?_)
           generalize w32.drew = w34 at HO242 BK225 HB hHeld ⊢
           refine pure_ (i:=0) (N:=some 66) (v:=?_) (a':=?_) #[T_,F_,F_,F_,F_,F_,F_,F_,F_,F_,F_] rfl rfl (any_of HT_.out (by kernel_rfl)) (fun _ _ _ h => h) (Or.inl ⟨by rfl,?_⟩) ?_ ?_
           rotate_left;(intro w';go_simp;with_reducible rfl);rotate_left;(simp only [Act.put,ps_,i64_w,i32_w];rfl)
           refine pure_ (i:=1) (N:=some 67) (v:=?_) (a':=?_) #[T_,T_,F_,F_,F_,F_,F_,F_,F_,F_,F_] rfl rfl (any_of HT_.out (by kernel_rfl)) (fun _ _ _ h => h) (Or.inl ⟨by rfl,?_⟩) ?_ ?_
           rotate_left;(intro w';go_simp;with_reducible rfl);rotate_left;(simp only [Act.put,ps_,i64_w,i32_w];rfl)
           refine pure_ (i:=7) (N:=some 73) (v:=?_) (a':=?_) #[T_,T_,F_,F_,F_,F_,F_,T_,F_,F_,F_] rfl rfl (any_of HT_.out (by kernel_rfl)) (fun _ _ _ h => h) (Or.inl ⟨by rfl,?_⟩) ?_ ?_
           rotate_left;(intro w';go_simp;with_reducible rfl);rotate_left;(simp only [Act.put,ps_,i64_w,i32_w];rfl)
           refine take_ (i:=2) (N:=some 68) (v:=?_) (a':=?_) #[T_,T_,T_,F_,F_,F_,F_,T_,F_,F_,F_] rfl rfl (take_ofW HT_.out HW_.out (by kernel_rfl)) (fun _ _ _ h => h) (Or.inl ⟨by rfl,?_⟩) hHeld ?_ ?_
           rotate_left
           ·rintro w' ⟨s0,s1,s2,s3,s4,s5,s6,s7,s8,s9,s10⟩
            go_simp
            with_reducible rfl
           rotate_left
           ·simp only [Act.put,ps_,i64_w,i32_w]
            rfl
           refine pure_ (i:=3) (N:=some 69) (v:=?_) (a':=?_) #[T_,T_,T_,T_,F_,F_,F_,T_,F_,F_,F_] rfl rfl (any_of HT_.out (by kernel_rfl)) (fun _ _ _ h => h) (Or.inl ⟨by rfl,?_⟩) ?_ ?_
           rotate_left;(intro w';go_simp;with_reducible rfl);rotate_left;(simp only [Act.put,ps_,i64_w,i32_w];rfl)
           refine pure_ (i:=4) (N:=some 70) (v:=?_) (a':=?_) #[T_,T_,T_,T_,T_,F_,F_,T_,F_,F_,F_] rfl rfl (any_of HT_.out (by kernel_rfl)) (fun _ _ _ h => h) (Or.inl ⟨by rfl,?_⟩) ?_ ?_
           rotate_left;(intro w';go_simp;with_reducible rfl);rotate_left;(simp only [Act.put,ps_,i64_w,i32_w];rfl)
           refine take_ (i:=8) (N:=some 74) (v:=?_) (a':=?_) #[T_,T_,T_,T_,T_,F_,F_,T_,T_,F_,F_] rfl rfl (take_ofW HT_.out HW_.out (by kernel_rfl)) (fun _ _ _ h => h) (Or.inl ⟨by rfl,?_⟩) hHeld ?_ ?_
           rotate_left
           ·rintro w' ⟨s0,s1,s2,s3,s4,s5,s6,s7,s8,s9,s10⟩
            go_simp
            with_reducible rfl
           rotate_left
           ·simp only [Act.put,ps_,i64_w,i32_w]
            rfl
           refine one_ (i:=5) (N:=some 71) #[T_,T_,T_,T_,T_,T_,F_,T_,T_,F_,F_] rfl rfl (one_of HT_.out (by kernel_rfl)) (by decide) (fun K hK => ?_)
           refine goes_ Tryd.func31 (by kernel_rfl) rfl #[.int .u64 (IntKind.u64.wrap ((a0_7.size : Int)))] (by rfl) rfl rfl (by (try simp only [List.map_toArray,List.map_cons,List.map_nil]);first|done|rfl|(simp only [List.length_drop,List.length_take];rfl)) ?_
           with_reducible refine (dominoref04_v.calls k (IntKind.u64.wrap ((a0_7.size : Int))) t246 _ A13.out).mono ?_
           rintro e w35 ⟨rfl,hb⟩
           refine ⟨_,rfl,?_⟩
           have n0_:=am_ (Kd.R_below (by (with_reducible repeat (first|apply ra_|apply rn_|apply rd_));exact HO242.out) hb)
           have n1_:=am_ (blk_below (g:=gb225) (o:=.cells #[.bool true,.bool a0_1,.bool a0_2,.int .i64 a0_3,.int .u32 a0_4,.string a0_5,.string a0_6,.string a0_7,.int .u64 a0_8,.int .i64 a0_9,.int .u64 a0_10] 28 (0,0)) (by (with_reducible repeat (first|refine kn_ ?_ _|refine kd_ ?_|refine ka_ ?_ _));exact BK225.out) hb)
           have n2_:=am_ (below_step (by repeat (first|(with_reducible first|exact HB.out|apply ba_|apply pn_|apply pd_|refine bs_ ?_ GE225.out)|exact HB.out)) hb)
           clear HO242
           clear BK225
           clear HB
           have HO242:=n0_
           have BK225:=n1_
           have HB:=n2_
           clear n0_ n1_ n2_
           (try clear hb)
           (try clear hb2)
           (try clear hk)
           (try clear hi)
           refine hK.out _ _ ⟨(kc_ BK225.out 0).trans rfl,(kc_ BK225.out 1).trans rfl,(kc_ BK225.out 2).trans rfl,(kc_ BK225.out 3).trans rfl,(kc_ BK225.out 4).trans rfl,(kc_ BK225.out 5).trans rfl,(kc_ BK225.out 6).trans rfl,(kc_ BK225.out 7).trans rfl,(kc_ BK225.out 8).trans rfl,(kc_ BK225.out 9).trans rfl,(kc_ BK225.out 10).trans rfl⟩ (fun hHeld => ?_)
           clear hK K
           refine norm_ (a':=?_) ?_ ?_
           rotate_left
           ·show Act.put _ (some 71) _ = _
            simp only [Act.put,ps_,i64_w,i32_w]
            rfl
           refine pure_ (i:=6) (N:=some 72) (v:=?_) (a':=?_) #[T_,T_,T_,T_,T_,T_,T_,T_,T_,F_,F_] rfl rfl (any_of HT_.out (by kernel_rfl)) (fun _ _ _ h => h) (Or.inl ⟨by rfl,?_⟩) ?_ ?_
           rotate_left;(intro w';go_simp;with_reducible rfl);rotate_left;(simp only [Act.put,ps_,i64_w,i32_w];rfl)
           refine pure_ (i:=9) (N:=some 75) (v:=?_) (a':=?_) #[T_,T_,T_,T_,T_,T_,T_,T_,T_,T_,F_] rfl rfl (any_of HT_.out (by kernel_rfl)) (fun _ _ _ h => h) (Or.inl ⟨by rfl,?_⟩) ?_ ?_
           rotate_left;(intro w';go_simp;with_reducible rfl);rotate_left;(simp only [Act.put,ps_,i64_w,i32_w];rfl)
           refine pure_ (i:=10) (N:=some 6) (v:=?_) (a':=?_) #[T_,T_,T_,T_,T_,T_,T_,T_,T_,T_,T_] rfl rfl (any_of HT_.out (by kernel_rfl)) (fun _ _ _ h => h) (Or.inl ⟨by rfl,?_⟩) ?_ ?_
           rotate_left;(intro w';go_simp;with_reducible rfl);rotate_left;(simp only [Act.put,ps_,i64_w,i32_w];rfl)
           refine done_ (done_of HT_.out (by kernel_rfl)) ?_
           have hcz36_0 : w35.cell? ⟨gb225,0,none⟩ = some (.bool true):=(kc_ BK225.out 0).trans rfl
           have hcz36_1 : w35.cell? ⟨gb225,1,none⟩ = some (.bool a0_1):=(kc_ BK225.out 1).trans rfl
           have hcz36_2 : w35.cell? ⟨gb225,2,none⟩ = some (.bool a0_2):=(kc_ BK225.out 2).trans rfl
           have hcz36_3 : w35.cell? ⟨gb225,3,none⟩ = some (.int .i64 a0_3):=(kc_ BK225.out 3).trans rfl
           have hcz36_4 : w35.cell? ⟨gb225,4,none⟩ = some (.int .u32 a0_4):=(kc_ BK225.out 4).trans rfl
           have hcz36_5 : w35.cell? ⟨gb225,5,none⟩ = some (.string a0_5):=(kc_ BK225.out 5).trans rfl
           have hcz36_6 : w35.cell? ⟨gb225,6,none⟩ = some (.string a0_6):=(kc_ BK225.out 6).trans rfl
           have hcz36_7 : w35.cell? ⟨gb225,7,none⟩ = some (.string a0_7):=(kc_ BK225.out 7).trans rfl
           have hcz36_8 : w35.cell? ⟨gb225,8,none⟩ = some (.int .u64 a0_8):=(kc_ BK225.out 8).trans rfl
           have hcz36_9 : w35.cell? ⟨gb225,9,none⟩ = some (.int .i64 a0_9):=(kc_ BK225.out 9).trans rfl
           have hcz36_10 : w35.cell? ⟨gb225,10,none⟩ = some (.int .u64 a0_10):=(kc_ BK225.out 10).trans rfl
           have hfz36_0:=blk_frozen BK225.out 0
           have hfz36_1:=blk_frozen BK225.out 1
           have hfz36_2:=blk_frozen BK225.out 2
           have hfz36_3:=blk_frozen BK225.out 3
           have hfz36_4:=blk_frozen BK225.out 4
           have hfz36_5:=blk_frozen BK225.out 5
           have hfz36_6:=blk_frozen BK225.out 6
           have hfz36_7:=blk_frozen BK225.out 7
           have hfz36_8:=blk_frozen BK225.out 8
           have hfz36_9:=blk_frozen BK225.out 9
           have hfz36_10:=blk_frozen BK225.out 10
           try go_wp2_with (first|((with_reducible refine gate_callee (f:=31) rfl ?_);refine goesL_ (some 79) rfl rfl Tryd.func31 (by kernel_rfl) rfl #[.int .u64 a0_8] rfl (by (try simp only [List.map_toArray,List.map_cons,List.map_nil]);first|done|rfl|(simp only [List.length_drop,List.length_take];rfl)) ?_;(with_reducible refine (dominoref04_v.calls k a0_8 t247 _ A16.out).mono ?_);rintro e w37 ⟨rfl,hb⟩;refine ⟨_,rfl,?_⟩;have n0_:=am_ (Kd.R_below (by (with_reducible repeat (first|apply ra_|apply rn_|apply rd_));exact HO242.out) hb);have n1_:=am_ (blk_below (g:=gb225) (o:=.cells #[.bool true,.bool a0_1,.bool a0_2,.int .i64 a0_3,.int .u32 a0_4,.string a0_5,.string a0_6,.string a0_7,.int .u64 a0_8,.int .i64 a0_9,.int .u64 a0_10] 28 (0,0)) (by (with_reducible repeat (first|refine kn_ ?_ _|refine kd_ ?_|refine ka_ ?_ _));exact BK225.out) hb);have n2_:=am_ (below_step (by repeat (first|(with_reducible first|exact HB.out|apply ba_|apply pn_|apply pd_|refine bs_ ?_ GE225.out)|exact HB.out)) hb);clear HO242;clear BK225;clear HB;have HO242:=n0_;have BK225:=n1_;have HB:=n2_;clear n0_ n1_ n2_;(try clear hb);(try clear hb2);(try clear hk);(try clear hi)))
           go_ret2
           exact ⟨by first|rfl|(simp [errW_none,errW_some] <;> rfl)|(simp [*,errW_none,errW_some] <;> rfl),by repeat (first|(with_reducible first|exact HB.out|apply ba_|apply pn_|apply pd_|refine bs_ ?_ GE225.out)|exact HB.out)⟩
          ·rw [if_neg c18] at H
           exact absurd H (by simp)
         ·rw [if_neg c17] at H
          exact absurd H (by simp)
        ·rw [if_neg c15] at H
         exact absurd H (by simp)
       ·rw [if_neg c14] at H
        exact absurd H (by simp)
      ·rw [if_neg c12] at H
       have c12b0 : (a0_3 == 0) = false:=beq_eq_false_iff_ne.mpr c12
       have c12b1 : (a0_3 != 0) = true:=bne_iff_ne.mpr c12
       replace H:=Option.bind_eq_some_iff.mp H
       obtain ⟨t248,A380,H⟩:=H
       replace H : (if ((((strOfNums y240) ++ t243) ++ t244) ++ t245).size + t248.size ≤ 9223372036854775807 then (if (((((strOfNums y240) ++ t243) ++ t244) ++ t245) ++ t248).size + t227.size ≤ 9223372036854775807 then (some ((((((strOfNums y240) ++ t243) ++ t244) ++ t245) ++ t248) ++ t227,0)) else (none)) else (none)) = some (r1,r2):=H
       have A38:=am_ A380
       clear A380
       by_cases c39 : ((((strOfNums y240) ++ t243) ++ t244) ++ t245).size + t248.size ≤ 9223372036854775807
       ·rw [if_pos c39] at H
        have c39b0:=eq_true c39
        have c39b1 : decide (((((strOfNums y240) ++ t243) ++ t244) ++ t245).size + t248.size ≤ 9223372036854775807) = true:=decide_eq_true c39
        try have c39b2 : (9223372036854775807 < ((((strOfNums y240) ++ t243) ++ t244) ++ t245).size + t248.size) = False:=eq_false (Nat.not_lt.2 c39)
        (try (have c39b3:=c39;simp [ByteArray.size_append] at c39b3;have c39b4:=eq_false (Nat.not_lt.2 c39b3);have c39b5:=eq_true c39b3;clear c39b3))
        by_cases c40 : (((((strOfNums y240) ++ t243) ++ t244) ++ t245) ++ t248).size + t227.size ≤ 9223372036854775807
        ·rw [if_pos c40] at H
         have c40b0:=eq_true c40
         have c40b1 : decide ((((((strOfNums y240) ++ t243) ++ t244) ++ t245) ++ t248).size + t227.size ≤ 9223372036854775807) = true:=decide_eq_true c40
         try have c40b2 : (9223372036854775807 < (((((strOfNums y240) ++ t243) ++ t244) ++ t245) ++ t248).size + t227.size) = False:=eq_false (Nat.not_lt.2 c40)
         (try (have c40b3:=c40;simp [ByteArray.size_append] at c40b3;have c40b4:=eq_false (Nat.not_lt.2 c40b3);have c40b5:=eq_true c40b3;clear c40b3))
         simp only [Option.some.injEq,Prod.mk.injEq] at H
         obtain ⟨rfl,rfl⟩:=H
         go_enter Tryd.func13,Tryd.ntmps13
         try go_wp2_with (first|((with_reducible refine gate_dst (N:=1) rfl ?_);refine box_event ?hg (N:=1) ?hd (cs:=#[.bool true,.bool a0_1,.bool a0_2,.int .i64 a0_3,.int .u32 a0_4,.string a0_5,.string a0_6,.string a0_7,.int .u64 a0_8,.int .i64 a0_9,.int .u64 a0_10]) (t:=28) ?hr ?_;(case hd => rfl);(case hg => rfl);(case hr => first|(go_simp;done)|(go_simp;rfl));intro gb225 hg w41 hbox hb;have n0_:=am_ (below_step (by repeat (first|(with_reducible first|exact HB.out|apply ba_|apply pn_|apply pd_)|exact HB.out)) hb);have n1_:=am_ (hbox);have n2_:=am_ ((by rw [hg];exact (below_size (by repeat (first|(with_reducible first|exact HB.out|apply ba_|apply pn_|apply pd_)|exact HB.out))) : w.heap.size ≤ gb225));have n3_:=am_ ((by rw [hg];exact (below_size (by repeat (first|(with_reducible first|exact HB.out|apply ba_|apply pn_|apply pd_)|exact HB.out))) : w.heap.size ≤ gb225));clear HB;have HB:=n0_;have BK225:=n1_;have GW225:=n2_;have GE225:=n3_;clear n0_ n1_ n2_ n3_;clear hb hbox hg;have hcz42_0 : w41.cell? ⟨gb225,0,none⟩ = some (.bool true):=(kc_ BK225.out 0).trans rfl;have hcz42_1 : w41.cell? ⟨gb225,1,none⟩ = some (.bool a0_1):=(kc_ BK225.out 1).trans rfl;have hcz42_2 : w41.cell? ⟨gb225,2,none⟩ = some (.bool a0_2):=(kc_ BK225.out 2).trans rfl;have hcz42_3 : w41.cell? ⟨gb225,3,none⟩ = some (.int .i64 a0_3):=(kc_ BK225.out 3).trans rfl;have hcz42_4 : w41.cell? ⟨gb225,4,none⟩ = some (.int .u32 a0_4):=(kc_ BK225.out 4).trans rfl;have hcz42_5 : w41.cell? ⟨gb225,5,none⟩ = some (.string a0_5):=(kc_ BK225.out 5).trans rfl;have hcz42_6 : w41.cell? ⟨gb225,6,none⟩ = some (.string a0_6):=(kc_ BK225.out 6).trans rfl;have hcz42_7 : w41.cell? ⟨gb225,7,none⟩ = some (.string a0_7):=(kc_ BK225.out 7).trans rfl;have hcz42_8 : w41.cell? ⟨gb225,8,none⟩ = some (.int .u64 a0_8):=(kc_ BK225.out 8).trans rfl;have hcz42_9 : w41.cell? ⟨gb225,9,none⟩ = some (.int .i64 a0_9):=(kc_ BK225.out 9).trans rfl;have hcz42_10 : w41.cell? ⟨gb225,10,none⟩ = some (.int .u64 a0_10):=(kc_ BK225.out 10).trans rfl;have hfz42_0:=blk_frozen BK225.out 0;have hfz42_1:=blk_frozen BK225.out 1;have hfz42_2:=blk_frozen BK225.out 2;have hfz42_3:=blk_frozen BK225.out 3;have hfz42_4:=blk_frozen BK225.out 4;have hfz42_5:=blk_frozen BK225.out 5;have hfz42_6:=blk_frozen BK225.out 6;have hfz42_7:=blk_frozen BK225.out 7;have hfz42_8:=blk_frozen BK225.out 8;have hfz42_9:=blk_frozen BK225.out 9;have hfz42_10:=blk_frozen BK225.out 10;skip)|((with_reducible refine gate_callee (f:=19) rfl ?_);refine goesL_ (some 8) rfl rfl Tryd.func19 (by kernel_rfl) rfl #[.agg #[.bool true,.bool a0_1,.bool a0_2,.int .i64 a0_3,.int .u32 a0_4,.string a0_5,.string a0_6,.string a0_7,.int .u64 a0_8,.int .i64 a0_9,.int .u64 a0_10]] rfl (by (try simp only [List.map_toArray,List.map_cons,List.map_nil]);first|done|rfl|(simp only [List.length_drop,List.length_take];rfl)) ?_;(with_reducible refine (dominoref04_May.calls k true a0_1 a0_2 a0_3 a0_4 a0_5 a0_6 a0_7 a0_8 a0_9 a0_10 true _ A2.out).mono ?_);rintro e w43 ⟨rfl,hb⟩;refine ⟨_,rfl,?_⟩;have n0_:=am_ (blk_below (g:=gb225) (o:=.cells #[.bool true,.bool a0_1,.bool a0_2,.int .i64 a0_3,.int .u32 a0_4,.string a0_5,.string a0_6,.string a0_7,.int .u64 a0_8,.int .i64 a0_9,.int .u64 a0_10] 28 (0,0)) (by (with_reducible repeat (first|refine kn_ ?_ _|refine kd_ ?_|refine ka_ ?_ _));exact BK225.out) hb);have n1_:=am_ (below_step (by repeat (first|(with_reducible first|exact HB.out|apply ba_|apply pn_|apply pd_|refine bs_ ?_ GE225.out)|exact HB.out)) hb);clear BK225;clear HB;have BK225:=n0_;have HB:=n1_;clear n0_ n1_;(try clear hb);(try clear hb2);(try clear hk);(try clear hi);have hcz44_0 : w43.cell? ⟨gb225,0,none⟩ = some (.bool true):=(kc_ BK225.out 0).trans rfl;have hcz44_1 : w43.cell? ⟨gb225,1,none⟩ = some (.bool a0_1):=(kc_ BK225.out 1).trans rfl;have hcz44_2 : w43.cell? ⟨gb225,2,none⟩ = some (.bool a0_2):=(kc_ BK225.out 2).trans rfl;have hcz44_3 : w43.cell? ⟨gb225,3,none⟩ = some (.int .i64 a0_3):=(kc_ BK225.out 3).trans rfl;have hcz44_4 : w43.cell? ⟨gb225,4,none⟩ = some (.int .u32 a0_4):=(kc_ BK225.out 4).trans rfl;have hcz44_5 : w43.cell? ⟨gb225,5,none⟩ = some (.string a0_5):=(kc_ BK225.out 5).trans rfl;have hcz44_6 : w43.cell? ⟨gb225,6,none⟩ = some (.string a0_6):=(kc_ BK225.out 6).trans rfl;have hcz44_7 : w43.cell? ⟨gb225,7,none⟩ = some (.string a0_7):=(kc_ BK225.out 7).trans rfl;have hcz44_8 : w43.cell? ⟨gb225,8,none⟩ = some (.int .u64 a0_8):=(kc_ BK225.out 8).trans rfl;have hcz44_9 : w43.cell? ⟨gb225,9,none⟩ = some (.int .i64 a0_9):=(kc_ BK225.out 9).trans rfl;have hcz44_10 : w43.cell? ⟨gb225,10,none⟩ = some (.int .u64 a0_10):=(kc_ BK225.out 10).trans rfl;have hfz44_0:=blk_frozen BK225.out 0;have hfz44_1:=blk_frozen BK225.out 1;have hfz44_2:=blk_frozen BK225.out 2;have hfz44_3:=blk_frozen BK225.out 3;have hfz44_4:=blk_frozen BK225.out 4;have hfz44_5:=blk_frozen BK225.out 5;have hfz44_6:=blk_frozen BK225.out 6;have hfz44_7:=blk_frozen BK225.out 7;have hfz44_8:=blk_frozen BK225.out 8;have hfz44_9:=blk_frozen BK225.out 9;have hfz44_10:=blk_frozen BK225.out 10;skip)|((with_reducible refine gate_callee (f:=29) rfl ?_);refine goesL_ (some 18) rfl rfl Tryd.func29 (by kernel_rfl) rfl #[.int .u64 a0_10,.int .i64 a0_9] rfl (by (try simp only [List.map_toArray,List.map_cons,List.map_nil]);first|done|rfl|(simp only [List.length_drop,List.length_take];rfl)) ?_;(with_reducible refine (dominoref01_Fixed.calls k a0_10 a0_9 t227 _ A4.out).mono ?_);rintro e w45 ⟨rfl,hb⟩;refine ⟨_,rfl,?_⟩;have n0_:=am_ (blk_below (g:=gb225) (o:=.cells #[.bool true,.bool a0_1,.bool a0_2,.int .i64 a0_3,.int .u32 a0_4,.string a0_5,.string a0_6,.string a0_7,.int .u64 a0_8,.int .i64 a0_9,.int .u64 a0_10] 28 (0,0)) (by (with_reducible repeat (first|refine kn_ ?_ _|refine kd_ ?_|refine ka_ ?_ _));exact BK225.out) hb);have n1_:=am_ (below_step (by repeat (first|(with_reducible first|exact HB.out|apply ba_|apply pn_|apply pd_|refine bs_ ?_ GE225.out)|exact HB.out)) hb);clear BK225;clear HB;have BK225:=n0_;have HB:=n1_;clear n0_ n1_;(try clear hb);(try clear hb2);(try clear hk);(try clear hi);have hcz46_0 : w45.cell? ⟨gb225,0,none⟩ = some (.bool true):=(kc_ BK225.out 0).trans rfl;have hcz46_1 : w45.cell? ⟨gb225,1,none⟩ = some (.bool a0_1):=(kc_ BK225.out 1).trans rfl;have hcz46_2 : w45.cell? ⟨gb225,2,none⟩ = some (.bool a0_2):=(kc_ BK225.out 2).trans rfl;have hcz46_3 : w45.cell? ⟨gb225,3,none⟩ = some (.int .i64 a0_3):=(kc_ BK225.out 3).trans rfl;have hcz46_4 : w45.cell? ⟨gb225,4,none⟩ = some (.int .u32 a0_4):=(kc_ BK225.out 4).trans rfl;have hcz46_5 : w45.cell? ⟨gb225,5,none⟩ = some (.string a0_5):=(kc_ BK225.out 5).trans rfl;have hcz46_6 : w45.cell? ⟨gb225,6,none⟩ = some (.string a0_6):=(kc_ BK225.out 6).trans rfl;have hcz46_7 : w45.cell? ⟨gb225,7,none⟩ = some (.string a0_7):=(kc_ BK225.out 7).trans rfl;have hcz46_8 : w45.cell? ⟨gb225,8,none⟩ = some (.int .u64 a0_8):=(kc_ BK225.out 8).trans rfl;have hcz46_9 : w45.cell? ⟨gb225,9,none⟩ = some (.int .i64 a0_9):=(kc_ BK225.out 9).trans rfl;have hcz46_10 : w45.cell? ⟨gb225,10,none⟩ = some (.int .u64 a0_10):=(kc_ BK225.out 10).trans rfl;have hfz46_0:=blk_frozen BK225.out 0;have hfz46_1:=blk_frozen BK225.out 1;have hfz46_2:=blk_frozen BK225.out 2;have hfz46_3:=blk_frozen BK225.out 3;have hfz46_4:=blk_frozen BK225.out 4;have hfz46_5:=blk_frozen BK225.out 5;have hfz46_6:=blk_frozen BK225.out 6;have hfz46_7:=blk_frozen BK225.out 7;have hfz46_8:=blk_frozen BK225.out 8;have hfz46_9:=blk_frozen BK225.out 9;have hfz46_10:=blk_frozen BK225.out 10;skip))
         have n0_:=am_ (kd_ BK225.out)
         have n1_:=am_ (pd_ HB.out)
         clear BK225
         clear HB
         have BK225:=n0_
         have HB:=n1_
         clear n0_ n1_
         refine start_ (n:=17) (S:=fun w' => w'.cell? ⟨gb225,0,none⟩ = some (.bool true) ∧ w'.cell? ⟨gb225,1,none⟩ = some (.bool a0_1) ∧ w'.cell? ⟨gb225,2,none⟩ = some (.bool a0_2) ∧ w'.cell? ⟨gb225,3,none⟩ = some (.int .i64 a0_3) ∧ w'.cell? ⟨gb225,4,none⟩ = some (.int .u32 a0_4) ∧ w'.cell? ⟨gb225,5,none⟩ = some (.string a0_5) ∧ w'.cell? ⟨gb225,6,none⟩ = some (.string a0_6) ∧ w'.cell? ⟨gb225,7,none⟩ = some (.string a0_7) ∧ w'.cell? ⟨gb225,8,none⟩ = some (.int .u64 a0_8) ∧ w'.cell? ⟨gb225,9,none⟩ = some (.int .i64 a0_9) ∧ w'.cell? ⟨gb225,10,none⟩ = some (.int .u64 a0_10)) (ds:=[]) #[F_,F_,F_,F_,F_,F_,F_,F_,F_,F_,F_,F_,F_,F_,F_,F_,F_] (by kernel_rfl) rfl rfl ⟨(kc_ BK225.out 0).trans rfl,(kc_ BK225.out 1).trans rfl,(kc_ BK225.out 2).trans rfl,(kc_ BK225.out 3).trans rfl,(kc_ BK225.out 4).trans rfl,(kc_ BK225.out 5).trans rfl,(kc_ BK225.out 6).trans rfl,(kc_ BK225.out 7).trans rfl,(kc_ BK225.out 8).trans rfl,(kc_ BK225.out 9).trans rfl,(kc_ BK225.out 10).trans rfl⟩ (fun hHeld => ?_);refine with_tabW dominoref04_Put.tab13 dominoref04_Put.bits13 (fun HT_ HW_ => ?_)
         generalize w45.drew = w47 at BK225 HB hHeld ⊢
         refine pure_ (i:=0) (N:=some 47) (v:=?_) (a':=?_) #[T_,F_,F_,F_,F_,F_,F_,F_,F_,F_,F_,F_,F_,F_,F_,F_,F_] rfl rfl (any_of HT_.out (by kernel_rfl)) (fun _ _ _ h => h) (Or.inl ⟨by rfl,?_⟩) ?_ ?_
         rotate_left;(intro w';go_simp;with_reducible rfl);rotate_left;(simp only [Act.put,ps_,i64_w,i32_w];rfl)
         refine pure_ (i:=3) (N:=some 50) (v:=?_) (a':=?_) #[T_,F_,F_,T_,F_,F_,F_,F_,F_,F_,F_,F_,F_,F_,F_,F_,F_] rfl rfl (any_of HT_.out (by kernel_rfl)) (fun _ _ _ h => h) (Or.inl ⟨by rfl,?_⟩) ?_ ?_
         rotate_left;(intro w';go_simp;with_reducible rfl);rotate_left;(simp only [Act.put,ps_,i64_w,i32_w];rfl)
         refine pure_ (i:=8) (N:=some 55) (v:=?_) (a':=?_) #[T_,F_,F_,T_,F_,F_,F_,F_,T_,F_,F_,F_,F_,F_,F_,F_,F_] rfl rfl (any_of HT_.out (by kernel_rfl)) (fun _ _ _ h => h) (Or.inl ⟨by rfl,?_⟩) ?_ ?_
         rotate_left;(intro w';go_simp;with_reducible rfl);rotate_left;(simp only [Act.put,ps_,i64_w,i32_w];rfl)
         refine pure_ (i:=12) (N:=some 59) (v:=?_) (a':=?_) #[T_,F_,F_,T_,F_,F_,F_,F_,T_,F_,F_,F_,T_,F_,F_,F_,F_] rfl rfl (any_of HT_.out (by kernel_rfl)) (fun _ _ _ h => h) (Or.inl ⟨by rfl,?_⟩) ?_ ?_
         rotate_left;(intro w';go_simp;with_reducible rfl);rotate_left;(simp only [Act.put,ps_,i64_w,i32_w];rfl)
         refine take_ (i:=4) (N:=some 51) (v:=?_) (a':=?_) #[T_,F_,F_,T_,T_,F_,F_,F_,T_,F_,F_,F_,T_,F_,F_,F_,F_] rfl rfl (take_ofW HT_.out HW_.out (by kernel_rfl)) (fun _ _ _ h => h) (Or.inl ⟨by rfl,?_⟩) hHeld ?_ ?_
         rotate_left
         ·rintro w' ⟨s0,s1,s2,s3,s4,s5,s6,s7,s8,s9,s10⟩
          go_simp
          with_reducible rfl
         rotate_left
         ·simp only [Act.put,ps_,i64_w,i32_w]
          rfl
         refine pure_ (i:=5) (N:=some 52) (v:=?_) (a':=?_) #[T_,F_,F_,T_,T_,T_,F_,F_,T_,F_,F_,F_,T_,F_,F_,F_,F_] rfl rfl (any_of HT_.out (by kernel_rfl)) (fun _ _ _ h => h) (Or.inl ⟨by rfl,?_⟩) ?_ ?_
         rotate_left;(intro w';go_simp;with_reducible rfl);rotate_left;(simp only [Act.put,ps_,i64_w,i32_w];rfl)
         refine take_ (i:=9) (N:=some 56) (v:=?_) (a':=?_) #[T_,F_,F_,T_,T_,T_,F_,F_,T_,T_,F_,F_,T_,F_,F_,F_,F_] rfl rfl (take_ofW HT_.out HW_.out (by kernel_rfl)) (fun _ _ _ h => h) (Or.inl ⟨by rfl,?_⟩) hHeld ?_ ?_
         rotate_left
         ·rintro w' ⟨s0,s1,s2,s3,s4,s5,s6,s7,s8,s9,s10⟩
          go_simp
          with_reducible rfl
         rotate_left
         ·simp only [Act.put,ps_,i64_w,i32_w]
          rfl
         refine take_ (i:=13) (N:=some 60) (v:=?_) (a':=?_) #[T_,F_,F_,T_,T_,T_,F_,F_,T_,T_,F_,F_,T_,T_,F_,F_,F_] rfl rfl (take_ofW HT_.out HW_.out (by kernel_rfl)) (fun _ _ _ h => h) (Or.inl ⟨by rfl,?_⟩) hHeld ?_ ?_
         rotate_left
         ·rintro w' ⟨s0,s1,s2,s3,s4,s5,s6,s7,s8,s9,s10⟩
          go_simp
          with_reducible rfl
         rotate_left
         ·simp only [Act.put,ps_,i64_w,i32_w]
          rfl
         refine join_ (σ:=Value) 2 #[T_,T_,T_,T_,T_,T_,T_,T_,T_,T_,T_,T_,T_,T_,T_,F_,F_] (fun s_ => [(48,s_),(49,.string (strOfNums y240)),(53,.string t243),(57,.string t244),(61,.string t245),(54,.string ((strOfNums y240) ++ t243)),(58,.string (((strOfNums y240) ++ t243) ++ t244))]) (fun s_ w' => (w'.cell? ⟨gb225,0,none⟩ = some (.bool true) ∧ w'.cell? ⟨gb225,1,none⟩ = some (.bool a0_1) ∧ w'.cell? ⟨gb225,2,none⟩ = some (.bool a0_2) ∧ w'.cell? ⟨gb225,3,none⟩ = some (.int .i64 a0_3) ∧ w'.cell? ⟨gb225,4,none⟩ = some (.int .u32 a0_4) ∧ w'.cell? ⟨gb225,5,none⟩ = some (.string a0_5) ∧ w'.cell? ⟨gb225,6,none⟩ = some (.string a0_6) ∧ w'.cell? ⟨gb225,7,none⟩ = some (.string a0_7) ∧ w'.cell? ⟨gb225,8,none⟩ = some (.int .u64 a0_8) ∧ w'.cell? ⟨gb225,9,none⟩ = some (.int .i64 a0_9) ∧ w'.cell? ⟨gb225,10,none⟩ = some (.int .u64 a0_10)) ∧ (Kd.R (Kd.int .u8) 5 w' w.heap.size (fun _ => True) s_ y240) ∧ (w'.heap[gb225]? = some (.cells #[.bool true,.bool a0_1,.bool a0_2,.int .i64 a0_3,.int .u32 a0_4,.string a0_5,.string a0_6,.string a0_7,.int .u64 a0_8,.int .i64 a0_9,.int .u64 a0_10] 28 (0,0))) ∧ (Below w.heap.size w w')) ?_ ?_
         rotate_left
         ·intro hJ1_2_6_10_14
          refine join_ (σ:=Value) 3 #[T_,T_,T_,T_,T_,T_,T_,T_,T_,T_,T_,T_,T_,T_,F_,F_,F_] (fun s_ => [(48,s_),(49,.string (strOfNums y240)),(53,.string t243),(57,.string t244),(54,.string ((strOfNums y240) ++ t243)),(58,.string (((strOfNums y240) ++ t243) ++ t244))]) (fun s_ w' => (w'.cell? ⟨gb225,0,none⟩ = some (.bool true) ∧ w'.cell? ⟨gb225,1,none⟩ = some (.bool a0_1) ∧ w'.cell? ⟨gb225,2,none⟩ = some (.bool a0_2) ∧ w'.cell? ⟨gb225,3,none⟩ = some (.int .i64 a0_3) ∧ w'.cell? ⟨gb225,4,none⟩ = some (.int .u32 a0_4) ∧ w'.cell? ⟨gb225,5,none⟩ = some (.string a0_5) ∧ w'.cell? ⟨gb225,6,none⟩ = some (.string a0_6) ∧ w'.cell? ⟨gb225,7,none⟩ = some (.string a0_7) ∧ w'.cell? ⟨gb225,8,none⟩ = some (.int .u64 a0_8) ∧ w'.cell? ⟨gb225,9,none⟩ = some (.int .i64 a0_9) ∧ w'.cell? ⟨gb225,10,none⟩ = some (.int .u64 a0_10)) ∧ (Kd.R (Kd.int .u8) 5 w' w.heap.size (fun _ => True) s_ y240) ∧ (w'.heap[gb225]? = some (.cells #[.bool true,.bool a0_1,.bool a0_2,.int .i64 a0_3,.int .u32 a0_4,.string a0_5,.string a0_6,.string a0_7,.int .u64 a0_8,.int .i64 a0_9,.int .u64 a0_10] 28 (0,0))) ∧ (Below w.heap.size w w')) ?_ ?_
          rotate_left
          ·intro hJ1_2_6_10
           refine join_ (σ:=Value) 5 #[T_,T_,F_,T_,T_,T_,T_,F_,T_,T_,T_,F_,T_,T_,T_,F_,F_] (fun s_ => [(48,s_),(53,.string t243),(57,.string t244),(61,.string t245)]) (fun s_ w' => (w'.cell? ⟨gb225,0,none⟩ = some (.bool true) ∧ w'.cell? ⟨gb225,1,none⟩ = some (.bool a0_1) ∧ w'.cell? ⟨gb225,2,none⟩ = some (.bool a0_2) ∧ w'.cell? ⟨gb225,3,none⟩ = some (.int .i64 a0_3) ∧ w'.cell? ⟨gb225,4,none⟩ = some (.int .u32 a0_4) ∧ w'.cell? ⟨gb225,5,none⟩ = some (.string a0_5) ∧ w'.cell? ⟨gb225,6,none⟩ = some (.string a0_6) ∧ w'.cell? ⟨gb225,7,none⟩ = some (.string a0_7) ∧ w'.cell? ⟨gb225,8,none⟩ = some (.int .u64 a0_8) ∧ w'.cell? ⟨gb225,9,none⟩ = some (.int .i64 a0_9) ∧ w'.cell? ⟨gb225,10,none⟩ = some (.int .u64 a0_10)) ∧ (Kd.R (Kd.int .u8) 5 w' w.heap.size (fun _ => True) s_ y240) ∧ (w'.heap[gb225]? = some (.cells #[.bool true,.bool a0_1,.bool a0_2,.int .i64 a0_3,.int .u32 a0_4,.string a0_5,.string a0_6,.string a0_7,.int .u64 a0_8,.int .i64 a0_9,.int .u64 a0_10] 28 (0,0))) ∧ (Below w.heap.size w w')) ?_ ?_
           rotate_left
           ·intro hJ1_6_10_14
            refine join_ (σ:=Value) 5 #[T_,T_,T_,T_,T_,T_,T_,T_,T_,T_,F_,F_,T_,T_,F_,F_,F_] (fun s_ => [(48,s_),(49,.string (strOfNums y240)),(53,.string t243),(54,.string ((strOfNums y240) ++ t243))]) (fun s_ w' => (w'.cell? ⟨gb225,0,none⟩ = some (.bool true) ∧ w'.cell? ⟨gb225,1,none⟩ = some (.bool a0_1) ∧ w'.cell? ⟨gb225,2,none⟩ = some (.bool a0_2) ∧ w'.cell? ⟨gb225,3,none⟩ = some (.int .i64 a0_3) ∧ w'.cell? ⟨gb225,4,none⟩ = some (.int .u32 a0_4) ∧ w'.cell? ⟨gb225,5,none⟩ = some (.string a0_5) ∧ w'.cell? ⟨gb225,6,none⟩ = some (.string a0_6) ∧ w'.cell? ⟨gb225,7,none⟩ = some (.string a0_7) ∧ w'.cell? ⟨gb225,8,none⟩ = some (.int .u64 a0_8) ∧ w'.cell? ⟨gb225,9,none⟩ = some (.int .i64 a0_9) ∧ w'.cell? ⟨gb225,10,none⟩ = some (.int .u64 a0_10)) ∧ (Kd.R (Kd.int .u8) 5 w' w.heap.size (fun _ => True) s_ y240) ∧ (w'.heap[gb225]? = some (.cells #[.bool true,.bool a0_1,.bool a0_2,.int .i64 a0_3,.int .u32 a0_4,.string a0_5,.string a0_6,.string a0_7,.int .u64 a0_8,.int .i64 a0_9,.int .u64 a0_10] 28 (0,0))) ∧ (Below w.heap.size w w')) ?_ ?_
            rotate_left
            ·intro hJ1_2_6
             refine join_ (σ:=Value) 6 #[T_,T_,F_,T_,T_,T_,T_,F_,T_,T_,T_,F_,T_,T_,F_,F_,F_] (fun s_ => [(48,s_),(53,.string t243),(57,.string t244)]) (fun s_ w' => (w'.cell? ⟨gb225,0,none⟩ = some (.bool true) ∧ w'.cell? ⟨gb225,1,none⟩ = some (.bool a0_1) ∧ w'.cell? ⟨gb225,2,none⟩ = some (.bool a0_2) ∧ w'.cell? ⟨gb225,3,none⟩ = some (.int .i64 a0_3) ∧ w'.cell? ⟨gb225,4,none⟩ = some (.int .u32 a0_4) ∧ w'.cell? ⟨gb225,5,none⟩ = some (.string a0_5) ∧ w'.cell? ⟨gb225,6,none⟩ = some (.string a0_6) ∧ w'.cell? ⟨gb225,7,none⟩ = some (.string a0_7) ∧ w'.cell? ⟨gb225,8,none⟩ = some (.int .u64 a0_8) ∧ w'.cell? ⟨gb225,9,none⟩ = some (.int .i64 a0_9) ∧ w'.cell? ⟨gb225,10,none⟩ = some (.int .u64 a0_10)) ∧ (Kd.R (Kd.int .u8) 5 w' w.heap.size (fun _ => True) s_ y240) ∧ (w'.heap[gb225]? = some (.cells #[.bool true,.bool a0_1,.bool a0_2,.int .i64 a0_3,.int .u32 a0_4,.string a0_5,.string a0_6,.string a0_7,.int .u64 a0_8,.int .i64 a0_9,.int .u64 a0_10] 28 (0,0))) ∧ (Below w.heap.size w w')) ?_ ?_
             rotate_left
             ·intro hJ1_6_10
              refine join_ (σ:=Unit) 6 #[T_,F_,F_,T_,T_,T_,T_,F_,T_,T_,T_,F_,T_,T_,T_,F_,F_] (fun s_ => [(53,.string t243),(57,.string t244),(61,.string t245)]) (fun s_ w' => (w'.cell? ⟨gb225,0,none⟩ = some (.bool true) ∧ w'.cell? ⟨gb225,1,none⟩ = some (.bool a0_1) ∧ w'.cell? ⟨gb225,2,none⟩ = some (.bool a0_2) ∧ w'.cell? ⟨gb225,3,none⟩ = some (.int .i64 a0_3) ∧ w'.cell? ⟨gb225,4,none⟩ = some (.int .u32 a0_4) ∧ w'.cell? ⟨gb225,5,none⟩ = some (.string a0_5) ∧ w'.cell? ⟨gb225,6,none⟩ = some (.string a0_6) ∧ w'.cell? ⟨gb225,7,none⟩ = some (.string a0_7) ∧ w'.cell? ⟨gb225,8,none⟩ = some (.int .u64 a0_8) ∧ w'.cell? ⟨gb225,9,none⟩ = some (.int .i64 a0_9) ∧ w'.cell? ⟨gb225,10,none⟩ = some (.int .u64 a0_10)) ∧ (w'.heap[gb225]? = some (.cells #[.bool true,.bool a0_1,.bool a0_2,.int .i64 a0_3,.int .u32 a0_4,.string a0_5,.string a0_6,.string a0_7,.int .u64 a0_8,.int .i64 a0_9,.int .u64 a0_10] 28 (0,0))) ∧ (Below w.heap.size w w')) ?_ ?_
              rotate_left
              ·intro hJ6_10_14
               refine join_ (σ:=Value) 7 #[T_,T_,T_,T_,T_,T_,F_,F_,T_,T_,F_,F_,T_,T_,F_,F_,F_] (fun s_ => [(48,s_),(49,.string (strOfNums y240))]) (fun s_ w' => (w'.cell? ⟨gb225,0,none⟩ = some (.bool true) ∧ w'.cell? ⟨gb225,1,none⟩ = some (.bool a0_1) ∧ w'.cell? ⟨gb225,2,none⟩ = some (.bool a0_2) ∧ w'.cell? ⟨gb225,3,none⟩ = some (.int .i64 a0_3) ∧ w'.cell? ⟨gb225,4,none⟩ = some (.int .u32 a0_4) ∧ w'.cell? ⟨gb225,5,none⟩ = some (.string a0_5) ∧ w'.cell? ⟨gb225,6,none⟩ = some (.string a0_6) ∧ w'.cell? ⟨gb225,7,none⟩ = some (.string a0_7) ∧ w'.cell? ⟨gb225,8,none⟩ = some (.int .u64 a0_8) ∧ w'.cell? ⟨gb225,9,none⟩ = some (.int .i64 a0_9) ∧ w'.cell? ⟨gb225,10,none⟩ = some (.int .u64 a0_10)) ∧ (Kd.R (Kd.int .u8) 5 w' w.heap.size (fun _ => True) s_ y240) ∧ (w'.heap[gb225]? = some (.cells #[.bool true,.bool a0_1,.bool a0_2,.int .i64 a0_3,.int .u32 a0_4,.string a0_5,.string a0_6,.string a0_7,.int .u64 a0_8,.int .i64 a0_9,.int .u64 a0_10] 28 (0,0))) ∧ (Below w.heap.size w w')) ?_ ?_
               rotate_left
               ·intro hJ1_2
                refine join_ (σ:=Value) 7 #[T_,T_,F_,T_,T_,T_,T_,F_,T_,T_,F_,F_,T_,T_,F_,F_,F_] (fun s_ => [(48,s_),(53,.string t243)]) (fun s_ w' => (w'.cell? ⟨gb225,0,none⟩ = some (.bool true) ∧ w'.cell? ⟨gb225,1,none⟩ = some (.bool a0_1) ∧ w'.cell? ⟨gb225,2,none⟩ = some (.bool a0_2) ∧ w'.cell? ⟨gb225,3,none⟩ = some (.int .i64 a0_3) ∧ w'.cell? ⟨gb225,4,none⟩ = some (.int .u32 a0_4) ∧ w'.cell? ⟨gb225,5,none⟩ = some (.string a0_5) ∧ w'.cell? ⟨gb225,6,none⟩ = some (.string a0_6) ∧ w'.cell? ⟨gb225,7,none⟩ = some (.string a0_7) ∧ w'.cell? ⟨gb225,8,none⟩ = some (.int .u64 a0_8) ∧ w'.cell? ⟨gb225,9,none⟩ = some (.int .i64 a0_9) ∧ w'.cell? ⟨gb225,10,none⟩ = some (.int .u64 a0_10)) ∧ (Kd.R (Kd.int .u8) 5 w' w.heap.size (fun _ => True) s_ y240) ∧ (w'.heap[gb225]? = some (.cells #[.bool true,.bool a0_1,.bool a0_2,.int .i64 a0_3,.int .u32 a0_4,.string a0_5,.string a0_6,.string a0_7,.int .u64 a0_8,.int .i64 a0_9,.int .u64 a0_10] 28 (0,0))) ∧ (Below w.heap.size w w')) ?_ ?_
                rotate_left
                ·intro hJ1_6
                 refine join_ (σ:=Unit) 7 #[T_,F_,F_,T_,T_,T_,T_,F_,T_,T_,T_,F_,T_,T_,F_,F_,F_] (fun s_ => [(53,.string t243),(57,.string t244)]) (fun s_ w' => (w'.cell? ⟨gb225,0,none⟩ = some (.bool true) ∧ w'.cell? ⟨gb225,1,none⟩ = some (.bool a0_1) ∧ w'.cell? ⟨gb225,2,none⟩ = some (.bool a0_2) ∧ w'.cell? ⟨gb225,3,none⟩ = some (.int .i64 a0_3) ∧ w'.cell? ⟨gb225,4,none⟩ = some (.int .u32 a0_4) ∧ w'.cell? ⟨gb225,5,none⟩ = some (.string a0_5) ∧ w'.cell? ⟨gb225,6,none⟩ = some (.string a0_6) ∧ w'.cell? ⟨gb225,7,none⟩ = some (.string a0_7) ∧ w'.cell? ⟨gb225,8,none⟩ = some (.int .u64 a0_8) ∧ w'.cell? ⟨gb225,9,none⟩ = some (.int .i64 a0_9) ∧ w'.cell? ⟨gb225,10,none⟩ = some (.int .u64 a0_10)) ∧ (w'.heap[gb225]? = some (.cells #[.bool true,.bool a0_1,.bool a0_2,.int .i64 a0_3,.int .u32 a0_4,.string a0_5,.string a0_6,.string a0_7,.int .u64 a0_8,.int .i64 a0_9,.int .u64 a0_10] 28 (0,0))) ∧ (Below w.heap.size w w')) ?_ ?_
                 rotate_left
                 ·intro hJ6_10
                  refine join_ (σ:=Value) 8 #[T_,T_,F_,T_,T_,T_,F_,F_,T_,T_,F_,F_,T_,T_,F_,F_,F_] (fun s_ => [(48,s_)]) (fun s_ w' => (w'.cell? ⟨gb225,0,none⟩ = some (.bool true) ∧ w'.cell? ⟨gb225,1,none⟩ = some (.bool a0_1) ∧ w'.cell? ⟨gb225,2,none⟩ = some (.bool a0_2) ∧ w'.cell? ⟨gb225,3,none⟩ = some (.int .i64 a0_3) ∧ w'.cell? ⟨gb225,4,none⟩ = some (.int .u32 a0_4) ∧ w'.cell? ⟨gb225,5,none⟩ = some (.string a0_5) ∧ w'.cell? ⟨gb225,6,none⟩ = some (.string a0_6) ∧ w'.cell? ⟨gb225,7,none⟩ = some (.string a0_7) ∧ w'.cell? ⟨gb225,8,none⟩ = some (.int .u64 a0_8) ∧ w'.cell? ⟨gb225,9,none⟩ = some (.int .i64 a0_9) ∧ w'.cell? ⟨gb225,10,none⟩ = some (.int .u64 a0_10)) ∧ (Kd.R (Kd.int .u8) 5 w' w.heap.size (fun _ => True) s_ y240) ∧ (w'.heap[gb225]? = some (.cells #[.bool true,.bool a0_1,.bool a0_2,.int .i64 a0_3,.int .u32 a0_4,.string a0_5,.string a0_6,.string a0_7,.int .u64 a0_8,.int .i64 a0_9,.int .u64 a0_10] 28 (0,0))) ∧ (Below w.heap.size w w')) ?_ ?_
                  rotate_left
                  ·intro hJ1
                   refine join_ (σ:=Unit) 8 #[T_,F_,F_,T_,T_,T_,T_,F_,T_,T_,F_,F_,T_,T_,F_,F_,F_] (fun s_ => [(53,.string t243)]) (fun s_ w' => (w'.cell? ⟨gb225,0,none⟩ = some (.bool true) ∧ w'.cell? ⟨gb225,1,none⟩ = some (.bool a0_1) ∧ w'.cell? ⟨gb225,2,none⟩ = some (.bool a0_2) ∧ w'.cell? ⟨gb225,3,none⟩ = some (.int .i64 a0_3) ∧ w'.cell? ⟨gb225,4,none⟩ = some (.int .u32 a0_4) ∧ w'.cell? ⟨gb225,5,none⟩ = some (.string a0_5) ∧ w'.cell? ⟨gb225,6,none⟩ = some (.string a0_6) ∧ w'.cell? ⟨gb225,7,none⟩ = some (.string a0_7) ∧ w'.cell? ⟨gb225,8,none⟩ = some (.int .u64 a0_8) ∧ w'.cell? ⟨gb225,9,none⟩ = some (.int .i64 a0_9) ∧ w'.cell? ⟨gb225,10,none⟩ = some (.int .u64 a0_10)) ∧ (w'.heap[gb225]? = some (.cells #[.bool true,.bool a0_1,.bool a0_2,.int .i64 a0_3,.int .u32 a0_4,.string a0_5,.string a0_6,.string a0_7,.int .u64 a0_8,.int .i64 a0_9,.int .u64 a0_10] 28 (0,0))) ∧ (Below w.heap.size w w')) ?_ ?_
                   rotate_left
                   ·intro hJ6
                    refine two_ (i:=1) (j:=6) (Ni:=some 48) (Nj:=some 53) #[T_,T_,F_,T_,T_,T_,F_,F_,T_,T_,F_,F_,T_,T_,F_,F_,F_] #[T_,F_,F_,T_,T_,T_,T_,F_,T_,T_,F_,F_,T_,T_,F_,F_,F_] rfl rfl rfl rfl (two_of HT_.out (by kernel_rfl)) (by decide) (by decide) (fun K hK => ?_) (fun K hK => ?_)
                    ·skip
                     refine Kd.R_lit_step (Kd.int .u8) _ 5 ?hg (N:=48) ?hd (xs:=([(((((wrap64 (a0_9 - 1)) % 256) + 192) % 256) + ((wrap64 (16 * a0_3)) % 256)) % 256] : List Int)) (inner:=[.int .u8 ((((((wrap64 (a0_9 - 1)) % 256) + 192) % 256) + ((wrap64 (16 * a0_3)) % 256)) % 256)]) (ok:=fun _ => True) (okp:=fun _ => True) ?hr ?hp (fun _ hk => hk) trivial (Below.refl _ _) (Nat.le_refl _) (by simp) ?_;(case hd => rfl);(case hg => rfl);(case hr => first|(go_simp;done)|(go_simp;rfl));(case hp => exact (Reps.one (show Kd.M (Kd.int .u8) _ _ _ ((((((wrap64 (a0_9 - 1)) % 256) + 192) % 256) + ((wrap64 (16 * a0_3)) % 256)) % 256) [.int .u8 ((((((wrap64 (a0_9 - 1)) % 256) + 192) % 256) + ((wrap64 (16 * a0_3)) % 256)) % 256)] from rfl) (Reps.none _ _)))
                     intro v241 w48 ho49 hb hg_ hnew_
                     clear hg_ hnew_
                     (first|rw [← Ny240.out] at ho49|(simp only [Int.reduceToNat] at ho49;rw [← Ny240.out] at ho49))
                     have n0_:=am_ (Kd.R_lower ho49 (below_size (by repeat (first|(with_reducible first|exact HB.out|apply ba_|apply pn_|apply pd_|refine bs_ ?_ GE225.out)|exact HB.out))))
                     have n1_:=am_ (blk_below (g:=gb225) (o:=.cells #[.bool true,.bool a0_1,.bool a0_2,.int .i64 a0_3,.int .u32 a0_4,.string a0_5,.string a0_6,.string a0_7,.int .u64 a0_8,.int .i64 a0_9,.int .u64 a0_10] 28 (0,0)) (by (with_reducible repeat (first|refine kn_ ?_ _|refine kd_ ?_|refine ka_ ?_ _));exact BK225.out) hb)
                     have n2_:=am_ (below_step (by repeat (first|(with_reducible first|exact HB.out|apply ba_|apply pn_|apply pd_|refine bs_ ?_ GE225.out)|exact HB.out)) hb)
                     clear BK225
                     clear HB
                     have HO242:=n0_
                     have BK225:=n1_
                     have HB:=n2_
                     clear n0_ n1_ n2_
                     clear hb ho49
                     refine hK.out _ _ ⟨(kc_ BK225.out 0).trans rfl,(kc_ BK225.out 1).trans rfl,(kc_ BK225.out 2).trans rfl,(kc_ BK225.out 3).trans rfl,(kc_ BK225.out 4).trans rfl,(kc_ BK225.out 5).trans rfl,(kc_ BK225.out 6).trans rfl,(kc_ BK225.out 7).trans rfl,(kc_ BK225.out 8).trans rfl,(kc_ BK225.out 9).trans rfl,(kc_ BK225.out 10).trans rfl⟩ (fun hHeld => ?_)
                     clear hK K
                     refine norm_ (a':=?_) ?_ ?_
                     rotate_left
                     ·show Act.put _ (some 48) _ = _
                      simp only [Act.put,ps_,i64_w,i32_w]
                      rfl
                     exact norm_ (by first|(simp only [putAll,Act.put,ps_];done)|(simp only [putAll,Act.put,ps_];rfl)) (hJ1 (v241) _ ⟨hHeld,(by (with_reducible repeat (first|apply ra_|apply rn_|apply rd_));exact HO242.out),(by (with_reducible repeat (first|refine kn_ ?_ _|refine kd_ ?_|refine ka_ ?_ _));exact BK225.out),(by repeat (first|(with_reducible first|exact HB.out|apply ba_|apply pn_|apply pd_|refine bs_ ?_ GE225.out)|exact HB.out))⟩)
                    ·skip
                     refine goes_ Tryd.func29 (by kernel_rfl) rfl #[.int .u64 (IntKind.u64.wrap (a0_4)),.int .i64 4] (by rfl) rfl rfl (by (try simp only [List.map_toArray,List.map_cons,List.map_nil]);first|done|rfl|(simp only [List.length_drop,List.length_take];rfl)) ?_
                     with_reducible refine (dominoref01_Fixed.calls k (IntKind.u64.wrap (a0_4)) 4 t243 _ A6.out).mono ?_
                     rintro e w48 ⟨rfl,hb⟩
                     refine ⟨_,rfl,?_⟩
                     have n0_:=am_ (blk_below (g:=gb225) (o:=.cells #[.bool true,.bool a0_1,.bool a0_2,.int .i64 a0_3,.int .u32 a0_4,.string a0_5,.string a0_6,.string a0_7,.int .u64 a0_8,.int .i64 a0_9,.int .u64 a0_10] 28 (0,0)) (by (with_reducible repeat (first|refine kn_ ?_ _|refine kd_ ?_|refine ka_ ?_ _));exact BK225.out) hb)
                     have n1_:=am_ (below_step (by repeat (first|(with_reducible first|exact HB.out|apply ba_|apply pn_|apply pd_|refine bs_ ?_ GE225.out)|exact HB.out)) hb)
                     clear BK225
                     clear HB
                     have BK225:=n0_
                     have HB:=n1_
                     clear n0_ n1_
                     (try clear hb)
                     (try clear hb2)
                     (try clear hk)
                     (try clear hi)
                     refine hK.out _ _ ⟨(kc_ BK225.out 0).trans rfl,(kc_ BK225.out 1).trans rfl,(kc_ BK225.out 2).trans rfl,(kc_ BK225.out 3).trans rfl,(kc_ BK225.out 4).trans rfl,(kc_ BK225.out 5).trans rfl,(kc_ BK225.out 6).trans rfl,(kc_ BK225.out 7).trans rfl,(kc_ BK225.out 8).trans rfl,(kc_ BK225.out 9).trans rfl,(kc_ BK225.out 10).trans rfl⟩ (fun hHeld => ?_)
                     clear hK K
                     refine norm_ (a':=?_) ?_ ?_
                     rotate_left
                     ·show Act.put _ (some 53) _ = _
                      simp only [Act.put,ps_,i64_w,i32_w]
                      rfl
                     exact norm_ (by first|(simp only [putAll,Act.put,ps_];done)|(simp only [putAll,Act.put,ps_];rfl)) (hJ6 () _ ⟨hHeld,(by (with_reducible repeat (first|refine kn_ ?_ _|refine kd_ ?_|refine ka_ ?_ _));exact BK225.out),(by repeat (first|(with_reducible first|exact HB.out|apply ba_|apply pn_|apply pd_|refine bs_ ?_ GE225.out)|exact HB.out))⟩)
                   ·skip
                    rintro _ w49 ⟨hS_,h0_,h1_⟩
                    have n0_ : Aside0 (w49.heap[gb225]? = some (.cells #[.bool true,.bool a0_1,.bool a0_2,.int .i64 a0_3,.int .u32 a0_4,.string a0_5,.string a0_6,.string a0_7,.int .u64 a0_8,.int .i64 a0_9,.int .u64 a0_10] 28 (0,0))):=⟨h0_⟩
                    have n1_ : Aside0 (Below w.heap.size w w49):=⟨h1_⟩
                    clear BK225
                    clear HB
                    clear h0_ h1_
                    have BK225:=n0_
                    have HB:=n1_
                    clear n0_ n1_
                    have hHeld : w49.cell? ⟨gb225,0,none⟩ = some (.bool true) ∧ w49.cell? ⟨gb225,1,none⟩ = some (.bool a0_1) ∧ w49.cell? ⟨gb225,2,none⟩ = some (.bool a0_2) ∧ w49.cell? ⟨gb225,3,none⟩ = some (.int .i64 a0_3) ∧ w49.cell? ⟨gb225,4,none⟩ = some (.int .u32 a0_4) ∧ w49.cell? ⟨gb225,5,none⟩ = some (.string a0_5) ∧ w49.cell? ⟨gb225,6,none⟩ = some (.string a0_6) ∧ w49.cell? ⟨gb225,7,none⟩ = some (.string a0_7) ∧ w49.cell? ⟨gb225,8,none⟩ = some (.int .u64 a0_8) ∧ w49.cell? ⟨gb225,9,none⟩ = some (.int .i64 a0_9) ∧ w49.cell? ⟨gb225,10,none⟩ = some (.int .u64 a0_10):=hS_
                    refine norm_ (a':=?_) ?_ ?_
                    rotate_left
                    ·simp only [putAll,Act.put,ps_]
                     rfl
                    refine two_ (i:=1) (j:=10) (Ni:=some 48) (Nj:=some 57) #[T_,T_,F_,T_,T_,T_,T_,F_,T_,T_,F_,F_,T_,T_,F_,F_,F_] #[T_,F_,F_,T_,T_,T_,T_,F_,T_,T_,T_,F_,T_,T_,F_,F_,F_] rfl rfl rfl rfl (two_of HT_.out (by kernel_rfl)) (by decide) (by decide) (fun K hK => ?_) (fun K hK => ?_)
                    ·skip
                     refine Kd.R_lit_step (Kd.int .u8) _ 5 ?hg (N:=48) ?hd (xs:=([(((((wrap64 (a0_9 - 1)) % 256) + 192) % 256) + ((wrap64 (16 * a0_3)) % 256)) % 256] : List Int)) (inner:=[.int .u8 ((((((wrap64 (a0_9 - 1)) % 256) + 192) % 256) + ((wrap64 (16 * a0_3)) % 256)) % 256)]) (ok:=fun _ => True) (okp:=fun _ => True) ?hr ?hp (fun _ hk => hk) trivial (Below.refl _ _) (Nat.le_refl _) (by simp) ?_;(case hd => rfl);(case hg => rfl);(case hr => first|(go_simp;done)|(go_simp;rfl));(case hp => exact (Reps.one (show Kd.M (Kd.int .u8) _ _ _ ((((((wrap64 (a0_9 - 1)) % 256) + 192) % 256) + ((wrap64 (16 * a0_3)) % 256)) % 256) [.int .u8 ((((((wrap64 (a0_9 - 1)) % 256) + 192) % 256) + ((wrap64 (16 * a0_3)) % 256)) % 256)] from rfl) (Reps.none _ _)))
                     intro v241 w50 ho51 hb hg_ hnew_
                     clear hg_ hnew_
                     (first|rw [← Ny240.out] at ho51|(simp only [Int.reduceToNat] at ho51;rw [← Ny240.out] at ho51))
                     have n0_:=am_ (Kd.R_lower ho51 (below_size (by repeat (first|(with_reducible first|exact HB.out|apply ba_|apply pn_|apply pd_|refine bs_ ?_ GE225.out)|exact HB.out))))
                     have n1_:=am_ (blk_below (g:=gb225) (o:=.cells #[.bool true,.bool a0_1,.bool a0_2,.int .i64 a0_3,.int .u32 a0_4,.string a0_5,.string a0_6,.string a0_7,.int .u64 a0_8,.int .i64 a0_9,.int .u64 a0_10] 28 (0,0)) (by (with_reducible repeat (first|refine kn_ ?_ _|refine kd_ ?_|refine ka_ ?_ _));exact BK225.out) hb)
                     have n2_:=am_ (below_step (by repeat (first|(with_reducible first|exact HB.out|apply ba_|apply pn_|apply pd_|refine bs_ ?_ GE225.out)|exact HB.out)) hb)
                     clear BK225
                     clear HB
                     have HO242:=n0_
                     have BK225:=n1_
                     have HB:=n2_
                     clear n0_ n1_ n2_
                     clear hb ho51
                     refine hK.out _ _ ⟨(kc_ BK225.out 0).trans rfl,(kc_ BK225.out 1).trans rfl,(kc_ BK225.out 2).trans rfl,(kc_ BK225.out 3).trans rfl,(kc_ BK225.out 4).trans rfl,(kc_ BK225.out 5).trans rfl,(kc_ BK225.out 6).trans rfl,(kc_ BK225.out 7).trans rfl,(kc_ BK225.out 8).trans rfl,(kc_ BK225.out 9).trans rfl,(kc_ BK225.out 10).trans rfl⟩ (fun hHeld => ?_)
                     clear hK K
                     refine norm_ (a':=?_) ?_ ?_
                     rotate_left
                     ·show Act.put _ (some 48) _ = _
                      simp only [Act.put,ps_,i64_w,i32_w]
                      rfl
                     exact norm_ (by first|(simp only [putAll,Act.put,ps_];done)|(simp only [putAll,Act.put,ps_];rfl)) (hJ1_6 (v241) _ ⟨hHeld,(by (with_reducible repeat (first|apply ra_|apply rn_|apply rd_));exact HO242.out),(by (with_reducible repeat (first|refine kn_ ?_ _|refine kd_ ?_|refine ka_ ?_ _));exact BK225.out),(by repeat (first|(with_reducible first|exact HB.out|apply ba_|apply pn_|apply pd_|refine bs_ ?_ GE225.out)|exact HB.out))⟩)
                    ·skip
                     refine goes_ Tryd.func30 (by kernel_rfl) rfl #[.string a0_5] (by rfl) rfl rfl (by (try simp only [List.map_toArray,List.map_cons,List.map_nil]);first|done|rfl|(simp only [List.length_drop,List.length_take];rfl)) ?_
                     with_reducible refine (dominoref04_short.calls a0_5 t244 _ A8.out).mono ?_
                     rintro e w50 ⟨rfl,hb⟩
                     refine ⟨_,rfl,?_⟩
                     have n0_:=am_ (blk_below (g:=gb225) (o:=.cells #[.bool true,.bool a0_1,.bool a0_2,.int .i64 a0_3,.int .u32 a0_4,.string a0_5,.string a0_6,.string a0_7,.int .u64 a0_8,.int .i64 a0_9,.int .u64 a0_10] 28 (0,0)) (by (with_reducible repeat (first|refine kn_ ?_ _|refine kd_ ?_|refine ka_ ?_ _));exact BK225.out) hb)
                     have n1_:=am_ (below_step (by repeat (first|(with_reducible first|exact HB.out|apply ba_|apply pn_|apply pd_|refine bs_ ?_ GE225.out)|exact HB.out)) hb)
                     clear BK225
                     clear HB
                     have BK225:=n0_
                     have HB:=n1_
                     clear n0_ n1_
                     (try clear hb)
                     (try clear hb2)
                     (try clear hk)
                     (try clear hi)
                     refine hK.out _ _ ⟨(kc_ BK225.out 0).trans rfl,(kc_ BK225.out 1).trans rfl,(kc_ BK225.out 2).trans rfl,(kc_ BK225.out 3).trans rfl,(kc_ BK225.out 4).trans rfl,(kc_ BK225.out 5).trans rfl,(kc_ BK225.out 6).trans rfl,(kc_ BK225.out 7).trans rfl,(kc_ BK225.out 8).trans rfl,(kc_ BK225.out 9).trans rfl,(kc_ BK225.out 10).trans rfl⟩ (fun hHeld => ?_)
                     clear hK K
                     refine norm_ (a':=?_) ?_ ?_
                     rotate_left
                     ·show Act.put _ (some 57) _ = _
                      simp only [Act.put,ps_,i64_w,i32_w]
                      rfl
                     exact norm_ (by first|(simp only [putAll,Act.put,ps_];done)|(simp only [putAll,Act.put,ps_];rfl)) (hJ6_10 () _ ⟨hHeld,(by (with_reducible repeat (first|refine kn_ ?_ _|refine kd_ ?_|refine ka_ ?_ _));exact BK225.out),(by repeat (first|(with_reducible first|exact HB.out|apply ba_|apply pn_|apply pd_|refine bs_ ?_ GE225.out)|exact HB.out))⟩)
                  ·skip
                   rintro v241 w50 ⟨hS_,h0_,h1_,h2_⟩
                   have n0_ : Aside0 (Kd.R (Kd.int .u8) 5 w50 w.heap.size (fun _ => True) v241 y240):=⟨h0_⟩
                   have n1_ : Aside0 (w50.heap[gb225]? = some (.cells #[.bool true,.bool a0_1,.bool a0_2,.int .i64 a0_3,.int .u32 a0_4,.string a0_5,.string a0_6,.string a0_7,.int .u64 a0_8,.int .i64 a0_9,.int .u64 a0_10] 28 (0,0))):=⟨h1_⟩
                   have n2_ : Aside0 (Below w.heap.size w w50):=⟨h2_⟩
                   clear BK225
                   clear HB
                   clear h0_ h1_ h2_
                   have HO242:=n0_
                   have BK225:=n1_
                   have HB:=n2_
                   clear n0_ n1_ n2_
                   have hHeld : w50.cell? ⟨gb225,0,none⟩ = some (.bool true) ∧ w50.cell? ⟨gb225,1,none⟩ = some (.bool a0_1) ∧ w50.cell? ⟨gb225,2,none⟩ = some (.bool a0_2) ∧ w50.cell? ⟨gb225,3,none⟩ = some (.int .i64 a0_3) ∧ w50.cell? ⟨gb225,4,none⟩ = some (.int .u32 a0_4) ∧ w50.cell? ⟨gb225,5,none⟩ = some (.string a0_5) ∧ w50.cell? ⟨gb225,6,none⟩ = some (.string a0_6) ∧ w50.cell? ⟨gb225,7,none⟩ = some (.string a0_7) ∧ w50.cell? ⟨gb225,8,none⟩ = some (.int .u64 a0_8) ∧ w50.cell? ⟨gb225,9,none⟩ = some (.int .i64 a0_9) ∧ w50.cell? ⟨gb225,10,none⟩ = some (.int .u64 a0_10):=hS_
                   refine norm_ (a':=?_) ?_ ?_
                   rotate_left
                   ·simp only [putAll,Act.put,ps_]
                    rfl
                   refine two_ (i:=2) (j:=6) (Ni:=some 49) (Nj:=some 53) #[T_,T_,T_,T_,T_,T_,F_,F_,T_,T_,F_,F_,T_,T_,F_,F_,F_] #[T_,T_,F_,T_,T_,T_,T_,F_,T_,T_,F_,F_,T_,T_,F_,F_,F_] rfl rfl rfl rfl (two_of HT_.out (by kernel_rfl)) (by decide) (by decide) (fun K hK => ?_) (fun K hK => ?_)
                   ·skip
                    have hcv51:=own_string (P:=Tryd.prog) Tryd.underlying44 Tryd.underlying5 Tryd.underlying9 (Kd.own_of_R HO242.out)
                    refine value_ (w1:=?_) (v:=?_) (by rfl) rfl ?_ ?_
                    rotate_left 2
                    ·go_simp
                     constructor
                     ·rfl
                     ·rfl
                    clear hcv51
                    refine hK.out _ _ ⟨(kc_ BK225.out 0).trans rfl,(kc_ BK225.out 1).trans rfl,(kc_ BK225.out 2).trans rfl,(kc_ BK225.out 3).trans rfl,(kc_ BK225.out 4).trans rfl,(kc_ BK225.out 5).trans rfl,(kc_ BK225.out 6).trans rfl,(kc_ BK225.out 7).trans rfl,(kc_ BK225.out 8).trans rfl,(kc_ BK225.out 9).trans rfl,(kc_ BK225.out 10).trans rfl⟩ (fun hHeld => ?_)
                    clear hK K
                    refine norm_ (a':=?_) ?_ ?_
                    rotate_left
                    ·show Act.put _ (some 49) _ = _
                     simp only [Act.put,ps_,i64_w,i32_w]
                     rfl
                    exact norm_ (by first|(simp only [putAll,Act.put,ps_];done)|(simp only [putAll,Act.put,ps_];rfl)) (hJ1_2 (v241) _ ⟨hHeld,(by (with_reducible repeat (first|apply ra_|apply rn_|apply rd_));exact HO242.out),(by (with_reducible repeat (first|refine kn_ ?_ _|refine kd_ ?_|refine ka_ ?_ _));exact BK225.out),(by repeat (first|(with_reducible first|exact HB.out|apply ba_|apply pn_|apply pd_|refine bs_ ?_ GE225.out)|exact HB.out))⟩)
                   ·skip
                    refine goes_ Tryd.func29 (by kernel_rfl) rfl #[.int .u64 (IntKind.u64.wrap (a0_4)),.int .i64 4] (by rfl) rfl rfl (by (try simp only [List.map_toArray,List.map_cons,List.map_nil]);first|done|rfl|(simp only [List.length_drop,List.length_take];rfl)) ?_
                    with_reducible refine (dominoref01_Fixed.calls k (IntKind.u64.wrap (a0_4)) 4 t243 _ A6.out).mono ?_
                    rintro e w51 ⟨rfl,hb⟩
                    refine ⟨_,rfl,?_⟩
                    have n0_:=am_ (Kd.R_below (by (with_reducible repeat (first|apply ra_|apply rn_|apply rd_));exact HO242.out) hb)
                    have n1_:=am_ (blk_below (g:=gb225) (o:=.cells #[.bool true,.bool a0_1,.bool a0_2,.int .i64 a0_3,.int .u32 a0_4,.string a0_5,.string a0_6,.string a0_7,.int .u64 a0_8,.int .i64 a0_9,.int .u64 a0_10] 28 (0,0)) (by (with_reducible repeat (first|refine kn_ ?_ _|refine kd_ ?_|refine ka_ ?_ _));exact BK225.out) hb)
                    have n2_:=am_ (below_step (by repeat (first|(with_reducible first|exact HB.out|apply ba_|apply pn_|apply pd_|refine bs_ ?_ GE225.out)|exact HB.out)) hb)
                    clear HO242
                    clear BK225
                    clear HB
                    have HO242:=n0_
                    have BK225:=n1_
                    have HB:=n2_
                    clear n0_ n1_ n2_
                    (try clear hb)
                    (try clear hb2)
                    (try clear hk)
                    (try clear hi)
                    refine hK.out _ _ ⟨(kc_ BK225.out 0).trans rfl,(kc_ BK225.out 1).trans rfl,(kc_ BK225.out 2).trans rfl,(kc_ BK225.out 3).trans rfl,(kc_ BK225.out 4).trans rfl,(kc_ BK225.out 5).trans rfl,(kc_ BK225.out 6).trans rfl,(kc_ BK225.out 7).trans rfl,(kc_ BK225.out 8).trans rfl,(kc_ BK225.out 9).trans rfl,(kc_ BK225.out 10).trans rfl⟩ (fun hHeld => ?_)
                    clear hK K
                    refine norm_ (a':=?_) ?_ ?_
                    rotate_left
                    ·show Act.put _ (some 53) _ = _
                     simp only [Act.put,ps_,i64_w,i32_w]
                     rfl
                    exact norm_ (by first|(simp only [putAll,Act.put,ps_];done)|(simp only [putAll,Act.put,ps_];rfl)) (hJ1_6 (v241) _ ⟨hHeld,(by (with_reducible repeat (first|apply ra_|apply rn_|apply rd_));exact HO242.out),(by (with_reducible repeat (first|refine kn_ ?_ _|refine kd_ ?_|refine ka_ ?_ _));exact BK225.out),(by repeat (first|(with_reducible first|exact HB.out|apply ba_|apply pn_|apply pd_|refine bs_ ?_ GE225.out)|exact HB.out))⟩)
                 ·skip
                  rintro _ w50 ⟨hS_,h0_,h1_⟩
                  have n0_ : Aside0 (w50.heap[gb225]? = some (.cells #[.bool true,.bool a0_1,.bool a0_2,.int .i64 a0_3,.int .u32 a0_4,.string a0_5,.string a0_6,.string a0_7,.int .u64 a0_8,.int .i64 a0_9,.int .u64 a0_10] 28 (0,0))):=⟨h0_⟩
                  have n1_ : Aside0 (Below w.heap.size w w50):=⟨h1_⟩
                  clear BK225
                  clear HB
                  clear h0_ h1_
                  have BK225:=n0_
                  have HB:=n1_
                  clear n0_ n1_
                  have hHeld : w50.cell? ⟨gb225,0,none⟩ = some (.bool true) ∧ w50.cell? ⟨gb225,1,none⟩ = some (.bool a0_1) ∧ w50.cell? ⟨gb225,2,none⟩ = some (.bool a0_2) ∧ w50.cell? ⟨gb225,3,none⟩ = some (.int .i64 a0_3) ∧ w50.cell? ⟨gb225,4,none⟩ = some (.int .u32 a0_4) ∧ w50.cell? ⟨gb225,5,none⟩ = some (.string a0_5) ∧ w50.cell? ⟨gb225,6,none⟩ = some (.string a0_6) ∧ w50.cell? ⟨gb225,7,none⟩ = some (.string a0_7) ∧ w50.cell? ⟨gb225,8,none⟩ = some (.int .u64 a0_8) ∧ w50.cell? ⟨gb225,9,none⟩ = some (.int .i64 a0_9) ∧ w50.cell? ⟨gb225,10,none⟩ = some (.int .u64 a0_10):=hS_
                  refine norm_ (a':=?_) ?_ ?_
                  rotate_left
                  ·simp only [putAll,Act.put,ps_]
                   rfl
                  refine two_ (i:=1) (j:=14) (Ni:=some 48) (Nj:=some 61) #[T_,T_,F_,T_,T_,T_,T_,F_,T_,T_,T_,F_,T_,T_,F_,F_,F_] #[T_,F_,F_,T_,T_,T_,T_,F_,T_,T_,T_,F_,T_,T_,T_,F_,F_] rfl rfl rfl rfl (two_of HT_.out (by kernel_rfl)) (by decide) (by decide) (fun K hK => ?_) (fun K hK => ?_)
                  ·skip
                   refine Kd.R_lit_step (Kd.int .u8) _ 5 ?hg (N:=48) ?hd (xs:=([(((((wrap64 (a0_9 - 1)) % 256) + 192) % 256) + ((wrap64 (16 * a0_3)) % 256)) % 256] : List Int)) (inner:=[.int .u8 ((((((wrap64 (a0_9 - 1)) % 256) + 192) % 256) + ((wrap64 (16 * a0_3)) % 256)) % 256)]) (ok:=fun _ => True) (okp:=fun _ => True) ?hr ?hp (fun _ hk => hk) trivial (Below.refl _ _) (Nat.le_refl _) (by simp) ?_;(case hd => rfl);(case hg => rfl);(case hr => first|(go_simp;done)|(go_simp;rfl));(case hp => exact (Reps.one (show Kd.M (Kd.int .u8) _ _ _ ((((((wrap64 (a0_9 - 1)) % 256) + 192) % 256) + ((wrap64 (16 * a0_3)) % 256)) % 256) [.int .u8 ((((((wrap64 (a0_9 - 1)) % 256) + 192) % 256) + ((wrap64 (16 * a0_3)) % 256)) % 256)] from rfl) (Reps.none _ _)))
                   intro v241 w51 ho52 hb hg_ hnew_
                   clear hg_ hnew_
                   (first|rw [← Ny240.out] at ho52|(simp only [Int.reduceToNat] at ho52;rw [← Ny240.out] at ho52))
                   have n0_:=am_ (Kd.R_lower ho52 (below_size (by repeat (first|(with_reducible first|exact HB.out|apply ba_|apply pn_|apply pd_|refine bs_ ?_ GE225.out)|exact HB.out))))
                   have n1_:=am_ (blk_below (g:=gb225) (o:=.cells #[.bool true,.bool a0_1,.bool a0_2,.int .i64 a0_3,.int .u32 a0_4,.string a0_5,.string a0_6,.string a0_7,.int .u64 a0_8,.int .i64 a0_9,.int .u64 a0_10] 28 (0,0)) (by (with_reducible repeat (first|refine kn_ ?_ _|refine kd_ ?_|refine ka_ ?_ _));exact BK225.out) hb)
                   have n2_:=am_ (below_step (by repeat (first|(with_reducible first|exact HB.out|apply ba_|apply pn_|apply pd_|refine bs_ ?_ GE225.out)|exact HB.out)) hb)
                   clear BK225
                   clear HB
                   have HO242:=n0_
                   have BK225:=n1_
                   have HB:=n2_
                   clear n0_ n1_ n2_
                   clear hb ho52
                   refine hK.out _ _ ⟨(kc_ BK225.out 0).trans rfl,(kc_ BK225.out 1).trans rfl,(kc_ BK225.out 2).trans rfl,(kc_ BK225.out 3).trans rfl,(kc_ BK225.out 4).trans rfl,(kc_ BK225.out 5).trans rfl,(kc_ BK225.out 6).trans rfl,(kc_ BK225.out 7).trans rfl,(kc_ BK225.out 8).trans rfl,(kc_ BK225.out 9).trans rfl,(kc_ BK225.out 10).trans rfl⟩ (fun hHeld => ?_)
                   clear hK K
                   refine norm_ (a':=?_) ?_ ?_
                   rotate_left
                   ·show Act.put _ (some 48) _ = _
                    simp only [Act.put,ps_,i64_w,i32_w]
                    rfl
                   exact norm_ (by first|(simp only [putAll,Act.put,ps_];done)|(simp only [putAll,Act.put,ps_];rfl)) (hJ1_6_10 (v241) _ ⟨hHeld,(by (with_reducible repeat (first|apply ra_|apply rn_|apply rd_));exact HO242.out),(by (with_reducible repeat (first|refine kn_ ?_ _|refine kd_ ?_|refine ka_ ?_ _));exact BK225.out),(by repeat (first|(with_reducible first|exact HB.out|apply ba_|apply pn_|apply pd_|refine bs_ ?_ GE225.out)|exact HB.out))⟩)
                  ·skip
                   refine goes_ Tryd.func30 (by kernel_rfl) rfl #[.string a0_6] (by rfl) rfl rfl (by (try simp only [List.map_toArray,List.map_cons,List.map_nil]);first|done|rfl|(simp only [List.length_drop,List.length_take];rfl)) ?_
                   with_reducible refine (dominoref04_short.calls a0_6 t245 _ A10.out).mono ?_
                   rintro e w51 ⟨rfl,hb⟩
                   refine ⟨_,rfl,?_⟩
                   have n0_:=am_ (blk_below (g:=gb225) (o:=.cells #[.bool true,.bool a0_1,.bool a0_2,.int .i64 a0_3,.int .u32 a0_4,.string a0_5,.string a0_6,.string a0_7,.int .u64 a0_8,.int .i64 a0_9,.int .u64 a0_10] 28 (0,0)) (by (with_reducible repeat (first|refine kn_ ?_ _|refine kd_ ?_|refine ka_ ?_ _));exact BK225.out) hb)
                   have n1_:=am_ (below_step (by repeat (first|(with_reducible first|exact HB.out|apply ba_|apply pn_|apply pd_|refine bs_ ?_ GE225.out)|exact HB.out)) hb)
                   clear BK225
                   clear HB
                   have BK225:=n0_
                   have HB:=n1_
                   clear n0_ n1_
                   (try clear hb)
                   (try clear hb2)
                   (try clear hk)
                   (try clear hi)
                   refine hK.out _ _ ⟨(kc_ BK225.out 0).trans rfl,(kc_ BK225.out 1).trans rfl,(kc_ BK225.out 2).trans rfl,(kc_ BK225.out 3).trans rfl,(kc_ BK225.out 4).trans rfl,(kc_ BK225.out 5).trans rfl,(kc_ BK225.out 6).trans rfl,(kc_ BK225.out 7).trans rfl,(kc_ BK225.out 8).trans rfl,(kc_ BK225.out 9).trans rfl,(kc_ BK225.out 10).trans rfl⟩ (fun hHeld => ?_)
                   clear hK K
                   refine norm_ (a':=?_) ?_ ?_
                   rotate_left
                   ·show Act.put _ (some 61) _ = _
                    simp only [Act.put,ps_,i64_w,i32_w]
                    rfl
                   exact norm_ (by first|(simp only [putAll,Act.put,ps_];done)|(simp only [putAll,Act.put,ps_];rfl)) (hJ6_10_14 () _ ⟨hHeld,(by (with_reducible repeat (first|refine kn_ ?_ _|refine kd_ ?_|refine ka_ ?_ _));exact BK225.out),(by repeat (first|(with_reducible first|exact HB.out|apply ba_|apply pn_|apply pd_|refine bs_ ?_ GE225.out)|exact HB.out))⟩)
                ·skip
                 rintro v241 w51 ⟨hS_,h0_,h1_,h2_⟩
                 have n0_ : Aside0 (Kd.R (Kd.int .u8) 5 w51 w.heap.size (fun _ => True) v241 y240):=⟨h0_⟩
                 have n1_ : Aside0 (w51.heap[gb225]? = some (.cells #[.bool true,.bool a0_1,.bool a0_2,.int .i64 a0_3,.int .u32 a0_4,.string a0_5,.string a0_6,.string a0_7,.int .u64 a0_8,.int .i64 a0_9,.int .u64 a0_10] 28 (0,0))):=⟨h1_⟩
                 have n2_ : Aside0 (Below w.heap.size w w51):=⟨h2_⟩
                 clear BK225
                 clear HB
                 clear h0_ h1_ h2_
                 have HO242:=n0_
                 have BK225:=n1_
                 have HB:=n2_
                 clear n0_ n1_ n2_
                 have hHeld : w51.cell? ⟨gb225,0,none⟩ = some (.bool true) ∧ w51.cell? ⟨gb225,1,none⟩ = some (.bool a0_1) ∧ w51.cell? ⟨gb225,2,none⟩ = some (.bool a0_2) ∧ w51.cell? ⟨gb225,3,none⟩ = some (.int .i64 a0_3) ∧ w51.cell? ⟨gb225,4,none⟩ = some (.int .u32 a0_4) ∧ w51.cell? ⟨gb225,5,none⟩ = some (.string a0_5) ∧ w51.cell? ⟨gb225,6,none⟩ = some (.string a0_6) ∧ w51.cell? ⟨gb225,7,none⟩ = some (.string a0_7) ∧ w51.cell? ⟨gb225,8,none⟩ = some (.int .u64 a0_8) ∧ w51.cell? ⟨gb225,9,none⟩ = some (.int .i64 a0_9) ∧ w51.cell? ⟨gb225,10,none⟩ = some (.int .u64 a0_10):=hS_
                 refine norm_ (a':=?_) ?_ ?_
                 rotate_left
                 ·simp only [putAll,Act.put,ps_]
                  rfl
                 refine two_ (i:=2) (j:=10) (Ni:=some 49) (Nj:=some 57) #[T_,T_,T_,T_,T_,T_,T_,F_,T_,T_,F_,F_,T_,T_,F_,F_,F_] #[T_,T_,F_,T_,T_,T_,T_,F_,T_,T_,T_,F_,T_,T_,F_,F_,F_] rfl rfl rfl rfl (two_of HT_.out (by kernel_rfl)) (by decide) (by decide) (fun K hK => ?_) (fun K hK => ?_)
                 ·skip
                  have hcv52:=own_string (P:=Tryd.prog) Tryd.underlying44 Tryd.underlying5 Tryd.underlying9 (Kd.own_of_R HO242.out)
                  refine value_ (w1:=?_) (v:=?_) (by rfl) rfl ?_ ?_
                  rotate_left 2
                  ·go_simp
                   constructor
                   ·rfl
                   ·rfl
                  clear hcv52
                  refine hK.out _ _ ⟨(kc_ BK225.out 0).trans rfl,(kc_ BK225.out 1).trans rfl,(kc_ BK225.out 2).trans rfl,(kc_ BK225.out 3).trans rfl,(kc_ BK225.out 4).trans rfl,(kc_ BK225.out 5).trans rfl,(kc_ BK225.out 6).trans rfl,(kc_ BK225.out 7).trans rfl,(kc_ BK225.out 8).trans rfl,(kc_ BK225.out 9).trans rfl,(kc_ BK225.out 10).trans rfl⟩ (fun hHeld => ?_)
                  clear hK K
                  refine norm_ (a':=?_) ?_ ?_
                  rotate_left
                  ·show Act.put _ (some 49) _ = _
                   simp only [Act.put,ps_,i64_w,i32_w]
                   rfl
                  refine pure_ (i:=7) (N:=some 54) (v:=?_) (a':=?_) #[T_,T_,T_,T_,T_,T_,T_,T_,T_,T_,F_,F_,T_,T_,F_,F_,F_] rfl rfl (any_of HT_.out (by kernel_rfl)) (fun _ _ _ h => h) (Or.inl ⟨by rfl,?_⟩) ?_ ?_
                  rotate_left;(intro w';go_simp;with_reducible rfl);rotate_left;(simp only [Act.put,ps_,i64_w,i32_w];rfl)
                  exact norm_ (by first|(simp only [putAll,Act.put,ps_];done)|(simp only [putAll,Act.put,ps_];rfl)) (hJ1_2_6 (v241) _ ⟨hHeld,(by (with_reducible repeat (first|apply ra_|apply rn_|apply rd_));exact HO242.out),(by (with_reducible repeat (first|refine kn_ ?_ _|refine kd_ ?_|refine ka_ ?_ _));exact BK225.out),(by repeat (first|(with_reducible first|exact HB.out|apply ba_|apply pn_|apply pd_|refine bs_ ?_ GE225.out)|exact HB.out))⟩)
                 ·skip
                  refine goes_ Tryd.func30 (by kernel_rfl) rfl #[.string a0_5] (by rfl) rfl rfl (by (try simp only [List.map_toArray,List.map_cons,List.map_nil]);first|done|rfl|(simp only [List.length_drop,List.length_take];rfl)) ?_
                  with_reducible refine (dominoref04_short.calls a0_5 t244 _ A8.out).mono ?_
                  rintro e w52 ⟨rfl,hb⟩
                  refine ⟨_,rfl,?_⟩
                  have n0_:=am_ (Kd.R_below (by (with_reducible repeat (first|apply ra_|apply rn_|apply rd_));exact HO242.out) hb)
                  have n1_:=am_ (blk_below (g:=gb225) (o:=.cells #[.bool true,.bool a0_1,.bool a0_2,.int .i64 a0_3,.int .u32 a0_4,.string a0_5,.string a0_6,.string a0_7,.int .u64 a0_8,.int .i64 a0_9,.int .u64 a0_10] 28 (0,0)) (by (with_reducible repeat (first|refine kn_ ?_ _|refine kd_ ?_|refine ka_ ?_ _));exact BK225.out) hb)
                  have n2_:=am_ (below_step (by repeat (first|(with_reducible first|exact HB.out|apply ba_|apply pn_|apply pd_|refine bs_ ?_ GE225.out)|exact HB.out)) hb)
                  clear HO242
                  clear BK225
                  clear HB
                  have HO242:=n0_
                  have BK225:=n1_
                  have HB:=n2_
                  clear n0_ n1_ n2_
                  (try clear hb)
                  (try clear hb2)
                  (try clear hk)
                  (try clear hi)
                  refine hK.out _ _ ⟨(kc_ BK225.out 0).trans rfl,(kc_ BK225.out 1).trans rfl,(kc_ BK225.out 2).trans rfl,(kc_ BK225.out 3).trans rfl,(kc_ BK225.out 4).trans rfl,(kc_ BK225.out 5).trans rfl,(kc_ BK225.out 6).trans rfl,(kc_ BK225.out 7).trans rfl,(kc_ BK225.out 8).trans rfl,(kc_ BK225.out 9).trans rfl,(kc_ BK225.out 10).trans rfl⟩ (fun hHeld => ?_)
                  clear hK K
                  refine norm_ (a':=?_) ?_ ?_
                  rotate_left
                  ·show Act.put _ (some 57) _ = _
                   simp only [Act.put,ps_,i64_w,i32_w]
                   rfl
                  exact norm_ (by first|(simp only [putAll,Act.put,ps_];done)|(simp only [putAll,Act.put,ps_];rfl)) (hJ1_6_10 (v241) _ ⟨hHeld,(by (with_reducible repeat (first|apply ra_|apply rn_|apply rd_));exact HO242.out),(by (with_reducible repeat (first|refine kn_ ?_ _|refine kd_ ?_|refine ka_ ?_ _));exact BK225.out),(by repeat (first|(with_reducible first|exact HB.out|apply ba_|apply pn_|apply pd_|refine bs_ ?_ GE225.out)|exact HB.out))⟩)
               ·skip
                rintro v241 w51 ⟨hS_,h0_,h1_,h2_⟩
                have n0_ : Aside0 (Kd.R (Kd.int .u8) 5 w51 w.heap.size (fun _ => True) v241 y240):=⟨h0_⟩
                have n1_ : Aside0 (w51.heap[gb225]? = some (.cells #[.bool true,.bool a0_1,.bool a0_2,.int .i64 a0_3,.int .u32 a0_4,.string a0_5,.string a0_6,.string a0_7,.int .u64 a0_8,.int .i64 a0_9,.int .u64 a0_10] 28 (0,0))):=⟨h1_⟩
                have n2_ : Aside0 (Below w.heap.size w w51):=⟨h2_⟩
                clear BK225
                clear HB
                clear h0_ h1_ h2_
                have HO242:=n0_
                have BK225:=n1_
                have HB:=n2_
                clear n0_ n1_ n2_
                have hHeld : w51.cell? ⟨gb225,0,none⟩ = some (.bool true) ∧ w51.cell? ⟨gb225,1,none⟩ = some (.bool a0_1) ∧ w51.cell? ⟨gb225,2,none⟩ = some (.bool a0_2) ∧ w51.cell? ⟨gb225,3,none⟩ = some (.int .i64 a0_3) ∧ w51.cell? ⟨gb225,4,none⟩ = some (.int .u32 a0_4) ∧ w51.cell? ⟨gb225,5,none⟩ = some (.string a0_5) ∧ w51.cell? ⟨gb225,6,none⟩ = some (.string a0_6) ∧ w51.cell? ⟨gb225,7,none⟩ = some (.string a0_7) ∧ w51.cell? ⟨gb225,8,none⟩ = some (.int .u64 a0_8) ∧ w51.cell? ⟨gb225,9,none⟩ = some (.int .i64 a0_9) ∧ w51.cell? ⟨gb225,10,none⟩ = some (.int .u64 a0_10):=hS_
                refine norm_ (a':=?_) ?_ ?_
                rotate_left
                ·simp only [putAll,Act.put,ps_]
                 rfl
                refine one_ (i:=6) (N:=some 53) #[T_,T_,T_,T_,T_,T_,T_,F_,T_,T_,F_,F_,T_,T_,F_,F_,F_] rfl rfl (one_of HT_.out (by kernel_rfl)) (by decide) (fun K hK => ?_)
                refine goes_ Tryd.func29 (by kernel_rfl) rfl #[.int .u64 (IntKind.u64.wrap (a0_4)),.int .i64 4] (by rfl) rfl rfl (by (try simp only [List.map_toArray,List.map_cons,List.map_nil]);first|done|rfl|(simp only [List.length_drop,List.length_take];rfl)) ?_
                with_reducible refine (dominoref01_Fixed.calls k (IntKind.u64.wrap (a0_4)) 4 t243 _ A6.out).mono ?_
                rintro e w52 ⟨rfl,hb⟩
                refine ⟨_,rfl,?_⟩
                have n0_:=am_ (Kd.R_below (by (with_reducible repeat (first|apply ra_|apply rn_|apply rd_));exact HO242.out) hb)
                have n1_:=am_ (blk_below (g:=gb225) (o:=.cells #[.bool true,.bool a0_1,.bool a0_2,.int .i64 a0_3,.int .u32 a0_4,.string a0_5,.string a0_6,.string a0_7,.int .u64 a0_8,.int .i64 a0_9,.int .u64 a0_10] 28 (0,0)) (by (with_reducible repeat (first|refine kn_ ?_ _|refine kd_ ?_|refine ka_ ?_ _));exact BK225.out) hb)
                have n2_:=am_ (below_step (by repeat (first|(with_reducible first|exact HB.out|apply ba_|apply pn_|apply pd_|refine bs_ ?_ GE225.out)|exact HB.out)) hb)
                clear HO242
                clear BK225
                clear HB
                have HO242:=n0_
                have BK225:=n1_
                have HB:=n2_
                clear n0_ n1_ n2_
                (try clear hb)
                (try clear hb2)
                (try clear hk)
                (try clear hi)
                refine hK.out _ _ ⟨(kc_ BK225.out 0).trans rfl,(kc_ BK225.out 1).trans rfl,(kc_ BK225.out 2).trans rfl,(kc_ BK225.out 3).trans rfl,(kc_ BK225.out 4).trans rfl,(kc_ BK225.out 5).trans rfl,(kc_ BK225.out 6).trans rfl,(kc_ BK225.out 7).trans rfl,(kc_ BK225.out 8).trans rfl,(kc_ BK225.out 9).trans rfl,(kc_ BK225.out 10).trans rfl⟩ (fun hHeld => ?_)
                clear hK K
                refine norm_ (a':=?_) ?_ ?_
                rotate_left
                ·show Act.put _ (some 53) _ = _
                 simp only [Act.put,ps_,i64_w,i32_w]
                 rfl
                refine pure_ (i:=7) (N:=some 54) (v:=?_) (a':=?_) #[T_,T_,T_,T_,T_,T_,T_,T_,T_,T_,F_,F_,T_,T_,F_,F_,F_] rfl rfl (any_of HT_.out (by kernel_rfl)) (fun _ _ _ h => h) (Or.inl ⟨by rfl,?_⟩) ?_ ?_
                rotate_left;(intro w';go_simp;with_reducible rfl);rotate_left;(simp only [Act.put,ps_,i64_w,i32_w];rfl)
                exact norm_ (by first|(simp only [putAll,Act.put,ps_];done)|(simp only [putAll,Act.put,ps_];rfl)) (hJ1_2_6 (v241) _ ⟨hHeld,(by (with_reducible repeat (first|apply ra_|apply rn_|apply rd_));exact HO242.out),(by (with_reducible repeat (first|refine kn_ ?_ _|refine kd_ ?_|refine ka_ ?_ _));exact BK225.out),(by repeat (first|(with_reducible first|exact HB.out|apply ba_|apply pn_|apply pd_|refine bs_ ?_ GE225.out)|exact HB.out))⟩)
              ·skip
               rintro _ w51 ⟨hS_,h0_,h1_⟩
               have n0_ : Aside0 (w51.heap[gb225]? = some (.cells #[.bool true,.bool a0_1,.bool a0_2,.int .i64 a0_3,.int .u32 a0_4,.string a0_5,.string a0_6,.string a0_7,.int .u64 a0_8,.int .i64 a0_9,.int .u64 a0_10] 28 (0,0))):=⟨h0_⟩
               have n1_ : Aside0 (Below w.heap.size w w51):=⟨h1_⟩
               clear BK225
               clear HB
               clear h0_ h1_
               have BK225:=n0_
               have HB:=n1_
               clear n0_ n1_
               have hHeld : w51.cell? ⟨gb225,0,none⟩ = some (.bool true) ∧ w51.cell? ⟨gb225,1,none⟩ = some (.bool a0_1) ∧ w51.cell? ⟨gb225,2,none⟩ = some (.bool a0_2) ∧ w51.cell? ⟨gb225,3,none⟩ = some (.int .i64 a0_3) ∧ w51.cell? ⟨gb225,4,none⟩ = some (.int .u32 a0_4) ∧ w51.cell? ⟨gb225,5,none⟩ = some (.string a0_5) ∧ w51.cell? ⟨gb225,6,none⟩ = some (.string a0_6) ∧ w51.cell? ⟨gb225,7,none⟩ = some (.string a0_7) ∧ w51.cell? ⟨gb225,8,none⟩ = some (.int .u64 a0_8) ∧ w51.cell? ⟨gb225,9,none⟩ = some (.int .i64 a0_9) ∧ w51.cell? ⟨gb225,10,none⟩ = some (.int .u64 a0_10):=hS_
               refine norm_ (a':=?_) ?_ ?_
               rotate_left
               ·simp only [putAll,Act.put,ps_]
                rfl
               refine one_ (i:=1) (N:=some 48) #[T_,T_,F_,T_,T_,T_,T_,F_,T_,T_,T_,F_,T_,T_,T_,F_,F_] rfl rfl (one_of HT_.out (by kernel_rfl)) (by decide) (fun K hK => ?_)
               refine Kd.R_lit_step (Kd.int .u8) _ 5 ?hg (N:=48) ?hd (xs:=([(((((wrap64 (a0_9 - 1)) % 256) + 192) % 256) + ((wrap64 (16 * a0_3)) % 256)) % 256] : List Int)) (inner:=[.int .u8 ((((((wrap64 (a0_9 - 1)) % 256) + 192) % 256) + ((wrap64 (16 * a0_3)) % 256)) % 256)]) (ok:=fun _ => True) (okp:=fun _ => True) ?hr ?hp (fun _ hk => hk) trivial (Below.refl _ _) (Nat.le_refl _) (by simp) ?_;(case hd => rfl);(case hg => rfl);(case hr => first|(go_simp;done)|(go_simp;rfl));(case hp => exact (Reps.one (show Kd.M (Kd.int .u8) _ _ _ ((((((wrap64 (a0_9 - 1)) % 256) + 192) % 256) + ((wrap64 (16 * a0_3)) % 256)) % 256) [.int .u8 ((((((wrap64 (a0_9 - 1)) % 256) + 192) % 256) + ((wrap64 (16 * a0_3)) % 256)) % 256)] from rfl) (Reps.none _ _)))
               intro v241 w52 ho53 hb hg_ hnew_
               clear hg_ hnew_
               (first|rw [← Ny240.out] at ho53|(simp only [Int.reduceToNat] at ho53;rw [← Ny240.out] at ho53))
               have n0_:=am_ (Kd.R_lower ho53 (below_size (by repeat (first|(with_reducible first|exact HB.out|apply ba_|apply pn_|apply pd_|refine bs_ ?_ GE225.out)|exact HB.out))))
               have n1_:=am_ (blk_below (g:=gb225) (o:=.cells #[.bool true,.bool a0_1,.bool a0_2,.int .i64 a0_3,.int .u32 a0_4,.string a0_5,.string a0_6,.string a0_7,.int .u64 a0_8,.int .i64 a0_9,.int .u64 a0_10] 28 (0,0)) (by (with_reducible repeat (first|refine kn_ ?_ _|refine kd_ ?_|refine ka_ ?_ _));exact BK225.out) hb)
               have n2_:=am_ (below_step (by repeat (first|(with_reducible first|exact HB.out|apply ba_|apply pn_|apply pd_|refine bs_ ?_ GE225.out)|exact HB.out)) hb)
               clear BK225
               clear HB
               have HO242:=n0_
               have BK225:=n1_
               have HB:=n2_
               clear n0_ n1_ n2_
               clear hb ho53
               refine hK.out _ _ ⟨(kc_ BK225.out 0).trans rfl,(kc_ BK225.out 1).trans rfl,(kc_ BK225.out 2).trans rfl,(kc_ BK225.out 3).trans rfl,(kc_ BK225.out 4).trans rfl,(kc_ BK225.out 5).trans rfl,(kc_ BK225.out 6).trans rfl,(kc_ BK225.out 7).trans rfl,(kc_ BK225.out 8).trans rfl,(kc_ BK225.out 9).trans rfl,(kc_ BK225.out 10).trans rfl⟩ (fun hHeld => ?_)
               clear hK K
               refine norm_ (a':=?_) ?_ ?_
               rotate_left
               ·show Act.put _ (some 48) _ = _
                simp only [Act.put,ps_,i64_w,i32_w]
                rfl
               exact norm_ (by first|(simp only [putAll,Act.put,ps_];done)|(simp only [putAll,Act.put,ps_];rfl)) (hJ1_6_10_14 (v241) _ ⟨hHeld,(by (with_reducible repeat (first|apply ra_|apply rn_|apply rd_));exact HO242.out),(by (with_reducible repeat (first|refine kn_ ?_ _|refine kd_ ?_|refine ka_ ?_ _));exact BK225.out),(by repeat (first|(with_reducible first|exact HB.out|apply ba_|apply pn_|apply pd_|refine bs_ ?_ GE225.out)|exact HB.out))⟩)
             ·skip
              rintro v241 w52 ⟨hS_,h0_,h1_,h2_⟩
              have n0_ : Aside0 (Kd.R (Kd.int .u8) 5 w52 w.heap.size (fun _ => True) v241 y240):=⟨h0_⟩
              have n1_ : Aside0 (w52.heap[gb225]? = some (.cells #[.bool true,.bool a0_1,.bool a0_2,.int .i64 a0_3,.int .u32 a0_4,.string a0_5,.string a0_6,.string a0_7,.int .u64 a0_8,.int .i64 a0_9,.int .u64 a0_10] 28 (0,0))):=⟨h1_⟩
              have n2_ : Aside0 (Below w.heap.size w w52):=⟨h2_⟩
              clear BK225
              clear HB
              clear h0_ h1_ h2_
              have HO242:=n0_
              have BK225:=n1_
              have HB:=n2_
              clear n0_ n1_ n2_
              have hHeld : w52.cell? ⟨gb225,0,none⟩ = some (.bool true) ∧ w52.cell? ⟨gb225,1,none⟩ = some (.bool a0_1) ∧ w52.cell? ⟨gb225,2,none⟩ = some (.bool a0_2) ∧ w52.cell? ⟨gb225,3,none⟩ = some (.int .i64 a0_3) ∧ w52.cell? ⟨gb225,4,none⟩ = some (.int .u32 a0_4) ∧ w52.cell? ⟨gb225,5,none⟩ = some (.string a0_5) ∧ w52.cell? ⟨gb225,6,none⟩ = some (.string a0_6) ∧ w52.cell? ⟨gb225,7,none⟩ = some (.string a0_7) ∧ w52.cell? ⟨gb225,8,none⟩ = some (.int .u64 a0_8) ∧ w52.cell? ⟨gb225,9,none⟩ = some (.int .i64 a0_9) ∧ w52.cell? ⟨gb225,10,none⟩ = some (.int .u64 a0_10):=hS_
              refine norm_ (a':=?_) ?_ ?_
              rotate_left
              ·simp only [putAll,Act.put,ps_]
               rfl
              refine two_ (i:=2) (j:=14) (Ni:=some 49) (Nj:=some 61) #[T_,T_,T_,T_,T_,T_,T_,F_,T_,T_,T_,F_,T_,T_,F_,F_,F_] #[T_,T_,F_,T_,T_,T_,T_,F_,T_,T_,T_,F_,T_,T_,T_,F_,F_] rfl rfl rfl rfl (two_of HT_.out (by kernel_rfl)) (by decide) (by decide) (fun K hK => ?_) (fun K hK => ?_)
              ·skip
               have hcv53:=own_string (P:=Tryd.prog) Tryd.underlying44 Tryd.underlying5 Tryd.underlying9 (Kd.own_of_R HO242.out)
               refine value_ (w1:=?_) (v:=?_) (by rfl) rfl ?_ ?_
               rotate_left 2
               ·go_simp
                constructor
                ·rfl
                ·rfl
               clear hcv53
               refine hK.out _ _ ⟨(kc_ BK225.out 0).trans rfl,(kc_ BK225.out 1).trans rfl,(kc_ BK225.out 2).trans rfl,(kc_ BK225.out 3).trans rfl,(kc_ BK225.out 4).trans rfl,(kc_ BK225.out 5).trans rfl,(kc_ BK225.out 6).trans rfl,(kc_ BK225.out 7).trans rfl,(kc_ BK225.out 8).trans rfl,(kc_ BK225.out 9).trans rfl,(kc_ BK225.out 10).trans rfl⟩ (fun hHeld => ?_)
               clear hK K
               refine norm_ (a':=?_) ?_ ?_
               rotate_left
               ·show Act.put _ (some 49) _ = _
                simp only [Act.put,ps_,i64_w,i32_w]
                rfl
               refine pure_ (i:=7) (N:=some 54) (v:=?_) (a':=?_) #[T_,T_,T_,T_,T_,T_,T_,T_,T_,T_,T_,F_,T_,T_,F_,F_,F_] rfl rfl (any_of HT_.out (by kernel_rfl)) (fun _ _ _ h => h) (Or.inl ⟨by rfl,?_⟩) ?_ ?_
               rotate_left;(intro w';go_simp;with_reducible rfl);rotate_left;(simp only [Act.put,ps_,i64_w,i32_w];rfl)
               refine pure_ (i:=11) (N:=some 58) (v:=?_) (a':=?_) #[T_,T_,T_,T_,T_,T_,T_,T_,T_,T_,T_,T_,T_,T_,F_,F_,F_] rfl rfl (any_of HT_.out (by kernel_rfl)) (fun _ _ _ h => h) (Or.inl ⟨by rfl,?_⟩) ?_ ?_
               rotate_left;(intro w';go_simp;with_reducible rfl);rotate_left;(simp only [Act.put,ps_,i64_w,i32_w];rfl)
               exact norm_ (by first|(simp only [putAll,Act.put,ps_];done)|(simp only [putAll,Act.put,ps_];rfl)) (hJ1_2_6_10 (v241) _ ⟨hHeld,(by (with_reducible repeat (first|apply ra_|apply rn_|apply rd_));exact HO242.out),(by (with_reducible repeat (first|refine kn_ ?_ _|refine kd_ ?_|refine ka_ ?_ _));exact BK225.out),(by repeat (first|(with_reducible first|exact HB.out|apply ba_|apply pn_|apply pd_|refine bs_ ?_ GE225.out)|exact HB.out))⟩)
              ·skip
               refine goes_ Tryd.func30 (by kernel_rfl) rfl #[.string a0_6] (by rfl) rfl rfl (by (try simp only [List.map_toArray,List.map_cons,List.map_nil]);first|done|rfl|(simp only [List.length_drop,List.length_take];rfl)) ?_
               with_reducible refine (dominoref04_short.calls a0_6 t245 _ A10.out).mono ?_
               rintro e w53 ⟨rfl,hb⟩
               refine ⟨_,rfl,?_⟩
               have n0_:=am_ (Kd.R_below (by (with_reducible repeat (first|apply ra_|apply rn_|apply rd_));exact HO242.out) hb)
               have n1_:=am_ (blk_below (g:=gb225) (o:=.cells #[.bool true,.bool a0_1,.bool a0_2,.int .i64 a0_3,.int .u32 a0_4,.string a0_5,.string a0_6,.string a0_7,.int .u64 a0_8,.int .i64 a0_9,.int .u64 a0_10] 28 (0,0)) (by (with_reducible repeat (first|refine kn_ ?_ _|refine kd_ ?_|refine ka_ ?_ _));exact BK225.out) hb)
               have n2_:=am_ (below_step (by repeat (first|(with_reducible first|exact HB.out|apply ba_|apply pn_|apply pd_|refine bs_ ?_ GE225.out)|exact HB.out)) hb)
               clear HO242
               clear BK225
               clear HB
               have HO242:=n0_
               have BK225:=n1_
               have HB:=n2_
               clear n0_ n1_ n2_
               (try clear hb)
               (try clear hb2)
               (try clear hk)
               (try clear hi)
               refine hK.out _ _ ⟨(kc_ BK225.out 0).trans rfl,(kc_ BK225.out 1).trans rfl,(kc_ BK225.out 2).trans rfl,(kc_ BK225.out 3).trans rfl,(kc_ BK225.out 4).trans rfl,(kc_ BK225.out 5).trans rfl,(kc_ BK225.out 6).trans rfl,(kc_ BK225.out 7).trans rfl,(kc_ BK225.out 8).trans rfl,(kc_ BK225.out 9).trans rfl,(kc_ BK225.out 10).trans rfl⟩ (fun hHeld => ?_)
               clear hK K
               refine norm_ (a':=?_) ?_ ?_
               rotate_left
               ·show Act.put _ (some 61) _ = _
                simp only [Act.put,ps_,i64_w,i32_w]
                rfl
               exact norm_ (by first|(simp only [putAll,Act.put,ps_];done)|(simp only [putAll,Act.put,ps_];rfl)) (hJ1_6_10_14 (v241) _ ⟨hHeld,(by (with_reducible repeat (first|apply ra_|apply rn_|apply rd_));exact HO242.out),(by (with_reducible repeat (first|refine kn_ ?_ _|refine kd_ ?_|refine ka_ ?_ _));exact BK225.out),(by repeat (first|(with_reducible first|exact HB.out|apply ba_|apply pn_|apply pd_|refine bs_ ?_ GE225.out)|exact HB.out))⟩)
            ·skip
             rintro v241 w52 ⟨hS_,h0_,h1_,h2_⟩
             have n0_ : Aside0 (Kd.R (Kd.int .u8) 5 w52 w.heap.size (fun _ => True) v241 y240):=⟨h0_⟩
             have n1_ : Aside0 (w52.heap[gb225]? = some (.cells #[.bool true,.bool a0_1,.bool a0_2,.int .i64 a0_3,.int .u32 a0_4,.string a0_5,.string a0_6,.string a0_7,.int .u64 a0_8,.int .i64 a0_9,.int .u64 a0_10] 28 (0,0))):=⟨h1_⟩
             have n2_ : Aside0 (Below w.heap.size w w52):=⟨h2_⟩
             clear BK225
             clear HB
             clear h0_ h1_ h2_
             have HO242:=n0_
             have BK225:=n1_
             have HB:=n2_
             clear n0_ n1_ n2_
             have hHeld : w52.cell? ⟨gb225,0,none⟩ = some (.bool true) ∧ w52.cell? ⟨gb225,1,none⟩ = some (.bool a0_1) ∧ w52.cell? ⟨gb225,2,none⟩ = some (.bool a0_2) ∧ w52.cell? ⟨gb225,3,none⟩ = some (.int .i64 a0_3) ∧ w52.cell? ⟨gb225,4,none⟩ = some (.int .u32 a0_4) ∧ w52.cell? ⟨gb225,5,none⟩ = some (.string a0_5) ∧ w52.cell? ⟨gb225,6,none⟩ = some (.string a0_6) ∧ w52.cell? ⟨gb225,7,none⟩ = some (.string a0_7) ∧ w52.cell? ⟨gb225,8,none⟩ = some (.int .u64 a0_8) ∧ w52.cell? ⟨gb225,9,none⟩ = some (.int .i64 a0_9) ∧ w52.cell? ⟨gb225,10,none⟩ = some (.int .u64 a0_10):=hS_
             refine norm_ (a':=?_) ?_ ?_
             rotate_left
             ·simp only [putAll,Act.put,ps_]
              rfl
             refine one_ (i:=10) (N:=some 57) #[T_,T_,T_,T_,T_,T_,T_,T_,T_,T_,T_,F_,T_,T_,F_,F_,F_] rfl rfl (one_of HT_.out (by kernel_rfl)) (by decide) (fun K hK => ?_)
             refine goes_ Tryd.func30 (by kernel_rfl) rfl #[.string a0_5] (by rfl) rfl rfl (by (try simp only [List.map_toArray,List.map_cons,List.map_nil]);first|done|rfl|(simp only [List.length_drop,List.length_take];rfl)) ?_
             with_reducible refine (dominoref04_short.calls a0_5 t244 _ A8.out).mono ?_
             rintro e w53 ⟨rfl,hb⟩
             refine ⟨_,rfl,?_⟩
             have n0_:=am_ (Kd.R_below (by (with_reducible repeat (first|apply ra_|apply rn_|apply rd_));exact HO242.out) hb)
             have n1_:=am_ (blk_below (g:=gb225) (o:=.cells #[.bool true,.bool a0_1,.bool a0_2,.int .i64 a0_3,.int .u32 a0_4,.string a0_5,.string a0_6,.string a0_7,.int .u64 a0_8,.int .i64 a0_9,.int .u64 a0_10] 28 (0,0)) (by (with_reducible repeat (first|refine kn_ ?_ _|refine kd_ ?_|refine ka_ ?_ _));exact BK225.out) hb)
             have n2_:=am_ (below_step (by repeat (first|(with_reducible first|exact HB.out|apply ba_|apply pn_|apply pd_|refine bs_ ?_ GE225.out)|exact HB.out)) hb)
             clear HO242
             clear BK225
             clear HB
             have HO242:=n0_
             have BK225:=n1_
             have HB:=n2_
             clear n0_ n1_ n2_
             (try clear hb)
             (try clear hb2)
             (try clear hk)
             (try clear hi)
             refine hK.out _ _ ⟨(kc_ BK225.out 0).trans rfl,(kc_ BK225.out 1).trans rfl,(kc_ BK225.out 2).trans rfl,(kc_ BK225.out 3).trans rfl,(kc_ BK225.out 4).trans rfl,(kc_ BK225.out 5).trans rfl,(kc_ BK225.out 6).trans rfl,(kc_ BK225.out 7).trans rfl,(kc_ BK225.out 8).trans rfl,(kc_ BK225.out 9).trans rfl,(kc_ BK225.out 10).trans rfl⟩ (fun hHeld => ?_)
             clear hK K
             refine norm_ (a':=?_) ?_ ?_
             rotate_left
             ·show Act.put _ (some 57) _ = _
              simp only [Act.put,ps_,i64_w,i32_w]
              rfl
             refine pure_ (i:=11) (N:=some 58) (v:=?_) (a':=?_) #[T_,T_,T_,T_,T_,T_,T_,T_,T_,T_,T_,T_,T_,T_,F_,F_,F_] rfl rfl (any_of HT_.out (by kernel_rfl)) (fun _ _ _ h => h) (Or.inl ⟨by rfl,?_⟩) ?_ ?_
             rotate_left;(intro w';go_simp;with_reducible rfl);rotate_left;(simp only [Act.put,ps_,i64_w,i32_w];rfl)
             exact norm_ (by first|(simp only [putAll,Act.put,ps_];done)|(simp only [putAll,Act.put,ps_];rfl)) (hJ1_2_6_10 (v241) _ ⟨hHeld,(by (with_reducible repeat (first|apply ra_|apply rn_|apply rd_));exact HO242.out),(by (with_reducible repeat (first|refine kn_ ?_ _|refine kd_ ?_|refine ka_ ?_ _));exact BK225.out),(by repeat (first|(with_reducible first|exact HB.out|apply ba_|apply pn_|apply pd_|refine bs_ ?_ GE225.out)|exact HB.out))⟩)
           ·skip
            rintro v241 w53 ⟨hS_,h0_,h1_,h2_⟩
            have n0_ : Aside0 (Kd.R (Kd.int .u8) 5 w53 w.heap.size (fun _ => True) v241 y240):=⟨h0_⟩
            have n1_ : Aside0 (w53.heap[gb225]? = some (.cells #[.bool true,.bool a0_1,.bool a0_2,.int .i64 a0_3,.int .u32 a0_4,.string a0_5,.string a0_6,.string a0_7,.int .u64 a0_8,.int .i64 a0_9,.int .u64 a0_10] 28 (0,0))):=⟨h1_⟩
            have n2_ : Aside0 (Below w.heap.size w w53):=⟨h2_⟩
            clear BK225
            clear HB
            clear h0_ h1_ h2_
            have HO242:=n0_
            have BK225:=n1_
            have HB:=n2_
            clear n0_ n1_ n2_
            have hHeld : w53.cell? ⟨gb225,0,none⟩ = some (.bool true) ∧ w53.cell? ⟨gb225,1,none⟩ = some (.bool a0_1) ∧ w53.cell? ⟨gb225,2,none⟩ = some (.bool a0_2) ∧ w53.cell? ⟨gb225,3,none⟩ = some (.int .i64 a0_3) ∧ w53.cell? ⟨gb225,4,none⟩ = some (.int .u32 a0_4) ∧ w53.cell? ⟨gb225,5,none⟩ = some (.string a0_5) ∧ w53.cell? ⟨gb225,6,none⟩ = some (.string a0_6) ∧ w53.cell? ⟨gb225,7,none⟩ = some (.string a0_7) ∧ w53.cell? ⟨gb225,8,none⟩ = some (.int .u64 a0_8) ∧ w53.cell? ⟨gb225,9,none⟩ = some (.int .i64 a0_9) ∧ w53.cell? ⟨gb225,10,none⟩ = some (.int .u64 a0_10):=hS_
            refine norm_ (a':=?_) ?_ ?_
            rotate_left
            ·simp only [putAll,Act.put,ps_]
             rfl
            refine one_ (i:=2) (N:=some 49) #[T_,T_,T_,T_,T_,T_,T_,F_,T_,T_,T_,F_,T_,T_,T_,F_,F_] rfl rfl (one_of HT_.out (by kernel_rfl)) (by decide) (fun K hK => ?_)
            have hcv54:=own_string (P:=Tryd.prog) Tryd.underlying44 Tryd.underlying5 Tryd.underlying9 (Kd.own_of_R HO242.out)
            refine value_ (w1:=?_) (v:=?_) (by rfl) rfl ?_ ?_
            rotate_left 2
            ·go_simp
             constructor
             ·rfl
             ·rfl
            clear hcv54
            refine hK.out _ _ ⟨(kc_ BK225.out 0).trans rfl,(kc_ BK225.out 1).trans rfl,(kc_ BK225.out 2).trans rfl,(kc_ BK225.out 3).trans rfl,(kc_ BK225.out 4).trans rfl,(kc_ BK225.out 5).trans rfl,(kc_ BK225.out 6).trans rfl,(kc_ BK225.out 7).trans rfl,(kc_ BK225.out 8).trans rfl,(kc_ BK225.out 9).trans rfl,(kc_ BK225.out 10).trans rfl⟩ (fun hHeld => ?_)
            clear hK K
            refine norm_ (a':=?_) ?_ ?_
            rotate_left
            ·show Act.put _ (some 49) _ = _
             simp only [Act.put,ps_,i64_w,i32_w]
             rfl
            refine pure_ (i:=7) (N:=some 54) (v:=?_) (a':=?_) #[T_,T_,T_,T_,T_,T_,T_,T_,T_,T_,T_,F_,T_,T_,T_,F_,F_] rfl rfl (any_of HT_.out (by kernel_rfl)) (fun _ _ _ h => h) (Or.inl ⟨by rfl,?_⟩) ?_ ?_
            rotate_left;(intro w';go_simp;with_reducible rfl);rotate_left;(simp only [Act.put,ps_,i64_w,i32_w];rfl)
            refine pure_ (i:=11) (N:=some 58) (v:=?_) (a':=?_) #[T_,T_,T_,T_,T_,T_,T_,T_,T_,T_,T_,T_,T_,T_,T_,F_,F_] rfl rfl (any_of HT_.out (by kernel_rfl)) (fun _ _ _ h => h) (Or.inl ⟨by rfl,?_⟩) ?_ ?_
            rotate_left;(intro w';go_simp;with_reducible rfl);rotate_left;(simp only [Act.put,ps_,i64_w,i32_w];rfl)
            exact norm_ (by first|(simp only [putAll,Act.put,ps_];done)|(simp only [putAll,Act.put,ps_];rfl)) (hJ1_2_6_10_14 (v241) _ ⟨hHeld,(by (with_reducible repeat (first|apply ra_|apply rn_|apply rd_));exact HO242.out),(by (with_reducible repeat (first|refine kn_ ?_ _|refine kd_ ?_|refine ka_ ?_ _));exact BK225.out),(by repeat (first|(with_reducible first|exact HB.out|apply ba_|apply pn_|apply pd_|refine bs_ ?_ GE225.out)|exact HB.out))⟩)
          ·skip
           rintro v241 w53 ⟨hS_,h0_,h1_,h2_⟩
           have n0_ : Aside0 (Kd.R (Kd.int .u8) 5 w53 w.heap.size (fun _ => True) v241 y240):=⟨h0_⟩
           have n1_ : Aside0 (w53.heap[gb225]? = some (.cells #[.bool true,.bool a0_1,.bool a0_2,.int .i64 a0_3,.int .u32 a0_4,.string a0_5,.string a0_6,.string a0_7,.int .u64 a0_8,.int .i64 a0_9,.int .u64 a0_10] 28 (0,0))):=⟨h1_⟩
           have n2_ : Aside0 (Below w.heap.size w w53):=⟨h2_⟩
           clear BK225
           clear HB
           clear h0_ h1_ h2_
           have HO242:=n0_
           have BK225:=n1_
           have HB:=n2_
           clear n0_ n1_ n2_
           have hHeld : w53.cell? ⟨gb225,0,none⟩ = some (.bool true) ∧ w53.cell? ⟨gb225,1,none⟩ = some (.bool a0_1) ∧ w53.cell? ⟨gb225,2,none⟩ = some (.bool a0_2) ∧ w53.cell? ⟨gb225,3,none⟩ = some (.int .i64 a0_3) ∧ w53.cell? ⟨gb225,4,none⟩ = some (.int .u32 a0_4) ∧ w53.cell? ⟨gb225,5,none⟩ = some (.string a0_5) ∧ w53.cell? ⟨gb225,6,none⟩ = some (.string a0_6) ∧ w53.cell? ⟨gb225,7,none⟩ = some (.string a0_7) ∧ w53.cell? ⟨gb225,8,none⟩ = some (.int .u64 a0_8) ∧ w53.cell? ⟨gb225,9,none⟩ = some (.int .i64 a0_9) ∧ w53.cell? ⟨gb225,10,none⟩ = some (.int .u64 a0_10):=hS_
           refine norm_ (a':=?_) ?_ ?_
           rotate_left
           ·simp only [putAll,Act.put,ps_]
            rfl
           refine one_ (i:=14) (N:=some 61) #[T_,T_,T_,T_,T_,T_,T_,T_,T_,T_,T_,T_,T_,T_,T_,F_,F_] rfl rfl (one_of HT_.out (by kernel_rfl)) (by decide) (fun K hK => ?_)
           refine goes_ Tryd.func30 (by kernel_rfl) rfl #[.string a0_6] (by rfl) rfl rfl (by (try simp only [List.map_toArray,List.map_cons,List.map_nil]);first|done|rfl|(simp only [List.length_drop,List.length_take];rfl)) ?_
           with_reducible refine (dominoref04_short.calls a0_6 t245 _ A10.out).mono ?_
           rintro e w54 ⟨rfl,hb⟩
           refine ⟨_,rfl,?_⟩
           have n0_:=am_ (Kd.R_below (by (with_reducible repeat (first|apply ra_|apply rn_|apply rd_));exact HO242.out) hb)
           have n1_:=am_ (blk_below (g:=gb225) (o:=.cells #[.bool true,.bool a0_1,.bool a0_2,.int .i64 a0_3,.int .u32 a0_4,.string a0_5,.string a0_6,.string a0_7,.int .u64 a0_8,.int .i64 a0_9,.int .u64 a0_10] 28 (0,0)) (by (with_reducible repeat (first|refine kn_ ?_ _|refine kd_ ?_|refine ka_ ?_ _));exact BK225.out) hb)
           have n2_:=am_ (below_step (by repeat (first|(with_reducible first|exact HB.out|apply ba_|apply pn_|apply pd_|refine bs_ ?_ GE225.out)|exact HB.out)) hb)
           clear HO242
           clear BK225
           clear HB
           have HO242:=n0_
           have BK225:=n1_
           have HB:=n2_
           clear n0_ n1_ n2_
           (try clear hb)
           (try clear hb2)
           (try clear hk)
           (try clear hi)
           refine hK.out _ _ ⟨(kc_ BK225.out 0).trans rfl,(kc_ BK225.out 1).trans rfl,(kc_ BK225.out 2).trans rfl,(kc_ BK225.out 3).trans rfl,(kc_ BK225.out 4).trans rfl,(kc_ BK225.out 5).trans rfl,(kc_ BK225.out 6).trans rfl,(kc_ BK225.out 7).trans rfl,(kc_ BK225.out 8).trans rfl,(kc_ BK225.out 9).trans rfl,(kc_ BK225.out 10).trans rfl⟩ (fun hHeld => ?_)
           clear hK K
           refine norm_ (a':=?_) ?_ ?_
           rotate_left
           ·show Act.put _ (some 61) _ = _
            simp only [Act.put,ps_,i64_w,i32_w]
            rfl
           exact norm_ (by first|(simp only [putAll,Act.put,ps_];done)|(simp only [putAll,Act.put,ps_];rfl)) (hJ1_2_6_10_14 (v241) _ ⟨hHeld,(by (with_reducible repeat (first|apply ra_|apply rn_|apply rd_));exact HO242.out),(by (with_reducible repeat (first|refine kn_ ?_ _|refine kd_ ?_|refine ka_ ?_ _));exact BK225.out),(by repeat (first|(with_reducible first|exact HB.out|apply ba_|apply pn_|apply pd_|refine bs_ ?_ GE225.out)|exact HB.out))⟩)
         rintro v241 w54 ⟨hS_,h0_,h1_,h2_⟩
         have n0_ : Aside0 (Kd.R (Kd.int .u8) 5 w54 w.heap.size (fun _ => True) v241 y240):=⟨h0_⟩
         have n1_ : Aside0 (w54.heap[gb225]? = some (.cells #[.bool true,.bool a0_1,.bool a0_2,.int .i64 a0_3,.int .u32 a0_4,.string a0_5,.string a0_6,.string a0_7,.int .u64 a0_8,.int .i64 a0_9,.int .u64 a0_10] 28 (0,0))):=⟨h1_⟩
         have n2_ : Aside0 (Below w.heap.size w w54):=⟨h2_⟩
         clear BK225
         clear HB
         clear h0_ h1_ h2_
         have HO242:=n0_
         have BK225:=n1_
         have HB:=n2_
         clear n0_ n1_ n2_
         have hHeld : w54.cell? ⟨gb225,0,none⟩ = some (.bool true) ∧ w54.cell? ⟨gb225,1,none⟩ = some (.bool a0_1) ∧ w54.cell? ⟨gb225,2,none⟩ = some (.bool a0_2) ∧ w54.cell? ⟨gb225,3,none⟩ = some (.int .i64 a0_3) ∧ w54.cell? ⟨gb225,4,none⟩ = some (.int .u32 a0_4) ∧ w54.cell? ⟨gb225,5,none⟩ = some (.string a0_5) ∧ w54.cell? ⟨gb225,6,none⟩ = some (.string a0_6) ∧ w54.cell? ⟨gb225,7,none⟩ = some (.string a0_7) ∧ w54.cell? ⟨gb225,8,none⟩ = some (.int .u64 a0_8) ∧ w54.cell? ⟨gb225,9,none⟩ = some (.int .i64 a0_9) ∧ w54.cell? ⟨gb225,10,none⟩ = some (.int .u64 a0_10):=hS_
         refine norm_ (a':=?_) ?_ ?_
         rotate_left
         ·simp only [putAll,Act.put,ps_]
          rfl
         refine pure_ (i:=15) (N:=some 62) (v:=?_) (a':=?_) #[T_,T_,T_,T_,T_,T_,T_,T_,T_,T_,T_,T_,T_,T_,T_,T_,F_] rfl rfl (any_of HT_.out (by kernel_rfl)) (fun _ _ _ h => h) (Or.inl ⟨by rfl,?_⟩) ?_ ?_
         rotate_left;(intro w';go_simp;with_reducible rfl);rotate_left;(simp only [Act.put,ps_,i64_w,i32_w];rfl)
         refine pure_ (i:=16) (N:=some 6) (v:=?_) (a':=?_) #[T_,T_,T_,T_,T_,T_,T_,T_,T_,T_,T_,T_,T_,T_,T_,T_,T_] rfl rfl (any_of HT_.out (by kernel_rfl)) (fun _ _ _ h => h) (Or.inl ⟨by rfl,?_⟩) ?_ ?_
         rotate_left;(intro w';go_simp;with_reducible rfl);rotate_left;(simp only [Act.put,ps_,i64_w,i32_w];rfl)
         refine done_ (done_of HT_.out (by kernel_rfl)) ?_
         have hcz55_0 : w54.cell? ⟨gb225,0,none⟩ = some (.bool true):=(kc_ BK225.out 0).trans rfl
         have hcz55_1 : w54.cell? ⟨gb225,1,none⟩ = some (.bool a0_1):=(kc_ BK225.out 1).trans rfl
         have hcz55_2 : w54.cell? ⟨gb225,2,none⟩ = some (.bool a0_2):=(kc_ BK225.out 2).trans rfl
         have hcz55_3 : w54.cell? ⟨gb225,3,none⟩ = some (.int .i64 a0_3):=(kc_ BK225.out 3).trans rfl
         have hcz55_4 : w54.cell? ⟨gb225,4,none⟩ = some (.int .u32 a0_4):=(kc_ BK225.out 4).trans rfl
         have hcz55_5 : w54.cell? ⟨gb225,5,none⟩ = some (.string a0_5):=(kc_ BK225.out 5).trans rfl
         have hcz55_6 : w54.cell? ⟨gb225,6,none⟩ = some (.string a0_6):=(kc_ BK225.out 6).trans rfl
         have hcz55_7 : w54.cell? ⟨gb225,7,none⟩ = some (.string a0_7):=(kc_ BK225.out 7).trans rfl
         have hcz55_8 : w54.cell? ⟨gb225,8,none⟩ = some (.int .u64 a0_8):=(kc_ BK225.out 8).trans rfl
         have hcz55_9 : w54.cell? ⟨gb225,9,none⟩ = some (.int .i64 a0_9):=(kc_ BK225.out 9).trans rfl
         have hcz55_10 : w54.cell? ⟨gb225,10,none⟩ = some (.int .u64 a0_10):=(kc_ BK225.out 10).trans rfl
         have hfz55_0:=blk_frozen BK225.out 0
         have hfz55_1:=blk_frozen BK225.out 1
         have hfz55_2:=blk_frozen BK225.out 2
         have hfz55_3:=blk_frozen BK225.out 3
         have hfz55_4:=blk_frozen BK225.out 4
         have hfz55_5:=blk_frozen BK225.out 5
         have hfz55_6:=blk_frozen BK225.out 6
         have hfz55_7:=blk_frozen BK225.out 7
         have hfz55_8:=blk_frozen BK225.out 8
         have hfz55_9:=blk_frozen BK225.out 9
         have hfz55_10:=blk_frozen BK225.out 10
         try go_wp2_with (first|((with_reducible refine gate_callee (f:=31) rfl ?_);refine goesL_ (some 79) rfl rfl Tryd.func31 (by kernel_rfl) rfl #[.int .u64 a0_8] rfl (by (try simp only [List.map_toArray,List.map_cons,List.map_nil]);first|done|rfl|(simp only [List.length_drop,List.length_take];rfl)) ?_;(with_reducible refine (dominoref04_v.calls k a0_8 t248 _ A38.out).mono ?_);rintro e w56 ⟨rfl,hb⟩;refine ⟨_,rfl,?_⟩;have n0_:=am_ (Kd.R_below (by (with_reducible repeat (first|apply ra_|apply rn_|apply rd_));exact HO242.out) hb);have n1_:=am_ (blk_below (g:=gb225) (o:=.cells #[.bool true,.bool a0_1,.bool a0_2,.int .i64 a0_3,.int .u32 a0_4,.string a0_5,.string a0_6,.string a0_7,.int .u64 a0_8,.int .i64 a0_9,.int .u64 a0_10] 28 (0,0)) (by (with_reducible repeat (first|refine kn_ ?_ _|refine kd_ ?_|refine ka_ ?_ _));exact BK225.out) hb);have n2_:=am_ (below_step (by repeat (first|(with_reducible first|exact HB.out|apply ba_|apply pn_|apply pd_|refine bs_ ?_ GE225.out)|exact HB.out)) hb);clear HO242;clear BK225;clear HB;have HO242:=n0_;have BK225:=n1_;have HB:=n2_;clear n0_ n1_ n2_;(try clear hb);(try clear hb2);(try clear hk);(try clear hi)))
         go_ret2
         exact ⟨by first|rfl|(simp [errW_none,errW_some] <;> rfl)|(simp [*,errW_none,errW_some] <;> rfl),by repeat (first|(with_reducible first|exact HB.out|apply ba_|apply pn_|apply pd_|refine bs_ ?_ GE225.out)|exact HB.out)⟩
        ·rw [if_neg c40] at H
         exact absurd H (by simp)
       ·rw [if_neg c39] at H
        exact absurd H (by simp)
     ·rw [if_neg c11] at H
      exact absurd H (by simp)
    ·rw [if_neg c9] at H
     exact absurd H (by simp)
   ·rw [if_neg c7] at H
    exact absurd H (by simp)
  ·replace c5:=Bool.eq_false_iff.mpr c5
   subst c5
   have H1 : (if a0_1 = true then (if a0_2 = true then ((some (([(((((((wrap64 (a0_9 - 1)) % 256) + 64) % 256) + 32) % 256) + 4) % 256] : List Int) : List Int)).bind fun y228 => (if (strOfNums y228).size + a0_5.size ≤ 9223372036854775807 then (if ((strOfNums y228) ++ a0_5).size + t227.size ≤ 9223372036854775807 then (some (((strOfNums y228) ++ a0_5) ++ t227,0)) else (none)) else (none))) else ((some (([(((((wrap64 (a0_9 - 1)) % 256) + 64) % 256) + 32) % 256] : List Int) : List Int)).bind fun y231 => (if (strOfNums y231).size + a0_5.size ≤ 9223372036854775807 then (if ((strOfNums y231) ++ a0_5).size + t227.size ≤ 9223372036854775807 then (some (((strOfNums y231) ++ a0_5) ++ t227,0)) else (none)) else (none)))) else (if a0_2 = true then ((some (([(((((wrap64 (a0_9 - 1)) % 256) + 64) % 256) + 4) % 256] : List Int) : List Int)).bind fun y234 => (if (strOfNums y234).size + a0_5.size ≤ 9223372036854775807 then (if ((strOfNums y234) ++ a0_5).size + t227.size ≤ 9223372036854775807 then (some (((strOfNums y234) ++ a0_5) ++ t227,0)) else (none)) else (none))) else ((some (([(((wrap64 (a0_9 - 1)) % 256) + 64) % 256] : List Int) : List Int)).bind fun y237 => (if (strOfNums y237).size + a0_5.size ≤ 9223372036854775807 then (if ((strOfNums y237) ++ a0_5).size + t227.size ≤ 9223372036854775807 then (some (((strOfNums y237) ++ a0_5) ++ t227,0)) else (none)) else (none))))) = some (r1,r2):=by rw [if_neg (show ¬ (false = true) by decide)] at H;exact H
   clear H
   have H:=H1
   clear H1
   by_cases c57 : a0_1 = true
   ·subst c57
    have H1 : (if a0_2 = true then ((some (([(((((((wrap64 (a0_9 - 1)) % 256) + 64) % 256) + 32) % 256) + 4) % 256] : List Int) : List Int)).bind fun y228 => (if (strOfNums y228).size + a0_5.size ≤ 9223372036854775807 then (if ((strOfNums y228) ++ a0_5).size + t227.size ≤ 9223372036854775807 then (some (((strOfNums y228) ++ a0_5) ++ t227,0)) else (none)) else (none))) else ((some (([(((((wrap64 (a0_9 - 1)) % 256) + 64) % 256) + 32) % 256] : List Int) : List Int)).bind fun y231 => (if (strOfNums y231).size + a0_5.size ≤ 9223372036854775807 then (if ((strOfNums y231) ++ a0_5).size + t227.size ≤ 9223372036854775807 then (some (((strOfNums y231) ++ a0_5) ++ t227,0)) else (none)) else (none)))) = some (r1,r2):=by rw [if_pos rfl] at H;exact H
    clear H
    have H:=H1
    clear H1
    by_cases c58 : a0_2 = true
    ·subst c58
     have H1 : ((some (([(((((((wrap64 (a0_9 - 1)) % 256) + 64) % 256) + 32) % 256) + 4) % 256] : List Int) : List Int)).bind fun y228 => (if (strOfNums y228).size + a0_5.size ≤ 9223372036854775807 then (if ((strOfNums y228) ++ a0_5).size + t227.size ≤ 9223372036854775807 then (some (((strOfNums y228) ++ a0_5) ++ t227,0)) else (none)) else (none))) = some (r1,r2):=by rw [if_pos rfl] at H;exact H
     clear H
     have H:=H1
     clear H1
     obtain ⟨y228,hy228⟩ : ∃ y_ : List Int,y_ = (([(((((((wrap64 (a0_9 - 1)) % 256) + 64) % 256) + 32) % 256) + 4) % 256] : List Int)):=⟨_,rfl⟩
     replace H : (if (strOfNums y228).size + a0_5.size ≤ 9223372036854775807 then (if ((strOfNums y228) ++ a0_5).size + t227.size ≤ 9223372036854775807 then (some (((strOfNums y228) ++ a0_5) ++ t227,0)) else (none)) else (none)) = some (r1,r2):=by first|(rw [hy228];with_reducible exact H)|(have H2_:=(Option.bind_some _ _).symm.trans H;rw [hy228];with_reducible exact H2_)|(have H2_:=(Option.bind_some _ _).symm.trans H;with_reducible exact H2_)|with_reducible exact H|(rw [hy228];exact H)|exact H
     have Ny228:=am_ hy228
     clear hy228
     by_cases c59 : (strOfNums y228).size + a0_5.size ≤ 9223372036854775807
     ·rw [if_pos c59] at H
      have c59b0:=eq_true c59
      have c59b1 : decide ((strOfNums y228).size + a0_5.size ≤ 9223372036854775807) = true:=decide_eq_true c59
      try have c59b2 : (9223372036854775807 < (strOfNums y228).size + a0_5.size) = False:=eq_false (Nat.not_lt.2 c59)
      by_cases c60 : ((strOfNums y228) ++ a0_5).size + t227.size ≤ 9223372036854775807
      ·rw [if_pos c60] at H
       have c60b0:=eq_true c60
       have c60b1 : decide (((strOfNums y228) ++ a0_5).size + t227.size ≤ 9223372036854775807) = true:=decide_eq_true c60
       try have c60b2 : (9223372036854775807 < ((strOfNums y228) ++ a0_5).size + t227.size) = False:=eq_false (Nat.not_lt.2 c60)
       (try (have c60b3:=c60;simp [ByteArray.size_append] at c60b3;have c60b4:=eq_false (Nat.not_lt.2 c60b3);have c60b5:=eq_true c60b3;clear c60b3))
       simp only [Option.some.injEq,Prod.mk.injEq] at H
       obtain ⟨rfl,rfl⟩:=H
       go_enter Tryd.func13,Tryd.ntmps13
       go_wp2_with (first|((with_reducible refine gate_dst (N:=1) rfl ?_);refine box_event ?hg (N:=1) ?hd (cs:=#[.bool false,.bool true,.bool true,.int .i64 a0_3,.int .u32 a0_4,.string a0_5,.string a0_6,.string a0_7,.int .u64 a0_8,.int .i64 a0_9,.int .u64 a0_10]) (t:=28) ?hr ?_;(case hd => rfl);(case hg => rfl);(case hr => first|(go_simp;done)|(go_simp;rfl));intro gb225 hg w61 hbox hb;have n0_:=am_ (below_step (by repeat (first|(with_reducible first|exact HB.out|apply ba_|apply pn_|apply pd_)|exact HB.out)) hb);have n1_:=am_ (hbox);have n2_:=am_ ((by rw [hg];exact (below_size (by repeat (first|(with_reducible first|exact HB.out|apply ba_|apply pn_|apply pd_)|exact HB.out))) : w.heap.size ≤ gb225));have n3_:=am_ ((by rw [hg];exact (below_size (by repeat (first|(with_reducible first|exact HB.out|apply ba_|apply pn_|apply pd_)|exact HB.out))) : w.heap.size ≤ gb225));clear HB;have HB:=n0_;have BK225:=n1_;have GW225:=n2_;have GE225:=n3_;clear n0_ n1_ n2_ n3_;clear hb hbox hg;have hcz62_0 : w61.cell? ⟨gb225,0,none⟩ = some (.bool false):=(kc_ BK225.out 0).trans rfl;have hcz62_1 : w61.cell? ⟨gb225,1,none⟩ = some (.bool true):=(kc_ BK225.out 1).trans rfl;have hcz62_2 : w61.cell? ⟨gb225,2,none⟩ = some (.bool true):=(kc_ BK225.out 2).trans rfl;have hcz62_3 : w61.cell? ⟨gb225,3,none⟩ = some (.int .i64 a0_3):=(kc_ BK225.out 3).trans rfl;have hcz62_4 : w61.cell? ⟨gb225,4,none⟩ = some (.int .u32 a0_4):=(kc_ BK225.out 4).trans rfl;have hcz62_5 : w61.cell? ⟨gb225,5,none⟩ = some (.string a0_5):=(kc_ BK225.out 5).trans rfl;have hcz62_6 : w61.cell? ⟨gb225,6,none⟩ = some (.string a0_6):=(kc_ BK225.out 6).trans rfl;have hcz62_7 : w61.cell? ⟨gb225,7,none⟩ = some (.string a0_7):=(kc_ BK225.out 7).trans rfl;have hcz62_8 : w61.cell? ⟨gb225,8,none⟩ = some (.int .u64 a0_8):=(kc_ BK225.out 8).trans rfl;have hcz62_9 : w61.cell? ⟨gb225,9,none⟩ = some (.int .i64 a0_9):=(kc_ BK225.out 9).trans rfl;have hcz62_10 : w61.cell? ⟨gb225,10,none⟩ = some (.int .u64 a0_10):=(kc_ BK225.out 10).trans rfl;have hfz62_0:=blk_frozen BK225.out 0;have hfz62_1:=blk_frozen BK225.out 1;have hfz62_2:=blk_frozen BK225.out 2;have hfz62_3:=blk_frozen BK225.out 3;have hfz62_4:=blk_frozen BK225.out 4;have hfz62_5:=blk_frozen BK225.out 5;have hfz62_6:=blk_frozen BK225.out 6;have hfz62_7:=blk_frozen BK225.out 7;have hfz62_8:=blk_frozen BK225.out 8;have hfz62_9:=blk_frozen BK225.out 9;have hfz62_10:=blk_frozen BK225.out 10;skip)|((with_reducible refine gate_callee (f:=19) rfl ?_);refine goesL_ (some 8) rfl rfl Tryd.func19 (by kernel_rfl) rfl #[.agg #[.bool false,.bool true,.bool true,.int .i64 a0_3,.int .u32 a0_4,.string a0_5,.string a0_6,.string a0_7,.int .u64 a0_8,.int .i64 a0_9,.int .u64 a0_10]] rfl (by (try simp only [List.map_toArray,List.map_cons,List.map_nil]);first|done|rfl|(simp only [List.length_drop,List.length_take];rfl)) ?_;(with_reducible refine (dominoref04_May.calls k false true true a0_3 a0_4 a0_5 a0_6 a0_7 a0_8 a0_9 a0_10 true _ A2.out).mono ?_);rintro e w63 ⟨rfl,hb⟩;refine ⟨_,rfl,?_⟩;have n0_:=am_ (blk_below (g:=gb225) (o:=.cells #[.bool false,.bool true,.bool true,.int .i64 a0_3,.int .u32 a0_4,.string a0_5,.string a0_6,.string a0_7,.int .u64 a0_8,.int .i64 a0_9,.int .u64 a0_10] 28 (0,0)) (by (with_reducible repeat (first|refine kn_ ?_ _|refine kd_ ?_|refine ka_ ?_ _));exact BK225.out) hb);have n1_:=am_ (below_step (by repeat (first|(with_reducible first|exact HB.out|apply ba_|apply pn_|apply pd_|refine bs_ ?_ GE225.out)|exact HB.out)) hb);clear BK225;clear HB;have BK225:=n0_;have HB:=n1_;clear n0_ n1_;(try clear hb);(try clear hb2);(try clear hk);(try clear hi);have hcz64_0 : w63.cell? ⟨gb225,0,none⟩ = some (.bool false):=(kc_ BK225.out 0).trans rfl;have hcz64_1 : w63.cell? ⟨gb225,1,none⟩ = some (.bool true):=(kc_ BK225.out 1).trans rfl;have hcz64_2 : w63.cell? ⟨gb225,2,none⟩ = some (.bool true):=(kc_ BK225.out 2).trans rfl;have hcz64_3 : w63.cell? ⟨gb225,3,none⟩ = some (.int .i64 a0_3):=(kc_ BK225.out 3).trans rfl;have hcz64_4 : w63.cell? ⟨gb225,4,none⟩ = some (.int .u32 a0_4):=(kc_ BK225.out 4).trans rfl;have hcz64_5 : w63.cell? ⟨gb225,5,none⟩ = some (.string a0_5):=(kc_ BK225.out 5).trans rfl;have hcz64_6 : w63.cell? ⟨gb225,6,none⟩ = some (.string a0_6):=(kc_ BK225.out 6).trans rfl;have hcz64_7 : w63.cell? ⟨gb225,7,none⟩ = some (.string a0_7):=(kc_ BK225.out 7).trans rfl;have hcz64_8 : w63.cell? ⟨gb225,8,none⟩ = some (.int .u64 a0_8):=(kc_ BK225.out 8).trans rfl;have hcz64_9 : w63.cell? ⟨gb225,9,none⟩ = some (.int .i64 a0_9):=(kc_ BK225.out 9).trans rfl;have hcz64_10 : w63.cell? ⟨gb225,10,none⟩ = some (.int .u64 a0_10):=(kc_ BK225.out 10).trans rfl;have hfz64_0:=blk_frozen BK225.out 0;have hfz64_1:=blk_frozen BK225.out 1;have hfz64_2:=blk_frozen BK225.out 2;have hfz64_3:=blk_frozen BK225.out 3;have hfz64_4:=blk_frozen BK225.out 4;have hfz64_5:=blk_frozen BK225.out 5;have hfz64_6:=blk_frozen BK225.out 6;have hfz64_7:=blk_frozen BK225.out 7;have hfz64_8:=blk_frozen BK225.out 8;have hfz64_9:=blk_frozen BK225.out 9;have hfz64_10:=blk_frozen BK225.out 10;skip)|((with_reducible refine gate_callee (f:=29) rfl ?_);refine goesL_ (some 18) rfl rfl Tryd.func29 (by kernel_rfl) rfl #[.int .u64 a0_10,.int .i64 a0_9] rfl (by (try simp only [List.map_toArray,List.map_cons,List.map_nil]);first|done|rfl|(simp only [List.length_drop,List.length_take];rfl)) ?_;(with_reducible refine (dominoref01_Fixed.calls k a0_10 a0_9 t227 _ A4.out).mono ?_);rintro e w65 ⟨rfl,hb⟩;refine ⟨_,rfl,?_⟩;have n0_:=am_ (blk_below (g:=gb225) (o:=.cells #[.bool false,.bool true,.bool true,.int .i64 a0_3,.int .u32 a0_4,.string a0_5,.string a0_6,.string a0_7,.int .u64 a0_8,.int .i64 a0_9,.int .u64 a0_10] 28 (0,0)) (by (with_reducible repeat (first|refine kn_ ?_ _|refine kd_ ?_|refine ka_ ?_ _));exact BK225.out) hb);have n1_:=am_ (below_step (by repeat (first|(with_reducible first|exact HB.out|apply ba_|apply pn_|apply pd_|refine bs_ ?_ GE225.out)|exact HB.out)) hb);clear BK225;clear HB;have BK225:=n0_;have HB:=n1_;clear n0_ n1_;(try clear hb);(try clear hb2);(try clear hk);(try clear hi);have hcz66_0 : w65.cell? ⟨gb225,0,none⟩ = some (.bool false):=(kc_ BK225.out 0).trans rfl;have hcz66_1 : w65.cell? ⟨gb225,1,none⟩ = some (.bool true):=(kc_ BK225.out 1).trans rfl;have hcz66_2 : w65.cell? ⟨gb225,2,none⟩ = some (.bool true):=(kc_ BK225.out 2).trans rfl;have hcz66_3 : w65.cell? ⟨gb225,3,none⟩ = some (.int .i64 a0_3):=(kc_ BK225.out 3).trans rfl;have hcz66_4 : w65.cell? ⟨gb225,4,none⟩ = some (.int .u32 a0_4):=(kc_ BK225.out 4).trans rfl;have hcz66_5 : w65.cell? ⟨gb225,5,none⟩ = some (.string a0_5):=(kc_ BK225.out 5).trans rfl;have hcz66_6 : w65.cell? ⟨gb225,6,none⟩ = some (.string a0_6):=(kc_ BK225.out 6).trans rfl;have hcz66_7 : w65.cell? ⟨gb225,7,none⟩ = some (.string a0_7):=(kc_ BK225.out 7).trans rfl;have hcz66_8 : w65.cell? ⟨gb225,8,none⟩ = some (.int .u64 a0_8):=(kc_ BK225.out 8).trans rfl;have hcz66_9 : w65.cell? ⟨gb225,9,none⟩ = some (.int .i64 a0_9):=(kc_ BK225.out 9).trans rfl;have hcz66_10 : w65.cell? ⟨gb225,10,none⟩ = some (.int .u64 a0_10):=(kc_ BK225.out 10).trans rfl;have hfz66_0:=blk_frozen BK225.out 0;have hfz66_1:=blk_frozen BK225.out 1;have hfz66_2:=blk_frozen BK225.out 2;have hfz66_3:=blk_frozen BK225.out 3;have hfz66_4:=blk_frozen BK225.out 4;have hfz66_5:=blk_frozen BK225.out 5;have hfz66_6:=blk_frozen BK225.out 6;have hfz66_7:=blk_frozen BK225.out 7;have hfz66_8:=blk_frozen BK225.out 8;have hfz66_9:=blk_frozen BK225.out 9;have hfz66_10:=blk_frozen BK225.out 10;skip)|((with_reducible refine gate_dst (N:=33) rfl ?_);refine Kd.R_lit (Kd.int .u8) _ 5 ?hg (N:=33) ?hd (xs:=([(((((((wrap64 (a0_9 - 1)) % 256) + 64) % 256) + 32) % 256) + 4) % 256] : List Int)) (inner:=[.int .u8 ((((((((wrap64 (a0_9 - 1)) % 256) + 64) % 256) + 32) % 256) + 4) % 256)]) (ok:=fun _ => True) (okp:=fun _ => True) ?hr ?hp (fun _ hk => hk) trivial (Below.refl _ _) (Nat.le_refl _) (by simp) ?_;(case hd => rfl);(case hg => rfl);(case hr => first|(go_simp;done)|(go_simp;rfl));(case hp => exact (Reps.one (show Kd.M (Kd.int .u8) _ _ _ ((((((((wrap64 (a0_9 - 1)) % 256) + 64) % 256) + 32) % 256) + 4) % 256) [.int .u8 ((((((((wrap64 (a0_9 - 1)) % 256) + 64) % 256) + 32) % 256) + 4) % 256)] from rfl) (Reps.none _ _)));intro v229 w67 ho68 hb hg_ hnew_;clear hg_ hnew_;(first|rw [← Ny228.out] at ho68|(simp only [Int.reduceToNat] at ho68;rw [← Ny228.out] at ho68));have n0_:=am_ (Kd.R_lower ho68 (below_size (by repeat (first|(with_reducible first|exact HB.out|apply ba_|apply pn_|apply pd_|refine bs_ ?_ GE225.out)|exact HB.out))));have n1_:=am_ (blk_below (g:=gb225) (o:=.cells #[.bool false,.bool true,.bool true,.int .i64 a0_3,.int .u32 a0_4,.string a0_5,.string a0_6,.string a0_7,.int .u64 a0_8,.int .i64 a0_9,.int .u64 a0_10] 28 (0,0)) (by (with_reducible repeat (first|refine kn_ ?_ _|refine kd_ ?_|refine ka_ ?_ _));exact BK225.out) hb);have n2_:=am_ (below_step (by repeat (first|(with_reducible first|exact HB.out|apply ba_|apply pn_|apply pd_|refine bs_ ?_ GE225.out)|exact HB.out)) hb);clear BK225;clear HB;have HO230:=n0_;have BK225:=n1_;have HB:=n2_;clear n0_ n1_ n2_;clear hb ho68;have hcv69:=own_string (P:=Tryd.prog) Tryd.underlying44 Tryd.underlying5 Tryd.underlying9 (Kd.own_of_R HO230.out);have hcz70_0 : w67.cell? ⟨gb225,0,none⟩ = some (.bool false):=(kc_ BK225.out 0).trans rfl;have hcz70_1 : w67.cell? ⟨gb225,1,none⟩ = some (.bool true):=(kc_ BK225.out 1).trans rfl;have hcz70_2 : w67.cell? ⟨gb225,2,none⟩ = some (.bool true):=(kc_ BK225.out 2).trans rfl;have hcz70_3 : w67.cell? ⟨gb225,3,none⟩ = some (.int .i64 a0_3):=(kc_ BK225.out 3).trans rfl;have hcz70_4 : w67.cell? ⟨gb225,4,none⟩ = some (.int .u32 a0_4):=(kc_ BK225.out 4).trans rfl;have hcz70_5 : w67.cell? ⟨gb225,5,none⟩ = some (.string a0_5):=(kc_ BK225.out 5).trans rfl;have hcz70_6 : w67.cell? ⟨gb225,6,none⟩ = some (.string a0_6):=(kc_ BK225.out 6).trans rfl;have hcz70_7 : w67.cell? ⟨gb225,7,none⟩ = some (.string a0_7):=(kc_ BK225.out 7).trans rfl;have hcz70_8 : w67.cell? ⟨gb225,8,none⟩ = some (.int .u64 a0_8):=(kc_ BK225.out 8).trans rfl;have hcz70_9 : w67.cell? ⟨gb225,9,none⟩ = some (.int .i64 a0_9):=(kc_ BK225.out 9).trans rfl;have hcz70_10 : w67.cell? ⟨gb225,10,none⟩ = some (.int .u64 a0_10):=(kc_ BK225.out 10).trans rfl;have hfz70_0:=blk_frozen BK225.out 0;have hfz70_1:=blk_frozen BK225.out 1;have hfz70_2:=blk_frozen BK225.out 2;have hfz70_3:=blk_frozen BK225.out 3;have hfz70_4:=blk_frozen BK225.out 4;have hfz70_5:=blk_frozen BK225.out 5;have hfz70_6:=blk_frozen BK225.out 6;have hfz70_7:=blk_frozen BK225.out 7;have hfz70_8:=blk_frozen BK225.out 8;have hfz70_9:=blk_frozen BK225.out 9;have hfz70_10:=blk_frozen BK225.out 10;skip))
       go_ret2
       exact ⟨by first|rfl|(simp [errW_none,errW_some] <;> rfl)|(simp [*,errW_none,errW_some] <;> rfl),by repeat (first|(with_reducible first|exact HB.out|apply ba_|apply pn_|apply pd_|refine bs_ ?_ GE225.out)|exact HB.out)⟩
      ·rw [if_neg c60] at H
       exact absurd H (by simp)
     ·rw [if_neg c59] at H
      exact absurd H (by simp)
    ·replace c58:=Bool.eq_false_iff.mpr c58
     subst c58
     have H1 : ((some (([(((((wrap64 (a0_9 - 1)) % 256) + 64) % 256) + 32) % 256] : List Int) : List Int)).bind fun y231 => (if (strOfNums y231).size + a0_5.size ≤ 9223372036854775807 then (if ((strOfNums y231) ++ a0_5).size + t227.size ≤ 9223372036854775807 then (some (((strOfNums y231) ++ a0_5) ++ t227,0)) else (none)) else (none))) = some (r1,r2):=by rw [if_neg (show ¬ (false = true) by decide)] at H;exact H
     clear H
     have H:=H1
     clear H1
     obtain ⟨y231,hy231⟩ : ∃ y_ : List Int,y_ = (([(((((wrap64 (a0_9 - 1)) % 256) + 64) % 256) + 32) % 256] : List Int)):=⟨_,rfl⟩
     replace H : (if (strOfNums y231).size + a0_5.size ≤ 9223372036854775807 then (if ((strOfNums y231) ++ a0_5).size + t227.size ≤ 9223372036854775807 then (some (((strOfNums y231) ++ a0_5) ++ t227,0)) else (none)) else (none)) = some (r1,r2):=by first|(rw [hy231];with_reducible exact H)|(have H2_:=(Option.bind_some _ _).symm.trans H;rw [hy231];with_reducible exact H2_)|(have H2_:=(Option.bind_some _ _).symm.trans H;with_reducible exact H2_)|with_reducible exact H|(rw [hy231];exact H)|exact H
     have Ny231:=am_ hy231
     clear hy231
     by_cases c71 : (strOfNums y231).size + a0_5.size ≤ 9223372036854775807
     ·rw [if_pos c71] at H
      have c71b0:=eq_true c71
      have c71b1 : decide ((strOfNums y231).size + a0_5.size ≤ 9223372036854775807) = true:=decide_eq_true c71
      try have c71b2 : (9223372036854775807 < (strOfNums y231).size + a0_5.size) = False:=eq_false (Nat.not_lt.2 c71)
      by_cases c72 : ((strOfNums y231) ++ a0_5).size + t227.size ≤ 9223372036854775807
      ·rw [if_pos c72] at H
       have c72b0:=eq_true c72
       have c72b1 : decide (((strOfNums y231) ++ a0_5).size + t227.size ≤ 9223372036854775807) = true:=decide_eq_true c72
       try have c72b2 : (9223372036854775807 < ((strOfNums y231) ++ a0_5).size + t227.size) = False:=eq_false (Nat.not_lt.2 c72)
       (try (have c72b3:=c72;simp [ByteArray.size_append] at c72b3;have c72b4:=eq_false (Nat.not_lt.2 c72b3);have c72b5:=eq_true c72b3;clear c72b3))
       simp only [Option.some.injEq,Prod.mk.injEq] at H
       obtain ⟨rfl,rfl⟩:=H
       go_enter Tryd.func13,Tryd.ntmps13
       go_wp2_with (first|((with_reducible refine gate_dst (N:=1) rfl ?_);refine box_event ?hg (N:=1) ?hd (cs:=#[.bool false,.bool true,.bool false,.int .i64 a0_3,.int .u32 a0_4,.string a0_5,.string a0_6,.string a0_7,.int .u64 a0_8,.int .i64 a0_9,.int .u64 a0_10]) (t:=28) ?hr ?_;(case hd => rfl);(case hg => rfl);(case hr => first|(go_simp;done)|(go_simp;rfl));intro gb225 hg w73 hbox hb;have n0_:=am_ (below_step (by repeat (first|(with_reducible first|exact HB.out|apply ba_|apply pn_|apply pd_)|exact HB.out)) hb);have n1_:=am_ (hbox);have n2_:=am_ ((by rw [hg];exact (below_size (by repeat (first|(with_reducible first|exact HB.out|apply ba_|apply pn_|apply pd_)|exact HB.out))) : w.heap.size ≤ gb225));have n3_:=am_ ((by rw [hg];exact (below_size (by repeat (first|(with_reducible first|exact HB.out|apply ba_|apply pn_|apply pd_)|exact HB.out))) : w.heap.size ≤ gb225));clear HB;have HB:=n0_;have BK225:=n1_;have GW225:=n2_;have GE225:=n3_;clear n0_ n1_ n2_ n3_;clear hb hbox hg;have hcz74_0 : w73.cell? ⟨gb225,0,none⟩ = some (.bool false):=(kc_ BK225.out 0).trans rfl;have hcz74_1 : w73.cell? ⟨gb225,1,none⟩ = some (.bool true):=(kc_ BK225.out 1).trans rfl;have hcz74_2 : w73.cell? ⟨gb225,2,none⟩ = some (.bool false):=(kc_ BK225.out 2).trans rfl;have hcz74_3 : w73.cell? ⟨gb225,3,none⟩ = some (.int .i64 a0_3):=(kc_ BK225.out 3).trans rfl;have hcz74_4 : w73.cell? ⟨gb225,4,none⟩ = some (.int .u32 a0_4):=(kc_ BK225.out 4).trans rfl;have hcz74_5 : w73.cell? ⟨gb225,5,none⟩ = some (.string a0_5):=(kc_ BK225.out 5).trans rfl;have hcz74_6 : w73.cell? ⟨gb225,6,none⟩ = some (.string a0_6):=(kc_ BK225.out 6).trans rfl;have hcz74_7 : w73.cell? ⟨gb225,7,none⟩ = some (.string a0_7):=(kc_ BK225.out 7).trans rfl;have hcz74_8 : w73.cell? ⟨gb225,8,none⟩ = some (.int .u64 a0_8):=(kc_ BK225.out 8).trans rfl;have hcz74_9 : w73.cell? ⟨gb225,9,none⟩ = some (.int .i64 a0_9):=(kc_ BK225.out 9).trans rfl;have hcz74_10 : w73.cell? ⟨gb225,10,none⟩ = some (.int .u64 a0_10):=(kc_ BK225.out 10).trans rfl;have hfz74_0:=blk_frozen BK225.out 0;have hfz74_1:=blk_frozen BK225.out 1;have hfz74_2:=blk_frozen BK225.out 2;have hfz74_3:=blk_frozen BK225.out 3;have hfz74_4:=blk_frozen BK225.out 4;have hfz74_5:=blk_frozen BK225.out 5;have hfz74_6:=blk_frozen BK225.out 6;have hfz74_7:=blk_frozen BK225.out 7;have hfz74_8:=blk_frozen BK225.out 8;have hfz74_9:=blk_frozen BK225.out 9;have hfz74_10:=blk_frozen BK225.out 10;skip)|((with_reducible refine gate_callee (f:=19) rfl ?_);refine goesL_ (some 8) rfl rfl Tryd.func19 (by kernel_rfl) rfl #[.agg #[.bool false,.bool true,.bool false,.int .i64 a0_3,.int .u32 a0_4,.string a0_5,.string a0_6,.string a0_7,.int .u64 a0_8,.int .i64 a0_9,.int .u64 a0_10]] rfl (by (try simp only [List.map_toArray,List.map_cons,List.map_nil]);first|done|rfl|(simp only [List.length_drop,List.length_take];rfl)) ?_;(with_reducible refine (dominoref04_May.calls k false true false a0_3 a0_4 a0_5 a0_6 a0_7 a0_8 a0_9 a0_10 true _ A2.out).mono ?_);rintro e w75 ⟨rfl,hb⟩;refine ⟨_,rfl,?_⟩;have n0_:=am_ (blk_below (g:=gb225) (o:=.cells #[.bool false,.bool true,.bool false,.int .i64 a0_3,.int .u32 a0_4,.string a0_5,.string a0_6,.string a0_7,.int .u64 a0_8,.int .i64 a0_9,.int .u64 a0_10] 28 (0,0)) (by (with_reducible repeat (first|refine kn_ ?_ _|refine kd_ ?_|refine ka_ ?_ _));exact BK225.out) hb);have n1_:=am_ (below_step (by repeat (first|(with_reducible first|exact HB.out|apply ba_|apply pn_|apply pd_|refine bs_ ?_ GE225.out)|exact HB.out)) hb);clear BK225;clear HB;have BK225:=n0_;have HB:=n1_;clear n0_ n1_;(try clear hb);(try clear hb2);(try clear hk);(try clear hi);have hcz76_0 : w75.cell? ⟨gb225,0,none⟩ = some (.bool false):=(kc_ BK225.out 0).trans rfl;have hcz76_1 : w75.cell? ⟨gb225,1,none⟩ = some (.bool true):=(kc_ BK225.out 1).trans rfl;have hcz76_2 : w75.cell? ⟨gb225,2,none⟩ = some (.bool false):=(kc_ BK225.out 2).trans rfl;have hcz76_3 : w75.cell? ⟨gb225,3,none⟩ = some (.int .i64 a0_3):=(kc_ BK225.out 3).trans rfl;have hcz76_4 : w75.cell? ⟨gb225,4,none⟩ = some (.int .u32 a0_4):=(kc_ BK225.out 4).trans rfl;have hcz76_5 : w75.cell? ⟨gb225,5,none⟩ = some (.string a0_5):=(kc_ BK225.out 5).trans rfl;have hcz76_6 : w75.cell? ⟨gb225,6,none⟩ = some (.string a0_6):=(kc_ BK225.out 6).trans rfl;have hcz76_7 : w75.cell? ⟨gb225,7,none⟩ = some (.string a0_7):=(kc_ BK225.out 7).trans rfl;have hcz76_8 : w75.cell? ⟨gb225,8,none⟩ = some (.int .u64 a0_8):=(kc_ BK225.out 8).trans rfl;have hcz76_9 : w75.cell? ⟨gb225,9,none⟩ = some (.int .i64 a0_9):=(kc_ BK225.out 9).trans rfl;have hcz76_10 : w75.cell? ⟨gb225,10,none⟩ = some (.int .u64 a0_10):=(kc_ BK225.out 10).trans rfl;have hfz76_0:=blk_frozen BK225.out 0;have hfz76_1:=blk_frozen BK225.out 1;have hfz76_2:=blk_frozen BK225.out 2;have hfz76_3:=blk_frozen BK225.out 3;have hfz76_4:=blk_frozen BK225.out 4;have hfz76_5:=blk_frozen BK225.out 5;have hfz76_6:=blk_frozen BK225.out 6;have hfz76_7:=blk_frozen BK225.out 7;have hfz76_8:=blk_frozen BK225.out 8;have hfz76_9:=blk_frozen BK225.out 9;have hfz76_10:=blk_frozen BK225.out 10;skip)|((with_reducible refine gate_callee (f:=29) rfl ?_);refine goesL_ (some 18) rfl rfl Tryd.func29 (by kernel_rfl) rfl #[.int .u64 a0_10,.int .i64 a0_9] rfl (by (try simp only [List.map_toArray,List.map_cons,List.map_nil]);first|done|rfl|(simp only [List.length_drop,List.length_take];rfl)) ?_;(with_reducible refine (dominoref01_Fixed.calls k a0_10 a0_9 t227 _ A4.out).mono ?_);rintro e w77 ⟨rfl,hb⟩;refine ⟨_,rfl,?_⟩;have n0_:=am_ (blk_below (g:=gb225) (o:=.cells #[.bool false,.bool true,.bool false,.int .i64 a0_3,.int .u32 a0_4,.string a0_5,.string a0_6,.string a0_7,.int .u64 a0_8,.int .i64 a0_9,.int .u64 a0_10] 28 (0,0)) (by (with_reducible repeat (first|refine kn_ ?_ _|refine kd_ ?_|refine ka_ ?_ _));exact BK225.out) hb);have n1_:=am_ (below_step (by repeat (first|(with_reducible first|exact HB.out|apply ba_|apply pn_|apply pd_|refine bs_ ?_ GE225.out)|exact HB.out)) hb);clear BK225;clear HB;have BK225:=n0_;have HB:=n1_;clear n0_ n1_;(try clear hb);(try clear hb2);(try clear hk);(try clear hi);have hcz78_0 : w77.cell? ⟨gb225,0,none⟩ = some (.bool false):=(kc_ BK225.out 0).trans rfl;have hcz78_1 : w77.cell? ⟨gb225,1,none⟩ = some (.bool true):=(kc_ BK225.out 1).trans rfl;have hcz78_2 : w77.cell? ⟨gb225,2,none⟩ = some (.bool false):=(kc_ BK225.out 2).trans rfl;have hcz78_3 : w77.cell? ⟨gb225,3,none⟩ = some (.int .i64 a0_3):=(kc_ BK225.out 3).trans rfl;have hcz78_4 : w77.cell? ⟨gb225,4,none⟩ = some (.int .u32 a0_4):=(kc_ BK225.out 4).trans rfl;have hcz78_5 : w77.cell? ⟨gb225,5,none⟩ = some (.string a0_5):=(kc_ BK225.out 5).trans rfl;have hcz78_6 : w77.cell? ⟨gb225,6,none⟩ = some (.string a0_6):=(kc_ BK225.out 6).trans rfl;have hcz78_7 : w77.cell? ⟨gb225,7,none⟩ = some (.string a0_7):=(kc_ BK225.out 7).trans rfl;have hcz78_8 : w77.cell? ⟨gb225,8,none⟩ = some (.int .u64 a0_8):=(kc_ BK225.out 8).trans rfl;have hcz78_9 : w77.cell? ⟨gb225,9,none⟩ = some (.int .i64 a0_9):=(kc_ BK225.out 9).trans rfl;have hcz78_10 : w77.cell? ⟨gb225,10,none⟩ = some (.int .u64 a0_10):=(kc_ BK225.out 10).trans rfl;have hfz78_0:=blk_frozen BK225.out 0;have hfz78_1:=blk_frozen BK225.out 1;have hfz78_2:=blk_frozen BK225.out 2;have hfz78_3:=blk_frozen BK225.out 3;have hfz78_4:=blk_frozen BK225.out 4;have hfz78_5:=blk_frozen BK225.out 5;have hfz78_6:=blk_frozen BK225.out 6;have hfz78_7:=blk_frozen BK225.out 7;have hfz78_8:=blk_frozen BK225.out 8;have hfz78_9:=blk_frozen BK225.out 9;have hfz78_10:=blk_frozen BK225.out 10;skip)|((with_reducible refine gate_dst (N:=33) rfl ?_);refine Kd.R_lit (Kd.int .u8) _ 5 ?hg (N:=33) ?hd (xs:=([(((((wrap64 (a0_9 - 1)) % 256) + 64) % 256) + 32) % 256] : List Int)) (inner:=[.int .u8 ((((((wrap64 (a0_9 - 1)) % 256) + 64) % 256) + 32) % 256)]) (ok:=fun _ => True) (okp:=fun _ => True) ?hr ?hp (fun _ hk => hk) trivial (Below.refl _ _) (Nat.le_refl _) (by simp) ?_;(case hd => rfl);(case hg => rfl);(case hr => first|(go_simp;done)|(go_simp;rfl));(case hp => exact (Reps.one (show Kd.M (Kd.int .u8) _ _ _ ((((((wrap64 (a0_9 - 1)) % 256) + 64) % 256) + 32) % 256) [.int .u8 ((((((wrap64 (a0_9 - 1)) % 256) + 64) % 256) + 32) % 256)] from rfl) (Reps.none _ _)));intro v232 w79 ho80 hb hg_ hnew_;clear hg_ hnew_;(first|rw [← Ny231.out] at ho80|(simp only [Int.reduceToNat] at ho80;rw [← Ny231.out] at ho80));have n0_:=am_ (Kd.R_lower ho80 (below_size (by repeat (first|(with_reducible first|exact HB.out|apply ba_|apply pn_|apply pd_|refine bs_ ?_ GE225.out)|exact HB.out))));have n1_:=am_ (blk_below (g:=gb225) (o:=.cells #[.bool false,.bool true,.bool false,.int .i64 a0_3,.int .u32 a0_4,.string a0_5,.string a0_6,.string a0_7,.int .u64 a0_8,.int .i64 a0_9,.int .u64 a0_10] 28 (0,0)) (by (with_reducible repeat (first|refine kn_ ?_ _|refine kd_ ?_|refine ka_ ?_ _));exact BK225.out) hb);have n2_:=am_ (below_step (by repeat (first|(with_reducible first|exact HB.out|apply ba_|apply pn_|apply pd_|refine bs_ ?_ GE225.out)|exact HB.out)) hb);clear BK225;clear HB;have HO233:=n0_;have BK225:=n1_;have HB:=n2_;clear n0_ n1_ n2_;clear hb ho80;have hcv81:=own_string (P:=Tryd.prog) Tryd.underlying44 Tryd.underlying5 Tryd.underlying9 (Kd.own_of_R HO233.out);have hcz82_0 : w79.cell? ⟨gb225,0,none⟩ = some (.bool false):=(kc_ BK225.out 0).trans rfl;have hcz82_1 : w79.cell? ⟨gb225,1,none⟩ = some (.bool true):=(kc_ BK225.out 1).trans rfl;have hcz82_2 : w79.cell? ⟨gb225,2,none⟩ = some (.bool false):=(kc_ BK225.out 2).trans rfl;have hcz82_3 : w79.cell? ⟨gb225,3,none⟩ = some (.int .i64 a0_3):=(kc_ BK225.out 3).trans rfl;have hcz82_4 : w79.cell? ⟨gb225,4,none⟩ = some (.int .u32 a0_4):=(kc_ BK225.out 4).trans rfl;have hcz82_5 : w79.cell? ⟨gb225,5,none⟩ = some (.string a0_5):=(kc_ BK225.out 5).trans rfl;have hcz82_6 : w79.cell? ⟨gb225,6,none⟩ = some (.string a0_6):=(kc_ BK225.out 6).trans rfl;have hcz82_7 : w79.cell? ⟨gb225,7,none⟩ = some (.string a0_7):=(kc_ BK225.out 7).trans rfl;have hcz82_8 : w79.cell? ⟨gb225,8,none⟩ = some (.int .u64 a0_8):=(kc_ BK225.out 8).trans rfl;have hcz82_9 : w79.cell? ⟨gb225,9,none⟩ = some (.int .i64 a0_9):=(kc_ BK225.out 9).trans rfl;have hcz82_10 : w79.cell? ⟨gb225,10,none⟩ = some (.int .u64 a0_10):=(kc_ BK225.out 10).trans rfl;have hfz82_0:=blk_frozen BK225.out 0;have hfz82_1:=blk_frozen BK225.out 1;have hfz82_2:=blk_frozen BK225.out 2;have hfz82_3:=blk_frozen BK225.out 3;have hfz82_4:=blk_frozen BK225.out 4;have hfz82_5:=blk_frozen BK225.out 5;have hfz82_6:=blk_frozen BK225.out 6;have hfz82_7:=blk_frozen BK225.out 7;have hfz82_8:=blk_frozen BK225.out 8;have hfz82_9:=blk_frozen BK225.out 9;have hfz82_10:=blk_frozen BK225.out 10;skip))
       go_ret2
       exact ⟨by first|rfl|(simp [errW_none,errW_some] <;> rfl)|(simp [*,errW_none,errW_some] <;> rfl),by repeat (first|(with_reducible first|exact HB.out|apply ba_|apply pn_|apply pd_|refine bs_ ?_ GE225.out)|exact HB.out)⟩
      ·rw [if_neg c72] at H
       exact absurd H (by simp)
     ·rw [if_neg c71] at H
      exact absurd H (by simp)
   ·replace c57:=Bool.eq_false_iff.mpr c57
    subst c57
    have H1 : (if a0_2 = true then ((some (([(((((wrap64 (a0_9 - 1)) % 256) + 64) % 256) + 4) % 256] : List Int) : List Int)).bind fun y234 => (if (strOfNums y234).size + a0_5.size ≤ 9223372036854775807 then (if ((strOfNums y234) ++ a0_5).size + t227.size ≤ 9223372036854775807 then (some (((strOfNums y234) ++ a0_5) ++ t227,0)) else (none)) else (none))) else ((some (([(((wrap64 (a0_9 - 1)) % 256) + 64) % 256] : List Int) : List Int)).bind fun y237 => (if (strOfNums y237).size + a0_5.size ≤ 9223372036854775807 then (if ((strOfNums y237) ++ a0_5).size + t227.size ≤ 9223372036854775807 then (some (((strOfNums y237) ++ a0_5) ++ t227,0)) else (none)) else (none)))) = some (r1,r2):=by rw [if_neg (show ¬ (false = true) by decide)] at H;exact H
    clear H
    have H:=H1
    clear H1
    by_cases c83 : a0_2 = true
    ·subst c83
     have H1 : ((some (([(((((wrap64 (a0_9 - 1)) % 256) + 64) % 256) + 4) % 256] : List Int) : List Int)).bind fun y234 => (if (strOfNums y234).size + a0_5.size ≤ 9223372036854775807 then (if ((strOfNums y234) ++ a0_5).size + t227.size ≤ 9223372036854775807 then (some (((strOfNums y234) ++ a0_5) ++ t227,0)) else (none)) else (none))) = some (r1,r2):=by rw [if_pos rfl] at H;exact H
     clear H
     have H:=H1
     clear H1
     obtain ⟨y234,hy234⟩ : ∃ y_ : List Int,y_ = (([(((((wrap64 (a0_9 - 1)) % 256) + 64) % 256) + 4) % 256] : List Int)):=⟨_,rfl⟩
     replace H : (if (strOfNums y234).size + a0_5.size ≤ 9223372036854775807 then (if ((strOfNums y234) ++ a0_5).size + t227.size ≤ 9223372036854775807 then (some (((strOfNums y234) ++ a0_5) ++ t227,0)) else (none)) else (none)) = some (r1,r2):=by first|(rw [hy234];with_reducible exact H)|(have H2_:=(Option.bind_some _ _).symm.trans H;rw [hy234];with_reducible exact H2_)|(have H2_:=(Option.bind_some _ _).symm.trans H;with_reducible exact H2_)|with_reducible exact H|(rw [hy234];exact H)|exact H
     have Ny234:=am_ hy234
     clear hy234
     by_cases c84 : (strOfNums y234).size + a0_5.size ≤ 9223372036854775807
     ·rw [if_pos c84] at H
      have c84b0:=eq_true c84
      have c84b1 : decide ((strOfNums y234).size + a0_5.size ≤ 9223372036854775807) = true:=decide_eq_true c84
      try have c84b2 : (9223372036854775807 < (strOfNums y234).size + a0_5.size) = False:=eq_false (Nat.not_lt.2 c84)
      by_cases c85 : ((strOfNums y234) ++ a0_5).size + t227.size ≤ 9223372036854775807
      ·rw [if_pos c85] at H
       have c85b0:=eq_true c85
       have c85b1 : decide (((strOfNums y234) ++ a0_5).size + t227.size ≤ 9223372036854775807) = true:=decide_eq_true c85
       try have c85b2 : (9223372036854775807 < ((strOfNums y234) ++ a0_5).size + t227.size) = False:=eq_false (Nat.not_lt.2 c85)
       (try (have c85b3:=c85;simp [ByteArray.size_append] at c85b3;have c85b4:=eq_false (Nat.not_lt.2 c85b3);have c85b5:=eq_true c85b3;clear c85b3))
       simp only [Option.some.injEq,Prod.mk.injEq] at H
       obtain ⟨rfl,rfl⟩:=H
       go_enter Tryd.func13,Tryd.ntmps13
       go_wp2_with (first|((with_reducible refine gate_dst (N:=1) rfl ?_);refine box_event ?hg (N:=1) ?hd (cs:=#[.bool false,.bool false,.bool true,.int .i64 a0_3,.int .u32 a0_4,.string a0_5,.string a0_6,.string a0_7,.int .u64 a0_8,.int .i64 a0_9,.int .u64 a0_10]) (t:=28) ?hr ?_;(case hd => rfl);(case hg => rfl);(case hr => first|(go_simp;done)|(go_simp;rfl));intro gb225 hg w86 hbox hb;have n0_:=am_ (below_step (by repeat (first|(with_reducible first|exact HB.out|apply ba_|apply pn_|apply pd_)|exact HB.out)) hb);have n1_:=am_ (hbox);have n2_:=am_ ((by rw [hg];exact (below_size (by repeat (first|(with_reducible first|exact HB.out|apply ba_|apply pn_|apply pd_)|exact HB.out))) : w.heap.size ≤ gb225));have n3_:=am_ ((by rw [hg];exact (below_size (by repeat (first|(with_reducible first|exact HB.out|apply ba_|apply pn_|apply pd_)|exact HB.out))) : w.heap.size ≤ gb225));clear HB;have HB:=n0_;have BK225:=n1_;have GW225:=n2_;have GE225:=n3_;clear n0_ n1_ n2_ n3_;clear hb hbox hg;have hcz87_0 : w86.cell? ⟨gb225,0,none⟩ = some (.bool false):=(kc_ BK225.out 0).trans rfl;have hcz87_1 : w86.cell? ⟨gb225,1,none⟩ = some (.bool false):=(kc_ BK225.out 1).trans rfl;have hcz87_2 : w86.cell? ⟨gb225,2,none⟩ = some (.bool true):=(kc_ BK225.out 2).trans rfl;have hcz87_3 : w86.cell? ⟨gb225,3,none⟩ = some (.int .i64 a0_3):=(kc_ BK225.out 3).trans rfl;have hcz87_4 : w86.cell? ⟨gb225,4,none⟩ = some (.int .u32 a0_4):=(kc_ BK225.out 4).trans rfl;have hcz87_5 : w86.cell? ⟨gb225,5,none⟩ = some (.string a0_5):=(kc_ BK225.out 5).trans rfl;have hcz87_6 : w86.cell? ⟨gb225,6,none⟩ = some (.string a0_6):=(kc_ BK225.out 6).trans rfl;have hcz87_7 : w86.cell? ⟨gb225,7,none⟩ = some (.string a0_7):=(kc_ BK225.out 7).trans rfl;have hcz87_8 : w86.cell? ⟨gb225,8,none⟩ = some (.int .u64 a0_8):=(kc_ BK225.out 8).trans rfl;have hcz87_9 : w86.cell? ⟨gb225,9,none⟩ = some (.int .i64 a0_9):=(kc_ BK225.out 9).trans rfl;have hcz87_10 : w86.cell? ⟨gb225,10,none⟩ = some (.int .u64 a0_10):=(kc_ BK225.out 10).trans rfl;have hfz87_0:=blk_frozen BK225.out 0;have hfz87_1:=blk_frozen BK225.out 1;have hfz87_2:=blk_frozen BK225.out 2;have hfz87_3:=blk_frozen BK225.out 3;have hfz87_4:=blk_frozen BK225.out 4;have hfz87_5:=blk_frozen BK225.out 5;have hfz87_6:=blk_frozen BK225.out 6;have hfz87_7:=blk_frozen BK225.out 7;have hfz87_8:=blk_frozen BK225.out 8;have hfz87_9:=blk_frozen BK225.out 9;have hfz87_10:=blk_frozen BK225.out 10;skip)|((with_reducible refine gate_callee (f:=19) rfl ?_);refine goesL_ (some 8) rfl rfl Tryd.func19 (by kernel_rfl) rfl #[.agg #[.bool false,.bool false,.bool true,.int .i64 a0_3,.int .u32 a0_4,.string a0_5,.string a0_6,.string a0_7,.int .u64 a0_8,.int .i64 a0_9,.int .u64 a0_10]] rfl (by (try simp only [List.map_toArray,List.map_cons,List.map_nil]);first|done|rfl|(simp only [List.length_drop,List.length_take];rfl)) ?_;(with_reducible refine (dominoref04_May.calls k false false true a0_3 a0_4 a0_5 a0_6 a0_7 a0_8 a0_9 a0_10 true _ A2.out).mono ?_);rintro e w88 ⟨rfl,hb⟩;refine ⟨_,rfl,?_⟩;have n0_:=am_ (blk_below (g:=gb225) (o:=.cells #[.bool false,.bool false,.bool true,.int .i64 a0_3,.int .u32 a0_4,.string a0_5,.string a0_6,.string a0_7,.int .u64 a0_8,.int .i64 a0_9,.int .u64 a0_10] 28 (0,0)) (by (with_reducible repeat (first|refine kn_ ?_ _|refine kd_ ?_|refine ka_ ?_ _));exact BK225.out) hb);have n1_:=am_ (below_step (by repeat (first|(with_reducible first|exact HB.out|apply ba_|apply pn_|apply pd_|refine bs_ ?_ GE225.out)|exact HB.out)) hb);clear BK225;clear HB;have BK225:=n0_;have HB:=n1_;clear n0_ n1_;(try clear hb);(try clear hb2);(try clear hk);(try clear hi);have hcz89_0 : w88.cell? ⟨gb225,0,none⟩ = some (.bool false):=(kc_ BK225.out 0).trans rfl;have hcz89_1 : w88.cell? ⟨gb225,1,none⟩ = some (.bool false):=(kc_ BK225.out 1).trans rfl;have hcz89_2 : w88.cell? ⟨gb225,2,none⟩ = some (.bool true):=(kc_ BK225.out 2).trans rfl;have hcz89_3 : w88.cell? ⟨gb225,3,none⟩ = some (.int .i64 a0_3):=(kc_ BK225.out 3).trans rfl;have hcz89_4 : w88.cell? ⟨gb225,4,none⟩ = some (.int .u32 a0_4):=(kc_ BK225.out 4).trans rfl;have hcz89_5 : w88.cell? ⟨gb225,5,none⟩ = some (.string a0_5):=(kc_ BK225.out 5).trans rfl;have hcz89_6 : w88.cell? ⟨gb225,6,none⟩ = some (.string a0_6):=(kc_ BK225.out 6).trans rfl;have hcz89_7 : w88.cell? ⟨gb225,7,none⟩ = some (.string a0_7):=(kc_ BK225.out 7).trans rfl;have hcz89_8 : w88.cell? ⟨gb225,8,none⟩ = some (.int .u64 a0_8):=(kc_ BK225.out 8).trans rfl;have hcz89_9 : w88.cell? ⟨gb225,9,none⟩ = some (.int .i64 a0_9):=(kc_ BK225.out 9).trans rfl;have hcz89_10 : w88.cell? ⟨gb225,10,none⟩ = some (.int .u64 a0_10):=(kc_ BK225.out 10).trans rfl;have hfz89_0:=blk_frozen BK225.out 0;have hfz89_1:=blk_frozen BK225.out 1;have hfz89_2:=blk_frozen BK225.out 2;have hfz89_3:=blk_frozen BK225.out 3;have hfz89_4:=blk_frozen BK225.out 4;have hfz89_5:=blk_frozen BK225.out 5;have hfz89_6:=blk_frozen BK225.out 6;have hfz89_7:=blk_frozen BK225.out 7;have hfz89_8:=blk_frozen BK225.out 8;have hfz89_9:=blk_frozen BK225.out 9;have hfz89_10:=blk_frozen BK225.out 10;skip)|((with_reducible refine gate_callee (f:=29) rfl ?_);refine goesL_ (some 18) rfl rfl Tryd.func29 (by kernel_rfl) rfl #[.int .u64 a0_10,.int .i64 a0_9] rfl (by (try simp only [List.map_toArray,List.map_cons,List.map_nil]);first|done|rfl|(simp only [List.length_drop,List.length_take];rfl)) ?_;(with_reducible refine (dominoref01_Fixed.calls k a0_10 a0_9 t227 _ A4.out).mono ?_);rintro e w90 ⟨rfl,hb⟩;refine ⟨_,rfl,?_⟩;have n0_:=am_ (blk_below (g:=gb225) (o:=.cells #[.bool false,.bool false,.bool true,.int .i64 a0_3,.int .u32 a0_4,.string a0_5,.string a0_6,.string a0_7,.int .u64 a0_8,.int .i64 a0_9,.int .u64 a0_10] 28 (0,0)) (by (with_reducible repeat (first|refine kn_ ?_ _|refine kd_ ?_|refine ka_ ?_ _));exact BK225.out) hb);have n1_:=am_ (below_step (by repeat (first|(with_reducible first|exact HB.out|apply ba_|apply pn_|apply pd_|refine bs_ ?_ GE225.out)|exact HB.out)) hb);clear BK225;clear HB;have BK225:=n0_;have HB:=n1_;clear n0_ n1_;(try clear hb);(try clear hb2);(try clear hk);(try clear hi);have hcz91_0 : w90.cell? ⟨gb225,0,none⟩ = some (.bool false):=(kc_ BK225.out 0).trans rfl;have hcz91_1 : w90.cell? ⟨gb225,1,none⟩ = some (.bool false):=(kc_ BK225.out 1).trans rfl;have hcz91_2 : w90.cell? ⟨gb225,2,none⟩ = some (.bool true):=(kc_ BK225.out 2).trans rfl;have hcz91_3 : w90.cell? ⟨gb225,3,none⟩ = some (.int .i64 a0_3):=(kc_ BK225.out 3).trans rfl;have hcz91_4 : w90.cell? ⟨gb225,4,none⟩ = some (.int .u32 a0_4):=(kc_ BK225.out 4).trans rfl;have hcz91_5 : w90.cell? ⟨gb225,5,none⟩ = some (.string a0_5):=(kc_ BK225.out 5).trans rfl;have hcz91_6 : w90.cell? ⟨gb225,6,none⟩ = some (.string a0_6):=(kc_ BK225.out 6).trans rfl;have hcz91_7 : w90.cell? ⟨gb225,7,none⟩ = some (.string a0_7):=(kc_ BK225.out 7).trans rfl;have hcz91_8 : w90.cell? ⟨gb225,8,none⟩ = some (.int .u64 a0_8):=(kc_ BK225.out 8).trans rfl;have hcz91_9 : w90.cell? ⟨gb225,9,none⟩ = some (.int .i64 a0_9):=(kc_ BK225.out 9).trans rfl;have hcz91_10 : w90.cell? ⟨gb225,10,none⟩ = some (.int .u64 a0_10):=(kc_ BK225.out 10).trans rfl;have hfz91_0:=blk_frozen BK225.out 0;have hfz91_1:=blk_frozen BK225.out 1;have hfz91_2:=blk_frozen BK225.out 2;have hfz91_3:=blk_frozen BK225.out 3;have hfz91_4:=blk_frozen BK225.out 4;have hfz91_5:=blk_frozen BK225.out 5;have hfz91_6:=blk_frozen BK225.out 6;have hfz91_7:=blk_frozen BK225.out 7;have hfz91_8:=blk_frozen BK225.out 8;have hfz91_9:=blk_frozen BK225.out 9;have hfz91_10:=blk_frozen BK225.out 10;skip)|((with_reducible refine gate_dst (N:=33) rfl ?_);refine Kd.R_lit (Kd.int .u8) _ 5 ?hg (N:=33) ?hd (xs:=([(((((wrap64 (a0_9 - 1)) % 256) + 64) % 256) + 4) % 256] : List Int)) (inner:=[.int .u8 ((((((wrap64 (a0_9 - 1)) % 256) + 64) % 256) + 4) % 256)]) (ok:=fun _ => True) (okp:=fun _ => True) ?hr ?hp (fun _ hk => hk) trivial (Below.refl _ _) (Nat.le_refl _) (by simp) ?_;(case hd => rfl);(case hg => rfl);(case hr => first|(go_simp;done)|(go_simp;rfl));(case hp => exact (Reps.one (show Kd.M (Kd.int .u8) _ _ _ ((((((wrap64 (a0_9 - 1)) % 256) + 64) % 256) + 4) % 256) [.int .u8 ((((((wrap64 (a0_9 - 1)) % 256) + 64) % 256) + 4) % 256)] from rfl) (Reps.none _ _)));intro v235 w92 ho93 hb hg_ hnew_;clear hg_ hnew_;(first|rw [← Ny234.out] at ho93|(simp only [Int.reduceToNat] at ho93;rw [← Ny234.out] at ho93));have n0_:=am_ (Kd.R_lower ho93 (below_size (by repeat (first|(with_reducible first|exact HB.out|apply ba_|apply pn_|apply pd_|refine bs_ ?_ GE225.out)|exact HB.out))));have n1_:=am_ (blk_below (g:=gb225) (o:=.cells #[.bool false,.bool false,.bool true,.int .i64 a0_3,.int .u32 a0_4,.string a0_5,.string a0_6,.string a0_7,.int .u64 a0_8,.int .i64 a0_9,.int .u64 a0_10] 28 (0,0)) (by (with_reducible repeat (first|refine kn_ ?_ _|refine kd_ ?_|refine ka_ ?_ _));exact BK225.out) hb);have n2_:=am_ (below_step (by repeat (first|(with_reducible first|exact HB.out|apply ba_|apply pn_|apply pd_|refine bs_ ?_ GE225.out)|exact HB.out)) hb);clear BK225;clear HB;have HO236:=n0_;have BK225:=n1_;have HB:=n2_;clear n0_ n1_ n2_;clear hb ho93;have hcv94:=own_string (P:=Tryd.prog) Tryd.underlying44 Tryd.underlying5 Tryd.underlying9 (Kd.own_of_R HO236.out);have hcz95_0 : w92.cell? ⟨gb225,0,none⟩ = some (.bool false):=(kc_ BK225.out 0).trans rfl;have hcz95_1 : w92.cell? ⟨gb225,1,none⟩ = some (.bool false):=(kc_ BK225.out 1).trans rfl;have hcz95_2 : w92.cell? ⟨gb225,2,none⟩ = some (.bool true):=(kc_ BK225.out 2).trans rfl;have hcz95_3 : w92.cell? ⟨gb225,3,none⟩ = some (.int .i64 a0_3):=(kc_ BK225.out 3).trans rfl;have hcz95_4 : w92.cell? ⟨gb225,4,none⟩ = some (.int .u32 a0_4):=(kc_ BK225.out 4).trans rfl;have hcz95_5 : w92.cell? ⟨gb225,5,none⟩ = some (.string a0_5):=(kc_ BK225.out 5).trans rfl;have hcz95_6 : w92.cell? ⟨gb225,6,none⟩ = some (.string a0_6):=(kc_ BK225.out 6).trans rfl;have hcz95_7 : w92.cell? ⟨gb225,7,none⟩ = some (.string a0_7):=(kc_ BK225.out 7).trans rfl;have hcz95_8 : w92.cell? ⟨gb225,8,none⟩ = some (.int .u64 a0_8):=(kc_ BK225.out 8).trans rfl;have hcz95_9 : w92.cell? ⟨gb225,9,none⟩ = some (.int .i64 a0_9):=(kc_ BK225.out 9).trans rfl;have hcz95_10 : w92.cell? ⟨gb225,10,none⟩ = some (.int .u64 a0_10):=(kc_ BK225.out 10).trans rfl;have hfz95_0:=blk_frozen BK225.out 0;have hfz95_1:=blk_frozen BK225.out 1;have hfz95_2:=blk_frozen BK225.out 2;have hfz95_3:=blk_frozen BK225.out 3;have hfz95_4:=blk_frozen BK225.out 4;have hfz95_5:=blk_frozen BK225.out 5;have hfz95_6:=blk_frozen BK225.out 6;have hfz95_7:=blk_frozen BK225.out 7;have hfz95_8:=blk_frozen BK225.out 8;have hfz95_9:=blk_frozen BK225.out 9;have hfz95_10:=blk_frozen BK225.out 10;skip))
       go_ret2
       exact ⟨by first|rfl|(simp [errW_none,errW_some] <;> rfl)|(simp [*,errW_none,errW_some] <;> rfl),by repeat (first|(with_reducible first|exact HB.out|apply ba_|apply pn_|apply pd_|refine bs_ ?_ GE225.out)|exact HB.out)⟩
      ·rw [if_neg c85] at H
       exact absurd H (by simp)
     ·rw [if_neg c84] at H
      exact absurd H (by simp)
    ·replace c83:=Bool.eq_false_iff.mpr c83
     subst c83
     have H1 : ((some (([(((wrap64 (a0_9 - 1)) % 256) + 64) % 256] : List Int) : List Int)).bind fun y237 => (if (strOfNums y237).size + a0_5.size ≤ 9223372036854775807 then (if ((strOfNums y237) ++ a0_5).size + t227.size ≤ 9223372036854775807 then (some (((strOfNums y237) ++ a0_5) ++ t227,0)) else (none)) else (none))) = some (r1,r2):=by rw [if_neg (show ¬ (false = true) by decide)] at H;exact H
     clear H
     have H:=H1
     clear H1
     obtain ⟨y237,hy237⟩ : ∃ y_ : List Int,y_ = (([(((wrap64 (a0_9 - 1)) % 256) + 64) % 256] : List Int)):=⟨_,rfl⟩
     replace H : (if (strOfNums y237).size + a0_5.size ≤ 9223372036854775807 then (if ((strOfNums y237) ++ a0_5).size + t227.size ≤ 9223372036854775807 then (some (((strOfNums y237) ++ a0_5) ++ t227,0)) else (none)) else (none)) = some (r1,r2):=by first|(rw [hy237];with_reducible exact H)|(have H2_:=(Option.bind_some _ _).symm.trans H;rw [hy237];with_reducible exact H2_)|(have H2_:=(Option.bind_some _ _).symm.trans H;with_reducible exact H2_)|with_reducible exact H|(rw [hy237];exact H)|exact H
     have Ny237:=am_ hy237
     clear hy237
     by_cases c96 : (strOfNums y237).size + a0_5.size ≤ 9223372036854775807
     ·rw [if_pos c96] at H
      have c96b0:=eq_true c96
      have c96b1 : decide ((strOfNums y237).size + a0_5.size ≤ 9223372036854775807) = true:=decide_eq_true c96
      try have c96b2 : (9223372036854775807 < (strOfNums y237).size + a0_5.size) = False:=eq_false (Nat.not_lt.2 c96)
      by_cases c97 : ((strOfNums y237) ++ a0_5).size + t227.size ≤ 9223372036854775807
      ·rw [if_pos c97] at H
       have c97b0:=eq_true c97
       have c97b1 : decide (((strOfNums y237) ++ a0_5).size + t227.size ≤ 9223372036854775807) = true:=decide_eq_true c97
       try have c97b2 : (9223372036854775807 < ((strOfNums y237) ++ a0_5).size + t227.size) = False:=eq_false (Nat.not_lt.2 c97)
       (try (have c97b3:=c97;simp [ByteArray.size_append] at c97b3;have c97b4:=eq_false (Nat.not_lt.2 c97b3);have c97b5:=eq_true c97b3;clear c97b3))
       simp only [Option.some.injEq,Prod.mk.injEq] at H
       obtain ⟨rfl,rfl⟩:=H
       go_enter Tryd.func13,Tryd.ntmps13
       go_wp2_with (first|((with_reducible refine gate_dst (N:=1) rfl ?_);refine box_event ?hg (N:=1) ?hd (cs:=#[.bool false,.bool false,.bool false,.int .i64 a0_3,.int .u32 a0_4,.string a0_5,.string a0_6,.string a0_7,.int .u64 a0_8,.int .i64 a0_9,.int .u64 a0_10]) (t:=28) ?hr ?_;(case hd => rfl);(case hg => rfl);(case hr => first|(go_simp;done)|(go_simp;rfl));intro gb225 hg w98 hbox hb;have n0_:=am_ (below_step (by repeat (first|(with_reducible first|exact HB.out|apply ba_|apply pn_|apply pd_)|exact HB.out)) hb);have n1_:=am_ (hbox);have n2_:=am_ ((by rw [hg];exact (below_size (by repeat (first|(with_reducible first|exact HB.out|apply ba_|apply pn_|apply pd_)|exact HB.out))) : w.heap.size ≤ gb225));have n3_:=am_ ((by rw [hg];exact (below_size (by repeat (first|(with_reducible first|exact HB.out|apply ba_|apply pn_|apply pd_)|exact HB.out))) : w.heap.size ≤ gb225));clear HB;have HB:=n0_;have BK225:=n1_;have GW225:=n2_;have GE225:=n3_;clear n0_ n1_ n2_ n3_;clear hb hbox hg;have hcz99_0 : w98.cell? ⟨gb225,0,none⟩ = some (.bool false):=(kc_ BK225.out 0).trans rfl;have hcz99_1 : w98.cell? ⟨gb225,1,none⟩ = some (.bool false):=(kc_ BK225.out 1).trans rfl;have hcz99_2 : w98.cell? ⟨gb225,2,none⟩ = some (.bool false):=(kc_ BK225.out 2).trans rfl;have hcz99_3 : w98.cell? ⟨gb225,3,none⟩ = some (.int .i64 a0_3):=(kc_ BK225.out 3).trans rfl;have hcz99_4 : w98.cell? ⟨gb225,4,none⟩ = some (.int .u32 a0_4):=(kc_ BK225.out 4).trans rfl;have hcz99_5 : w98.cell? ⟨gb225,5,none⟩ = some (.string a0_5):=(kc_ BK225.out 5).trans rfl;have hcz99_6 : w98.cell? ⟨gb225,6,none⟩ = some (.string a0_6):=(kc_ BK225.out 6).trans rfl;have hcz99_7 : w98.cell? ⟨gb225,7,none⟩ = some (.string a0_7):=(kc_ BK225.out 7).trans rfl;have hcz99_8 : w98.cell? ⟨gb225,8,none⟩ = some (.int .u64 a0_8):=(kc_ BK225.out 8).trans rfl;have hcz99_9 : w98.cell? ⟨gb225,9,none⟩ = some (.int .i64 a0_9):=(kc_ BK225.out 9).trans rfl;have hcz99_10 : w98.cell? ⟨gb225,10,none⟩ = some (.int .u64 a0_10):=(kc_ BK225.out 10).trans rfl;have hfz99_0:=blk_frozen BK225.out 0;have hfz99_1:=blk_frozen BK225.out 1;have hfz99_2:=blk_frozen BK225.out 2;have hfz99_3:=blk_frozen BK225.out 3;have hfz99_4:=blk_frozen BK225.out 4;have hfz99_5:=blk_frozen BK225.out 5;have hfz99_6:=blk_frozen BK225.out 6;have hfz99_7:=blk_frozen BK225.out 7;have hfz99_8:=blk_frozen BK225.out 8;have hfz99_9:=blk_frozen BK225.out 9;have hfz99_10:=blk_frozen BK225.out 10;skip)|((with_reducible refine gate_callee (f:=19) rfl ?_);refine goesL_ (some 8) rfl rfl Tryd.func19 (by kernel_rfl) rfl #[.agg #[.bool false,.bool false,.bool false,.int .i64 a0_3,.int .u32 a0_4,.string a0_5,.string a0_6,.string a0_7,.int .u64 a0_8,.int .i64 a0_9,.int .u64 a0_10]] rfl (by (try simp only [List.map_toArray,List.map_cons,List.map_nil]);first|done|rfl|(simp only [List.length_drop,List.length_take];rfl)) ?_;(with_reducible refine (dominoref04_May.calls k false false false a0_3 a0_4 a0_5 a0_6 a0_7 a0_8 a0_9 a0_10 true _ A2.out).mono ?_);rintro e w100 ⟨rfl,hb⟩;refine ⟨_,rfl,?_⟩;have n0_:=am_ (blk_below (g:=gb225) (o:=.cells #[.bool false,.bool false,.bool false,.int .i64 a0_3,.int .u32 a0_4,.string a0_5,.string a0_6,.string a0_7,.int .u64 a0_8,.int .i64 a0_9,.int .u64 a0_10] 28 (0,0)) (by (with_reducible repeat (first|refine kn_ ?_ _|refine kd_ ?_|refine ka_ ?_ _));exact BK225.out) hb);have n1_:=am_ (below_step (by repeat (first|(with_reducible first|exact HB.out|apply ba_|apply pn_|apply pd_|refine bs_ ?_ GE225.out)|exact HB.out)) hb);clear BK225;clear HB;have BK225:=n0_;have HB:=n1_;clear n0_ n1_;(try clear hb);(try clear hb2);(try clear hk);(try clear hi);have hcz101_0 : w100.cell? ⟨gb225,0,none⟩ = some (.bool false):=(kc_ BK225.out 0).trans rfl;have hcz101_1 : w100.cell? ⟨gb225,1,none⟩ = some (.bool false):=(kc_ BK225.out 1).trans rfl;have hcz101_2 : w100.cell? ⟨gb225,2,none⟩ = some (.bool false):=(kc_ BK225.out 2).trans rfl;have hcz101_3 : w100.cell? ⟨gb225,3,none⟩ = some (.int .i64 a0_3):=(kc_ BK225.out 3).trans rfl;have hcz101_4 : w100.cell? ⟨gb225,4,none⟩ = some (.int .u32 a0_4):=(kc_ BK225.out 4).trans rfl;have hcz101_5 : w100.cell? ⟨gb225,5,none⟩ = some (.string a0_5):=(kc_ BK225.out 5).trans rfl;have hcz101_6 : w100.cell? ⟨gb225,6,none⟩ = some (.string a0_6):=(kc_ BK225.out 6).trans rfl;have hcz101_7 : w100.cell? ⟨gb225,7,none⟩ = some (.string a0_7):=(kc_ BK225.out 7).trans rfl;have hcz101_8 : w100.cell? ⟨gb225,8,none⟩ = some (.int .u64 a0_8):=(kc_ BK225.out 8).trans rfl;have hcz101_9 : w100.cell? ⟨gb225,9,none⟩ = some (.int .i64 a0_9):=(kc_ BK225.out 9).trans rfl;have hcz101_10 : w100.cell? ⟨gb225,10,none⟩ = some (.int .u64 a0_10):=(kc_ BK225.out 10).trans rfl;have hfz101_0:=blk_frozen BK225.out 0;have hfz101_1:=blk_frozen BK225.out 1;have hfz101_2:=blk_frozen BK225.out 2;have hfz101_3:=blk_frozen BK225.out 3;have hfz101_4:=blk_frozen BK225.out 4;have hfz101_5:=blk_frozen BK225.out 5;have hfz101_6:=blk_frozen BK225.out 6;have hfz101_7:=blk_frozen BK225.out 7;have hfz101_8:=blk_frozen BK225.out 8;have hfz101_9:=blk_frozen BK225.out 9;have hfz101_10:=blk_frozen BK225.out 10;skip)|((with_reducible refine gate_callee (f:=29) rfl ?_);refine goesL_ (some 18) rfl rfl Tryd.func29 (by kernel_rfl) rfl #[.int .u64 a0_10,.int .i64 a0_9] rfl (by (try simp only [List.map_toArray,List.map_cons,List.map_nil]);first|done|rfl|(simp only [List.length_drop,List.length_take];rfl)) ?_;(with_reducible refine (dominoref01_Fixed.calls k a0_10 a0_9 t227 _ A4.out).mono ?_);rintro e w102 ⟨rfl,hb⟩;refine ⟨_,rfl,?_⟩;have n0_:=am_ (blk_below (g:=gb225) (o:=.cells #[.bool false,.bool false,.bool false,.int .i64 a0_3,.int .u32 a0_4,.string a0_5,.string a0_6,.string a0_7,.int .u64 a0_8,.int .i64 a0_9,.int .u64 a0_10] 28 (0,0)) (by (with_reducible repeat (first|refine kn_ ?_ _|refine kd_ ?_|refine ka_ ?_ _));exact BK225.out) hb);have n1_:=am_ (below_step (by repeat (first|(with_reducible first|exact HB.out|apply ba_|apply pn_|apply pd_|refine bs_ ?_ GE225.out)|exact HB.out)) hb);clear BK225;clear HB;have BK225:=n0_;have HB:=n1_;clear n0_ n1_;(try clear hb);(try clear hb2);(try clear hk);(try clear hi);have hcz103_0 : w102.cell? ⟨gb225,0,none⟩ = some (.bool false):=(kc_ BK225.out 0).trans rfl;have hcz103_1 : w102.cell? ⟨gb225,1,none⟩ = some (.bool false):=(kc_ BK225.out 1).trans rfl;have hcz103_2 : w102.cell? ⟨gb225,2,none⟩ = some (.bool false):=(kc_ BK225.out 2).trans rfl;have hcz103_3 : w102.cell? ⟨gb225,3,none⟩ = some (.int .i64 a0_3):=(kc_ BK225.out 3).trans rfl;have hcz103_4 : w102.cell? ⟨gb225,4,none⟩ = some (.int .u32 a0_4):=(kc_ BK225.out 4).trans rfl;have hcz103_5 : w102.cell? ⟨gb225,5,none⟩ = some (.string a0_5):=(kc_ BK225.out 5).trans rfl;have hcz103_6 : w102.cell? ⟨gb225,6,none⟩ = some (.string a0_6):=(kc_ BK225.out 6).trans rfl;have hcz103_7 : w102.cell? ⟨gb225,7,none⟩ = some (.string a0_7):=(kc_ BK225.out 7).trans rfl;have hcz103_8 : w102.cell? ⟨gb225,8,none⟩ = some (.int .u64 a0_8):=(kc_ BK225.out 8).trans rfl;have hcz103_9 : w102.cell? ⟨gb225,9,none⟩ = some (.int .i64 a0_9):=(kc_ BK225.out 9).trans rfl;have hcz103_10 : w102.cell? ⟨gb225,10,none⟩ = some (.int .u64 a0_10):=(kc_ BK225.out 10).trans rfl;have hfz103_0:=blk_frozen BK225.out 0;have hfz103_1:=blk_frozen BK225.out 1;have hfz103_2:=blk_frozen BK225.out 2;have hfz103_3:=blk_frozen BK225.out 3;have hfz103_4:=blk_frozen BK225.out 4;have hfz103_5:=blk_frozen BK225.out 5;have hfz103_6:=blk_frozen BK225.out 6;have hfz103_7:=blk_frozen BK225.out 7;have hfz103_8:=blk_frozen BK225.out 8;have hfz103_9:=blk_frozen BK225.out 9;have hfz103_10:=blk_frozen BK225.out 10;skip)|((with_reducible refine gate_dst (N:=33) rfl ?_);refine Kd.R_lit (Kd.int .u8) _ 5 ?hg (N:=33) ?hd (xs:=([(((wrap64 (a0_9 - 1)) % 256) + 64) % 256] : List Int)) (inner:=[.int .u8 ((((wrap64 (a0_9 - 1)) % 256) + 64) % 256)]) (ok:=fun _ => True) (okp:=fun _ => True) ?hr ?hp (fun _ hk => hk) trivial (Below.refl _ _) (Nat.le_refl _) (by simp) ?_;(case hd => rfl);(case hg => rfl);(case hr => first|(go_simp;done)|(go_simp;rfl));(case hp => exact (Reps.one (show Kd.M (Kd.int .u8) _ _ _ ((((wrap64 (a0_9 - 1)) % 256) + 64) % 256) [.int .u8 ((((wrap64 (a0_9 - 1)) % 256) + 64) % 256)] from rfl) (Reps.none _ _)));intro v238 w104 ho105 hb hg_ hnew_;clear hg_ hnew_;(first|rw [← Ny237.out] at ho105|(simp only [Int.reduceToNat] at ho105;rw [← Ny237.out] at ho105));have n0_:=am_ (Kd.R_lower ho105 (below_size (by repeat (first|(with_reducible first|exact HB.out|apply ba_|apply pn_|apply pd_|refine bs_ ?_ GE225.out)|exact HB.out))));have n1_:=am_ (blk_below (g:=gb225) (o:=.cells #[.bool false,.bool false,.bool false,.int .i64 a0_3,.int .u32 a0_4,.string a0_5,.string a0_6,.string a0_7,.int .u64 a0_8,.int .i64 a0_9,.int .u64 a0_10] 28 (0,0)) (by (with_reducible repeat (first|refine kn_ ?_ _|refine kd_ ?_|refine ka_ ?_ _));exact BK225.out) hb);have n2_:=am_ (below_step (by repeat (first|(with_reducible first|exact HB.out|apply ba_|apply pn_|apply pd_|refine bs_ ?_ GE225.out)|exact HB.out)) hb);clear BK225;clear HB;have HO239:=n0_;have BK225:=n1_;have HB:=n2_;clear n0_ n1_ n2_;clear hb ho105;have hcv106:=own_string (P:=Tryd.prog) Tryd.underlying44 Tryd.underlying5 Tryd.underlying9 (Kd.own_of_R HO239.out);have hcz107_0 : w104.cell? ⟨gb225,0,none⟩ = some (.bool false):=(kc_ BK225.out 0).trans rfl;have hcz107_1 : w104.cell? ⟨gb225,1,none⟩ = some (.bool false):=(kc_ BK225.out 1).trans rfl;have hcz107_2 : w104.cell? ⟨gb225,2,none⟩ = some (.bool false):=(kc_ BK225.out 2).trans rfl;have hcz107_3 : w104.cell? ⟨gb225,3,none⟩ = some (.int .i64 a0_3):=(kc_ BK225.out 3).trans rfl;have hcz107_4 : w104.cell? ⟨gb225,4,none⟩ = some (.int .u32 a0_4):=(kc_ BK225.out 4).trans rfl;have hcz107_5 : w104.cell? ⟨gb225,5,none⟩ = some (.string a0_5):=(kc_ BK225.out 5).trans rfl;have hcz107_6 : w104.cell? ⟨gb225,6,none⟩ = some (.string a0_6):=(kc_ BK225.out 6).trans rfl;have hcz107_7 : w104.cell? ⟨gb225,7,none⟩ = some (.string a0_7):=(kc_ BK225.out 7).trans rfl;have hcz107_8 : w104.cell? ⟨gb225,8,none⟩ = some (.int .u64 a0_8):=(kc_ BK225.out 8).trans rfl;have hcz107_9 : w104.cell? ⟨gb225,9,none⟩ = some (.int .i64 a0_9):=(kc_ BK225.out 9).trans rfl;have hcz107_10 : w104.cell? ⟨gb225,10,none⟩ = some (.int .u64 a0_10):=(kc_ BK225.out 10).trans rfl;have hfz107_0:=blk_frozen BK225.out 0;have hfz107_1:=blk_frozen BK225.out 1;have hfz107_2:=blk_frozen BK225.out 2;have hfz107_3:=blk_frozen BK225.out 3;have hfz107_4:=blk_frozen BK225.out 4;have hfz107_5:=blk_frozen BK225.out 5;have hfz107_6:=blk_frozen BK225.out 6;have hfz107_7:=blk_frozen BK225.out 7;have hfz107_8:=blk_frozen BK225.out 8;have hfz107_9:=blk_frozen BK225.out 9;have hfz107_10:=blk_frozen BK225.out 10;skip))
       go_ret2
       exact ⟨by first|rfl|(simp [errW_none,errW_some] <;> rfl)|(simp [*,errW_none,errW_some] <;> rfl),by repeat (first|(with_reducible first|exact HB.out|apply ba_|apply pn_|apply pd_|refine bs_ ?_ GE225.out)|exact HB.out)⟩
      ·rw [if_neg c97] at H
       exact absurd H (by simp)
     ·rw [if_neg c96] at H
      exact absurd H (by simp)
 ·replace c3:=Bool.eq_false_iff.mpr c3
  subst c3
  have H1 : (some ((⟨#[]⟩ : ByteArray),1)) = some (r1,r2):=by rw [if_neg (show ¬ (false = true) by decide)] at H;exact H
  clear H
  have H:=H1
  clear H1
  simp only [Option.some.injEq,Prod.mk.injEq] at H
  obtain ⟨rfl,rfl⟩:=H
  go_enter Tryd.func13,Tryd.ntmps13
  go_wp2_with (first|((with_reducible refine gate_dst (N:=1) rfl ?_);refine box_event ?hg (N:=1) ?hd (cs:=#[.bool a0_0,.bool a0_1,.bool a0_2,.int .i64 a0_3,.int .u32 a0_4,.string a0_5,.string a0_6,.string a0_7,.int .u64 a0_8,.int .i64 a0_9,.int .u64 a0_10]) (t:=28) ?hr ?_;(case hd => rfl);(case hg => rfl);(case hr => first|(go_simp;done)|(go_simp;rfl));intro gb225 hg w108 hbox hb;have n0_:=am_ (below_step (by repeat (first|(with_reducible first|exact HB.out|apply ba_|apply pn_|apply pd_)|exact HB.out)) hb);have n1_:=am_ (hbox);have n2_:=am_ ((by rw [hg];exact (below_size (by repeat (first|(with_reducible first|exact HB.out|apply ba_|apply pn_|apply pd_)|exact HB.out))) : w.heap.size ≤ gb225));have n3_:=am_ ((by rw [hg];exact (below_size (by repeat (first|(with_reducible first|exact HB.out|apply ba_|apply pn_|apply pd_)|exact HB.out))) : w.heap.size ≤ gb225));clear HB;have HB:=n0_;have BK225:=n1_;have GW225:=n2_;have GE225:=n3_;clear n0_ n1_ n2_ n3_;clear hb hbox hg;have hcz109_0 : w108.cell? ⟨gb225,0,none⟩ = some (.bool a0_0):=(kc_ BK225.out 0).trans rfl;have hcz109_1 : w108.cell? ⟨gb225,1,none⟩ = some (.bool a0_1):=(kc_ BK225.out 1).trans rfl;have hcz109_2 : w108.cell? ⟨gb225,2,none⟩ = some (.bool a0_2):=(kc_ BK225.out 2).trans rfl;have hcz109_3 : w108.cell? ⟨gb225,3,none⟩ = some (.int .i64 a0_3):=(kc_ BK225.out 3).trans rfl;have hcz109_4 : w108.cell? ⟨gb225,4,none⟩ = some (.int .u32 a0_4):=(kc_ BK225.out 4).trans rfl;have hcz109_5 : w108.cell? ⟨gb225,5,none⟩ = some (.string a0_5):=(kc_ BK225.out 5).trans rfl;have hcz109_6 : w108.cell? ⟨gb225,6,none⟩ = some (.string a0_6):=(kc_ BK225.out 6).trans rfl;have hcz109_7 : w108.cell? ⟨gb225,7,none⟩ = some (.string a0_7):=(kc_ BK225.out 7).trans rfl;have hcz109_8 : w108.cell? ⟨gb225,8,none⟩ = some (.int .u64 a0_8):=(kc_ BK225.out 8).trans rfl;have hcz109_9 : w108.cell? ⟨gb225,9,none⟩ = some (.int .i64 a0_9):=(kc_ BK225.out 9).trans rfl;have hcz109_10 : w108.cell? ⟨gb225,10,none⟩ = some (.int .u64 a0_10):=(kc_ BK225.out 10).trans rfl;have hfz109_0:=blk_frozen BK225.out 0;have hfz109_1:=blk_frozen BK225.out 1;have hfz109_2:=blk_frozen BK225.out 2;have hfz109_3:=blk_frozen BK225.out 3;have hfz109_4:=blk_frozen BK225.out 4;have hfz109_5:=blk_frozen BK225.out 5;have hfz109_6:=blk_frozen BK225.out 6;have hfz109_7:=blk_frozen BK225.out 7;have hfz109_8:=blk_frozen BK225.out 8;have hfz109_9:=blk_frozen BK225.out 9;have hfz109_10:=blk_frozen BK225.out 10;skip)|((with_reducible refine gate_callee (f:=19) rfl ?_);refine goesL_ (some 8) rfl rfl Tryd.func19 (by kernel_rfl) rfl #[.agg #[.bool a0_0,.bool a0_1,.bool a0_2,.int .i64 a0_3,.int .u32 a0_4,.string a0_5,.string a0_6,.string a0_7,.int .u64 a0_8,.int .i64 a0_9,.int .u64 a0_10]] rfl (by (try simp only [List.map_toArray,List.map_cons,List.map_nil]);first|done|rfl|(simp only [List.length_drop,List.length_take];rfl)) ?_;(with_reducible refine (dominoref04_May.calls k a0_0 a0_1 a0_2 a0_3 a0_4 a0_5 a0_6 a0_7 a0_8 a0_9 a0_10 false _ A2.out).mono ?_);rintro e w110 ⟨rfl,hb⟩;refine ⟨_,rfl,?_⟩;have n0_:=am_ (blk_below (g:=gb225) (o:=.cells #[.bool a0_0,.bool a0_1,.bool a0_2,.int .i64 a0_3,.int .u32 a0_4,.string a0_5,.string a0_6,.string a0_7,.int .u64 a0_8,.int .i64 a0_9,.int .u64 a0_10] 28 (0,0)) (by (with_reducible repeat (first|refine kn_ ?_ _|refine kd_ ?_|refine ka_ ?_ _));exact BK225.out) hb);have n1_:=am_ (below_step (by repeat (first|(with_reducible first|exact HB.out|apply ba_|apply pn_|apply pd_|refine bs_ ?_ GE225.out)|exact HB.out)) hb);clear BK225;clear HB;have BK225:=n0_;have HB:=n1_;clear n0_ n1_;(try clear hb);(try clear hb2);(try clear hk);(try clear hi)))
  go_ret2
  exact ⟨by first|rfl|(simp [errW_none,errW_some] <;> rfl)|(simp [*,errW_none,errW_some] <;> rfl),by repeat (first|(with_reducible first|exact HB.out|apply ba_|apply pn_|apply pd_|refine bs_ ?_ GE225.out)|exact HB.out)⟩

end Go.Proofs.YtjpafikgbnloaaaDoor.PHdt
