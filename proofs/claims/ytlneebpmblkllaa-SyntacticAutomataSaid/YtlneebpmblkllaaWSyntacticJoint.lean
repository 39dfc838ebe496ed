/- -/
import Derived.Test.YtlneebpmblkllaaVd
namespace Sg
open Go Go.RowKit Go.Proofs Try
set_option linter.unusedVariables false
set_option linter.unusedSimpArgs false
set_option maxRecDepth 100000
set_option maxHeartbeats 4000000
variable {A : List Nat} {w0 : World}
theorem body69 : Body prog 69 := ⟨f69, func69, rfl, by kernel_rfl⟩
theorem J48 {fo : Option Addr} {gI : Nat} {s_ : List Bool} (hA : HA0 A w0) (gJ : ISb A w0 fo gI s_) {K : List Bool → Prop} (H : J0G s_ K) :
    CallsV prog 69 #[.slice fo s_.length gI] w0 (fun v w' => ∃ (r0 : List Bool), ∃ (d6 : Nat), ∃ (p_r0 : Option Addr), ∃ (c_r0 : Nat), v = .slice p_r0 d6 c_r0 ∧ Same w0 w' ∧ Owns w0.heap.size w' [t1 Fl.bool 4 p_r0 d6 c_r0 r0] A ∧ K r0) := by
 refine cal hA func69 ntmps69 fun hO hB => ?_
 unfold J0G at H
 refine au ?_
 replace H := H fo.isNone (fun h => gJ.nilD h)
 by_cases hz2 : fo.isNone = true
 ·replace H := ifp hz2 H
  refine zo (fun w => opB (J2R underlying22 rfl rfl w) (hz2)) ?_
  refine au ?_
  refine snil Fl.bool 4 hO fun s hO => ?_
  refine Go1.ret1 func69 rfl ⟨_, _, _, _, er, frs, hO, H⟩
 ·replace H := ifn hz2 H
  refine zo (fun w => opB (J2R underlying22 rfl rfl w) (Bool.eq_false_iff.2 hz2)) ?_
  refine sbu Fl.bool 4 ([] : List Bool) hO fun w4 p5 s hO => ?_
  refine sap 0 hO gJ.u H fun w7 p8 c9 s hO => ?_
  refine au ?_
  refine Go1.ret1 func69 rfl ⟨_, _, _, _, er, frs, hO, H.2⟩
end Sg
