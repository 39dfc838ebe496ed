/- -/
import Derived.Test.YtlneebpmblkllaaVd
namespace Sg
open Go Go.RowKit Go.Proofs
set_option linter.unusedVariables false
set_option linter.unusedSimpArgs false
set_option maxRecDepth 100000
set_option maxHeartbeats 4000000
theorem body69 : Body Try.prog 69 := ⟨Try.f69, Try.func69, rfl, by kernel_rfl⟩
theorem J30 {A : List Nat} {w0 : World} {dy : Option Addr} {dK : Nat} {s_ : List Bool} (hA : ∀ b ∈ A, b < w0.heap.size) (fo : ISl (Rp.bool) A w0 dy dK s_) {K : List Bool → Prop} (H : J0s s_ K) :
    CallsV Try.prog 69 #[.slice dy s_.length dK] w0 (fun v w' => ∃ (r0 : List Bool) (fm : Nat) (p_r0 : Option Addr) (c_r0 : Nat), v = .slice p_r0 fm c_r0 ∧ Same w0 w' ∧ Owns w0.heap.size w' [t1 Fl.bool 4 p_r0 fm c_r0 r0] A ∧ K r0) := by
 refine CallsV.of (l := [.slice dy s_.length dK]) Try.func69 rfl Try.ntmps69 rfl ?_
 have hO := Owns.start hA
 have hB := Fr.refl (bl []) w0
 unfold J0s at H
 refine au ?_
 replace H := H dy.isNone (fun h => fo.nilD h)
 by_cases hz2 : dy.isNone = true
 ·replace H := ifp hz2 H
  refine zo (fun w => opB (J2h Try.underlying22 rfl rfl w) (hz2)) ?_
  refine au ?_
  refine snil Fl.bool 4 hO fun s hO => ?_
  refine Go1.ret1 Try.func69 rfl ⟨_, _, _, _, ?_, frs, hO, H⟩
  exact rfl
 ·replace H := ifn hz2 H
  refine zo (fun w => opB (J2h Try.underlying22 rfl rfl w) (Bool.eq_false_iff.2 hz2)) ?_
  refine sbu Fl.bool 4 ([] : List Bool) hO fun w4 p5 s hO => ?_
  refine sap 0 hO fo.u H fun w7 p8 c9 s hO => ?_
  refine au ?_
  refine Go1.ret1 Try.func69 rfl ⟨_, _, _, _, ?_, frs, hO, H.2⟩
  exact rfl
end Sg
