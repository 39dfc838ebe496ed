/- -/
import Derived.Test.YtlneebpmblkllaaVd
import Derived.Test.YtlneebpmblkllaaWSyntacticMonoids
namespace Sg
open Go Go.RowKit Go.Proofs
set_option linter.unusedVariables false
set_option linter.unusedSimpArgs false
set_option maxRecDepth 100000
set_option maxHeartbeats 4000000
theorem body41 : Body Try.prog 41 := ⟨Try.f41, Try.func41, rfl, by kernel_rfl⟩
theorem J4C {A : List Nat} {w0 : World} {w_ : Str} {letters : Int} (hA : ∀ b ∈ A, b < w0.heap.size) (d6 : w_.length ≤ mx) {K : Bool → Prop} (H : J27 w_ letters K) :
    CallsV Try.prog 41 #[.string (gstr w_), .int .i64 letters] w0 (fun v w' => ∃ (r0 : Bool), v = .bool r0 ∧ Same w0 w' ∧ K r0) := by
 refine CallsV.of (l := [.string (gstr w_), .int .i64 letters]) Try.func41 rfl Try.ntmps41 rfl ?_
 have hO := Owns.start hA
 have hB := Fr.refl (bl []) w0
 unfold J27 at H
 refine au ?_
 refine zcr (J00 body59 rfl (J1B hO.lt H)) fun _ w2 => e1 fun r1 => sc0 hO fun s hO => fun H => ?_
 cases r1
 ·refine au ?_
  refine Go1.ret1 Try.func41 rfl ⟨_, ?_, frs, (iF H)⟩
  exact rfl
 refine au ?_
 refine zo (J2S Try.underlying9 rfl) ?_
 replace H := (iT H)
 replace H := H d6
 refine scm H (fun h3 H => ?_) fun h3 H => ?_
 ·refine au ?_
  refine Go1.ret1 Try.func41 rfl ⟨_, ?_, frs, H⟩
  exact rfl
 refine au ?_
 refine lw H (fun i1_5 σ w => (fun Z => agrees σ [(0, .string (gstr w_)), (1, .int .i64 letters), (5, .int .i64 (i1_5 : Int))] ∧ Owns w0.heap.size w Z A ∧ Fr (bl []) w0 (bl Z) w) []) ⟨agr, hO, fr⟩ ?_
 refine fun X1 => fun i1_5 => fun H hX1 σ w4 => d2 fun hag hO hB => ?_
 refine Go1.keep _ hag ?_
 revert hO; repeat (rename Owns _ _ _ _ => q; clear q)
 intro hO; repeat (rename Sq _ _ _ _ _ _ => q; clear q)
 refine au ?_
 refine zo (J2S Try.underlying9 rfl) ?_
 refine scm H (fun h6 H => ?_) fun h6 H => ?_
 ·refine au ?_
  obtain ⟨h7, H⟩ := H
  obtain ⟨h8, H⟩ := H
  refine zo (J3f Try.underlying9 rfl rfl h7 h8) ?_
  refine scm H (fun h9 H => ?_) fun h9 H => ?_
  ·refine au ?_
   refine Go1.ret1 Try.func41 rfl ⟨_, ?_, frs, H⟩
   exact rfl
  refine au ?_
  obtain ⟨h10, H⟩ := H
  obtain ⟨h11, H⟩ := H
  refine zo (J3f Try.underlying9 rfl rfl h10 h11) ?_
  refine zo (J6a rfl rfl rfl) ?_
  refine zo (J3e Try.underlying5 Try.underlying3 rfl rfl) ?_
  refine scm H (fun h12 H => ?_) fun h12 H => ?_
  ·refine au ?_
   refine Go1.ret1 Try.func41 rfl ⟨_, ?_, frs, H⟩
   exact rfl
  refine sinc (natbd h6 d6) ?_
  refine au ?_
  exact hX1 _ H _ _ ⟨agr, hO, fr⟩
 refine au ?_
 refine Go1.ret1 Try.func41 rfl ⟨_, ?_, frs, H⟩
 exact rfl
end Sg
