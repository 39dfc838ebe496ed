/- -/
import Derived.Test.YtlneebpmblkllaaVd
namespace Sg
open Go Go.RowKit Go.Proofs
set_option linter.unusedVariables false
set_option linter.unusedSimpArgs false
set_option maxRecDepth 100000
set_option maxHeartbeats 4000000
theorem body58 : Body Try.prog 58 := ⟨Try.f58, Try.func58, rfl, by kernel_rfl⟩
theorem J4a {A : List Nat} {w0 : World} {iq : Option Addr} {iu : Nat} {set_ : List Bool} (hA : ∀ b ∈ A, b < w0.heap.size) (iv : ISl (Rp.bool) A w0 iq iu set_) {K : List Int → Prop} (H : J1k set_ K) :
    CallsV Try.prog 58 #[.slice iq set_.length iu] w0 (fun v w' => ∃ (r0 : List Int) (fm : Nat) (p_r0 : Option Addr) (c_r0 : Nat), v = .slice p_r0 fm c_r0 ∧ Same w0 w' ∧ Owns w0.heap.size w' [t1 Fl.i 3 p_r0 fm c_r0 r0] A ∧ K r0) := by
 refine CallsV.of (l := [.slice iq set_.length iu]) Try.func58 rfl Try.ntmps58 rfl ?_
 have hO := Owns.start hA
 have hB := Fr.refl (bl []) w0
 unfold J1k at H
 refine sln0 ?_
 refine au ?_
 refine snil Fl.i 3 hO fun s hO => ?_
 refine lw (H iv.bd) (fun (k1_3, rP) σ w => ∃ n7 p5 c6, (fun Z => agrees σ [(3, .slice p5 n7 c6), (6, .slice iq set_.length iu), (7, .int .i64 (set_.length : Int)), (8, .int .i64 (k1_3 : Int))] ∧ Owns w0.heap.size w Z A ∧ Fr (bl []) w0 (bl Z) w) [t1 Fl.i 3 p5 n7 c6 rP]) ⟨_, _, _, agr, hO, fr⟩ ?_
 refine fun X1 => p1 fun k1_3 rP => fun H hX1 σ w2 => e3 fun n7 p5 c6 => d2 fun hag hO hB => ?_
 dsimp only at H
 refine Go1.keep _ hag ?_
 revert hO; repeat (rename Owns _ _ _ _ => q; clear q)
 intro hO; repeat (rename Sq _ _ _ _ _ _ => q; clear q)
 refine scm H (fun h8 H => ?_) fun h8 H => ?_
 ·refine au ?_
  have h9 := H.1
  have h10 := H.2.1
  refine sxb hO iv.u H.1 H.2.1 H.2.2 (fun h11 H => ?_) fun h11 H => ?_
  ·refine au ?_
   refine sap1 ((k1_3 : Int)) 0 hO H fun _ w12 p13 c14 s hO => ?_
   refine sinc (natbd h8 iv.bd) ?_
   refine au ?_
   exact hX1 _ H.2 _ _ ⟨_, _, _, agr, hO, fr⟩
  refine sinc (natbd h8 iv.bd) ?_
  refine au ?_
  exact hX1 _ H _ _ ⟨_, _, _, agr, hO, fr⟩
 refine au ?_
 refine Go1.ret1 Try.func58 rfl ⟨_, _, _, _, ?_, frs, hO, H⟩
 exact rfl
end Sg
