/- -/
import Derived.Test.YtlneebpmblkllaaVd
namespace Sg
open Go Go.RowKit Go.Proofs
set_option linter.unusedVariables false
set_option linter.unusedSimpArgs false
set_option maxRecDepth 100000
set_option maxHeartbeats 4000000
theorem body51 : Body Try.prog 51 := ⟨Try.f51, Try.func51, rfl, by kernel_rfl⟩
theorem J3n {A : List Nat} {w0 : World} {n : Int} (hA : ∀ b ∈ A, b < w0.heap.size) {K : List Int → Prop} (H : J0Q n K) :
    CallsV Try.prog 51 #[.int .i64 n] w0 (fun v w' => ∃ (r0 : List Int), ∃ (cC : Option Addr), ∃ (cD : Nat), v = .slice cC r0.length cD ∧ Same w0 w' ∧ ISl (Rp.int .i64) A w' cC cD r0 ∧ K r0) := by
 refine CallsV.of (l := [.int .i64 n]) Try.func51 rfl Try.ntmps51 rfl ?_
 have hO := Owns.start hA
 have hB := Fr.refl (bl []) w0
 unfold J0Q at H
 refine au ?_
 refine smk Fl.i H hO fun w1 p4 s hO => ?_
 refine au ?_
 refine sln1 0 hO ?_
 refine au ?_
 refine lw H.2.2 (fun (bj, sb) σ w => (fun Z => agrees σ [(3, .slice p4 n.toNat n.toNat), (8, .int .i64 ((List.replicate n.toNat ((0 : Int))).length : Int)), (9, .int .i64 (bj : Int))] ∧ Owns w0.heap.size w Z A ∧ Fr (bl []) w0 (bl Z) w) [t1 Fl.i 3 p4 n.toNat n.toNat sb]) ⟨agr, hO, fr⟩ ?_
 refine fun X1 => p1 fun bj sb => fun H hX1 σ w6 => d2 fun hag hO hB => ?_
 dsimp only at H
 refine Go1.keep _ hag ?_
 revert hO; repeat (rename Owns _ _ _ _ => q; clear q)
 intro hO; repeat (rename Sq _ _ _ _ _ _ => q; clear q)
 refine au ?_
 refine scm H (fun h9 H => ?_) fun h9 H => ?_
 ·refine au ?_
  refine six1 0 hO H.1 H.2.1 ?_
  refine sst (u := (bj : Int)) 0 hO H.1 H.2.1 fun w10 s hO => ?_
  refine au ?_
  have h11 := H.1
  have h12 := H.2.1
  replace H := H.2.2
  obtain ⟨h13, H⟩ := H
  refine zo (J0e rfl rfl (wrap_i64 h13)) ?_
  refine au ?_
  exact hX1 _ H _ _ ⟨agr, hO, fr⟩
 refine au ?_
 refine sfz 0 hO fun s hO gA gB => ?_
 refine Go1.ret1 Try.func51 rfl ⟨_, _, _, ?_, frs, gA.r, H⟩
 exact (congrArg (fun nn => Value.slice p4 nn n.toNat) gB)
end Sg
