/- -/
import Derived.Test.YtlneebpmblkllaaRows
import Derived.WalkKit
import Derived.ProofKit
import Derived.OpenShut
import Derived.ChangeOld
import Derived.SizedLaws
namespace Go.Proofs.Ytlneebpmblkllaa.syntacticMultipliesOv
open Go.ChangeShapes Go.WideShapes Go.ChangeAt Go.RowKit
set_option maxRecDepth 100000
set_option maxHeartbeats 4000000
theorem J7g : (Rows.syntacticMultipliesRow.inPlace == Try.pinned.checked.prog.inPlace 15) = true := by kernel_rfl
theorem J5Y : (Rows.syntacticMultipliesRow.unfollowed == Try.pinned.checked.prog.unfollowed 15) = true := by kernel_rfl
theorem J7c : (Rows.syntacticMultipliesRow.recurses == Try.pinned.checked.prog.recurses 15) = true := by kernel_rfl
theorem J8F : (Rows.syntacticMultipliesRow.named == Try.pinned.checked.prog.varsNamed 15) = true := by kernel_rfl
theorem J8J : Try.pinned.checked.prog.mayEnter = true := by kernel_rfl
theorem J7Y : (Rows.syntacticMultipliesRow.lifted == Try.pinned.checked.prog.liftsFinal) = true := by kernel_rfl
theorem closed : joinedFacts Try.pinned.checked.prog 15 Try.f15 Rows.syntacticMultipliesSpec Rows.syntacticMultipliesRow = true := by
 unfold joinedFacts
 simp only [J7g, J5Y, J7c, J8F, J8J, J7Y, Bool.and_true]
 kernel_rfl
theorem inst : Try.f15.isInstance Try.pinned.checked.prog Rows.syntacticMultipliesRow.origin Rows.syntacticMultipliesRow.targs := of_decide_eq_true (by kernel_rfl)
theorem wrap : Try.f15.isWrapper Try.pinned.checked.prog Rows.syntacticMultipliesRow.wrapper Rows.syntacticMultipliesRow.mainSum := by unfold Func.isWrapper; first | (rw [if_pos (by decide +kernel)]; kernel_rfl) | (rw [if_neg (by decide +kernel)]; exact ⟨rfl, rfl⟩)
end Go.Proofs.Ytlneebpmblkllaa.syntacticMultipliesOv
