/- -/
import Derived.Test.YtlneebpmblkllaaRows
import Derived.WalkKit
import Derived.ProofKit
import Derived.OpenShut
import Derived.ChangeOld
import Derived.SizedLaws
namespace Go.Proofs.Ytlneebpmblkllaa.syntacticJointOv
open Go.ChangeShapes Go.WideShapes Go.ChangeAt Go.RowKit
set_option maxRecDepth 100000
set_option maxHeartbeats 4000000
theorem J8H : (Rows.syntacticJointRow.inPlace == Try.pinned.checked.prog.inPlace 5) = true := by kernel_rfl
theorem J6T : (Rows.syntacticJointRow.unfollowed == Try.pinned.checked.prog.unfollowed 5) = true := by kernel_rfl
theorem J8e : (Rows.syntacticJointRow.recurses == Try.pinned.checked.prog.recurses 5) = true := by kernel_rfl
theorem J9E : (Rows.syntacticJointRow.named == Try.pinned.checked.prog.varsNamed 5) = true := by kernel_rfl
theorem J9I : Try.pinned.checked.prog.mayEnter = true := by kernel_rfl
theorem J99 : (Rows.syntacticJointRow.lifted == Try.pinned.checked.prog.liftsFinal) = true := by kernel_rfl
theorem closed : joinedFacts Try.pinned.checked.prog 5 Try.f5 Rows.syntacticJointSpec Rows.syntacticJointRow = true := by
 unfold joinedFacts
 simp only [J8H, J6T, J8e, J9E, J9I, J99, Bool.and_true]
 kernel_rfl
theorem inst : Try.f5.isInstance Try.pinned.checked.prog Rows.syntacticJointRow.origin Rows.syntacticJointRow.targs := of_decide_eq_true (by kernel_rfl)
theorem wrap : Try.f5.isWrapper Try.pinned.checked.prog Rows.syntacticJointRow.wrapper Rows.syntacticJointRow.mainSum := by unfold Func.isWrapper; first | (rw [if_pos (by decide +kernel)]; kernel_rfl) | (rw [if_neg (by decide +kernel)]; exact ⟨rfl, rfl⟩)
end Go.Proofs.Ytlneebpmblkllaa.syntacticJointOv
