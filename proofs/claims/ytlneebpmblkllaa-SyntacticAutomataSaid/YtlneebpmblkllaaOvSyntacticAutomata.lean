/- -/
import Derived.Test.YtlneebpmblkllaaRows
import Derived.WalkKit
import Derived.ProofKit
import Derived.OpenShut
import Derived.ChangeOld
import Derived.SizedLaws
namespace Go.Proofs.Ytlneebpmblkllaa.syntacticAutomataOv
open Go.ChangeShapes Go.WideShapes Go.ChangeAt Go.RowKit
set_option maxRecDepth 100000
set_option maxHeartbeats 4000000
theorem J9A : (Rows.syntacticAutomataRow.inPlace == Try.pinned.checked.prog.inPlace 12) = true := by kernel_rfl
theorem J7R : (Rows.syntacticAutomataRow.unfollowed == Try.pinned.checked.prog.unfollowed 12) = true := by kernel_rfl
theorem J8Y : (Rows.syntacticAutomataRow.recurses == Try.pinned.checked.prog.recurses 12) = true := by kernel_rfl
theorem JaS : (Rows.syntacticAutomataRow.named == Try.pinned.checked.prog.varsNamed 12) = true := by kernel_rfl
theorem JaP : Try.pinned.checked.prog.mayEnter = true := by kernel_rfl
theorem Ja6 : (Rows.syntacticAutomataRow.lifted == Try.pinned.checked.prog.liftsFinal) = true := by kernel_rfl
theorem closed : joinedFacts Try.pinned.checked.prog 12 Try.f12 Rows.syntacticAutomataSpec Rows.syntacticAutomataRow = true := by
 unfold joinedFacts
 simp only [J9A, J7R, J8Y, JaS, JaP, Ja6, Bool.and_true]
 kernel_rfl
theorem inst : Try.f12.isInstance Try.pinned.checked.prog Rows.syntacticAutomataRow.origin Rows.syntacticAutomataRow.targs := of_decide_eq_true (by kernel_rfl)
theorem wrap : Try.f12.isWrapper Try.pinned.checked.prog Rows.syntacticAutomataRow.wrapper Rows.syntacticAutomataRow.mainSum := by unfold Func.isWrapper; first | (rw [if_pos (by decide +kernel)]; kernel_rfl) | (rw [if_neg (by decide +kernel)]; exact ⟨rfl, rfl⟩)
end Go.Proofs.Ytlneebpmblkllaa.syntacticAutomataOv
