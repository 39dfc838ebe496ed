/- -/
import Derived.Test.YtlneebpmblkllaaRows
import Derived.WalkKit
import Derived.ProofKit
import Derived.OpenShut
import Derived.ChangeOld
import Derived.SizedLaws
namespace Go.Proofs.Ytlneebpmblkllaa.syntacticRefusesOv
open Go.ChangeShapes Go.WideShapes Go.ChangeAt Go.RowKit
set_option maxRecDepth 100000
set_option maxHeartbeats 4000000
theorem J99 : (Rows.syntacticRefusesRow.inPlace == Try.pinned.checked.prog.inPlace 6) = true := by kernel_rfl
theorem J7a : (Rows.syntacticRefusesRow.unfollowed == Try.pinned.checked.prog.unfollowed 6) = true := by kernel_rfl
theorem J8r : (Rows.syntacticRefusesRow.recurses == Try.pinned.checked.prog.recurses 6) = true := by kernel_rfl
theorem J9T : (Rows.syntacticRefusesRow.named == Try.pinned.checked.prog.varsNamed 6) = true := by kernel_rfl
theorem J9V : Try.pinned.checked.prog.mayEnter = true := by kernel_rfl
theorem J9t : (Rows.syntacticRefusesRow.lifted == Try.pinned.checked.prog.liftsFinal) = true := by kernel_rfl
theorem closed : joinedFacts Try.pinned.checked.prog 6 Try.f6 Rows.syntacticRefusesSpec Rows.syntacticRefusesRow = true := by
 unfold joinedFacts
 simp only [J99, J7a, J8r, J9T, J9V, J9t, Bool.and_true]
 kernel_rfl
theorem inst : Try.f6.isInstance Try.pinned.checked.prog Rows.syntacticRefusesRow.origin Rows.syntacticRefusesRow.targs := of_decide_eq_true (by kernel_rfl)
theorem wrap : Try.f6.isWrapper Try.pinned.checked.prog Rows.syntacticRefusesRow.wrapper Rows.syntacticRefusesRow.mainSum := by unfold Func.isWrapper; first | (rw [if_pos (by decide +kernel)]; kernel_rfl) | (rw [if_neg (by decide +kernel)]; exact ⟨rfl, rfl⟩)
end Go.Proofs.Ytlneebpmblkllaa.syntacticRefusesOv
