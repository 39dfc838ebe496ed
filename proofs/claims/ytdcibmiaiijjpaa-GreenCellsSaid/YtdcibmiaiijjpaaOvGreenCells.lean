/- -/
import Derived.Test.YtdcibmiaiijjpaaRows
import Derived.WalkKit
import Derived.ProofKit
import Derived.OpenShut
import Derived.ChangeOld
import Derived.SizedLaws
namespace Go.Proofs.Ytdcibmiaiijjpaa.greenCellsOv
open Go.ChangeShapes Go.WideShapes Go.ChangeAt Go.RowKit
set_option maxRecDepth 100000
set_option maxHeartbeats 4000000
theorem J6d : (Rows.greenCellsRow.inPlace == Try.pinned.checked.prog.inPlace 5) = true := by kernel_rfl
theorem J4S : (Rows.greenCellsRow.unfollowed == Try.pinned.checked.prog.unfollowed 5) = true := by kernel_rfl
theorem J5F : (Rows.greenCellsRow.recurses == Try.pinned.checked.prog.recurses 5) = true := by kernel_rfl
theorem J6Q : (Rows.greenCellsRow.named == Try.pinned.checked.prog.varsNamed 5) = true := by kernel_rfl
theorem J6R : Try.pinned.checked.prog.mayEnter = true := by kernel_rfl
theorem J6m : (Rows.greenCellsRow.lifted == Try.pinned.checked.prog.liftsFinal) = true := by kernel_rfl
theorem closed : joinedFacts Try.pinned.checked.prog 5 Try.f5 Rows.greenCellsSpec Rows.greenCellsRow = true := by
 unfold joinedFacts
 simp only [J6d, J4S, J5F, J6Q, J6R, J6m, Bool.and_true]
 kernel_rfl
theorem inst : Try.f5.isInstance Try.pinned.checked.prog Rows.greenCellsRow.origin Rows.greenCellsRow.targs := of_decide_eq_true (by kernel_rfl)
theorem wrap : Try.f5.isWrapper Try.pinned.checked.prog Rows.greenCellsRow.wrapper Rows.greenCellsRow.mainSum := by unfold Func.isWrapper; first | (rw [if_pos (by decide +kernel)]; kernel_rfl) | (rw [if_neg (by decide +kernel)]; exact ⟨rfl, rfl⟩)
end Go.Proofs.Ytdcibmiaiijjpaa.greenCellsOv
