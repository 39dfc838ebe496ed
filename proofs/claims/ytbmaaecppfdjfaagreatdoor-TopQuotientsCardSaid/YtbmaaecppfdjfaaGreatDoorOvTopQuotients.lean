/- -/
import Derived.Test.YtbmaaecppfdjfaaGreatDoorRows
import Derived.WalkKit
import Derived.ProofKit
import Derived.OpenShut
import Derived.ChangeOld
import Derived.SizedLaws
namespace Go.Proofs.YtbmaaecppfdjfaaGreatDoor.topQuotientsOv
open Go.ChangeShapes Go.WideShapes Go.ChangeAt Go.RowKit
set_option maxRecDepth 100000
set_option maxHeartbeats 4000000
theorem J28 : (Rows.topQuotientsRow.inPlace == Tryz.pinned.checked.prog.inPlace 4) = true := by kernel_rfl
theorem J0N : (Rows.topQuotientsRow.unfollowed == Tryz.pinned.checked.prog.unfollowed 4) = true := by kernel_rfl
theorem J1n : (Rows.topQuotientsRow.recurses == Tryz.pinned.checked.prog.recurses 4) = true := by kernel_rfl
theorem J4U : (Rows.topQuotientsRow.named == Tryz.pinned.checked.prog.varsNamed 4) = true := by kernel_rfl
theorem J4W : Tryz.pinned.checked.prog.mayEnter = true := by kernel_rfl
theorem J3d : (Rows.topQuotientsRow.lifted == Tryz.pinned.checked.prog.liftsFinal) = true := by kernel_rfl
theorem closed : joinedFacts Tryz.pinned.checked.prog 4 Tryz.f4 Rows.topQuotientsSpec Rows.topQuotientsRow = true := by
 unfold joinedFacts
 simp only [J28, J0N, J1n, J4U, J4W, J3d, Bool.and_true]
 kernel_rfl
theorem inst : Tryz.f4.isInstance Tryz.pinned.checked.prog Rows.topQuotientsRow.origin Rows.topQuotientsRow.targs := of_decide_eq_true (by kernel_rfl)
theorem wrap : Tryz.f4.isWrapper Tryz.pinned.checked.prog Rows.topQuotientsRow.wrapper Rows.topQuotientsRow.mainSum := by unfold Func.isWrapper; first | (rw [if_pos (by decide +kernel)]; kernel_rfl) | (rw [if_neg (by decide +kernel)]; exact ⟨rfl, rfl⟩)
end Go.Proofs.YtbmaaecppfdjfaaGreatDoor.topQuotientsOv
