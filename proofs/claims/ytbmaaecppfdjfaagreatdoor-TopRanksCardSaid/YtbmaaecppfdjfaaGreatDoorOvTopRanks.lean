/- -/
import Derived.Test.YtbmaaecppfdjfaaGreatDoorRows
import Derived.WalkKit
import Derived.ProofKit
import Derived.OpenShut
import Derived.ChangeOld
import Derived.SizedLaws
namespace Go.Proofs.YtbmaaecppfdjfaaGreatDoor.topRanksOv
open Go.ChangeShapes Go.WideShapes Go.ChangeAt Go.RowKit
set_option maxRecDepth 100000
set_option maxHeartbeats 4000000
theorem J28 : (Rows.topRanksRow.inPlace == Tryz.pinned.checked.prog.inPlace 8) = true := by kernel_rfl
theorem J0N : (Rows.topRanksRow.unfollowed == Tryz.pinned.checked.prog.unfollowed 8) = true := by kernel_rfl
theorem J1n : (Rows.topRanksRow.recurses == Tryz.pinned.checked.prog.recurses 8) = true := by kernel_rfl
theorem J4U : (Rows.topRanksRow.named == Tryz.pinned.checked.prog.varsNamed 8) = true := by kernel_rfl
theorem J4W : Tryz.pinned.checked.prog.mayEnter = true := by kernel_rfl
theorem J3d : (Rows.topRanksRow.lifted == Tryz.pinned.checked.prog.liftsFinal) = true := by kernel_rfl
theorem closed : joinedFacts Tryz.pinned.checked.prog 8 Tryz.f8 Rows.topRanksSpec Rows.topRanksRow = true := by
 unfold joinedFacts
 simp only [J28, J0N, J1n, J4U, J4W, J3d, Bool.and_true]
 kernel_rfl
theorem inst : Tryz.f8.isInstance Tryz.pinned.checked.prog Rows.topRanksRow.origin Rows.topRanksRow.targs := of_decide_eq_true (by kernel_rfl)
theorem wrap : Tryz.f8.isWrapper Tryz.pinned.checked.prog Rows.topRanksRow.wrapper Rows.topRanksRow.mainSum := by unfold Func.isWrapper; first | (rw [if_pos (by decide +kernel)]; kernel_rfl) | (rw [if_neg (by decide +kernel)]; exact ⟨rfl, rfl⟩)
end Go.Proofs.YtbmaaecppfdjfaaGreatDoor.topRanksOv
