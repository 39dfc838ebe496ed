/- -/
import Derived.Test.YtbmaaecppfdjfaaGreatDoorRows
import Derived.WalkKit
import Derived.ProofKit
import Derived.OpenShut
import Derived.ChangeOld
import Derived.SizedLaws
namespace Go.Proofs.YtbmaaecppfdjfaaGreatDoor.topCyclesOv
open Go.ChangeShapes Go.WideShapes Go.ChangeAt Go.RowKit
set_option maxRecDepth 100000
set_option maxHeartbeats 4000000
theorem J28 : (Rows.topCyclesRow.inPlace == Tryz.pinned.checked.prog.inPlace 6) = true := by kernel_rfl
theorem J0N : (Rows.topCyclesRow.unfollowed == Tryz.pinned.checked.prog.unfollowed 6) = true := by kernel_rfl
theorem J1n : (Rows.topCyclesRow.recurses == Tryz.pinned.checked.prog.recurses 6) = true := by kernel_rfl
theorem J4U : (Rows.topCyclesRow.named == Tryz.pinned.checked.prog.varsNamed 6) = true := by kernel_rfl
theorem J4W : Tryz.pinned.checked.prog.mayEnter = true := by kernel_rfl
theorem J3d : (Rows.topCyclesRow.lifted == Tryz.pinned.checked.prog.liftsFinal) = true := by kernel_rfl
theorem closed : joinedFacts Tryz.pinned.checked.prog 6 Tryz.f6 Rows.topCyclesSpec Rows.topCyclesRow = true := by
 unfold joinedFacts
 simp only [J28, J0N, J1n, J4U, J4W, J3d, Bool.and_true]
 kernel_rfl
theorem inst : Tryz.f6.isInstance Tryz.pinned.checked.prog Rows.topCyclesRow.origin Rows.topCyclesRow.targs := of_decide_eq_true (by kernel_rfl)
theorem wrap : Tryz.f6.isWrapper Tryz.pinned.checked.prog Rows.topCyclesRow.wrapper Rows.topCyclesRow.mainSum := by unfold Func.isWrapper; first | (rw [if_pos (by decide +kernel)]; kernel_rfl) | (rw [if_neg (by decide +kernel)]; exact ⟨rfl, rfl⟩)
end Go.Proofs.YtbmaaecppfdjfaaGreatDoor.topCyclesOv
