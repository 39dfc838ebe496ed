/- -/
import Derived.Test.YtbmaaecppfdjfaaGreatDoorRows
import Derived.WalkKit
import Derived.ProofKit
import Derived.OpenShut
import Derived.ChangeOld
import Derived.SizedLaws
namespace Go.Proofs.YtbmaaecppfdjfaaGreatDoor.topTransitionsOv
open Go.ChangeShapes Go.WideShapes Go.ChangeAt Go.RowKit
set_option maxRecDepth 100000
set_option maxHeartbeats 4000000
theorem J28 : (Rows.topTransitionsRow.inPlace == Tryz.pinned.checked.prog.inPlace 3) = true := by kernel_rfl
theorem J0N : (Rows.topTransitionsRow.unfollowed == Tryz.pinned.checked.prog.unfollowed 3) = true := by kernel_rfl
theorem J1n : (Rows.topTransitionsRow.recurses == Tryz.pinned.checked.prog.recurses 3) = true := by kernel_rfl
theorem J4U : (Rows.topTransitionsRow.named == Tryz.pinned.checked.prog.varsNamed 3) = true := by kernel_rfl
theorem J4W : Tryz.pinned.checked.prog.mayEnter = true := by kernel_rfl
theorem J3d : (Rows.topTransitionsRow.lifted == Tryz.pinned.checked.prog.liftsFinal) = true := by kernel_rfl
theorem closed : joinedFacts Tryz.pinned.checked.prog 3 Tryz.f3 Rows.topTransitionsSpec Rows.topTransitionsRow = true := by
 unfold joinedFacts
 simp only [J28, J0N, J1n, J4U, J4W, J3d, Bool.and_true]
 kernel_rfl
theorem inst : Tryz.f3.isInstance Tryz.pinned.checked.prog Rows.topTransitionsRow.origin Rows.topTransitionsRow.targs := of_decide_eq_true (by kernel_rfl)
theorem wrap : Tryz.f3.isWrapper Tryz.pinned.checked.prog Rows.topTransitionsRow.wrapper Rows.topTransitionsRow.mainSum := by unfold Func.isWrapper; first | (rw [if_pos (by decide +kernel)]; kernel_rfl) | (rw [if_neg (by decide +kernel)]; exact ⟨rfl, rfl⟩)
end Go.Proofs.YtbmaaecppfdjfaaGreatDoor.topTransitionsOv
