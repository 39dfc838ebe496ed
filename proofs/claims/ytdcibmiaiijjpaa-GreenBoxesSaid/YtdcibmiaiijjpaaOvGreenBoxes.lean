/- -/
import Derived.Test.YtdcibmiaiijjpaaRows
import Derived.WalkKit
import Derived.ProofKit
import Derived.OpenShut
import Derived.ChangeOld
import Derived.SizedLaws
namespace Go.Proofs.Ytdcibmiaiijjpaa.greenBoxesOv
open Go.ChangeShapes Go.WideShapes Go.ChangeAt Go.RowKit
set_option maxRecDepth 100000
set_option maxHeartbeats 4000000
theorem J6z : (Rows.greenBoxesRow.inPlace == Try.pinned.checked.prog.inPlace 4) = true := by kernel_rfl
theorem J5x : (Rows.greenBoxesRow.unfollowed == Try.pinned.checked.prog.unfollowed 4) = true := by kernel_rfl
theorem J6i : (Rows.greenBoxesRow.recurses == Try.pinned.checked.prog.recurses 4) = true := by kernel_rfl
theorem J7p : (Rows.greenBoxesRow.named == Try.pinned.checked.prog.varsNamed 4) = true := by kernel_rfl
theorem J7f : Try.pinned.checked.prog.mayEnter = true := by kernel_rfl
theorem J6Q : (Rows.greenBoxesRow.lifted == Try.pinned.checked.prog.liftsFinal) = true := by kernel_rfl
theorem closed : joinedFacts Try.pinned.checked.prog 4 Try.f4 Rows.greenBoxesSpec Rows.greenBoxesRow = true := by
 unfold joinedFacts
 simp only [J6z, J5x, J6i, J7p, J7f, J6Q, Bool.and_true]
 kernel_rfl
theorem inst : Try.f4.isInstance Try.pinned.checked.prog Rows.greenBoxesRow.origin Rows.greenBoxesRow.targs := of_decide_eq_true (by kernel_rfl)
theorem wrap : Try.f4.isWrapper Try.pinned.checked.prog Rows.greenBoxesRow.wrapper Rows.greenBoxesRow.mainSum := by unfold Func.isWrapper; first | (rw [if_pos (by decide +kernel)]; kernel_rfl) | (rw [if_neg (by decide +kernel)]; exact ⟨rfl, rfl⟩)
end Go.Proofs.Ytdcibmiaiijjpaa.greenBoxesOv
