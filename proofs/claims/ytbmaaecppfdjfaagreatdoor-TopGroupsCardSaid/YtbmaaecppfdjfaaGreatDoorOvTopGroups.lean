/- -/
import Derived.Test.YtbmaaecppfdjfaaGreatDoorRows
import Derived.WalkKit
import Derived.ProofKit
import Derived.OpenShut
import Derived.ChangeOld
import Derived.SizedLaws
namespace Go.Proofs.YtbmaaecppfdjfaaGreatDoor.topGroupsOv
open Go.ChangeShapes Go.WideShapes Go.ChangeAt Go.RowKit
set_option maxRecDepth 100000
set_option maxHeartbeats 4000000
theorem J9Q:(Rows.topGroupsRow.inPlace == Tryz.pinned.checked.prog.inPlace 9)=true:=by kernel_rfl
theorem J6W:(Rows.topGroupsRow.unfollowed == Tryz.pinned.checked.prog.unfollowed 9)=true:=by kernel_rfl
theorem J8Q:(Rows.topGroupsRow.recurses == Tryz.pinned.checked.prog.recurses 9)=true:=by kernel_rfl
theorem JbT:(Rows.topGroupsRow.named == Tryz.pinned.checked.prog.varsNamed 9)=true:=by kernel_rfl
theorem Jc7:Tryz.pinned.checked.prog.mayEnter=true:=by kernel_rfl
theorem Jaz:(Rows.topGroupsRow.lifted == Tryz.pinned.checked.prog.liftsFinal)=true:=by kernel_rfl
theorem closed:joinedFacts Tryz.pinned.checked.prog 9 Tryz.f9 Rows.topGroupsSpec Rows.topGroupsRow=true:=by
 unfold joinedFacts
 simp only[J9Q,J6W,J8Q,JbT,Jc7,Jaz,Bool.and_true]
 kernel_rfl
theorem inst:Tryz.f9.isInstance Tryz.pinned.checked.prog Rows.topGroupsRow.origin Rows.topGroupsRow.targs:=of_decide_eq_true (by kernel_rfl)
theorem wrap:Tryz.f9.isWrapper Tryz.pinned.checked.prog Rows.topGroupsRow.wrapper Rows.topGroupsRow.mainSum:=by unfold Func.isWrapper;first | (rw[if_pos (by decide +kernel)];kernel_rfl) | (rw[if_neg (by decide +kernel)];exact⟨rfl,rfl⟩)
end Go.Proofs.YtbmaaecppfdjfaaGreatDoor.topGroupsOv
