/- -/
import Derived.Test.YtbmaaecppfdjfaaGreatDoorRows
import Derived.WalkKit
import Derived.ProofKit
import Derived.OpenShut
import Derived.ChangeOld
import Derived.SizedLaws
namespace Go.Proofs.YtbmaaecppfdjfaaGreatDoor.topSyntacticOv
open Go.ChangeShapes Go.WideShapes Go.ChangeAt Go.RowKit
set_option maxRecDepth 100000
set_option maxHeartbeats 4000000
theorem J9Q:(Rows.topSyntacticRow.inPlace == Tryz.pinned.checked.prog.inPlace 7)=true:=by kernel_rfl
theorem J6W:(Rows.topSyntacticRow.unfollowed == Tryz.pinned.checked.prog.unfollowed 7)=true:=by kernel_rfl
theorem J8Q:(Rows.topSyntacticRow.recurses == Tryz.pinned.checked.prog.recurses 7)=true:=by kernel_rfl
theorem JbT:(Rows.topSyntacticRow.named == Tryz.pinned.checked.prog.varsNamed 7)=true:=by kernel_rfl
theorem Jc7:Tryz.pinned.checked.prog.mayEnter=true:=by kernel_rfl
theorem Jaz:(Rows.topSyntacticRow.lifted == Tryz.pinned.checked.prog.liftsFinal)=true:=by kernel_rfl
theorem closed:joinedFacts Tryz.pinned.checked.prog 7 Tryz.f7 Rows.topSyntacticSpec Rows.topSyntacticRow=true:=by
 unfold joinedFacts
 simp only[J9Q,J6W,J8Q,JbT,Jc7,Jaz,Bool.and_true]
 kernel_rfl
theorem inst:Tryz.f7.isInstance Tryz.pinned.checked.prog Rows.topSyntacticRow.origin Rows.topSyntacticRow.targs:=of_decide_eq_true (by kernel_rfl)
theorem wrap:Tryz.f7.isWrapper Tryz.pinned.checked.prog Rows.topSyntacticRow.wrapper Rows.topSyntacticRow.mainSum:=by unfold Func.isWrapper;first | (rw[if_pos (by decide +kernel)];kernel_rfl) | (rw[if_neg (by decide +kernel)];exact⟨rfl,rfl⟩)
end Go.Proofs.YtbmaaecppfdjfaaGreatDoor.topSyntacticOv
