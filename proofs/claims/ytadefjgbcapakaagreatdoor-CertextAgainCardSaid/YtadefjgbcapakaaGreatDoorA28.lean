import Derived.Test.YtadefjgbcapakaaGreatDoorRows
import Derived.Test.YtadefjgbcapakaaGreatDoorTie
import Derived.JoinedOf
import Derived.ProofKit
set_option linter.all false
namespace Go.Proofs.YtadefjgbcapakaaGreatDoor.certextAgain
open Go
theorem ED {a b:Bool} (h:a=true) (k:b=true):(a&&b)=true:=by subst h;subst k;rfl
theorem q0:Rows.certextAgainRow.wf (OpenSpec.ofChange Rows.certextAgainSpec)=true:=by kernel_rfl
theorem q1:laidOutB Tryz.pinned.checked.prog=true:=by kernel_rfl
theorem q2:mapsRowed Tryz.pinned.checked.prog=true:=by kernel_rfl
theorem q3:Tryz.f8.params.all (Tryz.pinned.checked.prog.readableRec ·)=true:=by kernel_rfl
theorem q4:namedTie Tryz.pinned.checked.prog Rows.certextAgainRow.named Rows.certextAgainSpec.vars=true:=by kernel_rfl
theorem q5:(Rows.certextAgainRow.stops==[])=true:=by kernel_rfl
theorem q6:(Tryz.pinned.checked.prog.stops==[])=true:=by kernel_rfl
theorem q7:(Rows.certextAgainRow.knobs==[])=true:=by kernel_rfl
theorem q8:(Tryz.pinned.checked.prog.stopKnobs==[])=true:=by kernel_rfl
theorem q9:(Rows.certextAgainRow.inPlace==Tryz.pinned.checked.prog.inPlace (8:FuncId))=true:=by kernel_rfl
theorem q10:(Rows.certextAgainRow.unfollowed==Tryz.pinned.checked.prog.unfollowed (8:FuncId))=true:=by kernel_rfl
