import Derived.Test.YtbnphelpndnnfaaGreatDoorRows
import Derived.Test.YtbnphelpndnnfaaGreatDoorTie
import Derived.JoinedOf
import Derived.ProofKit
set_option linter.all false
namespace Go.Proofs.YtbnphelpndnnfaaGreatDoor.crlBack
open Go
theorem ET {a b:Bool} (h:a=true) (k:b=true):(a&&b)=true:=by subst h;subst k;rfl
theorem q0:Rows.crlBackRow.wf (OpenSpec.ofChange Rows.crlBackSpec)=true:=by kernel_rfl
theorem q1:laidOutB Tryz.pinned.checked.prog=true:=by kernel_rfl
theorem q2:mapsRowed Tryz.pinned.checked.prog=true:=by kernel_rfl
theorem q3:Tryz.f3.params.all (Tryz.pinned.checked.prog.readableRec ·)=true:=by kernel_rfl
theorem q4:namedTie Tryz.pinned.checked.prog Rows.crlBackRow.named Rows.crlBackSpec.vars=true:=by kernel_rfl
theorem q5:(Rows.crlBackRow.stops==[])=true:=by kernel_rfl
theorem q6:(Tryz.pinned.checked.prog.stops==[])=true:=by kernel_rfl
theorem q7:(Rows.crlBackRow.knobs==[])=true:=by kernel_rfl
theorem q8:(Tryz.pinned.checked.prog.stopKnobs==[])=true:=by kernel_rfl
theorem q9:(Rows.crlBackRow.inPlace==Tryz.pinned.checked.prog.inPlace (3:FuncId))=true:=by kernel_rfl
theorem q10:(Rows.crlBackRow.unfollowed==Tryz.pinned.checked.prog.unfollowed (3:FuncId))=true:=by kernel_rfl
