import Derived.Test.YtbnphelpndnnfabGreatDoorRows
import Derived.Test.YtbnphelpndnnfabGreatDoorTie
import Derived.JoinedOf
import Derived.ProofKit
set_option linter.all false
namespace Go.Proofs.YtbnphelpndnnfabGreatDoor.bundleBack
open Go
theorem Gz {a b:Bool} (h:a=true) (k:b=true):(a&&b)=true:=by subst h;subst k;rfl
theorem q0:Rows.bundleBackRow.wf (OpenSpec.ofChange Rows.bundleBackSpec)=true:=by kernel_rfl
theorem q1:laidOutB Tryz.pinned.checked.prog=true:=by kernel_rfl
theorem q2:mapsRowed Tryz.pinned.checked.prog=true:=by kernel_rfl
theorem q3:Tryz.f4.params.all (Tryz.pinned.checked.prog.readableRec ·)=true:=by kernel_rfl
theorem q4:namedTie Tryz.pinned.checked.prog Rows.bundleBackRow.named Rows.bundleBackSpec.vars=true:=by kernel_rfl
theorem q5:(Rows.bundleBackRow.stops==[])=true:=by kernel_rfl
theorem q6:(Tryz.pinned.checked.prog.stops==[])=true:=by kernel_rfl
theorem q7:(Rows.bundleBackRow.knobs==[])=true:=by kernel_rfl
theorem q8:(Tryz.pinned.checked.prog.stopKnobs==[])=true:=by kernel_rfl
theorem q9:(Rows.bundleBackRow.inPlace==Tryz.pinned.checked.prog.inPlace (4:FuncId))=true:=by kernel_rfl
theorem q10:(Rows.bundleBackRow.unfollowed==Tryz.pinned.checked.prog.unfollowed (4:FuncId))=true:=by kernel_rfl
