import Derived.Test.YtbaomhegdndpnaaGreatDoorRows
import Derived.Test.YtbaomhegdndpnaaGreatDoorTie
import Derived.JoinedOf
import Derived.ProofKit
set_option linter.all false
namespace Go.Proofs.YtbaomhegdndpnaaGreatDoor.crlEntries
open Go
theorem Ha {a b:Bool} (h:a=true) (k:b=true):(a&&b)=true:=by subst h;subst k;rfl
theorem q0:Rows.crlEntriesRow.wf (OpenSpec.ofChange Rows.crlEntriesSpec)=true:=by kernel_rfl
theorem q1:laidOutB Tryz.pinned.checked.prog=true:=by kernel_rfl
theorem q2:mapsRowed Tryz.pinned.checked.prog=true:=by kernel_rfl
theorem q3:Tryz.f7.params.all (Tryz.pinned.checked.prog.readableRec ·)=true:=by kernel_rfl
theorem q4:namedTie Tryz.pinned.checked.prog Rows.crlEntriesRow.named Rows.crlEntriesSpec.vars=true:=by kernel_rfl
theorem q5:(Rows.crlEntriesRow.stops==[])=true:=by kernel_rfl
theorem q6:(Tryz.pinned.checked.prog.stops==[])=true:=by kernel_rfl
theorem q7:(Rows.crlEntriesRow.knobs==[])=true:=by kernel_rfl
theorem q8:(Tryz.pinned.checked.prog.stopKnobs==[])=true:=by kernel_rfl
theorem q9:(Rows.crlEntriesRow.inPlace==Tryz.pinned.checked.prog.inPlace (7:FuncId))=true:=by kernel_rfl
theorem q10:(Rows.crlEntriesRow.unfollowed==Tryz.pinned.checked.prog.unfollowed (7:FuncId))=true:=by kernel_rfl
