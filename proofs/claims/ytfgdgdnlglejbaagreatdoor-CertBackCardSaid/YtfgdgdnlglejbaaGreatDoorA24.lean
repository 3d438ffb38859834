import Derived.Test.YtfgdgdnlglejbaaGreatDoorRows
import Derived.Test.YtfgdgdnlglejbaaGreatDoorTie
import Derived.JoinedOf
import Derived.ProofKit
set_option linter.all false
namespace Go.Proofs.YtfgdgdnlglejbaaGreatDoor.certBack
open Go
theorem Iq {a b:Bool} (h:a=true) (k:b=true):(a&&b)=true:=by subst h;subst k;rfl
theorem q0:Rows.certBackRow.wf (OpenSpec.ofChange Rows.certBackSpec)=true:=by kernel_rfl
theorem q1:laidOutB Tryz.pinned.checked.prog=true:=by kernel_rfl
theorem q2:mapsRowed Tryz.pinned.checked.prog=true:=by kernel_rfl
theorem q3:Tryz.f5.params.all (Tryz.pinned.checked.prog.readableRec ·)=true:=by kernel_rfl
theorem q4:namedTie Tryz.pinned.checked.prog Rows.certBackRow.named Rows.certBackSpec.vars=true:=by kernel_rfl
theorem q5:(Rows.certBackRow.stops==[])=true:=by kernel_rfl
theorem q6:(Tryz.pinned.checked.prog.stops==[])=true:=by kernel_rfl
theorem q7:(Rows.certBackRow.knobs==[])=true:=by kernel_rfl
theorem q8:(Tryz.pinned.checked.prog.stopKnobs==[])=true:=by kernel_rfl
theorem q9:(Rows.certBackRow.inPlace==Tryz.pinned.checked.prog.inPlace (5:FuncId))=true:=by kernel_rfl
theorem q10:(Rows.certBackRow.unfollowed==Tryz.pinned.checked.prog.unfollowed (5:FuncId))=true:=by kernel_rfl
