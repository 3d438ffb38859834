import Derived.Test.YtfgdgdnlglejbaaGreatDoorRows
import Derived.Test.YtfgdgdnlglejbaaGreatDoorTie
import Derived.JoinedOf
import Derived.ProofKit
set_option linter.all false
namespace Go.Proofs.YtfgdgdnlglejbaaGreatDoor.certSeal
open Go
theorem Hq {a b:Bool} (h:a=true) (k:b=true):(a&&b)=true:=by subst h;subst k;rfl
theorem q0:Rows.certSealRow.wf (OpenSpec.ofChange Rows.certSealSpec)=true:=by kernel_rfl
theorem q1:laidOutB Tryz.pinned.checked.prog=true:=by kernel_rfl
theorem q2:mapsRowed Tryz.pinned.checked.prog=true:=by kernel_rfl
theorem q3:Tryz.f4.params.all (Tryz.pinned.checked.prog.readableRec ·)=true:=by kernel_rfl
theorem q4:namedTie Tryz.pinned.checked.prog Rows.certSealRow.named Rows.certSealSpec.vars=true:=by kernel_rfl
theorem q5:(Rows.certSealRow.stops==[])=true:=by kernel_rfl
theorem q6:(Tryz.pinned.checked.prog.stops==[])=true:=by kernel_rfl
theorem q7:(Rows.certSealRow.knobs==[])=true:=by kernel_rfl
theorem q8:(Tryz.pinned.checked.prog.stopKnobs==[])=true:=by kernel_rfl
theorem q9:(Rows.certSealRow.inPlace==Tryz.pinned.checked.prog.inPlace (4:FuncId))=true:=by kernel_rfl
theorem q10:(Rows.certSealRow.unfollowed==Tryz.pinned.checked.prog.unfollowed (4:FuncId))=true:=by kernel_rfl
