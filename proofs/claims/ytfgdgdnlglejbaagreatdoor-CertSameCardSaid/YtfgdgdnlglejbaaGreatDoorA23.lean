import Derived.Test.YtfgdgdnlglejbaaGreatDoorRows
import Derived.Test.YtfgdgdnlglejbaaGreatDoorTie
import Derived.JoinedOf
import Derived.ProofKit
set_option linter.all false
namespace Go.Proofs.YtfgdgdnlglejbaaGreatDoor.certSame
open Go
def Oz {a b:Bool} (h:a=true) (k:b=true):(a&&b)=true:=by subst h;subst k;rfl
def q0:Rows.certSameRow.wf (OpenSpec.ofChange Rows.certSameSpec)=true:=by kernel_rfl
def q1:laidOutB Tryz.pinned.checked.prog=true:=by kernel_rfl
def q2:mapsRowed Tryz.pinned.checked.prog=true:=by kernel_rfl
def q3:Tryz.f6.params.all (Tryz.pinned.checked.prog.readableRec ·)=true:=by kernel_rfl
def q4:namedTie Tryz.pinned.checked.prog Rows.certSameRow.named Rows.certSameSpec.vars=true:=by kernel_rfl
def q5:(Rows.certSameRow.stops==[])=true:=by kernel_rfl
def q6:(Tryz.pinned.checked.prog.stops==[])=true:=by kernel_rfl
def q7:(Rows.certSameRow.knobs==[])=true:=by kernel_rfl
def q8:(Tryz.pinned.checked.prog.stopKnobs==[])=true:=by kernel_rfl
def q9:(Rows.certSameRow.inPlace==Tryz.pinned.checked.prog.inPlace (6:FuncId))=true:=by kernel_rfl
def q10:(Rows.certSameRow.unfollowed==Tryz.pinned.checked.prog.unfollowed (6:FuncId))=true:=by kernel_rfl
end Go.Proofs.YtfgdgdnlglejbaaGreatDoor.certSame
