import Derived.Test.YtacidcemomccpaaGreatDoorRows
import Derived.Test.YtacidcemomccpaaGreatDoorTie
import Derived.JoinedOf
import Derived.ProofKit
set_option linter.all false
namespace Go.Proofs.YtacidcemomccpaaGreatDoor.requestCheck
open Go
def Oh {a b:Bool} (h:a=true) (k:b=true):(a&&b)=true:=by subst h;subst k;rfl
def q0:Rows.requestCheckRow.wf (OpenSpec.ofChange Rows.requestCheckSpec)=true:=by kernel_rfl
def q1:laidOutB Tryz.pinned.checked.prog=true:=by kernel_rfl
def q2:mapsRowed Tryz.pinned.checked.prog=true:=by kernel_rfl
def q3:Tryz.f3.params.all (Tryz.pinned.checked.prog.readableRec ·)=true:=by kernel_rfl
def q4:namedTie Tryz.pinned.checked.prog Rows.requestCheckRow.named Rows.requestCheckSpec.vars=true:=by kernel_rfl
def q5:(Rows.requestCheckRow.stops==[])=true:=by kernel_rfl
def q6:(Tryz.pinned.checked.prog.stops==[])=true:=by kernel_rfl
def q7:(Rows.requestCheckRow.knobs==[])=true:=by kernel_rfl
def q8:(Tryz.pinned.checked.prog.stopKnobs==[])=true:=by kernel_rfl
def q9:(Rows.requestCheckRow.inPlace==Tryz.pinned.checked.prog.inPlace (3:FuncId))=true:=by kernel_rfl
def q10:(Rows.requestCheckRow.unfollowed==Tryz.pinned.checked.prog.unfollowed (3:FuncId))=true:=by kernel_rfl
end Go.Proofs.YtacidcemomccpaaGreatDoor.requestCheck
