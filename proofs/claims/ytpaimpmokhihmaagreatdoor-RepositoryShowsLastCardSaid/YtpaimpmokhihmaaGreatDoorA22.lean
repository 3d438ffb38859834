import Derived.Test.YtpaimpmokhihmaaGreatDoorRows
import Derived.Test.YtpaimpmokhihmaaGreatDoorTie
import Derived.JoinedOf
import Derived.ProofKit
set_option linter.all false
namespace Go.Proofs.YtpaimpmokhihmaaGreatDoor.repositoryShowsLast
open Go
def LP {a b:Bool} (h:a=true) (k:b=true):(a&&b)=true:=by subst h;subst k;rfl
def q0:Rows.repositoryShowsLastRow.wf (OpenSpec.ofChange Rows.repositoryShowsLastSpec)=true:=by kernel_rfl
def q1:laidOutB Tryz.pinned.checked.prog=true:=by kernel_rfl
def q2:mapsRowed Tryz.pinned.checked.prog=true:=by kernel_rfl
def q3:Tryz.f4.params.all (Tryz.pinned.checked.prog.readableRec ·)=true:=by kernel_rfl
def q4:namedTie Tryz.pinned.checked.prog Rows.repositoryShowsLastRow.named Rows.repositoryShowsLastSpec.vars=true:=by kernel_rfl
def q5:(Rows.repositoryShowsLastRow.stops==[])=true:=by kernel_rfl
def q6:(Tryz.pinned.checked.prog.stops==[])=true:=by kernel_rfl
def q7:(Rows.repositoryShowsLastRow.knobs==[])=true:=by kernel_rfl
def q8:(Tryz.pinned.checked.prog.stopKnobs==[])=true:=by kernel_rfl
def q9:(Rows.repositoryShowsLastRow.inPlace==Tryz.pinned.checked.prog.inPlace (4:FuncId))=true:=by kernel_rfl
def q10:(Rows.repositoryShowsLastRow.unfollowed==Tryz.pinned.checked.prog.unfollowed (4:FuncId))=true:=by kernel_rfl
end Go.Proofs.YtpaimpmokhihmaaGreatDoor.repositoryShowsLast
