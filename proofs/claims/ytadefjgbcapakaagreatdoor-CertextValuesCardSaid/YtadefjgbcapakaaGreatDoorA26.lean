import Derived.Test.YtadefjgbcapakaaGreatDoorRows
import Derived.Test.YtadefjgbcapakaaGreatDoorTie
import Derived.JoinedOf
import Derived.ProofKit
set_option linter.all false
namespace Go.Proofs.YtadefjgbcapakaaGreatDoor.certextValues
open Go
theorem D7 {a b:Bool} (h:a=true) (k:b=true):(a&&b)=true:=by subst h;subst k;rfl
theorem q0:Rows.certextValuesRow.wf (OpenSpec.ofChange Rows.certextValuesSpec)=true:=by kernel_rfl
theorem q1:laidOutB Tryz.pinned.checked.prog=true:=by kernel_rfl
theorem q2:mapsRowed Tryz.pinned.checked.prog=true:=by kernel_rfl
theorem q3:Tryz.f6.params.all (Tryz.pinned.checked.prog.readableRec ·)=true:=by kernel_rfl
theorem q4:namedTie Tryz.pinned.checked.prog Rows.certextValuesRow.named Rows.certextValuesSpec.vars=true:=by kernel_rfl
theorem q5:(Rows.certextValuesRow.stops==[])=true:=by kernel_rfl
theorem q6:(Tryz.pinned.checked.prog.stops==[])=true:=by kernel_rfl
theorem q7:(Rows.certextValuesRow.knobs==[])=true:=by kernel_rfl
theorem q8:(Tryz.pinned.checked.prog.stopKnobs==[])=true:=by kernel_rfl
theorem q9:(Rows.certextValuesRow.inPlace==Tryz.pinned.checked.prog.inPlace (6:FuncId))=true:=by kernel_rfl
theorem q10:(Rows.certextValuesRow.unfollowed==Tryz.pinned.checked.prog.unfollowed (6:FuncId))=true:=by kernel_rfl
