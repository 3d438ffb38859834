/-
  CertextCheck: the law returns true whatever the input; machine, functions, plain law (part 44 of 47.)
-/
import Derived.Test.YtadefjgbcapakaaGreatDoorRows
import Derived.Test.YtadefjgbcapakaaGreatDoorTie
import Derived.JoinedOf
import Derived.ProofKit
set_option linter.unusedVariables false
set_option linter.unusedSimpArgs false
namespace Go.Proofs.YtadefjgbcapakaaGreatDoor.certextCheck
open Go
theorem Ef {a b:Bool} (h:a=true) (k:b=true):(a&&b)=true:=by subst h;subst k;rfl
theorem q0:Rows.certextCheckRow.wf (OpenSpec.ofChange Rows.certextCheckSpec)=true:=by kernel_rfl
theorem q1:laidOutB Tryz.pinned.checked.prog=true:=by kernel_rfl
theorem q2:mapsRowed Tryz.pinned.checked.prog=true:=by kernel_rfl
theorem q3:Tryz.f3.params.all (Tryz.pinned.checked.prog.readableRec ·)=true:=by kernel_rfl
theorem q4:namedTie Tryz.pinned.checked.prog Rows.certextCheckRow.named Rows.certextCheckSpec.vars=true:=by kernel_rfl
theorem q5:(Rows.certextCheckRow.stops==[])=true:=by kernel_rfl
theorem q6:(Tryz.pinned.checked.prog.stops==[])=true:=by kernel_rfl
theorem q7:(Rows.certextCheckRow.knobs==[])=true:=by kernel_rfl
theorem q8:(Tryz.pinned.checked.prog.stopKnobs==[])=true:=by kernel_rfl
theorem q9:(Rows.certextCheckRow.inPlace==Tryz.pinned.checked.prog.inPlace (3:FuncId))=true:=by kernel_rfl
theorem q10:(Rows.certextCheckRow.unfollowed==Tryz.pinned.checked.prog.unfollowed (3:FuncId))=true:=by kernel_rfl
