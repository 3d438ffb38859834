/-
  CertextCheck: the law returns true whatever the input; machine, functions, plain law (part 45 of 47.)
-/
import Derived.Test.YtadefjgbcapakaaGreatDoorA44
import Derived.Test.YtadefjgbcapakaaGreatDoorRows
import Derived.Test.YtadefjgbcapakaaGreatDoorTie
import Derived.JoinedOf
import Derived.ProofKit
set_option linter.unusedVariables false
set_option linter.unusedSimpArgs false
namespace Go.Proofs.YtadefjgbcapakaaGreatDoor.certextCheck
open Go
theorem q11:(Rows.certextCheckRow.recurses==Tryz.pinned.checked.prog.recurses (3:FuncId))=true:=by kernel_rfl
theorem q12:(Rows.certextCheckRow.named==Tryz.pinned.checked.prog.varsNamed (3:FuncId))=true:=by kernel_rfl
theorem q13:(Rows.certextCheckRow.maps==(Tryz.f3.params.toList++Rows.certextCheckSpec.plain.varTypes Tryz.pinned.checked.prog).any (Tryz.pinned.checked.prog.mapsRec ·))=true:=by kernel_rfl
theorem q14:(Rows.certextCheckRow.ifaces==(Tryz.f3.params.toList++Rows.certextCheckSpec.plain.varTypes Tryz.pinned.checked.prog).any (Tryz.pinned.checked.prog.ifacesRec ·))=true:=by kernel_rfl
theorem q15:(Rows.certextCheckRow.mapsOut==Tryz.pinned.checked.prog.mapsAmong Tryz.f3.resultTypes.toList)=true:=by kernel_rfl
theorem q16:(Rows.certextCheckRow.loops==(Tryz.f3.params.toList++Rows.certextCheckSpec.plain.varTypes Tryz.pinned.checked.prog).any (Tryz.pinned.checked.prog.loopsFrom ·))=true:=by kernel_rfl
theorem q17:(Rows.certextCheckRow.wideKeys==(Tryz.f3.params.toList++Rows.certextCheckSpec.plain.varTypes Tryz.pinned.checked.prog++Tryz.f3.resultTypes.toList).any (Tryz.pinned.checked.prog.wideKeysFrom ·))=true:=by kernel_rfl
theorem q18:Rows.certextCheckSpec.vars.all (Tryz.pinned.checked.prog.varReadable ·)=true:=by kernel_rfl
theorem q19:Tryz.f3.resultTypes.all (fun t=>Tryz.pinned.checked.prog.readableRec t&&decide (t<Tryz.pinned.checked.prog.types.size))=true:=by kernel_rfl
theorem q20:(Rows.certextCheckRow.ifacesOut==Tryz.f3.resultTypes.toList.any (Tryz.pinned.checked.prog.ifacesRec ·))=true:=by kernel_rfl
theorem q21:(Rows.certextCheckRow.loopsOut==Tryz.f3.resultTypes.toList.any (Tryz.pinned.checked.prog.loopsFrom ·))=true:=by kernel_rfl
theorem q22:(Rows.certextCheckRow.plainKeys==Tryz.pinned.checked.prog.plainKeys)=true:=by kernel_rfl
theorem q23:Rows.certextCheckRow.shortTexts.isNone=true:=by kernel_rfl
theorem q24:Tryz.pinned.checked.prog.stopsHeard=true:=by kernel_rfl
theorem q25:Tryz.pinned.checked.prog.mayEnter=true:=by kernel_rfl
theorem q26:(Rows.certextCheckRow.lifted==Tryz.pinned.checked.prog.liftsFinal)=true:=by kernel_rfl
theorem q27:(Tryz.pinned.checked.prog.make==some Rows.certextCheckRow.make)=true:=by kernel_rfl
theorem q28:(Rows.certextCheckRow.kinds==(if Rows.certextCheckRow.domain.isEmpty then []else Tryz.f3.params.toList.map fun t=>match Tryz.pinned.checked.prog.underlying t with | some (.int k)=>some k | _=>none))=true:=by kernel_rfl
theorem q29:(Rows.certextCheckRow.pinned==Rows.certextCheckRow.pinnedBy)=true:=by kernel_rfl
theorem q30:(Rows.certextCheckRow.veiled==(Tryz.f3.params.toList++Rows.certextCheckSpec.plain.varTypes Tryz.pinned.checked.prog++Tryz.f3.resultTypes.toList).any (Tryz.pinned.checked.prog.veiledRec ·))=true:=by kernel_rfl
theorem q31:Rows.certextCheckRow.veiledFits Tryz.pinned.checked.prog Tryz.f3.params.toList (Tryz.f3.params.toList++Rows.certextCheckSpec.plain.varTypes Tryz.pinned.checked.prog++Tryz.f3.resultTypes.toList)=true:=by kernel_rfl
set_option maxRecDepth 100000 in
theorem closed:joinedFacts Tryz.pinned.checked.prog 3 Tryz.f3 Rows.certextCheckSpec Rows.certextCheckRow=true:=(Ef (Ef (Ef (Ef (Ef (Ef (Ef (Ef (Ef (Ef (Ef (Ef (Ef (Ef (Ef (Ef (Ef (Ef (Ef (Ef (Ef (Ef (Ef (Ef (Ef (Ef (Ef (Ef (Ef (Ef (Ef q0 q1) q2) q3) q4) q5) q6) q7) q8) q9) q10) q11) q12) q13) q14) q15) q16) q17) q18) q19) q20) q21) q22) q23) q24) q25) q26) q27) q28) q29) q30) q31)
