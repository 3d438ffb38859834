import Derived.Test.YtacidcemomccpaaGreatDoorA25
set_option linter.all false
namespace Go.Proofs.YtacidcemomccpaaGreatDoor.requestCheck
open Go
def q11:(Rows.requestCheckRow.recurses==Tryz.pinned.checked.prog.recurses (3:FuncId))=true:=by kernel_rfl
def q12:(Rows.requestCheckRow.named==Tryz.pinned.checked.prog.varsNamed (3:FuncId))=true:=by kernel_rfl
def q13:(Rows.requestCheckRow.maps==(Tryz.f3.params.toList++Rows.requestCheckSpec.plain.varTypes Tryz.pinned.checked.prog).any (Tryz.pinned.checked.prog.mapsRec ·))=true:=by kernel_rfl
def q14:(Rows.requestCheckRow.ifaces==(Tryz.f3.params.toList++Rows.requestCheckSpec.plain.varTypes Tryz.pinned.checked.prog).any (Tryz.pinned.checked.prog.ifacesRec ·))=true:=by kernel_rfl
def q15:(Rows.requestCheckRow.mapsOut==Tryz.pinned.checked.prog.mapsAmong Tryz.f3.resultTypes.toList)=true:=by kernel_rfl
def q16:(Rows.requestCheckRow.loops==(Tryz.f3.params.toList++Rows.requestCheckSpec.plain.varTypes Tryz.pinned.checked.prog).any (Tryz.pinned.checked.prog.loopsFrom ·))=true:=by kernel_rfl
def q17:(Rows.requestCheckRow.wideKeys==(Tryz.f3.params.toList++Rows.requestCheckSpec.plain.varTypes Tryz.pinned.checked.prog++Tryz.f3.resultTypes.toList).any (Tryz.pinned.checked.prog.wideKeysFrom ·))=true:=by kernel_rfl
def q18:Rows.requestCheckSpec.vars.all (Tryz.pinned.checked.prog.varReadable ·)=true:=by kernel_rfl
def q19:Tryz.f3.resultTypes.all (λt=>Tryz.pinned.checked.prog.readableRec t&&decide (t<Tryz.pinned.checked.prog.types.size))=true:=by kernel_rfl
def q20:(Rows.requestCheckRow.ifacesOut==Tryz.f3.resultTypes.toList.any (Tryz.pinned.checked.prog.ifacesRec ·))=true:=by kernel_rfl
def q21:(Rows.requestCheckRow.loopsOut==Tryz.f3.resultTypes.toList.any (Tryz.pinned.checked.prog.loopsFrom ·))=true:=by kernel_rfl
def q22:(Rows.requestCheckRow.plainKeys==Tryz.pinned.checked.prog.plainKeys)=true:=by kernel_rfl
def q23:Rows.requestCheckRow.shortTexts.isNone=true:=by kernel_rfl
def q24:Tryz.pinned.checked.prog.stopsHeard=true:=by kernel_rfl
def q25:Tryz.pinned.checked.prog.mayEnter=true:=by kernel_rfl
def q26:(Rows.requestCheckRow.lifted==Tryz.pinned.checked.prog.liftsFinal)=true:=by kernel_rfl
def q27:(Tryz.pinned.checked.prog.make==some Rows.requestCheckRow.make)=true:=by kernel_rfl
def q28:(Rows.requestCheckRow.kinds==(if Rows.requestCheckRow.domain.isEmpty then []else Tryz.f3.params.toList.map λt=>match Tryz.pinned.checked.prog.underlying t with | some (.int k)=>some k | _=>none))=true:=by kernel_rfl
def q29:(Rows.requestCheckRow.pinned==Rows.requestCheckRow.pinnedBy)=true:=by kernel_rfl
def q30:(Rows.requestCheckRow.veiled==(Tryz.f3.params.toList++Rows.requestCheckSpec.plain.varTypes Tryz.pinned.checked.prog++Tryz.f3.resultTypes.toList).any (Tryz.pinned.checked.prog.veiledRec ·))=true:=by kernel_rfl
def q31:Rows.requestCheckRow.veiledFits Tryz.pinned.checked.prog Tryz.f3.params.toList (Tryz.f3.params.toList++Rows.requestCheckSpec.plain.varTypes Tryz.pinned.checked.prog++Tryz.f3.resultTypes.toList)=true:=by kernel_rfl
set_option maxRecDepth 100000 in
def closed:joinedFacts Tryz.pinned.checked.prog 3 Tryz.f3 Rows.requestCheckSpec Rows.requestCheckRow=true:=(Oh (Oh (Oh (Oh (Oh (Oh (Oh (Oh (Oh (Oh (Oh (Oh (Oh (Oh (Oh (Oh (Oh (Oh (Oh (Oh (Oh (Oh (Oh (Oh (Oh (Oh (Oh (Oh (Oh (Oh (Oh q0 q1) q2) q3) q4) q5) q6) q7) q8) q9) q10) q11) q12) q13) q14) q15) q16) q17) q18) q19) q20) q21) q22) q23) q24) q25) q26) q27) q28) q29) q30) q31)
end Go.Proofs.YtacidcemomccpaaGreatDoor.requestCheck
