import Derived.Test.YtbgjmioccbacdaaGreatDoorA24
set_option linter.all false
namespace Go.Proofs.YtbgjmioccbacdaaGreatDoor.requestBack
open Go
def q11:(Rows.requestBackRow.recurses==Tryz.pinned.checked.prog.recurses (3:FuncId))=true:=by kernel_rfl
def q12:(Rows.requestBackRow.named==Tryz.pinned.checked.prog.varsNamed (3:FuncId))=true:=by kernel_rfl
def q13:(Rows.requestBackRow.maps==(Tryz.f3.params.toList++Rows.requestBackSpec.plain.varTypes Tryz.pinned.checked.prog).any (Tryz.pinned.checked.prog.mapsRec ·))=true:=by kernel_rfl
def q14:(Rows.requestBackRow.ifaces==(Tryz.f3.params.toList++Rows.requestBackSpec.plain.varTypes Tryz.pinned.checked.prog).any (Tryz.pinned.checked.prog.ifacesRec ·))=true:=by kernel_rfl
def q15:(Rows.requestBackRow.mapsOut==Tryz.pinned.checked.prog.mapsAmong Tryz.f3.resultTypes.toList)=true:=by kernel_rfl
def q16:(Rows.requestBackRow.loops==(Tryz.f3.params.toList++Rows.requestBackSpec.plain.varTypes Tryz.pinned.checked.prog).any (Tryz.pinned.checked.prog.loopsFrom ·))=true:=by kernel_rfl
def q17:(Rows.requestBackRow.wideKeys==(Tryz.f3.params.toList++Rows.requestBackSpec.plain.varTypes Tryz.pinned.checked.prog++Tryz.f3.resultTypes.toList).any (Tryz.pinned.checked.prog.wideKeysFrom ·))=true:=by kernel_rfl
def q18:Rows.requestBackSpec.vars.all (Tryz.pinned.checked.prog.varReadable ·)=true:=by kernel_rfl
def q19:Tryz.f3.resultTypes.all (fun t=>Tryz.pinned.checked.prog.readableRec t&&decide (t<Tryz.pinned.checked.prog.types.size))=true:=by kernel_rfl
def q20:(Rows.requestBackRow.ifacesOut==Tryz.f3.resultTypes.toList.any (Tryz.pinned.checked.prog.ifacesRec ·))=true:=by kernel_rfl
def q21:(Rows.requestBackRow.loopsOut==Tryz.f3.resultTypes.toList.any (Tryz.pinned.checked.prog.loopsFrom ·))=true:=by kernel_rfl
def q22:(Rows.requestBackRow.plainKeys==Tryz.pinned.checked.prog.plainKeys)=true:=by kernel_rfl
def q23:Rows.requestBackRow.shortTexts.isNone=true:=by kernel_rfl
def q24:Tryz.pinned.checked.prog.stopsHeard=true:=by kernel_rfl
def q25:Tryz.pinned.checked.prog.mayEnter=true:=by kernel_rfl
def q26:(Rows.requestBackRow.lifted==Tryz.pinned.checked.prog.liftsFinal)=true:=by kernel_rfl
def q27:(Tryz.pinned.checked.prog.make==some Rows.requestBackRow.make)=true:=by kernel_rfl
def q28:(Rows.requestBackRow.kinds==(if Rows.requestBackRow.domain.isEmpty then []else Tryz.f3.params.toList.map fun t=>match Tryz.pinned.checked.prog.underlying t with | some (.int k)=>some k | _=>none))=true:=by kernel_rfl
def q29:(Rows.requestBackRow.pinned==Rows.requestBackRow.pinnedBy)=true:=by kernel_rfl
def q30:(Rows.requestBackRow.veiled==(Tryz.f3.params.toList++Rows.requestBackSpec.plain.varTypes Tryz.pinned.checked.prog++Tryz.f3.resultTypes.toList).any (Tryz.pinned.checked.prog.veiledRec ·))=true:=by kernel_rfl
def q31:Rows.requestBackRow.veiledFits Tryz.pinned.checked.prog Tryz.f3.params.toList (Tryz.f3.params.toList++Rows.requestBackSpec.plain.varTypes Tryz.pinned.checked.prog++Tryz.f3.resultTypes.toList)=true:=by kernel_rfl
set_option maxRecDepth 100000 in
def closed:joinedFacts Tryz.pinned.checked.prog 3 Tryz.f3 Rows.requestBackSpec Rows.requestBackRow=true:=(Oo (Oo (Oo (Oo (Oo (Oo (Oo (Oo (Oo (Oo (Oo (Oo (Oo (Oo (Oo (Oo (Oo (Oo (Oo (Oo (Oo (Oo (Oo (Oo (Oo (Oo (Oo (Oo (Oo (Oo (Oo q0 q1) q2) q3) q4) q5) q6) q7) q8) q9) q10) q11) q12) q13) q14) q15) q16) q17) q18) q19) q20) q21) q22) q23) q24) q25) q26) q27) q28) q29) q30) q31)
end Go.Proofs.YtbgjmioccbacdaaGreatDoor.requestBack
