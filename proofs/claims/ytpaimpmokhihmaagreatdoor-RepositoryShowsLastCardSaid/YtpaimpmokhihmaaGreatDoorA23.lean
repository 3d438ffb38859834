import Derived.Test.YtpaimpmokhihmaaGreatDoorA22
set_option linter.all false
namespace Go.Proofs.YtpaimpmokhihmaaGreatDoor.repositoryShowsLast
open Go
def q11:(Rows.repositoryShowsLastRow.recurses==Tryz.pinned.checked.prog.recurses (4:FuncId))=true:=by kernel_rfl
def q12:(Rows.repositoryShowsLastRow.named==Tryz.pinned.checked.prog.varsNamed (4:FuncId))=true:=by kernel_rfl
def q13:(Rows.repositoryShowsLastRow.maps==(Tryz.f4.params.toList++Rows.repositoryShowsLastSpec.plain.varTypes Tryz.pinned.checked.prog).any (Tryz.pinned.checked.prog.mapsRec ·))=true:=by kernel_rfl
def q14:(Rows.repositoryShowsLastRow.ifaces==(Tryz.f4.params.toList++Rows.repositoryShowsLastSpec.plain.varTypes Tryz.pinned.checked.prog).any (Tryz.pinned.checked.prog.ifacesRec ·))=true:=by kernel_rfl
def q15:(Rows.repositoryShowsLastRow.mapsOut==Tryz.pinned.checked.prog.mapsAmong Tryz.f4.resultTypes.toList)=true:=by kernel_rfl
def q16:(Rows.repositoryShowsLastRow.loops==(Tryz.f4.params.toList++Rows.repositoryShowsLastSpec.plain.varTypes Tryz.pinned.checked.prog).any (Tryz.pinned.checked.prog.loopsFrom ·))=true:=by kernel_rfl
def q17:(Rows.repositoryShowsLastRow.wideKeys==(Tryz.f4.params.toList++Rows.repositoryShowsLastSpec.plain.varTypes Tryz.pinned.checked.prog++Tryz.f4.resultTypes.toList).any (Tryz.pinned.checked.prog.wideKeysFrom ·))=true:=by kernel_rfl
def q18:Rows.repositoryShowsLastSpec.vars.all (Tryz.pinned.checked.prog.varReadable ·)=true:=by kernel_rfl
def q19:Tryz.f4.resultTypes.all (fun t=>Tryz.pinned.checked.prog.readableRec t&&decide (t<Tryz.pinned.checked.prog.types.size))=true:=by kernel_rfl
def q20:(Rows.repositoryShowsLastRow.ifacesOut==Tryz.f4.resultTypes.toList.any (Tryz.pinned.checked.prog.ifacesRec ·))=true:=by kernel_rfl
def q21:(Rows.repositoryShowsLastRow.loopsOut==Tryz.f4.resultTypes.toList.any (Tryz.pinned.checked.prog.loopsFrom ·))=true:=by kernel_rfl
def q22:(Rows.repositoryShowsLastRow.plainKeys==Tryz.pinned.checked.prog.plainKeys)=true:=by kernel_rfl
def q23:Rows.repositoryShowsLastRow.shortTexts.isNone=true:=by kernel_rfl
def q24:Tryz.pinned.checked.prog.stopsHeard=true:=by kernel_rfl
def q25:Tryz.pinned.checked.prog.mayEnter=true:=by kernel_rfl
def q26:(Rows.repositoryShowsLastRow.lifted==Tryz.pinned.checked.prog.liftsFinal)=true:=by kernel_rfl
def q27:(Tryz.pinned.checked.prog.make==some Rows.repositoryShowsLastRow.make)=true:=by kernel_rfl
def q28:(Rows.repositoryShowsLastRow.kinds==(if Rows.repositoryShowsLastRow.domain.isEmpty then []else Tryz.f4.params.toList.map fun t=>match Tryz.pinned.checked.prog.underlying t with | some (.int k)=>some k | _=>none))=true:=by kernel_rfl
def q29:(Rows.repositoryShowsLastRow.pinned==Rows.repositoryShowsLastRow.pinnedBy)=true:=by kernel_rfl
def q30:(Rows.repositoryShowsLastRow.veiled==(Tryz.f4.params.toList++Rows.repositoryShowsLastSpec.plain.varTypes Tryz.pinned.checked.prog++Tryz.f4.resultTypes.toList).any (Tryz.pinned.checked.prog.veiledRec ·))=true:=by kernel_rfl
def q31:Rows.repositoryShowsLastRow.veiledFits Tryz.pinned.checked.prog Tryz.f4.params.toList (Tryz.f4.params.toList++Rows.repositoryShowsLastSpec.plain.varTypes Tryz.pinned.checked.prog++Tryz.f4.resultTypes.toList)=true:=by kernel_rfl
set_option maxRecDepth 100000 in
def closed:joinedFacts Tryz.pinned.checked.prog 4 Tryz.f4 Rows.repositoryShowsLastSpec Rows.repositoryShowsLastRow=true:=(LP (LP (LP (LP (LP (LP (LP (LP (LP (LP (LP (LP (LP (LP (LP (LP (LP (LP (LP (LP (LP (LP (LP (LP (LP (LP (LP (LP (LP (LP (LP q0 q1) q2) q3) q4) q5) q6) q7) q8) q9) q10) q11) q12) q13) q14) q15) q16) q17) q18) q19) q20) q21) q22) q23) q24) q25) q26) q27) q28) q29) q30) q31)
end Go.Proofs.YtpaimpmokhihmaaGreatDoor.repositoryShowsLast
