import Derived.Test.YtfgdgdnlglejbaaGreatDoorA23
set_option linter.all false
namespace Go.Proofs.YtfgdgdnlglejbaaGreatDoor.certSame
open Go
def q11:(Rows.certSameRow.recurses==Tryz.pinned.checked.prog.recurses (6:FuncId))=true:=by kernel_rfl
def q12:(Rows.certSameRow.named==Tryz.pinned.checked.prog.varsNamed (6:FuncId))=true:=by kernel_rfl
def q13:(Rows.certSameRow.maps==(Tryz.f6.params.toList++Rows.certSameSpec.plain.varTypes Tryz.pinned.checked.prog).any (Tryz.pinned.checked.prog.mapsRec ·))=true:=by kernel_rfl
def q14:(Rows.certSameRow.ifaces==(Tryz.f6.params.toList++Rows.certSameSpec.plain.varTypes Tryz.pinned.checked.prog).any (Tryz.pinned.checked.prog.ifacesRec ·))=true:=by kernel_rfl
def q15:(Rows.certSameRow.mapsOut==Tryz.pinned.checked.prog.mapsAmong Tryz.f6.resultTypes.toList)=true:=by kernel_rfl
def q16:(Rows.certSameRow.loops==(Tryz.f6.params.toList++Rows.certSameSpec.plain.varTypes Tryz.pinned.checked.prog).any (Tryz.pinned.checked.prog.loopsFrom ·))=true:=by kernel_rfl
def q17:(Rows.certSameRow.wideKeys==(Tryz.f6.params.toList++Rows.certSameSpec.plain.varTypes Tryz.pinned.checked.prog++Tryz.f6.resultTypes.toList).any (Tryz.pinned.checked.prog.wideKeysFrom ·))=true:=by kernel_rfl
def q18:Rows.certSameSpec.vars.all (Tryz.pinned.checked.prog.varReadable ·)=true:=by kernel_rfl
def q19:Tryz.f6.resultTypes.all (fun t=>Tryz.pinned.checked.prog.readableRec t&&decide (t<Tryz.pinned.checked.prog.types.size))=true:=by kernel_rfl
def q20:(Rows.certSameRow.ifacesOut==Tryz.f6.resultTypes.toList.any (Tryz.pinned.checked.prog.ifacesRec ·))=true:=by kernel_rfl
def q21:(Rows.certSameRow.loopsOut==Tryz.f6.resultTypes.toList.any (Tryz.pinned.checked.prog.loopsFrom ·))=true:=by kernel_rfl
def q22:(Rows.certSameRow.plainKeys==Tryz.pinned.checked.prog.plainKeys)=true:=by kernel_rfl
def q23:Rows.certSameRow.shortTexts.isNone=true:=by kernel_rfl
def q24:Tryz.pinned.checked.prog.stopsHeard=true:=by kernel_rfl
def q25:Tryz.pinned.checked.prog.mayEnter=true:=by kernel_rfl
def q26:(Rows.certSameRow.lifted==Tryz.pinned.checked.prog.liftsFinal)=true:=by kernel_rfl
def q27:(Tryz.pinned.checked.prog.make==some Rows.certSameRow.make)=true:=by kernel_rfl
def q28:(Rows.certSameRow.kinds==(if Rows.certSameRow.domain.isEmpty then []else Tryz.f6.params.toList.map fun t=>match Tryz.pinned.checked.prog.underlying t with | some (.int k)=>some k | _=>none))=true:=by kernel_rfl
def q29:(Rows.certSameRow.pinned==Rows.certSameRow.pinnedBy)=true:=by kernel_rfl
def q30:(Rows.certSameRow.veiled==(Tryz.f6.params.toList++Rows.certSameSpec.plain.varTypes Tryz.pinned.checked.prog++Tryz.f6.resultTypes.toList).any (Tryz.pinned.checked.prog.veiledRec ·))=true:=by kernel_rfl
def q31:Rows.certSameRow.veiledFits Tryz.pinned.checked.prog Tryz.f6.params.toList (Tryz.f6.params.toList++Rows.certSameSpec.plain.varTypes Tryz.pinned.checked.prog++Tryz.f6.resultTypes.toList)=true:=by kernel_rfl
set_option maxRecDepth 100000 in
def closed:joinedFacts Tryz.pinned.checked.prog 6 Tryz.f6 Rows.certSameSpec Rows.certSameRow=true:=(Oz (Oz (Oz (Oz (Oz (Oz (Oz (Oz (Oz (Oz (Oz (Oz (Oz (Oz (Oz (Oz (Oz (Oz (Oz (Oz (Oz (Oz (Oz (Oz (Oz (Oz (Oz (Oz (Oz (Oz (Oz q0 q1) q2) q3) q4) q5) q6) q7) q8) q9) q10) q11) q12) q13) q14) q15) q16) q17) q18) q19) q20) q21) q22) q23) q24) q25) q26) q27) q28) q29) q30) q31)
end Go.Proofs.YtfgdgdnlglejbaaGreatDoor.certSame
