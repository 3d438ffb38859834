import Derived.Test.YtadefjgbcapakaaGreatDoorA26
set_option linter.all false
namespace Go.Proofs.YtadefjgbcapakaaGreatDoor.certextValues
open Go
theorem q11:(Rows.certextValuesRow.recurses==Tryz.pinned.checked.prog.recurses (6:FuncId))=true:=by kernel_rfl
theorem q12:(Rows.certextValuesRow.named==Tryz.pinned.checked.prog.varsNamed (6:FuncId))=true:=by kernel_rfl
theorem q13:(Rows.certextValuesRow.maps==(Tryz.f6.params.toList++Rows.certextValuesSpec.plain.varTypes Tryz.pinned.checked.prog).any (Tryz.pinned.checked.prog.mapsRec ·))=true:=by kernel_rfl
theorem q14:(Rows.certextValuesRow.ifaces==(Tryz.f6.params.toList++Rows.certextValuesSpec.plain.varTypes Tryz.pinned.checked.prog).any (Tryz.pinned.checked.prog.ifacesRec ·))=true:=by kernel_rfl
theorem q15:(Rows.certextValuesRow.mapsOut==Tryz.pinned.checked.prog.mapsAmong Tryz.f6.resultTypes.toList)=true:=by kernel_rfl
theorem q16:(Rows.certextValuesRow.loops==(Tryz.f6.params.toList++Rows.certextValuesSpec.plain.varTypes Tryz.pinned.checked.prog).any (Tryz.pinned.checked.prog.loopsFrom ·))=true:=by kernel_rfl
theorem q17:(Rows.certextValuesRow.wideKeys==(Tryz.f6.params.toList++Rows.certextValuesSpec.plain.varTypes Tryz.pinned.checked.prog++Tryz.f6.resultTypes.toList).any (Tryz.pinned.checked.prog.wideKeysFrom ·))=true:=by kernel_rfl
theorem q18:Rows.certextValuesSpec.vars.all (Tryz.pinned.checked.prog.varReadable ·)=true:=by kernel_rfl
theorem q19:Tryz.f6.resultTypes.all (fun t=>Tryz.pinned.checked.prog.readableRec t&&decide (t<Tryz.pinned.checked.prog.types.size))=true:=by kernel_rfl
theorem q20:(Rows.certextValuesRow.ifacesOut==Tryz.f6.resultTypes.toList.any (Tryz.pinned.checked.prog.ifacesRec ·))=true:=by kernel_rfl
theorem q21:(Rows.certextValuesRow.loopsOut==Tryz.f6.resultTypes.toList.any (Tryz.pinned.checked.prog.loopsFrom ·))=true:=by kernel_rfl
theorem q22:(Rows.certextValuesRow.plainKeys==Tryz.pinned.checked.prog.plainKeys)=true:=by kernel_rfl
theorem q23:Rows.certextValuesRow.shortTexts.isNone=true:=by kernel_rfl
theorem q24:Tryz.pinned.checked.prog.stopsHeard=true:=by kernel_rfl
theorem q25:Tryz.pinned.checked.prog.mayEnter=true:=by kernel_rfl
theorem q26:(Rows.certextValuesRow.lifted==Tryz.pinned.checked.prog.liftsFinal)=true:=by kernel_rfl
theorem q27:(Tryz.pinned.checked.prog.make==some Rows.certextValuesRow.make)=true:=by kernel_rfl
theorem q28:(Rows.certextValuesRow.kinds==(if Rows.certextValuesRow.domain.isEmpty then []else Tryz.f6.params.toList.map fun t=>match Tryz.pinned.checked.prog.underlying t with | some (.int k)=>some k | _=>none))=true:=by kernel_rfl
theorem q29:(Rows.certextValuesRow.pinned==Rows.certextValuesRow.pinnedBy)=true:=by kernel_rfl
theorem q30:(Rows.certextValuesRow.veiled==(Tryz.f6.params.toList++Rows.certextValuesSpec.plain.varTypes Tryz.pinned.checked.prog++Tryz.f6.resultTypes.toList).any (Tryz.pinned.checked.prog.veiledRec ·))=true:=by kernel_rfl
theorem q31:Rows.certextValuesRow.veiledFits Tryz.pinned.checked.prog Tryz.f6.params.toList (Tryz.f6.params.toList++Rows.certextValuesSpec.plain.varTypes Tryz.pinned.checked.prog++Tryz.f6.resultTypes.toList)=true:=by kernel_rfl
set_option maxRecDepth 100000 in
theorem closed:joinedFacts Tryz.pinned.checked.prog 6 Tryz.f6 Rows.certextValuesSpec Rows.certextValuesRow=true:=(D7 (D7 (D7 (D7 (D7 (D7 (D7 (D7 (D7 (D7 (D7 (D7 (D7 (D7 (D7 (D7 (D7 (D7 (D7 (D7 (D7 (D7 (D7 (D7 (D7 (D7 (D7 (D7 (D7 (D7 (D7 q0 q1) q2) q3) q4) q5) q6) q7) q8) q9) q10) q11) q12) q13) q14) q15) q16) q17) q18) q19) q20) q21) q22) q23) q24) q25) q26) q27) q28) q29) q30) q31)
