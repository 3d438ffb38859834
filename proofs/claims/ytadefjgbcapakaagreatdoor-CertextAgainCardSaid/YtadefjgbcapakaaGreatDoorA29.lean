import Derived.Test.YtadefjgbcapakaaGreatDoorA28
set_option linter.all false
namespace Go.Proofs.YtadefjgbcapakaaGreatDoor.certextAgain
open Go
theorem q11:(Rows.certextAgainRow.recurses==Tryz.pinned.checked.prog.recurses (8:FuncId))=true:=by kernel_rfl
theorem q12:(Rows.certextAgainRow.named==Tryz.pinned.checked.prog.varsNamed (8:FuncId))=true:=by kernel_rfl
theorem q13:(Rows.certextAgainRow.maps==(Tryz.f8.params.toList++Rows.certextAgainSpec.plain.varTypes Tryz.pinned.checked.prog).any (Tryz.pinned.checked.prog.mapsRec ·))=true:=by kernel_rfl
theorem q14:(Rows.certextAgainRow.ifaces==(Tryz.f8.params.toList++Rows.certextAgainSpec.plain.varTypes Tryz.pinned.checked.prog).any (Tryz.pinned.checked.prog.ifacesRec ·))=true:=by kernel_rfl
theorem q15:(Rows.certextAgainRow.mapsOut==Tryz.pinned.checked.prog.mapsAmong Tryz.f8.resultTypes.toList)=true:=by kernel_rfl
theorem q16:(Rows.certextAgainRow.loops==(Tryz.f8.params.toList++Rows.certextAgainSpec.plain.varTypes Tryz.pinned.checked.prog).any (Tryz.pinned.checked.prog.loopsFrom ·))=true:=by kernel_rfl
theorem q17:(Rows.certextAgainRow.wideKeys==(Tryz.f8.params.toList++Rows.certextAgainSpec.plain.varTypes Tryz.pinned.checked.prog++Tryz.f8.resultTypes.toList).any (Tryz.pinned.checked.prog.wideKeysFrom ·))=true:=by kernel_rfl
theorem q18:Rows.certextAgainSpec.vars.all (Tryz.pinned.checked.prog.varReadable ·)=true:=by kernel_rfl
theorem q19:Tryz.f8.resultTypes.all (fun t=>Tryz.pinned.checked.prog.readableRec t&&decide (t<Tryz.pinned.checked.prog.types.size))=true:=by kernel_rfl
theorem q20:(Rows.certextAgainRow.ifacesOut==Tryz.f8.resultTypes.toList.any (Tryz.pinned.checked.prog.ifacesRec ·))=true:=by kernel_rfl
theorem q21:(Rows.certextAgainRow.loopsOut==Tryz.f8.resultTypes.toList.any (Tryz.pinned.checked.prog.loopsFrom ·))=true:=by kernel_rfl
theorem q22:(Rows.certextAgainRow.plainKeys==Tryz.pinned.checked.prog.plainKeys)=true:=by kernel_rfl
theorem q23:Rows.certextAgainRow.shortTexts.isNone=true:=by kernel_rfl
theorem q24:Tryz.pinned.checked.prog.stopsHeard=true:=by kernel_rfl
theorem q25:Tryz.pinned.checked.prog.mayEnter=true:=by kernel_rfl
theorem q26:(Rows.certextAgainRow.lifted==Tryz.pinned.checked.prog.liftsFinal)=true:=by kernel_rfl
theorem q27:(Tryz.pinned.checked.prog.make==some Rows.certextAgainRow.make)=true:=by kernel_rfl
theorem q28:(Rows.certextAgainRow.kinds==(if Rows.certextAgainRow.domain.isEmpty then []else Tryz.f8.params.toList.map fun t=>match Tryz.pinned.checked.prog.underlying t with | some (.int k)=>some k | _=>none))=true:=by kernel_rfl
theorem q29:(Rows.certextAgainRow.pinned==Rows.certextAgainRow.pinnedBy)=true:=by kernel_rfl
theorem q30:(Rows.certextAgainRow.veiled==(Tryz.f8.params.toList++Rows.certextAgainSpec.plain.varTypes Tryz.pinned.checked.prog++Tryz.f8.resultTypes.toList).any (Tryz.pinned.checked.prog.veiledRec ·))=true:=by kernel_rfl
theorem q31:Rows.certextAgainRow.veiledFits Tryz.pinned.checked.prog Tryz.f8.params.toList (Tryz.f8.params.toList++Rows.certextAgainSpec.plain.varTypes Tryz.pinned.checked.prog++Tryz.f8.resultTypes.toList)=true:=by kernel_rfl
set_option maxRecDepth 100000 in
theorem closed:joinedFacts Tryz.pinned.checked.prog 8 Tryz.f8 Rows.certextAgainSpec Rows.certextAgainRow=true:=(ED (ED (ED (ED (ED (ED (ED (ED (ED (ED (ED (ED (ED (ED (ED (ED (ED (ED (ED (ED (ED (ED (ED (ED (ED (ED (ED (ED (ED (ED (ED q0 q1) q2) q3) q4) q5) q6) q7) q8) q9) q10) q11) q12) q13) q14) q15) q16) q17) q18) q19) q20) q21) q22) q23) q24) q25) q26) q27) q28) q29) q30) q31)
