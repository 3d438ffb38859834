import Derived.Test.YtbaomhegdndpnaaGreatDoorA23
set_option linter.all false
namespace Go.Proofs.YtbaomhegdndpnaaGreatDoor.crlEntries
open Go
theorem q11:(Rows.crlEntriesRow.recurses==Tryz.pinned.checked.prog.recurses (7:FuncId))=true:=by kernel_rfl
theorem q12:(Rows.crlEntriesRow.named==Tryz.pinned.checked.prog.varsNamed (7:FuncId))=true:=by kernel_rfl
theorem q13:(Rows.crlEntriesRow.maps==(Tryz.f7.params.toList++Rows.crlEntriesSpec.plain.varTypes Tryz.pinned.checked.prog).any (Tryz.pinned.checked.prog.mapsRec ·))=true:=by kernel_rfl
theorem q14:(Rows.crlEntriesRow.ifaces==(Tryz.f7.params.toList++Rows.crlEntriesSpec.plain.varTypes Tryz.pinned.checked.prog).any (Tryz.pinned.checked.prog.ifacesRec ·))=true:=by kernel_rfl
theorem q15:(Rows.crlEntriesRow.mapsOut==Tryz.pinned.checked.prog.mapsAmong Tryz.f7.resultTypes.toList)=true:=by kernel_rfl
theorem q16:(Rows.crlEntriesRow.loops==(Tryz.f7.params.toList++Rows.crlEntriesSpec.plain.varTypes Tryz.pinned.checked.prog).any (Tryz.pinned.checked.prog.loopsFrom ·))=true:=by kernel_rfl
theorem q17:(Rows.crlEntriesRow.wideKeys==(Tryz.f7.params.toList++Rows.crlEntriesSpec.plain.varTypes Tryz.pinned.checked.prog++Tryz.f7.resultTypes.toList).any (Tryz.pinned.checked.prog.wideKeysFrom ·))=true:=by kernel_rfl
theorem q18:Rows.crlEntriesSpec.vars.all (Tryz.pinned.checked.prog.varReadable ·)=true:=by kernel_rfl
theorem q19:Tryz.f7.resultTypes.all (fun t=>Tryz.pinned.checked.prog.readableRec t&&decide (t<Tryz.pinned.checked.prog.types.size))=true:=by kernel_rfl
theorem q20:(Rows.crlEntriesRow.ifacesOut==Tryz.f7.resultTypes.toList.any (Tryz.pinned.checked.prog.ifacesRec ·))=true:=by kernel_rfl
theorem q21:(Rows.crlEntriesRow.loopsOut==Tryz.f7.resultTypes.toList.any (Tryz.pinned.checked.prog.loopsFrom ·))=true:=by kernel_rfl
theorem q22:(Rows.crlEntriesRow.plainKeys==Tryz.pinned.checked.prog.plainKeys)=true:=by kernel_rfl
theorem q23:Rows.crlEntriesRow.shortTexts.isNone=true:=by kernel_rfl
theorem q24:Tryz.pinned.checked.prog.stopsHeard=true:=by kernel_rfl
theorem q25:Tryz.pinned.checked.prog.mayEnter=true:=by kernel_rfl
theorem q26:(Rows.crlEntriesRow.lifted==Tryz.pinned.checked.prog.liftsFinal)=true:=by kernel_rfl
theorem q27:(Tryz.pinned.checked.prog.make==some Rows.crlEntriesRow.make)=true:=by kernel_rfl
theorem q28:(Rows.crlEntriesRow.kinds==(if Rows.crlEntriesRow.domain.isEmpty then []else Tryz.f7.params.toList.map fun t=>match Tryz.pinned.checked.prog.underlying t with | some (.int k)=>some k | _=>none))=true:=by kernel_rfl
theorem q29:(Rows.crlEntriesRow.pinned==Rows.crlEntriesRow.pinnedBy)=true:=by kernel_rfl
theorem q30:(Rows.crlEntriesRow.veiled==(Tryz.f7.params.toList++Rows.crlEntriesSpec.plain.varTypes Tryz.pinned.checked.prog++Tryz.f7.resultTypes.toList).any (Tryz.pinned.checked.prog.veiledRec ·))=true:=by kernel_rfl
theorem q31:Rows.crlEntriesRow.veiledFits Tryz.pinned.checked.prog Tryz.f7.params.toList (Tryz.f7.params.toList++Rows.crlEntriesSpec.plain.varTypes Tryz.pinned.checked.prog++Tryz.f7.resultTypes.toList)=true:=by kernel_rfl
set_option maxRecDepth 100000 in
theorem closed:joinedFacts Tryz.pinned.checked.prog 7 Tryz.f7 Rows.crlEntriesSpec Rows.crlEntriesRow=true:=(Ha (Ha (Ha (Ha (Ha (Ha (Ha (Ha (Ha (Ha (Ha (Ha (Ha (Ha (Ha (Ha (Ha (Ha (Ha (Ha (Ha (Ha (Ha (Ha (Ha (Ha (Ha (Ha (Ha (Ha (Ha q0 q1) q2) q3) q4) q5) q6) q7) q8) q9) q10) q11) q12) q13) q14) q15) q16) q17) q18) q19) q20) q21) q22) q23) q24) q25) q26) q27) q28) q29) q30) q31)
