import Derived.Test.YtbaomhegdndpnaaGreatDoorA28
set_option linter.all false
namespace Go.Proofs.YtbaomhegdndpnaaGreatDoor.crlMany
open Go
theorem q11:(Rows.crlManyRow.recurses==Tryz.pinned.checked.prog.recurses (3:FuncId))=true:=by kernel_rfl
theorem q12:(Rows.crlManyRow.named==Tryz.pinned.checked.prog.varsNamed (3:FuncId))=true:=by kernel_rfl
theorem q13:(Rows.crlManyRow.maps==(Tryz.f3.params.toList++Rows.crlManySpec.plain.varTypes Tryz.pinned.checked.prog).any (Tryz.pinned.checked.prog.mapsRec ·))=true:=by kernel_rfl
theorem q14:(Rows.crlManyRow.ifaces==(Tryz.f3.params.toList++Rows.crlManySpec.plain.varTypes Tryz.pinned.checked.prog).any (Tryz.pinned.checked.prog.ifacesRec ·))=true:=by kernel_rfl
theorem q15:(Rows.crlManyRow.mapsOut==Tryz.pinned.checked.prog.mapsAmong Tryz.f3.resultTypes.toList)=true:=by kernel_rfl
theorem q16:(Rows.crlManyRow.loops==(Tryz.f3.params.toList++Rows.crlManySpec.plain.varTypes Tryz.pinned.checked.prog).any (Tryz.pinned.checked.prog.loopsFrom ·))=true:=by kernel_rfl
theorem q17:(Rows.crlManyRow.wideKeys==(Tryz.f3.params.toList++Rows.crlManySpec.plain.varTypes Tryz.pinned.checked.prog++Tryz.f3.resultTypes.toList).any (Tryz.pinned.checked.prog.wideKeysFrom ·))=true:=by kernel_rfl
theorem q18:Rows.crlManySpec.vars.all (Tryz.pinned.checked.prog.varReadable ·)=true:=by kernel_rfl
theorem q19:Tryz.f3.resultTypes.all (fun t=>Tryz.pinned.checked.prog.readableRec t&&decide (t<Tryz.pinned.checked.prog.types.size))=true:=by kernel_rfl
theorem q20:(Rows.crlManyRow.ifacesOut==Tryz.f3.resultTypes.toList.any (Tryz.pinned.checked.prog.ifacesRec ·))=true:=by kernel_rfl
theorem q21:(Rows.crlManyRow.loopsOut==Tryz.f3.resultTypes.toList.any (Tryz.pinned.checked.prog.loopsFrom ·))=true:=by kernel_rfl
theorem q22:(Rows.crlManyRow.plainKeys==Tryz.pinned.checked.prog.plainKeys)=true:=by kernel_rfl
theorem q23:Rows.crlManyRow.shortTexts.isNone=true:=by kernel_rfl
theorem q24:Tryz.pinned.checked.prog.stopsHeard=true:=by kernel_rfl
theorem q25:Tryz.pinned.checked.prog.mayEnter=true:=by kernel_rfl
theorem q26:(Rows.crlManyRow.lifted==Tryz.pinned.checked.prog.liftsFinal)=true:=by kernel_rfl
theorem q27:(Tryz.pinned.checked.prog.make==some Rows.crlManyRow.make)=true:=by kernel_rfl
theorem q28:(Rows.crlManyRow.kinds==(if Rows.crlManyRow.domain.isEmpty then []else Tryz.f3.params.toList.map fun t=>match Tryz.pinned.checked.prog.underlying t with | some (.int k)=>some k | _=>none))=true:=by kernel_rfl
theorem q29:(Rows.crlManyRow.pinned==Rows.crlManyRow.pinnedBy)=true:=by kernel_rfl
theorem q30:(Rows.crlManyRow.veiled==(Tryz.f3.params.toList++Rows.crlManySpec.plain.varTypes Tryz.pinned.checked.prog++Tryz.f3.resultTypes.toList).any (Tryz.pinned.checked.prog.veiledRec ·))=true:=by kernel_rfl
theorem q31:Rows.crlManyRow.veiledFits Tryz.pinned.checked.prog Tryz.f3.params.toList (Tryz.f3.params.toList++Rows.crlManySpec.plain.varTypes Tryz.pinned.checked.prog++Tryz.f3.resultTypes.toList)=true:=by kernel_rfl
set_option maxRecDepth 100000 in
theorem closed:joinedFacts Tryz.pinned.checked.prog 3 Tryz.f3 Rows.crlManySpec Rows.crlManyRow=true:=(Dn (Dn (Dn (Dn (Dn (Dn (Dn (Dn (Dn (Dn (Dn (Dn (Dn (Dn (Dn (Dn (Dn (Dn (Dn (Dn (Dn (Dn (Dn (Dn (Dn (Dn (Dn (Dn (Dn (Dn (Dn q0 q1) q2) q3) q4) q5) q6) q7) q8) q9) q10) q11) q12) q13) q14) q15) q16) q17) q18) q19) q20) q21) q22) q23) q24) q25) q26) q27) q28) q29) q30) q31)
