import Derived.Test.YtfgdgdnlglejbaaGreatDoorA24
set_option linter.all false
namespace Go.Proofs.YtfgdgdnlglejbaaGreatDoor.certBack
open Go
theorem q11:(Rows.certBackRow.recurses==Tryz.pinned.checked.prog.recurses (5:FuncId))=true:=by kernel_rfl
theorem q12:(Rows.certBackRow.named==Tryz.pinned.checked.prog.varsNamed (5:FuncId))=true:=by kernel_rfl
theorem q13:(Rows.certBackRow.maps==(Tryz.f5.params.toList++Rows.certBackSpec.plain.varTypes Tryz.pinned.checked.prog).any (Tryz.pinned.checked.prog.mapsRec ·))=true:=by kernel_rfl
theorem q14:(Rows.certBackRow.ifaces==(Tryz.f5.params.toList++Rows.certBackSpec.plain.varTypes Tryz.pinned.checked.prog).any (Tryz.pinned.checked.prog.ifacesRec ·))=true:=by kernel_rfl
theorem q15:(Rows.certBackRow.mapsOut==Tryz.pinned.checked.prog.mapsAmong Tryz.f5.resultTypes.toList)=true:=by kernel_rfl
theorem q16:(Rows.certBackRow.loops==(Tryz.f5.params.toList++Rows.certBackSpec.plain.varTypes Tryz.pinned.checked.prog).any (Tryz.pinned.checked.prog.loopsFrom ·))=true:=by kernel_rfl
theorem q17:(Rows.certBackRow.wideKeys==(Tryz.f5.params.toList++Rows.certBackSpec.plain.varTypes Tryz.pinned.checked.prog++Tryz.f5.resultTypes.toList).any (Tryz.pinned.checked.prog.wideKeysFrom ·))=true:=by kernel_rfl
theorem q18:Rows.certBackSpec.vars.all (Tryz.pinned.checked.prog.varReadable ·)=true:=by kernel_rfl
theorem q19:Tryz.f5.resultTypes.all (fun t=>Tryz.pinned.checked.prog.readableRec t&&decide (t<Tryz.pinned.checked.prog.types.size))=true:=by kernel_rfl
theorem q20:(Rows.certBackRow.ifacesOut==Tryz.f5.resultTypes.toList.any (Tryz.pinned.checked.prog.ifacesRec ·))=true:=by kernel_rfl
theorem q21:(Rows.certBackRow.loopsOut==Tryz.f5.resultTypes.toList.any (Tryz.pinned.checked.prog.loopsFrom ·))=true:=by kernel_rfl
theorem q22:(Rows.certBackRow.plainKeys==Tryz.pinned.checked.prog.plainKeys)=true:=by kernel_rfl
theorem q23:Rows.certBackRow.shortTexts.isNone=true:=by kernel_rfl
theorem q24:Tryz.pinned.checked.prog.stopsHeard=true:=by kernel_rfl
theorem q25:Tryz.pinned.checked.prog.mayEnter=true:=by kernel_rfl
theorem q26:(Rows.certBackRow.lifted==Tryz.pinned.checked.prog.liftsFinal)=true:=by kernel_rfl
theorem q27:(Tryz.pinned.checked.prog.make==some Rows.certBackRow.make)=true:=by kernel_rfl
theorem q28:(Rows.certBackRow.kinds==(if Rows.certBackRow.domain.isEmpty then []else Tryz.f5.params.toList.map fun t=>match Tryz.pinned.checked.prog.underlying t with | some (.int k)=>some k | _=>none))=true:=by kernel_rfl
theorem q29:(Rows.certBackRow.pinned==Rows.certBackRow.pinnedBy)=true:=by kernel_rfl
theorem q30:(Rows.certBackRow.veiled==(Tryz.f5.params.toList++Rows.certBackSpec.plain.varTypes Tryz.pinned.checked.prog++Tryz.f5.resultTypes.toList).any (Tryz.pinned.checked.prog.veiledRec ·))=true:=by kernel_rfl
theorem q31:Rows.certBackRow.veiledFits Tryz.pinned.checked.prog Tryz.f5.params.toList (Tryz.f5.params.toList++Rows.certBackSpec.plain.varTypes Tryz.pinned.checked.prog++Tryz.f5.resultTypes.toList)=true:=by kernel_rfl
set_option maxRecDepth 100000 in
theorem closed:joinedFacts Tryz.pinned.checked.prog 5 Tryz.f5 Rows.certBackSpec Rows.certBackRow=true:=(Iq (Iq (Iq (Iq (Iq (Iq (Iq (Iq (Iq (Iq (Iq (Iq (Iq (Iq (Iq (Iq (Iq (Iq (Iq (Iq (Iq (Iq (Iq (Iq (Iq (Iq (Iq (Iq (Iq (Iq (Iq q0 q1) q2) q3) q4) q5) q6) q7) q8) q9) q10) q11) q12) q13) q14) q15) q16) q17) q18) q19) q20) q21) q22) q23) q24) q25) q26) q27) q28) q29) q30) q31)
