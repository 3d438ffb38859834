import Derived.Test.YtbnphelpndnnfaaGreatDoorA23
set_option linter.all false
namespace Go.Proofs.YtbnphelpndnnfaaGreatDoor.crlBack
open Go
theorem q11:(Rows.crlBackRow.recurses==Tryz.pinned.checked.prog.recurses (3:FuncId))=true:=by kernel_rfl
theorem q12:(Rows.crlBackRow.named==Tryz.pinned.checked.prog.varsNamed (3:FuncId))=true:=by kernel_rfl
theorem q13:(Rows.crlBackRow.maps==(Tryz.f3.params.toList++Rows.crlBackSpec.plain.varTypes Tryz.pinned.checked.prog).any (Tryz.pinned.checked.prog.mapsRec ·))=true:=by kernel_rfl
theorem q14:(Rows.crlBackRow.ifaces==(Tryz.f3.params.toList++Rows.crlBackSpec.plain.varTypes Tryz.pinned.checked.prog).any (Tryz.pinned.checked.prog.ifacesRec ·))=true:=by kernel_rfl
theorem q15:(Rows.crlBackRow.mapsOut==Tryz.pinned.checked.prog.mapsAmong Tryz.f3.resultTypes.toList)=true:=by kernel_rfl
theorem q16:(Rows.crlBackRow.loops==(Tryz.f3.params.toList++Rows.crlBackSpec.plain.varTypes Tryz.pinned.checked.prog).any (Tryz.pinned.checked.prog.loopsFrom ·))=true:=by kernel_rfl
theorem q17:(Rows.crlBackRow.wideKeys==(Tryz.f3.params.toList++Rows.crlBackSpec.plain.varTypes Tryz.pinned.checked.prog++Tryz.f3.resultTypes.toList).any (Tryz.pinned.checked.prog.wideKeysFrom ·))=true:=by kernel_rfl
theorem q18:Rows.crlBackSpec.vars.all (Tryz.pinned.checked.prog.varReadable ·)=true:=by kernel_rfl
theorem q19:Tryz.f3.resultTypes.all (fun t=>Tryz.pinned.checked.prog.readableRec t&&decide (t<Tryz.pinned.checked.prog.types.size))=true:=by kernel_rfl
theorem q20:(Rows.crlBackRow.ifacesOut==Tryz.f3.resultTypes.toList.any (Tryz.pinned.checked.prog.ifacesRec ·))=true:=by kernel_rfl
theorem q21:(Rows.crlBackRow.loopsOut==Tryz.f3.resultTypes.toList.any (Tryz.pinned.checked.prog.loopsFrom ·))=true:=by kernel_rfl
theorem q22:(Rows.crlBackRow.plainKeys==Tryz.pinned.checked.prog.plainKeys)=true:=by kernel_rfl
theorem q23:Rows.crlBackRow.shortTexts.isNone=true:=by kernel_rfl
theorem q24:Tryz.pinned.checked.prog.stopsHeard=true:=by kernel_rfl
theorem q25:Tryz.pinned.checked.prog.mayEnter=true:=by kernel_rfl
theorem q26:(Rows.crlBackRow.lifted==Tryz.pinned.checked.prog.liftsFinal)=true:=by kernel_rfl
theorem q27:(Tryz.pinned.checked.prog.make==some Rows.crlBackRow.make)=true:=by kernel_rfl
theorem q28:(Rows.crlBackRow.kinds==(if Rows.crlBackRow.domain.isEmpty then []else Tryz.f3.params.toList.map fun t=>match Tryz.pinned.checked.prog.underlying t with | some (.int k)=>some k | _=>none))=true:=by kernel_rfl
theorem q29:(Rows.crlBackRow.pinned==Rows.crlBackRow.pinnedBy)=true:=by kernel_rfl
theorem q30:(Rows.crlBackRow.veiled==(Tryz.f3.params.toList++Rows.crlBackSpec.plain.varTypes Tryz.pinned.checked.prog++Tryz.f3.resultTypes.toList).any (Tryz.pinned.checked.prog.veiledRec ·))=true:=by kernel_rfl
theorem q31:Rows.crlBackRow.veiledFits Tryz.pinned.checked.prog Tryz.f3.params.toList (Tryz.f3.params.toList++Rows.crlBackSpec.plain.varTypes Tryz.pinned.checked.prog++Tryz.f3.resultTypes.toList)=true:=by kernel_rfl
set_option maxRecDepth 100000 in
theorem closed:joinedFacts Tryz.pinned.checked.prog 3 Tryz.f3 Rows.crlBackSpec Rows.crlBackRow=true:=(ET (ET (ET (ET (ET (ET (ET (ET (ET (ET (ET (ET (ET (ET (ET (ET (ET (ET (ET (ET (ET (ET (ET (ET (ET (ET (ET (ET (ET (ET (ET q0 q1) q2) q3) q4) q5) q6) q7) q8) q9) q10) q11) q12) q13) q14) q15) q16) q17) q18) q19) q20) q21) q22) q23) q24) q25) q26) q27) q28) q29) q30) q31)
