import Derived.Test.YtfgdgdnlglejbaaGreatDoorA23
set_option linter.all false
namespace Go.Proofs.YtfgdgdnlglejbaaGreatDoor.certSeal
open Go
theorem q11:(Rows.certSealRow.recurses==Tryz.pinned.checked.prog.recurses (4:FuncId))=true:=by kernel_rfl
theorem q12:(Rows.certSealRow.named==Tryz.pinned.checked.prog.varsNamed (4:FuncId))=true:=by kernel_rfl
theorem q13:(Rows.certSealRow.maps==(Tryz.f4.params.toList++Rows.certSealSpec.plain.varTypes Tryz.pinned.checked.prog).any (Tryz.pinned.checked.prog.mapsRec ·))=true:=by kernel_rfl
theorem q14:(Rows.certSealRow.ifaces==(Tryz.f4.params.toList++Rows.certSealSpec.plain.varTypes Tryz.pinned.checked.prog).any (Tryz.pinned.checked.prog.ifacesRec ·))=true:=by kernel_rfl
theorem q15:(Rows.certSealRow.mapsOut==Tryz.pinned.checked.prog.mapsAmong Tryz.f4.resultTypes.toList)=true:=by kernel_rfl
theorem q16:(Rows.certSealRow.loops==(Tryz.f4.params.toList++Rows.certSealSpec.plain.varTypes Tryz.pinned.checked.prog).any (Tryz.pinned.checked.prog.loopsFrom ·))=true:=by kernel_rfl
theorem q17:(Rows.certSealRow.wideKeys==(Tryz.f4.params.toList++Rows.certSealSpec.plain.varTypes Tryz.pinned.checked.prog++Tryz.f4.resultTypes.toList).any (Tryz.pinned.checked.prog.wideKeysFrom ·))=true:=by kernel_rfl
theorem q18:Rows.certSealSpec.vars.all (Tryz.pinned.checked.prog.varReadable ·)=true:=by kernel_rfl
theorem q19:Tryz.f4.resultTypes.all (fun t=>Tryz.pinned.checked.prog.readableRec t&&decide (t<Tryz.pinned.checked.prog.types.size))=true:=by kernel_rfl
theorem q20:(Rows.certSealRow.ifacesOut==Tryz.f4.resultTypes.toList.any (Tryz.pinned.checked.prog.ifacesRec ·))=true:=by kernel_rfl
theorem q21:(Rows.certSealRow.loopsOut==Tryz.f4.resultTypes.toList.any (Tryz.pinned.checked.prog.loopsFrom ·))=true:=by kernel_rfl
theorem q22:(Rows.certSealRow.plainKeys==Tryz.pinned.checked.prog.plainKeys)=true:=by kernel_rfl
theorem q23:Rows.certSealRow.shortTexts.isNone=true:=by kernel_rfl
theorem q24:Tryz.pinned.checked.prog.stopsHeard=true:=by kernel_rfl
theorem q25:Tryz.pinned.checked.prog.mayEnter=true:=by kernel_rfl
theorem q26:(Rows.certSealRow.lifted==Tryz.pinned.checked.prog.liftsFinal)=true:=by kernel_rfl
theorem q27:(Tryz.pinned.checked.prog.make==some Rows.certSealRow.make)=true:=by kernel_rfl
theorem q28:(Rows.certSealRow.kinds==(if Rows.certSealRow.domain.isEmpty then []else Tryz.f4.params.toList.map fun t=>match Tryz.pinned.checked.prog.underlying t with | some (.int k)=>some k | _=>none))=true:=by kernel_rfl
theorem q29:(Rows.certSealRow.pinned==Rows.certSealRow.pinnedBy)=true:=by kernel_rfl
theorem q30:(Rows.certSealRow.veiled==(Tryz.f4.params.toList++Rows.certSealSpec.plain.varTypes Tryz.pinned.checked.prog++Tryz.f4.resultTypes.toList).any (Tryz.pinned.checked.prog.veiledRec ·))=true:=by kernel_rfl
theorem q31:Rows.certSealRow.veiledFits Tryz.pinned.checked.prog Tryz.f4.params.toList (Tryz.f4.params.toList++Rows.certSealSpec.plain.varTypes Tryz.pinned.checked.prog++Tryz.f4.resultTypes.toList)=true:=by kernel_rfl
set_option maxRecDepth 100000 in
theorem closed:joinedFacts Tryz.pinned.checked.prog 4 Tryz.f4 Rows.certSealSpec Rows.certSealRow=true:=(Hq (Hq (Hq (Hq (Hq (Hq (Hq (Hq (Hq (Hq (Hq (Hq (Hq (Hq (Hq (Hq (Hq (Hq (Hq (Hq (Hq (Hq (Hq (Hq (Hq (Hq (Hq (Hq (Hq (Hq (Hq q0 q1) q2) q3) q4) q5) q6) q7) q8) q9) q10) q11) q12) q13) q14) q15) q16) q17) q18) q19) q20) q21) q22) q23) q24) q25) q26) q27) q28) q29) q30) q31)
