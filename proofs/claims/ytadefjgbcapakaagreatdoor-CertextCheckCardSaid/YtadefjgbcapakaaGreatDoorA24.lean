/-
  CertextCheck: the law returns true whatever the input; machine, functions, plain law (part 24 of 47.)
-/
import Derived.Test.YtadefjgbcapakaaGreatDoorA23
import Derived.Test.YtadefjgbcapakaaGreatDoorProg
set_option linter.unusedVariables false
set_option linter.unusedSimpArgs false
namespace Go.Proofs.YtadefjgbcapakaaGreatDoor.Vm
open Go.Proofs
abbrev Tq0:Ty:=(.str (.int .i64 (.str .nil)))
abbrev Tq1:Ty:=(.int .i64 (.str (.sl 175 (.sl 177 Tq0 .nil) .nil)))
abbrev Tq2:Ty:=(.sl 80 Tq1 (.int .i64 (.bool (.sl 175 (.sl 177 Tq0 .nil) .nil))))
abbrev Tq3:Ty:=(.str (.bool (.str .nil)))
abbrev Tq4:Ty:=(.str (.int .i64 (.fn (.fn (.fn .nil)))))
abbrev Tq5:Ty:=(.bool (.bool (.int .i64 (.int .i64 (.sl 9 (.str .nil) (.sl 9 (.str .nil) (.sl 74 (.str (.str .nil)) (.int .i64 (.int .i64 (.int .i64 (.sl 80 Tq1 (.bool (.sl 80 Tq1 (.sl 80 Tq1 (.str (.str (.sl 111 Tq2 (.sl 111 Tq2 (.sl 60 Tq3 .nil)))))))))))))))))))
noncomputable def Sq0:Sh:=.agg [(false,(.sl 175 (.sl 177 Tq0 .nil)))]
noncomputable def Sq1:Sh:=.cell false (.sl 9 (.str .nil))
noncomputable def Sq2:Sh:=.agg [(false,.bool),(false,.bool),(false,(.int .i64)),(false,(.int .i64)),(false,(.sl 9 (.str .nil))),(false,(.sl 9 (.str .nil))),(false,(.sl 74 (.str (.str .nil)))),(false,(.int .i64)),(false,(.int .i64)),(false,(.int .i64)),(false,(.sl 80 Tq1)),(false,.bool),(false,(.sl 80 Tq1)),(false,(.sl 80 Tq1)),(false,.str),(false,.str),(false,(.sl 111 Tq2)),(false,(.sl 111 Tq2)),(false,(.sl 60 Tq3))]
noncomputable def Sq3:Sh:=.cell false (.sln 3 (.int .i64 .nil))
noncomputable def Sq4:Sh:=.agg [(false,(.int .i64)),(false,.str),(false,(.sl 175 (.sl 177 Tq0 .nil)))]
noncomputable def Sq5:Sh:=.agg [(false,(.sl 80 Tq1)),(false,(.int .i64)),(false,.bool),(false,(.sl 175 (.sl 177 Tq0 .nil)))]
noncomputable def Sq6:Sh:=.cell false (.sl 74 (.str (.str .nil)))
noncomputable def Sq7:Sh:=.agg [(false,(.sl 80 Tq1)),(false,(.sl 80 Tq1))]
noncomputable def Sq8:Sh:=.agg [(false,.str),(false,(.int .i64)),(false,.fn),(false,.fn),(false,.fn)]
noncomputable def Sq9:Sh:=.agg [(false,(.int .i64)),(false,.str),(false,.str)]
noncomputable def An4:Sh:=.cell true (.sl 5 (.int .u8 .nil))
noncomputable def An5:Sh:=.agg [(false,.str),(false,(.int .i64)),(false,.str)]
noncomputable def An6:Sh:=.agg [(false,.bool),(false,.bool),(false,(.int .i64)),(false,(.int .i64)),(true,(.sl 9 (.str .nil))),(true,(.sl 9 (.str .nil))),(true,(.sl 74 (.str (.str .nil)))),(false,(.int .i64)),(false,(.int .i64)),(false,(.int .i64)),(true,(.sl 80 Tq1)),(false,.bool),(false,(.sl 80 Tq1)),(false,(.sl 80 Tq1)),(false,.str),(false,.str),(true,(.sl 111 Tq2)),(false,(.sl 111 Tq2)),(true,(.sl 60 Tq3))]
noncomputable def RV:Sh:=.box [(false,(.sl 3 (.int .i64 .nil))),(false,(.int .i64))]
noncomputable def Ao1:Sh:=.cell true (.sl 9 (.str .nil))
noncomputable def Ao2:Sh:=.cell true (.sl 74 (.str (.str .nil)))
noncomputable def Alf:Sh:=.cell false (.sl 3 (.int .i64 .nil))
noncomputable def Ao3:Sh:=.agg [(false,.str),(false,.bool),(false,.str)]
