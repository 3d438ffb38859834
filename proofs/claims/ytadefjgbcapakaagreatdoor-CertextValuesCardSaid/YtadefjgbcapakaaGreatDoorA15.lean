import Derived.Test.YtadefjgbcapakaaGreatDoorA14
set_option linter.all false
namespace Go.Proofs.YtadefjgbcapakaaGreatDoor.Vm
open Go.Proofs
abbrev Tq0:Ty:=(.str (.int .i64 (.str .nil)))
abbrev Tq1:Ty:=(.int .i64 (.str (.sl 175 (.sl 177 Tq0 .nil) .nil)))
abbrev Tq2:Ty:=(.sl 80 Tq1 (.int .i64 (.bool (.sl 175 (.sl 177 Tq0 .nil) .nil))))
abbrev Tq3:Ty:=(.str (.int .i64 (.fn (.fn (.fn .nil)))))
abbrev Tq4:Ty:=(.str (.bool (.str .nil)))
abbrev Tq5:Ty:=(.int .i64 (.str (.str .nil)))
noncomputable def Sq0:Sh:=.cell false (.sln 3 (.int .i64 .nil))
noncomputable def Sq1:Sh:=.cell false (.sl 9 (.str .nil))
noncomputable def Sq2:Sh:=.cell false (.sl 74 (.str (.str .nil)))
noncomputable def Sq3:Sh:=.agg [(false,.bool),(false,.bool),(false,(.int .i64)),(false,(.int .i64)),(false,(.sl 9 (.str .nil))),(false,(.sl 9 (.str .nil))),(false,(.sl 74 (.str (.str .nil)))),(false,(.int .i64)),(false,(.int .i64)),(false,(.int .i64)),(false,(.sl 80 Tq1)),(false,.bool),(false,(.sl 80 Tq1)),(false,(.sl 80 Tq1)),(false,.str),(false,.str),(false,(.sl 111 Tq2)),(false,(.sl 111 Tq2)),(false,(.sl 60 Tq4))]
noncomputable def Sq4:Sh:=.agg [(false,.str),(false,(.int .i64)),(false,.fn),(false,.fn),(false,.fn)]
noncomputable def Sq5:Sh:=.agg [(false,(.int .i64)),(false,.str),(false,.str)]
noncomputable def Sq6:Sh:=.agg [(false,.bool),(false,.bool),(false,(.int .i64)),(false,(.int .i64)),(true,(.sl 9 (.str .nil))),(true,(.sl 9 (.str .nil))),(true,(.sl 74 (.str (.str .nil)))),(false,(.int .i64)),(false,(.int .i64)),(false,(.int .i64)),(false,(.sl 80 Tq1)),(false,.bool),(false,(.sl 80 Tq1)),(false,(.sl 80 Tq1)),(false,.str),(false,.str),(false,(.sl 111 Tq2)),(false,(.sl 111 Tq2)),(true,(.sl 60 Tq4))]
noncomputable def Sq7:Sh:=.agg [(false,(.sl 175 (.sl 177 Tq0 .nil)))]
noncomputable def Sq8:Sh:=.agg [(false,(.sl 80 Tq1)),(false,(.sl 80 Tq1))]
noncomputable def Sq9:Sh:=.box [(false,(.sl 123 Tq5))]
noncomputable def NK:Sh:=.box [(false,.bool),(false,.bool),(false,(.int .i64)),(false,(.int .i64)),(true,(.sl 9 (.str .nil))),(true,(.sl 9 (.str .nil))),(true,(.sl 74 (.str (.str .nil)))),(false,(.int .i64)),(false,(.int .i64)),(false,(.int .i64)),(false,(.sl 80 Tq1)),(false,.bool),(false,(.sl 80 Tq1)),(false,(.sl 80 Tq1)),(false,.str),(false,.str),(false,(.sl 111 Tq2)),(false,(.sl 111 Tq2)),(true,(.sl 60 Tq4))]
noncomputable def Agl:Sh:=.cell false (.sl 3 (.int .i64 .nil))
noncomputable def jW:Sh:=.clo 0 [(false,.bool),(false,.bool),(false,(.int .i64)),(false,(.int .i64)),(true,(.sl 9 (.str .nil))),(true,(.sl 9 (.str .nil))),(true,(.sl 74 (.str (.str .nil)))),(false,(.int .i64)),(false,(.int .i64)),(false,(.int .i64)),(false,(.sl 80 Tq1)),(false,.bool),(false,(.sl 80 Tq1)),(false,(.sl 80 Tq1)),(false,.str),(false,.str),(false,(.sl 111 Tq2)),(false,(.sl 111 Tq2)),(true,(.sl 60 Tq4))]
noncomputable def Ahz:Sh:=.clo 198 [(false,.bool),(false,.bool),(false,(.int .i64)),(false,(.int .i64)),(true,(.sl 9 (.str .nil))),(true,(.sl 9 (.str .nil))),(true,(.sl 74 (.str (.str .nil)))),(false,(.int .i64)),(false,(.int .i64)),(false,(.int .i64)),(false,(.sl 80 Tq1)),(false,.bool),(false,(.sl 80 Tq1)),(false,(.sl 80 Tq1)),(false,.str),(false,.str),(false,(.sl 111 Tq2)),(false,(.sl 111 Tq2)),(true,(.sl 60 Tq4))]
noncomputable def Ah0:Sh:=.clo 199 [(false,.bool),(false,.bool),(false,(.int .i64)),(false,(.int .i64)),(true,(.sl 9 (.str .nil))),(true,(.sl 9 (.str .nil))),(true,(.sl 74 (.str (.str .nil)))),(false,(.int .i64)),(false,(.int .i64)),(false,(.int .i64)),(false,(.sl 80 Tq1)),(false,.bool),(false,(.sl 80 Tq1)),(false,(.sl 80 Tq1)),(false,.str),(false,.str),(false,(.sl 111 Tq2)),(false,(.sl 111 Tq2)),(true,(.sl 60 Tq4))]
noncomputable def Aaq:Sh:=.agg [(false,.str),(false,.bool),(false,.str)]
noncomputable def Ah1:Sh:=.agg [(false,.bool),(false,.bool),(false,(.int .i64)),(false,(.int .i64)),(false,(.sl 9 (.str .nil))),(true,(.sl 9 (.str .nil))),(true,(.sl 74 (.str (.str .nil)))),(false,(.int .i64)),(false,(.int .i64)),(false,(.int .i64)),(false,(.sl 80 Tq1)),(false,.bool),(false,(.sl 80 Tq1)),(false,(.sl 80 Tq1)),(false,.str),(false,.str),(false,(.sl 111 Tq2)),(false,(.sl 111 Tq2)),(true,(.sl 60 Tq4))]
noncomputable def Agm:Sh:=.agg [(false,(.sl 123 Tq5)),(false,(.int .i64))]
noncomputable def sK:Sh:=.box [(false,(.sl 123 Tq5)),(false,(.int .i64))]
noncomputable def Ah2:Sh:=.cell false (.sl 22 (.sl 9 (.str .nil) .nil))
noncomputable def Ah3:Sh:=.box [(false,.bool),(false,.bool),(false,(.int .i64)),(false,(.int .i64)),(false,(.sl 9 (.str .nil))),(true,(.sl 9 (.str .nil))),(true,(.sl 74 (.str (.str .nil)))),(false,(.int .i64)),(false,(.int .i64)),(false,(.int .i64)),(false,(.sl 80 Tq1)),(false,.bool),(false,(.sl 80 Tq1)),(false,(.sl 80 Tq1)),(false,.str),(false,.str),(false,(.sl 111 Tq2)),(false,(.sl 111 Tq2)),(true,(.sl 60 Tq4))]
noncomputable def Ah4:Sh:=.cell false (.sl 5 (.int .u8 .nil))
