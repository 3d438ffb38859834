import Derived.Test.YtbaomhegdndpnaaGreatDoorA15
import Derived.Test.YtbaomhegdndpnaaGreatDoorProg
set_option linter.all false
namespace Go.Proofs.YtbaomhegdndpnaaGreatDoor.Vm
open Go.Proofs
abbrev Tq0:Ty:=(.str (.int .i64 (.str .nil)))
abbrev Tq1:Ty:=(.int .i64 (.int .i64 (.int .i64 (.int .i64 (.sl 74 (.sl 73 Tq0 .nil) .nil)))))
abbrev Tq2:Ty:=(.int .i64 (.str (.sl 74 (.sl 73 Tq0 .nil) .nil)))
abbrev Tq3:Ty:=(.sl 85 Tq2 (.int .i64 (.bool (.sl 74 (.sl 73 Tq0 .nil) .nil))))
abbrev Tq4:Ty:=(.str (.bool (.str .nil)))
abbrev Tq5:Ty:=(.int .i64 (.str (.str .nil)))
abbrev Tq6:Ty:=(.str (.str (.sl 74 (.sl 73 Tq0 .nil) (.int .i64 (.int .i64 (.int .i64 (.int .i64 (.str (.bool (.sl 85 Tq2 (.bool (.bool (.int .i64 (.bool (.sl 134 Tq3 (.sl 35 Tq1 (.str .nil)))))))))))))))))
abbrev Tq7:Ty:=(.sl 74 (.sl 73 Tq0 .nil) .nil)
abbrev Tq8:Ty:=(.sl 67 (.sl 9 (.str .nil) .nil) (.str (.str (.int .i64 .nil))))
noncomputable def Sq0:Sh:=.agg [(false,(.sl 74 (.sl 73 Tq0 .nil)))]
noncomputable def Sq1:Sh:=.agg [(false,.str),(false,(.int .i64)),(false,.str)]
noncomputable def Sq2:Sh:=.agg [(false,.str),(false,.str),(false,(.sl 74 (.sl 73 Tq0 .nil))),(false,(.int .i64)),(false,(.int .i64)),(false,(.int .i64)),(false,(.int .i64)),(false,.str),(false,.bool),(false,(.sl 85 Tq2)),(false,.bool),(false,.bool),(false,(.int .i64)),(false,.bool),(false,(.sl 134 Tq3)),(false,(.sl 35 Tq1)),(false,.str)]
noncomputable def Sq3:Sh:=.agg [(false,(.int .i64)),(false,(.int .i64)),(false,(.int .i64)),(false,(.int .i64)),(false,(.sl 74 (.sl 73 Tq0 .nil)))]
noncomputable def Sq4:Sh:=.box [(false,(.int .u32)),(false,(.int .u32)),(false,(.int .u32)),(false,(.int .u32)),(false,(.int .u32)),(false,(.int .u32)),(false,(.int .u32)),(false,(.int .u32)),(false,(.sl 5 (.int .u8 .nil))),(false,(.int .i64))]
noncomputable def Sq5:Sh:=.agg [(false,(.int .u32)),(false,(.int .u32)),(false,(.int .u32)),(false,(.int .u32)),(false,(.int .u32)),(false,(.int .u32)),(false,(.int .u32)),(false,(.int .u32))]
noncomputable def Sq6:Sh:=.agg [(false,(.int .u32)),(false,(.int .u32)),(false,(.int .u32)),(false,(.int .u32)),(false,(.int .u32)),(false,(.int .u32)),(false,(.int .u32)),(false,(.int .u32)),(false,(.int .u32)),(false,(.int .u32)),(false,(.int .u32)),(false,(.int .u32)),(false,(.int .u32)),(false,(.int .u32)),(false,(.int .u32)),(false,(.int .u32)),(false,(.int .u32)),(false,(.int .u32)),(false,(.int .u32)),(false,(.int .u32)),(false,(.int .u32)),(false,(.int .u32)),(false,(.int .u32)),(false,(.int .u32)),(false,(.int .u32)),(false,(.int .u32)),(false,(.int .u32)),(false,(.int .u32)),(false,(.int .u32)),(false,(.int .u32)),(false,(.int .u32)),(false,(.int .u32)),(false,(.int .u32)),(false,(.int .u32)),(false,(.int .u32)),(false,(.int .u32)),(false,(.int .u32)),(false,(.int .u32)),(false,(.int .u32)),(false,(.int .u32)),(false,(.int .u32)),(false,(.int .u32)),(false,(.int .u32)),(false,(.int .u32)),(false,(.int .u32)),(false,(.int .u32)),(false,(.int .u32)),(false,(.int .u32)),(false,(.int .u32)),(false,(.int .u32)),(false,(.int .u32)),(false,(.int .u32)),(false,(.int .u32)),(false,(.int .u32)),(false,(.int .u32)),(false,(.int .u32)),(false,(.int .u32)),(false,(.int .u32)),(false,(.int .u32)),(false,(.int .u32)),(false,(.int .u32)),(false,(.int .u32)),(false,(.int .u32)),(false,(.int .u32))]
noncomputable def Sq7:Sh:=.cell false (.sl 5 (.int .u8 .nil))
noncomputable def Sq8:Sh:=.cell false (.sl 9 (.str .nil))
noncomputable def Sq9:Sh:=.box [(false,(.sln 67 (.sl 9 (.str .nil) .nil))),(false,.str),(false,.str),(false,(.int .i64))]
noncomputable def aX:Sh:=.box [(false,.str),(false,(.int .i64)),(false,(.int .i64)),(true,(.bx Tq8))]
noncomputable def AfX:Sh:=.cell false (.sl 143 (.int .u32 .nil))
noncomputable def Aha:Sh:=.cell false (.sln 3 (.int .i64 .nil))
noncomputable def Abe:Sh:=.agg [(false,(.int .i64)),(false,.str),(false,(.sl 74 (.sl 73 Tq0 .nil)))]
noncomputable def AfY:Sh:=.agg [(false,(.sl 85 Tq2)),(false,(.int .i64)),(false,.bool),(false,(.sl 74 (.sl 73 Tq0 .nil)))]
noncomputable def Aef:Sh:=.agg [(false,(.int .i64)),(false,(.int .i64)),(false,(.int .i64)),(false,(.int .i64)),(false,(.int .i64)),(false,(.int .i64))]
noncomputable def AfZ:Sh:=.cell true (.sln 5 (.int .u8 .nil))
noncomputable def Ahb:Sh:=.map (.str .nil) (.int .i64 .nil)
noncomputable def GY:Sh:=.agg [(false,(.int .i64)),(false,.str),(false,.str)]
noncomputable def Aga:Sh:=.cell true (.sl 5 (.int .u8 .nil))
noncomputable def Abf:Sh:=.agg [(false,.str),(false,.bool),(false,.str)]
noncomputable def Agb:Sh:=.agg [(false,(.sl 85 Tq2)),(false,.bool),(false,.bool),(false,(.int .i64)),(false,.bool)]
noncomputable def Ahc:Sh:=.agg [(false,(.sl 67 (.sl 9 (.str .nil) .nil)))]
noncomputable def Abg:Sh:=.cell false (.sl 3 (.int .i64 .nil))
noncomputable def IU:Sh:=.box [(false,(.sl 98 Tq5))]
noncomputable def Ahd:Sh:=.box [(false,(.int .i64)),(false,(.int .i64)),(false,(.int .i64)),(false,(.int .i64)),(false,(.sl 74 (.sl 73 Tq0 .nil)))]
noncomputable def Aeg:Sh:=.box [(false,.str),(false,.str),(false,(.sl 74 (.sl 73 Tq0 .nil))),(false,(.int .i64)),(false,(.int .i64)),(false,(.int .i64)),(false,(.int .i64)),(false,.str),(false,.bool),(false,(.sl 85 Tq2)),(false,.bool),(false,.bool),(false,(.int .i64)),(false,.bool),(false,(.sl 134 Tq3)),(false,(.sl 35 Tq1)),(false,.str)]
noncomputable def Xg:Sh:=.box [(false,(.sl 3 (.int .i64 .nil))),(false,(.int .i64))]
noncomputable abbrev Ad (k:FuncId) (S:Sig):Prop:=Spec Tryz.prog k S
noncomputable abbrev Ag (gs:List (Nat×Sig)) (ns:List (Nat×Nrm)) (aa:List (Nat×Alt):=[]) (dd:List (Nat×(Nat->Sig)):=[]) (cc:List Nat:=[]) (bb:List Nat:=[]) (ss:List (Nat×Nat×Nat×List Nat):=[]) (kk:List (Nat×List (Nat×Nat)):=[]):Ctx:=ctx Tryz.prog gs ns aa dd cc bb ss kk
theorem Ah {f:FuncId} {pars ress:List Sh} {g:ShT pars->Option (ShT (outS pars ress))} (C:Ctx) (L:Lk) (fn:Func) (N:Nat) (hC:DL Tryz.prog C) (hf:Tryz.prog.funcs[f]? =some fn:=by kernel_rfl) (hn:nK L fn=true:=by kernel_rfl) (hF: ∀ a,AgA N C L pars ress fn a=g a:=by intro a;kernel_rfl):Spec Tryz.prog f (Sig.of pars ress g):=TA hC hf hn hF
noncomputable def Aj:Sh:=.cell false .str
noncomputable def Ae:Sh:=.cell false (.int .i64)
noncomputable def AZ:Sh:=.cell false .bool
