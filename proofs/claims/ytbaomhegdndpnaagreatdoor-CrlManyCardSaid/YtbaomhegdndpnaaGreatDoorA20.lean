import Derived.Test.YtbaomhegdndpnaaGreatDoorA19
set_option linter.all false
namespace Go.Proofs.YtbaomhegdndpnaaGreatDoor.Vm
open Go.Proofs
abbrev Tq0:Ty:=(.str (.int .i64 (.str .nil)))
abbrev Tq1:Ty:=(.int .i64 (.int .i64 (.int .i64 (.int .i64 (.sl 74 (.sl 73 Tq0 .nil) .nil)))))
abbrev Tq2:Ty:=(.int .i64 (.str (.sl 74 (.sl 73 Tq0 .nil) .nil)))
abbrev Tq3:Ty:=(.sl 85 Tq2 (.int .i64 (.bool (.sl 74 (.sl 73 Tq0 .nil) .nil))))
abbrev Tq4:Ty:=(.str (.bool (.str .nil)))
abbrev Tq5:Ty:=(.int .i64 (.str (.str .nil)))
abbrev Tq8:Ty:=(.sl 67 (.sl 9 (.str .nil) .nil) (.str (.str (.int .i64 .nil))))
noncomputable def Sq0:Sh:=.agg [(false,(.sl 74 (.sl 73 Tq0 .nil)))]
noncomputable def Sq1:Sh:=.agg [(false,.str),(false,(.int .i64)),(false,.str)]
noncomputable def Sq2:Sh:=.agg [(false,.str),(false,.str),(false,(.sl 74 (.sl 73 Tq0 .nil))),(false,(.int .i64)),(false,(.int .i64)),(false,(.int .i64)),(false,(.int .i64)),(false,.str),(false,.bool),(false,(.sl 85 Tq2)),(false,.bool),(false,.bool),(false,(.int .i64)),(false,.bool),(false,(.sl 134 Tq3)),(false,(.sl 35 Tq1)),(false,.str)]
noncomputable def Sq3:Sh:=.agg [(false,(.int .i64)),(false,(.int .i64)),(false,(.int .i64)),(false,(.int .i64)),(false,(.sl 74 (.sl 73 Tq0 .nil)))]
noncomputable def Sq4:Sh:=.box [(false,(.int .u32)),(false,(.int .u32)),(false,(.int .u32)),(false,(.int .u32)),(false,(.int .u32)),(false,(.int .u32)),(false,(.int .u32)),(false,(.int .u32)),(false,(.sl 5 (.int .u8 .nil))),(false,(.int .i64))]
noncomputable def Sq5:Sh:=.agg [(false,(.int .u32)),(false,(.int .u32)),(false,(.int .u32)),(false,(.int .u32)),(false,(.int .u32)),(false,(.int .u32)),(false,(.int .u32)),(false,(.int .u32))]
noncomputable def Sq6:Sh:=.agg [(false,(.int .u32)),(false,(.int .u32)),(false,(.int .u32)),(false,(.int .u32)),(false,(.int .u32)),(false,(.int .u32)),(false,(.int .u32)),(false,(.int .u32)),(false,(.int .u32)),(false,(.int .u32)),(false,(.int .u32)),(false,(.int .u32)),(false,(.int .u32)),(false,(.int .u32)),(false,(.int .u32)),(false,(.int .u32)),(false,(.int .u32)),(false,(.int .u32)),(false,(.int .u32)),(false,(.int .u32)),(false,(.int .u32)),(false,(.int .u32)),(false,(.int .u32)),(false,(.int .u32)),(false,(.int .u32)),(false,(.int .u32)),(false,(.int .u32)),(false,(.int .u32)),(false,(.int .u32)),(false,(.int .u32)),(false,(.int .u32)),(false,(.int .u32)),(false,(.int .u32)),(false,(.int .u32)),(false,(.int .u32)),(false,(.int .u32)),(false,(.int .u32)),(false,(.int .u32)),(false,(.int .u32)),(false,(.int .u32)),(false,(.int .u32)),(false,(.int .u32)),(false,(.int .u32)),(false,(.int .u32)),(false,(.int .u32)),(false,(.int .u32)),(false,(.int .u32)),(false,(.int .u32)),(false,(.int .u32)),(false,(.int .u32)),(false,(.int .u32)),(false,(.int .u32)),(false,(.int .u32)),(false,(.int .u32)),(false,(.int .u32)),(false,(.int .u32)),(false,(.int .u32)),(false,(.int .u32)),(false,(.int .u32)),(false,(.int .u32)),(false,(.int .u32)),(false,(.int .u32)),(false,(.int .u32)),(false,(.int .u32))]
noncomputable def Sq7:Sh:=.cell false (.sl 5 (.int .u8 .nil))
noncomputable def Sq8:Sh:=.cell false (.sl 9 (.str .nil))
noncomputable def Sq9:Sh:=.box [(false,(.sln 67 (.sl 9 (.str .nil) .nil))),(false,.str),(false,.str),(false,(.int .i64))]
noncomputable def aP:Sh:=.box [(false,.str),(false,(.int .i64)),(false,(.int .i64)),(true,(.bx Tq8))]
noncomputable def Afm:Sh:=.cell false (.sl 143 (.int .u32 .nil))
noncomputable def Agi:Sh:=.cell false (.sln 3 (.int .i64 .nil))
noncomputable def Aa9:Sh:=.agg [(false,(.int .i64)),(false,.str),(false,(.sl 74 (.sl 73 Tq0 .nil)))]
noncomputable def Afn:Sh:=.agg [(false,(.sl 85 Tq2)),(false,(.int .i64)),(false,.bool),(false,(.sl 74 (.sl 73 Tq0 .nil)))]
noncomputable def Adz:Sh:=.agg [(false,(.int .i64)),(false,(.int .i64)),(false,(.int .i64)),(false,(.int .i64)),(false,(.int .i64)),(false,(.int .i64))]
noncomputable def Afo:Sh:=.cell true (.sln 5 (.int .u8 .nil))
noncomputable def Agj:Sh:=.map (.str .nil) (.int .i64 .nil)
noncomputable def Gv:Sh:=.agg [(false,(.int .i64)),(false,.str),(false,.str)]
noncomputable def Afp:Sh:=.cell true (.sl 5 (.int .u8 .nil))
noncomputable def AaA:Sh:=.agg [(false,.str),(false,.bool),(false,.str)]
noncomputable def Ad0:Sh:=.agg [(false,(.sl 85 Tq2)),(false,.bool),(false,.bool),(false,(.int .i64)),(false,.bool)]
noncomputable def Agk:Sh:=.agg [(false,(.sl 67 (.sl 9 (.str .nil) .nil)))]
noncomputable def AaB:Sh:=.cell false (.sl 3 (.int .i64 .nil))
noncomputable def Ip:Sh:=.box [(false,(.sl 98 Tq5))]
noncomputable def Agl:Sh:=.box [(false,(.int .i64)),(false,(.int .i64)),(false,(.int .i64)),(false,(.int .i64)),(false,(.sl 74 (.sl 73 Tq0 .nil)))]
noncomputable def Ad1:Sh:=.box [(false,.str),(false,.str),(false,(.sl 74 (.sl 73 Tq0 .nil))),(false,(.int .i64)),(false,(.int .i64)),(false,(.int .i64)),(false,(.int .i64)),(false,.str),(false,.bool),(false,(.sl 85 Tq2)),(false,.bool),(false,.bool),(false,(.int .i64)),(false,.bool),(false,(.sl 134 Tq3)),(false,(.sl 35 Tq1)),(false,.str)]
noncomputable abbrev Ad (k:FuncId) (S:Sig):Prop:=Spec Tryz.prog k S
noncomputable abbrev Ag (gs:List (Nat×Sig)) (ns:List (Nat×Nrm)) (aa:List (Nat×Alt):=[]) (dd:List (Nat×(Nat->Sig)):=[]) (cc:List Nat:=[]) (bb:List Nat:=[]) (ss:List (Nat×Nat×Nat×List Nat):=[]) (kk:List (Nat×List (Nat×Nat)):=[]):Ctx:=ctx Tryz.prog gs ns aa dd cc bb ss kk
theorem Ah {f:FuncId} {pars ress:List Sh} {g:ShT pars->Option (ShT (outS pars ress))} (C:Ctx) (L:Lk) (fn:Func) (N:Nat) (hC:D5 Tryz.prog C) (hf:Tryz.prog.funcs[f]? =some fn:=by kernel_rfl) (hn:mG L fn=true:=by kernel_rfl) (hF: ∀ a,AfM N C L pars ress fn a=g a:=by intro a;kernel_rfl):Spec Tryz.prog f (Sig.of pars ress g):=Ti hC hf hn hF
noncomputable def Aj:Sh:=.cell false .str
noncomputable def Af:Sh:=.cell false (.int .i64)
noncomputable def AL:Sh:=.cell false .bool
