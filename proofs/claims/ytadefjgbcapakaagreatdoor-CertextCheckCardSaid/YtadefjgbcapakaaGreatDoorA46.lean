/-
  CertextCheck: the law returns true whatever the input; machine, functions, plain law (part 46 of 47.)
-/
import Derived.Test.YtadefjgbcapakaaGreatDoorA29
import Derived.Test.YtadefjgbcapakaaGreatDoorA43
import Derived.Test.YtadefjgbcapakaaGreatDoorA45
import Derived.Test.YtadefjgbcapakaaGreatDoorRows
import Derived.MakeChecks
import Derived.Test.YtadefjgbcapakaaGreatDoorCards
import Derived.Test.YtadefjgbcapakaaGreatDoorTie
import Derived.SevenTiedAt
import Derived.ProofKit
import Derived.OpenShut
import Derived.ChangeOld
import Derived.Carry
set_option linter.unusedVariables false
set_option linter.unusedSimpArgs false
namespace Go.Proofs.YtadefjgbcapakaaGreatDoor.certextCheck
open Go.ChangeShapes Go.WideShapes Go.ChangeAt Go.RowKit
open Go.Proofs.YtadefjgbcapakaaGreatDoor.Vm
theorem own:ownKnob Tryz.prog.godebug=none:=by kernel_rfl
theorem laidOut:laidOutB Tryz.prog=true:=by kernel_rfl
theorem AiE (w:World):laidMetH Tryz.prog tabs w=laidMet Tryz.prog tabs w:=MakeChecks.laidMetH_plain _ _ _ (by kernel_rfl)
theorem Ah6 (xs:List Pl.Pt) (h:okN 20 (.sl ⟨Tq2,xs⟩)): ∀ p∈xs,Pl.Abc p.2.1:=fun p hp=>by
  have h1:=h.2 (Tq2.cells p) (List.mem_map.2 ⟨p,hp,rfl⟩) (.int .i64 p.2.1)
  exact h1 (List.mem_cons_of_mem _ List.mem_cons_self)
set_option maxRecDepth 100000 in
theorem lifted (os:Os) (started:os.Started) (H:Type) (enc:TypeId×Value→H) :
    ReturnsInHanded {} Tryz.checked os 3 .any (fun w args=>(Rows.certextCheckSpec.pre enc Tryz.prog Tryz.f3 Rows.certextCheckRow.domain false w args∧laidMetH Tryz.prog tabs w)∧sizedMet enc Tryz.prog Tryz.f3 (OpenSpec.ofChange Rows.certextCheckSpec) false w args) (Rows.certextCheckSpec.post enc Tryz.prog Tryz.f3 false true false false):=by
  refine AfY (C:=Tryz.checked) (X:=fun w _=>laidMetH Tryz.prog tabs w) (fun _ _ _ hh h=>by rw[AiE]at h ⊢;exact h.of_heap hh) own started (by kernel_rfl) Tryz.func3
    (ChangeSpec.witness_at (enc:=enc) (C:=Tryz.checked) (os:=os) (X:=fun w _=>laidMetH Tryz.prog tabs w) false (laidWorld os) #[.agg #[.bool false,.bool false,.int .i64 0,.int .i64 0,.slice none 0 0,.slice none 0 0,.slice none 0 0,.int .i64 0,.int .i64 0,.int .i64 0,.slice none 0 0,.bool false,.slice none 0 0,.slice none 0 0,.string ByteArray.empty,.string ByteArray.empty,.slice none 0 0,.slice none 0 0,.slice none 0 0],.slice none 0 0] 8 rfl (by kernel_rfl) (by kernel_rfl) (by kernel_rfl) (by kernel_rfl) (by kernel_rfl) (by rw[AiE];exact laid_met os _)) ?_
  intro W base args ds gs before hval0 hW hsh hL
  have hval: ∀(j:Nat) t v,Tryz.f3.params[j]? =some t→args[j]? =some v→Value.okWide Tryz.prog W .any base t v:=hval0
  have hW':=hW
  obtain⟨p,q,hA0,hV,rfl,hfz,hnd⟩:=hW
  have hA:DataW.TrodAll enc Tryz.prog W 0 (fun _=>true) true Tryz.f3.params.toList args.toList ds p:=hA0
  rw[Tryz.params3]at hA hval
  obtain⟨v0,vs0,d0,ds0,p0,q0,hargs,rfl,rfl,h0,r0⟩:=trodAll_cons hA
  obtain⟨v1,vs1,d1,ds1,p1,q1,rfl,rfl,rfl,h1,r1⟩:=trodAll_cons r0
  obtain⟨rfl,rfl,rfl⟩:=trodAll_nil r1
  obtain rfl:args= #[v0,v1]:=by cases args;simp_all
  obtain⟨rfl,rfl⟩:=trodVars_none hV
  have hlt0: ∀ x∈p0,x.block<W.heap.size:=fun x hx=>by have:=hW'.lt x (by simp [hx]);simpa using this
  have hk0:=h0
  obtain⟨c0,aa0,rfl,op0⟩:=Amb (n:=20) (t:=30) (ks:=[.bool,.bool,(.int .i64),(.int .i64),(.sl 9 (.str .nil)),(.sl 9 (.str .nil)),(.sl 74 (.str (.str .nil))),(.int .i64),(.int .i64),(.int .i64),(.sl 80 Tq1),.bool,(.sl 80 Tq1),(.sl 80 Tq1),.str,.str,(.sl 111 Tq2),(.sl 111 Tq2),(.sl 60 Tq3)]) (by kernel_rfl) (fun _=>rfl) (by kernel_rfl) (by kernel_rfl) (hval 0 30 v0 rfl rfl) h0
  obtain⟨x0,rfl⟩: ∃ x:Bool×Bool×Int×Int×List Bs×List Bs×(List (Bs×Bs))×Int×Int×Int×List Yq1×Bool×List Yq1×List Yq1×Bs×Bs×List Yq2×List Yq2×List (Bs×Bool×Bs),aa0=[.bool x.1,.bool x.2.1,.int .i64 x.2.2.1,.int .i64 x.2.2.2.1,.sl ⟨(.str .nil),x.2.2.2.2.1⟩,.sl ⟨(.str .nil),x.2.2.2.2.2.1⟩,.sl ⟨(.str (.str .nil)),x.2.2.2.2.2.2.1⟩,.int .i64 x.2.2.2.2.2.2.2.1,.int .i64 x.2.2.2.2.2.2.2.2.1,.int .i64 x.2.2.2.2.2.2.2.2.2.1,.sl ⟨(.int .i64 (.str (.sl 175 (.sl 177 Tq0 .nil) .nil))),x.2.2.2.2.2.2.2.2.2.2.1⟩,.bool x.2.2.2.2.2.2.2.2.2.2.2.1,.sl ⟨(.int .i64 (.str (.sl 175 (.sl 177 Tq0 .nil) .nil))),x.2.2.2.2.2.2.2.2.2.2.2.2.1⟩,.sl ⟨(.int .i64 (.str (.sl 175 (.sl 177 Tq0 .nil) .nil))),x.2.2.2.2.2.2.2.2.2.2.2.2.2.1⟩,.str x.2.2.2.2.2.2.2.2.2.2.2.2.2.2.1,.str x.2.2.2.2.2.2.2.2.2.2.2.2.2.2.2.1,.sl ⟨(.sl 80 Tq1 (.int .i64 (.bool (.sl 175 (.sl 177 Tq0 .nil) .nil)))),x.2.2.2.2.2.2.2.2.2.2.2.2.2.2.2.2.1⟩,.sl ⟨(.sl 80 Tq1 (.int .i64 (.bool (.sl 175 (.sl 177 Tq0 .nil) .nil)))),x.2.2.2.2.2.2.2.2.2.2.2.2.2.2.2.2.2.1⟩,.sl ⟨(.str (.bool (.str .nil))),x.2.2.2.2.2.2.2.2.2.2.2.2.2.2.2.2.2.2⟩]:=⟨((tyl [.bool,.bool,(.int .i64),(.int .i64),(.sl 9 (.str .nil)),(.sl 9 (.str .nil)),(.sl 74 (.str (.str .nil))),(.int .i64),(.int .i64),(.int .i64),(.sl 80 Tq1),.bool,(.sl 80 Tq1),(.sl 80 Tq1),.str,.str,(.sl 111 Tq2),(.sl 111 Tq2),(.sl 60 Tq3)]).mk aa0).2,(Ty.Ob _ _ op0.made).symm⟩
  have hlt1: ∀ x∈p1,x.block<W.heap.size:=fun x hx=>by have:=hW'.lt x (by simp [hx]);simpa using this
  have hk1:=h1
  obtain⟨a1,re1,ma1,b1⟩:=open_cell (n:=20) (t:=31) (k:=(.sl 3 (.int .i64 .nil))) (by kernel_rfl) (fun _=>rfl) (by kernel_rfl) (by kernel_rfl) (hval 1 31 v1 rfl rfl) h1
  obtain⟨x1,rfl⟩: ∃ x:List Int,a1= .sl ⟨(.int .i64 .nil),x⟩:=⟨((tyl [(.sl 3 (.int .i64 .nil))]).mk [a1]).2,(List.cons.inj (Ty.Ob _ _ ma1)).1.symm⟩
  clear hA0 hval0
  simp only[List.append_nil]at hW'
  have hF:(Sig.of [.agg [(false,.bool),(false,.bool),(false,(.int .i64)),(false,(.int .i64)),(false,(.sl 9 (.str .nil))),(false,(.sl 9 (.str .nil))),(false,(.sl 74 (.str (.str .nil)))),(false,(.int .i64)),(false,(.int .i64)),(false,(.int .i64)),(false,(.sl 80 Tq1)),(false,.bool),(false,(.sl 80 Tq1)),(false,(.sl 80 Tq1)),(false,.str),(false,.str),(false,(.sl 111 Tq2)),(false,(.sl 111 Tq2)),(false,(.sl 60 Tq3))],.cell false (.sl 3 (.int .i64 .nil))] [.cell false .bool] (fun a=>FM 2097152 a.1 a.2)).F [.agg [.bool x0.1,.bool x0.2.1,.int .i64 x0.2.2.1,.int .i64 x0.2.2.2.1,.sl ⟨(.str .nil),x0.2.2.2.2.1⟩,.sl ⟨(.str .nil),x0.2.2.2.2.2.1⟩,.sl ⟨(.str (.str .nil)),x0.2.2.2.2.2.2.1⟩,.int .i64 x0.2.2.2.2.2.2.2.1,.int .i64 x0.2.2.2.2.2.2.2.2.1,.int .i64 x0.2.2.2.2.2.2.2.2.2.1,.sl ⟨(.int .i64 (.str (.sl 175 (.sl 177 Tq0 .nil) .nil))),x0.2.2.2.2.2.2.2.2.2.2.1⟩,.bool x0.2.2.2.2.2.2.2.2.2.2.2.1,.sl ⟨(.int .i64 (.str (.sl 175 (.sl 177 Tq0 .nil) .nil))),x0.2.2.2.2.2.2.2.2.2.2.2.2.1⟩,.sl ⟨(.int .i64 (.str (.sl 175 (.sl 177 Tq0 .nil) .nil))),x0.2.2.2.2.2.2.2.2.2.2.2.2.2.1⟩,.str x0.2.2.2.2.2.2.2.2.2.2.2.2.2.2.1,.str x0.2.2.2.2.2.2.2.2.2.2.2.2.2.2.2.1,.sl ⟨(.sl 80 Tq1 (.int .i64 (.bool (.sl 175 (.sl 177 Tq0 .nil) .nil)))),x0.2.2.2.2.2.2.2.2.2.2.2.2.2.2.2.2.1⟩,.sl ⟨(.sl 80 Tq1 (.int .i64 (.bool (.sl 175 (.sl 177 Tq0 .nil) .nil)))),x0.2.2.2.2.2.2.2.2.2.2.2.2.2.2.2.2.2.1⟩,.sl ⟨(.str (.bool (.str .nil))),x0.2.2.2.2.2.2.2.2.2.2.2.2.2.2.2.2.2.2⟩],.sl ⟨(.int .i64 .nil),x1⟩]=some [.bool true] :=
    Sig.Ao8 (Ah:=[.agg [(false,.bool),(false,.bool),(false,(.int .i64)),(false,(.int .i64)),(false,(.sl 9 (.str .nil))),(false,(.sl 9 (.str .nil))),(false,(.sl 74 (.str (.str .nil)))),(false,(.int .i64)),(false,(.int .i64)),(false,(.int .i64)),(false,(.sl 80 Tq1)),(false,.bool),(false,(.sl 80 Tq1)),(false,(.sl 80 Tq1)),(false,.str),(false,.str),(false,(.sl 111 Tq2)),(false,(.sl 111 Tq2)),(false,(.sl 60 Tq3))],.cell false (.sl 3 (.int .i64 .nil))]) (AL:=[.cell false .bool]) (f:=fun a=>FM 2097152 a.1 a.2) (a:=(x0,x1)) (o:=true) rfl (Pl.AjK 2097152 (by decide) x0 x1 b1.1 (Ah6 _ (op0.ok _ (List.mem_iff_getElem?.2 ⟨16,rfl⟩))) (Ah6 _ (op0.ok _ (List.mem_iff_getElem?.2 ⟨17,rfl⟩))))
  refine(Akv (Vw 2097152) (xs:=[.agg [.bool x0.1,.bool x0.2.1,.int .i64 x0.2.2.1,.int .i64 x0.2.2.2.1,.sl ⟨(.str .nil),x0.2.2.2.2.1⟩,.sl ⟨(.str .nil),x0.2.2.2.2.2.1⟩,.sl ⟨(.str (.str .nil)),x0.2.2.2.2.2.2.1⟩,.int .i64 x0.2.2.2.2.2.2.2.1,.int .i64 x0.2.2.2.2.2.2.2.2.1,.int .i64 x0.2.2.2.2.2.2.2.2.2.1,.sl ⟨(.int .i64 (.str (.sl 175 (.sl 177 Tq0 .nil) .nil))),x0.2.2.2.2.2.2.2.2.2.2.1⟩,.bool x0.2.2.2.2.2.2.2.2.2.2.2.1,.sl ⟨(.int .i64 (.str (.sl 175 (.sl 177 Tq0 .nil) .nil))),x0.2.2.2.2.2.2.2.2.2.2.2.2.1⟩,.sl ⟨(.int .i64 (.str (.sl 175 (.sl 177 Tq0 .nil) .nil))),x0.2.2.2.2.2.2.2.2.2.2.2.2.2.1⟩,.str x0.2.2.2.2.2.2.2.2.2.2.2.2.2.2.1,.str x0.2.2.2.2.2.2.2.2.2.2.2.2.2.2.2.1,.sl ⟨(.sl 80 Tq1 (.int .i64 (.bool (.sl 175 (.sl 177 Tq0 .nil) .nil)))),x0.2.2.2.2.2.2.2.2.2.2.2.2.2.2.2.2.1⟩,.sl ⟨(.sl 80 Tq1 (.int .i64 (.bool (.sl 175 (.sl 177 Tq0 .nil) .nil)))),x0.2.2.2.2.2.2.2.2.2.2.2.2.2.2.2.2.2.1⟩,.sl ⟨(.str (.bool (.str .nil))),x0.2.2.2.2.2.2.2.2.2.2.2.2.2.2.2.2.2.2⟩],.sl ⟨(.int .i64 .nil),x1⟩]) hF rfl rfl rfl (by show 2≤100;omega) (fun j hj=> ?_) (inv_of hsh ((AiE W).mp hL))).mono fun e W' ⟨he,bel⟩=> ?_
  ·have hj':j<2:=hj
   have:j=0∨j=1:=by omega
   rcases this with rfl | rfl
   ·exact op0.ir _
   ·exact re1.ir
  subst he
  exact⟨_,rfl,_,_,_,[],_,[],hW',trodAll_mk1 (shut_bool Tryz.underlying4 _),(trodAll_cons_mk (Below.trod laidOut (by kernel_rfl) (of_decide_eq_true (by kernel_rfl)) hk0 bel hlt0) (trodAll_cons_mk (Below.trod laidOut (by kernel_rfl) (of_decide_eq_true (by kernel_rfl)) hk1 bel hlt1) trodAll_mk0)),rfl,bel.frame _,fun h=>by cases h⟩
