import Derived.Test.YtbnphelpndnnfabGreatDoorA17
import Derived.Test.YtbnphelpndnnfabGreatDoorA20
import Derived.Test.YtbnphelpndnnfabGreatDoorA22
import Derived.MakeChecks
import Derived.Test.YtbnphelpndnnfabGreatDoorCards
import Derived.SevenTiedAt
import Derived.OpenShut
import Derived.ChangeOld
set_option linter.all false
namespace Go.Proofs.YtbnphelpndnnfabGreatDoor.bundleBack
open Go.ChangeShapes Go.WideShapes Go.ChangeAt Go.RowKit
open Go.Proofs.YtbnphelpndnnfabGreatDoor.Vm
theorem own:ownKnob Tryz.prog.godebug=none:=by kernel_rfl
theorem laidOut:laidOutB Tryz.prog=true:=by kernel_rfl
theorem AmC (w:World):laidMetH Tryz.prog tabs w=laidMet Tryz.prog tabs w:=MakeChecks.laidMetH_plain _ _ _ (by kernel_rfl)
set_option maxRecDepth 100000 in
theorem lifted (os:Os) (started:os.Started) (H:Type) (enc:TypeId×Value->H) :
    ReturnsInHanded {} Tryz.checked os 4 .any (fun w args=>(Rows.bundleBackSpec.pre enc Tryz.prog Tryz.f4 Rows.bundleBackRow.domain false w args/\laidMetH Tryz.prog tabs w)/\sizedMet enc Tryz.prog Tryz.f4 (OpenSpec.ofChange Rows.bundleBackSpec) false w args) (Rows.bundleBackSpec.post enc Tryz.prog Tryz.f4 false true false false):=by
  refine AjZ (C:=Tryz.checked) (X:=fun w _=>laidMetH Tryz.prog tabs w) (fun _ _ _ hh h=>by rw[AmC]at h ⊢;exact h.of_heap hh) own started (by kernel_rfl) Tryz.func4
    (ChangeSpec.witness_at (enc:=enc) (C:=Tryz.checked) (os:=os) (X:=fun w _=>laidMetH Tryz.prog tabs w) false (laidWorld os) #[.slice none 0 0] 8 rfl (by kernel_rfl) (by kernel_rfl) (by kernel_rfl) (by kernel_rfl) (by kernel_rfl) (by rw[AmC];exact laid_met os _)) ?_
  intro W base args ds gs before hval0 hW hsh hL
  have hval: ∀(j:Nat) t v,Tryz.f4.params[j]? =some t->args[j]? =some v->Value.okWide Tryz.prog W .any base t v:=hval0
  have hW':=hW
  obtain⟨p,q,hA0,hV,rfl,hfz,hnd⟩:=hW
  have hA:DataW.TrodAll enc Tryz.prog W 0 (fun _=>true) true Tryz.f4.params.toList args.toList ds p:=hA0
  rw[Tryz.params4]at hA hval
  obtain⟨v0,vs0,d0,ds0,p0,q0,hargs,rfl,rfl,h0,r0⟩:=trodAll_cons hA
  obtain⟨rfl,rfl,rfl⟩:=trodAll_nil r0
  obtain rfl:args= #[v0]:=by cases args;simp_all
  obtain⟨rfl,rfl⟩:=trodVars_none hV
  have hlt0: ∀ x∈p0,x.block<W.heap.size:=fun x hx=>by have:=hW'.lt x (by simp [hx]);simpa using this
  have hk0:=h0
  obtain⟨a0,re0,ma0,b0⟩:=open_cell (n:=20) (t:=24) (k:=(.sl 3 (.int .i64 .nil))) (by kernel_rfl) (fun _=>rfl) (by kernel_rfl) (by kernel_rfl) (hval 0 24 v0 rfl rfl) h0
  obtain⟨x0,rfl⟩: ∃ x:List Int,a0= .sl ⟨(.int .i64 .nil),x⟩:=⟨((tyl [(.sl 3 (.int .i64 .nil))]).mk [a0]).2,(List.cons.inj (Ty.Ny _ _ ma0)).1.symm⟩
  clear hA0 hval0
  simp only[List.append_nil]at hW'
  have hF:(Sig.of [.cell false (.sl 3 (.int .i64 .nil))] [.cell false .bool] (fun a=>G8 2097152 a)).F [.sl ⟨(.int .i64 .nil),x0⟩]=some [.bool true] :=
    Sig.Asd (Dv:=[.cell false (.sl 3 (.int .i64 .nil))]) (DI:=[.cell false .bool]) (f:=fun a=>G8 2097152 a) (a:=(x0)) (o:=true) rfl (Pl.AlH x0 b0.1)
  refine(Aop (gV 2097152) (xs:=[.sl ⟨(.int .i64 .nil),x0⟩]) hF rfl rfl rfl (by show 1<=100;omega) (fun j hj=> ?_) (inv_of hsh ((AmC W).mp hL))).mono fun e W' ⟨he,bel⟩=> ?_
  ·have hj':j<1:=hj
   have:j=0:=by omega
   rcases this with rfl
   ·exact re0.ir
  subst he
  exact⟨_,rfl,_,_,_,[],_,[],hW',trodAll_mk1 (shut_bool Tryz.underlying4 _),(trodAll_cons_mk (Below.trod laidOut (by kernel_rfl) (of_decide_eq_true (by kernel_rfl)) hk0 bel hlt0) trodAll_mk0),rfl,bel.frame _,fun h=>by cases h⟩
