import Derived.Test.YtfgdgdnlglejbaaGreatDoorA17
import Derived.Test.YtfgdgdnlglejbaaGreatDoorA22
import Derived.Test.YtfgdgdnlglejbaaGreatDoorA24
import Derived.MakeChecks
import Derived.Test.YtfgdgdnlglejbaaGreatDoorCards
import Derived.SevenTiedAt
import Derived.OpenShut
import Derived.ChangeOld
set_option linter.all false
namespace Go.Proofs.YtfgdgdnlglejbaaGreatDoor.certSeal
open Go.ChangeShapes Go.WideShapes Go.ChangeAt Go.RowKit
open Go.Proofs.YtfgdgdnlglejbaaGreatDoor.Vm
theorem own:ownKnob Tryz.prog.godebug=none:=by kernel_rfl
theorem laidOut:laidOutB Tryz.prog=true:=by kernel_rfl
theorem Ao7 (w:World):laidMetH Tryz.prog tabs w=laidMet Tryz.prog tabs w:=MakeChecks.laidMetH_plain _ _ _ (by kernel_rfl)
set_option maxRecDepth 100000 in
theorem lifted (os:Os) (started:os.Started) (H:Type) (enc:TypeId×Value->H) :
 ReturnsInHanded {} Tryz.checked os 4 .any (fun w args=>(Rows.certSealSpec.pre enc Tryz.prog Tryz.f4 Rows.certSealRow.domain false w args/\laidMetH Tryz.prog tabs w)/\sizedMet enc Tryz.prog Tryz.f4 (OpenSpec.ofChange Rows.certSealSpec) false w args) (Rows.certSealSpec.post enc Tryz.prog Tryz.f4 false true false false):=by
 refine Alv (C:=Tryz.checked) (X:=fun w _=>laidMetH Tryz.prog tabs w) (fun _ _ _ hh h=>by rw[Ao7]at h ⊢;exact h.of_heap hh) own started (by kernel_rfl) Tryz.func4
  (ChangeSpec.witness_at (enc:=enc) (C:=Tryz.checked) (os:=os) (X:=fun w _=>laidMetH Tryz.prog tabs w) false (laidWorld os) #[.string ByteArray.empty,.string ByteArray.empty,.slice none 0 0] 8 rfl (by kernel_rfl) (by kernel_rfl) (by kernel_rfl) (by kernel_rfl) (by kernel_rfl) (by rw[Ao7];exact laid_met os _)) ?_
 intro W base args ds gs before hval0 hW hsh hL;have hval: ∀(j:Nat) t v,Tryz.f4.params[j]? =some t->args[j]? =some v->Value.okWide Tryz.prog W .any base t v:=hval0;have hW':=hW;obtain⟨p,q,hA0,hV,rfl,hfz,hnd⟩:=hW;have hA:DataW.TrodAll enc Tryz.prog W 0 (fun _=>true) true Tryz.f4.params.toList args.toList ds p:=hA0;rw[Tryz.params4]at hA hval;obtain⟨v0,vs0,d0,ds0,p0,q0,hargs,rfl,rfl,h0,r0⟩:=trodAll_cons hA;obtain⟨v1,vs1,d1,ds1,p1,q1,rfl,rfl,rfl,h1,r1⟩:=trodAll_cons r0;obtain⟨v2,vs2,d2,ds2,p2,q2,rfl,rfl,rfl,h2,r2⟩:=trodAll_cons r1;obtain⟨rfl,rfl,rfl⟩:=trodAll_nil r2;obtain rfl:args= #[v0,v1,v2]:=by cases args;simp_all
 obtain⟨rfl,rfl⟩:=trodVars_none hV;have hlt0: ∀ x∈p0,x.block<W.heap.size:=fun x hx=>by have:=hW'.lt x (by simp [hx]);simpa using this
 have hk0:=h0;obtain⟨a0,re0,ma0,b0⟩:=open_cell (n:=20) (t:=9) (k:=.str) (by kernel_rfl) (fun _=>rfl) (by kernel_rfl) (by kernel_rfl) (hval 0 9 v0 rfl rfl) h0;obtain⟨x0,rfl⟩: ∃ x:Bs,a0= .str x:=⟨((tyl [.str]).mk [a0]).2,(List.cons.inj (Ty.LH _ _ ma0)).1.symm⟩
 have hlt1: ∀ x∈p1,x.block<W.heap.size:=fun x hx=>by have:=hW'.lt x (by simp [hx]);simpa using this
 have hk1:=h1;obtain⟨a1,re1,ma1,b1⟩:=open_cell (n:=20) (t:=9) (k:=.str) (by kernel_rfl) (fun _=>rfl) (by kernel_rfl) (by kernel_rfl) (hval 1 9 v1 rfl rfl) h1;obtain⟨x1,rfl⟩: ∃ x:Bs,a1= .str x:=⟨((tyl [.str]).mk [a1]).2,(List.cons.inj (Ty.LH _ _ ma1)).1.symm⟩
 have hlt2: ∀ x∈p2,x.block<W.heap.size:=fun x hx=>by have:=hW'.lt x (by simp [hx]);simpa using this
 have hk2:=h2;obtain⟨a2,re2,ma2,b2⟩:=open_cell (n:=20) (t:=22) (k:=(.sl 3 (.int .i64 .nil))) (by kernel_rfl) (fun _=>rfl) (by kernel_rfl) (by kernel_rfl) (hval 2 22 v2 rfl rfl) h2;obtain⟨x2,rfl⟩: ∃ x:List Int,a2= .sl ⟨(.int .i64 .nil),x⟩:=⟨((tyl [(.sl 3 (.int .i64 .nil))]).mk [a2]).2,(List.cons.inj (Ty.LH _ _ ma2)).1.symm⟩
 clear hA0 hval0;simp only[List.append_nil]at hW'
 have hF:(Sig.of [.cell false .str,.cell false .str,.cell false (.sl 3 (.int .i64 .nil))] [.cell false .bool] (fun a=>JR 2097152 a.1 a.2.1 a.2.2)).F [.str x0,.str x1,.sl ⟨(.int .i64 .nil),x2⟩]=some [.bool true] :=
  Sig.Asg (Dx:=[.cell false .str,.cell false .str,.cell false (.sl 3 (.int .i64 .nil))]) (DL:=[.cell false .bool]) (f:=fun a=>JR 2097152 a.1 a.2.1 a.2.2) (a:=(x0,x1,x2)) (o:=true) rfl (Pl.Ape x0 x1 x2 b2.1)
 refine(Aqv (wU 2097152) (xs:=[.str x0,.str x1,.sl ⟨(.int .i64 .nil),x2⟩]) hF rfl rfl rfl (by show 3<=100;omega) (fun j hj=> ?_) (inv_of hsh ((Ao7 W).mp hL))).mono fun e W' ⟨he,bel⟩=> ?_
 ·have hj':j<3:=hj;have:j=0\/j=1\/j=2:=by omega
  rcases this with rfl | rfl | rfl
  ·exact re0.ir
  ·exact re1.ir
  ·exact re2.ir
 subst he;exact⟨_,rfl,_,_,_,[],_,[],hW',trodAll_mk1 (shut_bool Tryz.underlying4 _),(trodAll_cons_mk (Below.trod laidOut (by kernel_rfl) (of_decide_eq_true (by kernel_rfl)) hk0 bel hlt0) (trodAll_cons_mk (Below.trod laidOut (by kernel_rfl) (of_decide_eq_true (by kernel_rfl)) hk1 bel hlt1) (trodAll_cons_mk (Below.trod laidOut (by kernel_rfl) (of_decide_eq_true (by kernel_rfl)) hk2 bel hlt2) trodAll_mk0))),rfl,bel.frame _,fun h=>by cases h⟩
