import Derived.Test.YtbaomhegdndpnaaGreatDoorA20
import Derived.Test.YtbaomhegdndpnaaGreatDoorA23
import Derived.Test.YtbaomhegdndpnaaGreatDoorA25
import Derived.MakeChecks
import Derived.Test.YtbaomhegdndpnaaGreatDoorCards
import Derived.SevenTiedAt
import Derived.OpenShut
import Derived.ChangeOld
set_option linter.all false
namespace Go.Proofs.YtbaomhegdndpnaaGreatDoor.crlFind
open Go.ChangeShapes Go.WideShapes Go.ChangeAt Go.RowKit
open Go.Proofs.YtbaomhegdndpnaaGreatDoor.Vm
theorem own:ownKnob Tryz.prog.godebug=none:=by kernel_rfl
theorem laidOut:laidOutB Tryz.prog=true:=by kernel_rfl
theorem AbX (w:World):laidMetH Tryz.prog tabs w=laidMet Tryz.prog tabs w:=MakeChecks.laidMetH_plain _ _ _ (by kernel_rfl)
set_option maxRecDepth 100000 in
theorem lifted (os:Os) (started:os.Started) (H:Type) (enc:TypeId×Value->H) :
    ReturnsInHanded {} Tryz.checked os 4 .any (fun w args=>(Rows.crlFindSpec.pre enc Tryz.prog Tryz.f4 Rows.crlFindRow.domain false w args/\laidMetH Tryz.prog tabs w)/\sizedMet enc Tryz.prog Tryz.f4 (OpenSpec.ofChange Rows.crlFindSpec) false w args) (Rows.crlFindSpec.post enc Tryz.prog Tryz.f4 false true false false):=by
  refine yZ (C:=Tryz.checked) (X:=fun w _=>laidMetH Tryz.prog tabs w) (fun _ _ _ hh h=>by rw[AbX]at h ⊢;exact h.of_heap hh) own started (by kernel_rfl) Tryz.func4
    (ChangeSpec.witness_at (enc:=enc) (C:=Tryz.checked) (os:=os) (X:=fun w _=>laidMetH Tryz.prog tabs w) false (laidWorld os) #[.agg #[.string ByteArray.empty,.string ByteArray.empty,.slice none 0 0,.int .i64 0,.int .i64 0,.int .i64 0,.int .i64 0,.string ByteArray.empty,.bool false,.slice none 0 0,.bool false,.bool false,.int .i64 0,.bool false,.slice none 0 0,.slice none 0 0,.string ByteArray.empty],.agg #[.slice none 0 0],.int .i64 0,.slice none 0 0,.int .i64 0,.int .u8 0] 8 rfl (by kernel_rfl) (by kernel_rfl) (by kernel_rfl) (by kernel_rfl) (by kernel_rfl) (by rw[AbX];exact laid_met os _)) ?_
  intro W base args ds gs before hval0 hW hsh hL
  have hval: ∀(j:Nat) t v,Tryz.f4.params[j]? =some t->args[j]? =some v->Value.okWide Tryz.prog W .any base t v:=hval0
  have hW':=hW
  obtain⟨p,q,hA0,hV,rfl,hfz,hnd⟩:=hW
  have hA:DataW.TrodAll enc Tryz.prog W 0 (fun _=>true) true Tryz.f4.params.toList args.toList ds p:=hA0
  rw[Tryz.params4]at hA hval
  obtain⟨v0,vs0,d0,ds0,p0,q0,hargs,rfl,rfl,h0,r0⟩:=trodAll_cons hA
  obtain⟨v1,vs1,d1,ds1,p1,q1,rfl,rfl,rfl,h1,r1⟩:=trodAll_cons r0
  obtain⟨v2,vs2,d2,ds2,p2,q2,rfl,rfl,rfl,h2,r2⟩:=trodAll_cons r1
  obtain⟨v3,vs3,d3,ds3,p3,q3,rfl,rfl,rfl,h3,r3⟩:=trodAll_cons r2
  obtain⟨v4,vs4,d4,ds4,p4,q4,rfl,rfl,rfl,h4,r4⟩:=trodAll_cons r3
  obtain⟨v5,vs5,d5,ds5,p5,q5,rfl,rfl,rfl,h5,r5⟩:=trodAll_cons r4
  obtain⟨rfl,rfl,rfl⟩:=trodAll_nil r5
  obtain rfl:args= #[v0,v1,v2,v3,v4,v5]:=by cases args;simp_all
  obtain⟨rfl,rfl⟩:=trodVars_none hV
  have hlt0: ∀ x∈p0,x.block<W.heap.size:=fun x hx=>by have:=hW'.lt x (by simp [hx]);simpa using this
  have hk0:=h0
  obtain⟨c0,aa0,rfl,op0⟩:=yJ (n:=20) (t:=33) (ks:=[.str,.str,(.sl 74 (.sl 73 Tq0 .nil)),(.int .i64),(.int .i64),(.int .i64),(.int .i64),.str,.bool,(.sl 85 Tq2),.bool,.bool,(.int .i64),.bool,(.sl 134 Tq3),(.sl 35 Tq1),.str]) (by kernel_rfl) (fun _=>rfl) (by kernel_rfl) (by kernel_rfl) (hval 0 33 v0 rfl rfl) h0
  obtain⟨x0,rfl⟩: ∃ x:Bs×Bs×List Yq0×Int×Int×Int×Int×Bs×Bool×List Yq2×Bool×Bool×Int×Bool×List Yq3×List Yq1×Bs,aa0=[.str x.1,.str x.2.1,.sl ⟨(.sl 73 Tq0 .nil),x.2.2.1⟩,.int .i64 x.2.2.2.1,.int .i64 x.2.2.2.2.1,.int .i64 x.2.2.2.2.2.1,.int .i64 x.2.2.2.2.2.2.1,.str x.2.2.2.2.2.2.2.1,.bool x.2.2.2.2.2.2.2.2.1,.sl ⟨(.int .i64 (.str (.sl 74 (.sl 73 Tq0 .nil) .nil))),x.2.2.2.2.2.2.2.2.2.1⟩,.bool x.2.2.2.2.2.2.2.2.2.2.1,.bool x.2.2.2.2.2.2.2.2.2.2.2.1,.int .i64 x.2.2.2.2.2.2.2.2.2.2.2.2.1,.bool x.2.2.2.2.2.2.2.2.2.2.2.2.2.1,.sl ⟨(.sl 85 Tq2 (.int .i64 (.bool (.sl 74 (.sl 73 Tq0 .nil) .nil)))),x.2.2.2.2.2.2.2.2.2.2.2.2.2.2.1⟩,.sl ⟨(.int .i64 (.int .i64 (.int .i64 (.int .i64 (.sl 74 (.sl 73 Tq0 .nil) .nil))))),x.2.2.2.2.2.2.2.2.2.2.2.2.2.2.2.1⟩,.str x.2.2.2.2.2.2.2.2.2.2.2.2.2.2.2.2]:=⟨((tyl [.str,.str,(.sl 74 (.sl 73 Tq0 .nil)),(.int .i64),(.int .i64),(.int .i64),(.int .i64),.str,.bool,(.sl 85 Tq2),.bool,.bool,(.int .i64),.bool,(.sl 134 Tq3),(.sl 35 Tq1),.str]).mk aa0).2,(Ty.Ej _ _ op0.made).symm⟩
  have hlt1: ∀ x∈p1,x.block<W.heap.size:=fun x hx=>by have:=hW'.lt x (by simp [hx]);simpa using this
  have hk1:=h1
  obtain⟨c1,aa1,rfl,op1⟩:=yJ (n:=20) (t:=25) (ks:=[(.sl 74 (.sl 73 Tq0 .nil))]) (by kernel_rfl) (fun _=>rfl) (by kernel_rfl) (by kernel_rfl) (hval 1 25 v1 rfl rfl) h1
  obtain⟨x1,rfl⟩: ∃ x:List Yq0,aa1=[.sl ⟨(.sl 73 Tq0 .nil),x⟩]:=⟨((tyl [(.sl 74 (.sl 73 Tq0 .nil))]).mk aa1).2,(Ty.Ej _ _ op1.made).symm⟩
  have hlt2: ∀ x∈p2,x.block<W.heap.size:=fun x hx=>by have:=hW'.lt x (by simp [hx]);simpa using this
  have hk2:=h2
  obtain⟨a2,re2,ma2,b2⟩:=open_cell (n:=20) (t:=3) (k:=(.int .i64)) (by kernel_rfl) (fun _=>rfl) (by kernel_rfl) (by kernel_rfl) (hval 2 3 v2 rfl rfl) h2
  obtain⟨x2,rfl⟩: ∃ x:Int,a2= .int .i64 x:=⟨((tyl [(.int .i64)]).mk [a2]).2,(List.cons.inj (Ty.Ej _ _ ma2)).1.symm⟩
  have hlt3: ∀ x∈p3,x.block<W.heap.size:=fun x hx=>by have:=hW'.lt x (by simp [hx]);simpa using this
  have hk3:=h3
  obtain⟨a3,re3,ma3,b3⟩:=open_cell (n:=20) (t:=22) (k:=(.sl 3 (.int .i64 .nil))) (by kernel_rfl) (fun _=>rfl) (by kernel_rfl) (by kernel_rfl) (hval 3 22 v3 rfl rfl) h3
  obtain⟨x3,rfl⟩: ∃ x:List Int,a3= .sl ⟨(.int .i64 .nil),x⟩:=⟨((tyl [(.sl 3 (.int .i64 .nil))]).mk [a3]).2,(List.cons.inj (Ty.Ej _ _ ma3)).1.symm⟩
  have hlt4: ∀ x∈p4,x.block<W.heap.size:=fun x hx=>by have:=hW'.lt x (by simp [hx]);simpa using this
  have hk4:=h4
  obtain⟨a4,re4,ma4,b4⟩:=open_cell (n:=20) (t:=3) (k:=(.int .i64)) (by kernel_rfl) (fun _=>rfl) (by kernel_rfl) (by kernel_rfl) (hval 4 3 v4 rfl rfl) h4
  obtain⟨x4,rfl⟩: ∃ x:Int,a4= .int .i64 x:=⟨((tyl [(.int .i64)]).mk [a4]).2,(List.cons.inj (Ty.Ej _ _ ma4)).1.symm⟩
  have hlt5: ∀ x∈p5,x.block<W.heap.size:=fun x hx=>by have:=hW'.lt x (by simp [hx]);simpa using this
  have hk5:=h5
  obtain⟨a5,re5,ma5,b5⟩:=open_cell (n:=20) (t:=5) (k:=(.int .u8)) (by kernel_rfl) (fun _=>rfl) (by kernel_rfl) (by kernel_rfl) (hval 5 5 v5 rfl rfl) h5
  obtain⟨x5,rfl⟩: ∃ x:Int,a5= .int .u8 x:=⟨((tyl [(.int .u8)]).mk [a5]).2,(List.cons.inj (Ty.Ej _ _ ma5)).1.symm⟩
  clear hA0 hval0
  simp only[List.append_nil]at hW'
  have hF:(Sig.of [.agg [(false,.str),(false,.str),(false,(.sl 74 (.sl 73 Tq0 .nil))),(false,(.int .i64)),(false,(.int .i64)),(false,(.int .i64)),(false,(.int .i64)),(false,.str),(false,.bool),(false,(.sl 85 Tq2)),(false,.bool),(false,.bool),(false,(.int .i64)),(false,.bool),(false,(.sl 134 Tq3)),(false,(.sl 35 Tq1)),(false,.str)],.agg [(false,(.sl 74 (.sl 73 Tq0 .nil)))],.cell false (.int .i64),.cell false (.sl 3 (.int .i64 .nil)),.cell false (.int .i64),.cell false (.int .u8)] [.cell false .bool] (fun a=>FC 2097152 a.1 a.2.1 a.2.2.1 a.2.2.2.1 a.2.2.2.2.1 a.2.2.2.2.2)).F [.agg [.str x0.1,.str x0.2.1,.sl ⟨(.sl 73 Tq0 .nil),x0.2.2.1⟩,.int .i64 x0.2.2.2.1,.int .i64 x0.2.2.2.2.1,.int .i64 x0.2.2.2.2.2.1,.int .i64 x0.2.2.2.2.2.2.1,.str x0.2.2.2.2.2.2.2.1,.bool x0.2.2.2.2.2.2.2.2.1,.sl ⟨(.int .i64 (.str (.sl 74 (.sl 73 Tq0 .nil) .nil))),x0.2.2.2.2.2.2.2.2.2.1⟩,.bool x0.2.2.2.2.2.2.2.2.2.2.1,.bool x0.2.2.2.2.2.2.2.2.2.2.2.1,.int .i64 x0.2.2.2.2.2.2.2.2.2.2.2.2.1,.bool x0.2.2.2.2.2.2.2.2.2.2.2.2.2.1,.sl ⟨(.sl 85 Tq2 (.int .i64 (.bool (.sl 74 (.sl 73 Tq0 .nil) .nil)))),x0.2.2.2.2.2.2.2.2.2.2.2.2.2.2.1⟩,.sl ⟨(.int .i64 (.int .i64 (.int .i64 (.int .i64 (.sl 74 (.sl 73 Tq0 .nil) .nil))))),x0.2.2.2.2.2.2.2.2.2.2.2.2.2.2.2.1⟩,.str x0.2.2.2.2.2.2.2.2.2.2.2.2.2.2.2.2],.agg [.sl ⟨(.sl 73 Tq0 .nil),x1⟩],.int .i64 x2,.sl ⟨(.int .i64 .nil),x3⟩,.int .i64 x4,.int .u8 x5]=some [.bool true] :=
    Sig.Ahh (pars:=[.agg [(false,.str),(false,.str),(false,(.sl 74 (.sl 73 Tq0 .nil))),(false,(.int .i64)),(false,(.int .i64)),(false,(.int .i64)),(false,(.int .i64)),(false,.str),(false,.bool),(false,(.sl 85 Tq2)),(false,.bool),(false,.bool),(false,(.int .i64)),(false,.bool),(false,(.sl 134 Tq3)),(false,(.sl 35 Tq1)),(false,.str)],.agg [(false,(.sl 74 (.sl 73 Tq0 .nil)))],.cell false (.int .i64),.cell false (.sl 3 (.int .i64 .nil)),.cell false (.int .i64),.cell false (.int .u8)]) (ress:=[.cell false .bool]) (f:=fun a=>FC 2097152 a.1 a.2.1 a.2.2.1 a.2.2.2.1 a.2.2.2.2.1 a.2.2.2.2.2) (a:=(x0,x1,x2,x3,x4,x5)) (o:=true) rfl (Pl.Ae9 x0 x1 x2 x3 x4 x5 b3.1)
  refine(Ad3 (Yn 2097152) (xs:=[.agg [.str x0.1,.str x0.2.1,.sl ⟨(.sl 73 Tq0 .nil),x0.2.2.1⟩,.int .i64 x0.2.2.2.1,.int .i64 x0.2.2.2.2.1,.int .i64 x0.2.2.2.2.2.1,.int .i64 x0.2.2.2.2.2.2.1,.str x0.2.2.2.2.2.2.2.1,.bool x0.2.2.2.2.2.2.2.2.1,.sl ⟨(.int .i64 (.str (.sl 74 (.sl 73 Tq0 .nil) .nil))),x0.2.2.2.2.2.2.2.2.2.1⟩,.bool x0.2.2.2.2.2.2.2.2.2.2.1,.bool x0.2.2.2.2.2.2.2.2.2.2.2.1,.int .i64 x0.2.2.2.2.2.2.2.2.2.2.2.2.1,.bool x0.2.2.2.2.2.2.2.2.2.2.2.2.2.1,.sl ⟨(.sl 85 Tq2 (.int .i64 (.bool (.sl 74 (.sl 73 Tq0 .nil) .nil)))),x0.2.2.2.2.2.2.2.2.2.2.2.2.2.2.1⟩,.sl ⟨(.int .i64 (.int .i64 (.int .i64 (.int .i64 (.sl 74 (.sl 73 Tq0 .nil) .nil))))),x0.2.2.2.2.2.2.2.2.2.2.2.2.2.2.2.1⟩,.str x0.2.2.2.2.2.2.2.2.2.2.2.2.2.2.2.2],.agg [.sl ⟨(.sl 73 Tq0 .nil),x1⟩],.int .i64 x2,.sl ⟨(.int .i64 .nil),x3⟩,.int .i64 x4,.int .u8 x5]) hF rfl rfl rfl (by show 6<=100;omega) (fun j hj=> ?_) (inv_of hsh ((AbX W).mp hL))).mono fun e W' ⟨he,bel⟩=> ?_
  ·have hj':j<6:=hj
   have:j=0\/j=1\/j=2\/j=3\/j=4\/j=5:=by omega
   rcases this with rfl | rfl | rfl | rfl | rfl | rfl
   ·exact op0.ir _
   ·exact op1.ir _
   ·exact re2.ir
   ·exact re3.ir
   ·exact re4.ir
   ·exact re5.ir
  subst he
  exact⟨_,rfl,_,_,_,[],_,[],hW',trodAll_mk1 (shut_bool Tryz.underlying4 _),(trodAll_cons_mk (Below.trod laidOut (by kernel_rfl) (of_decide_eq_true (by kernel_rfl)) hk0 bel hlt0) (trodAll_cons_mk (Below.trod laidOut (by kernel_rfl) (of_decide_eq_true (by kernel_rfl)) hk1 bel hlt1) (trodAll_cons_mk (Below.trod laidOut (by kernel_rfl) (of_decide_eq_true (by kernel_rfl)) hk2 bel hlt2) (trodAll_cons_mk (Below.trod laidOut (by kernel_rfl) (of_decide_eq_true (by kernel_rfl)) hk3 bel hlt3) (trodAll_cons_mk (Below.trod laidOut (by kernel_rfl) (of_decide_eq_true (by kernel_rfl)) hk4 bel hlt4) (trodAll_cons_mk (Below.trod laidOut (by kernel_rfl) (of_decide_eq_true (by kernel_rfl)) hk5 bel hlt5) trodAll_mk0)))))),rfl,bel.frame _,fun h=>by cases h⟩
