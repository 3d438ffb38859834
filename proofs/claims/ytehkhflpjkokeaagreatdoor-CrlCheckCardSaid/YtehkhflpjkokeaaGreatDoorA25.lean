import Derived.Test.YtehkhflpjkokeaaGreatDoorA14
import Derived.Test.YtehkhflpjkokeaaGreatDoorA22
import Derived.Test.YtehkhflpjkokeaaGreatDoorA24
import Derived.MakeChecks
import Derived.Test.YtehkhflpjkokeaaGreatDoorCards
import Derived.SevenTiedAt
import Derived.OpenShut
import Derived.ChangeOld
set_option linter.all false
namespace Go.Proofs.YtehkhflpjkokeaaGreatDoor.crlCheck
open Go.ChangeShapes Go.WideShapes Go.ChangeAt Go.RowKit
open Go.Proofs.YtehkhflpjkokeaaGreatDoor.Vm
def own:ownKnob Tryz.prog.godebug=none:=by kernel_rfl
def laidOut:laidOutB Tryz.prog=true:=by kernel_rfl
def Apv (w:World):laidMetH Tryz.prog tabs w=laidMet Tryz.prog tabs w:=MakeChecks.laidMetH_plain _ _ _ (by kernel_rfl)
def ks0:List CK:=[.str,.str,(.sl 94 (.sl 96 Tq0 .nil)),(.int .i64),(.int .i64),(.int .i64),(.int .i64),.str,.bool,(.sl 98 Tq1),.bool,.bool,(.int .i64),.bool,(.sl 100 Tq2),(.sl 48 Tq3),.str]
def AjU (x:Bs×Bs×List Yq0×Int×Int×Int×Int×Bs×Bool×List Yq1×Bool×Bool×Int×Bool×List Yq2×List Yq3×Bs):List A:=[.str x.1,.str x.2.1,.sl ⟨(.sl 96 Tq0 .nil),x.2.2.1⟩,.int .i64 x.2.2.2.1,.int .i64 x.2.2.2.2.1,.int .i64 x.2.2.2.2.2.1,.int .i64 x.2.2.2.2.2.2.1,.str x.2.2.2.2.2.2.2.1,.bool x.2.2.2.2.2.2.2.2.1,.sl ⟨(.int .i64 (.str (.sl 94 (.sl 96 Tq0 .nil) .nil))),x.2.2.2.2.2.2.2.2.2.1⟩,.bool x.2.2.2.2.2.2.2.2.2.2.1,.bool x.2.2.2.2.2.2.2.2.2.2.2.1,.int .i64 x.2.2.2.2.2.2.2.2.2.2.2.2.1,.bool x.2.2.2.2.2.2.2.2.2.2.2.2.2.1,.sl ⟨(.sl 98 Tq1 (.int .i64 (.bool (.sl 94 (.sl 96 Tq0 .nil) .nil)))),x.2.2.2.2.2.2.2.2.2.2.2.2.2.2.1⟩,.sl ⟨(.int .i64 (.int .i64 (.int .i64 (.int .i64 (.sl 94 (.sl 96 Tq0 .nil) .nil))))),x.2.2.2.2.2.2.2.2.2.2.2.2.2.2.2.1⟩,.str x.2.2.2.2.2.2.2.2.2.2.2.2.2.2.2.2]
def AvI (xs:List Pl.Pt) (h:okN 20 (.sl ⟨Tq2,xs⟩)): ∀ p∈xs,-9223372036854775808<=p.2.1/\p.2.1<=9223372036854775807:=fun p hp=>by have h1:=h.2 (Tq2.cells p) (DF.2 ⟨p,hp,rfl⟩) (.int .i64 p.2.1);exact h1 (Dw _ Dv)
set_option maxRecDepth 100000 in
def lifted (os:Os) (started:os.Started) (H:Type) (enc:TypeId×Value->H) :
 ReturnsInHanded {} Tryz.checked os 3 .any (fun w args=>(Rows.crlCheckSpec.pre enc Tryz.prog Tryz.f3 Rows.crlCheckRow.domain false w args/\laidMetH Tryz.prog tabs w)/\sizedMet enc Tryz.prog Tryz.f3 (OpenSpec.ofChange Rows.crlCheckSpec) false w args) (Rows.crlCheckSpec.post enc Tryz.prog Tryz.f3 false true false false):=by
 refine AlL (C:=Tryz.checked) (X:=fun w _=>laidMetH Tryz.prog tabs w) (fun _ _ _ hh h=>by rw[Apv]at h ⊢;exact h.of_heap hh) own started (by kernel_rfl) Tryz.func3
  (ChangeSpec.witness_at (enc:=enc) (C:=Tryz.checked) (os:=os) (X:=fun w _=>laidMetH Tryz.prog tabs w) false (laidWorld os) #[.agg #[.string ByteArray.empty,.string ByteArray.empty,.slice none 0 0,.int .i64 0,.int .i64 0,.int .i64 0,.int .i64 0,.string ByteArray.empty,.bool false,.slice none 0 0,.bool false,.bool false,.int .i64 0,.bool false,.slice none 0 0,.slice none 0 0,.string ByteArray.empty],.slice none 0 0] 8 rfl (by kernel_rfl) (by kernel_rfl) (by kernel_rfl) (by kernel_rfl) (by kernel_rfl) (by rw[Apv];exact laid_met os _)) ?_
 intro W base args ds gs before hval0 hW hsh hL;have hval: ∀(j:Nat) t v,Tryz.f3.params[j]? =some t->args[j]? =some v->Value.okWide Tryz.prog W .any base t v:=hval0;have hW':=hW;obtain⟨p,q,hA0,hV,rfl,hfz,hnd⟩:=hW;have hA:DataW.TrodAll enc Tryz.prog W 0 (fun _=>true) true Tryz.f3.params.toList args.toList ds p:=hA0;rw[Tryz.params3]at hA hval;obtain⟨v0,vs0,d0,ds0,p0,q0,hargs,rfl,rfl,h0,r0⟩:=trodAll_cons hA;obtain⟨v1,vs1,d1,ds1,p1,q1,rfl,rfl,rfl,h1,r1⟩:=trodAll_cons r0;obtain⟨rfl,rfl,rfl⟩:=trodAll_nil r1;obtain rfl:args= #[v0,v1]:=by cases args;simp_all
 obtain⟨rfl,rfl⟩:=trodVars_none hV;have hlt0: ∀ x∈p0,x.block<W.heap.size:=fun x hx=>by have:=hW'.lt x (by simp [hx]);simpa using this
 have hk0:=h0;obtain⟨c0,aa0,rfl,op0⟩:=Aug (n:=20) (t:=31) (ks:=ks0) (by kernel_rfl) (fun _=>rfl) (by kernel_rfl) (by kernel_rfl) (hval 0 31 v0 rfl rfl) h0;obtain⟨x0,rfl⟩: ∃ x,aa0=AjU x:=⟨((tyl ks0).mk aa0).2,(Ty.TA _ _ op0.made).symm⟩
 have hlt1: ∀ x∈p1,x.block<W.heap.size:=fun x hx=>by have:=hW'.lt x (by simp [hx]);simpa using this
 have hk1:=h1;obtain⟨a1,re1,ma1,b1⟩:=open_cell (n:=20) (t:=32) (k:=(.sl 3 (.int .i64 .nil))) (by kernel_rfl) (fun _=>rfl) (by kernel_rfl) (by kernel_rfl) (hval 1 32 v1 rfl rfl) h1;obtain⟨x1,rfl⟩: ∃ x:List Int,a1= .sl ⟨(.int .i64 .nil),x⟩:=⟨((tyl [(.sl 3 (.int .i64 .nil))]).mk [a1]).2,(List.cons.inj (Ty.TA _ _ ma1)).1.symm⟩
 clear hA0 hval0;simp only[En]at hW';have hF:(Ql 2097152).F [.agg (AjU x0),.sl ⟨(.int .i64 .nil),x1⟩]=some [.bool true]:=Sig.AxF (a:=show ShT (Ql 2097152).Js from(x0,x1)) (o:=show ShT (L8 (Ql 2097152).Js (Ql 2097152).JA)from true) rfl (Pl.Amw x0 x1 b1.1 (op0.ok _ (Gi.2 ⟨12,rfl⟩)) (AvI _ (op0.ok _ (Gi.2 ⟨14,rfl⟩))));refine(ArE (vN 2097152) (xs:=[.agg (AjU x0),.sl ⟨(.int .i64 .nil),x1⟩]) hF rfl rfl rfl (by show 2<=100;omega) (fun j hj=> ?_) (inv_of hsh ((Apv W).mp hL))).mono fun e W' ⟨he,bel⟩=> ?_
 .have hj':j<2:=hj;have:j=0\/j=1:=by omega
  rcases this with rfl | rfl
  .exact op0.ir _
  .exact re1.ir
 subst he;exact⟨_,rfl,_,_,_,[],_,[],hW',trodAll_mk1 (shut_bool Tryz.underlying4 _),(trodAll_cons_mk (Below.trod laidOut (by kernel_rfl) (D9 (by kernel_rfl)) hk0 bel hlt0) (trodAll_cons_mk (Below.trod laidOut (by kernel_rfl) (D9 (by kernel_rfl)) hk1 bel hlt1) trodAll_mk0)),rfl,bel.frame _,fun h=>by cases h⟩
end Go.Proofs.YtehkhflpjkokeaaGreatDoor.crlCheck
