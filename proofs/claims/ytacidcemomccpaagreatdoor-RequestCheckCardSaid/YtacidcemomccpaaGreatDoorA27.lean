import Derived.Test.YtacidcemomccpaaGreatDoorA16
import Derived.Test.YtacidcemomccpaaGreatDoorA24
import Derived.Test.YtacidcemomccpaaGreatDoorA26
import Derived.MakeChecks
import Derived.Test.YtacidcemomccpaaGreatDoorCards
import Derived.SevenTiedAt
import Derived.OpenShut
import Derived.ChangeOld
import Derived.Carry
set_option linter.all false
namespace Go.Proofs.YtacidcemomccpaaGreatDoor.requestCheck
open Go.ChangeShapes Go.WideShapes Go.ChangeAt Go.RowKit
open Go.Proofs.YtacidcemomccpaaGreatDoor.Vm
def own:ownKnob Tryz.prog.godebug=none:=by kernel_rfl
def laidOut:laidOutB Tryz.prog=true:=by kernel_rfl
def Aq6 (w:World):laidMetH Tryz.prog tabs w=laidMet Tryz.prog tabs w:=MakeChecks.laidMetH_plain _ _ _ (by kernel_rfl)
def ks0:List CK:=[.str,.str,(.sl 82 (.sl 84 Tq0 .nil)),(.int .i64),.str,.str,.bool,.bool,(.int .i64),(.int .i64),(.sl 9 (.str .nil)),(.sl 9 (.str .nil)),(.sl 88 (.str (.str .nil))),(.int .i64),(.int .i64),(.int .i64),(.sl 146 Tq1),.bool,(.sl 146 Tq1),(.sl 146 Tq1),.str,.str,(.sl 148 Tq2),(.sl 148 Tq2),(.sl 118 Tq3),.str]
def AkZ (x:Bs×Bs×List Yq0×Int×Bs×Bs×Bool×Bool×Int×Int×List Bs×List Bs×(List (Bs×Bs))×Int×Int×Int×List Yq1×Bool×List Yq1×List Yq1×Bs×Bs×List Yq2×List Yq2×(List (Bs×Bool×Bs))×Bs):List A:=[.str x.1,.str x.2.1,.sl ⟨(.sl 84 Tq0 .nil),x.2.2.1⟩,.int .i64 x.2.2.2.1,.str x.2.2.2.2.1,.str x.2.2.2.2.2.1,.bool x.2.2.2.2.2.2.1,.bool x.2.2.2.2.2.2.2.1,.int .i64 x.2.2.2.2.2.2.2.2.1,.int .i64 x.2.2.2.2.2.2.2.2.2.1,.sl ⟨(.str .nil),x.2.2.2.2.2.2.2.2.2.2.1⟩,.sl ⟨(.str .nil),x.2.2.2.2.2.2.2.2.2.2.2.1⟩,.sl ⟨(.str (.str .nil)),x.2.2.2.2.2.2.2.2.2.2.2.2.1⟩,.int .i64 x.2.2.2.2.2.2.2.2.2.2.2.2.2.1,.int .i64 x.2.2.2.2.2.2.2.2.2.2.2.2.2.2.1,.int .i64 x.2.2.2.2.2.2.2.2.2.2.2.2.2.2.2.1,.sl ⟨(.int .i64 (.str (.sl 82 (.sl 84 Tq0 .nil) .nil))),x.2.2.2.2.2.2.2.2.2.2.2.2.2.2.2.2.1⟩,.bool x.2.2.2.2.2.2.2.2.2.2.2.2.2.2.2.2.2.1,.sl ⟨(.int .i64 (.str (.sl 82 (.sl 84 Tq0 .nil) .nil))),x.2.2.2.2.2.2.2.2.2.2.2.2.2.2.2.2.2.2.1⟩,.sl ⟨(.int .i64 (.str (.sl 82 (.sl 84 Tq0 .nil) .nil))),x.2.2.2.2.2.2.2.2.2.2.2.2.2.2.2.2.2.2.2.1⟩,.str x.2.2.2.2.2.2.2.2.2.2.2.2.2.2.2.2.2.2.2.2.1,.str x.2.2.2.2.2.2.2.2.2.2.2.2.2.2.2.2.2.2.2.2.2.1,.sl ⟨(.sl 146 Tq1 (.int .i64 (.bool (.sl 82 (.sl 84 Tq0 .nil) .nil)))),x.2.2.2.2.2.2.2.2.2.2.2.2.2.2.2.2.2.2.2.2.2.2.1⟩,.sl ⟨(.sl 146 Tq1 (.int .i64 (.bool (.sl 82 (.sl 84 Tq0 .nil) .nil)))),x.2.2.2.2.2.2.2.2.2.2.2.2.2.2.2.2.2.2.2.2.2.2.2.1⟩,.sl ⟨(.str (.bool (.str .nil))),x.2.2.2.2.2.2.2.2.2.2.2.2.2.2.2.2.2.2.2.2.2.2.2.2.1⟩,.str x.2.2.2.2.2.2.2.2.2.2.2.2.2.2.2.2.2.2.2.2.2.2.2.2.2]
def Apc (xs:List Pl.Pt) (h:okN 20 (.sl ⟨Tq2,xs⟩)): ∀ p∈xs,Pl.Aa1 p.2.1:=λp hp=>by have h1:=h.2 (Tq2.cells p) (DK.2 ⟨p,hp,rfl⟩) (.int .i64 p.2.1);exact h1 (Dz _ Dy)
set_option maxRecDepth 100000 in
def lifted (os:Os) (started:os.Started) (H:Type) (enc:TypeId×Value->H) :
 ReturnsInHanded {} Tryz.checked os 3 .any (λw args=>(Rows.requestCheckSpec.pre enc Tryz.prog Tryz.f3 Rows.requestCheckRow.domain false w args/\laidMetH Tryz.prog tabs w)/\sizedMet enc Tryz.prog Tryz.f3 (OpenSpec.ofChange Rows.requestCheckSpec) false w args) (Rows.requestCheckSpec.post enc Tryz.prog Tryz.f3 false true false false):=by
 refine AmS (C:=Tryz.checked) (X:=λw _=>laidMetH Tryz.prog tabs w) (λ_ _ _ hh h=>by rw[Aq6]at h ⊢;exact h.of_heap hh) own started (by kernel_rfl) Tryz.func3
  (ChangeSpec.witness_at (enc:=enc) (C:=Tryz.checked) (os:=os) (X:=λw _=>laidMetH Tryz.prog tabs w) false (laidWorld os) #[.agg #[.string ByteArray.empty,.string ByteArray.empty,.slice none 0 0,.int .i64 0,.string ByteArray.empty,.string ByteArray.empty,.bool false,.bool false,.int .i64 0,.int .i64 0,.slice none 0 0,.slice none 0 0,.slice none 0 0,.int .i64 0,.int .i64 0,.int .i64 0,.slice none 0 0,.bool false,.slice none 0 0,.slice none 0 0,.string ByteArray.empty,.string ByteArray.empty,.slice none 0 0,.slice none 0 0,.slice none 0 0,.string ByteArray.empty],.slice none 0 0] 8 rfl (by kernel_rfl) (by kernel_rfl) (by kernel_rfl) (by kernel_rfl) (by kernel_rfl) (by rw[Aq6];exact laid_met os _)) ?_
 intro W base args ds gs before hval0 hW hsh hL;have hval: ∀(j:Nat) t v,Tryz.f3.params[j]? =some t->args[j]? =some v->Value.okWide Tryz.prog W .any base t v:=hval0;have hW':=hW;obtain⟨p,q,hA0,hV,rfl,hfz,hnd⟩:=hW;have hA:DataW.TrodAll enc Tryz.prog W 0 (λ_=>true) true Tryz.f3.params.toList args.toList ds p:=hA0;rw[Tryz.params3]at hA hval;obtain⟨v0,vs0,d0,ds0,p0,q0,hargs,rfl,rfl,h0,r0⟩:=trodAll_cons hA;obtain⟨v1,vs1,d1,ds1,p1,q1,rfl,rfl,rfl,h1,r1⟩:=trodAll_cons r0;obtain⟨rfl,rfl,rfl⟩:=trodAll_nil r1;obtain rfl:args= #[v0,v1]:=by cases args;simp_all
 obtain⟨rfl,rfl⟩:=trodVars_none hV;have hlt0: ∀ x∈p0,x.block<W.heap.size:=λx hx=>by have:=hW'.lt x (by simp [hx]);simpa using this
 have hk0:=h0;obtain⟨c0,aa0,rfl,op0⟩:=Avj (n:=20) (t:=37) (ks:=ks0) (by kernel_rfl) (λ_=>rfl) (by kernel_rfl) (by kernel_rfl) (hval 0 37 v0 rfl rfl) h0;obtain⟨x0,rfl⟩: ∃ x,aa0=AkZ x:=⟨((tyl ks0).mk aa0).2,(Ty.XA _ _ op0.made).symm⟩
 have hlt1: ∀ x∈p1,x.block<W.heap.size:=λx hx=>by have:=hW'.lt x (by simp [hx]);simpa using this
 have hk1:=h1;obtain⟨a1,re1,ma1,b1⟩:=open_cell (n:=20) (t:=38) (k:=(.sl 3 (.int .i64 .nil))) (by kernel_rfl) (λ_=>rfl) (by kernel_rfl) (by kernel_rfl) (hval 1 38 v1 rfl rfl) h1;obtain⟨x1,rfl⟩: ∃ x:List Int,a1= .sl ⟨(.int .i64 .nil),x⟩:=⟨((tyl [(.sl 3 (.int .i64 .nil))]).mk [a1]).2,(List.cons.inj (Ty.XA _ _ ma1)).1.symm⟩
 clear hA0 hval0;simp only[DT]at hW';have hF:(OJ 2097152).F [.agg (AkZ x0),.sl ⟨(.int .i64 .nil),x1⟩]=some [.bool true]:=Sig.Ayc (a:=show ShT (OJ 2097152).Jt from(x0,x1)) (o:=show ShT (KY (OJ 2097152).Jt (OJ 2097152).J7)from true) rfl (Pl.An1 x0 x1 b1.1 (Apc _ (op0.ok _ (Hu.2 ⟨22,rfl⟩))) (Apc _ (op0.ok _ (Hu.2 ⟨23,rfl⟩))));refine(AsU (l7 2097152) (xs:=[.agg (AkZ x0),.sl ⟨(.int .i64 .nil),x1⟩]) hF rfl rfl rfl (by show 2<=100;omega) (λj hj=> ?_) (inv_of hsh ((Aq6 W).mp hL))).mono λe W' ⟨he,bel⟩=> ?_
 .have hj':j<2:=hj;have:j=0\/j=1:=by omega
  rcases this with rfl | rfl
  .exact op0.ir _
  .exact re1.ir
 subst he;exact⟨_,rfl,_,_,_,[],_,[],hW',trodAll_mk1 (shut_bool Tryz.underlying4 _),(trodAll_cons_mk (Below.trod laidOut (by kernel_rfl) (DC (by kernel_rfl)) hk0 bel hlt0) (trodAll_cons_mk (Below.trod laidOut (by kernel_rfl) (DC (by kernel_rfl)) hk1 bel hlt1) trodAll_mk0)),rfl,bel.frame _,λh=>by cases h⟩
end Go.Proofs.YtacidcemomccpaaGreatDoor.requestCheck
