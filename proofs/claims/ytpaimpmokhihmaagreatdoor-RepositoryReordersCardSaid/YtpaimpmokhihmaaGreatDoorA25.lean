import Derived.Test.YtpaimpmokhihmaaGreatDoorA20
import Derived.Test.YtpaimpmokhihmaaGreatDoorA21
import Derived.Test.YtpaimpmokhihmaaGreatDoorA22
import Derived.Test.YtpaimpmokhihmaaGreatDoorA24
import Derived.MakeChecks
import Derived.Test.YtpaimpmokhihmaaGreatDoorCards
import Derived.SevenTiedAt
import Derived.OpenShut
import Derived.ChangeOld
set_option linter.all false
namespace Go.Proofs.YtpaimpmokhihmaaGreatDoor.repositoryReorders
open Go.ChangeShapes Go.WideShapes Go.ChangeAt Go.RowKit
open Go.Proofs.YtpaimpmokhihmaaGreatDoor.Vm
def own:ownKnob Tryz.prog.godebug=none:=by kernel_rfl
def laidOut:laidOutB Tryz.prog=true:=by kernel_rfl
def AdN (w:World):laidMetH Tryz.prog tabs w=laidMet Tryz.prog tabs w:=MakeChecks.laidMetH_plain _ _ _ (by kernel_rfl)
set_option maxRecDepth 100000 in
def lifted (os:Os) (started:os.Started) (H:Type) (enc:TypeId×Value->H) :
 ReturnsInHanded {} Tryz.checked os 3 .any (fun w args=>(Rows.repositoryReordersSpec.pre enc Tryz.prog Tryz.f3 Rows.repositoryReordersRow.domain false w args/\laidMetH Tryz.prog tabs w)/\sizedMet enc Tryz.prog Tryz.f3 (OpenSpec.ofChange Rows.repositoryReordersSpec) false w args) (Rows.repositoryReordersSpec.post enc Tryz.prog Tryz.f3 false true false false):=by
 refine AbF (C:=Tryz.checked) (X:=fun w _=>laidMetH Tryz.prog tabs w) (fun _ _ _ hh h=>by rw[AdN]at h ⊢;exact h.of_heap hh) own started (by kernel_rfl) Tryz.func3
  (ChangeSpec.witness_at (enc:=enc) (C:=Tryz.checked) (os:=os) (X:=fun w _=>laidMetH Tryz.prog tabs w) false (laidWorld os) #[.slice none 0 0,.int .i64 0] 8 rfl (by kernel_rfl) (by kernel_rfl) (by kernel_rfl) (by kernel_rfl) (by kernel_rfl) (by rw[AdN];exact laid_met os _)) ?_
 intro W base args ds gs before hval0 hW hsh hL;have hval: ∀(j:Nat) t v,Tryz.f3.params[j]? =some t->args[j]? =some v->Value.okWide Tryz.prog W .any base t v:=hval0;have hW':=hW;obtain⟨p,q,hA0,hV,rfl,hfz,hnd⟩:=hW;have hA:DataW.TrodAll enc Tryz.prog W 0 (fun _=>true) true Tryz.f3.params.toList args.toList ds p:=hA0;rw[Tryz.params3]at hA hval;obtain⟨v0,vs0,d0,ds0,p0,q0,hargs,rfl,rfl,h0,r0⟩:=trodAll_cons hA;obtain⟨v1,vs1,d1,ds1,p1,q1,rfl,rfl,rfl,h1,r1⟩:=trodAll_cons r0;obtain⟨rfl,rfl,rfl⟩:=trodAll_nil r1;obtain rfl:args= #[v0,v1]:=by cases args;simp_all
 obtain⟨rfl,rfl⟩:=trodVars_none hV;have hlt0: ∀ x∈p0,x.block<W.heap.size:=fun x hx=>by have:=hW'.lt x (by simp [hx]);simpa using this
 have hk0:=h0;obtain⟨a0,re0,ma0,b0⟩:=open_cell (n:=20) (t:=22) (k:=(.sl 3 (.int .i64 .nil))) (by kernel_rfl) (fun _=>rfl) (by kernel_rfl) (by kernel_rfl) (hval 0 22 v0 rfl rfl) h0;obtain⟨x0,rfl⟩: ∃ x:List Int,a0= .sl ⟨(.int .i64 .nil),x⟩:=⟨((tyl [(.sl 3 (.int .i64 .nil))]).mk [a0]).2,(List.cons.inj (Ty.OY _ _ ma0)).1.symm⟩
 have hlt1: ∀ x∈p1,x.block<W.heap.size:=fun x hx=>by have:=hW'.lt x (by simp [hx]);simpa using this
 have hk1:=h1;obtain⟨a1,re1,ma1,b1⟩:=open_cell (n:=20) (t:=3) (k:=(.int .i64)) (by kernel_rfl) (fun _=>rfl) (by kernel_rfl) (by kernel_rfl) (hval 1 3 v1 rfl rfl) h1;obtain⟨x1,rfl⟩: ∃ x:Int,a1= .int .i64 x:=⟨((tyl [(.int .i64)]).mk [a1]).2,(List.cons.inj (Ty.OY _ _ ma1)).1.symm⟩
 clear hA0 hval0;simp only[ES]at hW';have hF:(Lm 2097152).F [.sl ⟨(.int .i64 .nil),x0⟩,.int .i64 x1]=some [.bool true]:=Sig.AhS (a:=show ShT (Lm 2097152).Jp from(x0,x1)) (o:=show ShT (La (Lm 2097152).Jp (Lm 2097152).Jz)from true) rfl (Pl.AcF x0 x1 b0.1);refine(Afq (S9 2097152) (xs:=[.sl ⟨(.int .i64 .nil),x0⟩,.int .i64 x1]) hF rfl rfl rfl (by show 2<=100;omega) (fun j hj=> ?_) (inv_of hsh ((AdN W).mp hL))).mono fun e W' ⟨he,bel⟩=> ?_
 .have hj':j<2:=hj;have:j=0\/j=1:=by omega
  rcases this with rfl | rfl
  .exact re0.ir
  .exact re1.ir
 subst he;exact⟨_,rfl,_,_,_,[],_,[],hW',trodAll_mk1 (shut_bool Tryz.underlying4 _),(trodAll_cons_mk (Below.trod laidOut (by kernel_rfl) (Ea (by kernel_rfl)) hk0 bel hlt0) (trodAll_cons_mk (Below.trod laidOut (by kernel_rfl) (Ea (by kernel_rfl)) hk1 bel hlt1) trodAll_mk0)),rfl,bel.frame _,fun h=>by cases h⟩
end Go.Proofs.YtpaimpmokhihmaaGreatDoor.repositoryReorders
