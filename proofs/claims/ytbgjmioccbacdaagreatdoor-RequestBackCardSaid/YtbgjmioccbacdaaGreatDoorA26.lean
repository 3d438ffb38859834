import Derived.Test.YtbgjmioccbacdaaGreatDoorA17
import Derived.Test.YtbgjmioccbacdaaGreatDoorA23
import Derived.Test.YtbgjmioccbacdaaGreatDoorA25
import Derived.MakeChecks
import Derived.Test.YtbgjmioccbacdaaGreatDoorCards
import Derived.SevenTiedAt
import Derived.OpenShut
import Derived.ChangeOld
set_option linter.all false
namespace Go.Proofs.YtbgjmioccbacdaaGreatDoor.requestBack
open Go.ChangeShapes Go.WideShapes Go.ChangeAt Go.RowKit
open Go.Proofs.YtbgjmioccbacdaaGreatDoor.Vm
def own:ownKnob Tryz.prog.godebug=none:=by kernel_rfl
def laidOut:laidOutB Tryz.prog=true:=by kernel_rfl
def Al1 (w:World):laidMetH Tryz.prog tabs w=laidMet Tryz.prog tabs w:=MakeChecks.laidMetH_plain _ _ _ (by kernel_rfl)
set_option maxRecDepth 100000 in
def lifted (os:Os) (started:os.Started) (H:Type) (enc:TypeId×Value->H) :
 ReturnsInHanded {} Tryz.checked os 3 .any (fun w args=>(Rows.requestBackSpec.pre enc Tryz.prog Tryz.f3 Rows.requestBackRow.domain false w args/\laidMetH Tryz.prog tabs w)/\sizedMet enc Tryz.prog Tryz.f3 (OpenSpec.ofChange Rows.requestBackSpec) false w args) (Rows.requestBackSpec.post enc Tryz.prog Tryz.f3 false true false false):=by
 refine Aie (C:=Tryz.checked) (X:=fun w _=>laidMetH Tryz.prog tabs w) (fun _ _ _ hh h=>by rw[Al1]at h ⊢;exact h.of_heap hh) own started (by kernel_rfl) Tryz.func3
  (ChangeSpec.witness_at (enc:=enc) (C:=Tryz.checked) (os:=os) (X:=fun w _=>laidMetH Tryz.prog tabs w) false (laidWorld os) #[.int .u8 0,.int .u8 0,.slice none 0 0] 8 rfl (by kernel_rfl) (by kernel_rfl) (by kernel_rfl) (by kernel_rfl) (by kernel_rfl) (by rw[Al1];exact laid_met os _)) ?_
 intro W base args ds gs before hval0 hW hsh hL;have hval: ∀(j:Nat) t v,Tryz.f3.params[j]? =some t->args[j]? =some v->Value.okWide Tryz.prog W .any base t v:=hval0;have hW':=hW;obtain⟨p,q,hA0,hV,rfl,hfz,hnd⟩:=hW;have hA:DataW.TrodAll enc Tryz.prog W 0 (fun _=>true) true Tryz.f3.params.toList args.toList ds p:=hA0;rw[Tryz.params3]at hA hval;obtain⟨v0,vs0,d0,ds0,p0,q0,hargs,rfl,rfl,h0,r0⟩:=trodAll_cons hA;obtain⟨v1,vs1,d1,ds1,p1,q1,rfl,rfl,rfl,h1,r1⟩:=trodAll_cons r0;obtain⟨v2,vs2,d2,ds2,p2,q2,rfl,rfl,rfl,h2,r2⟩:=trodAll_cons r1;obtain⟨rfl,rfl,rfl⟩:=trodAll_nil r2;obtain rfl:args= #[v0,v1,v2]:=by cases args;simp_all
 obtain⟨rfl,rfl⟩:=trodVars_none hV;have hlt0: ∀ x∈p0,x.block<W.heap.size:=fun x hx=>by have:=hW'.lt x (by simp [hx]);simpa using this
 have hk0:=h0;obtain⟨a0,re0,ma0,b0⟩:=open_cell (n:=20) (t:=5) (k:=(.int .u8)) (by kernel_rfl) (fun _=>rfl) (by kernel_rfl) (by kernel_rfl) (hval 0 5 v0 rfl rfl) h0;obtain⟨x0,rfl⟩: ∃ x:Int,a0= .int .u8 x:=⟨((tyl [(.int .u8)]).mk [a0]).2,(Il (Ty.SG _ _ ma0)).1.symm⟩
 have hlt1: ∀ x∈p1,x.block<W.heap.size:=fun x hx=>by have:=hW'.lt x (by simp [hx]);simpa using this
 have hk1:=h1;obtain⟨a1,re1,ma1,b1⟩:=open_cell (n:=20) (t:=5) (k:=(.int .u8)) (by kernel_rfl) (fun _=>rfl) (by kernel_rfl) (by kernel_rfl) (hval 1 5 v1 rfl rfl) h1;obtain⟨x1,rfl⟩: ∃ x:Int,a1= .int .u8 x:=⟨((tyl [(.int .u8)]).mk [a1]).2,(Il (Ty.SG _ _ ma1)).1.symm⟩
 have hlt2: ∀ x∈p2,x.block<W.heap.size:=fun x hx=>by have:=hW'.lt x (by simp [hx]);simpa using this
 have hk2:=h2;obtain⟨a2,re2,ma2,b2⟩:=open_cell (n:=20) (t:=22) (k:=(.sl 3 (.int .i64 .nil))) (by kernel_rfl) (fun _=>rfl) (by kernel_rfl) (by kernel_rfl) (hval 2 22 v2 rfl rfl) h2;obtain⟨x2,rfl⟩: ∃ x:List Int,a2= .sl ⟨(.int .i64 .nil),x⟩:=⟨((tyl [(.sl 3 (.int .i64 .nil))]).mk [a2]).2,(Il (Ty.SG _ _ ma2)).1.symm⟩
 clear hA0 hval0;simp only[Ee]at hW';have hF:(PT 2097152).F [.int .u8 x0,.int .u8 x1,.sl ⟨(.int .i64 .nil),x2⟩]=some [.bool true]:=Sig.AuZ (a:=show ShT (PT 2097152).Js from(x0,x1,x2)) (o:=show ShT (Lr (PT 2097152).Js (PT 2097152).J7)from true) rfl (Pl.Akw x0 x1 x2 b2.1);refine(AnK (gZ 2097152) (xs:=[.int .u8 x0,.int .u8 x1,.sl ⟨(.int .i64 .nil),x2⟩]) hF rfl rfl rfl (by show 3<=100;omega) (fun j hj=> ?_) (inv_of hsh ((Al1 W).mp hL))).mono fun e W' ⟨he,bel⟩=> ?_
 .have hj':j<3:=hj;have:j=0\/j=1\/j=2:=by omega
  rcases this with rfl | rfl | rfl
  .exact re0.ir
  .exact re1.ir
  .exact re2.ir
 subst he;exact⟨_,rfl,_,_,_,[],_,[],hW',trodAll_mk1 (shut_bool Tryz.underlying4 _),(trodAll_cons_mk (Below.trod laidOut (by kernel_rfl) (D5 (by kernel_rfl)) hk0 bel hlt0) (trodAll_cons_mk (Below.trod laidOut (by kernel_rfl) (D5 (by kernel_rfl)) hk1 bel hlt1) (trodAll_cons_mk (Below.trod laidOut (by kernel_rfl) (D5 (by kernel_rfl)) hk2 bel hlt2) trodAll_mk0))),rfl,bel.frame _,fun h=>by cases h⟩
end Go.Proofs.YtbgjmioccbacdaaGreatDoor.requestBack
