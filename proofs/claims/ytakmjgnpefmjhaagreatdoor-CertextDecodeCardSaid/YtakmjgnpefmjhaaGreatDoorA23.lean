import Derived.Test.YtakmjgnpefmjhaaGreatDoorA12
import Derived.Test.YtakmjgnpefmjhaaGreatDoorA20
import Derived.Test.YtakmjgnpefmjhaaGreatDoorA22
import Derived.MakeChecks
import Derived.Test.YtakmjgnpefmjhaaGreatDoorCards
import Derived.SevenTiedAt
import Derived.OpenShut
import Derived.ChangeOld
import Derived.Carry
set_option linter.all false
namespace Go.Proofs.YtakmjgnpefmjhaaGreatDoor.certextDecode
open Go.ChangeShapes Go.WideShapes Go.ChangeAt Go.RowKit
open Go.Proofs.YtakmjgnpefmjhaaGreatDoor.Vm
def own:ownKnob Tryz.prog.godebug=none:=by kernel_rfl
def laidOut:laidOutB Tryz.prog=true:=by kernel_rfl
def Atw (w:World):laidMetH Tryz.prog tabs w=laidMet Tryz.prog tabs w:=MakeChecks.laidMetH_plain _ _ _ (by kernel_rfl)
set_option maxRecDepth 100000 in
def lifted (os:Os) (started:os.Started) (H:Type) (enc:TypeId×Value->H) :
 ReturnsInHanded {} Tryz.checked os 3 .any (fun w args=>(Rows.certextDecodeSpec.pre enc Tryz.prog Tryz.f3 Rows.certextDecodeRow.domain false w args/\laidMetH Tryz.prog tabs w)/\sizedMet enc Tryz.prog Tryz.f3 (OpenSpec.ofChange Rows.certextDecodeSpec) false w args) (Rows.certextDecodeSpec.post enc Tryz.prog Tryz.f3 false true false false):=by
 refine Aqv (C:=Tryz.checked) (X:=fun w _=>laidMetH Tryz.prog tabs w) (fun _ _ _ hh h=>by rw[Atw]at h ⊢;exact h.of_heap hh) own started (by kernel_rfl) Tryz.func3
  (ChangeSpec.witness_at (enc:=enc) (C:=Tryz.checked) (os:=os) (X:=fun w _=>laidMetH Tryz.prog tabs w) false (laidWorld os) #[.slice none 0 0,.slice none 0 0,.int .u8 0,.string ByteArray.empty] 8 rfl (by kernel_rfl) (by kernel_rfl) (by kernel_rfl) (by kernel_rfl) (by kernel_rfl) (by rw[Atw];exact laid_met os _)) ?_
 intro W base args ds gs before hval0 hW hsh hL;have hval: ∀(j:Nat) t v,Tryz.f3.params[j]? =some t->args[j]? =some v->Value.okWide Tryz.prog W .any base t v:=hval0;have hW':=hW;obtain⟨p,q,hA0,hV,rfl,hfz,hnd⟩:=hW;have hA:DataW.TrodAll enc Tryz.prog W 0 (fun _=>true) true Tryz.f3.params.toList args.toList ds p:=hA0;rw[Tryz.params3]at hA hval;obtain⟨v0,vs0,d0,ds0,p0,q0,hargs,rfl,rfl,h0,r0⟩:=trodAll_cons hA;obtain⟨v1,vs1,d1,ds1,p1,q1,rfl,rfl,rfl,h1,r1⟩:=trodAll_cons r0;obtain⟨v2,vs2,d2,ds2,p2,q2,rfl,rfl,rfl,h2,r2⟩:=trodAll_cons r1;obtain⟨v3,vs3,d3,ds3,p3,q3,rfl,rfl,rfl,h3,r3⟩:=trodAll_cons r2;obtain⟨rfl,rfl,rfl⟩:=trodAll_nil r3;obtain rfl:args= #[v0,v1,v2,v3]:=by cases args;simp_all
 obtain⟨rfl,rfl⟩:=trodVars_none hV;have hlt0: ∀ x∈p0,x.block<W.heap.size:=fun x hx=>by have:=hW'.lt x (by simp [hx]);simpa using this
 have hk0:=h0;obtain⟨a0,re0,ma0,b0⟩:=open_cell (n:=20) (t:=22) (k:=(.sl 42 Tq0)) (by kernel_rfl) (fun _=>rfl) (by kernel_rfl) (by kernel_rfl) (hval 0 22 v0 rfl rfl) h0;obtain⟨x0,rfl⟩: ∃ x:List (Bs×Bool×Bs),a0= .sl ⟨(.str (.bool (.str .nil))),x⟩:=⟨((tyl [(.sl 42 Tq0)]).mk [a0]).2,(Hy (Ty.V7 _ _ ma0)).1.symm⟩
 have hlt1: ∀ x∈p1,x.block<W.heap.size:=fun x hx=>by have:=hW'.lt x (by simp [hx]);simpa using this
 have hk1:=h1;obtain⟨a1,re1,ma1,b1⟩:=open_cell (n:=20) (t:=23) (k:=(.sl 3 (.int .i64 .nil))) (by kernel_rfl) (fun _=>rfl) (by kernel_rfl) (by kernel_rfl) (hval 1 23 v1 rfl rfl) h1;obtain⟨x1,rfl⟩: ∃ x:List Int,a1= .sl ⟨(.int .i64 .nil),x⟩:=⟨((tyl [(.sl 3 (.int .i64 .nil))]).mk [a1]).2,(Hy (Ty.V7 _ _ ma1)).1.symm⟩
 have hlt2: ∀ x∈p2,x.block<W.heap.size:=fun x hx=>by have:=hW'.lt x (by simp [hx]);simpa using this
 have hk2:=h2;obtain⟨a2,re2,ma2,b2⟩:=open_cell (n:=20) (t:=5) (k:=(.int .u8)) (by kernel_rfl) (fun _=>rfl) (by kernel_rfl) (by kernel_rfl) (hval 2 5 v2 rfl rfl) h2;obtain⟨x2,rfl⟩: ∃ x:Int,a2= .int .u8 x:=⟨((tyl [(.int .u8)]).mk [a2]).2,(Hy (Ty.V7 _ _ ma2)).1.symm⟩
 have hlt3: ∀ x∈p3,x.block<W.heap.size:=fun x hx=>by have:=hW'.lt x (by simp [hx]);simpa using this
 have hk3:=h3;obtain⟨a3,re3,ma3,b3⟩:=open_cell (n:=20) (t:=9) (k:=.str) (by kernel_rfl) (fun _=>rfl) (by kernel_rfl) (by kernel_rfl) (hval 3 9 v3 rfl rfl) h3;obtain⟨x3,rfl⟩: ∃ x:Bs,a3= .str x:=⟨((tyl [.str]).mk [a3]).2,(Hy (Ty.V7 _ _ ma3)).1.symm⟩
 clear hA0 hval0;simp only[DW]at hW'
 have hF:(Sig.of [.cell false (.sl 42 Tq0),.cell false (.sl 3 (.int .i64 .nil)),.cell false (.int .u8),.cell false .str] [.cell false .bool] (fun a=>PM 2097152 a.1 a.2.1 a.2.2.1 a.2.2.2)).F [.sl ⟨(.str (.bool (.str .nil))),x0⟩,.sl ⟨(.int .i64 .nil),x1⟩,.int .u8 x2,.str x3]=some [.bool true] :=
  Sig.A11 (Jz:=[.cell false (.sl 42 Tq0),.cell false (.sl 3 (.int .i64 .nil)),.cell false (.int .u8),.cell false .str]) (JI:=[.cell false .bool]) (f:=fun a=>PM 2097152 a.1 a.2.1 a.2.2.1 a.2.2.2) (a:=(x0,x1,x2,x3)) (o:=true) rfl (Pl.AoV 2097152 x0 x1 x2 x3 (by decide) b1.1 b2.1)
 refine(AvB (sJ 2097152) (xs:=[.sl ⟨(.str (.bool (.str .nil))),x0⟩,.sl ⟨(.int .i64 .nil),x1⟩,.int .u8 x2,.str x3]) hF rfl rfl rfl (by show 4<=100;omega) (fun j hj=> ?_) (inv_of hsh ((Atw W).mp hL))).mono fun e W' ⟨he,bel⟩=> ?_
 .have hj':j<4:=hj;have:j=0\/j=1\/j=2\/j=3:=by omega
  rcases this with rfl | rfl | rfl | rfl
  .exact re0.ir
  .exact re1.ir
  .exact re2.ir
  .exact re3.ir
 subst he;exact⟨_,rfl,_,_,_,[],_,[],hW',trodAll_mk1 (shut_bool Tryz.underlying4 _),(trodAll_cons_mk (Below.trod laidOut (by kernel_rfl) (DN (by kernel_rfl)) hk0 bel hlt0) (trodAll_cons_mk (Below.trod laidOut (by kernel_rfl) (DN (by kernel_rfl)) hk1 bel hlt1) (trodAll_cons_mk (Below.trod laidOut (by kernel_rfl) (DN (by kernel_rfl)) hk2 bel hlt2) (trodAll_cons_mk (Below.trod laidOut (by kernel_rfl) (DN (by kernel_rfl)) hk3 bel hlt3) trodAll_mk0)))),rfl,bel.frame _,fun h=>by cases h⟩
end Go.Proofs.YtakmjgnpefmjhaaGreatDoor.certextDecode
