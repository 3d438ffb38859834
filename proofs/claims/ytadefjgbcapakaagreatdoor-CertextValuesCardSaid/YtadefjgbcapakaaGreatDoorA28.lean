import Derived.Test.YtadefjgbcapakaaGreatDoorA18
import Derived.Test.YtadefjgbcapakaaGreatDoorA25
import Derived.Test.YtadefjgbcapakaaGreatDoorA27
import Derived.MakeChecks
import Derived.Test.YtadefjgbcapakaaGreatDoorCards
import Derived.SevenTiedAt
import Derived.OpenShut
import Derived.ChangeOld
set_option linter.all false
namespace Go.Proofs.YtadefjgbcapakaaGreatDoor.certextValues
open Go.ChangeShapes Go.WideShapes Go.ChangeAt Go.RowKit
open Go.Proofs.YtadefjgbcapakaaGreatDoor.Vm
theorem own:ownKnob Tryz.prog.godebug=none:=by kernel_rfl
theorem laidOut:laidOutB Tryz.prog=true:=by kernel_rfl
theorem Abe (w:World):laidMetH Tryz.prog tabs w=laidMet Tryz.prog tabs w:=MakeChecks.laidMetH_plain _ _ _ (by kernel_rfl)
theorem Aey (xs:List Int) (h:okN 20 (.sl ⟨.int .u8 .nil,xs⟩)): ∀ v∈xs,0<=v:=fun v hv=>(h.2 ((Ty.int .u8 .nil).cells v) (List.mem_map.2 ⟨v,hv,rfl⟩) (.int .u8 v) List.mem_cons_self).1
set_option maxRecDepth 100000 in
theorem lifted (os:Os) (started:os.Started) (H:Type) (enc:TypeId×Value->H) :
    ReturnsInHanded {} Tryz.checked os 6 .any (fun w args=>(Rows.certextValuesSpec.pre enc Tryz.prog Tryz.f6 Rows.certextValuesRow.domain false w args/\laidMetH Tryz.prog tabs w)/\sizedMet enc Tryz.prog Tryz.f6 (OpenSpec.ofChange Rows.certextValuesSpec) false w args) (Rows.certextValuesSpec.post enc Tryz.prog Tryz.f6 false true false false):=by
  refine xA (C:=Tryz.checked) (X:=fun w _=>laidMetH Tryz.prog tabs w) (fun _ _ _ hh h=>by rw[Abe]at h ⊢;exact h.of_heap hh) own started (by kernel_rfl) Tryz.func6
    (ChangeSpec.witness_at (enc:=enc) (C:=Tryz.checked) (os:=os) (X:=fun w _=>laidMetH Tryz.prog tabs w) false (laidWorld os) #[.int .u8 0,.int .u8 0,.int .i16 0,.slice none 0 0,.bool false] 8 rfl (by kernel_rfl) (by kernel_rfl) (by kernel_rfl) (by kernel_rfl) (by kernel_rfl) (by rw[Abe];exact laid_met os _)) ?_
  intro W base args ds gs before hval0 hW hsh hL
  have hval: ∀(j:Nat) t v,Tryz.f6.params[j]? =some t->args[j]? =some v->Value.okWide Tryz.prog W .any base t v:=hval0
  have hW':=hW
  obtain⟨p,q,hA0,hV,rfl,hfz,hnd⟩:=hW
  have hA:DataW.TrodAll enc Tryz.prog W 0 (fun _=>true) true Tryz.f6.params.toList args.toList ds p:=hA0
  rw[Tryz.params6]at hA hval
  obtain⟨v0,vs0,d0,ds0,p0,q0,hargs,rfl,rfl,h0,r0⟩:=trodAll_cons hA
  obtain⟨v1,vs1,d1,ds1,p1,q1,rfl,rfl,rfl,h1,r1⟩:=trodAll_cons r0
  obtain⟨v2,vs2,d2,ds2,p2,q2,rfl,rfl,rfl,h2,r2⟩:=trodAll_cons r1
  obtain⟨v3,vs3,d3,ds3,p3,q3,rfl,rfl,rfl,h3,r3⟩:=trodAll_cons r2
  obtain⟨v4,vs4,d4,ds4,p4,q4,rfl,rfl,rfl,h4,r4⟩:=trodAll_cons r3
  obtain⟨rfl,rfl,rfl⟩:=trodAll_nil r4
  obtain rfl:args= #[v0,v1,v2,v3,v4]:=by cases args;simp_all
  obtain⟨rfl,rfl⟩:=trodVars_none hV
  have hlt0: ∀ x∈p0,x.block<W.heap.size:=fun x hx=>by have:=hW'.lt x (by simp [hx]);simpa using this
  have hk0:=h0
  obtain⟨a0,re0,ma0,b0⟩:=open_cell (n:=20) (t:=5) (k:=(.int .u8)) (by kernel_rfl) (fun _=>rfl) (by kernel_rfl) (by kernel_rfl) (hval 0 5 v0 rfl rfl) h0
  obtain⟨x0,rfl⟩: ∃ x:Int,a0= .int .u8 x:=⟨((tyl [(.int .u8)]).mk [a0]).2,(List.cons.inj (Ty.Gi _ _ ma0)).1.symm⟩
  have hlt1: ∀ x∈p1,x.block<W.heap.size:=fun x hx=>by have:=hW'.lt x (by simp [hx]);simpa using this
  have hk1:=h1
  obtain⟨a1,re1,ma1,b1⟩:=open_cell (n:=20) (t:=5) (k:=(.int .u8)) (by kernel_rfl) (fun _=>rfl) (by kernel_rfl) (by kernel_rfl) (hval 1 5 v1 rfl rfl) h1
  obtain⟨x1,rfl⟩: ∃ x:Int,a1= .int .u8 x:=⟨((tyl [(.int .u8)]).mk [a1]).2,(List.cons.inj (Ty.Gi _ _ ma1)).1.symm⟩
  have hlt2: ∀ x∈p2,x.block<W.heap.size:=fun x hx=>by have:=hW'.lt x (by simp [hx]);simpa using this
  have hk2:=h2
  obtain⟨a2,re2,ma2,b2⟩:=open_cell (n:=20) (t:=65) (k:=(.int .i16)) (by kernel_rfl) (fun _=>rfl) (by kernel_rfl) (by kernel_rfl) (hval 2 65 v2 rfl rfl) h2
  obtain⟨x2,rfl⟩: ∃ x:Int,a2= .int .i16 x:=⟨((tyl [(.int .i16)]).mk [a2]).2,(List.cons.inj (Ty.Gi _ _ ma2)).1.symm⟩
  have hlt3: ∀ x∈p3,x.block<W.heap.size:=fun x hx=>by have:=hW'.lt x (by simp [hx]);simpa using this
  have hk3:=h3
  obtain⟨a3,re3,ma3,b3⟩:=open_cell (n:=20) (t:=66) (k:=(.sl 5 (.int .u8 .nil))) (by kernel_rfl) (fun _=>rfl) (by kernel_rfl) (by kernel_rfl) (hval 3 66 v3 rfl rfl) h3
  obtain⟨x3,rfl⟩: ∃ x:List Int,a3= .sl ⟨(.int .u8 .nil),x⟩:=⟨((tyl [(.sl 5 (.int .u8 .nil))]).mk [a3]).2,(List.cons.inj (Ty.Gi _ _ ma3)).1.symm⟩
  have hlt4: ∀ x∈p4,x.block<W.heap.size:=fun x hx=>by have:=hW'.lt x (by simp [hx]);simpa using this
  have hk4:=h4
  obtain⟨a4,re4,ma4,b4⟩:=open_cell (n:=20) (t:=4) (k:=.bool) (by kernel_rfl) (fun _=>rfl) (by kernel_rfl) (by kernel_rfl) (hval 4 4 v4 rfl rfl) h4
  obtain⟨x4,rfl⟩: ∃ x:Bool,a4= .bool x:=⟨((tyl [.bool]).mk [a4]).2,(List.cons.inj (Ty.Gi _ _ ma4)).1.symm⟩
  clear hA0 hval0
  simp only[List.append_nil]at hW'
  have hF:(Sig.of [.cell false (.int .u8),.cell false (.int .u8),.cell false (.int .i16),.cell false (.sl 5 (.int .u8 .nil)),.cell false .bool] [.cell false .bool] (fun a=>Ej 2097152 a.1 a.2.1 a.2.2.1 a.2.2.2.1 a.2.2.2.2)).F [.int .u8 x0,.int .u8 x1,.int .i16 x2,.sl ⟨(.int .u8 .nil),x3⟩,.bool x4]=some [.bool true] :=
    Sig.Ah7 (Ad:=[.cell false (.int .u8),.cell false (.int .u8),.cell false (.int .i16),.cell false (.sl 5 (.int .u8 .nil)),.cell false .bool]) (Aq:=[.cell false .bool]) (f:=fun a=>Ej 2097152 a.1 a.2.1 a.2.2.1 a.2.2.2.1 a.2.2.2.2) (a:=(x0,x1,x2,x3,x4)) (o:=true) rfl (Pl.Acr 2097152 x0 x1 x2 x3 x4 (by decide) b0.1 (Aey _ b3))
  refine(Adu (Qb 2097152) (xs:=[.int .u8 x0,.int .u8 x1,.int .i16 x2,.sl ⟨(.int .u8 .nil),x3⟩,.bool x4]) hF rfl rfl rfl (by show 5<=100;omega) (fun j hj=> ?_) (inv_of hsh ((Abe W).mp hL))).mono fun e W' ⟨he,bel⟩=> ?_
  ·have hj':j<5:=hj
   have:j=0\/j=1\/j=2\/j=3\/j=4:=by omega
   rcases this with rfl | rfl | rfl | rfl | rfl
   ·exact re0.ir
   ·exact re1.ir
   ·exact re2.ir
   ·exact re3.ir
   ·exact re4.ir
  subst he
  exact⟨_,rfl,_,_,_,[],_,[],hW',trodAll_mk1 (shut_bool Tryz.underlying4 _),(trodAll_cons_mk (Below.trod laidOut (by kernel_rfl) (of_decide_eq_true (by kernel_rfl)) hk0 bel hlt0) (trodAll_cons_mk (Below.trod laidOut (by kernel_rfl) (of_decide_eq_true (by kernel_rfl)) hk1 bel hlt1) (trodAll_cons_mk (Below.trod laidOut (by kernel_rfl) (of_decide_eq_true (by kernel_rfl)) hk2 bel hlt2) (trodAll_cons_mk (Below.trod laidOut (by kernel_rfl) (of_decide_eq_true (by kernel_rfl)) hk3 bel hlt3) (trodAll_cons_mk (Below.trod laidOut (by kernel_rfl) (of_decide_eq_true (by kernel_rfl)) hk4 bel hlt4) trodAll_mk0))))),rfl,bel.frame _,fun h=>by cases h⟩
