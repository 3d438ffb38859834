import Derived.Test.YtfgdgdnlglejbaaGreatDoorA26
set_option linter.all false
namespace Go.Proofs.YtfgdgdnlglejbaaGreatDoor.certBack
open Go.ChangeShapes Go.WideShapes Go.ChangeAt Go.RowKit
open Go.Proofs.YtfgdgdnlglejbaaGreatDoor.Vm
theorem named:Tryz.pinned.checked.prog.funcNamed Rows.certBackRow.func=some 5:=by kernel_rfl
theorem inst:Tryz.f5.isInstance Tryz.pinned.checked.prog Rows.certBackRow.origin Rows.certBackRow.targs:=of_decide_eq_true (by kernel_rfl)
theorem wrap:Tryz.f5.isWrapper Tryz.pinned.checked.prog Rows.certBackRow.wrapper Rows.certBackRow.mainSum:=by unfold Func.isWrapper;first | (rw [if_pos (by decide +kernel)];kernel_rfl) | (rw [if_neg (by decide +kernel)];exact⟨rfl,rfl⟩)
theorem Aul {H:Type} (enc:TypeId×Value->H):Rows.certBackRow.pre enc Tryz.pinned.checked.prog Tryz.f5 (OpenSpec.ofChange Rows.certBackSpec)=(fun w args=>(Rows.certBackSpec.pre enc Tryz.prog Tryz.f5 Rows.certBackRow.domain false w args/\laidMetH Tryz.prog tabs w)/\sizedMet enc Tryz.prog Tryz.f5 (OpenSpec.ofChange Rows.certBackSpec) false w args):=rfl
theorem over:Rows.certBackRow.holds Tryz.pinned (OpenSpec.ofChange Rows.certBackSpec) :=
 OpenClaim.holds_of_wide 5 Tryz.f5 rfl rfl rfl rfl rfl rfl rfl ⟨rfl,rfl,rfl,rfl,rfl⟩ rfl rfl rfl rfl rfl named Tryz.func5 closed inst wrap
  (fun os started H enc _=>by rw[Aul];exact lifted os started H enc)
theorem Atr:Rows.certBackRow.wfByText (OpenSpec.ofChange Rows.certBackSpec)=true:=by kernel_rfl
theorem AtT:Tryz.pinned.checked.prog.mainIs=some (true,"ca4c957696d50d4a4faef737824014bdd4e302ff03ec6725ee572da8e0a32390".toList):=by kernel_rfl
theorem AoM {P:Program} (h:P.funcs.toList.any Func.goes=false) (f:FuncId):P.goes f=false:=by
 have h1:P.funcs.any Func.goes=false:=by rw[<- Array.any_toList];exact h
 have h2:((P.closure f).any fun g=>(P.funcs[g]?).any Func.goes)=false:=by
  rw[List.any_eq_false];intro g _ hg;cases e:P.funcs[g]? with
  | none=>rw[e]at hg;cases hg
  | some fn =>
   rw[e]at hg;have hm:fn∈P.funcs.toList:=by rw[Array.mem_toList_iff];exact Array.mem_of_getElem? e
   exact List.any_eq_false.1 h fn hm hg
 unfold Program.goes;rw[h1,h2,Bool.and_false];rfl
theorem AjS {P:Program} (h:P.funcs.toList.any Func.goes=false) (c:OpenClaim):false=c.goesBy P:=by
 have h1: ∀ f,P.goes f=false:=AoM h
 have h2:P.goesFrom c.func=false:=by
  unfold Program.goesFrom;cases P.funcNamed c.func with
  | none=>rfl
  | some f=>exact h1 f
 have h3:P.inits.toList.any P.goes=false:=by rw[List.any_eq_false];intro f _ hf;rw[h1 f]at hf;cases hf
 unfold OpenClaim.goesBy Program.goesAt;rw[h2,Bool.false_or];cases c.start<;>first | rfl | exact h3.symm
theorem goes:false=Rows.certBackRow.goesBy Tryz.pinned.checked.prog:=AjS (by kernel_rfl) _
theorem looks:false=Tryz.pinned.checked.prog.looks []:=by kernel_rfl
theorem proved:Rows.CertBackCardSaid :=
 Claim7.holds_tied_plain_at .later [] [.data,.data,.data,.data,.data,.pinned] true (true,"ca4c957696d50d4a4faef737824014bdd4e302ff03ec6725ee572da8e0a32390") false
  over (by simp) Atr (by simp) certBack_row_tie rfl ⟨rfl,rfl⟩ AtT rfl
  (fun f fn hf hfn=>by obtain rfl:f=5:=Option.some.inj ((show Tryz.prog.funcNamed "certpath/certpathlaw17.CertBack" =some 5 by kernel_rfl).symm.trans hf) |>.symm;obtain rfl:fn=Tryz.f5:=(Option.some.inj (Tryz.func5.symm.trans hfn)).symm;exact⟨looks,fun j t ht=>by rw[Tryz.params5]at ht;have ht:=Array.mem_of_getElem? ht;simp only[List.mem_toArray,List.mem_cons,List.mem_nil_iff,or_false]at ht;rcases ht with rfl | rfl;all_goals exact of_decide_eq_true (by kernel_rfl)⟩)
  goes
