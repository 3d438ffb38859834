import Derived.Test.YtfgdgdnlglejbaaGreatDoorA25
set_option linter.all false
namespace Go.Proofs.YtfgdgdnlglejbaaGreatDoor.certSeal
open Go.ChangeShapes Go.WideShapes Go.ChangeAt Go.RowKit
open Go.Proofs.YtfgdgdnlglejbaaGreatDoor.Vm
theorem named:Tryz.pinned.checked.prog.funcNamed Rows.certSealRow.func=some 4:=by kernel_rfl
theorem inst:Tryz.f4.isInstance Tryz.pinned.checked.prog Rows.certSealRow.origin Rows.certSealRow.targs:=of_decide_eq_true (by kernel_rfl)
theorem wrap:Tryz.f4.isWrapper Tryz.pinned.checked.prog Rows.certSealRow.wrapper Rows.certSealRow.mainSum:=by unfold Func.isWrapper;first | (rw [if_pos (by decide +kernel)];kernel_rfl) | (rw [if_neg (by decide +kernel)];exact⟨rfl,rfl⟩)
theorem Avb {H:Type} (enc:TypeId×Value->H):Rows.certSealRow.pre enc Tryz.pinned.checked.prog Tryz.f4 (OpenSpec.ofChange Rows.certSealSpec)=(fun w args=>(Rows.certSealSpec.pre enc Tryz.prog Tryz.f4 Rows.certSealRow.domain false w args/\laidMetH Tryz.prog tabs w)/\sizedMet enc Tryz.prog Tryz.f4 (OpenSpec.ofChange Rows.certSealSpec) false w args):=rfl
theorem over:Rows.certSealRow.holds Tryz.pinned (OpenSpec.ofChange Rows.certSealSpec) :=
 OpenClaim.holds_of_wide 4 Tryz.f4 rfl rfl rfl rfl rfl rfl rfl ⟨rfl,rfl,rfl,rfl,rfl⟩ rfl rfl rfl rfl rfl named Tryz.func4 closed inst wrap
  (fun os started H enc _=>by rw[Avb];exact lifted os started H enc)
theorem AuC:Rows.certSealRow.wfByText (OpenSpec.ofChange Rows.certSealSpec)=true:=by kernel_rfl
theorem AuR:Tryz.pinned.checked.prog.mainIs=some (true,"ca4c957696d50d4a4faef737824014bdd4e302ff03ec6725ee572da8e0a32390".toList):=by kernel_rfl
theorem Aq8 {P:Program} (h:P.funcs.toList.any Func.goes=false) (f:FuncId):P.goes f=false:=by
 have h1:P.funcs.any Func.goes=false:=by rw[<- Array.any_toList];exact h
 have h2:((P.closure f).any fun g=>(P.funcs[g]?).any Func.goes)=false:=by
  rw[List.any_eq_false];intro g _ hg;cases e:P.funcs[g]? with
  | none=>rw[e]at hg;cases hg
  | some fn =>
   rw[e]at hg;have hm:fn∈P.funcs.toList:=by rw[Array.mem_toList_iff];exact Array.mem_of_getElem? e
   exact List.any_eq_false.1 h fn hm hg
 unfold Program.goes;rw[h1,h2,Bool.and_false];rfl
theorem Amf {P:Program} (h:P.funcs.toList.any Func.goes=false) (c:OpenClaim):false=c.goesBy P:=by
 have h1: ∀ f,P.goes f=false:=Aq8 h
 have h2:P.goesFrom c.func=false:=by
  unfold Program.goesFrom;cases P.funcNamed c.func with
  | none=>rfl
  | some f=>exact h1 f
 have h3:P.inits.toList.any P.goes=false:=by rw[List.any_eq_false];intro f _ hf;rw[h1 f]at hf;cases hf
 unfold OpenClaim.goesBy Program.goesAt;rw[h2,Bool.false_or];cases c.start<;>first | rfl | exact h3.symm
theorem goes:false=Rows.certSealRow.goesBy Tryz.pinned.checked.prog:=Amf (by kernel_rfl) _
theorem looks:false=Tryz.pinned.checked.prog.looks []:=by kernel_rfl
theorem proved:Rows.CertSealCardSaid :=
 Claim7.holds_tied_plain_at .later [] [.data,.data,.data,.data,.data,.pinned] true (true,"ca4c957696d50d4a4faef737824014bdd4e302ff03ec6725ee572da8e0a32390") false
  over (by simp) AuC (by simp) certSeal_row_tie rfl ⟨rfl,rfl⟩ AuR rfl
  (fun f fn hf hfn=>by obtain rfl:f=4:=Option.some.inj ((show Tryz.prog.funcNamed "certpath/certpathlaw17.CertSeal" =some 4 by kernel_rfl).symm.trans hf) |>.symm;obtain rfl:fn=Tryz.f4:=(Option.some.inj (Tryz.func4.symm.trans hfn)).symm;exact⟨looks,fun j t ht=>by rw[Tryz.params4]at ht;have ht:=Array.mem_of_getElem? ht;simp only[List.mem_toArray,List.mem_cons,List.mem_nil_iff,or_false]at ht;rcases ht with rfl | rfl | rfl;all_goals exact of_decide_eq_true (by kernel_rfl)⟩)
  goes
