/-
  CertextCheck: the law returns true whatever the input; machine, functions, plain law (part 47 of 47.)
-/
import Derived.Test.YtadefjgbcapakaaGreatDoorA46
import Derived.Test.YtadefjgbcapakaaGreatDoorRows
import Derived.MakeChecks
import Derived.Test.YtadefjgbcapakaaGreatDoorCards
import Derived.Test.YtadefjgbcapakaaGreatDoorTie
import Derived.SevenTiedAt
import Derived.ProofKit
import Derived.OpenShut
import Derived.ChangeOld
import Derived.Carry
set_option linter.unusedVariables false
set_option linter.unusedSimpArgs false
namespace Go.Proofs.YtadefjgbcapakaaGreatDoor.certextCheck
open Go.ChangeShapes Go.WideShapes Go.ChangeAt Go.RowKit
open Go.Proofs.YtadefjgbcapakaaGreatDoor.Vm
theorem named:Tryz.pinned.checked.prog.funcNamed Rows.certextCheckRow.func=some 3:=by kernel_rfl
theorem inst:Tryz.f3.isInstance Tryz.pinned.checked.prog Rows.certextCheckRow.origin Rows.certextCheckRow.targs:=of_decide_eq_true (by kernel_rfl)
theorem wrap:Tryz.f3.isWrapper Tryz.pinned.checked.prog Rows.certextCheckRow.wrapper Rows.certextCheckRow.mainSum:=by
  unfold Func.isWrapper;first | (rw [if_pos (by decide +kernel)];kernel_rfl) | (rw [if_neg (by decide +kernel)];exact⟨rfl,rfl⟩)
theorem AnR {H:Type} (enc:TypeId×Value→H):Rows.certextCheckRow.pre enc Tryz.pinned.checked.prog Tryz.f3 (OpenSpec.ofChange Rows.certextCheckSpec)=(fun w args=>(Rows.certextCheckSpec.pre enc Tryz.prog Tryz.f3 Rows.certextCheckRow.domain false w args∧laidMetH Tryz.prog tabs w)∧sizedMet enc Tryz.prog Tryz.f3 (OpenSpec.ofChange Rows.certextCheckSpec) false w args):=rfl
theorem over:Rows.certextCheckRow.holds Tryz.pinned (OpenSpec.ofChange Rows.certextCheckSpec) :=
  OpenClaim.holds_of_wide 3 Tryz.f3 rfl rfl rfl rfl rfl rfl rfl ⟨rfl,rfl,rfl,rfl,rfl⟩ rfl rfl rfl rfl rfl named Tryz.func3 closed inst wrap
    (fun os started H enc _=>by rw[AnR];exact lifted os started H enc)
theorem AnA:Rows.certextCheckRow.wfByText (OpenSpec.ofChange Rows.certextCheckSpec)=true:=by kernel_rfl
theorem AnI:Tryz.pinned.checked.prog.mainIs=some (true,"fd56ea283c74a3ea5ccf6d3da9cebecdbdc6e4d1a5c5e4d43c6e613eb14b2095".toList):=by kernel_rfl
theorem goes:false=Rows.certextCheckRow.goesBy Tryz.pinned.checked.prog:=by kernel_rfl
theorem looks:false=Tryz.pinned.checked.prog.looks []:=by kernel_rfl
theorem proved:Rows.CertextCheckCardSaid :=
  Claim7.holds_tied_plain_at .later [] [.data,.data,.data,.data,.pinned] true (true,"fd56ea283c74a3ea5ccf6d3da9cebecdbdc6e4d1a5c5e4d43c6e613eb14b2095") false
    over (fun _ h=>by cases h) AnA (fun _ h=>by cases h) certextCheck_row_tie rfl ⟨rfl,rfl⟩ AnI rfl
    (fun f fn hf hfn=>by
      obtain rfl:f=3:=Option.some.inj ((show Tryz.prog.funcNamed "certpath/certpathlaw16.CertextCheck" =some 3 by kernel_rfl).symm.trans hf) |>.symm
      obtain rfl:fn=Tryz.f3:=(Option.some.inj (Tryz.func3.symm.trans hfn)).symm
      exact⟨looks,fun j t ht=>by
        rw[Tryz.params3]at ht
        have ht:=Array.mem_of_getElem? ht
        simp only[List.mem_toArray,List.mem_cons,List.mem_nil_iff,or_false]at ht
        rcases ht with rfl | rfl
        all_goals exact of_decide_eq_true (by kernel_rfl)⟩)
    goes
