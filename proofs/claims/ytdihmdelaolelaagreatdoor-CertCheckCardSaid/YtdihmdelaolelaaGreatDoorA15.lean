import Derived.Test.YtdihmdelaolelaaGreatDoorA8
set_option linter.all false
namespace Go.Proofs.YtdihmdelaolelaaGreatDoor.Vm
open Go.RowKit
def Moves.below {T:Nat->Prop} {w w':World} (h:Moves (fun _ _=>none) T w w'):Below w.heap.size w w' :=
 ⟨h.os,h.tape,h.output,h.size,fun b hb=>by
   rcases h.blk b hb with e | ⟨c,c',e,fr,_,_,_,_,k,o,_,ho,_⟩ | ⟨_,_,_,_,o,_,_,ho,_⟩
   .exact e
   .cases ho
   .cases ho⟩
def Sig.ArM {Ju JB:List Sh} {f:ShT Ju->Option (ShT (Lm Ju JB))} {xs:List A} {a:ShT Ju} {o:ShT (Lm Ju JB)} (hd:Tc Ju xs=some a) (hf:f a=some o):(Sig.of Ju JB f).F xs=some (encs (Lm Ju JB) o):=by unfold Sig.F Sig.of;dsimp only;rw[hd];dsimp only;rw[hf];rfl
def AtV {P:Program} {f:FuncId} {sg:Sig} (h:Spec P f sg) {xs:List A} {vs:Array Value} {W:World} (hF:sg.F xs=some [.bool true]) (hress:sg.JB=[.cell false .bool]) (hv:vs.size=xs.length) (hl:xs.length=sg.Ju.length) (h100:xs.length<=100)
 (hx: ∀ j,j<xs.length->IR (fun _ _=>none) W (256*j) (vs.getD j undef) (xs.getD j .undef)) (hI:Inv (fun _ _=>none) W):Calls P f vs W fun e w'=>e= .returned (.bool true)/\Below W.heap.size W w':=by
 refine(h.2 (fun _ _=>none) W vs xs _ hI hv hl h100 hx hF).mono fun e w' hq=> ?_;obtain⟨v,O',he,hc⟩:=hq;obtain⟨us,h1,h2,h3⟩:=hc.res;rw[hress]at h1;have h1':us.size=1:=h1;have h4:J5 O' w' (us.getD 0 undef) (.bool true):=h3 0 (by omega);have h5:us.getD 0 undef= .bool true:=by generalize us.getD 0 undef=z at h4;cases h4;rfl
 have h6:v= .bool true:=by rw[h2,Ih h1',<- h5];simp [Dw,h1']
 exact⟨by rw[he,h6],hc.moves.below⟩
end Go.Proofs.YtdihmdelaolelaaGreatDoor.Vm
