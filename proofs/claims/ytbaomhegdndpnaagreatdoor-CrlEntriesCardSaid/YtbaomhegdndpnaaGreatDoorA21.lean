import Derived.Test.YtbaomhegdndpnaaGreatDoorA20
set_option linter.all false
namespace Go.Proofs.YtbaomhegdndpnaaGreatDoor.Pl
open IntKind (i64)
open Go Vm
def G5 (x:Li) (z:Ly) (y:Ex):Ly:=bif y.1==AaP then(z.1,z.2.1,z.2.2.1,z.2.2.2.1,z.2.2.2.2.1,z.2.2.2.2.2.1,z.2.2.2.2.2.2.1,x.ak,z.2.2.2.2.2.2.2.2.1,z.2.2.2.2.2.2.2.2.2.1,z.2.2.2.2.2.2.2.2.2.2.1,z.2.2.2.2.2.2.2.2.2.2.2.1,z.2.2.2.2.2.2.2.2.2.2.2.2.1,z.2.2.2.2.2.2.2.2.2.2.2.2.2.1,z.2.2.2.2.2.2.2.2.2.2.2.2.2.2.1,z.2.2.2.2.2.2.2.2.2.2.2.2.2.2.2.1,z.2.2.2.2.2.2.2.2.2.2.2.2.2.2.2.2)else bif y.1==sN then(z.1,z.2.1,z.2.2.1,z.2.2.2.1,z.2.2.2.2.1,x.num,z.2.2.2.2.2.2.1,z.2.2.2.2.2.2.2.1,z.2.2.2.2.2.2.2.2.1,z.2.2.2.2.2.2.2.2.2.1,z.2.2.2.2.2.2.2.2.2.2.1,z.2.2.2.2.2.2.2.2.2.2.2.1,z.2.2.2.2.2.2.2.2.2.2.2.2.1,z.2.2.2.2.2.2.2.2.2.2.2.2.2.1,z.2.2.2.2.2.2.2.2.2.2.2.2.2.2.1,z.2.2.2.2.2.2.2.2.2.2.2.2.2.2.2.1,z.2.2.2.2.2.2.2.2.2.2.2.2.2.2.2.2)else bif y.1==AaO then(z.1,z.2.1,z.2.2.1,z.2.2.2.1,z.2.2.2.2.1,z.2.2.2.2.2.1,x.base,z.2.2.2.2.2.2.2.1,z.2.2.2.2.2.2.2.2.1,z.2.2.2.2.2.2.2.2.2.1,z.2.2.2.2.2.2.2.2.2.2.1,z.2.2.2.2.2.2.2.2.2.2.2.1,z.2.2.2.2.2.2.2.2.2.2.2.2.1,z.2.2.2.2.2.2.2.2.2.2.2.2.2.1,z.2.2.2.2.2.2.2.2.2.2.2.2.2.2.1,z.2.2.2.2.2.2.2.2.2.2.2.2.2.2.2.1,z.2.2.2.2.2.2.2.2.2.2.2.2.2.2.2.2)else bif y.1==jT then(z.1,z.2.1,z.2.2.1,z.2.2.2.1,z.2.2.2.2.1,z.2.2.2.2.2.1,z.2.2.2.2.2.2.1,z.2.2.2.2.2.2.2.1,true,(scK x.s).1,(scK x.s).2.1,(scK x.s).2.2.1,(scK x.s).2.2.2.1,(scK x.s).2.2.2.2,z.2.2.2.2.2.2.2.2.2.2.2.2.2.2.1,z.2.2.2.2.2.2.2.2.2.2.2.2.2.2.2.1,z.2.2.2.2.2.2.2.2.2.2.2.2.2.2.2.2)else(z.1,z.2.1,z.2.2.1,z.2.2.2.1,z.2.2.2.2.1,z.2.2.2.2.2.1,z.2.2.2.2.2.2.1,z.2.2.2.2.2.2.2.1,z.2.2.2.2.2.2.2.2.1,z.2.2.2.2.2.2.2.2.2.1,z.2.2.2.2.2.2.2.2.2.2.1,z.2.2.2.2.2.2.2.2.2.2.2.1,z.2.2.2.2.2.2.2.2.2.2.2.2.1,z.2.2.2.2.2.2.2.2.2.2.2.2.2.1,x.fr.map ptK,z.2.2.2.2.2.2.2.2.2.2.2.2.2.2.2.1,z.2.2.2.2.2.2.2.2.2.2.2.2.2.2.2.2)
def AlP:List (Bs×Bool):=[(sN,true)]
def Ae5 (m:List (Bs×Bool)) (y:Ex):List (Bs×Bool):=W9 (.str .nil) y.1 m
theorem AqX (x:Li):(lx x).foldl Ae5 AlP=[]:=by
  unfold lx
  cases !(x.ak==[])<;>cases x.base != -1<;>cases x.hs<;>cases decide ((x.fr.length:Int)>0)<;>rfl
def liZ (x:Li) (raw tbs:Bs):Ly:=(raw,tbs,aut x.k,x.this,x.next,0,-1,[],false,[],false,false,0,false,[],(esK x).map enY,[])
theorem AtF (N:Nat) (z:Ly) (v:Bs):IW N z (AaP,false,v)=CW (MM N v) fun r=>some (r.2,(z.1,z.2.1,z.2.2.1,z.2.2.2.1,z.2.2.2.2.1,z.2.2.2.2.2.1,z.2.2.2.2.2.2.1,r.1,z.2.2.2.2.2.2.2.2.1,z.2.2.2.2.2.2.2.2.2.1,z.2.2.2.2.2.2.2.2.2.2.1,z.2.2.2.2.2.2.2.2.2.2.2.1,z.2.2.2.2.2.2.2.2.2.2.2.2.1,z.2.2.2.2.2.2.2.2.2.2.2.2.2.1,z.2.2.2.2.2.2.2.2.2.2.2.2.2.2.1,z.2.2.2.2.2.2.2.2.2.2.2.2.2.2.2.1,z.2.2.2.2.2.2.2.2.2.2.2.2.2.2.2.2)):=by kernel_rfl
theorem At5 (N:Nat) (z:Ly) (v:Bs):IW N z (sN,false,v)=CW (GN N v 2) fun r=>some (r.2,(z.1,z.2.1,z.2.2.1,z.2.2.2.1,z.2.2.2.2.1,r.1,z.2.2.2.2.2.2.1,z.2.2.2.2.2.2.2.1,z.2.2.2.2.2.2.2.2.1,z.2.2.2.2.2.2.2.2.2.1,z.2.2.2.2.2.2.2.2.2.2.1,z.2.2.2.2.2.2.2.2.2.2.2.1,z.2.2.2.2.2.2.2.2.2.2.2.2.1,z.2.2.2.2.2.2.2.2.2.2.2.2.2.1,z.2.2.2.2.2.2.2.2.2.2.2.2.2.2.1,z.2.2.2.2.2.2.2.2.2.2.2.2.2.2.2.1,z.2.2.2.2.2.2.2.2.2.2.2.2.2.2.2.2)):=by kernel_rfl
theorem At8 (N:Nat) (z:Ly) (v:Bs):IW N z (AaO,true,v)=CW (GN N v 2) fun r=>some (r.2,(z.1,z.2.1,z.2.2.1,z.2.2.2.1,z.2.2.2.2.1,z.2.2.2.2.2.1,r.1,z.2.2.2.2.2.2.2.1,z.2.2.2.2.2.2.2.2.1,z.2.2.2.2.2.2.2.2.2.1,z.2.2.2.2.2.2.2.2.2.2.1,z.2.2.2.2.2.2.2.2.2.2.2.1,z.2.2.2.2.2.2.2.2.2.2.2.2.1,z.2.2.2.2.2.2.2.2.2.2.2.2.2.1,z.2.2.2.2.2.2.2.2.2.2.2.2.2.2.1,z.2.2.2.2.2.2.2.2.2.2.2.2.2.2.2.1,z.2.2.2.2.2.2.2.2.2.2.2.2.2.2.2.2)):=by kernel_rfl
theorem At9 (N:Nat) (z:Ly) (v:Bs):IW N z (jT,true,v)=CW (O7 N v) fun r=>some (r.2,(z.1,z.2.1,z.2.2.1,z.2.2.2.1,z.2.2.2.2.1,z.2.2.2.2.2.1,z.2.2.2.2.2.2.1,z.2.2.2.2.2.2.2.1,true,r.1.1,r.1.2.1,r.1.2.2.1,r.1.2.2.2.1,r.1.2.2.2.2,z.2.2.2.2.2.2.2.2.2.2.2.2.2.2.1,z.2.2.2.2.2.2.2.2.2.2.2.2.2.2.2.1,z.2.2.2.2.2.2.2.2.2.2.2.2.2.2.2.2)):=by kernel_rfl
theorem AtG (N:Nat) (z:Ly) (v:Bs):IW N z (sO,false,v)=CW (H9 N v) fun r=>some (r.2,(z.1,z.2.1,z.2.2.1,z.2.2.2.1,z.2.2.2.2.1,z.2.2.2.2.2.1,z.2.2.2.2.2.2.1,z.2.2.2.2.2.2.2.1,z.2.2.2.2.2.2.2.2.1,z.2.2.2.2.2.2.2.2.2.1,z.2.2.2.2.2.2.2.2.2.2.1,z.2.2.2.2.2.2.2.2.2.2.2.1,z.2.2.2.2.2.2.2.2.2.2.2.2.1,z.2.2.2.2.2.2.2.2.2.2.2.2.2.1,r.1,z.2.2.2.2.2.2.2.2.2.2.2.2.2.2.2.1,z.2.2.2.2.2.2.2.2.2.2.2.2.2.2.2.2)):=by kernel_rfl
theorem AsK (x:Li) (z:Ly) (v:Bs):G5 x z (AaP,false,v)=(z.1,z.2.1,z.2.2.1,z.2.2.2.1,z.2.2.2.2.1,z.2.2.2.2.2.1,z.2.2.2.2.2.2.1,x.ak,z.2.2.2.2.2.2.2.2.1,z.2.2.2.2.2.2.2.2.2.1,z.2.2.2.2.2.2.2.2.2.2.1,z.2.2.2.2.2.2.2.2.2.2.2.1,z.2.2.2.2.2.2.2.2.2.2.2.2.1,z.2.2.2.2.2.2.2.2.2.2.2.2.2.1,z.2.2.2.2.2.2.2.2.2.2.2.2.2.2.1,z.2.2.2.2.2.2.2.2.2.2.2.2.2.2.2.1,z.2.2.2.2.2.2.2.2.2.2.2.2.2.2.2.2):=by kernel_rfl
theorem AsE (x:Li) (z:Ly) (v:Bs):G5 x z (sN,false,v)=(z.1,z.2.1,z.2.2.1,z.2.2.2.1,z.2.2.2.2.1,x.num,z.2.2.2.2.2.2.1,z.2.2.2.2.2.2.2.1,z.2.2.2.2.2.2.2.2.1,z.2.2.2.2.2.2.2.2.2.1,z.2.2.2.2.2.2.2.2.2.2.1,z.2.2.2.2.2.2.2.2.2.2.2.1,z.2.2.2.2.2.2.2.2.2.2.2.2.1,z.2.2.2.2.2.2.2.2.2.2.2.2.2.1,z.2.2.2.2.2.2.2.2.2.2.2.2.2.2.1,z.2.2.2.2.2.2.2.2.2.2.2.2.2.2.2.1,z.2.2.2.2.2.2.2.2.2.2.2.2.2.2.2.2):=by kernel_rfl
theorem AsH (x:Li) (z:Ly) (v:Bs):G5 x z (AaO,true,v)=(z.1,z.2.1,z.2.2.1,z.2.2.2.1,z.2.2.2.2.1,z.2.2.2.2.2.1,x.base,z.2.2.2.2.2.2.2.1,z.2.2.2.2.2.2.2.2.1,z.2.2.2.2.2.2.2.2.2.1,z.2.2.2.2.2.2.2.2.2.2.1,z.2.2.2.2.2.2.2.2.2.2.2.1,z.2.2.2.2.2.2.2.2.2.2.2.2.1,z.2.2.2.2.2.2.2.2.2.2.2.2.2.1,z.2.2.2.2.2.2.2.2.2.2.2.2.2.2.1,z.2.2.2.2.2.2.2.2.2.2.2.2.2.2.2.1,z.2.2.2.2.2.2.2.2.2.2.2.2.2.2.2.2):=by kernel_rfl
theorem AsI (x:Li) (z:Ly) (v:Bs):G5 x z (jT,true,v)=(z.1,z.2.1,z.2.2.1,z.2.2.2.1,z.2.2.2.2.1,z.2.2.2.2.2.1,z.2.2.2.2.2.2.1,z.2.2.2.2.2.2.2.1,true,(scK x.s).1,(scK x.s).2.1,(scK x.s).2.2.1,(scK x.s).2.2.2.1,(scK x.s).2.2.2.2,z.2.2.2.2.2.2.2.2.2.2.2.2.2.2.1,z.2.2.2.2.2.2.2.2.2.2.2.2.2.2.2.1,z.2.2.2.2.2.2.2.2.2.2.2.2.2.2.2.2):=by kernel_rfl
theorem AsL (x:Li) (z:Ly) (v:Bs):G5 x z (sO,false,v)=(z.1,z.2.1,z.2.2.1,z.2.2.2.1,z.2.2.2.2.1,z.2.2.2.2.2.1,z.2.2.2.2.2.2.1,z.2.2.2.2.2.2.2.1,z.2.2.2.2.2.2.2.2.1,z.2.2.2.2.2.2.2.2.2.1,z.2.2.2.2.2.2.2.2.2.2.1,z.2.2.2.2.2.2.2.2.2.2.2.1,z.2.2.2.2.2.2.2.2.2.2.2.2.1,z.2.2.2.2.2.2.2.2.2.2.2.2.2.1,x.fr.map ptK,z.2.2.2.2.2.2.2.2.2.2.2.2.2.2.2.1,z.2.2.2.2.2.2.2.2.2.2.2.2.2.2.2.2):=by kernel_rfl
section
variable {N:Nat} (hN:1048578<N) {x:Li} (h:OkL x)
include h
theorem ArL (raw tbs:Bs):(lx x).foldl (G5 x) (liZ x raw tbs)=(liK x).y raw tbs []:=by
  have h1:(!(x.ak==[]))=false->x.ak=[]:=fun h=>by simpa using h
  have h2:(x.base != -1)=false->x.base= -1:=fun h=>by simpa using h
  have h3:x.hs=false->x.s=zSc:=fun hb=>by
    rcases h.sc with ⟨_,h1⟩ | ⟨h1,_⟩
    ·exact h1
    ·rw[hb]at h1;cases h1
  have h4:decide ((x.fr.length:Int)>0)=false->x.fr=[]:=fun hb=>by
    cases hq:x.fr with
    | nil=>rfl
    | cons a r=>rw[hq,decide_eq_true (by rw[List.length_cons];omega)]at hb;cases hb
  clear h
  have a1: ∀ z:Ly,(bif !(x.ak==[])then [(AaP,false,Sp.elem 48 (Sp.elem 128 x.ak))]else []).foldl (G5 x) z=(z.1,z.2.1,z.2.2.1,z.2.2.2.1,z.2.2.2.2.1,z.2.2.2.2.2.1,z.2.2.2.2.2.2.1,(bif !(x.ak==[])then x.ak else z.2.2.2.2.2.2.2.1),z.2.2.2.2.2.2.2.2.1,z.2.2.2.2.2.2.2.2.2.1,z.2.2.2.2.2.2.2.2.2.2.1,z.2.2.2.2.2.2.2.2.2.2.2.1,z.2.2.2.2.2.2.2.2.2.2.2.2.1,z.2.2.2.2.2.2.2.2.2.2.2.2.2.1,z.2.2.2.2.2.2.2.2.2.2.2.2.2.2.1,z.2.2.2.2.2.2.2.2.2.2.2.2.2.2.2.1,z.2.2.2.2.2.2.2.2.2.2.2.2.2.2.2.2):=fun z=>by
    cases !(x.ak==[])with
    | true=>exact AsK x z (Sp.elem 48 (Sp.elem 128 x.ak))
    | false=>rfl
  have a2: ∀ z:Ly,([(sN,false,FT 2 x.num)]:List Ex).foldl (G5 x) z=(z.1,z.2.1,z.2.2.1,z.2.2.2.1,z.2.2.2.2.1,x.num,z.2.2.2.2.2.2.1,z.2.2.2.2.2.2.2.1,z.2.2.2.2.2.2.2.2.1,z.2.2.2.2.2.2.2.2.2.1,z.2.2.2.2.2.2.2.2.2.2.1,z.2.2.2.2.2.2.2.2.2.2.2.1,z.2.2.2.2.2.2.2.2.2.2.2.2.1,z.2.2.2.2.2.2.2.2.2.2.2.2.2.1,z.2.2.2.2.2.2.2.2.2.2.2.2.2.2.1,z.2.2.2.2.2.2.2.2.2.2.2.2.2.2.2.1,z.2.2.2.2.2.2.2.2.2.2.2.2.2.2.2.2):=fun z=>AsE x z (FT 2 x.num)
  have a3: ∀ z:Ly,(bif x.base != -1 then [(AaO,true,FT 2 x.base)]else []).foldl (G5 x) z=(z.1,z.2.1,z.2.2.1,z.2.2.2.1,z.2.2.2.2.1,z.2.2.2.2.2.1,(bif x.base != -1 then x.base else z.2.2.2.2.2.2.1),z.2.2.2.2.2.2.2.1,z.2.2.2.2.2.2.2.2.1,z.2.2.2.2.2.2.2.2.2.1,z.2.2.2.2.2.2.2.2.2.2.1,z.2.2.2.2.2.2.2.2.2.2.2.1,z.2.2.2.2.2.2.2.2.2.2.2.2.1,z.2.2.2.2.2.2.2.2.2.2.2.2.2.1,z.2.2.2.2.2.2.2.2.2.2.2.2.2.2.1,z.2.2.2.2.2.2.2.2.2.2.2.2.2.2.2.1,z.2.2.2.2.2.2.2.2.2.2.2.2.2.2.2.2):=fun z=>by
    cases x.base != -1 with
    | true=>exact AsH x z (FT 2 x.base)
    | false=>rfl
  have a4: ∀ z:Ly,(bif x.hs then [(jT,true,scB x.s)]else []).foldl (G5 x) z=(bif x.hs then(z.1,z.2.1,z.2.2.1,z.2.2.2.1,z.2.2.2.2.1,z.2.2.2.2.2.1,z.2.2.2.2.2.2.1,z.2.2.2.2.2.2.2.1,true,(scK x.s).1,(scK x.s).2.1,(scK x.s).2.2.1,(scK x.s).2.2.2.1,(scK x.s).2.2.2.2,z.2.2.2.2.2.2.2.2.2.2.2.2.2.2.1,z.2.2.2.2.2.2.2.2.2.2.2.2.2.2.2.1,z.2.2.2.2.2.2.2.2.2.2.2.2.2.2.2.2)else z):=fun z=>by
    cases x.hs with
    | true=>exact AsI x z (scB x.s)
    | false=>rfl
  have a5: ∀ z:Ly,(bif decide ((x.fr.length:Int)>0)then [(sO,false,psB x.fr)]else []).foldl (G5 x) z=(z.1,z.2.1,z.2.2.1,z.2.2.2.1,z.2.2.2.2.1,z.2.2.2.2.2.1,z.2.2.2.2.2.2.1,z.2.2.2.2.2.2.2.1,z.2.2.2.2.2.2.2.2.1,z.2.2.2.2.2.2.2.2.2.1,z.2.2.2.2.2.2.2.2.2.2.1,z.2.2.2.2.2.2.2.2.2.2.2.1,z.2.2.2.2.2.2.2.2.2.2.2.2.1,z.2.2.2.2.2.2.2.2.2.2.2.2.2.1,(bif decide ((x.fr.length:Int)>0)then x.fr.map ptK else z.2.2.2.2.2.2.2.2.2.2.2.2.2.2.1),z.2.2.2.2.2.2.2.2.2.2.2.2.2.2.2.1,z.2.2.2.2.2.2.2.2.2.2.2.2.2.2.2.2):=fun z=>by
    cases decide ((x.fr.length:Int)>0)with
    | true=>exact AsL x z (psB x.fr)
    | false=>rfl
  have b1:(bif !(x.ak==[])then x.ak else [])=x.ak:=by
    cases hb: !(x.ak==[])with
    | true=>rfl
    | false=>exact(h1 hb).symm
  have b2:(bif x.base != -1 then x.base else -1)=x.base:=by
    cases hb:x.base != -1 with
    | true=>rfl
    | false=>exact(h2 hb).symm
  have b3:(bif decide ((x.fr.length:Int)>0)then x.fr.map ptK else [])=x.fr.map ptK:=by
    cases hb:decide ((x.fr.length:Int)>0)with
    | true=>rfl
    | false=>rw[h4 hb];rfl
  unfold lx
  rw[List.foldl_append,List.foldl_append,List.foldl_append,List.foldl_append,a1,a2,a3,a4,a5]
  unfold liZ liK Li.y
  dsimp only
  rw[b1,b2]
  cases hb:x.hs with
  | true =>
    dsimp only[cond_true]
    rw[b3]
  | false =>
    dsimp only[cond_false]
    rw[b3,h3 hb]
    rfl
include hN
theorem As6 {y:Ex} (hy:y∈lx x) (z:Ly):IW N z y=some (0,G5 x z y):=by
  have b0:=h.b
  have n0:=h.n0
  have n1:=h.n1
  have int: ∀ n:Int,0<=n->n<256->GN N (FT 2 n) 2=some (n,0):=fun n g0 g1=>by
    have I:=JP hN g0 g1
    have o:=AnR hN (UC I (t:=2) (by decide) (by decide)) rfl
    unfold GN FT
    rw[show Gj N (Sp.elem 2 (inB n)) 2=_ from o,CY]
    show CW (JU N (inB n)) _=_
    rw[I.int];rfl
  unfold lx at hy
  rcases List.mem_append.1 hy with hy | hy
  ·cases hb: !(x.ak==[])with
   | false=>rw[hb]at hy;cases hy
   | true =>
     rw[hb]at hy
     obtain⟨_,_,a1⟩:=Aqb hN h
     have hb':(x.ak==[])=false:=by simpa using hb
     rw[hb',Bool.false_or]at a1
     rw[List.mem_singleton.1 hy,AtF,AsK,eq_of_beq a1,CY]
  rcases List.mem_append.1 hy with hy | hy
  ·rw[List.mem_singleton.1 hy,At5,AsE,int x.num (by omega) (by omega),CY]
  rcases List.mem_append.1 hy with hy | hy
  ·cases hb:x.base != -1 with
   | false=>rw[hb]at hy;cases hy
   | true =>
     rw[hb]at hy
     have hb':x.base≠ -1:=by simpa using hb
     rw[List.mem_singleton.1 hy,At8,AsH,int x.base (by omega) (by omega),CY]
  rcases List.mem_append.1 hy with hy | hy
  ·cases hb:x.hs with
   | false=>rw[hb]at hy;cases hy
   | true =>
     rw[hb]at hy
     have S:Aa1 x.s:=by
       rcases h.sc with ⟨h1,_⟩ | ⟨_,h1⟩
       ·rw[hb]at h1;cases h1
       ·exact h1
     rw[List.mem_singleton.1 hy,At9,AsI,Anq hN S,CY]
  ·cases hb:decide ((x.fr.length:Int)>0)with
   | false=>rw[hb]at hy;cases hy
   | true =>
     rw[hb]at hy
     rw[List.mem_singleton.1 hy,AtG,AsL,Aoa hN (Adh h.fr hb),CY]
theorem AoP (raw tbs:Bs):J6 N (liZ x raw tbs) (xsB (lx x))=some (0,(liK x).y raw tbs []):=by
  have X:=jZ hN h
  have hl:=X.len
  have hf:=ArL h raw tbs
  unfold J6;try simp -zeta only[Ap]
  rw[AfI X hN,CY]
  dsimp only
  rw[show((0:Int) != 0)=false from rfl,cond_false]
  generalize liZ x raw tbs=z0 at hf ⊢
  refine(Fp (fun i=>((i:Int),(((lx x).take i).foldl (G5 x) z0).1,(((lx x).take i).foldl (G5 x) z0).2.1,(((lx x).take i).foldl (G5 x) z0).2.2.1,(((lx x).take i).foldl (G5 x) z0).2.2.2.1,(((lx x).take i).foldl (G5 x) z0).2.2.2.2.1,(((lx x).take i).foldl (G5 x) z0).2.2.2.2.2.1,(((lx x).take i).foldl (G5 x) z0).2.2.2.2.2.2.1,(((lx x).take i).foldl (G5 x) z0).2.2.2.2.2.2.2.1,(((lx x).take i).foldl (G5 x) z0).2.2.2.2.2.2.2.2.1,(((lx x).take i).foldl (G5 x) z0).2.2.2.2.2.2.2.2.2.1,(((lx x).take i).foldl (G5 x) z0).2.2.2.2.2.2.2.2.2.2.1,(((lx x).take i).foldl (G5 x) z0).2.2.2.2.2.2.2.2.2.2.2.1,(((lx x).take i).foldl (G5 x) z0).2.2.2.2.2.2.2.2.2.2.2.2.1,(((lx x).take i).foldl (G5 x) z0).2.2.2.2.2.2.2.2.2.2.2.2.2.1,(((lx x).take i).foldl (G5 x) z0).2.2.2.2.2.2.2.2.2.2.2.2.2.2.1,(((lx x).take i).foldl (G5 x) z0).2.2.2.2.2.2.2.2.2.2.2.2.2.2.2.1,(((lx x).take i).foldl (G5 x) z0).2.2.2.2.2.2.2.2.2.2.2.2.2.2.2.2,((lx x).take i).foldl Ae5 AlP)) (lx x).length (some (0,(liK x).y raw tbs [])) ?_ ?_ N (by omega))
  ·intro i hi k
   have ht:=As6 hN h (getD_mem zX hi) (((lx x).take i).foldl (G5 x) z0)
   have e1:((lx x).take (i+1)).foldl (G5 x) z0=G5 x (((lx x).take i).foldl (G5 x) z0) ((lx x).getD i zX):=by
     rw[List.take_add_one,List.getElem?_eq_getElem hi,List.foldl_append,getD_lt _ i zX hi];rfl
   have e2:((lx x).take (i+1)).foldl Ae5 AlP=Ae5 (((lx x).take i).foldl Ae5 AlP) ((lx x).getD i zX):=by
     rw[List.take_add_one,List.getElem?_eq_getElem hi,List.foldl_append,getD_lt _ i zX hi];rfl
   rw[<- e1]at ht
   unfold zX Ae5 at *
   dsimp only[U19]
   rw[Ob (by omega),cond_true,Va (by omega),EW,EW,Int.toNat_natCast]
   refine(congrArg (fun o=>CW o _) ht).trans ?_
   rw[CY]
   dsimp only
   rw[<- e2,show((0:Int) != 0)=false from rfl,cond_false,w64 (by omega) (by omega)]
   rfl
  ·intro k
   dsimp only[U19]
   rw[SH (by omega),cond_false,List.take_length,hf,AqX]
   rfl
end
def Ahd (t sig:Bs):Bs:=t++(Qd++Sp.elem 3 (0::sig))
def XD (t sig:Bs):Bs:=Sp.elem 48 (Ahd t sig)
section
variable {N:Nat} (hN:1048578<N) {x:Li} (h:OkL x)
include hN h
theorem AsZ:Oq 2 (esB x).flatten:=(XP (d:=2) (g:=fun i=>DT 48 (enC (x.es.getD i zE) (Fe x i))) fun i hi=>by
  have E:=h.all _ (getD_mem zE (List.mem_range.1 hi))
  exact GH (Aed hN E) (by decide) (Ah9 hN E).nest).nest
theorem Ak0:Par 1 (UU x) (Aes 2 1::DT 48 QP::DT 48 (nmB (aut x.k))::wQ x.this::wQ x.next::((bif decide ((x.es.length:Int)>0)then [DT 48 (esB x).flatten]else [])++[DT 160 (xsB (lx x))])):=by
  have I:=JP hN (n:=1) (by omega) (by omega)
  have hl:=es_len hN h
  have hx:=Afi hN h
  refine Gs (es:=[_]) (L6 (UC I (by decide) (by decide)) (by decide) (by decide)) (Gs (es:=[_]) (Akf (Qr hN) (by decide)) (Gs (es:=[_]) (Aks hN (GL hN h.k).ok (by decide)) (Gs (es:=[_]) (Afe (FM hN h.th) (by decide)) (Gs (es:=[_]) (Afe (FM hN h.nx) (by decide)) (Gs (UK _ fun _=> ?_) ?_)))))
  ·exact GH (Hy (by decide) (by decide) (by omega)) (by decide) (AsZ hN h)
  ·exact GH (Hy (by decide) (by decide) (by omega)) (by decide) (GH (t:=48) (Ak1 (jZ hN h) hN) (by decide) (AiZ (jZ hN h) hN (by decide)).nest).nest
theorem Alb (raw tbs:Bs):QF N (raw,tbs,[],0,0,0,-1,[],false,[],false,false,0,false,[],[],[]) (UU x)=some (0,(liK x).y raw tbs []):=by
  have hl:=XQ hN h
  have h1:=JE N (UU x) (by omega) (by omega) (by omega)
  rw[(Ak0 hN h).list]at h1
  have I:=JP hN (n:=1) (by omega) (by omega)
  have num: ∀ r,MN N (Aes 2 1::r)=some (1,0,r):=fun r=>by
    unfold MN Aes
    rw[Ri 2 _ r (k:=2) rfl,CY]
    dsimp only[DT]
    rw[show((0:Int) != 0)=false from rfl,cond_false,I.int];rfl
  have tim: ∀ t,t∈MH-> ∀ r,O9 N (wQ t::r)=some (t,0,r):=fun t ht r=>by
    unfold O9 wQ
    rw[oZ,CY]
    dsimp only[DT]
    rw[show((0:Int) != 0)=false from rfl,cond_false,(FM hN ht).dec];rfl
  have alg: ∀ r,Jq N (DT 48 QP::r)=some (0,r):=fun r=>by
    unfold Jq
    rw[oZ,CY]
    dsimp only
    rw[show((0:Int) != 0)=false from rfl,cond_false,(Qr hN).chk];rfl
  have A:=GL hN h.k
  have nm:LX N (Sp.elem 48 (nmB (aut x.k)))=some (aut x.k,0):=by
    have:=Aaf hN A.ok
    rw[A.C]at this;exact this
  have hz:=AoP hN h raw tbs
  unfold liZ at hz
  unfold QF GR
  try simp only[clR]
  rw[h1,CY]
  dsimp only
  rw[show((0:Int) != 0)=false from rfl,cond_false,KR,show((0:Int) != 0)=false from rfl,cond_false,num,CY]
  dsimp only
  rw[show((0:Int) != 0)=false from rfl,cond_false,show((1:Int) != 1)=false from rfl,cond_false,alg,CY]
  dsimp only
  rw[show((0:Int) != 0)=false from rfl,cond_false,Ri 48 _ _ (k:=48) rfl,CY]
  dsimp only[DT]
  rw[show((0:Int) != 0)=false from rfl,cond_false,nm,CY]
  dsimp only
  rw[show((0:Int) != 0)=false from rfl,cond_false,tim _ h.th,CY]
  dsimp only
  rw[show((0:Int) != 0)=false from rfl,cond_false,tim _ h.nx,CY]
  dsimp only
  rw[show((0:Int) != 0)=false from rfl,cond_false,Jh,RY,CY]
  cases hb:decide ((x.es.length:Int)>0)with
  | false =>
    have h0:x.es.length=0:=by have:=of_decide_eq_false hb;omega
    have he:esK x=[]:=by unfold esK;rw[h0];rfl
    rw[he]at hz
    rw[cond_false,List.nil_append,Aem (show ¬((160:Nat):Int)=48 from by decide)]
    dsimp only[cond_false,U21]
    refine(congrArg (fun o=>CW o _) (Ri (N:=N) 160 (xsB (lx x)) [] (k:=160) rfl)).trans ?_
    rw[CY]
    dsimp only[DT]
    rw[show((0:Int) != 0)=false from rfl,cond_false]
    refine(congrArg (fun o=>CW o _) hz).trans ?_
    rw[CY]
    dsimp only
    rw[show((0:Int) != 0)=false from rfl,cond_false,NH];rfl
  | true =>
    have h0:0<x.es.length:=by have:=of_decide_eq_true hb;omega
    rw[cond_true,List.cons_append,List.nil_append,Aen (show((48:Nat):Int)=48 from rfl)]
    dsimp only[cond_true]
    rw[AmS hN h h0,CY]
    dsimp only[cond_true,U21]
    rw[show((0:Int) != 0)=false from rfl,cond_false]
    refine(congrArg (fun o=>CW o _) (Ri (N:=N) 160 (xsB (lx x)) [] (k:=160) rfl)).trans ?_
    rw[CY]
    dsimp only[DT]
    rw[show((0:Int) != 0)=false from rfl,cond_false]
    refine(congrArg (fun o=>CW o _) hz).trans ?_
    rw[CY]
    dsimp only
    rw[show((0:Int) != 0)=false from rfl,cond_false,NH];rfl
theorem ApE {sig:Bs} (hs:sig.length<=60000):(Ahd (Gi x) sig).length<=120000:=by
  have h1:=AiP hN h
  have h2:=Aa4 (Qr hN)
  have h3:=Sp.DD 3 (0::sig)
  rw[List.length_cons]at h3
  unfold Ahd
  rw[List.length_append,List.length_append];omega
theorem ApF {sig:Bs} (hs:sig.length<=60000):Par 0 (Ahd (Gi x) sig) [DT 48 (UU x),DT 48 QP,DT 3 (0::sig)]:=by
  have hl:=XQ hN h
  exact Gs (es:=[_]) (GH (Hy (by decide) (by decide) (by omega)) (by decide) (Ak0 hN h).nest) (Gs (es:=[_]) (Akf (Qr hN) (by decide)) (L6 (Hy (by decide) (by decide) (by rw[List.length_cons];omega)) (by decide) (by decide)))
theorem decode_ok {sig:Bs} (hs:sig.length<=60000) (hc:O5 N ((liK x).y (XD (Gi x) sig) (Gi x) sig)=some 0):KX N (XD (Gi x) sig)=some ((liK x).y (XD (Gi x) sig) (Gi x) sig,0):=by
  have hl:=ApE hN h hs
  have ho:Ls N (XD (Gi x) sig) 48=some (.inl (_,0)):=AeD hN (t:=48) (by omega) (by omega) (by omega) (ApF hN h hs).list
  have ht:=Alb hN h (XD (Gi x) sig) (Gi x)
  have hT:=Ar4 hN (AgY h hN) (XD (Gi x) sig) (Gi x) sig hc
  rw[Ati h hN]at hT
  have alg: ∀ r,Jq N (DT 48 QP::r)=some (0,r):=fun r=>by
    unfold Jq
    rw[oZ,CY]
    dsimp only
    rw[show((0:Int) != 0)=false from rfl,cond_false,(Qr hN).chk];rfl
  have bits:VK N (0::sig)=some (sig,0,0):=by
    have hlen:(0::sig:Bs).length=sig.length+1:=rfl
    unfold VK TM
    try simp only[clR]
    have hcut:Dx (0::sig:Bs) 1 (0::sig:Bs).length=sig:=by rw[Ah0];rfl
    rw[show((0::sig:Bs)==[])=false from rfl,hcut]
    simp (disch:=first | assumption | omega) only[D8,hlen,List.getD_cons_zero,UInt8.toNat_zero,Option.isSome_some,Option.getD_some]
    try rfl
  have sg: ∀ r,QG N (DT 3 (0::sig)::r)=some (sig,0,r):=fun r=>by
    unfold QG
    rw[Ri 3 _ r (k:=3) rfl,CY]
    dsimp only[DT]
    rw[show((0:Int) != 0)=false from rfl,cond_false,bits];rfl
  unfold Li.y at hc hT ht ⊢
  unfold KX
  try simp only[clR]
  rw[ho,KR]
  dsimp only
  rw[show((0:Int) != 0)=false from rfl,cond_false,Ri 48 _ _ (k:=48) rfl,CY]
  dsimp only[DT]
  rw[show((0:Int) != 0)=false from rfl,cond_false]
  refine(congrArg (fun o=>CW o _) ht).trans ?_
  rw[CY]
  dsimp only
  rw[show((0:Int) != 0)=false from rfl,cond_false]
  refine(congrArg (fun o=>CW o _) (alg _)).trans ?_
  rw[CY]
  dsimp only
  rw[show((0:Int) != 0)=false from rfl,cond_false]
  refine(congrArg (fun o=>CW o _) (sg _)).trans ?_
  rw[CY]
  dsimp only
  rw[show((0:Int) != 0)=false from rfl,cond_false,NH,CY]
  show(bif ((0:Int) != 0)then _ else _)=_
  rw[show((0:Int) != 0)=false from rfl,cond_false,hc,CY,show((0:Int) != 0)=false from rfl,cond_false,hT,CY]
  dsimp only
  rw[beq_self_eq_true]
  rfl
end
end Go.Proofs.YtbaomhegdndpnaaGreatDoor.Pl
namespace Go.Proofs.YtbaomhegdndpnaaGreatDoor.Pl
open IntKind (i64)
open Go Vm
def vZ:Bs:=[110,111,32,115,105,103,110,97,116,117,114,101]
section
variable {N:Nat} (hN:1048578<N) {x:Li} (h:OkL x) (raw tbs sig:Bs)
include hN h
theorem Arm:Ko N (x.y raw tbs sig)=some 0:=by
  rcases h.sc with ⟨h1,h2⟩ | ⟨h1,S⟩
  ·unfold Ko Li.y;try simp -zeta only[Ap]
   try dsimp only
   rw[h1,h2]
   obtain⟨M,rfl⟩:=ofM hN
   kernel_rfl
  ·have hm:=kM S.re
   have nm:=tZ hN S.ns
   have z:Jo N (x.s.1,x.s.2.1,x.s.2.2.1,x.s.2.2.2.1,x.s.2.2.2.2)=some false/\(x.s.2.1&&x.s.2.2.1)=false:=by
     unfold Jo;try simp -zeta only[Ap]
     try dsimp only
     rcases S.sh with ⟨g1,g2,g3⟩ | ⟨g1,g2,g3⟩ | ⟨g1,g2,g3⟩
     ·rw[g1,g2]
      refine⟨?_,rfl⟩
      cases ((x.s.1.length:Int)==0)<;>cases x.s.2.2.2.1==0<;>cases x.s.2.2.2.2<;>rfl
     ·rw[g1,g2]
      refine⟨?_,rfl⟩
      cases ((x.s.1.length:Int)==0)<;>cases x.s.2.2.2.1==0<;>cases x.s.2.2.2.2<;>rfl
     ·have hp:=List.length_pos_iff.2 g3
      rw[g1,g2,JJ (show(x.s.1.length:Int)≠0 by omega)]
      refine⟨?_,rfl⟩
      cases x.s.2.2.2.1==0<;>cases x.s.2.2.2.2<;>rfl
   obtain⟨z1,z2⟩:=z
   unfold Ko Li.y;try simp -zeta only[Ap]
   try dsimp only
   rw[h1,z1,hm,nm]
   have z3:(bif x.s.2.1 then x.s.2.2.1 else false)=false:=by rw[wZ];exact z2
   rw[z3]
   cases x.s.2.1<;>rfl
theorem AoX {i:Nat} (hi:i<x.es.length):Ns N (x.y raw tbs sig) (i:Int)=some 0:=by
  have hE:=h.all _ (getD_mem zE hi)
  have A:=GL hN hE.k
  have e1:=VA enY x.es zE zY hi
  have hlm:(x.es.map enY).length=x.es.length:=List.length_map _
  have hl5:=h.len
  have T:=FM hN hE.ti
  have t0:=T.p0
  have t1:=T.p1
  have hiv: -1<=(x.es.getD i zE).iv/\(x.es.getD i zE).iv<=254033452799:=by
    rcases hE.iv with h | h
    ·rw[h];decide
    ·have T:=FM hN h
     have:=T.p0
     have:=T.p1
     omega
  have s0:=hE.s0
  have s1:=hE.s1
  have hr8:=hE.r8
  have hne:=wY A
  have hc:=Q3 hN A.ok
  have hm:=A.rmt x.k h.k
  have his:=hE.is
  have hreason:MF N (x.es.getD i zE).re=some true:=by
    have: ∀ r∈reL,MF N r=some true:=by
      intro r hr
      obtain⟨M,rfl⟩:=ofM hN
      have:=List.all_eq_true.1 (show reL.all (fun r=>MF (M+300) r==some true)=true by kernel_rfl) r hr
      exact eq_of_beq this
    exact this _ hE.re
  have h8:((x.es.getD i zE).re==8&&x.base== -1)=false:=by
    cases h8:(x.es.getD i zE).re==8 with
    | false=>rfl
    | true=>exact beq_false_of_ne (hr8 (eq_of_beq h8))
  have h31:(!x.s.2.2.2.2&& !((x.es.getD i zE).k % 8==x.k % 8))=false:=by
    rcases his with h | h
    ·rw[h];rfl
    ·rw[h,beq_self_eq_true,Bool.not_true,Bool.and_false]
  have d1:decide ((enY (x.es.getD i zE)).1<1)=false:=decide_eq_false (by rw[AoS];omega)
  have d2:decide ((enY (x.es.getD i zE)).1>4611686018427387904)=false:=decide_eq_false (by rw[AoS];omega)
  have d3:decide ((enY (x.es.getD i zE)).2.1<0)=false:=decide_eq_false (by rw[Ah8];omega)
  have d4:decide ((enY (x.es.getD i zE)).2.1>254033452799)=false:=decide_eq_false (by rw[Ah8];omega)
  have d5:decide ((enY (x.es.getD i zE)).2.2.2.1< -1)=false:=decide_eq_false (by rw[AoU];omega)
  have d6:decide ((enY (x.es.getD i zE)).2.2.2.1>254033452799)=false:=decide_eq_false (by rw[AoU];omega)
  have c1:(((enY (x.es.getD i zE)).2.2.2.2.length:Int)==0)=false:=JJ (by rw[ArD];omega)
  have c2:Gf N (enY (x.es.getD i zE)).2.2.2.2=some 0:=hc
  have c3:EP N (enY (x.es.getD i zE)).2.2.2.2 (aut x.k)=some ((x.es.getD i zE).k % 8==x.k % 8):=hm
  have c4:MF N (enY (x.es.getD i zE)).2.2.1=some true:=hreason
  have c5:((enY (x.es.getD i zE)).2.2.1==8&&x.base== -1)=false:=h8
  have c6:(!x.s.2.2.2.2&& !((x.es.getD i zE).k % 8==x.k % 8))=false:=h31
  unfold Ns Li.y;try simp -zeta only[Ap]
  try dsimp only
  rw[hlm,Int.toNat_natCast]
  unfold zY at e1
  rw[e1,Va (by omega),Ob (by omega),EW,EW]
  try simp only[clR]
  rw[d1,d2,d3,d4,d5,d6]
  simp only[Bool.not_true,Bool.not_false,Bool.or_true,Bool.true_or,Bool.or_false,Bool.false_or,Bool.or_self,EW,cond_true,cond_false,Bool.cond_self]
  rw[c4,CY]
  simp only[Bool.not_true,Bool.not_false,Bool.or_true,Bool.true_or,Bool.or_false,Bool.false_or,Bool.or_self,EW,cond_true,cond_false,Bool.cond_self,Bool.true_and,Bool.not_or_self,Bool.or_not_self,KH,IA,IU]
  rw[c5,cond_false,c1,cond_false,c2,CY,show((0:Int) != 0)=false from rfl,cond_false,c3]
  simp only[Option.isSome_some,Option.getD_some,Bool.not_true,Bool.not_false,Bool.or_true,Bool.true_or,EW,KH,IA,IU]
  rw[c6,cond_false]
  refine(Fp (fun j=>((j:Int),raw,tbs,aut x.k,x.this,x.next,x.num,x.base,x.ak,x.hs,x.s.1,x.s.2.1,x.s.2.2.1,x.s.2.2.2.1,x.s.2.2.2.2,x.fr,x.es.map enY,sig,(enY (x.es.getD i zE)).1,(enY (x.es.getD i zE)).2.1,(enY (x.es.getD i zE)).2.2.1,(enY (x.es.getD i zE)).2.2.2.1,(enY (x.es.getD i zE)).2.2.2.2)) i (some 0) ?_ ?_ N (by omega))
  ·intro j hj k
   have g1:=VA enY x.es zE zY (show j<x.es.length by omega)
   have g2:=Aqn h hj hi
   have g3:EP N (enY (x.es.getD j zE)).2.2.2.2 (enY (x.es.getD i zE)).2.2.2.2=some ((x.es.getD j zE).k % 8==(x.es.getD i zE).k % 8):=(GL hN (h.all _ (getD_mem zE (show j<x.es.length by omega))).k).rmt _ hE.k
   have g4:((enY (x.es.getD j zE)).1==(enY (x.es.getD i zE)).1&&(x.es.getD j zE).k % 8==(x.es.getD i zE).k % 8)=false:=g2
   unfold zY at g1
   dsimp only[U23]
   rw[Ob (by omega),cond_true,hlm,Int.toNat_natCast,g1,g3,Va (by omega),Ob (by omega)]
   simp only[Option.isSome_some,Option.getD_some,Bool.true_or,EW,KH,IA,IU]
   rw[g4,cond_false,w64 (by omega) (by omega)]
   rfl
  ·intro k
   dsimp only[U23]
   rw[SH (by omega),cond_false]
theorem Aj5:Ol N (x.y raw tbs sig)=some 0:=by
  have A:=GL hN h.k
  have hp:=wY A
  have hc:=Q3 hN A.ok
  have T1:=FM hN h.th
  have T2:=FM hN h.nx
  have a0:=T1.p0
  have a1:=T1.p1
  have a2:=T2.p0
  have a3:=T2.p1
  have a4:=h.le
  have a5:=h.n0
  have a6:=h.n1
  have hb: -1<=x.base/\x.base<=200:=by rcases h.b with h | h<;>omega
  have hb2:(x.base != -1&&decide (x.base>=x.num))=false:=by
    rcases h.b with h | h
    ·rw[h];rfl
    ·rw[Ald (by omega),Bool.and_false]
  have hak:x.ak.length<=32:=by rcases h.ak with h | h<;>rw[h]<;>decide
  have hfr:=Apz hN h.fr
  have hfr2:(x.base != -1&&decide ((x.fr.length:Int)>0))=false:=by
    rcases h.fr with h | h
    ·rw[h];exact Bool.and_false _
    ·rw[h.1];rfl
  have hsc:=Arm hN h raw tbs sig
  have hlm:(x.es.map enY).length=x.es.length:=List.length_map _
  have h5:=h.len
  have d1:decide (x.this<0)=false:=decide_eq_false (by omega)
  have d2:decide (x.this>254033452799)=false:=decide_eq_false (by omega)
  have d3:decide (x.next<0)=false:=decide_eq_false (by omega)
  have d4:decide (x.next>254033452799)=false:=decide_eq_false (by omega)
  have d5:decide (x.this>x.next)=false:=decide_eq_false (by omega)
  have d6:decide (x.num<0)=false:=decide_eq_false (by omega)
  have d7:decide (x.num>4611686018427387904)=false:=decide_eq_false (by omega)
  have d8:decide (x.base< -1)=false:=decide_eq_false (by omega)
  have d9:decide (x.base>4611686018427387904)=false:=decide_eq_false (by omega)
  unfold Ol
  try simp only[clR]
  rw[hsc]
  unfold Li.y
  dsimp only
  rw[hlm,hfr]
  rw[JJ (by omega),cond_false,hc,CY,show((0:Int) != 0)=false from rfl,cond_false,d1,d2,d3,d4,d5,d6,d7,d8,d9]
  simp only[hb2,hfr2,wZ,Bool.not_true,Bool.not_false,Bool.or_true,Bool.true_or,Bool.or_false,Bool.false_or,Bool.true_and,Bool.or_self,Bool.not_or_self,Bool.or_not_self,EW,KH,IA,IU,cond_true,cond_false,Bool.cond_self]
  rw[Ace (by omega),cond_false,CY,show((0:Int) != 0)=false from rfl,cond_false,CY,show((0:Int) != 0)=false from rfl,cond_false,Ace (by omega),cond_false]
  refine(Fp (fun i=>((i:Int),raw,tbs,aut x.k,x.this,x.next,x.num,x.base,x.ak,x.hs,x.s.1,x.s.2.1,x.s.2.2.1,x.s.2.2.2.1,x.s.2.2.2.2,x.fr,x.es.map enY,sig)) x.es.length (some 0) ?_ ?_ N (by omega))
  ·intro i hi k
   have he:=AoX hN h raw tbs sig hi
   unfold Li.y at he
   dsimp only[U18]
   rw[Ob (by omega),cond_true]
   refine(congrArg (fun o=>CW o _) he).trans ?_
   rw[CY,show((0:Int) != 0)=false from rfl,cond_false,w64 (by omega) (by omega)]
   rfl
  ·intro k
   dsimp only[U18]
   rw[SH (by omega),cond_false]
theorem AsQ:Kz N (x.y raw tbs sig)=some (Gi x,0):=by
  have hl:=h.len
  have hxs:=Ad4 (jZ hN h) hN
  have hxl:=Afi hN h
  have htl:=XQ hN h
  have hep:=ArI hN h raw tbs sig
  have hc:=Aj5 hN h raw tbs sig
  have ha:=(Qr hN).YX
  have hn:=tY hN (GL hN h.k).ok
  have t1:=(FM hN h.th).YX
  have t2:=(FM hN h.nx).YX
  have n1:EU N 2 1=some (FT 2 1):=AcT hN (t:=2) (by omega) (by omega) (by omega) (by omega)
  have wx:=cO N 160 [xsB (lx x)] (by omega) (by omega) hN (by simp) (by rw[Eb];omega)
  rw[Eb]at wx
  have wr:NF N 160 (lx x)=some (Sp.elem 160 (xsB (lx x)),0):=by
    unfold NF
    rw[hxs,CY]
    dsimp only
    rw[show((0:Int) != 0)=false from rfl,cond_false]
    refine(congrArg (fun o=>CW o _) wx).trans ?_
    rfl
  have wS:ED N 48 (Ab3 x)=some (Gi x,0):=by
    have:=cO N 48 (Ab3 x) (by omega) (by omega) hN (by show 7<=_;omega) (by rw[Ab4];omega)
    rw[Ab4]at this
    exact this
  have hes:=es_len hN h
  have we:ED N 48 [(esB x).flatten]=some (Sp.elem 48 (esB x).flatten,0):=by
    have:=cO N 48 [(esB x).flatten] (by omega) (by omega) hN (by simp) (by rw[Eb];omega)
    rw[Eb]at this
    exact this
  have hlm:(x.es.map enY).length=x.es.length:=List.length_map _
  unfold Kz
  try simp only[clR]
  rw[hc,CY,show((0:Int) != 0)=false from rfl,cond_false]
  unfold Li.y at *
  dsimp only at *
  rw[hn,CY,t1,CY,t2,CY]
  have fin: ∀ e:Bs,e=KY x->U18 (fun t11c b33024_0c b33024_1c b33024_2c b33024_3c b33024_4c b33024_5c b33024_6c b33024_7c b33024_8c b33024_9c b33024_10c b33024_11c b33024_12c b33024_13c b33024_14c b33024_15c b33024_16c =>
      CW (Ii N (b33024_0c,b33024_1c,b33024_2c,b33024_3c,b33024_4c,b33024_5c,b33024_6c,b33024_7c,b33024_8c,b33024_9c,b33024_10c,b33024_11c,b33024_12c,b33024_13c,b33024_14c,b33024_15c,b33024_16c)) fun r76=>bif (r76.2 != (0:Int))then(some (([]:Bs),(2:Int)))else(CW (NF N 160 r76.1) fun r83=>bif (r83.2 != (0:Int))then(some (([]:Bs),2))else(CW (EU N 2 1) fun r88=>CW (Jm N) fun r89=>CW (ED N 48 ([r88,r89,nmT (aut x.k),H6 x.this,H6 x.next,t11c,r83.1]:List Bs)) fun r96=>some (r96.1,r96.2))))
      (e,raw,tbs,aut x.k,x.this,x.next,x.num,x.base,x.ak,x.hs,x.s.1,x.s.2.1,x.s.2.2.1,x.s.2.2.2.1,x.s.2.2.2.2,x.fr,x.es.map enY,sig)=some (Gi x,0):=by
    intro e he
    subst he
    unfold Ab3 at wS
    dsimp only[U18]
    rw[hep,CY]
    dsimp only
    rw[show((0:Int) != 0)=false from rfl,cond_false,wr,CY]
    dsimp only
    rw[show((0:Int) != 0)=false from rfl,cond_false,n1,CY,ha,CY,wS,CY]
  refine(Fp (fun i=>(((List.range i).map (esF x)).flatten,(i:Int),raw,tbs,aut x.k,x.this,x.next,x.num,x.base,x.ak,x.hs,x.s.1,x.s.2.1,x.s.2.2.1,x.s.2.2.2.1,x.s.2.2.2.2,x.fr,x.es.map enY,sig,aut (Fe x i))) x.es.length (some (Gi x,0)) ?_ ?_ N (by omega))
  ·intro i hi k
   have hE:=h.all _ (getD_mem zE hi)
   have e1:=VA enY x.es zE zY hi
   have e2:=AqA hN hE (p:=Fe x i) (Aic h (by omega))
   have e3:((List.range i).map (esF x)).flatten++enB (x.es.getD i zE) (Fe x i)=((List.range (i+1)).map (esF x)).flatten:=by rw[List.range_succ,List.map_append,List.flatten_append];simp [esF]
   have e4:((List.range i).map (esF x)).flatten.length+(enB (x.es.getD i zE) (Fe x i)).length<=140737488355328:=by
     have:=NL (g:=esF x) (M:=3455) (l:=List.range i) fun j hj=>Aec hN (h.all _ (getD_mem zE (show j<x.es.length by have:=List.mem_range.1 hj;omega)))
     rw[List.length_range]at this
     have:=Aec hN hE (p:=Fe x i)
     omega
   unfold zY at e1
   dsimp only[U20]
   rw[hlm,Int.toNat_natCast,e1,Ob (by omega),cond_true,Va (by omega),EW,EW,e2,CY,AcR e4,EW,e3,w64 (by omega) (by omega)]
   rfl
  ·intro k
   dsimp only[U20]
   rw[hlm,SH (by omega),cond_false]
   dsimp only[U18]
   rw[Jh,show((List.range x.es.length).map (esF x)).flatten=(esB x).flatten from rfl]
   cases hb:decide ((x.es.length:Int)>0)with
   | true =>
     have hE:KY x=Sp.elem 48 (esB x).flatten:=by unfold KY;rw[hb];rfl
     rw[hlm,hb,cond_true,we,CY]
     dsimp only
     rw[show((0:Int) != 0)=false from rfl,cond_false]
     exact fin _ hE.symm
   | false =>
     have hE:KY x=[]:=by unfold KY;rw[hb];rfl
     have h0:x.es.length=0:=by have:=of_decide_eq_false hb;omega
     have h1:(esB x).flatten=[]:=by unfold esB;rw[h0];rfl
     rw[hlm,hb,cond_false,h1]
     exact fin [] hE.symm
theorem As0 {sig:Bs} (hs:sig.length<=60000):XB N (Gi x) sig=some (Sp.elem 48 (Gi x++(Qd++Sp.elem 3 (0::sig))),0):=by
  have hl:=XQ hN h
  have hB:=AiP hN h
  have h2:=Aa4 (Qr hN)
  have h3:=Sp.DD 3 (0::sig)
  rw[List.length_cons]at h3
  have w:QC N (Gi x) 48=some (DT 48 (UU x),0):=by
    rw[ApX N _ 48 hN (by omega)]
    exact congrArg some (RD 48 (UU x) (by decide) (by decide) (by omega))
  have f3:=cO N 3 [[0],sig] (by omega) (by omega) hN (by simp) (by rw[Aqi];show(0::sig).length<=_;rw[List.length_cons];omega)
  rw[Aqi]at f3
  have f3:ED N 3 [[0],sig]=some (Sp.elem 3 (0::sig),0):=f3
  have f48:ED N 48 [Gi x,Qd,Sp.elem 3 (0::sig)]=some (Sp.elem 48 (Gi x++(Qd++Sp.elem 3 (0::sig))),0):=by
    have:=cO N 48 [Gi x,Qd,Sp.elem 3 (0::sig)] (by omega) (by omega) hN (by simp) (by rw[flat3,List.length_append,List.length_append];omega)
    rw[flat3]at this
    exact this
  unfold XB
  rw[w,CY]
  dsimp only
  rw[show((0:Int) != 0)=false from rfl,cond_false,f3,CY]
  dsimp only
  rw[show((0:Int) != 0)=false from rfl,cond_false,(Qr hN).YX,CY,f48,CY]
end
end Go.Proofs.YtbaomhegdndpnaaGreatDoor.Pl
namespace Go.Proofs.YtbaomhegdndpnaaGreatDoor.Pl
open IntKind (i64)
open Go Vm
theorem AaW {α :Type} {P: α ->Prop} {l:List α} {x: α} (h: ∀ y∈l,P y) (hx:P x): ∀ y∈l++[x],P y:=by
  intro y hy
  rcases List.mem_append.1 hy with hy | hy
  ·exact h y hy
  ·rw[List.mem_singleton.1 hy];exact hx
def Ends {α :Type} (Q: α ->Prop) (o:Option α):Prop:= ∃ v,o=some v/\Q v
theorem Ld {α :Type} {Q: α ->Prop} {v: α} (h:Q v):Ends Q (some v):=⟨v,rfl,h⟩
theorem DV {α ρ :Type} [Inhabited α] {P: α ->Prop} {Q: ρ ->Prop} {o:Option α} {k: α ->Option ρ} (h:Ends P o) (hk: ∀ v,P v->Ends Q (k v)):Ends Q (CW o k):=by
  obtain⟨v,rfl,hv⟩:=h
  exact hk v hv
theorem Eu {ρ :Type} {Q: ρ ->Prop} {c:Bool} {k:Option ρ} (h:c=true) (hk:Ends Q k):Ends Q (Vm.chk c k):=by rw[h];exact hk
theorem FQ {ρ :Type} {Q: ρ ->Prop} {c:Bool} {x y:Option ρ} (h1:c=true->Ends Q x) (h2:c=false->Ends Q y):Ends Q (bif c then x else y):=by
  cases c with
  | true=>exact h1 rfl
  | false=>exact h2 rfl
theorem Lc {α ρ :Type} {P: α ->Prop} {Q: ρ ->Prop} {A:(α ->Option ρ)->Option ρ} {f: α ->Option ρ} (hA: ∀ j: α ->Option ρ,(∀ x,P x->Ends Q (j x))->Ends Q (A j)) (hf: ∀ x,P x->Ends Q (f x)):Ends Q (Ei A f):=hA f hf
theorem ZF {X Y ρ :Type} {B:X->(X->Option ρ)->(Y->Option ρ)->Option ρ} {kx:Y->Option ρ} {Q: ρ ->Prop} (I:X->Prop) (μ :X->Nat)
    (h: ∀ x,I x-> ∀ k:X->Option ρ,(∀ x',I x'-> μ x'< μ x->Ends Q (k x'))->Ends Q (B x k kx)) (N:Nat) (x:X) (hI:I x) (hm: μ x<N):Ends Q (Dq B N x kx):=Le I μ (Ends Q) h N x hI hm
def EZ (L:List Int) (d:List Int×Int):Prop:= ∃ k:Nat,d=(L,(k:Int))/\k<=L.length
theorem AnI (N:Nat) {L:List Int} (hL:L.length<=9223372036854775807) {d:List Int×Int} (hd:EZ L d) (n:Nat) (hn:0<n) (hn':n<2147483648) :
    Ends (fun r=>0<=r.1/\r.1<(n:Int)/\EZ L r.2) (DF N d (n:Int)):=by
  obtain⟨k,rfl,hk⟩:=hd
  unfold DF;try simp -zeta only[Ap]
  try dsimp only
  by_cases h:k<L.length
  ·rw[Ox,if_neg (by omega),w64 (x:=(k:Int)+1) (by omega) (by omega),w64 (x:=(k:Int)+1 - 1) (by omega) (by omega),XY,if_pos (by omega),XY,if_pos (by omega)]
   generalize L.getD _ _=x
   have hne:((n:Int) != 0)=true:=by simp;omega
   rw[hne,EW,EW]
   have h1:=Int.tmod_lt_of_pos x (show(0:Int)<(n:Int) by omega)
   have h2: -(n:Int)<x.tmod (n:Int):=Int.lt_tmod_of_pos x (by omega)
   rw[w64 (x:=x.tmod (n:Int)+(n:Int)) (by omega) (by omega)]
   have h3:0<=(x.tmod (n:Int)+(n:Int)).tmod (n:Int):=Int.tmod_nonneg _ (by omega)
   have h4:=Int.tmod_lt_of_pos (x.tmod (n:Int)+(n:Int)) (show(0:Int)<(n:Int) by omega)
   refine⟨_,rfl,h3,h4,k+1,by rw[show((k+1:Nat):Int)=(k:Int)+1 by omega],h⟩
  ·rw[Ox,if_pos (by omega)]
   exact⟨_,rfl,Int.le_refl _,by show(0:Int)<n;omega,k,rfl,hk⟩
theorem OT {α :Type} {P: α ->Prop} {l:List α} {d: α} {i:Int} (h: ∀ x∈l,P x) (h0:0<=i) (hi:i<(l.length:Int)):P (l.getD i.toNat d):=h _ (getD_mem d (by omega))
section
variable (N:Nat) (hN:1048578<N) {L:List Int} (hL:L.length<=9223372036854775807)
include hL
theorem nx {d:List Int×Int} (hd:EZ L d) (n:Int) (h0:0<n) (h1:n<2147483648):Ends (fun r=>0<=r.1/\r.1<n/\EZ L r.2) (DF N d n):=by
  have:=AnI N hL hd n.toNat (by omega) (by omega)
  rw[show((n.toNat:Nat):Int)=n by omega]at this
  exact this
omit hL in
theorem AlN {a:Att} (h:a∈UX): [a]∈GY:=List.mem_append_left _ (List.mem_append_left _ (List.mem_map.2 ⟨a,h,rfl⟩))
omit hL in
theorem Apt {a b:Att} (h:a∈UX) (hb:b∈UX) (hn:b.1≠a.1): [a,b]∈GY :=
  List.mem_append_left _ (List.mem_append_right _ (List.mem_flatMap.2 ⟨a,h,List.mem_map.2 ⟨b,List.mem_filter.2 ⟨hb,by simpa using Ne.symm hn⟩,rfl⟩⟩))
theorem Ahq {d:List Int×Int} (hd:EZ L d):Ends (fun r=>r.1∈UX/\EZ L r.2) (PL N d):=by
  unfold PL;try simp -zeta only[Ap]
  refine DV (nx N hL hd 12 (by omega) (by omega)) ?_
  rintro ⟨r,d'⟩ ⟨h0,h1,h2⟩
  dsimp only at h0 h1 h2 ⊢
  refine Eu (by simp;omega) (Eu (by simp;omega) (Eu (by simp;omega) (Ld ⟨?_,h2⟩)))
  exact OT (P:=fun x=>x∈UX) (fun x hx=>hx) h0 h1
include hN in
theorem AqY {d:List Int×Int} (hd:EZ L d):Ends (fun r=>okN r.1/\EZ L r.2) (ZJ N d):=by
  unfold ZJ
  try simp only[clR]
  refine DV (nx N hL hd 4 (by omega) (by omega)) ?_
  rintro ⟨r,d1,d2⟩ ⟨h0,h1,h2⟩
  dsimp only at h0 h1 h2 ⊢
  refine ZF (fun x=>0<=x.1/\x.1<4/\EZ L (x.2.1,x.2.2.1)/\((x.2.2.2.length:Int)+x.1<=3)/\ ∀ r∈x.2.2.2,r∈GY) (fun x=>x.1.toNat) ?_ N _ ⟨h0,h1,h2,by simp;omega,fun r hr=>by cases hr⟩ (by dsimp only;omega)
  rintro ⟨t,a,b,acc⟩ ⟨g0,g1,g2,g3,g4⟩ k hk
  dsimp only[U4]at g0 g1 g2 g3 g4 ⊢
  refine FQ (fun ht=> ?_) (fun _=> ?_)
  ·have ht:=of_decide_eq_true ht
   refine DV (nx N hL g2 5 (by omega) (by omega)) ?_
   rintro ⟨r,e1,e2⟩ ⟨f0,f1,f2⟩
   dsimp only at f0 f1 f2 ⊢
   have hw:i64.wrap (1+i64.wrap (r.tdiv 4))<=2/\1<=i64.wrap (1+i64.wrap (r.tdiv 4)):=by
     have:r=0\/r=1\/r=2\/r=3\/r=4:=by omega
     rcases this with rfl | rfl | rfl | rfl | rfl<;>decide
   refine ZF (fun x=>0<=x.1/\x.1<=2/\EZ L (x.2.1,x.2.2.1)/\((x.2.2.2.1.length:Int)+x.1<=2)/\((x.2.2.2.1=[]/\1<=x.1)\/(∃ y∈UX,x.2.2.2.1=[y])\/(x.2.2.2.1.length=2/\x.2.2.2.1∈GY))/\x.2.2.2.2=acc) (fun x=>x.1.toNat) ?_ N _ ⟨by dsimp only;omega,hw.1,f2,by simp;omega,Or.inl ⟨rfl,hw.2⟩,rfl⟩ (by dsimp only;omega)
   rintro ⟨t',a',b',acc',out⟩ ⟨p0,p1,p2,p3,p4,p5⟩ k' hk'
   dsimp only[U5]at p0 p1 p2 p3 p4 p5 ⊢
   subst p5
   refine FQ (fun ht'=> ?_) (fun ht'=> ?_)
   ·have ht':=of_decide_eq_true ht'
    refine DV (Ahq N hL p2) ?_
    rintro ⟨r,q1,q2⟩ ⟨z0,z1⟩
    dsimp only at z0 z1 ⊢
    have taut:(decide ((0:Int)<(acc'.length:Int))||((acc'.length:Nat):Int)==0)=true:=by
      cases acc' with
      | nil=>rfl
      | cons x y=>rw[decide_eq_true (by rw[List.length_cons];omega)];rfl
    have Ahe:(decide (0<acc'.length)||((acc'.length:Nat):Int)==0)=true:=by
      cases acc' with
      | nil=>rfl
      | cons x y=>rw[decide_eq_true (by rw[List.length_cons];omega)];rfl
    refine Eu (by first | exact taut | exact Ahe) (Eu (by first | exact taut | exact Ahe) (Eu (by first | exact taut | exact Ahe) ?_))
    have p4':acc'=[]\/ ∃ y∈UX,acc'=[y]:=by
      rcases p4 with ⟨h,_⟩ | h | ⟨h,_⟩
      ·exact Or.inl h
      ·exact Or.inr h
      ·rw[h]at p3;omega
    refine FQ (fun hc=> ?_) (fun hc=> ?_)
    ·refine Eu (decide_eq_true (by omega)) (hk' _ ⟨?_,?_,z1,?_,?_,rfl⟩ ?_)
     ·dsimp only;rw[w64 (by omega) (by omega)];omega
     ·dsimp only;rw[w64 (by omega) (by omega)];omega
     ·dsimp only;rw[w64 (by omega) (by omega),List.length_append];simp;omega
     ·dsimp only
      rcases p4' with rfl | ⟨y,hy,rfl⟩
      ·exact Or.inr (Or.inl ⟨r,z0,rfl⟩)
      ·refine Or.inr (Or.inr ⟨rfl,Apt hy z0 fun e=> ?_⟩)
       rw[e]at hc
       simp at hc
     ·dsimp only;rw[w64 (by omega) (by omega)];omega
    ·refine hk' _ ⟨?_,?_,z1,?_,?_,rfl⟩ ?_
     ·dsimp only;rw[w64 (by omega) (by omega)];omega
     ·dsimp only;rw[w64 (by omega) (by omega)];omega
     ·dsimp only;rw[w64 (by omega) (by omega)];omega
     ·dsimp only
      rcases p4' with rfl | h
      ·simp at hc
      ·exact Or.inr (Or.inl h)
     ·dsimp only;rw[w64 (by omega) (by omega)];omega
   ·have ht':=of_decide_eq_false ht'
    dsimp only[U4]
    have hin:acc'∈GY:=by
      rcases p4 with ⟨_,h⟩ | ⟨y,hy,rfl⟩ | ⟨_,h⟩
      ·omega
      ·exact AlN hy
      ·exact h
    refine Eu (decide_eq_true (by omega)) (hk _ ⟨?_,?_,p2,?_,AaW g4 hin⟩ ?_)
    ·dsimp only;rw[w64 (by omega) (by omega)];omega
    ·dsimp only;rw[w64 (by omega) (by omega)];omega
    ·dsimp only;rw[w64 (by omega) (by omega),List.length_append];simp;omega
    ·dsimp only;rw[w64 (by omega) (by omega)];omega
  ·dsimp only[U3]
   exact Ld ⟨⟨by dsimp only;omega,g4⟩,g2⟩
include hN hL
theorem jI {d:List Int×Int} (hd:EZ L d):Ends (fun r=>okG r.1/\EZ L r.2) (Md N d):=by
  have hT: ∀(l:List Bs) (k:Int),l.all (fun s=>AiS.contains (k,s,[]))=true-> ∀ s∈l,okG (k,s,[]):=fun l k h s hs=>Or.inl (List.contains_iff_mem.1 (List.all_eq_true.1 h s hs))
  unfold Md
  try simp only[clR]
  refine DV (nx N hL hd 4 (by omega) (by omega)) ?_
  rintro ⟨r,d'⟩ ⟨h0,h1,h2⟩
  dsimp only at h0 h1 h2 ⊢
  refine FQ (fun _=> ?_) (fun _=>FQ (fun _=> ?_) (fun _=>FQ (fun _=> ?_) (fun _=> ?_)))
  ·refine DV (nx N hL h2 6 (by omega) (by omega)) ?_
   rintro ⟨r,d'⟩ ⟨h0,h1,h2⟩
   dsimp only at h0 h1 h2 ⊢
   refine Eu (decide_eq_true (by omega)) (Eu (decide_eq_true (by omega)) (Eu (decide_eq_true (by omega)) (Ld ⟨OT (P:=fun s=>okG (1,s,[])) (hT _ 1 (by kernel_rfl)) h0 h1,h2⟩)))
  ·refine DV (nx N hL h2 7 (by omega) (by omega)) ?_
   rintro ⟨r,d'⟩ ⟨h0,h1,h2⟩
   dsimp only at h0 h1 h2 ⊢
   refine Eu (decide_eq_true (by omega)) (Eu (decide_eq_true (by omega)) (Eu (decide_eq_true (by omega)) (Ld ⟨OT (P:=fun s=>okG (2,s,[])) (hT _ 2 (by kernel_rfl)) h0 h1,h2⟩)))
  ·refine DV (nx N hL h2 4 (by omega) (by omega)) ?_
   rintro ⟨r,d'⟩ ⟨h0,h1,h2⟩
   dsimp only at h0 h1 h2 ⊢
   refine Eu (decide_eq_true (by omega)) (Eu (decide_eq_true (by omega)) (Eu (decide_eq_true (by omega)) (Ld ⟨OT (P:=fun s=>okG (7,s,[])) (hT _ 7 (by kernel_rfl)) h0 h1,h2⟩)))
  ·refine DV (AqY N hN hL h2) ?_
   rintro ⟨n,d'⟩ ⟨g0,g1⟩
   exact Ld ⟨Or.inr ⟨n,g0,rfl⟩,g1⟩
omit hN in
theorem xY {d:List Int×Int} (hd:EZ L d):Ends (fun r=>r.1∈MH/\EZ L r.2) (OO N d):=by
  unfold OO;try simp -zeta only[Ap]
  refine DV (nx N hL hd 7 (by omega) (by omega)) ?_
  rintro ⟨r,d'⟩ ⟨h0,h1,h2⟩
  dsimp only at h0 h1 h2 ⊢
  exact Eu (decide_eq_true (by omega)) (Eu (decide_eq_true (by omega)) (Eu (decide_eq_true (by omega)) (Ld ⟨OT (P:=fun x=>x∈MH) (fun x hx=>hx) h0 h1,h2⟩)))
omit hL in
theorem XT {k:Int} (h0:0<=k) (h1:k<16):Ends (fun n=> ∃ j:Nat,j<16/\n=aut j) (Ef N k):=by
  obtain⟨j,rfl⟩: ∃ j:Nat,k=j:=⟨k.toNat,by omega⟩
  exact⟨aut j,(GL hN (by omega)).made,j,by omega,rfl⟩
theorem AnY {d:List Int×Int} (hd:EZ L d):Ends (fun r=>kL r.1/\EZ L r.2) (Vf N d):=by
  unfold Vf
  try simp only[clR]
  refine DV (nx N hL hd 3 (by omega) (by omega)) ?_
  rintro ⟨r,d1,d2⟩ ⟨h0,h1,h2⟩
  dsimp only at h0 h1 h2 ⊢
  rw[w64 (by omega) (by omega)]
  refine ZF (fun x=>0<=x.1/\x.1<4/\EZ L (x.2.1,x.2.2.1)/\((x.2.2.2.length:Int)+x.1<=3)/\(x.2.2.2=[]->1<=x.1)/\ ∀ p∈x.2.2.2,okP p) (fun x=>x.1.toNat) ?_ N _ ⟨by dsimp only;omega,by dsimp only;omega,h2,by simp;omega,(fun _=>by dsimp only;omega),(fun r hr=>by cases hr)⟩ (by dsimp only;omega)
  rintro ⟨t,a,b,acc⟩ ⟨g0,g1,g2,g3,g5,g4⟩ k hk
  dsimp only[U4]at g0 g1 g2 g3 g4 g5 ⊢
  refine FQ (fun ht=> ?_) (fun ht=>by dsimp only[U3];exact Ld ⟨⟨fun e=>by have:=g5 e;have:=of_decide_eq_false ht;omega,by dsimp only;omega,g4⟩,g2⟩)
  have ht:=of_decide_eq_true ht
  refine DV (jI N hN hL g2) ?_
  rintro ⟨g,e⟩ ⟨f0,f1⟩
  refine DV (nx N hL f1 6 (by omega) (by omega)) ?_
  rintro ⟨r6,e1,e2⟩ ⟨c0,c1,c2⟩
  dsimp only at c0 c1 c2 f0 ⊢
  refine Eu (decide_eq_true (by omega)) (Eu (decide_eq_true (by omega)) (Eu (decide_eq_true (by omega)) ?_))
  have hr: [(0:Int),0,510,2,64,384].getD r6.toNat 0=0\/ [(0:Int),0,510,2,64,384].getD r6.toNat 0∈Abz:=OT (P:=fun x:Int=>x=0\/x∈Abz) (by decide) c0 c1
  refine Lc (P:=fun x=>EZ L (x.1,x.2.1)/\x.2.2.1=[(0:Int),0,510,2,64,384].getD r6.toNat 0/\((x.2.2.2.1=false/\x.2.2.2.2.1=[])\/(x.2.2.2.1=true/\okN x.2.2.2.2.1/\x.2.2.2.2.1≠ []))/\x.2.2.2.2.2.1=[g]/\x.2.2.2.2.2.2=acc) (fun j hj=> ?_) ?_
  ·refine DV (nx N hL c2 3 (by omega) (by omega)) ?_
   rintro ⟨r3,q1,q2⟩ ⟨z0,z1,z2⟩
   dsimp only at z0 z1 z2 ⊢
   refine FQ (fun _=> ?_) (fun _=>hj _ ⟨z2,rfl,Or.inl ⟨rfl,rfl⟩,rfl,rfl⟩)
   refine DV (nx N hL z2 16 (by omega) (by omega)) ?_
   rintro ⟨r3,q1,q2⟩ ⟨z0,z1,z2⟩
   dsimp only at z0 z1 z2 ⊢
   refine DV (XT N hN z0 z1) ?_
   rintro n ⟨i,hi,rfl⟩
   have A:=GL hN hi
   exact hj _ ⟨z2,rfl,Or.inr ⟨rfl,A.ok,A.ne⟩,rfl,rfl⟩
  ·rintro ⟨q1,q2,x1,x2,x3,x4,x5⟩ ⟨y1,y2,y3,y4,y5⟩
   dsimp only[U7]at y1 y2 y3 y4 y5 ⊢
   subst y2 y4 y5
   refine Eu (decide_eq_true (by omega)) (hk _ ⟨?_,?_,y1,?_,?_,AaW g4 ⟨⟨g,f0,rfl⟩,hr,y3⟩⟩ ?_)
   ·dsimp only;rw[w64 (by omega) (by omega)];omega
   ·dsimp only;rw[w64 (by omega) (by omega)];omega
   ·dsimp only;rw[w64 (by omega) (by omega),List.length_append];simp;omega
   ·intro e;simp at e
   ·dsimp only;rw[w64 (by omega) (by omega)];omega
theorem AqV {d:List Int×Int} (hd:EZ L d):Ends (fun r=>(∃ x,OkL x/\r.1=x.y [] [] [])/\EZ L r.2) (ZI N d):=by
  unfold ZI;try simp -zeta only[Ap]
  refine DV (nx N hL hd 16 (by omega) (by omega)) ?_
  rintro ⟨r,d1⟩ ⟨h0,h1,h2⟩
  dsimp only at h0 h1 h2 ⊢
  refine DV (XT N hN h0 h1) ?_
  rintro _ ⟨kk,hkk,rfl⟩
  refine DV (xY N hL h2) ?_
  rintro ⟨t1,d2⟩ ⟨ht1,h3⟩
  refine DV (xY N hL h3) ?_
  rintro ⟨t2,d3⟩ ⟨ht2,h4⟩
  refine DV (nx N hL h4 200 (by omega) (by omega)) ?_
  rintro ⟨r5,d5a,d5b⟩ ⟨h5,h6,h7⟩
  dsimp only at ht1 h3 ht2 h4 h5 h6 h7 ⊢
  refine Lc (P:=fun x=> ∃ u v,x=(d5a,d5b,aut kk,u,v,1+r5)/\u∈MH/\v∈MH/\u<=v) (fun j hj=> ?_) ?_
  ·rw[w64 (by omega) (by omega)]
   exact FQ (fun hb=>hj _ ⟨_,_,rfl,ht2,ht1,by have:=of_decide_eq_true hb;omega⟩) (fun hb=>hj _ ⟨_,_,rfl,ht1,ht2,by have:=of_decide_eq_false hb;omega⟩)
  rintro _ ⟨u,v,rfl,hu,hv,huv⟩
  dsimp only[U6]
  refine Lc (P:=fun x=> ∃ a b w,x=(a,b,aut kk,u,v,1+r5,w)/\EZ L (a,b)/\(w= -1\/(0<=w/\w<1+r5))) (fun j hj=> ?_) ?_
  ·refine DV (nx N hL h7 3 (by omega) (by omega)) ?_
   rintro ⟨r,d1⟩ ⟨h0,h1,h2⟩
   dsimp only at h0 h1 h2 ⊢
   refine FQ (fun _=> ?_) (fun _=>hj _ ⟨_,_,_,rfl,h2,Or.inl rfl⟩)
   refine DV (nx N hL h2 (1+r5) (by omega) (by omega)) ?_
   rintro ⟨r,d1⟩ ⟨h0,h1,h2⟩
   exact hj _ ⟨_,_,_,rfl,h2,Or.inr ⟨h0,h1⟩⟩
  rintro _ ⟨a,b,w,rfl,hab,hw⟩
  dsimp only[U7]
  refine Lc (P:=fun x=> ∃ a b s,x=(a,b,aut kk,u,v,1+r5,w,s)/\EZ L (a,b)/\(s=[]\/s=akV)) (fun j hj=> ?_) ?_
  ·refine DV (nx N hL hab 3 (by omega) (by omega)) ?_
   rintro ⟨r,d1⟩ ⟨h0,h1,h2⟩
   dsimp only at h0 h1 h2 ⊢
   exact FQ (fun _=>hj _ ⟨_,_,_,rfl,h2,Or.inr rfl⟩) (fun _=>hj _ ⟨_,_,_,rfl,h2,Or.inl rfl⟩)
  clear hab a b
  rintro _ ⟨a,b,s,rfl,hab,hs⟩
  dsimp only[U8]
  refine Lc (P:=fun x=> ∃ a b p q r t y z,x=(a,b,aut kk,u,v,1+r5,w,s,p,q,r,t,y,z)/\EZ L (a,b)/\((p=false/\(q,r,t,y,z)=zSc)\/(p=true/\Aa1 (q,r,t,y,z)))) (fun j hj=> ?_) ?_
  ·refine DV (nx N hL hab 2 (by omega) (by omega)) ?_
   rintro ⟨r,d1⟩ ⟨h0,h1,h2⟩
   dsimp only at h0 h1 h2 ⊢
   refine FQ (fun _=> ?_) (fun _=>hj _ ⟨_,_,_,_,_,_,_,_,rfl,h2,Or.inl ⟨rfl,rfl⟩⟩)
   refine DV (nx N hL h2 4 (by omega) (by omega)) ?_
   rintro ⟨r,d1⟩ ⟨h0,h1,h2⟩
   dsimp only at h0 h1 h2 ⊢
   refine Eu (decide_eq_true (by omega)) (Eu (decide_eq_true (by omega)) (Eu (decide_eq_true (by omega)) ?_))
   have hr:okR ([(0:Int),2,64,510].getD r.toNat 0):=OT (P:=okR) (fun x hx=>by
     have: ∀ x∈ [(0:Int),2,64,510],x=0\/x∈Abz:=by decide
     exact this x hx) h0 h1
   generalize [(0:Int),2,64,510].getD r.toNat 0=rr at hr ⊢
   refine DV (nx N hL h2 2 (by omega) (by omega)) ?_
   rintro ⟨r,d1⟩ ⟨h0,h1,h2⟩
   dsimp only at h0 h1 h2 ⊢
   refine DV (nx N hL h2 4 (by omega) (by omega)) ?_
   rintro ⟨r',d1⟩ ⟨h0,h1,h2⟩
   dsimp only at h0 h1 h2 ⊢
   have hn0:uB []:=⟨by simp,fun g hg=>by cases hg⟩
   refine FQ (fun _=>hj _ ⟨_,_,_,_,_,_,_,_,rfl,h2,Or.inr ⟨rfl,hn0,hr,Or.inl ⟨rfl,rfl,rfl⟩⟩⟩) (fun _=>FQ (fun _=>hj _ ⟨_,_,_,_,_,_,_,_,rfl,h2,Or.inr ⟨rfl,hn0,hr,Or.inr (Or.inl ⟨rfl,rfl,rfl⟩)⟩⟩) (fun _=> ?_))
   refine DV (jI N hN hL h2) ?_
   rintro ⟨g1,d1⟩ ⟨hg1,h2⟩
   refine DV (jI N hN hL h2) ?_
   rintro ⟨g2,d1⟩ ⟨hg2,h2⟩
   refine DV (nx N hL h2 2 (by omega) (by omega)) ?_
   rintro ⟨r7,d1⟩ ⟨h0,h1,h2⟩
   dsimp only at h0 h1 h2 hg1 hg2 ⊢
   rw[w64 (x:=1+r7) (by omega) (by omega)]
   refine Eu (decide_eq_true (by omega)) (Eu (decide_eq_true (by omega)) (hj _ ⟨_,_,_,_,_,_,_,_,rfl,h2,Or.inr ⟨rfl,?_,hr,Or.inr (Or.inr ⟨rfl,rfl,?_⟩)⟩⟩))
   ·have e:r7=0\/r7=1:=by omega
    rcases e with rfl | rfl
    ·exact gs1 hg1
    ·exact⟨by show [g1,g2].length<=2;simp,fun x hx=>by
       have hx:x∈ [g1,g2]:=hx
       rcases List.mem_cons.1 hx with rfl | hx
       ·exact hg1
       ·rw[List.mem_singleton.1 hx];exact hg2⟩
   ·have e:r7=0\/r7=1:=by omega
    rcases e with rfl | rfl<;>(intro h;cases h)
  clear hab a b
  rintro _ ⟨a,b,p,q,r,t,y,z,rfl,hab,hsc⟩
  dsimp only[U14]
  refine Lc (P:=fun x=> ∃ a b o,x=(a,b,aut kk,u,v,1+r5,w,s,p,q,r,t,y,z,o)/\EZ L (a,b)/\(o=[]\/(w= -1/\kL o))) (fun j hj=> ?_) ?_
  ·obtain⟨⟨g,d1⟩,e1,h0,h1,h2⟩:=nx N hL hab 4 (by omega) (by omega)
   rw[e1]
   simp only[KH,IU,IA,Option.isSome_some,Bool.true_or,EW,Option.getD_some]
   have hd:EZ L ((bif (w==(-1:Int))then d1.1 else a),(bif (w==(-1:Int))then d1.2 else b)):=by
     cases (w==(-1:Int))
     ·exact hab
     ·exact h2
   refine FQ (fun hb=> ?_) (fun _=>hj _ ⟨_,_,_,rfl,hd,Or.inl rfl⟩)
   have hw1:w= -1:=by
     cases hq:w==(-1:Int)with
     | true=>exact eq_of_beq hq
     | false=>rw[hq]at hb;cases hb
   refine DV (AnY N hN hL hd) ?_
   rintro ⟨g,d1⟩ ⟨h0,h2⟩
   exact hj _ ⟨_,_,_,rfl,h2,Or.inr ⟨hw1,h0⟩⟩
  clear hab a b
  rintro _ ⟨a,b,o,rfl,hab,ho⟩
  dsimp only[U15]
  refine DV (nx N hL hab 6 (by omega) (by omega)) ?_
  clear hab a b
  rintro ⟨g,a,b⟩ ⟨h0,h1,hab⟩
  dsimp only at h0 h1 hab ⊢
  refine ZF (fun x=> ∃(t':Int) (a:List Int) (b:Int) (es:List En),x=(t',a,b,aut kk,u,v,1+r5,w,s,p,q,r,t,y,z,o,es.map enY)/\0<=t'/\t'<6/\EZ L (a,b)/\(es.length:Int)+t'<=5/\(∀ e∈es,OkE w z kk e)/\es.Pairwise (fun a b=> ¬(a.1=b.1/\a.k % 8=b.k % 8))) (fun x=>x.1.toNat) ?_ N _ ⟨_,_,_,[],rfl,h0,h1,hab,by simp;omega,(fun e he=>by cases he),List.Pairwise.nil⟩ (by dsimp only;omega)
  clear hab a b h0 h1
  rintro _ ⟨t',a,b,es,rfl,g0,g1,hab,g3,g4,g5⟩ k hk
  dsimp only[U17]
  refine FQ (fun ht=> ?_) (fun _=> ?_)
  ·have ht:=of_decide_eq_true ht
   refine DV (nx N hL hab 9 (by omega) (by omega)) ?_
   rintro ⟨c1,d1⟩ ⟨h0,h1,h2⟩
   dsimp only at h0 h1 h2 ⊢
   rw[w64 (x:=1+c1) (by omega) (by omega)]
   refine DV (xY N hL h2) ?_
   rintro ⟨c2,d2⟩ ⟨hc2,h3⟩
   dsimp only at hc2 h3 ⊢
   refine DV (nx N hL h3 9 (by omega) (by omega)) ?_
   rintro ⟨c3,d3⟩ ⟨f0,f1,f2⟩
   dsimp only at f0 f1 f2 ⊢
   refine Eu (decide_eq_true (by omega)) (Eu (decide_eq_true (by omega)) (Eu (decide_eq_true (by omega)) ?_))
   have hre:([0,1,2,3,4,5,6,9,10]:List Int).getD c3.toNat 0∈reL/\([0,1,2,3,4,5,6,9,10]:List Int).getD c3.toNat 0≠8:=OT (P:=fun x:Int=>x∈reL/\x≠8) (by decide) f0 f1
   generalize ([0,1,2,3,4,5,6,9,10]:List Int).getD c3.toNat 0=c3' at hre ⊢
   refine Lc (P:=fun x=> ∃ a b c4,x=(a,b,aut kk,u,v,1+r5,w,s,p,q,r,t,y,z,o,1+c1,c2,c3',c4,aut kk,es.map enY)/\EZ L (a,b)/\(c4= -1\/c4∈MH)) (fun j hj=> ?_) ?_
   ·refine DV (nx N hL f2 3 (by omega) (by omega)) ?_
    rintro ⟨g,d1⟩ ⟨h0,h1,h2⟩
    dsimp only at h0 h1 h2 ⊢
    refine FQ (fun _=> ?_) (fun _=>hj _ ⟨_,_,_,rfl,h2,Or.inl rfl⟩)
    refine DV (xY N hL h2) ?_
    rintro ⟨g,d1⟩ ⟨hg,h3⟩
    exact hj _ ⟨_,_,_,rfl,h3,Or.inr hg⟩
   clear hab
   rintro _ ⟨a,b,c4,rfl,hab,hc4⟩
   dsimp only[U21]
   refine Lc (P:=fun x=> ∃ a b c3,x=(a,b,aut kk,u,v,1+r5,w,s,p,q,r,t,y,z,o,1+c1,c2,c3,c4,aut kk,es.map enY)/\EZ L (a,b)/\c3∈reL/\(c3=8->w≠ -1)) (fun j hj=> ?_) ?_
   ·obtain⟨⟨g,d1⟩,e1,h0,h1,h2⟩:=nx N hL hab 3 (by omega) (by omega)
    rw[e1]
    simp only[KH,IU,IA,Option.isSome_some,Bool.true_or,EW,Option.getD_some]
    have hd:EZ L ((bif (w != (-1:Int))then d1.1 else a),(bif (w != (-1:Int))then d1.2 else b)):=by
      cases (w != (-1:Int))
      ·exact hab
      ·exact h2
    refine FQ (fun hb=>hj _ ⟨_,_,_,rfl,hd,by decide,fun _ hw=> ?_⟩) (fun _=>hj _ ⟨_,_,_,rfl,hd,hre.1,fun h=>absurd h hre.2⟩)
    rw[hw]at hb;cases hb
   clear hab
   rintro _ ⟨a,b,c5,rfl,hab,hc5,hc8⟩
   dsimp only[U21]
   refine Lc (P:=fun x=> ∃ a b k',x=(a,b,aut kk,u,v,1+r5,w,s,p,q,r,t,y,z,o,1+c1,c2,c5,c4,aut k',es.map enY)/\k'<16/\(z=true\/k' % 8=kk % 8)/\EZ L (a,b)) (fun j hj=> ?_) ?_
   ·refine FQ (fun hz=> ?_) (fun _=>hj _ ⟨_,_,_,rfl,hkk,Or.inr rfl,hab⟩)
    refine DV (nx N hL hab 16 (by omega) (by omega)) ?_
    rintro ⟨g,d1⟩ ⟨h0,h1,h2⟩
    dsimp only at h0 h1 h2 ⊢
    refine DV (XT N hN h0 h1) ?_
    rintro _ ⟨k',hk',rfl⟩
    exact hj _ ⟨_,_,_,rfl,hk',Or.inl hz,h2⟩
   clear hab
   rintro _ ⟨a,b,k',rfl,hk',hz,hab⟩
   dsimp only[U21]
   rw[w64 (x:=t' - 1) (by omega) (by omega),AiH hN (fun e he=>(g4 e he).k) (by omega) hk' (1+c1) (y:=(([]:Bs),([]:Bs),aut kk,u,v,1+r5,w,s,p,q,r,t,y,z,o,es.map enY,([]:Bs))) rfl,CY]
   cases hf:(List.range es.length).find? fun i=>Mc k' (1+c1) (es.getD i zE)with
   | some i=>exact hk _ ⟨_,_,_,es,rfl,by omega,by omega,hab,by omega,g4,g5⟩ (by dsimp only;omega)
   | none =>
     refine Eu (decide_eq_true (by rw[List.length_map];omega)) (hk _ ⟨_,_,_,es++[(1+c1,c2,c5,c4,k')],by rw[List.map_append];rfl,by omega,by omega,hab,by rw[List.length_append];simp;omega,AaW g4 ⟨by dsimp only;omega,by dsimp only;omega,hc2,hc5,hc8,hc4,hk',hz⟩,?_⟩ (by dsimp only;omega))
     rw[List.pairwise_append]
     refine⟨g5,List.pairwise_singleton _ _,fun e he e' he' hq=> ?_⟩
     rw[List.mem_singleton.1 he']at hq
     obtain⟨i,hi,rfl⟩:=List.getElem_of_mem he
     have:=List.find?_eq_none.1 hf i (List.mem_range.2 hi)
     rw[getD_lt es i zE hi]at this
     unfold Mc at this
     rw[hq.1,hq.2]at this
     simp at this
  ·dsimp only[U16]
   exact Ld ⟨⟨⟨kk,u,v,1+r5,w,s,p,(q,r,t,y,z),o,es⟩,⟨hkk,hu,hv,huv,by dsimp only;omega,by dsimp only;omega,hw,hs,hsc,ho,by dsimp only;omega,g4,g5⟩,rfl⟩,hab⟩
end
end Go.Proofs.YtbaomhegdndpnaaGreatDoor.Pl
namespace Go.Proofs.YtbaomhegdndpnaaGreatDoor.Pl
open IntKind (i64)
open Go Vm
def Tot {α :Type} (Q: α ->Prop) (o:Option α):Prop:= ∃ v,o=some v/\Q v
theorem Tot.chk {α :Type} {Q: α ->Prop} {c:Bool} {k:Option α} (hc:c=true) (h:Tot Q k):Tot Q (Vm.chk c k):=by rw[hc];exact h
theorem Tot.call {α β :Type} [Inhabited α] {P: α ->Prop} {Q: β ->Prop} {x:Option α} {f: α ->Option β} (h:Tot P x) (hf: ∀ v,P v->Tot Q (f v)):Tot Q (CW x f):=by
  obtain⟨v,rfl,hv⟩:=h
  exact hf v hv
theorem Tot.bif {α :Type} {Q: α ->Prop} {b:Bool} {x y:Option α} (h1:b=true->Tot Q x) (h2:b=false->Tot Q y):Tot Q (bif b then x else y):=by
  cases b with
  | true=>exact h1 rfl
  | false=>exact h2 rfl
theorem Tot.some {α :Type} {Q: α ->Prop} {v: α} (h:Q v):Tot Q (some v):=⟨v,rfl,h⟩
theorem Tot.Af9 {α :Type} {o:Option α} (h:o.isSome=true):Tot (fun _=>True) o:=by
  cases o with
  | none=>cases h
  | some v=>exact⟨v,rfl,trivial⟩
theorem Tot.mono {α :Type} {P Q: α ->Prop} {o:Option α} (h:Tot P o) (hq: ∀ v,P v->Q v):Tot Q o:=let ⟨v,e,p⟩:=h;⟨v,e,hq v p⟩
theorem Aj6 (l:List Int):l=(List.range l.length).map fun i=>l.getD i 0:=by
  apply List.ext_getElem
  ·simp
  ·intro i h1 h2
   simp [List.getD_eq_getElem?_getD,h1]
theorem AkL (M:Nat) (p0:Yq5) (f:Nat->Int):(JO (M+70) p0 ((List.range 64).map f)).isSome=true:=by kernel_rfl
theorem Afm {N:Nat} (hN:70<=N) (p0:Yq5) {l:List Int} (hl:l.length=64):Tot (fun _=>True) (JO N p0 l):=by
  obtain⟨M,rfl⟩:=Nat.exists_eq_add_of_le' hN
  have h:=AkL M p0 fun i=>l.getD i 0
  rw[<- hl,<- Aj6]at h
  exact Tot.Af9 h
theorem Uz {α :Type} (l:List α) (a b:Nat) (h:b<=l.length):(Dx l a b).length=b - a:=by
  simp [Dx];omega
abbrev AdC (r:Yq7):List Int:=r.2.2.2.2.2.2.2.2.1
theorem zV (N:Nat):Tot (fun _=>True) (SN N):=Tot.Af9 (by kernel_rfl)
theorem Aov {N:Nat} (hN:70<=N) (hM:N<=1000000000) (p0:Yq7) (h8:(AdC p0).length<64) (p1:Bs) (hl:p1.length+64<N):Tot (fun r=>(AdC r).length<64) (LJ N p0 p1):=by
  unfold LJ;try simp -zeta only[Ap]
  refine Tot.bif (fun _=>Tot.some h8) fun _=> ?_
  refine Af4 (fun x=>x.2.2.2.2.2.2.2.2.1.length<64) (Tot _) (fun j hj=>Tot.bif (fun _=>(zV N).call fun v _=>hj _ h8) fun _=>hj _ h8) ?_
  rintro ⟨b0,b1,b2,b3,b4,b5,b6,b7,b8,b9⟩ hb
  have hb:b8.length<64:=hb
  dsimp only[U10]
  refine Tot.chk (decide_eq_true (by omega)) (Tot.chk (decide_eq_true (by rw[List.length_map];omega)) ?_)
  refine Le (fun x=>x.1.length<N) (fun x=>x.1.length) (Tot _) ?_ N _ (by show(b8++p1.map _).length<N;rw[List.length_append,List.length_map];omega) (by show(b8++p1.map _).length<N;rw[List.length_append,List.length_map];omega)
  rintro ⟨t,c0,c1,c2,c3,c4,c5,c6,c7,c8,c9⟩ hI k hk
  have hI:t.length<N:=hI
  dsimp only[U11]
  refine Tot.bif (fun h=> ?_) fun h=> ?_
  ·have h:=of_decide_eq_true h
   refine Tot.chk (decide_eq_true (by omega)) ((Afm hN _ (by rw[Uz _ _ _ (by omega)])).call fun v _=>Tot.chk (decide_eq_true (by omega)) (hk _ ?_ ?_))
   ·show(Dx t 64 t.length).length<N
    rw[Uz _ _ _ (Nat.le_refl _)];omega
   ·show(Dx t 64 t.length).length<t.length
    rw[Uz _ _ _ (Nat.le_refl _)];omega
  ·have h:=of_decide_eq_false h
   refine Tot.chk (decide_eq_true (by omega)) (Tot.some ?_)
   show t.length<64
   omega
theorem AsA (n:Nat):(n:Int).tmod 64=((n % 64:Nat):Int):=by
  rw[Int.tmod_eq_emod_of_nonneg (by omega)];omega
theorem Aqy {N:Nat} (hN:150<=N) (p0:Yq7) (h8:(AdC p0).length<64):Tot (fun r=>r.1.length=32) (Og N p0):=by
  unfold Og;try simp -zeta only[Ap]
  refine(zV N).call fun v _=>Tot.chk rfl ?_
  refine Af4 (fun x=>x.2.2.2.2.2.2.2.2.2.2.2.1.length=8/\x.2.2.2.2.2.2.2.2.2.2.2.2.length<64) (Tot _) (fun j hj=>Tot.bif (fun _=>Tot.chk (decide_eq_true (by have:p0.2.2.2.2.2.2.2.2.1.length<64:=h8;omega)) (hj _ ⟨rfl,h8⟩)) fun _=>hj _ ⟨rfl,by show 0<64;omega⟩) ?_
  rintro ⟨t,b0,b1,b2,b3,b4,b5,b6,b7,b8,b9,l1,l2⟩ ⟨h1,h2⟩
  have h1:l1.length=8:=h1
  have h2:l2.length<64:=h2
  dsimp only[U13]
  refine Tot.chk (decide_eq_true (by omega)) ?_
  refine Le (fun x=>x.2.2.2.2.2.2.2.2.2.2.1.length=8/\x.2.2.2.2.2.2.2.2.2.2.2.length<=120) (fun x=>120 - x.2.2.2.2.2.2.2.2.2.2.2.length) (Tot _) ?_ N _ ⟨h1,by show(l2++_).length<=120;simp;omega⟩ (by show 120 - _<N;omega)
  rintro ⟨b0,b1,b2,b3,b4,b5,b6,b7,b8,b9,l1,l2⟩ ⟨h1,h2⟩ k hk
  have h1:l1.length=8:=h1
  have h2:l2.length<=120:=h2
  dsimp only[U12]
  rw[AsA]
  refine Tot.bif (fun h=> ?_) fun h=> ?_
  ·have h: ¬((l2.length % 64:Nat):Int)=56:=bne_iff_ne.1 h
   refine Tot.chk (decide_eq_true (by omega)) (hk _ ⟨h1,?_⟩ ?_)
   ·show(l2++[0]).length<=120
    simp;omega
   ·show 120 - (l2++[0]).length<120 - l2.length
    simp;omega
  ·have h:((l2.length % 64:Nat):Int)=56:=by simpa using h
   clear k hk
   refine Le (fun x=>x.2.2.2.2.2.2.2.2.2.2.2.1.length=8/\ -1<=x.1/\x.1<=7/\((x.2.2.2.2.2.2.2.2.2.2.2.2.length:Int)+x.1+1) % 64=0/\(x.2.2.2.2.2.2.2.2.2.2.2.2.length:Int)+x.1+1<=128) (fun x=>(x.1+1).toNat) (Tot _) ?_ N _ ⟨h1,by show(-1:Int)<=7;omega,by show(7:Int)<=7;omega,by show((l2.length:Int)+7+1) % 64=0;omega,by show(l2.length:Int)+7+1<=128;omega⟩ (by show((7:Int)+1).toNat<N;omega)
   rintro ⟨t,b0,b1,b2,b3,b4,b5,b6,b7,b8,b9,l1,l2⟩ ⟨h1,h3,h4,h5,h6⟩ k hk
   have h1:l1.length=8:=h1
   have h3: -1<=t:=h3
   have h4:t<=7:=h4
   have h5:((l2.length:Int)+t+1) % 64=0:=h5
   have h6:(l2.length:Int)+t+1<=128:=h6
   dsimp only[U13]
   refine Tot.bif (fun h=> ?_) fun h=> ?_
   ·have h:=of_decide_eq_true h
    refine Tot.chk (decide_eq_true (by rw[wu64 (x:=t) (by omega) (by omega),wu64 (by omega) (by omega)];omega)) (Tot.chk (decide_eq_true (by omega)) (hk _ ⟨h1,?_⟩ ?_))
    ·show -1<=i64.wrap (t - 1)/\i64.wrap (t - 1)<=7/\(((l2++[_]).length:Int)+i64.wrap (t - 1)+1) % 64=0/\((l2++[_]).length:Int)+i64.wrap (t - 1)+1<=128
     rw[w64 (by omega) (by omega)]
     simp
     omega
    ·show(i64.wrap (t - 1)+1).toNat<(t+1).toNat
     rw[w64 (by omega) (by omega)];omega
   ·have h:=of_decide_eq_false h
    have ht:t= -1:=by omega
    subst ht
    clear k hk
    refine Le (fun x=>x.2.2.2.2.2.2.2.2.2.2.2.length=8/\x.1.length % 64=0/\x.1.length<=128) (fun x=>x.1.length) (Tot _) ?_ N _ ⟨h1,by show l2.length % 64=0;omega,by show l2.length<=128;omega⟩ (by show l2.length<N;omega)
    rintro ⟨t,b0,b1,b2,b3,b4,b5,b6,b7,b8,b9,l1⟩ ⟨h1,h2,h3⟩ k hk
    have h1:l1.length=8:=h1
    have h2:t.length % 64=0:=h2
    have h3:t.length<=128:=h3
    dsimp only[U12]
    refine Tot.bif (fun h=> ?_) fun h=> ?_
    ·have h:=of_decide_eq_true h
     refine Tot.chk (by rw[h1];rfl) (Tot.chk (decide_eq_true (by omega)) ((Afm (by omega) _ (by rw[Uz _ _ _ (by omega)])).call fun v _=>Tot.chk (by rw[h1];rfl) (Tot.chk (decide_eq_true (by omega)) (hk _ ⟨rfl,?_⟩ ?_))))
     ·show(Dx t 64 t.length).length % 64=0/\(Dx t 64 t.length).length<=128
      rw[Uz _ _ _ (Nat.le_refl _)];omega
     ·show(Dx t 64 t.length).length<t.length
      rw[Uz _ _ _ (Nat.le_refl _)];omega
    ·clear k hk h
     dsimp only[U11]
     refine Tot.chk (by rw[h1];rfl) ?_
     refine Le (fun x=>0<=x.1/\x.1<=8/\(x.2.2.2.2.2.2.2.2.2.2.2.length:Int)=4*x.1/\x.2.2.2.2.2.2.2.2.2.2.2.all Vm.isByte=true) (fun x=>(8 - x.1).toNat) (Tot _) ?_ N _ ⟨by show(0:Int)<=0;omega,by show(0:Int)<=8;omega,rfl,rfl⟩ (by show((8:Int) - 0).toNat<N;omega)
     rintro ⟨t,b0,b1,b2,b3,b4,b5,b6,b7,b8,b9,l⟩ ⟨h1,h2,h3,h4⟩ k hk
     have h1:0<=t:=h1
     have h2:t<=8:=h2
     have h3:(l.length:Int)=4*t:=h3
     have h4:l.all Vm.isByte=true:=h4
     dsimp only[U12]
     refine Tot.bif (fun h=> ?_) fun h=> ?_
     ·have h:=of_decide_eq_true h
      refine Tot.chk (decide_eq_true (by omega)) (Tot.chk (decide_eq_true (by omega)) (Tot.chk (decide_eq_true (by omega)) (hk _ ?_ ?_)))
      ·show 0<=i64.wrap (t+1)/\i64.wrap (t+1)<=8/\((l++[_,_,_,_]).length:Int)=4*i64.wrap (t+1)/\(l++[_,_,_,_]).all Vm.isByte=true
       rw[w64 (by omega) (by omega)]
       refine⟨by omega,by omega,by simp;omega,?_⟩
       rw[List.all_append,h4]
       simp only[List.all_cons,OI,List.all_nil,Bool.and_self]
      ·show(8 - i64.wrap (t+1)).toNat<(8 - t).toNat
       rw[w64 (by omega) (by omega)];omega
     ·have h:=of_decide_eq_false h
      dsimp only[U11]
      refine Tot.chk h4 (Tot.some ?_)
      show(l.map Vm.byteOf).length=32
      rw[List.length_map];omega
theorem Apg {N:Nat} (hN:150<=N) (hM:N<=1000000000) {l:List Bs} (hl:l.length<N) (hs: ∀ s∈l,s.length+64<N):Tot (fun r=>r.length=32) (jM N l):=by
  unfold jM;try simp -zeta only[Ap]
  refine Tot.call (P:=fun r=>(AdC r).length<64) ⟨_,rfl,by show 0<64;omega⟩ fun v hv=> ?_
  refine Le (fun x=>0<=x.1/\x.1<=(l.length:Int)/\(AdC x.2).length<64) (fun x=>((l.length:Int) - x.1).toNat) (Tot _) ?_ N _ ⟨by show(0:Int)<=0;omega,by show(0:Int)<=l.length;omega,hv⟩ (by show((l.length:Int) - 0).toNat<N;omega)
  rintro ⟨t,b0,b1,b2,b3,b4,b5,b6,b7,b8,b9⟩ ⟨h1,h2,h3⟩ k hk
  have h1:0<=t:=h1
  have h2:t<=(l.length:Int):=h2
  dsimp only[U11]
  refine Tot.bif (fun h=> ?_) fun h=> ?_
  ·have h:=of_decide_eq_true h
   have hlt:t.toNat<l.length:=by omega
   refine Tot.chk (decide_eq_true h1) (Tot.chk (decide_eq_true h) ((Aov (by omega) hM _ h3 _ (by rw[getD_lt _ _ _ hlt];exact hs _ (List.getElem_mem hlt))).call fun v hv=>hk _ ?_ ?_))
   ·show 0<=i64.wrap (t+1)/\i64.wrap (t+1)<=(l.length:Int)/\(AdC v).length<64
    rw[w64 (by omega) (by omega)]
    exact⟨by omega,by omega,hv⟩
   ·show((l.length:Int) - i64.wrap (t+1)).toNat<((l.length:Int) - t).toNat
    rw[w64 (by omega) (by omega)];omega
  ·dsimp only[U10]
   exact(Aqy hN _ h3).call fun v hv=>Tot.some hv
theorem Am5 {N:Nat} (hN:150<=N) (hM:N<=1000000000) {l:List Bs} (hl:l.length<N) (hs: ∀ s∈l,s.length+64<N):Tot (fun r=>r.length=16) (FZ N l):=by
  unfold FZ;try simp -zeta only[Ap]
  refine(Apg hN hM hl hs).call fun v hv=>Tot.chk (decide_eq_true (by omega)) (Tot.some ?_)
  rw[Uz _ _ _ (by omega)]
