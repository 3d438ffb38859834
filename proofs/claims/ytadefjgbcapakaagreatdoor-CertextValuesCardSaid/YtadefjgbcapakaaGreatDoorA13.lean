import Derived.Test.YtadefjgbcapakaaGreatDoorA12
import Derived.OwnWalk
import Derived.Lib.Join
import Derived.Below
import Derived.Shelf.Strings.Builder1
import Derived.Shelf.Strings.Builder2
import Derived.Shelf.Strings.OnBuilder
import Derived.Shelf.Small.Bits
import Derived.Shelf.Small.Strs
import Derived.Shelf.Small.Wraps
import Derived.Shelf.Utf8.RuneCount
import Derived.Shelf.Strconv.Itoa0
import Derived.Shelf.Strconv.Itoa1
import Derived.Shelf.LaysM
import Derived.Shelf.Strconv.Itoa2
import Derived.Shelf.Strconv.Itoa3
import Derived.Shelf.Strings.Search1
import Derived.Shelf.Strings.Search2
import Derived.Shelf.Strings.Search3
import Derived.Shelf.Strings.Cut
import Derived.Shelf.Strings.Count
import Derived.Shelf.Strings.Shaped
import Derived.Shelf.Strings.Prefix
import Derived.Shelf.Strings.Split
import Derived.Shelf.Strings.SplitShaped
import Derived.Shelf.Unicode.Decode
import Derived.Shelf.Strings.RuneCount
import Derived.Shelf.Strings.Explode
import Derived.Shelf.Unicode.DecodeSlow
import Derived.Shelf.Unicode.DecodeAny
import Derived.Test.YtadefjgbcapakaaGreatDoorProg
import Derived.Sort.Grow
import Derived.Lib.Split
import Derived.Lib.ItoaNum
import Derived.Lib.Strings
set_option linter.all false
namespace Go.Proofs.YtadefjgbcapakaaGreatDoor.Vm
open Classical
section
variable {P:Program} {C:Ctx}
def rE:List (Nat×Sig)->Nat->Option Sig
  | [],_=>none
  | (k,x)::r,t=>bif Nat.beq k t then some x else rE r t
theorem Adc: ∀ {l:List (Nat×Sig)} {t:Nat} {x:Sig},rE l t=some x->(t,x)∈l:=by
  intro l
  induction l with
  | nil=>intro t x h;cases h
  | cons p r ih =>
    intro t x h
    obtain⟨k,y⟩:=p
    simp only[rE,IG]at h
    by_cases hk:k=t
    ·simp only[hk,decide_true,cond_true,Option.some.injEq]at h
     rw[hk,h];exact List.mem_cons_self
    ·rw[show decide (k=t)=false by simpa using hk]at h
     exact List.mem_cons_of_mem _ (ih h)
def Af4:List (Nat×Nrm)->Nat->Option Nrm
  | [],_=>none
  | (k,x)::r,t=>bif Nat.beq k t then some x else Af4 r t
def qV:List (Nat×Alt)->Nat->Option Alt
  | [],_=>none
  | (k,x)::r,t=>bif Nat.beq k t then some x else qV r t
def qZ:List (Nat×(Nat->Sig))->Nat->Option (Nat->Sig)
  | [],_=>none
  | (k,x)::r,t=>bif Nat.beq k t then some x else qZ r t
def ctx (P:Program) (gs:List (Nat×Sig)) (ns:List (Nat×Nrm)) (aa:List (Nat×Alt):=[]) (dd:List (Nat×(Nat->Sig)):=[]) (cc:List Nat:=[]) (bb:List Nat:=[]):Ctx:=⟨Acn P,rE gs,Af4 ns,qV aa,qZ dd,cc,bb⟩
def QE (P:Program) (F:Nat->Sig):Prop:=(∀ xs,(F 0).ok xs=false)/\ ∀ f xs,(F (f+1)).ok xs=true->Spec P f (F (f+1))
def Aao (P:Program):List (Nat×(Nat->Sig))->Prop
  | []=>True
  | (_,F)::r=>QE P F/\Aao P r
theorem Aao.look: ∀ {l:List (Nat×(Nat->Sig))},Aao P l-> ∀ t F,qZ l t=some F->QE P F:=by
  intro l
  induction l with
  | nil=>intro _ t F h;cases h
  | cons p r ih =>
    intro h t F hF
    obtain⟨k,x⟩:=p
    simp only[qZ,IG]at hF
    by_cases hk:k=t
    ·simp only[hk,decide_true,cond_true,Option.some.injEq]at hF
     rw[<- hF];exact h.1
    ·rw[show decide (k=t)=false by simpa using hk]at hF
     exact ih h.2 t F hF
def Aan (P:Program):List (Nat×Alt)->Prop
  | []=>True
  | (f,q)::r=>(Spec P f q.1/\Spec P f q.2.1)/\Aan P r
theorem Aan.look: ∀ {l:List (Nat×Alt)},Aan P l-> ∀ f q,qV l f=some q->Spec P f q.1/\Spec P f q.2.1:=by
  intro l
  induction l with
  | nil=>intro _ f q h;cases h
  | cons p r ih =>
    intro h f q hq
    obtain⟨k,x⟩:=p
    simp only[qV,IG]at hq
    by_cases hk:k=f
    ·simp only[hk,decide_true,cond_true,Option.some.injEq]at hq
     rw[<- hq,<- hk];exact h.1
    ·rw[show decide (k=f)=false by simpa using hk]at hq
     exact ih h.2 f q hq
def qR (P:Program):List (Nat×Sig)->Prop
  | []=>True
  | (f,sg)::r=>Spec P f sg/\qR P r
theorem qR.mem: ∀ {l:List (Nat×Sig)},qR P l-> ∀ p∈l,Spec P p.1 p.2:=by
  intro l
  induction l with
  | nil=>intro _ p hp;cases hp
  | cons q r ih =>
    intro h p hp
    rcases List.mem_cons.1 hp with rfl | hp
    ·exact h.1
    ·exact ih h.2 p hp
theorem Ah {gs:List (Nat×Sig)} {ns:List (Nat×Nrm)} {aa:List (Nat×Alt)} {dd:List (Nat×(Nat->Sig))} {cc bb:List Nat} (hG:qR P gs) (hA:Aan P aa:=by trivial) (hD:Aao P dd:=by trivial):Gm P (ctx P gs ns aa dd cc bb) :=
  ⟨fun _ _ h=>h,fun _ _ h=>hG.mem _ (Adc h),hA.look,hD.look⟩
theorem enters {f:FuncId} {fn:Func} (hf:P.funcs[f]? =some fn) (hb:fn.body.isNone=false) (hn:(fn.name== "runtime.NumGoroutine")=false) (args:Array Value) (w:World):(callFunc f args).run P w= .ok (.enter f args) w:=by
  have h1:fn.name≠ "runtime.NumGoroutine" :=by simpa using hn
  have h2:fn.body≠none:=by intro e;rw[e]at hb;cases hb
  simp [callFunc,hf,h1,h2]
def C9:(ks:List (Bool×CK))->List A->Option (tyl (ks.map (·.2))).Val
  | []=>fun
    | []=>some ()
    | _=>none
  | (_,.bool)::r=>fun
    | .bool b::cs=>(C9 r cs).map (fun q=>Ty.mk2 _ b q)
    | _=>none
  | (_,.int k)::r=>fun
    | .int j n::cs=>bif A.kEq j k then(C9 r cs).map (fun q=>Ty.mk2 _ n q)else none
    | _=>none
  | (_,.str)::r=>fun
    | .str s::cs=>(C9 r cs).map (fun q=>Ty.mk2 _ s q)
    | _=>none
  | (false,.sl _ t)::r=>fun
    | .sl l::cs=>match l.cast t with
      | some xs=>(C9 r cs).map (fun q=>Ty.mk2 _ xs q)
      | none=>none
    | _=>none
  | (true,.sl e t)::r=>fun
    | .usl e' l::cs=>bif Nat.beq e' e then match l.cast t with
      | some xs=>(C9 r cs).map (fun q=>Ty.mk2 _ xs q)
      | none=>none
      else none
    | _=>none
  | (_,.sln _ t)::r=>fun
    | .sln l::cs=>match l.cast t with
      | some xs=>(C9 r cs).map (fun q=>Ty.mk2 _ xs q)
      | none=>none
    | _=>none
  | (_,.ptr)::r=>fun
    | .Cc::cs=>(C9 r cs).map (fun q=>q)
    | _=>none
  | (_,.fn)::r=>fun
    | .fn n::cs=>(C9 r cs).map (fun q=>Ty.mk2 _ n q)
    | _=>none
  | (_,.mp kt vt)::r=>fun
    | .ump l::cs=>match l.cast kt vt with
      | some xs=>(C9 r cs).map (fun q=>Ty.mk2 _ xs q)
      | none=>none
    | _=>none
  | (_,.oth)::_=>fun _=>none
def DZ:(ks:List (Bool×CK))->(tyl (ks.map (·.2))).Val->List A
  | [],_=>[]
  | (_,.bool)::r,v=>.bool (Ty.hd _ v)::DZ r (Ty.tl _ v)
  | (_,.int k)::r,v=>.int k (Ty.hd _ v)::DZ r (Ty.tl _ v)
  | (_,.str)::r,v=>.str (Ty.hd _ v)::DZ r (Ty.tl _ v)
  | (false,.sl _ t)::r,v=>.sl ⟨t,Ty.hd _ v⟩::DZ r (Ty.tl _ v)
  | (true,.sl e t)::r,v=>.usl e ⟨t,Ty.hd _ v⟩::DZ r (Ty.tl _ v)
  | (_,.sln _ t)::r,v=>.sln ⟨t,Ty.hd _ v⟩::DZ r (Ty.tl _ v)
  | (_,.ptr)::r,v=>.Cc::DZ r v
  | (_,.fn)::r,v=>.fn (Ty.hd _ v)::DZ r (Ty.tl _ v)
  | (_,.mp kt vt)::r,v=>.ump ⟨kt,vt,Ty.hd _ v⟩::DZ r (Ty.tl _ v)
  | (_,.oth)::_,_=>[]
theorem PQ: ∀(ks:List (Bool×CK)) (cs:List A) (v:(tyl (ks.map (·.2))).Val),C9 ks cs=some v->cs=DZ ks v:=by
  intro ks
  induction ks with
  | nil =>
    intro cs v h
    cases cs with
    | nil=>rfl
    | cons _ _=>cases h
  | cons k ks ih =>
    intro cs v h
    obtain⟨u,k⟩:=k
    have none': ∀ {α :Type} {x: α},(none:Option α)=some x->False:=fun h=>by cases h
    cases k with
    | bool =>
      simp only[C9]at h
      split at h
      ·rename_i b cs
       cases hd:C9 ks cs with
       | none=>rw[hd]at h;cases h
       | some q =>
         rw[hd]at h
         injection h with h
         subst h
         simp only[DZ,Ty.Ff,Ty.Fp]
         rw[<- ih cs q hd]
      ·exact(none' h).elim
    | int k =>
      simp only[C9]at h
      split at h
      ·rename_i j n cs
       cases hk:A.kEq j k with
       | false=>rw[hk]at h;exact(none' h).elim
       | true =>
         rw[hk]at h
         cases hd:C9 ks cs with
         | none=>rw[hd]at h;cases h
         | some q =>
           rw[hd]at h
           injection h with h
           subst h
           simp only[DZ,Ty.Ff,Ty.Fp]
           rw[<- ih cs q hd,A.H6 hk]
      ·exact(none' h).elim
    | str =>
      simp only[C9]at h
      split at h
      ·rename_i b cs
       cases hd:C9 ks cs with
       | none=>rw[hd]at h;cases h
       | some q =>
         rw[hd]at h
         injection h with h
         subst h
         simp only[DZ,Ty.Ff,Ty.Fp]
         rw[<- ih cs q hd]
      ·exact(none' h).elim
    | sl e t =>
      cases u with
      | false =>
        simp only[C9]at h
        split at h
        ·rename_i l cs
         cases hc:l.cast t with
         | none=>rw[hc]at h;exact(none' h).elim
         | some xs =>
           rw[hc]at h
           dsimp only at h
           cases hd:C9 ks cs with
           | none=>rw[hd]at h;cases h
           | some q =>
             rw[hd]at h
             injection h with h
             subst h
             simp only[DZ,Ty.Ff,Ty.Fp]
             rw[<- ih cs q hd,Sl.GN hc]
        ·exact(none' h).elim
      | true =>
        simp only[C9]at h
        split at h
        ·rename_i e' l cs
         cases he:Nat.beq e' e with
         | false=>rw[he]at h;exact(none' h).elim
         | true =>
           rw[he]at h
           dsimp only[cond_true]at h
           cases hc:l.cast t with
           | none=>rw[hc]at h;exact(none' h).elim
           | some xs =>
             rw[hc]at h
             dsimp only at h
             cases hd:C9 ks cs with
             | none=>rw[hd]at h;cases h
             | some q =>
               rw[hd]at h
               injection h with h
               subst h
               simp only[DZ,Ty.Ff,Ty.Fp]
               rw[<- ih cs q hd,Sl.GN hc,Nat.eq_of_beq_eq_true he]
        ·exact(none' h).elim
    | ptr =>
      simp only[C9]at h
      split at h
      ·rename_i cs
       cases hd:C9 ks cs with
       | none=>rw[hd]at h;cases h
       | some q =>
         rw[hd]at h
         injection h with h
         subst h
         simp only[DZ]
         rw[<- ih cs _ hd]
      ·exact(none' h).elim
    | fn =>
      simp only[C9]at h
      split at h
      ·rename_i b cs
       cases hd:C9 ks cs with
       | none=>rw[hd]at h;cases h
       | some q =>
         rw[hd]at h
         injection h with h
         subst h
         simp only[DZ,Ty.Ff,Ty.Fp]
         rw[<- ih cs q hd]
      ·exact(none' h).elim
    | sln e t =>
      simp only[C9]at h
      split at h
      ·rename_i l cs
       cases hc:l.cast t with
       | none=>rw[hc]at h;exact(none' h).elim
       | some xs =>
         rw[hc]at h
         dsimp only at h
         cases hd:C9 ks cs with
         | none=>rw[hd]at h;cases h
         | some q =>
           rw[hd]at h
           injection h with h
           subst h
           simp only[DZ,Ty.Ff,Ty.Fp]
           rw[<- ih cs q hd,Sl.GN hc]
      ·exact(none' h).elim
    | mp kt vt =>
      simp only[C9]at h
      split at h
      ·rename_i l cs
       cases hc:l.cast kt vt with
       | none=>rw[hc]at h;exact(none' h).elim
       | some xs =>
         rw[hc]at h
         dsimp only at h
         cases hd:C9 ks cs with
         | none=>rw[hd]at h;cases h
         | some q =>
           rw[hd]at h
           injection h with h
           subst h
           simp only[DZ,Ty.Ff,Ty.Fp]
           rw[<- ih cs q hd,Mp.GN hc]
      ·exact(none' h).elim
    | oth=>simp only[C9]at h;exact(none' h).elim
def Sh.ks:Sh->List (Bool×CK)
  | .cell u k=>[(u,k)]
  | .agg ks=>ks
  | .box ks=>ks
  | .clo _ ks=>ks
  | .map kt vt=>[(true,.mp kt vt)]
def Sh.T (s:Sh):Type:=(tyl (s.ks.map (·.2))).Val
def Sh.dec:(s:Sh)->A->Option s.T
  | .cell u k,x=>C9 [(u,k)] [x]
  | .agg ks,.agg cs=>C9 ks cs
  | .box ks,.box cs=>C9 ks cs
  | .clo f ks,.cbx g cs=>bif Nat.beq f g then C9 ks cs else none
  | .map kt vt,x=>C9 [(true,.mp kt vt)] [x]
  | _,_=>none
def Sh.enc:(s:Sh)->s.T->A
  | .cell u k,v=>(DZ [(u,k)] v).getD 0 .undef
  | .agg ks,v=>.agg (DZ ks v)
  | .box ks,v=>.box (DZ ks v)
  | .clo f ks,v=>.cbx f (DZ ks v)
  | .map kt vt,v=>(DZ [(true,.mp kt vt)] v).getD 0 .undef
theorem Sh.AfI {s:Sh} {x:A} {v:s.T} (h:s.dec x=some v):x=s.enc v:=by
  cases s with
  | cell u k =>
    have:=PQ _ _ _ (show C9 [(u,k)] [x]=some v from h)
    show x=(DZ [(u,k)] v).getD 0 .undef
    rw[<- this];rfl
  | agg ks =>
    cases x with
    | agg cs =>
      have:=PQ _ _ _ (show C9 ks cs=some v from h)
      show _=A.agg (DZ ks v)
      rw[<- this]
    | _=>cases h
  | box ks =>
    cases x with
    | box cs =>
      have:=PQ _ _ _ (show C9 ks cs=some v from h)
      show _=A.box (DZ ks v)
      rw[<- this]
    | _=>cases h
  | clo f ks =>
    cases x with
    | cbx g cs =>
      have h:(bif Nat.beq f g then C9 ks cs else none)=some v:=h
      cases hb:Nat.beq f g with
      | false=>rw[hb]at h;cases h
      | true =>
        rw[hb]at h
        have:=PQ _ _ _ (show C9 ks cs=some v from h)
        show _=A.cbx f (DZ ks v)
        rw[<- this,Nat.eq_of_beq_eq_true hb]
    | _=>cases h
  | map kt vt =>
    have:=PQ _ _ _ (show C9 [(true,.mp kt vt)] [x]=some v from h)
    show x=(DZ [(true,.mp kt vt)] v).getD 0 .undef
    rw[<- this];rfl
def prS (s:Sh) (β :Type):List Sh->Type
  | []=>s.T
  | _::_=>s.T× β
def ShT:List Sh->Type
  | []=>Unit
  | s::r=>prS s (ShT r) r
def hdS (s:Sh):(r:List Sh)->prS s (ShT r) r->s.T
  | [],v=>v
  | _::_,v=>v.1
def tlS (s:Sh):(r:List Sh)->prS s (ShT r) r->ShT r
  | [],_=>()
  | _::_,v=>v.2
def mkS (s:Sh):(r:List Sh)->s.T->ShT r->prS s (ShT r) r
  | [],a,_=>a
  | _::_,a,b=>(a,b)
theorem Ag1 (s:Sh) (r:List Sh) (a:s.T) (b:ShT r):hdS s r (mkS s r a b)=a:=by cases r<;>rfl
theorem AgT (s:Sh) (r:List Sh) (a:s.T) (b:ShT r):tlS s r (mkS s r a b)=b:=by cases r<;>rfl
def Aa2 (s:Sh) (r:List Sh):Option s.T->Option (ShT r)->Option (prS s (ShT r) r)
  | some a,some b=>some (mkS s r a b)
  | _,_=>none
theorem Aa3 {s:Sh} {r:List Sh} {x:Option s.T} {y:Option (ShT r)} {v:prS s (ShT r) r} (h:Aa2 s r x y=some v): ∃ a b,x=some a/\y=some b/\v=mkS s r a b:=by
  cases x with
  | none=>cases h
  | some a =>
    cases y with
    | none=>cases h
    | some b=>injection h with h;exact⟨a,b,rfl,rfl,h.symm⟩
def MB:(ss:List Sh)->List A->Option (ShT ss)
  | []=>fun
    | []=>some ()
    | _=>none
  | s::r=>fun
    | []=>none
    | x::xs=>Aa2 s r (s.dec x) (MB r xs)
def encs:(ss:List Sh)->ShT ss->List A
  | [],_=>[]
  | s::r,v=>s.enc (hdS s r v)::encs r (tlS s r v)
theorem tY: ∀(ss:List Sh) (xs:List A) (v:ShT ss),MB ss xs=some v->xs=encs ss v:=by
  intro ss
  induction ss with
  | nil =>
    intro xs v h
    cases xs with
    | nil=>rfl
    | cons _ _=>cases h
  | cons s ss ih =>
    intro xs v h
    cases xs with
    | nil=>cases h
    | cons x xs =>
      obtain⟨a,b,h1,h2,h3⟩:=Aa3 (show Aa2 s ss (s.dec x) (MB ss xs)=some v from h)
      subst h3
      show _=s.enc (hdS s ss (mkS s ss a b))::encs ss (tlS s ss (mkS s ss a b))
      rw[Ag1,AgT,<- Sh.AfI h1,<- ih xs b h2]
def Sh.zero (s:Sh):s.T:=Ty.zero _
def zeroS:(ss:List Sh)->ShT ss
  | []=>()
  | s::r=>mkS s r s.zero (zeroS r)
def D9 (Ad Aq:List Sh):List Sh:=Aq++Ad.filterMap (fun | .box ks=>some (.agg ks) | .clo _ ks=>some (.agg ks) | .map kt vt=>some (.map kt vt) | _=>none)
def Sig.of (Ad Aq:List Sh) (f:ShT Ad->Option (ShT (D9 Ad Aq))):Sig where
  Ad:=Ad
  Aq:=Aq
  ok xs:=match MB Ad xs with
    | some a=>(f a).isSome
    | none=>false
  val xs:=match MB Ad xs with
    | some a=>encs (D9 Ad Aq) ((f a).getD (zeroS _))
    | none=>[]
def MH (Ad Aq:List Sh):List (Nat×(ShT Ad->Option (ShT (D9 Ad Aq))))->Nat->ShT Ad->Option (ShT (D9 Ad Aq))
  | [],_,_=>none
  | (f,g)::r,n,x=>bif Nat.beq n (f+1)then g x else MH Ad Aq r n x
def sF (P:Program) (Ad Aq:List Sh):List (Nat×(ShT Ad->Option (ShT (D9 Ad Aq))))->Prop
  | []=>True
  | (f,g)::r=>Spec P f (Sig.of Ad Aq g)/\sF P Ad Aq r
theorem AcO (Ad Aq:List Sh): ∀(l:List (Nat×(ShT Ad->Option (ShT (D9 Ad Aq))))) (x:ShT Ad),MH Ad Aq l 0 x=none:=by
  intro l
  induction l with
  | nil=>intro x;rfl
  | cons p r ih=>intro x;obtain⟨f,g⟩:=p;simp only[MH];exact ih x
theorem AcN {Ad Aq:List Sh}: ∀ {l:List (Nat×(ShT Ad->Option (ShT (D9 Ad Aq))))},sF P Ad Aq l-> ∀ f,(∀ x,MH Ad Aq l (f+1) x=none)\/Spec P f (Sig.of Ad Aq (MH Ad Aq l (f+1))):=by
  intro l
  induction l with
  | nil=>intro _ f;exact .inl fun x=>rfl
  | cons p r ih =>
    intro h f
    obtain⟨k,g⟩:=p
    by_cases hk:f=k
    ·subst hk
     have:MH Ad Aq ((f,g)::r) (f+1)=g:=by
       funext x
       simp [MH,IG]
     rw[this]
     exact .inr h.1
    ·have:MH Ad Aq ((k,g)::r) (f+1)=MH Ad Aq r (f+1):=by
       funext x
       simp [MH,IG,hk]
     rw[this]
     exact ih h.2 f
theorem Ti {Ad Aq:List Sh} {l:List (Nat×(ShT Ad->Option (ShT (D9 Ad Aq))))} (h:sF P Ad Aq l):QE P (fun n=>Sig.of Ad Aq (MH Ad Aq l n)):=by
  refine⟨fun xs=> ?_,fun f xs hok=> ?_⟩
  ·show(match MB Ad xs with | some a=>(MH Ad Aq l 0 a).isSome | none=>false)=false
   cases MB Ad xs with
   | none=>rfl
   | some a=>dsimp only;rw[AcO];rfl
  ·rcases AcN h f with h0 | h0
   ·have hok':(match MB Ad xs with | some a=>(MH Ad Aq l (f+1) a).isSome | none=>false)=true:=hok
    cases hd:MB Ad xs with
    | none=>rw[hd]at hok';cases hok'
    | some a=>rw[hd]at hok';dsimp only at hok';rw[h0]at hok';cases hok'
   ·exact h0
theorem Sig.Y3 {Ad Aq:List Sh} {f:ShT Ad->Option (ShT (D9 Ad Aq))} {xs rs:List A} (h:(Sig.of Ad Aq f).F xs=some rs): ∃ a o,xs=encs Ad a/\f a=some o/\rs=encs _ o:=by
  unfold Sig.F Sig.of at h
  dsimp only at h
  cases hd:MB Ad xs with
  | none=>rw[hd]at h;cases h
  | some a =>
    rw[hd]at h
    dsimp only at h
    cases hf:f a with
    | none=>rw[hf]at h;cases h
    | some o =>
      rw[hf]at h
      injection h with h
      exact⟨a,o,tY _ _ _ hd,hf,h.symm⟩
def NU (C:Ctx) (Ad Aq:List Sh) (outs:List (Nat×Option Nat)) (st:St):Option (ShT (D9 Ad Aq)) :=
  allT ((A8 st.Aa Aq (FP C outs st)).1++(A8 st.Aa (Ad.map Iq) (Gu Ad 0)).1 ++
      [nodup ((Dy st.Aa 256000 256 Aq (FP C outs st)++Dy st.Aa 0 256 (Ad.map Iq) (Gu Ad 0)).map (·.1))]++outs.flatMap (fun q=>(bU C st q).1))
    (MB _ ((A8 st.Aa Aq (FP C outs st)).2.1++(BZ Ad 0).map (fun i=>unbox ((A8 st.Aa (Ad.map Iq) (Gu Ad 0)).2.1.getD i .undef))))
theorem AfA {α β :Type} {l:List Bool} {x:Option α} {y: α} (h:allT l x=some y) (z: β):allT l (some z)=some z:=by
  induction l with
  | nil=>rfl
  | cons c cs ih =>
    cases c with
    | false=>cases h
    | true=>exact ih h
theorem AcY {C:Ctx} {Ad Aq:List Sh} {outs:List (Nat×Option Nat)} {st:St} {o:ShT (D9 Ad Aq)} (h:NU C Ad Aq outs st=some o):finish C Ad Aq outs st=some (encs _ o):=by
  unfold NU at h
  obtain⟨_,h2⟩:=Iw h
  have:=tY _ _ _ h2
  unfold finish
  rw[<- this]
  exact AfA h _
theorem Lr {ρ :Type} {fin:St->Option ρ} (hC:Gm P C) (N:Nat) {f:FuncId} {fn:Func} {code:Code} {outs:List (Nat×Option Nat)} {Ad Aq:List Sh} {g:ShT Ad->Option (ShT (D9 Ad Aq))} (hf:P.funcs[f]? =some fn) (hb:fn.body=some code) (hn:(fn.name== "runtime.NumGoroutine")=false)
    (hout:fn.results=(outs.map rv).toArray) (hF: ∀ a o,g a=some o-> ∃ r,runK C N Ad fn.ntmps code fin (encs Ad a)=some r/\ ∀ st,fin st=some r->NU C Ad Aq outs st=some o):Spec P f (Sig.of Ad Aq g) :=
  ⟨enters hf (by rw[hb];rfl) hn,fun _ _ _ xs rs hI hv hl h100 hx hrs=>by
    obtain⟨a,o,h1,h2,h3⟩:=Sig.Y3 hrs
    subst h1;subst h3
    obtain⟨r,h4,h5⟩:=hF a o h2
    exact AdU (sg:=Sig.of Ad Aq g) (o:=r) hC N (fun id ops _ _ _ _ _ K hS hd hx=>AaI hC id ops K hS hd hx) hf hb hout hI hv hl h100 hx h4 (fun st h=>AcY (h5 st h))⟩
end
end Go.Proofs.YtadefjgbcapakaaGreatDoor.Vm
namespace Go.Proofs.YtadefjgbcapakaaGreatDoor.Vm
def KD {α ρ :Type} (A:(α ->Option ρ)->Option ρ) (f: α ->Option ρ):Option ρ :=A f
def Am {ρ :Type} (b:Bool) (k:Bool->Option ρ):Option ρ :=k b
theorem Aag {ρ :Type} (b:Bool) (k:Bool->Option ρ):Am b k=k b:=rfl
def Ag3 {α β :Type}:Option (α ⊕ β)->Bool
  | some (.inr _)=>false
  | _=>true
def Agy {α β :Type}:Option (α ⊕ β)->Option α
  | some (.inl x)=>some x
  | _=>none
def Agz {α β :Type}:Option (α ⊕ β)->Option β
  | some (.inr x)=>some x
  | _=>none
def Gp {α β ρ :Type} [Inhabited α] [Inhabited β] (o:Option (α ⊕ β)) (k: α ->Option ρ) (l: β ->Option ρ):Option ρ :=bif Ag3 o then Ae (Agy o) k else Ae (Agz o) l
theorem WN {α β ρ :Type} [Inhabited α] [Inhabited β] (x: α) (k: α ->Option ρ) (l: β ->Option ρ):Gp (some (.inl x)) k l=k x:=rfl
theorem Np {α β ρ :Type} [Inhabited α] [Inhabited β] (x: β) (k: α ->Option ρ) (l: β ->Option ρ):Gp (some (.inr x)) k l=l x:=rfl
def strings_Join (_:Nat) (l:List Bs) (sep:Bs):Option Bs:=bif decide (l.length<=140737488355328)&&decide ((sep.intercalate l).length<=140737488355328)then some (sep.intercalate l)else none
def U2 {a0 a1 r:Type} (f:a0->a1->r) (x:a0×a1):r:=f x.1 x.2
def U3 {a0 a1 a2 r:Type} (f:a0->a1->a2->r) (x:a0×a1×a2):r:=f x.1 x.2.1 x.2.2
def U4 {a0 a1 a2 a3 r:Type} (f:a0->a1->a2->a3->r) (x:a0×a1×a2×a3):r:=f x.1 x.2.1 x.2.2.1 x.2.2.2
def U5 {a0 a1 a2 a3 a4 r:Type} (f:a0->a1->a2->a3->a4->r) (x:a0×a1×a2×a3×a4):r:=f x.1 x.2.1 x.2.2.1 x.2.2.2.1 x.2.2.2.2
def U6 {a0 a1 a2 a3 a4 a5 r:Type} (f:a0->a1->a2->a3->a4->a5->r) (x:a0×a1×a2×a3×a4×a5):r:=f x.1 x.2.1 x.2.2.1 x.2.2.2.1 x.2.2.2.2.1 x.2.2.2.2.2
def U7 {a0 a1 a2 a3 a4 a5 a6 r:Type} (f:a0->a1->a2->a3->a4->a5->a6->r) (x:a0×a1×a2×a3×a4×a5×a6):r:=f x.1 x.2.1 x.2.2.1 x.2.2.2.1 x.2.2.2.2.1 x.2.2.2.2.2.1 x.2.2.2.2.2.2
def U8 {a0 a1 a2 a3 a4 a5 a6 a7 r:Type} (f:a0->a1->a2->a3->a4->a5->a6->a7->r) (x:a0×a1×a2×a3×a4×a5×a6×a7):r:=f x.1 x.2.1 x.2.2.1 x.2.2.2.1 x.2.2.2.2.1 x.2.2.2.2.2.1 x.2.2.2.2.2.2.1 x.2.2.2.2.2.2.2
def U9 {a0 a1 a2 a3 a4 a5 a6 a7 a8 r:Type} (f:a0->a1->a2->a3->a4->a5->a6->a7->a8->r) (x:a0×a1×a2×a3×a4×a5×a6×a7×a8):r:=f x.1 x.2.1 x.2.2.1 x.2.2.2.1 x.2.2.2.2.1 x.2.2.2.2.2.1 x.2.2.2.2.2.2.1 x.2.2.2.2.2.2.2.1 x.2.2.2.2.2.2.2.2
def U10 {a0 a1 a2 a3 a4 a5 a6 a7 a8 a9 r:Type} (f:a0->a1->a2->a3->a4->a5->a6->a7->a8->a9->r) (x:a0×a1×a2×a3×a4×a5×a6×a7×a8×a9):r:=f x.1 x.2.1 x.2.2.1 x.2.2.2.1 x.2.2.2.2.1 x.2.2.2.2.2.1 x.2.2.2.2.2.2.1 x.2.2.2.2.2.2.2.1 x.2.2.2.2.2.2.2.2.1 x.2.2.2.2.2.2.2.2.2
def U19 {a0 a1 a2 a3 a4 a5 a6 a7 a8 a9 a10 a11 a12 a13 a14 a15 a16 a17 a18 r:Type} (f:a0->a1->a2->a3->a4->a5->a6->a7->a8->a9->a10->a11->a12->a13->a14->a15->a16->a17->a18->r) (x:a0×a1×a2×a3×a4×a5×a6×a7×a8×a9×a10×a11×a12×a13×a14×a15×a16×a17×a18):r:=f x.1 x.2.1 x.2.2.1 x.2.2.2.1 x.2.2.2.2.1 x.2.2.2.2.2.1 x.2.2.2.2.2.2.1 x.2.2.2.2.2.2.2.1 x.2.2.2.2.2.2.2.2.1 x.2.2.2.2.2.2.2.2.2.1 x.2.2.2.2.2.2.2.2.2.2.1 x.2.2.2.2.2.2.2.2.2.2.2.1 x.2.2.2.2.2.2.2.2.2.2.2.2.1 x.2.2.2.2.2.2.2.2.2.2.2.2.2.1 x.2.2.2.2.2.2.2.2.2.2.2.2.2.2.1 x.2.2.2.2.2.2.2.2.2.2.2.2.2.2.2.1 x.2.2.2.2.2.2.2.2.2.2.2.2.2.2.2.2.1 x.2.2.2.2.2.2.2.2.2.2.2.2.2.2.2.2.2.1 x.2.2.2.2.2.2.2.2.2.2.2.2.2.2.2.2.2.2
def U20 {a0 a1 a2 a3 a4 a5 a6 a7 a8 a9 a10 a11 a12 a13 a14 a15 a16 a17 a18 a19 r:Type} (f:a0->a1->a2->a3->a4->a5->a6->a7->a8->a9->a10->a11->a12->a13->a14->a15->a16->a17->a18->a19->r) (x:a0×a1×a2×a3×a4×a5×a6×a7×a8×a9×a10×a11×a12×a13×a14×a15×a16×a17×a18×a19):r:=f x.1 x.2.1 x.2.2.1 x.2.2.2.1 x.2.2.2.2.1 x.2.2.2.2.2.1 x.2.2.2.2.2.2.1 x.2.2.2.2.2.2.2.1 x.2.2.2.2.2.2.2.2.1 x.2.2.2.2.2.2.2.2.2.1 x.2.2.2.2.2.2.2.2.2.2.1 x.2.2.2.2.2.2.2.2.2.2.2.1 x.2.2.2.2.2.2.2.2.2.2.2.2.1 x.2.2.2.2.2.2.2.2.2.2.2.2.2.1 x.2.2.2.2.2.2.2.2.2.2.2.2.2.2.1 x.2.2.2.2.2.2.2.2.2.2.2.2.2.2.2.1 x.2.2.2.2.2.2.2.2.2.2.2.2.2.2.2.2.1 x.2.2.2.2.2.2.2.2.2.2.2.2.2.2.2.2.2.1 x.2.2.2.2.2.2.2.2.2.2.2.2.2.2.2.2.2.2.1 x.2.2.2.2.2.2.2.2.2.2.2.2.2.2.2.2.2.2.2
def U21 {a0 a1 a2 a3 a4 a5 a6 a7 a8 a9 a10 a11 a12 a13 a14 a15 a16 a17 a18 a19 a20 r:Type} (f:a0->a1->a2->a3->a4->a5->a6->a7->a8->a9->a10->a11->a12->a13->a14->a15->a16->a17->a18->a19->a20->r) (x:a0×a1×a2×a3×a4×a5×a6×a7×a8×a9×a10×a11×a12×a13×a14×a15×a16×a17×a18×a19×a20):r:=f x.1 x.2.1 x.2.2.1 x.2.2.2.1 x.2.2.2.2.1 x.2.2.2.2.2.1 x.2.2.2.2.2.2.1 x.2.2.2.2.2.2.2.1 x.2.2.2.2.2.2.2.2.1 x.2.2.2.2.2.2.2.2.2.1 x.2.2.2.2.2.2.2.2.2.2.1 x.2.2.2.2.2.2.2.2.2.2.2.1 x.2.2.2.2.2.2.2.2.2.2.2.2.1 x.2.2.2.2.2.2.2.2.2.2.2.2.2.1 x.2.2.2.2.2.2.2.2.2.2.2.2.2.2.1 x.2.2.2.2.2.2.2.2.2.2.2.2.2.2.2.1 x.2.2.2.2.2.2.2.2.2.2.2.2.2.2.2.2.1 x.2.2.2.2.2.2.2.2.2.2.2.2.2.2.2.2.2.1 x.2.2.2.2.2.2.2.2.2.2.2.2.2.2.2.2.2.2.1 x.2.2.2.2.2.2.2.2.2.2.2.2.2.2.2.2.2.2.2.1 x.2.2.2.2.2.2.2.2.2.2.2.2.2.2.2.2.2.2.2.2
def U22 {a0 a1 a2 a3 a4 a5 a6 a7 a8 a9 a10 a11 a12 a13 a14 a15 a16 a17 a18 a19 a20 a21 r:Type} (f:a0->a1->a2->a3->a4->a5->a6->a7->a8->a9->a10->a11->a12->a13->a14->a15->a16->a17->a18->a19->a20->a21->r) (x:a0×a1×a2×a3×a4×a5×a6×a7×a8×a9×a10×a11×a12×a13×a14×a15×a16×a17×a18×a19×a20×a21):r:=f x.1 x.2.1 x.2.2.1 x.2.2.2.1 x.2.2.2.2.1 x.2.2.2.2.2.1 x.2.2.2.2.2.2.1 x.2.2.2.2.2.2.2.1 x.2.2.2.2.2.2.2.2.1 x.2.2.2.2.2.2.2.2.2.1 x.2.2.2.2.2.2.2.2.2.2.1 x.2.2.2.2.2.2.2.2.2.2.2.1 x.2.2.2.2.2.2.2.2.2.2.2.2.1 x.2.2.2.2.2.2.2.2.2.2.2.2.2.1 x.2.2.2.2.2.2.2.2.2.2.2.2.2.2.1 x.2.2.2.2.2.2.2.2.2.2.2.2.2.2.2.1 x.2.2.2.2.2.2.2.2.2.2.2.2.2.2.2.2.1 x.2.2.2.2.2.2.2.2.2.2.2.2.2.2.2.2.2.1 x.2.2.2.2.2.2.2.2.2.2.2.2.2.2.2.2.2.2.1 x.2.2.2.2.2.2.2.2.2.2.2.2.2.2.2.2.2.2.2.1 x.2.2.2.2.2.2.2.2.2.2.2.2.2.2.2.2.2.2.2.2.1 x.2.2.2.2.2.2.2.2.2.2.2.2.2.2.2.2.2.2.2.2.2
def U23 {a0 a1 a2 a3 a4 a5 a6 a7 a8 a9 a10 a11 a12 a13 a14 a15 a16 a17 a18 a19 a20 a21 a22 r:Type} (f:a0->a1->a2->a3->a4->a5->a6->a7->a8->a9->a10->a11->a12->a13->a14->a15->a16->a17->a18->a19->a20->a21->a22->r) (x:a0×a1×a2×a3×a4×a5×a6×a7×a8×a9×a10×a11×a12×a13×a14×a15×a16×a17×a18×a19×a20×a21×a22):r:=f x.1 x.2.1 x.2.2.1 x.2.2.2.1 x.2.2.2.2.1 x.2.2.2.2.2.1 x.2.2.2.2.2.2.1 x.2.2.2.2.2.2.2.1 x.2.2.2.2.2.2.2.2.1 x.2.2.2.2.2.2.2.2.2.1 x.2.2.2.2.2.2.2.2.2.2.1 x.2.2.2.2.2.2.2.2.2.2.2.1 x.2.2.2.2.2.2.2.2.2.2.2.2.1 x.2.2.2.2.2.2.2.2.2.2.2.2.2.1 x.2.2.2.2.2.2.2.2.2.2.2.2.2.2.1 x.2.2.2.2.2.2.2.2.2.2.2.2.2.2.2.1 x.2.2.2.2.2.2.2.2.2.2.2.2.2.2.2.2.1 x.2.2.2.2.2.2.2.2.2.2.2.2.2.2.2.2.2.1 x.2.2.2.2.2.2.2.2.2.2.2.2.2.2.2.2.2.2.1 x.2.2.2.2.2.2.2.2.2.2.2.2.2.2.2.2.2.2.2.1 x.2.2.2.2.2.2.2.2.2.2.2.2.2.2.2.2.2.2.2.2.1 x.2.2.2.2.2.2.2.2.2.2.2.2.2.2.2.2.2.2.2.2.2.1 x.2.2.2.2.2.2.2.2.2.2.2.2.2.2.2.2.2.2.2.2.2.2
open Go.RowKit
theorem Below.moves {O:Own} {T:Nat->Prop} {w w':World} (h:Below w.heap.size w w'):Moves O T w w':=⟨h.os,h.tape,h.output,h.size,fun b hb=>.inl (h.block b hb)⟩
noncomputable def FY (e N:Nat):Sig:=.of [.cell false (.sl e (.str .nil)),.cell false .str] [.cell false .str] (fun a=>strings_Join N a.1 a.2)
theorem ZL {O:Own} {w:World} {v:Value} {s:List UInt8} (h:Ai O w v (.str s)):v= .string ⟨s.toArray⟩:=by
  cases h with
  | str s=>exact congrArg Value.string (by rw[Array.toArray_toList])
theorem O8 {O:Own} {w w':World} {vs:Array Value} {e N:Nat} {s:List UInt8} (hb:Below w.heap.size w w'):Came O w vs (FY e N) [.str s] (.string ⟨s.toArray⟩) O w':=by
  refine⟨Below.moves hb,fun b k _ h=>h,fun b k _ h=>h,rfl,⟨#[.string ⟨s.toArray⟩],rfl,rfl,fun k hk=> ?_⟩,fun j i hj=> ?_⟩
  ·have hk0:k=0:=by simp at hk;omega
   subst hk0
   show Ai O w' (.string ⟨s.toArray⟩) (.str s)
   exact Ai.str (O:=O) (w:=w') ⟨s.toArray⟩
  ·exact absurd hj (by show(BZ [.cell false (.sl e (.str .nil)),.cell false .str] 0)[j]? ≠some i;simp [BZ,Bq])
def sH (P:Program) (f:FuncId):Prop :=
    (∀(a:Option Addr) (c:Nat) (sep:ByteArray) (w:World),Calls P f #[.slice a 0 c,.string sep] w fun e w'=>e= .returned (.string ⟨#[]⟩)/\w'=w) /\
    (∀(bk o c:Nat) (xs:List ByteArray) (sep:ByteArray) (w:World),(∀(j:Nat) x,xs[j]? =some x->w.cell? ⟨bk,o+j,none⟩=some (.string x))->bk<w.heap.size->xs.length<=140737488355328->xs.length<=c->(Lib.join (xs.map (·.data.toList)) sep.data.toList).length<=140737488355328 ->
      Calls P f #[.slice (some ⟨bk,o,none⟩) xs.length c,.string sep] w fun e w'=>e= .returned (.string ⟨(Lib.join (xs.map (·.data.toList)) sep.data.toList).toArray⟩)/\Below w.heap.size w w')
theorem dM {P:Program} {f:FuncId} {e N:Nat} (H:sH P f) {O:Own} {w:World} {vs:Array Value} (l:List Bs) (sep o:Bs) (hl2:vs.size=2) (hx0:Ai O w (vs.getD 0 undef) (.sl ⟨.str .nil,l⟩)) (hx1:Ai O w (vs.getD 1 undef) (.str sep)) (h2':strings_Join N l sep=some o) :
    Calls P f vs w fun e' w'=> ∃ v O',e'= .returned v/\Came O w vs (FY e N) [.str o] v O' w':=by
  obtain⟨hn,hj⟩:=H
  have hvs:vs= #[vs.getD 0 undef,vs.getD 1 undef]:=by
    apply Array.ext
    ·simpa using hl2
    ·intro i h1 h2
     have:i=0\/i=1:=by simp at h2;omega
     rcases this with rfl | rfl
     ·simp [Array.getD_eq_getD_getElem?,h1]
     ·simp [Array.getD_eq_getD_getElem?,h1]
  rw[ZL hx1]at hvs
  unfold strings_Join at h2'
  cases hc:(decide (l.length<=140737488355328)&&decide ((sep.intercalate l).length<=140737488355328))with
  | false=>rw[hc]at h2';cases h2'
  | true =>
    rw[hc]at h2'
    injection h2' with h2'
    rw[Bool.and_eq_true,decide_eq_true_eq,decide_eq_true_eq]at hc
    subst h2'
    have hes0:(⟨.str .nil,l⟩:Sl).es=l.map (fun s:Bs=>[A.str s]):=rfl
    generalize hv0:vs.getD 0 undef=v0 at *
    have hnil:l=[]-> ∀ a c,v0= .slice a 0 c->Calls P f vs w fun e' w'=> ∃ v O',e'= .returned v/\Came O w vs (FY e N) [.str (sep.intercalate l)] v O' w':=by
      intro hl0 a c hv0'
      have:=hn a c ⟨sep.toArray⟩ w
      rw[<- hv0',<- hvs]at this
      refine this.mono fun e' w' hq=> ?_
      obtain⟨h4,h5⟩:=hq
      subst h5
      refine⟨_,O,h4,?_⟩
      have:sep.intercalate l=[]:=by rw[hl0];rfl
      rw[this]
      exact O8 (Below.refl _ _)
    have hsz:(⟨.str .nil,l⟩:Sl).sz=1:=rfl
    generalize hL:(⟨.str .nil,l⟩:Sl)=L at hx0 hes0 hsz
    have hlen:L.es.length=l.length:=by rw[hes0,List.length_map]
    have hes: ∀ j:Nat,L.es[j]? =(l[j]?).map (fun s=>[A.str s]):=fun j=>by rw[hes0,List.getElem?_map]
    cases hx0 with
    | nil t =>
      have:l=[]:=by injection hL with h1 h2;subst h1;exact eq_of_heq h2
      exact hnil this _ _ rfl
    | sl0 ad t =>
      have:l=[]:=by injection hL with h1 h2;subst h1;exact eq_of_heq h2
      exact hnil this _ _ rfl
    | @sl b off cap l' vs' hcap hm hr =>
      cases hl0:l with
      | nil=>rw[<- hl0];exact hnil hl0 _ cap (by rw[hlen,hl0];rfl)
      | cons s0 r =>
        have hb:b<w.heap.size:=by
          have:=(hm 0 0 (by rw[hlen,hl0];simp) (by omega)).2
          exact cell_lt this
        rw[<- hl0]
        have hmap:(l.map (fun s=>(⟨s.toArray⟩:ByteArray))).map (·.data.toList)=l:=by
          rw[List.map_map]
          conv=>rhs;rw[<- List.map_id l]
          refine List.map_congr_left fun s _=> ?_
          simp
        have hJ:=hj b off cap (l.map (fun s=>(⟨s.toArray⟩:ByteArray))) ⟨sep.toArray⟩ w (fun j x hjx=>by
          rw[List.getElem?_map]at hjx
          cases hlj:l[j]? with
          | none=>rw[hlj]at hjx;cases hjx
          | some s =>
            rw[hlj]at hjx
            injection hjx with hjx
            have hjl:j<L.es.length:=by
              rw[hlen]
              rcases Nat.lt_or_ge j l.length with h | h
              ·exact h
              ·rw[List.getElem?_eq_none h]at hlj;cases hlj
            have hm1:=(hm j 0 hjl (by omega)).2
            have hr1:=hr j 0 hjl (by omega)
            rw[List.getD_eq_getElem?_getD (l:=L.es),hes,hlj]at hr1
            have:=ZL (show Ai O w (vs' j 0) (.str s)from hr1)
            rw[this]at hm1;rw[<- hjx]
            have e1:off+(j*L.sz+0)=off+j:=by rw[hsz];omega
            rw[e1]at hm1
            exact hm1) hb (by rw[List.length_map];exact hc.1) (by rw[List.length_map,<- hlen];exact hcap) (by rw[hmap];show(List.intercalate _ l).length<=_;simpa using hc.2)
        rw[List.length_map,hmap,<- hlen,<- hvs]at hJ
        refine hJ.mono fun e' w' hq=> ?_
        have e2:Lib.join l (⟨sep.toArray⟩:ByteArray).data.toList=sep.intercalate l:=by show List.intercalate _ l=_;simp
        rw[e2]at hq
        exact⟨_,O,hq.1,O8 hq.2⟩
theorem jK {P:Program} {f:FuncId} {e N:Nat} (hent: ∀ args w,(callFunc f args).run P w= .ok (.enter f args) w) (H:sH P f):Spec P f (FY e N):=by
  refine⟨hent,fun O w vs xs rs _ hv hl _ hx hrs=> ?_⟩
  obtain⟨a,o,h1,h2,h3⟩:=Sig.Y3 hrs
  subst h1
  have h3':rs=[.str o]:=h3
  rw[h3']
  exact dM H a.1 a.2 o hv (hx 0 (by show 0<2;omega)) (hx 1 (by show 1<2;omega)) h2
end Go.Proofs.YtadefjgbcapakaaGreatDoor.Vm
namespace Go.Proofs
open Go.Shelf
def Tryz.lays156_ren:Go.Shelf.Ren:=⟨fun | 156=>215 | 165=>255 | 166=>256 | 169=>257 | 240=>280 | 241=>281 | 276=>302 | 277=>303 | n=>n,fun | 31=>22 | 9=>9 | 3=>3 | 4=>4 | 0=>0 | 20=>20 | 72=>236 | 76=>240 | 70=>234 | 37=>66 | 75=>239 | 127=>255 | 164=>265 | 5=>5 | 80=>242 | n=>n,fun | n=>n⟩
theorem Tryz.lays156:Go.Proofs.Lays.n156 Tryz.prog Tryz.lays156_ren:= {
  mixed:=by kernel_rfl
  f156:=Tryz.func215.trans (congrArg some (by kernel_rfl))
  f165:=Tryz.func255.trans (congrArg some (by kernel_rfl))
  f166:=Tryz.func256.trans (congrArg some (by kernel_rfl))
  f169:=Tryz.func257.trans (congrArg some (by kernel_rfl))
  f240:=Tryz.func280.trans (congrArg some (by kernel_rfl))
  f241:=Tryz.func281.trans (congrArg some (by kernel_rfl))
  f276:=Tryz.func302.trans (congrArg some (by kernel_rfl))
  f277:=Tryz.func303.trans (congrArg some (by kernel_rfl))
  t0:=Tryz.underlying0
  a0:=Tryz.isAgg0
  z0:=Tryz.sizeOf0
  v0:=Tryz.zeroValue0
  t3:=Tryz.underlying3
  a3:=Tryz.isAgg3
  z3:=Tryz.sizeOf3
  v3:=Tryz.zeroValue3
  t4:=Tryz.underlying4
  a4:=Tryz.isAgg4
  z4:=Tryz.sizeOf4
  v4:=Tryz.zeroValue4
  t9:=Tryz.underlying9
  a9:=Tryz.isAgg9
  z9:=Tryz.sizeOf9
  v9:=Tryz.zeroValue9
  t20:=Tryz.underlying20
  a20:=Tryz.isAgg20
  z20:=Tryz.sizeOf20
  v20:=Tryz.zeroValue20
  t31:=Tryz.underlying22
  a31:=Tryz.isAgg22
  z31:=Tryz.sizeOf22
  v31:=Tryz.zeroValue22
  t37:=Tryz.underlying66
  a37:=Tryz.isAgg66
  z37:=Tryz.sizeOf66
  v37:=Tryz.zeroValue66
  t70:=Tryz.underlying234
  a70:=Tryz.isAgg234
  z70:=Tryz.sizeOf234
  v70:=Tryz.zeroValue234
  t72:=Tryz.underlying236
  a72:=Tryz.isAgg236
  z72:=Tryz.sizeOf236
  v72:=Tryz.zeroValue236
  t75:=Tryz.underlying239
  a75:=Tryz.isAgg239
  z75:=Tryz.sizeOf239
  v75:=Tryz.zeroValue239
  t76:=Tryz.underlying240
  a76:=Tryz.isAgg240
  z76:=Tryz.sizeOf240
  v76:=Tryz.zeroValue240
  t127:=Tryz.underlying255
  a127:=Tryz.isAgg255
  z127:=Tryz.sizeOf255
  v127:=Tryz.zeroValue255
  t164:=Tryz.underlying265
  a164:=Tryz.isAgg265
  z164:=Tryz.sizeOf265
  v164:=Tryz.zeroValue265}
theorem Tryz.Builder_Extra_156:Builder.Extra Tryz.prog Tryz.lays156_ren:= {
  sizeBuilder:=by kernel_rfl
  liesBuilder:=by kernel_rfl
  t5:=Tryz.underlying5
  a5:=Tryz.isAgg5
  z5:=Tryz.sizeOf5
  v5:=Tryz.zeroValue5
  infoByte:=by kernel_rfl
  cellsByte:=by kernel_rfl
  sizeByte:=by kernel_rfl
  neB5:=by decide}
open Go.RowKit in
theorem Tryz.strings_Join_none (a:Option Addr) (c:Nat) (sep:ByteArray) (w:World) :
    Calls Tryz.prog 215 #[.slice a 0 c,.string sep] w fun e w'=>e= .returned (.string ⟨#[]⟩)/\w'=w:=Any.strings_Join_none Tryz.lays156 Tryz.Builder_Extra_156 a c sep w
open Go.RowKit in
theorem Tryz.strings_Join (bk o c:Nat) (xs:List ByteArray) (sep:ByteArray) (w:World) (hcells: ∀(j:Nat) x,xs[j]? =some x->w.cell? ⟨bk,o+j,none⟩=some (.string x)) (hbk:bk<w.heap.size) (hN:xs.length<=140737488355328) (hcap:xs.length<=c) (hlen:(Lib.join (xs.map (·.data.toList)) sep.data.toList).length<=140737488355328) :
    Calls Tryz.prog 215 #[.slice (some ⟨bk,o,none⟩) xs.length c,.string sep] w fun e w'=>e= .returned (.string ⟨(Lib.join (xs.map (·.data.toList)) sep.data.toList).toArray⟩)/\Below w.heap.size w w':=Any.strings_Join Tryz.lays156 Tryz.Builder_Extra_156 bk o c xs sep w hcells hbk hN hcap hlen
def Tryz.laysM171_ren:Go.Shelf.Ren:=⟨fun | 171=>269 | 243=>292 | 246=>310 | 283=>328 | 284=>329 | 285=>330 | 286=>331 | 129=>326 | 317=>342 | 318=>343 | 319=>344 | 320=>345 | 337=>348 | 338=>349 | n=>n,fun | 3=>3 | 9=>9 | 2=>2 | 4=>4 | 171=>283 | 0=>0 | 53=>208 | 37=>66 | 5=>5 | 173=>285 | 212=>293 | 51=>281 | 20=>20 | 213=>294 | 46=>67 | 232=>304 | 233=>305 | n=>n,fun | 17=>1 | 18=>4 | 19=>5 | n=>n⟩
theorem Tryz.laysM171:Go.Proofs.LaysM.n171 Tryz.prog Tryz.laysM171_ren:= {
  mixed:=by kernel_rfl
  f129:=Tryz.func326.trans (congrArg some (by kernel_rfl))
  f171:=Tryz.func269.trans (congrArg some (by kernel_rfl))
  f243:=Tryz.func292.trans (congrArg some (by kernel_rfl))
  f246:=Tryz.func310.trans (congrArg some (by kernel_rfl))
  f283:=Tryz.func328.trans (congrArg some (by kernel_rfl))
  f284:=Tryz.func329.trans (congrArg some (by kernel_rfl))
  f285:=Tryz.func330.trans (congrArg some (by kernel_rfl))
  f286:=Tryz.func331.trans (congrArg some (by kernel_rfl))
  f317:=Tryz.func342.trans (congrArg some (by kernel_rfl))
  f318:=Tryz.func343.trans (congrArg some (by kernel_rfl))
  f319:=Tryz.func344.trans (congrArg some (by kernel_rfl))
  f320:=Tryz.func345.trans (congrArg some (by kernel_rfl))
  f337:=Tryz.func348.trans (congrArg some (by kernel_rfl))
  f338:=Tryz.func349.trans (congrArg some (by kernel_rfl))
  t0:=Tryz.underlying0
  a0:=Tryz.isAgg0
  z0:=Tryz.sizeOf0
  v0:=Tryz.zeroValue0
  t2:=Tryz.underlying2
  a2:=Tryz.isAgg2
  z2:=Tryz.sizeOf2
  v2:=Tryz.zeroValue2
  t3:=Tryz.underlying3
  a3:=Tryz.isAgg3
  z3:=Tryz.sizeOf3
  v3:=Tryz.zeroValue3
  t4:=Tryz.underlying4
  a4:=Tryz.isAgg4
  z4:=Tryz.sizeOf4
  v4:=Tryz.zeroValue4
  t5:=Tryz.underlying5
  a5:=Tryz.isAgg5
  z5:=Tryz.sizeOf5
  v5:=Tryz.zeroValue5
  t9:=Tryz.underlying9
  a9:=Tryz.isAgg9
  z9:=Tryz.sizeOf9
  v9:=Tryz.zeroValue9
  t20:=Tryz.underlying20
  a20:=Tryz.isAgg20
  z20:=Tryz.sizeOf20
  v20:=Tryz.zeroValue20
  t37:=Tryz.underlying66
  a37:=Tryz.isAgg66
  z37:=Tryz.sizeOf66
  v37:=Tryz.zeroValue66
  t46:=Tryz.underlying67
  a46:=Tryz.isAgg67
  z46:=Tryz.sizeOf67
  v46:=Tryz.zeroValue67
  t51:=Tryz.underlying281
  a51:=Tryz.isAgg281
  z51:=Tryz.sizeOf281
  v51:=Tryz.zeroValue281
  t53:=Tryz.underlying208
  a53:=Tryz.isAgg208
  z53:=Tryz.sizeOf208
  v53:=Tryz.zeroValue208
  t171:=Tryz.underlying283
  a171:=Tryz.isAgg283
  z171:=Tryz.sizeOf283
  v171:=Tryz.zeroValue283
  t173:=Tryz.underlying285
  a173:=Tryz.isAgg285
  z173:=Tryz.sizeOf285
  v173:=Tryz.zeroValue285
  t212:=Tryz.underlying293
  a212:=Tryz.isAgg293
  z212:=Tryz.sizeOf293
  v212:=Tryz.zeroValue293
  t213:=Tryz.underlying294
  a213:=Tryz.isAgg294
  z213:=Tryz.sizeOf294
  t232:=Tryz.underlying304
  a232:=Tryz.isAgg304
  z232:=Tryz.sizeOf304
  v232:=Tryz.zeroValue304
  t233:=Tryz.underlying305
  a233:=Tryz.isAgg305
  z233:=Tryz.sizeOf305
  v233:=Tryz.zeroValue305
  g17:=by kernel_rfl
  g18:=by kernel_rfl
  g19:=by kernel_rfl
  i0:=by kernel_rfl
  i2:=by kernel_rfl
  i3:=by kernel_rfl
  i4:=by kernel_rfl
  i5:=by kernel_rfl
  i9:=by kernel_rfl
  i20:=by kernel_rfl
  i37:=by kernel_rfl
  i46:=by kernel_rfl
  i51:=by kernel_rfl
  i53:=by kernel_rfl
  i171:=by kernel_rfl
  i173:=by kernel_rfl
  i212:=by kernel_rfl
  i232:=by kernel_rfl
  i233:=by kernel_rfl
  m17:=by kernel_rfl
  m18:=by kernel_rfl
  m19:=by kernel_rfl}
open Go.RowKit Go.Sort Go.Lib in
theorem Tryz.strconv_Itoa (n:Int) (h0: -9223372036854775808<=n) (h1:n<=9223372036854775807) (w:World) (htab:Lib.TabIs Tryz.prog w "internal/strconv.uint64pow10" .u64 Lib.pow10Tab) :
    Calls Tryz.prog 269 #[.int .i64 n] w fun e w'=>e= .returned (.string ⟨(Lib.itoa n).toArray⟩)/\ ∃ k os,w'=grow (w.drewN k) os:=Any.strconv_Itoa Tryz.laysM171 n h0 h1 w htab
def Tryz.lays146_ren:Go.Shelf.Ren:=⟨fun | 146=>242 | 221=>270 | 268=>293 | 138=>294 | 143=>295 | 195=>311 | 197=>312 | 218=>313 | 219=>314 | 260=>332 | 217=>307 | 225=>333 | 224=>334 | 267=>335 | 266=>327 | 314=>346 | n=>n,fun | 9=>9 | 31=>22 | 3=>3 | 4=>4 | 0=>0 | 105=>271 | 21=>21 | 5=>5 | 46=>67 | 119=>295 | 139=>298 | 138=>297 | 146=>299 | 51=>281 | n=>n,fun | 1=>0 | 3=>2 | 4=>3 | n=>n⟩
theorem Tryz.lays146:Go.Proofs.Lays.n146 Tryz.prog Tryz.lays146_ren:= {
  mixed:=by kernel_rfl
  f138:=Tryz.func294.trans (congrArg some (by kernel_rfl))
  f143:=Tryz.func295.trans (congrArg some (by kernel_rfl))
  f146:=Tryz.func242.trans (congrArg some (by kernel_rfl))
  f195:=Tryz.func311.trans (congrArg some (by kernel_rfl))
  f197:=Tryz.func312.trans (congrArg some (by kernel_rfl))
  f217:=Tryz.func307.trans (congrArg some (by kernel_rfl))
  f218:=Tryz.func313.trans (congrArg some (by kernel_rfl))
  f219:=Tryz.func314.trans (congrArg some (by kernel_rfl))
  f221:=Tryz.func270.trans (congrArg some (by kernel_rfl))
  f224:=Tryz.func334.trans (congrArg some (by kernel_rfl))
  f225:=Tryz.func333.trans (congrArg some (by kernel_rfl))
  f260:=Tryz.func332.trans (congrArg some (by kernel_rfl))
  f266:=Tryz.func327.trans (congrArg some (by kernel_rfl))
  f267:=Tryz.func335.trans (congrArg some (by kernel_rfl))
  f268:=Tryz.func293.trans (congrArg some (by kernel_rfl))
  f314:=Tryz.func346.trans (congrArg some (by kernel_rfl))
  t0:=Tryz.underlying0
  a0:=Tryz.isAgg0
  z0:=Tryz.sizeOf0
  v0:=Tryz.zeroValue0
  t3:=Tryz.underlying3
  a3:=Tryz.isAgg3
  z3:=Tryz.sizeOf3
  v3:=Tryz.zeroValue3
  t4:=Tryz.underlying4
  a4:=Tryz.isAgg4
  z4:=Tryz.sizeOf4
  v4:=Tryz.zeroValue4
  t5:=Tryz.underlying5
  a5:=Tryz.isAgg5
  z5:=Tryz.sizeOf5
  v5:=Tryz.zeroValue5
  t9:=Tryz.underlying9
  a9:=Tryz.isAgg9
  z9:=Tryz.sizeOf9
  v9:=Tryz.zeroValue9
  t21:=Tryz.underlying21
  a21:=Tryz.isAgg21
  z21:=Tryz.sizeOf21
  v21:=Tryz.zeroValue21
  t31:=Tryz.underlying22
  a31:=Tryz.isAgg22
  z31:=Tryz.sizeOf22
  v31:=Tryz.zeroValue22
  t46:=Tryz.underlying67
  a46:=Tryz.isAgg67
  z46:=Tryz.sizeOf67
  v46:=Tryz.zeroValue67
  t51:=Tryz.underlying281
  a51:=Tryz.isAgg281
  z51:=Tryz.sizeOf281
  v51:=Tryz.zeroValue281
  t105:=Tryz.underlying271
  a105:=Tryz.isAgg271
  z105:=Tryz.sizeOf271
  v105:=Tryz.zeroValue271
  t119:=Tryz.underlying295
  a119:=Tryz.isAgg295
  z119:=Tryz.sizeOf295
  t138:=Tryz.underlying297
  a138:=Tryz.isAgg297
  z138:=Tryz.sizeOf297
  v138:=Tryz.zeroValue297
  t139:=Tryz.underlying298
  a139:=Tryz.isAgg298
  z139:=Tryz.sizeOf298
  v139:=Tryz.zeroValue298
  t146:=Tryz.underlying299
  a146:=Tryz.isAgg299
  z146:=Tryz.sizeOf299
  v146:=Tryz.zeroValue299
  g1:=by kernel_rfl
  g3:=by kernel_rfl
  g4:=by kernel_rfl}
open Go.RowKit Go.Lib in
theorem Tryz.strings_Split (s sep:ByteArray) (m:Int) (w:World) (hs:s.size<4294967281) (hm:w.cell? ⟨0,0,none⟩=some (.int .i64 m)) (h1:1<=sep.size) :
    Calls Tryz.prog 242 #[.string s,.string sep] w fun e w' =>
      e= .returned (.slice (some ⟨w.heap.size,0,none⟩) (Lib.countB s sep+1) (Lib.countB s sep+1))/\w'=w.alloc (.cells ((Lib.splitB sep 0 (Lib.countB s sep) s).map Value.string).toArray 9):=Any.strings_Split Tryz.lays146 (by kernel_rfl) s sep m w hs hm h1
end Go.Proofs
namespace Go.Proofs.YtadefjgbcapakaaGreatDoor.Vm
open Go.Proofs
noncomputable def MN (N:Nat):Sig:=FY 9 N
theorem O9 (N:Nat):Spec Tryz.prog 215 (MN N) :=
  jK (enters (fn:=Tryz.f215) (by kernel_rfl) (by kernel_rfl) (by decide)) ⟨Tryz.strings_Join_none,Tryz.strings_Join⟩
open Go.RowKit
def CK.flat:CK->Bool | .bool=>true | .int _=>true | .str=>true | _=>false
def Sh.flat:Sh->Bool | .cell false k=>k.flat | _=>false
def A.flat:A->Bool | .bool _=>true | .int _ _=>true | .str _=>true | _=>false
def rvA:A->Value | .bool b=>.bool b | .int k n=>.int k n | .str s=>.string ⟨s.toArray⟩ | _=>undef
theorem AfN {O:Own} {w:World} {id:Nat} {v:Value} {x:A} (hf:x.flat=true) (h:IR O w id v x):v=rvA x:=by
  cases x with
  | bool b=>have h':Ai O w v (.bool b):=h;cases h';rfl
  | int k n=>have h':Ai O w v (.int k n):=h;cases h';rfl
  | str s=>exact ZL (show Ai O w v (.str s)from h)
  | _=>cases hf
theorem AfY {O:Own} {w:World} {id:Nat} {x:A} (hf:x.flat=true):IR O w id (rvA x) x:=by
  cases x with
  | bool b=>exact Ai.bool b
  | int k n=>exact Ai.int k n
  | str s=>exact Ai.str (O:=O) (w:=w) ⟨s.toArray⟩
  | _=>cases hf
theorem Sh.Ae5 {s:Sh} (h:s.flat=true) (v:s.T):(s.enc v).flat=true:=by
  cases s with
  | cell u k=>cases u<;>cases k<;>first | (cases h;done) | rfl
  | _=>cases h
theorem Xl: ∀(ss:List Sh) (v:ShT ss),ss.all Sh.flat=true->(encs ss v).all A.flat=true:=by
  intro ss
  induction ss with
  | nil=>intro v _;rfl
  | cons s r ih =>
    intro v h
    rw[List.all_cons,Bool.and_eq_true]at h
    show((s.enc _).flat&&(encs r _).all A.flat)=true
    rw[Sh.Ae5 h.1,ih _ h.2];rfl
theorem Ae6: ∀(ss:List Sh) (v:ShT ss),(encs ss v).length=ss.length:=by
  intro ss
  induction ss with
  | nil=>intro v;rfl
  | cons s r ih=>intro v;show(encs r _).length+1=_;rw[ih];rfl
theorem dW: ∀(ss:List Sh) (i:Nat),ss.all Sh.flat=true->BZ ss i=[]:=by
  intro ss
  induction ss with
  | nil=>intro i _;rfl
  | cons s r ih =>
    intro i h
    rw[List.all_cons,Bool.and_eq_true]at h
    unfold BZ
    have:Bq s=false:=by cases s<;>first | rfl | (cases h.1;done)
    rw[this]
    exact ih _ h.2
theorem AdJ (Ad Aq:List Sh) (h:Ad.all Sh.flat=true):D9 Ad Aq=Aq:=by
  unfold D9
  rw[List.filterMap_eq_nil_iff.2 (fun s hs=> ?_),List.append_nil]
  have:=List.all_eq_true.1 h s hs
  cases s<;>first | rfl | (cases this;done)
theorem nI {l:List A} (h:l.all A.flat=true) {j:Nat} (hj:j<l.length):(l.getD j .undef).flat=true:=by
  rw[List.getD_eq_getElem?_getD,List.getElem?_eq_getElem hj]
  exact List.all_eq_true.1 h _ (List.getElem_mem hj)
theorem Zy (l:List A) (j:Nat) (hj:j<l.length):((l.map rvA).toArray).getD j undef=rvA (l.getD j .undef):=by
  simp [Array.getD_eq_getD_getElem?,List.getD_eq_getElem?_getD,hj]
theorem Ac8 {O:Own} {w w':World} {vs:Array Value} {sg:Sig} {rs:List A} (hp:sg.Ad.all Sh.flat=true) (hl:rs.length=sg.Aq.length) (hf:rs.all A.flat=true) (hb:Below w.heap.size w w'):Came O w vs sg rs (xO (rs.map rvA).toArray) O w':=by
  have hix:BZ sg.Ad 0=[]:=dW _ _ hp
  refine⟨Below.moves hb,fun b k _ h=>h,fun b k _ h=>h,by rw[hix,hl];rfl,⟨(rs.map rvA).toArray,by simp [hl],rfl,fun k hk=> ?_⟩,fun j i hj=> ?_⟩
  ·have hk':k<rs.length:=by simpa using hk
   rw[Zy rs k hk']
   exact AfY (nI hf hk')
  ·rw[hix]at hj;cases hj
theorem mV {O:Own} {w:World} {vs:Array Value} {xs:List A} (hf:xs.all A.flat=true) (hv:vs.size=xs.length) (hx: ∀ j,j<xs.length->IR O w (256*j) (vs.getD j undef) (xs.getD j .undef)):vs=(xs.map rvA).toArray:=by
  apply Array.ext
  ·simp [hv]
  ·intro i h1 h2
   have hi:i<xs.length:=by omega
   have:=AfN (nI hf hi) (hx i hi)
   rw[<- Zy xs i hi]at this
   simp only[Array.getD_eq_getD_getElem?,Array.getElem?_eq_getElem h1,Array.getElem?_eq_getElem h2,Option.getD_some]at this
   exact this
theorem y5 (w:World) (k:Nat) (os:Array Go.Obj):Below w.heap.size w (Go.Sort.grow (w.drewN k) os) :=
  ⟨rfl,rfl,rfl,by show _<=(w.heap++os).size;simp,fun i hi=>by show(w.heap++os)[i]? =_;rw[Array.getElem?_append_left hi]⟩
theorem AeA {P:Program} {f:FuncId} {Ad Aq:List Sh} {g:ShT Ad->Option (ShT (D9 Ad Aq))} (hp:Ad.all Sh.flat=true) (hr:Aq.all Sh.flat=true) (hent: ∀ args w,(callFunc f args).run P w= .ok (.enter f args) w)
    (H: ∀(O:Own) (w:World) (a:ShT Ad) (o:ShT (D9 Ad Aq)),Inv O w->g a=some o->Calls P f ((encs Ad a).map rvA).toArray w fun e w'=>e= .returned (xO ((encs (D9 Ad Aq) o).map rvA).toArray)/\Below w.heap.size w w'):Spec P f (Sig.of Ad Aq g):=by
  refine⟨hent,fun O w vs xs rs hI hv hl _ hx hrs=> ?_⟩
  obtain⟨a,o,h1,h2,h3⟩:=Sig.Y3 hrs
  subst h1
  have hvs:=mV (Xl Ad a hp) hv hx
  rw[hvs]
  refine(H O w a o hI h2).mono fun e w' hq=> ?_
  obtain⟨he,hb⟩:=hq
  subst h3
  have ho:D9 Ad Aq=Aq:=AdJ Ad Aq hp
  refine⟨_,O,he,Ac8 (sg:=Sig.of Ad Aq g) hp ?_ ?_ hb⟩
  ·rw[Ae6,ho];rfl
  ·exact Xl _ _ (by rw[ho];exact hr)
def strings_Split (_:Nat) (s sep:Bs):Option (List Bs):=bif decide (s.length<4294967281)&&decide (1<=sep.length)then some (Lib.split s sep)else none
def strconv_Itoa (_:Nat) (n:Int):Option Bs:=bif decide (-9223372036854775808<=n)&&decide (n<=9223372036854775807)then some (Lib.itoa n)else none
open Go.Proofs Go.RowKit
theorem AeZ {O:Own} {w:World} (hI:Inv O w):Lib.TabIs Tryz.prog w "internal/strconv.uint64pow10" .u64 Lib.pow10Tab:=by
  obtain⟨c,e,fr,h1,h2⟩:=hI.2 1 20 rfl
  have hg:Tryz.prog.globalNamed "internal/strconv.uint64pow10" =some 1:=by kernel_rfl
  unfold Lib.TabIs World.var?
  rw[hg]
  show(match w.heap[1]? with | some (.cells cs _ _)=>some cs | _=>none)=_
  rw[h1]
  refine congrArg some (Array.ext (by rw[h2];simp [Lib.pow10Tab_length]) fun i hi hi'=> ?_)
  have hi20:i<20:=by omega
  obtain⟨_,v,hv,hp⟩:=hI.1 1 i _ (if_pos hi20)
  have hv':c[i]? =some v:=by
    have:w.cell? (at' 1 i)=c[i]? :=by simp [World.cell?,h1]
    rw[<- this];exact hv
  rw[Array.getElem?_eq_getElem hi]at hv'
  injection hv' with hv'
  rw[hv',hp]
  simp [Lib.pow10Tab]
noncomputable def TR (N:Nat):Sig:=.of [.cell false (.int .i64)] [.cell false .str] (fun a=>strconv_Itoa N a)
theorem Zm (N:Nat):Spec Tryz.prog 269 (TR N) :=
  AeA rfl rfl (enters (fn:=Tryz.f269) (by kernel_rfl) (by kernel_rfl) (by decide)) fun O w (a:Int) (o:Bs) hI h=>by
   have h:(bif decide (-9223372036854775808<=a)&&decide (a<=9223372036854775807)then some (Lib.itoa a)else none)=some o:=h
   cases hc:(decide (-9223372036854775808<=a)&&decide (a<=9223372036854775807))with
   | false=>rw[hc]at h;cases h
   | true =>
   rw[hc]at h
   injection h with h
   subst h
   rw[Bool.and_eq_true,decide_eq_true_eq,decide_eq_true_eq]at hc
   refine(Tryz.strconv_Itoa a hc.1 hc.2 w (AeZ hI)).mono fun e w' hq=> ?_
   obtain⟨h1,k,os,h2⟩:=hq
   subst h2
   exact⟨h1,y5 _ _ _⟩
theorem Afm {O:Own} {w:World} {bs:List ByteArray} {t:TypeId} {l:List Bs} (hl:bs.map (·.data.toList)=l) :
    Ai (fun b k=>if b<w.heap.size then O b k else none) (w.alloc (.cells (bs.map Value.string).toArray t)) (.slice (some ⟨w.heap.size,0,none⟩) bs.length bs.length) (.sl ⟨.str .nil,l⟩):=by
  have hll:l.length=bs.length:=by rw[<- hl,List.length_map]
  have hget: ∀ i (h:i<bs.length),l.getD i []=bs[i].data.toList:=by
    intro i h
    rw[<- hl]
    simp [List.getD_eq_getElem?_getD,h]
  have hes0:(⟨.str .nil,l⟩:Sl).es=l.map (fun s:Bs=>[A.str s]):=rfl
  have hsz:(⟨.str .nil,l⟩:Sl).sz=1:=rfl
  generalize (⟨.str .nil,l⟩:Sl)=L at *
  have hlen:L.es.length=bs.length:=by rw[hes0,List.length_map,hll]
  have hb:(w.alloc (.cells (bs.map Value.string).toArray t)).heap[w.heap.size]? =some (.cells (bs.map Value.string).toArray t (0,0)):=Uz _ _
  have hcell: ∀ i,(w.alloc (.cells (bs.map Value.string).toArray t)).cell? (at' w.heap.size i)=(bs.map Value.string).toArray[i]? :=by
    intro i
    simp only[World.cell?,hb]
    rfl
  have h:=Ai.sl (O:=fun b k=>if b<w.heap.size then O b k else none) (w:=w.alloc (.cells (bs.map Value.string).toArray t)) (b:=w.heap.size) (off:=0) (cap:=bs.length) (l:=L) (fun i _=>.string (bs.getD i ByteArray.empty)) (by rw[hlen];exact Nat.le_refl _)
    (fun i j hi hj=>by
      rw[hlen]at hi
      rw[hsz]at hj
      have hj0:j=0:=by omega
      subst hj0
      refine⟨if_neg (Nat.lt_irrefl _),?_⟩
      have e:0+(i*L.sz+0)=i:=by rw[hsz];omega
      rw[e,hcell]
      simp [List.getD_eq_getElem?_getD,hi])
    (fun i j hi hj=>by
      rw[hlen]at hi
      rw[hsz]at hj
      have hj0:j=0:=by omega
      subst hj0
      have e1:(L.es.getD i []).getD 0 .undef= .str (l.getD i []):=by
        rw[hes0]
        simp [List.getD_eq_getElem?_getD,show i<l.length by omega]
      rw[e1,hget i hi]
      simp only[List.getD_eq_getElem?_getD,List.getElem?_eq_getElem hi,Option.getD_some]
      exact Ai.str (bs[i]))
  rw[hlen]at h
  exact h
theorem Ac9 {O:Own} {w:World} {vs:Array Value} {sg:Sig} {bs:List ByteArray} {t e:TypeId} {l:List Bs} (hp:sg.Ad.all Sh.flat=true) (hr:sg.Aq=[.cell false (.sl e (.str .nil))]) (hl:bs.map (·.data.toList)=l) :
    Came O w vs sg [.sl ⟨.str .nil,l⟩] (.slice (some ⟨w.heap.size,0,none⟩) bs.length bs.length) (fun b k=>if b<w.heap.size then O b k else none) (w.alloc (.cells (bs.map Value.string).toArray t)):=by
  have hix:BZ sg.Ad 0=[]:=dW _ _ hp
  refine⟨Moves.push _,fun b k hb h=>by rwa [if_pos hb]at h,fun b k hb h=>by rwa [if_pos hb],by rw[hix,hr];rfl,⟨#[.slice (some ⟨w.heap.size,0,none⟩) bs.length bs.length],by rw[hr];rfl,rfl,fun k hk=> ?_⟩,fun j i hj=> ?_⟩
  ·have hk0:k=0:=by simp at hk;omega
   subst hk0
   exact Afm hl
  ·rw[hix]at hj;cases hj
noncomputable def Ls (N:Nat):Sig:=.of [.cell false .str,.cell false .str] [.cell false (.sl 9 (.str .nil))] (fun a=>strings_Split N a.1 a.2)
theorem Yn (N:Nat):Spec Tryz.prog 242 (Ls N):=by
  refine⟨enters (fn:=Tryz.f242) (by kernel_rfl) (by kernel_rfl) (by decide),fun O w vs xs rs hI hv hl _ hx hrs=> ?_⟩
  obtain⟨a,o,h1,h2,h3⟩:=Sig.Y3 (Ad:=[.cell false .str,.cell false .str]) (Aq:=[.cell false (.sl 9 (.str .nil))]) (f:=fun a=>strings_Split N a.1 a.2) hrs
  subst h1
  obtain⟨s,c⟩:=a
  have hvs:=mV (Xl [.cell false .str,.cell false .str] (s,c) rfl) hv hx
  rw[hvs]
  have h2':(bif decide (List.length s<4294967281)&&decide (1<=List.length c)then some (Lib.split s c)else none)=some o:=h2
  cases hc:(decide (List.length s<4294967281)&&decide (1<=List.length c))with
  | false=>rw[hc]at h2';cases h2'
  | true =>
    rw[hc]at h2'
    injection h2' with h2'
    subst h2'
    rw[Bool.and_eq_true,decide_eq_true_eq,decide_eq_true_eq]at hc
    obtain⟨_,v,hm,m,rfl⟩:=hI.1 0 0 _ rfl
    have hlen:=Lib.splitB_all ⟨List.toArray c⟩ hc.2 0 _ ⟨List.toArray s⟩ rfl
    refine(Tryz.strings_Split ⟨List.toArray s⟩ ⟨List.toArray c⟩ m w hc.1 hm hc.2).mono fun e w' hq=> ?_
    obtain⟨he,hw⟩:=hq
    subst hw
    rw[<- hlen]at he
    refine⟨_,fun b k=>if b<w.heap.size then O b k else none,he,?_⟩
    have h3':rs=[.sl ⟨.str .nil,Lib.split s c⟩]:=h3
    rw[h3']
    exact Ac9 (O:=O) (w:=w) (e:=9) (sg:=Ls N) rfl rfl (by rw[Lib.splitB_data];rfl)
