import Derived.Test.YtbnphelpndnnfabGreatDoorA10
import Derived.OwnWalk
import Derived.Lib.Join
import Derived.Below
import Derived.Shelf.Strings.Builder1
import Derived.Shelf.Strings.Builder2
import Derived.Shelf.Strings.OnBuilder
import Derived.Shelf.Small.Bits
import Derived.Shelf.Small.Strs
import Derived.Shelf.Small.Wraps
import Derived.Shelf.Utf8.RuneCount
import Derived.Shelf.Strconv.Itoa0
import Derived.Shelf.Strconv.Itoa1
import Derived.Shelf.LaysM
import Derived.Shelf.Strconv.Itoa2
import Derived.Shelf.Strconv.Itoa3
import Derived.Shelf.Strings.Search1
import Derived.Shelf.Strings.Search2
import Derived.Shelf.Strings.Search3
import Derived.Shelf.Strings.Cut
import Derived.Shelf.Strings.Count
import Derived.Shelf.Strings.Shaped
import Derived.Shelf.Sort.Plain
import Derived.Shelf.Strings.Prefix
import Derived.Shelf.Strings.Split
import Derived.Shelf.Strings.SplitShaped
import Derived.Shelf.Unicode.Decode
import Derived.Shelf.Strings.RuneCount
import Derived.Shelf.Strings.Explode
import Derived.Shelf.Unicode.DecodeSlow
import Derived.Shelf.Unicode.DecodeAny
import Derived.Ground.Names2Prog
import Derived.Shelf.Slices.Clone
import Derived.Ground.SlgnProg
import Derived.Shelf.SlicesE.Clone
import Derived.Test.YtbnphelpndnnfabGreatDoorProg
import Derived.Sort.Grow
import Derived.Lib.Split
import Derived.Lib.ItoaNum
import Derived.Lib.Strings
set_option linter.all false
namespace Go.Proofs.YtbnphelpndnnfabGreatDoor.Vm
open Classical
section
variable {P:Program} {C:Ctx}
def Aii:List (Nat×Sig)->Nat->Option Sig
  | [],_=>none
  | (k,x)::r,t=>bif Nat.beq k t then some x else Aii r t
theorem Aod: ∀ {l:List (Nat×Sig)} {t:Nat} {x:Sig},Aii l t=some x->(t,x)∈l:=by
  intro l
  induction l with
  | nil=>intro t x h;cases h
  | cons p r ih=>grind[Aii,OG]
def ApZ:List (Nat×Nrm)->Nat->Option Nrm
  | [],_=>none
  | (k,x)::r,t=>bif Nat.beq k t then some x else ApZ r t
def AhZ:List (Nat×Alt)->Nat->Option Alt
  | [],_=>none
  | (k,x)::r,t=>bif Nat.beq k t then some x else AhZ r t
def Aie:List (Nat×(Nat->Sig))->Nat->Option (Nat->Sig)
  | [],_=>none
  | (k,x)::r,t=>bif Nat.beq k t then some x else Aie r t
def Aqa:List (Nat×Nat×Nat×List Nat)->Nat->Option (Nat×Nat×List Nat)
  | [],_=>none
  | (k,x)::r,t=>bif Nat.beq k t then some x else Aqa r t
def ApW:List (Nat×List (Nat×Nat))->Nat->List (Nat×Nat)
  | [],_=>[]
  | (k,x)::r,t=>bif Nat.beq k t then x else ApW r t
def ctx (P:Program) (gs:List (Nat×Sig)) (ns:List (Nat×Nrm)) (aa:List (Nat×Alt):=[]) (dd:List (Nat×(Nat->Sig)):=[]) (cc:List Nat:=[]) (bb:List Nat:=[]) (ss:List (Nat×Nat×Nat×List Nat):=[]) (kk:List (Nat×List (Nat×Nat)):=[]):Ctx:=⟨Anp P,Aii gs,ApZ ns,AhZ aa,Aie dd,cc,bb,fun _=>none,Aqa ss,ApW kk⟩
def Px (P:Program) (F:Nat->Sig):Prop:=(∀ xs,(F 0).ok xs=false)/\ ∀ f xs,(F (f+1)).ok xs=true->Spec P f (F (f+1))
def Air (P:Program):List (Nat×(Nat->Sig))->Prop
  | []=>True
  | (_,F)::r=>Px P F/\Air P r
theorem Air.look: ∀ {l:List (Nat×(Nat->Sig))},Air P l-> ∀ t F,Aie l t=some F->Px P F:=by
  intro l
  induction l with
  | nil=>intro _ t F h;cases h
  | cons p r ih=>grind[Aie,OG,Air,Px]
def AlA (P:Program):List (Nat×Alt)->Prop
  | []=>True
  | (f,q)::r=>(Spec P f q.1/\Spec P f q.2.1)/\AlA P r
theorem AlA.look: ∀ {l:List (Nat×Alt)},AlA P l-> ∀ f q,AhZ l f=some q->Spec P f q.1/\Spec P f q.2.1:=by
  intro l
  induction l with
  | nil=>intro _ f q h;cases h
  | cons p r ih =>
    intro h f q hq
    obtain⟨k,x⟩:=p
    simp only[AhZ,OG]at hq
    by_cases hk:k=f
    ·simp only[hk,decide_true,cond_true,Option.some.injEq]at hq
     rw[<- hq,<- hk];exact h.1
    ·rw[show decide (k=f)=false by simpa using hk]at hq
     exact ih h.2 f q hq
def AcT (P:Program):List (Nat×Sig)->Prop
  | []=>True
  | (f,sg)::r=>Spec P f sg/\AcT P r
theorem AcT.mem: ∀ {l:List (Nat×Sig)},AcT P l-> ∀ p∈l,Spec P p.1 p.2:=by
  intro l
  induction l with
  | nil=>intro _ p hp;cases hp
  | cons q r ih=>grind[AcT,Spec]
theorem Dk {gs:List (Nat×Sig)} {ns:List (Nat×Nrm)} {aa:List (Nat×Alt)} {dd:List (Nat×(Nat->Sig))} {cc bb:List Nat} {ss:List (Nat×Nat×Nat×List Nat)} {kk:List (Nat×List (Nat×Nat))} (hG:AcT P gs) (hA:AlA P aa:=by trivial) (hD:Air P dd:=by trivial):GV P (ctx P gs ns aa dd cc bb ss kk) :=
  ⟨fun _ _ h=>h,fun _ _ h=>hG.mem _ (Aod h),hA.look,hD.look⟩
theorem enters {f:FuncId} {fn:Func} (hf:P.funcs[f]? =some fn) (hb:fn.body.isNone=false) (hn:(fn.name== "runtime.NumGoroutine")=false) (args:Array Value) (w:World):(callFunc f args).run P w= .ok (.enter f args) w:=by
  have h1:fn.name≠ "runtime.NumGoroutine" :=by simpa using hn
  have h2:fn.body≠none:=by intro e;rw[e]at hb;cases hb
  simp [callFunc,hf,h1,h2]
def Fa:(ks:List (Bool×CK))->List A->Option (tyl (ks.map (·.2))).Val
  | []=>fun
    | []=>some ()
    | _=>none
  | (_,.bool)::r=>fun
    | .bool b::cs=>(Fa r cs).map (fun q=>Ty.mk2 _ b q)
    | _=>none
  | (_,.int k)::r=>fun
    | .int j n::cs=>bif A.kEq j k then(Fa r cs).map (fun q=>Ty.mk2 _ n q)else none
    | _=>none
  | (_,.str)::r=>fun
    | .str s::cs=>(Fa r cs).map (fun q=>Ty.mk2 _ s q)
    | _=>none
  | (false,.sl _ t)::r=>fun
    | .sl l::cs=>match l.cast t with
      | some xs=>(Fa r cs).map (fun q=>Ty.mk2 _ xs q)
      | none=>none
    | _=>none
  | (true,.sl e t)::r=>fun
    | .usl z e' l::cs=>bif z&&Nat.beq e' e then match l.cast t with
      | some xs=>(Fa r cs).map (fun q=>Ty.mk2 _ xs q)
      | none=>none
      else none
    | _=>none
  | (true,.sln e t)::r=>fun
    | .usl z e' l::cs=>bif !z&&Nat.beq e' e then match l.cast t with
      | some xs=>(Fa r cs).map (fun q=>Ty.mk2 _ xs q)
      | none=>none
      else none
    | _=>none
  | (false,.sln _ t)::r=>fun
    | .sln l::cs=>match l.cast t with
      | some xs=>(Fa r cs).map (fun q=>Ty.mk2 _ xs q)
      | none=>none
    | _=>none
  | (_,.ptr)::r=>fun
    | .Fj::cs=>(Fa r cs).map (fun q=>q)
    | _=>none
  | (_,.fn)::r=>fun
    | .fn n::cs=>(Fa r cs).map (fun q=>Ty.mk2 _ n q)
    | _=>none
  | (_,.mp kt vt)::r=>fun
    | .ump l::cs=>match l.cast kt vt with
      | some xs=>(Fa r cs).map (fun q=>Ty.mk2 _ xs q)
      | none=>none
    | _=>none
  | (true,.bx t)::r=>fun
    | .box ds::cs=>bif (t.mk (ds.map A.weak)).1&&ds.all A.AmP then(Fa r cs).map (fun q=>Ty.mk2 _ [(t.mk (ds.map A.weak)).2] q)else none
    | _=>none
  | (false,.bx _)::_=>fun _=>none
  | (_,.oth)::_=>fun _=>none
def F5:(ks:List (Bool×CK))->(tyl (ks.map (·.2))).Val->List A
  | [],_=>[]
  | (_,.bool)::r,v=>.bool (Ty.hd _ v)::F5 r (Ty.tl _ v)
  | (_,.int k)::r,v=>.int k (Ty.hd _ v)::F5 r (Ty.tl _ v)
  | (_,.str)::r,v=>.str (Ty.hd _ v)::F5 r (Ty.tl _ v)
  | (false,.sl _ t)::r,v=>.sl ⟨t,Ty.hd _ v⟩::F5 r (Ty.tl _ v)
  | (true,.sl e t)::r,v=>.usl true e ⟨t,Ty.hd _ v⟩::F5 r (Ty.tl _ v)
  | (true,.sln e t)::r,v=>.usl false e ⟨t,Ty.hd _ v⟩::F5 r (Ty.tl _ v)
  | (false,.sln _ t)::r,v=>.sln ⟨t,Ty.hd _ v⟩::F5 r (Ty.tl _ v)
  | (_,.ptr)::r,v=>.Fj::F5 r v
  | (_,.fn)::r,v=>.fn (Ty.hd _ v)::F5 r (Ty.tl _ v)
  | (_,.mp kt vt)::r,v=>.ump ⟨kt,vt,Ty.hd _ v⟩::F5 r (Ty.tl _ v)
  | (true,.bx t)::r,v=>.box ((t.cells ((Ty.hd _ v).headD t.zero)).map A.strong)::F5 r (Ty.tl _ v)
  | (false,.bx _)::_,_=>[]
  | (_,.oth)::_,_=>[]
theorem Ald: ∀(ds:List A),ds.all A.AmP=true->(ds.map A.weak).map A.strong=ds:=by
  intro ds
  induction ds with
  | nil=>intro _;rfl
  | cons d ds ih =>
    intro h
    rw[List.all_cons,Bool.and_eq_true]at h
    rw[List.map_cons,List.map_cons,ih h.2]
    congr 1
    cases d<;>first | rfl | cases h.1
theorem XR: ∀(ks:List (Bool×CK)) (cs:List A) (v:(tyl (ks.map (·.2))).Val),Fa ks cs=some v->cs=F5 ks v:=by
  intro ks
  induction ks with
  | nil =>
    intro cs v h
    cases cs with
    | nil=>rfl
    | cons _ _=>cases h
  | cons k ks ih =>
    intro cs v h
    obtain⟨u,k⟩:=k
    have none': ∀ {α :Type} {x: α},(none:Option α)=some x->False:=fun h=>by cases h
    cases k with
    | bool =>
      simp only[Fa]at h
      split at h
      ·rename_i b cs
       cases hd:Fa ks cs with
       | none=>rw[hd]at h;cases h
       | some q =>
         rw[hd]at h
         injection h with h
         subst h
         simp only[F5,Ty.IE,Ty.IJ]
         rw[<- ih cs q hd]
      ·exact(none' h).elim
    | int k =>
      simp only[Fa]at h
      split at h
      ·rename_i j n cs
       cases hk:A.kEq j k with
       | false=>rw[hk]at h;exact(none' h).elim
       | true =>
         rw[hk]at h
         cases hd:Fa ks cs with
         | none=>rw[hd]at h;cases h
         | some q =>
           rw[hd]at h
           injection h with h
           subst h
           simp only[F5,Ty.IE,Ty.IJ]
           rw[<- ih cs q hd,A.J3 hk]
      ·exact(none' h).elim
    | str =>
      simp only[Fa]at h
      split at h
      ·rename_i b cs
       cases hd:Fa ks cs with
       | none=>rw[hd]at h;cases h
       | some q =>
         rw[hd]at h
         injection h with h
         subst h
         simp only[F5,Ty.IE,Ty.IJ]
         rw[<- ih cs q hd]
      ·exact(none' h).elim
    | sl e t =>
      cases u with
      | false =>
        simp only[Fa]at h
        split at h
        ·rename_i l cs
         cases hc:l.cast t with
         | none=>rw[hc]at h;exact(none' h).elim
         | some xs =>
           rw[hc]at h
           dsimp only at h
           cases hd:Fa ks cs with
           | none=>rw[hd]at h;cases h
           | some q =>
             rw[hd]at h
             injection h with h
             subst h
             simp only[F5,Ty.IE,Ty.IJ]
             rw[<- ih cs q hd,Sl.Jk hc]
        ·exact(none' h).elim
      | true =>
        simp only[Fa]at h
        split at h
        ·rename_i z e' l cs
         cases he:z&&Nat.beq e' e with
         | false=>rw[he]at h;exact(none' h).elim
         | true =>
           rw[he]at h
           dsimp only[cond_true]at h
           cases hc:l.cast t with
           | none=>rw[hc]at h;exact(none' h).elim
           | some xs =>
             rw[hc]at h
             dsimp only at h
             cases hd:Fa ks cs with
             | none=>rw[hd]at h;cases h
             | some q =>
               rw[hd]at h
               injection h with h
               subst h
               simp only[F5,Ty.IE,Ty.IJ]
               rw[Bool.and_eq_true]at he
               rw[<- ih cs q hd,Sl.Jk hc,Nat.eq_of_beq_eq_true he.2,he.1]
        ·exact(none' h).elim
    | ptr =>
      simp only[Fa]at h
      split at h
      ·rename_i cs
       cases hd:Fa ks cs with
       | none=>rw[hd]at h;cases h
       | some q =>
         rw[hd]at h
         injection h with h
         subst h
         simp only[F5]
         rw[<- ih cs _ hd]
      ·exact(none' h).elim
    | fn =>
      simp only[Fa]at h
      split at h
      ·rename_i b cs
       cases hd:Fa ks cs with
       | none=>rw[hd]at h;cases h
       | some q =>
         rw[hd]at h
         injection h with h
         subst h
         simp only[F5,Ty.IE,Ty.IJ]
         rw[<- ih cs q hd]
      ·exact(none' h).elim
    | sln e t =>
      cases u with
      | false =>
        simp only[Fa]at h
        split at h
        ·rename_i l cs
         cases hc:l.cast t with
         | none=>rw[hc]at h;exact(none' h).elim
         | some xs =>
           rw[hc]at h
           dsimp only at h
           cases hd:Fa ks cs with
           | none=>rw[hd]at h;cases h
           | some q =>
             rw[hd]at h
             injection h with h
             subst h
             simp only[F5,Ty.IE,Ty.IJ]
             rw[<- ih cs q hd,Sl.Jk hc]
        ·exact(none' h).elim
      | true =>
        simp only[Fa]at h
        split at h
        ·rename_i z e' l cs
         cases he: !z&&Nat.beq e' e with
         | false=>rw[he]at h;exact(none' h).elim
         | true =>
           rw[he]at h
           dsimp only[cond_true]at h
           cases hc:l.cast t with
           | none=>rw[hc]at h;exact(none' h).elim
           | some xs =>
             rw[hc]at h
             dsimp only at h
             cases hd:Fa ks cs with
             | none=>rw[hd]at h;cases h
             | some q =>
               rw[hd]at h
               injection h with h
               subst h
               simp only[F5,Ty.IE,Ty.IJ]
               rw[Bool.and_eq_true]at he
               rw[<- ih cs q hd,Sl.Jk hc,Nat.eq_of_beq_eq_true he.2,show z=false from by simpa using he.1]
        ·exact(none' h).elim
    | mp kt vt =>
      simp only[Fa]at h
      split at h
      ·rename_i l cs
       cases hc:l.cast kt vt with
       | none=>rw[hc]at h;exact(none' h).elim
       | some xs =>
         rw[hc]at h
         dsimp only at h
         cases hd:Fa ks cs with
         | none=>rw[hd]at h;cases h
         | some q =>
           rw[hd]at h
           injection h with h
           subst h
           simp only[F5,Ty.IE,Ty.IJ]
           rw[<- ih cs q hd,Mp.Jk hc]
      ·exact(none' h).elim
    | bx t =>
      cases u with
      | false=>simp only[Fa]at h;exact(none' h).elim
      | true =>
        simp only[Fa]at h
        split at h
        ·rename_i ds cs
         cases hk:(t.mk (ds.map A.weak)).1&&ds.all A.AmP with
         | false=>rw[hk]at h;exact(none' h).elim
         | true =>
           rw[hk]at h
           rw[Bool.and_eq_true]at hk
           cases hd:Fa ks cs with
           | none=>rw[hd]at h;cases h
           | some q =>
             rw[hd]at h
             injection h with h
             subst h
             simp only[F5,Ty.IE,Ty.IJ]
             rw[<- ih cs q hd]
             congr 2
             show _=(t.cells (t.mk (ds.map A.weak)).2).map A.strong
             rw[Ty.Ny _ _ hk.1,Ald _ hk.2]
        ·exact(none' h).elim
    | oth=>simp only[Fa]at h;exact(none' h).elim
def Sh.ks:Sh->List (Bool×CK)
  | .cell u k=>[(u,k)]
  | .agg ks=>ks
  | .box ks=>ks
  | .clo _ ks=>ks
  | .map kt vt=>[(true,.mp kt vt)]
def Sh.T (s:Sh):Type:=(tyl (s.ks.map (·.2))).Val
def Sh.dec:(s:Sh)->A->Option s.T
  | .cell u k,x=>Fa [(u,k)] [x]
  | .agg ks,.agg cs=>Fa ks cs
  | .box ks,.box cs=>Fa ks cs
  | .clo f ks,.cbx g cs=>bif Nat.beq f g then Fa ks cs else none
  | .map kt vt,x=>Fa [(true,.mp kt vt)] [x]
  | _,_=>none
def Sh.enc:(s:Sh)->s.T->A
  | .cell u k,v=>(F5 [(u,k)] v).getD 0 .undef
  | .agg ks,v=>.agg (F5 ks v)
  | .box ks,v=>.box (F5 ks v)
  | .clo f ks,v=>.cbx f (F5 ks v)
  | .map kt vt,v=>(F5 [(true,.mp kt vt)] v).getD 0 .undef
theorem Sh.Aqk {s:Sh} {x:A} {v:s.T} (h:s.dec x=some v):x=s.enc v:=by
  cases s with
  | cell u k =>
    have:=XR _ _ _ (show Fa [(u,k)] [x]=some v from h)
    show x=(F5 [(u,k)] v).getD 0 .undef
    rw[<- this];rfl
  | agg ks =>
    cases x with
    | agg cs =>
      have:=XR _ _ _ (show Fa ks cs=some v from h)
      show _=A.agg (F5 ks v)
      rw[<- this]
    | _=>cases h
  | box ks =>
    cases x with
    | box cs =>
      have:=XR _ _ _ (show Fa ks cs=some v from h)
      show _=A.box (F5 ks v)
      rw[<- this]
    | _=>cases h
  | clo f ks =>
    cases x with
    | cbx g cs =>
      have h:(bif Nat.beq f g then Fa ks cs else none)=some v:=h
      cases hb:Nat.beq f g with
      | false=>rw[hb]at h;cases h
      | true =>
        rw[hb]at h
        have:=XR _ _ _ (show Fa ks cs=some v from h)
        show _=A.cbx f (F5 ks v)
        rw[<- this,Nat.eq_of_beq_eq_true hb]
    | _=>cases h
  | map kt vt =>
    have:=XR _ _ _ (show Fa [(true,.mp kt vt)] [x]=some v from h)
    show x=(F5 [(true,.mp kt vt)] v).getD 0 .undef
    rw[<- this];rfl
def prS (s:Sh) (β :Type):List Sh->Type
  | []=>s.T
  | _::_=>s.T× β
def ShT:List Sh->Type
  | []=>Unit
  | s::r=>prS s (ShT r) r
def hdS (s:Sh):(r:List Sh)->prS s (ShT r) r->s.T
  | [],v=>v
  | _::_,v=>v.1
def tlS (s:Sh):(r:List Sh)->prS s (ShT r) r->ShT r
  | [],_=>()
  | _::_,v=>v.2
def mkS (s:Sh):(r:List Sh)->s.T->ShT r->prS s (ShT r) r
  | [],a,_=>a
  | _::_,a,b=>(a,b)
theorem Arj (s:Sh) (r:List Sh) (a:s.T) (b:ShT r):hdS s r (mkS s r a b)=a:=by cases r<;>rfl
theorem Ar9 (s:Sh) (r:List Sh) (a:s.T) (b:ShT r):tlS s r (mkS s r a b)=b:=by cases r<;>rfl
def Aib (s:Sh) (r:List Sh):Option s.T->Option (ShT r)->Option (prS s (ShT r) r)
  | some a,some b=>some (mkS s r a b)
  | _,_=>none
theorem AlO {s:Sh} {r:List Sh} {x:Option s.T} {y:Option (ShT r)} {v:prS s (ShT r) r} (h:Aib s r x y=some v): ∃ a b,x=some a/\y=some b/\v=mkS s r a b:=by
  cases x with
  | none=>cases h
  | some a =>
    cases y with
    | none=>cases h
    | some b=>grind[Sh,ShT,prS,Aib,mkS]
def TS:(ss:List Sh)->List A->Option (ShT ss)
  | []=>fun
    | []=>some ()
    | _=>none
  | s::r=>fun
    | []=>none
    | x::xs=>Aib s r (s.dec x) (TS r xs)
def encs:(ss:List Sh)->ShT ss->List A
  | [],_=>[]
  | s::r,v=>s.enc (hdS s r v)::encs r (tlS s r v)
theorem AiH: ∀(ss:List Sh) (xs:List A) (v:ShT ss),TS ss xs=some v->xs=encs ss v:=by
  intro ss
  induction ss with
  | nil =>
    intro xs v h
    cases xs with
    | nil=>rfl
    | cons _ _=>cases h
  | cons s ss ih =>
    intro xs v h
    cases xs with
    | nil=>cases h
    | cons x xs =>
      obtain⟨a,b,h1,h2,h3⟩:=AlO (show Aib s ss (s.dec x) (TS ss xs)=some v from h)
      subst h3
      show _=s.enc (hdS s ss (mkS s ss a b))::encs ss (tlS s ss (mkS s ss a b))
      rw[Arj,Ar9,<- Sh.Aqk h1,<- ih xs b h2]
def Sh.zero (s:Sh):s.T:=Ty.zero _
def zeroS:(ss:List Sh)->ShT ss
  | []=>()
  | s::r=>mkS s r s.zero (zeroS r)
def FO (Dv DI:List Sh):List Sh:=DI++Dv.filterMap (fun | .box ks=>some (.agg ks) | .clo _ ks=>some (.agg ks) | .map kt vt=>some (.map kt vt) | _=>none)
def Sig.of (Dv DI:List Sh) (f:ShT Dv->Option (ShT (FO Dv DI))):Sig where
  Dv:=Dv
  DI:=DI
  ok xs:=match TS Dv xs with
    | some a=>(f a).isSome
    | none=>false
  val xs:=match TS Dv xs with
    | some a=>encs (FO Dv DI) ((f a).getD (zeroS _))
    | none=>[]
def kL (Dv DI:List Sh):List (Nat×(ShT Dv->Option (ShT (FO Dv DI))))->Nat->ShT Dv->Option (ShT (FO Dv DI))
  | [],_,_=>none
  | (f,g)::r,n,x=>bif Nat.beq n (f+1)then g x else kL Dv DI r n x
def sQ (P:Program) (Dv DI:List Sh):List (Nat×(ShT Dv->Option (ShT (FO Dv DI))))->Prop
  | []=>True
  | (f,g)::r=>Spec P f (Sig.of Dv DI g)/\sQ P Dv DI r
theorem AnM (Dv DI:List Sh): ∀(l:List (Nat×(ShT Dv->Option (ShT (FO Dv DI))))) (x:ShT Dv),kL Dv DI l 0 x=none:=by
  intro l
  induction l with
  | nil=>intro x;rfl
  | cons p r ih=>intro x;obtain⟨f,g⟩:=p;simp only[kL];exact ih x
theorem AnL {Dv DI:List Sh}: ∀ {l:List (Nat×(ShT Dv->Option (ShT (FO Dv DI))))},sQ P Dv DI l-> ∀ f,(∀ x,kL Dv DI l (f+1) x=none)\/Spec P f (Sig.of Dv DI (kL Dv DI l (f+1))):=by
  intro l
  induction l with
  | nil=>intro _ f;exact .inl fun x=>rfl
  | cons p r ih=>grind[kL,OG,Sh,ShT,FO,sQ,Spec,Sig.of]
theorem TT {Dv DI:List Sh} {l:List (Nat×(ShT Dv->Option (ShT (FO Dv DI))))} (h:sQ P Dv DI l):Px P (fun n=>Sig.of Dv DI (kL Dv DI l n)):=by
  refine⟨fun xs=> ?_,fun f xs hok=> ?_⟩
  ·show(match TS Dv xs with | some a=>(kL Dv DI l 0 a).isSome | none=>false)=false
   cases TS Dv xs with
   | none=>rfl
   | some a=>grind[AnM]
  ·rcases AnL h f with h0 | h0
   ·have hok':(match TS Dv xs with | some a=>(kL Dv DI l (f+1) a).isSome | none=>false)=true:=hok
    cases hd:TS Dv xs with
    | none=>rw[hd]at hok';cases hok'
    | some a=>simp_all[hd,Sh,ShT,FO,sQ,Px,Sig.of]
   ·exact h0
theorem Sig.iC {Dv DI:List Sh} {f:ShT Dv->Option (ShT (FO Dv DI))} {xs rs:List A} (h:(Sig.of Dv DI f).F xs=some rs): ∃ a o,xs=encs Dv a/\f a=some o/\rs=encs _ o:=by
  unfold Sig.F Sig.of at h
  dsimp only at h
  cases hd:TS Dv xs with
  | none=>rw[hd]at h;cases h
  | some a =>
    rw[hd]at h
    dsimp only at h
    cases hf:f a with
    | none=>rw[hf]at h;cases h
    | some o =>
      rw[hf]at h
      injection h with h
      exact⟨a,o,AiH _ _ _ hd,hf,h.symm⟩
def VD (C:Ctx) (Dv DI:List Sh) (outs:List (Nat×Option Nat)) (st:St):Option (ShT (FO Dv DI)) :=
  allT ((DN st.Dj DI (Ia C outs st)).1++(DN st.Dj (Dv.map IP) (IQ Dv 0)).1 ++
      [nodup ((Gs st.Dj 256000 256 DI (Ia C outs st)++Gs st.Dj 0 256 (Dv.map IP) (IQ Dv 0)).map (·.1)),!(DI.any wS||(Dv.map IP).any wS)||((DN st.Dj DI (Ia C outs st)).2.2.1.isEmpty&&(DN st.Dj (Dv.map IP) (IQ Dv 0)).2.2.1.isEmpty)]++outs.flatMap (fun q=>(Ac2 C st q).1))
    (TS _ ((DN st.Dj DI (Ia C outs st)).2.1++(ES Dv 0).map (fun i=>unbox ((DN st.Dj (Dv.map IP) (IQ Dv 0)).2.1.getD i .undef))))
theorem Aqd {α β :Type} {l:List Bool} {x:Option α} {y: α} (h:allT l x=some y) (z: β):allT l (some z)=some z:=by
  induction l with
  | nil=>rfl
  | cons c cs ih=>grind[allT]
theorem AnY {C:Ctx} {Dv DI:List Sh} {outs:List (Nat×Option Nat)} {st:St} {o:ShT (FO Dv DI)} (h:VD C Dv DI outs st=some o):finish C Dv DI outs st=some (encs _ o):=by
  unfold VD at h
  obtain⟨_,h2⟩:=MZ h
  all_goals grind[AiH,finish,Aqd]
theorem SE {ρ :Type} {fin:St->Option ρ} (hC:GV P C) (N:Nat) {f:FuncId} {fn:Func} {code:Code} {outs:List (Nat×Option Nat)} {Dv DI:List Sh} {g:ShT Dv->Option (ShT (FO Dv DI))} (hf:P.funcs[f]? =some fn) (hb:fn.body=some code) (hn:(fn.name== "runtime.NumGoroutine")=false)
    (hout:fn.results=(outs.map rv).toArray) (hF: ∀ a o,g a=some o-> ∃ r,runK C N Dv fn.ntmps code fin (encs Dv a)=some r/\ ∀ st,fin st=some r->VD C Dv DI outs st=some o):Spec P f (Sig.of Dv DI g) :=
  ⟨enters hf (by rw[hb];rfl) hn,fun _ _ _ xs rs hI hv hl h100 hx hrs=>by
    obtain⟨a,o,h1,h2,h3⟩:=Sig.iC hrs
    subst h1;subst h3
    obtain⟨r,h4,h5⟩:=hF a o h2
    exact AoB (sg:=Sig.of Dv DI g) (o:=r) hC N (fun {_} hC' {_ _ _ _ _ _} id ops _ _ _ _ _ K hS hd hx=>Aml hC' id ops K hS hd hx) hf hb hout hI hv hl h100 hx h4 (fun st h=>AnY (h5 st h))⟩
end
end Go.Proofs.YtbnphelpndnnfabGreatDoor.Vm
namespace Go.Proofs.YtbnphelpndnnfabGreatDoor.Vm
def Ea {α ρ :Type} (A:(α ->Option ρ)->Option ρ) (f: α ->Option ρ):Option ρ :=A f
def Du {ρ :Type} (b:Bool) (k:Bool->Option ρ):Option ρ :=k b
def Arm {α β :Type}:Option (α ⊕ β)->Bool
  | some (.inr _)=>false
  | _=>true
def Arf {α β :Type}:Option (α ⊕ β)->Option α
  | some (.inl x)=>some x
  | _=>none
def Arh {α β :Type}:Option (α ⊕ β)->Option β
  | some (.inr x)=>some x
  | _=>none
def Gx {α β ρ :Type} [Inhabited α] [Inhabited β] (o:Option (α ⊕ β)) (k: α ->Option ρ) (l: β ->Option ρ):Option ρ :=bif Arm o then Di (Arf o) k else Di (Arh o) l
theorem Ag2 {α β ρ :Type} [Inhabited α] [Inhabited β] (x: α) (k: α ->Option ρ) (l: β ->Option ρ):Gx (some (.inl x)) k l=k x:=rfl
def strings_Join (_:Nat) (l:List Bs) (sep:Bs):Option Bs:=bif decide (l.length<=140737488355328)&&decide ((sep.intercalate l).length<=140737488355328)then some (sep.intercalate l)else none
def U2 {a0 a1 r:Type} (f:a0->a1->r) (x:a0×a1):r:=f x.1 x.2
def U3 {a0 a1 a2 r:Type} (f:a0->a1->a2->r) (x:a0×a1×a2):r:=f x.1 x.2.1 x.2.2
def U4 {a0 a1 a2 a3 r:Type} (f:a0->a1->a2->a3->r) (x:a0×a1×a2×a3):r:=f x.1 x.2.1 x.2.2.1 x.2.2.2
def U5 {a0 a1 a2 a3 a4 r:Type} (f:a0->a1->a2->a3->a4->r) (x:a0×a1×a2×a3×a4):r:=f x.1 x.2.1 x.2.2.1 x.2.2.2.1 x.2.2.2.2
def U6 {a0 a1 a2 a3 a4 a5 r:Type} (f:a0->a1->a2->a3->a4->a5->r) (x:a0×a1×a2×a3×a4×a5):r:=f x.1 x.2.1 x.2.2.1 x.2.2.2.1 x.2.2.2.2.1 x.2.2.2.2.2
def U7 {a0 a1 a2 a3 a4 a5 a6 r:Type} (f:a0->a1->a2->a3->a4->a5->a6->r) (x:a0×a1×a2×a3×a4×a5×a6):r:=f x.1 x.2.1 x.2.2.1 x.2.2.2.1 x.2.2.2.2.1 x.2.2.2.2.2.1 x.2.2.2.2.2.2
def U8 {a0 a1 a2 a3 a4 a5 a6 a7 r:Type} (f:a0->a1->a2->a3->a4->a5->a6->a7->r) (x:a0×a1×a2×a3×a4×a5×a6×a7):r:=f x.1 x.2.1 x.2.2.1 x.2.2.2.1 x.2.2.2.2.1 x.2.2.2.2.2.1 x.2.2.2.2.2.2.1 x.2.2.2.2.2.2.2
def U11 {a0 a1 a2 a3 a4 a5 a6 a7 a8 a9 a10 r:Type} (f:a0->a1->a2->a3->a4->a5->a6->a7->a8->a9->a10->r) (x:a0×a1×a2×a3×a4×a5×a6×a7×a8×a9×a10):r:=f x.1 x.2.1 x.2.2.1 x.2.2.2.1 x.2.2.2.2.1 x.2.2.2.2.2.1 x.2.2.2.2.2.2.1 x.2.2.2.2.2.2.2.1 x.2.2.2.2.2.2.2.2.1 x.2.2.2.2.2.2.2.2.2.1 x.2.2.2.2.2.2.2.2.2.2
def U14 {a0 a1 a2 a3 a4 a5 a6 a7 a8 a9 a10 a11 a12 a13 r:Type} (f:a0->a1->a2->a3->a4->a5->a6->a7->a8->a9->a10->a11->a12->a13->r) (x:a0×a1×a2×a3×a4×a5×a6×a7×a8×a9×a10×a11×a12×a13):r:=f x.1 x.2.1 x.2.2.1 x.2.2.2.1 x.2.2.2.2.1 x.2.2.2.2.2.1 x.2.2.2.2.2.2.1 x.2.2.2.2.2.2.2.1 x.2.2.2.2.2.2.2.2.1 x.2.2.2.2.2.2.2.2.2.1 x.2.2.2.2.2.2.2.2.2.2.1 x.2.2.2.2.2.2.2.2.2.2.2.1 x.2.2.2.2.2.2.2.2.2.2.2.2.1 x.2.2.2.2.2.2.2.2.2.2.2.2.2
def U15 {a0 a1 a2 a3 a4 a5 a6 a7 a8 a9 a10 a11 a12 a13 a14 r:Type} (f:a0->a1->a2->a3->a4->a5->a6->a7->a8->a9->a10->a11->a12->a13->a14->r) (x:a0×a1×a2×a3×a4×a5×a6×a7×a8×a9×a10×a11×a12×a13×a14):r:=f x.1 x.2.1 x.2.2.1 x.2.2.2.1 x.2.2.2.2.1 x.2.2.2.2.2.1 x.2.2.2.2.2.2.1 x.2.2.2.2.2.2.2.1 x.2.2.2.2.2.2.2.2.1 x.2.2.2.2.2.2.2.2.2.1 x.2.2.2.2.2.2.2.2.2.2.1 x.2.2.2.2.2.2.2.2.2.2.2.1 x.2.2.2.2.2.2.2.2.2.2.2.2.1 x.2.2.2.2.2.2.2.2.2.2.2.2.2.1 x.2.2.2.2.2.2.2.2.2.2.2.2.2.2
def U16 {a0 a1 a2 a3 a4 a5 a6 a7 a8 a9 a10 a11 a12 a13 a14 a15 r:Type} (f:a0->a1->a2->a3->a4->a5->a6->a7->a8->a9->a10->a11->a12->a13->a14->a15->r) (x:a0×a1×a2×a3×a4×a5×a6×a7×a8×a9×a10×a11×a12×a13×a14×a15):r:=f x.1 x.2.1 x.2.2.1 x.2.2.2.1 x.2.2.2.2.1 x.2.2.2.2.2.1 x.2.2.2.2.2.2.1 x.2.2.2.2.2.2.2.1 x.2.2.2.2.2.2.2.2.1 x.2.2.2.2.2.2.2.2.2.1 x.2.2.2.2.2.2.2.2.2.2.1 x.2.2.2.2.2.2.2.2.2.2.2.1 x.2.2.2.2.2.2.2.2.2.2.2.2.1 x.2.2.2.2.2.2.2.2.2.2.2.2.2.1 x.2.2.2.2.2.2.2.2.2.2.2.2.2.2.1 x.2.2.2.2.2.2.2.2.2.2.2.2.2.2.2
def U17 {a0 a1 a2 a3 a4 a5 a6 a7 a8 a9 a10 a11 a12 a13 a14 a15 a16 r:Type} (f:a0->a1->a2->a3->a4->a5->a6->a7->a8->a9->a10->a11->a12->a13->a14->a15->a16->r) (x:a0×a1×a2×a3×a4×a5×a6×a7×a8×a9×a10×a11×a12×a13×a14×a15×a16):r:=f x.1 x.2.1 x.2.2.1 x.2.2.2.1 x.2.2.2.2.1 x.2.2.2.2.2.1 x.2.2.2.2.2.2.1 x.2.2.2.2.2.2.2.1 x.2.2.2.2.2.2.2.2.1 x.2.2.2.2.2.2.2.2.2.1 x.2.2.2.2.2.2.2.2.2.2.1 x.2.2.2.2.2.2.2.2.2.2.2.1 x.2.2.2.2.2.2.2.2.2.2.2.2.1 x.2.2.2.2.2.2.2.2.2.2.2.2.2.1 x.2.2.2.2.2.2.2.2.2.2.2.2.2.2.1 x.2.2.2.2.2.2.2.2.2.2.2.2.2.2.2.1 x.2.2.2.2.2.2.2.2.2.2.2.2.2.2.2.2
def U18 {a0 a1 a2 a3 a4 a5 a6 a7 a8 a9 a10 a11 a12 a13 a14 a15 a16 a17 r:Type} (f:a0->a1->a2->a3->a4->a5->a6->a7->a8->a9->a10->a11->a12->a13->a14->a15->a16->a17->r) (x:a0×a1×a2×a3×a4×a5×a6×a7×a8×a9×a10×a11×a12×a13×a14×a15×a16×a17):r:=f x.1 x.2.1 x.2.2.1 x.2.2.2.1 x.2.2.2.2.1 x.2.2.2.2.2.1 x.2.2.2.2.2.2.1 x.2.2.2.2.2.2.2.1 x.2.2.2.2.2.2.2.2.1 x.2.2.2.2.2.2.2.2.2.1 x.2.2.2.2.2.2.2.2.2.2.1 x.2.2.2.2.2.2.2.2.2.2.2.1 x.2.2.2.2.2.2.2.2.2.2.2.2.1 x.2.2.2.2.2.2.2.2.2.2.2.2.2.1 x.2.2.2.2.2.2.2.2.2.2.2.2.2.2.1 x.2.2.2.2.2.2.2.2.2.2.2.2.2.2.2.1 x.2.2.2.2.2.2.2.2.2.2.2.2.2.2.2.2.1 x.2.2.2.2.2.2.2.2.2.2.2.2.2.2.2.2.2
def U19 {a0 a1 a2 a3 a4 a5 a6 a7 a8 a9 a10 a11 a12 a13 a14 a15 a16 a17 a18 r:Type} (f:a0->a1->a2->a3->a4->a5->a6->a7->a8->a9->a10->a11->a12->a13->a14->a15->a16->a17->a18->r) (x:a0×a1×a2×a3×a4×a5×a6×a7×a8×a9×a10×a11×a12×a13×a14×a15×a16×a17×a18):r:=f x.1 x.2.1 x.2.2.1 x.2.2.2.1 x.2.2.2.2.1 x.2.2.2.2.2.1 x.2.2.2.2.2.2.1 x.2.2.2.2.2.2.2.1 x.2.2.2.2.2.2.2.2.1 x.2.2.2.2.2.2.2.2.2.1 x.2.2.2.2.2.2.2.2.2.2.1 x.2.2.2.2.2.2.2.2.2.2.2.1 x.2.2.2.2.2.2.2.2.2.2.2.2.1 x.2.2.2.2.2.2.2.2.2.2.2.2.2.1 x.2.2.2.2.2.2.2.2.2.2.2.2.2.2.1 x.2.2.2.2.2.2.2.2.2.2.2.2.2.2.2.1 x.2.2.2.2.2.2.2.2.2.2.2.2.2.2.2.2.1 x.2.2.2.2.2.2.2.2.2.2.2.2.2.2.2.2.2.1 x.2.2.2.2.2.2.2.2.2.2.2.2.2.2.2.2.2.2
def U20 {a0 a1 a2 a3 a4 a5 a6 a7 a8 a9 a10 a11 a12 a13 a14 a15 a16 a17 a18 a19 r:Type} (f:a0->a1->a2->a3->a4->a5->a6->a7->a8->a9->a10->a11->a12->a13->a14->a15->a16->a17->a18->a19->r) (x:a0×a1×a2×a3×a4×a5×a6×a7×a8×a9×a10×a11×a12×a13×a14×a15×a16×a17×a18×a19):r:=f x.1 x.2.1 x.2.2.1 x.2.2.2.1 x.2.2.2.2.1 x.2.2.2.2.2.1 x.2.2.2.2.2.2.1 x.2.2.2.2.2.2.2.1 x.2.2.2.2.2.2.2.2.1 x.2.2.2.2.2.2.2.2.2.1 x.2.2.2.2.2.2.2.2.2.2.1 x.2.2.2.2.2.2.2.2.2.2.2.1 x.2.2.2.2.2.2.2.2.2.2.2.2.1 x.2.2.2.2.2.2.2.2.2.2.2.2.2.1 x.2.2.2.2.2.2.2.2.2.2.2.2.2.2.1 x.2.2.2.2.2.2.2.2.2.2.2.2.2.2.2.1 x.2.2.2.2.2.2.2.2.2.2.2.2.2.2.2.2.1 x.2.2.2.2.2.2.2.2.2.2.2.2.2.2.2.2.2.1 x.2.2.2.2.2.2.2.2.2.2.2.2.2.2.2.2.2.2.1 x.2.2.2.2.2.2.2.2.2.2.2.2.2.2.2.2.2.2.2
def U21 {a0 a1 a2 a3 a4 a5 a6 a7 a8 a9 a10 a11 a12 a13 a14 a15 a16 a17 a18 a19 a20 r:Type} (f:a0->a1->a2->a3->a4->a5->a6->a7->a8->a9->a10->a11->a12->a13->a14->a15->a16->a17->a18->a19->a20->r) (x:a0×a1×a2×a3×a4×a5×a6×a7×a8×a9×a10×a11×a12×a13×a14×a15×a16×a17×a18×a19×a20):r:=f x.1 x.2.1 x.2.2.1 x.2.2.2.1 x.2.2.2.2.1 x.2.2.2.2.2.1 x.2.2.2.2.2.2.1 x.2.2.2.2.2.2.2.1 x.2.2.2.2.2.2.2.2.1 x.2.2.2.2.2.2.2.2.2.1 x.2.2.2.2.2.2.2.2.2.2.1 x.2.2.2.2.2.2.2.2.2.2.2.1 x.2.2.2.2.2.2.2.2.2.2.2.2.1 x.2.2.2.2.2.2.2.2.2.2.2.2.2.1 x.2.2.2.2.2.2.2.2.2.2.2.2.2.2.1 x.2.2.2.2.2.2.2.2.2.2.2.2.2.2.2.1 x.2.2.2.2.2.2.2.2.2.2.2.2.2.2.2.2.1 x.2.2.2.2.2.2.2.2.2.2.2.2.2.2.2.2.2.1 x.2.2.2.2.2.2.2.2.2.2.2.2.2.2.2.2.2.2.1 x.2.2.2.2.2.2.2.2.2.2.2.2.2.2.2.2.2.2.2.1 x.2.2.2.2.2.2.2.2.2.2.2.2.2.2.2.2.2.2.2.2
def U22 {a0 a1 a2 a3 a4 a5 a6 a7 a8 a9 a10 a11 a12 a13 a14 a15 a16 a17 a18 a19 a20 a21 r:Type} (f:a0->a1->a2->a3->a4->a5->a6->a7->a8->a9->a10->a11->a12->a13->a14->a15->a16->a17->a18->a19->a20->a21->r) (x:a0×a1×a2×a3×a4×a5×a6×a7×a8×a9×a10×a11×a12×a13×a14×a15×a16×a17×a18×a19×a20×a21):r:=f x.1 x.2.1 x.2.2.1 x.2.2.2.1 x.2.2.2.2.1 x.2.2.2.2.2.1 x.2.2.2.2.2.2.1 x.2.2.2.2.2.2.2.1 x.2.2.2.2.2.2.2.2.1 x.2.2.2.2.2.2.2.2.2.1 x.2.2.2.2.2.2.2.2.2.2.1 x.2.2.2.2.2.2.2.2.2.2.2.1 x.2.2.2.2.2.2.2.2.2.2.2.2.1 x.2.2.2.2.2.2.2.2.2.2.2.2.2.1 x.2.2.2.2.2.2.2.2.2.2.2.2.2.2.1 x.2.2.2.2.2.2.2.2.2.2.2.2.2.2.2.1 x.2.2.2.2.2.2.2.2.2.2.2.2.2.2.2.2.1 x.2.2.2.2.2.2.2.2.2.2.2.2.2.2.2.2.2.1 x.2.2.2.2.2.2.2.2.2.2.2.2.2.2.2.2.2.2.1 x.2.2.2.2.2.2.2.2.2.2.2.2.2.2.2.2.2.2.2.1 x.2.2.2.2.2.2.2.2.2.2.2.2.2.2.2.2.2.2.2.2.1 x.2.2.2.2.2.2.2.2.2.2.2.2.2.2.2.2.2.2.2.2.2
def U23 {a0 a1 a2 a3 a4 a5 a6 a7 a8 a9 a10 a11 a12 a13 a14 a15 a16 a17 a18 a19 a20 a21 a22 r:Type} (f:a0->a1->a2->a3->a4->a5->a6->a7->a8->a9->a10->a11->a12->a13->a14->a15->a16->a17->a18->a19->a20->a21->a22->r) (x:a0×a1×a2×a3×a4×a5×a6×a7×a8×a9×a10×a11×a12×a13×a14×a15×a16×a17×a18×a19×a20×a21×a22):r:=f x.1 x.2.1 x.2.2.1 x.2.2.2.1 x.2.2.2.2.1 x.2.2.2.2.2.1 x.2.2.2.2.2.2.1 x.2.2.2.2.2.2.2.1 x.2.2.2.2.2.2.2.2.1 x.2.2.2.2.2.2.2.2.2.1 x.2.2.2.2.2.2.2.2.2.2.1 x.2.2.2.2.2.2.2.2.2.2.2.1 x.2.2.2.2.2.2.2.2.2.2.2.2.1 x.2.2.2.2.2.2.2.2.2.2.2.2.2.1 x.2.2.2.2.2.2.2.2.2.2.2.2.2.2.1 x.2.2.2.2.2.2.2.2.2.2.2.2.2.2.2.1 x.2.2.2.2.2.2.2.2.2.2.2.2.2.2.2.2.1 x.2.2.2.2.2.2.2.2.2.2.2.2.2.2.2.2.2.1 x.2.2.2.2.2.2.2.2.2.2.2.2.2.2.2.2.2.2.1 x.2.2.2.2.2.2.2.2.2.2.2.2.2.2.2.2.2.2.2.1 x.2.2.2.2.2.2.2.2.2.2.2.2.2.2.2.2.2.2.2.2.1 x.2.2.2.2.2.2.2.2.2.2.2.2.2.2.2.2.2.2.2.2.2.1 x.2.2.2.2.2.2.2.2.2.2.2.2.2.2.2.2.2.2.2.2.2.2
def U29 {a0 a1 a2 a3 a4 a5 a6 a7 a8 a9 a10 a11 a12 a13 a14 a15 a16 a17 a18 a19 a20 a21 a22 a23 a24 a25 a26 a27 a28 r:Type} (f:a0->a1->a2->a3->a4->a5->a6->a7->a8->a9->a10->a11->a12->a13->a14->a15->a16->a17->a18->a19->a20->a21->a22->a23->a24->a25->a26->a27->a28->r) (x:a0×a1×a2×a3×a4×a5×a6×a7×a8×a9×a10×a11×a12×a13×a14×a15×a16×a17×a18×a19×a20×a21×a22×a23×a24×a25×a26×a27×a28):r:=f x.1 x.2.1 x.2.2.1 x.2.2.2.1 x.2.2.2.2.1 x.2.2.2.2.2.1 x.2.2.2.2.2.2.1 x.2.2.2.2.2.2.2.1 x.2.2.2.2.2.2.2.2.1 x.2.2.2.2.2.2.2.2.2.1 x.2.2.2.2.2.2.2.2.2.2.1 x.2.2.2.2.2.2.2.2.2.2.2.1 x.2.2.2.2.2.2.2.2.2.2.2.2.1 x.2.2.2.2.2.2.2.2.2.2.2.2.2.1 x.2.2.2.2.2.2.2.2.2.2.2.2.2.2.1 x.2.2.2.2.2.2.2.2.2.2.2.2.2.2.2.1 x.2.2.2.2.2.2.2.2.2.2.2.2.2.2.2.2.1 x.2.2.2.2.2.2.2.2.2.2.2.2.2.2.2.2.2.1 x.2.2.2.2.2.2.2.2.2.2.2.2.2.2.2.2.2.2.1 x.2.2.2.2.2.2.2.2.2.2.2.2.2.2.2.2.2.2.2.1 x.2.2.2.2.2.2.2.2.2.2.2.2.2.2.2.2.2.2.2.2.1 x.2.2.2.2.2.2.2.2.2.2.2.2.2.2.2.2.2.2.2.2.2.1 x.2.2.2.2.2.2.2.2.2.2.2.2.2.2.2.2.2.2.2.2.2.2.1 x.2.2.2.2.2.2.2.2.2.2.2.2.2.2.2.2.2.2.2.2.2.2.2.1 x.2.2.2.2.2.2.2.2.2.2.2.2.2.2.2.2.2.2.2.2.2.2.2.2.1 x.2.2.2.2.2.2.2.2.2.2.2.2.2.2.2.2.2.2.2.2.2.2.2.2.2.1 x.2.2.2.2.2.2.2.2.2.2.2.2.2.2.2.2.2.2.2.2.2.2.2.2.2.2.1 x.2.2.2.2.2.2.2.2.2.2.2.2.2.2.2.2.2.2.2.2.2.2.2.2.2.2.2.1 x.2.2.2.2.2.2.2.2.2.2.2.2.2.2.2.2.2.2.2.2.2.2.2.2.2.2.2.2
abbrev CW {a b c d e:Type} (x:a×b×c×d×e):e:=x.2.2.2.2
abbrev CX {a b c d e f g h i:Type} (x:a×b×c×d×e×f×g×h×i):i:=x.2.2.2.2.2.2.2.2
abbrev CY {a b c d e f g h i j k l m:Type} (x:a×b×c×d×e×f×g×h×i×j×k×l×m):m:=x.2.2.2.2.2.2.2.2.2.2.2.2
abbrev CZ {a b c d e f g h i j k l m n o p q:Type} (x:a×b×c×d×e×f×g×h×i×j×k×l×m×n×o×p×q):q:=x.2.2.2.2.2.2.2.2.2.2.2.2.2.2.2.2
abbrev Dc {a b c d e f g h i j k l m n o p q r s t u:Type} (x:a×b×c×d×e×f×g×h×i×j×k×l×m×n×o×p×q×r×s×t×u):u:=x.2.2.2.2.2.2.2.2.2.2.2.2.2.2.2.2.2.2.2.2
abbrev Df {a b c d e f g h i j k l m n o p q r s t u v w x y:Type} (x:a×b×c×d×e×f×g×h×i×j×k×l×m×n×o×p×q×r×s×t×u×v×w×x×y):y:=x.2.2.2.2.2.2.2.2.2.2.2.2.2.2.2.2.2.2.2.2.2.2.2.2
abbrev Dh {a b c d e f g h i j k l m n o p q r s t u v w x y z A B C:Type} (x:a×b×c×d×e×f×g×h×i×j×k×l×m×n×o×p×q×r×s×t×u×v×w×x×y×z×A×B×C):C:=x.2.2.2.2.2.2.2.2.2.2.2.2.2.2.2.2.2.2.2.2.2.2.2.2.2.2.2.2
abbrev Aa {ρ:Type} (b:Bool) (k:Option ρ):Option ρ:=chk (b||!b) k
abbrev Ac {ρ:Type} (b:Bool) (k:Option ρ):Option ρ:=Aa b (Aa b k)
abbrev Ad {ρ:Type} (b:Bool) (k:Option ρ):Option ρ:=Aa b (Ac b k)
abbrev Ae {ρ:Type} (b:Bool) (k:Option ρ):Option ρ:=Aa b (Ad b k)
abbrev Af {ρ:Type} (b:Bool) (k:Option ρ):Option ρ:=Aa b (Ae b k)
abbrev Ag {ρ:Type} (b:Bool) (k:Option ρ):Option ρ:=Aa b (Af b k)
abbrev Ah {ρ:Type} (b:Bool) (k:Option ρ):Option ρ:=chk (bif b then b else true) (chk (bif b then true else true) k)
abbrev Ai {ρ:Type} (b:Bool) (k:Option ρ):Option ρ:=chk (bif b then true else !b) (chk (bif b then true else true) k)
abbrev Aj {ρ:Type} (i:Int) (n:Nat) (k:Option ρ):Option ρ:=chk (decide (0<=i)) (chk (decide (i<(n:Int))) k)
abbrev Ak {ρ:Type} (p:Prop) [Decidable p] (k:Option ρ):Option ρ:=chk (decide p) k
abbrev Am {ρ:Type} (n:Nat) (k:Option ρ):Option ρ:=chk (decide (n<=140737488355328)) k
open Go.RowKit
theorem Below.moves {O:Own} {T:Nat->Prop} {w w':World} (h:Below w.heap.size w w'):Moves O T w w':=⟨h.os,h.tape,h.output,h.size,fun b hb=>.inl (h.block b hb)⟩
noncomputable def JX (e N:Nat):Sig:=.of [.cell false (.sl e (.str .nil)),.cell false .str] [.cell false .str] (fun a=>strings_Join N a.1 a.2)
theorem jO {O:Own} {w:World} {v:Value} {s:List UInt8} (h:D6 O w v (.str s)):v= .string ⟨s.toArray⟩:=by
  cases h with
  | str s=>exact congrArg Value.string (by rw[Array.toArray_toList])
theorem WQ {O:Own} {w w':World} {vs:Array Value} {e N:Nat} {s:List UInt8} (hb:Below w.heap.size w w'):Came O w vs (JX e N) [.str s] (.string ⟨s.toArray⟩) O w':=by
  refine⟨Below.moves hb,fun b k _ h=>h,fun b k _ h=>h,rfl,⟨#[.string ⟨s.toArray⟩],rfl,rfl,fun k hk=> ?_⟩,fun j i hj=> ?_⟩
  ·have hk0:k=0:=by simp at hk;omega
   subst hk0
   show D6 O w' (.string ⟨s.toArray⟩) (.str s)
   exact D6.str (O:=O) (w:=w') ⟨s.toArray⟩
  ·exact absurd hj (by show(ES [.cell false (.sl e (.str .nil)),.cell false .str] 0)[j]? ≠some i;simp [ES,Eo])
def Ais (P:Program) (f:FuncId):Prop :=
    (∀(a:Option Addr) (c:Nat) (sep:ByteArray) (w:World),Calls P f #[.slice a 0 c,.string sep] w fun e w'=>e= .returned (.string ⟨#[]⟩)/\w'=w) /\
    (∀(bk o c:Nat) (xs:List ByteArray) (sep:ByteArray) (w:World),(∀(j:Nat) x,xs[j]? =some x->w.cell? ⟨bk,o+j,none⟩=some (.string x))->bk<w.heap.size->xs.length<=140737488355328->xs.length<=c->(Lib.join (xs.map (·.data.toList)) sep.data.toList).length<=140737488355328 ->
      Calls P f #[.slice (some ⟨bk,o,none⟩) xs.length c,.string sep] w fun e w'=>e= .returned (.string ⟨(Lib.join (xs.map (·.data.toList)) sep.data.toList).toArray⟩)/\Below w.heap.size w w')
theorem AcL {P:Program} {f:FuncId} {e N:Nat} (H:Ais P f) {O:Own} {w:World} {vs:Array Value} (l:List Bs) (sep o:Bs) (hl2:vs.size=2) (hx0:D6 O w (vs.getD 0 undef) (.sl ⟨.str .nil,l⟩)) (hx1:D6 O w (vs.getD 1 undef) (.str sep)) (h2':strings_Join N l sep=some o) :
    Calls P f vs w fun e' w'=> ∃ v O',e'= .returned v/\Came O w vs (JX e N) [.str o] v O' w':=by
  obtain⟨hn,hj⟩:=H
  have hvs:vs= #[vs.getD 0 undef,vs.getD 1 undef]:=by
    apply Array.ext
    ·simpa using hl2
    ·intro i h1 h2
     have:i=0\/i=1:=by simp at h2;omega
     rcases this with rfl | rfl
     ·simp [Array.getD_eq_getD_getElem?,h1]
     ·simp [Array.getD_eq_getD_getElem?,h1]
  rw[jO hx1]at hvs
  unfold strings_Join at h2'
  cases hc:(decide (l.length<=140737488355328)&&decide ((sep.intercalate l).length<=140737488355328))with
  | false=>rw[hc]at h2';cases h2'
  | true =>
    rw[hc]at h2'
    injection h2' with h2'
    rw[Bool.and_eq_true,decide_eq_true_eq,decide_eq_true_eq]at hc
    subst h2'
    have hes0:(⟨.str .nil,l⟩:Sl).es=l.map (fun s:Bs=>[A.str s]):=rfl
    generalize hv0:vs.getD 0 undef=v0 at *
    have hnil:l=[]-> ∀ a c,v0= .slice a 0 c->Calls P f vs w fun e' w'=> ∃ v O',e'= .returned v/\Came O w vs (JX e N) [.str (sep.intercalate l)] v O' w':=by
      intro hl0 a c hv0'
      have:=hn a c ⟨sep.toArray⟩ w
      rw[<- hv0',<- hvs]at this
      refine this.mono fun e' w' hq=> ?_
      obtain⟨h4,h5⟩:=hq
      subst h5
      refine⟨_,O,h4,?_⟩
      have:sep.intercalate l=[]:=by rw[hl0];rfl
      rw[this]
      exact WQ (Below.refl _ _)
    have hsz:(⟨.str .nil,l⟩:Sl).sz=1:=rfl
    generalize hL:(⟨.str .nil,l⟩:Sl)=L at hx0 hes0 hsz
    have hlen:L.es.length=l.length:=by rw[hes0,List.length_map]
    have hes: ∀ j:Nat,L.es[j]? =(l[j]?).map (fun s=>[A.str s]):=fun j=>by rw[hes0,List.getElem?_map]
    cases hx0 with
    | nil t =>
      have:l=[]:=by injection hL with h1 h2;subst h1;exact eq_of_heq h2
      exact hnil this _ _ rfl
    | sl0 ad t =>
      have:l=[]:=by injection hL with h1 h2;subst h1;exact eq_of_heq h2
      exact hnil this _ _ rfl
    | @sl b off cap l' vs' hcap hm hr =>
      cases hl0:l with
      | nil=>rw[<- hl0];exact hnil hl0 _ cap (by rw[hlen,hl0];rfl)
      | cons s0 r =>
        have hb:b<w.heap.size:=by
          have:=(hm 0 0 (by rw[hlen,hl0];simp) (by omega)).2
          exact cell_lt this
        rw[<- hl0]
        have hmap:(l.map (fun s=>(⟨s.toArray⟩:ByteArray))).map (·.data.toList)=l:=by
          rw[List.map_map]
          conv=>rhs;rw[<- List.map_id l]
          refine List.map_congr_left fun s _=> ?_
          simp
        have hJ:=hj b off cap (l.map (fun s=>(⟨s.toArray⟩:ByteArray))) ⟨sep.toArray⟩ w (fun j x hjx=>by
          rw[List.getElem?_map]at hjx
          cases hlj:l[j]? with
          | none=>rw[hlj]at hjx;cases hjx
          | some s =>
            rw[hlj]at hjx
            injection hjx with hjx
            have hjl:j<L.es.length:=by
              rw[hlen]
              rcases Nat.lt_or_ge j l.length with h | h
              ·exact h
              ·rw[List.getElem?_eq_none h]at hlj;cases hlj
            have hm1:=(hm j 0 hjl (by omega)).2
            have hr1:=hr j 0 hjl (by omega)
            rw[List.getD_eq_getElem?_getD (l:=L.es),hes,hlj]at hr1
            have:=jO (show D6 O w (vs' j 0) (.str s)from hr1)
            rw[this]at hm1;rw[<- hjx]
            have e1:off+(j*L.sz+0)=off+j:=by rw[hsz];omega
            rw[e1]at hm1
            exact hm1) hb (by rw[List.length_map];exact hc.1) (by rw[List.length_map,<- hlen];exact hcap) (by rw[hmap];show(List.intercalate _ l).length<=_;simpa using hc.2)
        rw[List.length_map,hmap,<- hlen,<- hvs]at hJ
        refine hJ.mono fun e' w' hq=> ?_
        have e2:Lib.join l (⟨sep.toArray⟩:ByteArray).data.toList=sep.intercalate l:=by show List.intercalate _ l=_;simp
        rw[e2]at hq
        exact⟨_,O,hq.1,WQ hq.2⟩
theorem AeL {P:Program} {f:FuncId} {e N:Nat} (hent: ∀ args w,(callFunc f args).run P w= .ok (.enter f args) w) (H:Ais P f):Spec P f (JX e N):=by
  refine⟨hent,fun O w vs xs rs _ hv hl _ hx hrs=> ?_⟩
  obtain⟨a,o,h1,h2,h3⟩:=Sig.iC hrs
  subst h1
  have h3':rs=[.str o]:=h3
  rw[h3']
  exact AcL H a.1 a.2 o hv (hx 0 (by show 0<2;omega)) (hx 1 (by show 1<2;omega)) h2
end Go.Proofs.YtbnphelpndnnfabGreatDoor.Vm
namespace Go.Proofs
open Go.Shelf
def Tryz.lays156_ren:Go.Shelf.Ren:=⟨fun | 156=>163 | 165=>228 | 166=>229 | 169=>230 | 240=>329 | 241=>330 | 276=>382 | 277=>383 | n=>n,fun | 31=>35 | 9=>9 | 3=>3 | 4=>4 | 0=>0 | 20=>20 | 72=>291 | 76=>295 | 70=>289 | 37=>125 | 75=>294 | 127=>343 | 164=>365 | 5=>5 | 80=>166 | n=>n,fun | n=>n⟩
theorem Tryz.lays156:Go.Proofs.Lays.n156 Tryz.prog Tryz.lays156_ren:= {
  mixed:=by kernel_rfl
  f156:=Tryz.func163.trans (congrArg some (by kernel_rfl))
  f165:=Tryz.func228.trans (congrArg some (by kernel_rfl))
  f166:=Tryz.func229.trans (congrArg some (by kernel_rfl))
  f169:=Tryz.func230.trans (congrArg some (by kernel_rfl))
  f240:=Tryz.func329.trans (congrArg some (by kernel_rfl))
  f241:=Tryz.func330.trans (congrArg some (by kernel_rfl))
  f276:=Tryz.func382.trans (congrArg some (by kernel_rfl))
  f277:=Tryz.func383.trans (congrArg some (by kernel_rfl))
  t0:=Tryz.underlying0
  a0:=Tryz.isAgg0
  z0:=Tryz.sizeOf0
  v0:=Tryz.zeroValue0
  t3:=Tryz.underlying3
  a3:=Tryz.isAgg3
  z3:=Tryz.sizeOf3
  v3:=Tryz.zeroValue3
  t4:=Tryz.underlying4
  a4:=Tryz.isAgg4
  z4:=Tryz.sizeOf4
  v4:=Tryz.zeroValue4
  t9:=Tryz.underlying9
  a9:=Tryz.isAgg9
  z9:=Tryz.sizeOf9
  v9:=Tryz.zeroValue9
  t20:=Tryz.underlying20
  a20:=Tryz.isAgg20
  z20:=Tryz.sizeOf20
  v20:=Tryz.zeroValue20
  t31:=Tryz.underlying35
  a31:=Tryz.isAgg35
  z31:=Tryz.sizeOf35
  v31:=Tryz.zeroValue35
  t37:=Tryz.underlying125
  a37:=Tryz.isAgg125
  z37:=Tryz.sizeOf125
  v37:=Tryz.zeroValue125
  t70:=Tryz.underlying289
  a70:=Tryz.isAgg289
  z70:=Tryz.sizeOf289
  v70:=Tryz.zeroValue289
  t72:=Tryz.underlying291
  a72:=Tryz.isAgg291
  z72:=Tryz.sizeOf291
  v72:=Tryz.zeroValue291
  t75:=Tryz.underlying294
  a75:=Tryz.isAgg294
  z75:=Tryz.sizeOf294
  v75:=Tryz.zeroValue294
  t76:=Tryz.underlying295
  a76:=Tryz.isAgg295
  z76:=Tryz.sizeOf295
  v76:=Tryz.zeroValue295
  t127:=Tryz.underlying343
  a127:=Tryz.isAgg343
  z127:=Tryz.sizeOf343
  v127:=Tryz.zeroValue343
  t164:=Tryz.underlying365
  a164:=Tryz.isAgg365
  z164:=Tryz.sizeOf365
  v164:=Tryz.zeroValue365}
theorem Tryz.Builder_Extra_156:Builder.Extra Tryz.prog Tryz.lays156_ren:= {
  sizeBuilder:=by kernel_rfl
  liesBuilder:=by kernel_rfl
  t5:=Tryz.underlying5
  a5:=Tryz.isAgg5
  z5:=Tryz.sizeOf5
  v5:=Tryz.zeroValue5
  infoByte:=by kernel_rfl
  cellsByte:=by kernel_rfl
  sizeByte:=by kernel_rfl
  neB5:=by decide}
open Go.RowKit in
theorem Tryz.strings_Join_none (a:Option Addr) (c:Nat) (sep:ByteArray) (w:World) :
    Calls Tryz.prog 163 #[.slice a 0 c,.string sep] w fun e w'=>e= .returned (.string ⟨#[]⟩)/\w'=w:=Any.strings_Join_none Tryz.lays156 Tryz.Builder_Extra_156 a c sep w
open Go.RowKit in
theorem Tryz.strings_Join (bk o c:Nat) (xs:List ByteArray) (sep:ByteArray) (w:World) (hcells: ∀(j:Nat) x,xs[j]? =some x->w.cell? ⟨bk,o+j,none⟩=some (.string x)) (hbk:bk<w.heap.size) (hN:xs.length<=140737488355328) (hcap:xs.length<=c) (hlen:(Lib.join (xs.map (·.data.toList)) sep.data.toList).length<=140737488355328) :
    Calls Tryz.prog 163 #[.slice (some ⟨bk,o,none⟩) xs.length c,.string sep] w fun e w'=>e= .returned (.string ⟨(Lib.join (xs.map (·.data.toList)) sep.data.toList).toArray⟩)/\Below w.heap.size w w':=Any.strings_Join Tryz.lays156 Tryz.Builder_Extra_156 bk o c xs sep w hcells hbk hN hcap hlen
def Tryz.AkF:Go.Shelf.Ren:=⟨fun | 137=>314 | 217=>377 | 266=>404 | n=>n,fun | 9=>9 | 5=>5 | 3=>3 | n=>n,fun | n=>n⟩
theorem Tryz.lays137:Go.Proofs.Lays.n137 Tryz.prog Tryz.AkF:= {
  mixed:=by kernel_rfl
  f137:=Tryz.func314.trans (congrArg some (by kernel_rfl))
  f217:=Tryz.func377.trans (congrArg some (by kernel_rfl))
  f266:=Tryz.func404.trans (congrArg some (by kernel_rfl))
  t3:=Tryz.underlying3
  a3:=Tryz.isAgg3
  z3:=Tryz.sizeOf3
  v3:=Tryz.zeroValue3
  t5:=Tryz.underlying5
  a5:=Tryz.isAgg5
  z5:=Tryz.sizeOf5
  v5:=Tryz.zeroValue5
  t9:=Tryz.underlying9
  a9:=Tryz.isAgg9
  z9:=Tryz.sizeOf9
  v9:=Tryz.zeroValue9}
open Go.RowKit in
theorem Tryz.strings_IndexByte (s:ByteArray) (c:Int) (w:World) :
    Calls Tryz.prog 314 #[.string s,.int .u8 c] w fun e w'=>e= .returned (.int .i64 (Lib.indexByte s.data.toList c.toNat.toUInt8))/\w'=w:=Any.strings_IndexByte Tryz.lays137 s c w
def Tryz.AkE:Go.Shelf.Ren:=⟨fun | 103=>391 | 210=>413 | 206=>411 | n=>n,fun | 9=>9 | 4=>4 | 24=>374 | 3=>3 | n=>n,fun | n=>n⟩
theorem Tryz.Aqv:Go.Proofs.Lays.n103 Tryz.prog Tryz.AkE:= {
  mixed:=by kernel_rfl
  f103:=Tryz.func391.trans (congrArg some (by kernel_rfl))
  f206:=Tryz.func411.trans (congrArg some (by kernel_rfl))
  f210:=Tryz.func413.trans (congrArg some (by kernel_rfl))
  t3:=Tryz.underlying3
  a3:=Tryz.isAgg3
  z3:=Tryz.sizeOf3
  v3:=Tryz.zeroValue3
  t4:=Tryz.underlying4
  a4:=Tryz.isAgg4
  z4:=Tryz.sizeOf4
  v4:=Tryz.zeroValue4
  t9:=Tryz.underlying9
  a9:=Tryz.isAgg9
  z9:=Tryz.sizeOf9
  v9:=Tryz.zeroValue9
  t24:=Tryz.underlying374
  a24:=Tryz.isAgg374
  z24:=Tryz.sizeOf374
  v24:=Tryz.zeroValue374}
open Go.RowKit in
theorem Tryz.strings_CutPrefix (s p:ByteArray) (w:World) :
    Calls Tryz.prog 391 #[.string s,.string p] w fun e w'=>e= .returned (.tuple #[.string ⟨(Lib.trimPrefix s.data.toList p.data.toList).toArray⟩,.bool (Lib.hasPrefix s.data.toList p.data.toList)])/\w'=w:=Any.strings_CutPrefix Tryz.Aqv s p w
def Tryz.Ajq:Go.Shelf.Ren:=⟨fun | 171=>238 | 243=>331 | 246=>384 | 283=>407 | 284=>408 | 285=>409 | 286=>410 | 129=>424 | 317=>430 | 318=>431 | 319=>432 | 320=>433 | 337=>442 | 338=>443 | n=>n,fun | 3=>3 | 9=>9 | 2=>2 | 4=>4 | 171=>383 | 0=>0 | 53=>281 | 37=>125 | 5=>5 | 173=>386 | 212=>401 | 51=>340 | 20=>20 | 213=>402 | 46=>238 | 232=>415 | 233=>416 | n=>n,fun | 17=>2 | 18=>5 | 19=>6 | n=>n⟩
theorem Tryz.laysM171:Go.Proofs.LaysM.n171 Tryz.prog Tryz.Ajq:= {
  mixed:=by kernel_rfl
  f129:=Tryz.func424.trans (congrArg some (by kernel_rfl))
  f171:=Tryz.func238.trans (congrArg some (by kernel_rfl))
  f243:=Tryz.func331.trans (congrArg some (by kernel_rfl))
  f246:=Tryz.func384.trans (congrArg some (by kernel_rfl))
  f283:=Tryz.func407.trans (congrArg some (by kernel_rfl))
  f284:=Tryz.func408.trans (congrArg some (by kernel_rfl))
  f285:=Tryz.func409.trans (congrArg some (by kernel_rfl))
  f286:=Tryz.func410.trans (congrArg some (by kernel_rfl))
  f317:=Tryz.func430.trans (congrArg some (by kernel_rfl))
  f318:=Tryz.func431.trans (congrArg some (by kernel_rfl))
  f319:=Tryz.func432.trans (congrArg some (by kernel_rfl))
  f320:=Tryz.func433.trans (congrArg some (by kernel_rfl))
  f337:=Tryz.func442.trans (congrArg some (by kernel_rfl))
  f338:=Tryz.func443.trans (congrArg some (by kernel_rfl))
  t0:=Tryz.underlying0
  a0:=Tryz.isAgg0
  z0:=Tryz.sizeOf0
  v0:=Tryz.zeroValue0
  t2:=Tryz.underlying2
  a2:=Tryz.isAgg2
  z2:=Tryz.sizeOf2
  v2:=Tryz.zeroValue2
  t3:=Tryz.underlying3
  a3:=Tryz.isAgg3
  z3:=Tryz.sizeOf3
  v3:=Tryz.zeroValue3
  t4:=Tryz.underlying4
  a4:=Tryz.isAgg4
  z4:=Tryz.sizeOf4
  v4:=Tryz.zeroValue4
  t5:=Tryz.underlying5
  a5:=Tryz.isAgg5
  z5:=Tryz.sizeOf5
  v5:=Tryz.zeroValue5
  t9:=Tryz.underlying9
  a9:=Tryz.isAgg9
  z9:=Tryz.sizeOf9
  v9:=Tryz.zeroValue9
  t20:=Tryz.underlying20
  a20:=Tryz.isAgg20
  z20:=Tryz.sizeOf20
  v20:=Tryz.zeroValue20
  t37:=Tryz.underlying125
  a37:=Tryz.isAgg125
  z37:=Tryz.sizeOf125
  v37:=Tryz.zeroValue125
  t46:=Tryz.underlying238
  a46:=Tryz.isAgg238
  z46:=Tryz.sizeOf238
  v46:=Tryz.zeroValue238
  t51:=Tryz.underlying340
  a51:=Tryz.isAgg340
  z51:=Tryz.sizeOf340
  v51:=Tryz.zeroValue340
  t53:=Tryz.underlying281
  a53:=Tryz.isAgg281
  z53:=Tryz.sizeOf281
  v53:=Tryz.zeroValue281
  t171:=Tryz.underlying383
  a171:=Tryz.isAgg383
  z171:=Tryz.sizeOf383
  v171:=Tryz.zeroValue383
  t173:=Tryz.underlying386
  a173:=Tryz.isAgg386
  z173:=Tryz.sizeOf386
  v173:=Tryz.zeroValue386
  t212:=Tryz.underlying401
  a212:=Tryz.isAgg401
  z212:=Tryz.sizeOf401
  v212:=Tryz.zeroValue401
  t213:=Tryz.underlying402
  a213:=Tryz.isAgg402
  z213:=Tryz.sizeOf402
  t232:=Tryz.underlying415
  a232:=Tryz.isAgg415
  z232:=Tryz.sizeOf415
  v232:=Tryz.zeroValue415
  t233:=Tryz.underlying416
  a233:=Tryz.isAgg416
  z233:=Tryz.sizeOf416
  v233:=Tryz.zeroValue416
  g17:=by kernel_rfl
  g18:=by kernel_rfl
  g19:=by kernel_rfl
  i0:=by kernel_rfl
  i2:=by kernel_rfl
  i3:=by kernel_rfl
  i4:=by kernel_rfl
  i5:=by kernel_rfl
  i9:=by kernel_rfl
  i20:=by kernel_rfl
  i37:=by kernel_rfl
  i46:=by kernel_rfl
  i51:=by kernel_rfl
  i53:=by kernel_rfl
  i171:=by kernel_rfl
  i173:=by kernel_rfl
  i212:=by kernel_rfl
  i232:=by kernel_rfl
  i233:=by kernel_rfl
  m17:=by kernel_rfl
  m18:=by kernel_rfl
  m19:=by kernel_rfl}
open Go.RowKit Go.Sort Go.Lib in
theorem Tryz.strconv_Itoa (n:Int) (h0: -9223372036854775808<=n) (h1:n<=9223372036854775807) (w:World) (htab:Lib.TabIs Tryz.prog w "internal/strconv.uint64pow10" .u64 Lib.pow10Tab) :
    Calls Tryz.prog 238 #[.int .i64 n] w fun e w'=>e= .returned (.string ⟨(Lib.itoa n).toArray⟩)/\ ∃ k os,w'=grow (w.drewN k) os:=Any.strconv_Itoa Tryz.laysM171 n h0 h1 w htab
def Tryz.AkG:Go.Shelf.Ren:=⟨fun | 144=>311 | 143=>376 | 219=>375 | 217=>377 | 225=>401 | 224=>402 | 267=>403 | 266=>404 | 314=>426 | n=>n,fun | 9=>9 | 4=>4 | 3=>3 | 5=>5 | 46=>238 | 146=>396 | 51=>340 | n=>n,fun | 1=>1 | n=>n⟩
theorem Tryz.lays144:Go.Proofs.Lays.n144 Tryz.prog Tryz.AkG:= {
  mixed:=by kernel_rfl
  f143:=Tryz.func376.trans (congrArg some (by kernel_rfl))
  f144:=Tryz.func311.trans (congrArg some (by kernel_rfl))
  f217:=Tryz.func377.trans (congrArg some (by kernel_rfl))
  f219:=Tryz.func375.trans (congrArg some (by kernel_rfl))
  f224:=Tryz.func402.trans (congrArg some (by kernel_rfl))
  f225:=Tryz.func401.trans (congrArg some (by kernel_rfl))
  f266:=Tryz.func404.trans (congrArg some (by kernel_rfl))
  f267:=Tryz.func403.trans (congrArg some (by kernel_rfl))
  f314:=Tryz.func426.trans (congrArg some (by kernel_rfl))
  t3:=Tryz.underlying3
  a3:=Tryz.isAgg3
  z3:=Tryz.sizeOf3
  v3:=Tryz.zeroValue3
  t4:=Tryz.underlying4
  a4:=Tryz.isAgg4
  z4:=Tryz.sizeOf4
  v4:=Tryz.zeroValue4
  t5:=Tryz.underlying5
  a5:=Tryz.isAgg5
  z5:=Tryz.sizeOf5
  v5:=Tryz.zeroValue5
  t9:=Tryz.underlying9
  a9:=Tryz.isAgg9
  z9:=Tryz.sizeOf9
  v9:=Tryz.zeroValue9
  t46:=Tryz.underlying238
  a46:=Tryz.isAgg238
  z46:=Tryz.sizeOf238
  v46:=Tryz.zeroValue238
  t51:=Tryz.underlying340
  a51:=Tryz.isAgg340
  z51:=Tryz.sizeOf340
  v51:=Tryz.zeroValue340
  t146:=Tryz.underlying396
  a146:=Tryz.isAgg396
  z146:=Tryz.sizeOf396
  v146:=Tryz.zeroValue396
  g1:=by kernel_rfl}
open Go.RowKit Go.Lib in
theorem Tryz.strings_Contains (s sub:ByteArray) (m:Int) (w:World) (hs:s.size<4294967281) (hm:w.cell? ⟨1,0,none⟩=some (.int .i64 m)) :
    Calls Tryz.prog 311 #[.string s,.string sub] w fun e w'=>e= .returned (.bool (Lib.contains s.data.toList sub.data.toList))/\w'=w:=Any.strings_Contains Tryz.lays144 s sub m w hs hm
def Tryz.AkH:Go.Shelf.Ren:=⟨fun | 145=>216 | 220=>310 | 219=>375 | 217=>377 | 225=>401 | 224=>402 | 267=>403 | 266=>404 | 314=>426 | n=>n,fun | 9=>9 | 4=>4 | 59=>283 | 3=>3 | 5=>5 | 46=>238 | 146=>396 | 51=>340 | n=>n,fun | 1=>1 | n=>n⟩
theorem Tryz.lays145:Go.Proofs.Lays.n145 Tryz.prog Tryz.AkH:= {
  mixed:=by kernel_rfl
  f145:=Tryz.func216.trans (congrArg some (by kernel_rfl))
  f217:=Tryz.func377.trans (congrArg some (by kernel_rfl))
  f219:=Tryz.func375.trans (congrArg some (by kernel_rfl))
  f220:=Tryz.func310.trans (congrArg some (by kernel_rfl))
  f224:=Tryz.func402.trans (congrArg some (by kernel_rfl))
  f225:=Tryz.func401.trans (congrArg some (by kernel_rfl))
  f266:=Tryz.func404.trans (congrArg some (by kernel_rfl))
  f267:=Tryz.func403.trans (congrArg some (by kernel_rfl))
  f314:=Tryz.func426.trans (congrArg some (by kernel_rfl))
  t3:=Tryz.underlying3
  a3:=Tryz.isAgg3
  z3:=Tryz.sizeOf3
  v3:=Tryz.zeroValue3
  t4:=Tryz.underlying4
  a4:=Tryz.isAgg4
  z4:=Tryz.sizeOf4
  v4:=Tryz.zeroValue4
  t5:=Tryz.underlying5
  a5:=Tryz.isAgg5
  z5:=Tryz.sizeOf5
  v5:=Tryz.zeroValue5
  t9:=Tryz.underlying9
  a9:=Tryz.isAgg9
  z9:=Tryz.sizeOf9
  v9:=Tryz.zeroValue9
  t46:=Tryz.underlying238
  a46:=Tryz.isAgg238
  z46:=Tryz.sizeOf238
  v46:=Tryz.zeroValue238
  t51:=Tryz.underlying340
  a51:=Tryz.isAgg340
  z51:=Tryz.sizeOf340
  v51:=Tryz.zeroValue340
  t59:=Tryz.underlying283
  a59:=Tryz.isAgg283
  z59:=Tryz.sizeOf283
  v59:=Tryz.zeroValue283
  t146:=Tryz.underlying396
  a146:=Tryz.isAgg396
  z146:=Tryz.sizeOf396
  v146:=Tryz.zeroValue396
  g1:=by kernel_rfl}
open Go.RowKit Go.Lib in
theorem Tryz.strings_Cut (s sep:ByteArray) (m:Int) (w:World) (hs:s.size<4294967281) (hm:w.cell? ⟨1,0,none⟩=some (.int .i64 m)) :
    Calls Tryz.prog 216 #[.string s,.string sep] w fun e w'=>e= .returned (.tuple #[.string ⟨(Lib.cut s.data.toList sep.data.toList).1.toArray⟩,.string ⟨(Lib.cut s.data.toList sep.data.toList).2.1.toArray⟩,.bool (Lib.cut s.data.toList sep.data.toList).2.2])/\ ∃ n,w'=w.drewN n:=Any.strings_Cut Tryz.lays145 s sep m w hs hm
def Tryz.lays192_ren:Go.Shelf.Ren:=⟨fun | 192=>295 | 190=>360 | 125=>395 | 258=>394 | 128=>423 | 129=>424 | 302=>414 | 303=>415 | 304=>416 | 305=>417 | 306=>418 | 307=>419 | 308=>420 | 309=>421 | 310=>422 | 333=>434 | 329=>435 | 330=>436 | 334=>437 | 335=>438 | 336=>439 | 344=>444 | n=>n,fun | 31=>35 | 0=>0 | 9=>9 | 3=>3 | 46=>238 | 51=>340 | 53=>281 | 4=>4 | 183=>390 | 182=>389 | 131=>85 | 5=>5 | 218=>403 | 222=>349 | 228=>408 | 229=>409 | n=>n,fun | n=>n⟩
theorem Tryz.lays192:Go.Proofs.Lays.n192 Tryz.prog Tryz.lays192_ren:= {
  mixed:=by kernel_rfl
  f125:=Tryz.func395.trans (congrArg some (by kernel_rfl))
  f128:=Tryz.func423.trans (congrArg some (by kernel_rfl))
  f129:=Tryz.func424.trans (congrArg some (by kernel_rfl))
  f190:=Tryz.func360.trans (congrArg some (by kernel_rfl))
  f192:=Tryz.func295.trans (congrArg some (by kernel_rfl))
  f258:=Tryz.func394.trans (congrArg some (by kernel_rfl))
  f302:=Tryz.func414.trans (congrArg some (by kernel_rfl))
  f303:=Tryz.func415.trans (congrArg some (by kernel_rfl))
  f304:=Tryz.func416.trans (congrArg some (by kernel_rfl))
  f305:=Tryz.func417.trans (congrArg some (by kernel_rfl))
  f306:=Tryz.func418.trans (congrArg some (by kernel_rfl))
  f307:=Tryz.func419.trans (congrArg some (by kernel_rfl))
  f308:=Tryz.func420.trans (congrArg some (by kernel_rfl))
  f309:=Tryz.func421.trans (congrArg some (by kernel_rfl))
  f310:=Tryz.func422.trans (congrArg some (by kernel_rfl))
  f329:=Tryz.func435.trans (congrArg some (by kernel_rfl))
  f330:=Tryz.func436.trans (congrArg some (by kernel_rfl))
  f333:=Tryz.func434.trans (congrArg some (by kernel_rfl))
  f334:=Tryz.func437.trans (congrArg some (by kernel_rfl))
  f335:=Tryz.func438.trans (congrArg some (by kernel_rfl))
  f336:=Tryz.func439.trans (congrArg some (by kernel_rfl))
  f344:=Tryz.func444.trans (congrArg some (by kernel_rfl))
  t0:=Tryz.underlying0
  a0:=Tryz.isAgg0
  z0:=Tryz.sizeOf0
  v0:=Tryz.zeroValue0
  t3:=Tryz.underlying3
  a3:=Tryz.isAgg3
  z3:=Tryz.sizeOf3
  v3:=Tryz.zeroValue3
  t4:=Tryz.underlying4
  a4:=Tryz.isAgg4
  z4:=Tryz.sizeOf4
  v4:=Tryz.zeroValue4
  t5:=Tryz.underlying5
  a5:=Tryz.isAgg5
  z5:=Tryz.sizeOf5
  v5:=Tryz.zeroValue5
  t9:=Tryz.underlying9
  a9:=Tryz.isAgg9
  z9:=Tryz.sizeOf9
  v9:=Tryz.zeroValue9
  t31:=Tryz.underlying35
  a31:=Tryz.isAgg35
  z31:=Tryz.sizeOf35
  v31:=Tryz.zeroValue35
  t46:=Tryz.underlying238
  a46:=Tryz.isAgg238
  z46:=Tryz.sizeOf238
  v46:=Tryz.zeroValue238
  t51:=Tryz.underlying340
  a51:=Tryz.isAgg340
  z51:=Tryz.sizeOf340
  v51:=Tryz.zeroValue340
  t53:=Tryz.underlying281
  a53:=Tryz.isAgg281
  z53:=Tryz.sizeOf281
  v53:=Tryz.zeroValue281
  t131:=Tryz.underlying85
  a131:=Tryz.isAgg85
  z131:=Tryz.sizeOf85
  v131:=Tryz.zeroValue85
  t182:=Tryz.underlying389
  a182:=Tryz.isAgg389
  z182:=Tryz.sizeOf389
  v182:=Tryz.zeroValue389
  t183:=Tryz.underlying390
  a183:=Tryz.isAgg390
  z183:=Tryz.sizeOf390
  v183:=Tryz.zeroValue390
  t218:=Tryz.underlying403
  a218:=Tryz.isAgg403
  z218:=Tryz.sizeOf403
  v218:=Tryz.zeroValue403
  t222:=Tryz.underlying349
  a222:=Tryz.isAgg349
  z222:=Tryz.sizeOf349
  v222:=Tryz.zeroValue349
  t228:=Tryz.underlying408
  a228:=Tryz.isAgg408
  z228:=Tryz.sizeOf408
  v228:=Tryz.zeroValue408
  t229:=Tryz.underlying409
  a229:=Tryz.isAgg409
  z229:=Tryz.sizeOf409
  v229:=Tryz.zeroValue409}
open Go.Sort Go.RowKit in
theorem Tryz.sort_Strings (blk off cap:Nat) (ss:List (List UInt8)) (w:World) (hH:Holds encStr w blk off ss.toArray) (hblk:blk<w.heap.size) (hsz:ss.length<4611686018427387904) :
    Calls Tryz.prog 295 #[.slice (some ⟨blk,off,none⟩) ss.length cap] w fun e w' =>
      e= .returned (.tuple #[])/\ ∃ n os,w'=grow (putRow encStr (Sort.ahead w n) blk off (ss.mergeSort fun x y=>decide (x<=y)).toArray) os:=Any.sort_Strings Tryz.lays192 blk off cap ss w hH hblk hsz
def Tryz.lays99_ren:Go.Shelf.Ren:=⟨fun | 99=>385 | 206=>411 | n=>n,fun | 9=>9 | 4=>4 | 3=>3 | n=>n,fun | n=>n⟩
theorem Tryz.lays99:Go.Proofs.Lays.n99 Tryz.prog Tryz.lays99_ren:= {
  mixed:=by kernel_rfl
  f99:=Tryz.func385.trans (congrArg some (by kernel_rfl))
  f206:=Tryz.func411.trans (congrArg some (by kernel_rfl))
  t3:=Tryz.underlying3
  a3:=Tryz.isAgg3
  z3:=Tryz.sizeOf3
  v3:=Tryz.zeroValue3
  t4:=Tryz.underlying4
  a4:=Tryz.isAgg4
  z4:=Tryz.sizeOf4
  v4:=Tryz.zeroValue4
  t9:=Tryz.underlying9
  a9:=Tryz.isAgg9
  z9:=Tryz.sizeOf9
  v9:=Tryz.zeroValue9}
open Go.RowKit Go.Lib in
theorem Tryz.strings_HasPrefix (s p:ByteArray) (w:World) :
    Calls Tryz.prog 385 #[.string s,.string p] w fun e w'=>e= .returned (.bool (Lib.hasPrefix s.data.toList p.data.toList))/\w'=w:=Any.strings_HasPrefix Tryz.lays99 s p w
def Tryz.lays101_ren:Go.Shelf.Ren:=⟨fun | 101=>390 | 208=>412 | 206=>411 | n=>n,fun | 9=>9 | 4=>4 | 3=>3 | n=>n,fun | n=>n⟩
theorem Tryz.lays101:Go.Proofs.Lays.n101 Tryz.prog Tryz.lays101_ren:= {
  mixed:=by kernel_rfl
  f101:=Tryz.func390.trans (congrArg some (by kernel_rfl))
  f206:=Tryz.func411.trans (congrArg some (by kernel_rfl))
  f208:=Tryz.func412.trans (congrArg some (by kernel_rfl))
  t3:=Tryz.underlying3
  a3:=Tryz.isAgg3
  z3:=Tryz.sizeOf3
  v3:=Tryz.zeroValue3
  t4:=Tryz.underlying4
  a4:=Tryz.isAgg4
  z4:=Tryz.sizeOf4
  v4:=Tryz.zeroValue4
  t9:=Tryz.underlying9
  a9:=Tryz.isAgg9
  z9:=Tryz.sizeOf9
  v9:=Tryz.zeroValue9}
open Go.RowKit Go.Lib in
theorem Tryz.strings_TrimPrefix (s p:ByteArray) (w:World) :
    Calls Tryz.prog 390 #[.string s,.string p] w fun e w'=>e= .returned (.string ⟨(Lib.trimPrefix s.data.toList p.data.toList).toArray⟩)/\w'=w:=Any.strings_TrimPrefix Tryz.lays101 s p w
def Tryz.lays146_ren:Go.Shelf.Ren:=⟨fun | 146=>315 | 221=>378 | 268=>405 | 138=>406 | 143=>376 | 195=>427 | 197=>428 | 218=>429 | 219=>375 | 260=>441 | 217=>377 | 225=>401 | 224=>402 | 267=>403 | 266=>404 | 314=>426 | n=>n,fun | 9=>9 | 31=>35 | 3=>3 | 4=>4 | 0=>0 | 105=>398 | 21=>21 | 5=>5 | 46=>238 | 119=>411 | 139=>414 | 138=>413 | 146=>396 | 51=>340 | n=>n,fun | 1=>1 | 3=>3 | 4=>4 | n=>n⟩
theorem Tryz.lays146:Go.Proofs.Lays.n146 Tryz.prog Tryz.lays146_ren:= {
  mixed:=by kernel_rfl
  f138:=Tryz.func406.trans (congrArg some (by kernel_rfl))
  f143:=Tryz.func376.trans (congrArg some (by kernel_rfl))
  f146:=Tryz.func315.trans (congrArg some (by kernel_rfl))
  f195:=Tryz.func427.trans (congrArg some (by kernel_rfl))
  f197:=Tryz.func428.trans (congrArg some (by kernel_rfl))
  f217:=Tryz.func377.trans (congrArg some (by kernel_rfl))
  f218:=Tryz.func429.trans (congrArg some (by kernel_rfl))
  f219:=Tryz.func375.trans (congrArg some (by kernel_rfl))
  f221:=Tryz.func378.trans (congrArg some (by kernel_rfl))
  f224:=Tryz.func402.trans (congrArg some (by kernel_rfl))
  f225:=Tryz.func401.trans (congrArg some (by kernel_rfl))
  f260:=Tryz.func441.trans (congrArg some (by kernel_rfl))
  f266:=Tryz.func404.trans (congrArg some (by kernel_rfl))
  f267:=Tryz.func403.trans (congrArg some (by kernel_rfl))
  f268:=Tryz.func405.trans (congrArg some (by kernel_rfl))
  f314:=Tryz.func426.trans (congrArg some (by kernel_rfl))
  t0:=Tryz.underlying0
  a0:=Tryz.isAgg0
  z0:=Tryz.sizeOf0
  v0:=Tryz.zeroValue0
  t3:=Tryz.underlying3
  a3:=Tryz.isAgg3
  z3:=Tryz.sizeOf3
  v3:=Tryz.zeroValue3
  t4:=Tryz.underlying4
  a4:=Tryz.isAgg4
  z4:=Tryz.sizeOf4
  v4:=Tryz.zeroValue4
  t5:=Tryz.underlying5
  a5:=Tryz.isAgg5
  z5:=Tryz.sizeOf5
  v5:=Tryz.zeroValue5
  t9:=Tryz.underlying9
  a9:=Tryz.isAgg9
  z9:=Tryz.sizeOf9
  v9:=Tryz.zeroValue9
  t21:=Tryz.underlying21
  a21:=Tryz.isAgg21
  z21:=Tryz.sizeOf21
  v21:=Tryz.zeroValue21
  t31:=Tryz.underlying35
  a31:=Tryz.isAgg35
  z31:=Tryz.sizeOf35
  v31:=Tryz.zeroValue35
  t46:=Tryz.underlying238
  a46:=Tryz.isAgg238
  z46:=Tryz.sizeOf238
  v46:=Tryz.zeroValue238
  t51:=Tryz.underlying340
  a51:=Tryz.isAgg340
  z51:=Tryz.sizeOf340
  v51:=Tryz.zeroValue340
  t105:=Tryz.underlying398
  a105:=Tryz.isAgg398
  z105:=Tryz.sizeOf398
  v105:=Tryz.zeroValue398
  t119:=Tryz.underlying411
  a119:=Tryz.isAgg411
  z119:=Tryz.sizeOf411
  t138:=Tryz.underlying413
  a138:=Tryz.isAgg413
  z138:=Tryz.sizeOf413
  v138:=Tryz.zeroValue413
  t139:=Tryz.underlying414
  a139:=Tryz.isAgg414
  z139:=Tryz.sizeOf414
  v139:=Tryz.zeroValue414
  t146:=Tryz.underlying396
  a146:=Tryz.isAgg396
  z146:=Tryz.sizeOf396
  v146:=Tryz.zeroValue396
  g1:=by kernel_rfl
  g3:=by kernel_rfl
  g4:=by kernel_rfl}
open Go.RowKit Go.Lib in
theorem Tryz.strings_Split (s sep:ByteArray) (m:Int) (w:World) (hs:s.size<4294967281) (hm:w.cell? ⟨1,0,none⟩=some (.int .i64 m)) (h1:1<=sep.size) :
    Calls Tryz.prog 315 #[.string s,.string sep] w fun e w' =>
      e= .returned (.slice (some ⟨w.heap.size,0,none⟩) (Lib.countB s sep+1) (Lib.countB s sep+1))/\w'=w.alloc (.cells ((Lib.splitB sep 0 (Lib.countB s sep) s).map Value.string).toArray 9):=Any.strings_Split Tryz.lays146 (by kernel_rfl) s sep m w hs hm h1
end Go.Proofs
namespace Go.Proofs.YtbnphelpndnnfabGreatDoor.Vm
open Go.Proofs
noncomputable def Ue (N:Nat):Sig:=JX 9 N
theorem WR (N:Nat):Spec Tryz.prog 163 (Ue N) :=
  AeL (enters (fn:=Tryz.f163) (by kernel_rfl) (by kernel_rfl) (by decide)) ⟨Tryz.strings_Join_none,Tryz.strings_Join⟩
open Go.RowKit
def CK.flat:CK->Bool | .bool=>true | .int _=>true | .str=>true | _=>false
def Sh.flat:Sh->Bool | .cell false k=>k.flat | _=>false
def A.flat:A->Bool | .bool _=>true | .int _ _=>true | .str _=>true | _=>false
def rvA:A->Value | .bool b=>.bool b | .int k n=>.int k n | .str s=>.string ⟨s.toArray⟩ | _=>undef
theorem Aqq {O:Own} {w:World} {id:Nat} {v:Value} {x:A} (hf:x.flat=true) (h:IR O w id v x):v=rvA x:=by
  cases x with
  | bool b=>have h':D6 O w v (.bool b):=h;cases h';rfl
  | int k n=>have h':D6 O w v (.int k n):=h;cases h';rfl
  | str s=>exact jO (show D6 O w v (.str s)from h)
  | _=>cases hf
theorem Aq3 {O:Own} {w:World} {id:Nat} {x:A} (hf:x.flat=true):IR O w id (rvA x) x:=by
  cases x with
  | bool b=>exact D6.bool b
  | int k n=>exact D6.int k n
  | str s=>exact D6.str (O:=O) (w:=w) ⟨s.toArray⟩
  | _=>cases hf
theorem Sh.Apd {s:Sh} (h:s.flat=true) (v:s.T):(s.enc v).flat=true:=by
  cases s with
  | cell u k=>cases u<;>cases k<;>first | (cases h;done) | rfl
  | _=>cases h
theorem vX: ∀(ss:List Sh) (v:ShT ss),ss.all Sh.flat=true->(encs ss v).all A.flat=true:=by
  intro ss
  induction ss with
  | nil=>intro v _;rfl
  | cons s r ih =>
    intro v h
    rw[List.all_cons,Bool.and_eq_true]at h
    show((s.enc _).flat&&(encs r _).all A.flat)=true
    rw[Sh.Apd h.1,ih _ h.2];rfl
theorem Ape: ∀(ss:List Sh) (v:ShT ss),(encs ss v).length=ss.length:=by
  intro ss
  induction ss with
  | nil=>intro v;rfl
  | cons s r ih=>intro v;show(encs r _).length+1=_;rw[ih];rfl
theorem Ada: ∀(ss:List Sh) (i:Nat),ss.all Sh.flat=true->ES ss i=[]:=by
  intro ss
  induction ss with
  | nil=>intro i _;rfl
  | cons s r ih =>
    intro i h
    rw[List.all_cons,Bool.and_eq_true]at h
    unfold ES
    have:Eo s=false:=by cases s<;>first | rfl | (cases h.1;done)
    rw[this]
    exact ih _ h.2
theorem Ao3 (Dv DI:List Sh) (h:Dv.all Sh.flat=true):FO Dv DI=DI:=by
  unfold FO
  rw[List.filterMap_eq_nil_iff.2 (fun s hs=> ?_),List.append_nil]
  have:=List.all_eq_true.1 h s hs
  cases s<;>first | rfl | (cases this;done)
theorem AgF {l:List A} (h:l.all A.flat=true) {j:Nat} (hj:j<l.length):(l.getD j .undef).flat=true:=by
  rw[List.getD_eq_getElem?_getD,List.getElem?_eq_getElem hj]
  exact List.all_eq_true.1 h _ (List.getElem_mem hj)
theorem Abh (l:List A) (j:Nat) (hj:j<l.length):((l.map rvA).toArray).getD j undef=rvA (l.getD j .undef):=by
  simp [Array.getD_eq_getD_getElem?,List.getD_eq_getElem?_getD,hj]
theorem An5 {O:Own} {w w':World} {vs:Array Value} {sg:Sig} {rs:List A} (hp:sg.Dv.all Sh.flat=true) (hl:rs.length=sg.DI.length) (hf:rs.all A.flat=true) (hb:Below w.heap.size w w'):Came O w vs sg rs (Akm (rs.map rvA).toArray) O w':=by
  have hix:ES sg.Dv 0=[]:=Ada _ _ hp
  refine⟨Below.moves hb,fun b k _ h=>h,fun b k _ h=>h,by rw[hix,hl];rfl,⟨(rs.map rvA).toArray,by simp [hl],rfl,fun k hk=> ?_⟩,fun j i hj=> ?_⟩
  ·have hk':k<rs.length:=by simpa using hk
   rw[Abh rs k hk']
   exact Aq3 (AgF hf hk')
  ·rw[hix]at hj;cases hj
theorem Agy {O:Own} {w:World} {vs:Array Value} {xs:List A} (hf:xs.all A.flat=true) (hv:vs.size=xs.length) (hx: ∀ j,j<xs.length->IR O w (256*j) (vs.getD j undef) (xs.getD j .undef)):vs=(xs.map rvA).toArray:=by
  apply Array.ext
  ·simp [hv]
  ·intro i h1 h2
   have hi:i<xs.length:=by omega
   have:=Aqq (AgF hf hi) (hx i hi)
   rw[<- Abh xs i hi]at this
   simp only[Array.getD_eq_getD_getElem?,Array.getElem?_eq_getElem h1,Array.getElem?_eq_getElem h2,Option.getD_some]at this
   exact this
theorem Akw (w:World) (k:Nat) (os:Array Go.Obj):Below w.heap.size w (Go.Sort.grow (w.drewN k) os) :=
  ⟨rfl,rfl,rfl,by show _<=(w.heap++os).size;simp,fun i hi=>by show(w.heap++os)[i]? =_;rw[Array.getElem?_append_left hi]⟩
theorem PW {P:Program} {f:FuncId} {Dv DI:List Sh} {g:ShT Dv->Option (ShT (FO Dv DI))} (hp:Dv.all Sh.flat=true) (hr:DI.all Sh.flat=true) (hent: ∀ args w,(callFunc f args).run P w= .ok (.enter f args) w)
    (H: ∀(O:Own) (w:World) (a:ShT Dv) (o:ShT (FO Dv DI)),Inv O w->g a=some o->Calls P f ((encs Dv a).map rvA).toArray w fun e w'=>e= .returned (Akm ((encs (FO Dv DI) o).map rvA).toArray)/\Below w.heap.size w w'):Spec P f (Sig.of Dv DI g):=by
  refine⟨hent,fun O w vs xs rs hI hv hl _ hx hrs=> ?_⟩
  obtain⟨a,o,h1,h2,h3⟩:=Sig.iC hrs
  subst h1
  have hvs:=Agy (vX Dv a hp) hv hx
  rw[hvs]
  refine(H O w a o hI h2).mono fun e w' hq=> ?_
  obtain⟨he,hb⟩:=hq
  subst h3
  have ho:FO Dv DI=DI:=Ao3 Dv DI hp
  refine⟨_,O,he,An5 (sg:=Sig.of Dv DI g) hp ?_ ?_ hb⟩
  ·rw[Ape,ho];rfl
  ·exact vX _ _ (by rw[ho];exact hr)
def strings_Split (_:Nat) (s sep:Bs):Option (List Bs):=bif decide (s.length<4294967281)&&decide (1<=sep.length)then some (Lib.split s sep)else none
def strings_IndexByte (_:Nat) (s:Bs) (c:Int):Option Int:=some (Lib.indexByte s c.toNat.toUInt8)
def strings_Cut (_:Nat) (s sep:Bs):Option (Bs×Bs×Bool):=bif decide (s.length<4294967281)then some (Lib.cut s sep)else none
def strings_CutPrefix (_:Nat) (s p:Bs):Option (Bs×Bool):=some (Lib.trimPrefix s p,Lib.hasPrefix s p)
def strings_TrimPrefix (_:Nat) (s p:Bs):Option Bs:=some (Lib.trimPrefix s p)
def strings_HasPrefix (_:Nat) (s p:Bs):Option Bool:=some (Lib.hasPrefix s p)
def strings_Contains (_:Nat) (s p:Bs):Option Bool:=bif decide (s.length<4294967281)then some (Lib.contains s p)else none
def strconv_Itoa (_:Nat) (n:Int):Option Bs:=bif decide (-9223372036854775808<=n)&&decide (n<=9223372036854775807)then some (Lib.itoa n)else none
def AjE (l:List Bs):Bs:=(l.mergeSort fun x y=>decide (x<=y)).flatten
def Vs (_:Nat) (l:List Bs):Option Bs:=bif decide (0<l.length)&&(decide (l.length<=1099511627776)&&decide (l.flatten.length<=140737488355328))then some (AjE l)else none
def Q9 (s:ByteArray):Nat->Nat->Bool
  | 0,_=>true
  | n+1,i=>if i<s.size then
     let d:=Utf8.decode s i
     if d.1<32\/d.1=127 then false
     else if d.1=65533/\Lib.hasPrefix (s.data.toList.drop i) [239,191,189]=false then false
     else Q9 s n (i+d.2)
    else true
def ArD (s:Bs):Bool:=Q9 ⟨s.toArray⟩ s.length 0
def Akj (_:Nat) (s:Bs):Option Bool:=bif decide (s.length<4294967281)then some (ArD s)else none
open Go.Proofs Go.RowKit
noncomputable def NI (N:Nat):Sig:=.of [.cell false .str,.cell false .str] [.cell false .bool] (fun a=>strings_Contains N a.1 a.2)
theorem Q8 (N:Nat):Spec Tryz.prog 311 (NI N) :=
  PW rfl rfl (enters (fn:=Tryz.f311) (by kernel_rfl) (by kernel_rfl) (by decide)) fun O w (a:Bs×Bs) (o:Bool) hI h=>by
   obtain⟨s,c⟩:=a
   have h:(bif decide (List.length s<4294967281)then some (Lib.contains s c)else none)=some o:=h
   cases hc:decide (List.length s<4294967281)with
   | false=>rw[hc]at h;cases h
   | true =>
   rw[hc]at h
   injection h with h
   subst h
   have hs:=of_decide_eq_true hc
   obtain⟨_,v,hm,m,rfl⟩:=hI.1 1 0 _ rfl
   refine(Tryz.strings_Contains ⟨List.toArray s⟩ ⟨List.toArray c⟩ m w hs hm).mono fun e w' hq=> ?_
   obtain⟨h1,h2⟩:=hq
   subst h2
   exact⟨h1,Below.refl _ _⟩
noncomputable def Tv (N:Nat):Sig:=.of [.cell false .str,.cell false .str] [.cell false .str,.cell false .bool] (fun a=>strings_CutPrefix N a.1 a.2)
theorem cZ (N:Nat):Spec Tryz.prog 391 (Tv N) :=
  PW rfl rfl (enters (fn:=Tryz.f391) (by kernel_rfl) (by kernel_rfl) (by decide)) fun O w (a:Bs×Bs) (o:Bs×Bool) hI h=>by
   obtain⟨s,c⟩:=a
   have h:some ((Lib.trimPrefix s c,Lib.hasPrefix s c))=some o:=h
   injection h with h
   subst h
   refine(Tryz.strings_CutPrefix ⟨List.toArray s⟩ ⟨List.toArray c⟩ w).mono fun e w' hq=> ?_
   obtain⟨h1,h2⟩:=hq
   subst h2
   exact⟨h1,Below.refl _ _⟩
