/-
  CertextCheck: the law returns true whatever the input; machine, functions, plain law (part 20 of 47.)
-/
import Derived.Test.YtadefjgbcapakaaGreatDoorA19
import Derived.OwnWalk
import Derived.Lib.Join
import Derived.Below
set_option linter.unusedVariables false
set_option linter.unusedSimpArgs false
namespace Go.Proofs.YtadefjgbcapakaaGreatDoor.Vm
open Classical
section
variable {P:Program} {C:Ctx}
def Aec:List (Nat×Sig)→Nat→Option Sig
  | [],_=>none
  | (k,x)::r,t=>bif Nat.beq k t then some x else Aec r t
theorem Aki: ∀ {l:List (Nat×Sig)} {t:Nat} {x:Sig},Aec l t=some x→(t,x)∈l:=by
  intro l
  induction l with
  | nil=>intro t x h;cases h
  | cons p r ih =>
    intro t x h
    obtain⟨k,y⟩:=p
    simp only[Aec,KZ]at h
    by_cases hk:k=t
    ·simp only[hk,decide_true,cond_true,Option.some.injEq]at h
     rw[hk,h];exact List.mem_cons_self
    ·rw[show decide (k=t)=false by simpa using hk]at h
     exact List.mem_cons_of_mem _ (ih h)
def AmB:List (Nat×Nrm)→Nat→Option Nrm
  | [],_=>none
  | (k,x)::r,t=>bif Nat.beq k t then some x else AmB r t
def AdS:List (Nat×Alt)→Nat→Option Alt
  | [],_=>none
  | (k,x)::r,t=>bif Nat.beq k t then some x else AdS r t
def AdZ:List (Nat×(Nat→Sig))→Nat→Option (Nat→Sig)
  | [],_=>none
  | (k,x)::r,t=>bif Nat.beq k t then some x else AdZ r t
def ctx (P:Program) (gs:List (Nat×Sig)) (ns:List (Nat×Nrm)) (aa:List (Nat×Alt):=[]) (dd:List (Nat×(Nat→Sig)):=[]) (cc:List Nat:=[]) (bb:List Nat:=[]):Ctx:=⟨Aj1 P,Aec gs,AmB ns,AdS aa,AdZ dd,cc,bb⟩
def lY (P:Program) (F:Nat→Sig):Prop:=(∀ xs,(F 0).ok xs=false)∧ ∀ f xs,(F (f+1)).ok xs=true→Spec P f (F (f+1))
def AhD (P:Program):List (Nat×(Nat→Sig))→Prop
  | []=>True
  | (_,F)::r=>lY P F∧AhD P r
theorem AhD.look: ∀ {l:List (Nat×(Nat→Sig))},AhD P l→ ∀ t F,AdZ l t=some F→lY P F:=by
  intro l
  induction l with
  | nil=>intro _ t F h;cases h
  | cons p r ih =>
    intro h t F hF
    obtain⟨k,x⟩:=p
    simp only[AdZ,KZ]at hF
    by_cases hk:k=t
    ·simp only[hk,decide_true,cond_true,Option.some.injEq]at hF
     rw[← hF];exact h.1
    ·rw[show decide (k=t)=false by simpa using hk]at hF
     exact ih h.2 t F hF
def AhC (P:Program):List (Nat×Alt)→Prop
  | []=>True
  | (f,q)::r=>(Spec P f q.1∧Spec P f q.2.1)∧AhC P r
theorem AhC.look: ∀ {l:List (Nat×Alt)},AhC P l→ ∀ f q,AdS l f=some q→Spec P f q.1∧Spec P f q.2.1:=by
  intro l
  induction l with
  | nil=>intro _ f q h;cases h
  | cons p r ih =>
    intro h f q hq
    obtain⟨k,x⟩:=p
    simp only[AdS,KZ]at hq
    by_cases hk:k=f
    ·simp only[hk,decide_true,cond_true,Option.some.injEq]at hq
     rw[← hq, ←hk];exact h.1
    ·rw[show decide (k=f)=false by simpa using hk]at hq
     exact ih h.2 f q hq
def AdQ (P:Program):List (Nat×Sig)→Prop
  | []=>True
  | (f,sg)::r=>Spec P f sg∧AdQ P r
theorem AdQ.mem: ∀ {l:List (Nat×Sig)},AdQ P l→ ∀ p∈l,Spec P p.1 p.2:=by
  intro l
  induction l with
  | nil=>intro _ p hp;cases hp
  | cons q r ih =>
    intro h p hp
    rcases List.mem_cons.1 hp with rfl | hp
    ·exact h.1
    ·exact ih h.2 p hp
theorem Ag {gs:List (Nat×Sig)} {ns:List (Nat×Nrm)} {aa:List (Nat×Alt)} {dd:List (Nat×(Nat→Sig))} {cc bb:List Nat} (hG:AdQ P gs) (hA:AhC P aa:=by trivial) (hD:AhD P dd:=by trivial):Jq P (ctx P gs ns aa dd cc bb) :=
  ⟨fun _ _ h=>h,fun _ _ h=>hG.mem _ (Aki h),hA.look,hD.look⟩
theorem enters {f:FuncId} {fn:Func} (hf:P.funcs[f]? =some fn) (hb:fn.body.isNone=false) (hn:(fn.name== "runtime.NumGoroutine")=false) (args:Array Value) (w:World):(callFunc f args).run P w= .ok (.enter f args) w:=by
  have h1:fn.name≠ "runtime.NumGoroutine" :=by simpa using hn
  have h2:fn.body≠none:=by intro e;rw[e]at hb;cases hb
  simp [callFunc,hf,h1,h2]
def D6:(ks:List (Bool×CK))→List A→Option (tyl (ks.map (·.2))).Val
  | []=>fun
    | []=>some ()
    | _=>none
  | (_,.bool)::r=>fun
    | .bool b::cs=>(D6 r cs).map (fun q=>Ty.mk2 _ b q)
    | _=>none
  | (_,.int k)::r=>fun
    | .int j n::cs=>bif A.kEq j k then(D6 r cs).map (fun q=>Ty.mk2 _ n q)else none
    | _=>none
  | (_,.str)::r=>fun
    | .str s::cs=>(D6 r cs).map (fun q=>Ty.mk2 _ s q)
    | _=>none
  | (false,.sl _ t)::r=>fun
    | .sl l::cs=>match l.cast t with
      | some xs=>(D6 r cs).map (fun q=>Ty.mk2 _ xs q)
      | none=>none
    | _=>none
  | (true,.sl e t)::r=>fun
    | .usl e' l::cs=>bif Nat.beq e' e then match l.cast t with
      | some xs=>(D6 r cs).map (fun q=>Ty.mk2 _ xs q)
      | none=>none
      else none
    | _=>none
  | (_,.sln _ t)::r=>fun
    | .sln l::cs=>match l.cast t with
      | some xs=>(D6 r cs).map (fun q=>Ty.mk2 _ xs q)
      | none=>none
    | _=>none
  | (_,.ptr)::r=>fun
    | .Dw::cs=>(D6 r cs).map (fun q=>q)
    | _=>none
  | (_,.fn)::r=>fun
    | .fn n::cs=>(D6 r cs).map (fun q=>Ty.mk2 _ n q)
    | _=>none
  | (_,.mp kt vt)::r=>fun
    | .ump l::cs=>match l.cast kt vt with
      | some xs=>(D6 r cs).map (fun q=>Ty.mk2 _ xs q)
      | none=>none
    | _=>none
  | (_,.oth)::_=>fun _=>none
def EZ:(ks:List (Bool×CK))→(tyl (ks.map (·.2))).Val→List A
  | [],_=>[]
  | (_,.bool)::r,v=>.bool (Ty.hd _ v)::EZ r (Ty.tl _ v)
  | (_,.int k)::r,v=>.int k (Ty.hd _ v)::EZ r (Ty.tl _ v)
  | (_,.str)::r,v=>.str (Ty.hd _ v)::EZ r (Ty.tl _ v)
  | (false,.sl _ t)::r,v=>.sl ⟨t,Ty.hd _ v⟩::EZ r (Ty.tl _ v)
  | (true,.sl e t)::r,v=>.usl e ⟨t,Ty.hd _ v⟩::EZ r (Ty.tl _ v)
  | (_,.sln _ t)::r,v=>.sln ⟨t,Ty.hd _ v⟩::EZ r (Ty.tl _ v)
  | (_,.ptr)::r,v=>.Dw::EZ r v
  | (_,.fn)::r,v=>.fn (Ty.hd _ v)::EZ r (Ty.tl _ v)
  | (_,.mp kt vt)::r,v=>.ump ⟨kt,vt,Ty.hd _ v⟩::EZ r (Ty.tl _ v)
  | (_,.oth)::_,_=>[]
theorem YR: ∀(ks:List (Bool×CK)) (cs:List A) (v:(tyl (ks.map (·.2))).Val),D6 ks cs=some v→cs=EZ ks v:=by
  intro ks
  induction ks with
  | nil =>
    intro cs v h
    cases cs with
    | nil=>rfl
    | cons _ _=>cases h
  | cons k ks ih =>
    intro cs v h
    obtain⟨u,k⟩:=k
    have none': ∀ {α :Type} {x: α},(none:Option α)=some x→False:=fun h=>by cases h
    cases k with
    | bool =>
      simp only[D6]at h
      split at h
      ·rename_i b cs
       cases hd:D6 ks cs with
       | none=>rw[hd]at h;cases h
       | some q =>
         rw[hd]at h
         injection h with h
         subst h
         simp only[EZ,Ty.GK,Ty.Hf]
         rw[← ih cs q hd]
      ·exact(none' h).elim
    | int k =>
      simp only[D6]at h
      split at h
      ·rename_i j n cs
       cases hk:A.kEq j k with
       | false=>rw[hk]at h;exact(none' h).elim
       | true =>
         rw[hk]at h
         cases hd:D6 ks cs with
         | none=>rw[hd]at h;cases h
         | some q =>
           rw[hd]at h
           injection h with h
           subst h
           simp only[EZ,Ty.GK,Ty.Hf]
           rw[← ih cs q hd,A.JL hk]
      ·exact(none' h).elim
    | str =>
      simp only[D6]at h
      split at h
      ·rename_i b cs
       cases hd:D6 ks cs with
       | none=>rw[hd]at h;cases h
       | some q =>
         rw[hd]at h
         injection h with h
         subst h
         simp only[EZ,Ty.GK,Ty.Hf]
         rw[← ih cs q hd]
      ·exact(none' h).elim
    | sl e t =>
      cases u with
      | false =>
        simp only[D6]at h
        split at h
        ·rename_i l cs
         cases hc:l.cast t with
         | none=>rw[hc]at h;exact(none' h).elim
         | some xs =>
           rw[hc]at h
           dsimp only at h
           cases hd:D6 ks cs with
           | none=>rw[hd]at h;cases h
           | some q =>
             rw[hd]at h
             injection h with h
             subst h
             simp only[EZ,Ty.GK,Ty.Hf]
             rw[← ih cs q hd,Sl.Jm hc]
        ·exact(none' h).elim
      | true =>
        simp only[D6]at h
        split at h
        ·rename_i e' l cs
         cases he:Nat.beq e' e with
         | false=>rw[he]at h;exact(none' h).elim
         | true =>
           rw[he]at h
           dsimp only[cond_true]at h
           cases hc:l.cast t with
           | none=>rw[hc]at h;exact(none' h).elim
           | some xs =>
             rw[hc]at h
             dsimp only at h
             cases hd:D6 ks cs with
             | none=>rw[hd]at h;cases h
             | some q =>
               rw[hd]at h
               injection h with h
               subst h
               simp only[EZ,Ty.GK,Ty.Hf]
               rw[← ih cs q hd,Sl.Jm hc,Nat.eq_of_beq_eq_true he]
        ·exact(none' h).elim
    | ptr =>
      simp only[D6]at h
      split at h
      ·rename_i cs
       cases hd:D6 ks cs with
       | none=>rw[hd]at h;cases h
       | some q =>
         rw[hd]at h
         injection h with h
         subst h
         simp only[EZ]
         rw[← ih cs _ hd]
      ·exact(none' h).elim
    | fn =>
      simp only[D6]at h
      split at h
      ·rename_i b cs
       cases hd:D6 ks cs with
       | none=>rw[hd]at h;cases h
       | some q =>
         rw[hd]at h
         injection h with h
         subst h
         simp only[EZ,Ty.GK,Ty.Hf]
         rw[← ih cs q hd]
      ·exact(none' h).elim
    | sln e t =>
      simp only[D6]at h
      split at h
      ·rename_i l cs
       cases hc:l.cast t with
       | none=>rw[hc]at h;exact(none' h).elim
       | some xs =>
         rw[hc]at h
         dsimp only at h
         cases hd:D6 ks cs with
         | none=>rw[hd]at h;cases h
         | some q =>
           rw[hd]at h
           injection h with h
           subst h
           simp only[EZ,Ty.GK,Ty.Hf]
           rw[← ih cs q hd,Sl.Jm hc]
      ·exact(none' h).elim
    | mp kt vt =>
      simp only[D6]at h
      split at h
      ·rename_i l cs
       cases hc:l.cast kt vt with
       | none=>rw[hc]at h;exact(none' h).elim
       | some xs =>
         rw[hc]at h
         dsimp only at h
         cases hd:D6 ks cs with
         | none=>rw[hd]at h;cases h
         | some q =>
           rw[hd]at h
           injection h with h
           subst h
           simp only[EZ,Ty.GK,Ty.Hf]
           rw[← ih cs q hd,Mp.Jm hc]
      ·exact(none' h).elim
    | oth=>simp only[D6]at h;exact(none' h).elim
def Sh.ks:Sh→List (Bool×CK)
  | .cell u k=>[(u,k)]
  | .agg ks=>ks
  | .box ks=>ks
  | .map kt vt=>[(true,.mp kt vt)]
def Sh.T (s:Sh):Type:=(tyl (s.ks.map (·.2))).Val
def Sh.dec:(s:Sh)→A→Option s.T
  | .cell u k,x=>D6 [(u,k)] [x]
  | .agg ks,.agg cs=>D6 ks cs
  | .box ks,.box cs=>D6 ks cs
  | .map kt vt,x=>D6 [(true,.mp kt vt)] [x]
  | _,_=>none
def Sh.enc:(s:Sh)→s.T→A
  | .cell u k,v=>(EZ [(u,k)] v).getD 0 .undef
  | .agg ks,v=>.agg (EZ ks v)
  | .box ks,v=>.box (EZ ks v)
  | .map kt vt,v=>(EZ [(true,.mp kt vt)] v).getD 0 .undef
theorem Sh.AmN {s:Sh} {x:A} {v:s.T} (h:s.dec x=some v):x=s.enc v:=by
  cases s with
  | cell u k =>
    have:=YR _ _ _ (show D6 [(u,k)] [x]=some v from h)
    show x=(EZ [(u,k)] v).getD 0 .undef
    rw[← this];rfl
  | agg ks =>
    cases x with
    | agg cs =>
      have:=YR _ _ _ (show D6 ks cs=some v from h)
      show _=A.agg (EZ ks v)
      rw[← this]
    | _=>cases h
  | box ks =>
    cases x with
    | box cs =>
      have:=YR _ _ _ (show D6 ks cs=some v from h)
      show _=A.box (EZ ks v)
      rw[← this]
    | _=>cases h
  | map kt vt =>
    have:=YR _ _ _ (show D6 [(true,.mp kt vt)] [x]=some v from h)
    show x=(EZ [(true,.mp kt vt)] v).getD 0 .undef
    rw[← this];rfl
def prS (s:Sh) (β :Type):List Sh→Type
  | []=>s.T
  | _::_=>s.T× β
def ShT:List Sh→Type
  | []=>Unit
  | s::r=>prS s (ShT r) r
def hdS (s:Sh):(r:List Sh)→prS s (ShT r) r→s.T
  | [],v=>v
  | _::_,v=>v.1
def tlS (s:Sh):(r:List Sh)→prS s (ShT r) r→ShT r
  | [],_=>()
  | _::_,v=>v.2
def mkS (s:Sh):(r:List Sh)→s.T→ShT r→prS s (ShT r) r
  | [],a,_=>a
  | _::_,a,b=>(a,b)
theorem AnF (s:Sh) (r:List Sh) (a:s.T) (b:ShT r):hdS s r (mkS s r a b)=a:=by cases r<;>rfl
theorem Aoh (s:Sh) (r:List Sh) (a:s.T) (b:ShT r):tlS s r (mkS s r a b)=b:=by cases r<;>rfl
def AhU (s:Sh) (r:List Sh):Option s.T→Option (ShT r)→Option (prS s (ShT r) r)
  | some a,some b=>some (mkS s r a b)
  | _,_=>none
theorem AhV {s:Sh} {r:List Sh} {x:Option s.T} {y:Option (ShT r)} {v:prS s (ShT r) r} (h:AhU s r x y=some v): ∃ a b,x=some a∧y=some b∧v=mkS s r a b:=by
  cases x with
  | none=>cases h
  | some a =>
    cases y with
    | none=>cases h
    | some b=>injection h with h;exact⟨a,b,rfl,rfl,h.symm⟩
def Qv:(ss:List Sh)→List A→Option (ShT ss)
  | []=>fun
    | []=>some ()
    | _=>none
  | s::r=>fun
    | []=>none
    | x::xs=>AhU s r (s.dec x) (Qv r xs)
def encs:(ss:List Sh)→ShT ss→List A
  | [],_=>[]
  | s::r,v=>s.enc (hdS s r v)::encs r (tlS s r v)
theorem Ae8: ∀(ss:List Sh) (xs:List A) (v:ShT ss),Qv ss xs=some v→xs=encs ss v:=by
  intro ss
  induction ss with
  | nil =>
    intro xs v h
    cases xs with
    | nil=>rfl
    | cons _ _=>cases h
  | cons s ss ih =>
    intro xs v h
    cases xs with
    | nil=>cases h
    | cons x xs =>
      obtain⟨a,b,h1,h2,h3⟩:=AhV (show AhU s ss (s.dec x) (Qv ss xs)=some v from h)
      subst h3
      show _=s.enc (hdS s ss (mkS s ss a b))::encs ss (tlS s ss (mkS s ss a b))
      rw[AnF,Aoh, ←Sh.AmN h1, ←ih xs b h2]
def Sh.zero (s:Sh):s.T:=Ty.zero _
def zeroS:(ss:List Sh)→ShT ss
  | []=>()
  | s::r=>mkS s r s.zero (zeroS r)
def Fp (Ah AL:List Sh):List Sh:=AL++Ah.filterMap (fun | .box ks=>some (.agg ks) | .map kt vt=>some (.map kt vt) | _=>none)
def Sig.of (Ah AL:List Sh) (f:ShT Ah→Option (ShT (Fp Ah AL))):Sig where
  Ah:=Ah
  AL:=AL
  ok xs:=match Qv Ah xs with
    | some a=>(f a).isSome
    | none=>false
  val xs:=match Qv Ah xs with
    | some a=>encs (Fp Ah AL) ((f a).getD (zeroS _))
    | none=>[]
def Qw (Ah AL:List Sh):List (Nat×(ShT Ah→Option (ShT (Fp Ah AL))))→Nat→ShT Ah→Option (ShT (Fp Ah AL))
  | [],_,_=>none
  | (f,g)::r,n,x=>bif Nat.beq n (f+1)then g x else Qw Ah AL r n x
def Aer (P:Program) (Ah AL:List Sh):List (Nat×(ShT Ah→Option (ShT (Fp Ah AL))))→Prop
  | []=>True
  | (f,g)::r=>Spec P f (Sig.of Ah AL g)∧Aer P Ah AL r
theorem AjR (Ah AL:List Sh): ∀(l:List (Nat×(ShT Ah→Option (ShT (Fp Ah AL))))) (x:ShT Ah),Qw Ah AL l 0 x=none:=by
  intro l
  induction l with
  | nil=>intro x;rfl
  | cons p r ih=>intro x;obtain⟨f,g⟩:=p;simp only[Qw];exact ih x
theorem AjQ {Ah AL:List Sh}: ∀ {l:List (Nat×(ShT Ah→Option (ShT (Fp Ah AL))))},Aer P Ah AL l→ ∀ f,(∀ x,Qw Ah AL l (f+1) x=none)∨Spec P f (Sig.of Ah AL (Qw Ah AL l (f+1))):=by
  intro l
  induction l with
  | nil=>intro _ f;exact .inl fun x=>rfl
  | cons p r ih =>
    intro h f
    obtain⟨k,g⟩:=p
    by_cases hk:f=k
    ·subst hk
     have:Qw Ah AL ((f,g)::r) (f+1)=g:=by
       funext x
       simp [Qw,KZ]
     rw[this]
     exact .inr h.1
    ·have:Qw Ah AL ((k,g)::r) (f+1)=Qw Ah AL r (f+1):=by
       funext x
       simp [Qw,KZ,hk]
     rw[this]
     exact ih h.2 f
theorem AaI {Ah AL:List Sh} {l:List (Nat×(ShT Ah→Option (ShT (Fp Ah AL))))} (h:Aer P Ah AL l):lY P (fun n=>Sig.of Ah AL (Qw Ah AL l n)):=by
  refine⟨fun xs=> ?_,fun f xs hok=> ?_⟩
  ·show(match Qv Ah xs with | some a=>(Qw Ah AL l 0 a).isSome | none=>false)=false
   cases Qv Ah xs with
   | none=>rfl
   | some a=>dsimp only;rw[AjR];rfl
  ·rcases AjQ h f with h0 | h0
   ·have hok':(match Qv Ah xs with | some a=>(Qw Ah AL l (f+1) a).isSome | none=>false)=true:=hok
    cases hd:Qv Ah xs with
    | none=>rw[hd]at hok';cases hok'
    | some a=>rw[hd]at hok';dsimp only at hok';rw[h0]at hok';cases hok'
   ·exact h0
theorem Sig.XX {Ah AL:List Sh} {f:ShT Ah→Option (ShT (Fp Ah AL))} {xs rs:List A} (h:(Sig.of Ah AL f).F xs=some rs): ∃ a o,xs=encs Ah a∧f a=some o∧rs=encs _ o:=by
  unfold Sig.F Sig.of at h
  dsimp only at h
  cases hd:Qv Ah xs with
  | none=>rw[hd]at h;cases h
  | some a =>
    rw[hd]at h
    dsimp only at h
    cases hf:f a with
    | none=>rw[hf]at h;cases h
    | some o =>
      rw[hf]at h
      injection h with h
      exact⟨a,o,Ae8 _ _ _ hd,hf,h.symm⟩
def iD (C:Ctx) (Ah AL:List Sh) (outs:List (Nat×Option Nat)) (st:St):Option (ShT (Fp Ah AL)) :=
  allT ((AX st.Aa AL (Ig C outs st)).1++(AX st.Aa (Ah.map NF) (IK Ah 0)).1 ++
      [nodup ((DZ st.Aa 256000 256 AL (Ig C outs st)++DZ st.Aa 0 256 (Ah.map NF) (IK Ah 0)).map (·.1))]++outs.flatMap (fun q=>(vN C st q).1))
    (Qv _ ((AX st.Aa AL (Ig C outs st)).2.1++(CV Ah 0).map (fun i=>unbox ((AX st.Aa (Ah.map NF) (IK Ah 0)).2.1.getD i .undef))))
theorem AmH {α β :Type} {l:List Bool} {x:Option α} {y: α} (h:allT l x=some y) (z: β):allT l (some z)=some z:=by
  induction l with
  | nil=>rfl
  | cons c cs ih =>
    cases c with
    | false=>cases h
    | true=>exact ih h
theorem Akd {C:Ctx} {Ah AL:List Sh} {outs:List (Nat×Option Nat)} {st:St} {o:ShT (Fp Ah AL)} (h:iD C Ah AL outs st=some o):finish C Ah AL outs st=some (encs _ o):=by
  unfold iD at h
  obtain⟨_,h2⟩:=Jl h
  have:=Ae8 _ _ _ h2
  unfold finish
  rw[← this]
  exact AmH h _
theorem lM {ρ :Type} {fin:St→Option ρ} (hC:Jq P C) (N:Nat) {f:FuncId} {fn:Func} {code:Code} {outs:List (Nat×Option Nat)} {Ah AL:List Sh} {g:ShT Ah→Option (ShT (Fp Ah AL))} (hf:P.funcs[f]? =some fn) (hb:fn.body=some code) (hn:(fn.name== "runtime.NumGoroutine")=false)
    (hout:fn.results=(outs.map rv).toArray) (hF: ∀ a o,g a=some o→ ∃ r,runK C N Ah fn.ntmps code fin (encs Ah a)=some r∧ ∀ st,fin st=some r→iD C Ah AL outs st=some o):Spec P f (Sig.of Ah AL g) :=
  ⟨enters hf (by rw[hb];rfl) hn,fun _ _ _ xs rs hI hv hl h100 hx hrs=>by
    obtain⟨a,o,h1,h2,h3⟩:=Sig.XX hrs
    subst h1;subst h3
    obtain⟨r,h4,h5⟩:=hF a o h2
    exact AkM (sg:=Sig.of Ah AL g) (o:=r) hC N (fun id ops _ _ _ _ _ K hS hd hx=>Ail hC id ops K hS hd hx) hf hb hout hI hv hl h100 hx h4 (fun st h=>Akd (h5 st h))⟩
end
end Go.Proofs.YtadefjgbcapakaaGreatDoor.Vm
namespace Go.Proofs.YtadefjgbcapakaaGreatDoor.Vm
def CS {α ρ :Type} (A:(α →Option ρ)→Option ρ) (f: α →Option ρ):Option ρ :=A f
def Af {ρ :Type} (b:Bool) (k:Bool→Option ρ):Option ρ :=k b
theorem Ahy {ρ :Type} (b:Bool) (k:Bool→Option ρ):Af b k=k b:=rfl
def Ao6 {α β :Type}:Option (α ⊕ β)→Bool
  | some (.inr _)=>false
  | _=>true
def Ao4 {α β :Type}:Option (α ⊕ β)→Option α
  | some (.inl x)=>some x
  | _=>none
def Ao5 {α β :Type}:Option (α ⊕ β)→Option β
  | some (.inr x)=>some x
  | _=>none
def strings_Join (_:Nat) (l:List Bs) (sep:Bs):Option Bs:=bif decide (l.length≤140737488355328)&&decide ((sep.intercalate l).length≤140737488355328)then some (sep.intercalate l)else none
def U2 {a0 a1 r:Type} (f:a0→a1→r) (x:a0×a1):r:=f x.1 x.2
def U3 {a0 a1 a2 r:Type} (f:a0→a1→a2→r) (x:a0×a1×a2):r:=f x.1 x.2.1 x.2.2
def U4 {a0 a1 a2 a3 r:Type} (f:a0→a1→a2→a3→r) (x:a0×a1×a2×a3):r:=f x.1 x.2.1 x.2.2.1 x.2.2.2
def U5 {a0 a1 a2 a3 a4 r:Type} (f:a0→a1→a2→a3→a4→r) (x:a0×a1×a2×a3×a4):r:=f x.1 x.2.1 x.2.2.1 x.2.2.2.1 x.2.2.2.2
def U6 {a0 a1 a2 a3 a4 a5 r:Type} (f:a0→a1→a2→a3→a4→a5→r) (x:a0×a1×a2×a3×a4×a5):r:=f x.1 x.2.1 x.2.2.1 x.2.2.2.1 x.2.2.2.2.1 x.2.2.2.2.2
def U7 {a0 a1 a2 a3 a4 a5 a6 r:Type} (f:a0→a1→a2→a3→a4→a5→a6→r) (x:a0×a1×a2×a3×a4×a5×a6):r:=f x.1 x.2.1 x.2.2.1 x.2.2.2.1 x.2.2.2.2.1 x.2.2.2.2.2.1 x.2.2.2.2.2.2
def U8 {a0 a1 a2 a3 a4 a5 a6 a7 r:Type} (f:a0→a1→a2→a3→a4→a5→a6→a7→r) (x:a0×a1×a2×a3×a4×a5×a6×a7):r:=f x.1 x.2.1 x.2.2.1 x.2.2.2.1 x.2.2.2.2.1 x.2.2.2.2.2.1 x.2.2.2.2.2.2.1 x.2.2.2.2.2.2.2
def U9 {a0 a1 a2 a3 a4 a5 a6 a7 a8 r:Type} (f:a0→a1→a2→a3→a4→a5→a6→a7→a8→r) (x:a0×a1×a2×a3×a4×a5×a6×a7×a8):r:=f x.1 x.2.1 x.2.2.1 x.2.2.2.1 x.2.2.2.2.1 x.2.2.2.2.2.1 x.2.2.2.2.2.2.1 x.2.2.2.2.2.2.2.1 x.2.2.2.2.2.2.2.2
def U10 {a0 a1 a2 a3 a4 a5 a6 a7 a8 a9 r:Type} (f:a0→a1→a2→a3→a4→a5→a6→a7→a8→a9→r) (x:a0×a1×a2×a3×a4×a5×a6×a7×a8×a9):r:=f x.1 x.2.1 x.2.2.1 x.2.2.2.1 x.2.2.2.2.1 x.2.2.2.2.2.1 x.2.2.2.2.2.2.1 x.2.2.2.2.2.2.2.1 x.2.2.2.2.2.2.2.2.1 x.2.2.2.2.2.2.2.2.2
def U19 {a0 a1 a2 a3 a4 a5 a6 a7 a8 a9 a10 a11 a12 a13 a14 a15 a16 a17 a18 r:Type} (f:a0→a1→a2→a3→a4→a5→a6→a7→a8→a9→a10→a11→a12→a13→a14→a15→a16→a17→a18→r) (x:a0×a1×a2×a3×a4×a5×a6×a7×a8×a9×a10×a11×a12×a13×a14×a15×a16×a17×a18):r:=f x.1 x.2.1 x.2.2.1 x.2.2.2.1 x.2.2.2.2.1 x.2.2.2.2.2.1 x.2.2.2.2.2.2.1 x.2.2.2.2.2.2.2.1 x.2.2.2.2.2.2.2.2.1 x.2.2.2.2.2.2.2.2.2.1 x.2.2.2.2.2.2.2.2.2.2.1 x.2.2.2.2.2.2.2.2.2.2.2.1 x.2.2.2.2.2.2.2.2.2.2.2.2.1 x.2.2.2.2.2.2.2.2.2.2.2.2.2.1 x.2.2.2.2.2.2.2.2.2.2.2.2.2.2.1 x.2.2.2.2.2.2.2.2.2.2.2.2.2.2.2.1 x.2.2.2.2.2.2.2.2.2.2.2.2.2.2.2.2.1 x.2.2.2.2.2.2.2.2.2.2.2.2.2.2.2.2.2.1 x.2.2.2.2.2.2.2.2.2.2.2.2.2.2.2.2.2.2
def U20 {a0 a1 a2 a3 a4 a5 a6 a7 a8 a9 a10 a11 a12 a13 a14 a15 a16 a17 a18 a19 r:Type} (f:a0→a1→a2→a3→a4→a5→a6→a7→a8→a9→a10→a11→a12→a13→a14→a15→a16→a17→a18→a19→r) (x:a0×a1×a2×a3×a4×a5×a6×a7×a8×a9×a10×a11×a12×a13×a14×a15×a16×a17×a18×a19):r:=f x.1 x.2.1 x.2.2.1 x.2.2.2.1 x.2.2.2.2.1 x.2.2.2.2.2.1 x.2.2.2.2.2.2.1 x.2.2.2.2.2.2.2.1 x.2.2.2.2.2.2.2.2.1 x.2.2.2.2.2.2.2.2.2.1 x.2.2.2.2.2.2.2.2.2.2.1 x.2.2.2.2.2.2.2.2.2.2.2.1 x.2.2.2.2.2.2.2.2.2.2.2.2.1 x.2.2.2.2.2.2.2.2.2.2.2.2.2.1 x.2.2.2.2.2.2.2.2.2.2.2.2.2.2.1 x.2.2.2.2.2.2.2.2.2.2.2.2.2.2.2.1 x.2.2.2.2.2.2.2.2.2.2.2.2.2.2.2.2.1 x.2.2.2.2.2.2.2.2.2.2.2.2.2.2.2.2.2.1 x.2.2.2.2.2.2.2.2.2.2.2.2.2.2.2.2.2.2.1 x.2.2.2.2.2.2.2.2.2.2.2.2.2.2.2.2.2.2.2
def U21 {a0 a1 a2 a3 a4 a5 a6 a7 a8 a9 a10 a11 a12 a13 a14 a15 a16 a17 a18 a19 a20 r:Type} (f:a0→a1→a2→a3→a4→a5→a6→a7→a8→a9→a10→a11→a12→a13→a14→a15→a16→a17→a18→a19→a20→r) (x:a0×a1×a2×a3×a4×a5×a6×a7×a8×a9×a10×a11×a12×a13×a14×a15×a16×a17×a18×a19×a20):r:=f x.1 x.2.1 x.2.2.1 x.2.2.2.1 x.2.2.2.2.1 x.2.2.2.2.2.1 x.2.2.2.2.2.2.1 x.2.2.2.2.2.2.2.1 x.2.2.2.2.2.2.2.2.1 x.2.2.2.2.2.2.2.2.2.1 x.2.2.2.2.2.2.2.2.2.2.1 x.2.2.2.2.2.2.2.2.2.2.2.1 x.2.2.2.2.2.2.2.2.2.2.2.2.1 x.2.2.2.2.2.2.2.2.2.2.2.2.2.1 x.2.2.2.2.2.2.2.2.2.2.2.2.2.2.1 x.2.2.2.2.2.2.2.2.2.2.2.2.2.2.2.1 x.2.2.2.2.2.2.2.2.2.2.2.2.2.2.2.2.1 x.2.2.2.2.2.2.2.2.2.2.2.2.2.2.2.2.2.1 x.2.2.2.2.2.2.2.2.2.2.2.2.2.2.2.2.2.2.1 x.2.2.2.2.2.2.2.2.2.2.2.2.2.2.2.2.2.2.2.1 x.2.2.2.2.2.2.2.2.2.2.2.2.2.2.2.2.2.2.2.2
def U22 {a0 a1 a2 a3 a4 a5 a6 a7 a8 a9 a10 a11 a12 a13 a14 a15 a16 a17 a18 a19 a20 a21 r:Type} (f:a0→a1→a2→a3→a4→a5→a6→a7→a8→a9→a10→a11→a12→a13→a14→a15→a16→a17→a18→a19→a20→a21→r) (x:a0×a1×a2×a3×a4×a5×a6×a7×a8×a9×a10×a11×a12×a13×a14×a15×a16×a17×a18×a19×a20×a21):r:=f x.1 x.2.1 x.2.2.1 x.2.2.2.1 x.2.2.2.2.1 x.2.2.2.2.2.1 x.2.2.2.2.2.2.1 x.2.2.2.2.2.2.2.1 x.2.2.2.2.2.2.2.2.1 x.2.2.2.2.2.2.2.2.2.1 x.2.2.2.2.2.2.2.2.2.2.1 x.2.2.2.2.2.2.2.2.2.2.2.1 x.2.2.2.2.2.2.2.2.2.2.2.2.1 x.2.2.2.2.2.2.2.2.2.2.2.2.2.1 x.2.2.2.2.2.2.2.2.2.2.2.2.2.2.1 x.2.2.2.2.2.2.2.2.2.2.2.2.2.2.2.1 x.2.2.2.2.2.2.2.2.2.2.2.2.2.2.2.2.1 x.2.2.2.2.2.2.2.2.2.2.2.2.2.2.2.2.2.1 x.2.2.2.2.2.2.2.2.2.2.2.2.2.2.2.2.2.2.1 x.2.2.2.2.2.2.2.2.2.2.2.2.2.2.2.2.2.2.2.1 x.2.2.2.2.2.2.2.2.2.2.2.2.2.2.2.2.2.2.2.2.1 x.2.2.2.2.2.2.2.2.2.2.2.2.2.2.2.2.2.2.2.2.2
open Go.RowKit
theorem Below.moves {O:Own} {T:Nat→Prop} {w w':World} (h:Below w.heap.size w w'):Moves O T w w':=⟨h.os,h.tape,h.output,h.size,fun b hb=>.inl (h.block b hb)⟩
noncomputable def Ip (e N:Nat):Sig:=.of [.cell false (.sl e (.str .nil)),.cell false .str] [.cell false .str] (fun a=>strings_Join N a.1 a.2)
theorem YA {O:Own} {w:World} {v:Value} {s:List UInt8} (h:Am O w v (.str s)):v= .string ⟨s.toArray⟩:=by
  cases h with
  | str s=>exact congrArg Value.string (by rw[Array.toArray_toList])
theorem Ti {O:Own} {w w':World} {vs:Array Value} {e N:Nat} {s:List UInt8} (hb:Below w.heap.size w w'):Came O w vs (Ip e N) [.str s] (.string ⟨s.toArray⟩) O w':=by
  refine⟨Below.moves hb,fun b k _ h=>h,fun b k _ h=>h,rfl,⟨#[.string ⟨s.toArray⟩],rfl,rfl,fun k hk=> ?_⟩,fun j i hj=> ?_⟩
  ·have hk0:k=0:=by simp at hk;omega
   subst hk0
   show Am O w' (.string ⟨s.toArray⟩) (.str s)
   exact Am.str (O:=O) (w:=w') ⟨s.toArray⟩
  ·exact absurd hj (by show(CV [.cell false (.sl e (.str .nil)),.cell false .str] 0)[j]? ≠some i;simp [CV,BN])
def Aet (P:Program) (f:FuncId):Prop :=
    (∀(a:Option Addr) (c:Nat) (sep:ByteArray) (w:World),Calls P f #[.slice a 0 c,.string sep] w fun e w'=>e= .returned (.string ⟨#[]⟩)∧w'=w) ∧
    (∀(bk o c:Nat) (xs:List ByteArray) (sep:ByteArray) (w:World),(∀(j:Nat) x,xs[j]? =some x→w.cell? ⟨bk,o+j,none⟩=some (.string x))→bk<w.heap.size→xs.length≤140737488355328→xs.length≤c→(Lib.join (xs.map (·.data.toList)) sep.data.toList).length≤140737488355328 →
      Calls P f #[.slice (some ⟨bk,o,none⟩) xs.length c,.string sep] w fun e w'=>e= .returned (.string ⟨(Lib.join (xs.map (·.data.toList)) sep.data.toList).toArray⟩)∧Below w.heap.size w w')
theorem wP {P:Program} {f:FuncId} {e N:Nat} (H:Aet P f) {O:Own} {w:World} {vs:Array Value} (l:List Bs) (sep o:Bs) (hl2:vs.size=2) (hx0:Am O w (vs.getD 0 undef) (.sl ⟨.str .nil,l⟩)) (hx1:Am O w (vs.getD 1 undef) (.str sep)) (h2':strings_Join N l sep=some o) :
    Calls P f vs w fun e' w'=> ∃ v O',e'= .returned v∧Came O w vs (Ip e N) [.str o] v O' w':=by
  obtain⟨hn,hj⟩:=H
  have hvs:vs= #[vs.getD 0 undef,vs.getD 1 undef]:=by
    apply Array.ext
    ·simpa using hl2
    ·intro i h1 h2
     have:i=0∨i=1:=by simp at h2;omega
     rcases this with rfl | rfl
     ·simp [Array.getD_eq_getD_getElem?,h1]
     ·simp [Array.getD_eq_getD_getElem?,h1]
  rw[YA hx1]at hvs
  unfold strings_Join at h2'
  cases hc:(decide (l.length≤140737488355328)&&decide ((sep.intercalate l).length≤140737488355328))with
  | false=>rw[hc]at h2';cases h2'
  | true =>
    rw[hc]at h2'
    injection h2' with h2'
    rw[Bool.and_eq_true,decide_eq_true_eq,decide_eq_true_eq]at hc
    subst h2'
    have hes0:(⟨.str .nil,l⟩:Sl).es=l.map (fun s:Bs=>[A.str s]):=rfl
    generalize hv0:vs.getD 0 undef=v0 at *
    have hnil:l=[]→ ∀ a c,v0= .slice a 0 c→Calls P f vs w fun e' w'=> ∃ v O',e'= .returned v∧Came O w vs (Ip e N) [.str (sep.intercalate l)] v O' w':=by
      intro hl0 a c hv0'
      have:=hn a c ⟨sep.toArray⟩ w
      rw[← hv0', ←hvs]at this
      refine this.mono fun e' w' hq=> ?_
      obtain⟨h4,h5⟩:=hq
      subst h5
      refine⟨_,O,h4,?_⟩
      have:sep.intercalate l=[]:=by rw[hl0];rfl
      rw[this]
      exact Ti (Below.refl _ _)
    have hsz:(⟨.str .nil,l⟩:Sl).sz=1:=rfl
    generalize hL:(⟨.str .nil,l⟩:Sl)=L at hx0 hes0 hsz
    have hlen:L.es.length=l.length:=by rw[hes0,List.length_map]
    have hes: ∀ j:Nat,L.es[j]? =(l[j]?).map (fun s=>[A.str s]):=fun j=>by rw[hes0,List.getElem?_map]
    cases hx0 with
    | nil t =>
      have:l=[]:=by injection hL with h1 h2;subst h1;exact eq_of_heq h2
      exact hnil this _ _ rfl
    | sl0 ad t =>
      have:l=[]:=by injection hL with h1 h2;subst h1;exact eq_of_heq h2
      exact hnil this _ _ rfl
    | @sl b off cap l' vs' hcap hm hr =>
      cases hl0:l with
      | nil=>rw[← hl0];exact hnil hl0 _ cap (by rw[hlen,hl0];rfl)
      | cons s0 r =>
        have hb:b<w.heap.size:=by
          have:=(hm 0 0 (by rw[hlen,hl0];simp) (by omega)).2
          exact cell_lt this
        rw[← hl0]
        have hmap:(l.map (fun s=>(⟨s.toArray⟩:ByteArray))).map (·.data.toList)=l:=by
          rw[List.map_map]
          conv=>rhs;rw[← List.map_id l]
          refine List.map_congr_left fun s _=> ?_
          simp
        have hJ:=hj b off cap (l.map (fun s=>(⟨s.toArray⟩:ByteArray))) ⟨sep.toArray⟩ w (fun j x hjx=>by
          rw[List.getElem?_map]at hjx
          cases hlj:l[j]? with
          | none=>rw[hlj]at hjx;cases hjx
          | some s =>
            rw[hlj]at hjx
            injection hjx with hjx
            have hjl:j<L.es.length:=by
              rw[hlen]
              rcases Nat.lt_or_ge j l.length with h | h
              ·exact h
              ·rw[List.getElem?_eq_none h]at hlj;cases hlj
            have hm1:=(hm j 0 hjl (by omega)).2
            have hr1:=hr j 0 hjl (by omega)
            rw[List.getD_eq_getElem?_getD (l:=L.es),hes,hlj]at hr1
            have:=YA (show Am O w (vs' j 0) (.str s)from hr1)
            rw[this]at hm1;rw[← hjx]
            have e1:off+(j*L.sz+0)=off+j:=by rw[hsz];omega
            rw[e1]at hm1
            exact hm1) hb (by rw[List.length_map];exact hc.1) (by rw[List.length_map, ←hlen];exact hcap) (by rw[hmap];show(List.intercalate _ l).length≤_;simpa using hc.2)
        rw[List.length_map,hmap, ←hlen, ←hvs]at hJ
        refine hJ.mono fun e' w' hq=> ?_
        have e2:Lib.join l (⟨sep.toArray⟩:ByteArray).data.toList=sep.intercalate l:=by show List.intercalate _ l=_;simp
        rw[e2]at hq
        exact⟨_,O,hq.1,Ti hq.2⟩
theorem Aaq {P:Program} {f:FuncId} {e N:Nat} (hent: ∀ args w,(callFunc f args).run P w= .ok (.enter f args) w) (H:Aet P f):Spec P f (Ip e N):=by
  refine⟨hent,fun O w vs xs rs _ hv hl _ hx hrs=> ?_⟩
  obtain⟨a,o,h1,h2,h3⟩:=Sig.XX hrs
  subst h1
  have h3':rs=[.str o]:=h3
  rw[h3']
  exact wP H a.1 a.2 o hv (hx 0 (by show 0<2;omega)) (hx 1 (by show 1<2;omega)) h2
