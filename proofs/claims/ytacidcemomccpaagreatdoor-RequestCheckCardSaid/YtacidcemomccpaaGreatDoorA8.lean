import Derived.Test.YtacidcemomccpaaGreatDoorA7
import Derived.OwnWalk
import Derived.Lib.Join
import Derived.Below
import Derived.Shelf.Strings.Builder1
import Derived.Shelf.Strings.Builder2
import Derived.Shelf.Strings.OnBuilder
import Derived.Shelf.Small.Strs
import Derived.Shelf.Small.Wraps
import Derived.Shelf.Strconv.Itoa0
import Derived.Shelf.Strconv.Itoa1
import Derived.Shelf.LaysM
import Derived.Shelf.Strconv.Itoa2
import Derived.Shelf.Strconv.Itoa3
import Derived.Shelf.Strings.Search1
import Derived.Shelf.Strings.Search2
import Derived.Shelf.Strings.Search3
import Derived.Shelf.Strings.Cut
import Derived.Shelf.Strings.Count
import Derived.Shelf.Strings.Shaped
import Derived.Shelf.Sort.Plain
import Derived.Shelf.Strings.Prefix
import Derived.Shelf.Strings.Split
import Derived.Shelf.Unicode.DecodeSlow
import Derived.Test.YtacidcemomccpaaGreatDoorProg
import Derived.Sort.Grow
import Derived.Lib.Split
import Derived.Lib.ItoaNum
import Derived.Lib.Strings
import Derived.Sort.OwnSorted
import Derived.ArgAppend
import Derived.Outline
import Derived.BigQuiet
import Derived.Deep.RegionWith
set_option linter.all false
namespace Go.Proofs.YtacidcemomccpaaGreatDoor.Vm
open Classical
section
variable {P:Program} {C:Ctx} {V0:Nat->Value} {O0 O:Own} {w0 w:World} {m:Nat->Value} {st st':St} {a:Act}
def enum:Nat->List L6->List (Nat×L6)
 | _,[]=>[]
 | i,x::r=>(i,x)::enum (i+1) r
def An4: ∀(l:List L6) (i:Nat),(enum i l).length=l.length:=by
 intro l
 induction l with
 | nil=>intro i;rfl
 | cons x r ih=>intro i;simp [enum,ih]
def AuJ: ∀(l:List L6) (i:Nat),(enum i l).map (·.2)=l:=by
 intro l
 induction l with
 | nil=>intro i;rfl
 | cons x r ih=>intro i;simp [enum,ih]
theorem uM: ∀(l:List L6) (i:Nat) (p:Nat×L6),p∈enum i l-> ∃ k,p.1=i+k/\l[k]? =some p.2:=by
 intro l
 induction l with
 | nil=>intro i p h;cases h
 | cons x r ih =>
  intro i p h;rcases D7.1 h with rfl | h
  .exact⟨0,rfl,rfl⟩
  .obtain⟨k,h1,h2⟩:=ih (i+1) p h;exact⟨k+1,by omega,by simpa using h2⟩
def AuH: ∀(l:List L6) (i j:Nat),j∈(enum i l).map (·.1)↔i<=j/\j<i+l.length:=by
 intro l
 induction l with
 | nil=>intro i j;simp [enum]
 | cons x r ih=>grind[enum]
def AuI: ∀(l:List L6) (i:Nat),(enum i l).Pairwise (λp q=>p.1<q.1):=by
 intro l
 induction l with
 | nil=>simp_all[enum]
 | cons x r ih =>intro i;refine List.Pairwise.cons (λq hq=> ?_) (ih (i+1));all_goals grind[uM]
def Aqb {ops:List Oper}: ∀(l:List L6) (i:Nat),iI ops i l=true->(enum i l).Pairwise (λp q=>bT ops p.1 p.2 q.2=true):=by
 intro l
 induction l with
 | nil=>intro i _;exact List.Pairwise.nil
 | cons x r ih =>intro i h;simp only[iI,Dw]at h;refine List.Pairwise.cons (λq hq=> ?_) (ih (i+1) h.2);all_goals grind[uM]
def As2 {o:Oper} {e:Nat} (h:e∈Yr o): ∃ ed∈o.after,ed.on=e/\Region.binds .any ed=true:=by grind[Yr]
def Aje: ∀(l:List Oper) (i:Nat),backward i l=true-> ∀(k:Nat) (o:Oper),l[k]? =some o-> ∀ e∈o.after,e.on<i+k:=by
 intro l
 induction l with
 | nil=>intro i _ k o h;simp at h
 | cons x r ih =>
  intro i h k o hk e he;simp only[backward,Dw]at h;cases k with
  | zero =>simp at hk;subst hk;have:=DI.1 h.1 e (by simpa using he);rw[EF]at this;exact this
  | succ k=>grind[backward]
def AgC: ∀(l:List Oper) (i:Nat),Sj i l=true-> ∀(k:Nat) (o:Oper),l[k]? =some o-> ∀ e∈o.after,Region.binds .any e=true->e.on<i+k:=by
 intro l
 induction l with
 | nil=>intro i _ k o h;simp at h
 | cons x r ih =>
  intro i h k o hk e he hb;simp only[Sj,Dw]at h;cases k with
  | zero =>simp at hk;subst hk;have:=DI.1 h.1 e (by simpa using he);all_goals simp_all[Sj]
  | succ k=>grind[Sj]
def AjF {md:Region.Mode} {n:Nat} {rk:List Nat}: ∀(l:List Oper) (i:Nat),ZC md n rk i l=true-> ∀(k:Nat) (o:Oper),l[k]? =some o-> ∀ e∈o.after,Region.binds md e=true->e.on<n/\rk.getD e.on 0<rk.getD (i+k) 0:=by
 intro l
 induction l with
 | nil=>intro i _ k o h;simp at h
 | cons x r ih =>
  intro i h k o hk e he hb;simp only[ZC,Dw]at h;cases k with
  | zero =>simp at hk;subst hk;have:=DI.1 h.1 e (by simpa using he);all_goals simp_all[ZC]
  | succ k=>grind[ZC]
def Amr {ops:Array Oper} (h:ordered ops.toList=true) (md:Region.Mode): ∃ rk:Nat->Nat,∀(j:Nat) (o:Oper),ops[j]? =some o-> ∀ e∈o.after,Region.binds md e=true->e.on<ops.size/\rk e.on<rk j:=by
 unfold ordered at h;rw[Dw,Ef]at h;rcases h.2 with h | h
 .refine⟨id,λj o hj e he _=> ?_⟩;have h1:=Aje _ _ h j o (by simpa using hj) e he;all_goals grind[ordered]
 .simp only[Dw]at h;have key:Agg md ops.toList=true:=by cases md<;>first | exact h.1.1 | exact h.1.2 | exact h.2
  refine⟨λi=>(ranks md ops.toList ops.toList.length (ops.toList.map λ_=>0)).getD i 0,λj o hj e he hb=> ?_⟩;have:=AjF _ _ key j o (by simpa using hj) e he hb;all_goals grind[ordered]
def Ahf {α β :Type} {f g: α ->List β}: ∀(l:List α),(∀ x∈l,f x=g x)->l.flatMap f=l.flatMap g:=by
 intro l
 induction l with
 | nil=>intro _;rfl
 | cons x r ih=>grind
def Aqm {ops:List Oper}: ∀(l:List Oper) (acc:List (List Nat)) (st:St),Sj acc.length l=true->(Vy C ops l acc st).length=l.length /\
 ∀(k:Nat) (o:Oper),l[k]? =some o-> ∃ x,(Vy C ops l acc st)[k]? =some x/\x.o=o/\x.anc=(Yr o).flatMap (λe=>e::(acc++(Vy C ops l acc st).map L6.anc).getD e []):=by
 intro l
 induction l with
 | nil=>intro acc st _;exact⟨rfl,λk o h=>by simp at h⟩
 | cons o' r ih =>
  intro acc st h;have hb:=AgC _ _ h;simp only[Sj,Dw]at h;let an:=(Yr o').flatMap (λe=>e::acc.getD e []);let s1:=apply st o' (KI C ops o' st);have hf:Vy C ops (o'::r) acc st=⟨o',KI C ops o' st,LH o' st (KD o' st),oneOf C o'.op (KD o' st),an⟩::Vy C ops r (acc++[an]) s1:=rfl;obtain⟨g1,g2⟩:=ih (acc++[an]) s1 (by simpa using h.2);rw[hf];refine⟨by simp [g1],λk o hk=> ?_⟩;cases k with
  | zero =>simp at hk;subst hk;refine⟨_,rfl,rfl,?_⟩;refine Ahf _ λe he=> ?_;obtain⟨ed,h1,h2,h3⟩:=As2 he;have hlt:=hb 0 o' rfl ed h1 h3;rw[Dn,Dn,Ez (by omega)]
  | succ k =>obtain⟨x,h1,h2,h3⟩:=g2 k o (by simpa using hk);refine⟨x,by simpa using h1,h2,?_⟩;rw[h3];simp [Ea]
def Aql {ρ :Type} {ops:List Oper} {K:St->Option ρ} {v: ρ}: ∀(l:List Oper) (acc:List (List Nat)) (st:St),WV C ops l st K=some v-> ∃ st',zF C ops (Vy C ops l acc st) st st'/\K st'=some v/\ ∀ x∈Vy C ops l acc st,J6 x.δ.ok:=by
 intro l
 induction l with
 | nil=>intro acc st h;exact⟨st,rfl,h,λx hx=>by cases hx⟩
 | cons o r ih =>
  intro acc st h;obtain⟨h1,h2⟩:=QJ (show allT (KI C ops o st).ok (WV C ops r (apply st o (KI C ops o st)) K)=some v from h);obtain⟨st',h3,h4,h5⟩:=ih (acc++[(Yr o).flatMap (λe=>e::acc.getD e [])]) _ h2;refine⟨st',⟨⟨rfl,rfl,rfl⟩,h3⟩,h4,λx hx=> ?_⟩;rcases D7.1 hx with rfl | hx
  .exact h1
  .exact h5 x hx
def Sim.drew (hS:Sim V0 O0 w0 O m st a w):Sim V0 O0 w0 O m st a {w with drawn:=w.drawn+1} :=
 hS.next (st':=st) (d:=none) (v:=undef) (x:=.undef) (T:=λ_=>False) (Nw:=λ_=>False) ⟨rfl,rfl,rfl,DD _,λ_ _=>.inl rfl⟩ ⟨λ_ _ _ h=>h,λ_ _ _ _ h _=>h⟩ (λ_ _ _ h=>h) (λ_ y ho=>.inr ⟨y,ho,rfl,rfl⟩) (λ_ h=>h.elim) (λ_ h=>h.elim)
  (λ_ _ ho=>.inl ⟨id,ho,rfl⟩) rfl (λh=>absurd rfl h)
def Afi {ρ :Type} (hC:MX P C) {fin:St->Option ρ} {v: ρ} (id:Nat) (ops:Array Oper) {O:Own} {m:Nat->Value} {st:St} {a:Act} {w:World} (K:Ex->St->Option ρ) (hS:Sim V0 O0 w0 O m st a w) (hd:TN C ops.toList st=true)
 (hx:WV C ops.toList ops.toList st (λst'=>K .normal st')=some v):(Code.region id ops true).wp P (Post V0 O0 w0 fin K v) a w:=by
 unfold TN at hd;dsimp only at hd;simp only[Dw]at hd;obtain⟨⟨⟨d1,d2⟩,d3⟩,d4⟩:=hd;have d1A:Sj 0 ops.toList=true:=by all_goals grind[ordered]
 obtain⟨f1,f2⟩:=Aqm (C:=C) (ops:=ops.toList) ops.toList [] st d1A;obtain⟨st',r1,r2,r3⟩:=Aql ops.toList [] st hx;generalize hfs:Vy C ops.toList ops.toList [] st=fs at *
 have hlen:fs.length=ops.size:=by rw[f1];simp
 have hsize:(enum 0 fs).length=ops.size:=by rw[An4,hlen]
 have hany: ∀ md,wpAny P md ops (Post V0 O0 w0 fin K v) ops.size (Array.replicate ops.size false) a {w with drawn:=w.drawn+1}:=by
  intro md;obtain⟨rk,hrk⟩:=Amr d1 md
  refine AuF (V0:=V0) (O0:=O0) (w0:=w0) hC (K:=λst'=>K .normal st') (v:=v) (st':=st') (λO' m' s a' w' h1 h2=>⟨O',m',s,h1,h2⟩) (ANC:=fs.map L6.anc) (rk:=rk) (λj o hj i hi=> ?_) hrk
   ops.size (enum 0 fs) _ hsize (AuI _ _) (λp hp=> ?_) (by simp) (λi hi=> ?_) (λe he i _=> ?_) (Aqb _ _ d2) (λp hp n hn=> ?_) (Aru d4) (by rw[AuJ];exact r1) r2 hS.drew
  .obtain⟨x,h1,h2,h3⟩:=f2 j o (by simpa using hj);have e1:(fs.map L6.anc).getD j []=x.anc:=by rw[Dn,Ep,h1];rfl
   rw[e1,h3]at hi;obtain⟨e,he,hie⟩:=Eg.1 hi;rcases D7.1 hie with h | h
   .exact⟨e,he,.inl h⟩
   .exact⟨e,he,.inr (by simpa using h)⟩
  .obtain⟨k,h1,h2⟩:=uM _ _ _ hp;rw[DV]at h1
   have hk:k<ops.toList.length:=by
    rw[<- f1];rcases Eh k fs.length with h | h
    .exact h
    .rw[Ed h]at h2;cases h2
   obtain⟨x,h3,h4,h5⟩:=f2 k ops.toList[k] (by simp at hk ⊢);rw[h2]at h3;injection h3 with h3;refine⟨?_,r3 _ (FQ h2),?_⟩
   .rw[h1,h3,h4];simp at hk ⊢
   .rw[h1,Dn,Ep,h2];rfl
  .rw[AuH];simp [Dv,hi,hlen]
  .have:(Array.replicate ops.size false).getD e false=false:=by
    rw[Dv,Array.getElem?_replicate];split<;>rfl
   rw[this]at he;cases he
  .grind[uM]
 refine wp_region_draw λt=> ?_;unfold Region.schedule;split
 .exact wpAny_sound _ _ _ _ _ (hany _)
 .exact wpAny_sound _ _ _ _ _ (hany _)
end
section
variable {P:Program} {C:Ctx}
def Ak3:List (Nat×Sig)->Nat->Option Sig
 | [],_=>none
 | (k,x)::r,t=>bif Nat.beq k t then some x else Ak3 r t
def AsG: ∀ {l:List (Nat×Sig)} {t:Nat} {x:Sig},Ak3 l t=some x->(t,x)∈l:=by
 intro l
 induction l with
 | nil=>intro t x h;cases h
 | cons p r ih=>grind[Ak3,XB]
def Awo:List (Nat×Nrm)->Nat->Option Nrm
 | [],_=>none
 | (k,x)::r,t=>bif Nat.beq k t then some x else Awo r t
def Aks:List (Nat×Alt)->Nat->Option Alt
 | [],_=>none
 | (k,x)::r,t=>bif Nat.beq k t then some x else Aks r t
def Akz:List (Nat×(Nat->Sig))->Nat->Option (Nat->Sig)
 | [],_=>none
 | (k,x)::r,t=>bif Nat.beq k t then some x else Akz r t
def Aws:List (Nat×Nat×Nat×List Nat)->Nat->Option (Nat×Nat×List Nat)
 | [],_=>none
 | (k,x)::r,t=>bif Nat.beq k t then some x else Aws r t
def Awj:List (Nat×List (Nat×Nat))->Nat->List (Nat×Nat)
 | [],_=>[]
 | (k,x)::r,t=>bif Nat.beq k t then x else Awj r t
def Ak1:List ((Nat×List (Nat×Bool))×Sig)->Nat->List (Nat×Bool)->Option Sig
 | [],_,_=>none
 | (k,x)::r,e,fs=>bif Nat.beq k.1 e&&(k.2==fs)then some x else Ak1 r e fs
def AeC (P:Program):List ((Nat×List (Nat×Bool))×Sig)->Prop
 | []=>True
 | (k,x)::r=>pF P k.1 k.2 x/\AeC P r
theorem AeC.look: ∀ {l:List ((Nat×List (Nat×Bool))×Sig)},AeC P l-> ∀ e fs sg,Ak1 l e fs=some sg->pF P e fs sg:=by
 intro l
 induction l with
 | nil=>intro _ e fs sg h;cases h
 | cons q r ih =>
  intro h e fs sg hs;obtain⟨k,x⟩:=q;simp only[Ak1]at hs;cases hb:(Nat.beq k.1 e&&(k.2==fs))with
  | false=>rw[hb]at hs;exact ih h.2 e fs sg hs
  | true =>rw[hb]at hs;injection hs with hs;rw[Dw]at hb;rw[<- Dx hb.1,<- Gu hb.2,<- hs];exact h.1
def AkC:List (Nat×Nat×Sig)->Nat->Option (Nat×Sig)
 | [],_=>none
 | (k,x)::r,f=>bif Nat.beq k f then some x else AkC r f
def Zs (P:Program):List (Nat×Nat×Sig)->Prop
 | []=>True
 | (k,x)::r=>Spec P k x.2/\Zs P r
theorem Zs.look: ∀ {l:List (Nat×Nat×Sig)},Zs P l-> ∀ f i sg,AkC l f=some (i,sg)->Spec P f sg:=by
 intro l
 induction l with
 | nil=>intro _ f i sg h;cases h
 | cons q r ih =>
  intro h f i sg hs;obtain⟨k,x⟩:=q;simp only[AkC]at hs;cases hb:Nat.beq k f with
  | false=>rw[hb]at hs;exact ih h.2 f i sg hs
  | true =>rw[hb]at hs;injection hs with hs;have h1:=h.1;rw[hs]at h1;rw[<- Dx hb];exact h1
def ctx (P:Program) (gs:List (Nat×Sig)) (ns:List (Nat×Nrm)) (aa:List (Nat×Alt):=[]) (dd:List (Nat×(Nat->Sig)):=[]) (cc:List Nat:=[]) (bb:List Nat:=[]) (ss:List (Nat×Nat×Nat×List Nat):=[]) (kk:List (Nat×List (Nat×Nat)):=[]) (ee:List ((Nat×List (Nat×Bool))×Sig):=[]) (zz:List (Nat×Nat×Sig):=[]):Ctx:=⟨ArA P,Ak3 gs,Awo ns,Aks aa,Akz dd,cc,bb,λ_=>none,Aws ss,Awj kk,Ak1 ee,AkC zz⟩
def fA (P:Program) (F:Nat->Sig):Prop:=(∀ xs,(F 0).ok xs=false)/\ ∀ f xs,(F (f+1)).ok xs=true->Spec P f (F (f+1))
def Ag2 (P:Program):List (Nat×(Nat->Sig))->Prop
 | []=>True
 | (_,F)::r=>fA P F/\Ag2 P r
theorem Ag2.look: ∀ {l:List (Nat×(Nat->Sig))},Ag2 P l-> ∀ t F,Akz l t=some F->fA P F:=by
 intro l
 induction l with
 | nil=>intro _ t F h;cases h
 | cons p r ih=>grind[Akz,XB,Ag2,fA]
def AkD (P:Program):List (Nat×Alt)->Prop
 | []=>True
 | (f,q)::r=>(Spec P f q.1/\Spec P f q.2.1)/\AkD P r
theorem AkD.look: ∀ {l:List (Nat×Alt)},AkD P l-> ∀ f q,Aks l f=some q->Spec P f q.1/\Spec P f q.2.1:=by
 intro l
 induction l with
 | nil=>intro _ f q h;cases h
 | cons p r ih =>
  intro h f q hq;obtain⟨k,x⟩:=p;simp only[Aks,XB]at hq;by_cases hk:k=f
  .simp only[hk,Gv,cond_true,F9]at hq;rw[<- hq,<- hk];exact h.1
  .rw[show decide (k=f)=false by simpa using hk]at hq;exact ih h.2 f q hq
def AbL (P:Program):List (Nat×Sig)->Prop
 | []=>True
 | (f,sg)::r=>Spec P f sg/\AbL P r
def AbL.mem: ∀ {l:List (Nat×Sig)},AbL P l-> ∀ p∈l,Spec P p.1 p.2:=by
 intro l
 induction l with
 | nil=>intro _ p hp;cases hp
 | cons q r ih=>grind[AbL,Spec]
def MB {gs:List (Nat×Sig)} {ns:List (Nat×Nrm)} {aa:List (Nat×Alt)} {dd:List (Nat×(Nat->Sig))} {cc bb:List Nat} {ss:List (Nat×Nat×Nat×List Nat)} {kk:List (Nat×List (Nat×Nat))} {ee:List ((Nat×List (Nat×Bool))×Sig)} {zz:List (Nat×Nat×Sig)} (hG:AbL P gs) (hA:AkD P aa:=by trivial) (hD:Ag2 P dd:=by trivial) (hE:AeC P ee:=by trivial) (hZ:Zs P zz:=by trivial):MX P (ctx P gs ns aa dd cc bb ss kk ee zz) :=
 ⟨λ_ _ h=>h,λ_ _ h=>hG.mem _ (AsG h),hA.look,hD.look,hE.look,hZ.look⟩
def enters {f:FuncId} {fn:Func} (hf:P.funcs[f]? =some fn) (hb:fn.body.isNone=false) (hn:(fn.name== "runtime.NumGoroutine")=false) (args:Array Value) (w:World):(callFunc f args).run P w= .ok (.enter f args) w:=by
 have h1:fn.name≠ "runtime.NumGoroutine" :=by simpa using hn
 have h2:fn.body≠none:=by intro e;rw[e]at hb;cases hb
 simp [callFunc,hf,h1,h2]
def LC:(ks:List (Bool×CK))->List A->Option (tyl (ks.map (·.2))).Val
 | []=>fun
  | []=>some ()
  | _=>none
 | (_,.bool)::r=>fun
  | .bool b::cs=>(LC r cs).map (λq=>Ty.mk2 _ b q)
  | _=>none
 | (_,.int k)::r=>fun
  | .int j n::cs=>bif A.kEq j k then(LC r cs).map (λq=>Ty.mk2 _ n q)else none
  | _=>none
 | (_,.str)::r=>fun
  | .str s::cs=>(LC r cs).map (λq=>Ty.mk2 _ s q)
  | _=>none
 | (false,.sl _ t)::r=>fun
  | .sl l::cs=>match l.cast t with
   | some xs=>(LC r cs).map (λq=>Ty.mk2 _ xs q)
   | none=>none
  | _=>none
 | (true,.sl e t)::r=>fun
  | .usl z e' l::cs=>bif z&&Nat.beq e' e then match l.cast t with
   | some xs=>(LC r cs).map (λq=>Ty.mk2 _ xs q)
   | none=>none
   else none
  | _=>none
 | (true,.sln e t)::r=>fun
  | .usl z e' l::cs=>bif !z&&Nat.beq e' e then match l.cast t with
   | some xs=>(LC r cs).map (λq=>Ty.mk2 _ xs q)
   | none=>none
   else none
  | _=>none
 | (false,.sln _ t)::r=>fun
  | .sln l::cs=>match l.cast t with
   | some xs=>(LC r cs).map (λq=>Ty.mk2 _ xs q)
   | none=>none
  | _=>none
 | (_,.ptr)::r=>fun
  | .Mc::cs=>(LC r cs).map (λq=>q)
  | _=>none
 | (_,.fn)::r=>fun
  | .fn n::cs=>(LC r cs).map (λq=>Ty.mk2 _ n q)
  | _=>none
 | (_,.mp kt vt)::r=>fun
  | .ump l::cs=>match l.cast kt vt with
   | some xs=>(LC r cs).map (λq=>Ty.mk2 _ xs q)
   | none=>none
  | _=>none
 | (true,.bx t)::r=>fun
  | .box ds::cs=>bif (t.mk (ds.map A.weak)).1&&ds.all A.AqM then(LC r cs).map (λq=>Ty.mk2 _ [(t.mk (ds.map A.weak)).2] q)else none
  | _=>none
 | (false,.bx _)::_=>λ_=>none
 | (_,.oth)::_=>λ_=>none
def NI:(ks:List (Bool×CK))->(tyl (ks.map (·.2))).Val->List A
 | [],_=>[]
 | (_,.bool)::r,v=>.bool (Ty.hd _ v)::NI r (Ty.tl _ v)
 | (_,.int k)::r,v=>.int k (Ty.hd _ v)::NI r (Ty.tl _ v)
 | (_,.str)::r,v=>.str (Ty.hd _ v)::NI r (Ty.tl _ v)
 | (false,.sl _ t)::r,v=>.sl ⟨t,Ty.hd _ v⟩::NI r (Ty.tl _ v)
 | (true,.sl e t)::r,v=>.usl true e ⟨t,Ty.hd _ v⟩::NI r (Ty.tl _ v)
 | (true,.sln e t)::r,v=>.usl false e ⟨t,Ty.hd _ v⟩::NI r (Ty.tl _ v)
 | (false,.sln _ t)::r,v=>.sln ⟨t,Ty.hd _ v⟩::NI r (Ty.tl _ v)
 | (_,.ptr)::r,v=>.Mc::NI r v
 | (_,.fn)::r,v=>.fn (Ty.hd _ v)::NI r (Ty.tl _ v)
 | (_,.mp kt vt)::r,v=>.ump ⟨kt,vt,Ty.hd _ v⟩::NI r (Ty.tl _ v)
 | (true,.bx t)::r,v=>.box ((t.cells ((Ty.hd _ v).headD t.zero)).map A.strong)::NI r (Ty.tl _ v)
 | (false,.bx _)::_,_=>[]
 | (_,.oth)::_,_=>[]
def Aov: ∀(ds:List A),ds.all A.AqM=true->(ds.map A.weak).map A.strong=ds:=by
 intro ds
 induction ds with
 | nil=>intro _;rfl
 | cons d ds ih =>intro h;rw[List.all_cons,Dw]at h;rw[Em,Em,ih h.2];congr 1;cases d<;>first | rfl | cases h.1
def jD: ∀(ks:List (Bool×CK)) (cs:List A) (v:(tyl (ks.map (·.2))).Val),LC ks cs=some v->cs=NI ks v:=by
 intro ks
 induction ks with
 | nil =>
  intro cs v h;cases cs with
  | nil=>rfl
  | cons _ _=>cases h
 | cons k ks ih =>
  intro cs v h;obtain⟨u,k⟩:=k;have none': ∀ {α :Type} {x: α},(none:Option α)=some x->False:=λh=>by cases h
  cases k with
  | bool =>
   simp only[LC]at h;split at h
   .rename_i b cs;cases hd:LC ks cs with
    | none=>rw[hd]at h;cases h
    | some q =>rw[hd]at h;injection h with h;subst h;simp only[NI,Ty.Qc,Ty.Qj];rw[<- ih cs q hd]
   .exact(none' h).elim
  | int k =>
   simp only[LC]at h;split at h
   .rename_i j n cs;cases hk:A.kEq j k with
    | false=>rw[hk]at h;exact(none' h).elim
    | true =>
     rw[hk]at h;cases hd:LC ks cs with
     | none=>rw[hd]at h;cases h
     | some q =>rw[hd]at h;injection h with h;subst h;simp only[NI,Ty.Qc,Ty.Qj];rw[<- ih cs q hd,A.Rf hk]
   .exact(none' h).elim
  | str =>
   simp only[LC]at h;split at h
   .rename_i b cs;cases hd:LC ks cs with
    | none=>rw[hd]at h;cases h
    | some q =>rw[hd]at h;injection h with h;subst h;simp only[NI,Ty.Qc,Ty.Qj];rw[<- ih cs q hd]
   .exact(none' h).elim
  | sl e t =>
   cases u with
   | false =>
    simp only[LC]at h;split at h
    .rename_i l cs;cases hc:l.cast t with
     | none=>rw[hc]at h;exact(none' h).elim
     | some xs =>
      rw[hc]at h;dsimp only at h;cases hd:LC ks cs with
      | none=>rw[hd]at h;cases h
      | some q =>rw[hd]at h;injection h with h;subst h;simp only[NI,Ty.Qc,Ty.Qj];rw[<- ih cs q hd,Sl.QK hc]
    .exact(none' h).elim
   | true =>
    simp only[LC]at h;split at h
    .rename_i z e' l cs;cases he:z&&Nat.beq e' e with
     | false=>rw[he]at h;exact(none' h).elim
     | true =>
      rw[he]at h;dsimp only[cond_true]at h;cases hc:l.cast t with
      | none=>rw[hc]at h;exact(none' h).elim
      | some xs =>
       rw[hc]at h;dsimp only at h;cases hd:LC ks cs with
       | none=>rw[hd]at h;cases h
       | some q =>rw[hd]at h;injection h with h;subst h;simp only[NI,Ty.Qc,Ty.Qj];rw[Dw]at he;rw[<- ih cs q hd,Sl.QK hc,Dx he.2,he.1]
    .exact(none' h).elim
  | ptr =>
   simp only[LC]at h;split at h
   .rename_i cs;cases hd:LC ks cs with
    | none=>rw[hd]at h;cases h
    | some q =>rw[hd]at h;injection h with h;subst h;simp only[NI];rw[<- ih cs _ hd]
   .exact(none' h).elim
  | fn =>
   simp only[LC]at h;split at h
   .rename_i b cs;cases hd:LC ks cs with
    | none=>rw[hd]at h;cases h
    | some q =>rw[hd]at h;injection h with h;subst h;simp only[NI,Ty.Qc,Ty.Qj];rw[<- ih cs q hd]
   .exact(none' h).elim
  | sln e t =>
   cases u with
   | false =>
    simp only[LC]at h;split at h
    .rename_i l cs;cases hc:l.cast t with
     | none=>rw[hc]at h;exact(none' h).elim
     | some xs =>
      rw[hc]at h;dsimp only at h;cases hd:LC ks cs with
      | none=>rw[hd]at h;cases h
      | some q =>rw[hd]at h;injection h with h;subst h;simp only[NI,Ty.Qc,Ty.Qj];rw[<- ih cs q hd,Sl.QK hc]
    .exact(none' h).elim
   | true =>
    simp only[LC]at h;split at h
    .rename_i z e' l cs;cases he: !z&&Nat.beq e' e with
     | false=>rw[he]at h;exact(none' h).elim
     | true =>
      rw[he]at h;dsimp only[cond_true]at h;cases hc:l.cast t with
      | none=>rw[hc]at h;exact(none' h).elim
      | some xs =>
       rw[hc]at h;dsimp only at h;cases hd:LC ks cs with
       | none=>rw[hd]at h;cases h
       | some q =>rw[hd]at h;injection h with h;subst h;simp only[NI,Ty.Qc,Ty.Qj];rw[Dw]at he;rw[<- ih cs q hd,Sl.QK hc,Dx he.2,show z=false from by simpa using he.1]
    .exact(none' h).elim
  | mp kt vt =>
   simp only[LC]at h;split at h
   .rename_i l cs;cases hc:l.cast kt vt with
    | none=>rw[hc]at h;exact(none' h).elim
    | some xs =>
     rw[hc]at h;dsimp only at h;cases hd:LC ks cs with
     | none=>rw[hd]at h;cases h
     | some q =>rw[hd]at h;injection h with h;subst h;simp only[NI,Ty.Qc,Ty.Qj];rw[<- ih cs q hd,Mp.QK hc]
   .exact(none' h).elim
  | bx t =>
   cases u with
   | false=>simp only[LC]at h;exact(none' h).elim
   | true =>
    simp only[LC]at h;split at h
    .rename_i ds cs;cases hk:(t.mk (ds.map A.weak)).1&&ds.all A.AqM with
     | false=>rw[hk]at h;exact(none' h).elim
     | true =>
      rw[hk]at h;rw[Dw]at hk;cases hd:LC ks cs with
      | none=>rw[hd]at h;cases h
      | some q =>rw[hd]at h;injection h with h;subst h;simp only[NI,Ty.Qc,Ty.Qj];rw[<- ih cs q hd];congr 2;show _=(t.cells (t.mk (ds.map A.weak)).2).map A.strong;rw[Ty.XA _ _ hk.1,Aov _ hk.2]
    .exact(none' h).elim
  | oth=>simp only[LC]at h;exact(none' h).elim
def Sh.ks:Sh->List (Bool×CK)
 | .cell u k=>[(u,k)]
 | .agg ks=>ks
 | .box ks=>ks
 | .clo _ ks=>ks
 | .map kt vt=>[(true,.mp kt vt)]
def Sh.T (s:Sh):Type:=(tyl (s.ks.map (·.2))).Val
def Sh.dec:(s:Sh)->A->Option s.T
 | .cell u k,x=>LC [(u,k)] [x]
 | .agg ks,.agg cs=>LC ks cs
 | .box ks,.box cs=>LC ks cs
 | .clo f ks,.cbx g cs=>bif Nat.beq f g then LC ks cs else none
 | .map kt vt,x=>LC [(true,.mp kt vt)] [x]
 | _,_=>none
def Sh.enc:(s:Sh)->s.T->A
 | .cell u k,v=>(NI [(u,k)] v).getD 0 .undef
 | .agg ks,v=>.agg (NI ks v)
 | .box ks,v=>.box (NI ks v)
 | .clo f ks,v=>.cbx f (NI ks v)
 | .map kt vt,v=>(NI [(true,.mp kt vt)] v).getD 0 .undef
def Sh.AwG {s:Sh} {x:A} {v:s.T} (h:s.dec x=some v):x=s.enc v:=by
 cases s with
 | cell u k =>have:=jD _ _ _ (show LC [(u,k)] [x]=some v from h);show x=(NI [(u,k)] v).getD 0 .undef;rw[<- this];rfl
 | agg ks =>
  cases x with
  | agg cs =>have:=jD _ _ _ (show LC ks cs=some v from h);show _=A.agg (NI ks v);rw[<- this]
  | _=>cases h
 | box ks =>
  cases x with
  | box cs =>have:=jD _ _ _ (show LC ks cs=some v from h);show _=A.box (NI ks v);rw[<- this]
  | _=>cases h
 | clo f ks =>
  cases x with
  | cbx g cs =>
   have h:(bif Nat.beq f g then LC ks cs else none)=some v:=h;cases hb:Nat.beq f g with
   | false=>rw[hb]at h;cases h
   | true =>rw[hb]at h;have:=jD _ _ _ (show LC ks cs=some v from h);show _=A.cbx f (NI ks v);rw[<- this,Dx hb]
  | _=>cases h
 | map kt vt =>have:=jD _ _ _ (show LC [(true,.mp kt vt)] [x]=some v from h);show x=(NI [(true,.mp kt vt)] v).getD 0 .undef;rw[<- this];rfl
def prS (s:Sh) (β :Type):List Sh->Type
 | []=>s.T
 | _::_=>s.T× β
def ShT:List Sh->Type
 | []=>Unit
 | s::r=>prS s (ShT r) r
def hdS (s:Sh):(r:List Sh)->prS s (ShT r) r->s.T
 | [],v=>v
 | _::_,v=>v.1
def tlS (s:Sh):(r:List Sh)->prS s (ShT r) r->ShT r
 | [],_=>()
 | _::_,v=>v.2
def mkS (s:Sh):(r:List Sh)->s.T->ShT r->prS s (ShT r) r
 | [],a,_=>a
 | _::_,a,b=>(a,b)
def AxP (s:Sh) (r:List Sh) (a:s.T) (b:ShT r):hdS s r (mkS s r a b)=a:=by cases r<;>rfl
def Ay0 (s:Sh) (r:List Sh) (a:s.T) (b:ShT r):tlS s r (mkS s r a b)=b:=by cases r<;>rfl
def Aku (s:Sh) (r:List Sh):Option s.T->Option (ShT r)->Option (prS s (ShT r) r)
 | some a,some b=>some (mkS s r a b)
 | _,_=>none
def ApE {s:Sh} {r:List Sh} {x:Option s.T} {y:Option (ShT r)} {v:prS s (ShT r) r} (h:Aku s r x y=some v): ∃ a b,x=some a/\y=some b/\v=mkS s r a b:=by
 cases x with
 | none=>cases h
 | some a =>
  cases y with
  | none=>cases h
  | some b=>grind[Sh,ShT,prS,Aku,mkS]
def WQ:(ss:List Sh)->List A->Option (ShT ss)
 | []=>fun
  | []=>some ()
  | _=>none
 | s::r=>fun
  | []=>none
  | x::xs=>Aku s r (s.dec x) (WQ r xs)
def encs:(ss:List Sh)->ShT ss->List A
 | [],_=>[]
 | s::r,v=>s.enc (hdS s r v)::encs r (tlS s r v)
theorem Alf: ∀(ss:List Sh) (xs:List A) (v:ShT ss),WQ ss xs=some v->xs=encs ss v:=by
 intro ss
 induction ss with
 | nil =>
  intro xs v h;cases xs with
  | nil=>rfl
  | cons _ _=>cases h
 | cons s ss ih =>
  intro xs v h;cases xs with
  | nil=>cases h
  | cons x xs =>obtain⟨a,b,h1,h2,h3⟩:=ApE (show Aku s ss (s.dec x) (WQ ss xs)=some v from h);subst h3;show _=s.enc (hdS s ss (mkS s ss a b))::encs ss (tlS s ss (mkS s ss a b));rw[AxP,Ay0,<- Sh.AwG h1,<- ih xs b h2]
def Sh.zero (s:Sh):s.T:=Ty.zero _
def zeroS:(ss:List Sh)->ShT ss
 | []=>()
 | s::r=>mkS s r s.zero (zeroS r)
def KY (Jt J7:List Sh):List Sh:=J7++Jt.filterMap (λ| .box ks=>some (.agg ks) | .clo _ ks=>some (.agg ks) | .map kt vt=>some (.map kt vt) | _=>none)
def Sig.of (Jt J7:List Sh) (f:ShT Jt->Option (ShT (KY Jt J7))):Sig where
 Jt:=Jt
 J7:=J7
 ok xs:=match WQ Jt xs with
  | some a=>(f a).isSome
  | none=>false
 val xs:=match WQ Jt xs with
  | some a=>encs (KY Jt J7) ((f a).getD (zeroS _))
  | none=>[]
def uG (Jt J7:List Sh):List (Nat×(ShT Jt->Option (ShT (KY Jt J7))))->Nat->ShT Jt->Option (ShT (KY Jt J7))
 | [],_,_=>none
 | (f,g)::r,n,x=>bif Nat.beq n (f+1)then g x else uG Jt J7 r n x
def zC (P:Program) (Jt J7:List Sh):List (Nat×(ShT Jt->Option (ShT (KY Jt J7))))->Prop
 | []=>True
 | (f,g)::r=>Spec P f (Sig.of Jt J7 g)/\zC P Jt J7 r
theorem Asw (Jt J7:List Sh): ∀(l:List (Nat×(ShT Jt->Option (ShT (KY Jt J7))))) (x:ShT Jt),uG Jt J7 l 0 x=none:=by
 intro l
 induction l with
 | nil=>intro x;rfl
 | cons p r ih=>intro x;obtain⟨f,g⟩:=p;simp only[uG];exact ih x
def Asv {Jt J7:List Sh}: ∀ {l:List (Nat×(ShT Jt->Option (ShT (KY Jt J7))))},zC P Jt J7 l-> ∀ f,(∀ x,uG Jt J7 l (f+1) x=none)\/Spec P f (Sig.of Jt J7 (uG Jt J7 l (f+1))):=by
 intro l
 induction l with
 | nil=>intro _ f;exact .inl λx=>rfl
 | cons p r ih=>grind[uG,XB,Sh,ShT,KY,zC,Spec,Sig.of]
def AbT {Jt J7:List Sh} {l:List (Nat×(ShT Jt->Option (ShT (KY Jt J7))))} (h:zC P Jt J7 l):fA P (λn=>Sig.of Jt J7 (uG Jt J7 l n)):=by
 refine⟨λxs=> ?_,λf xs hok=> ?_⟩
 .show(match WQ Jt xs with | some a=>(uG Jt J7 l 0 a).isSome | none=>false)=false;cases WQ Jt xs with
  | none=>rfl
  | some a=>grind[Asw]
 .rcases Asv h f with h0 | h0
  .have hok':(match WQ Jt xs with | some a=>(uG Jt J7 l (f+1) a).isSome | none=>false)=true:=hok;cases hd:WQ Jt xs with
   | none=>rw[hd]at hok';cases hok'
   | some a=>simp_all[hd,Sh,ShT,KY,zC,fA,Sig.of]
  .exact h0
def Sig.XR {Jt J7:List Sh} {f:ShT Jt->Option (ShT (KY Jt J7))} {xs rs:List A} (h:(Sig.of Jt J7 f).F xs=some rs): ∃ a o,xs=encs Jt a/\f a=some o/\rs=encs _ o:=by
 unfold Sig.F Sig.of at h;dsimp only at h;cases hd:WQ Jt xs with
 | none=>rw[hd]at h;cases h
 | some a =>
  rw[hd]at h;dsimp only at h;cases hf:f a with
  | none=>rw[hf]at h;cases h
  | some o =>rw[hf]at h;injection h with h;exact⟨a,o,Alf _ _ _ hd,hf,h.symm⟩
def Yx (C:Ctx) (Jt J7:List Sh) (outs:List (Nat×Option Nat)) (st:St):Option (ShT (KY Jt J7)) :=
 allT ((JM st.Jr J7 (Pz C outs st)).1++(JM st.Jr (Jt.map PT) (Qq Jt 0)).1 ++
  [nodup ((NY st.Jr 256000 256 J7 (Pz C outs st)++NY st.Jr 0 256 (Jt.map PT) (Qq Jt 0)).map (·.1)),!(J7.any wS||(Jt.map PT).any wS)||((JM st.Jr J7 (Pz C outs st)).2.2.1.isEmpty&&(JM st.Jr (Jt.map PT) (Qq Jt 0)).2.2.1.isEmpty)]++outs.flatMap (λq=>(Aeo C st q).1))
  (WQ _ ((JM st.Jr J7 (Pz C outs st)).2.1++(Le Jt 0).map (λi=>unbox ((JM st.Jr (Jt.map PT) (Qq Jt 0)).2.1.getD i .undef))))
theorem Aw2 {α β :Type} {l:List Bool} {x:Option α} {y: α} (h:allT l x=some y) (z: β):allT l (some z)=some z:=by
 induction l with
 | nil=>rfl
 | cons c cs ih=>grind[allT]
def Aiy {C:Ctx} {Jt J7:List Sh} {outs:List (Nat×Option Nat)} {st:St} {o:ShT (KY Jt J7)} (h:Yx C Jt J7 outs st=some o):finish C Jt J7 outs st=some (encs _ o):=by unfold Yx at h;obtain⟨_,h2⟩:=QJ h;all_goals grind[Alf,finish,Aw2]
def YS {ρ :Type} {fin:St->Option ρ} (hC:MX P C) (N:Nat) {f:FuncId} {fn:Func} {code:Code} {outs:List (Nat×Option Nat)} {Jt J7:List Sh} {g:ShT Jt->Option (ShT (KY Jt J7))} (hf:P.funcs[f]? =some fn) (hb:fn.body=some code) (hn:(fn.name== "runtime.NumGoroutine")=false)
 (hout:fn.results=(outs.map rv).toArray) (hF: ∀ a o,g a=some o-> ∃ r,runK C N Jt fn.ntmps code fin (encs Jt a)=some r/\ ∀ st,fin st=some r->Yx C Jt J7 outs st=some o):Spec P f (Sig.of Jt J7 g) :=
 ⟨enters hf (by rw[hb];rfl) hn,λ_ _ _ xs rs hI hv hl h100 hx hrs=>by obtain⟨a,o,h1,h2,h3⟩:=Sig.XR hrs;subst h1;subst h3;obtain⟨r,h4,h5⟩:=hF a o h2;exact At4 (sg:=Sig.of Jt J7 g) (o:=r) hC N (λ{_} hC' {_ _ _ _ _ _} id ops _ _ _ _ _ K hS hd hx=>Afi hC' id ops K hS hd hx) hf hb hout hI hv hl h100 hx h4 (λst h=>Aiy (h5 st h))⟩
end
section
def Ld {α ρ :Type} (A:(α ->Option ρ)->Option ρ) (f: α ->Option ρ):Option ρ :=A f
def Jv {ρ :Type} (b:Bool) (k:Bool->Option ρ):Option ρ :=k b
def XO {ρ :Type} (b:Bool) (k:Bool->Option ρ):Jv b k=k b:=rfl
def AxR {α β :Type}:Option (α ⊕ β)->Bool
 | some (.inr _)=>false
 | _=>true
def AxM {α β :Type}:Option (α ⊕ β)->Option α
 | some (.inl x)=>some x
 | _=>none
def AxN {α β :Type}:Option (α ⊕ β)->Option β
 | some (.inr x)=>some x
 | _=>none
def tJ {α β ρ :Type} [Inhabited α] [Inhabited β] (o:Option (α ⊕ β)) (k: α ->Option ρ) (l: β ->Option ρ):Option ρ :=bif AxR o then Jq (AxM o) k else Jq (AxN o) l
def Aii {α β ρ :Type} [Inhabited α] [Inhabited β] (x: α) (k: α ->Option ρ) (l: β ->Option ρ):tJ (some (.inl x)) k l=k x:=rfl
def strings_Join (_:Nat) (l:List Bs) (sep:Bs):Option Bs:=bif decide (l.length<=140737488355328)&&decide ((sep.intercalate l).length<=140737488355328)then some (sep.intercalate l)else none
variable {a0 a1 a2 a3 a4 a5 a6 a7 a8 a9 a10 a11 a12 a13 a14 a15 a16 a17 a18 a19 a20 a21 a22 a23 a24 a25 a26 a27 r:Type}
def U2 (f:a0->a1->r) (x:a0×a1):r:=f x.1 x.2
def U3 (f:a0->a1->a2->r) (x:a0×a1×a2):r:=f x.1 x.2.1 x.2.2
def U4 (f:a0->a1->a2->a3->r) (x:a0×a1×a2×a3):r:=f x.1 x.2.1 x.2.2.1 x.2.2.2
def U5 (f:a0->a1->a2->a3->a4->r) (x:a0×a1×a2×a3×a4):r:=f x.1 x.2.1 x.2.2.1 x.2.2.2.1 x.2.2.2.2
def U6 (f:a0->a1->a2->a3->a4->a5->r) (x:a0×a1×a2×a3×a4×a5):r:=f x.1 x.2.1 x.2.2.1 x.2.2.2.1 x.2.2.2.2.1 x.2.2.2.2.2
def U7 (f:a0->a1->a2->a3->a4->a5->a6->r) (x:a0×a1×a2×a3×a4×a5×a6):r:=f x.1 x.2.1 x.2.2.1 x.2.2.2.1 x.2.2.2.2.1 x.2.2.2.2.2.1 x.2.2.2.2.2.2
def U8 (f:a0->a1->a2->a3->a4->a5->a6->a7->r) (x:a0×a1×a2×a3×a4×a5×a6×a7):r:=f x.1 x.2.1 x.2.2.1 x.2.2.2.1 x.2.2.2.2.1 x.2.2.2.2.2.1 x.2.2.2.2.2.2.1 x.2.2.2.2.2.2.2
def U9 (f:a0->a1->a2->a3->a4->a5->a6->a7->a8->r) (x:a0×a1×a2×a3×a4×a5×a6×a7×a8):r:=f x.1 x.2.1 x.2.2.1 x.2.2.2.1 x.2.2.2.2.1 x.2.2.2.2.2.1 x.2.2.2.2.2.2.1 x.2.2.2.2.2.2.2.1 x.2.2.2.2.2.2.2.2
def U10 (f:a0->a1->a2->a3->a4->a5->a6->a7->a8->a9->r) (x:a0×a1×a2×a3×a4×a5×a6×a7×a8×a9):r:=f x.1 x.2.1 x.2.2.1 x.2.2.2.1 x.2.2.2.2.1 x.2.2.2.2.2.1 x.2.2.2.2.2.2.1 x.2.2.2.2.2.2.2.1 x.2.2.2.2.2.2.2.2.1 x.2.2.2.2.2.2.2.2.2
def U11 (f:a0->a1->a2->a3->a4->a5->a6->a7->a8->a9->a10->r) (x:a0×a1×a2×a3×a4×a5×a6×a7×a8×a9×a10):r:=f x.1 x.2.1 x.2.2.1 x.2.2.2.1 x.2.2.2.2.1 x.2.2.2.2.2.1 x.2.2.2.2.2.2.1 x.2.2.2.2.2.2.2.1 x.2.2.2.2.2.2.2.2.1 x.2.2.2.2.2.2.2.2.2.1 x.2.2.2.2.2.2.2.2.2.2
def U12 (f:a0->a1->a2->a3->a4->a5->a6->a7->a8->a9->a10->a11->r) (x:a0×a1×a2×a3×a4×a5×a6×a7×a8×a9×a10×a11):r:=f x.1 x.2.1 x.2.2.1 x.2.2.2.1 x.2.2.2.2.1 x.2.2.2.2.2.1 x.2.2.2.2.2.2.1 x.2.2.2.2.2.2.2.1 x.2.2.2.2.2.2.2.2.1 x.2.2.2.2.2.2.2.2.2.1 x.2.2.2.2.2.2.2.2.2.2.1 x.2.2.2.2.2.2.2.2.2.2.2
def U13 (f:a0->a1->a2->a3->a4->a5->a6->a7->a8->a9->a10->a11->a12->r) (x:a0×a1×a2×a3×a4×a5×a6×a7×a8×a9×a10×a11×a12):r:=f x.1 x.2.1 x.2.2.1 x.2.2.2.1 x.2.2.2.2.1 x.2.2.2.2.2.1 x.2.2.2.2.2.2.1 x.2.2.2.2.2.2.2.1 x.2.2.2.2.2.2.2.2.1 x.2.2.2.2.2.2.2.2.2.1 x.2.2.2.2.2.2.2.2.2.2.1 x.2.2.2.2.2.2.2.2.2.2.2.1 x.2.2.2.2.2.2.2.2.2.2.2.2
def U19 (f:a0->a1->a2->a3->a4->a5->a6->a7->a8->a9->a10->a11->a12->a13->a14->a15->a16->a17->a18->r) (x:a0×a1×a2×a3×a4×a5×a6×a7×a8×a9×a10×a11×a12×a13×a14×a15×a16×a17×a18):r:=f x.1 x.2.1 x.2.2.1 x.2.2.2.1 x.2.2.2.2.1 x.2.2.2.2.2.1 x.2.2.2.2.2.2.1 x.2.2.2.2.2.2.2.1 x.2.2.2.2.2.2.2.2.1 x.2.2.2.2.2.2.2.2.2.1 x.2.2.2.2.2.2.2.2.2.2.1 x.2.2.2.2.2.2.2.2.2.2.2.1 x.2.2.2.2.2.2.2.2.2.2.2.2.1 x.2.2.2.2.2.2.2.2.2.2.2.2.2.1 x.2.2.2.2.2.2.2.2.2.2.2.2.2.2.1 x.2.2.2.2.2.2.2.2.2.2.2.2.2.2.2.1 x.2.2.2.2.2.2.2.2.2.2.2.2.2.2.2.2.1 x.2.2.2.2.2.2.2.2.2.2.2.2.2.2.2.2.2.1 x.2.2.2.2.2.2.2.2.2.2.2.2.2.2.2.2.2.2
def U20 (f:a0->a1->a2->a3->a4->a5->a6->a7->a8->a9->a10->a11->a12->a13->a14->a15->a16->a17->a18->a19->r) (x:a0×a1×a2×a3×a4×a5×a6×a7×a8×a9×a10×a11×a12×a13×a14×a15×a16×a17×a18×a19):r:=f x.1 x.2.1 x.2.2.1 x.2.2.2.1 x.2.2.2.2.1 x.2.2.2.2.2.1 x.2.2.2.2.2.2.1 x.2.2.2.2.2.2.2.1 x.2.2.2.2.2.2.2.2.1 x.2.2.2.2.2.2.2.2.2.1 x.2.2.2.2.2.2.2.2.2.2.1 x.2.2.2.2.2.2.2.2.2.2.2.1 x.2.2.2.2.2.2.2.2.2.2.2.2.1 x.2.2.2.2.2.2.2.2.2.2.2.2.2.1 x.2.2.2.2.2.2.2.2.2.2.2.2.2.2.1 x.2.2.2.2.2.2.2.2.2.2.2.2.2.2.2.1 x.2.2.2.2.2.2.2.2.2.2.2.2.2.2.2.2.1 x.2.2.2.2.2.2.2.2.2.2.2.2.2.2.2.2.2.1 x.2.2.2.2.2.2.2.2.2.2.2.2.2.2.2.2.2.2.1 x.2.2.2.2.2.2.2.2.2.2.2.2.2.2.2.2.2.2.2
def U21 (f:a0->a1->a2->a3->a4->a5->a6->a7->a8->a9->a10->a11->a12->a13->a14->a15->a16->a17->a18->a19->a20->r) (x:a0×a1×a2×a3×a4×a5×a6×a7×a8×a9×a10×a11×a12×a13×a14×a15×a16×a17×a18×a19×a20):r:=f x.1 x.2.1 x.2.2.1 x.2.2.2.1 x.2.2.2.2.1 x.2.2.2.2.2.1 x.2.2.2.2.2.2.1 x.2.2.2.2.2.2.2.1 x.2.2.2.2.2.2.2.2.1 x.2.2.2.2.2.2.2.2.2.1 x.2.2.2.2.2.2.2.2.2.2.1 x.2.2.2.2.2.2.2.2.2.2.2.1 x.2.2.2.2.2.2.2.2.2.2.2.2.1 x.2.2.2.2.2.2.2.2.2.2.2.2.2.1 x.2.2.2.2.2.2.2.2.2.2.2.2.2.2.1 x.2.2.2.2.2.2.2.2.2.2.2.2.2.2.2.1 x.2.2.2.2.2.2.2.2.2.2.2.2.2.2.2.2.1 x.2.2.2.2.2.2.2.2.2.2.2.2.2.2.2.2.2.1 x.2.2.2.2.2.2.2.2.2.2.2.2.2.2.2.2.2.2.1 x.2.2.2.2.2.2.2.2.2.2.2.2.2.2.2.2.2.2.2.1 x.2.2.2.2.2.2.2.2.2.2.2.2.2.2.2.2.2.2.2.2
def U22 (f:a0->a1->a2->a3->a4->a5->a6->a7->a8->a9->a10->a11->a12->a13->a14->a15->a16->a17->a18->a19->a20->a21->r) (x:a0×a1×a2×a3×a4×a5×a6×a7×a8×a9×a10×a11×a12×a13×a14×a15×a16×a17×a18×a19×a20×a21):r:=f x.1 x.2.1 x.2.2.1 x.2.2.2.1 x.2.2.2.2.1 x.2.2.2.2.2.1 x.2.2.2.2.2.2.1 x.2.2.2.2.2.2.2.1 x.2.2.2.2.2.2.2.2.1 x.2.2.2.2.2.2.2.2.2.1 x.2.2.2.2.2.2.2.2.2.2.1 x.2.2.2.2.2.2.2.2.2.2.2.1 x.2.2.2.2.2.2.2.2.2.2.2.2.1 x.2.2.2.2.2.2.2.2.2.2.2.2.2.1 x.2.2.2.2.2.2.2.2.2.2.2.2.2.2.1 x.2.2.2.2.2.2.2.2.2.2.2.2.2.2.2.1 x.2.2.2.2.2.2.2.2.2.2.2.2.2.2.2.2.1 x.2.2.2.2.2.2.2.2.2.2.2.2.2.2.2.2.2.1 x.2.2.2.2.2.2.2.2.2.2.2.2.2.2.2.2.2.2.1 x.2.2.2.2.2.2.2.2.2.2.2.2.2.2.2.2.2.2.2.1 x.2.2.2.2.2.2.2.2.2.2.2.2.2.2.2.2.2.2.2.2.1 x.2.2.2.2.2.2.2.2.2.2.2.2.2.2.2.2.2.2.2.2.2
def U28 (f:a0->a1->a2->a3->a4->a5->a6->a7->a8->a9->a10->a11->a12->a13->a14->a15->a16->a17->a18->a19->a20->a21->a22->a23->a24->a25->a26->a27->r) (x:a0×a1×a2×a3×a4×a5×a6×a7×a8×a9×a10×a11×a12×a13×a14×a15×a16×a17×a18×a19×a20×a21×a22×a23×a24×a25×a26×a27):r:=f x.1 x.2.1 x.2.2.1 x.2.2.2.1 x.2.2.2.2.1 x.2.2.2.2.2.1 x.2.2.2.2.2.2.1 x.2.2.2.2.2.2.2.1 x.2.2.2.2.2.2.2.2.1 x.2.2.2.2.2.2.2.2.2.1 x.2.2.2.2.2.2.2.2.2.2.1 x.2.2.2.2.2.2.2.2.2.2.2.1 x.2.2.2.2.2.2.2.2.2.2.2.2.1 x.2.2.2.2.2.2.2.2.2.2.2.2.2.1 x.2.2.2.2.2.2.2.2.2.2.2.2.2.2.1 x.2.2.2.2.2.2.2.2.2.2.2.2.2.2.2.1 x.2.2.2.2.2.2.2.2.2.2.2.2.2.2.2.2.1 x.2.2.2.2.2.2.2.2.2.2.2.2.2.2.2.2.2.1 x.2.2.2.2.2.2.2.2.2.2.2.2.2.2.2.2.2.2.1 x.2.2.2.2.2.2.2.2.2.2.2.2.2.2.2.2.2.2.2.1 x.2.2.2.2.2.2.2.2.2.2.2.2.2.2.2.2.2.2.2.2.1 x.2.2.2.2.2.2.2.2.2.2.2.2.2.2.2.2.2.2.2.2.2.1 x.2.2.2.2.2.2.2.2.2.2.2.2.2.2.2.2.2.2.2.2.2.2.1 x.2.2.2.2.2.2.2.2.2.2.2.2.2.2.2.2.2.2.2.2.2.2.2.1 x.2.2.2.2.2.2.2.2.2.2.2.2.2.2.2.2.2.2.2.2.2.2.2.2.1 x.2.2.2.2.2.2.2.2.2.2.2.2.2.2.2.2.2.2.2.2.2.2.2.2.2.1 x.2.2.2.2.2.2.2.2.2.2.2.2.2.2.2.2.2.2.2.2.2.2.2.2.2.2.1 x.2.2.2.2.2.2.2.2.2.2.2.2.2.2.2.2.2.2.2.2.2.2.2.2.2.2.2
abbrev CY {a b c d e:Type} (x:a×b×c×d×e):e:=x.2.2.2.2
abbrev CZ {a b c d e f g h i:Type} (x:a×b×c×d×e×f×g×h×i):i:=x.2.2.2.2.2.2.2.2
abbrev Dc {a b c d e f g h i j k l m:Type} (x:a×b×c×d×e×f×g×h×i×j×k×l×m):m:=x.2.2.2.2.2.2.2.2.2.2.2.2
abbrev Df {a b c d e f g h i j k l m n o p q:Type} (x:a×b×c×d×e×f×g×h×i×j×k×l×m×n×o×p×q):q:=x.2.2.2.2.2.2.2.2.2.2.2.2.2.2.2.2
abbrev Dh {a b c d e f g h i j k l m n o p q r s t u:Type} (x:a×b×c×d×e×f×g×h×i×j×k×l×m×n×o×p×q×r×s×t×u):u:=x.2.2.2.2.2.2.2.2.2.2.2.2.2.2.2.2.2.2.2.2
abbrev Di {a b c d e f g h i j k l m n o p q r s t u v w x y:Type} (x:a×b×c×d×e×f×g×h×i×j×k×l×m×n×o×p×q×r×s×t×u×v×w×x×y):y:=x.2.2.2.2.2.2.2.2.2.2.2.2.2.2.2.2.2.2.2.2.2.2.2.2
abbrev Dj {a b c d e f g h i j k l m n o p q r s t u v w x y z A B C:Type} (x:a×b×c×d×e×f×g×h×i×j×k×l×m×n×o×p×q×r×s×t×u×v×w×x×y×z×A×B×C):C:=x.2.2.2.2.2.2.2.2.2.2.2.2.2.2.2.2.2.2.2.2.2.2.2.2.2.2.2.2
abbrev Aa {ρ:Type} (b:Bool) (k:Option ρ):Option ρ:=chk (b||!b) k
abbrev Ac {ρ:Type} (b:Bool) (k:Option ρ):Option ρ:=Aa b (Aa b k)
abbrev Ad {ρ:Type} (b:Bool) (k:Option ρ):Option ρ:=Aa b (Ac b k)
abbrev Ae {ρ:Type} (b:Bool) (k:Option ρ):Option ρ:=Aa b (Ad b k)
abbrev Af {ρ:Type} (b:Bool) (k:Option ρ):Option ρ:=Aa b (Ae b k)
abbrev Ag {ρ:Type} (b:Bool) (k:Option ρ):Option ρ:=Aa b (Af b k)
abbrev Ah {ρ:Type} (b:Bool) (k:Option ρ):Option ρ:=chk (bif b then b else true) (chk (bif b then true else true) k)
abbrev Ai {ρ:Type} (b:Bool) (k:Option ρ):Option ρ:=chk (bif b then true else !b) (chk (bif b then true else true) k)
abbrev Aj {ρ:Type} (i:Int) (n:Nat) (k:Option ρ):Option ρ:=chk (decide (0<=i)) (chk (decide (i<(n:Int))) k)
abbrev Ak {ρ:Type} (p:Prop) [Decidable p] (k:Option ρ):Option ρ:=chk (decide p) k
abbrev Am {ρ:Type} (n:Nat) (k:Option ρ):Option ρ:=chk (decide (n<=140737488355328)) k
end
open Go.RowKit
def Below.moves {O:Own} {T:Nat->Prop} {w w':World} (h:Below w.heap.size w w'):Moves O T w w':=⟨h.os,h.tape,h.output,h.size,λb hb=>.inl (h.block b hb)⟩
noncomputable def SK (e N:Nat):Sig:=.of [.cell false (.sl e (.str .nil)),.cell false .str] [.cell false .str] (λa=>strings_Join N a.1 a.2)
def SV {O:Own} {w:World} {v:Value} {s:List UInt8} (h:J5 O w v (.str s)):v= .string ⟨s.toArray⟩:=by
 cases h with
 | str s=>simp_all[Own,J5]
def eX {O:Own} {w w':World} {vs:Array Value} {e N:Nat} {s:List UInt8} (hb:Below w.heap.size w w'):Came O w vs (SK e N) [.str s] (.string ⟨s.toArray⟩) O w':=by
 refine⟨Below.moves hb,λb k _ h=>h,λb k _ h=>h,rfl,⟨#[.string ⟨s.toArray⟩],rfl,rfl,λk hk=> ?_⟩,λj i hj=> ?_⟩
 .have hk0:k=0:=by simp at hk;omega
  subst hk0;show J5 O w' (.string ⟨s.toArray⟩) (.str s);exact J5.str (O:=O) (w:=w') ⟨s.toArray⟩
 .exact absurd hj (by show(Le [.cell false (.sl e (.str .nil)),.cell false .str] 0)[j]? ≠some i;simp [Le,KE])
def AkH (P:Program) (f:FuncId):Prop :=
 (∀(a:Option Addr) (c:Nat) (sep:ByteArray) (w:World),Calls P f #[.slice a 0 c,.string sep] w λe w'=>e= .returned (.string ⟨#[]⟩)/\w'=w) /\
 (∀(bk o c:Nat) (xs:List ByteArray) (sep:ByteArray) (w:World),(∀(j:Nat) x,xs[j]? =some x->w.cell? ⟨bk,o+j,none⟩=some (.string x))->bk<w.heap.size->xs.length<=140737488355328->xs.length<=c->(Lib.join (xs.map (·.data.toList)) sep.data.toList).length<=140737488355328 ->
   Calls P f #[.slice (some ⟨bk,o,none⟩) xs.length c,.string sep] w λe w'=>e= .returned (.string ⟨(Lib.join (xs.map (·.data.toList)) sep.data.toList).toArray⟩)/\Below w.heap.size w w')
def Ae4 {P:Program} {f:FuncId} {e N:Nat} (H:AkH P f) {O:Own} {w:World} {vs:Array Value} (l:List Bs) (sep o:Bs) (hl2:vs.size=2) (hx0:J5 O w (vs.getD 0 undef) (.sl ⟨.str .nil,l⟩)) (hx1:J5 O w (vs.getD 1 undef) (.str sep)) (h2':strings_Join N l sep=some o) :
 Calls P f vs w λe' w'=> ∃ v O',e'= .returned v/\Came O w vs (SK e N) [.str o] v O' w':=by
 obtain⟨hn,hj⟩:=H
 have hvs:vs= #[vs.getD 0 undef,vs.getD 1 undef]:=by
  apply FC
  .simpa using hl2
  .intro i h1 h2;have:i=0\/i=1:=by simp at h2;omega
   rcases this with rfl | rfl
   .simp [Dv,h1]
   .simp [Dv,h1]
 rw[SV hx1]at hvs;unfold strings_Join at h2';cases hc:(decide (l.length<=140737488355328)&&decide ((sep.intercalate l).length<=140737488355328))with
 | false=>rw[hc]at h2';cases h2'
 | true =>
  rw[hc]at h2';injection h2' with h2';rw[Dw,D6,D6]at hc;subst h2';have hes0:(⟨.str .nil,l⟩:Sl).es=l.map (λs:Bs=>[A.str s]):=rfl;generalize hv0:vs.getD 0 undef=v0 at *
  have hnil:l=[]-> ∀ a c,v0= .slice a 0 c->Calls P f vs w λe' w'=> ∃ v O',e'= .returned v/\Came O w vs (SK e N) [.str (sep.intercalate l)] v O' w':=by
   intro hl0 a c hv0';have:=hn a c ⟨sep.toArray⟩ w;rw[<- hv0',<- hvs]at this;refine this.mono λe' w' hq=> ?_;obtain⟨h4,h5⟩:=hq;subst h5;refine⟨_,O,h4,?_⟩;have:sep.intercalate l=[]:=by rw[hl0];rfl
   rw[this];exact eX (Below.refl _ _)
  have hsz:(⟨.str .nil,l⟩:Sl).sz=1:=rfl;generalize hL:(⟨.str .nil,l⟩:Sl)=L at hx0 hes0 hsz;have hlen:L.es.length=l.length:=by rw[hes0,D5]
  have hes: ∀ j:Nat,L.es[j]? =(l[j]?).map (λs=>[A.str s]):=λj=>by rw[hes0,Ep]
  cases hx0 with
  | nil t =>
   have:l=[]:=by injection hL with h1 h2;subst h1;exact I4 h2
   exact hnil this _ _ rfl
  | sl0 ad t =>
   have:l=[]:=by injection hL with h1 h2;subst h1;exact I4 h2
   exact hnil this _ _ rfl
  | @sl b off cap l' vs' hcap hm hr =>
   cases hl0:l with
   | nil=>rw[<- hl0];exact hnil hl0 _ cap (by rw[hlen,hl0];rfl)
   | cons s0 r =>
    have hb:b<w.heap.size:=by have:=(hm 0 0 (by rw[hlen,hl0];simp) (by omega)).2;exact cell_lt this
    rw[<- hl0]
    have hmap:(l.map (λs=>(⟨s.toArray⟩:ByteArray))).map (·.data.toList)=l:=by
     rw[ES]
     conv=>rhs;rw[<- Gf l]
     refine Eu λs _=> ?_;simp
    have hJ:=hj b off cap (l.map (λs=>(⟨s.toArray⟩:ByteArray))) ⟨sep.toArray⟩ w (λj x hjx=>by
     rw[Ep]at hjx;cases hlj:l[j]? with
     | none=>rw[hlj]at hjx;cases hjx
     | some s =>
      rw[hlj]at hjx;injection hjx with hjx
      have hjl:j<L.es.length:=by
       rw[hlen];rcases Eh j l.length with h | h
       .exact h
       .rw[Ed h]at hlj;cases hlj
      have hm1:=(hm j 0 hjl (by omega)).2;have hr1:=hr j 0 hjl (by omega);rw[Dn (l:=L.es),hes,hlj]at hr1;have:=SV (show J5 O w (vs' j 0) (.str s)from hr1);rw[this]at hm1;rw[<- hjx];have e1:off+(j*L.sz+0)=off+j:=by rw[hsz];omega
      rw[e1]at hm1;exact hm1) hb (by rw[D5];exact hc.1) (by rw[D5,<- hlen];exact hcap) (by rw[hmap];show(List.intercalate _ l).length<=_;simpa using hc.2)
    rw[D5,hmap,<- hlen,<- hvs]at hJ;refine hJ.mono λe' w' hq=> ?_;have e2:Lib.join l (⟨sep.toArray⟩:ByteArray).data.toList=sep.intercalate l:=by show List.intercalate _ l=_;simp
    rw[e2]at hq;exact⟨_,O,hq.1,eX hq.2⟩
def Agt {P:Program} {f:FuncId} {e N:Nat} (hent: ∀ args w,(callFunc f args).run P w= .ok (.enter f args) w) (H:AkH P f):Spec P f (SK e N):=by refine⟨hent,λO w vs xs rs _ hv hl _ hx hrs=> ?_⟩;obtain⟨a,o,h1,h2,h3⟩:=Sig.XR hrs;subst h1;have h3':rs=[.str o]:=h3;rw[h3'];exact Ae4 H a.1 a.2 o hv (hx 0 (by show 0<2;omega)) (hx 1 (by show 1<2;omega)) h2
end Go.Proofs.YtacidcemomccpaaGreatDoor.Vm
namespace Go.Proofs
theorem A0m {α:Type} {o:Option α} {a b:α} (h:o=some a) (e:a=b:=by kernel_rfl):o=some b:=h.trans (congrArg some e)
open Go.Shelf
def Tryz.lays156_ren:Go.Shelf.Ren:=⟨λ| 156=>178 | 165=>248 | 166=>249 | 169=>250 | 240=>306 | 241=>307 | 276=>332 | 277=>333 | n=>n,λ| 31=>27 | 9=>9 | 3=>3 | 4=>4 | 0=>0 | 20=>20 | 72=>247 | 76=>251 | 70=>245 | 37=>154 | 75=>250 | 127=>292 | 164=>308 | 5=>5 | 80=>124 | n=>n,λ| n=>n⟩
def Tryz.lays156:Go.Proofs.Lays.n156 Tryz.prog Tryz.lays156_ren:= {
 mixed:=by kernel_rfl
 f156:=A0m Tryz.func178
 f165:=A0m Tryz.func248
 f166:=A0m Tryz.func249
 f169:=A0m Tryz.func250
 f240:=A0m Tryz.func306
 f241:=A0m Tryz.func307
 f276:=A0m Tryz.func332
 f277:=A0m Tryz.func333
 t0:=Tryz.underlying0
 a0:=Tryz.isAgg0
 z0:=Tryz.sizeOf0
 v0:=Tryz.zeroValue0
 t3:=Tryz.underlying3
 a3:=Tryz.isAgg3
 z3:=Tryz.sizeOf3
 v3:=Tryz.zeroValue3
 t4:=Tryz.underlying4
 a4:=Tryz.isAgg4
 z4:=Tryz.sizeOf4
 v4:=Tryz.zeroValue4
 t9:=Tryz.underlying9
 a9:=Tryz.isAgg9
 z9:=Tryz.sizeOf9
 v9:=Tryz.zeroValue9
 t20:=Tryz.underlying20
 a20:=Tryz.isAgg20
 z20:=Tryz.sizeOf20
 v20:=Tryz.zeroValue20
 t31:=Tryz.underlying27
 a31:=Tryz.isAgg27
 z31:=Tryz.sizeOf27
 v31:=Tryz.zeroValue27
 t37:=Tryz.underlying154
 a37:=Tryz.isAgg154
 z37:=Tryz.sizeOf154
 v37:=Tryz.zeroValue154
 t70:=Tryz.underlying245
 a70:=Tryz.isAgg245
 z70:=Tryz.sizeOf245
 v70:=Tryz.zeroValue245
 t72:=Tryz.underlying247
 a72:=Tryz.isAgg247
 z72:=Tryz.sizeOf247
 v72:=Tryz.zeroValue247
 t75:=Tryz.underlying250
 a75:=Tryz.isAgg250
 z75:=Tryz.sizeOf250
 v75:=Tryz.zeroValue250
 t76:=Tryz.underlying251
 a76:=Tryz.isAgg251
 z76:=Tryz.sizeOf251
 v76:=Tryz.zeroValue251
 t127:=Tryz.underlying292
 a127:=Tryz.isAgg292
 z127:=Tryz.sizeOf292
 v127:=Tryz.zeroValue292
 t164:=Tryz.underlying308
 a164:=Tryz.isAgg308
 z164:=Tryz.sizeOf308
 v164:=Tryz.zeroValue308}
def Tryz.Builder_Extra_156:Builder.Extra Tryz.prog Tryz.lays156_ren:= {
 sizeBuilder:=by kernel_rfl
 liesBuilder:=by kernel_rfl
 t5:=Tryz.underlying5
 a5:=Tryz.isAgg5
 z5:=Tryz.sizeOf5
 v5:=Tryz.zeroValue5
 infoByte:=by kernel_rfl
 cellsByte:=by kernel_rfl
 sizeByte:=by kernel_rfl
 neB5:=by decide}
open Go.RowKit in
def Tryz.strings_Join_none (a:Option Addr) (c:Nat) (sep:ByteArray) (w:World) :
 Calls Tryz.prog 178 #[.slice a 0 c,.string sep] w λe w'=>e= .returned (.string ⟨#[]⟩)/\w'=w:=Any.strings_Join_none Tryz.lays156 Tryz.Builder_Extra_156 a c sep w
open Go.RowKit in
def Tryz.strings_Join (bk o c:Nat) (xs:List ByteArray) (sep:ByteArray) (w:World) (hcells: ∀(j:Nat) x,xs[j]? =some x->w.cell? ⟨bk,o+j,none⟩=some (.string x)) (hbk:bk<w.heap.size) (hN:xs.length<=140737488355328) (hcap:xs.length<=c) (hlen:(Lib.join (xs.map (·.data.toList)) sep.data.toList).length<=140737488355328) :
 Calls Tryz.prog 178 #[.slice (some ⟨bk,o,none⟩) xs.length c,.string sep] w λe w'=>e= .returned (.string ⟨(Lib.join (xs.map (·.data.toList)) sep.data.toList).toArray⟩)/\Below w.heap.size w w':=Any.strings_Join Tryz.lays156 Tryz.Builder_Extra_156 bk o c xs sep w hcells hbk hN hcap hlen
def Tryz.AnG:Go.Shelf.Ren:=⟨λ| 137=>267 | 217=>315 | 266=>347 | n=>n,λ| 9=>9 | 5=>5 | 3=>3 | n=>n,λ| n=>n⟩
def Tryz.lays137:Go.Proofs.Lays.n137 Tryz.prog Tryz.AnG:= {
 mixed:=by kernel_rfl
 f137:=A0m Tryz.func267
 f217:=A0m Tryz.func315
 f266:=A0m Tryz.func347
 t3:=Tryz.underlying3
 a3:=Tryz.isAgg3
 z3:=Tryz.sizeOf3
 v3:=Tryz.zeroValue3
 t5:=Tryz.underlying5
 a5:=Tryz.isAgg5
 z5:=Tryz.sizeOf5
 v5:=Tryz.zeroValue5
 t9:=Tryz.underlying9
 a9:=Tryz.isAgg9
 z9:=Tryz.sizeOf9
 v9:=Tryz.zeroValue9}
open Go.RowKit in
def Tryz.strings_IndexByte (s:ByteArray) (c:Int) (w:World) :
 Calls Tryz.prog 267 #[.string s,.int .u8 c] w λe w'=>e= .returned (.int .i64 (Lib.indexByte s.data.toList c.toNat.toUInt8))/\w'=w:=Any.strings_IndexByte Tryz.lays137 s c w
def Tryz.AnF:Go.Shelf.Ren:=⟨λ| 103=>352 | 210=>373 | 206=>346 | n=>n,λ| 9=>9 | 4=>4 | 24=>322 | 3=>3 | n=>n,λ| n=>n⟩
def Tryz.AwV:Go.Proofs.Lays.n103 Tryz.prog Tryz.AnF:= {
 mixed:=by kernel_rfl
 f103:=A0m Tryz.func352
 f206:=A0m Tryz.func346
 f210:=A0m Tryz.func373
 t3:=Tryz.underlying3
 a3:=Tryz.isAgg3
 z3:=Tryz.sizeOf3
 v3:=Tryz.zeroValue3
 t4:=Tryz.underlying4
 a4:=Tryz.isAgg4
 z4:=Tryz.sizeOf4
 v4:=Tryz.zeroValue4
 t9:=Tryz.underlying9
 a9:=Tryz.isAgg9
 z9:=Tryz.sizeOf9
 v9:=Tryz.zeroValue9
 t24:=Tryz.underlying322
 a24:=Tryz.isAgg322
 z24:=Tryz.sizeOf322
 v24:=Tryz.zeroValue322}
open Go.RowKit in
def Tryz.strings_CutPrefix (s p:ByteArray) (w:World) :
 Calls Tryz.prog 352 #[.string s,.string p] w λe w'=>e= .returned (.tuple #[.string ⟨(Lib.trimPrefix s.data.toList p.data.toList).toArray⟩,.bool (Lib.hasPrefix s.data.toList p.data.toList)])/\w'=w:=Any.strings_CutPrefix Tryz.AwV s p w
def Tryz.AlY:Go.Shelf.Ren:=⟨λ| 171=>296 | 243=>331 | 246=>358 | 283=>376 | 284=>377 | 285=>378 | 286=>379 | 129=>345 | 317=>385 | 318=>386 | 319=>387 | 320=>388 | 337=>393 | 338=>394 | n=>n,λ| 3=>3 | 9=>9 | 2=>2 | 4=>4 | 171=>342 | 0=>0 | 53=>194 | 37=>154 | 5=>5 | 173=>344 | 212=>352 | 51=>152 | 20=>20 | 213=>353 | 46=>141 | 232=>360 | 233=>361 | n=>n,λ| 17=>1 | 18=>4 | 19=>5 | n=>n⟩
def Tryz.laysM171:Go.Proofs.LaysM.n171 Tryz.prog Tryz.AlY:= {
 mixed:=by kernel_rfl
 f129:=A0m Tryz.func345
 f171:=A0m Tryz.func296
 f243:=A0m Tryz.func331
 f246:=A0m Tryz.func358
 f283:=A0m Tryz.func376
 f284:=A0m Tryz.func377
 f285:=A0m Tryz.func378
 f286:=A0m Tryz.func379
 f317:=A0m Tryz.func385
 f318:=A0m Tryz.func386
 f319:=A0m Tryz.func387
 f320:=A0m Tryz.func388
 f337:=A0m Tryz.func393
 f338:=A0m Tryz.func394
 t0:=Tryz.underlying0
 a0:=Tryz.isAgg0
 z0:=Tryz.sizeOf0
 v0:=Tryz.zeroValue0
 t2:=Tryz.underlying2
 a2:=Tryz.isAgg2
 z2:=Tryz.sizeOf2
 v2:=Tryz.zeroValue2
 t3:=Tryz.underlying3
 a3:=Tryz.isAgg3
 z3:=Tryz.sizeOf3
 v3:=Tryz.zeroValue3
 t4:=Tryz.underlying4
 a4:=Tryz.isAgg4
 z4:=Tryz.sizeOf4
 v4:=Tryz.zeroValue4
 t5:=Tryz.underlying5
 a5:=Tryz.isAgg5
 z5:=Tryz.sizeOf5
 v5:=Tryz.zeroValue5
 t9:=Tryz.underlying9
 a9:=Tryz.isAgg9
 z9:=Tryz.sizeOf9
 v9:=Tryz.zeroValue9
 t20:=Tryz.underlying20
 a20:=Tryz.isAgg20
 z20:=Tryz.sizeOf20
 v20:=Tryz.zeroValue20
 t37:=Tryz.underlying154
 a37:=Tryz.isAgg154
 z37:=Tryz.sizeOf154
 v37:=Tryz.zeroValue154
 t46:=Tryz.underlying141
 a46:=Tryz.isAgg141
 z46:=Tryz.sizeOf141
 v46:=Tryz.zeroValue141
 t51:=Tryz.underlying152
 a51:=Tryz.isAgg152
 z51:=Tryz.sizeOf152
 v51:=Tryz.zeroValue152
 t53:=Tryz.underlying194
 a53:=Tryz.isAgg194
 z53:=Tryz.sizeOf194
 v53:=Tryz.zeroValue194
 t171:=Tryz.underlying342
 a171:=Tryz.isAgg342
 z171:=Tryz.sizeOf342
 v171:=Tryz.zeroValue342
 t173:=Tryz.underlying344
 a173:=Tryz.isAgg344
 z173:=Tryz.sizeOf344
 v173:=Tryz.zeroValue344
 t212:=Tryz.underlying352
 a212:=Tryz.isAgg352
 z212:=Tryz.sizeOf352
 v212:=Tryz.zeroValue352
 t213:=Tryz.underlying353
 a213:=Tryz.isAgg353
 z213:=Tryz.sizeOf353
 t232:=Tryz.underlying360
 a232:=Tryz.isAgg360
 z232:=Tryz.sizeOf360
 v232:=Tryz.zeroValue360
 t233:=Tryz.underlying361
 a233:=Tryz.isAgg361
 z233:=Tryz.sizeOf361
 v233:=Tryz.zeroValue361
 g17:=by kernel_rfl
 g18:=by kernel_rfl
 g19:=by kernel_rfl
 i0:=by kernel_rfl
 i2:=by kernel_rfl
 i3:=by kernel_rfl
 i4:=by kernel_rfl
 i5:=by kernel_rfl
 i9:=by kernel_rfl
 i20:=by kernel_rfl
 i37:=by kernel_rfl
 i46:=by kernel_rfl
 i51:=by kernel_rfl
 i53:=by kernel_rfl
 i171:=by kernel_rfl
 i173:=by kernel_rfl
 i212:=by kernel_rfl
 i232:=by kernel_rfl
 i233:=by kernel_rfl
 m17:=by kernel_rfl
 m18:=by kernel_rfl
 m19:=by kernel_rfl}
open Go.RowKit Go.Sort Go.Lib in
def Tryz.strconv_Itoa (n:Int) (h0: -9223372036854775808<=n) (h1:n<=9223372036854775807) (w:World) (htab:Lib.TabIs Tryz.prog w "internal/strconv.uint64pow10" .u64 Lib.pow10Tab) :
 Calls Tryz.prog 296 #[.int .i64 n] w λe w'=>e= .returned (.string ⟨(Lib.itoa n).toArray⟩)/\ ∃ k os,w'=grow (w.drewN k) os:=Any.strconv_Itoa Tryz.laysM171 n h0 h1 w htab
def Tryz.AnH:Go.Shelf.Ren:=⟨λ| 144=>353 | 143=>361 | 219=>383 | 217=>315 | 225=>390 | 224=>391 | 267=>392 | 266=>347 | 314=>395 | n=>n,λ| 9=>9 | 4=>4 | 3=>3 | 5=>5 | 46=>141 | 146=>358 | 51=>152 | n=>n,λ| 1=>0 | n=>n⟩
def Tryz.lays144:Go.Proofs.Lays.n144 Tryz.prog Tryz.AnH:= {
 mixed:=by kernel_rfl
 f143:=A0m Tryz.func361
 f144:=A0m Tryz.func353
 f217:=A0m Tryz.func315
 f219:=A0m Tryz.func383
 f224:=A0m Tryz.func391
 f225:=A0m Tryz.func390
 f266:=A0m Tryz.func347
 f267:=A0m Tryz.func392
 f314:=A0m Tryz.func395
 t3:=Tryz.underlying3
 a3:=Tryz.isAgg3
 z3:=Tryz.sizeOf3
 v3:=Tryz.zeroValue3
 t4:=Tryz.underlying4
 a4:=Tryz.isAgg4
 z4:=Tryz.sizeOf4
 v4:=Tryz.zeroValue4
 t5:=Tryz.underlying5
 a5:=Tryz.isAgg5
 z5:=Tryz.sizeOf5
 v5:=Tryz.zeroValue5
 t9:=Tryz.underlying9
 a9:=Tryz.isAgg9
 z9:=Tryz.sizeOf9
 v9:=Tryz.zeroValue9
 t46:=Tryz.underlying141
 a46:=Tryz.isAgg141
 z46:=Tryz.sizeOf141
 v46:=Tryz.zeroValue141
 t51:=Tryz.underlying152
 a51:=Tryz.isAgg152
 z51:=Tryz.sizeOf152
 v51:=Tryz.zeroValue152
 t146:=Tryz.underlying358
 a146:=Tryz.isAgg358
 z146:=Tryz.sizeOf358
 v146:=Tryz.zeroValue358
 g1:=by kernel_rfl}
open Go.RowKit Go.Lib in
def Tryz.strings_Contains (s sub:ByteArray) (m:Int) (w:World) (hs:s.size<4294967281) (hm:w.cell? ⟨0,0,none⟩=some (.int .i64 m)) :
 Calls Tryz.prog 353 #[.string s,.string sub] w λe w'=>e= .returned (.bool (Lib.contains s.data.toList sub.data.toList))/\w'=w:=Any.strings_Contains Tryz.lays144 s sub m w hs hm
def Tryz.AnI:Go.Shelf.Ren:=⟨λ| 145=>350 | 220=>370 | 219=>383 | 217=>315 | 225=>390 | 224=>391 | 267=>392 | 266=>347 | 314=>395 | n=>n,λ| 9=>9 | 4=>4 | 59=>299 | 3=>3 | 5=>5 | 46=>141 | 146=>358 | 51=>152 | n=>n,λ| 1=>0 | n=>n⟩
def Tryz.lays145:Go.Proofs.Lays.n145 Tryz.prog Tryz.AnI:= {
 mixed:=by kernel_rfl
 f145:=A0m Tryz.func350
 f217:=A0m Tryz.func315
 f219:=A0m Tryz.func383
 f220:=A0m Tryz.func370
 f224:=A0m Tryz.func391
 f225:=A0m Tryz.func390
 f266:=A0m Tryz.func347
 f267:=A0m Tryz.func392
 f314:=A0m Tryz.func395
 t3:=Tryz.underlying3
 a3:=Tryz.isAgg3
 z3:=Tryz.sizeOf3
 v3:=Tryz.zeroValue3
 t4:=Tryz.underlying4
 a4:=Tryz.isAgg4
 z4:=Tryz.sizeOf4
 v4:=Tryz.zeroValue4
 t5:=Tryz.underlying5
 a5:=Tryz.isAgg5
 z5:=Tryz.sizeOf5
 v5:=Tryz.zeroValue5
 t9:=Tryz.underlying9
 a9:=Tryz.isAgg9
 z9:=Tryz.sizeOf9
 v9:=Tryz.zeroValue9
 t46:=Tryz.underlying141
 a46:=Tryz.isAgg141
 z46:=Tryz.sizeOf141
 v46:=Tryz.zeroValue141
 t51:=Tryz.underlying152
 a51:=Tryz.isAgg152
 z51:=Tryz.sizeOf152
 v51:=Tryz.zeroValue152
 t59:=Tryz.underlying299
 a59:=Tryz.isAgg299
 z59:=Tryz.sizeOf299
 v59:=Tryz.zeroValue299
 t146:=Tryz.underlying358
 a146:=Tryz.isAgg358
 z146:=Tryz.sizeOf358
 v146:=Tryz.zeroValue358
 g1:=by kernel_rfl}
open Go.RowKit Go.Lib in
def Tryz.strings_Cut (s sep:ByteArray) (m:Int) (w:World) (hs:s.size<4294967281) (hm:w.cell? ⟨0,0,none⟩=some (.int .i64 m)) :
 Calls Tryz.prog 350 #[.string s,.string sep] w λe w'=>e= .returned (.tuple #[.string ⟨(Lib.cut s.data.toList sep.data.toList).1.toArray⟩,.string ⟨(Lib.cut s.data.toList sep.data.toList).2.1.toArray⟩,.bool (Lib.cut s.data.toList sep.data.toList).2.2])/\ ∃ n,w'=w.drewN n:=Any.strings_Cut Tryz.lays145 s sep m w hs hm
def Tryz.lays192_ren:Go.Shelf.Ren:=⟨λ| 192=>184 | 190=>254 | 125=>312 | 258=>311 | 128=>344 | 129=>345 | 302=>335 | 303=>336 | 304=>337 | 305=>338 | 306=>339 | 307=>340 | 308=>341 | 309=>342 | 310=>343 | 333=>362 | 329=>363 | 330=>364 | 334=>365 | 335=>366 | 336=>367 | 344=>384 | n=>n,λ| 31=>27 | 0=>0 | 9=>9 | 3=>3 | 46=>141 | 51=>152 | 53=>194 | 4=>4 | 183=>314 | 182=>313 | 131=>139 | 5=>5 | 218=>335 | 222=>237 | 228=>348 | 229=>349 | n=>n,λ| n=>n⟩
def Tryz.lays192:Go.Proofs.Lays.n192 Tryz.prog Tryz.lays192_ren:= {
 mixed:=by kernel_rfl
 f125:=A0m Tryz.func312
 f128:=A0m Tryz.func344
 f129:=A0m Tryz.func345
 f190:=A0m Tryz.func254
 f192:=A0m Tryz.func184
 f258:=A0m Tryz.func311
 f302:=A0m Tryz.func335
 f303:=A0m Tryz.func336
 f304:=A0m Tryz.func337
 f305:=A0m Tryz.func338
 f306:=A0m Tryz.func339
 f307:=A0m Tryz.func340
 f308:=A0m Tryz.func341
 f309:=A0m Tryz.func342
 f310:=A0m Tryz.func343
 f329:=A0m Tryz.func363
 f330:=A0m Tryz.func364
 f333:=A0m Tryz.func362
 f334:=A0m Tryz.func365
 f335:=A0m Tryz.func366
 f336:=A0m Tryz.func367
 f344:=A0m Tryz.func384
 t0:=Tryz.underlying0
 a0:=Tryz.isAgg0
 z0:=Tryz.sizeOf0
 v0:=Tryz.zeroValue0
 t3:=Tryz.underlying3
 a3:=Tryz.isAgg3
 z3:=Tryz.sizeOf3
 v3:=Tryz.zeroValue3
 t4:=Tryz.underlying4
 a4:=Tryz.isAgg4
 z4:=Tryz.sizeOf4
 v4:=Tryz.zeroValue4
 t5:=Tryz.underlying5
 a5:=Tryz.isAgg5
 z5:=Tryz.sizeOf5
 v5:=Tryz.zeroValue5
 t9:=Tryz.underlying9
 a9:=Tryz.isAgg9
 z9:=Tryz.sizeOf9
 v9:=Tryz.zeroValue9
 t31:=Tryz.underlying27
 a31:=Tryz.isAgg27
 z31:=Tryz.sizeOf27
 v31:=Tryz.zeroValue27
 t46:=Tryz.underlying141
 a46:=Tryz.isAgg141
 z46:=Tryz.sizeOf141
 v46:=Tryz.zeroValue141
 t51:=Tryz.underlying152
 a51:=Tryz.isAgg152
 z51:=Tryz.sizeOf152
 v51:=Tryz.zeroValue152
 t53:=Tryz.underlying194
 a53:=Tryz.isAgg194
 z53:=Tryz.sizeOf194
 v53:=Tryz.zeroValue194
 t131:=Tryz.underlying139
 a131:=Tryz.isAgg139
 z131:=Tryz.sizeOf139
 v131:=Tryz.zeroValue139
 t182:=Tryz.underlying313
 a182:=Tryz.isAgg313
 z182:=Tryz.sizeOf313
 v182:=Tryz.zeroValue313
 t183:=Tryz.underlying314
 a183:=Tryz.isAgg314
 z183:=Tryz.sizeOf314
 v183:=Tryz.zeroValue314
 t218:=Tryz.underlying335
 a218:=Tryz.isAgg335
 z218:=Tryz.sizeOf335
 v218:=Tryz.zeroValue335
 t222:=Tryz.underlying237
 a222:=Tryz.isAgg237
 z222:=Tryz.sizeOf237
 v222:=Tryz.zeroValue237
 t228:=Tryz.underlying348
 a228:=Tryz.isAgg348
 z228:=Tryz.sizeOf348
 v228:=Tryz.zeroValue348
 t229:=Tryz.underlying349
 a229:=Tryz.isAgg349
 z229:=Tryz.sizeOf349
 v229:=Tryz.zeroValue349}
open Go.Sort Go.RowKit in
def Tryz.sort_Strings (blk off cap:Nat) (ss:List (List UInt8)) (w:World) (hH:Holds encStr w blk off ss.toArray) (hblk:blk<w.heap.size) (hsz:ss.length<4611686018427387904) :
 Calls Tryz.prog 184 #[.slice (some ⟨blk,off,none⟩) ss.length cap] w λe w' =>
  e= .returned (.tuple #[])/\ ∃ n os,w'=grow (putRow encStr (Sort.ahead w n) blk off (ss.mergeSort λx y=>decide (x<=y)).toArray) os:=Any.sort_Strings Tryz.lays192 blk off cap ss w hH hblk hsz
def Tryz.lays99_ren:Go.Shelf.Ren:=⟨λ| 99=>314 | 206=>346 | n=>n,λ| 9=>9 | 4=>4 | 3=>3 | n=>n,λ| n=>n⟩
def Tryz.lays99:Go.Proofs.Lays.n99 Tryz.prog Tryz.lays99_ren:= {
 mixed:=by kernel_rfl
 f99:=A0m Tryz.func314
 f206:=A0m Tryz.func346
 t3:=Tryz.underlying3
 a3:=Tryz.isAgg3
 z3:=Tryz.sizeOf3
 v3:=Tryz.zeroValue3
 t4:=Tryz.underlying4
 a4:=Tryz.isAgg4
 z4:=Tryz.sizeOf4
 v4:=Tryz.zeroValue4
 t9:=Tryz.underlying9
 a9:=Tryz.isAgg9
 z9:=Tryz.sizeOf9
 v9:=Tryz.zeroValue9}
open Go.RowKit Go.Lib in
def Tryz.strings_HasPrefix (s p:ByteArray) (w:World) :
 Calls Tryz.prog 314 #[.string s,.string p] w λe w'=>e= .returned (.bool (Lib.hasPrefix s.data.toList p.data.toList))/\w'=w:=Any.strings_HasPrefix Tryz.lays99 s p w
def Tryz.lays101_ren:Go.Shelf.Ren:=⟨λ| 101=>349 | 208=>369 | 206=>346 | n=>n,λ| 9=>9 | 4=>4 | 3=>3 | n=>n,λ| n=>n⟩
def Tryz.lays101:Go.Proofs.Lays.n101 Tryz.prog Tryz.lays101_ren:= {
 mixed:=by kernel_rfl
 f101:=A0m Tryz.func349
 f206:=A0m Tryz.func346
 f208:=A0m Tryz.func369
 t3:=Tryz.underlying3
 a3:=Tryz.isAgg3
 z3:=Tryz.sizeOf3
 v3:=Tryz.zeroValue3
 t4:=Tryz.underlying4
 a4:=Tryz.isAgg4
 z4:=Tryz.sizeOf4
 v4:=Tryz.zeroValue4
 t9:=Tryz.underlying9
 a9:=Tryz.isAgg9
 z9:=Tryz.sizeOf9
 v9:=Tryz.zeroValue9}
open Go.RowKit Go.Lib in
def Tryz.strings_TrimPrefix (s p:ByteArray) (w:World) :
 Calls Tryz.prog 349 #[.string s,.string p] w λe w'=>e= .returned (.string ⟨(Lib.trimPrefix s.data.toList p.data.toList).toArray⟩)/\w'=w:=Any.strings_TrimPrefix Tryz.lays101 s p w
def Tryz.lays146_ren:Go.Shelf.Ren:=⟨λ| 146=>308 | 221=>334 | 268=>359 | 138=>360 | 143=>361 | 195=>380 | 197=>381 | 218=>382 | 219=>383 | 260=>389 | 217=>315 | 225=>390 | 224=>391 | 267=>392 | 266=>347 | 314=>395 | n=>n,λ| 9=>9 | 31=>27 | 3=>3 | 4=>4 | 0=>0 | 105=>346 | 21=>21 | 5=>5 | 46=>141 | 119=>354 | 139=>357 | 138=>356 | 146=>358 | 51=>152 | n=>n,λ| 1=>0 | 3=>2 | 4=>3 | n=>n⟩
def Tryz.lays146:Go.Proofs.Lays.n146 Tryz.prog Tryz.lays146_ren:= {
 mixed:=by kernel_rfl
 f138:=A0m Tryz.func360
 f143:=A0m Tryz.func361
 f146:=A0m Tryz.func308
 f195:=A0m Tryz.func380
 f197:=A0m Tryz.func381
 f217:=A0m Tryz.func315
 f218:=A0m Tryz.func382
 f219:=A0m Tryz.func383
 f221:=A0m Tryz.func334
 f224:=A0m Tryz.func391
 f225:=A0m Tryz.func390
 f260:=A0m Tryz.func389
 f266:=A0m Tryz.func347
 f267:=A0m Tryz.func392
 f268:=A0m Tryz.func359
 f314:=A0m Tryz.func395
 t0:=Tryz.underlying0
 a0:=Tryz.isAgg0
 z0:=Tryz.sizeOf0
 v0:=Tryz.zeroValue0
 t3:=Tryz.underlying3
 a3:=Tryz.isAgg3
 z3:=Tryz.sizeOf3
 v3:=Tryz.zeroValue3
 t4:=Tryz.underlying4
 a4:=Tryz.isAgg4
 z4:=Tryz.sizeOf4
 v4:=Tryz.zeroValue4
 t5:=Tryz.underlying5
 a5:=Tryz.isAgg5
 z5:=Tryz.sizeOf5
 v5:=Tryz.zeroValue5
 t9:=Tryz.underlying9
 a9:=Tryz.isAgg9
 z9:=Tryz.sizeOf9
 v9:=Tryz.zeroValue9
 t21:=Tryz.underlying21
 a21:=Tryz.isAgg21
 z21:=Tryz.sizeOf21
 v21:=Tryz.zeroValue21
 t31:=Tryz.underlying27
 a31:=Tryz.isAgg27
 z31:=Tryz.sizeOf27
 v31:=Tryz.zeroValue27
 t46:=Tryz.underlying141
 a46:=Tryz.isAgg141
 z46:=Tryz.sizeOf141
 v46:=Tryz.zeroValue141
 t51:=Tryz.underlying152
 a51:=Tryz.isAgg152
 z51:=Tryz.sizeOf152
 v51:=Tryz.zeroValue152
 t105:=Tryz.underlying346
 a105:=Tryz.isAgg346
 z105:=Tryz.sizeOf346
 v105:=Tryz.zeroValue346
 t119:=Tryz.underlying354
 a119:=Tryz.isAgg354
 z119:=Tryz.sizeOf354
 t138:=Tryz.underlying356
 a138:=Tryz.isAgg356
 z138:=Tryz.sizeOf356
 v138:=Tryz.zeroValue356
 t139:=Tryz.underlying357
 a139:=Tryz.isAgg357
 z139:=Tryz.sizeOf357
 v139:=Tryz.zeroValue357
 t146:=Tryz.underlying358
 a146:=Tryz.isAgg358
 z146:=Tryz.sizeOf358
 v146:=Tryz.zeroValue358
 g1:=by kernel_rfl
 g3:=by kernel_rfl
 g4:=by kernel_rfl}
open Go.RowKit Go.Lib in
theorem Tryz.strings_Split (s sep:ByteArray) (m:Int) (w:World) (hs:s.size<4294967281) (hm:w.cell? ⟨0,0,none⟩=some (.int .i64 m)) (h1:1<=sep.size) :
 Calls Tryz.prog 308 #[.string s,.string sep] w λe w' =>
  e= .returned (.slice (some ⟨w.heap.size,0,none⟩) (Lib.countB s sep+1) (Lib.countB s sep+1))/\w'=w.alloc (.cells ((Lib.splitB sep 0 (Lib.countB s sep) s).map Value.string).toArray 9):=Any.strings_Split Tryz.lays146 (by kernel_rfl) s sep m w hs hm h1
end Go.Proofs
namespace Go.Proofs.YtacidcemomccpaaGreatDoor.Vm
open Go.Proofs
noncomputable def ZG (N:Nat):Sig:=SK 9 N
def eY (N:Nat):Spec Tryz.prog 178 (ZG N) :=
 Agt (enters (fn:=Tryz.f178) (by kernel_rfl) (by kernel_rfl) (by decide)) ⟨Tryz.strings_Join_none,Tryz.strings_Join⟩
open Go.RowKit
def CK.flat:CK->Bool | .bool=>true | .int _=>true | .str=>true | _=>false
def Sh.flat:Sh->Bool | .cell false k=>k.flat | _=>false
def A.flat:A->Bool | .bool _=>true | .int _ _=>true | .str _=>true | _=>false
def rvA:A->Value | .bool b=>.bool b | .int k n=>.int k n | .str s=>.string ⟨s.toArray⟩ | _=>undef
def AoQ {O:Own} {w:World} {id:Nat} {v:Value} {x:A} (hf:x.flat=true) (h:IR O w id v x):v=rvA x:=by
 cases x with
 | bool b=>have h':J5 O w v (.bool b):=h;cases h';rfl
 | int k n=>have h':J5 O w v (.int k n):=h;cases h';rfl
 | str s=>exact SV (show J5 O w v (.str s)from h)
 | _=>cases hf
def Aph {O:Own} {w:World} {id:Nat} {x:A} (hf:x.flat=true):IR O w id (rvA x) x:=by
 cases x with
 | bool b=>exact J5.bool b
 | int k n=>exact J5.int k n
 | str s=>exact J5.str (O:=O) (w:=w) ⟨s.toArray⟩
 | _=>cases hf
def Sh.AuG {s:Sh} (h:s.flat=true) (v:s.T):(s.enc v).flat=true:=by
 cases s with
 | cell u k=>cases u<;>cases k<;>first | (cases h;done) | rfl
 | _=>cases h
def aZ: ∀(ss:List Sh) (v:ShT ss),ss.all Sh.flat=true->(encs ss v).all A.flat=true:=by
 intro ss
 induction ss with
 | nil=>intro v _;rfl
 | cons s r ih =>intro v h;rw[List.all_cons,Dw]at h;show((s.enc _).flat&&(encs r _).all A.flat)=true;rw[Sh.AuG h.1,ih _ h.2];rfl
def uJ: ∀(ss:List Sh) (v:ShT ss),(encs ss v).length=ss.length:=by
 intro ss
 induction ss with
 | nil=>intro v;rfl
 | cons s r ih=>intro v;show(encs r _).length+1=_;rw[ih];rfl
def AeP: ∀(ss:List Sh) (i:Nat),ss.all Sh.flat=true->Le ss i=[]:=by
 intro ss
 induction ss with
 | nil=>intro i _;rfl
 | cons s r ih =>
  intro i h;rw[List.all_cons,Dw]at h;unfold Le;have:KE s=false:=by cases s<;>first | rfl | (cases h.1;done)
  rw[this];exact ih _ h.2
def Atp (Jt J7:List Sh) (h:Jt.all Sh.flat=true):KY Jt J7=J7:=by unfold KY;rw[List.filterMap_eq_nil_iff.2 (λs hs=> ?_),DT];have:=DI.1 h s hs;cases s<;>first | rfl | (cases this;done)
def lU {l:List A} (h:l.all A.flat=true) {j:Nat} (hj:j<l.length):(l.getD j .undef).flat=true:=by rw[Dn,D8 hj];exact DI.1 h _ (Ej hj)
def ZV (l:List A) (j:Nat) (hj:j<l.length):((l.map rvA).toArray).getD j undef=rvA (l.getD j .undef):=by simp [Dv,Dn,hj]
def Asj {O:Own} {w w':World} {vs:Array Value} {sg:Sig} {rs:List A} (hp:sg.Jt.all Sh.flat=true) (hl:rs.length=sg.J7.length) (hf:rs.all A.flat=true) (hb:Below w.heap.size w w'):Came O w vs sg rs (AeB (rs.map rvA).toArray) O w':=by
 have hix:Le sg.Jt 0=[]:=AeP _ _ hp;refine⟨Below.moves hb,λb k _ h=>h,λb k _ h=>h,by rw[hix,hl];rfl,⟨(rs.map rvA).toArray,by simp [hl],rfl,λk hk=> ?_⟩,λj i hj=> ?_⟩
 .have hk':k<rs.length:=by simpa using hk
  rw[ZV rs k hk'];exact Aph (lU hf hk')
 .rw[hix]at hj;cases hj
def Aib {O:Own} {w:World} {vs:Array Value} {xs:List A} (hf:xs.all A.flat=true) (hv:vs.size=xs.length) (hx: ∀ j,j<xs.length->IR O w (256*j) (vs.getD j undef) (xs.getD j .undef)):vs=(xs.map rvA).toArray:=by
 apply FC
 .simp [hv]
 .intro i h1 h2;have hi:i<xs.length:=by omega
  have:=AoQ (lU hf hi) (hx i hi);rw[<- ZV xs i hi]at this;simp only[Dv,En h1,En h2,Option.getD_some]at this;exact this
def Anv (w:World) (k:Nat) (os:Array Go.Obj):Below w.heap.size w (Go.Sort.grow (w.drewN k) os) :=
 ⟨rfl,rfl,rfl,by show _<=(w.heap++os).size;simp,λi hi=>by show(w.heap++os)[i]? =_;rw[EJ hi]⟩
def VG {P:Program} {f:FuncId} {Jt J7:List Sh} {g:ShT Jt->Option (ShT (KY Jt J7))} (hp:Jt.all Sh.flat=true) (hr:J7.all Sh.flat=true) (hent: ∀ args w,(callFunc f args).run P w= .ok (.enter f args) w)
 (H: ∀(O:Own) (w:World) (a:ShT Jt) (o:ShT (KY Jt J7)),Inv O w->g a=some o->Calls P f ((encs Jt a).map rvA).toArray w λe w'=>e= .returned (AeB ((encs (KY Jt J7) o).map rvA).toArray)/\Below w.heap.size w w'):Spec P f (Sig.of Jt J7 g):=by
 refine⟨hent,λO w vs xs rs hI hv hl _ hx hrs=> ?_⟩;obtain⟨a,o,h1,h2,h3⟩:=Sig.XR hrs;subst h1;have hvs:=Aib (aZ Jt a hp) hv hx;rw[hvs];refine(H O w a o hI h2).mono λe w' hq=> ?_;obtain⟨he,hb⟩:=hq;subst h3;have ho:KY Jt J7=J7:=Atp Jt J7 hp;refine⟨_,O,he,Asj (sg:=Sig.of Jt J7 g) hp ?_ ?_ hb⟩
 .rw[uJ,ho];rfl
 .exact aZ _ _ (by rw[ho];exact hr)
def strings_Split (_:Nat) (s sep:Bs):Option (List Bs):=bif decide (s.length<4294967281)&&decide (1<=sep.length)then some (Lib.split s sep)else none
def strings_IndexByte (_:Nat) (s:Bs) (c:Int):Option Int:=some (Lib.indexByte s c.toNat.toUInt8)
def strings_Cut (_:Nat) (s sep:Bs):Option (Bs×Bs×Bool):=bif decide (s.length<4294967281)then some (Lib.cut s sep)else none
def strings_CutPrefix (_:Nat) (s p:Bs):Option (Bs×Bool):=some (Lib.trimPrefix s p,Lib.hasPrefix s p)
def strings_TrimPrefix (_:Nat) (s p:Bs):Option Bs:=some (Lib.trimPrefix s p)
def strings_HasPrefix (_:Nat) (s p:Bs):Option Bool:=some (Lib.hasPrefix s p)
def strings_Contains (_:Nat) (s p:Bs):Option Bool:=bif decide (s.length<4294967281)then some (Lib.contains s p)else none
def strconv_Itoa (_:Nat) (n:Int):Option Bs:=bif decide (-9223372036854775808<=n)&&decide (n<=9223372036854775807)then some (Lib.itoa n)else none
def Rn (l:List Bs):Bs:=(l.mergeSort λx y=>decide (x<=y)).flatten
def VY (_:Nat) (l:List Bs):Option Bs:=bif decide (0<l.length)&&(decide (l.length<=1099511627776)&&decide (l.flatten.length<=140737488355328))then some (Rn l)else none
def Uf (s:ByteArray):Nat->Nat->Bool
 | 0,_=>true
 | n+1,i=>if i<s.size then
  let d:=Utf8.decode s i
  if d.1<32\/d.1=127 then false
  else if d.1=65533/\Lib.hasPrefix (s.data.toList.drop i) [239,191,189]=false then false
  else Uf s n (i+d.2)
  else true
def ArB (s:Bs):Bool:=Uf ⟨s.toArray⟩ s.length 0
def xE (_:Nat) (s:Bs):Option Bool:=bif decide (s.length<4294967281)then some (ArB s)else none
open Go.Proofs Go.RowKit
noncomputable def VX (N:Nat):Sig:=.of [.cell false .str,.cell false .str] [.cell false .bool] (λa=>strings_Contains N a.1 a.2)
def Yb (N:Nat):Spec Tryz.prog 353 (VX N) :=
 VG rfl rfl (enters (fn:=Tryz.f353) (by kernel_rfl) (by kernel_rfl) (by decide)) λO w (a:Bs×Bs) (o:Bool) hI h=>by
  obtain⟨s,c⟩:=a;have h:(bif decide (List.length s<4294967281)then some (Lib.contains s c)else none)=some o:=h;cases hc:decide (List.length s<4294967281)with
  | false=>rw[hc]at h;cases h
  | true =>
  rw[hc]at h;injection h with h;subst h;have hs:=DC hc;obtain⟨_,v,hm,m,rfl⟩:=hI.1 0 0 _ rfl;refine(Tryz.strings_Contains ⟨List.toArray s⟩ ⟨List.toArray c⟩ m w hs hm).mono λe w' hq=> ?_;obtain⟨h1,h2⟩:=hq;subst h2;exact⟨h1,Below.refl _ _⟩
noncomputable def Zc (N:Nat):Sig:=.of [.cell false .str,.cell false .str] [.cell false .str,.cell false .bool] (λa=>strings_CutPrefix N a.1 a.2)
def oQ (N:Nat):Spec Tryz.prog 352 (Zc N) :=
 VG rfl rfl (enters (fn:=Tryz.f352) (by kernel_rfl) (by kernel_rfl) (by decide)) λO w (a:Bs×Bs) (o:Bs×Bool) hI h=>by obtain⟨s,c⟩:=a;have h:some ((Lib.trimPrefix s c,Lib.hasPrefix s c))=some o:=h;injection h with h;subst h;refine(Tryz.strings_CutPrefix ⟨List.toArray s⟩ ⟨List.toArray c⟩ w).mono λe w' hq=> ?_;obtain⟨h1,h2⟩:=hq;subst h2;exact⟨h1,Below.refl _ _⟩
noncomputable def y8 (N:Nat):Sig:=.of [.cell false .str,.cell false .str] [.cell false .str,.cell false .str,.cell false .bool] (λa=>strings_Cut N a.1 a.2)
def Ae3 (N:Nat):Spec Tryz.prog 350 (y8 N) :=
 VG rfl rfl (enters (fn:=Tryz.f350) (by kernel_rfl) (by kernel_rfl) (by decide)) λO w (a:Bs×Bs) (o:Bs×Bs×Bool) hI h=>by
  obtain⟨s,c⟩:=a;have h:(bif decide (List.length s<4294967281)then some (Lib.cut s c)else none)=some o:=h;cases hc:decide (List.length s<4294967281)with
  | false=>rw[hc]at h;cases h
  | true =>
  rw[hc]at h;injection h with h;subst h;have hs:=DC hc;obtain⟨_,v,hm,m,rfl⟩:=hI.1 0 0 _ rfl;refine(Tryz.strings_Cut ⟨List.toArray s⟩ ⟨List.toArray c⟩ m w hs hm).mono λe w' hq=> ?_;obtain⟨h1,n,h2⟩:=hq;subst h2;exact⟨h1,⟨rfl,rfl,rfl,DD _,λ_ _=>rfl⟩⟩
noncomputable def Vt (N:Nat):Sig:=.of [.cell false .str,.cell false (.int .u8)] [.cell false (.int .i64)] (λa=>strings_IndexByte N a.1 a.2)
def Xk (N:Nat):Spec Tryz.prog 267 (Vt N) :=
 VG rfl rfl (enters (fn:=Tryz.f267) (by kernel_rfl) (by kernel_rfl) (by decide)) λO w (a:Bs×Int) (o:Int) hI h=>by obtain⟨s,c⟩:=a;have h:some (Lib.indexByte s c.toNat.toUInt8)=some o:=h;injection h with h;subst h;refine(Tryz.strings_IndexByte ⟨List.toArray s⟩ c w).mono λe w' hq=> ?_;obtain⟨h1,h2⟩:=hq;subst h2;exact⟨h1,Below.refl _ _⟩
def Avq {O:Own} {w:World} (hI:Inv O w):Lib.TabIs Tryz.prog w "internal/strconv.uint64pow10" .u64 Lib.pow10Tab:=by
 obtain⟨c,e,fr,h1,h2⟩:=hI.2 1 20 rfl;have hg:Tryz.prog.globalNamed "internal/strconv.uint64pow10" =some 1:=by kernel_rfl
 unfold Lib.TabIs World.var?;rw[hg];show(match w.heap[1]? with | some (.cells cs _ _)=>some cs | _=>none)=_;rw[h1];refine congrArg some (FC (by rw[h2];simp [Lib.pow10Tab_length]) λi hi hi'=> ?_);have hi20:i<20:=by omega
 obtain⟨_,v,hv,hp⟩:=hI.1 1 i _ (Du hi20)
 have hv':c[i]? =some v:=by
  have:w.cell? (at' 1 i)=c[i]? :=by simp [World.cell?,h1]
  rw[<- this];exact hv
 rw[En hi]at hv';injection hv' with hv';rw[hv',hp];simp [Lib.pow10Tab]
noncomputable def sF (N:Nat):Sig:=.of [.cell false (.int .i64)] [.cell false .str] (λa=>strconv_Itoa N a)
def AcR (N:Nat):Spec Tryz.prog 296 (sF N) :=
 VG rfl rfl (enters (fn:=Tryz.f296) (by kernel_rfl) (by kernel_rfl) (by decide)) λO w (a:Int) (o:Bs) hI h=>by
  have h:(bif decide (-9223372036854775808<=a)&&decide (a<=9223372036854775807)then some (Lib.itoa a)else none)=some o:=h;cases hc:(decide (-9223372036854775808<=a)&&decide (a<=9223372036854775807))with
  | false=>rw[hc]at h;cases h
  | true =>
  rw[hc]at h;injection h with h;subst h;rw[Dw,D6,D6]at hc;refine(Tryz.strconv_Itoa a hc.1 hc.2 w (Avq hI)).mono λe w' hq=> ?_;obtain⟨h1,k,os,h2⟩:=hq;subst h2;exact⟨h1,Anv _ _ _⟩
end Go.Proofs.YtacidcemomccpaaGreatDoor.Vm
namespace Go.Proofs.YtacidcemomccpaaGreatDoor
open Go.RowKit Go.Sort Vm
def Ai8 (l:List (List UInt8)):Lib.join l []=l.flatten:=by
 cases l with
 | nil=>rfl
 | cons a r =>rw[Lib.join_cons];unfold Lib.joinTail;simp
def AwT {w:World} {g cap n:Nat} {ts:List Bs} {cur:Array Value} {e:TypeId} (hn:ts.length=n) (hb:w.heap[g]? =some (.cells cur e (0,0))) (ht:cur.toList.take n=ts.map encStr) (hc:n<=cap) (h1:n<=140737488355328) (hl:ts.flatten.length<=140737488355328) :
 Calls Tryz.prog 178 #[.slice (some ⟨g,0,none⟩) n cap,.string ⟨#[]⟩] w λe w'=>e= .returned (.string ⟨ts.flatten.toArray⟩)/\Below w.heap.size w w':=by
 have hm:(ts.map (λs=>(⟨s.toArray⟩:ByteArray))).map (·.data.toList)=ts:=by
  rw[ES]
  conv=>rhs;rw[<- Gf ts]
  refine Eu λs _=> ?_;simp
 have hj:=Tryz.strings_Join g 0 cap (ts.map (λs=>(⟨s.toArray⟩:ByteArray))) ⟨#[]⟩ w (λj x hx=>by
  have hx':(ts.map encStr)[j]? =some (.string x):=by
   rw[Ep]at hx ⊢;cases hq:ts[j]? with
   | none=>rw[hq]at hx;cases hx
   | some y=>rw[hq]at hx;injection hx with hx;rw[<- hx];rfl
  rw[<- ht]at hx'
  have hjn:j<n:=by
   rcases Eh j n with h | h
   .exact h
   .rw[List.getElem?_take_eq_none h]at hx';cases hx'
  rw[GL hjn,ET]at hx';simp only[World.cell?,hb,DV];exact hx') (DX.1 hb).1 (by rw[D5,hn];exact h1) (by rw[D5,hn];exact hc) (by rw[hm];show(Lib.join ts []).length<=_;rw[Ai8];exact hl)
 rw[D5,hn,hm]at hj;refine hj.mono λe w' hq=>⟨hq.1.trans ?_,hq.2⟩
 show Ending.returned (Value.string ⟨(Lib.join ts []).toArray⟩)=_;rw[Ai8]
def Al5 {a b:List Bs} (h:a.Perm b):a.flatten.length=b.flatten.length:=by rw[Gs,Gs];exact(h.map _).sum_nat
set_option maxHeartbeats 1000000 in
set_option maxRecDepth 1000000 in
def AqX (w:World) (b o c:Nat) (ss:List Bs) (R:Bs) (hR:Rn ss=R) (h0:0<ss.length) (hlen:ss.length<=1099511627776) (hflat:ss.flatten.length<=140737488355328)
 (hcells: ∀(j:Nat) (u:Value),(ss.map encStr)[j]? =some u->w.cell? ⟨b,o+j,none⟩=some u) :
 Calls Tryz.prog 72 #[.slice (some ⟨b,o,none⟩) ss.length c] w λe w'=>e= .returned (.string ⟨R.toArray⟩)/\Below w.heap.size w w':=by
 have hi:Tryz.prog.info? 9=some _:=rfl
 go_enter Tryz.func72,Tryz.ntmps72
 go_wp2_with (at_builtin;go_loud (refine wpList_append_grows w rfl _ _ _ rfl 9 _ _ 1 16 rfl hi rfl rfl rfl rfl (by decide) none 0 0 [] rfl (λ_=>⟨rfl,rfl⟩) rfl (λ_ h=>by cases h) ⟨b,o,none⟩ ss.length c (ss.map encStr) rfl (by simp) (λj u h=>by rw[Addr.add_lit];exact hcells j u h) (λu hu=>by obtain⟨x,_,rfl⟩:=DK.1 hu;rfl) (by omega) (by show _<=maxLen;simp only[maxLen];omega) (by omega) ?_))
 intro v' w1 hown hgr;rcases hown.2 with ⟨_,h⟩ | ⟨g,cap,cur,rfl,hbase,hbk,h1,h2,h3,h4⟩
 .exfalso;omega
 have h4':cur.toList.take ss.length=ss.map encStr:=by simpa using h4
 have hH:Holds encStr w1 g 0 ss.toArray:=holds_of_block hbk h4';have hB1:Below w.heap.size w w1:=Below.grown (Below.refl _ _) hgr (DD _) (λk hk=>by cases hk);have hsort:=Tryz.sort_Strings g 0 cap ss w1 hH (DX.1 hbk).1 (by omega);have hperm:(ss.mergeSort λx y=>decide (x<=y)).Perm ss:=H9 _ _;have hord:Rn ss=(ss.mergeSort λx y=>decide (x<=y)).flatten:=rfl;have hfl:=Al5 hperm;have hts:=hperm.length_eq;generalize (ss.mergeSort λx y=>decide (x<=y))=ts at hsort hord hfl hts;have hRt:ts.flatten=R:=hord.symm.trans hR;have hB2: ∀ n os,Below w.heap.size w (grow (putRow encStr (Sort.ahead w1 n) g 0 ts.toArray) os):=λn os=>Below.grown hB1 (grownBy_sorted ts.toArray) hB1.size (λk hk=>by injection hk with hk;omega);have hJ: ∀ n os,Calls Tryz.prog 178 #[.slice (some ⟨g,0,none⟩) ss.length cap,.string ⟨#[]⟩] (grow (putRow encStr (Sort.ahead w1 n) g 0 ts.toArray) os) λe w'=>e= .returned (.string ⟨R.toArray⟩)/\Below w.heap.size w w':=λn os=>by rw[<- hRt];refine(AwT (n:=ss.length) hts (heap_sorted ts.toArray hbk) (by rw[<- hts];exact take_putCells cur ts (by omega)) h1 (by omega) (by omega)).mono λe w' hq=>⟨hq.1,(hB2 n os).trans (hq.2.mono (hB2 n os).size)⟩
 clear hown hgr hcells h4 h4' hH hB1 hB2 hord hfl hperm hR hRt
 go_wp2_with (first | (go_at_call 184;refine hsort.mono ?_;rintro e w2 ⟨rfl,n,os,rfl⟩;have hJ2:=hJ n os;generalize (grow (putRow encStr (Sort.ahead w1 n) g 0 ts.toArray) os)=w3 at hJ2 ⊢) | (go_at_call 178;refine hJ2.mono ?_;rintro e w4 ⟨rfl,hb4⟩))
 go_ret
 exact⟨rfl,hb4⟩
end Go.Proofs.YtacidcemomccpaaGreatDoor
namespace Go.Proofs.YtacidcemomccpaaGreatDoor.Vm
open Go.Proofs Go.RowKit
noncomputable def oV (N:Nat):Sig:=.of [.cell false (.sl 9 (.str .nil))] [.cell false .str] (λa=>VY N a)
def Akp {N:Nat} {O:Own} {w:World} {vs:Array Value} (l:List Bs) (out:Bs) (hv:vs.size=1) (hx0:J5 O w (vs.getD 0 undef) (.sl ⟨.str .nil,l⟩)) (h2':VY N l=some out) :
 Calls Tryz.prog 72 vs w λe' w'=> ∃ v O',e'= .returned v/\Came O w vs (oV N) [.str out] v O' w':=by
 unfold VY at h2'
 have hv1:vs= #[vs.getD 0 undef]:=by
  apply FC
  .exact hv
  .intro i h1 h2;have:i=0:=by simp at h2;omega
   subst this;simp [Dv,h1]
 cases hc:(decide (0<l.length)&&(decide (l.length<=1099511627776)&&decide (l.flatten.length<=140737488355328)))with
 | false=>rw[hc]at h2';cases h2'
 | true =>
  rw[hc]at h2';injection h2' with h2';simp only[Dw,D6]at hc;obtain⟨c0,c1,c2⟩:=hc;rw[hv1];generalize vs.getD 0 undef=v0 at hx0;have hes0:(⟨.str .nil,l⟩:Sl).es=l.map (λs:Bs=>[A.str s]):=rfl;have hsz:(⟨.str .nil,l⟩:Sl).sz=1:=rfl;generalize hL:(⟨.str .nil,l⟩:Sl)=L at hx0 hes0 hsz;have hlen:L.es.length=l.length:=by rw[hes0,D5]
  cases hx0 with
  | nil t =>
   have:l=[]:=by injection hL with h1 h2;subst h1;exact I4 h2
   rw[this]at c0;exact absurd c0 (by decide)
  | sl0 ad t =>
   have:l=[]:=by injection hL with h1 h2;subst h1;exact I4 h2
   rw[this]at c0;exact absurd c0 (by decide)
  | @sl b off cap l' vs' hcap hm hr =>
   have hw:=AqX w b off cap l out h2' c0 c1 c2 (λj u hj=>by
    have hjl:j<l.length:=by
     rcases Eh j (l.length)with h | h
     .exact h
     .rw[Ed (by simpa using h)]at hj;cases hj
    have hm1:=(hm j 0 (by rw[hlen];exact hjl) (by rw[hsz];omega)).2;have hr1:=hr j 0 (by rw[hlen];exact hjl) (by rw[hsz];omega);have e1:off+(j*L.sz+0)=off+j:=by rw[hsz];omega
    rw[e1]at hm1;rw[Ep,D8 hjl]at hj;injection hj with hj;have e2:(L.es.getD j []).getD 0 .undef= .str (l[j]):=by rw[hes0];simp [Dn,hjl]
    rw[e2]at hr1;rw[<- hj,hm1,SV hr1])
   rw[<- hlen]at hw;refine hw.mono λe' w' hq=> ?_;refine⟨_,O,hq.1,?_⟩;refine⟨Below.moves hq.2,λb k _ h=>h,λb k _ h=>h,rfl,⟨#[.string ⟨List.toArray out⟩],rfl,rfl,λk hk=> ?_⟩,λj i hj=> ?_⟩
   .have hk0:k=0:=by simp at hk;omega
    subst hk0;exact J5.str (O:=O) (w:=w') ⟨List.toArray out⟩
   .exact absurd hj (by show(Le [.cell false (.sl 9 (.str .nil))] 0)[j]? ≠some i;simp [Le,KE])
def AhY (N:Nat):Spec Tryz.prog 72 (oV N):=by refine⟨enters (fn:=Tryz.f72) (by kernel_rfl) (by kernel_rfl) (by decide),λO w vs xs rs hI hv hl _ hx hrs=> ?_⟩;obtain⟨l,out,h1,h2,h3⟩:=Sig.XR (Jt:=[.cell false (.sl 9 (.str .nil))]) (J7:=[.cell false .str]) (f:=λa=>VY N a) hrs;subst h1;have h3':rs=[.str out]:=h3;subst h3';exact Akp l out hv (hx 0 (by show 0<1;omega)) h2
end Go.Proofs.YtacidcemomccpaaGreatDoor.Vm
