import Derived.Test.YtadefjgbcapakaaGreatDoorA10
import Derived.OwnWalk
import Derived.Lib.Join
import Derived.Below
set_option linter.all false
namespace Go.Proofs.YtadefjgbcapakaaGreatDoor.Vm
open Classical
section
variable {P:Program} {C:Ctx} {V0:Nat->Value} {O0 O:Own} {w0 w:World} {m:Nat->Value} {st st':St} {a:Act}
def enum:Nat->List CP->List (Nat×CP)
  | _,[]=>[]
  | i,x::r=>(i,x)::enum (i+1) r
theorem Af3: ∀(l:List CP) (i:Nat),(enum i l).length=l.length:=by
  intro l
  induction l with
  | nil=>intro i;rfl
  | cons x r ih=>intro i;simp [enum,ih]
theorem Amd: ∀(l:List CP) (i:Nat),(enum i l).map (·.2)=l:=by
  intro l
  induction l with
  | nil=>intro i;rfl
  | cons x r ih=>intro i;simp [enum,ih]
theorem Zj: ∀(l:List CP) (i:Nat) (p:Nat×CP),p∈enum i l-> ∃ k,p.1=i+k/\l[k]? =some p.2:=by
  intro l
  induction l with
  | nil=>intro i p h;cases h
  | cons x r ih =>
    intro i p h
    rcases List.mem_cons.1 h with rfl | h
    ·exact⟨0,rfl,rfl⟩
    ·obtain⟨k,h1,h2⟩:=ih (i+1) p h
     exact⟨k+1,by omega,by simpa using h2⟩
theorem Amb: ∀(l:List CP) (i j:Nat),j∈(enum i l).map (·.1)↔i<=j/\j<i+l.length:=by
  intro l
  induction l with
  | nil=>intro i j;simp [enum]
  | cons x r ih=>intro i j;simp only[enum,List.map_cons,List.mem_cons,ih,List.length_cons];omega
theorem Amc: ∀(l:List CP) (i:Nat),(enum i l).Pairwise (fun p q=>p.1<q.1):=by
  intro l
  induction l with
  | nil=>intro i;exact List.Pairwise.nil
  | cons x r ih =>
    intro i
    refine List.Pairwise.cons (fun q hq=> ?_) (ih (i+1))
    obtain⟨k,h1,_⟩:=Zj _ _ _ hq
    show i<q.1
    omega
theorem Ah3 {ops:List Oper}: ∀(l:List CP) (i:Nat),TQ ops i l=true->(enum i l).Pairwise (fun p q=>UT ops p.1 p.2 q.2=true):=by
  intro l
  induction l with
  | nil=>intro i _;exact List.Pairwise.nil
  | cons x r ih =>
    intro i h
    simp only[TQ,Bool.and_eq_true]at h
    refine List.Pairwise.cons (fun q hq=> ?_) (ih (i+1) h.2)
    obtain⟨k,_,h2⟩:=Zj _ _ _ hq
    exact List.all_eq_true.1 h.1 _ (List.mem_of_getElem? h2)
theorem Aj9 {o:Oper} {e:Nat} (h:e∈OT o): ∃ ed∈o.after,ed.on=e/\Region.binds .any ed=true:=by
  unfold OT at h
  obtain⟨ed,hed,hb⟩:=List.mem_filterMap.1 h
  cases hbb:Region.binds .any ed with
  | false=>rw[hbb]at hb;cases hb
  | true=>rw[hbb]at hb;injection hb with hb;exact⟨ed,by simpa using hed,hb,hbb⟩
theorem Acj: ∀(l:List Oper) (i:Nat),backward i l=true-> ∀(k:Nat) (o:Oper),l[k]? =some o-> ∀ e∈o.after,e.on<i+k:=by
  intro l
  induction l with
  | nil=>intro i _ k o h;simp at h
  | cons x r ih =>
    intro i h k o hk e he
    simp only[backward,Bool.and_eq_true]at h
    cases k with
    | zero =>
      simp at hk;subst hk
      have:=List.all_eq_true.1 h.1 e (by simpa using he)
      rw[Nat.blt_eq]at this;exact this
    | succ k =>
      have:=ih (i+1) h.2 k o (by simpa using hk) e he
      omega
theorem zZ: ∀(l:List Oper) (i:Nat),Lc i l=true-> ∀(k:Nat) (o:Oper),l[k]? =some o-> ∀ e∈o.after,Region.binds .any e=true->e.on<i+k:=by
  intro l
  induction l with
  | nil=>intro i _ k o h;simp at h
  | cons x r ih =>
    intro i h k o hk e he hb
    simp only[Lc,Bool.and_eq_true]at h
    cases k with
    | zero =>
      simp at hk;subst hk
      have:=List.all_eq_true.1 h.1 e (by simpa using he)
      rw[hb]at this
      have:Nat.blt e.on i=true:=by simpa using this
      rw[Nat.blt_eq]at this;exact this
    | succ k =>
      have:=ih (i+1) h.2 k o (by simpa using hk) e he hb
      omega
theorem AcJ {md:Region.Mode} {n:Nat} {rk:List Nat}: ∀(l:List Oper) (i:Nat),ZF md n rk i l=true-> ∀(k:Nat) (o:Oper),l[k]? =some o-> ∀ e∈o.after,Region.binds md e=true->e.on<n/\rk.getD e.on 0<rk.getD (i+k) 0:=by
  intro l
  induction l with
  | nil=>intro i _ k o h;simp at h
  | cons x r ih =>
    intro i h k o hk e he hb
    simp only[ZF,Bool.and_eq_true]at h
    cases k with
    | zero =>
      simp at hk;subst hk
      have:=List.all_eq_true.1 h.1 e (by simpa using he)
      rw[hb]at this
      have:(Nat.blt e.on n&&Nat.blt (rk.getD e.on 0) (rk.getD i 0))=true:=by simpa using this
      rw[Bool.and_eq_true,Nat.blt_eq,Nat.blt_eq]at this
      exact this
    | succ k =>
      have:=ih (i+1) h.2 k o (by simpa using hk) e he hb
      rw[show i+(k+1)=i+1+k from by omega];exact this
theorem AeF {ops:Array Oper} (h:ordered ops.toList=true) (md:Region.Mode): ∃ rk:Nat->Nat,∀(j:Nat) (o:Oper),ops[j]? =some o-> ∀ e∈o.after,Region.binds md e=true->e.on<ops.size/\rk e.on<rk j:=by
  unfold ordered at h
  rw[Bool.and_eq_true,Bool.or_eq_true]at h
  rcases h.2 with h | h
  ·refine⟨id,fun j o hj e he _=> ?_⟩
   have h1:=Acj _ _ h j o (by simpa using hj) e he
   have h2:=(Array.getElem?_eq_some_iff.1 hj).1
   exact⟨by omega,by show e.on<j;omega⟩
  ·simp only[Bool.and_eq_true]at h
   have key:yO md ops.toList=true:=by cases md<;>first | exact h.1.1 | exact h.1.2 | exact h.2
   refine⟨fun i=>(ranks md ops.toList ops.toList.length (ops.toList.map fun _=>0)).getD i 0,fun j o hj e he hb=> ?_⟩
   have:=AcJ _ _ key j o (by simpa using hj) e he hb
   rw[Nat.zero_add]at this
   exact⟨by simpa using this.1,this.2⟩
theorem Aa6 {α β :Type} {f g: α ->List β}: ∀(l:List α),(∀ x∈l,f x=g x)->l.flatMap f=l.flatMap g:=by
  intro l
  induction l with
  | nil=>intro _;rfl
  | cons x r ih=>intro h;simp only[List.flatMap_cons];rw[h x List.mem_cons_self,ih (fun y hy=>h y (List.mem_cons_of_mem _ hy))]
theorem AhA {ops:List Oper}: ∀(l:List Oper) (acc:List (List Nat)) (st:St),Lc acc.length l=true->(KR C ops l acc st).length=l.length /\
    ∀(k:Nat) (o:Oper),l[k]? =some o-> ∃ x,(KR C ops l acc st)[k]? =some x/\x.o=o/\x.anc=(OT o).flatMap (fun e=>e::(acc++(KR C ops l acc st).map CP.anc).getD e []):=by
  intro l
  induction l with
  | nil=>intro acc st _;exact⟨rfl,fun k o h=>by simp at h⟩
  | cons o' r ih =>
    intro acc st h
    have hb:=zZ _ _ h
    simp only[Lc,Bool.and_eq_true]at h
    let an:=(OT o').flatMap (fun e=>e::acc.getD e [])
    let s1:=apply st o' (BM C ops o' st)
    have hf:KR C ops (o'::r) acc st=⟨o',BM C ops o' st,I4 o' st (Gq o' st),an⟩::KR C ops r (acc++[an]) s1:=rfl
    obtain⟨g1,g2⟩:=ih (acc++[an]) s1 (by simpa using h.2)
    rw[hf]
    refine⟨by simp [g1],fun k o hk=> ?_⟩
    cases k with
    | zero =>
      simp at hk;subst hk
      refine⟨_,rfl,rfl,?_⟩
      refine Aa6 _ fun e he=> ?_
      obtain⟨ed,h1,h2,h3⟩:=Aj9 he
      have hlt:=hb 0 o' rfl ed h1 h3
      rw[List.getD_eq_getElem?_getD,List.getD_eq_getElem?_getD,List.getElem?_append_left (by omega)]
    | succ k =>
      obtain⟨x,h1,h2,h3⟩:=g2 k o (by simpa using hk)
      refine⟨x,by simpa using h1,h2,?_⟩
      rw[h3]
      simp [List.append_assoc]
theorem Ah9 {ρ :Type} {ops:List Oper} {K:St->Option ρ} {v: ρ}: ∀(l:List Oper) (acc:List (List Nat)) (st:St),NZ C ops l st K=some v-> ∃ st',dQ C ops (KR C ops l acc st) st st'/\K st'=some v/\ ∀ x∈KR C ops l acc st,Ar x.δ.ok:=by
  intro l
  induction l with
  | nil=>intro acc st h;exact⟨st,rfl,h,fun x hx=>by cases hx⟩
  | cons o r ih =>
    intro acc st h
    obtain⟨h1,h2⟩:=La (show allT (BM C ops o st).ok (NZ C ops r (apply st o (BM C ops o st)) K)=some v from h)
    obtain⟨st',h3,h4,h5⟩:=ih (acc++[(OT o).flatMap (fun e=>e::acc.getD e [])]) _ h2
    refine⟨st',⟨⟨rfl,rfl⟩,h3⟩,h4,fun x hx=> ?_⟩
    rcases List.mem_cons.1 hx with rfl | hx
    ·exact h1
    ·exact h5 x hx
theorem Sim.drew (hS:Sim V0 O0 w0 O m st a w):Sim V0 O0 w0 O m st a {w with drawn:=w.drawn+1} :=
  hS.next (st':=st) (d:=none) (v:=undef) (x:=.undef) (T:=fun _=>False) (Nw:=fun _=>False) ⟨rfl,rfl,rfl,Nat.le_refl _,fun _ _=>.inl rfl⟩ ⟨fun _ _ _ h=>h,fun _ _ _ _ h _=>h⟩ (fun _ _ _ h=>h) (fun _ y ho=>.inr ⟨y,ho,rfl,rfl⟩) (fun _ h=>h.elim) (fun _ h=>h.elim)
    (fun _ _ ho=>.inl ⟨id,ho,rfl⟩) rfl (fun h=>absurd rfl h)
theorem Ah1 {ρ :Type} (hC:Jf P C) {fin:St->Option ρ} {v: ρ} (id:Nat) (ops:Array Oper) {O:Own} {m:Nat->Value} {st:St} {a:Act} {w:World} (K:Ex->St->Option ρ) (hS:Sim V0 O0 w0 O m st a w) (hd:Ko C ops.toList st=true)
    (hx:NZ C ops.toList ops.toList st (fun st'=>K .normal st')=some v):(Code.region id ops true).wp P (Post V0 O0 w0 fin K v) a w:=by
  unfold Ko at hd
  dsimp only at hd
  simp only[Bool.and_eq_true]at hd
  obtain⟨⟨⟨d1,d2⟩,d3⟩,d4⟩:=hd
  have d1A:Lc 0 ops.toList=true:=by
    have:=d1
    unfold ordered at this
    rw[Bool.and_eq_true]at this
    exact this.1
  obtain⟨f1,f2⟩:=AhA (C:=C) (ops:=ops.toList) ops.toList [] st d1A
  obtain⟨st',r1,r2,r3⟩:=Ah9 ops.toList [] st hx
  generalize hfs:KR C ops.toList ops.toList [] st=fs at *
  have hlen:fs.length=ops.size:=by rw[f1];simp
  have hsize:(enum 0 fs).length=ops.size:=by rw[Af3,hlen]
  have hany: ∀ md,wpAny P md ops (Post V0 O0 w0 fin K v) ops.size (Array.replicate ops.size false) a {w with drawn:=w.drawn+1}:=by
    intro md
    obtain⟨rk,hrk⟩:=AeF d1 md
    refine AlY (V0:=V0) (O0:=O0) (w0:=w0) hC (K:=fun st'=>K .normal st') (v:=v) (st':=st') (fun O' m' s a' w' h1 h2=>⟨O',m',s,h1,h2⟩) (ANC:=fs.map CP.anc) (rk:=rk) (fun j o hj i hi=> ?_) hrk
      ops.size (enum 0 fs) _ hsize (Amc _ _) (fun p hp=> ?_) (by simp) (fun i hi=> ?_) (fun e he i _=> ?_) (Ah3 _ _ d2) (fun p hp n hn=> ?_) (AiG d4) (by rw[Amd];exact r1) r2 hS.drew
    ·obtain⟨x,h1,h2,h3⟩:=f2 j o (by simpa using hj)
     have e1:(fs.map CP.anc).getD j []=x.anc:=by
       rw[List.getD_eq_getElem?_getD,List.getElem?_map,h1];rfl
     rw[e1,h3]at hi
     obtain⟨e,he,hie⟩:=List.mem_flatMap.1 hi
     rcases List.mem_cons.1 hie with h | h
     ·exact⟨e,he,.inl h⟩
     ·exact⟨e,he,.inr (by simpa using h)⟩
    ·obtain⟨k,h1,h2⟩:=Zj _ _ _ hp
     rw[Nat.zero_add]at h1
     have hk:k<ops.toList.length:=by
       rw[<- f1]
       rcases Nat.lt_or_ge k fs.length with h | h
       ·exact h
       ·rw[List.getElem?_eq_none h]at h2;cases h2
     obtain⟨x,h3,h4,h5⟩:=f2 k ops.toList[k] (by simp at hk ⊢)
     rw[h2]at h3
     injection h3 with h3
     refine⟨?_,r3 _ (List.mem_of_getElem? h2),?_⟩
     ·rw[h1,h3,h4];simp at hk ⊢
     ·rw[h1,List.getD_eq_getElem?_getD,List.getElem?_map,h2];rfl
    ·rw[Amb]
     simp [Array.getD_eq_getD_getElem?,hi,hlen]
    ·have:(Array.replicate ops.size false).getD e false=false:=by
       rw[Array.getD_eq_getD_getElem?,Array.getElem?_replicate]
       split<;>rfl
     rw[this]at he;cases he
    ·obtain⟨k,_,h2⟩:=Zj _ _ _ hp
     exact List.all_eq_true.1 d3 n (List.mem_flatMap.2 ⟨_,List.mem_of_getElem? h2,hn⟩)
  refine wp_region_draw fun t=> ?_
  unfold Region.schedule
  split
  ·exact wpAny_sound _ _ _ _ _ (hany _)
  ·exact wpAny_sound _ _ _ _ _ (hany _)
end
end Go.Proofs.YtadefjgbcapakaaGreatDoor.Vm
namespace Go.Proofs.YtadefjgbcapakaaGreatDoor.Vm
open Classical
section
variable {P:Program} {C:Ctx}
def Adj:List (Nat×Sig)->Nat->Option Sig
  | [],_=>none
  | (k,x)::r,t=>bif Nat.beq k t then some x else Adj r t
theorem AjZ: ∀ {l:List (Nat×Sig)} {t:Nat} {x:Sig},Adj l t=some x->(t,x)∈l:=by
  intro l
  induction l with
  | nil=>intro t x h;cases h
  | cons p r ih =>
    intro t x h
    obtain⟨k,y⟩:=p
    simp only[Adj,L9]at h
    by_cases hk:k=t
    ·simp only[hk,decide_true,cond_true,Option.some.injEq]at h
     rw[hk,h];exact List.mem_cons_self
    ·rw[show decide (k=t)=false by simpa using hk]at h
     exact List.mem_cons_of_mem _ (ih h)
def An6:List (Nat×Nrm)->Nat->Option Nrm
  | [],_=>none
  | (k,x)::r,t=>bif Nat.beq k t then some x else An6 r t
def AcZ:List (Nat×Alt)->Nat->Option Alt
  | [],_=>none
  | (k,x)::r,t=>bif Nat.beq k t then some x else AcZ r t
def Adf:List (Nat×(Nat->Sig))->Nat->Option (Nat->Sig)
  | [],_=>none
  | (k,x)::r,t=>bif Nat.beq k t then some x else Adf r t
def ctx (P:Program) (gs:List (Nat×Sig)) (ns:List (Nat×Nrm)) (aa:List (Nat×Alt):=[]) (dd:List (Nat×(Nat->Sig)):=[]) (cc:List Nat:=[]) (bb:List Nat:=[]):Ctx:=⟨AiY P,Adj gs,An6 ns,AcZ aa,Adf dd,cc,bb⟩
def SL (P:Program) (F:Nat->Sig):Prop:=(∀ xs,(F 0).ok xs=false)/\ ∀ f xs,(F (f+1)).ok xs=true->Spec P f (F (f+1))
def AgN (P:Program):List (Nat×(Nat->Sig))->Prop
  | []=>True
  | (_,F)::r=>SL P F/\AgN P r
theorem AgN.look: ∀ {l:List (Nat×(Nat->Sig))},AgN P l-> ∀ t F,Adf l t=some F->SL P F:=by
  intro l
  induction l with
  | nil=>intro _ t F h;cases h
  | cons p r ih =>
    intro h t F hF
    obtain⟨k,x⟩:=p
    simp only[Adf,L9]at hF
    by_cases hk:k=t
    ·simp only[hk,decide_true,cond_true,Option.some.injEq]at hF
     rw[<- hF];exact h.1
    ·rw[show decide (k=t)=false by simpa using hk]at hF
     exact ih h.2 t F hF
def AgL (P:Program):List (Nat×Alt)->Prop
  | []=>True
  | (f,q)::r=>(Spec P f q.1/\Spec P f q.2.1)/\AgL P r
theorem AgL.look: ∀ {l:List (Nat×Alt)},AgL P l-> ∀ f q,AcZ l f=some q->Spec P f q.1/\Spec P f q.2.1:=by
  intro l
  induction l with
  | nil=>intro _ f q h;cases h
  | cons p r ih =>
    intro h f q hq
    obtain⟨k,x⟩:=p
    simp only[AcZ,L9]at hq
    by_cases hk:k=f
    ·simp only[hk,decide_true,cond_true,Option.some.injEq]at hq
     rw[<- hq,<- hk];exact h.1
    ·rw[show decide (k=f)=false by simpa using hk]at hq
     exact ih h.2 f q hq
def AcX (P:Program):List (Nat×Sig)->Prop
  | []=>True
  | (f,sg)::r=>Spec P f sg/\AcX P r
theorem AcX.mem: ∀ {l:List (Nat×Sig)},AcX P l-> ∀ p∈l,Spec P p.1 p.2:=by
  intro l
  induction l with
  | nil=>intro _ p hp;cases hp
  | cons q r ih =>
    intro h p hp
    rcases List.mem_cons.1 hp with rfl | hp
    ·exact h.1
    ·exact ih h.2 p hp
theorem Ag {gs:List (Nat×Sig)} {ns:List (Nat×Nrm)} {aa:List (Nat×Alt)} {dd:List (Nat×(Nat->Sig))} {cc bb:List Nat} (hG:AcX P gs) (hA:AgL P aa:=by trivial) (hD:AgN P dd:=by trivial):Jf P (ctx P gs ns aa dd cc bb) :=
  ⟨fun _ _ h=>h,fun _ _ h=>hG.mem _ (AjZ h),hA.look,hD.look⟩
theorem enters {f:FuncId} {fn:Func} (hf:P.funcs[f]? =some fn) (hb:fn.body.isNone=false) (hn:(fn.name== "runtime.NumGoroutine")=false) (args:Array Value) (w:World):(callFunc f args).run P w= .ok (.enter f args) w:=by
  have h1:fn.name≠ "runtime.NumGoroutine" :=by simpa using hn
  have h2:fn.body≠none:=by intro e;rw[e]at hb;cases hb
  simp [callFunc,hf,h1,h2]
def D7:(ks:List (Bool×CK))->List A->Option (tyl (ks.map (·.2))).Val
  | []=>fun
    | []=>some ()
    | _=>none
  | (_,.bool)::r=>fun
    | .bool b::cs=>(D7 r cs).map (fun q=>Ty.mk2 _ b q)
    | _=>none
  | (_,.int k)::r=>fun
    | .int j n::cs=>bif A.kEq j k then(D7 r cs).map (fun q=>Ty.mk2 _ n q)else none
    | _=>none
  | (_,.str)::r=>fun
    | .str s::cs=>(D7 r cs).map (fun q=>Ty.mk2 _ s q)
    | _=>none
  | (false,.sl _ t)::r=>fun
    | .sl l::cs=>match l.cast t with
      | some xs=>(D7 r cs).map (fun q=>Ty.mk2 _ xs q)
      | none=>none
    | _=>none
  | (true,.sl e t)::r=>fun
    | .usl e' l::cs=>bif Nat.beq e' e then match l.cast t with
      | some xs=>(D7 r cs).map (fun q=>Ty.mk2 _ xs q)
      | none=>none
      else none
    | _=>none
  | (_,.sln _ t)::r=>fun
    | .sln l::cs=>match l.cast t with
      | some xs=>(D7 r cs).map (fun q=>Ty.mk2 _ xs q)
      | none=>none
    | _=>none
  | (_,.ptr)::r=>fun
    | .Dk::cs=>(D7 r cs).map (fun q=>q)
    | _=>none
  | (_,.fn)::r=>fun
    | .fn n::cs=>(D7 r cs).map (fun q=>Ty.mk2 _ n q)
    | _=>none
  | (_,.mp kt vt)::r=>fun
    | .ump l::cs=>match l.cast kt vt with
      | some xs=>(D7 r cs).map (fun q=>Ty.mk2 _ xs q)
      | none=>none
    | _=>none
  | (_,.oth)::_=>fun _=>none
def Fz:(ks:List (Bool×CK))->(tyl (ks.map (·.2))).Val->List A
  | [],_=>[]
  | (_,.bool)::r,v=>.bool (Ty.hd _ v)::Fz r (Ty.tl _ v)
  | (_,.int k)::r,v=>.int k (Ty.hd _ v)::Fz r (Ty.tl _ v)
  | (_,.str)::r,v=>.str (Ty.hd _ v)::Fz r (Ty.tl _ v)
  | (false,.sl _ t)::r,v=>.sl ⟨t,Ty.hd _ v⟩::Fz r (Ty.tl _ v)
  | (true,.sl e t)::r,v=>.usl e ⟨t,Ty.hd _ v⟩::Fz r (Ty.tl _ v)
  | (_,.sln _ t)::r,v=>.sln ⟨t,Ty.hd _ v⟩::Fz r (Ty.tl _ v)
  | (_,.ptr)::r,v=>.Dk::Fz r v
  | (_,.fn)::r,v=>.fn (Ty.hd _ v)::Fz r (Ty.tl _ v)
  | (_,.mp kt vt)::r,v=>.ump ⟨kt,vt,Ty.hd _ v⟩::Fz r (Ty.tl _ v)
  | (_,.oth)::_,_=>[]
theorem Ur: ∀(ks:List (Bool×CK)) (cs:List A) (v:(tyl (ks.map (·.2))).Val),D7 ks cs=some v->cs=Fz ks v:=by
  intro ks
  induction ks with
  | nil =>
    intro cs v h
    cases cs with
    | nil=>rfl
    | cons _ _=>cases h
  | cons k ks ih =>
    intro cs v h
    obtain⟨u,k⟩:=k
    have none': ∀ {α :Type} {x: α},(none:Option α)=some x->False:=fun h=>by cases h
    cases k with
    | bool =>
      simp only[D7]at h
      split at h
      ·rename_i b cs
       cases hd:D7 ks cs with
       | none=>rw[hd]at h;cases h
       | some q =>
         rw[hd]at h
         injection h with h
         subst h
         simp only[Fz,Ty.Ie,Ty.Ij]
         rw[<- ih cs q hd]
      ·exact(none' h).elim
    | int k =>
      simp only[D7]at h
      split at h
      ·rename_i j n cs
       cases hk:A.kEq j k with
       | false=>rw[hk]at h;exact(none' h).elim
       | true =>
         rw[hk]at h
         cases hd:D7 ks cs with
         | none=>rw[hd]at h;cases h
         | some q =>
           rw[hd]at h
           injection h with h
           subst h
           simp only[Fz,Ty.Ie,Ty.Ij]
           rw[<- ih cs q hd,A.Ku hk]
      ·exact(none' h).elim
    | str =>
      simp only[D7]at h
      split at h
      ·rename_i b cs
       cases hd:D7 ks cs with
       | none=>rw[hd]at h;cases h
       | some q =>
         rw[hd]at h
         injection h with h
         subst h
         simp only[Fz,Ty.Ie,Ty.Ij]
         rw[<- ih cs q hd]
      ·exact(none' h).elim
    | sl e t =>
      cases u with
      | false =>
        simp only[D7]at h
        split at h
        ·rename_i l cs
         cases hc:l.cast t with
         | none=>rw[hc]at h;exact(none' h).elim
         | some xs =>
           rw[hc]at h
           dsimp only at h
           cases hd:D7 ks cs with
           | none=>rw[hd]at h;cases h
           | some q =>
             rw[hd]at h
             injection h with h
             subst h
             simp only[Fz,Ty.Ie,Ty.Ij]
             rw[<- ih cs q hd,Sl.J9 hc]
        ·exact(none' h).elim
      | true =>
        simp only[D7]at h
        split at h
        ·rename_i e' l cs
         cases he:Nat.beq e' e with
         | false=>rw[he]at h;exact(none' h).elim
         | true =>
           rw[he]at h
           dsimp only[cond_true]at h
           cases hc:l.cast t with
           | none=>rw[hc]at h;exact(none' h).elim
           | some xs =>
             rw[hc]at h
             dsimp only at h
             cases hd:D7 ks cs with
             | none=>rw[hd]at h;cases h
             | some q =>
               rw[hd]at h
               injection h with h
               subst h
               simp only[Fz,Ty.Ie,Ty.Ij]
               rw[<- ih cs q hd,Sl.J9 hc,Nat.eq_of_beq_eq_true he]
        ·exact(none' h).elim
    | ptr =>
      simp only[D7]at h
      split at h
      ·rename_i cs
       cases hd:D7 ks cs with
       | none=>rw[hd]at h;cases h
       | some q =>
         rw[hd]at h
         injection h with h
         subst h
         simp only[Fz]
         rw[<- ih cs _ hd]
      ·exact(none' h).elim
    | fn =>
      simp only[D7]at h
      split at h
      ·rename_i b cs
       cases hd:D7 ks cs with
       | none=>rw[hd]at h;cases h
       | some q =>
         rw[hd]at h
         injection h with h
         subst h
         simp only[Fz,Ty.Ie,Ty.Ij]
         rw[<- ih cs q hd]
      ·exact(none' h).elim
    | sln e t =>
      simp only[D7]at h
      split at h
      ·rename_i l cs
       cases hc:l.cast t with
       | none=>rw[hc]at h;exact(none' h).elim
       | some xs =>
         rw[hc]at h
         dsimp only at h
         cases hd:D7 ks cs with
         | none=>rw[hd]at h;cases h
         | some q =>
           rw[hd]at h
           injection h with h
           subst h
           simp only[Fz,Ty.Ie,Ty.Ij]
           rw[<- ih cs q hd,Sl.J9 hc]
      ·exact(none' h).elim
    | mp kt vt =>
      simp only[D7]at h
      split at h
      ·rename_i l cs
       cases hc:l.cast kt vt with
       | none=>rw[hc]at h;exact(none' h).elim
       | some xs =>
         rw[hc]at h
         dsimp only at h
         cases hd:D7 ks cs with
         | none=>rw[hd]at h;cases h
         | some q =>
           rw[hd]at h
           injection h with h
           subst h
           simp only[Fz,Ty.Ie,Ty.Ij]
           rw[<- ih cs q hd,Mp.J9 hc]
      ·exact(none' h).elim
    | oth=>simp only[D7]at h;exact(none' h).elim
def Sh.ks:Sh->List (Bool×CK)
  | .cell u k=>[(u,k)]
  | .agg ks=>ks
  | .box ks=>ks
  | .clo _ ks=>ks
  | .map kt vt=>[(true,.mp kt vt)]
def Sh.T (s:Sh):Type:=(tyl (s.ks.map (·.2))).Val
def Sh.dec:(s:Sh)->A->Option s.T
  | .cell u k,x=>D7 [(u,k)] [x]
  | .agg ks,.agg cs=>D7 ks cs
  | .box ks,.box cs=>D7 ks cs
  | .clo f ks,.cbx g cs=>bif Nat.beq f g then D7 ks cs else none
  | .map kt vt,x=>D7 [(true,.mp kt vt)] [x]
  | _,_=>none
def Sh.enc:(s:Sh)->s.T->A
  | .cell u k,v=>(Fz [(u,k)] v).getD 0 .undef
  | .agg ks,v=>.agg (Fz ks v)
  | .box ks,v=>.box (Fz ks v)
  | .clo f ks,v=>.cbx f (Fz ks v)
  | .map kt vt,v=>(Fz [(true,.mp kt vt)] v).getD 0 .undef
theorem Sh.AnT {s:Sh} {x:A} {v:s.T} (h:s.dec x=some v):x=s.enc v:=by
  cases s with
  | cell u k =>
    have:=Ur _ _ _ (show D7 [(u,k)] [x]=some v from h)
    show x=(Fz [(u,k)] v).getD 0 .undef
    rw[<- this];rfl
  | agg ks =>
    cases x with
    | agg cs =>
      have:=Ur _ _ _ (show D7 ks cs=some v from h)
      show _=A.agg (Fz ks v)
      rw[<- this]
    | _=>cases h
  | box ks =>
    cases x with
    | box cs =>
      have:=Ur _ _ _ (show D7 ks cs=some v from h)
      show _=A.box (Fz ks v)
      rw[<- this]
    | _=>cases h
  | clo f ks =>
    cases x with
    | cbx g cs =>
      have h:(bif Nat.beq f g then D7 ks cs else none)=some v:=h
      cases hb:Nat.beq f g with
      | false=>rw[hb]at h;cases h
      | true =>
        rw[hb]at h
        have:=Ur _ _ _ (show D7 ks cs=some v from h)
        show _=A.cbx f (Fz ks v)
        rw[<- this,Nat.eq_of_beq_eq_true hb]
    | _=>cases h
  | map kt vt =>
    have:=Ur _ _ _ (show D7 [(true,.mp kt vt)] [x]=some v from h)
    show x=(Fz [(true,.mp kt vt)] v).getD 0 .undef
    rw[<- this];rfl
def prS (s:Sh) (β :Type):List Sh->Type
  | []=>s.T
  | _::_=>s.T× β
def ShT:List Sh->Type
  | []=>Unit
  | s::r=>prS s (ShT r) r
def hdS (s:Sh):(r:List Sh)->prS s (ShT r) r->s.T
  | [],v=>v
  | _::_,v=>v.1
def tlS (s:Sh):(r:List Sh)->prS s (ShT r) r->ShT r
  | [],_=>()
  | _::_,v=>v.2
def mkS (s:Sh):(r:List Sh)->s.T->ShT r->prS s (ShT r) r
  | [],a,_=>a
  | _::_,a,b=>(a,b)
theorem Apk (s:Sh) (r:List Sh) (a:s.T) (b:ShT r):hdS s r (mkS s r a b)=a:=by cases r<;>rfl
theorem ApW (s:Sh) (r:List Sh) (a:s.T) (b:ShT r):tlS s r (mkS s r a b)=b:=by cases r<;>rfl
def Ahe (s:Sh) (r:List Sh):Option s.T->Option (ShT r)->Option (prS s (ShT r) r)
  | some a,some b=>some (mkS s r a b)
  | _,_=>none
theorem Ahf {s:Sh} {r:List Sh} {x:Option s.T} {y:Option (ShT r)} {v:prS s (ShT r) r} (h:Ahe s r x y=some v): ∃ a b,x=some a/\y=some b/\v=mkS s r a b:=by
  cases x with
  | none=>cases h
  | some a =>
    cases y with
    | none=>cases h
    | some b=>injection h with h;exact⟨a,b,rfl,rfl,h.symm⟩
def Qv:(ss:List Sh)->List A->Option (ShT ss)
  | []=>fun
    | []=>some ()
    | _=>none
  | s::r=>fun
    | []=>none
    | x::xs=>Ahe s r (s.dec x) (Qv r xs)
def encs:(ss:List Sh)->ShT ss->List A
  | [],_=>[]
  | s::r,v=>s.enc (hdS s r v)::encs r (tlS s r v)
theorem AdI: ∀(ss:List Sh) (xs:List A) (v:ShT ss),Qv ss xs=some v->xs=encs ss v:=by
  intro ss
  induction ss with
  | nil =>
    intro xs v h
    cases xs with
    | nil=>rfl
    | cons _ _=>cases h
  | cons s ss ih =>
    intro xs v h
    cases xs with
    | nil=>cases h
    | cons x xs =>
      obtain⟨a,b,h1,h2,h3⟩:=Ahf (show Ahe s ss (s.dec x) (Qv ss xs)=some v from h)
      subst h3
      show _=s.enc (hdS s ss (mkS s ss a b))::encs ss (tlS s ss (mkS s ss a b))
      rw[Apk,ApW,<- Sh.AnT h1,<- ih xs b h2]
def Sh.zero (s:Sh):s.T:=Ty.zero _
def zeroS:(ss:List Sh)->ShT ss
  | []=>()
  | s::r=>mkS s r s.zero (zeroS r)
def ES (Af A7:List Sh):List Sh:=A7++Af.filterMap (fun | .box ks=>some (.agg ks) | .clo _ ks=>some (.agg ks) | .map kt vt=>some (.map kt vt) | _=>none)
def Sig.of (Af A7:List Sh) (f:ShT Af->Option (ShT (ES Af A7))):Sig where
  Af:=Af
  A7:=A7
  ok xs:=match Qv Af xs with
    | some a=>(f a).isSome
    | none=>false
  val xs:=match Qv Af xs with
    | some a=>encs (ES Af A7) ((f a).getD (zeroS _))
    | none=>[]
def Qw (Af A7:List Sh):List (Nat×(ShT Af->Option (ShT (ES Af A7))))->Nat->ShT Af->Option (ShT (ES Af A7))
  | [],_,_=>none
  | (f,g)::r,n,x=>bif Nat.beq n (f+1)then g x else Qw Af A7 r n x
def Ad0 (P:Program) (Af A7:List Sh):List (Nat×(ShT Af->Option (ShT (ES Af A7))))->Prop
  | []=>True
  | (f,g)::r=>Spec P f (Sig.of Af A7 g)/\Ad0 P Af A7 r
theorem Aj4 (Af A7:List Sh): ∀(l:List (Nat×(ShT Af->Option (ShT (ES Af A7))))) (x:ShT Af),Qw Af A7 l 0 x=none:=by
  intro l
  induction l with
  | nil=>intro x;rfl
  | cons p r ih=>intro x;obtain⟨f,g⟩:=p;simp only[Qw];exact ih x
theorem Aj3 {Af A7:List Sh}: ∀ {l:List (Nat×(ShT Af->Option (ShT (ES Af A7))))},Ad0 P Af A7 l-> ∀ f,(∀ x,Qw Af A7 l (f+1) x=none)\/Spec P f (Sig.of Af A7 (Qw Af A7 l (f+1))):=by
  intro l
  induction l with
  | nil=>intro _ f;exact .inl fun x=>rfl
  | cons p r ih =>
    intro h f
    obtain⟨k,g⟩:=p
    by_cases hk:f=k
    ·subst hk
     have:Qw Af A7 ((f,g)::r) (f+1)=g:=by
       funext x
       simp [Qw,L9]
     rw[this]
     exact .inr h.1
    ·have:Qw Af A7 ((k,g)::r) (f+1)=Qw Af A7 r (f+1):=by
       funext x
       simp [Qw,L9,hk]
     rw[this]
     exact ih h.2 f
theorem TK {Af A7:List Sh} {l:List (Nat×(ShT Af->Option (ShT (ES Af A7))))} (h:Ad0 P Af A7 l):SL P (fun n=>Sig.of Af A7 (Qw Af A7 l n)):=by
  refine⟨fun xs=> ?_,fun f xs hok=> ?_⟩
  ·show(match Qv Af xs with | some a=>(Qw Af A7 l 0 a).isSome | none=>false)=false
   cases Qv Af xs with
   | none=>rfl
   | some a=>dsimp only;rw[Aj4];rfl
  ·rcases Aj3 h f with h0 | h0
   ·have hok':(match Qv Af xs with | some a=>(Qw Af A7 l (f+1) a).isSome | none=>false)=true:=hok
    cases hd:Qv Af xs with
    | none=>rw[hd]at hok';cases hok'
    | some a=>rw[hd]at hok';dsimp only at hok';rw[h0]at hok';cases hok'
   ·exact h0
theorem Sig.Yx {Af A7:List Sh} {f:ShT Af->Option (ShT (ES Af A7))} {xs rs:List A} (h:(Sig.of Af A7 f).F xs=some rs): ∃ a o,xs=encs Af a/\f a=some o/\rs=encs _ o:=by
  unfold Sig.F Sig.of at h
  dsimp only at h
  cases hd:Qv Af xs with
  | none=>rw[hd]at h;cases h
  | some a =>
    rw[hd]at h
    dsimp only at h
    cases hf:f a with
    | none=>rw[hf]at h;cases h
    | some o =>
      rw[hf]at h
      injection h with h
      exact⟨a,o,AdI _ _ _ hd,hf,h.symm⟩
def RU (C:Ctx) (Af A7:List Sh) (outs:List (Nat×Option Nat)) (st:St):Option (ShT (ES Af A7)) :=
  allT ((AY st.Aa A7 (IQ C outs st)).1++(AY st.Aa (Af.map KT) (Ji Af 0)).1 ++
      [nodup ((EF st.Aa 256000 256 A7 (IQ C outs st)++EF st.Aa 0 256 (Af.map KT) (Ji Af 0)).map (·.1))]++outs.flatMap (fun q=>(sZ C st q).1))
    (Qv _ ((AY st.Aa A7 (IQ C outs st)).2.1++(CU Af 0).map (fun i=>unbox ((AY st.Aa (Af.map KT) (Ji Af 0)).2.1.getD i .undef))))
theorem AnF {α β :Type} {l:List Bool} {x:Option α} {y: α} (h:allT l x=some y) (z: β):allT l (some z)=some z:=by
  induction l with
  | nil=>rfl
  | cons c cs ih =>
    cases c with
    | false=>cases h
    | true=>exact ih h
theorem AjH {C:Ctx} {Af A7:List Sh} {outs:List (Nat×Option Nat)} {st:St} {o:ShT (ES Af A7)} (h:RU C Af A7 outs st=some o):finish C Af A7 outs st=some (encs _ o):=by
  unfold RU at h
  obtain⟨_,h2⟩:=La h
  have:=AdI _ _ _ h2
  unfold finish
  rw[<- this]
  exact AnF h _
theorem PM {ρ :Type} {fin:St->Option ρ} (hC:Jf P C) (N:Nat) {f:FuncId} {fn:Func} {code:Code} {outs:List (Nat×Option Nat)} {Af A7:List Sh} {g:ShT Af->Option (ShT (ES Af A7))} (hf:P.funcs[f]? =some fn) (hb:fn.body=some code) (hn:(fn.name== "runtime.NumGoroutine")=false)
    (hout:fn.results=(outs.map rv).toArray) (hF: ∀ a o,g a=some o-> ∃ r,runK C N Af fn.ntmps code fin (encs Af a)=some r/\ ∀ st,fin st=some r->RU C Af A7 outs st=some o):Spec P f (Sig.of Af A7 g) :=
  ⟨enters hf (by rw[hb];rfl) hn,fun _ _ _ xs rs hI hv hl h100 hx hrs=>by
    obtain⟨a,o,h1,h2,h3⟩:=Sig.Yx hrs
    subst h1;subst h3
    obtain⟨r,h4,h5⟩:=hF a o h2
    exact Alb (sg:=Sig.of Af A7 g) (o:=r) hC N (fun id ops _ _ _ _ _ K hS hd hx=>Ah1 hC id ops K hS hd hx) hf hb hout hI hv hl h100 hx h4 (fun st h=>AjH (h5 st h))⟩
end
end Go.Proofs.YtadefjgbcapakaaGreatDoor.Vm
namespace Go.Proofs.YtadefjgbcapakaaGreatDoor.Vm
def Ho {α ρ :Type} (A:(α ->Option ρ)->Option ρ) (f: α ->Option ρ):Option ρ :=A f
def Aj {ρ :Type} (b:Bool) (k:Bool->Option ρ):Option ρ :=k b
theorem kW {ρ :Type} (b:Bool) (k:Bool->Option ρ):Aj b k=k b:=rfl
def Apo {α β :Type}:Option (α ⊕ β)->Bool
  | some (.inr _)=>false
  | _=>true
def Aph {α β :Type}:Option (α ⊕ β)->Option α
  | some (.inl x)=>some x
  | _=>none
def Api {α β :Type}:Option (α ⊕ β)->Option β
  | some (.inr x)=>some x
  | _=>none
def Ik {α β ρ :Type} [Inhabited α] [Inhabited β] (o:Option (α ⊕ β)) (k: α ->Option ρ) (l: β ->Option ρ):Option ρ :=bif Apo o then Ac (Aph o) k else Ac (Api o) l
theorem QV {α β ρ :Type} [Inhabited α] [Inhabited β] (x: α) (k: α ->Option ρ) (l: β ->Option ρ):Ik (some (.inl x)) k l=k x:=rfl
theorem IG {α β ρ :Type} [Inhabited α] [Inhabited β] (x: β) (k: α ->Option ρ) (l: β ->Option ρ):Ik (some (.inr x)) k l=l x:=rfl
def strings_Join (_:Nat) (l:List Bs) (sep:Bs):Option Bs:=bif decide (l.length<=140737488355328)&&decide ((sep.intercalate l).length<=140737488355328)then some (sep.intercalate l)else none
def U2 {a0 a1 r:Type} (f:a0->a1->r) (x:a0×a1):r:=f x.1 x.2
def U3 {a0 a1 a2 r:Type} (f:a0->a1->a2->r) (x:a0×a1×a2):r:=f x.1 x.2.1 x.2.2
def U4 {a0 a1 a2 a3 r:Type} (f:a0->a1->a2->a3->r) (x:a0×a1×a2×a3):r:=f x.1 x.2.1 x.2.2.1 x.2.2.2
def U5 {a0 a1 a2 a3 a4 r:Type} (f:a0->a1->a2->a3->a4->r) (x:a0×a1×a2×a3×a4):r:=f x.1 x.2.1 x.2.2.1 x.2.2.2.1 x.2.2.2.2
def U6 {a0 a1 a2 a3 a4 a5 r:Type} (f:a0->a1->a2->a3->a4->a5->r) (x:a0×a1×a2×a3×a4×a5):r:=f x.1 x.2.1 x.2.2.1 x.2.2.2.1 x.2.2.2.2.1 x.2.2.2.2.2
def U7 {a0 a1 a2 a3 a4 a5 a6 r:Type} (f:a0->a1->a2->a3->a4->a5->a6->r) (x:a0×a1×a2×a3×a4×a5×a6):r:=f x.1 x.2.1 x.2.2.1 x.2.2.2.1 x.2.2.2.2.1 x.2.2.2.2.2.1 x.2.2.2.2.2.2
def U8 {a0 a1 a2 a3 a4 a5 a6 a7 r:Type} (f:a0->a1->a2->a3->a4->a5->a6->a7->r) (x:a0×a1×a2×a3×a4×a5×a6×a7):r:=f x.1 x.2.1 x.2.2.1 x.2.2.2.1 x.2.2.2.2.1 x.2.2.2.2.2.1 x.2.2.2.2.2.2.1 x.2.2.2.2.2.2.2
def U9 {a0 a1 a2 a3 a4 a5 a6 a7 a8 r:Type} (f:a0->a1->a2->a3->a4->a5->a6->a7->a8->r) (x:a0×a1×a2×a3×a4×a5×a6×a7×a8):r:=f x.1 x.2.1 x.2.2.1 x.2.2.2.1 x.2.2.2.2.1 x.2.2.2.2.2.1 x.2.2.2.2.2.2.1 x.2.2.2.2.2.2.2.1 x.2.2.2.2.2.2.2.2
def U10 {a0 a1 a2 a3 a4 a5 a6 a7 a8 a9 r:Type} (f:a0->a1->a2->a3->a4->a5->a6->a7->a8->a9->r) (x:a0×a1×a2×a3×a4×a5×a6×a7×a8×a9):r:=f x.1 x.2.1 x.2.2.1 x.2.2.2.1 x.2.2.2.2.1 x.2.2.2.2.2.1 x.2.2.2.2.2.2.1 x.2.2.2.2.2.2.2.1 x.2.2.2.2.2.2.2.2.1 x.2.2.2.2.2.2.2.2.2
def U19 {a0 a1 a2 a3 a4 a5 a6 a7 a8 a9 a10 a11 a12 a13 a14 a15 a16 a17 a18 r:Type} (f:a0->a1->a2->a3->a4->a5->a6->a7->a8->a9->a10->a11->a12->a13->a14->a15->a16->a17->a18->r) (x:a0×a1×a2×a3×a4×a5×a6×a7×a8×a9×a10×a11×a12×a13×a14×a15×a16×a17×a18):r:=f x.1 x.2.1 x.2.2.1 x.2.2.2.1 x.2.2.2.2.1 x.2.2.2.2.2.1 x.2.2.2.2.2.2.1 x.2.2.2.2.2.2.2.1 x.2.2.2.2.2.2.2.2.1 x.2.2.2.2.2.2.2.2.2.1 x.2.2.2.2.2.2.2.2.2.2.1 x.2.2.2.2.2.2.2.2.2.2.2.1 x.2.2.2.2.2.2.2.2.2.2.2.2.1 x.2.2.2.2.2.2.2.2.2.2.2.2.2.1 x.2.2.2.2.2.2.2.2.2.2.2.2.2.2.1 x.2.2.2.2.2.2.2.2.2.2.2.2.2.2.2.1 x.2.2.2.2.2.2.2.2.2.2.2.2.2.2.2.2.1 x.2.2.2.2.2.2.2.2.2.2.2.2.2.2.2.2.2.1 x.2.2.2.2.2.2.2.2.2.2.2.2.2.2.2.2.2.2
def U20 {a0 a1 a2 a3 a4 a5 a6 a7 a8 a9 a10 a11 a12 a13 a14 a15 a16 a17 a18 a19 r:Type} (f:a0->a1->a2->a3->a4->a5->a6->a7->a8->a9->a10->a11->a12->a13->a14->a15->a16->a17->a18->a19->r) (x:a0×a1×a2×a3×a4×a5×a6×a7×a8×a9×a10×a11×a12×a13×a14×a15×a16×a17×a18×a19):r:=f x.1 x.2.1 x.2.2.1 x.2.2.2.1 x.2.2.2.2.1 x.2.2.2.2.2.1 x.2.2.2.2.2.2.1 x.2.2.2.2.2.2.2.1 x.2.2.2.2.2.2.2.2.1 x.2.2.2.2.2.2.2.2.2.1 x.2.2.2.2.2.2.2.2.2.2.1 x.2.2.2.2.2.2.2.2.2.2.2.1 x.2.2.2.2.2.2.2.2.2.2.2.2.1 x.2.2.2.2.2.2.2.2.2.2.2.2.2.1 x.2.2.2.2.2.2.2.2.2.2.2.2.2.2.1 x.2.2.2.2.2.2.2.2.2.2.2.2.2.2.2.1 x.2.2.2.2.2.2.2.2.2.2.2.2.2.2.2.2.1 x.2.2.2.2.2.2.2.2.2.2.2.2.2.2.2.2.2.1 x.2.2.2.2.2.2.2.2.2.2.2.2.2.2.2.2.2.2.1 x.2.2.2.2.2.2.2.2.2.2.2.2.2.2.2.2.2.2.2
def U21 {a0 a1 a2 a3 a4 a5 a6 a7 a8 a9 a10 a11 a12 a13 a14 a15 a16 a17 a18 a19 a20 r:Type} (f:a0->a1->a2->a3->a4->a5->a6->a7->a8->a9->a10->a11->a12->a13->a14->a15->a16->a17->a18->a19->a20->r) (x:a0×a1×a2×a3×a4×a5×a6×a7×a8×a9×a10×a11×a12×a13×a14×a15×a16×a17×a18×a19×a20):r:=f x.1 x.2.1 x.2.2.1 x.2.2.2.1 x.2.2.2.2.1 x.2.2.2.2.2.1 x.2.2.2.2.2.2.1 x.2.2.2.2.2.2.2.1 x.2.2.2.2.2.2.2.2.1 x.2.2.2.2.2.2.2.2.2.1 x.2.2.2.2.2.2.2.2.2.2.1 x.2.2.2.2.2.2.2.2.2.2.2.1 x.2.2.2.2.2.2.2.2.2.2.2.2.1 x.2.2.2.2.2.2.2.2.2.2.2.2.2.1 x.2.2.2.2.2.2.2.2.2.2.2.2.2.2.1 x.2.2.2.2.2.2.2.2.2.2.2.2.2.2.2.1 x.2.2.2.2.2.2.2.2.2.2.2.2.2.2.2.2.1 x.2.2.2.2.2.2.2.2.2.2.2.2.2.2.2.2.2.1 x.2.2.2.2.2.2.2.2.2.2.2.2.2.2.2.2.2.2.1 x.2.2.2.2.2.2.2.2.2.2.2.2.2.2.2.2.2.2.2.1 x.2.2.2.2.2.2.2.2.2.2.2.2.2.2.2.2.2.2.2.2
def U22 {a0 a1 a2 a3 a4 a5 a6 a7 a8 a9 a10 a11 a12 a13 a14 a15 a16 a17 a18 a19 a20 a21 r:Type} (f:a0->a1->a2->a3->a4->a5->a6->a7->a8->a9->a10->a11->a12->a13->a14->a15->a16->a17->a18->a19->a20->a21->r) (x:a0×a1×a2×a3×a4×a5×a6×a7×a8×a9×a10×a11×a12×a13×a14×a15×a16×a17×a18×a19×a20×a21):r:=f x.1 x.2.1 x.2.2.1 x.2.2.2.1 x.2.2.2.2.1 x.2.2.2.2.2.1 x.2.2.2.2.2.2.1 x.2.2.2.2.2.2.2.1 x.2.2.2.2.2.2.2.2.1 x.2.2.2.2.2.2.2.2.2.1 x.2.2.2.2.2.2.2.2.2.2.1 x.2.2.2.2.2.2.2.2.2.2.2.1 x.2.2.2.2.2.2.2.2.2.2.2.2.1 x.2.2.2.2.2.2.2.2.2.2.2.2.2.1 x.2.2.2.2.2.2.2.2.2.2.2.2.2.2.1 x.2.2.2.2.2.2.2.2.2.2.2.2.2.2.2.1 x.2.2.2.2.2.2.2.2.2.2.2.2.2.2.2.2.1 x.2.2.2.2.2.2.2.2.2.2.2.2.2.2.2.2.2.1 x.2.2.2.2.2.2.2.2.2.2.2.2.2.2.2.2.2.2.1 x.2.2.2.2.2.2.2.2.2.2.2.2.2.2.2.2.2.2.2.1 x.2.2.2.2.2.2.2.2.2.2.2.2.2.2.2.2.2.2.2.2.1 x.2.2.2.2.2.2.2.2.2.2.2.2.2.2.2.2.2.2.2.2.2
def U23 {a0 a1 a2 a3 a4 a5 a6 a7 a8 a9 a10 a11 a12 a13 a14 a15 a16 a17 a18 a19 a20 a21 a22 r:Type} (f:a0->a1->a2->a3->a4->a5->a6->a7->a8->a9->a10->a11->a12->a13->a14->a15->a16->a17->a18->a19->a20->a21->a22->r) (x:a0×a1×a2×a3×a4×a5×a6×a7×a8×a9×a10×a11×a12×a13×a14×a15×a16×a17×a18×a19×a20×a21×a22):r:=f x.1 x.2.1 x.2.2.1 x.2.2.2.1 x.2.2.2.2.1 x.2.2.2.2.2.1 x.2.2.2.2.2.2.1 x.2.2.2.2.2.2.2.1 x.2.2.2.2.2.2.2.2.1 x.2.2.2.2.2.2.2.2.2.1 x.2.2.2.2.2.2.2.2.2.2.1 x.2.2.2.2.2.2.2.2.2.2.2.1 x.2.2.2.2.2.2.2.2.2.2.2.2.1 x.2.2.2.2.2.2.2.2.2.2.2.2.2.1 x.2.2.2.2.2.2.2.2.2.2.2.2.2.2.1 x.2.2.2.2.2.2.2.2.2.2.2.2.2.2.2.1 x.2.2.2.2.2.2.2.2.2.2.2.2.2.2.2.2.1 x.2.2.2.2.2.2.2.2.2.2.2.2.2.2.2.2.2.1 x.2.2.2.2.2.2.2.2.2.2.2.2.2.2.2.2.2.2.1 x.2.2.2.2.2.2.2.2.2.2.2.2.2.2.2.2.2.2.2.1 x.2.2.2.2.2.2.2.2.2.2.2.2.2.2.2.2.2.2.2.2.1 x.2.2.2.2.2.2.2.2.2.2.2.2.2.2.2.2.2.2.2.2.2.1 x.2.2.2.2.2.2.2.2.2.2.2.2.2.2.2.2.2.2.2.2.2.2
open Go.RowKit
theorem Below.moves {O:Own} {T:Nat->Prop} {w w':World} (h:Below w.heap.size w w'):Moves O T w w':=⟨h.os,h.tape,h.output,h.size,fun b hb=>.inl (h.block b hb)⟩
noncomputable def IV (e N:Nat):Sig:=.of [.cell false (.sl e (.str .nil)),.cell false .str] [.cell false .str] (fun a=>strings_Join N a.1 a.2)
theorem YJ {O:Own} {w:World} {v:Value} {s:List UInt8} (h:Ai O w v (.str s)):v= .string ⟨s.toArray⟩:=by
  cases h with
  | str s=>exact congrArg Value.string (by rw[Array.toArray_toList])
theorem SI {O:Own} {w w':World} {vs:Array Value} {e N:Nat} {s:List UInt8} (hb:Below w.heap.size w w'):Came O w vs (IV e N) [.str s] (.string ⟨s.toArray⟩) O w':=by
  refine⟨Below.moves hb,fun b k _ h=>h,fun b k _ h=>h,rfl,⟨#[.string ⟨s.toArray⟩],rfl,rfl,fun k hk=> ?_⟩,fun j i hj=> ?_⟩
  ·have hk0:k=0:=by simp at hk;omega
   subst hk0
   show Ai O w' (.string ⟨s.toArray⟩) (.str s)
   exact Ai.str (O:=O) (w:=w') ⟨s.toArray⟩
  ·exact absurd hj (by show(CU [.cell false (.sl e (.str .nil)),.cell false .str] 0)[j]? ≠some i;simp [CU,BH])
def Ad1 (P:Program) (f:FuncId):Prop :=
    (∀(a:Option Addr) (c:Nat) (sep:ByteArray) (w:World),Calls P f #[.slice a 0 c,.string sep] w fun e w'=>e= .returned (.string ⟨#[]⟩)/\w'=w) /\
    (∀(bk o c:Nat) (xs:List ByteArray) (sep:ByteArray) (w:World),(∀(j:Nat) x,xs[j]? =some x->w.cell? ⟨bk,o+j,none⟩=some (.string x))->bk<w.heap.size->xs.length<=140737488355328->xs.length<=c->(Lib.join (xs.map (·.data.toList)) sep.data.toList).length<=140737488355328 ->
      Calls P f #[.slice (some ⟨bk,o,none⟩) xs.length c,.string sep] w fun e w'=>e= .returned (.string ⟨(Lib.join (xs.map (·.data.toList)) sep.data.toList).toArray⟩)/\Below w.heap.size w w')
theorem uG {P:Program} {f:FuncId} {e N:Nat} (H:Ad1 P f) {O:Own} {w:World} {vs:Array Value} (l:List Bs) (sep o:Bs) (hl2:vs.size=2) (hx0:Ai O w (vs.getD 0 undef) (.sl ⟨.str .nil,l⟩)) (hx1:Ai O w (vs.getD 1 undef) (.str sep)) (h2':strings_Join N l sep=some o) :
    Calls P f vs w fun e' w'=> ∃ v O',e'= .returned v/\Came O w vs (IV e N) [.str o] v O' w':=by
  obtain⟨hn,hj⟩:=H
  have hvs:vs= #[vs.getD 0 undef,vs.getD 1 undef]:=by
    apply Array.ext
    ·simpa using hl2
    ·intro i h1 h2
     have:i=0\/i=1:=by simp at h2;omega
     rcases this with rfl | rfl
     ·simp [Array.getD_eq_getD_getElem?,h1]
     ·simp [Array.getD_eq_getD_getElem?,h1]
  rw[YJ hx1]at hvs
  unfold strings_Join at h2'
  cases hc:(decide (l.length<=140737488355328)&&decide ((sep.intercalate l).length<=140737488355328))with
  | false=>rw[hc]at h2';cases h2'
  | true =>
    rw[hc]at h2'
    injection h2' with h2'
    rw[Bool.and_eq_true,decide_eq_true_eq,decide_eq_true_eq]at hc
    subst h2'
    have hes0:(⟨.str .nil,l⟩:Sl).es=l.map (fun s:Bs=>[A.str s]):=rfl
    generalize hv0:vs.getD 0 undef=v0 at *
    have hnil:l=[]-> ∀ a c,v0= .slice a 0 c->Calls P f vs w fun e' w'=> ∃ v O',e'= .returned v/\Came O w vs (IV e N) [.str (sep.intercalate l)] v O' w':=by
      intro hl0 a c hv0'
      have:=hn a c ⟨sep.toArray⟩ w
      rw[<- hv0',<- hvs]at this
      refine this.mono fun e' w' hq=> ?_
      obtain⟨h4,h5⟩:=hq
      subst h5
      refine⟨_,O,h4,?_⟩
      have:sep.intercalate l=[]:=by rw[hl0];rfl
      rw[this]
      exact SI (Below.refl _ _)
    have hsz:(⟨.str .nil,l⟩:Sl).sz=1:=rfl
    generalize hL:(⟨.str .nil,l⟩:Sl)=L at hx0 hes0 hsz
    have hlen:L.es.length=l.length:=by rw[hes0,List.length_map]
    have hes: ∀ j:Nat,L.es[j]? =(l[j]?).map (fun s=>[A.str s]):=fun j=>by rw[hes0,List.getElem?_map]
    cases hx0 with
    | nil t =>
      have:l=[]:=by injection hL with h1 h2;subst h1;exact eq_of_heq h2
      exact hnil this _ _ rfl
    | sl0 ad t =>
      have:l=[]:=by injection hL with h1 h2;subst h1;exact eq_of_heq h2
      exact hnil this _ _ rfl
    | @sl b off cap l' vs' hcap hm hr =>
      cases hl0:l with
      | nil=>rw[<- hl0];exact hnil hl0 _ cap (by rw[hlen,hl0];rfl)
      | cons s0 r =>
        have hb:b<w.heap.size:=by
          have:=(hm 0 0 (by rw[hlen,hl0];simp) (by omega)).2
          exact cell_lt this
        rw[<- hl0]
        have hmap:(l.map (fun s=>(⟨s.toArray⟩:ByteArray))).map (·.data.toList)=l:=by
          rw[List.map_map]
          conv=>rhs;rw[<- List.map_id l]
          refine List.map_congr_left fun s _=> ?_
          simp
        have hJ:=hj b off cap (l.map (fun s=>(⟨s.toArray⟩:ByteArray))) ⟨sep.toArray⟩ w (fun j x hjx=>by
          rw[List.getElem?_map]at hjx
          cases hlj:l[j]? with
          | none=>rw[hlj]at hjx;cases hjx
          | some s =>
            rw[hlj]at hjx
            injection hjx with hjx
            have hjl:j<L.es.length:=by
              rw[hlen]
              rcases Nat.lt_or_ge j l.length with h | h
              ·exact h
              ·rw[List.getElem?_eq_none h]at hlj;cases hlj
            have hm1:=(hm j 0 hjl (by omega)).2
            have hr1:=hr j 0 hjl (by omega)
            rw[List.getD_eq_getElem?_getD (l:=L.es),hes,hlj]at hr1
            have:=YJ (show Ai O w (vs' j 0) (.str s)from hr1)
            rw[this]at hm1;rw[<- hjx]
            have e1:off+(j*L.sz+0)=off+j:=by rw[hsz];omega
            rw[e1]at hm1
            exact hm1) hb (by rw[List.length_map];exact hc.1) (by rw[List.length_map,<- hlen];exact hcap) (by rw[hmap];show(List.intercalate _ l).length<=_;simpa using hc.2)
        rw[List.length_map,hmap,<- hlen,<- hvs]at hJ
        refine hJ.mono fun e' w' hq=> ?_
        have e2:Lib.join l (⟨sep.toArray⟩:ByteArray).data.toList=sep.intercalate l:=by show List.intercalate _ l=_;simp
        rw[e2]at hq
        exact⟨_,O,hq.1,SI hq.2⟩
theorem yY {P:Program} {f:FuncId} {e N:Nat} (hent: ∀ args w,(callFunc f args).run P w= .ok (.enter f args) w) (H:Ad1 P f):Spec P f (IV e N):=by
  refine⟨hent,fun O w vs xs rs _ hv hl _ hx hrs=> ?_⟩
  obtain⟨a,o,h1,h2,h3⟩:=Sig.Yx hrs
  subst h1
  have h3':rs=[.str o]:=h3
  rw[h3']
  exact uG H a.1 a.2 o hv (hx 0 (by show 0<2;omega)) (hx 1 (by show 1<2;omega)) h2
