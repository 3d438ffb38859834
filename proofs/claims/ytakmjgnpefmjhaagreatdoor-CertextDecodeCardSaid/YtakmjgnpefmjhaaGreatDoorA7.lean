import Derived.Test.YtakmjgnpefmjhaaGreatDoorA6
import Derived.Orders
import Derived.OwnWalk
set_option linter.all false
namespace Go.Proofs.YtakmjgnpefmjhaaGreatDoor.Vm
open Classical
def QA:Sh->Sh
 | .box ks=>.box ks
 | .map kt vt=>.map kt vt
 | .clo _ ks=>.box ks
 | _=>.cell false .bool
def Ay2:Sh->Nat->A
 | .box _,i=>.ptr (256*i) 0
 | .map _ _,i=>.own (256*i)
 | .clo _ _,i=>.ptr (256*i) 0
 | _,_=>.bool true
def QB:List Sh->Nat->List A
 | [],_=>[]
 | s::ss,i=>Ay2 s i::QB ss (i+1)
def unbox:A->A
 | .box cs=>.agg cs
 | a=>a
def Agw (Jz:List Sh) (xs:List A) (n:Nat):St:= {tmps:=(Le 0 256 Jz xs 0).2.1++List.replicate (n - Jz.length) .undef,Jr:=JH [] (Le 0 256 Jz xs 0).2.2}
def Aiw (C:Ctx) (st:St) (q:Nat×Option Nat):List Bool×A :=
 match q.2 with
 | none=>([Nat.blt q.1 st.tmps.length],st.tmps.getD q.1 .undef)
 | some ty=>match jE C st.Jr ty (st.tmps.getD q.1 .undef)with
  | δ =>(Nat.blt q.1 st.tmps.length:: δ.ok,δ.val)
def PN (C:Ctx) (outs:List (Nat×Option Nat)) (st:St):List A:=outs.map (fun q=>(Aiw C st q).2)
def finish (C:Ctx) (Jz JI:List Sh) (outs:List (Nat×Option Nat)) (st:St):Option (List A) :=
 allT ((JP st.Jr JI (PN C outs st)).1++(JP st.Jr (Jz.map QA) (QB Jz 0)).1 ++
  [nodup ((Oj st.Jr 256000 256 JI (PN C outs st)++Oj st.Jr 0 256 (Jz.map QA) (QB Jz 0)).map (·.1)),!(JI.any wS||(Jz.map QA).any wS)||((JP st.Jr JI (PN C outs st)).2.2.1.isEmpty&&(JP st.Jr (Jz.map QA) (QB Jz 0)).2.2.1.isEmpty)]++outs.flatMap (fun q=>(Aiw C st q).1))
  (some ((JP st.Jr JI (PN C outs st)).2.1++(LG Jz 0).map (fun i=>unbox ((JP st.Jr (Jz.map QA) (QB Jz 0)).2.1.getD i .undef))))
def runK {ρ :Type} (C:Ctx) (N:Nat) (Jz:List Sh) (n:Nat) (code:Code) (fin:St->Option ρ) (xs:List A):Option ρ :=
 allT ((Le 0 256 Jz xs 0).1++[nodup ((Le 0 256 Jz xs 0).2.2.map (·.1)),!(has ((Le 0 256 Jz xs 0).2.2.map (·.1)) 255)])
  (exec C N fin code (Agw Jz xs n) fun
    | .normal,st=>fin st
    | .exit _,_=>none)
section
variable {P:Program} {C:Ctx} {V0:Nat->Value} {O0 O:Own} {w0 w:World} {m:Nat->Value} {st:St} {a:Act}
def XH {id:Nat}: ∀(ks:List (Bool×CK)) (cs:List A) (j0:Nat),∀ p∈(JS id ks cs j0).2.2,∃ x,p.1=id+x/\x<j0+ks.length:=by
 intro ks
 induction ks with
 | nil=>intro cs j0 p hp;simp [JS]at hp
 | cons k ks ih =>
  intro cs j0 p hp;have step:p∈(JS id ks cs (j0+1)).2.2-> ∃ x,p.1=id+x/\x<j0+(k::ks).length:=by intro h;obtain⟨x,h1,h2⟩:=ih cs (j0+1) p h;exact⟨x,h1,by simp only[List.length_cons];omega⟩
  obtain⟨u,k⟩:=k;cases u with
  | false=>exact step hp
  | true =>
   cases k with
   | sl e sz =>
    simp only[JS]at hp;rcases D8.1 hp with rfl | hp
    .exact⟨j0,rfl,by simp⟩
    .exact step hp
   | sln e sz =>
    simp only[JS]at hp;rcases D8.1 hp with rfl | hp
    .exact⟨j0,rfl,by simp⟩
    .exact step hp
   | bx t =>
    simp only[JS]at hp;rcases D8.1 hp with rfl | hp
    .exact⟨j0,rfl,by simp⟩
    .exact step hp
   | _=>simp [JS]at hp
theorem AuL {id:Nat} {s:Sh} {x:A} (hok:JC (back id s x).1): ∀ p∈(back id s x).2.2,∃ i,p.1=id+i/\i<255:=by
 intro p hp;cases s with
 | cell u k =>obtain⟨i,h1,h2⟩:=XH _ _ _ p hp;exact⟨i,h1,by simp at h2;omega⟩
 | agg ks =>simp only[back]at hok hp;have:=DU hok.cons.1;obtain⟨i,h1,h2⟩:=XH _ _ _ p hp;exact⟨1+i,by omega,by omega⟩
 | box ks =>
  simp only[back]at hok hp;have:=DU hok.cons.1;rcases D8.1 hp with rfl | hp
  .exact⟨0,rfl,by omega⟩
  .obtain⟨i,h1,h2⟩:=XH _ _ _ p hp;exact⟨1+i,by omega,by omega⟩
 | clo f' ks =>
  simp only[back]at hok hp;have:=DU hok.cons.1;rcases D8.1 hp with rfl | hp
  .exact⟨0,rfl,by omega⟩
  .obtain⟨i,h1,h2⟩:=XH _ _ _ p hp;exact⟨1+i,by omega,by omega⟩
 | map kt vt=>simp_all[back,Sh,JC]
def As5 {f:Nat->Value}: ∀(ss:List Sh) (rs:List A) (j0:Nat),JC (Le 0 256 ss rs j0).1-> ∀ p∈aO w f 0 256 ss rs j0,p.2=Ov w (f (p.1 / 256)) (p.1 % 256):=by
 intro ss
 induction ss with
 | nil=>grind[aO]
 | cons s ss ih =>intro rs j0 hok p hp;simp only[Le]at hok;obtain⟨h1,h2⟩:=hok.append;all_goals grind[aO,AuL]
def Avp {Jz:List Sh} {xs:List A} {n:Nat} {vs:Array Value} (hI:Inv O w) (hv:vs.size=xs.length) (hl:xs.length=Jz.length) (h: ∀ j,j<xs.length->IR O w (256*j) (vs.getD j undef) (xs.getD j .undef))
 (hok:JC (Le 0 256 Jz xs 0).1) (hnd:nodup ((Le 0 256 Jz xs 0).2.2.map (·.1))=true) (h255:has ((Le 0 256 Jz xs 0).2.2.map (·.1)) 255=false) :
 Sim (fun o=>innerS w (Jz.getD (o / 256) (.agg [])) (vs.getD (o / 256) undef)) O w O (fun o=>Ov w (innerS w (Jz.getD (o / 256) (.agg [])) (vs.getD (o / 256) undef)) (o % 256)) (Agw Jz xs n) {tmps:=vs++Array.replicate (n - vs.size) undef,defers:=[]} w:=by
 have hmem: ∀ o x,J5 (JH [] (Le 0 256 Jz xs 0).2.2) o=some x->(o,x)∈(Le 0 256 Jz xs 0).2.2:=by
  intro o x hx;rcases pG _ (AhE hx)with h | h
  .exact h
  .cases h
 have hget: ∀ p∈(Le 0 256 Jz xs 0).2.2,J5 (JH [] (Le 0 256 Jz xs 0).2.2) p.1=some p.2:=fun p hp=>Ab5 (Jr:=[]) (upd:=[]) (del:=[]) hnd (o:=p.1) (x:=p.2) hp
 obtain⟨r1,r2,r3⟩:=AiX (Oc:=O) (O':=O) (w:=w) (objs':=JH [] (Le 0 256 Jz xs 0).2.2) (m':=fun o=>Ov w (innerS w (Jz.getD (o / 256) (.agg [])) (vs.getD (o / 256) undef)) (o % 256)) (cid:=0) (cst:=256) (id:=0) (stride:=256) (f:=fun j=>vs.getD j undef) (g:=fun j=>innerS w (Jz.getD j (.agg [])) (vs.getD j undef)) (rs:=xs)
  (fun _ _ _ h hc=>⟨h,hc⟩) (fun _ _ h=>h) Jz 0 (fun j _=>by rw[Ea]) (fun j hj=>by rw[Ea,Ea];exact h j (by rw[hl];exact hj)) (fun j _ b k i _ hb=>hb) hok hget
  (fun p hp=>(As5 Jz xs 0 hok p hp).symm)
 refine⟨rfl,?_,fun t ht=> ?_,fun o x hx=>r3 _ (hmem o x hx),Moves.refl O _ w,fun b k o _ ho hne=>⟨o,ho,hne⟩,fun o x hx e=> ?_,fun b k _ h=>h,fun o hr _=> ?_,fun b k _ h=>h,hI⟩
 .simp [Agw,r1,hv,hl]
 .show JK O _ _ w (((vs++Array.replicate (n - vs.size) undef).getD t undef)) (((Le 0 256 Jz xs 0).2.1++List.replicate (n - Jz.length) A.undef).getD t .undef);rcases En t Jz.length with htl | htl
  .have e1:((Le 0 256 Jz xs 0).2.1++List.replicate (n - Jz.length) A.undef).getD t .undef=(Le 0 256 Jz xs 0).2.1.getD t .undef:=by
    simp [Dp,Ew,r1,htl]
   have e2:(vs++Array.replicate (n - vs.size) undef).getD t undef=vs.getD t undef:=by
    have:t<vs.size:=by rw[hv,hl];exact htl
    simp [Dy,Fe,this]
   rw[e1,e2];have:=(r2 t htl).1;rw[Ea]at this;exact this
  .have e1:((Le 0 256 Jz xs 0).2.1++List.replicate (n - Jz.length) A.undef).getD t .undef= .undef:=by
    rw[Dp,EG (by rw[r1];exact htl),List.getElem?_replicate];split<;>rfl
   rw[e1];trivial
 .subst e;have:=hmem _ x hx;have h':has ((Le 0 256 Jz xs 0).2.2.map (·.1)) 255=true:=PW.2 (DD.2 ⟨_,this,rfl⟩);rw[h']at h255;cases h255
 .unfold dW at hr;rw[Dv]at hr;have:=D5 hr.2;rw[this];rfl
def Apy {fet:Fet}: ∀(ss:List Sh) (xs:List A),JC (JP fet ss xs).1-> ∀ i s,ss[i]? =some s->KO s=true->Aku (unbox ((JP fet ss xs).2.1.getD i .undef))=(JP fet ss xs).2.1.getD i .undef:=by
 intro ss
 induction ss with
 | nil=>intro xs _ i s h;simp at h
 | cons s ss ih =>
  intro xs hok i s' h hb;cases xs with
  | nil=>have:=hok false (by simp [JP]);cases this
  | cons x xs =>
   simp only[JP]at hok ⊢;obtain⟨h1,h2⟩:=hok.append;cases i with
   | zero =>
    simp at h;subst h;cases s with
    | cell _ _=>cases hb
    | agg _=>cases hb
    | map kt vt =>
     cases x with
     | own q =>
      unfold JZ at h1 ⊢;dsimp only at h1 ⊢;cases hg:J5 fet q with
      | none=>rw[hg]at h1;have:=h1 false (by simp);cases this
      | some y =>
       cases y with
       | mp l=>rfl
       | _=>rw[hg]at h1;have:=h1 false (by simp);cases this
     | _=>have:=h1 false (by simp [JZ]);cases this
    | box ks =>
     cases x with
     | ptr q off =>
      unfold JZ at h1 ⊢;dsimp only at h1 ⊢;cases hb:MK fet q with
      | none=>rw[hb]at h1;have:=h1 false (by simp);cases this
      | some cs=>rfl
     | _=>have:=h1 false (by simp [JZ]);cases this
    | clo f' ks =>
     cases x with
     | clo g q =>
      unfold JZ at h1 ⊢;dsimp only at h1 ⊢;cases hb:MK fet q with
      | none=>rw[hb]at h1;have:=h1 false (by simp);cases this
      | some cs=>rfl
     | _=>have:=h1 false (by simp [JZ]);cases this
   | succ i=>simpa using ih xs h2 i s' (by simpa using h) hb
def AsC: ∀(ss:List Sh) (i0 j i:Nat),(LG ss i0)[j]? =some i-> ∃ r s,i=i0+r/\ss[r]? =some s/\KO s=true:=by
 intro ss
 induction ss with
 | nil=>grind[LG]
 | cons s ss ih =>
  intro i0 j i h;have step: ∀ j':Nat,(LG ss (i0+1))[j']? =some i-> ∃ r s',i=i0+r/\(s::ss)[r]? =some s'/\KO s'=true:=by intro j' h';obtain⟨r,s',h1,h2,h3⟩:=ih (i0+1) j' i h';exact⟨r+1,s',by omega,by simpa using h2,h3⟩
  simp only[LG]at h;cases s with
  | box ks =>
   simp only[KO,cond_true]at h;cases j with
   | zero=>simp_all[Sh,LG,KO]
   | succ j=>exact step j (by simpa using h)
  | clo f' ks =>
   simp only[KO,cond_true]at h;cases j with
   | zero=>simp_all[Sh,LG,KO]
   | succ j=>exact step j (by simpa using h)
  | map kt vt =>
   simp only[KO,cond_true]at h;cases j with
   | zero=>simp_all[Sh,LG,KO]
   | succ j=>exact step j (by simpa using h)
  | cell u k=>grind[KO]
  | agg ks=>grind[KO]
def ApJ: ∀(ss:List Sh) (i0:Nat),(QB ss i0).length=ss.length:=by
 intro ss
 induction ss with
 | nil=>intro i0;rfl
 | cons s ss ih=>intro i0;simp [QB,ih]
def At5: ∀(ss:List Sh) (i0 j:Nat),j<ss.length->(QB ss i0).getD j .undef=Ay2 (ss.getD j (.agg [])) (i0+j):=by
 intro ss
 induction ss with
 | nil=>intro i0 j h;simp at h
 | cons s ss ih =>
  intro i0 j h;cases j with
  | zero=>grind[QB]
  | succ j=>grind[QB]
end
def rv:Nat×Option Nat->ResultVar
 | (t,none)=>.tmp t
 | (a,some ty)=>.cell a ty
def Akt (tmps:Array Value):ResultVar->Sem Value
 | .tmp t=>pure (tmps.getD t undef)
 | .cell a t=>do loadVar t (<- asAddr (tmps.getD a undef))
def Axy {P:Program} {w:World} {α :Type} {g: α ->Sem Value}: ∀(l:List α) (f:Nat->Value),(∀(j:Nat) (x: α),l[j]? =some x->(g x).run P w= .ok (f j) w)->(l.mapM g).run P w= .ok ((List.range l.length).map f) w:=by
 intro l
 induction l with
 | nil=>intro f _;simp
 | cons x r ih =>intro f h;have h1:=ih (fun j=>f (j+1)) (fun j y hy=>h (j+1) y (by simpa using hy));have h2:=h 0 x rfl;rw[Iu];simp only[DT,h2,Result.andThen_ok,h1,Sem.run_pure,List.length_cons,Io,Ej,Fp];rfl
def AqE (us:Array Value):Value:=if h:us.size=1 then us[0]else .tuple us
def Ar0 {P:Program} {w:World} {fn:Func} {outs:List (Nat×Option Nat)} {tmps:Array Value} (h:fn.results=(outs.map rv).toArray) (f:Nat->Value) (hf: ∀(j:Nat) (q:Nat×Option Nat),outs[j]? =some q->(Akt tmps (rv q)).run P w= .ok (f j) w) :
 (results fn tmps).run P w= .ok (AqE ((List.range outs.length).map f).toArray) w:=by
 have e:results fn tmps=(do let vs <- fn.results.mapM (Akt tmps);pure (AqE vs)):=by
  have e0:Akt tmps=(fun | .tmp t=>pure (tmps.getD t undef) | .cell a t=>do loadVar t (<- asAddr (tmps.getD a undef))):=by funext x;cases x<;>rfl
  unfold results AqE;rw[e0];rfl
 rw[e,h,List.mapM_toArray]
 have:=Axy (P:=P) (w:=w) (g:=Akt tmps) (outs.map rv) f (fun j x hx=>by
  rw[E8]at hx;cases hq:outs[j]? with
  | none=>rw[hq]at hx;cases hx
  | some q=>rw[hq]at hx;injection hx with hx;rw[<- hx];exact hf j q hq)
 rw[D7]at this;simp only[map_eq_pure_bind,bind_assoc,pure_bind,DT,Sem.run_pure,this,Result.andThen_ok]
section
variable {P:Program} {C:Ctx} {V0:Nat->Value} {O0 O:Own} {w0 w:World} {m:Nat->Value} {st:St} {a:Act}
def Aun {Jz:List Sh} {i:Nat} {s:Sh} (h:Jz[i]? =some s) (hb:KO s=true):(Jz.map QA)[i]? =some (QA s)/\KO (QA s)=true/\KO (Jz.getD i (.agg []))=true/\i<Jz.length:=by
 have hi:i<Jz.length:=by
  rcases En i Jz.length with h' | h'
  .exact h'
  .rw[Eh h']at h;cases h
 refine⟨(by rw[E8,h];rfl),(by cases s<;>first | rfl | (cases hb;done)),?_,hi⟩;rw[Dp,h];exact hb
def Avo {Jz JI:List Sh} {outs:List (Nat×Option Nat)} {rs:List A} {vs:Array Value} {sg:Sig} {fn:Func} (hC:TOk P C) (hfn:fn.results=(outs.map rv).toArray) (hp:sg.Jz=Jz) (hr:sg.JI=JI) (h100:Jz.length<=100)
 (hptr: ∀ i,i<Jz.length->KO (Jz.getD i (.agg []))=true->(innerS w0 (Jz.getD i (.agg [])) (vs.getD i undef)).oneCell'=true)
 (hS:Sim (fun o=>innerS w0 (Jz.getD (o / 256) (.agg [])) (vs.getD (o / 256) undef)) O0 w0 O m st a w) (h:finish C Jz JI outs st=some rs) :
 ∃ v O',(results fn a.tmps).run P w= .ok v w/\Came O0 w0 vs sg rs v O' w:=by
 obtain⟨hok,hrs⟩:=WZ h;injection hrs with hrs;obtain⟨hokA,hokO⟩:=hok.append;obtain⟨hokA,hokB⟩:=hokA.append;obtain⟨hok1,hok2⟩:=hokA.append;have hnd:=hokB.cons.1;have hwr:=hokB.cons.2.cons.1;have hf:Qj st.Jr st.Jr:=fun _ _ h=>h;generalize hN:Oj st.Jr 256000 256 JI (PN C outs st)++Oj st.Jr 0 256 (Jz.map QA) (QB Jz 0)=N at *
 have hout: ∀ j:Nat,∃ u:Value,∀ q,outs[j]? =some q->(Akt a.tmps (rv q)).run P w= .ok u w/\JK O st.Jr m w u (Aiw C st q).2:=by
  intro j;cases hj:outs[j]? with
  | none=>exact⟨undef,fun q hq=>by cases hq⟩
  | some q =>
   have hqok:JC (Aiw C st q).1:=fun b hb=>hokO b (Eu.2 ⟨q,Ha hj,hb⟩);obtain⟨t,ty⟩:=q;cases ty with
   | none =>have hlt:=hqok.cons.1;rw[EM]at hlt;exact⟨a.tmps.getD t undef,fun q hq=>by injection hq with hq;subst hq;exact⟨rfl,hS.tmps t hlt⟩⟩
   | some ty =>
    have hq2:JC (Nat.blt t st.tmps.length::(jE C st.Jr ty (st.tmps.getD t .undef)).ok):=hqok;obtain⟨hlt,hld⟩:=hq2.cons;rw[EM]at hlt;obtain⟨u,hu1,hu2⟩:=(Amz (o:= {(default:Oper)with op:=.load ty (.tmp t)}) hC (fun q x hq=>⟨hq,hS.Jr q x hq⟩) rfl (AhW hS (.tmp t)) hld).run;refine⟨u,fun q hq=> ?_⟩;injection hq with hq;subst hq;refine⟨?_,hu2⟩;have hev:a.eval (.tmp t)=a.tmps.getD t undef:=by simp [Act.eval]
    simp only[execOp,Instr.loadAt,hev]at hu1;show(do loadVar ty (<- asAddr (a.tmps.getD t undef)):Sem Value).run P w=_;generalize a.tmps.getD t undef=z at hu1 ⊢;cases z with
    | pointer p =>
     cases p with
     | none=>simp [Instr.sureAddr]at hu1
     | some ad =>
      simp only[asAddr,DT,Sem.run_pure,Result.andThen_ok];simp only[Instr.sureAddr,pure_bind,DT,Sem.run_pure]at hu1;cases hl:(loadVar ty ad).run P w with
      | ok x w2 =>rw[hl]at hu1;simp only[Result.andThen_ok,Sem.run_pure,Result.ok.injEq,Next.value.injEq]at hu1;rw[hu1.1,hu1.2]
      | halt x w2=>rw[hl]at hu1;simp [Result.andThen]at hu1
    | _=>simp [Instr.sureAddr]at hu1
 obtain⟨fv,hfv⟩:=GL hout
 obtain⟨g1,g2,g3,_,g5⟩:=lW (W:=(JP st.Jr JI (PN C outs st)).2.2.1++(JP st.Jr (Jz.map QA) (QB Jz 0)).2.2.1=[]) hf hS.Jr 256 JI (PN C outs st) 256000 fv (fun e=>by rw[e]at hwr;simpa using hwr) (fun j hj=>by
  have hj':j<outs.length:=by simpa [PN]using hj
  have e:(PN C outs st).getD j .undef=(Aiw C st outs[j]).2:=by simp [PN,Dp,hj']
  rw[e];exact(hfv j _ (D9 hj')).2) hok1
 have hmaskl:(Jz.map QA).length=Jz.length:=by simp
 obtain⟨k1,k2,k3,_,k5⟩:=lW (W:=(JP st.Jr JI (PN C outs st)).2.2.1++(JP st.Jr (Jz.map QA) (QB Jz 0)).2.2.1=[]) hf hS.Jr 256 (Jz.map QA) (QB Jz 0) 0 (fun j=>if KO (Jz.getD j (.agg []))then innerS w0 (Jz.getD j (.agg [])) (vs.getD j undef)else .bool true) (fun e=>by rw[e,EE]at hwr;simpa using hwr) (fun j hj=>by
  have hj':j<Jz.length:=by rw[ApJ]at hj;exact hj
  rw[At5 Jz 0 j hj',Ea];have hroot:dW (256*j)=true:=by unfold dW;rw[Dv,EM];refine⟨by omega,?_⟩;rw[Nat.mul_mod_right];rfl
  have hrt: ∀ x,J5 st.Jr (256*j)=some x->m (256*j)=innerS w0 (Jz.getD j (.agg [])) (vs.getD j undef):=fun x hx=>by have:=hS.root (256*j) hroot (by rw[hx];rfl);rw[Nat.mul_div_cancel_left j (by decide)]at this;exact this
  have hp:=hptr j hj';generalize Jz.getD j (.agg [])=s at hp hrt ⊢;cases s with
  | box ks =>
   rw[Dq (show KO (Sh.box ks)=true from rfl)];refine⟨hp rfl,?_⟩;cases hx:J5 st.Jr (256*j)with
   | none=>trivial
   | some x =>
    cases x with
    | arr _ _ _=>trivial
    | mp _=>trivial
    | box cs =>obtain⟨b,base,h1,_⟩:=hS.Jr _ _ hx;exact⟨b,base,h1,by rw[<- hrt _ hx,h1];rfl⟩
  | clo f' ks =>
   rw[Dq (show KO (Sh.clo f' ks)=true from rfl)];refine⟨hp rfl,?_⟩;cases hx:J5 st.Jr (256*j)with
   | none=>trivial
   | some x =>
    cases x with
    | arr _ _ _=>trivial
    | mp _=>trivial
    | box cs =>obtain⟨b,base,h1,_⟩:=hS.Jr _ _ hx;exact⟨b,base,h1,by rw[<- hrt _ hx,h1];rfl⟩
  | map kt vt =>
   rw[Dq (show KO (Sh.map kt vt)=true from rfl)];refine⟨hp rfl,?_⟩;cases hx:J5 st.Jr (256*j)with
   | none=>trivial
   | some x =>
    cases x with
    | box _=>trivial
    | arr _ _ _=>exact(hrt _ hx).symm
    | mp _=>exact(hrt _ hx).symm
  | cell u k=>rw[Dt (show ¬ KO (Sh.cell u k)=true from fun h=>by cases h)];exact JE.bool true
  | agg ks=>rw[Dt (show ¬ KO (Sh.agg ks)=true from fun h=>by cases h)];exact JE.bool true) hok2
 obtain⟨O1,hS1,hp1,_,hv1,_,hk1⟩:=hS.freezes _ (g3.append k3);have hρ : ∀ p∈N,look N p.1=some p.2:=ApD hnd
 have halive: ∀ p∈N,(J5 st.Jr p.1).isSome:=by
  intro p hp';rw[<- hN]at hp';rcases DR.1 hp' with hp' | hp'
  .exact mF _ _ _ hok1 p hp'
  .exact mF _ _ _ hok2 p hp'
 generalize hU:(JP st.Jr JI (PN C outs st)).2.2.1++(JP st.Jr (Jz.map QA) (QB Jz 0)).2.2.1=U at *
 have hFU:Frz st.Jr U:=by rw[<- hU];exact g3.append k3
 have hupdO: ∀ p∈U,LH O1 (JH st.Jr U) m w p.1 p.2:=by intro p hp;obtain⟨x,hx1,hx2⟩:=OI U st.Jr p.1 ⟨p,hp,rfl⟩;obtain⟨e,fz,l,k1,k2⟩:=hFU p hp;obtain⟨e',fz',l',k3,k4⟩:=hFU _ hx1;dsimp only at k3 k4;rw[k1]at k3;injection k3 with k3;injection k3 with q1 q2 q3;subst q1;subst q3;rw[k2,<- k4];exact hS1.Jr p.1 x hx2
 have hR:=g5 (ρ :=look N) hp1 (fun p hp=>hv1 p (by rw[<- hU];exact DI _ hp)) (fun p hp=>hupdO p (by rw[<- hU];exact DI _ hp)) hk1 (fun p hp=>hρ p (by rw[<- hN];exact DI _ hp));have hB:=k5 (ρ :=look N) hp1 (fun p hp=>hv1 p (by rw[<- hU];exact DC _ hp)) (fun p hp=>hupdO p (by rw[<- hU];exact DC _ hp)) hk1 (fun p hp=>hρ p (by rw[<- hN];exact DC _ hp));have hol:outs.length=JI.length:=by rw[<- g2];simp [PN]
 refine⟨_,PD O1 (look N),Ar0 hfn fv (fun j q hq=>(hfv j q hq).1),hS1.frame,fun b k hb hne=>hS1.less b k hb (fun e=>hne (dV.2 e)),fun b k hb hj=> ?_,?_,?_,?_⟩
 .have:=hS1.yX b k hb hj;unfold PD;rw[this];dsimp only;cases hl:look N 255 with
  | none=>rfl
  | some i =>have h1:=halive _ (Afl hl);obtain⟨x,hx⟩:=EX.1 h1;exact absurd rfl (hS.ids 255 x hx)
 .rw[<- hrs,hp,hr];simp [g1]
 .refine⟨((List.range outs.length).map fv).toArray,by rw[hr];simp [hol],rfl,fun k hk=> ?_⟩;have hk':k<outs.length:=by simpa using hk
  have hus:(((List.range outs.length).map fv).toArray).getD k undef=fv k:=by simp [Dy,hk']
  rw[hus];have:=hR k (by rw[<- hol];exact hk');have e:rs.getD k .undef=(JP st.Jr JI (PN C outs st)).2.1.getD k .undef:=by rw[<- hrs,Dp,Ew (by rw[g1,<- hol];exact hk'),<- Dp]
  rw[e];exact this
 .intro j i hji;rw[hp]at hji;obtain⟨r,s,h1,h2,h2'⟩:=AsC Jz 0 j i hji;rw[Ea]at h1;subst h1;obtain⟨h3,h3',h4,h5⟩:=Aun h2 h2';have h6:=Apy _ _ hok2 i _ h3 h3';have e:rs.getD (sg.JI.length+j) .undef=unbox ((JP st.Jr (Jz.map QA) (QB Jz 0)).2.1.getD i .undef):=by rw[<- hrs,hr,Dp,EG (by rw[g1];omega),g1,GK,E8,hji];rfl
  rw[e,h6,hp];have:=hB i (by rw[hmaskl];exact h5);rw[Ea,Dq h4]at this;exact this
def Awi {ρ :Type} {o: ρ} {fin:St->Option ρ} (hC:OD P C) (N:Nat)
 (hdraw: ∀ {C:Ctx},OD P C-> ∀ {ρ :Type} {V0:Nat->Value} {O0:Own} {w0:World} {fin:St->Option ρ} {v: ρ} (id:Nat) (ops:Array Oper) {O:Own} {m:Nat->Value} {st:St} {a:Act} {w:World} (K:Ex->St->Option ρ),Sim V0 O0 w0 O m st a w->VS C ops.toList st=true->Zz C ops.toList ops.toList st (fun st'=>K .normal st')=some v ->
   (Code.region id ops true).wp P (Post V0 O0 w0 fin K v) a w)
 {f:FuncId} {fn:Func} {code:Code} {outs:List (Nat×Option Nat)} {sg:Sig} (hf:P.funcs[f]? =some fn) (hb:fn.body=some code) (hout:fn.results=(outs.map rv).toArray)
 {vs:Array Value} {xs rs:List A} (hI:Inv O w) (hv:vs.size=xs.length) (hl:xs.length=sg.Jz.length) (h100:xs.length<=100) (hx: ∀ j,j<xs.length->IR O w (256*j) (vs.getD j undef) (xs.getD j .undef))
 (h:runK C N sg.Jz fn.ntmps code fin xs=some o) (hrs: ∀ st,fin st=some o->finish C sg.Jz sg.JI outs st=some rs) :
 Calls P f vs w fun e w'=> ∃ v O',e= .returned v/\Came O w vs sg rs v O' w':=by
 obtain⟨hok,h⟩:=WZ h;obtain⟨hok1,hok2⟩:=hok.append;obtain⟨hnd,hok2⟩:=hok2.cons;have h255:=hok2.cons.1;rw[EF]at h255;have hS:=Avp (n:=fn.ntmps) hI hv hl hx hok1 hnd h255
 have hptr: ∀ i,i<sg.Jz.length->KO (sg.Jz.getD i (.agg []))=true->(innerS w (sg.Jz.getD i (.agg [])) (vs.getD i undef)).oneCell'=true:=by
  intro i hi hb;have hi':i<xs.length:=by rw[hl];exact hi
  have hbk:JC (back (256*i) (sg.Jz.getD i (.agg [])) (xs.getD i .undef)).1:=by
   have key: ∀(ss:List Sh) (j0 i:Nat),i<ss.length->JC (Le 0 256 ss xs j0).1->JC (back (0+256*(j0+i)) (ss.getD i (.agg [])) (xs.getD (j0+i) .undef)).1:=by
    intro ss
    induction ss with
    | nil=>intro j0 i h;simp at h
    | cons s ss ih =>
     intro j0 i h hok;simp only[Le]at hok;obtain⟨h1,h2⟩:=hok.append;cases i with
     | zero=>simpa using h1
     | succ i =>have:=ih (j0+1) i (by simpa using h) h2;rw[show j0+1+i=j0+(i+1)from by omega]at this;simpa using this
   have:=key sg.Jz 0 i hi hok1;rw[Ea,Ea]at this;exact this
  have hir:=hx i hi';generalize sg.Jz.getD i (.agg [])=s at hb hbk;cases s with
  | box ks =>
   simp only[back]at hbk;have h2:=hbk.cons.2.cons.1;generalize xs.getD i .undef=x at h2 hir;cases x with
   | box cs =>obtain⟨b,base,h3,_⟩:=hir;rw[h3];rfl
   | _=>cases h2
  | clo f' ks =>
   simp only[back]at hbk;have h2:=hbk.cons.2.cons.1;generalize xs.getD i .undef=x at h2 hir;cases x with
   | cbx g cs =>obtain⟨b,base,h3,_⟩:=hir;rw[show innerS w (.clo f' ks) (vs.getD i undef)=_ from h3.inner (ks:=ks)];rfl
   | _=>cases h2
  | map kt vt =>
   obtain⟨l,hl',_,_⟩:=Ack (show A.Acj kt vt _=true from hbk.cons.1);rw[hl']at hir;obtain⟨r,_,_,h3,_⟩:=(show QU O w _ _ l from hir)
   rw[h3];rfl
  | _=>cases hb
 refine calls_of_wp hf hb (Jd (AsK hC N (fun hC'=>hdraw hC') code hS h) fun e a' w' hq=> ?_);have fin':(∃ O' m' st',Sim (fun o=>innerS w (sg.Jz.getD (o / 256) (.agg [])) (vs.getD (o / 256) undef)) O w O' m' st' a' w'/\fin st'=some o)->a'.defers=[]/\ ∃ v,(results fn a'.tmps).run P w'= .ok v w'/\ ∃ v' O',Ending.returned v= .returned v'/\Came O w vs sg rs v' O' w':=by rintro ⟨O',m',st',hS',hfin⟩;obtain⟨v,O2,hres,hcame⟩:=Avo (sg:=sg) hC.T hout rfl rfl (by rw[<- hl];exact h100) hptr hS' (hrs st' hfin);exact⟨hS'.defers,v,hres,v,O2,rfl,hcame⟩
 cases e with
 | normal=>exact fin' hq
 | ret=>exact fin' hq
 | exit id =>obtain⟨O',m',st',_,h'⟩:=hq;cases h'
 | goto l=>exact hq.elim
 | panic ch=>exact hq.elim
 | outgrown=>exact hq.elim
end
section
variable {P:Program} {C:Ctx} {V0:Nat->Value} {O0 O:Own} {w0 w:World} {m:Nat->Value} {st:St} {a:Act}
def MW {a b:List Nat} (h:WA a b=true): ∀ n∈a,n∉b:=by intro n hn hb;have:=DJ.1 h n hn;rw[PW.2 hb]at this;cases this
def lastOf:List (Nat×Obj)->Nat->Option Obj
 | [],_=>none
 | (n,x)::r,k=>match lastOf r k with
  | some y=>some y
  | none=>if n=k then some x else none
theorem Ah0 {u:List (Nat×Obj)} {k:Nat} (h:k∉u.map (·.1)):lastOf u k=none:=by
 induction u with
 | nil=>rfl
 | cons p r ih=>grind[lastOf]
def Ahs (u:List (Nat×Obj)): ∀(l:List (Nat×Obj)) (k:Nat),J5 (JH l u) k=match lastOf u k with | some x=>some x | none=>J5 l k:=by
 induction u with
 | nil=>intro l k;rfl
 | cons p r ih=>grind[JH,KU,lastOf]
theorem Uw (st:St) (o:Oper) (δ :Dl) (k:Nat):J5 (apply st o δ).Jr k=match lastOf δ.new k with
 | some x=>some x
 | none=>if k∈ δ.del then none else match lastOf δ.upd k with
  | some x=>some x
  | none=>J5 st.Jr k:=by
 unfold apply;dsimp only;rw[Ahs,Wi,Ahs]
def WY {st:St} {o:Oper} {δ :Dl} {k:Nat} (h:k∉ δ.upd.map (·.1)++ δ.del++ δ.new.map (·.1)):J5 (apply st o δ).Jr k=J5 st.Jr k:=by grind[Uw,Ah0]
def Srt:List (Nat×Obj)->Prop:=List.Pairwise (fun p q=>p.1<q.1)
def Auo: ∀ {l:List (Nat×Obj)},sorted l=true->Srt l:=by
 intro l
 induction l with
 | nil=>intro _;exact List.Pairwise.nil
 | cons p r ih =>
  intro h;cases r with
  | nil=>exact GM _ _
  | cons q r =>
   obtain⟨n,x⟩:=p;obtain⟨k,y⟩:=q;simp only[sorted,Dv,EM]at h;have hr:=ih h.2;refine List.Pairwise.cons (fun q hq=> ?_) hr;rcases D8.1 hq with rfl | hq
   .exact h.1
   .exact Nat.lt_trans h.1 ((EH.1 hr).1 q hq)
theorem Srt.Uu {l:List (Nat×Obj)} (h:Srt l) (n:Nat):Srt (Vm.Uu l n):=by
 induction l with
 | nil=>exact h
 | cons p r ih =>
  obtain⟨k,x⟩:=p;obtain⟨h1,h2⟩:=EH.1 h;rw[Aeq];split
  .exact ih h2
  .exact List.Pairwise.cons (fun q hq=>h1 q (Aiu hq)) (ih h2)
theorem Srt.lK {l:List (Nat×Obj)} (h:Srt l) {n:Nat} (y:Obj) (hn:J5 l n=none):Srt (Vm.lK l n y):=by
 induction l with
 | nil=>exact GM _ _
 | cons p r ih =>
  obtain⟨k,x⟩:=p;obtain⟨h1,h2⟩:=EH.1 h;rw[O5]at hn;have hkn:k≠n:=fun e=>by rw[Dq e]at hn;cases hn
  rw[Dt hkn]at hn;simp only[Vm.lK];cases hle:Nat.ble n k with
  | true =>have:=DU hle;refine List.Pairwise.cons (fun q hq=> ?_) h;all_goals grind[Obj,Srt,J5]
  | false =>
   have hlt:k<n:=by
    rcases En k n with h | h
    .exact h
    .rw[Nat.ble_eq_true_of_le h]at hle;cases hle
   refine List.Pairwise.cons (fun q hq=> ?_) (ih h2 hn);rcases ApL hq with rfl | hq
   .exact hlt
   .exact h1 q hq
theorem Srt.N7 {l:List (Nat×Obj)} (h:Srt l) (n:Nat) (y:Obj):Srt (Vm.N7 l n y):=(h.Uu n).lK y (by rw[wL,Dq rfl])
theorem Srt.JH: ∀(u:List (Nat×Obj)) {l:List (Nat×Obj)},Srt l->Srt (Vm.JH l u):=by
 intro u
 induction u with
 | nil=>intro l h;exact h
 | cons p r ih=>intro l h;obtain⟨n,x⟩:=p;exact ih (h.N7 n x)
theorem Srt.KF: ∀(u:List Nat) {l:List (Nat×Obj)},Srt l->Srt (Vm.KF l u):=by
 intro u
 induction u with
 | nil=>intro l h;exact h
 | cons n r ih=>intro l h;exact ih (h.Uu n)
def Srt.apply {st:St} (h:Srt st.Jr) (o:Oper) (δ :Dl):Srt (Vm.apply st o δ).Jr:=((h.JH δ.upd).KF δ.del).JH δ.new
theorem jT {n:Nat} {x:Obj} {r:List (Nat×Obj)}:J5 ((n,x)::r) n=some x:=by rw[O5,Dq rfl]
theorem ArH {l:List (Nat×Obj)} {k:Nat} (h: ∀ p∈l,k<p.1):J5 l k=none:=by
 cases hx:J5 l k with
 | none=>rfl
 | some x=>exact absurd (h _ (AhE hx)) (Nat.lt_irrefl _)
def Srt.ext: ∀ {l l':List (Nat×Obj)},Srt l->Srt l'->(∀ k,J5 l k=J5 l' k)->l=l':=by
 intro l
 induction l with
 | nil =>
  intro l' _ _ h;cases l' with
  | nil=>rfl
  | cons p r=>grind[jT,Obj,Srt,J5]
 | cons p r ih =>
  intro l' h1 h2 h;obtain⟨n,x⟩:=p;cases l' with
  | nil=>grind[jT,Obj,Srt,J5]
  | cons q r' =>
   obtain⟨k,y⟩:=q;obtain⟨a1,a2⟩:=EH.1 h1;obtain⟨b1,b2'⟩:=EH.1 h2;have hnk:n=k:=by all_goals grind[jT,ArH,a1]
   subst hnk;have hx:=h n;rw[jT,jT]at hx;injection hx with hx;subst hx;rw[ih a2 b2' (fun j=> ?_)];by_cases hj:n=j
   .grind[ArH,a1]
   .have:=h j;rw[O5,O5,Dt hj,Dt hj]at this;exact this
def put_comm (tmps:List A) {d e:Option Tmp} (x y:A) (h: ∀ t,d=some t->e≠some t):put (put tmps d x) e y=put (put tmps e y) d x:=by
 cases d with
 | none=>rfl
 | some d =>
  cases e with
  | none=>rfl
  | some e =>have:d≠e:=fun he=>h d rfl (by rw[he]);exact List.set_comm _ _ this
def Asg (tmps:List A) {d:Option Tmp} (x:A) {t:Nat} (h:d≠some t):(put tmps d x).getD t .undef=tmps.getD t .undef:=by
 cases d with
 | none=>rfl
 | some d=>grind[put]
def qF {o:Oper} {t:Nat}:t∈jA o↔o.dst=some t:=by grind[jA]
def Ape {ops:List Oper} {o:Oper} {tmps:List A} {d:Option Tmp} {v:A} (h: ∀ t,d=some t->t∉slotsOf ops o) {x:Operand} (hx:x∈o.op.operands):Ll (put tmps d v) x=Ll tmps x:=by
 cases x with
 | tmp t =>refine Asg tmps v fun hd=>h t hd ?_;exact DI _ (IW.2 ⟨.tmp t,by simpa using hx,rfl⟩)
 | _=>rfl
def Amt {ops:List Oper} {o:Oper} {tmps:List A} {d:Option Tmp} {v:A} (h: ∀ t,d=some t->t∉slotsOf ops o):guardOf ops (put tmps d v) o.guard=guardOf ops tmps o.guard:=by
 cases hg:o.guard with
 | none=>rfl
 | some p =>
  obtain⟨j,want⟩:=p;unfold guardOf;dsimp only;cases hj:ops[j]? with
  | none=>rfl
  | some oj =>
   dsimp only;cases hd:oj.dst with
   | none=>rfl
   | some t =>dsimp only;rw[Asg tmps v (t:=t) (fun hd'=>h t hd' (by unfold slotsOf;refine DC _ ?_;rw[hg];dsimp only;rw[hj];dsimp only;rw[hd];simp))]
theorem AqV {Jr objs':List (Nat×Obj)}: ∀(l:List Nat),(∀ n∈l,J5 Jr n=J5 objs' n)->fetch Jr l=fetch objs' l:=by
 intro l
 induction l with
 | nil=>intro _;rfl
 | cons n r ih=>grind[fetch]
def AoD {op:Op} {vs:List A} (h:Aaf op vs=true):(∃ x,op= .move x)\/(∃ x,op= .assign x)\/ ∃ t x k q,op= .load t x/\vs=[.clo k q]:=by unfold Aaf at h;all_goals grind[split]
def kS {α :Type} {x:Option α} {k: α ->Dl} (h: ∀ y,(k y).upd=[]):(KI x k).upd=[]:=by
 cases x with
 | none=>rfl
 | some y=>exact h y
def YN (s:St) (q off:Nat):J5 (KE s [.ptr q off]) q=J5 s.Jr q:=by show J5 (fetch s.Jr [q]++fetch s.Jr ((fetch s.Jr [q]).flatMap (fun p=>p.2.ids))) q=_;all_goals grind[J5,fetch,O5]
def Aer {o:Oper} {vs:List A} {q:Nat} (h:fM o.op vs=some q): ∃ off,vs=[.ptr q off]/\ ∀ f f',MK f q=MK f' q->opX C o vs f=opX C o vs f'/\(opX C o vs f).upd=[]:=by
 obtain⟨dst,op,ty,pos,after,guard⟩:=o;dsimp only at h;unfold fM at h;split at h
 .injection h with h;subst h;refine⟨_,rfl,fun f f' hb=> ?_⟩;unfold opX;dsimp only[a1];unfold ZT;dsimp only;rw[hb];exact⟨rfl,by unfold KI;split<;>rfl⟩
 .injection h with h;subst h;refine⟨_,rfl,fun f f' hb=> ?_⟩;unfold opX;dsimp only[a1];unfold XO oD;dsimp only;rw[hb];refine⟨rfl,?_⟩;unfold MV;refine kS fun ti=>kS fun p=> ?_;exact kS (fun _=>rfl)
 .injection h with h;subst h;refine⟨_,rfl,fun f f' hb=> ?_⟩;unfold opX;dsimp only[a1];unfold jE;dsimp only;rw[hb];refine⟨rfl,?_⟩;unfold MV;exact kS fun ti=>kS fun _=>rfl
 .cases h
theorem AmM {ops:List Oper} {o:Oper} {s1 s2:St} (hE: ∀ x∈o.op.operands,Ll s2.tmps x=Ll s1.tmps x) (hG:guardOf ops s2.tmps o.guard=guardOf ops s1.tmps o.guard)
 (key:(opX C o (KJ o s1) (KE s2 (KJ o s1))=opX C o (KJ o s1) (KE s1 (KJ o s1))/\(∀ f,(opX C o (KJ o s1) f).upd=[])/\LX o s2 (KJ o s1)=LX o s1 (KJ o s1))\/(KE s2 (KJ o s1)=KE s1 (KJ o s1)/\LX o s2 (KJ o s1)=LX o s1 (KJ o s1))) (h1: ∀ n∈(KQ C ops o s1).new.map (·.1),s1.fresh n=true) (h2: ∀ n∈(KQ C ops o s1).new.map (·.1),s2.fresh n=true) :
 KQ C ops o s2=KQ C ops o s1/\LX o s2 (KJ o s2)=LX o s1 (KJ o s1)/\KJ o s2=KJ o s1:=by
 have hmap:o.op.operands.toList.map (Ll s2.tmps)=o.op.operands.toList.map (Ll s1.tmps):=EK fun x hx=>hE x (by simpa using hx);have hvs:KJ o s2=KJ o s1:=by unfold KJ;rw[hmap]
 have hop:opX C o (KJ o s1) (KE s2 (KJ o s1))=opX C o (KJ o s1) (KE s1 (KJ o s1)):=by
  rcases key with h | h
  .exact h.1
  .rw[h.1]
 refine⟨?_,by rw[hvs];rcases key with h | h;exact h.2.2;exact h.2,hvs⟩
 have hpl: ∀ pre,(∀ n∈(UL C o s1 pre).new.map (·.1),s1.fresh n=true)->(∀ n∈(UL C o s1 pre).new.map (·.1),s2.fresh n=true)->UL C o s2 pre=UL C o s1 pre:=by
  intro pre h1 h2;unfold UL at h1 h2 ⊢;rw[hmap];dsimp only at h1 h2 ⊢;rw[show opX C o (Ls o.op (o.op.operands.toList.map (Ll s1.tmps))).2 (KE s2 (Ls o.op (o.op.operands.toList.map (Ll s1.tmps))).2)=opX C o (Ls o.op (o.op.operands.toList.map (Ll s1.tmps))).2 (KE s1 (Ls o.op (o.op.operands.toList.map (Ll s1.tmps))).2)from hop];generalize opX C o (Ls o.op (o.op.operands.toList.map (Ll s1.tmps))).2 (KE s1 (Ls o.op (o.op.operands.toList.map (Ll s1.tmps))).2)= δ at *
  have a1: δ.new.all (fun p=>s1.fresh p.1)=true:=DJ.2 fun p hp=>h1 p.1 (DD.2 ⟨p,hp,rfl⟩);have a2: δ.new.all (fun p=>s2.fresh p.1)=true:=DJ.2 fun p hp=>h2 p.1 (DD.2 ⟨p,hp,rfl⟩);rw[a1,a2]
 unfold KQ at h1 h2 ⊢;rw[hG,hmap];have hfa':opX C o (Ls o.op (o.op.operands.toList.map (Ll s1.tmps))).2 (KE s2 (Ls o.op (o.op.operands.toList.map (Ll s1.tmps))).2)=opX C o (Ls o.op (o.op.operands.toList.map (Ll s1.tmps))).2 (KE s1 (Ls o.op (o.op.operands.toList.map (Ll s1.tmps))).2):=hop;cases hg:guardOf ops s1.tmps o.guard with
 | none=>rfl
 | some r =>
  cases r with
  | some g =>
   rw[hg]at h1 h2;dsimp only at h1 h2 ⊢;cases hde:AsO C o with
   | some b =>
    rw[hde]at h1 h2;cases b with
    | true=>exact hpl _ h1 h2
    | false=>rfl
   | none =>
   dsimp only;rcases key with h | h
   .have hu:=h.2.1 (KE s1 (KJ o s1));rw[hfa'];have hu':(opX C o (Ls o.op (o.op.operands.toList.map (Ll s1.tmps))).2 (KE s1 (Ls o.op (o.op.operands.toList.map (Ll s1.tmps))).2)).upd=[]:=hu;simp only[hu',Fq]
   .grind[KE,Ls,Ll,guardOf,opX,KJ,LX,KQ]
  | none =>rw[hg]at h1 h2;exact hpl _ h1 h2
theorem Amf {o:Oper} {s1 s2:St} (hF: ∀ n∈LX o s1 (KJ o s1),J5 s2.Jr n=J5 s1.Jr n) :
 (opX C o (KJ o s1) (KE s2 (KJ o s1))=opX C o (KJ o s1) (KE s1 (KJ o s1))/\(∀ f,(opX C o (KJ o s1) f).upd=[])/\LX o s2 (KJ o s1)=LX o s1 (KJ o s1))\/(KE s2 (KJ o s1)=KE s1 (KJ o s1)/\LX o s2 (KJ o s1)=LX o s1 (KJ o s1)):=by
 unfold LX at hF ⊢;cases hm:Aaf o.op (KJ o s1)with
 | true =>
  have hu: ∀(v:List A),(a1 (fun a=>.v a) v).upd=[]:=fun v=>by
   cases v with
   | nil=>rfl
   | cons x r=>cases r<;>rfl
  rcases AoD hm with ⟨x,e⟩ | ⟨x,e⟩ | ⟨t,x,k,q,e,ev⟩
  .grind[opX]
  .grind[opX]
  .have hl: ∀ f,(jE C f t (.clo k q)).upd=[]:=fun f=>by
    unfold jE MV KI;cases C.T t<;>rfl
   exact .inl ⟨by unfold opX;rw[e,ev];rfl,fun f=>by unfold opX;rw[e,ev];exact hl f,rfl⟩
 | false =>
  rw[hm]at hF;cases h1':fM o.op (KJ o s1)with
  | some q =>rw[h1']at hF;have hq:J5 s2.Jr q=J5 s1.Jr q:=hF q (DY.2 rfl);obtain⟨off,ev,hO⟩:=Aer (C:=C) h1';refine .inl ⟨(hO _ _ ?_).1,fun f=>(hO f f rfl).2,rfl⟩;rw[ev];unfold MK;rw[YN,YN,hq]
  | none =>
  all_goals grind[fetch,KJ,AqV,KE]
def Aut {ops:List Oper} {o:Oper} {s1 s2:St} (hE: ∀ x∈o.op.operands,Ll s2.tmps x=Ll s1.tmps x) (hG:guardOf ops s2.tmps o.guard=guardOf ops s1.tmps o.guard)
 (hF: ∀ n∈LX o s1 (KJ o s1),J5 s2.Jr n=J5 s1.Jr n) (h1: ∀ n∈(KQ C ops o s1).new.map (·.1),s1.fresh n=true) (h2: ∀ n∈(KQ C ops o s1).new.map (·.1),s2.fresh n=true) :
 KQ C ops o s2=KQ C ops o s1/\LX o s2 (KJ o s2)=LX o s1 (KJ o s1)/\KJ o s2=KJ o s1:=by grind[AmM,Amf]
def AvR {o:Oper} {vs:List A} {q off n:Nat} (h:oneOf C o.op vs=some (q,off,n)):fM o.op vs=some q/\ ∀ {f f':Fet} {cs cs':List A},MK f q=some cs->MK f' q=some cs'->cs'.length=cs.length->(∀ k,k<n->cs'.getD (off+k) .undef=cs.getD (off+k) .undef)->opX C o vs f'=opX C o vs f:=by
 obtain⟨dst,op,ty,pos,after,guard⟩:=o;dsimp only at h;unfold oneOf at h;split at h
 .injection h with h;injection h with h1 h2;subst h1;refine⟨rfl,fun {f f' cs cs'} h1 h2 h3 h4=> ?_⟩;unfold opX;dsimp only[a1];unfold ZT;dsimp only;rw[h1,h2];rfl
 .simp_all[opX,a1,XO,oD,KI,oneOf,fM,Fet]
 .rename_i t _ o' off';cases ht:C.T t with
  | none=>rw[ht]at h;cases h
  | some ti =>
   rw[ht]at h;dsimp only at h;cases h0:Nat.blt 0 ti.cs.length with
   | false=>rw[h0]at h;cases h
   | true =>
   rw[h0]at h;injection h with h;injection h with h1 h2;injection h2 with h2 h3';subst h1;subst h2;subst h3';have h0:0<ti.cs.length:=by simpa [EM]using h0
   refine⟨rfl,fun {f f' cs cs'} h1 h2 h3 h4=> ?_⟩;unfold opX;dsimp only[a1];unfold jE MV;rw[ht];unfold KI;dsimp only;rw[h1,h2];dsimp only;rw[h3];congr 1;unfold Ag8;cases ti.agg with
   | false =>have:=h4 0 h0;simpa using this
   | true =>
    refine congrArg A.agg (Je fun i=> ?_);rw[F5,F5];by_cases hi:i<ti.cs.length
    .rw[Dq hi,Dq hi,Ff,Ff];have:=h4 i hi;rw[Dp,Dp]at this;by_cases hl:off'+i<cs.length
     .simp_all[oneOf,fM,Fet,opX]
     .rw[Eh (by omega),Eh (by omega)]
    .rw[Dt hi,Dt hi]
 .cases h
def OH (fet:Fet) (δ :Dl):Prop:= ∀ e∈ δ.same,∃ cs,MK fet e.1=some cs/\ ∀ p∈ δ.upd,p.1=e.1-> ∃ cs',p.2= .box cs'/\cs'.length=cs.length/\cs'.getD e.2 .undef=cs.getD e.2 .undef
def Atr {fet:Fet} (x:A) (j:Nat) {δ :Dl} (h:OH fet δ):OH fet (V5 fet x j δ):=by
 unfold V5;split
 .rename_i q off;cases hb:MK fet q with
  | none=>exact h
  | some cs =>
   dsimp only;cases hc:Nat.blt j cs.length&& δ.upd.all (fun p=> !(Nat.beq p.1 q)||AjN cs.length p.2)with
   | false=>exact h
   | true =>
    rw[Dv,EM]at hc;have hset: ∀ ds:List A,ds.length=cs.length-> ∀ i,(ds.set j (cs.getD j .undef)).getD i .undef=if j=i then cs.getD j .undef else ds.getD i .undef:=by intro ds hd i;rw[Dp,Gh];by_cases hij:j=i;all_goals simp_all[Fet,OH,V5]
    have key: ∀ p0∈ δ.upd,Nat.beq p0.1 q=true-> ∃ ds,p0.2= .box ds/\ds.length=cs.length:=by
     intro p0 hp0 hq;have h1:=DJ.1 hc.2 p0 hp0;rw[hq]at h1;have h1:AjN cs.length p0.2=true:=h1;obtain⟨n,y⟩:=p0;cases y with
     | box ds=>exact⟨ds,rfl,D5 h1⟩
     | _=>cases h1
    intro e he;rcases D8.1 (show e∈(q,j):: δ.same from he)with rfl | he
    .refine⟨cs,hb,fun p hp hpq=> ?_⟩;obtain⟨p0,hp0,rfl⟩:=DD.1 (show p∈ δ.upd.map _ from hp);cases hq:Nat.beq p0.1 q with
     | false=>simp_all[Fet,OH,V5]
     | true=>grind[AxQ]
    .obtain⟨cs0,h4,h5⟩:=h e he;refine⟨cs0,h4,fun p hp hpq=> ?_⟩;obtain⟨p0,hp0,rfl⟩:=DD.1 (show p∈ δ.upd.map _ from hp);cases hq:Nat.beq p0.1 q with
     | false=>rw[hq]at hpq;exact h5 p0 hp0 hpq
     | true =>rw[hq]at hpq;have hpq:p0.1=e.1:=hpq;obtain⟨ds,h2,h3⟩:=key p0 hp0 hq;obtain⟨cs',g1,g2,g3⟩:=h5 p0 hp0 hpq;all_goals simp_all[AxQ,Fet,OH,V5]
 .exact h
def Atu {fet:Fet} (xs:List A): ∀(ks:List (Nat×Nat)) {δ :Dl},OH fet δ ->OH fet (keepD fet xs ks δ):=by
 intro ks
 induction ks with
 | nil=>intro δ h;exact h
 | cons k ks ih=>intro δ h;exact ih (Atr _ _ h)
theorem OH.nil {fet:Fet} {δ :Dl} (h: δ.same=[]):OH fet δ :=fun e he=>by rw[h]at he;cases he
theorem Akh {o:Oper} {s:St} (pre:List Bool):OH (KE s (KJ o s)) (UL C o s pre):=by
 cases hc:Ag1 o.op with
 | false=>grind[OH.nil,UL]
 | true =>
  have key:OH (KE s (KJ o s)) (opX C o (KJ o s) (KE s (KJ o s))):=by
   generalize KJ o s=vs;generalize KE s vs=fet;obtain⟨dst,op,ty,pos,after,guard⟩:=o;dsimp only at hc;unfold Ag1 at hc;split at hc
   .cases vs with
    | nil=>exact OH.nil rfl
    | cons x xs =>
     rename_i f _ _;show OH fet (oK C fet (dst.getD 0) f xs);unfold oK;cases C.G f with
     | none=>exact OH.nil rfl
     | some sg=>exact Atu _ _ (OH.nil rfl)
   .cases hc
  intro e he;have he:e∈(bif Ag1 o.op then(opX C o (KJ o s) (KE s (KJ o s))).same else []):=he;rw[hc]at he;exact key e he
def Aus {ops:List Oper} {o:Oper} {s:St}:OH (KE s (KJ o s)) (KQ C ops o s):=by
 unfold KQ;split
 .exact Akh _
 .grind[split,Akh,OH.nil]
 .exact OH.nil rfl
end
section
variable {P:Program} {C:Ctx} {V0:Nat->Value} {O0 O:Own} {w0 w:World} {m:Nat->Value} {st st':St} {a:Act}
structure Ao7 (C:Ctx) (ops:List Oper) (x:LM) (st:St):Prop where
 step:KQ C ops x.o st=x.δ
 rd:LX x.o st (KJ x.o st)=x.rd
 one:oneOf C x.o.op (KJ x.o st)=x.one
def Aeo (C:Ctx) (ops:List Oper):List LM->St->St->Prop
 | [],s,s'=>s=s'
 | x::r,s,s'=>Ao7 C ops x s/\Aeo C ops r (apply s x.o x.δ) s'
def At7: ∀(u:List Nat) {l:List (Nat×Obj)} {p:Nat×Obj},p∈KF l u->p∈l:=by
 intro u
 induction u with
 | nil=>intro l p h;exact h
 | cons n r ih=>intro l p h;exact Aiu (ih h)
def kH {x:LM} {n:Nat} (h:st.fresh n=true) (h1:n∉x.says) (h2:n∉x.keys):(apply st x.o x.δ).fresh n=true:=by
 obtain⟨f1,f2,f3,f4⟩:=Ob h;unfold LM.says at h1;simp only[DR,not_or]at h1
 have g1:has (apply st x.o x.δ).ids n=false:=by
  rw[<- Bool.not_eq_true];intro hh;rcases DR.1 (PW.1 hh)with hm | hm
  .obtain⟨c,hc,hi⟩:=Eu.1 hm;have hc:c∈put st.tmps x.o.dst x.δ.val:=hc
   have:c∈st.tmps\/c=x.δ.val:=by
    cases hd:x.o.dst with
    | none=>rw[hd]at hc;exact .inl hc
    | some d=>rw[hd]at hc;exact GG hc
   rcases this with hc | hc
   .exact f1 (DI _ (Eu.2 ⟨c,hc,hi⟩))
   .rw[hc]at hi;exact h1.1.1 hi
  .obtain⟨p,hp,hi⟩:=Eu.1 hm;rcases pG x.δ.new (show p∈JH (KF (JH st.Jr x.δ.upd) x.δ.del) x.δ.new from hp)with hp | hp
   .exact h1.2 (Eu.2 ⟨p,hp,hi⟩)
   .rcases pG x.δ.upd (At7 _ hp)with hp | hp
    .exact h1.1.2 (Eu.2 ⟨p,hp,hi⟩)
    .exact f1 (DC _ (Eu.2 ⟨p,hp,hi⟩))
 have g2:J5 (apply st x.o x.δ).Jr n=none:=by rw[WY h2];exact f2
 all_goals grind[St.fresh,Zx]
def Atx {u:List (Nat×Obj)} {k:Nat} {x:Obj} (h:lastOf u k=some x):(k,x)∈u:=by
 induction u with
 | nil=>cases h
 | cons p r ih=>grind[lastOf]
def AwP {ops:List Oper} {x y:LM} (hx:Ao7 C ops x st) (hy:Ao7 C ops y (apply st x.o x.δ)) (h:calm x y=true) :
 (opX C x.o (KJ x.o st) (KE (apply st y.o y.δ) (KJ x.o st))=opX C x.o (KJ x.o st) (KE st (KJ x.o st))/\(∀ f,(opX C x.o (KJ x.o st) f).upd=[])/\LX x.o (apply st y.o y.δ) (KJ x.o st)=LX x.o st (KJ x.o st)) \/
 (KE (apply st y.o y.δ) (KJ x.o st)=KE st (KJ x.o st)/\LX x.o (apply st y.o y.δ) (KJ x.o st)=LX x.o st (KJ x.o st)):=by
 unfold calm at h;cases ho:x.one with
 | none=>rw[ho]at h;cases h
 | some p =>
  obtain⟨q,off,n⟩:=p;rw[ho]at h;simp only[Dv,EF]at h;obtain⟨h1,h2,h3,h4,h5⟩:=h;have hone:=hx.one;rw[ho]at hone;obtain⟨k1,k2⟩:=AvR hone;obtain⟨off',ev,hO⟩:=Aer (C:=C) k1;have hS:=Aus (C:=C) (ops:=ops) (o:=y.o) (s:=apply st x.o x.δ);rw[hy.step]at hS;have hxk:J5 (apply st x.o x.δ).Jr q=J5 st.Jr q:=WY fun hm=>by have:=h1.symm.trans (PW.2 hm);cases this
  have hbox: ∀ e∈y.δ.same,e.1=q-> ∃ cs,J5 st.Jr q=some (.box cs)/\ ∀ p∈y.δ.upd,p.1=q-> ∃ cs',p.2= .box cs'/\cs'.length=cs.length/\cs'.getD e.2 .undef=cs.getD e.2 .undef:=by intro e he heq;obtain⟨cs,g1,g2⟩:=hS e he;rw[heq]at g1 g2;exact⟨cs,by rw[<- hxk];exact yT _ _ _ _ (LY g1),g2⟩
  obtain⟨e0,he0,heq0⟩:=FU.1 h4;obtain⟨cs,g1,g2⟩:=hbox e0 he0 (D5 heq0);have hcell: ∀ k,k<n-> ∀ p∈y.δ.upd,p.1=q-> ∀ cs',p.2= .box cs'->cs'.getD (off+k) .undef=cs.getD (off+k) .undef:=by intro k hk p hp hpq cs' hcs;have:=DJ.1 h5 k (EP.2 hk);obtain⟨e,he,heq⟩:=FU.1 this;rw[Dv]at heq;obtain⟨cs2,g3,g4⟩:=hbox e he (D5 heq.1);rw[g1]at g3;injection g3 with g3;injection g3 with g3;subst g3;obtain⟨cs3,g5,_,g6⟩:=g4 p hp hpq;rw[hcs]at g5;injection g5 with g5;subst g5;rw[D5 heq.2]at g6;exact g6
  have hnd:lastOf y.δ.new q=none:=Ah0 fun hm=>by have:=h3.symm.trans (PW.2 hm);cases this
  have hdl:q∉y.δ.del:=fun hm=>by rw[PW.2 hm]at h2;cases h2
  have hnew: ∃ cs',J5 (apply st y.o y.δ).Jr q=some (.box cs')/\cs'.length=cs.length/\ ∀ k,k<n->cs'.getD (off+k) .undef=cs.getD (off+k) .undef:=by
   rw[Uw,hnd];dsimp only;rw[Dt hdl];cases hl:lastOf y.δ.upd q with
   | none=>exact⟨cs,g1,rfl,fun _ _=>rfl⟩
   | some z =>have hm:=Atx hl;obtain⟨cs',g3,g4,_⟩:=g2 _ hm rfl;dsimp only at g3;subst g3;exact⟨cs',rfl,g4,fun k hk=>hcell k hk _ hm rfl _ rfl⟩
  obtain⟨cs',g3,g4,g5⟩:=hnew;have hask: ∀ s,LX x.o s (KJ x.o st)=bif Aaf x.o.op (KJ x.o st)then []else [q]:=by intro s;unfold LX;rw[k1]
  refine .inl ⟨k2 ?_ ?_ g4 g5,fun f=>(hO f f rfl).2,by rw[hask,hask]⟩
  .rw[ev];unfold MK;rw[YN,g1]
  .rw[ev];unfold MK;rw[YN,g3]
def swap {ops:List Oper} {x y:LM} {r:List LM} (hi:indep ops x y=true) (hxF: ∀ n∈x.news,st.fresh n=true) (hyF: ∀ n∈y.news,st.fresh n=true) (h1:WA y.news x.says=true) (h2:WA y.news x.keys=true)
 (hs:Srt st.Jr) (h:Aeo C ops (x::y::r) st st'):Aeo C ops (y::x::r) st st':=by
 unfold indep at hi;simp only[Dv]at hi;obtain⟨⟨⟨⟨⟨⟨i1,i2⟩,i3⟩,i4⟩,i5⟩,i6⟩,i7⟩:=hi;obtain⟨hx,hy,hr⟩:=h;have hkx: ∀ n,n∈x.keys->n∉y.keys:=MW i6;have hnx: ∀ n∈x.news,n∈x.keys:=fun n hn=>DC _ hn
 have cy:=Aut (C:=C) (ops:=ops) (o:=y.o) (s1:=apply st x.o x.δ) (s2:=st)
  (fun z hz=>(Ape (fun t ht=>MW i2 t (qF.2 ht)) hz).symm) (Amt (fun t ht=>MW i2 t (qF.2 ht))).symm
  (fun n hn=>(WY (fun hk=>MW i4 n hk (by rw[<- hy.rd];exact hn))).symm)
  (fun n hn=>by rw[hy.step]at hn;exact kH (hyF n hn) (MW h1 n hn) (MW h2 n hn))
  (fun n hn=>by rw[hy.step]at hn;exact hyF n hn)
 have cx:=AmM (C:=C) (ops:=ops) (o:=x.o) (s1:=st) (s2:=apply st y.o y.δ)
  (fun z hz=>Ape (fun t ht=>MW i3 t (qF.2 ht)) hz) (Amt (fun t ht=>MW i3 t (qF.2 ht)))
  (by
    rcases Bool.or_eq_true_iff.1 i5 with i5 | i5
    .exact Amf (fun n hn=>WY (fun hk=>MW i5 n hk (by rw[<- hx.rd];exact hn)))
    .exact AwP hx hy i5)
  (fun n hn=>by rw[hx.step]at hn;exact hxF n hn)
  (fun n hn=>by rw[hx.step]at hn;exact kH (hxF n hn) (MW i7 n hn) (hkx n (hnx n hn)))
 have hst:apply (apply st y.o y.δ) x.o x.δ =apply (apply st x.o x.δ) y.o y.δ :=by
  have e1:(apply (apply st y.o y.δ) x.o x.δ).tmps=(apply (apply st x.o x.δ) y.o y.δ).tmps:=(put_comm st.tmps x.δ.val y.δ.val (fun t ht he=>MW i1 t (qF.2 ht) (qF.2 he))).symm
  have e2:(apply (apply st y.o y.δ) x.o x.δ).Jr=(apply (apply st x.o x.δ) y.o y.δ).Jr:=by
   refine Srt.ext ((hs.apply _ _).apply _ _) ((hs.apply _ _).apply _ _) fun k=> ?_;by_cases hk:k∈x.keys
   .have hky:=hkx k hk;rw[WY (o:=y.o) (δ :=y.δ) hky,Uw (apply st y.o y.δ),WY (o:=y.o) (δ :=y.δ) hky,<- Uw st]
   .rw[WY (o:=x.o) (δ :=x.δ) hk,Uw (apply st x.o x.δ),WY (o:=x.o) (δ :=x.δ) hk,<- Uw st]
  generalize apply (apply st y.o y.δ) x.o x.δ =s at *
  generalize apply (apply st x.o x.δ) y.o y.δ =s' at *
  cases s;cases s';dsimp only at e1 e2;rw[e1,e2]
 refine⟨⟨by rw[cy.1,hy.step],by rw[cy.2.1,hy.rd],by rw[cy.2.2,hy.one]⟩,⟨by rw[cx.1,hx.step],by rw[cx.2.1,hx.rd],by rw[cx.2.2,hx.one]⟩,?_⟩;rw[hst];exact hr
structure Pre (R:List LM) (st:St):Prop where
 srt:Srt st.Jr
 fresh: ∀ z∈R,∀ n∈z.news,st.fresh n=true
 pairs:R.Pairwise (fun y z=>WA z.news y.says=true/\WA z.news y.keys=true)
def Pre.step {y:LM} {R:List LM} (h:Pre (y::R) st):Pre R (apply st y.o y.δ):=by obtain⟨h1,h2⟩:=EH.1 h.pairs;exact⟨h.srt.apply _ _,fun z hz n hn=>kH (h.fresh z (Dz _ hz) n hn) (MW (h1 z hz).1 n hn) (MW (h1 z hz).2 n hn),h2⟩
def front {ops:List Oper} {x:LM} {L2:List LM}: ∀(L1:List LM) {st:St},Pre (L1++x::L2) st->(∀ y∈L1,indep ops y x=true)->Aeo C ops (L1++x::L2) st st'->Aeo C ops (x::(L1++L2)) st st':=by
 intro L1
 induction L1 with
 | nil=>intro st _ _ h;exact h
 | cons y L1 ih =>intro st hP hi h;have h1:=ih (st:=apply st y.o y.δ) (hP.step) (fun z hz=>hi z (Dz _ hz)) h.2;have hx:x∈L1++x::L2:=DC _ Dw;obtain⟨p1,_⟩:=EH.1 hP.pairs;exact swap (hi y Dw) (hP.fresh y Dw) (hP.fresh x (Dz _ hx)) (p1 x hx).1 (p1 x hx).2 hP.srt ⟨h.1,h1⟩
theorem AuO {md:Region.Mode} {e:Edge} (h:Region.binds .any e=true):Region.binds md e=true:=by unfold Region.binds at h ⊢;all_goals grind
def jG {ops:List Oper} {i:Nat} {x y:LM} (h:kT ops i x y=true):WA y.news x.says=true/\WA y.news x.keys=true/\(i∈y.anc\/indep ops x y=true):=by unfold kT at h;simp only[Dv,E5]at h;exact⟨h.1.1,h.1.2,h.2.imp PW.1 id⟩
def Apt {l:Array Bool} {i:Nat} (h:i<l.size) (b c:Bool):l.getD i b=l.getD i c:=by grind
def Atb {α :Type} (f: α ->Nat): ∀(l:List α),l≠ []-> ∃ x∈l,∀ y∈l,f x<=f y:=by
 intro l
 induction l with
 | nil=>grind
 | cons a r ih =>
  intro _;by_cases hr:r=[]
  .simp_all
  .grind
def Axa {ρ :Type} (hC:OD P C) {ops:Array Oper} {md:Region.Mode} {Q:Exit->Act->World->Prop} {v: ρ} {K:St->Option ρ} (hQ: ∀ O' m' st' a' w',Sim V0 O0 w0 O' m' st' a' w'->K st'=some v->Q .normal a' w')
 {ANC:List (List Nat)} (hanc: ∀(j:Nat) (o:Oper),ops[j]? =some o-> ∀ i∈ANC.getD j [],∃ e∈bD o,i=e\/i∈ANC.getD e []) {rk:Nat->Nat} (hback: ∀(j:Nat) (o:Oper),ops[j]? =some o-> ∀ e∈o.after,Region.binds md e=true->e.on<ops.size/\rk e.on<rk j) :
 ∀(fuel:Nat) (R:List (Nat×LM)) (listed:Array Bool) {O:Own} {m:Nat->Value} {st:St} {a:Act} {w:World},R.length=fuel->R.Pairwise (fun p q=>p.1<q.1) ->
  (∀ p∈R,ops[p.1]? =some p.2.o/\JC p.2.δ.ok/\p.2.anc=ANC.getD p.1 [])->listed.size=ops.size->(∀ i,i<ops.size->(listed.getD i true=false↔i∈R.map (·.1))) ->
  (∀ e,listed.getD e false=true-> ∀ i∈ANC.getD e [],listed.getD i false=true)->R.Pairwise (fun p q=>kT ops.toList p.1 p.2 q.2=true)->(∀ p∈R,∀ n∈p.2.news,st.fresh n=true)->Srt st.Jr ->
  Aeo C ops.toList (R.map (·.2)) st st'->K st'=some v->Sim V0 O0 w0 O m st a w->wpAny P md ops Q fuel listed a w:=by
 intro fuel
 induction fuel with
 | zero =>
  intro R listed O m st a w hlen _ _ hsz hl _ _ _ _ hruns hK hS;have hR:R=[]:=F7.1 hlen;subst hR;refine⟨?_,?_⟩
  .rw[List.eq_nil_iff_forall_not_mem];intro i hi;obtain⟨h1,o,h2,_⟩:=mem_ready.1 hi;have hlt:=(Eo.1 h2).1;have:=(hl i hlt).1 h1;simp at this
  .have:st=st':=hruns;subst this;exact hQ _ _ _ _ _ hS hK
 | succ fuel ih =>
  intro R listed O m st a w hlen hord hops hsz hl hcl hpr hfr hsrt hruns hK hS;have hin: ∀ p∈R,p.1<ops.size:=fun p hp=>(Eo.1 (hops p hp).1).1;refine⟨fun hnil=> ?_,fun i hi=> ?_⟩
  .exfalso;obtain⟨p,hpR,hmin⟩:=Atb (fun q:Nat×LM=>rk q.1) R (by intro h;rw[h]at hlen;simp at hlen);have hp:=hin p hpR
   have:p.1∈Region.ready md ops listed:=by
    refine mem_ready.2 ⟨(hl p.1 hp).2 (DD.2 ⟨p,hpR,rfl⟩),p.2.o,(hops p hpR).1,fun e he hb=> ?_⟩;obtain⟨hsize,hlt⟩:=hback _ _ (hops p hpR).1 e he hb;have hno:e.on∉R.map (·.1):=by intro hm;obtain⟨q,hq,hqe⟩:=DD.1 hm;have:=hmin q hq;rw[hqe]at this;omega
    have:listed.getD e.on true≠false:=fun h=>hno ((hl e.on hsize).1 h);rw[Apt (by rw[hsz];exact hsize) false true];simpa using this
   rw[hnil]at this;cases this
  .obtain⟨hi1,oi,hi2,hi3⟩:=mem_ready.1 hi;have hilt:=(Eo.1 hi2).1;obtain⟨p,hp,rfl⟩:=DD.1 ((hl i hilt).1 hi1);obtain⟨L1,L2,rfl⟩:=List.append_of_mem hp;obtain⟨i,x⟩:=p;dsimp only at hi hi1 hi2 hi3 hilt ⊢;obtain⟨hx1,hx2,hx3⟩:=hops (i,x) hp;dsimp only at hx1 hx2 hx3
   have hancl: ∀ j∈ANC.getD i [],listed.getD j false=true:=by
    intro j hj;obtain⟨e,he,hje⟩:=hanc i _ hx1 j hj;have hel:listed.getD e false=true:=by unfold bD at he;obtain⟨ed,hed,hb⟩:=IW.1 he;all_goals grind[AuO]
    rcases hje with rfl | hje
    .exact hel
    .exact hcl e hel j hje
   have hord':=I8.1 hord;have hpr':=I8.1 hpr;have hind: ∀ q∈L1,kT ops.toList q.1 q.2 x=true/\indep ops.toList q.2 x=true:=by intro q hq;have hpq:=hpr'.2.2 q hq (i,x) Dw;dsimp only at hpq;refine⟨hpq,(jG hpq).2.2.resolve_left fun hm=> ?_⟩;rw[hx3]at hm;have h1:=hancl _ hm;have hqR:q∈L1++(i,x)::L2:=DI _ hq;have hqlt:=hin q hqR;have h2:=(hl q.1 hqlt).2 (DD.2 ⟨q,hqR,rfl⟩);rw[Apt (by rw[hsz];exact hqlt) true false,h1]at h2;cases h2
   have hPre:Pre ((L1++(i,x)::L2).map (·.2)) st:=by
    refine⟨hsrt,fun z hz n hn=> ?_,?_⟩
    .obtain⟨q,hq,rfl⟩:=DD.1 hz;exact hfr q hq n hn
    .rw[List.pairwise_map];exact hpr.imp fun h=>⟨(jG h).1,(jG h).2.1⟩
   have hfront:Aeo C ops.toList (x::(L1.map (·.2)++L2.map (·.2))) st st':=by refine front (L1.map (·.2)) (by simpa using hPre) (fun y hy=> ?_) (by simpa using hruns);obtain⟨q,hq,rfl⟩:=DD.1 hy;exact(hind q hq).2
   obtain⟨hstep,hrest⟩:=hfront;have hsub:List.Sublist (L1++L2) (L1++(i,x)::L2):=List.Sublist.append_left (List.sublist_cons_self _ _) _
   have hnext: ∀ O' m' a' w',Sim V0 O0 w0 O' m' (apply st x.o (KQ C ops.toList x.o st)) a' w'->wpAny P md ops Q fuel (listed.setIfInBounds i true) a' w':=by
    intro O' m' a' w' hS';rw[hstep.step]at hS';refine ih (L1++L2) _ (by simp at hlen ⊢;omega) (hord.sublist hsub) (fun q hq=>hops q (hsub.subset hq)) (by simpa using hsz) (fun j hj=> ?_) (fun e he j hj=> ?_) (hpr.sublist hsub) (fun q hq n hn=> ?_) (hsrt.apply _ _) (by simpa using hrest) hK hS'
    .by_cases hji:i=j
     .subst hji;have h1:(listed.setIfInBounds i true).getD i true=true:=by simp [Dy,hsz,hj]
      rw[h1];refine⟨fun h=>(by cases h),fun h=> ?_⟩;obtain⟨q,hq,hqi⟩:=DD.1 h;rcases DR.1 hq with hq | hq
      .have:=hord'.2.2 q hq (i,x) Dw;dsimp only at this;omega
      .have:=(EH.1 hord'.2.1).1 q hq;dsimp only at this;omega
     .rw[getD_set_ne true hji,hl j hj];simp only[FC,Ej,DR,D8];constructor
      .rintro (h | h | h)
       .exact .inl h
       .exact absurd h.symm hji
       .exact .inr h
      .rintro (h | h)
       .exact .inl h
       .exact .inr (.inr h)
    .by_cases hei:i=e
     .subst hei;exact getD_set_true (hancl j hj)
     .rw[getD_set_ne false hei]at he;exact getD_set_true (hcl e he j hj)
    .have hq':=hsub.subset hq;have hf:=hfr q hq' n hn;rcases DR.1 hq with hq | hq
     .have hi':=(hind q hq).2;unfold indep at hi';simp only[Dv]at hi';exact kH hf (MW hi'.2 n hn) (MW hi'.1.2 n (DC _ hn))
     .have hpq:=jG ((EH.1 hpr'.2.1).1 q hq);exact kH hf (MW hpq.1 n hn) (MW hpq.2.1 n hn)
   have hw:=Ak4 hC hS (ops:=ops) (o:=x.o) (by rw[hstep.step];exact hx2) (wpAny P md ops Q fuel (listed.setIfInBounds i true)) Q hnext;unfold wpOp;rw[hx1];dsimp only;split
   .rename_i hwt;rw[Dq hwt]at hw;exact .inl hw
   .rename_i hwt;rw[Dt hwt]at hw;exact hw
end
section
variable {P:Program} {C:Ctx} {V0:Nat->Value} {O0 O:Own} {w0 w:World} {m:Nat->Value} {st st':St} {a:Act}
def enum:Nat->List LM->List (Nat×LM)
 | _,[]=>[]
 | i,x::r=>(i,x)::enum (i+1) r
def AqU: ∀(l:List LM) (i:Nat),(enum i l).length=l.length:=by
 intro l
 induction l with
 | nil=>intro i;rfl
 | cons x r ih=>intro i;simp [enum,ih]
def Axg: ∀(l:List LM) (i:Nat),(enum i l).map (·.2)=l:=by
 intro l
 induction l with
 | nil=>intro i;rfl
 | cons x r ih=>intro i;simp [enum,ih]
theorem AbY: ∀(l:List LM) (i:Nat) (p:Nat×LM),p∈enum i l-> ∃ k,p.1=i+k/\l[k]? =some p.2:=by
 intro l
 induction l with
 | nil=>intro i p h;cases h
 | cons x r ih =>
  intro i p h;rcases D8.1 h with rfl | h
  .exact⟨0,rfl,rfl⟩
  .obtain⟨k,h1,h2⟩:=ih (i+1) p h;exact⟨k+1,by omega,by simpa using h2⟩
def Axe: ∀(l:List LM) (i j:Nat),j∈(enum i l).map (·.1)↔i<=j/\j<i+l.length:=by
 intro l
 induction l with
 | nil=>intro i j;simp [enum]
 | cons x r ih=>grind[enum]
def Axf: ∀(l:List LM) (i:Nat),(enum i l).Pairwise (fun p q=>p.1<q.1):=by
 intro l
 induction l with
 | nil=>simp_all[enum]
 | cons x r ih =>intro i;refine List.Pairwise.cons (fun q hq=> ?_) (ih (i+1));all_goals grind[AbY]
def AsZ {ops:List Oper}: ∀(l:List LM) (i:Nat),qG ops i l=true->(enum i l).Pairwise (fun p q=>kT ops p.1 p.2 q.2=true):=by
 intro l
 induction l with
 | nil=>intro i _;exact List.Pairwise.nil
 | cons x r ih =>intro i h;simp only[qG,Dv]at h;refine List.Pairwise.cons (fun q hq=> ?_) (ih (i+1) h.2);all_goals grind[AbY]
def Avm {o:Oper} {e:Nat} (h:e∈bD o): ∃ ed∈o.after,ed.on=e/\Region.binds .any ed=true:=by grind[bD]
def Ana: ∀(l:List Oper) (i:Nat),backward i l=true-> ∀(k:Nat) (o:Oper),l[k]? =some o-> ∀ e∈o.after,e.on<i+k:=by
 intro l
 induction l with
 | nil=>intro i _ k o h;simp at h
 | cons x r ih =>
  intro i h k o hk e he;simp only[backward,Dv]at h;cases k with
  | zero =>simp at hk;subst hk;have:=DJ.1 h.1 e (by simpa using he);rw[EM]at this;exact this
  | succ k=>grind[backward]
def AkO: ∀(l:List Oper) (i:Nat),Tv i l=true-> ∀(k:Nat) (o:Oper),l[k]? =some o-> ∀ e∈o.after,Region.binds .any e=true->e.on<i+k:=by
 intro l
 induction l with
 | nil=>intro i _ k o h;simp at h
 | cons x r ih =>
  intro i h k o hk e he hb;simp only[Tv,Dv]at h;cases k with
  | zero =>simp at hk;subst hk;have:=DJ.1 h.1 e (by simpa using he);all_goals simp_all[Tv]
  | succ k=>grind[Tv]
def An2 {md:Region.Mode} {n:Nat} {rk:List Nat}: ∀(l:List Oper) (i:Nat),iM md n rk i l=true-> ∀(k:Nat) (o:Oper),l[k]? =some o-> ∀ e∈o.after,Region.binds md e=true->e.on<n/\rk.getD e.on 0<rk.getD (i+k) 0:=by
 intro l
 induction l with
 | nil=>intro i _ k o h;simp at h
 | cons x r ih =>
  intro i h k o hk e he hb;simp only[iM,Dv]at h;cases k with
  | zero =>simp at hk;subst hk;have:=DJ.1 h.1 e (by simpa using he);all_goals simp_all[iM]
  | succ k=>grind[iM]
def ApY {ops:Array Oper} (h:ordered ops.toList=true) (md:Region.Mode): ∃ rk:Nat->Nat,∀(j:Nat) (o:Oper),ops[j]? =some o-> ∀ e∈o.after,Region.binds md e=true->e.on<ops.size/\rk e.on<rk j:=by
 unfold ordered at h;rw[Dv,E5]at h;rcases h.2 with h | h
 .refine⟨id,fun j o hj e he _=> ?_⟩;have h1:=Ana _ _ h j o (by simpa using hj) e he;all_goals grind[ordered]
 .simp only[Dv]at h;have key:Akr md ops.toList=true:=by cases md<;>first | exact h.1.1 | exact h.1.2 | exact h.2
  refine⟨fun i=>(ranks md ops.toList ops.toList.length (ops.toList.map fun _=>0)).getD i 0,fun j o hj e he hb=> ?_⟩;have:=An2 _ _ key j o (by simpa using hj) e he hb;all_goals grind[ordered]
def Alk {α β :Type} {f g: α ->List β}: ∀(l:List α),(∀ x∈l,f x=g x)->l.flatMap f=l.flatMap g:=by
 intro l
 induction l with
 | nil=>intro _;rfl
 | cons x r ih=>grind
def Ath {ops:List Oper}: ∀(l:List Oper) (acc:List (List Nat)) (st:St),Tv acc.length l=true->(WN C ops l acc st).length=l.length /\
 ∀(k:Nat) (o:Oper),l[k]? =some o-> ∃ x,(WN C ops l acc st)[k]? =some x/\x.o=o/\x.anc=(bD o).flatMap (fun e=>e::(acc++(WN C ops l acc st).map LM.anc).getD e []):=by
 intro l
 induction l with
 | nil=>intro acc st _;exact⟨rfl,fun k o h=>by simp at h⟩
 | cons o' r ih =>
  intro acc st h;have hb:=AkO _ _ h;simp only[Tv,Dv]at h;let an:=(bD o').flatMap (fun e=>e::acc.getD e []);let s1:=apply st o' (KQ C ops o' st);have hf:WN C ops (o'::r) acc st=⟨o',KQ C ops o' st,LX o' st (KJ o' st),oneOf C o'.op (KJ o' st),an⟩::WN C ops r (acc++[an]) s1:=rfl;obtain⟨g1,g2⟩:=ih (acc++[an]) s1 (by simpa using h.2);rw[hf];refine⟨by simp [g1],fun k o hk=> ?_⟩;cases k with
  | zero =>simp at hk;subst hk;refine⟨_,rfl,rfl,?_⟩;refine Alk _ fun e he=> ?_;obtain⟨ed,h1,h2,h3⟩:=Avm he;have hlt:=hb 0 o' rfl ed h1 h3;rw[Dp,Dp,Ew (by omega)]
  | succ k =>obtain⟨x,h1,h2,h3⟩:=g2 k o (by simpa using hk);refine⟨x,by simpa using h1,h2,?_⟩;rw[h3];simp [Ei]
def Atg {ρ :Type} {ops:List Oper} {K:St->Option ρ} {v: ρ}: ∀(l:List Oper) (acc:List (List Nat)) (st:St),Zz C ops l st K=some v-> ∃ st',Aeo C ops (WN C ops l acc st) st st'/\K st'=some v/\ ∀ x∈WN C ops l acc st,JC x.δ.ok:=by
 intro l
 induction l with
 | nil=>intro acc st h;exact⟨st,rfl,h,fun x hx=>by cases hx⟩
 | cons o r ih =>
  intro acc st h;obtain⟨h1,h2⟩:=WZ (show allT (KQ C ops o st).ok (Zz C ops r (apply st o (KQ C ops o st)) K)=some v from h);obtain⟨st',h3,h4,h5⟩:=ih (acc++[(bD o).flatMap (fun e=>e::acc.getD e [])]) _ h2;refine⟨st',⟨⟨rfl,rfl,rfl⟩,h3⟩,h4,fun x hx=> ?_⟩;rcases D8.1 hx with rfl | hx
  .exact h1
  .exact h5 x hx
def Sim.drew (hS:Sim V0 O0 w0 O m st a w):Sim V0 O0 w0 O m st a {w with drawn:=w.drawn+1} :=
 hS.next (st':=st) (d:=none) (v:=undef) (x:=.undef) (T:=fun _=>False) (Nw:=fun _=>False) ⟨rfl,rfl,rfl,DK _,fun _ _=>.inl rfl⟩ ⟨fun _ _ _ h=>h,fun _ _ _ _ h _=>h⟩ (fun _ _ _ h=>h) (fun _ y ho=>.inr ⟨y,ho,rfl,rfl⟩) (fun _ h=>h.elim) (fun _ h=>h.elim)
  (fun _ _ ho=>.inl ⟨id,ho,rfl⟩) rfl (fun h=>absurd rfl h)
def AsX {ρ :Type} (hC:OD P C) {fin:St->Option ρ} {v: ρ} (id:Nat) (ops:Array Oper) {O:Own} {m:Nat->Value} {st:St} {a:Act} {w:World} (K:Ex->St->Option ρ) (hS:Sim V0 O0 w0 O m st a w) (hd:VS C ops.toList st=true)
 (hx:Zz C ops.toList ops.toList st (fun st'=>K .normal st')=some v):(Code.region id ops true).wp P (Post V0 O0 w0 fin K v) a w:=by
 unfold VS at hd;dsimp only at hd;simp only[Dv]at hd;obtain⟨⟨⟨d1,d2⟩,d3⟩,d4⟩:=hd;have d1A:Tv 0 ops.toList=true:=by all_goals grind[ordered]
 obtain⟨f1,f2⟩:=Ath (C:=C) (ops:=ops.toList) ops.toList [] st d1A;obtain⟨st',r1,r2,r3⟩:=Atg ops.toList [] st hx;generalize hfs:WN C ops.toList ops.toList [] st=fs at *
 have hlen:fs.length=ops.size:=by rw[f1];simp
 have hsize:(enum 0 fs).length=ops.size:=by rw[AqU,hlen]
 have hany: ∀ md,wpAny P md ops (Post V0 O0 w0 fin K v) ops.size (Array.replicate ops.size false) a {w with drawn:=w.drawn+1}:=by
  intro md;obtain⟨rk,hrk⟩:=ApY d1 md
  refine Axa (V0:=V0) (O0:=O0) (w0:=w0) hC (K:=fun st'=>K .normal st') (v:=v) (st':=st') (fun O' m' s a' w' h1 h2=>⟨O',m',s,h1,h2⟩) (ANC:=fs.map LM.anc) (rk:=rk) (fun j o hj i hi=> ?_) hrk
   ops.size (enum 0 fs) _ hsize (Axf _ _) (fun p hp=> ?_) (by simp) (fun i hi=> ?_) (fun e he i _=> ?_) (AsZ _ _ d2) (fun p hp n hn=> ?_) (Auo d4) (by rw[Axg];exact r1) r2 hS.drew
  .obtain⟨x,h1,h2,h3⟩:=f2 j o (by simpa using hj);have e1:(fs.map LM.anc).getD j []=x.anc:=by rw[Dp,E8,h1];rfl
   rw[e1,h3]at hi;obtain⟨e,he,hie⟩:=Eu.1 hi;rcases D8.1 hie with h | h
   .exact⟨e,he,.inl h⟩
   .exact⟨e,he,.inr (by simpa using h)⟩
  .obtain⟨k,h1,h2⟩:=AbY _ _ _ hp;rw[Ea]at h1
   have hk:k<ops.toList.length:=by
    rw[<- f1];rcases En k fs.length with h | h
    .exact h
    .rw[Eh h]at h2;cases h2
   obtain⟨x,h3,h4,h5⟩:=f2 k ops.toList[k] (by simp at hk ⊢);rw[h2]at h3;injection h3 with h3;refine⟨?_,r3 _ (Ha h2),?_⟩
   .rw[h1,h3,h4];simp at hk ⊢
   .rw[h1,Dp,E8,h2];rfl
  .rw[Axe];simp [Dy,hi,hlen]
  .have:(Array.replicate ops.size false).getD e false=false:=by
    rw[Dy,Array.getElem?_replicate];split<;>rfl
   rw[this]at he;cases he
  .grind[AbY]
 refine wp_region_draw fun t=> ?_;unfold Region.schedule;split
 .exact wpAny_sound _ _ _ _ _ (hany _)
 .exact wpAny_sound _ _ _ _ _ (hany _)
end
section
variable {P:Program} {C:Ctx}
def Aok:List (Nat×Sig)->Nat->Option Sig
 | [],_=>none
 | (k,x)::r,t=>bif Nat.beq k t then some x else Aok r t
def Av2: ∀ {l:List (Nat×Sig)} {t:Nat} {x:Sig},Aok l t=some x->(t,x)∈l:=by
 intro l
 induction l with
 | nil=>intro t x h;cases h
 | cons p r ih=>grind[Aok,Zx]
def Ay4:List (Nat×Nrm)->Nat->Option Nrm
 | [],_=>none
 | (k,x)::r,t=>bif Nat.beq k t then some x else Ay4 r t
def Aoc:List (Nat×Alt)->Nat->Option Alt
 | [],_=>none
 | (k,x)::r,t=>bif Nat.beq k t then some x else Aoc r t
def Aoi:List (Nat×(Nat->Sig))->Nat->Option (Nat->Sig)
 | [],_=>none
 | (k,x)::r,t=>bif Nat.beq k t then some x else Aoi r t
def Ay5:List (Nat×Nat×Nat×List Nat)->Nat->Option (Nat×Nat×List Nat)
 | [],_=>none
 | (k,x)::r,t=>bif Nat.beq k t then some x else Ay5 r t
def Ay0:List (Nat×List (Nat×Nat))->Nat->List (Nat×Nat)
 | [],_=>[]
 | (k,x)::r,t=>bif Nat.beq k t then x else Ay0 r t
def ctx (P:Program) (gs:List (Nat×Sig)) (ns:List (Nat×Nrm)) (aa:List (Nat×Alt):=[]) (dd:List (Nat×(Nat->Sig)):=[]) (cc:List Nat:=[]) (bb:List Nat:=[]) (ss:List (Nat×Nat×Nat×List Nat):=[]) (kk:List (Nat×List (Nat×Nat)):=[]):Ctx:=⟨Au3 P,Aok gs,Ay4 ns,Aoc aa,Aoi dd,cc,bb,fun _=>none,Ay5 ss,Ay0 kk⟩
def aI (P:Program) (F:Nat->Sig):Prop:=(∀ xs,(F 0).ok xs=false)/\ ∀ f xs,(F (f+1)).ok xs=true->Spec P f (F (f+1))
def Aoy (P:Program):List (Nat×(Nat->Sig))->Prop
 | []=>True
 | (_,F)::r=>aI P F/\Aoy P r
def Aoy.look: ∀ {l:List (Nat×(Nat->Sig))},Aoy P l-> ∀ t F,Aoi l t=some F->aI P F:=by
 intro l
 induction l with
 | nil=>intro _ t F h;cases h
 | cons p r ih=>grind[Aoi,Zx,Aoy,aI]
def Asq (P:Program):List (Nat×Alt)->Prop
 | []=>True
 | (f,q)::r=>(Spec P f q.1/\Spec P f q.2.1)/\Asq P r
def Asq.look: ∀ {l:List (Nat×Alt)},Asq P l-> ∀ f q,Aoc l f=some q->Spec P f q.1/\Spec P f q.2.1:=by
 intro l
 induction l with
 | nil=>intro _ f q h;cases h
 | cons p r ih =>
  intro h f q hq;obtain⟨k,x⟩:=p;simp only[Aoc,Zx]at hq;by_cases hk:k=f
  .simp only[hk,Gy,cond_true,F8]at hq;rw[<- hq,<- hk];exact h.1
  .rw[show decide (k=f)=false by simpa using hk]at hq;exact ih h.2 f q hq
def AiU (P:Program):List (Nat×Sig)->Prop
 | []=>True
 | (f,sg)::r=>Spec P f sg/\AiU P r
def AiU.mem: ∀ {l:List (Nat×Sig)},AiU P l-> ∀ p∈l,Spec P p.1 p.2:=by
 intro l
 induction l with
 | nil=>intro _ p hp;cases hp
 | cons q r ih=>grind[AiU,Spec]
def Jt {gs:List (Nat×Sig)} {ns:List (Nat×Nrm)} {aa:List (Nat×Alt)} {dd:List (Nat×(Nat->Sig))} {cc bb:List Nat} {ss:List (Nat×Nat×Nat×List Nat)} {kk:List (Nat×List (Nat×Nat))} (hG:AiU P gs) (hA:Asq P aa:=by trivial) (hD:Aoy P dd:=by trivial):OD P (ctx P gs ns aa dd cc bb ss kk) :=
 ⟨fun _ _ h=>h,fun _ _ h=>hG.mem _ (Av2 h),hA.look,hD.look⟩
def enters {f:FuncId} {fn:Func} (hf:P.funcs[f]? =some fn) (hb:fn.body.isNone=false) (hn:(fn.name== "runtime.NumGoroutine")=false) (args:Array Value) (w:World):(callFunc f args).run P w= .ok (.enter f args) w:=by
 have h1:fn.name≠ "runtime.NumGoroutine" :=by simpa using hn
 have h2:fn.body≠none:=by intro e;rw[e]at hb;cases hb
 simp [callFunc,hf,h1,h2]
def LV:(ks:List (Bool×CK))->List A->Option (tyl (ks.map (·.2))).Val
 | []=>fun
  | []=>some ()
  | _=>none
 | (_,.bool)::r=>fun
  | .bool b::cs=>(LV r cs).map (fun q=>Ty.mk2 _ b q)
  | _=>none
 | (_,.int k)::r=>fun
  | .int j n::cs=>bif A.kEq j k then(LV r cs).map (fun q=>Ty.mk2 _ n q)else none
  | _=>none
 | (_,.str)::r=>fun
  | .str s::cs=>(LV r cs).map (fun q=>Ty.mk2 _ s q)
  | _=>none
 | (false,.sl _ t)::r=>fun
  | .sl l::cs=>match l.cast t with
   | some xs=>(LV r cs).map (fun q=>Ty.mk2 _ xs q)
   | none=>none
  | _=>none
 | (true,.sl e t)::r=>fun
  | .usl z e' l::cs=>bif z&&Nat.beq e' e then match l.cast t with
   | some xs=>(LV r cs).map (fun q=>Ty.mk2 _ xs q)
   | none=>none
   else none
  | _=>none
 | (true,.sln e t)::r=>fun
  | .usl z e' l::cs=>bif !z&&Nat.beq e' e then match l.cast t with
   | some xs=>(LV r cs).map (fun q=>Ty.mk2 _ xs q)
   | none=>none
   else none
  | _=>none
 | (false,.sln _ t)::r=>fun
  | .sln l::cs=>match l.cast t with
   | some xs=>(LV r cs).map (fun q=>Ty.mk2 _ xs q)
   | none=>none
  | _=>none
 | (_,.ptr)::r=>fun
  | .MP::cs=>(LV r cs).map (fun q=>q)
  | _=>none
 | (_,.fn)::r=>fun
  | .fn n::cs=>(LV r cs).map (fun q=>Ty.mk2 _ n q)
  | _=>none
 | (_,.mp kt vt)::r=>fun
  | .ump l::cs=>match l.cast kt vt with
   | some xs=>(LV r cs).map (fun q=>Ty.mk2 _ xs q)
   | none=>none
  | _=>none
 | (true,.bx t)::r=>fun
  | .box ds::cs=>bif (t.mk (ds.map A.weak)).1&&ds.all A.AtJ then(LV r cs).map (fun q=>Ty.mk2 _ [(t.mk (ds.map A.weak)).2] q)else none
  | _=>none
 | (false,.bx _)::_=>fun _=>none
 | (_,.oth)::_=>fun _=>none
def NV:(ks:List (Bool×CK))->(tyl (ks.map (·.2))).Val->List A
 | [],_=>[]
 | (_,.bool)::r,v=>.bool (Ty.hd _ v)::NV r (Ty.tl _ v)
 | (_,.int k)::r,v=>.int k (Ty.hd _ v)::NV r (Ty.tl _ v)
 | (_,.str)::r,v=>.str (Ty.hd _ v)::NV r (Ty.tl _ v)
 | (false,.sl _ t)::r,v=>.sl ⟨t,Ty.hd _ v⟩::NV r (Ty.tl _ v)
 | (true,.sl e t)::r,v=>.usl true e ⟨t,Ty.hd _ v⟩::NV r (Ty.tl _ v)
 | (true,.sln e t)::r,v=>.usl false e ⟨t,Ty.hd _ v⟩::NV r (Ty.tl _ v)
 | (false,.sln _ t)::r,v=>.sln ⟨t,Ty.hd _ v⟩::NV r (Ty.tl _ v)
 | (_,.ptr)::r,v=>.MP::NV r v
 | (_,.fn)::r,v=>.fn (Ty.hd _ v)::NV r (Ty.tl _ v)
 | (_,.mp kt vt)::r,v=>.ump ⟨kt,vt,Ty.hd _ v⟩::NV r (Ty.tl _ v)
 | (true,.bx t)::r,v=>.box ((t.cells ((Ty.hd _ v).headD t.zero)).map A.strong)::NV r (Ty.tl _ v)
 | (false,.bx _)::_,_=>[]
 | (_,.oth)::_,_=>[]
def Ar5: ∀(ds:List A),ds.all A.AtJ=true->(ds.map A.weak).map A.strong=ds:=by
 intro ds
 induction ds with
 | nil=>intro _;rfl
 | cons d ds ih =>intro h;rw[List.all_cons,Dv]at h;rw[Ej,Ej,ih h.2];congr 1;cases d<;>first | rfl | cases h.1
def rJ: ∀(ks:List (Bool×CK)) (cs:List A) (v:(tyl (ks.map (·.2))).Val),LV ks cs=some v->cs=NV ks v:=by
 intro ks
 induction ks with
 | nil =>
  intro cs v h;cases cs with
  | nil=>rfl
  | cons _ _=>cases h
 | cons k ks ih =>
  intro cs v h;obtain⟨u,k⟩:=k;have none': ∀ {α :Type} {x: α},(none:Option α)=some x->False:=fun h=>by cases h
  cases k with
  | bool =>
   simp only[LV]at h;split at h
   .rename_i b cs;cases hd:LV ks cs with
    | none=>rw[hd]at h;cases h
    | some q =>rw[hd]at h;injection h with h;subst h;simp only[NV,Ty.Qo,Ty.Qy];rw[<- ih cs q hd]
   .exact(none' h).elim
  | int k =>
   simp only[LV]at h;split at h
   .rename_i j n cs;cases hk:A.kEq j k with
    | false=>rw[hk]at h;exact(none' h).elim
    | true =>
     rw[hk]at h;cases hd:LV ks cs with
     | none=>rw[hd]at h;cases h
     | some q =>rw[hd]at h;injection h with h;subst h;simp only[NV,Ty.Qo,Ty.Qy];rw[<- ih cs q hd,A.Si hk]
   .exact(none' h).elim
  | str =>
   simp only[LV]at h;split at h
   .rename_i b cs;cases hd:LV ks cs with
    | none=>rw[hd]at h;cases h
    | some q =>rw[hd]at h;injection h with h;subst h;simp only[NV,Ty.Qo,Ty.Qy];rw[<- ih cs q hd]
   .exact(none' h).elim
  | sl e t =>
   cases u with
   | false =>
    simp only[LV]at h;split at h
    .rename_i l cs;cases hc:l.cast t with
     | none=>rw[hc]at h;exact(none' h).elim
     | some xs =>
      rw[hc]at h;dsimp only at h;cases hd:LV ks cs with
      | none=>rw[hd]at h;cases h
      | some q =>rw[hd]at h;injection h with h;subst h;simp only[NV,Ty.Qo,Ty.Qy];rw[<- ih cs q hd,Sl.Rl hc]
    .exact(none' h).elim
   | true =>
    simp only[LV]at h;split at h
    .rename_i z e' l cs;cases he:z&&Nat.beq e' e with
     | false=>rw[he]at h;exact(none' h).elim
     | true =>
      rw[he]at h;dsimp only[cond_true]at h;cases hc:l.cast t with
      | none=>rw[hc]at h;exact(none' h).elim
      | some xs =>
       rw[hc]at h;dsimp only at h;cases hd:LV ks cs with
       | none=>rw[hd]at h;cases h
       | some q =>rw[hd]at h;injection h with h;subst h;simp only[NV,Ty.Qo,Ty.Qy];rw[Dv]at he;rw[<- ih cs q hd,Sl.Rl hc,D5 he.2,he.1]
    .exact(none' h).elim
  | ptr =>
   simp only[LV]at h;split at h
   .rename_i cs;cases hd:LV ks cs with
    | none=>rw[hd]at h;cases h
    | some q =>rw[hd]at h;injection h with h;subst h;simp only[NV];rw[<- ih cs _ hd]
   .exact(none' h).elim
  | fn =>
   simp only[LV]at h;split at h
   .rename_i b cs;cases hd:LV ks cs with
    | none=>rw[hd]at h;cases h
    | some q =>rw[hd]at h;injection h with h;subst h;simp only[NV,Ty.Qo,Ty.Qy];rw[<- ih cs q hd]
   .exact(none' h).elim
  | sln e t =>
   cases u with
   | false =>
    simp only[LV]at h;split at h
    .rename_i l cs;cases hc:l.cast t with
     | none=>rw[hc]at h;exact(none' h).elim
     | some xs =>
      rw[hc]at h;dsimp only at h;cases hd:LV ks cs with
      | none=>rw[hd]at h;cases h
      | some q =>rw[hd]at h;injection h with h;subst h;simp only[NV,Ty.Qo,Ty.Qy];rw[<- ih cs q hd,Sl.Rl hc]
    .exact(none' h).elim
   | true =>
    simp only[LV]at h;split at h
    .rename_i z e' l cs;cases he: !z&&Nat.beq e' e with
     | false=>rw[he]at h;exact(none' h).elim
     | true =>
      rw[he]at h;dsimp only[cond_true]at h;cases hc:l.cast t with
      | none=>rw[hc]at h;exact(none' h).elim
      | some xs =>
       rw[hc]at h;dsimp only at h;cases hd:LV ks cs with
       | none=>rw[hd]at h;cases h
       | some q =>rw[hd]at h;injection h with h;subst h;simp only[NV,Ty.Qo,Ty.Qy];rw[Dv]at he;rw[<- ih cs q hd,Sl.Rl hc,D5 he.2,show z=false from by simpa using he.1]
    .exact(none' h).elim
  | mp kt vt =>
   simp only[LV]at h;split at h
   .rename_i l cs;cases hc:l.cast kt vt with
    | none=>rw[hc]at h;exact(none' h).elim
    | some xs =>
     rw[hc]at h;dsimp only at h;cases hd:LV ks cs with
     | none=>rw[hd]at h;cases h
     | some q =>rw[hd]at h;injection h with h;subst h;simp only[NV,Ty.Qo,Ty.Qy];rw[<- ih cs q hd,Mp.Rl hc]
   .exact(none' h).elim
  | bx t =>
   cases u with
   | false=>simp only[LV]at h;exact(none' h).elim
   | true =>
    simp only[LV]at h;split at h
    .rename_i ds cs;cases hk:(t.mk (ds.map A.weak)).1&&ds.all A.AtJ with
     | false=>rw[hk]at h;exact(none' h).elim
     | true =>
      rw[hk]at h;rw[Dv]at hk;cases hd:LV ks cs with
      | none=>rw[hd]at h;cases h
      | some q =>rw[hd]at h;injection h with h;subst h;simp only[NV,Ty.Qo,Ty.Qy];rw[<- ih cs q hd];congr 2;show _=(t.cells (t.mk (ds.map A.weak)).2).map A.strong;rw[Ty.V7 _ _ hk.1,Ar5 _ hk.2]
    .exact(none' h).elim
  | oth=>simp only[LV]at h;exact(none' h).elim
def Sh.ks:Sh->List (Bool×CK)
 | .cell u k=>[(u,k)]
 | .agg ks=>ks
 | .box ks=>ks
 | .clo _ ks=>ks
 | .map kt vt=>[(true,.mp kt vt)]
def Sh.T (s:Sh):Type:=(tyl (s.ks.map (·.2))).Val
def Sh.dec:(s:Sh)->A->Option s.T
 | .cell u k,x=>LV [(u,k)] [x]
 | .agg ks,.agg cs=>LV ks cs
 | .box ks,.box cs=>LV ks cs
 | .clo f ks,.cbx g cs=>bif Nat.beq f g then LV ks cs else none
 | .map kt vt,x=>LV [(true,.mp kt vt)] [x]
 | _,_=>none
def Sh.enc:(s:Sh)->s.T->A
 | .cell u k,v=>(NV [(u,k)] v).getD 0 .undef
 | .agg ks,v=>.agg (NV ks v)
 | .box ks,v=>.box (NV ks v)
 | .clo f ks,v=>.cbx f (NV ks v)
 | .map kt vt,v=>(NV [(true,.mp kt vt)] v).getD 0 .undef
def Sh.AyO {s:Sh} {x:A} {v:s.T} (h:s.dec x=some v):x=s.enc v:=by
 cases s with
 | cell u k =>have:=rJ _ _ _ (show LV [(u,k)] [x]=some v from h);show x=(NV [(u,k)] v).getD 0 .undef;rw[<- this];rfl
 | agg ks =>
  cases x with
  | agg cs =>have:=rJ _ _ _ (show LV ks cs=some v from h);show _=A.agg (NV ks v);rw[<- this]
  | _=>cases h
 | box ks =>
  cases x with
  | box cs =>have:=rJ _ _ _ (show LV ks cs=some v from h);show _=A.box (NV ks v);rw[<- this]
  | _=>cases h
 | clo f ks =>
  cases x with
  | cbx g cs =>
   have h:(bif Nat.beq f g then LV ks cs else none)=some v:=h;cases hb:Nat.beq f g with
   | false=>rw[hb]at h;cases h
   | true =>rw[hb]at h;have:=rJ _ _ _ (show LV ks cs=some v from h);show _=A.cbx f (NV ks v);rw[<- this,D5 hb]
  | _=>cases h
 | map kt vt =>have:=rJ _ _ _ (show LV [(true,.mp kt vt)] [x]=some v from h);show x=(NV [(true,.mp kt vt)] v).getD 0 .undef;rw[<- this];rfl
def prS (s:Sh) (β :Type):List Sh->Type
 | []=>s.T
 | _::_=>s.T× β
def ShT:List Sh->Type
 | []=>Unit
 | s::r=>prS s (ShT r) r
def hdS (s:Sh):(r:List Sh)->prS s (ShT r) r->s.T
 | [],v=>v
 | _::_,v=>v.1
def tlS (s:Sh):(r:List Sh)->prS s (ShT r) r->ShT r
 | [],_=>()
 | _::_,v=>v.2
def mkS (s:Sh):(r:List Sh)->s.T->ShT r->prS s (ShT r) r
 | [],a,_=>a
 | _::_,a,b=>(a,b)
def A0f (s:Sh) (r:List Sh) (a:s.T) (b:ShT r):hdS s r (mkS s r a b)=a:=by cases r<;>rfl
def A0D (s:Sh) (r:List Sh) (a:s.T) (b:ShT r):tlS s r (mkS s r a b)=b:=by cases r<;>rfl
def Aof (s:Sh) (r:List Sh):Option s.T->Option (ShT r)->Option (prS s (ShT r) r)
 | some a,some b=>some (mkS s r a b)
 | _,_=>none
def AsB {s:Sh} {r:List Sh} {x:Option s.T} {y:Option (ShT r)} {v:prS s (ShT r) r} (h:Aof s r x y=some v): ∃ a b,x=some a/\y=some b/\v=mkS s r a b:=by
 cases x with
 | none=>cases h
 | some a =>
  cases y with
  | none=>cases h
  | some b=>grind[Sh,ShT,prS,Aof,mkS]
def gW:(ss:List Sh)->List A->Option (ShT ss)
 | []=>fun
  | []=>some ()
  | _=>none
 | s::r=>fun
  | []=>none
  | x::xs=>Aof s r (s.dec x) (gW r xs)
def encs:(ss:List Sh)->ShT ss->List A
 | [],_=>[]
 | s::r,v=>s.enc (hdS s r v)::encs r (tlS s r v)
theorem AoW: ∀(ss:List Sh) (xs:List A) (v:ShT ss),gW ss xs=some v->xs=encs ss v:=by
 intro ss
 induction ss with
 | nil =>
  intro xs v h;cases xs with
  | nil=>rfl
  | cons _ _=>cases h
 | cons s ss ih =>
  intro xs v h;cases xs with
  | nil=>cases h
  | cons x xs =>obtain⟨a,b,h1,h2,h3⟩:=AsB (show Aof s ss (s.dec x) (gW ss xs)=some v from h);subst h3;show _=s.enc (hdS s ss (mkS s ss a b))::encs ss (tlS s ss (mkS s ss a b));rw[A0f,A0D,<- Sh.AyO h1,<- ih xs b h2]
def Sh.zero (s:Sh):s.T:=Ty.zero _
def zeroS:(ss:List Sh)->ShT ss
 | []=>()
 | s::r=>mkS s r s.zero (zeroS r)
def Ns (Jz JI:List Sh):List Sh:=JI++Jz.filterMap (fun | .box ks=>some (.agg ks) | .clo _ ks=>some (.agg ks) | .map kt vt=>some (.map kt vt) | _=>none)
def Sig.of (Jz JI:List Sh) (f:ShT Jz->Option (ShT (Ns Jz JI))):Sig where
 Jz:=Jz
 JI:=JI
 ok xs:=match gW Jz xs with
  | some a=>(f a).isSome
  | none=>false
 val xs:=match gW Jz xs with
  | some a=>encs (Ns Jz JI) ((f a).getD (zeroS _))
  | none=>[]
def AbU (Jz JI:List Sh):List (Nat×(ShT Jz->Option (ShT (Ns Jz JI))))->Nat->ShT Jz->Option (ShT (Ns Jz JI))
 | [],_,_=>none
 | (f,g)::r,n,x=>bif Nat.beq n (f+1)then g x else AbU Jz JI r n x
def Aem (P:Program) (Jz JI:List Sh):List (Nat×(ShT Jz->Option (ShT (Ns Jz JI))))->Prop
 | []=>True
 | (f,g)::r=>Spec P f (Sig.of Jz JI g)/\Aem P Jz JI r
theorem Avi (Jz JI:List Sh): ∀(l:List (Nat×(ShT Jz->Option (ShT (Ns Jz JI))))) (x:ShT Jz),AbU Jz JI l 0 x=none:=by
 intro l
 induction l with
 | nil=>intro x;rfl
 | cons p r ih=>intro x;obtain⟨f,g⟩:=p;simp only[AbU];exact ih x
def Avh {Jz JI:List Sh}: ∀ {l:List (Nat×(ShT Jz->Option (ShT (Ns Jz JI))))},Aem P Jz JI l-> ∀ f,(∀ x,AbU Jz JI l (f+1) x=none)\/Spec P f (Sig.of Jz JI (AbU Jz JI l (f+1))):=by
 intro l
 induction l with
 | nil=>intro _ f;exact .inl fun x=>rfl
 | cons p r ih=>grind[AbU,Zx,Sh,ShT,Ns,Aem,Spec,Sig.of]
def qB {Jz JI:List Sh} {l:List (Nat×(ShT Jz->Option (ShT (Ns Jz JI))))} (h:Aem P Jz JI l):aI P (fun n=>Sig.of Jz JI (AbU Jz JI l n)):=by
 refine⟨fun xs=> ?_,fun f xs hok=> ?_⟩
 .show(match gW Jz xs with | some a=>(AbU Jz JI l 0 a).isSome | none=>false)=false;cases gW Jz xs with
  | none=>rfl
  | some a=>grind[Avi]
 .rcases Avh h f with h0 | h0
  .have hok':(match gW Jz xs with | some a=>(AbU Jz JI l (f+1) a).isSome | none=>false)=true:=hok;cases hd:gW Jz xs with
   | none=>rw[hd]at hok';cases hok'
   | some a=>simp_all[hd,Sh,ShT,Ns,Aem,aI,Sig.of]
  .exact h0
def Sig.AaR {Jz JI:List Sh} {f:ShT Jz->Option (ShT (Ns Jz JI))} {xs rs:List A} (h:(Sig.of Jz JI f).F xs=some rs): ∃ a o,xs=encs Jz a/\f a=some o/\rs=encs _ o:=by
 unfold Sig.F Sig.of at h;dsimp only at h;cases hd:gW Jz xs with
 | none=>rw[hd]at h;cases h
 | some a =>
  rw[hd]at h;dsimp only at h;cases hf:f a with
  | none=>rw[hf]at h;cases h
  | some o =>rw[hf]at h;injection h with h;exact⟨a,o,AoW _ _ _ hd,hf,h.symm⟩
def iC (C:Ctx) (Jz JI:List Sh) (outs:List (Nat×Option Nat)) (st:St):Option (ShT (Ns Jz JI)) :=
 allT ((JP st.Jr JI (PN C outs st)).1++(JP st.Jr (Jz.map QA) (QB Jz 0)).1 ++
  [nodup ((Oj st.Jr 256000 256 JI (PN C outs st)++Oj st.Jr 0 256 (Jz.map QA) (QB Jz 0)).map (·.1)),!(JI.any wS||(Jz.map QA).any wS)||((JP st.Jr JI (PN C outs st)).2.2.1.isEmpty&&(JP st.Jr (Jz.map QA) (QB Jz 0)).2.2.1.isEmpty)]++outs.flatMap (fun q=>(Aiw C st q).1))
  (gW _ ((JP st.Jr JI (PN C outs st)).2.1++(LG Jz 0).map (fun i=>unbox ((JP st.Jr (Jz.map QA) (QB Jz 0)).2.1.getD i .undef))))
theorem AyC {α β :Type} {l:List Bool} {x:Option α} {y: α} (h:allT l x=some y) (z: β):allT l (some z)=some z:=by
 induction l with
 | nil=>rfl
 | cons c cs ih=>grind[allT]
def Avu {C:Ctx} {Jz JI:List Sh} {outs:List (Nat×Option Nat)} {st:St} {o:ShT (Ns Jz JI)} (h:iC C Jz JI outs st=some o):finish C Jz JI outs st=some (encs _ o):=by unfold iC at h;obtain⟨_,h2⟩:=WZ h;all_goals grind[AoW,finish,AyC]
def runT (C:Ctx) (N:Nat) (Jz JI:List Sh) (n:Nat) (outs:List (Nat×Option Nat)) (code:Code) (a:ShT Jz):Option (ShT (Ns Jz JI)) :=
 runK C N Jz n code (iC C Jz JI outs) (encs Jz a)
def dY {ρ :Type} {fin:St->Option ρ} (hC:OD P C) (N:Nat) {f:FuncId} {fn:Func} {code:Code} {outs:List (Nat×Option Nat)} {Jz JI:List Sh} {g:ShT Jz->Option (ShT (Ns Jz JI))} (hf:P.funcs[f]? =some fn) (hb:fn.body=some code) (hn:(fn.name== "runtime.NumGoroutine")=false)
 (hout:fn.results=(outs.map rv).toArray) (hF: ∀ a o,g a=some o-> ∃ r,runK C N Jz fn.ntmps code fin (encs Jz a)=some r/\ ∀ st,fin st=some r->iC C Jz JI outs st=some o):Spec P f (Sig.of Jz JI g) :=
 ⟨enters hf (by rw[hb];rfl) hn,fun _ _ _ xs rs hI hv hl h100 hx hrs=>by obtain⟨a,o,h1,h2,h3⟩:=Sig.AaR hrs;subst h1;subst h3;obtain⟨r,h4,h5⟩:=hF a o h2;exact Awi (sg:=Sig.of Jz JI g) (o:=r) hC N (fun {_} hC' {_ _ _ _ _ _} id ops _ _ _ _ _ K hS hd hx=>AsX hC' id ops K hS hd hx) hf hb hout hI hv hl h100 hx h4 (fun st h=>Avu (h5 st h))⟩
end
end Go.Proofs.YtakmjgnpefmjhaaGreatDoor.Vm
