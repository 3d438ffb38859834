import Derived.Test.YtacidcemomccpaaGreatDoorA6
import Derived.Tactics
import Derived.Scope
import Derived.LoopN
import Derived.Orders
set_option linter.all false
namespace Go.Proofs.YtacidcemomccpaaGreatDoor.Vm
open Classical
def Aad {o1 o2:Oper} {c:Clo} (h:AdG o1 o2=some c):c.o=o1/\c.q=o2/\o1.guard=none/\o2.guard=none/\o1.dst=some c.t/\o2.dst=some c.u/\o2.op= .makeFunc (.func c.f) #[.tmp c.t] #[]/\Asm o1.op=some c.b:=by
 unfold AdG at h;split at h
 .rename_i t u b f fi ca h1 h2 h3 h4 h5 h6;split at h
  .rename_i t' hf;cases hb:Nat.beq t' t with
   | false=>rw[hb]at h;cases h
   | true =>
    rw[hb]at h;injection h with h;subst h;have ht:=Dx hb;subst ht;refine⟨rfl,rfl,h1,h2,h3,h4,?_,h5⟩;unfold AvY at h6;split at h6
    .rename_i f' fi' ca' ho;injection h6 with h6;injection h6 with e1 e2;injection e2 with e2 e3;subst e1
     have e4:fi'= #[.tmp t']:=by
      have:fi'.toList=[.tmp t']:=by
       rw[e2];unfold Ar8 at hf;split at hf
       .rename_i x;injection hf with hf;rw[hf]
       .cases hf
      exact Ho.1 (by rw[this])
     have e5:ca'= #[]:=Ho.1 (by rw[e3]);rw[ho,e4,e5]
    .cases h6
  .cases h
 .cases h
def AwB: ∀(n:Nat) (l:List Oper),l.length<=n->l=((AdH l).1.flatMap λc=>[c.o,c.q])++(AdH l).2/\ ∀ c∈(AdH l).1,AdG c.o c.q=some c:=by
 intro n
 induction n with
 | zero =>
  intro l h;cases l with
  | nil=>exact⟨rfl,λc hc=>by cases hc⟩
  | cons o r=>simp at h
 | succ n ih =>
  intro l h
  match l,h with
  | [],_=>exact⟨rfl,λc hc=>by cases hc⟩
  | [o],_=>exact⟨rfl,λc hc=>by cases hc⟩
  | o1::o2::r,h =>
   simp only[AdH];cases hc:AdG o1 o2 with
   | none=>exact⟨rfl,λc hc=>by cases hc⟩
   | some c =>
    obtain⟨g1,g2⟩:=ih r (by simp at h;omega);obtain⟨e1,e2,_⟩:=Aad hc;refine⟨?_,λc' hc'=> ?_⟩
    .dsimp only;rw[Fq,e1,e2];exact congrArg (λx=>o1::o2::x) g1
    .rcases D7.1 hc' with rfl | hc'
     .rw[e1,e2];exact hc
     .exact g2 c' hc'
def uH {cs:List Clo} {q o:Oper} {r:List Oper} {e:Each} (h:Ak0 cs q o r=some e):e.cs=cs/\e.q=q/\e.o=o/\e.rest=r/\q.guard=none/\o.guard=none/\q.dst=some e.v /\
 (∃ ps:Array (Nat×Operand),q.op= .buildSlice e.ty cs.length ps/\Aer ps.toList cs 0=true)/\(∃ ts,o.op= .call ⟨.value (.func e.e),#[.tmp e.v],ts⟩)/\nodup (e.v::P7 cs)=true:=by
 unfold Ak0 at h;split at h
 .rename_i v t n ps f args h1 h2 h3 h4 h5;split at h
  .rename_i v' hv;cases hb:(Nat.beq v' v&&Nat.beq n cs.length&&Aer ps cs 0&&nodup (v::P7 cs))with
   | false=>rw[hb]at h;cases h
   | true =>
    rw[hb]at h;injection h with h;subst h;simp only[Dw]at hb;obtain⟨⟨⟨b1,b2⟩,b3⟩,b4⟩:=hb;have b1:=Dx b1;have b2:=Dx b2;subst b1;refine⟨rfl,rfl,rfl,rfl,h1,h2,h3,?_,?_,b4⟩
    .unfold Apj at h4;split at h4
     .rename_i t' n' ps' ho;injection h4 with h4;injection h4 with e1 e2;injection e2 with e2 e3;subst e1;subst e2;exact⟨ps',by rw[ho,b2],by rw[e3];exact b3⟩
     .cases h4
    .unfold Asi at h5;split at h5
     .rename_i f' args' ts ho;injection h5 with h5;injection h5 with e1 e2;subst e1;refine⟨ts,?_⟩
      have:args'= #[.tmp v']:=Ho.1 (by
       rw[e2];unfold Ar8 at hv;split at hv
       .rename_i x;injection hv with hv;rw[hv]
       .cases hv)
      rw[ho,this]
     .cases h5
  .cases h
 .cases h
def AcZ {l:List Oper} {e:Each} (h:jJ l=some e):l=(e.cs.flatMap λc=>[c.o,c.q])++e.q::e.o::e.rest/\(∀ c∈e.cs,AdG c.o c.q=some c)/\Ak0 e.cs e.q e.o e.rest=some e/\e.cs≠ []:=by
 unfold jJ at h;obtain⟨h1,h2⟩:=AwB l.length l (DD _);split at h
 .rename_i c cs q o r hc;obtain⟨e1,e2,e3,e4,_⟩:=uH h;rw[hc]at h1 h2;rw[e1,e2,e3,e4];exact⟨h1,h2,h,λh'=>by cases h'⟩
 .cases h
section
variable {P:Program} {C:Ctx} {V0:Nat->Value} {O0 O:Own} {w0 w:World} {m:Nat->Value} {st:St} {a:Act}
def Sim.MH (hS:Sim V0 O0 w0 O m st a w) (t:Nat) (v:Value):Sim V0 O0 w0 O m (MH t st) (a.put (some t) v) w:=hS.put (some t) (x:=.undef) trivial
def Akg {ρ :Type} (hC:MX P C) {ops:Array Oper} {Q:Exit->Act->World->Prop} {v: ρ} {K:St->Option ρ} {l:List Oper}: ∀(cs:List Clo) {st:St} {a:Act},(∀ c∈cs,AdG c.o c.q=some c)->nodup (P7 cs)=true->Sim V0 O0 w0 O m st a w->iJ C cs st K=some v ->
 (∀ st' a',Sim V0 O0 w0 O m st' a' w->K st'=some v->(∀ c∈cs,c.t<a'.tmps.size/\c.u<a'.tmps.size/\a'.tmps.getD c.u undef= .func (.func c.f) #[a'.tmps.getD c.t undef] #[])->(∀ t,t∉P7 cs->a'.tmps.getD t undef=a.tmps.getD t undef)->a'.tmps.size=a.tmps.size->wpList P ops Q l a' w) ->
 wpList P ops Q ((cs.flatMap λc=>[c.o,c.q])++l) a w:=by
 intro cs
 induction cs with
 | nil=>intro st a _ _ hS h hK;exact hK st a hS h (λc hc=>by cases hc) (λ_ _=>rfl) rfl
 | cons c cs ih =>
  intro st a hcs hnd hS h hK;obtain⟨_,_,g1,g2,g3,g4,g5,g6⟩:=Aad (hcs c Dy);obtain⟨hok,h⟩:=QJ h;obtain⟨hu,hok⟩:=hok.cons;obtain⟨ht,hok⟩:=hok.cons;rw[EF]at hu ht
  have hnd':c.t≠c.u/\c.t∉P7 cs/\c.u∉P7 cs/\nodup (P7 cs)=true:=by
   have h1:nodup (c.t::c.u::P7 cs)=true:=hnd;simp only[nodup,Dw,EH]at h1;obtain⟨h2,h3,h4⟩:=h1;refine⟨λe=> ?_,λe=> ?_,λe=> ?_,h4⟩
   .have:has (c.u::P7 cs) c.t=true:=NF.2 (by rw[e];exact Dy);rw[h2]at this;cases this
   .have:has (c.u::P7 cs) c.t=true:=NF.2 (Dz _ e);rw[h2]at this;cases this
   .have:has (P7 cs) c.u=true:=NF.2 e;rw[h3]at this;cases this
  have hp:Pure P O st.Jr m a w c.o (qJ C st c):=by
   unfold qJ at hok ⊢;split at hok
   .rename_i t s ho;exact Aa7 hC.T (λq x hq=>⟨hq,hS.Jr q x hq⟩) ho (jM hS (.tmp s)) hok
   .rename_i s ho;exact⟨⟨_,by simp [execOp,ho],jM hS (.tmp s)⟩,rfl,rfl,rfl⟩
   .exact(JJ hok).elim
  obtain⟨x,hr,hx⟩:=hp.run;have hS1:=hS.put (some c.t) hx;have hS2:=hS1.MH c.u (.func (.func c.f) #[x] #[]);have hsz:a.tmps.size=st.tmps.length:=hS.size;show wpList P ops Q (c.o::c.q::((cs.flatMap λc=>[c.o,c.q])++l)) a w;have w1: ∀(y:Oper) (a:Act),y.guard=none->Region.wanted y (yielded ops a.tmps)=true:=λy a hy=>by simp [Region.wanted,hy]
  refine wpList_step λk hk=> ?_;rw[Du (w1 _ _ g1)];unfold Oper.wp;rw[hr,Oper.upon_value,g3];refine hk _ _ (wpList_step λk hk=> ?_);rw[Du (w1 _ _ g2)];unfold Oper.wp;have e1:(a.put (some c.t) x).eval (.tmp c.t)=x:=by show(a.put (some c.t) x).tmps.getD c.t undef=x;rw[UY _ _ _ _ (by omega),Du rfl]
  have hr2:(execOp (a.put (some c.t) x).eval c.q).run P w= .ok (.value (.func (.func c.f) #[x] #[])) w:=by simp [execOp,g5,Instr.makeFunc,e1]
  rw[hr2,Oper.upon_value,g4];refine hk _ _ (ih (λc' hc'=>hcs c' (Dz _ hc')) hnd'.2.2.2 hS2 h λst' a' hS' hK' hcs' hfr hz'=> ?_)
  have hsz': ∀ t,((a.put (some c.t) x).put (some c.u) (.func (.func c.f) #[x] #[])).tmps.getD t undef=if t=c.u/\t<a.tmps.size then .func (.func c.f) #[x] #[]else if t=c.t/\t<a.tmps.size then x else a.tmps.getD t undef:=by
   intro t;rcases Eh t a.tmps.size with hlt | hge
   .rw[UY _ _ _ _ (by rw[UZ];exact hlt),UY _ _ _ _ hlt];by_cases e:t=c.u
    .rw[Du (by rw[e]),Du ⟨e,hlt⟩]
    .rw[Dt (c:=some c.u=some t) (λh=>e (Fv h).symm),Dt (c:=t=c.u/\t<a.tmps.size) (λh=>e h.1)];by_cases e:t=c.t
     .rw[Du (by rw[e]),Du ⟨e,hlt⟩]
     .rw[Dt (c:=some c.t=some t) (λh=>e (Fv h).symm),Dt (c:=t=c.t/\t<a.tmps.size) (λh=>e h.1)]
   .rw[A0g,A0g];have e3:((a.put (some c.t) x).put (some c.u) (.func (.func c.f) #[x] #[])).tmps.size=a.tmps.size:=by rw[UZ,UZ]
    rw[Dv,Ha (by omega),Dv,Ha (by omega)]
  have hz:a'.tmps.size=a.tmps.size:=by rw[hz',UZ,UZ]
  refine hK st' a' hS' hK' (λc' hc'=> ?_) (λt ht'=> ?_) hz
  .rcases D7.1 hc' with rfl | hc'
   .rw[hfr c'.u hnd'.2.2.1,hfr c'.t hnd'.2.1,hsz',hsz',Du ⟨rfl,by omega⟩,Dt (λh=>hnd'.1 h.1),Du ⟨rfl,by omega⟩];exact⟨by omega,by omega,rfl⟩
   .exact hcs' c' hc'
  .have h1:t∉c.t::c.u::P7 cs:=ht';simp only[D7,not_or]at h1;rw[hfr t h1.2.2,hsz',Dt (λh=>h1.2.1 h.1),Dt (λh=>h1.1 h.1)]
def Ayk {cl:Clo->Value} (hcl: ∀ c,(cl c).cells= #[cl c]): ∀(ps:List (Nat×Operand)) (cs:List Clo) (i0:Nat) (z:Array Value),Aer ps cs i0=true->(∀ c∈cs,a.tmps.getD c.u undef=cl c)->i0+cs.length<=z.size ->
 ∃ r,Instr.fill (λi=>some (i*1,1)) z (ps.map λp=>(p.1,a.eval p.2))=some r/\r.size=z.size/\(∀ j c,cs[j]? =some c->r[i0+j]? =some (cl c))/\ ∀ j,j<i0->r[j]? =z[j]? :=by
 intro ps
 induction ps with
 | nil =>
  intro cs i0 z h _ _;cases cs with
  | nil=>exact⟨z,rfl,rfl,λj c h=>by simp at h,λ_ _=>rfl⟩
  | cons c cs=>cases h
 | cons p ps ih =>
  intro cs i0 z h hc hz;obtain⟨k,x⟩:=p;cases cs with
  | nil=>cases h
  | cons c cs =>
   simp only[Aer]at h;cases x with
   | tmp u =>
    simp only[Dw]at h;obtain⟨⟨h1,h2⟩,h3⟩:=h;have h1:=Dx h1;have h2:=Dx h2;subst h1;subst h2;have e1:a.eval (.tmp c.u)=cl c:=hc c Dy;rw[List.length_cons]at hz;obtain⟨r,r1,r2,r3,r4⟩:=ih cs (k+1) (z.setIfInBounds k (cl c)) h3 (λc' hc'=>hc c' (Dz _ hc')) (by rw[Io];omega);refine⟨r,?_,by rw[r2,Io],λj c' hj=> ?_,λj hj=> ?_⟩
    .rw[Em,e1];unfold Instr.fill;have hs:(cl c).cells.size=1:=by rw[hcl];rfl
     have hf: ¬((cl c).cells.size≠1\/k*1+(cl c).cells.size>z.size):=by rw[hs];omega
     simp only[Ef,D6];rw[Dt hf,hcl];have:(#[cl c]:Array Value).zipIdx.foldl (λcs (c,j)=>cs.setIfInBounds (k*1+j) c) z=z.setIfInBounds k (cl c):=by simp
     rw[this];exact r1
    .cases j with
     | zero =>simp at hj;subst hj;rw[Nat.add_zero,r4 k (by omega),Array.getElem?_setIfInBounds_self_of_lt (by omega)]
     | succ j =>have:=r3 j c' (by simpa using hj);rw[show k+(j+1)=k+1+j by omega];exact this
    .rw[r4 j (by omega),Array.getElem?_setIfInBounds_ne (by omega)]
   | _=>cases h
def AsA {t:Nat} (h:Aqk C t=true): ∃ ti e te,C.T t=some ti/\ti.d= .slice e/\C.T e=some te/\te.cs.length=1:=by
 unfold Aqk at h;cases h1:C.T t with
 | none=>rw[h1]at h;cases h
 | some ti =>
  rw[h1]at h;dsimp only at h;cases h2:elem? ti.d with
  | none=>rw[h2]at h;cases h
  | some e =>
   rw[h2]at h;dsimp only at h;cases h3:C.T e with
   | none=>rw[h3]at h;cases h
   | some te =>
    rw[h3]at h;rw[Dw]at h;refine⟨ti,e,te,rfl,?_,h3,Dx h.1⟩;unfold elem? at h2;split at h2
    .rename_i e' he;injection h2 with h2;rw[he,h2]
    .cases h2
def Axk (hC:TOk P C) {t n:Nat} {ps:Array (Nat×Operand)} {q:Oper} {cs:List Clo} (hq:q.op= .buildSlice t n ps) (hn:n=cs.length) (h0:0<n) (h1000:n<=1000) (ht:Aqk C t=true) (hp:Aer ps.toList cs 0=true) {cl:Clo->Value} (hcl: ∀ c,(cl c).cells= #[cl c]) (hc: ∀ c∈cs,a.tmps.getD c.u undef=cl c) :
 ∃(r:Array Value) (e:Nat),(execOp a.eval q).run P w= .ok (.value (.slice (some (at' w.heap.size 0)) n n)) (w.alloc (.cells r e))/\ ∀(j:Nat) (c:Clo),cs[j]? =some c->r[j]? =some (cl c):=by
 obtain⟨ti,e,te,h1,h2,h3,h4⟩:=AsA ht;have hT:=hC.is h3;obtain⟨i,z,g1,g2,g3,g4,g5,g6⟩:=hT.i;have hu:=(hC.is h1).d;rw[h2]at hu;have hzs:(zeros z n).size=n:=by simp [zeros]
 obtain⟨r,r1,r2,r3,r4⟩:=Ayk hcl ps.toList cs 0 (zeros z n) hp hc (by rw[hzs];omega);refine⟨r,e,?_,λj c hj=>by have:=r3 j c hj;rwa [DV]at this⟩;have hbig: ¬(16777216<n*1):=by omega
 simp only[execOp,hq,DL,Instr.buildSlice,Ew hu,Result.andThen_ok,hT.OX,h4];rw[Dt (by simpa using hbig)];have h0': ¬ n*1=0:=by omega
 simp only[Dt h0',DL,Sem.run_pure,Result.andThen_ok,zeroValue,typeInfo,run_program,g1,g4];have hz0:(Array.range (n*1)).map (z.cells[· % z.cells.size]!)=zeros z n:=by rw[F6];rfl
 rw[hz0];have hm:(ps.map (fun(x:Nat×Operand)=>(x.1,a.eval x.2))).toList=ps.toList.map λp=>(p.1,a.eval p.2):=by simp
 rw[hm,r1];rfl
def Sim.AxD (hS:Sim V0 O0 w0 O m st a w) (x:Go.Obj) (t:Nat) (v:Value): ∃ O',Sim V0 O0 w0 O' m (Vm.MH t st) (a.put (some t) v) (w.alloc x)/\ ∀ k,O' w.heap.size k=none:=by
 refine⟨λb k=>if b<w.heap.size then O b k else none,?_,λk=>Dt (IZ _)⟩;have hM:Moves O (λ_=>False) w (w.alloc x):=⟨rfl,rfl,rfl,by simp,λb hb=>.inl (Array.getElem?_push_lt hb |>.trans (En hb).symm)⟩
 refine hS.next (T:=λ_=>False) (Nw:=λ_=>False) (x:=.undef) hM ⟨λb k hb h=>by rw[Du hb];exact h,λb k q hb h _=>by rw[Du hb];exact h⟩ (λb k hb h=>by rw[Du hb]at h;exact h) (λi y hy=>.inr ⟨y,hy,rfl,rfl⟩) (λ_ h=>h.elim) (λ_ h=>h.elim) (λo y hy=>.inl ⟨λh=>h,hy,rfl⟩) rfl (λ_=>trivial)
def AsQ {x r:Nat} {y:A} (h:AlP x r y=true):y= .agg [.ptr x 0,.ptr r 0]:=by
 unfold AlP at h;split at h
 .rw[Dw]at h;rw[Dx h.1,Dx h.2]
 .cases h
def AsR {r:Nat} {y:A} (h:AlQ r y=true):y= .ptr r 0:=by
 unfold AlQ at h;split at h
 .rw[Dx h]
 .cases h
def Am1 (hS:Sim V0 O0 w0 O m st a w) {x:Nat} (hb:(L8 st.Jr x).isSome=true) {v:Value} (h:JG O st.Jr m w v (.ptr x 0)):v=m x:=by obtain⟨cs,hc⟩:=EG.1 hb;have h2:=h.2;rw[Lj hc]at h2;obtain⟨b,base,h3,h4⟩:=h2;rw[h3,h4];rfl
def Axc (hS:Sim V0 O0 w0 O m st a w) {x r:Nat} (hx:(L8 st.Jr x).isSome=true) (hr:(L8 st.Jr r).isSome=true) {v:Value} (h:JC O st.Jr m w v (.agg [.ptr x 0,.ptr r 0])):v= .agg #[m x,m r]:=by
 obtain⟨vs,h1,h2,h3⟩:=h;have h2:vs.size=2:=h2;have e0:=Am1 hS hx (h3 0 (by simp));have e1:=Am1 hS hr (h3 1 (by simp));rw[h1];congr 1;apply FC (by simpa using h2);intro i h4 h5;have:i=0\/i=1:=by omega
 rcases this with rfl | rfl
 .have e:vs.getD 0 undef=vs[0]:=by simp [Dv,h2]
  rw[<- e];exact e0
 .have e:vs.getD 1 undef=vs[1]:=by simp [Dv,h2]
  rw[<- e];exact e1
def AqV {ρ :Type} (hC:MX P C) {ops:Array Oper} {Q:Exit->Act->World->Prop} {v: ρ} {K:St->Option ρ} (hK: ∀(l:List Oper) {O:Own} {m:Nat->Value} {st:St} {a:Act} {w:World},Sim V0 O0 w0 O m st a w->WU C ops.toList l st K=some v->wpList P ops Q l a w)
 (hS:Sim V0 O0 w0 O m st a w) (h:vT C ops.toList ops.toList st K=some v):wpList P ops Q ops.toList a w:=by
 unfold vT at h;cases he:jJ ops.toList with
 | none=>rw[he]at h;exact hK _ hS h
 | some e =>
  rw[he]at h;dsimp only at h;obtain⟨h1,h2,h3,h4⟩:=AcZ he;obtain⟨_,_,_,_,q1,q2,q3,⟨ps,q4,q5⟩,⟨ts,q6⟩,q7⟩:=uH h3;rw[h1];have hnd:(e.v∉P7 e.cs)/\nodup (P7 e.cs)=true:=by simp only[nodup,Dw,EH]at q7;refine⟨λhm=> ?_,q7.2⟩;have:=NF.2 hm;rw[q7.1]at this;cases this
  refine Akg hC e.cs h2 hnd.2 hS h λst1 a1 hS1 hk1 hcs _ _=> ?_;obtain⟨hok,hk1⟩:=QJ hk1;unfold AbU at hok hk1;cases hp:Atq ((MH e.v st1).tmps.getD (firstT e.cs) .undef)with
  | none=>rw[hp]at hok;exact(JJ hok).elim
  | some xr =>
   obtain⟨x,r⟩:=xr;rw[hp]at hok hk1;cases hg:C.each e.e (e.cs.map λc=>(c.f,c.b))with
   | none=>rw[hg]at hok;exact(JJ hok).elim
   | some sg =>
    rw[hg]at hok hk1;dsimp only at hok hk1;unfold Awa at hok hk1;dsimp only at hok hk1;obtain⟨f1,hok⟩:=hok.cons;obtain⟨f2,hok⟩:=hok.cons;obtain⟨f3,hok⟩:=hok.cons;obtain⟨f4,hok⟩:=hok.cons;obtain⟨f5,hok⟩:=hok.cons;obtain⟨f6,hok⟩:=hok.cons;obtain⟨f7,hok⟩:=hok.cons;obtain⟨hokA,hokB⟩:=hok.append;obtain⟨hB1,hB2⟩:=hokB.cons;have hB2:=hB2.cons.1;rw[EF]at f2;have f3:=DR f3;have f4:=Dx f4
    have hlen:0<e.cs.length:=by
     rcases Jj e.cs.length with h | h
     .exact absurd (Gt.1 h) h4
     .exact h
    have w1: ∀(y:Oper) (a:Act),y.guard=none->Region.wanted y (yielded ops a.tmps)=true:=λy a hy=>by simp [Region.wanted,hy]
    let cl:Clo->Value:=λc=>.func (.func c.f) #[a1.tmps.getD c.t undef] #[];obtain⟨row,ty,hrun,hrow⟩:=Axk (P:=P) (w:=w) hC.T q4 rfl hlen f3 f1 q5 (cl:=cl) (λ_=>rfl) (λc hc=>(hcs c hc).2.2);refine wpList_step λk hk=> ?_;rw[Du (w1 _ _ q1)];unfold Oper.wp;rw[hrun,Oper.upon_value,q3];refine hk _ _ ?_;obtain⟨O2,hS2,hO2⟩:=hS1.AxD (.cells row ty) e.v (.slice (some (at' w.heap.size 0)) e.cs.length e.cs.length);refine wpList_step λk hk=> ?_;rw[Du (w1 _ _ q2)];generalize hV:(Value.slice (some (at' w.heap.size 0)) e.cs.length e.cs.length)=V at hS2 ⊢
    have hev:(a1.put (some e.v) V).eval (.tmp e.v)=V:=by
     have hz:=hS1.size
     have:e.v<a1.tmps.size:=by
      rw[hz];have e1:(MH e.v st1).tmps.length=st1.tmps.length:=by simp [MH]
      omega
     show(a1.put (some e.v) V).tmps.getD e.v undef=V;rw[UY _ _ _ _ this,Du rfl]
    have hE:=hC.each _ _ _ hg;have hexec:(execOp (a1.put (some e.v) V).eval e.o).run P (w.alloc (.cells row ty))= .ok (.enter e.e #[V]) (w.alloc (.cells row ty)):=by simp only[execOp,q6,resolve,Deferred.ofValue,DL,Sem.run_pure,Result.andThen_ok,invoke,Act.eval];have:=hE.1 #[V] (w.alloc (.cells row ty));have hev':(a1.put (some e.v) V).tmps.getD e.v undef=V:=hev;simpa [hev',Act.eval]using this
    unfold Oper.wp;rw[hexec,Oper.upon_enter]
    have tied': ∀ c∈e.cs,a1.tmps.getD c.t undef=if c.b then .agg #[m x,m r]else m r:=by
     intro c hc;have hu:c.t≠e.v:=λh=>hnd.1 (by rw[<- h];exact Eg.2 ⟨c,hc,Dy⟩);have ht:=(DI.1 f5) c hc;have hlt:=(hcs c hc).1
     have hr1:=hS2.tmps c.t (by
      have e1:(MH e.v st1).tmps.length=st1.tmps.length:=by simp [MH]
      rw[e1,<- hS1.size];exact hlt)
     rw[UY _ _ _ _ hlt,Dt (λh=>hu (Fv h).symm)]at hr1;unfold tied at ht;cases hb:c.b with
     | true =>rw[hb]at ht;rw[AsQ ht]at hr1;exact Axc hS2 f6 f7 hr1
     | false =>rw[hb]at ht;rw[AsR ht]at hr1;exact Am1 hS2 f7 hr1
    have hx2: ∀ z,(L8 (MH e.v st1).Jr z).isSome=true->JC O2 (MH e.v st1).Jr m (w.alloc (.cells row ty)) (m z) (.ptr z 0):=by intro z hz;obtain⟨cs,hc⟩:=EG.1 hz;have ho:=hS2.Jr z _ (Lj hc);obtain⟨b,base,k1,_⟩:=ho;refine⟨by rw[k1];rfl,?_⟩;rw[Lj hc];exact⟨b,base,k1,by rw[k1];rfl⟩
    refine(Aik (o:=e.o) (X:=λR=>Calls P e.e #[V] (w.alloc (.cells row ty)) fun(en:Ending) w'=> ∃ v,en= .returned v/\R v w') (av:= #[m x,m r]) hS2 (λR O' xs rs hpr i1 i2 i3 i4 i5 i6 i7=> ?_) (ZT _ _) (by rfl) (λj hj=> ?_) hokA (λp hp=>(DI.1 hB1) p hp) hB2 (λv w'=>k ((a1.put (some e.v) V).put e.o.dst v) w') (λO' m' v w' hS'=>hk _ _ (hK _ hS' hk1))).mono (by rintro en w' ⟨v,rfl,h⟩;exact h)
    .have hl:(e.cs.map λc=>(c.f,c.b)).length=e.cs.length:=by simp
     have:=hE.2 O' (w.alloc (.cells row ty)) #[m x,m r] xs rs w.heap.size i1 i2 i3 i4 i5 (λi p hp=> ?_) i6
     .rw[hl,hV]at this;exact this.mono λen w' ⟨v,Of,h1,h2⟩=>⟨v,h1,i7 v Of w' h2⟩
     .rw[Ep]at hp;cases hc:e.cs[i]? with
      | none=>rw[hc]at hp;cases hp
      | some c =>
       rw[hc]at hp;injection hp with hp;subst hp;have hcell:(w.alloc (.cells row ty)).cell? (at' w.heap.size i)=some (cl c):=by simp [go_sem,hrow i c hc]
       refine⟨hpr _ _ _ (hO2 i) hcell,hcell.trans (congrArg some ?_)⟩;show Value.func (.func c.f) #[a1.tmps.getD c.t undef] #[]=Value.func (.func c.f) (Vu c.b #[m x,m r]) #[];rw[tied' c (FQ hc)];cases c.b<;>rfl
    .have:j=0\/j=1:=by simp at hj;omega
     rcases this with rfl | rfl
     .exact hx2 x f6
     .exact hx2 r f7
end
section
variable {P:Program} {C:Ctx} {V0:Nat->Value} {O0 O:Own} {w0 w:World} {m:Nat->Value} {st:St} {a:Act}
def Ap1 {C:Ctx} {o:Oper} {f:Nat} {q:Alt} (h:fD C o=some (f,q)):C.alt f=some q:=by
 unfold fD at h;split at h
 .rename_i g _ _ _ _;cases ha:C.alt g with
  | none=>rw[ha]at h;cases h
  | some q'=>simp_all[Alt,fD]
 .cases h
def Ato {ρ :Type} (hC:MX P C) {ops:Array Oper} {Q:Exit->Act->World->Prop} {v: ρ} {K:St->Option ρ} (hK: ∀ O' m' st' a' w',Sim V0 O0 w0 O' m' st' a' w'->K st'=some v->Q .normal a' w') :
 ∀(l:List Oper) {O:Own} {m:Nat->Value} {st:St} {a:Act} {w:World},Sim V0 O0 w0 O m st a w->WU C ops.toList l st K=some v->wpList P ops Q l a w:=by
 intro l
 induction l with
 | nil=>intro O m st a w hS h;exact hK _ _ _ _ _ hS h
 | cons o r ih =>
  intro O m st a w hS h;have one: ∀ C':Ctx,MX P C'->allT (KI C' ops.toList o st).ok (WU C ops.toList r (apply st o (KI C' ops.toList o st)) K)=some v->wpList P ops Q (o::r) a w:=by intro C' hC' h;obtain⟨h1,h2⟩:=QJ h;refine wpList_step λk hk=> ?_;exact Ags hC' hS h1 k Q λO' m' a' w' hS'=>hk _ _ (ih hS' h2)
  unfold WU at h;cases ha:fD C o with
  | none=>rw[ha]at h;exact one C hC h
  | some q =>
   obtain⟨f,q⟩:=q;rw[ha]at h;dsimp only at h;obtain⟨h1,h2⟩:=hC.alt f q (Ap1 ha);cases hb:Ag7 o st q with
   | true=>rw[hb]at h;exact one _ (hC.put h1) h
   | false=>rw[hb]at h;exact one _ (hC.put h2) h
def Post {ρ :Type} (V0:Nat->Value) (O0:Own) (w0:World) (fin:St->Option ρ) (K:Ex->St->Option ρ) (v: ρ):Exit->Act->World->Prop
 | .normal,a,w=> ∃ O m st,Sim V0 O0 w0 O m st a w/\K .normal st=some v
 | .exit id,a,w=> ∃ O m st,Sim V0 O0 w0 O m st a w/\K (.exit id) st=some v
 | .ret,a,w=> ∃ O m st,Sim V0 O0 w0 O m st a w/\fin st=some v
 | _,_,_=>False
def Asn (hS:Sim V0 O0 w0 O m st a w) {c:Operand} {t:Bool} (h:KZ st.tmps c= .bool t\/KZ st.tmps c= .cnd true (.bool t)):a.eval c= .bool t:=by
 have:=jM hS c;rcases h with h | h
 .rw[h]at this;exact this.bool
 .rw[h]at this;have h1:J5 O w (a.eval c) (.bool t):=this.1 rfl;generalize a.eval c=z at h1 ⊢;cases h1;rfl
def ApQ {ρ :Type} (hC:MX P C) (N:Nat) {fin:St->Option ρ} {v: ρ}
 (hdraw: ∀ {C:Ctx},MX P C-> ∀(id:Nat) (ops:Array Oper) {O:Own} {m:Nat->Value} {st:St} {a:Act} {w:World} (K:Ex->St->Option ρ),Sim V0 O0 w0 O m st a w->TN C ops.toList st=true->WV C ops.toList ops.toList st (λst'=>K .normal st')=some v ->
   (Code.region id ops true).wp P (Post V0 O0 w0 fin K v) a w) :
 ∀(c:Code) {O:Own} {m:Nat->Value} {st:St} {a:Act} {w:World} {K:Ex->St->Option ρ},Sim V0 O0 w0 O m st a w->exec C N fin c st K=some v->c.wp P (Post V0 O0 w0 fin K v) a w:=by
 intro c
 induction c with
 | skip=>intro O m st a w K hS h;exact wp_skip ⟨O,m,st,hS,h⟩
 | label l=>intro O m st a w K hS h;exact wp_label ⟨O,m,st,hS,h⟩
 | ret=>intro O m st a w K hS h;exact wp_ret ⟨O,m,st,hS,h⟩
 | exit id =>intro O m st a w K hS h;obtain⟨O',m',st',hS',h'⟩:=AaG hS (show UR C (4*id+3) st (λst'=>K (.exit id) st')=some v from h);exact wp_exit ⟨O',m',st',hS',h'⟩
 | region id ops d =>
  intro O m st a w K hS h;cases d with
  | false =>
   have key: ∀ C':Ctx,MX P C'->vT C' ops.toList ops.toList st (λst'=>K .normal st')=some v->(Code.region id ops false).wp P (Post V0 O0 w0 fin K v) a w:=λC' hC' h' =>
    wp_region_list (AqV hC' (λl=>Ato hC' (K:=λst'=>K .normal st') (λO' m' st' a' w' hS' h'=>⟨O',m',st',hS',h'⟩) l) hS h')
   rcases(gV (show split C id ops.toList st _=some v from h)).1 with h' | ⟨ds,b,h'⟩
   .exact key C hC h'
   .exact key _ (hC.decide ds b) h'
  | true =>
   have key: ∀ C':Ctx,MX P C'->(bif TN C' ops.toList st then WV C' ops.toList ops.toList st (λst'=>K .normal st')else none)=some v->(Code.region id ops true).wp P (Post V0 O0 w0 fin K v) a w:=by
    intro C' hC' h';cases hd:TN C' ops.toList st with
    | false=>rw[hd]at h';cases h'
    | true=>rw[hd]at h';exact hdraw hC' id ops K hS hd h'
   rcases(gV (show split C id ops.toList st _=some v from h)).1 with h' | ⟨ds,b,h'⟩
   .exact key C hC h'
   .exact key _ (hC.decide ds b) h'
 | seq x y ihx ihy =>
  intro O m st a w K hS h;refine wp_seq (Jp (ihx (K:=λ| .normal,st'=>meet C 1 y st' λst''=>exec C N fin y st'' K | .exit id,st'=>K (.exit id) st') hS h) λe a' w' hq=> ?_);cases e with
  | normal =>obtain⟨O1,m1,st1,hS1,h1⟩:=hq;obtain⟨O2,m2,st2,hS2,h2⟩:=vJ hS1 h1;exact ihy hS2 h2
  | exit id=>exact hq
  | ret=>exact hq
  | goto l=>exact hq
  | panic ch=>exact hq
  | outgrown=>exact hq
 | cond c x y ihx ihy =>
  intro O m st a w K hS h
  have key: ∀ t:Bool,(KZ st.tmps c= .bool t\/KZ st.tmps c= .cnd true (.bool t))->(bif t then exec C N fin x st K else exec C N fin y st K)=some v->(Code.cond c x y).wp P (Post V0 O0 w0 fin K v) a w:=by
   intro t ht h';refine wp_cond (Asn hS ht) ?_;cases t with
   | true=>exact ihx hS h'
   | false=>exact ihy hS h'
  simp only[exec]at h;cases he:KZ st.tmps c with
  | bool t=>rw[he]at h;exact key t (.inl he) h
  | cnd g y' =>
   rw[he]at h;cases y' with
   | bool t =>
    cases g with
    | false=>cases h
    | true=>exact key t (.inr he) h
   | _=>cases h
  | _=>rw[he]at h;cases h
 | block id c ih =>
  intro O m st a w K hS h;refine wp_block (Jp (ih (K:=λ| .exit j,st'=>bif Nat.beq j id then K .normal st' else K (.exit j) st' | .normal,st'=>K .normal st') hS h) λe a' w' hq=> ?_);cases e with
  | normal=>exact hq
  | exit j =>
   obtain⟨O1,m1,st1,hS1,h1⟩:=hq;dsimp only at h1;show if j=id then _ else _;rw[XB]at h1;by_cases hj:j=id
   .rw[Du hj];simp only[hj,Gv,cond_true]at h1;exact⟨O1,m1,st1,hS1,h1⟩
   .rw[Dt hj];rw[show decide (j=id)=false by simpa using hj]at h1;exact⟨O1,m1,st1,hS1,h1⟩
  | ret=>exact hq
  | goto l=>exact hq
  | panic ch=>exact hq
  | outgrown=>exact hq
 | loop c ih =>
  intro O m st a w K hS h;obtain⟨O1,m1,st1,hS1,h1⟩:=vJ hS (show meet C 2 c st (λst'=>rounds (meet C 2 c) (exec C N fin c) N st' K)=some v from h);refine wp_loop_rounds N ?_
  have key: ∀(n:Nat) {O:Own} {m:Nat->Value} {st:St} {a:Act} {w:World},Sim V0 O0 w0 O m st a w->rounds (meet C 2 c) (exec C N fin c) n st K=some v->Code.rounds P c (Post V0 O0 w0 fin K v) n a w:=by
   intro n
   induction n with
   | zero=>intro O m st a w _ h;cases h
   | succ n ihn =>
    intro O m st a w hS h;refine Jp (ih (K:=λ| .normal,st'=>meet C 2 c st' λst''=>rounds (meet C 2 c) (exec C N fin c) n st'' K | .exit id,st'=>K (.exit id) st') hS h) λe a' w' hq=> ?_;cases e with
    | normal =>obtain⟨O2,m2,st2,hS2,h2⟩:=hq;obtain⟨O3,m3,st3,hS3,h3⟩:=vJ hS2 h2;exact ihn hS3 h3
    | exit id=>exact hq
    | ret=>exact hq
    | goto l=>exact hq
    | panic ch=>exact hq
    | outgrown=>exact hq
  exact key N hS1 h1
 | scope c ih =>intro O m st a w K hS h;refine wp_scope_straight (Jp (ih hS (show exec C N fin c st K=some v from h)) λe a' w' hq=> ?_);cases e<;>first | exact hq | exact hq.elim
 | _=>intro O m st a w K hS h;cases h
end
def PT:Sh->Sh
 | .box ks=>.box ks
 | .map kt vt=>.map kt vt
 | .clo _ ks=>.box ks
 | _=>.cell false .bool
def Awl:Sh->Nat->A
 | .box _,i=>.ptr (256*i) 0
 | .map _ _,i=>.own (256*i)
 | .clo _ _,i=>.ptr (256*i) 0
 | _,_=>.bool true
def Qq:List Sh->Nat->List A
 | [],_=>[]
 | s::ss,i=>Awl s i::Qq ss (i+1)
def unbox:A->A
 | .box cs=>.agg cs
 | a=>a
def gZ (Jt:List Sh) (xs:List A) (n:Nat):St:= {tmps:=(KG 0 256 Jt xs 0).2.1++List.replicate (n - Jt.length) .undef,Jr:=JH [] (KG 0 256 Jt xs 0).2.2}
def Aeo (C:Ctx) (st:St) (q:Nat×Option Nat):List Bool×A :=
 match q.2 with
 | none=>([Nat.blt q.1 st.tmps.length],st.tmps.getD q.1 .undef)
 | some ty=>match Xr C st.Jr ty (st.tmps.getD q.1 .undef)with
  | δ =>(Nat.blt q.1 st.tmps.length:: δ.ok,δ.val)
def Pz (C:Ctx) (outs:List (Nat×Option Nat)) (st:St):List A:=outs.map (λq=>(Aeo C st q).2)
def finish (C:Ctx) (Jt J7:List Sh) (outs:List (Nat×Option Nat)) (st:St):Option (List A) :=
 allT ((JM st.Jr J7 (Pz C outs st)).1++(JM st.Jr (Jt.map PT) (Qq Jt 0)).1 ++
  [nodup ((NY st.Jr 256000 256 J7 (Pz C outs st)++NY st.Jr 0 256 (Jt.map PT) (Qq Jt 0)).map (·.1)),!(J7.any wS||(Jt.map PT).any wS)||((JM st.Jr J7 (Pz C outs st)).2.2.1.isEmpty&&(JM st.Jr (Jt.map PT) (Qq Jt 0)).2.2.1.isEmpty)]++outs.flatMap (λq=>(Aeo C st q).1))
  (some ((JM st.Jr J7 (Pz C outs st)).2.1++(Le Jt 0).map (λi=>unbox ((JM st.Jr (Jt.map PT) (Qq Jt 0)).2.1.getD i .undef))))
def runK {ρ :Type} (C:Ctx) (N:Nat) (Jt:List Sh) (n:Nat) (code:Code) (fin:St->Option ρ) (xs:List A):Option ρ :=
 allT ((KG 0 256 Jt xs 0).1++[nodup ((KG 0 256 Jt xs 0).2.2.map (·.1)),!(has ((KG 0 256 Jt xs 0).2.2.map (·.1)) 255)])
  (exec C N fin code (gZ Jt xs n) fun
    | .normal,st=>fin st
    | .exit _,_=>none)
section
variable {P:Program} {C:Ctx} {V0:Nat->Value} {O0 O:Own} {w0 w:World} {m:Nat->Value} {st:St} {a:Act}
def Wj {id:Nat}: ∀(ks:List (Bool×CK)) (cs:List A) (j0:Nat),∀ p∈(JP id ks cs j0).2.2,∃ x,p.1=id+x/\x<j0+ks.length:=by
 intro ks
 induction ks with
 | nil=>intro cs j0 p hp;simp [JP]at hp
 | cons k ks ih =>
  intro cs j0 p hp;have step:p∈(JP id ks cs (j0+1)).2.2-> ∃ x,p.1=id+x/\x<j0+(k::ks).length:=by intro h;obtain⟨x,h1,h2⟩:=ih cs (j0+1) p h;exact⟨x,h1,by simp only[List.length_cons];omega⟩
  obtain⟨u,k⟩:=k;cases u with
  | false=>exact step hp
  | true =>
   cases k with
   | sl e sz =>
    simp only[JP]at hp;rcases D7.1 hp with rfl | hp
    .exact⟨j0,rfl,by simp⟩
    .exact step hp
   | sln e sz =>
    simp only[JP]at hp;rcases D7.1 hp with rfl | hp
    .exact⟨j0,rfl,by simp⟩
    .exact step hp
   | bx t =>
    simp only[JP]at hp;rcases D7.1 hp with rfl | hp
    .exact⟨j0,rfl,by simp⟩
    .exact step hp
   | _=>simp [JP]at hp
theorem ArX {id:Nat} {s:Sh} {x:A} (hok:J6 (back id s x).1): ∀ p∈(back id s x).2.2,∃ i,p.1=id+i/\i<255:=by
 intro p hp;cases s with
 | cell u k =>obtain⟨i,h1,h2⟩:=Wj _ _ _ p hp;exact⟨i,h1,by simp at h2;omega⟩
 | agg ks =>simp only[back]at hok hp;have:=DR hok.cons.1;obtain⟨i,h1,h2⟩:=Wj _ _ _ p hp;exact⟨1+i,by omega,by omega⟩
 | box ks =>
  simp only[back]at hok hp;have:=DR hok.cons.1;rcases D7.1 hp with rfl | hp
  .exact⟨0,rfl,by omega⟩
  .obtain⟨i,h1,h2⟩:=Wj _ _ _ p hp;exact⟨1+i,by omega,by omega⟩
 | clo f' ks =>
  simp only[back]at hok hp;have:=DR hok.cons.1;rcases D7.1 hp with rfl | hp
  .exact⟨0,rfl,by omega⟩
  .obtain⟨i,h1,h2⟩:=Wj _ _ _ p hp;exact⟨1+i,by omega,by omega⟩
 | map kt vt=>simp_all[back,Sh,J6]
def Ap6 {f:Nat->Value}: ∀(ss:List Sh) (rs:List A) (j0:Nat),J6 (KG 0 256 ss rs j0).1-> ∀ p∈Yg w f 0 256 ss rs j0,p.2=N7 w (f (p.1 / 256)) (p.1 % 256):=by
 intro ss
 induction ss with
 | nil=>grind[Yg]
 | cons s ss ih =>intro rs j0 hok p hp;simp only[KG]at hok;obtain⟨h1,h2⟩:=hok.append;all_goals grind[Yg,ArX]
def Aiw {Jt:List Sh} {xs:List A} {n:Nat} {vs:Array Value} (hI:Inv O w) (hv:vs.size=xs.length) (hl:xs.length=Jt.length) (h: ∀ j,j<xs.length->IR O w (256*j) (vs.getD j undef) (xs.getD j .undef))
 (hok:J6 (KG 0 256 Jt xs 0).1) (hnd:nodup ((KG 0 256 Jt xs 0).2.2.map (·.1))=true) (h255:has ((KG 0 256 Jt xs 0).2.2.map (·.1)) 255=false) :
 Sim (λo=>innerS w (Jt.getD (o / 256) (.agg [])) (vs.getD (o / 256) undef)) O w O (λo=>N7 w (innerS w (Jt.getD (o / 256) (.agg [])) (vs.getD (o / 256) undef)) (o % 256)) (gZ Jt xs n) {tmps:=vs++Array.replicate (n - vs.size) undef,defers:=[]} w:=by
 have hmem: ∀ o x,J3 (JH [] (KG 0 256 Jt xs 0).2.2) o=some x->(o,x)∈(KG 0 256 Jt xs 0).2.2:=by
  intro o x hx;rcases fV _ (Adx hx)with h | h
  .exact h
  .cases h
 have hget: ∀ p∈(KG 0 256 Jt xs 0).2.2,J3 (JH [] (KG 0 256 Jt xs 0).2.2) p.1=some p.2:=λp hp=>sQ (Jr:=[]) (upd:=[]) (del:=[]) hnd (o:=p.1) (x:=p.2) hp
 obtain⟨r1,r2,r3⟩:=AeJ (Oc:=O) (O':=O) (w:=w) (objs':=JH [] (KG 0 256 Jt xs 0).2.2) (m':=λo=>N7 w (innerS w (Jt.getD (o / 256) (.agg [])) (vs.getD (o / 256) undef)) (o % 256)) (cid:=0) (cst:=256) (id:=0) (stride:=256) (f:=λj=>vs.getD j undef) (g:=λj=>innerS w (Jt.getD j (.agg [])) (vs.getD j undef)) (rs:=xs)
  (λ_ _ _ h hc=>⟨h,hc⟩) (λ_ _ h=>h) Jt 0 (λj _=>by rw[DV]) (λj hj=>by rw[DV,DV];exact h j (by rw[hl];exact hj)) (λj _ b k i _ hb=>hb) hok hget
  (λp hp=>(Ap6 Jt xs 0 hok p hp).symm)
 refine⟨rfl,?_,λt ht=> ?_,λo x hx=>r3 _ (hmem o x hx),Moves.refl O _ w,λb k o _ ho hne=>⟨o,ho,hne⟩,λo x hx e=> ?_,λb k _ h=>h,λo hr _=> ?_,λb k _ h=>h,hI⟩
 .simp [gZ,r1,hv,hl]
 .show JC O _ _ w (((vs++Array.replicate (n - vs.size) undef).getD t undef)) (((KG 0 256 Jt xs 0).2.1++List.replicate (n - Jt.length) A.undef).getD t .undef);rcases Eh t Jt.length with htl | htl
  .have e1:((KG 0 256 Jt xs 0).2.1++List.replicate (n - Jt.length) A.undef).getD t .undef=(KG 0 256 Jt xs 0).2.1.getD t .undef:=by
    simp [Dn,Ez,r1,htl]
   have e2:(vs++Array.replicate (n - vs.size) undef).getD t undef=vs.getD t undef:=by
    have:t<vs.size:=by rw[hv,hl];exact htl
    simp [Dv,EJ,this]
   rw[e1,e2];have:=(r2 t htl).1;rw[DV]at this;exact this
  .have e1:((KG 0 256 Jt xs 0).2.1++List.replicate (n - Jt.length) A.undef).getD t .undef= .undef:=by
    rw[Dn,EI (by rw[r1];exact htl),Iw];split<;>rfl
   rw[e1];trivial
 .subst e;have:=hmem _ x hx;have h':has ((KG 0 256 Jt xs 0).2.2.map (·.1)) 255=true:=NF.2 (DK.2 ⟨_,this,rfl⟩);rw[h']at h255;cases h255
 .unfold YO at hr;rw[Dw]at hr;have:=Dx hr.2;rw[this];rfl
def AlE {fet:Fet}: ∀(ss:List Sh) (xs:List A),J6 (JM fet ss xs).1-> ∀ i s,ss[i]? =some s->KE s=true->Ach (unbox ((JM fet ss xs).2.1.getD i .undef))=(JM fet ss xs).2.1.getD i .undef:=by
 intro ss
 induction ss with
 | nil=>intro xs _ i s h;simp at h
 | cons s ss ih =>
  intro xs hok i s' h hb;cases xs with
  | nil=>have:=hok false (by simp [JM]);cases this
  | cons x xs =>
   simp only[JM]at hok ⊢;obtain⟨h1,h2⟩:=hok.append;cases i with
   | zero =>
    simp at h;subst h;cases s with
    | cell _ _=>cases hb
    | agg _=>cases hb
    | map kt vt =>
     cases x with
     | own q =>
      unfold JY at h1 ⊢;dsimp only at h1 ⊢;cases hg:J3 fet q with
      | none=>rw[hg]at h1;have:=h1 false (by simp);cases this
      | some y =>
       cases y with
       | mp l=>rfl
       | _=>rw[hg]at h1;have:=h1 false (by simp);cases this
     | _=>have:=h1 false (by simp [JY]);cases this
    | box ks =>
     cases x with
     | ptr q off =>
      unfold JY at h1 ⊢;dsimp only at h1 ⊢;cases hb:L8 fet q with
      | none=>rw[hb]at h1;have:=h1 false (by simp);cases this
      | some cs=>rfl
     | _=>have:=h1 false (by simp [JY]);cases this
    | clo f' ks =>
     cases x with
     | clo g q =>
      unfold JY at h1 ⊢;dsimp only at h1 ⊢;cases hb:L8 fet q with
      | none=>rw[hb]at h1;have:=h1 false (by simp);cases this
      | some cs=>rfl
     | _=>have:=h1 false (by simp [JY]);cases this
   | succ i=>simpa using ih xs h2 i s' (by simpa using h) hb
def ApF: ∀(ss:List Sh) (i0 j i:Nat),(Le ss i0)[j]? =some i-> ∃ r s,i=i0+r/\ss[r]? =some s/\KE s=true:=by
 intro ss
 induction ss with
 | nil=>grind[Le]
 | cons s ss ih =>
  intro i0 j i h;have step: ∀ j':Nat,(Le ss (i0+1))[j']? =some i-> ∃ r s',i=i0+r/\(s::ss)[r]? =some s'/\KE s'=true:=by intro j' h';obtain⟨r,s',h1,h2,h3⟩:=ih (i0+1) j' i h';exact⟨r+1,s',by omega,by simpa using h2,h3⟩
  simp only[Le]at h;cases s with
  | box ks =>
   simp only[KE,cond_true]at h;cases j with
   | zero=>simp_all[Sh,Le,KE]
   | succ j=>exact step j (by simpa using h)
  | clo f' ks =>
   simp only[KE,cond_true]at h;cases j with
   | zero=>simp_all[Sh,Le,KE]
   | succ j=>exact step j (by simpa using h)
  | map kt vt =>
   simp only[KE,cond_true]at h;cases j with
   | zero=>simp_all[Sh,Le,KE]
   | succ j=>exact step j (by simpa using h)
  | cell u k=>grind[KE]
  | agg ks=>grind[KE]
def Amd: ∀(ss:List Sh) (i0:Nat),(Qq ss i0).length=ss.length:=by
 intro ss
 induction ss with
 | nil=>intro i0;rfl
 | cons s ss ih=>intro i0;simp [Qq,ih]
def AqE: ∀(ss:List Sh) (i0 j:Nat),j<ss.length->(Qq ss i0).getD j .undef=Awl (ss.getD j (.agg [])) (i0+j):=by
 intro ss
 induction ss with
 | nil=>intro i0 j h;simp at h
 | cons s ss ih =>
  intro i0 j h;cases j with
  | zero=>grind[Qq]
  | succ j=>grind[Qq]
end
def rv:Nat×Option Nat->ResultVar
 | (t,none)=>.tmp t
 | (a,some ty)=>.cell a ty
def Acg (tmps:Array Value):ResultVar->Sem Value
 | .tmp t=>pure (tmps.getD t undef)
 | .cell a t=>do loadVar t (<- asAddr (tmps.getD a undef))
def Ava {P:Program} {w:World} {α :Type} {g: α ->Sem Value}: ∀(l:List α) (f:Nat->Value),(∀(j:Nat) (x: α),l[j]? =some x->(g x).run P w= .ok (f j) w)->(l.mapM g).run P w= .ok ((List.range l.length).map f) w:=by
 intro l
 induction l with
 | nil=>intro f _;simp
 | cons x r ih =>intro f h;have h1:=ih (λj=>f (j+1)) (λj y hy=>h (j+1) y (by simpa using hy));have h2:=h 0 x rfl;rw[IA];simp only[DL,h2,Result.andThen_ok,h1,Sem.run_pure,List.length_cons,Hg,Em,ES];rfl
def AeB (us:Array Value):Value:=if h:us.size=1 then us[0]else .tuple us
def Aop {P:Program} {w:World} {fn:Func} {outs:List (Nat×Option Nat)} {tmps:Array Value} (h:fn.results=(outs.map rv).toArray) (f:Nat->Value) (hf: ∀(j:Nat) (q:Nat×Option Nat),outs[j]? =some q->(Acg tmps (rv q)).run P w= .ok (f j) w) :
 (results fn tmps).run P w= .ok (AeB ((List.range outs.length).map f).toArray) w:=by
 have e:results fn tmps=(do let vs <- fn.results.mapM (Acg tmps);pure (AeB vs)):=by
  have e0:Acg tmps=(λ| .tmp t=>pure (tmps.getD t undef) | .cell a t=>do loadVar t (<- asAddr (tmps.getD a undef))):=by funext x;cases x<;>rfl
  unfold results AeB;rw[e0];rfl
 rw[e,h,List.mapM_toArray]
 have:=Ava (P:=P) (w:=w) (g:=Acg tmps) (outs.map rv) f (λj x hx=>by
  rw[Ep]at hx;cases hq:outs[j]? with
  | none=>rw[hq]at hx;cases hx
  | some q=>rw[hq]at hx;injection hx with hx;rw[<- hx];exact hf j q hq)
 all_goals simp_all[rv,Acg,AeB]
section
variable {P:Program} {C:Ctx} {V0:Nat->Value} {O0 O:Own} {w0 w:World} {m:Nat->Value} {st:St} {a:Act}
def Ars {Jt:List Sh} {i:Nat} {s:Sh} (h:Jt[i]? =some s) (hb:KE s=true):(Jt.map PT)[i]? =some (PT s)/\KE (PT s)=true/\KE (Jt.getD i (.agg []))=true/\i<Jt.length:=by
 have hi:i<Jt.length:=by all_goals grind[Sh,KE,PT]
 refine⟨(by rw[Ep,h];rfl),(by cases s<;>first | rfl | (cases hb;done)),?_,hi⟩;rw[Dn,h];exact hb
def As3 {Jt J7:List Sh} {outs:List (Nat×Option Nat)} {rs:List A} {vs:Array Value} {sg:Sig} {fn:Func} (hC:TOk P C) (hfn:fn.results=(outs.map rv).toArray) (hp:sg.Jt=Jt) (hr:sg.J7=J7) (h100:Jt.length<=100)
 (hptr: ∀ i,i<Jt.length->KE (Jt.getD i (.agg []))=true->(innerS w0 (Jt.getD i (.agg [])) (vs.getD i undef)).oneCell'=true)
 (hS:Sim (λo=>innerS w0 (Jt.getD (o / 256) (.agg [])) (vs.getD (o / 256) undef)) O0 w0 O m st a w) (h:finish C Jt J7 outs st=some rs) :
 ∃ v O',(results fn a.tmps).run P w= .ok v w/\Came O0 w0 vs sg rs v O' w:=by
 obtain⟨hok,hrs⟩:=QJ h;injection hrs with hrs;obtain⟨hokA,hokO⟩:=hok.append;obtain⟨hokA,hokB⟩:=hokA.append;obtain⟨hok1,hok2⟩:=hokA.append;have hnd:=hokB.cons.1;have hwr:=hokB.cons.2.cons.1;have hf:P8 st.Jr st.Jr:=λ_ _ h=>h;generalize hN:NY st.Jr 256000 256 J7 (Pz C outs st)++NY st.Jr 0 256 (Jt.map PT) (Qq Jt 0)=N at *
 have hout: ∀ j:Nat,∃ u:Value,∀ q,outs[j]? =some q->(Acg a.tmps (rv q)).run P w= .ok u w/\JC O st.Jr m w u (Aeo C st q).2:=by
  intro j;cases hj:outs[j]? with
  | none=>exact⟨undef,λq hq=>by cases hq⟩
  | some q =>
   have hqok:J6 (Aeo C st q).1:=λb hb=>hokO b (Eg.2 ⟨q,FQ hj,hb⟩);obtain⟨t,ty⟩:=q;cases ty with
   | none =>have hlt:=hqok.cons.1;rw[EF]at hlt;exact⟨a.tmps.getD t undef,λq hq=>by injection hq with hq;subst hq;exact⟨rfl,hS.tmps t hlt⟩⟩
   | some ty =>
    have hq2:J6 (Nat.blt t st.tmps.length::(Xr C st.Jr ty (st.tmps.getD t .undef)).ok):=hqok;obtain⟨hlt,hld⟩:=hq2.cons;rw[EF]at hlt;obtain⟨u,hu1,hu2⟩:=(Aa7 (o:= {(default:Oper)with op:=.load ty (.tmp t)}) hC (λq x hq=>⟨hq,hS.Jr q x hq⟩) rfl (jM hS (.tmp t)) hld).run;refine⟨u,λq hq=> ?_⟩;injection hq with hq;subst hq;refine⟨?_,hu2⟩;have hev:a.eval (.tmp t)=a.tmps.getD t undef:=by simp [Act.eval]
    simp only[execOp,Instr.loadAt,hev]at hu1;show(do loadVar ty (<- asAddr (a.tmps.getD t undef)):Sem Value).run P w=_;generalize a.tmps.getD t undef=z at hu1 ⊢;cases z with
    | pointer p =>
     cases p with
     | none=>simp [Instr.sureAddr]at hu1
     | some ad =>
      simp only[asAddr,DL,Sem.run_pure,Result.andThen_ok];simp only[Instr.sureAddr,pure_bind,DL,Sem.run_pure]at hu1;cases hl:(loadVar ty ad).run P w with
      | ok x w2 =>rw[hl]at hu1;simp only[Result.andThen_ok,Sem.run_pure,Result.ok.injEq,Next.value.injEq]at hu1;rw[hu1.1,hu1.2]
      | halt x w2=>rw[hl]at hu1;simp [Result.andThen]at hu1
    | _=>simp [Instr.sureAddr]at hu1
 obtain⟨fv,hfv⟩:=GV hout
 obtain⟨g1,g2,g3,_,g5⟩:=dJ (W:=(JM st.Jr J7 (Pz C outs st)).2.2.1++(JM st.Jr (Jt.map PT) (Qq Jt 0)).2.2.1=[]) hf hS.Jr 256 J7 (Pz C outs st) 256000 fv (λe=>by rw[e]at hwr;simpa using hwr) (λj hj=>by
  have hj':j<outs.length:=by simpa [Pz]using hj
  have e:(Pz C outs st).getD j .undef=(Aeo C st outs[j]).2:=by simp [Pz,Dn,hj']
  rw[e];exact(hfv j _ (D8 hj')).2) hok1
 have hmaskl:(Jt.map PT).length=Jt.length:=by simp
 obtain⟨k1,k2,k3,_,k5⟩:=dJ (W:=(JM st.Jr J7 (Pz C outs st)).2.2.1++(JM st.Jr (Jt.map PT) (Qq Jt 0)).2.2.1=[]) hf hS.Jr 256 (Jt.map PT) (Qq Jt 0) 0 (λj=>if KE (Jt.getD j (.agg []))then innerS w0 (Jt.getD j (.agg [])) (vs.getD j undef)else .bool true) (λe=>by rw[e,EP]at hwr;simpa using hwr) (λj hj=>by
  have hj':j<Jt.length:=by rw[Amd]at hj;exact hj
  rw[AqE Jt 0 j hj',DV];have hroot:YO (256*j)=true:=by unfold YO;rw[Dw,EF];refine⟨by omega,?_⟩;rw[Nat.mul_mod_right];rfl
  have hrt: ∀ x,J3 st.Jr (256*j)=some x->m (256*j)=innerS w0 (Jt.getD j (.agg [])) (vs.getD j undef):=λx hx=>by have:=hS.root (256*j) hroot (by rw[hx];rfl);rw[Nat.mul_div_cancel_left j (by decide)]at this;exact this
  have hp:=hptr j hj';generalize Jt.getD j (.agg [])=s at hp hrt ⊢;cases s with
  | box ks =>
   rw[Du (show KE (Sh.box ks)=true from rfl)];refine⟨hp rfl,?_⟩;cases hx:J3 st.Jr (256*j)with
   | none=>trivial
   | some x =>
    cases x with
    | arr _ _ _=>trivial
    | mp _=>trivial
    | box cs =>obtain⟨b,base,h1,_⟩:=hS.Jr _ _ hx;exact⟨b,base,h1,by rw[<- hrt _ hx,h1];rfl⟩
  | clo f' ks =>
   rw[Du (show KE (Sh.clo f' ks)=true from rfl)];refine⟨hp rfl,?_⟩;cases hx:J3 st.Jr (256*j)with
   | none=>trivial
   | some x =>
    cases x with
    | arr _ _ _=>trivial
    | mp _=>trivial
    | box cs =>obtain⟨b,base,h1,_⟩:=hS.Jr _ _ hx;exact⟨b,base,h1,by rw[<- hrt _ hx,h1];rfl⟩
  | map kt vt =>
   rw[Du (show KE (Sh.map kt vt)=true from rfl)];refine⟨hp rfl,?_⟩;cases hx:J3 st.Jr (256*j)with
   | none=>trivial
   | some x =>
    cases x with
    | box _=>trivial
    | arr _ _ _=>exact(hrt _ hx).symm
    | mp _=>exact(hrt _ hx).symm
  | cell u k=>rw[Dt (show ¬ KE (Sh.cell u k)=true from λh=>by cases h)];exact J5.bool true
  | agg ks=>rw[Dt (show ¬ KE (Sh.agg ks)=true from λh=>by cases h)];exact J5.bool true) hok2
 obtain⟨O1,hS1,hp1,_,hv1,_,hk1⟩:=hS.freezes _ (g3.append k3);have hρ : ∀ p∈N,look N p.1=some p.2:=AlZ hnd
 have halive: ∀ p∈N,(J3 st.Jr p.1).isSome:=by
  intro p hp';rw[<- hN]at hp';rcases DN.1 hp' with hp' | hp'
  .exact dM _ _ _ hok1 p hp'
  .exact dM _ _ _ hok2 p hp'
 generalize hU:(JM st.Jr J7 (Pz C outs st)).2.2.1++(JM st.Jr (Jt.map PT) (Qq Jt 0)).2.2.1=U at *
 have hFU:Frz st.Jr U:=by rw[<- hU];exact g3.append k3
 have hupdO: ∀ p∈U,Lm O1 (JH st.Jr U) m w p.1 p.2:=by intro p hp;obtain⟨x,hx1,hx2⟩:=OA U st.Jr p.1 ⟨p,hp,rfl⟩;obtain⟨e,fz,l,k1,k2⟩:=hFU p hp;obtain⟨e',fz',l',k3,k4⟩:=hFU _ hx1;dsimp only at k3 k4;rw[k1]at k3;injection k3 with k3;injection k3 with q1 q2 q3;subst q1;subst q3;rw[k2,<- k4];exact hS1.Jr p.1 x hx2
 have hR:=g5 (ρ :=look N) hp1 (λp hp=>hv1 p (by rw[<- hU];exact DJ _ hp)) (λp hp=>hupdO p (by rw[<- hU];exact DJ _ hp)) hk1 (λp hp=>hρ p (by rw[<- hN];exact DJ _ hp));have hB:=k5 (ρ :=look N) hp1 (λp hp=>hv1 p (by rw[<- hU];exact DF _ hp)) (λp hp=>hupdO p (by rw[<- hU];exact DF _ hp)) hk1 (λp hp=>hρ p (by rw[<- hN];exact DF _ hp));have hol:outs.length=J7.length:=by rw[<- g2];simp [Pz]
 refine⟨_,O5 O1 (look N),Aop hfn fv (λj q hq=>(hfv j q hq).1),hS1.frame,λb k hb hne=>hS1.less b k hb (λe=>hne (WG.2 e)),λb k hb hj=> ?_,?_,?_,?_⟩
 .have:=hS1.WS b k hb hj;unfold O5;rw[this];dsimp only;cases hl:look N 255 with
  | none=>rfl
  | some i =>have h1:=halive _ (Aa9 hl);obtain⟨x,hx⟩:=EG.1 h1;exact absurd rfl (hS.ids 255 x hx)
 .rw[<- hrs,hp,hr];simp [g1]
 .refine⟨((List.range outs.length).map fv).toArray,by rw[hr];simp [hol],rfl,λk hk=> ?_⟩;have hk':k<outs.length:=by simpa using hk
  have hus:(((List.range outs.length).map fv).toArray).getD k undef=fv k:=by simp [Dv,hk']
  rw[hus];have:=hR k (by rw[<- hol];exact hk');have e:rs.getD k .undef=(JM st.Jr J7 (Pz C outs st)).2.1.getD k .undef:=by rw[<- hrs,Dn,Ez (by rw[g1,<- hol];exact hk'),<- Dn]
  rw[e];exact this
 .intro j i hji;rw[hp]at hji;obtain⟨r,s,h1,h2,h2'⟩:=ApF Jt 0 j i hji;rw[DV]at h1;subst h1;obtain⟨h3,h3',h4,h5⟩:=Ars h2 h2';have h6:=AlE _ _ hok2 i _ h3 h3';have e:rs.getD (sg.J7.length+j) .undef=unbox ((JM st.Jr (Jt.map PT) (Qq Jt 0)).2.1.getD i .undef):=by rw[<- hrs,hr,Dn,EI (by rw[g1];omega),g1,GU,Ep,hji];rfl
  rw[e,h6,hp];have:=hB i (by rw[hmaskl];exact h5);rw[DV,Du h4]at this;exact this
def Agr {ρ :Type} {o: ρ} {fin:St->Option ρ} (hC:MX P C) (N:Nat)
 (hdraw: ∀ {C:Ctx},MX P C-> ∀ {ρ :Type} {V0:Nat->Value} {O0:Own} {w0:World} {fin:St->Option ρ} {v: ρ} (id:Nat) (ops:Array Oper) {O:Own} {m:Nat->Value} {st:St} {a:Act} {w:World} (K:Ex->St->Option ρ),Sim V0 O0 w0 O m st a w->TN C ops.toList st=true->WV C ops.toList ops.toList st (λst'=>K .normal st')=some v ->
   (Code.region id ops true).wp P (Post V0 O0 w0 fin K v) a w)
 {f:FuncId} {fn:Func} {code:Code} {outs:List (Nat×Option Nat)} {sg:Sig} (hf:P.funcs[f]? =some fn) (hb:fn.body=some code) (hout:fn.results=(outs.map rv).toArray)
 {vs args:Array Value} {xs rs:List A} {st0:St} (hl:xs.length=sg.Jt.length) (h100:xs.length<=100) (hx: ∀ j,j<xs.length->IR O w (256*j) (vs.getD j undef) (xs.getD j .undef)) (hok1:J6 (KG 0 256 sg.Jt xs 0).1)
 (hS:Sim (λo=>innerS w (sg.Jt.getD (o / 256) (.agg [])) (vs.getD (o / 256) undef)) O w O (λo=>N7 w (innerS w (sg.Jt.getD (o / 256) (.agg [])) (vs.getD (o / 256) undef)) (o % 256)) st0 {tmps:=args++Array.replicate (fn.ntmps - args.size) undef,defers:=[]} w)
 (h:exec C N fin code st0 (λ| .normal,st=>fin st | .exit _,_=>none)=some o) (hrs: ∀ st,fin st=some o->finish C sg.Jt sg.J7 outs st=some rs) :
 Calls P f args w λe w'=> ∃ v O',e= .returned v/\Came O w vs sg rs v O' w':=by
 have hptr: ∀ i,i<sg.Jt.length->KE (sg.Jt.getD i (.agg []))=true->(innerS w (sg.Jt.getD i (.agg [])) (vs.getD i undef)).oneCell'=true:=by
  intro i hi hb;have hi':i<xs.length:=by rw[hl];exact hi
  have hbk:J6 (back (256*i) (sg.Jt.getD i (.agg [])) (xs.getD i .undef)).1:=by
   have key: ∀(ss:List Sh) (j0 i:Nat),i<ss.length->J6 (KG 0 256 ss xs j0).1->J6 (back (0+256*(j0+i)) (ss.getD i (.agg [])) (xs.getD (j0+i) .undef)).1:=by
    intro ss
    induction ss with
    | nil=>intro j0 i h;simp at h
    | cons s ss ih =>
     intro j0 i h hok;simp only[KG]at hok;obtain⟨h1,h2⟩:=hok.append;cases i with
     | zero=>simpa using h1
     | succ i =>have:=ih (j0+1) i (by simpa using h) h2;rw[show j0+1+i=j0+(i+1)from by omega]at this;simpa using this
   have:=key sg.Jt 0 i hi hok1;rw[DV,DV]at this;exact this
  have hir:=hx i hi';generalize sg.Jt.getD i (.agg [])=s at hb hbk;cases s with
  | box ks =>
   simp only[back]at hbk;have h2:=hbk.cons.2.cons.1;generalize xs.getD i .undef=x at h2 hir;cases x with
   | box cs =>obtain⟨b,base,h3,_⟩:=hir;rw[h3];rfl
   | _=>cases h2
  | clo f' ks =>
   simp only[back]at hbk;have h2:=hbk.cons.2.cons.1;generalize xs.getD i .undef=x at h2 hir;cases x with
   | cbx g cs =>obtain⟨b,base,h3,_⟩:=hir;rw[show innerS w (.clo f' ks) (vs.getD i undef)=_ from h3.inner (ks:=ks)];rfl
   | _=>cases h2
  | map kt vt =>
   obtain⟨l,hl',_,_⟩:=uZ (show A.uY kt vt _=true from hbk.cons.1);rw[hl']at hir;obtain⟨r,_,_,h3,_⟩:=(show QD O w _ _ l from hir)
   rw[h3];rfl
  | _=>cases hb
 refine calls_of_wp hf hb (Jp (ApQ hC N (λhC'=>hdraw hC') code hS h) λe a' w' hq=> ?_);have fin':(∃ O' m' st',Sim (λo=>innerS w (sg.Jt.getD (o / 256) (.agg [])) (vs.getD (o / 256) undef)) O w O' m' st' a' w'/\fin st'=some o)->a'.defers=[]/\ ∃ v,(results fn a'.tmps).run P w'= .ok v w'/\ ∃ v' O',Ending.returned v= .returned v'/\Came O w vs sg rs v' O' w':=by rintro ⟨O',m',st',hS',hfin⟩;obtain⟨v,O2,hres,hcame⟩:=As3 (sg:=sg) hC.T hout rfl rfl (by rw[<- hl];exact h100) hptr hS' (hrs st' hfin);exact⟨hS'.defers,v,hres,v,O2,rfl,hcame⟩
 cases e with
 | normal=>exact fin' hq
 | ret=>exact fin' hq
 | exit id =>obtain⟨O',m',st',_,h'⟩:=hq;cases h'
 | goto l=>exact hq.elim
 | panic ch=>exact hq.elim
 | outgrown=>exact hq.elim
def At4 {ρ :Type} {o: ρ} {fin:St->Option ρ} (hC:MX P C) (N:Nat)
 (hdraw: ∀ {C:Ctx},MX P C-> ∀ {ρ :Type} {V0:Nat->Value} {O0:Own} {w0:World} {fin:St->Option ρ} {v: ρ} (id:Nat) (ops:Array Oper) {O:Own} {m:Nat->Value} {st:St} {a:Act} {w:World} (K:Ex->St->Option ρ),Sim V0 O0 w0 O m st a w->TN C ops.toList st=true->WV C ops.toList ops.toList st (λst'=>K .normal st')=some v ->
   (Code.region id ops true).wp P (Post V0 O0 w0 fin K v) a w)
 {f:FuncId} {fn:Func} {code:Code} {outs:List (Nat×Option Nat)} {sg:Sig} (hf:P.funcs[f]? =some fn) (hb:fn.body=some code) (hout:fn.results=(outs.map rv).toArray)
 {vs:Array Value} {xs rs:List A} (hI:Inv O w) (hv:vs.size=xs.length) (hl:xs.length=sg.Jt.length) (h100:xs.length<=100) (hx: ∀ j,j<xs.length->IR O w (256*j) (vs.getD j undef) (xs.getD j .undef))
 (h:runK C N sg.Jt fn.ntmps code fin xs=some o) (hrs: ∀ st,fin st=some o->finish C sg.Jt sg.J7 outs st=some rs) :
 Calls P f vs w λe w'=> ∃ v O',e= .returned v/\Came O w vs sg rs v O' w':=by
 obtain⟨hok,h⟩:=QJ h;obtain⟨hok1,hok2⟩:=hok.append;obtain⟨hnd,hok2⟩:=hok2.cons;have h255:=hok2.cons.1;rw[EH]at h255;exact Agr hC N hdraw hf hb hout hl h100 hx hok1 (Aiw (n:=fn.ntmps) hI hv hl hx hok1 hnd h255) h hrs
end
section
variable {P:Program} {C:Ctx} {V0:Nat->Value} {O0 O:Own} {w0 w:World} {m:Nat->Value} {st:St} {a:Act}
def MN {a b:List Nat} (h:Vp a b=true): ∀ n∈a,n∉b:=by intro n hn hb;have:=DI.1 h n hn;rw[NF.2 hb]at this;cases this
def lastOf:List (Nat×Obj)->Nat->Option Obj
 | [],_=>none
 | (n,x)::r,k=>match lastOf r k with
  | some y=>some y
  | none=>if n=k then some x else none
theorem Adf {u:List (Nat×Obj)} {k:Nat} (h:k∉u.map (·.1)):lastOf u k=none:=by
 induction u with
 | nil=>rfl
 | cons p r ih=>grind[lastOf]
def AcT (u:List (Nat×Obj)): ∀(l:List (Nat×Obj)) (k:Nat),J3 (JH l u) k=match lastOf u k with | some x=>some x | none=>J3 l k:=by
 induction u with
 | nil=>intro l k;rfl
 | cons p r ih=>grind[JH,KO,lastOf]
theorem TF (st:St) (o:Oper) (δ :Dl) (k:Nat):J3 (apply st o δ).Jr k=match lastOf δ.new k with
 | some x=>some x
 | none=>if k∈ δ.del then none else match lastOf δ.upd k with
  | some x=>some x
  | none=>J3 st.Jr k:=by
 unfold apply;dsimp only;rw[AcT,Va,AcT]
def V9 {st:St} {o:Oper} {δ :Dl} {k:Nat} (h:k∉ δ.upd.map (·.1)++ δ.del++ δ.new.map (·.1)):J3 (apply st o δ).Jr k=J3 st.Jr k:=by grind[TF,Adf]
def Srt:List (Nat×Obj)->Prop:=List.Pairwise (λp q=>p.1<q.1)
def Aru: ∀ {l:List (Nat×Obj)},sorted l=true->Srt l:=by
 intro l
 induction l with
 | nil=>intro _;exact List.Pairwise.nil
 | cons p r ih =>
  intro h;cases r with
  | nil=>exact GX _ _
  | cons q r =>
   obtain⟨n,x⟩:=p;obtain⟨k,y⟩:=q;simp only[sorted,Dw,EF]at h;have hr:=ih h.2;refine List.Pairwise.cons (λq hq=> ?_) hr;rcases D7.1 hq with rfl | hq
   .exact h.1
   .exact Nat.lt_trans h.1 ((EK.1 hr).1 q hq)
theorem Srt.TE {l:List (Nat×Obj)} (h:Srt l) (n:Nat):Srt (Vm.TE l n):=by
 induction l with
 | nil=>exact h
 | cons p r ih =>
  obtain⟨k,x⟩:=p;obtain⟨h1,h2⟩:=EK.1 h;rw[zH];split
  .exact ih h2
  .exact List.Pairwise.cons (λq hq=>h1 q (Aej hq)) (ih h2)
theorem Srt.dE {l:List (Nat×Obj)} (h:Srt l) {n:Nat} (y:Obj) (hn:J3 l n=none):Srt (Vm.dE l n y):=by
 induction l with
 | nil=>exact GX _ _
 | cons p r ih =>
  obtain⟨k,x⟩:=p;obtain⟨h1,h2⟩:=EK.1 h;rw[Ol]at hn;have hkn:k≠n:=λe=>by rw[Du e]at hn;cases hn
  rw[Dt hkn]at hn;simp only[Vm.dE];cases hle:Nat.ble n k with
  | true =>have:=DR hle;refine List.Pairwise.cons (λq hq=> ?_) h;all_goals grind[Obj,Srt,J3]
  | false =>
   have hlt:k<n:=by
    rcases Eh k n with h | h
    .exact h
    .rw[Nat.ble_eq_true_of_le h]at hle;cases hle
   refine List.Pairwise.cons (λq hq=> ?_) (ih h2 hn);rcases Amf hq with rfl | hq
   .exact hlt
   .exact h1 q hq
theorem Srt.Ns {l:List (Nat×Obj)} (h:Srt l) (n:Nat) (y:Obj):Srt (Vm.Ns l n y):=(h.TE n).dE y (by rw[lH,Du rfl])
theorem Srt.JH: ∀(u:List (Nat×Obj)) {l:List (Nat×Obj)},Srt l->Srt (Vm.JH l u):=by
 intro u
 induction u with
 | nil=>intro l h;exact h
 | cons p r ih=>intro l h;obtain⟨n,x⟩:=p;exact ih (h.Ns n x)
theorem Srt.KC: ∀(u:List Nat) {l:List (Nat×Obj)},Srt l->Srt (Vm.KC l u):=by
 intro u
 induction u with
 | nil=>intro l h;exact h
 | cons n r ih=>intro l h;exact ih (h.TE n)
theorem Srt.apply {st:St} (h:Srt st.Jr) (o:Oper) (δ :Dl):Srt (Vm.apply st o δ).Jr:=((h.JH δ.upd).KC δ.del).JH δ.new
theorem aQ {n:Nat} {x:Obj} {r:List (Nat×Obj)}:J3 ((n,x)::r) n=some x:=by rw[Ol,Du rfl]
theorem Ao6 {l:List (Nat×Obj)} {k:Nat} (h: ∀ p∈l,k<p.1):J3 l k=none:=by
 cases hx:J3 l k with
 | none=>rfl
 | some x=>exact absurd (h _ (Adx hx)) (IZ _)
def Srt.ext: ∀ {l l':List (Nat×Obj)},Srt l->Srt l'->(∀ k,J3 l k=J3 l' k)->l=l':=by
 intro l
 induction l with
 | nil =>
  intro l' _ _ h;cases l' with
  | nil=>rfl
  | cons p r=>grind[aQ,Obj,Srt,J3]
 | cons p r ih =>
  intro l' h1 h2 h;obtain⟨n,x⟩:=p;cases l' with
  | nil=>grind[aQ,Obj,Srt,J3]
  | cons q r' =>
   obtain⟨k,y⟩:=q;obtain⟨a1,a2⟩:=EK.1 h1;obtain⟨b1,b2'⟩:=EK.1 h2;have hnk:n=k:=by all_goals grind[aQ,Ao6,a1]
   subst hnk;have hx:=h n;rw[aQ,aQ]at hx;injection hx with hx;subst hx;rw[ih a2 b2' (λj=> ?_)];by_cases hj:n=j
   .grind[Ao6,a1]
   .have:=h j;rw[Ol,Ol,Dt hj,Dt hj]at this;exact this
def put_comm (tmps:List A) {d e:Option Tmp} (x y:A) (h: ∀ t,d=some t->e≠some t):put (put tmps d x) e y=put (put tmps e y) d x:=by
 cases d with
 | none=>rfl
 | some d =>
  cases e with
  | none=>rfl
  | some e =>have:d≠e:=λhe=>h d rfl (by rw[he]);exact List.set_comm _ _ this
def Apd (tmps:List A) {d:Option Tmp} (x:A) {t:Nat} (h:d≠some t):(put tmps d x).getD t .undef=tmps.getD t .undef:=by
 cases d with
 | none=>rfl
 | some d=>grind[put]
def iF {o:Oper} {t:Nat}:t∈ZQ o↔o.dst=some t:=by grind[ZQ]
def Als {ops:List Oper} {o:Oper} {tmps:List A} {d:Option Tmp} {v:A} (h: ∀ t,d=some t->t∉slotsOf ops o) {x:Operand} (hx:x∈o.op.operands):KZ (put tmps d v) x=KZ tmps x:=by
 cases x with
 | tmp t =>refine Apd tmps v λhd=>h t hd ?_;exact DJ _ (GM.2 ⟨.tmp t,by simpa using hx,rfl⟩)
 | _=>rfl
def Ai3 {ops:List Oper} {o:Oper} {tmps:List A} {d:Option Tmp} {v:A} (h: ∀ t,d=some t->t∉slotsOf ops o):guardOf ops (put tmps d v) o.guard=guardOf ops tmps o.guard:=by
 cases hg:o.guard with
 | none=>rfl
 | some p =>
  obtain⟨j,want⟩:=p;unfold guardOf;dsimp only;cases hj:ops[j]? with
  | none=>rfl
  | some oj =>
   dsimp only;cases hd:oj.dst with
   | none=>rfl
   | some t =>dsimp only;rw[Apd tmps v (t:=t) (λhd'=>h t hd' (by unfold slotsOf;refine DF _ ?_;rw[hg];dsimp only;rw[hj];dsimp only;rw[hd];simp))]
theorem An5 {Jr objs':List (Nat×Obj)}: ∀(l:List Nat),(∀ n∈l,J3 Jr n=J3 objs' n)->fetch Jr l=fetch objs' l:=by
 intro l
 induction l with
 | nil=>intro _;rfl
 | cons n r ih=>grind[fetch]
def AkT {op:Op} {vs:List A} (h:pK op vs=true):(∃ x,op= .move x)\/(∃ x,op= .assign x)\/ ∃ t x k q,op= .load t x/\vs=[.clo k q]:=by unfold pK at h;all_goals grind[split]
def bQ {α :Type} {x:Option α} {k: α ->Dl} (h: ∀ y,(k y).upd=[]):(KA x k).upd=[]:=by
 cases x with
 | none=>rfl
 | some y=>exact h y
def Xl (s:St) (q off:Nat):J3 (Kv s [.ptr q off]) q=J3 s.Jr q:=by show J3 (fetch s.Jr [q]++fetch s.Jr ((fetch s.Jr [q]).flatMap (λp=>p.2.ids))) q=_;all_goals grind[J3,fetch,Ol]
def zI {o:Oper} {vs:List A} {q:Nat} (h:Ze o.op vs=some q): ∃ off,vs=[.ptr q off]/\ ∀ f f',L8 f q=L8 f' q->opX C o vs f=opX C o vs f'/\(opX C o vs f).upd=[]:=by
 obtain⟨dst,op,ty,pos,after,guard⟩:=o;dsimp only at h;unfold Ze at h;split at h
 .injection h with h;subst h;refine⟨_,rfl,λf f' hb=> ?_⟩;unfold opX;dsimp only[a1];unfold XQ;dsimp only;rw[hb];exact⟨rfl,by unfold KA;split<;>rfl⟩
 .injection h with h;subst h;refine⟨_,rfl,λf f' hb=> ?_⟩;unfold opX;dsimp only[a1];unfold Wq ZO;dsimp only;rw[hb];refine⟨rfl,?_⟩;unfold ML;refine bQ λti=>bQ λp=> ?_;exact bQ (λ_=>rfl)
 .injection h with h;subst h;refine⟨_,rfl,λf f' hb=> ?_⟩;unfold opX;dsimp only[a1];unfold Xr;dsimp only;rw[hb];refine⟨rfl,?_⟩;unfold ML;exact bQ λti=>bQ λ_=>rfl
 .cases h
theorem AiS {ops:List Oper} {o:Oper} {s1 s2:St} (hE: ∀ x∈o.op.operands,KZ s2.tmps x=KZ s1.tmps x) (hG:guardOf ops s2.tmps o.guard=guardOf ops s1.tmps o.guard)
 (key:(opX C o (KD o s1) (Kv s2 (KD o s1))=opX C o (KD o s1) (Kv s1 (KD o s1))/\(∀ f,(opX C o (KD o s1) f).upd=[])/\LH o s2 (KD o s1)=LH o s1 (KD o s1))\/(Kv s2 (KD o s1)=Kv s1 (KD o s1)/\LH o s2 (KD o s1)=LH o s1 (KD o s1))) (h1: ∀ n∈(KI C ops o s1).new.map (·.1),s1.fresh n=true) (h2: ∀ n∈(KI C ops o s1).new.map (·.1),s2.fresh n=true) :
 KI C ops o s2=KI C ops o s1/\LH o s2 (KD o s2)=LH o s1 (KD o s1)/\KD o s2=KD o s1:=by
 have hmap:o.op.operands.toList.map (KZ s2.tmps)=o.op.operands.toList.map (KZ s1.tmps):=Eu λx hx=>hE x (by simpa using hx);have hvs:KD o s2=KD o s1:=by unfold KD;rw[hmap]
 have hop:opX C o (KD o s1) (Kv s2 (KD o s1))=opX C o (KD o s1) (Kv s1 (KD o s1)):=by
  rcases key with h | h
  .exact h.1
  .rw[h.1]
 refine⟨?_,by rw[hvs];rcases key with h | h;exact h.2.2;exact h.2,hvs⟩
 have hpl: ∀ pre,(∀ n∈(TY C o s1 pre).new.map (·.1),s1.fresh n=true)->(∀ n∈(TY C o s1 pre).new.map (·.1),s2.fresh n=true)->TY C o s2 pre=TY C o s1 pre:=by
  intro pre h1 h2;unfold TY at h1 h2 ⊢;rw[hmap];dsimp only at h1 h2 ⊢;rw[show opX C o (Lc o.op (o.op.operands.toList.map (KZ s1.tmps))).2 (Kv s2 (Lc o.op (o.op.operands.toList.map (KZ s1.tmps))).2)=opX C o (Lc o.op (o.op.operands.toList.map (KZ s1.tmps))).2 (Kv s1 (Lc o.op (o.op.operands.toList.map (KZ s1.tmps))).2)from hop];generalize opX C o (Lc o.op (o.op.operands.toList.map (KZ s1.tmps))).2 (Kv s1 (Lc o.op (o.op.operands.toList.map (KZ s1.tmps))).2)= δ at *
  have a1: δ.new.all (λp=>s1.fresh p.1)=true:=DI.2 λp hp=>h1 p.1 (DK.2 ⟨p,hp,rfl⟩);have a2: δ.new.all (λp=>s2.fresh p.1)=true:=DI.2 λp hp=>h2 p.1 (DK.2 ⟨p,hp,rfl⟩);rw[a1,a2]
 unfold KI at h1 h2 ⊢;rw[hG,hmap];have hfa':opX C o (Lc o.op (o.op.operands.toList.map (KZ s1.tmps))).2 (Kv s2 (Lc o.op (o.op.operands.toList.map (KZ s1.tmps))).2)=opX C o (Lc o.op (o.op.operands.toList.map (KZ s1.tmps))).2 (Kv s1 (Lc o.op (o.op.operands.toList.map (KZ s1.tmps))).2):=hop;cases hg:guardOf ops s1.tmps o.guard with
 | none=>rfl
 | some r =>
  cases r with
  | some g =>
   rw[hg]at h1 h2;dsimp only at h1 h2 ⊢;cases hde:ApU C o with
   | some b =>
    rw[hde]at h1 h2;cases b with
    | true=>exact hpl _ h1 h2
    | false=>rfl
   | none =>
   dsimp only;rcases key with h | h
   .have hu:=h.2.1 (Kv s1 (KD o s1));rw[hfa'];have hu':(opX C o (Lc o.op (o.op.operands.toList.map (KZ s1.tmps))).2 (Kv s1 (Lc o.op (o.op.operands.toList.map (KZ s1.tmps))).2)).upd=[]:=hu;simp only[hu',Fg]
   .grind[Kv,Lc,KZ,guardOf,opX,KD,LH,KI]
  | none =>rw[hg]at h1 h2;exact hpl _ h1 h2
theorem Aic {o:Oper} {s1 s2:St} (hF: ∀ n∈LH o s1 (KD o s1),J3 s2.Jr n=J3 s1.Jr n) :
 (opX C o (KD o s1) (Kv s2 (KD o s1))=opX C o (KD o s1) (Kv s1 (KD o s1))/\(∀ f,(opX C o (KD o s1) f).upd=[])/\LH o s2 (KD o s1)=LH o s1 (KD o s1))\/(Kv s2 (KD o s1)=Kv s1 (KD o s1)/\LH o s2 (KD o s1)=LH o s1 (KD o s1)):=by
 unfold LH at hF ⊢;cases hm:pK o.op (KD o s1)with
 | true =>
  have hu: ∀(v:List A),(a1 (λa=>.v a) v).upd=[]:=λv=>by
   cases v with
   | nil=>rfl
   | cons x r=>cases r<;>rfl
  rcases AkT hm with ⟨x,e⟩ | ⟨x,e⟩ | ⟨t,x,k,q,e,ev⟩
  .grind[opX]
  .grind[opX]
  .have hl: ∀ f,(Xr C f t (.clo k q)).upd=[]:=λf=>by
    unfold Xr ML KA;cases C.T t<;>rfl
   exact .inl ⟨by unfold opX;rw[e,ev];rfl,λf=>by unfold opX;rw[e,ev];exact hl f,rfl⟩
 | false =>
  rw[hm]at hF;cases h1':Ze o.op (KD o s1)with
  | some q =>rw[h1']at hF;have hq:J3 s2.Jr q=J3 s1.Jr q:=hF q (Ec.2 rfl);obtain⟨off,ev,hO⟩:=zI (C:=C) h1';refine .inl ⟨(hO _ _ ?_).1,λf=>(hO f f rfl).2,rfl⟩;rw[ev];unfold L8;rw[Xl,Xl,hq]
  | none =>
  all_goals grind[fetch,KD,An5,Kv]
def Ary {ops:List Oper} {o:Oper} {s1 s2:St} (hE: ∀ x∈o.op.operands,KZ s2.tmps x=KZ s1.tmps x) (hG:guardOf ops s2.tmps o.guard=guardOf ops s1.tmps o.guard)
 (hF: ∀ n∈LH o s1 (KD o s1),J3 s2.Jr n=J3 s1.Jr n) (h1: ∀ n∈(KI C ops o s1).new.map (·.1),s1.fresh n=true) (h2: ∀ n∈(KI C ops o s1).new.map (·.1),s2.fresh n=true) :
 KI C ops o s2=KI C ops o s1/\LH o s2 (KD o s2)=LH o s1 (KD o s1)/\KD o s2=KD o s1:=by grind[AiS,Aic]
def Atn {o:Oper} {vs:List A} {q off n:Nat} (h:oneOf C o.op vs=some (q,off,n)):Ze o.op vs=some q/\ ∀ {f f':Fet} {cs cs':List A},L8 f q=some cs->L8 f' q=some cs'->cs'.length=cs.length->(∀ k,k<n->cs'.getD (off+k) .undef=cs.getD (off+k) .undef)->opX C o vs f'=opX C o vs f:=by
 obtain⟨dst,op,ty,pos,after,guard⟩:=o;dsimp only at h;unfold oneOf at h;split at h
 .injection h with h;injection h with h1 h2;subst h1;refine⟨rfl,λ{f f' cs cs'} h1 h2 h3 h4=> ?_⟩;unfold opX;dsimp only[a1];unfold XQ;dsimp only;rw[h1,h2];rfl
 .simp_all[opX,a1,Wq,ZO,KA,oneOf,Ze,Fet]
 .rename_i t _ o' off';cases ht:C.T t with
  | none=>rw[ht]at h;cases h
  | some ti =>
   rw[ht]at h;dsimp only at h;cases h0:Nat.blt 0 ti.cs.length with
   | false=>rw[h0]at h;cases h
   | true =>
   rw[h0]at h;injection h with h;injection h with h1 h2;injection h2 with h2 h3';subst h1;subst h2;subst h3';have h0:0<ti.cs.length:=by simpa [EF]using h0
   refine⟨rfl,λ{f f' cs cs'} h1 h2 h3 h4=> ?_⟩;unfold opX;dsimp only[a1];unfold Xr ML;rw[ht];unfold KA;dsimp only;rw[h1,h2];dsimp only;rw[h3];congr 1;unfold vW;cases ti.agg with
   | false =>have:=h4 0 h0;simpa using this
   | true =>
    refine congrArg A.agg (List.ext_getElem? λi=> ?_);rw[Gg,Gg];by_cases hi:i<ti.cs.length
    .rw[Du hi,Du hi,FK,FK];have:=h4 i hi;rw[Dn,Dn]at this;by_cases hl:off'+i<cs.length
     .simp_all[oneOf,Ze,Fet,opX]
     .rw[Ed (by omega),Ed (by omega)]
    .rw[Dt hi,Dt hi]
 .cases h
def O9 (fet:Fet) (δ :Dl):Prop:= ∀ e∈ δ.same,∃ cs,L8 fet e.1=some cs/\ ∀ p∈ δ.upd,p.1=e.1-> ∃ cs',p.2= .box cs'/\cs'.length=cs.length/\cs'.getD e.2 .undef=cs.getD e.2 .undef
def Aq2 {fet:Fet} (x:A) (j:Nat) {δ :Dl} (h:O9 fet δ):O9 fet (Uw fet x j δ):=by
 unfold Uw;split
 .rename_i q off;cases hb:L8 fet q with
  | none=>exact h
  | some cs =>
   dsimp only;cases hc:Nat.blt j cs.length&& δ.upd.all (λp=> !(Nat.beq p.1 q)||AfB cs.length p.2)with
   | false=>exact h
   | true =>
    rw[Dw,EF]at hc;have hset: ∀ ds:List A,ds.length=cs.length-> ∀ i,(ds.set j (cs.getD j .undef)).getD i .undef=if j=i then cs.getD j .undef else ds.getD i .undef:=by intro ds hd i;rw[Dn,Gj];by_cases hij:j=i;all_goals simp_all[Fet,O9,Uw]
    have key: ∀ p0∈ δ.upd,Nat.beq p0.1 q=true-> ∃ ds,p0.2= .box ds/\ds.length=cs.length:=by
     intro p0 hp0 hq;have h1:=DI.1 hc.2 p0 hp0;rw[hq]at h1;have h1:AfB cs.length p0.2=true:=h1;obtain⟨n,y⟩:=p0;cases y with
     | box ds=>exact⟨ds,rfl,Dx h1⟩
     | _=>cases h1
    intro e he;rcases D7.1 (show e∈(q,j):: δ.same from he)with rfl | he
    .refine⟨cs,hb,λp hp hpq=> ?_⟩;obtain⟨p0,hp0,rfl⟩:=DK.1 (show p∈ δ.upd.map _ from hp);cases hq:Nat.beq p0.1 q with
     | false=>simp_all[Fet,O9,Uw]
     | true=>grind[Av3]
    .obtain⟨cs0,h4,h5⟩:=h e he;refine⟨cs0,h4,λp hp hpq=> ?_⟩;obtain⟨p0,hp0,rfl⟩:=DK.1 (show p∈ δ.upd.map _ from hp);cases hq:Nat.beq p0.1 q with
     | false=>rw[hq]at hpq;exact h5 p0 hp0 hpq
     | true =>rw[hq]at hpq;have hpq:p0.1=e.1:=hpq;obtain⟨ds,h2,h3⟩:=key p0 hp0 hq;obtain⟨cs',g1,g2,g3⟩:=h5 p0 hp0 hpq;all_goals simp_all[Av3,Fet,O9,Uw]
 .exact h
def Aq4 {fet:Fet} (xs:List A): ∀(ks:List (Nat×Nat)) {δ :Dl},O9 fet δ ->O9 fet (keepD fet xs ks δ):=by
 intro ks
 induction ks with
 | nil=>intro δ h;exact h
 | cons k ks ih=>intro δ h;exact ih (Aq2 _ _ h)
theorem O9.nil {fet:Fet} {δ :Dl} (h: δ.same=[]):O9 fet δ :=λe he=>by rw[h]at he;cases he
theorem Aga {o:Oper} {s:St} (pre:List Bool):O9 (Kv s (KD o s)) (TY C o s pre):=by
 cases hc:AbZ o.op with
 | false=>exact O9.nil (by unfold TY;rw[hc];rfl)
 | true =>
  have key:O9 (Kv s (KD o s)) (opX C o (KD o s) (Kv s (KD o s))):=by
   generalize KD o s=vs;generalize Kv s vs=fet;obtain⟨dst,op,ty,pos,after,guard⟩:=o;dsimp only at hc;unfold AbZ at hc;split at hc
   .cases vs with
    | nil=>exact O9.nil rfl
    | cons x xs =>
     rename_i f _ _;show O9 fet (fG C fet (dst.getD 0) f xs);unfold fG;cases Aco C f xs with
     | none=>exact O9.nil rfl
     | some sg=>exact Aq4 _ _ (O9.nil rfl)
   .cases hc
  intro e he;have he:e∈(bif AbZ o.op then(opX C o (KD o s) (Kv s (KD o s))).same else []):=he;rw[hc]at he;exact key e he
def Arx {ops:List Oper} {o:Oper} {s:St}:O9 (Kv s (KD o s)) (KI C ops o s):=by
 unfold KI;split
 .exact Aga _
 .grind[split,Aga,O9.nil]
 .exact O9.nil rfl
end
section
variable {P:Program} {C:Ctx} {V0:Nat->Value} {O0 O:Own} {w0 w:World} {m:Nat->Value} {st st':St} {a:Act}
structure AkN (C:Ctx) (ops:List Oper) (x:L6) (st:St):Prop where
 step:KI C ops x.o st=x.δ
 rd:LH x.o st (KD x.o st)=x.rd
 one:oneOf C x.o.op (KD x.o st)=x.one
def zF (C:Ctx) (ops:List Oper):List L6->St->St->Prop
 | [],s,s'=>s=s'
 | x::r,s,s'=>AkN C ops x s/\zF C ops r (apply s x.o x.δ) s'
def AqG: ∀(u:List Nat) {l:List (Nat×Obj)} {p:Nat×Obj},p∈KC l u->p∈l:=by
 intro u
 induction u with
 | nil=>intro l p h;exact h
 | cons n r ih=>intro l p h;exact Aej (ih h)
def bC {x:L6} {n:Nat} (h:st.fresh n=true) (h1:n∉x.says) (h2:n∉x.keys):(apply st x.o x.δ).fresh n=true:=by
 obtain⟨f1,f2,f3,f4⟩:=NQ h;unfold L6.says at h1;simp only[DN,not_or]at h1
 have g1:has (apply st x.o x.δ).ids n=false:=by
  rw[<- Bool.not_eq_true];intro hh;rcases DN.1 (NF.1 hh)with hm | hm
  .obtain⟨c,hc,hi⟩:=Eg.1 hm;have hc:c∈put st.tmps x.o.dst x.δ.val:=hc
   have:c∈st.tmps\/c=x.δ.val:=by
    cases hd:x.o.dst with
    | none=>rw[hd]at hc;exact .inl hc
    | some d=>rw[hd]at hc;exact Ii hc
   rcases this with hc | hc
   .exact f1 (DJ _ (Eg.2 ⟨c,hc,hi⟩))
   .rw[hc]at hi;exact h1.1.1 hi
  .obtain⟨p,hp,hi⟩:=Eg.1 hm;rcases fV x.δ.new (show p∈JH (KC (JH st.Jr x.δ.upd) x.δ.del) x.δ.new from hp)with hp | hp
   .exact h1.2 (Eg.2 ⟨p,hp,hi⟩)
   .rcases fV x.δ.upd (AqG _ hp)with hp | hp
    .exact h1.1.2 (Eg.2 ⟨p,hp,hi⟩)
    .exact f1 (DF _ (Eg.2 ⟨p,hp,hi⟩))
 have g2:J3 (apply st x.o x.δ).Jr n=none:=by rw[V9 h2];exact f2
 all_goals grind[St.fresh,XB]
def Aq7 {u:List (Nat×Obj)} {k:Nat} {x:Obj} (h:lastOf u k=some x):(k,x)∈u:=by
 induction u with
 | nil=>cases h
 | cons p r ih=>grind[lastOf]
def Au3 {ops:List Oper} {x y:L6} (hx:AkN C ops x st) (hy:AkN C ops y (apply st x.o x.δ)) (h:calm x y=true) :
 (opX C x.o (KD x.o st) (Kv (apply st y.o y.δ) (KD x.o st))=opX C x.o (KD x.o st) (Kv st (KD x.o st))/\(∀ f,(opX C x.o (KD x.o st) f).upd=[])/\LH x.o (apply st y.o y.δ) (KD x.o st)=LH x.o st (KD x.o st)) \/
 (Kv (apply st y.o y.δ) (KD x.o st)=Kv st (KD x.o st)/\LH x.o (apply st y.o y.δ) (KD x.o st)=LH x.o st (KD x.o st)):=by
 unfold calm at h;cases ho:x.one with
 | none=>rw[ho]at h;cases h
 | some p =>
  obtain⟨q,off,n⟩:=p;rw[ho]at h;simp only[Dw,EH]at h;obtain⟨h1,h2,h3,h4,h5⟩:=h;have hone:=hx.one;rw[ho]at hone;obtain⟨k1,k2⟩:=Atn hone;obtain⟨off',ev,hO⟩:=zI (C:=C) k1;have hS:=Arx (C:=C) (ops:=ops) (o:=y.o) (s:=apply st x.o x.δ);rw[hy.step]at hS;have hxk:J3 (apply st x.o x.δ).Jr q=J3 st.Jr q:=V9 λhm=>by have:=h1.symm.trans (NF.2 hm);cases this
  have hbox: ∀ e∈y.δ.same,e.1=q-> ∃ cs,J3 st.Jr q=some (.box cs)/\ ∀ p∈y.δ.upd,p.1=q-> ∃ cs',p.2= .box cs'/\cs'.length=cs.length/\cs'.getD e.2 .undef=cs.getD e.2 .undef:=by intro e he heq;obtain⟨cs,g1,g2⟩:=hS e he;rw[heq]at g1 g2;exact⟨cs,by rw[<- hxk];exact ZT _ _ _ _ (Lj g1),g2⟩
  obtain⟨e0,he0,heq0⟩:=FZ.1 h4;obtain⟨cs,g1,g2⟩:=hbox e0 he0 (Dx heq0);have hcell: ∀ k,k<n-> ∀ p∈y.δ.upd,p.1=q-> ∀ cs',p.2= .box cs'->cs'.getD (off+k) .undef=cs.getD (off+k) .undef:=by intro k hk p hp hpq cs' hcs;have:=DI.1 h5 k (Gy.2 hk);obtain⟨e,he,heq⟩:=FZ.1 this;rw[Dw]at heq;obtain⟨cs2,g3,g4⟩:=hbox e he (Dx heq.1);rw[g1]at g3;injection g3 with g3;injection g3 with g3;subst g3;obtain⟨cs3,g5,_,g6⟩:=g4 p hp hpq;rw[hcs]at g5;injection g5 with g5;subst g5;rw[Dx heq.2]at g6;exact g6
  have hnd:lastOf y.δ.new q=none:=Adf λhm=>by have:=h3.symm.trans (NF.2 hm);cases this
  have hdl:q∉y.δ.del:=λhm=>by rw[NF.2 hm]at h2;cases h2
  have hnew: ∃ cs',J3 (apply st y.o y.δ).Jr q=some (.box cs')/\cs'.length=cs.length/\ ∀ k,k<n->cs'.getD (off+k) .undef=cs.getD (off+k) .undef:=by
   rw[TF,hnd];dsimp only;rw[Dt hdl];cases hl:lastOf y.δ.upd q with
   | none=>exact⟨cs,g1,rfl,λ_ _=>rfl⟩
   | some z =>have hm:=Aq7 hl;obtain⟨cs',g3,g4,_⟩:=g2 _ hm rfl;dsimp only at g3;subst g3;exact⟨cs',rfl,g4,λk hk=>hcell k hk _ hm rfl _ rfl⟩
  obtain⟨cs',g3,g4,g5⟩:=hnew;have hask: ∀ s,LH x.o s (KD x.o st)=bif pK x.o.op (KD x.o st)then []else [q]:=by intro s;unfold LH;rw[k1]
  refine .inl ⟨k2 ?_ ?_ g4 g5,λf=>(hO f f rfl).2,by rw[hask,hask]⟩
  .rw[ev];unfold L8;rw[Xl,g1]
  .rw[ev];unfold L8;rw[Xl,g3]
def swap {ops:List Oper} {x y:L6} {r:List L6} (hi:indep ops x y=true) (hxF: ∀ n∈x.news,st.fresh n=true) (hyF: ∀ n∈y.news,st.fresh n=true) (h1:Vp y.news x.says=true) (h2:Vp y.news x.keys=true)
 (hs:Srt st.Jr) (h:zF C ops (x::y::r) st st'):zF C ops (y::x::r) st st':=by
 unfold indep at hi;simp only[Dw]at hi;obtain⟨⟨⟨⟨⟨⟨i1,i2⟩,i3⟩,i4⟩,i5⟩,i6⟩,i7⟩:=hi;obtain⟨hx,hy,hr⟩:=h;have hkx: ∀ n,n∈x.keys->n∉y.keys:=MN i6;have hnx: ∀ n∈x.news,n∈x.keys:=λn hn=>DF _ hn
 have cy:=Ary (C:=C) (ops:=ops) (o:=y.o) (s1:=apply st x.o x.δ) (s2:=st)
  (λz hz=>(Als (λt ht=>MN i2 t (iF.2 ht)) hz).symm) (Ai3 (λt ht=>MN i2 t (iF.2 ht))).symm
  (λn hn=>(V9 (λhk=>MN i4 n hk (by rw[<- hy.rd];exact hn))).symm)
  (λn hn=>by rw[hy.step]at hn;exact bC (hyF n hn) (MN h1 n hn) (MN h2 n hn))
  (λn hn=>by rw[hy.step]at hn;exact hyF n hn)
 have cx:=AiS (C:=C) (ops:=ops) (o:=x.o) (s1:=st) (s2:=apply st y.o y.δ)
  (λz hz=>Als (λt ht=>MN i3 t (iF.2 ht)) hz) (Ai3 (λt ht=>MN i3 t (iF.2 ht)))
  (by
    rcases Bool.or_eq_true_iff.1 i5 with i5 | i5
    .exact Aic (λn hn=>V9 (λhk=>MN i5 n hk (by rw[<- hx.rd];exact hn)))
    .exact Au3 hx hy i5)
  (λn hn=>by rw[hx.step]at hn;exact hxF n hn)
  (λn hn=>by rw[hx.step]at hn;exact bC (hxF n hn) (MN i7 n hn) (hkx n (hnx n hn)))
 have hst:apply (apply st y.o y.δ) x.o x.δ =apply (apply st x.o x.δ) y.o y.δ :=by
  have e1:(apply (apply st y.o y.δ) x.o x.δ).tmps=(apply (apply st x.o x.δ) y.o y.δ).tmps:=(put_comm st.tmps x.δ.val y.δ.val (λt ht he=>MN i1 t (iF.2 ht) (iF.2 he))).symm
  have e2:(apply (apply st y.o y.δ) x.o x.δ).Jr=(apply (apply st x.o x.δ) y.o y.δ).Jr:=by
   refine Srt.ext ((hs.apply _ _).apply _ _) ((hs.apply _ _).apply _ _) λk=> ?_;by_cases hk:k∈x.keys
   .have hky:=hkx k hk;rw[V9 (o:=y.o) (δ :=y.δ) hky,TF (apply st y.o y.δ),V9 (o:=y.o) (δ :=y.δ) hky,<- TF st]
   .rw[V9 (o:=x.o) (δ :=x.δ) hk,TF (apply st x.o x.δ),V9 (o:=x.o) (δ :=x.δ) hk,<- TF st]
  generalize apply (apply st y.o y.δ) x.o x.δ =s at *
  generalize apply (apply st x.o x.δ) y.o y.δ =s' at *
  cases s;cases s';dsimp only at e1 e2;rw[e1,e2]
 refine⟨⟨by rw[cy.1,hy.step],by rw[cy.2.1,hy.rd],by rw[cy.2.2,hy.one]⟩,⟨by rw[cx.1,hx.step],by rw[cx.2.1,hx.rd],by rw[cx.2.2,hx.one]⟩,?_⟩;rw[hst];exact hr
structure Pre (R:List L6) (st:St):Prop where
 srt:Srt st.Jr
 fresh: ∀ z∈R,∀ n∈z.news,st.fresh n=true
 pairs:R.Pairwise (λy z=>Vp z.news y.says=true/\Vp z.news y.keys=true)
def Pre.step {y:L6} {R:List L6} (h:Pre (y::R) st):Pre R (apply st y.o y.δ):=by obtain⟨h1,h2⟩:=EK.1 h.pairs;exact⟨h.srt.apply _ _,λz hz n hn=>bC (h.fresh z (Dz _ hz) n hn) (MN (h1 z hz).1 n hn) (MN (h1 z hz).2 n hn),h2⟩
def front {ops:List Oper} {x:L6} {L2:List L6}: ∀(L1:List L6) {st:St},Pre (L1++x::L2) st->(∀ y∈L1,indep ops y x=true)->zF C ops (L1++x::L2) st st'->zF C ops (x::(L1++L2)) st st':=by
 intro L1
 induction L1 with
 | nil=>intro st _ _ h;exact h
 | cons y L1 ih =>intro st hP hi h;have h1:=ih (st:=apply st y.o y.δ) (hP.step) (λz hz=>hi z (Dz _ hz)) h.2;have hx:x∈L1++x::L2:=DF _ Dy;obtain⟨p1,_⟩:=EK.1 hP.pairs;exact swap (hi y Dy) (hP.fresh y Dy) (hP.fresh x (Dz _ hx)) (p1 x hx).1 (p1 x hx).2 hP.srt ⟨h.1,h1⟩
theorem Asa {md:Region.Mode} {e:Edge} (h:Region.binds .any e=true):Region.binds md e=true:=by unfold Region.binds at h ⊢;all_goals grind
def ZY {ops:List Oper} {i:Nat} {x y:L6} (h:bT ops i x y=true):Vp y.news x.says=true/\Vp y.news x.keys=true/\(i∈y.anc\/indep ops x y=true):=by unfold bT at h;simp only[Dw,Ef]at h;exact⟨h.1.1,h.1.2,h.2.imp NF.1 id⟩
def AlA {l:Array Bool} {i:Nat} (h:i<l.size) (b c:Bool):l.getD i b=l.getD i c:=by grind
def Aqc {α :Type} (f: α ->Nat): ∀(l:List α),l≠ []-> ∃ x∈l,∀ y∈l,f x<=f y:=by
 intro l
 induction l with
 | nil=>grind
 | cons a r ih =>
  intro _;by_cases hr:r=[]
  .simp_all
  .grind
def AuF {ρ :Type} (hC:MX P C) {ops:Array Oper} {md:Region.Mode} {Q:Exit->Act->World->Prop} {v: ρ} {K:St->Option ρ} (hQ: ∀ O' m' st' a' w',Sim V0 O0 w0 O' m' st' a' w'->K st'=some v->Q .normal a' w')
 {ANC:List (List Nat)} (hanc: ∀(j:Nat) (o:Oper),ops[j]? =some o-> ∀ i∈ANC.getD j [],∃ e∈Yr o,i=e\/i∈ANC.getD e []) {rk:Nat->Nat} (hback: ∀(j:Nat) (o:Oper),ops[j]? =some o-> ∀ e∈o.after,Region.binds md e=true->e.on<ops.size/\rk e.on<rk j) :
 ∀(fuel:Nat) (R:List (Nat×L6)) (listed:Array Bool) {O:Own} {m:Nat->Value} {st:St} {a:Act} {w:World},R.length=fuel->R.Pairwise (λp q=>p.1<q.1) ->
  (∀ p∈R,ops[p.1]? =some p.2.o/\J6 p.2.δ.ok/\p.2.anc=ANC.getD p.1 [])->listed.size=ops.size->(∀ i,i<ops.size->(listed.getD i true=false↔i∈R.map (·.1))) ->
  (∀ e,listed.getD e false=true-> ∀ i∈ANC.getD e [],listed.getD i false=true)->R.Pairwise (λp q=>bT ops.toList p.1 p.2 q.2=true)->(∀ p∈R,∀ n∈p.2.news,st.fresh n=true)->Srt st.Jr ->
  zF C ops.toList (R.map (·.2)) st st'->K st'=some v->Sim V0 O0 w0 O m st a w->wpAny P md ops Q fuel listed a w:=by
 intro fuel
 induction fuel with
 | zero =>
  intro R listed O m st a w hlen _ _ hsz hl _ _ _ _ hruns hK hS;have hR:R=[]:=Gt.1 hlen;subst hR;refine⟨?_,?_⟩
  .rw[List.eq_nil_iff_forall_not_mem];intro i hi;obtain⟨h1,o,h2,_⟩:=mem_ready.1 hi;have hlt:=(DX.1 h2).1;have:=(hl i hlt).1 h1;simp at this
  .have:st=st':=hruns;subst this;exact hQ _ _ _ _ _ hS hK
 | succ fuel ih =>
  intro R listed O m st a w hlen hord hops hsz hl hcl hpr hfr hsrt hruns hK hS;have hin: ∀ p∈R,p.1<ops.size:=λp hp=>(DX.1 (hops p hp).1).1;refine⟨λhnil=> ?_,λi hi=> ?_⟩
  .exfalso;obtain⟨p,hpR,hmin⟩:=Aqc (λq:Nat×L6=>rk q.1) R (by intro h;rw[h]at hlen;simp at hlen);have hp:=hin p hpR
   have:p.1∈Region.ready md ops listed:=by
    refine mem_ready.2 ⟨(hl p.1 hp).2 (DK.2 ⟨p,hpR,rfl⟩),p.2.o,(hops p hpR).1,λe he hb=> ?_⟩;obtain⟨hsize,hlt⟩:=hback _ _ (hops p hpR).1 e he hb;have hno:e.on∉R.map (·.1):=by intro hm;obtain⟨q,hq,hqe⟩:=DK.1 hm;have:=hmin q hq;rw[hqe]at this;omega
    have:listed.getD e.on true≠false:=λh=>hno ((hl e.on hsize).1 h);rw[AlA (by rw[hsz];exact hsize) false true];simpa using this
   rw[hnil]at this;cases this
  .obtain⟨hi1,oi,hi2,hi3⟩:=mem_ready.1 hi;have hilt:=(DX.1 hi2).1;obtain⟨p,hp,rfl⟩:=DK.1 ((hl i hilt).1 hi1);obtain⟨L1,L2,rfl⟩:=List.append_of_mem hp;obtain⟨i,x⟩:=p;dsimp only at hi hi1 hi2 hi3 hilt ⊢;obtain⟨hx1,hx2,hx3⟩:=hops (i,x) hp;dsimp only at hx1 hx2 hx3
   have hancl: ∀ j∈ANC.getD i [],listed.getD j false=true:=by
    intro j hj;obtain⟨e,he,hje⟩:=hanc i _ hx1 j hj;have hel:listed.getD e false=true:=by unfold Yr at he;obtain⟨ed,hed,hb⟩:=GM.1 he;all_goals grind[Asa]
    rcases hje with rfl | hje
    .exact hel
    .exact hcl e hel j hje
   have hord':=IV.1 hord;have hpr':=IV.1 hpr;have hind: ∀ q∈L1,bT ops.toList q.1 q.2 x=true/\indep ops.toList q.2 x=true:=by intro q hq;have hpq:=hpr'.2.2 q hq (i,x) Dy;dsimp only at hpq;refine⟨hpq,(ZY hpq).2.2.resolve_left λhm=> ?_⟩;rw[hx3]at hm;have h1:=hancl _ hm;have hqR:q∈L1++(i,x)::L2:=DJ _ hq;have hqlt:=hin q hqR;have h2:=(hl q.1 hqlt).2 (DK.2 ⟨q,hqR,rfl⟩);rw[AlA (by rw[hsz];exact hqlt) true false,h1]at h2;cases h2
   have hPre:Pre ((L1++(i,x)::L2).map (·.2)) st:=by
    refine⟨hsrt,λz hz n hn=> ?_,?_⟩
    .obtain⟨q,hq,rfl⟩:=DK.1 hz;exact hfr q hq n hn
    .rw[List.pairwise_map];exact hpr.imp λh=>⟨(ZY h).1,(ZY h).2.1⟩
   have hfront:zF C ops.toList (x::(L1.map (·.2)++L2.map (·.2))) st st':=by refine front (L1.map (·.2)) (by simpa using hPre) (λy hy=> ?_) (by simpa using hruns);obtain⟨q,hq,rfl⟩:=DK.1 hy;exact(hind q hq).2
   obtain⟨hstep,hrest⟩:=hfront;have hsub:List.Sublist (L1++L2) (L1++(i,x)::L2):=List.Sublist.append_left (List.sublist_cons_self _ _) _
   have hnext: ∀ O' m' a' w',Sim V0 O0 w0 O' m' (apply st x.o (KI C ops.toList x.o st)) a' w'->wpAny P md ops Q fuel (listed.setIfInBounds i true) a' w':=by
    intro O' m' a' w' hS';rw[hstep.step]at hS';refine ih (L1++L2) _ (by simp at hlen ⊢;omega) (hord.sublist hsub) (λq hq=>hops q (hsub.subset hq)) (by simpa using hsz) (λj hj=> ?_) (λe he j hj=> ?_) (hpr.sublist hsub) (λq hq n hn=> ?_) (hsrt.apply _ _) (by simpa using hrest) hK hS'
    .by_cases hji:i=j
     .subst hji;have h1:(listed.setIfInBounds i true).getD i true=true:=by simp [Dv,hsz,hj]
      rw[h1];refine⟨λh=>(by cases h),λh=> ?_⟩;obtain⟨q,hq,hqi⟩:=DK.1 h;rcases DN.1 hq with hq | hq
      .have:=hord'.2.2 q hq (i,x) Dy;dsimp only at this;omega
      .have:=(EK.1 hord'.2.1).1 q hq;dsimp only at this;omega
     .rw[getD_set_ne true hji,hl j hj];simp only[Fb,Em,DN,D7];constructor
      .rintro (h | h | h)
       .exact .inl h
       .exact absurd h.symm hji
       .exact .inr h
      .rintro (h | h)
       .exact .inl h
       .exact .inr (.inr h)
    .by_cases hei:i=e
     .subst hei;exact getD_set_true (hancl j hj)
     .rw[getD_set_ne false hei]at he;exact getD_set_true (hcl e he j hj)
    .have hq':=hsub.subset hq;have hf:=hfr q hq' n hn;rcases DN.1 hq with hq | hq
     .have hi':=(hind q hq).2;unfold indep at hi';simp only[Dw]at hi';exact bC hf (MN hi'.2 n hn) (MN hi'.1.2 n (DF _ hn))
     .have hpq:=ZY ((EK.1 hpr'.2.1).1 q hq);exact bC hf (MN hpq.1 n hn) (MN hpq.2.1 n hn)
   have hw:=Ags hC hS (ops:=ops) (o:=x.o) (by rw[hstep.step];exact hx2) (wpAny P md ops Q fuel (listed.setIfInBounds i true)) Q hnext;unfold wpOp;rw[hx1];dsimp only;split
   .rename_i hwt;rw[Du hwt]at hw;exact .inl hw
   .rename_i hwt;rw[Dt hwt]at hw;exact hw
end
end Go.Proofs.YtacidcemomccpaaGreatDoor.Vm
