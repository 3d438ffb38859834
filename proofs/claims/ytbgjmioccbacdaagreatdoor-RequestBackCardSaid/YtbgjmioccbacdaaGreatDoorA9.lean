import Derived.Test.YtbgjmioccbacdaaGreatDoorA8
import Derived.Tactics
import Derived.Scope
import Derived.LoopN
import Derived.Orders
set_option linter.all false
namespace Go.Proofs.YtbgjmioccbacdaaGreatDoor.Vm
open Classical
def uN {o1 o2:Oper} {c:Clo} (h:AaM o1 o2=some c):c.o=o1/\c.q=o2/\o1.guard=none/\o2.guard=none/\o1.dst=some c.t/\o2.dst=some c.u/\o2.op= .makeFunc (.func c.f) #[.tmp c.t] #[]/\AmZ o1.op=some c.b:=by
 unfold AaM at h;split at h
 .rename_i t u b f fi ca h1 h2 h3 h4 h5 h6;split at h
  .rename_i t' hf;cases hb:Nat.beq t' t with
   | false=>rw[hb]at h;cases h
   | true =>
    rw[hb]at h;injection h with h;subst h;have ht:=Dp hb;subst ht;refine⟨rfl,rfl,h1,h2,h3,h4,?_,h5⟩;unfold AqG at h6;split at h6
    .rename_i f' fi' ca' ho;injection h6 with h6;injection h6 with e1 e2;injection e2 with e2 e3;subst e1
     have e4:fi'= #[.tmp t']:=by
      have:fi'.toList=[.tmp t']:=by
       rw[e2];unfold Amy at hf;split at hf
       .rename_i x;injection hf with hf;rw[hf]
       .cases hf
      exact G9.1 (by rw[this])
     have e5:ca'= #[]:=G9.1 (by rw[e3]);rw[ho,e4,e5]
    .cases h6
  .cases h
 .cases h
def Ar1: ∀(n:Nat) (l:List Oper),l.length<=n->l=((AaN l).1.flatMap fun c=>[c.o,c.q])++(AaN l).2/\ ∀ c∈(AaN l).1,AaM c.o c.q=some c:=by
 intro n
 induction n with
 | zero =>
  intro l h;cases l with
  | nil=>exact⟨rfl,fun c hc=>by cases hc⟩
  | cons o r=>simp at h
 | succ n ih =>
  intro l h
  match l,h with
  | [],_=>exact⟨rfl,fun c hc=>by cases hc⟩
  | [o],_=>exact⟨rfl,fun c hc=>by cases hc⟩
  | o1::o2::r,h =>
   simp only[AaN];cases hc:AaM o1 o2 with
   | none=>exact⟨rfl,fun c hc=>by cases hc⟩
   | some c =>
    obtain⟨g1,g2⟩:=ih r (by simp at h;omega);obtain⟨e1,e2,_⟩:=uN hc;refine⟨?_,fun c' hc'=> ?_⟩
    .dsimp only;rw[FD,e1,e2];exact congrArg (fun x=>o1::o2::x) g1
    .rcases Dz.1 hc' with rfl | hc'
     .rw[e1,e2];exact hc
     .exact g2 c' hc'
def nD {cs:List Clo} {q o:Oper} {r:List Oper} {e:Each} (h:Agm cs q o r=some e):e.cs=cs/\e.q=q/\e.o=o/\e.rest=r/\q.guard=none/\o.guard=none/\q.dst=some e.v /\
 (∃ ps:Array (Nat×Operand),q.op= .buildSlice e.ty cs.length ps/\Abn ps.toList cs 0=true)/\(∃ ts,o.op= .call ⟨.value (.func e.e),#[.tmp e.v],ts⟩)/\nodup (e.v::PW cs)=true:=by
 unfold Agm at h;split at h
 .rename_i v t n ps f args h1 h2 h3 h4 h5;split at h
  .rename_i v' hv;cases hb:(Nat.beq v' v&&Nat.beq n cs.length&&Abn ps cs 0&&nodup (v::PW cs))with
   | false=>rw[hb]at h;cases h
   | true =>
    rw[hb]at h;injection h with h;subst h;simp only[Dq]at hb;obtain⟨⟨⟨b1,b2⟩,b3⟩,b4⟩:=hb;have b1:=Dp b1;have b2:=Dp b2;subst b1;refine⟨rfl,rfl,rfl,rfl,h1,h2,h3,?_,?_,b4⟩
    .unfold Ake at h4;split at h4
     .rename_i t' n' ps' ho;injection h4 with h4;injection h4 with e1 e2;injection e2 with e2 e3;subst e1;subst e2;exact⟨ps',by rw[ho,b2],by rw[e3];exact b3⟩
     .cases h4
    .unfold AmR at h5;split at h5
     .rename_i f' args' ts ho;injection h5 with h5;injection h5 with e1 e2;subst e1;refine⟨ts,?_⟩
      have:args'= #[.tmp v']:=G9.1 (by
       rw[e2];unfold Amy at hv;split at hv
       .rename_i x;injection hv with hv;rw[hv]
       .cases hv)
      rw[ho,this]
     .cases h5
  .cases h
 .cases h
def Aaa {l:List Oper} {e:Each} (h:aP l=some e):l=(e.cs.flatMap fun c=>[c.o,c.q])++e.q::e.o::e.rest/\(∀ c∈e.cs,AaM c.o c.q=some c)/\Agm e.cs e.q e.o e.rest=some e/\e.cs≠ []:=by
 unfold aP at h;obtain⟨h1,h2⟩:=Ar1 l.length l (DW _);split at h
 .rename_i c cs q o r hc;obtain⟨e1,e2,e3,e4,_⟩:=nD h;rw[hc]at h1 h2;rw[e1,e2,e3,e4];exact⟨h1,h2,h,fun h'=>by cases h'⟩
 .cases h
section
variable {P:Program} {C:Ctx} {V0:Nat->Value} {O0 O:Own} {w0 w:World} {m:Nat->Value} {st:St} {a:Act}
theorem Sim.MH (hS:Sim V0 O0 w0 O m st a w) (t:Nat) (v:Value):Sim V0 O0 w0 O m (MH t st) (a.put (some t) v) w:=hS.put (some t) (x:=.undef) trivial
theorem AfS {ρ :Type} (hC:MV P C) {ops:Array Oper} {Q:Exit->Act->World->Prop} {v: ρ} {K:St->Option ρ} {l:List Oper}: ∀(cs:List Clo) {st:St} {a:Act},(∀ c∈cs,AaM c.o c.q=some c)->nodup (PW cs)=true->Sim V0 O0 w0 O m st a w->ZT C cs st K=some v ->
 (∀ st' a',Sim V0 O0 w0 O m st' a' w->K st'=some v->(∀ c∈cs,c.t<a'.tmps.size/\c.u<a'.tmps.size/\a'.tmps.getD c.u undef= .func (.func c.f) #[a'.tmps.getD c.t undef] #[])->(∀ t,t∉PW cs->a'.tmps.getD t undef=a.tmps.getD t undef)->a'.tmps.size=a.tmps.size->wpList P ops Q l a' w) ->
 wpList P ops Q ((cs.flatMap fun c=>[c.o,c.q])++l) a w:=by
 intro cs
 induction cs with
 | nil=>intro st a _ _ hS h hK;exact hK st a hS h (fun c hc=>by cases hc) (fun _ _=>rfl) rfl
 | cons c cs ih =>
  intro st a hcs hnd hS h hK;obtain⟨_,_,g1,g2,g3,g4,g5,g6⟩:=uN (hcs c Du);obtain⟨hok,h⟩:=QP h;obtain⟨hu,hok⟩:=hok.cons;obtain⟨ht,hok⟩:=hok.cons;rw[Ep]at hu ht
  have hnd':c.t≠c.u/\c.t∉PW cs/\c.u∉PW cs/\nodup (PW cs)=true:=by
   have h1:nodup (c.t::c.u::PW cs)=true:=hnd;simp only[nodup,Dq,Ef]at h1;obtain⟨h2,h3,h4⟩:=h1;refine⟨fun e=> ?_,fun e=> ?_,fun e=> ?_,h4⟩
   .have:has (c.u::PW cs) c.t=true:=NC.2 (by rw[e];exact Du);rw[h2]at this;cases this
   .have:has (c.u::PW cs) c.t=true:=NC.2 (Dy _ e);rw[h2]at this;cases this
   .have:has (PW cs) c.u=true:=NC.2 e;rw[h3]at this;cases this
  have hp:Pure P O st.Jp m a w c.o (jZ C st c):=by
   unfold jZ at hok ⊢;split at hok
   .rename_i t s ho;exact vX hC.T (fun q x hq=>⟨hq,hS.Jp q x hq⟩) ho (aT hS (.tmp s)) hok
   .rename_i s ho;exact⟨⟨_,by simp [execOp,ho],aT hS (.tmp s)⟩,rfl,rfl,rfl⟩
   .exact(JE hok).elim
  obtain⟨x,hr,hx⟩:=hp.run;have hS1:=hS.put (some c.t) hx;have hS2:=hS1.MH c.u (.func (.func c.f) #[x] #[]);have hsz:a.tmps.size=st.tmps.length:=hS.size;show wpList P ops Q (c.o::c.q::((cs.flatMap fun c=>[c.o,c.q])++l)) a w;have w1: ∀(y:Oper) (a:Act),y.guard=none->Region.wanted y (yielded ops a.tmps)=true:=fun y a hy=>by simp [Region.wanted,hy]
  refine wpList_step fun k hk=> ?_;rw[Dw (w1 _ _ g1)];unfold Oper.wp;rw[hr,Oper.upon_value,g3];refine hk _ _ (wpList_step fun k hk=> ?_);rw[Dw (w1 _ _ g2)];unfold Oper.wp;have e1:(a.put (some c.t) x).eval (.tmp c.t)=x:=by show(a.put (some c.t) x).tmps.getD c.t undef=x;rw[Ug _ _ _ _ (by omega),Dw rfl]
  have hr2:(execOp (a.put (some c.t) x).eval c.q).run P w= .ok (.value (.func (.func c.f) #[x] #[])) w:=by simp [execOp,g5,Instr.makeFunc,e1]
  rw[hr2,Oper.upon_value,g4];refine hk _ _ (ih (fun c' hc'=>hcs c' (Dy _ hc')) hnd'.2.2.2 hS2 h fun st' a' hS' hK' hcs' hfr hz'=> ?_)
  have hsz': ∀ t,((a.put (some c.t) x).put (some c.u) (.func (.func c.f) #[x] #[])).tmps.getD t undef=if t=c.u/\t<a.tmps.size then .func (.func c.f) #[x] #[]else if t=c.t/\t<a.tmps.size then x else a.tmps.getD t undef:=by
   intro t;rcases Ec t a.tmps.size with hlt | hge
   .rw[Ug _ _ _ _ (by rw[Uh];exact hlt),Ug _ _ _ _ hlt];by_cases e:t=c.u
    .rw[Dw (by rw[e]),Dw ⟨e,hlt⟩]
    .rw[Dt (c:=some c.u=some t) (fun h=>e (Fp h).symm),Dt (c:=t=c.u/\t<a.tmps.size) (fun h=>e h.1)];by_cases e:t=c.t
     .rw[Dw (by rw[e]),Dw ⟨e,hlt⟩]
     .rw[Dt (c:=some c.t=some t) (fun h=>e (Fp h).symm),Dt (c:=t=c.t/\t<a.tmps.size) (fun h=>e h.1)]
   .rw[AvH,AvH];have e3:((a.put (some c.t) x).put (some c.u) (.func (.func c.f) #[x] #[])).tmps.size=a.tmps.size:=by rw[Uh,Uh]
    rw[Dn,FP (by omega),Dn,FP (by omega)]
  have hz:a'.tmps.size=a.tmps.size:=by rw[hz',Uh,Uh]
  refine hK st' a' hS' hK' (fun c' hc'=> ?_) (fun t ht'=> ?_) hz
  .rcases Dz.1 hc' with rfl | hc'
   .rw[hfr c'.u hnd'.2.2.1,hfr c'.t hnd'.2.1,hsz',hsz',Dw ⟨rfl,by omega⟩,Dt (fun h=>hnd'.1 h.1),Dw ⟨rfl,by omega⟩];exact⟨by omega,by omega,rfl⟩
   .exact hcs' c' hc'
  .have h1:t∉c.t::c.u::PW cs:=ht';simp only[Dz,not_or]at h1;rw[hfr t h1.2.2,hsz',Dt (fun h=>h1.2.1 h.1),Dt (fun h=>h1.1 h.1)]
theorem AtH {cl:Clo->Value} (hcl: ∀ c,(cl c).cells= #[cl c]): ∀(ps:List (Nat×Operand)) (cs:List Clo) (i0:Nat) (z:Array Value),Abn ps cs i0=true->(∀ c∈cs,a.tmps.getD c.u undef=cl c)->i0+cs.length<=z.size ->
 ∃ r,Instr.fill (fun i=>some (i*1,1)) z (ps.map fun p=>(p.1,a.eval p.2))=some r/\r.size=z.size/\(∀ j c,cs[j]? =some c->r[i0+j]? =some (cl c))/\ ∀ j,j<i0->r[j]? =z[j]? :=by
 intro ps
 induction ps with
 | nil =>
  intro cs i0 z h _ _;cases cs with
  | nil=>exact⟨z,rfl,rfl,fun j c h=>by simp at h,fun _ _=>rfl⟩
  | cons c cs=>cases h
 | cons p ps ih =>
  intro cs i0 z h hc hz;obtain⟨k,x⟩:=p;cases cs with
  | nil=>cases h
  | cons c cs =>
   simp only[Abn]at h;cases x with
   | tmp u =>
    simp only[Dq]at h;obtain⟨⟨h1,h2⟩,h3⟩:=h;have h1:=Dp h1;have h2:=Dp h2;subst h1;subst h2;have e1:a.eval (.tmp c.u)=cl c:=hc c Du;rw[List.length_cons]at hz;obtain⟨r,r1,r2,r3,r4⟩:=ih cs (k+1) (z.setIfInBounds k (cl c)) h3 (fun c' hc'=>hc c' (Dy _ hc')) (by rw[Hl];omega);refine⟨r,?_,by rw[r2,Hl],fun j c' hj=> ?_,fun j hj=> ?_⟩
    .rw[Eb,e1];unfold Instr.fill;have hs:(cl c).cells.size=1:=by rw[hcl];rfl
     have hf: ¬((cl c).cells.size≠1\/k*1+(cl c).cells.size>z.size):=by rw[hs];omega
     simp only[Gs,DJ];rw[Dt hf,hcl];have:(#[cl c]:Array Value).zipIdx.foldl (fun cs (c,j)=>cs.setIfInBounds (k*1+j) c) z=z.setIfInBounds k (cl c):=by simp
     rw[this];exact r1
    .cases j with
     | zero =>simp at hj;subst hj;rw[Nat.add_zero,r4 k (by omega),Array.getElem?_setIfInBounds_self_of_lt (by omega)]
     | succ j =>have:=r3 j c' (by simpa using hj);rw[show k+(j+1)=k+1+j by omega];exact this
    .rw[r4 j (by omega),Array.getElem?_setIfInBounds_ne (by omega)]
   | _=>cases h
theorem An0 {t:Nat} (h:AkX C t=true): ∃ ti e te,C.T t=some ti/\ti.d= .slice e/\C.T e=some te/\te.cs.length=1:=by
 unfold AkX at h;cases h1:C.T t with
 | none=>rw[h1]at h;cases h
 | some ti =>
  rw[h1]at h;dsimp only at h;cases h2:elem? ti.d with
  | none=>rw[h2]at h;cases h
  | some e =>
   rw[h2]at h;dsimp only at h;cases h3:C.T e with
   | none=>rw[h3]at h;cases h
   | some te =>
    rw[h3]at h;rw[Dq]at h;refine⟨ti,e,te,rfl,?_,h3,Dp h.1⟩;unfold elem? at h2;split at h2
    .rename_i e' he;injection h2 with h2;rw[he,h2]
    .cases h2
theorem Aso (hC:TOk P C) {t n:Nat} {ps:Array (Nat×Operand)} {q:Oper} {cs:List Clo} (hq:q.op= .buildSlice t n ps) (hn:n=cs.length) (h0:0<n) (h1000:n<=1000) (ht:AkX C t=true) (hp:Abn ps.toList cs 0=true) {cl:Clo->Value} (hcl: ∀ c,(cl c).cells= #[cl c]) (hc: ∀ c∈cs,a.tmps.getD c.u undef=cl c) :
 ∃(r:Array Value) (e:Nat),(execOp a.eval q).run P w= .ok (.value (.slice (some (at' w.heap.size 0)) n n)) (w.alloc (.cells r e))/\ ∀(j:Nat) (c:Clo),cs[j]? =some c->r[j]? =some (cl c):=by
 obtain⟨ti,e,te,h1,h2,h3,h4⟩:=An0 ht;have hT:=hC.is h3;obtain⟨i,z,g1,g2,g3,g4,g5,g6⟩:=hT.i;have hu:=(hC.is h1).d;rw[h2]at hu;have hzs:(zeros z n).size=n:=by simp [zeros]
 obtain⟨r,r1,r2,r3,r4⟩:=AtH hcl ps.toList cs 0 (zeros z n) hp hc (by rw[hzs];omega);refine⟨r,e,?_,fun j c hj=>by have:=r3 j c hj;rwa [DR]at this⟩;have hbig: ¬(16777216<n*1):=by omega
 simp only[execOp,hq,D8,Instr.buildSlice,DL hu,Result.andThen_ok,hT.OC,h4];rw[Dt (by simpa using hbig)];have h0': ¬ n*1=0:=by omega
 simp only[Dt h0',D8,Sem.run_pure,Result.andThen_ok,zeroValue,typeInfo,run_program,g1,g4];have hz0:(Array.range (n*1)).map (z.cells[· % z.cells.size]!)=zeros z n:=by rw[EU];rfl
 rw[hz0];have hm:(ps.map (fun(x:Nat×Operand)=>(x.1,a.eval x.2))).toList=ps.toList.map fun p=>(p.1,a.eval p.2):=by simp
 rw[hm,r1];rfl
theorem Sim.AsO (hS:Sim V0 O0 w0 O m st a w) (x:Go.Obj) (t:Nat) (v:Value): ∃ O',Sim V0 O0 w0 O' m (Vm.MH t st) (a.put (some t) v) (w.alloc x)/\ ∀ k,O' w.heap.size k=none:=by
 refine⟨fun b k=>if b<w.heap.size then O b k else none,?_,fun k=>Dt (Ii _)⟩;have hM:Moves O (fun _=>False) w (w.alloc x):=⟨rfl,rfl,rfl,by simp,fun b hb=>.inl (Array.getElem?_push_lt hb |>.trans (D6 hb).symm)⟩
 refine hS.next (T:=fun _=>False) (Nw:=fun _=>False) (x:=.undef) hM ⟨fun b k hb h=>by rw[Dw hb];exact h,fun b k q hb h _=>by rw[Dw hb];exact h⟩ (fun b k hb h=>by rw[Dw hb]at h;exact h) (fun i y hy=>.inr ⟨y,hy,rfl,rfl⟩) (fun _ h=>h.elim) (fun _ h=>h.elim) (fun o y hy=>.inl ⟨fun h=>h,hy,rfl⟩) rfl (fun _=>trivial)
theorem AnF {x r:Nat} {y:A} (h:Ahv x r y=true):y= .agg [.ptr x 0,.ptr r 0]:=by
 unfold Ahv at h;split at h
 .rw[Dq]at h;rw[Dp h.1,Dp h.2]
 .cases h
theorem AnG {r:Nat} {y:A} (h:Ahw r y=true):y= .ptr r 0:=by
 unfold Ahw at h;split at h
 .rw[Dp h]
 .cases h
theorem AhT (hS:Sim V0 O0 w0 O m st a w) {x:Nat} (hb:(Lp st.Jp x).isSome=true) {v:Value} (h:JF O st.Jp m w v (.ptr x 0)):v=m x:=by obtain⟨cs,hc⟩:=Ez.1 hb;have h2:=h.2;rw[KX hc]at h2;obtain⟨b,base,h3,h4⟩:=h2;rw[h3,h4];rfl
theorem Ase (hS:Sim V0 O0 w0 O m st a w) {x r:Nat} (hx:(Lp st.Jp x).isSome=true) (hr:(Lp st.Jp r).isSome=true) {v:Value} (h:J8 O st.Jp m w v (.agg [.ptr x 0,.ptr r 0])):v= .agg #[m x,m r]:=by
 obtain⟨vs,h1,h2,h3⟩:=h;have h2:vs.size=2:=h2;have e0:=AhT hS hx (h3 0 (by simp));have e1:=AhT hS hr (h3 1 (by simp));rw[h1];congr 1;apply Fe (by simpa using h2);intro i h4 h5;have:i=0\/i=1:=by omega
 rcases this with rfl | rfl
 .have e:vs.getD 0 undef=vs[0]:=by simp [Dn,h2]
  rw[<- e];exact e0
 .have e:vs.getD 1 undef=vs[1]:=by simp [Dn,h2]
  rw[<- e];exact e1
theorem AlO {ρ :Type} (hC:MV P C) {ops:Array Oper} {Q:Exit->Act->World->Prop} {v: ρ} {K:St->Option ρ} (hK: ∀(l:List Oper) {O:Own} {m:Nat->Value} {st:St} {a:Act} {w:World},Sim V0 O0 w0 O m st a w->VD C ops.toList l st K=some v->wpList P ops Q l a w)
 (hS:Sim V0 O0 w0 O m st a w) (h:oK C ops.toList ops.toList st K=some v):wpList P ops Q ops.toList a w:=by
 unfold oK at h;cases he:aP ops.toList with
 | none=>rw[he]at h;exact hK _ hS h
 | some e =>
  rw[he]at h;dsimp only at h;obtain⟨h1,h2,h3,h4⟩:=Aaa he;obtain⟨_,_,_,_,q1,q2,q3,⟨ps,q4,q5⟩,⟨ts,q6⟩,q7⟩:=nD h3;rw[h1];have hnd:(e.v∉PW e.cs)/\nodup (PW e.cs)=true:=by simp only[nodup,Dq,Ef]at q7;refine⟨fun hm=> ?_,q7.2⟩;have:=NC.2 hm;rw[q7.1]at this;cases this
  refine AfS hC e.cs h2 hnd.2 hS h fun st1 a1 hS1 hk1 hcs _ _=> ?_;obtain⟨hok,hk1⟩:=QP hk1;unfold yE at hok hk1;cases hp:Aom ((MH e.v st1).tmps.getD (firstT e.cs) .undef)with
  | none=>rw[hp]at hok;exact(JE hok).elim
  | some xr =>
   obtain⟨x,r⟩:=xr;rw[hp]at hok hk1;cases hg:C.each e.e (e.cs.map fun c=>(c.f,c.b))with
   | none=>rw[hg]at hok;exact(JE hok).elim
   | some sg =>
    rw[hg]at hok hk1;dsimp only at hok hk1;unfold AqM at hok hk1;dsimp only at hok hk1;obtain⟨f1,hok⟩:=hok.cons;obtain⟨f2,hok⟩:=hok.cons;obtain⟨f3,hok⟩:=hok.cons;obtain⟨f4,hok⟩:=hok.cons;obtain⟨f5,hok⟩:=hok.cons;obtain⟨f6,hok⟩:=hok.cons;obtain⟨f7,hok⟩:=hok.cons;obtain⟨hokA,hokB⟩:=hok.append;obtain⟨hB1,hB2⟩:=hokB.cons;have hB2:=hB2.cons.1;rw[Ep]at f2;have f3:=DI f3;have f4:=Dp f4
    have hlen:0<e.cs.length:=by
     rcases GU e.cs.length with h | h
     .exact absurd (Ht.1 h) h4
     .exact h
    have w1: ∀(y:Oper) (a:Act),y.guard=none->Region.wanted y (yielded ops a.tmps)=true:=fun y a hy=>by simp [Region.wanted,hy]
    let cl:Clo->Value:=fun c=>.func (.func c.f) #[a1.tmps.getD c.t undef] #[];obtain⟨row,ty,hrun,hrow⟩:=Aso (P:=P) (w:=w) hC.T q4 rfl hlen f3 f1 q5 (cl:=cl) (fun _=>rfl) (fun c hc=>(hcs c hc).2.2);refine wpList_step fun k hk=> ?_;rw[Dw (w1 _ _ q1)];unfold Oper.wp;rw[hrun,Oper.upon_value,q3];refine hk _ _ ?_;obtain⟨O2,hS2,hO2⟩:=hS1.AsO (.cells row ty) e.v (.slice (some (at' w.heap.size 0)) e.cs.length e.cs.length);refine wpList_step fun k hk=> ?_;rw[Dw (w1 _ _ q2)];generalize hV:(Value.slice (some (at' w.heap.size 0)) e.cs.length e.cs.length)=V at hS2 ⊢
    have hev:(a1.put (some e.v) V).eval (.tmp e.v)=V:=by
     have hz:=hS1.size
     have:e.v<a1.tmps.size:=by
      rw[hz];have e1:(MH e.v st1).tmps.length=st1.tmps.length:=by simp [MH]
      omega
     show(a1.put (some e.v) V).tmps.getD e.v undef=V;rw[Ug _ _ _ _ this,Dw rfl]
    have hE:=hC.each _ _ _ hg;have hexec:(execOp (a1.put (some e.v) V).eval e.o).run P (w.alloc (.cells row ty))= .ok (.enter e.e #[V]) (w.alloc (.cells row ty)):=by simp only[execOp,q6,resolve,Deferred.ofValue,D8,Sem.run_pure,Result.andThen_ok,invoke,Act.eval];have:=hE.1 #[V] (w.alloc (.cells row ty));have hev':(a1.put (some e.v) V).tmps.getD e.v undef=V:=hev;simpa [hev',Act.eval]using this
    unfold Oper.wp;rw[hexec,Oper.upon_enter]
    have tied': ∀ c∈e.cs,a1.tmps.getD c.t undef=if c.b then .agg #[m x,m r]else m r:=by
     intro c hc;have hu:c.t≠e.v:=fun h=>hnd.1 (by rw[<- h];exact DX.2 ⟨c,hc,Du⟩);have ht:=(D7.1 f5) c hc;have hlt:=(hcs c hc).1
     have hr1:=hS2.tmps c.t (by
      have e1:(MH e.v st1).tmps.length=st1.tmps.length:=by simp [MH]
      rw[e1,<- hS1.size];exact hlt)
     rw[Ug _ _ _ _ hlt,Dt (fun h=>hu (Fp h).symm)]at hr1;unfold tied at ht;cases hb:c.b with
     | true =>rw[hb]at ht;rw[AnF ht]at hr1;exact Ase hS2 f6 f7 hr1
     | false =>rw[hb]at ht;rw[AnG ht]at hr1;exact AhT hS2 f7 hr1
    have hx2: ∀ z,(Lp (MH e.v st1).Jp z).isSome=true->J8 O2 (MH e.v st1).Jp m (w.alloc (.cells row ty)) (m z) (.ptr z 0):=by intro z hz;obtain⟨cs,hc⟩:=Ez.1 hz;have ho:=hS2.Jp z _ (KX hc);obtain⟨b,base,k1,_⟩:=ho;refine⟨by rw[k1];rfl,?_⟩;rw[KX hc];exact⟨b,base,k1,by rw[k1];rfl⟩
    refine(AeN (o:=e.o) (X:=fun R=>Calls P e.e #[V] (w.alloc (.cells row ty)) fun(en:Ending) w'=> ∃ v,en= .returned v/\R v w') (av:= #[m x,m r]) hS2 (fun R O' xs rs hpr i1 i2 i3 i4 i5 i6 i7=> ?_) (Y2 _ _) (by rfl) (fun j hj=> ?_) hokA (fun p hp=>(D7.1 hB1) p hp) hB2 (fun v w'=>k ((a1.put (some e.v) V).put e.o.dst v) w') (fun O' m' v w' hS'=>hk _ _ (hK _ hS' hk1))).mono (by rintro en w' ⟨v,rfl,h⟩;exact h)
    .have hl:(e.cs.map fun c=>(c.f,c.b)).length=e.cs.length:=by simp
     have:=hE.2 O' (w.alloc (.cells row ty)) #[m x,m r] xs rs w.heap.size i1 i2 i3 i4 i5 (fun i p hp=> ?_) i6
     .rw[hl,hV]at this;exact this.mono fun en w' ⟨v,Of,h1,h2⟩=>⟨v,h1,i7 v Of w' h2⟩
     .rw[Ed]at hp;cases hc:e.cs[i]? with
      | none=>rw[hc]at hp;cases hp
      | some c =>
       rw[hc]at hp;injection hp with hp;subst hp;have hcell:(w.alloc (.cells row ty)).cell? (at' w.heap.size i)=some (cl c):=by simp [go_sem,hrow i c hc]
       refine⟨hpr _ _ _ (hO2 i) hcell,hcell.trans (congrArg some ?_)⟩;show Value.func (.func c.f) #[a1.tmps.getD c.t undef] #[]=Value.func (.func c.f) (Uu c.b #[m x,m r]) #[];rw[tied' c (FB hc)];cases c.b<;>rfl
    .have:j=0\/j=1:=by simp at hj;omega
     rcases this with rfl | rfl
     .exact hx2 x f6
     .exact hx2 r f7
end
section
variable {P:Program} {C:Ctx} {V0:Nat->Value} {O0 O:Own} {w0 w:World} {m:Nat->Value} {st:St} {a:Act}
theorem Akt {C:Ctx} {o:Oper} {f:Nat} {q:Alt} (h:Zw C o=some (f,q)):C.alt f=some q:=by
 unfold Zw at h;split at h
 .rename_i g _ _ _ _;cases ha:C.alt g with
  | none=>rw[ha]at h;cases h
  | some q'=>simp_all[Alt,Zw]
 .cases h
theorem Aok {ρ :Type} (hC:MV P C) {ops:Array Oper} {Q:Exit->Act->World->Prop} {v: ρ} {K:St->Option ρ} (hK: ∀ O' m' st' a' w',Sim V0 O0 w0 O' m' st' a' w'->K st'=some v->Q .normal a' w') :
 ∀(l:List Oper) {O:Own} {m:Nat->Value} {st:St} {a:Act} {w:World},Sim V0 O0 w0 O m st a w->VD C ops.toList l st K=some v->wpList P ops Q l a w:=by
 intro l
 induction l with
 | nil=>intro O m st a w hS h;exact hK _ _ _ _ _ hS h
 | cons o r ih =>
  intro O m st a w hS h;have one: ∀ C':Ctx,MV P C'->allT (KE C' ops.toList o st).ok (VD C ops.toList r (apply st o (KE C' ops.toList o st)) K)=some v->wpList P ops Q (o::r) a w:=by intro C' hC' h;obtain⟨h1,h2⟩:=QP h;refine wpList_step fun k hk=> ?_;exact Adp hC' hS h1 k Q fun O' m' a' w' hS'=>hk _ _ (ih hS' h2)
  unfold VD at h;cases ha:Zw C o with
  | none=>rw[ha]at h;exact one C hC h
  | some q =>
   obtain⟨f,q⟩:=q;rw[ha]at h;dsimp only at h;obtain⟨h1,h2⟩:=hC.alt f q (Akt ha);cases hb:Ad5 o st q with
   | true=>rw[hb]at h;exact one _ (hC.put h1) h
   | false=>rw[hb]at h;exact one _ (hC.put h2) h
def Post {ρ :Type} (V0:Nat->Value) (O0:Own) (w0:World) (fin:St->Option ρ) (K:Ex->St->Option ρ) (v: ρ):Exit->Act->World->Prop
 | .normal,a,w=> ∃ O m st,Sim V0 O0 w0 O m st a w/\K .normal st=some v
 | .exit id,a,w=> ∃ O m st,Sim V0 O0 w0 O m st a w/\K (.exit id) st=some v
 | .ret,a,w=> ∃ O m st,Sim V0 O0 w0 O m st a w/\fin st=some v
 | _,_,_=>False
theorem Ana (hS:Sim V0 O0 w0 O m st a w) {c:Operand} {t:Bool} (h:KP st.tmps c= .bool t\/KP st.tmps c= .cnd true (.bool t)):a.eval c= .bool t:=by
 have:=aT hS c;rcases h with h | h
 .rw[h]at this;exact this.bool
 .rw[h]at this;have h1:Jw O w (a.eval c) (.bool t):=this.1 rfl;generalize a.eval c=z at h1 ⊢;cases h1;rfl
theorem AkB {ρ :Type} (hC:MV P C) (N:Nat) {fin:St->Option ρ} {v: ρ}
 (hdraw: ∀ {C:Ctx},MV P C-> ∀(id:Nat) (ops:Array Oper) {O:Own} {m:Nat->Value} {st:St} {a:Act} {w:World} (K:Ex->St->Option ρ),Sim V0 O0 w0 O m st a w->Tu C ops.toList st=true->VE C ops.toList ops.toList st (fun st'=>K .normal st')=some v ->
   (Code.region id ops true).wp P (Post V0 O0 w0 fin K v) a w) :
 ∀(c:Code) {O:Own} {m:Nat->Value} {st:St} {a:Act} {w:World} {K:Ex->St->Option ρ},Sim V0 O0 w0 O m st a w->exec C N fin c st K=some v->c.wp P (Post V0 O0 w0 fin K v) a w:=by
 intro c
 induction c with
 | skip=>intro O m st a w K hS h;exact wp_skip ⟨O,m,st,hS,h⟩
 | label l=>intro O m st a w K hS h;exact wp_label ⟨O,m,st,hS,h⟩
 | ret=>intro O m st a w K hS h;exact wp_ret ⟨O,m,st,hS,h⟩
 | exit id =>intro O m st a w K hS h;obtain⟨O',m',st',hS',h'⟩:=wE hS (show Ue C (4*id+3) st (fun st'=>K (.exit id) st')=some v from h);exact wp_exit ⟨O',m',st',hS',h'⟩
 | region id ops d =>
  intro O m st a w K hS h;cases d with
  | false =>
   have key: ∀ C':Ctx,MV P C'->oK C' ops.toList ops.toList st (fun st'=>K .normal st')=some v->(Code.region id ops false).wp P (Post V0 O0 w0 fin K v) a w:=fun C' hC' h' =>
    wp_region_list (AlO hC' (fun l=>Aok hC' (K:=fun st'=>K .normal st') (fun O' m' st' a' w' hS' h'=>⟨O',m',st',hS',h'⟩) l) hS h')
   rcases(ZJ (show split C id ops.toList st _=some v from h)).1 with h' | ⟨ds,b,h'⟩
   .exact key C hC h'
   .exact key _ (hC.decide ds b) h'
  | true =>
   have key: ∀ C':Ctx,MV P C'->(bif Tu C' ops.toList st then VE C' ops.toList ops.toList st (fun st'=>K .normal st')else none)=some v->(Code.region id ops true).wp P (Post V0 O0 w0 fin K v) a w:=by
    intro C' hC' h';cases hd:Tu C' ops.toList st with
    | false=>rw[hd]at h';cases h'
    | true=>rw[hd]at h';exact hdraw hC' id ops K hS hd h'
   rcases(ZJ (show split C id ops.toList st _=some v from h)).1 with h' | ⟨ds,b,h'⟩
   .exact key C hC h'
   .exact key _ (hC.decide ds b) h'
 | seq x y ihx ihy =>
  intro O m st a w K hS h;refine wp_seq (IA (ihx (K:=fun | .normal,st'=>meet C 1 y st' fun st''=>exec C N fin y st'' K | .exit id,st'=>K (.exit id) st') hS h) fun e a' w' hq=> ?_);cases e with
  | normal =>obtain⟨O1,m1,st1,hS1,h1⟩:=hq;obtain⟨O2,m2,st2,hS2,h2⟩:=oD hS1 h1;exact ihy hS2 h2
  | exit id=>exact hq
  | ret=>exact hq
  | goto l=>exact hq
  | panic ch=>exact hq
  | outgrown=>exact hq
 | cond c x y ihx ihy =>
  intro O m st a w K hS h
  have key: ∀ t:Bool,(KP st.tmps c= .bool t\/KP st.tmps c= .cnd true (.bool t))->(bif t then exec C N fin x st K else exec C N fin y st K)=some v->(Code.cond c x y).wp P (Post V0 O0 w0 fin K v) a w:=by
   intro t ht h';refine wp_cond (Ana hS ht) ?_;cases t with
   | true=>exact ihx hS h'
   | false=>exact ihy hS h'
  simp only[exec]at h;cases he:KP st.tmps c with
  | bool t=>rw[he]at h;exact key t (.inl he) h
  | cnd g y' =>
   rw[he]at h;cases y' with
   | bool t =>
    cases g with
    | false=>cases h
    | true=>exact key t (.inr he) h
   | _=>cases h
  | _=>rw[he]at h;cases h
 | block id c ih =>
  intro O m st a w K hS h;refine wp_block (IA (ih (K:=fun | .exit j,st'=>bif Nat.beq j id then K .normal st' else K (.exit j) st' | .normal,st'=>K .normal st') hS h) fun e a' w' hq=> ?_);cases e with
  | normal=>exact hq
  | exit j =>
   obtain⟨O1,m1,st1,hS1,h1⟩:=hq;dsimp only at h1;show if j=id then _ else _;rw[VC]at h1;by_cases hj:j=id
   .rw[Dw hj];simp only[hj,Hy,cond_true]at h1;exact⟨O1,m1,st1,hS1,h1⟩
   .rw[Dt hj];rw[show decide (j=id)=false by simpa using hj]at h1;exact⟨O1,m1,st1,hS1,h1⟩
  | ret=>exact hq
  | goto l=>exact hq
  | panic ch=>exact hq
  | outgrown=>exact hq
 | loop c ih =>
  intro O m st a w K hS h;obtain⟨O1,m1,st1,hS1,h1⟩:=oD hS (show meet C 2 c st (fun st'=>rounds (meet C 2 c) (exec C N fin c) N st' K)=some v from h);refine wp_loop_rounds N ?_
  have key: ∀(n:Nat) {O:Own} {m:Nat->Value} {st:St} {a:Act} {w:World},Sim V0 O0 w0 O m st a w->rounds (meet C 2 c) (exec C N fin c) n st K=some v->Code.rounds P c (Post V0 O0 w0 fin K v) n a w:=by
   intro n
   induction n with
   | zero=>intro O m st a w _ h;cases h
   | succ n ihn =>
    intro O m st a w hS h;refine IA (ih (K:=fun | .normal,st'=>meet C 2 c st' fun st''=>rounds (meet C 2 c) (exec C N fin c) n st'' K | .exit id,st'=>K (.exit id) st') hS h) fun e a' w' hq=> ?_;cases e with
    | normal =>obtain⟨O2,m2,st2,hS2,h2⟩:=hq;obtain⟨O3,m3,st3,hS3,h3⟩:=oD hS2 h2;exact ihn hS3 h3
    | exit id=>exact hq
    | ret=>exact hq
    | goto l=>exact hq
    | panic ch=>exact hq
    | outgrown=>exact hq
  exact key N hS1 h1
 | scope c ih =>intro O m st a w K hS h;refine wp_scope_straight (IA (ih hS (show exec C N fin c st K=some v from h)) fun e a' w' hq=> ?_);cases e<;>first | exact hq | exact hq.elim
 | _=>intro O m st a w K hS h;cases h
end
def Qb:Sh->Sh
 | .box ks=>.box ks
 | .map kt vt=>.map kt vt
 | .clo _ ks=>.box ks
 | _=>.cell false .bool
def AqR:Sh->Nat->A
 | .box _,i=>.ptr (256*i) 0
 | .map _ _,i=>.own (256*i)
 | .clo _ _,i=>.ptr (256*i) 0
 | _,_=>.bool true
def Qy:List Sh->Nat->List A
 | [],_=>[]
 | s::ss,i=>AqR s i::Qy ss (i+1)
def unbox:A->A
 | .box cs=>.agg cs
 | a=>a
def ZM (Js:List Sh) (xs:List A) (n:Nat):St:= {tmps:=(KA 0 256 Js xs 0).2.1++List.replicate (n - Js.length) .undef,Jp:=JC [] (KA 0 256 Js xs 0).2.2}
def Abk (C:Ctx) (st:St) (q:Nat×Option Nat):List Bool×A :=
 match q.2 with
 | none=>([Nat.blt q.1 st.tmps.length],st.tmps.getD q.1 .undef)
 | some ty=>match VX C st.Jp ty (st.tmps.getD q.1 .undef)with
  | δ =>(Nat.blt q.1 st.tmps.length:: δ.ok,δ.val)
def PU (C:Ctx) (outs:List (Nat×Option Nat)) (st:St):List A:=outs.map (fun q=>(Abk C st q).2)
def finish (C:Ctx) (Js J7:List Sh) (outs:List (Nat×Option Nat)) (st:St):Option (List A) :=
 allT ((JK st.Jp J7 (PU C outs st)).1++(JK st.Jp (Js.map Qb) (Qy Js 0)).1 ++
  [nodup ((NQ st.Jp 256000 256 J7 (PU C outs st)++NQ st.Jp 0 256 (Js.map Qb) (Qy Js 0)).map (·.1)),!(J7.any wS||(Js.map Qb).any wS)||((JK st.Jp J7 (PU C outs st)).2.2.1.isEmpty&&(JK st.Jp (Js.map Qb) (Qy Js 0)).2.2.1.isEmpty)]++outs.flatMap (fun q=>(Abk C st q).1))
  (some ((JK st.Jp J7 (PU C outs st)).2.1++(La Js 0).map (fun i=>unbox ((JK st.Jp (Js.map Qb) (Qy Js 0)).2.1.getD i .undef))))
def runK {ρ :Type} (C:Ctx) (N:Nat) (Js:List Sh) (n:Nat) (code:Code) (fin:St->Option ρ) (xs:List A):Option ρ :=
 allT ((KA 0 256 Js xs 0).1++[nodup ((KA 0 256 Js xs 0).2.2.map (·.1)),!(has ((KA 0 256 Js xs 0).2.2.map (·.1)) 255)])
  (exec C N fin code (ZM Js xs n) fun
    | .normal,st=>fin st
    | .exit _,_=>none)
section
variable {P:Program} {C:Ctx} {V0:Nat->Value} {O0 O:Own} {w0 w:World} {m:Nat->Value} {st:St} {a:Act}
theorem Vb {id:Nat}: ∀(ks:List (Bool×CK)) (cs:List A) (j0:Nat),∀ p∈(JI id ks cs j0).2.2,∃ x,p.1=id+x/\x<j0+ks.length:=by
 intro ks
 induction ks with
 | nil=>intro cs j0 p hp;simp [JI]at hp
 | cons k ks ih =>
  intro cs j0 p hp;have step:p∈(JI id ks cs (j0+1)).2.2-> ∃ x,p.1=id+x/\x<j0+(k::ks).length:=by intro h;obtain⟨x,h1,h2⟩:=ih cs (j0+1) p h;exact⟨x,h1,by simp only[List.length_cons];omega⟩
  obtain⟨u,k⟩:=k;cases u with
  | false=>exact step hp
  | true =>
   cases k with
   | sl e sz =>
    simp only[JI]at hp;rcases Dz.1 hp with rfl | hp
    .exact⟨j0,rfl,by simp⟩
    .exact step hp
   | sln e sz =>
    simp only[JI]at hp;rcases Dz.1 hp with rfl | hp
    .exact⟨j0,rfl,by simp⟩
    .exact step hp
   | bx t =>
    simp only[JI]at hp;rcases Dz.1 hp with rfl | hp
    .exact⟨j0,rfl,by simp⟩
    .exact step hp
   | mp kt vt =>
    simp only[JI]at hp;rcases Dz.1 hp with rfl | hp
    .exact⟨j0,rfl,by simp⟩
    .exact step hp
   | _=>simp [JI]at hp
theorem AmH {id:Nat} {s:Sh} {x:A} (hok:J5 (back id s x).1): ∀ p∈(back id s x).2.2,∃ i,p.1=id+i/\i<255:=by
 intro p hp;cases s with
 | cell u k =>obtain⟨i,h1,h2⟩:=Vb _ _ _ p hp;exact⟨i,h1,by simp at h2;omega⟩
 | agg ks =>simp only[back]at hok hp;have:=DI hok.cons.1;obtain⟨i,h1,h2⟩:=Vb _ _ _ p hp;exact⟨1+i,by omega,by omega⟩
 | box ks =>
  simp only[back]at hok hp;have:=DI hok.cons.1;rcases Dz.1 hp with rfl | hp
  .exact⟨0,rfl,by omega⟩
  .obtain⟨i,h1,h2⟩:=Vb _ _ _ p hp;exact⟨1+i,by omega,by omega⟩
 | clo f' ks =>
  simp only[back]at hok hp;have:=DI hok.cons.1;rcases Dz.1 hp with rfl | hp
  .exact⟨0,rfl,by omega⟩
  .obtain⟨i,h1,h2⟩:=Vb _ _ _ p hp;exact⟨1+i,by omega,by omega⟩
 | map kt vt=>simp_all[back,Sh,J5]
theorem Aky {f:Nat->Value}: ∀(ss:List Sh) (rs:List A) (j0:Nat),J5 (KA 0 256 ss rs j0).1-> ∀ p∈Xa w f 0 256 ss rs j0,p.2=Nq w (f (p.1 / 256)) (p.1 % 256):=by
 intro ss
 induction ss with
 | nil=>grind[Xa]
 | cons s ss ih =>intro rs j0 hok p hp;simp only[KA]at hok;obtain⟨h1,h2⟩:=hok.append;all_goals grind[Xa,AmH]
theorem AeV {Js:List Sh} {xs:List A} {n:Nat} {vs:Array Value} (hI:Inv O w) (hv:vs.size=xs.length) (hl:xs.length=Js.length) (h: ∀ j,j<xs.length->IR O w (256*j) (vs.getD j undef) (xs.getD j .undef))
 (hok:J5 (KA 0 256 Js xs 0).1) (hnd:nodup ((KA 0 256 Js xs 0).2.2.map (·.1))=true) (h255:has ((KA 0 256 Js xs 0).2.2.map (·.1)) 255=false) :
 Sim (fun o=>innerS w (Js.getD (o / 256) (.agg [])) (vs.getD (o / 256) undef)) O w O (fun o=>Nq w (innerS w (Js.getD (o / 256) (.agg [])) (vs.getD (o / 256) undef)) (o % 256)) (ZM Js xs n) {tmps:=vs++Array.replicate (n - vs.size) undef,defers:=[]} w:=by
 have hmem: ∀ o x,Jv (JC [] (KA 0 256 Js xs 0).2.2) o=some x->(o,x)∈(KA 0 256 Js xs 0).2.2:=by
  intro o x hx;rcases ZB _ (Aa0 hx)with h | h
  .exact h
  .cases h
 have hget: ∀ p∈(KA 0 256 Js xs 0).2.2,Jv (JC [] (KA 0 256 Js xs 0).2.2) p.1=some p.2:=fun p hp=>lY (Jp:=[]) (upd:=[]) (del:=[]) hnd (o:=p.1) (x:=p.2) hp
 obtain⟨r1,r2,r3⟩:=AbI (Oc:=O) (O':=O) (w:=w) (objs':=JC [] (KA 0 256 Js xs 0).2.2) (m':=fun o=>Nq w (innerS w (Js.getD (o / 256) (.agg [])) (vs.getD (o / 256) undef)) (o % 256)) (cid:=0) (cst:=256) (id:=0) (stride:=256) (f:=fun j=>vs.getD j undef) (g:=fun j=>innerS w (Js.getD j (.agg [])) (vs.getD j undef)) (rs:=xs)
  (fun _ _ _ h hc=>⟨h,hc⟩) (fun _ _ h=>h) Js 0 (fun j _=>by rw[DR]) (fun j hj=>by rw[DR,DR];exact h j (by rw[hl];exact hj)) (fun j _ b k i _ hb=>hb) hok hget
  (fun p hp=>(Aky Js xs 0 hok p hp).symm)
 refine⟨rfl,?_,fun t ht=> ?_,fun o x hx=>r3 _ (hmem o x hx),Moves.refl O _ w,fun b k o _ ho hne=>⟨o,ho,hne⟩,fun o x hx e=> ?_,fun b k _ h=>h,fun o hr _=> ?_,fun b k _ h=>h,hI⟩
 .simp [ZM,r1,hv,hl]
 .show J8 O _ _ w (((vs++Array.replicate (n - vs.size) undef).getD t undef)) (((KA 0 256 Js xs 0).2.1++List.replicate (n - Js.length) A.undef).getD t .undef);rcases Ec t Js.length with htl | htl
  .have e1:((KA 0 256 Js xs 0).2.1++List.replicate (n - Js.length) A.undef).getD t .undef=(KA 0 256 Js xs 0).2.1.getD t .undef:=by
    simp [Dj,Em,r1,htl]
   have e2:(vs++Array.replicate (n - vs.size) undef).getD t undef=vs.getD t undef:=by
    have:t<vs.size:=by rw[hv,hl];exact htl
    simp [Dn,E8,this]
   rw[e1,e2];have:=(r2 t htl).1;rw[DR]at this;exact this
  .have e1:((KA 0 256 Js xs 0).2.1++List.replicate (n - Js.length) A.undef).getD t .undef= .undef:=by
    rw[Dj,E5 (by rw[r1];exact htl),Hu];split<;>rfl
   rw[e1];trivial
 .subst e;have:=hmem _ x hx;have h':has ((KA 0 256 Js xs 0).2.2.map (·.1)) 255=true:=NC.2 (DF.2 ⟨_,this,rfl⟩);rw[h']at h255;cases h255
 .unfold XF at hr;rw[Dq]at hr;have:=Dp hr.2;rw[this];rfl
theorem Ahj {fet:Fet}: ∀(ss:List Sh) (xs:List A),J5 (JK fet ss xs).1-> ∀ i s,ss[i]? =some s->KD s=true->yR (unbox ((JK fet ss xs).2.1.getD i .undef))=(JK fet ss xs).2.1.getD i .undef:=by
 intro ss
 induction ss with
 | nil=>intro xs _ i s h;simp at h
 | cons s ss ih =>
  intro xs hok i s' h hb;cases xs with
  | nil=>have:=hok false (by simp [JK]);cases this
  | cons x xs =>
   simp only[JK]at hok ⊢;obtain⟨h1,h2⟩:=hok.append;cases i with
   | zero =>
    simp at h;subst h;cases s with
    | cell _ _=>cases hb
    | agg _=>cases hb
    | map kt vt =>
     cases x with
     | own q =>
      unfold JU at h1 ⊢;dsimp only at h1 ⊢;cases hg:Jv fet q with
      | none=>rw[hg]at h1;have:=h1 false (by simp);cases this
      | some y =>
       cases y with
       | mp l=>rfl
       | _=>rw[hg]at h1;have:=h1 false (by simp);cases this
     | _=>have:=h1 false (by simp [JU]);cases this
    | box ks =>
     cases x with
     | ptr q off =>
      unfold JU at h1 ⊢;dsimp only at h1 ⊢;cases hb:Lp fet q with
      | none=>rw[hb]at h1;have:=h1 false (by simp);cases this
      | some cs=>rfl
     | _=>have:=h1 false (by simp [JU]);cases this
    | clo f' ks =>
     cases x with
     | clo g q =>
      unfold JU at h1 ⊢;dsimp only at h1 ⊢;cases hb:Lp fet q with
      | none=>rw[hb]at h1;have:=h1 false (by simp);cases this
      | some cs=>rfl
     | _=>have:=h1 false (by simp [JU]);cases this
   | succ i=>simpa using ih xs h2 i s' (by simpa using h) hb
theorem Ak4: ∀(ss:List Sh) (i0 j i:Nat),(La ss i0)[j]? =some i-> ∃ r s,i=i0+r/\ss[r]? =some s/\KD s=true:=by
 intro ss
 induction ss with
 | nil=>grind[La]
 | cons s ss ih =>
  intro i0 j i h;have step: ∀ j':Nat,(La ss (i0+1))[j']? =some i-> ∃ r s',i=i0+r/\(s::ss)[r]? =some s'/\KD s'=true:=by intro j' h';obtain⟨r,s',h1,h2,h3⟩:=ih (i0+1) j' i h';exact⟨r+1,s',by omega,by simpa using h2,h3⟩
  simp only[La]at h;cases s with
  | box ks =>
   simp only[KD,cond_true]at h;cases j with
   | zero=>simp_all[Sh,La,KD]
   | succ j=>exact step j (by simpa using h)
  | clo f' ks =>
   simp only[KD,cond_true]at h;cases j with
   | zero=>simp_all[Sh,La,KD]
   | succ j=>exact step j (by simpa using h)
  | map kt vt =>
   simp only[KD,cond_true]at h;cases j with
   | zero=>simp_all[Sh,La,KD]
   | succ j=>exact step j (by simpa using h)
  | cell u k=>grind[KD]
  | agg ks=>grind[KD]
theorem AhA: ∀(ss:List Sh) (i0:Nat),(Qy ss i0).length=ss.length:=by
 intro ss
 induction ss with
 | nil=>intro i0;rfl
 | cons s ss ih=>intro i0;simp [Qy,ih]
theorem Al8: ∀(ss:List Sh) (i0 j:Nat),j<ss.length->(Qy ss i0).getD j .undef=AqR (ss.getD j (.agg [])) (i0+j):=by
 intro ss
 induction ss with
 | nil=>intro i0 j h;simp at h
 | cons s ss ih =>
  intro i0 j h;cases j with
  | zero=>grind[Qy]
  | succ j=>grind[Qy]
end
def rv:Nat×Option Nat->ResultVar
 | (t,none)=>.tmp t
 | (a,some ty)=>.cell a ty
def yQ (tmps:Array Value):ResultVar->Sem Value
 | .tmp t=>pure (tmps.getD t undef)
 | .cell a t=>do loadVar t (<- asAddr (tmps.getD a undef))
def ApJ {P:Program} {w:World} {α :Type} {g: α ->Sem Value}: ∀(l:List α) (f:Nat->Value),(∀(j:Nat) (x: α),l[j]? =some x->(g x).run P w= .ok (f j) w)->(l.mapM g).run P w= .ok ((List.range l.length).map f) w:=by
 intro l
 induction l with
 | nil=>intro f _;simp
 | cons x r ih =>intro f h;have h1:=ih (fun j=>f (j+1)) (fun j y hy=>h (j+1) y (by simpa using hy));have h2:=h 0 x rfl;rw[H5];simp only[D8,h2,Result.andThen_ok,h1,Sem.run_pure,List.length_cons,List.range_succ_eq_map,Eb,EO];rfl
def AeE (us:Array Value):Value:=if h:us.size=1 then us[0]else .tuple us
def Ajs {P:Program} {w:World} {fn:Func} {outs:List (Nat×Option Nat)} {tmps:Array Value} (h:fn.results=(outs.map rv).toArray) (f:Nat->Value) (hf: ∀(j:Nat) (q:Nat×Option Nat),outs[j]? =some q->(yQ tmps (rv q)).run P w= .ok (f j) w) :
 (results fn tmps).run P w= .ok (AeE ((List.range outs.length).map f).toArray) w:=by
 have e:results fn tmps=(do let vs <- fn.results.mapM (yQ tmps);pure (AeE vs)):=by
  have e0:yQ tmps=(fun | .tmp t=>pure (tmps.getD t undef) | .cell a t=>do loadVar t (<- asAddr (tmps.getD a undef))):=by funext x;cases x<;>rfl
  unfold results AeE;rw[e0];rfl
 rw[e,h,List.mapM_toArray]
 have:=ApJ (P:=P) (w:=w) (g:=yQ tmps) (outs.map rv) f (fun j x hx=>by
  rw[Ed]at hx;cases hq:outs[j]? with
  | none=>rw[hq]at hx;cases hx
  | some q=>rw[hq]at hx;injection hx with hx;rw[<- hx];exact hf j q hq)
 all_goals simp_all[rv,yQ,AeE]
section
variable {P:Program} {C:Ctx} {V0:Nat->Value} {O0 O:Own} {w0 w:World} {m:Nat->Value} {st:St} {a:Act}
theorem Aml {Js:List Sh} {i:Nat} {s:Sh} (h:Js[i]? =some s) (hb:KD s=true):(Js.map Qb)[i]? =some (Qb s)/\KD (Qb s)=true/\KD (Js.getD i (.agg []))=true/\i<Js.length:=by
 have hi:i<Js.length:=by all_goals grind[Sh,KD,Qb]
 refine⟨(by rw[Ed,h];rfl),(by cases s<;>first | rfl | (cases hb;done)),?_,hi⟩;rw[Dj,h];exact hb
theorem Anq {Js J7:List Sh} {outs:List (Nat×Option Nat)} {rs:List A} {vs:Array Value} {sg:Sig} {fn:Func} (hC:TOk P C) (hfn:fn.results=(outs.map rv).toArray) (hp:sg.Js=Js) (hr:sg.J7=J7) (h100:Js.length<=100)
 (hptr: ∀ i,i<Js.length->KD (Js.getD i (.agg []))=true->(innerS w0 (Js.getD i (.agg [])) (vs.getD i undef)).oneCell'=true)
 (hS:Sim (fun o=>innerS w0 (Js.getD (o / 256) (.agg [])) (vs.getD (o / 256) undef)) O0 w0 O m st a w) (h:finish C Js J7 outs st=some rs) :
 ∃ v O',(results fn a.tmps).run P w= .ok v w/\Came O0 w0 vs sg rs v O' w:=by
 obtain⟨hok,hrs⟩:=QP h;injection hrs with hrs;obtain⟨hokA,hokO⟩:=hok.append;obtain⟨hokA,hokB⟩:=hokA.append;obtain⟨hok1,hok2⟩:=hokA.append;have hnd:=hokB.cons.1;have hwr:=hokB.cons.2.cons.1;have hf:OL st.Jp st.Jp:=fun _ _ h=>h;generalize hN:NQ st.Jp 256000 256 J7 (PU C outs st)++NQ st.Jp 0 256 (Js.map Qb) (Qy Js 0)=N at *
 have hout: ∀ j:Nat,∃ u:Value,∀ q,outs[j]? =some q->(yQ a.tmps (rv q)).run P w= .ok u w/\J8 O st.Jp m w u (Abk C st q).2:=by
  intro j;cases hj:outs[j]? with
  | none=>exact⟨undef,fun q hq=>by cases hq⟩
  | some q =>
   have hqok:J5 (Abk C st q).1:=fun b hb=>hokO b (DX.2 ⟨q,FB hj,hb⟩);obtain⟨t,ty⟩:=q;cases ty with
   | none =>have hlt:=hqok.cons.1;rw[Ep]at hlt;exact⟨a.tmps.getD t undef,fun q hq=>by injection hq with hq;subst hq;exact⟨rfl,hS.tmps t hlt⟩⟩
   | some ty =>
    have hq2:J5 (Nat.blt t st.tmps.length::(VX C st.Jp ty (st.tmps.getD t .undef)).ok):=hqok;obtain⟨hlt,hld⟩:=hq2.cons;rw[Ep]at hlt;obtain⟨u,hu1,hu2⟩:=(vX (o:= {(default:Oper)with op:=.load ty (.tmp t)}) hC (fun q x hq=>⟨hq,hS.Jp q x hq⟩) rfl (aT hS (.tmp t)) hld).run;refine⟨u,fun q hq=> ?_⟩;injection hq with hq;subst hq;refine⟨?_,hu2⟩;have hev:a.eval (.tmp t)=a.tmps.getD t undef:=by simp [Act.eval]
    simp only[execOp,Instr.loadAt,hev]at hu1;show(do loadVar ty (<- asAddr (a.tmps.getD t undef)):Sem Value).run P w=_;generalize a.tmps.getD t undef=z at hu1 ⊢;cases z with
    | pointer p =>
     cases p with
     | none=>simp [Instr.sureAddr]at hu1
     | some ad =>
      simp only[asAddr,D8,Sem.run_pure,Result.andThen_ok];simp only[Instr.sureAddr,pure_bind,D8,Sem.run_pure]at hu1;cases hl:(loadVar ty ad).run P w with
      | ok x w2 =>rw[hl]at hu1;simp only[Result.andThen_ok,Sem.run_pure,Result.ok.injEq,Next.value.injEq]at hu1;rw[hu1.1,hu1.2]
      | halt x w2=>rw[hl]at hu1;simp [Result.andThen]at hu1
    | _=>simp [Instr.sureAddr]at hu1
 obtain⟨fv,hfv⟩:=Gz hout
 obtain⟨g1,g2,g3,_,g5⟩:=Zc (W:=(JK st.Jp J7 (PU C outs st)).2.2.1++(JK st.Jp (Js.map Qb) (Qy Js 0)).2.2.1=[]) hf hS.Jp 256 J7 (PU C outs st) 256000 fv (fun e=>by rw[e]at hwr;simpa using hwr) (fun j hj=>by
  have hj':j<outs.length:=by simpa [PU]using hj
  have e:(PU C outs st).getD j .undef=(Abk C st outs[j]).2:=by simp [PU,Dj,hj']
  rw[e];exact(hfv j _ (D9 hj')).2) hok1
 have hmaskl:(Js.map Qb).length=Js.length:=by simp
 obtain⟨k1,k2,k3,_,k5⟩:=Zc (W:=(JK st.Jp J7 (PU C outs st)).2.2.1++(JK st.Jp (Js.map Qb) (Qy Js 0)).2.2.1=[]) hf hS.Jp 256 (Js.map Qb) (Qy Js 0) 0 (fun j=>if KD (Js.getD j (.agg []))then innerS w0 (Js.getD j (.agg [])) (vs.getD j undef)else .bool true) (fun e=>by rw[e,Ff]at hwr;simpa using hwr) (fun j hj=>by
  have hj':j<Js.length:=by rw[AhA]at hj;exact hj
  rw[Al8 Js 0 j hj',DR];have hroot:XF (256*j)=true:=by unfold XF;rw[Dq,Ep];refine⟨by omega,?_⟩;rw[Nat.mul_mod_right];rfl
  have hrt: ∀ x,Jv st.Jp (256*j)=some x->m (256*j)=innerS w0 (Js.getD j (.agg [])) (vs.getD j undef):=fun x hx=>by have:=hS.root (256*j) hroot (by rw[hx];rfl);rw[Nat.mul_div_cancel_left j (by decide)]at this;exact this
  have hp:=hptr j hj';generalize Js.getD j (.agg [])=s at hp hrt ⊢;cases s with
  | box ks =>
   rw[Dw (show KD (Sh.box ks)=true from rfl)];refine⟨hp rfl,?_⟩;cases hx:Jv st.Jp (256*j)with
   | none=>trivial
   | some x =>
    cases x with
    | arr _ _ _=>trivial
    | mp _=>trivial
    | box cs =>obtain⟨b,base,h1,_⟩:=hS.Jp _ _ hx;exact⟨b,base,h1,by rw[<- hrt _ hx,h1];rfl⟩
  | clo f' ks =>
   rw[Dw (show KD (Sh.clo f' ks)=true from rfl)];refine⟨hp rfl,?_⟩;cases hx:Jv st.Jp (256*j)with
   | none=>trivial
   | some x =>
    cases x with
    | arr _ _ _=>trivial
    | mp _=>trivial
    | box cs =>obtain⟨b,base,h1,_⟩:=hS.Jp _ _ hx;exact⟨b,base,h1,by rw[<- hrt _ hx,h1];rfl⟩
  | map kt vt =>
   rw[Dw (show KD (Sh.map kt vt)=true from rfl)];refine⟨hp rfl,?_⟩;cases hx:Jv st.Jp (256*j)with
   | none=>trivial
   | some x =>
    cases x with
    | box _=>trivial
    | arr _ _ _=>exact(hrt _ hx).symm
    | mp _=>exact(hrt _ hx).symm
  | cell u k=>rw[Dt (show ¬ KD (Sh.cell u k)=true from fun h=>by cases h)];exact Jw.bool true
  | agg ks=>rw[Dt (show ¬ KD (Sh.agg ks)=true from fun h=>by cases h)];exact Jw.bool true) hok2
 obtain⟨O1,hS1,hp1,_,hv1,_,hk1⟩:=hS.freezes _ (g3.append k3);have hρ : ∀ p∈N,look N p.1=some p.2:=Ah5 hnd
 have halive: ∀ p∈N,(Jv st.Jp p.1).isSome:=by
  intro p hp';rw[<- hN]at hp';rcases DU.1 hp' with hp' | hp'
  .exact Zh _ _ _ hok1 p hp'
  .exact Zh _ _ _ hok2 p hp'
 generalize hU:(JK st.Jp J7 (PU C outs st)).2.2.1++(JK st.Jp (Js.map Qb) (Qy Js 0)).2.2.1=U at *
 have hFU:Frz st.Jp U:=by rw[<- hU];exact g3.append k3
 have hupdO: ∀ p∈U,KZ O1 (JC st.Jp U) m w p.1 p.2:=by intro p hp;obtain⟨x,hx1,hx2⟩:=OO U st.Jp p.1 ⟨p,hp,rfl⟩;obtain⟨e,fz,l,k1,k2⟩:=hFU p hp;obtain⟨e',fz',l',k3,k4⟩:=hFU _ hx1;dsimp only at k3 k4;rw[k1]at k3;injection k3 with k3;injection k3 with q1 q2 q3;subst q1;subst q3;rw[k2,<- k4];exact hS1.Jp p.1 x hx2
 have hR:=g5 (ρ :=look N) hp1 (fun p hp=>hv1 p (by rw[<- hU];exact DD _ hp)) (fun p hp=>hupdO p (by rw[<- hU];exact DD _ hp)) hk1 (fun p hp=>hρ p (by rw[<- hN];exact DD _ hp));have hB:=k5 (ρ :=look N) hp1 (fun p hp=>hv1 p (by rw[<- hU];exact DC _ hp)) (fun p hp=>hupdO p (by rw[<- hU];exact DC _ hp)) hk1 (fun p hp=>hρ p (by rw[<- hN];exact DC _ hp));have hol:outs.length=J7.length:=by rw[<- g2];simp [PU]
 refine⟨_,OG O1 (look N),Ajs hfn fv (fun j q hq=>(hfv j q hq).1),hS1.frame,fun b k hb hne=>hS1.less b k hb (fun e=>hne (Vx.2 e)),fun b k hb hj=> ?_,?_,?_,?_⟩
 .have:=hS1.VA b k hb hj;unfold OG;rw[this];dsimp only;cases hl:look N 255 with
  | none=>rfl
  | some i =>have h1:=halive _ (vY hl);obtain⟨x,hx⟩:=Ez.1 h1;exact absurd rfl (hS.ids 255 x hx)
 .rw[<- hrs,hp,hr];simp [g1]
 .refine⟨((List.range outs.length).map fv).toArray,by rw[hr];simp [hol],rfl,fun k hk=> ?_⟩;have hk':k<outs.length:=by simpa using hk
  have hus:(((List.range outs.length).map fv).toArray).getD k undef=fv k:=by simp [Dn,hk']
  rw[hus];have:=hR k (by rw[<- hol];exact hk');have e:rs.getD k .undef=(JK st.Jp J7 (PU C outs st)).2.1.getD k .undef:=by rw[<- hrs,Dj,Em (by rw[g1,<- hol];exact hk'),<- Dj]
  rw[e];exact this
 .intro j i hji;rw[hp]at hji;obtain⟨r,s,h1,h2,h2'⟩:=Ak4 Js 0 j i hji;rw[DR]at h1;subst h1;obtain⟨h3,h3',h4,h5⟩:=Aml h2 h2';have h6:=Ahj _ _ hok2 i _ h3 h3';have e:rs.getD (sg.J7.length+j) .undef=unbox ((JK st.Jp (Js.map Qb) (Qy Js 0)).2.1.getD i .undef):=by rw[<- hrs,hr,Dj,E5 (by rw[g1];omega),g1,Gy,Ed,hji];rfl
  rw[e,h6,hp];have:=hB i (by rw[hmaskl];exact h5);rw[DR,Dw h4]at this;exact this
theorem Adk {ρ :Type} {o: ρ} {fin:St->Option ρ} (hC:MV P C) (N:Nat)
 (hdraw: ∀ {C:Ctx},MV P C-> ∀ {ρ :Type} {V0:Nat->Value} {O0:Own} {w0:World} {fin:St->Option ρ} {v: ρ} (id:Nat) (ops:Array Oper) {O:Own} {m:Nat->Value} {st:St} {a:Act} {w:World} (K:Ex->St->Option ρ),Sim V0 O0 w0 O m st a w->Tu C ops.toList st=true->VE C ops.toList ops.toList st (fun st'=>K .normal st')=some v ->
   (Code.region id ops true).wp P (Post V0 O0 w0 fin K v) a w)
 {f:FuncId} {fn:Func} {code:Code} {outs:List (Nat×Option Nat)} {sg:Sig} (hf:P.funcs[f]? =some fn) (hb:fn.body=some code) (hout:fn.results=(outs.map rv).toArray)
 {vs args:Array Value} {xs rs:List A} {st0:St} (hl:xs.length=sg.Js.length) (h100:xs.length<=100) (hx: ∀ j,j<xs.length->IR O w (256*j) (vs.getD j undef) (xs.getD j .undef)) (hok1:J5 (KA 0 256 sg.Js xs 0).1)
 (hS:Sim (fun o=>innerS w (sg.Js.getD (o / 256) (.agg [])) (vs.getD (o / 256) undef)) O w O (fun o=>Nq w (innerS w (sg.Js.getD (o / 256) (.agg [])) (vs.getD (o / 256) undef)) (o % 256)) st0 {tmps:=args++Array.replicate (fn.ntmps - args.size) undef,defers:=[]} w)
 (h:exec C N fin code st0 (fun | .normal,st=>fin st | .exit _,_=>none)=some o) (hrs: ∀ st,fin st=some o->finish C sg.Js sg.J7 outs st=some rs) :
 Calls P f args w fun e w'=> ∃ v O',e= .returned v/\Came O w vs sg rs v O' w':=by
 have hptr: ∀ i,i<sg.Js.length->KD (sg.Js.getD i (.agg []))=true->(innerS w (sg.Js.getD i (.agg [])) (vs.getD i undef)).oneCell'=true:=by
  intro i hi hb;have hi':i<xs.length:=by rw[hl];exact hi
  have hbk:J5 (back (256*i) (sg.Js.getD i (.agg [])) (xs.getD i .undef)).1:=by
   have key: ∀(ss:List Sh) (j0 i:Nat),i<ss.length->J5 (KA 0 256 ss xs j0).1->J5 (back (0+256*(j0+i)) (ss.getD i (.agg [])) (xs.getD (j0+i) .undef)).1:=by
    intro ss
    induction ss with
    | nil=>intro j0 i h;simp at h
    | cons s ss ih =>
     intro j0 i h hok;simp only[KA]at hok;obtain⟨h1,h2⟩:=hok.append;cases i with
     | zero=>simpa using h1
     | succ i =>have:=ih (j0+1) i (by simpa using h) h2;rw[show j0+1+i=j0+(i+1)from by omega]at this;simpa using this
   have:=key sg.Js 0 i hi hok1;rw[DR,DR]at this;exact this
  have hir:=hx i hi';generalize sg.Js.getD i (.agg [])=s at hb hbk;cases s with
  | box ks =>
   simp only[back]at hbk;have h2:=hbk.cons.2.cons.1;generalize xs.getD i .undef=x at h2 hir;cases x with
   | box cs =>obtain⟨b,base,h3,_⟩:=hir;rw[h3];rfl
   | _=>cases h2
  | clo f' ks =>
   simp only[back]at hbk;have h2:=hbk.cons.2.cons.1;generalize xs.getD i .undef=x at h2 hir;cases x with
   | cbx g cs =>obtain⟨b,base,h3,_⟩:=hir;rw[show innerS w (.clo f' ks) (vs.getD i undef)=_ from h3.inner (ks:=ks)];rfl
   | _=>cases h2
  | map kt vt =>
   obtain⟨l,hl',_,_⟩:=bG (show A.dZ kt vt _=true from hbk.cons.1);rw[hl']at hir;obtain⟨r,_,_,h3,_⟩:=(show NU O w _ _ l from hir)
   rw[h3];rfl
  | _=>cases hb
 refine calls_of_wp hf hb (IA (AkB hC N (fun hC'=>hdraw hC') code hS h) fun e a' w' hq=> ?_);have fin':(∃ O' m' st',Sim (fun o=>innerS w (sg.Js.getD (o / 256) (.agg [])) (vs.getD (o / 256) undef)) O w O' m' st' a' w'/\fin st'=some o)->a'.defers=[]/\ ∃ v,(results fn a'.tmps).run P w'= .ok v w'/\ ∃ v' O',Ending.returned v= .returned v'/\Came O w vs sg rs v' O' w':=by rintro ⟨O',m',st',hS',hfin⟩;obtain⟨v,O2,hres,hcame⟩:=Anq (sg:=sg) hC.T hout rfl rfl (by rw[<- hl];exact h100) hptr hS' (hrs st' hfin);exact⟨hS'.defers,v,hres,v,O2,rfl,hcame⟩
 cases e with
 | normal=>exact fin' hq
 | ret=>exact fin' hq
 | exit id =>obtain⟨O',m',st',_,h'⟩:=hq;cases h'
 | goto l=>exact hq.elim
 | panic ch=>exact hq.elim
 | outgrown=>exact hq.elim
theorem Aoz {ρ :Type} {o: ρ} {fin:St->Option ρ} (hC:MV P C) (N:Nat)
 (hdraw: ∀ {C:Ctx},MV P C-> ∀ {ρ :Type} {V0:Nat->Value} {O0:Own} {w0:World} {fin:St->Option ρ} {v: ρ} (id:Nat) (ops:Array Oper) {O:Own} {m:Nat->Value} {st:St} {a:Act} {w:World} (K:Ex->St->Option ρ),Sim V0 O0 w0 O m st a w->Tu C ops.toList st=true->VE C ops.toList ops.toList st (fun st'=>K .normal st')=some v ->
   (Code.region id ops true).wp P (Post V0 O0 w0 fin K v) a w)
 {f:FuncId} {fn:Func} {code:Code} {outs:List (Nat×Option Nat)} {sg:Sig} (hf:P.funcs[f]? =some fn) (hb:fn.body=some code) (hout:fn.results=(outs.map rv).toArray)
 {vs:Array Value} {xs rs:List A} (hI:Inv O w) (hv:vs.size=xs.length) (hl:xs.length=sg.Js.length) (h100:xs.length<=100) (hx: ∀ j,j<xs.length->IR O w (256*j) (vs.getD j undef) (xs.getD j .undef))
 (h:runK C N sg.Js fn.ntmps code fin xs=some o) (hrs: ∀ st,fin st=some o->finish C sg.Js sg.J7 outs st=some rs) :
 Calls P f vs w fun e w'=> ∃ v O',e= .returned v/\Came O w vs sg rs v O' w':=by
 obtain⟨hok,h⟩:=QP h;obtain⟨hok1,hok2⟩:=hok.append;obtain⟨hnd,hok2⟩:=hok2.cons;have h255:=hok2.cons.1;rw[Ef]at h255;exact Adk hC N hdraw hf hb hout hl h100 hx hok1 (AeV (n:=fn.ntmps) hI hv hl hx hok1 hnd h255) h hrs
end
section
variable {P:Program} {C:Ctx} {V0:Nat->Value} {O0 O:Own} {w0 w:World} {m:Nat->Value} {st:St} {a:Act}
theorem ML {a b:List Nat} (h:Uo a b=true): ∀ n∈a,n∉b:=by intro n hn hb;have:=D7.1 h n hn;rw[NC.2 hb]at this;cases this
def lastOf:List (Nat×Obj)->Nat->Option Obj
 | [],_=>none
 | (n,x)::r,k=>match lastOf r k with
  | some y=>some y
  | none=>if n=k then some x else none
theorem Aak {u:List (Nat×Obj)} {k:Nat} (h:k∉u.map (·.1)):lastOf u k=none:=by
 induction u with
 | nil=>rfl
 | cons p r ih=>grind[lastOf]
theorem zW (u:List (Nat×Obj)): ∀(l:List (Nat×Obj)) (k:Nat),Jv (JC l u) k=match lastOf u k with | some x=>some x | none=>Jv l k:=by
 induction u with
 | nil=>intro l k;rfl
 | cons p r ih=>grind[JC,Ky,lastOf]
theorem SY (st:St) (o:Oper) (δ :Dl) (k:Nat):Jv (apply st o δ).Jp k=match lastOf δ.new k with
 | some x=>some x
 | none=>if k∈ δ.del then none else match lastOf δ.upd k with
  | some x=>some x
  | none=>Jv st.Jp k:=by
 unfold apply;dsimp only;rw[zW,Ui,zW]
theorem UB {st:St} {o:Oper} {δ :Dl} {k:Nat} (h:k∉ δ.upd.map (·.1)++ δ.del++ δ.new.map (·.1)):Jv (apply st o δ).Jp k=Jv st.Jp k:=by grind[SY,Aak]
def Srt:List (Nat×Obj)->Prop:=List.Pairwise (fun p q=>p.1<q.1)
theorem Amn: ∀ {l:List (Nat×Obj)},sorted l=true->Srt l:=by
 intro l
 induction l with
 | nil=>intro _;exact List.Pairwise.nil
 | cons p r ih =>
  intro h;cases r with
  | nil=>exact G5 _ _
  | cons q r =>
   obtain⟨n,x⟩:=p;obtain⟨k,y⟩:=q;simp only[sorted,Dq,Ep]at h;have hr:=ih h.2;refine List.Pairwise.cons (fun q hq=> ?_) hr;rcases Dz.1 hq with rfl | hq
   .exact h.1
   .exact Nat.lt_trans h.1 ((EC.1 hr).1 q hq)
theorem Srt.SX {l:List (Nat×Obj)} (h:Srt l) (n:Nat):Srt (Vm.SX l n):=by
 induction l with
 | nil=>exact h
 | cons p r ih =>
  obtain⟨k,x⟩:=p;obtain⟨h1,h2⟩:=EC.1 h;rw[sN];split
  .exact ih h2
  .exact List.Pairwise.cons (fun q hq=>h1 q (Abf hq)) (ih h2)
theorem Srt.YY {l:List (Nat×Obj)} (h:Srt l) {n:Nat} (y:Obj) (hn:Jv l n=none):Srt (Vm.YY l n y):=by
 induction l with
 | nil=>exact G5 _ _
 | cons p r ih =>
  obtain⟨k,x⟩:=p;obtain⟨h1,h2⟩:=EC.1 h;rw[Ov]at hn;have hkn:k≠n:=fun e=>by rw[Dw e]at hn;cases hn
  rw[Dt hkn]at hn;simp only[Vm.YY];cases hle:Nat.ble n k with
  | true =>have:=DI hle;refine List.Pairwise.cons (fun q hq=> ?_) h;all_goals grind[Obj,Srt,Jv]
  | false =>
   have hlt:k<n:=by
    rcases Ec k n with h | h
    .exact h
    .rw[Nat.ble_eq_true_of_le h]at hle;cases hle
   refine List.Pairwise.cons (fun q hq=> ?_) (ih h2 hn);rcases AhC hq with rfl | hq
   .exact hlt
   .exact h1 q hq
theorem Srt.L9 {l:List (Nat×Obj)} (h:Srt l) (n:Nat) (y:Obj):Srt (Vm.L9 l n y):=(h.SX n).YY y (by rw[dN,Dw rfl])
theorem Srt.JC: ∀(u:List (Nat×Obj)) {l:List (Nat×Obj)},Srt l->Srt (Vm.JC l u):=by
 intro u
 induction u with
 | nil=>intro l h;exact h
 | cons p r ih=>intro l h;obtain⟨n,x⟩:=p;exact ih (h.L9 n x)
theorem Srt.Kw: ∀(u:List Nat) {l:List (Nat×Obj)},Srt l->Srt (Vm.Kw l u):=by
 intro u
 induction u with
 | nil=>intro l h;exact h
 | cons n r ih=>intro l h;exact ih (h.SX n)
theorem Srt.apply {st:St} (h:Srt st.Jp) (o:Oper) (δ :Dl):Srt (Vm.apply st o δ).Jp:=((h.JC δ.upd).Kw δ.del).JC δ.new
theorem YA {n:Nat} {x:Obj} {r:List (Nat×Obj)}:Jv ((n,x)::r) n=some x:=by rw[Ov,Dw rfl]
theorem AjD {l:List (Nat×Obj)} {k:Nat} (h: ∀ p∈l,k<p.1):Jv l k=none:=by
 cases hx:Jv l k with
 | none=>rfl
 | some x=>exact absurd (h _ (Aa0 hx)) (Ii _)
theorem Srt.ext: ∀ {l l':List (Nat×Obj)},Srt l->Srt l'->(∀ k,Jv l k=Jv l' k)->l=l':=by
 intro l
 induction l with
 | nil =>
  intro l' _ _ h;cases l' with
  | nil=>rfl
  | cons p r=>grind[YA,Obj,Srt,Jv]
 | cons p r ih =>
  intro l' h1 h2 h;obtain⟨n,x⟩:=p;cases l' with
  | nil=>grind[YA,Obj,Srt,Jv]
  | cons q r' =>
   obtain⟨k,y⟩:=q;obtain⟨a1,a2⟩:=EC.1 h1;obtain⟨b1,b2'⟩:=EC.1 h2;have hnk:n=k:=by all_goals grind[YA,AjD,a1]
   subst hnk;have hx:=h n;rw[YA,YA]at hx;injection hx with hx;subst hx;rw[ih a2 b2' (fun j=> ?_)];by_cases hj:n=j
   .grind[AjD,a1]
   .have:=h j;rw[Ov,Ov,Dt hj,Dt hj]at this;exact this
theorem put_comm (tmps:List A) {d e:Option Tmp} (x y:A) (h: ∀ t,d=some t->e≠some t):put (put tmps d x) e y=put (put tmps e y) d x:=by
 cases d with
 | none=>rfl
 | some d =>
  cases e with
  | none=>rfl
  | some e =>have:d≠e:=fun he=>h d rfl (by rw[he]);exact List.set_comm _ _ this
theorem Akb (tmps:List A) {d:Option Tmp} (x:A) {t:Nat} (h:d≠some t):(put tmps d x).getD t .undef=tmps.getD t .undef:=by
 cases d with
 | none=>rfl
 | some d=>grind[put]
theorem ZO {o:Oper} {t:Nat}:t∈Y1 o↔o.dst=some t:=by grind[Y1]
theorem AgQ {ops:List Oper} {o:Oper} {tmps:List A} {d:Option Tmp} {v:A} (h: ∀ t,d=some t->t∉slotsOf ops o) {x:Operand} (hx:x∈o.op.operands):KP (put tmps d v) x=KP tmps x:=by
 cases x with
 | tmp t =>refine Akb tmps v fun hd=>h t hd ?_;exact DD _ (Gw.2 ⟨.tmp t,by simpa using hx,rfl⟩)
 | _=>rfl
theorem Afb {ops:List Oper} {o:Oper} {tmps:List A} {d:Option Tmp} {v:A} (h: ∀ t,d=some t->t∉slotsOf ops o):guardOf ops (put tmps d v) o.guard=guardOf ops tmps o.guard:=by
 cases hg:o.guard with
 | none=>rfl
 | some p =>
  obtain⟨j,want⟩:=p;unfold guardOf;dsimp only;cases hj:ops[j]? with
  | none=>rfl
  | some oj =>
   dsimp only;cases hd:oj.dst with
   | none=>rfl
   | some t =>dsimp only;rw[Akb tmps v (t:=t) (fun hd'=>h t hd' (by unfold slotsOf;refine DC _ ?_;rw[hg];dsimp only;rw[hj];dsimp only;rw[hd];simp))]
theorem AiI {Jp objs':List (Nat×Obj)}: ∀(l:List Nat),(∀ n∈l,Jv Jp n=Jv objs' n)->fetch Jp l=fetch objs' l:=by
 intro l
 induction l with
 | nil=>intro _;rfl
 | cons n r ih=>grind[fetch]
theorem AgB {op:Op} {vs:List A} (h:jA op vs=true):(∃ x,op= .move x)\/(∃ x,op= .assign x)\/ ∃ t x k q,op= .load t x/\vs=[.clo k q]:=by unfold jA at h;all_goals grind[split]
theorem YR {α :Type} {x:Option α} {k: α ->Dl} (h: ∀ y,(k y).upd=[]):(Kr x k).upd=[]:=by
 cases x with
 | none=>rfl
 | some y=>exact h y
theorem VQ (s:St) (q off:Nat):Jv (Ku s [.ptr q off]) q=Jv s.Jp q:=by show Jv (fetch s.Jp [q]++fetch s.Jp ((fetch s.Jp [q]).flatMap (fun p=>p.2.ids))) q=_;all_goals grind[Jv,fetch,Ov]
theorem sS {o:Oper} {vs:List A} {q:Nat} (h:XU o.op vs=some q): ∃ off,vs=[.ptr q off]/\ ∀ f f',Lp f q=Lp f' q->opX C o vs f=opX C o vs f'/\(opX C o vs f).upd=[]:=by
 obtain⟨dst,op,ty,pos,after,guard⟩:=o;dsimp only at h;unfold XU at h;split at h
 .injection h with h;subst h;refine⟨_,rfl,fun f f' hb=> ?_⟩;unfold opX;dsimp only[a1];unfold WQ;dsimp only;rw[hb];exact⟨rfl,by unfold Kr;split<;>rfl⟩
 .injection h with h;subst h;refine⟨_,rfl,fun f f' hb=> ?_⟩;unfold opX;dsimp only[a1];unfold Vh Yy;dsimp only;rw[hb];refine⟨rfl,?_⟩;unfold LU;refine YR fun ti=>YR fun p=> ?_;exact YR (fun _=>rfl)
 .injection h with h;subst h;refine⟨_,rfl,fun f f' hb=> ?_⟩;unfold opX;dsimp only[a1];unfold VX;dsimp only;rw[hb];refine⟨rfl,?_⟩;unfold LU;exact YR fun ti=>YR fun _=>rfl
 .cases h
theorem Aft {ops:List Oper} {o:Oper} {s1 s2:St} (hE: ∀ x∈o.op.operands,KP s2.tmps x=KP s1.tmps x) (hG:guardOf ops s2.tmps o.guard=guardOf ops s1.tmps o.guard)
 (key:(opX C o (Kz o s1) (Ku s2 (Kz o s1))=opX C o (Kz o s1) (Ku s1 (Kz o s1))/\(∀ f,(opX C o (Kz o s1) f).upd=[])/\LH o s2 (Kz o s1)=LH o s1 (Kz o s1))\/(Ku s2 (Kz o s1)=Ku s1 (Kz o s1)/\LH o s2 (Kz o s1)=LH o s1 (Kz o s1))) (h1: ∀ n∈(KE C ops o s1).new.map (·.1),s1.fresh n=true) (h2: ∀ n∈(KE C ops o s1).new.map (·.1),s2.fresh n=true) :
 KE C ops o s2=KE C ops o s1/\LH o s2 (Kz o s2)=LH o s1 (Kz o s1)/\Kz o s2=Kz o s1:=by
 have hmap:o.op.operands.toList.map (KP s2.tmps)=o.op.operands.toList.map (KP s1.tmps):=Ej fun x hx=>hE x (by simpa using hx);have hvs:Kz o s2=Kz o s1:=by unfold Kz;rw[hmap]
 have hop:opX C o (Kz o s1) (Ku s2 (Kz o s1))=opX C o (Kz o s1) (Ku s1 (Kz o s1)):=by
  rcases key with h | h
  .exact h.1
  .rw[h.1]
 refine⟨?_,by rw[hvs];rcases key with h | h;exact h.2.2;exact h.2,hvs⟩
 have hpl: ∀ pre,(∀ n∈(TC C o s1 pre).new.map (·.1),s1.fresh n=true)->(∀ n∈(TC C o s1 pre).new.map (·.1),s2.fresh n=true)->TC C o s2 pre=TC C o s1 pre:=by
  intro pre h1 h2;unfold TC at h1 h2 ⊢;rw[hmap];dsimp only at h1 h2 ⊢;rw[show opX C o (KU o.op (o.op.operands.toList.map (KP s1.tmps))).2 (Ku s2 (KU o.op (o.op.operands.toList.map (KP s1.tmps))).2)=opX C o (KU o.op (o.op.operands.toList.map (KP s1.tmps))).2 (Ku s1 (KU o.op (o.op.operands.toList.map (KP s1.tmps))).2)from hop];generalize opX C o (KU o.op (o.op.operands.toList.map (KP s1.tmps))).2 (Ku s1 (KU o.op (o.op.operands.toList.map (KP s1.tmps))).2)= δ at *
  have a1: δ.new.all (fun p=>s1.fresh p.1)=true:=D7.2 fun p hp=>h1 p.1 (DF.2 ⟨p,hp,rfl⟩);have a2: δ.new.all (fun p=>s2.fresh p.1)=true:=D7.2 fun p hp=>h2 p.1 (DF.2 ⟨p,hp,rfl⟩);rw[a1,a2]
 unfold KE at h1 h2 ⊢;rw[hG,hmap];have hfa':opX C o (KU o.op (o.op.operands.toList.map (KP s1.tmps))).2 (Ku s2 (KU o.op (o.op.operands.toList.map (KP s1.tmps))).2)=opX C o (KU o.op (o.op.operands.toList.map (KP s1.tmps))).2 (Ku s1 (KU o.op (o.op.operands.toList.map (KP s1.tmps))).2):=hop;cases hg:guardOf ops s1.tmps o.guard with
 | none=>rfl
 | some r =>
  cases r with
  | some g =>
   rw[hg]at h1 h2;dsimp only at h1 h2 ⊢;cases hde:AkG C o with
   | some b =>
    rw[hde]at h1 h2;cases b with
    | true=>exact hpl _ h1 h2
    | false=>rfl
   | none =>
   dsimp only;rcases key with h | h
   .have hu:=h.2.1 (Ku s1 (Kz o s1));rw[hfa'];have hu':(opX C o (KU o.op (o.op.operands.toList.map (KP s1.tmps))).2 (Ku s1 (KU o.op (o.op.operands.toList.map (KP s1.tmps))).2)).upd=[]:=hu;simp only[hu',ET]
   .grind[Ku,KU,KP,guardOf,opX,Kz,LH,KE]
  | none =>rw[hg]at h1 h2;exact hpl _ h1 h2
theorem AeI {o:Oper} {s1 s2:St} (hF: ∀ n∈LH o s1 (Kz o s1),Jv s2.Jp n=Jv s1.Jp n) :
 (opX C o (Kz o s1) (Ku s2 (Kz o s1))=opX C o (Kz o s1) (Ku s1 (Kz o s1))/\(∀ f,(opX C o (Kz o s1) f).upd=[])/\LH o s2 (Kz o s1)=LH o s1 (Kz o s1))\/(Ku s2 (Kz o s1)=Ku s1 (Kz o s1)/\LH o s2 (Kz o s1)=LH o s1 (Kz o s1)):=by
 unfold LH at hF ⊢;cases hm:jA o.op (Kz o s1)with
 | true =>
  have hu: ∀(v:List A),(a1 (fun a=>.v a) v).upd=[]:=fun v=>by
   cases v with
   | nil=>rfl
   | cons x r=>cases r<;>rfl
  rcases AgB hm with ⟨x,e⟩ | ⟨x,e⟩ | ⟨t,x,k,q,e,ev⟩
  .grind[opX]
  .grind[opX]
  .have hl: ∀ f,(VX C f t (.clo k q)).upd=[]:=fun f=>by
    unfold VX LU Kr;cases C.T t<;>rfl
   exact .inl ⟨by unfold opX;rw[e,ev];rfl,fun f=>by unfold opX;rw[e,ev];exact hl f,rfl⟩
 | false =>
  rw[hm]at hF;cases h1':XU o.op (Kz o s1)with
  | some q =>rw[h1']at hF;have hq:Jv s2.Jp q=Jv s1.Jp q:=hF q (Eh.2 rfl);obtain⟨off,ev,hO⟩:=sS (C:=C) h1';refine .inl ⟨(hO _ _ ?_).1,fun f=>(hO f f rfl).2,rfl⟩;rw[ev];unfold Lp;rw[VQ,VQ,hq]
  | none =>
  all_goals grind[fetch,Kz,AiI,Ku]
theorem Amq {ops:List Oper} {o:Oper} {s1 s2:St} (hE: ∀ x∈o.op.operands,KP s2.tmps x=KP s1.tmps x) (hG:guardOf ops s2.tmps o.guard=guardOf ops s1.tmps o.guard)
 (hF: ∀ n∈LH o s1 (Kz o s1),Jv s2.Jp n=Jv s1.Jp n) (h1: ∀ n∈(KE C ops o s1).new.map (·.1),s1.fresh n=true) (h2: ∀ n∈(KE C ops o s1).new.map (·.1),s2.fresh n=true) :
 KE C ops o s2=KE C ops o s1/\LH o s2 (Kz o s2)=LH o s1 (Kz o s1)/\Kz o s2=Kz o s1:=by grind[Aft,AeI]
theorem Aoj {o:Oper} {vs:List A} {q off n:Nat} (h:oneOf C o.op vs=some (q,off,n)):XU o.op vs=some q/\ ∀ {f f':Fet} {cs cs':List A},Lp f q=some cs->Lp f' q=some cs'->cs'.length=cs.length->(∀ k,k<n->cs'.getD (off+k) .undef=cs.getD (off+k) .undef)->opX C o vs f'=opX C o vs f:=by
 obtain⟨dst,op,ty,pos,after,guard⟩:=o;dsimp only at h;unfold oneOf at h;split at h
 .injection h with h;injection h with h1 h2;subst h1;refine⟨rfl,fun {f f' cs cs'} h1 h2 h3 h4=> ?_⟩;unfold opX;dsimp only[a1];unfold WQ;dsimp only;rw[h1,h2];rfl
 .simp_all[opX,a1,Vh,Yy,Kr,oneOf,XU,Fet]
 .rename_i t _ o' off';cases ht:C.T t with
  | none=>rw[ht]at h;cases h
  | some ti =>
   rw[ht]at h;dsimp only at h;cases h0:Nat.blt 0 ti.cs.length with
   | false=>rw[h0]at h;cases h
   | true =>
   rw[h0]at h;injection h with h;injection h with h1 h2;injection h2 with h2 h3';subst h1;subst h2;subst h3';have h0:0<ti.cs.length:=by simpa [Ep]using h0
   refine⟨rfl,fun {f f' cs cs'} h1 h2 h3 h4=> ?_⟩;unfold opX;dsimp only[a1];unfold VX LU;rw[ht];unfold Kr;dsimp only;rw[h1,h2];dsimp only;rw[h3];congr 1;unfold oN;cases ti.agg with
   | false =>have:=h4 0 h0;simpa using this
   | true =>
    refine congrArg A.agg (IB fun i=> ?_);rw[GR,GR];by_cases hi:i<ti.cs.length
    .rw[Dw hi,Dw hi,Gi,Gi];have:=h4 i hi;rw[Dj,Dj]at this;by_cases hl:off'+i<cs.length
     .simp_all[oneOf,XU,Fet,opX]
     .rw[DZ (by omega),DZ (by omega)]
    .rw[Dt hi,Dt hi]
 .cases h
def OM (fet:Fet) (δ :Dl):Prop:= ∀ e∈ δ.same,∃ cs,Lp fet e.1=some cs/\ ∀ p∈ δ.upd,p.1=e.1-> ∃ cs',p.2= .box cs'/\cs'.length=cs.length/\cs'.getD e.2 .undef=cs.getD e.2 .undef
theorem Alq {fet:Fet} (x:A) (j:Nat) {δ :Dl} (h:OM fet δ):OM fet (TM fet x j δ):=by
 unfold TM;split
 .rename_i q off;cases hb:Lp fet q with
  | none=>exact h
  | some cs =>
   dsimp only;cases hc:Nat.blt j cs.length&& δ.upd.all (fun p=> !(Nat.beq p.1 q)||Ac9 cs.length p.2)with
   | false=>exact h
   | true =>
    rw[Dq,Ep]at hc;have hset: ∀ ds:List A,ds.length=cs.length-> ∀ i,(ds.set j (cs.getD j .undef)).getD i .undef=if j=i then cs.getD j .undef else ds.getD i .undef:=by intro ds hd i;rw[Dj,FC];by_cases hij:j=i;all_goals simp_all[Fet,OM,TM]
    have key: ∀ p0∈ δ.upd,Nat.beq p0.1 q=true-> ∃ ds,p0.2= .box ds/\ds.length=cs.length:=by
     intro p0 hp0 hq;have h1:=D7.1 hc.2 p0 hp0;rw[hq]at h1;have h1:Ac9 cs.length p0.2=true:=h1;obtain⟨n,y⟩:=p0;cases y with
     | box ds=>exact⟨ds,rfl,Dp h1⟩
     | _=>cases h1
    intro e he;rcases Dz.1 (show e∈(q,j):: δ.same from he)with rfl | he
    .refine⟨cs,hb,fun p hp hpq=> ?_⟩;obtain⟨p0,hp0,rfl⟩:=DF.1 (show p∈ δ.upd.map _ from hp);cases hq:Nat.beq p0.1 q with
     | false=>simp_all[Fet,OM,TM]
     | true=>grind[Aqn]
    .obtain⟨cs0,h4,h5⟩:=h e he;refine⟨cs0,h4,fun p hp hpq=> ?_⟩;obtain⟨p0,hp0,rfl⟩:=DF.1 (show p∈ δ.upd.map _ from hp);cases hq:Nat.beq p0.1 q with
     | false=>rw[hq]at hpq;exact h5 p0 hp0 hpq
     | true =>rw[hq]at hpq;have hpq:p0.1=e.1:=hpq;obtain⟨ds,h2,h3⟩:=key p0 hp0 hq;obtain⟨cs',g1,g2,g3⟩:=h5 p0 hp0 hpq;all_goals simp_all[Aqn,Fet,OM,TM]
 .exact h
theorem Als {fet:Fet} (xs:List A): ∀(ks:List (Nat×Nat)) {δ :Dl},OM fet δ ->OM fet (keepD fet xs ks δ):=by
 intro ks
 induction ks with
 | nil=>intro δ h;exact h
 | cons k ks ih=>intro δ h;exact ih (Alq _ _ h)
theorem OM.nil {fet:Fet} {δ :Dl} (h: δ.same=[]):OM fet δ :=fun e he=>by rw[h]at he;cases he
theorem AcY {o:Oper} {s:St} (pre:List Bool):OM (Ku s (Kz o s)) (TC C o s pre):=by
 cases hc:yJ o.op with
 | false=>exact OM.nil (by unfold TC;rw[hc];rfl)
 | true =>
  have key:OM (Ku s (Kz o s)) (opX C o (Kz o s) (Ku s (Kz o s))):=by
   generalize Kz o s=vs;generalize Ku s vs=fet;obtain⟨dst,op,ty,pos,after,guard⟩:=o;dsimp only at hc;unfold yJ at hc;split at hc
   .cases vs with
    | nil=>exact OM.nil rfl
    | cons x xs =>
     rename_i f _ _;show OM fet (Zy C fet (dst.getD 0) f xs);unfold Zy;cases yX C f xs with
     | none=>exact OM.nil rfl
     | some sg=>exact Als _ _ (OM.nil rfl)
   .cases hc
  intro e he;have he:e∈(bif yJ o.op then(opX C o (Kz o s) (Ku s (Kz o s))).same else []):=he;rw[hc]at he;exact key e he
theorem Amo {ops:List Oper} {o:Oper} {s:St}:OM (Ku s (Kz o s)) (KE C ops o s):=by
 unfold KE;split
 .exact AcY _
 .grind[split,AcY,OM.nil]
 .exact OM.nil rfl
end
end Go.Proofs.YtbgjmioccbacdaaGreatDoor.Vm
