import Derived.Test.YtehkhflpjkokeaaGreatDoorA7
import Derived.Scope
import Derived.LoopN
import Derived.Tactics
import Derived.Orders
set_option linter.all false
namespace Go.Proofs.YtehkhflpjkokeaaGreatDoor.Vm
open Classical
section
variable {P:Program} {C:Ctx} {V0:Nat->Value} {O0 O:Own} {w0 w:World} {m:Nat->Value} {st:St} {a:Act}
def Aou {C:Ctx} {o:Oper} {f:Nat} {q:Alt} (h:aP C o=some (f,q)):C.alt f=some q:=by
 unfold aP at h;split at h
 .rename_i g _ _ _ _;cases ha:C.alt g with
  | none=>rw[ha]at h;cases h
  | some q'=>simp_all[Alt,aP]
 .cases h
def Asd {ρ :Type} (hC:NY P C) {ops:Array Oper} {Q:Exit->Act->World->Prop} {v: ρ} {K:St->Option ρ} (hK: ∀ O' m' st' a' w',Sim V0 O0 w0 O' m' st' a' w'->K st'=some v->Q .normal a' w') :
 ∀(l:List Oper) {O:Own} {m:Nat->Value} {st:St} {a:Act} {w:World},Sim V0 O0 w0 O m st a w->WC C ops.toList l st K=some v->wpList P ops Q l a w:=by
 intro l
 induction l with
 | nil=>intro O m st a w hS h;exact hK _ _ _ _ _ hS h
 | cons o r ih =>
  intro O m st a w hS h;have one: ∀ C':Ctx,NY P C'->allT (KF C' ops.toList o st).ok (WC C ops.toList r (apply st o (KF C' ops.toList o st)) K)=some v->wpList P ops Q (o::r) a w:=by intro C' hC' h;obtain⟨h1,h2⟩:=U0 h;refine wpList_step fun k hk=> ?_;exact Afm hC' hS h1 k Q fun O' m' a' w' hS'=>hk _ _ (ih hS' h2)
  unfold WC at h;cases ha:aP C o with
  | none=>rw[ha]at h;exact one C hC h
  | some q =>
   obtain⟨f,q⟩:=q;rw[ha]at h;dsimp only at h;obtain⟨h1,h2⟩:=hC.alt f q (Aou ha);cases hb:Af1 o st q with
   | true=>rw[hb]at h;exact one _ (hC.put h1) h
   | false=>rw[hb]at h;exact one _ (hC.put h2) h
def Post {ρ :Type} (V0:Nat->Value) (O0:Own) (w0:World) (fin:St->Option ρ) (K:Ex->St->Option ρ) (v: ρ):Exit->Act->World->Prop
 | .normal,a,w=> ∃ O m st,Sim V0 O0 w0 O m st a w/\K .normal st=some v
 | .exit id,a,w=> ∃ O m st,Sim V0 O0 w0 O m st a w/\K (.exit id) st=some v
 | .ret,a,w=> ∃ O m st,Sim V0 O0 w0 O m st a w/\fin st=some v
 | _,_,_=>False
def AqS (hS:Sim V0 O0 w0 O m st a w) {c:Operand} {t:Bool} (h:KN st.tmps c= .bool t\/KN st.tmps c= .cnd true (.bool t)):a.eval c= .bool t:=by
 have:=Ac4 hS c;rcases h with h | h
 .rw[h]at this;exact this.bool
 .rw[h]at this;have h1:J3 O w (a.eval c) (.bool t):=this.1 rfl;generalize a.eval c=z at h1 ⊢;cases h1;rfl
def AoC {ρ :Type} (hC:NY P C) (N:Nat) {fin:St->Option ρ} {v: ρ}
 (hdraw: ∀ {C:Ctx},NY P C-> ∀(id:Nat) (ops:Array Oper) {O:Own} {m:Nat->Value} {st:St} {a:Act} {w:World} (K:Ex->St->Option ρ),Sim V0 O0 w0 O m st a w->TT C ops.toList st=true->WE C ops.toList ops.toList st (fun st'=>K .normal st')=some v ->
   (Code.region id ops true).wp P (Post V0 O0 w0 fin K v) a w) :
 ∀(c:Code) {O:Own} {m:Nat->Value} {st:St} {a:Act} {w:World} {K:Ex->St->Option ρ},Sim V0 O0 w0 O m st a w->exec C N fin c st K=some v->c.wp P (Post V0 O0 w0 fin K v) a w:=by
 intro c
 induction c with
 | skip=>intro O m st a w K hS h;exact wp_skip ⟨O,m,st,hS,h⟩
 | label l=>intro O m st a w K hS h;exact wp_label ⟨O,m,st,hS,h⟩
 | ret=>intro O m st a w K hS h;exact wp_ret ⟨O,m,st,hS,h⟩
 | exit id =>intro O m st a w K hS h;obtain⟨O',m',st',hS',h'⟩:=zO hS (show TW C (4*id+3) st (fun st'=>K (.exit id) st')=some v from h);exact wp_exit ⟨O',m',st',hS',h'⟩
 | region id ops d =>
  intro O m st a w K hS h;cases d with
  | false =>
   have key: ∀ C':Ctx,NY P C'->WC C' ops.toList ops.toList st (fun st'=>K .normal st')=some v->(Code.region id ops false).wp P (Post V0 O0 w0 fin K v) a w:=fun C' hC' h' =>
    wp_region_list (Asd hC' (K:=fun st'=>K .normal st') (fun O' m' st' a' w' hS' h'=>⟨O',m',st',hS',h'⟩) ops.toList hS h')
   rcases(bQ (show split C id ops.toList st _=some v from h)).1 with h' | ⟨ds,b,h'⟩
   .exact key C hC h'
   .exact key _ (hC.decide ds b) h'
  | true =>
   have key: ∀ C':Ctx,NY P C'->(bif TT C' ops.toList st then WE C' ops.toList ops.toList st (fun st'=>K .normal st')else none)=some v->(Code.region id ops true).wp P (Post V0 O0 w0 fin K v) a w:=by
    intro C' hC' h';cases hd:TT C' ops.toList st with
    | false=>rw[hd]at h';cases h'
    | true=>rw[hd]at h';exact hdraw hC' id ops K hS hd h'
   rcases(bQ (show split C id ops.toList st _=some v from h)).1 with h' | ⟨ds,b,h'⟩
   .exact key C hC h'
   .exact key _ (hC.decide ds b) h'
 | seq x y ihx ihy =>
  intro O m st a w K hS h;refine wp_seq (Jk (ihx (K:=fun | .normal,st'=>meet C 1 y st' fun st''=>exec C N fin y st'' K | .exit id,st'=>K (.exit id) st') hS h) fun e a' w' hq=> ?_);cases e with
  | normal =>obtain⟨O1,m1,st1,hS1,h1⟩:=hq;obtain⟨O2,m2,st2,hS2,h2⟩:=qZ hS1 h1;exact ihy hS2 h2
  | exit id=>exact hq
  | ret=>exact hq
  | goto l=>exact hq
  | panic ch=>exact hq
  | outgrown=>exact hq
 | cond c x y ihx ihy =>
  intro O m st a w K hS h
  have key: ∀ t:Bool,(KN st.tmps c= .bool t\/KN st.tmps c= .cnd true (.bool t))->(bif t then exec C N fin x st K else exec C N fin y st K)=some v->(Code.cond c x y).wp P (Post V0 O0 w0 fin K v) a w:=by
   intro t ht h';refine wp_cond (AqS hS ht) ?_;cases t with
   | true=>exact ihx hS h'
   | false=>exact ihy hS h'
  simp only[exec]at h;cases he:KN st.tmps c with
  | bool t=>rw[he]at h;exact key t (.inl he) h
  | cnd g y' =>
   rw[he]at h;cases y' with
   | bool t =>
    cases g with
    | false=>cases h
    | true=>exact key t (.inr he) h
   | _=>cases h
  | _=>rw[he]at h;cases h
 | block id c ih =>
  intro O m st a w K hS h;refine wp_block (Jk (ih (K:=fun | .exit j,st'=>bif Nat.beq j id then K .normal st' else K (.exit j) st' | .normal,st'=>K .normal st') hS h) fun e a' w' hq=> ?_);cases e with
  | normal=>exact hq
  | exit j =>
   obtain⟨O1,m1,st1,hS1,h1⟩:=hq;dsimp only at h1;show if j=id then _ else _;rw[UO]at h1;by_cases hj:j=id
   .rw[Dp hj];simp only[hj,Gf,cond_true]at h1;exact⟨O1,m1,st1,hS1,h1⟩
   .rw[Dk hj];rw[show decide (j=id)=false by simpa using hj]at h1;exact⟨O1,m1,st1,hS1,h1⟩
  | ret=>exact hq
  | goto l=>exact hq
  | panic ch=>exact hq
  | outgrown=>exact hq
 | loop c ih =>
  intro O m st a w K hS h;obtain⟨O1,m1,st1,hS1,h1⟩:=qZ hS (show meet C 2 c st (fun st'=>rounds (meet C 2 c) (exec C N fin c) N st' K)=some v from h);refine wp_loop_rounds N ?_
  have key: ∀(n:Nat) {O:Own} {m:Nat->Value} {st:St} {a:Act} {w:World},Sim V0 O0 w0 O m st a w->rounds (meet C 2 c) (exec C N fin c) n st K=some v->Code.rounds P c (Post V0 O0 w0 fin K v) n a w:=by
   intro n
   induction n with
   | zero=>intro O m st a w _ h;cases h
   | succ n ihn =>
    intro O m st a w hS h;refine Jk (ih (K:=fun | .normal,st'=>meet C 2 c st' fun st''=>rounds (meet C 2 c) (exec C N fin c) n st'' K | .exit id,st'=>K (.exit id) st') hS h) fun e a' w' hq=> ?_;cases e with
    | normal =>obtain⟨O2,m2,st2,hS2,h2⟩:=hq;obtain⟨O3,m3,st3,hS3,h3⟩:=qZ hS2 h2;exact ihn hS3 h3
    | exit id=>exact hq
    | ret=>exact hq
    | goto l=>exact hq
    | panic ch=>exact hq
    | outgrown=>exact hq
  exact key N hS1 h1
 | scope c ih =>intro O m st a w K hS h;refine wp_scope_straight (Jk (ih hS (show exec C N fin c st K=some v from h)) fun e a' w' hq=> ?_);cases e<;>first | exact hq | exact hq.elim
 | _=>intro O m st a w K hS h;cases h
end
def OT:Sh->Sh
 | .box ks=>.box ks
 | .map kt vt=>.map kt vt
 | .clo _ ks=>.box ks
 | _=>.cell false .bool
def AuV:Sh->Nat->A
 | .box _,i=>.ptr (256*i) 0
 | .map _ _,i=>.own (256*i)
 | .clo _ _,i=>.ptr (256*i) 0
 | _,_=>.bool true
def Py:List Sh->Nat->List A
 | [],_=>[]
 | s::ss,i=>AuV s i::Py ss (i+1)
def unbox:A->A
 | .box cs=>.agg cs
 | a=>a
def AaW (Js:List Sh) (xs:List A) (n:Nat):St:= {tmps:=(KL 0 256 Js xs 0).2.1++List.replicate (n - Js.length) .undef,Jp:=JD [] (KL 0 256 Js xs 0).2.2}
def AcY (C:Ctx) (st:St) (q:Nat×Option Nat):List Bool×A :=
 match q.2 with
 | none=>([Nat.blt q.1 st.tmps.length],st.tmps.getD q.1 .undef)
 | some ty=>match X0 C st.Jp ty (st.tmps.getD q.1 .undef)with
  | δ =>(Nat.blt q.1 st.tmps.length:: δ.ok,δ.val)
def OD (C:Ctx) (outs:List (Nat×Option Nat)) (st:St):List A:=outs.map (fun q=>(AcY C st q).2)
def finish (C:Ctx) (Js JA:List Sh) (outs:List (Nat×Option Nat)) (st:St):Option (List A) :=
 allT ((J8 st.Jp JA (OD C outs st)).1++(J8 st.Jp (Js.map OT) (Py Js 0)).1 ++
  [nodup ((MQ st.Jp 256000 256 JA (OD C outs st)++MQ st.Jp 0 256 (Js.map OT) (Py Js 0)).map (·.1)),!(JA.any wS||(Js.map OT).any wS)||((J8 st.Jp JA (OD C outs st)).2.2.1.isEmpty&&(J8 st.Jp (Js.map OT) (Py Js 0)).2.2.1.isEmpty)]++outs.flatMap (fun q=>(AcY C st q).1))
  (some ((J8 st.Jp JA (OD C outs st)).2.1++(KX Js 0).map (fun i=>unbox ((J8 st.Jp (Js.map OT) (Py Js 0)).2.1.getD i .undef))))
def runK {ρ :Type} (C:Ctx) (N:Nat) (Js:List Sh) (n:Nat) (code:Code) (fin:St->Option ρ) (xs:List A):Option ρ :=
 allT ((KL 0 256 Js xs 0).1++[nodup ((KL 0 256 Js xs 0).2.2.map (·.1)),!(has ((KL 0 256 Js xs 0).2.2.map (·.1)) 255)])
  (exec C N fin code (AaW Js xs n) fun
    | .normal,st=>fin st
    | .exit _,_=>none)
section
variable {P:Program} {C:Ctx} {V0:Nat->Value} {O0 O:Own} {w0 w:World} {m:Nat->Value} {st:St} {a:Act}
def Vj {id:Nat}: ∀(ks:List (Bool×CK)) (cs:List A) (j0:Nat),∀ p∈(JI id ks cs j0).2.2,∃ x,p.1=id+x/\x<j0+ks.length:=by
 intro ks
 induction ks with
 | nil=>intro cs j0 p hp;simp [JI]at hp
 | cons k ks ih =>
  intro cs j0 p hp;have step:p∈(JI id ks cs (j0+1)).2.2-> ∃ x,p.1=id+x/\x<j0+(k::ks).length:=by intro h;obtain⟨x,h1,h2⟩:=ih cs (j0+1) p h;exact⟨x,h1,by simp only[List.length_cons];omega⟩
  obtain⟨u,k⟩:=k;cases u with
  | false=>exact step hp
  | true =>
   cases k with
   | sl e sz =>
    simp only[JI]at hp;rcases D6.1 hp with rfl | hp
    .exact⟨j0,rfl,by simp⟩
    .exact step hp
   | sln e sz =>
    simp only[JI]at hp;rcases D6.1 hp with rfl | hp
    .exact⟨j0,rfl,by simp⟩
    .exact step hp
   | bx t =>
    simp only[JI]at hp;rcases D6.1 hp with rfl | hp
    .exact⟨j0,rfl,by simp⟩
    .exact step hp
   | mp kt vt =>
    simp only[JI]at hp;rcases D6.1 hp with rfl | hp
    .exact⟨j0,rfl,by simp⟩
    .exact step hp
   | _=>simp [JI]at hp
theorem AqG {id:Nat} {s:Sh} {x:A} (hok:J5 (back id s x).1): ∀ p∈(back id s x).2.2,∃ i,p.1=id+i/\i<255:=by
 intro p hp;cases s with
 | cell u k =>obtain⟨i,h1,h2⟩:=Vj _ _ _ p hp;exact⟨i,h1,by simp at h2;omega⟩
 | agg ks =>simp only[back]at hok hp;have:=DW hok.cons.1;obtain⟨i,h1,h2⟩:=Vj _ _ _ p hp;exact⟨1+i,by omega,by omega⟩
 | box ks =>
  simp only[back]at hok hp;have:=DW hok.cons.1;rcases D6.1 hp with rfl | hp
  .exact⟨0,rfl,by omega⟩
  .obtain⟨i,h1,h2⟩:=Vj _ _ _ p hp;exact⟨1+i,by omega,by omega⟩
 | clo f' ks =>
  simp only[back]at hok hp;have:=DW hok.cons.1;rcases D6.1 hp with rfl | hp
  .exact⟨0,rfl,by omega⟩
  .obtain⟨i,h1,h2⟩:=Vj _ _ _ p hp;exact⟨1+i,by omega,by omega⟩
 | map kt vt=>simp_all[back,Sh,J5]
def Ao0 {f:Nat->Value}: ∀(ss:List Sh) (rs:List A) (j0:Nat),J5 (KL 0 256 ss rs j0).1-> ∀ p∈Xg w f 0 256 ss rs j0,p.2=NG w (f (p.1 / 256)) (p.1 % 256):=by
 intro ss
 induction ss with
 | nil=>grind[Xg]
 | cons s ss ih =>intro rs j0 hok p hp;simp only[KL]at hok;obtain⟨h1,h2⟩:=hok.append;all_goals grind[Xg,AqG]
def Ark {Js:List Sh} {xs:List A} {n:Nat} {vs:Array Value} (hI:Inv O w) (hv:vs.size=xs.length) (hl:xs.length=Js.length) (h: ∀ j,j<xs.length->IR O w (256*j) (vs.getD j undef) (xs.getD j .undef))
 (hok:J5 (KL 0 256 Js xs 0).1) (hnd:nodup ((KL 0 256 Js xs 0).2.2.map (·.1))=true) (h255:has ((KL 0 256 Js xs 0).2.2.map (·.1)) 255=false) :
 Sim (fun o=>innerS w (Js.getD (o / 256) (.agg [])) (vs.getD (o / 256) undef)) O w O (fun o=>NG w (innerS w (Js.getD (o / 256) (.agg [])) (vs.getD (o / 256) undef)) (o % 256)) (AaW Js xs n) {tmps:=vs++Array.replicate (n - vs.size) undef,defers:=[]} w:=by
 have hmem: ∀ o x,Jy (JD [] (KL 0 256 Js xs 0).2.2) o=some x->(o,x)∈(KL 0 256 Js xs 0).2.2:=by
  intro o x hx;rcases aZ _ (Acs hx)with h | h
  .exact h
  .cases h
 have hget: ∀ p∈(KL 0 256 Js xs 0).2.2,Jy (JD [] (KL 0 256 Js xs 0).2.2) p.1=some p.2:=fun p hp=>oW (Jp:=[]) (upd:=[]) (del:=[]) hnd (o:=p.1) (x:=p.2) hp
 obtain⟨r1,r2,r3⟩:=Ad1 (Oc:=O) (O':=O) (w:=w) (objs':=JD [] (KL 0 256 Js xs 0).2.2) (m':=fun o=>NG w (innerS w (Js.getD (o / 256) (.agg [])) (vs.getD (o / 256) undef)) (o % 256)) (cid:=0) (cst:=256) (id:=0) (stride:=256) (f:=fun j=>vs.getD j undef) (g:=fun j=>innerS w (Js.getD j (.agg [])) (vs.getD j undef)) (rs:=xs)
  (fun _ _ _ h hc=>⟨h,hc⟩) (fun _ _ h=>h) Js 0 (fun j _=>by rw[DV]) (fun j hj=>by rw[DV,DV];exact h j (by rw[hl];exact hj)) (fun j _ b k i _ hb=>hb) hok hget
  (fun p hp=>(Ao0 Js xs 0 hok p hp).symm)
 refine⟨rfl,?_,fun t ht=> ?_,fun o x hx=>r3 _ (hmem o x hx),Moves.refl O _ w,fun b k o _ ho hne=>⟨o,ho,hne⟩,fun o x hx e=> ?_,fun b k _ h=>h,fun o hr _=> ?_,fun b k _ h=>h,hI⟩
 .simp [AaW,r1,hv,hl]
 .show J7 O _ _ w (((vs++Array.replicate (n - vs.size) undef).getD t undef)) (((KL 0 256 Js xs 0).2.1++List.replicate (n - Js.length) A.undef).getD t .undef);rcases Es t Js.length with htl | htl
  .have e1:((KL 0 256 Js xs 0).2.1++List.replicate (n - Js.length) A.undef).getD t .undef=(KL 0 256 Js xs 0).2.1.getD t .undef:=by
    simp [Dj,Eu,r1,htl]
   have e2:(vs++Array.replicate (n - vs.size) undef).getD t undef=vs.getD t undef:=by
    have:t<vs.size:=by rw[hv,hl];exact htl
    simp [Dq,EZ,this]
   rw[e1,e2];have:=(r2 t htl).1;rw[DV]at this;exact this
  .have e1:((KL 0 256 Js xs 0).2.1++List.replicate (n - Js.length) A.undef).getD t .undef= .undef:=by
    rw[Dj,EC (by rw[r1];exact htl),List.getElem?_replicate];split<;>rfl
   rw[e1];trivial
 .subst e;have:=hmem _ x hx;have h':has ((KL 0 256 Js xs 0).2.2.map (·.1)) 255=true:=OL.2 (DF.2 ⟨_,this,rfl⟩);rw[h']at h255;cases h255
 .unfold XQ at hr;rw[Du]at hr;have:=Dy hr.2;rw[this];rfl
def AkD {fet:Fet}: ∀(ss:List Sh) (xs:List A),J5 (J8 fet ss xs).1-> ∀ i s,ss[i]? =some s->KE s=true->Abj (unbox ((J8 fet ss xs).2.1.getD i .undef))=(J8 fet ss xs).2.1.getD i .undef:=by
 intro ss
 induction ss with
 | nil=>intro xs _ i s h;simp at h
 | cons s ss ih =>
  intro xs hok i s' h hb;cases xs with
  | nil=>have:=hok false (by simp [J8]);cases this
  | cons x xs =>
   simp only[J8]at hok ⊢;obtain⟨h1,h2⟩:=hok.append;cases i with
   | zero =>
    simp at h;subst h;cases s with
    | cell _ _=>cases hb
    | agg _=>cases hb
    | map kt vt =>
     cases x with
     | own q =>
      unfold JU at h1 ⊢;dsimp only at h1 ⊢;cases hg:Jy fet q with
      | none=>rw[hg]at h1;have:=h1 false (by simp);cases this
      | some y =>
       cases y with
       | mp l=>rfl
       | _=>rw[hg]at h1;have:=h1 false (by simp);cases this
     | _=>have:=h1 false (by simp [JU]);cases this
    | box ks =>
     cases x with
     | ptr q off =>
      unfold JU at h1 ⊢;dsimp only at h1 ⊢;cases hb:L6 fet q with
      | none=>rw[hb]at h1;have:=h1 false (by simp);cases this
      | some cs=>rfl
     | _=>have:=h1 false (by simp [JU]);cases this
    | clo f' ks =>
     cases x with
     | clo g q =>
      unfold JU at h1 ⊢;dsimp only at h1 ⊢;cases hb:L6 fet q with
      | none=>rw[hb]at h1;have:=h1 false (by simp);cases this
      | some cs=>rfl
     | _=>have:=h1 false (by simp [JU]);cases this
   | succ i=>simpa using ih xs h2 i s' (by simpa using h) hb
def Ao5: ∀(ss:List Sh) (i0 j i:Nat),(KX ss i0)[j]? =some i-> ∃ r s,i=i0+r/\ss[r]? =some s/\KE s=true:=by
 intro ss
 induction ss with
 | nil=>grind[KX]
 | cons s ss ih =>
  intro i0 j i h;have step: ∀ j':Nat,(KX ss (i0+1))[j']? =some i-> ∃ r s',i=i0+r/\(s::ss)[r]? =some s'/\KE s'=true:=by intro j' h';obtain⟨r,s',h1,h2,h3⟩:=ih (i0+1) j' i h';exact⟨r+1,s',by omega,by simpa using h2,h3⟩
  simp only[KX]at h;cases s with
  | box ks =>
   simp only[KE,cond_true]at h;cases j with
   | zero=>simp_all[Sh,KX,KE]
   | succ j=>exact step j (by simpa using h)
  | clo f' ks =>
   simp only[KE,cond_true]at h;cases j with
   | zero=>simp_all[Sh,KX,KE]
   | succ j=>exact step j (by simpa using h)
  | map kt vt =>
   simp only[KE,cond_true]at h;cases j with
   | zero=>simp_all[Sh,KX,KE]
   | succ j=>exact step j (by simpa using h)
  | cell u k=>grind[KE]
  | agg ks=>grind[KE]
def Ala: ∀(ss:List Sh) (i0:Nat),(Py ss i0).length=ss.length:=by
 intro ss
 induction ss with
 | nil=>intro i0;rfl
 | cons s ss ih=>intro i0;simp [Py,ih]
def Ap5: ∀(ss:List Sh) (i0 j:Nat),j<ss.length->(Py ss i0).getD j .undef=AuV (ss.getD j (.agg [])) (i0+j):=by
 intro ss
 induction ss with
 | nil=>intro i0 j h;simp at h
 | cons s ss ih =>
  intro i0 j h;cases j with
  | zero=>grind[Py]
  | succ j=>grind[Py]
end
def rv:Nat×Option Nat->ResultVar
 | (t,none)=>.tmp t
 | (a,some ty)=>.cell a ty
def Abi (tmps:Array Value):ResultVar->Sem Value
 | .tmp t=>pure (tmps.getD t undef)
 | .cell a t=>do loadVar t (<- asAddr (tmps.getD a undef))
def AtV {P:Program} {w:World} {α :Type} {g: α ->Sem Value}: ∀(l:List α) (f:Nat->Value),(∀(j:Nat) (x: α),l[j]? =some x->(g x).run P w= .ok (f j) w)->(l.mapM g).run P w= .ok ((List.range l.length).map f) w:=by
 intro l
 induction l with
 | nil=>intro f _;simp
 | cons x r ih =>intro f h;have h1:=ih (fun j=>f (j+1)) (fun j y hy=>h (j+1) y (by simpa using hy));have h2:=h 0 x rfl;rw[I5];simp only[D8,h2,Result.andThen_ok,h1,Sem.run_pure,List.length_cons,H8,Em,EW];rfl
def Aha (us:Array Value):Value:=if h:us.size=1 then us[0]else .tuple us
def Anx {P:Program} {w:World} {fn:Func} {outs:List (Nat×Option Nat)} {tmps:Array Value} (h:fn.results=(outs.map rv).toArray) (f:Nat->Value) (hf: ∀(j:Nat) (q:Nat×Option Nat),outs[j]? =some q->(Abi tmps (rv q)).run P w= .ok (f j) w) :
 (results fn tmps).run P w= .ok (Aha ((List.range outs.length).map f).toArray) w:=by
 have e:results fn tmps=(do let vs <- fn.results.mapM (Abi tmps);pure (Aha vs)):=by
  have e0:Abi tmps=(fun | .tmp t=>pure (tmps.getD t undef) | .cell a t=>do loadVar t (<- asAddr (tmps.getD a undef))):=by funext x;cases x<;>rfl
  unfold results Aha;rw[e0];rfl
 rw[e,h,List.mapM_toArray]
 have:=AtV (P:=P) (w:=w) (g:=Abi tmps) (outs.map rv) f (fun j x hx=>by
  rw[EF]at hx;cases hq:outs[j]? with
  | none=>rw[hq]at hx;cases hx
  | some q=>rw[hq]at hx;injection hx with hx;rw[<- hx];exact hf j q hq)
 all_goals simp_all[rv,Abi,Aha]
section
variable {P:Program} {C:Ctx} {V0:Nat->Value} {O0 O:Own} {w0 w:World} {m:Nat->Value} {st:St} {a:Act}
def Aqh {Js:List Sh} {i:Nat} {s:Sh} (h:Js[i]? =some s) (hb:KE s=true):(Js.map OT)[i]? =some (OT s)/\KE (OT s)=true/\KE (Js.getD i (.agg []))=true/\i<Js.length:=by
 have hi:i<Js.length:=by all_goals grind[Sh,KE,OT]
 refine⟨(by rw[EF,h];rfl),(by cases s<;>first | rfl | (cases hb;done)),?_,hi⟩;rw[Dj,h];exact hb
def Arj {Js JA:List Sh} {outs:List (Nat×Option Nat)} {rs:List A} {vs:Array Value} {sg:Sig} {fn:Func} (hC:TOk P C) (hfn:fn.results=(outs.map rv).toArray) (hp:sg.Js=Js) (hr:sg.JA=JA) (h100:Js.length<=100)
 (hptr: ∀ i,i<Js.length->KE (Js.getD i (.agg []))=true->(innerS w0 (Js.getD i (.agg [])) (vs.getD i undef)).oneCell'=true)
 (hS:Sim (fun o=>innerS w0 (Js.getD (o / 256) (.agg [])) (vs.getD (o / 256) undef)) O0 w0 O m st a w) (h:finish C Js JA outs st=some rs) :
 ∃ v O',(results fn a.tmps).run P w= .ok v w/\Came O0 w0 vs sg rs v O' w:=by
 obtain⟨hok,hrs⟩:=U0 h;injection hrs with hrs;obtain⟨hokA,hokO⟩:=hok.append;obtain⟨hokA,hokB⟩:=hokA.append;obtain⟨hok1,hok2⟩:=hokA.append;have hnd:=hokB.cons.1;have hwr:=hokB.cons.2.cons.1;have hf:Ob st.Jp st.Jp:=fun _ _ h=>h;generalize hN:MQ st.Jp 256000 256 JA (OD C outs st)++MQ st.Jp 0 256 (Js.map OT) (Py Js 0)=N at *
 have hout: ∀ j:Nat,∃ u:Value,∀ q,outs[j]? =some q->(Abi a.tmps (rv q)).run P w= .ok u w/\J7 O st.Jp m w u (AcY C st q).2:=by
  intro j;cases hj:outs[j]? with
  | none=>exact⟨undef,fun q hq=>by cases hq⟩
  | some q =>
   have hqok:J5 (AcY C st q).1:=fun b hb=>hokO b (Ez.2 ⟨q,Ie hj,hb⟩);obtain⟨t,ty⟩:=q;cases ty with
   | none =>have hlt:=hqok.cons.1;rw[EK]at hlt;exact⟨a.tmps.getD t undef,fun q hq=>by injection hq with hq;subst hq;exact⟨rfl,hS.tmps t hlt⟩⟩
   | some ty =>
    have hq2:J5 (Nat.blt t st.tmps.length::(X0 C st.Jp ty (st.tmps.getD t .undef)).ok):=hqok;obtain⟨hlt,hld⟩:=hq2.cons;rw[EK]at hlt;obtain⟨u,hu1,hu2⟩:=(Ah4 (o:= {(default:Oper)with op:=.load ty (.tmp t)}) hC (fun q x hq=>⟨hq,hS.Jp q x hq⟩) rfl (Ac4 hS (.tmp t)) hld).run;refine⟨u,fun q hq=> ?_⟩;injection hq with hq;subst hq;refine⟨?_,hu2⟩;have hev:a.eval (.tmp t)=a.tmps.getD t undef:=by simp [Act.eval]
    simp only[execOp,Instr.loadAt,hev]at hu1;show(do loadVar ty (<- asAddr (a.tmps.getD t undef)):Sem Value).run P w=_;generalize a.tmps.getD t undef=z at hu1 ⊢;cases z with
    | pointer p =>
     cases p with
     | none=>simp [Instr.sureAddr]at hu1
     | some ad =>
      simp only[asAddr,D8,Sem.run_pure,Result.andThen_ok];simp only[Instr.sureAddr,pure_bind,D8,Sem.run_pure]at hu1;cases hl:(loadVar ty ad).run P w with
      | ok x w2 =>rw[hl]at hu1;simp only[Result.andThen_ok,Sem.run_pure,Result.ok.injEq,Next.value.injEq]at hu1;rw[hu1.1,hu1.2]
      | halt x w2=>rw[hl]at hu1;simp [Result.andThen]at hu1
    | _=>simp [Instr.sureAddr]at hu1
 obtain⟨fv,hfv⟩:=Hu hout
 obtain⟨g1,g2,g3,_,g5⟩:=We (W:=(J8 st.Jp JA (OD C outs st)).2.2.1++(J8 st.Jp (Js.map OT) (Py Js 0)).2.2.1=[]) hf hS.Jp 256 JA (OD C outs st) 256000 fv (fun e=>by rw[e]at hwr;simpa using hwr) (fun j hj=>by
  have hj':j<outs.length:=by simpa [OD]using hj
  have e:(OD C outs st).getD j .undef=(AcY C st outs[j]).2:=by simp [OD,Dj,hj']
  rw[e];exact(hfv j _ (DC hj')).2) hok1
 have hmaskl:(Js.map OT).length=Js.length:=by simp
 obtain⟨k1,k2,k3,_,k5⟩:=We (W:=(J8 st.Jp JA (OD C outs st)).2.2.1++(J8 st.Jp (Js.map OT) (Py Js 0)).2.2.1=[]) hf hS.Jp 256 (Js.map OT) (Py Js 0) 0 (fun j=>if KE (Js.getD j (.agg []))then innerS w0 (Js.getD j (.agg [])) (vs.getD j undef)else .bool true) (fun e=>by rw[e,Ew]at hwr;simpa using hwr) (fun j hj=>by
  have hj':j<Js.length:=by rw[Ala]at hj;exact hj
  rw[Ap5 Js 0 j hj',DV];have hroot:XQ (256*j)=true:=by unfold XQ;rw[Du,EK];refine⟨by omega,?_⟩;rw[Nat.mul_mod_right];rfl
  have hrt: ∀ x,Jy st.Jp (256*j)=some x->m (256*j)=innerS w0 (Js.getD j (.agg [])) (vs.getD j undef):=fun x hx=>by have:=hS.root (256*j) hroot (by rw[hx];rfl);rw[Nat.mul_div_cancel_left j (by decide)]at this;exact this
  have hp:=hptr j hj';generalize Js.getD j (.agg [])=s at hp hrt ⊢;cases s with
  | box ks =>
   rw[Dp (show KE (Sh.box ks)=true from rfl)];refine⟨hp rfl,?_⟩;cases hx:Jy st.Jp (256*j)with
   | none=>trivial
   | some x =>
    cases x with
    | arr _ _ _=>trivial
    | mp _=>trivial
    | box cs =>obtain⟨b,base,h1,_⟩:=hS.Jp _ _ hx;exact⟨b,base,h1,by rw[<- hrt _ hx,h1];rfl⟩
  | clo f' ks =>
   rw[Dp (show KE (Sh.clo f' ks)=true from rfl)];refine⟨hp rfl,?_⟩;cases hx:Jy st.Jp (256*j)with
   | none=>trivial
   | some x =>
    cases x with
    | arr _ _ _=>trivial
    | mp _=>trivial
    | box cs =>obtain⟨b,base,h1,_⟩:=hS.Jp _ _ hx;exact⟨b,base,h1,by rw[<- hrt _ hx,h1];rfl⟩
  | map kt vt =>
   rw[Dp (show KE (Sh.map kt vt)=true from rfl)];refine⟨hp rfl,?_⟩;cases hx:Jy st.Jp (256*j)with
   | none=>trivial
   | some x =>
    cases x with
    | box _=>trivial
    | arr _ _ _=>exact(hrt _ hx).symm
    | mp _=>exact(hrt _ hx).symm
  | cell u k=>rw[Dk (show ¬ KE (Sh.cell u k)=true from fun h=>by cases h)];exact J3.bool true
  | agg ks=>rw[Dk (show ¬ KE (Sh.agg ks)=true from fun h=>by cases h)];exact J3.bool true) hok2
 obtain⟨O1,hS1,hp1,_,hv1,_,hk1⟩:=hS.freezes _ (g3.append k3);have hρ : ∀ p∈N,look N p.1=some p.2:=AkV hnd
 have halive: ∀ p∈N,(Jy st.Jp p.1).isSome:=by
  intro p hp';rw[<- hN]at hp';rcases DJ.1 hp' with hp' | hp'
  .exact ZH _ _ _ hok1 p hp'
  .exact ZH _ _ _ hok2 p hp'
 generalize hU:(J8 st.Jp JA (OD C outs st)).2.2.1++(J8 st.Jp (Js.map OT) (Py Js 0)).2.2.1=U at *
 have hFU:Frz st.Jp U:=by rw[<- hU];exact g3.append k3
 have hupdO: ∀ p∈U,KT O1 (JD st.Jp U) m w p.1 p.2:=by intro p hp;obtain⟨x,hx1,hx2⟩:=Nl U st.Jp p.1 ⟨p,hp,rfl⟩;obtain⟨e,fz,l,k1,k2⟩:=hFU p hp;obtain⟨e',fz',l',k3,k4⟩:=hFU _ hx1;dsimp only at k3 k4;rw[k1]at k3;injection k3 with k3;injection k3 with q1 q2 q3;subst q1;subst q3;rw[k2,<- k4];exact hS1.Jp p.1 x hx2
 have hR:=g5 (ρ :=look N) hp1 (fun p hp=>hv1 p (by rw[<- hU];exact DL _ hp)) (fun p hp=>hupdO p (by rw[<- hU];exact DL _ hp)) hk1 (fun p hp=>hρ p (by rw[<- hN];exact DL _ hp));have hB:=k5 (ρ :=look N) hp1 (fun p hp=>hv1 p (by rw[<- hU];exact DI _ hp)) (fun p hp=>hupdO p (by rw[<- hU];exact DI _ hp)) hk1 (fun p hp=>hρ p (by rw[<- hN];exact DI _ hp));have hol:outs.length=JA.length:=by rw[<- g2];simp [OD]
 refine⟨_,Na O1 (look N),Anx hfn fv (fun j q hq=>(hfv j q hq).1),hS1.frame,fun b k hb hne=>hS1.less b k hb (fun e=>hne (V8.2 e)),fun b k hb hj=> ?_,?_,?_,?_⟩
 .have:=hS1.kQ b k hb hj;unfold Na;rw[this];dsimp only;cases hl:look N 255 with
  | none=>rfl
  | some i =>have h1:=halive _ (zH hl);obtain⟨x,hx⟩:=EU.1 h1;exact absurd rfl (hS.ids 255 x hx)
 .rw[<- hrs,hp,hr];simp [g1]
 .refine⟨((List.range outs.length).map fv).toArray,by rw[hr];simp [hol],rfl,fun k hk=> ?_⟩;have hk':k<outs.length:=by simpa using hk
  have hus:(((List.range outs.length).map fv).toArray).getD k undef=fv k:=by simp [Dq,hk']
  rw[hus];have:=hR k (by rw[<- hol];exact hk');have e:rs.getD k .undef=(J8 st.Jp JA (OD C outs st)).2.1.getD k .undef:=by rw[<- hrs,Dj,Eu (by rw[g1,<- hol];exact hk'),<- Dj]
  rw[e];exact this
 .intro j i hji;rw[hp]at hji;obtain⟨r,s,h1,h2,h2'⟩:=Ao5 Js 0 j i hji;rw[DV]at h1;subst h1;obtain⟨h3,h3',h4,h5⟩:=Aqh h2 h2';have h6:=AkD _ _ hok2 i _ h3 h3';have e:rs.getD (sg.JA.length+j) .undef=unbox ((J8 st.Jp (Js.map OT) (Py Js 0)).2.1.getD i .undef):=by rw[<- hrs,hr,Dj,EC (by rw[g1];omega),g1,Ht,EF,hji];rfl
  rw[e,h6,hp];have:=hB i (by rw[hmaskl];exact h5);rw[DV,Dp h4]at this;exact this
def Asu {ρ :Type} {o: ρ} {fin:St->Option ρ} (hC:NY P C) (N:Nat)
 (hdraw: ∀ {C:Ctx},NY P C-> ∀ {ρ :Type} {V0:Nat->Value} {O0:Own} {w0:World} {fin:St->Option ρ} {v: ρ} (id:Nat) (ops:Array Oper) {O:Own} {m:Nat->Value} {st:St} {a:Act} {w:World} (K:Ex->St->Option ρ),Sim V0 O0 w0 O m st a w->TT C ops.toList st=true->WE C ops.toList ops.toList st (fun st'=>K .normal st')=some v ->
   (Code.region id ops true).wp P (Post V0 O0 w0 fin K v) a w)
 {f:FuncId} {fn:Func} {code:Code} {outs:List (Nat×Option Nat)} {sg:Sig} (hf:P.funcs[f]? =some fn) (hb:fn.body=some code) (hout:fn.results=(outs.map rv).toArray)
 {vs:Array Value} {xs rs:List A} (hI:Inv O w) (hv:vs.size=xs.length) (hl:xs.length=sg.Js.length) (h100:xs.length<=100) (hx: ∀ j,j<xs.length->IR O w (256*j) (vs.getD j undef) (xs.getD j .undef))
 (h:runK C N sg.Js fn.ntmps code fin xs=some o) (hrs: ∀ st,fin st=some o->finish C sg.Js sg.JA outs st=some rs) :
 Calls P f vs w fun e w'=> ∃ v O',e= .returned v/\Came O w vs sg rs v O' w':=by
 obtain⟨hok,h⟩:=U0 h;obtain⟨hok1,hok2⟩:=hok.append;obtain⟨hnd,hok2⟩:=hok2.cons;have h255:=hok2.cons.1;rw[EY]at h255;have hS:=Ark (n:=fn.ntmps) hI hv hl hx hok1 hnd h255
 have hptr: ∀ i,i<sg.Js.length->KE (sg.Js.getD i (.agg []))=true->(innerS w (sg.Js.getD i (.agg [])) (vs.getD i undef)).oneCell'=true:=by
  intro i hi hb;have hi':i<xs.length:=by rw[hl];exact hi
  have hbk:J5 (back (256*i) (sg.Js.getD i (.agg [])) (xs.getD i .undef)).1:=by
   have key: ∀(ss:List Sh) (j0 i:Nat),i<ss.length->J5 (KL 0 256 ss xs j0).1->J5 (back (0+256*(j0+i)) (ss.getD i (.agg [])) (xs.getD (j0+i) .undef)).1:=by
    intro ss
    induction ss with
    | nil=>intro j0 i h;simp at h
    | cons s ss ih =>
     intro j0 i h hok;simp only[KL]at hok;obtain⟨h1,h2⟩:=hok.append;cases i with
     | zero=>simpa using h1
     | succ i =>have:=ih (j0+1) i (by simpa using h) h2;rw[show j0+1+i=j0+(i+1)from by omega]at this;simpa using this
   have:=key sg.Js 0 i hi hok1;rw[DV,DV]at this;exact this
  have hir:=hx i hi';generalize sg.Js.getD i (.agg [])=s at hb hbk;cases s with
  | box ks =>
   simp only[back]at hbk;have h2:=hbk.cons.2.cons.1;generalize xs.getD i .undef=x at h2 hir;cases x with
   | box cs =>obtain⟨b,base,h3,_⟩:=hir;rw[h3];rfl
   | _=>cases h2
  | clo f' ks =>
   simp only[back]at hbk;have h2:=hbk.cons.2.cons.1;generalize xs.getD i .undef=x at h2 hir;cases x with
   | cbx g cs =>obtain⟨b,base,h3,_⟩:=hir;rw[show innerS w (.clo f' ks) (vs.getD i undef)=_ from h3.inner (ks:=ks)];rfl
   | _=>cases h2
  | map kt vt =>
   obtain⟨l,hl',_,_⟩:=eU (show A.jC kt vt _=true from hbk.cons.1);rw[hl']at hir;obtain⟨r,_,_,h3,_⟩:=(show Ny O w _ _ l from hir)
   rw[h3];rfl
  | _=>cases hb
 refine calls_of_wp hf hb (Jk (AoC hC N (fun hC'=>hdraw hC') code hS h) fun e a' w' hq=> ?_);have fin':(∃ O' m' st',Sim (fun o=>innerS w (sg.Js.getD (o / 256) (.agg [])) (vs.getD (o / 256) undef)) O w O' m' st' a' w'/\fin st'=some o)->a'.defers=[]/\ ∃ v,(results fn a'.tmps).run P w'= .ok v w'/\ ∃ v' O',Ending.returned v= .returned v'/\Came O w vs sg rs v' O' w':=by rintro ⟨O',m',st',hS',hfin⟩;obtain⟨v,O2,hres,hcame⟩:=Arj (sg:=sg) hC.T hout rfl rfl (by rw[<- hl];exact h100) hptr hS' (hrs st' hfin);exact⟨hS'.defers,v,hres,v,O2,rfl,hcame⟩
 cases e with
 | normal=>exact fin' hq
 | ret=>exact fin' hq
 | exit id =>obtain⟨O',m',st',_,h'⟩:=hq;cases h'
 | goto l=>exact hq.elim
 | panic ch=>exact hq.elim
 | outgrown=>exact hq.elim
end
section
variable {P:Program} {C:Ctx} {V0:Nat->Value} {O0 O:Own} {w0 w:World} {m:Nat->Value} {st:St} {a:Act}
def LV {a b:List Nat} (h:Uj a b=true): ∀ n∈a,n∉b:=by intro n hn hb;have:=DD.1 h n hn;rw[OL.2 hb]at this;cases this
def lastOf:List (Nat×Obj)->Nat->Option Obj
 | [],_=>none
 | (n,x)::r,k=>match lastOf r k with
  | some y=>some y
  | none=>if n=k then some x else none
theorem AbZ {u:List (Nat×Obj)} {k:Nat} (h:k∉u.map (·.1)):lastOf u k=none:=by
 induction u with
 | nil=>rfl
 | cons p r ih=>grind[lastOf]
def AbL (u:List (Nat×Obj)): ∀(l:List (Nat×Obj)) (k:Nat),Jy (JD l u) k=match lastOf u k with | some x=>some x | none=>Jy l k:=by
 induction u with
 | nil=>intro l k;rfl
 | cons p r ih=>grind[JD,KA,lastOf]
theorem Sm (st:St) (o:Oper) (δ :Dl) (k:Nat):Jy (apply st o δ).Jp k=match lastOf δ.new k with
 | some x=>some x
 | none=>if k∈ δ.del then none else match lastOf δ.upd k with
  | some x=>some x
  | none=>Jy st.Jp k:=by
 unfold apply;dsimp only;rw[AbL,Ub,AbL]
def Uz {st:St} {o:Oper} {δ :Dl} {k:Nat} (h:k∉ δ.upd.map (·.1)++ δ.del++ δ.new.map (·.1)):Jy (apply st o δ).Jp k=Jy st.Jp k:=by grind[Sm,AbZ]
def Srt:List (Nat×Obj)->Prop:=List.Pairwise (fun p q=>p.1<q.1)
def Aqi: ∀ {l:List (Nat×Obj)},sorted l=true->Srt l:=by
 intro l
 induction l with
 | nil=>intro _;exact List.Pairwise.nil
 | cons p r ih =>
  intro h;cases r with
  | nil=>exact Hw _ _
  | cons q r =>
   obtain⟨n,x⟩:=p;obtain⟨k,y⟩:=q;simp only[sorted,Du,EK]at h;have hr:=ih h.2;refine List.Pairwise.cons (fun q hq=> ?_) hr;rcases D6.1 hq with rfl | hq
   .exact h.1
   .exact Nat.lt_trans h.1 ((EM.1 hr).1 q hq)
theorem Srt.Sj {l:List (Nat×Obj)} (h:Srt l) (n:Nat):Srt (Vm.Sj l n):=by
 induction l with
 | nil=>exact h
 | cons p r ih =>
  obtain⟨k,x⟩:=p;obtain⟨h1,h2⟩:=EM.1 h;rw[wM];split
  .exact ih h2
  .exact List.Pairwise.cons (fun q hq=>h1 q (AcT hq)) (ih h2)
theorem Srt.Z7 {l:List (Nat×Obj)} (h:Srt l) {n:Nat} (y:Obj) (hn:Jy l n=none):Srt (Vm.Z7 l n y):=by
 induction l with
 | nil=>exact Hw _ _
 | cons p r ih =>
  obtain⟨k,x⟩:=p;obtain⟨h1,h2⟩:=EM.1 h;rw[NL]at hn;have hkn:k≠n:=fun e=>by rw[Dp e]at hn;cases hn
  rw[Dk hkn]at hn;simp only[Vm.Z7];cases hle:Nat.ble n k with
  | true =>have:=DW hle;refine List.Pairwise.cons (fun q hq=> ?_) h;all_goals grind[Obj,Srt,Jy]
  | false =>
   have hlt:k<n:=by
    rcases Es k n with h | h
    .exact h
    .rw[Nat.ble_eq_true_of_le h]at hle;cases hle
   refine List.Pairwise.cons (fun q hq=> ?_) (ih h2 hn);rcases Alc hq with rfl | hq
   .exact hlt
   .exact h1 q hq
theorem Srt.Lj {l:List (Nat×Obj)} (h:Srt l) (n:Nat) (y:Obj):Srt (Vm.Lj l n y):=(h.Sj n).Z7 y (by rw[iR,Dp rfl])
theorem Srt.JD: ∀(u:List (Nat×Obj)) {l:List (Nat×Obj)},Srt l->Srt (Vm.JD l u):=by
 intro u
 induction u with
 | nil=>intro l h;exact h
 | cons p r ih=>intro l h;obtain⟨n,x⟩:=p;exact ih (h.Lj n x)
theorem Srt.Ky: ∀(u:List Nat) {l:List (Nat×Obj)},Srt l->Srt (Vm.Ky l u):=by
 intro u
 induction u with
 | nil=>intro l h;exact h
 | cons n r ih=>intro l h;exact ih (h.Sj n)
theorem Srt.apply {st:St} (h:Srt st.Jp) (o:Oper) (δ :Dl):Srt (Vm.apply st o δ).Jp:=((h.JD δ.upd).Ky δ.del).JD δ.new
theorem YW {n:Nat} {x:Obj} {r:List (Nat×Obj)}:Jy ((n,x)::r) n=some x:=by rw[NL,Dp rfl]
theorem AnG {l:List (Nat×Obj)} {k:Nat} (h: ∀ p∈l,k<p.1):Jy l k=none:=by
 cases hx:Jy l k with
 | none=>rfl
 | some x=>exact absurd (h _ (Acs hx)) (Nat.lt_irrefl _)
def Srt.ext: ∀ {l l':List (Nat×Obj)},Srt l->Srt l'->(∀ k,Jy l k=Jy l' k)->l=l':=by
 intro l
 induction l with
 | nil =>
  intro l' _ _ h;cases l' with
  | nil=>rfl
  | cons p r=>grind[YW,Obj,Srt,Jy]
 | cons p r ih =>
  intro l' h1 h2 h;obtain⟨n,x⟩:=p;cases l' with
  | nil=>grind[YW,Obj,Srt,Jy]
  | cons q r' =>
   obtain⟨k,y⟩:=q;obtain⟨a1,a2⟩:=EM.1 h1;obtain⟨b1,b2'⟩:=EM.1 h2;have hnk:n=k:=by all_goals grind[YW,AnG,a1]
   subst hnk;have hx:=h n;rw[YW,YW]at hx;injection hx with hx;subst hx;rw[ih a2 b2' (fun j=> ?_)];by_cases hj:n=j
   .grind[AnG,a1]
   .have:=h j;rw[NL,NL,Dk hj,Dk hj]at this;exact this
def put_comm (tmps:List A) {d e:Option Tmp} (x y:A) (h: ∀ t,d=some t->e≠some t):put (put tmps d x) e y=put (put tmps e y) d x:=by
 cases d with
 | none=>rfl
 | some d =>
  cases e with
  | none=>rfl
  | some e =>have:d≠e:=fun he=>h d rfl (by rw[he]);exact List.set_comm _ _ this
def Aod (tmps:List A) {d:Option Tmp} (x:A) {t:Nat} (h:d≠some t):(put tmps d x).getD t .undef=tmps.getD t .undef:=by
 cases d with
 | none=>rfl
 | some d=>grind[put]
def bZ {o:Oper} {t:Nat}:t∈Y9 o↔o.dst=some t:=by grind[Y9]
def Aku {ops:List Oper} {o:Oper} {tmps:List A} {d:Option Tmp} {v:A} (h: ∀ t,d=some t->t∉slotsOf ops o) {x:Operand} (hx:x∈o.op.operands):KN (put tmps d v) x=KN tmps x:=by
 cases x with
 | tmp t =>refine Aod tmps v fun hd=>h t hd ?_;exact DL _ (Ja.2 ⟨.tmp t,by simpa using hx,rfl⟩)
 | _=>rfl
def Ahx {ops:List Oper} {o:Oper} {tmps:List A} {d:Option Tmp} {v:A} (h: ∀ t,d=some t->t∉slotsOf ops o):guardOf ops (put tmps d v) o.guard=guardOf ops tmps o.guard:=by
 cases hg:o.guard with
 | none=>rfl
 | some p =>
  obtain⟨j,want⟩:=p;unfold guardOf;dsimp only;cases hj:ops[j]? with
  | none=>rfl
  | some oj =>
   dsimp only;cases hd:oj.dst with
   | none=>rfl
   | some t =>dsimp only;rw[Aod tmps v (t:=t) (fun hd'=>h t hd' (by unfold slotsOf;refine DI _ ?_;rw[hg];dsimp only;rw[hj];dsimp only;rw[hd];simp))]
theorem AmB {Jp objs':List (Nat×Obj)}: ∀(l:List Nat),(∀ n∈l,Jy Jp n=Jy objs' n)->fetch Jp l=fetch objs' l:=by
 intro l
 induction l with
 | nil=>intro _;rfl
 | cons n r ih=>grind[fetch]
def AjL {op:Op} {vs:List A} (h:lS op vs=true):(∃ x,op= .move x)\/(∃ x,op= .assign x)\/ ∃ t x k q,op= .load t x/\vs=[.clo k q]:=by unfold lS at h;all_goals grind[split]
def Zm {α :Type} {x:Option α} {k: α ->Dl} (h: ∀ y,(k y).upd=[]):(Kt x k).upd=[]:=by
 cases x with
 | none=>rfl
 | some y=>exact h y
def VW (s:St) (q off:Nat):Jy (Kv s [.ptr q off]) q=Jy s.Jp q:=by show Jy (fetch s.Jp [q]++fetch s.Jp ((fetch s.Jp [q]).flatMap (fun p=>p.2.ids))) q=_;all_goals grind[Jy,fetch,NL]
def wP {o:Oper} {vs:List A} {q:Nat} (h:Yf o.op vs=some q): ∃ off,vs=[.ptr q off]/\ ∀ f f',L6 f q=L6 f' q->opX C o vs f=opX C o vs f'/\(opX C o vs f).upd=[]:=by
 obtain⟨dst,op,ty,pos,after,guard⟩:=o;dsimp only at h;unfold Yf at h;split at h
 .injection h with h;subst h;refine⟨_,rfl,fun f f' hb=> ?_⟩;unfold opX;dsimp only[a1];unfold WV;dsimp only;rw[hb];exact⟨rfl,by unfold Kt;split<;>rfl⟩
 .injection h with h;subst h;refine⟨_,rfl,fun f f' hb=> ?_⟩;unfold opX;dsimp only[a1];unfold Vs Y5;dsimp only;rw[hb];refine⟨rfl,?_⟩;unfold Lr;refine Zm fun ti=>Zm fun p=> ?_;exact Zm (fun _=>rfl)
 .injection h with h;subst h;refine⟨_,rfl,fun f f' hb=> ?_⟩;unfold opX;dsimp only[a1];unfold X0;dsimp only;rw[hb];refine⟨rfl,?_⟩;unfold Lr;exact Zm fun ti=>Zm fun _=>rfl
 .cases h
theorem AhL {ops:List Oper} {o:Oper} {s1 s2:St} (hE: ∀ x∈o.op.operands,KN s2.tmps x=KN s1.tmps x) (hG:guardOf ops s2.tmps o.guard=guardOf ops s1.tmps o.guard)
 (key:(opX C o (KC o s1) (Kv s2 (KC o s1))=opX C o (KC o s1) (Kv s1 (KC o s1))/\(∀ f,(opX C o (KC o s1) f).upd=[])/\Lm o s2 (KC o s1)=Lm o s1 (KC o s1))\/(Kv s2 (KC o s1)=Kv s1 (KC o s1)/\Lm o s2 (KC o s1)=Lm o s1 (KC o s1))) (h1: ∀ n∈(KF C ops o s1).new.map (·.1),s1.fresh n=true) (h2: ∀ n∈(KF C ops o s1).new.map (·.1),s2.fresh n=true) :
 KF C ops o s2=KF C ops o s1/\Lm o s2 (KC o s2)=Lm o s1 (KC o s1)/\KC o s2=KC o s1:=by
 have hmap:o.op.operands.toList.map (KN s2.tmps)=o.op.operands.toList.map (KN s1.tmps):=ED fun x hx=>hE x (by simpa using hx);have hvs:KC o s2=KC o s1:=by unfold KC;rw[hmap]
 have hop:opX C o (KC o s1) (Kv s2 (KC o s1))=opX C o (KC o s1) (Kv s1 (KC o s1)):=by
  rcases key with h | h
  .exact h.1
  .rw[h.1]
 refine⟨?_,by rw[hvs];rcases key with h | h;exact h.2.2;exact h.2,hvs⟩
 have hpl: ∀ pre,(∀ n∈(SI C o s1 pre).new.map (·.1),s1.fresh n=true)->(∀ n∈(SI C o s1 pre).new.map (·.1),s2.fresh n=true)->SI C o s2 pre=SI C o s1 pre:=by
  intro pre h1 h2;unfold SI at h1 h2 ⊢;rw[hmap];dsimp only at h1 h2 ⊢;rw[show opX C o (KR o.op (o.op.operands.toList.map (KN s1.tmps))).2 (Kv s2 (KR o.op (o.op.operands.toList.map (KN s1.tmps))).2)=opX C o (KR o.op (o.op.operands.toList.map (KN s1.tmps))).2 (Kv s1 (KR o.op (o.op.operands.toList.map (KN s1.tmps))).2)from hop];generalize opX C o (KR o.op (o.op.operands.toList.map (KN s1.tmps))).2 (Kv s1 (KR o.op (o.op.operands.toList.map (KN s1.tmps))).2)= δ at *
  have a1: δ.new.all (fun p=>s1.fresh p.1)=true:=DD.2 fun p hp=>h1 p.1 (DF.2 ⟨p,hp,rfl⟩);have a2: δ.new.all (fun p=>s2.fresh p.1)=true:=DD.2 fun p hp=>h2 p.1 (DF.2 ⟨p,hp,rfl⟩);rw[a1,a2]
 unfold KF at h1 h2 ⊢;rw[hG,hmap];have hfa':opX C o (KR o.op (o.op.operands.toList.map (KN s1.tmps))).2 (Kv s2 (KR o.op (o.op.operands.toList.map (KN s1.tmps))).2)=opX C o (KR o.op (o.op.operands.toList.map (KN s1.tmps))).2 (Kv s1 (KR o.op (o.op.operands.toList.map (KN s1.tmps))).2):=hop;cases hg:guardOf ops s1.tmps o.guard with
 | none=>rfl
 | some r =>
  cases r with
  | some g =>
   rw[hg]at h1 h2;dsimp only at h1 h2 ⊢;cases hde:AoK C o with
   | some b =>
    rw[hde]at h1 h2;cases b with
    | true=>exact hpl _ h1 h2
    | false=>rfl
   | none =>
   dsimp only;rcases key with h | h
   .have hu:=h.2.1 (Kv s1 (KC o s1));rw[hfa'];have hu':(opX C o (KR o.op (o.op.operands.toList.map (KN s1.tmps))).2 (Kv s1 (KR o.op (o.op.operands.toList.map (KN s1.tmps))).2)).upd=[]:=hu;simp only[hu',Fg]
   .grind[Kv,KR,KN,guardOf,opX,KC,Lm,KF]
  | none =>rw[hg]at h1 h2;exact hpl _ h1 h2
theorem Ahd {o:Oper} {s1 s2:St} (hF: ∀ n∈Lm o s1 (KC o s1),Jy s2.Jp n=Jy s1.Jp n) :
 (opX C o (KC o s1) (Kv s2 (KC o s1))=opX C o (KC o s1) (Kv s1 (KC o s1))/\(∀ f,(opX C o (KC o s1) f).upd=[])/\Lm o s2 (KC o s1)=Lm o s1 (KC o s1))\/(Kv s2 (KC o s1)=Kv s1 (KC o s1)/\Lm o s2 (KC o s1)=Lm o s1 (KC o s1)):=by
 unfold Lm at hF ⊢;cases hm:lS o.op (KC o s1)with
 | true =>
  have hu: ∀(v:List A),(a1 (fun a=>.v a) v).upd=[]:=fun v=>by
   cases v with
   | nil=>rfl
   | cons x r=>cases r<;>rfl
  rcases AjL hm with ⟨x,e⟩ | ⟨x,e⟩ | ⟨t,x,k,q,e,ev⟩
  .grind[opX]
  .grind[opX]
  .have hl: ∀ f,(X0 C f t (.clo k q)).upd=[]:=fun f=>by
    unfold X0 Lr Kt;cases C.T t<;>rfl
   exact .inl ⟨by unfold opX;rw[e,ev];rfl,fun f=>by unfold opX;rw[e,ev];exact hl f,rfl⟩
 | false =>
  rw[hm]at hF;cases h1':Yf o.op (KC o s1)with
  | some q =>rw[h1']at hF;have hq:Jy s2.Jp q=Jy s1.Jp q:=hF q (DT.2 rfl);obtain⟨off,ev,hO⟩:=wP (C:=C) h1';refine .inl ⟨(hO _ _ ?_).1,fun f=>(hO f f rfl).2,rfl⟩;rw[ev];unfold L6;rw[VW,VW,hq]
  | none =>
  all_goals grind[fetch,KC,AmB,Kv]
def Aql {ops:List Oper} {o:Oper} {s1 s2:St} (hE: ∀ x∈o.op.operands,KN s2.tmps x=KN s1.tmps x) (hG:guardOf ops s2.tmps o.guard=guardOf ops s1.tmps o.guard)
 (hF: ∀ n∈Lm o s1 (KC o s1),Jy s2.Jp n=Jy s1.Jp n) (h1: ∀ n∈(KF C ops o s1).new.map (·.1),s1.fresh n=true) (h2: ∀ n∈(KF C ops o s1).new.map (·.1),s2.fresh n=true) :
 KF C ops o s2=KF C ops o s1/\Lm o s2 (KC o s2)=Lm o s1 (KC o s1)/\KC o s2=KC o s1:=by grind[AhL,Ahd]
def Asb {o:Oper} {vs:List A} {q off n:Nat} (h:oneOf C o.op vs=some (q,off,n)):Yf o.op vs=some q/\ ∀ {f f':Fet} {cs cs':List A},L6 f q=some cs->L6 f' q=some cs'->cs'.length=cs.length->(∀ k,k<n->cs'.getD (off+k) .undef=cs.getD (off+k) .undef)->opX C o vs f'=opX C o vs f:=by
 obtain⟨dst,op,ty,pos,after,guard⟩:=o;dsimp only at h;unfold oneOf at h;split at h
 .injection h with h;injection h with h1 h2;subst h1;refine⟨rfl,fun {f f' cs cs'} h1 h2 h3 h4=> ?_⟩;unfold opX;dsimp only[a1];unfold WV;dsimp only;rw[h1,h2];rfl
 .simp_all[opX,a1,Vs,Y5,Kt,oneOf,Yf,Fet]
 .rename_i t _ o' off';cases ht:C.T t with
  | none=>rw[ht]at h;cases h
  | some ti =>
   rw[ht]at h;dsimp only at h;cases h0:Nat.blt 0 ti.cs.length with
   | false=>rw[h0]at h;cases h
   | true =>
   rw[h0]at h;injection h with h;injection h with h1 h2;injection h2 with h2 h3';subst h1;subst h2;subst h3';have h0:0<ti.cs.length:=by simpa [EK]using h0
   refine⟨rfl,fun {f f' cs cs'} h1 h2 h3 h4=> ?_⟩;unfold opX;dsimp only[a1];unfold X0 Lr;rw[ht];unfold Kt;dsimp only;rw[h1,h2];dsimp only;rw[h3];congr 1;unfold rP;cases ti.agg with
   | false =>have:=h4 0 h0;simpa using this
   | true =>
    refine congrArg A.agg (Jl fun i=> ?_);rw[Gg,Gg];by_cases hi:i<ti.cs.length
    .rw[Dp hi,Dp hi,FO,FO];have:=h4 i hi;rw[Dj,Dj]at this;by_cases hl:off'+i<cs.length
     .simp_all[oneOf,Yf,Fet,opX]
     .rw[Ei (by omega),Ei (by omega)]
    .rw[Dk hi,Dk hi]
 .cases h
def NK (fet:Fet) (δ :Dl):Prop:= ∀ e∈ δ.same,∃ cs,L6 fet e.1=some cs/\ ∀ p∈ δ.upd,p.1=e.1-> ∃ cs',p.2= .box cs'/\cs'.length=cs.length/\cs'.getD e.2 .undef=cs.getD e.2 .undef
def Apo {fet:Fet} (x:A) (j:Nat) {δ :Dl} (h:NK fet δ):NK fet (Tt fet x j δ):=by
 unfold Tt;split
 .rename_i q off;cases hb:L6 fet q with
  | none=>exact h
  | some cs =>
   dsimp only;cases hc:Nat.blt j cs.length&& δ.upd.all (fun p=> !(Nat.beq p.1 q)||Ae8 cs.length p.2)with
   | false=>exact h
   | true =>
    rw[Du,EK]at hc;have hset: ∀ ds:List A,ds.length=cs.length-> ∀ i,(ds.set j (cs.getD j .undef)).getD i .undef=if j=i then cs.getD j .undef else ds.getD i .undef:=by intro ds hd i;rw[Dj,FV];by_cases hij:j=i;all_goals simp_all[Fet,NK,Tt]
    have key: ∀ p0∈ δ.upd,Nat.beq p0.1 q=true-> ∃ ds,p0.2= .box ds/\ds.length=cs.length:=by
     intro p0 hp0 hq;have h1:=DD.1 hc.2 p0 hp0;rw[hq]at h1;have h1:Ae8 cs.length p0.2=true:=h1;obtain⟨n,y⟩:=p0;cases y with
     | box ds=>exact⟨ds,rfl,Dy h1⟩
     | _=>cases h1
    intro e he;rcases D6.1 (show e∈(q,j):: δ.same from he)with rfl | he
    .refine⟨cs,hb,fun p hp hpq=> ?_⟩;obtain⟨p0,hp0,rfl⟩:=DF.1 (show p∈ δ.upd.map _ from hp);cases hq:Nat.beq p0.1 q with
     | false=>simp_all[Fet,NK,Tt]
     | true=>grind[Auy]
    .obtain⟨cs0,h4,h5⟩:=h e he;refine⟨cs0,h4,fun p hp hpq=> ?_⟩;obtain⟨p0,hp0,rfl⟩:=DF.1 (show p∈ δ.upd.map _ from hp);cases hq:Nat.beq p0.1 q with
     | false=>rw[hq]at hpq;exact h5 p0 hp0 hpq
     | true =>rw[hq]at hpq;have hpq:p0.1=e.1:=hpq;obtain⟨ds,h2,h3⟩:=key p0 hp0 hq;obtain⟨cs',g1,g2,g3⟩:=h5 p0 hp0 hpq;all_goals simp_all[Auy,Fet,NK,Tt]
 .exact h
def Apr {fet:Fet} (xs:List A): ∀(ks:List (Nat×Nat)) {δ :Dl},NK fet δ ->NK fet (keepD fet xs ks δ):=by
 intro ks
 induction ks with
 | nil=>intro δ h;exact h
 | cons k ks ih=>intro δ h;exact ih (Apo _ _ h)
theorem NK.nil {fet:Fet} {δ :Dl} (h: δ.same=[]):NK fet δ :=fun e he=>by rw[h]at he;cases he
theorem AeS {o:Oper} {s:St} (pre:List Bool):NK (Kv s (KC o s)) (SI C o s pre):=by
 cases hc:AaZ o.op with
 | false=>exact NK.nil (by unfold SI;rw[hc];rfl)
 | true =>
  have key:NK (Kv s (KC o s)) (opX C o (KC o s) (Kv s (KC o s))):=by
   generalize KC o s=vs;generalize Kv s vs=fet;obtain⟨dst,op,ty,pos,after,guard⟩:=o;dsimp only at hc;unfold AaZ at hc;split at hc
   .cases vs with
    | nil=>exact NK.nil rfl
    | cons x xs =>
     rename_i f _ _;show NK fet (Xh C fet (dst.getD 0) f xs);unfold Xh;cases C.G f with
     | none=>exact NK.nil rfl
     | some sg=>dsimp only;cases has C.cuts (dst.getD 0)<;>first | exact NK.nil rfl | exact Apr _ _ (NK.nil rfl)
   .cases hc
  intro e he;have he:e∈(bif AaZ o.op then(opX C o (KC o s) (Kv s (KC o s))).same else []):=he;rw[hc]at he;exact key e he
def Aqk {ops:List Oper} {o:Oper} {s:St}:NK (Kv s (KC o s)) (KF C ops o s):=by
 unfold KF;split
 .exact AeS _
 .grind[split,AeS,NK.nil]
 .exact NK.nil rfl
end
section
variable {P:Program} {C:Ctx} {V0:Nat->Value} {O0 O:Own} {w0 w:World} {m:Nat->Value} {st st':St} {a:Act}
structure AjE (C:Ctx) (ops:List Oper) (x:Le) (st:St):Prop where
 step:KF C ops x.o st=x.δ
 rd:Lm x.o st (KC x.o st)=x.rd
 one:oneOf C x.o.op (KC x.o st)=x.one
def wK (C:Ctx) (ops:List Oper):List Le->St->St->Prop
 | [],s,s'=>s=s'
 | x::r,s,s'=>AjE C ops x s/\wK C ops r (apply s x.o x.δ) s'
def Ap7: ∀(u:List Nat) {l:List (Nat×Obj)} {p:Nat×Obj},p∈Ky l u->p∈l:=by
 intro u
 induction u with
 | nil=>intro l p h;exact h
 | cons n r ih=>intro l p h;exact AcT (ih h)
def Zf {x:Le} {n:Nat} (h:st.fresh n=true) (h1:n∉x.says) (h2:n∉x.keys):(apply st x.o x.δ).fresh n=true:=by
 obtain⟨f1,f2,f3,f4⟩:=MV h;unfold Le.says at h1;simp only[DJ,not_or]at h1
 have g1:has (apply st x.o x.δ).ids n=false:=by
  rw[<- Bool.not_eq_true];intro hh;rcases DJ.1 (OL.1 hh)with hm | hm
  .obtain⟨c,hc,hi⟩:=Ez.1 hm;have hc:c∈put st.tmps x.o.dst x.δ.val:=hc
   have:c∈st.tmps\/c=x.δ.val:=by
    cases hd:x.o.dst with
    | none=>rw[hd]at hc;exact .inl hc
    | some d=>rw[hd]at hc;exact GZ hc
   rcases this with hc | hc
   .exact f1 (DL _ (Ez.2 ⟨c,hc,hi⟩))
   .rw[hc]at hi;exact h1.1.1 hi
  .obtain⟨p,hp,hi⟩:=Ez.1 hm;rcases aZ x.δ.new (show p∈JD (Ky (JD st.Jp x.δ.upd) x.δ.del) x.δ.new from hp)with hp | hp
   .exact h1.2 (Ez.2 ⟨p,hp,hi⟩)
   .rcases aZ x.δ.upd (Ap7 _ hp)with hp | hp
    .exact h1.1.2 (Ez.2 ⟨p,hp,hi⟩)
    .exact f1 (DI _ (Ez.2 ⟨p,hp,hi⟩))
 have g2:Jy (apply st x.o x.δ).Jp n=none:=by rw[Uz h2];exact f2
 all_goals grind[St.fresh,UO]
def Apw {u:List (Nat×Obj)} {k:Nat} {x:Obj} (h:lastOf u k=some x):(k,x)∈u:=by
 induction u with
 | nil=>cases h
 | cons p r ih=>grind[lastOf]
def Ati {ops:List Oper} {x y:Le} (hx:AjE C ops x st) (hy:AjE C ops y (apply st x.o x.δ)) (h:calm x y=true) :
 (opX C x.o (KC x.o st) (Kv (apply st y.o y.δ) (KC x.o st))=opX C x.o (KC x.o st) (Kv st (KC x.o st))/\(∀ f,(opX C x.o (KC x.o st) f).upd=[])/\Lm x.o (apply st y.o y.δ) (KC x.o st)=Lm x.o st (KC x.o st)) \/
 (Kv (apply st y.o y.δ) (KC x.o st)=Kv st (KC x.o st)/\Lm x.o (apply st y.o y.δ) (KC x.o st)=Lm x.o st (KC x.o st)):=by
 unfold calm at h;cases ho:x.one with
 | none=>rw[ho]at h;cases h
 | some p =>
  obtain⟨q,off,n⟩:=p;rw[ho]at h;simp only[Du,EY]at h;obtain⟨h1,h2,h3,h4,h5⟩:=h;have hone:=hx.one;rw[ho]at hone;obtain⟨k1,k2⟩:=Asb hone;obtain⟨off',ev,hO⟩:=wP (C:=C) k1;have hS:=Aqk (C:=C) (ops:=ops) (o:=y.o) (s:=apply st x.o x.δ);rw[hy.step]at hS;have hxk:Jy (apply st x.o x.δ).Jp q=Jy st.Jp q:=Uz fun hm=>by have:=h1.symm.trans (OL.2 hm);cases this
  have hbox: ∀ e∈y.δ.same,e.1=q-> ∃ cs,Jy st.Jp q=some (.box cs)/\ ∀ p∈y.δ.upd,p.1=q-> ∃ cs',p.2= .box cs'/\cs'.length=cs.length/\cs'.getD e.2 .undef=cs.getD e.2 .undef:=by intro e he heq;obtain⟨cs,g1,g2⟩:=hS e he;rw[heq]at g1 g2;exact⟨cs,by rw[<- hxk];exact kM _ _ _ _ (Lp g1),g2⟩
  obtain⟨e0,he0,heq0⟩:=Gy.1 h4;obtain⟨cs,g1,g2⟩:=hbox e0 he0 (Dy heq0);have hcell: ∀ k,k<n-> ∀ p∈y.δ.upd,p.1=q-> ∀ cs',p.2= .box cs'->cs'.getD (off+k) .undef=cs.getD (off+k) .undef:=by intro k hk p hp hpq cs' hcs;have:=DD.1 h5 k (GK.2 hk);obtain⟨e,he,heq⟩:=Gy.1 this;rw[Du]at heq;obtain⟨cs2,g3,g4⟩:=hbox e he (Dy heq.1);rw[g1]at g3;injection g3 with g3;injection g3 with g3;subst g3;obtain⟨cs3,g5,_,g6⟩:=g4 p hp hpq;rw[hcs]at g5;injection g5 with g5;subst g5;rw[Dy heq.2]at g6;exact g6
  have hnd:lastOf y.δ.new q=none:=AbZ fun hm=>by have:=h3.symm.trans (OL.2 hm);cases this
  have hdl:q∉y.δ.del:=fun hm=>by rw[OL.2 hm]at h2;cases h2
  have hnew: ∃ cs',Jy (apply st y.o y.δ).Jp q=some (.box cs')/\cs'.length=cs.length/\ ∀ k,k<n->cs'.getD (off+k) .undef=cs.getD (off+k) .undef:=by
   rw[Sm,hnd];dsimp only;rw[Dk hdl];cases hl:lastOf y.δ.upd q with
   | none=>exact⟨cs,g1,rfl,fun _ _=>rfl⟩
   | some z =>have hm:=Apw hl;obtain⟨cs',g3,g4,_⟩:=g2 _ hm rfl;dsimp only at g3;subst g3;exact⟨cs',rfl,g4,fun k hk=>hcell k hk _ hm rfl _ rfl⟩
  obtain⟨cs',g3,g4,g5⟩:=hnew;have hask: ∀ s,Lm x.o s (KC x.o st)=bif lS x.o.op (KC x.o st)then []else [q]:=by intro s;unfold Lm;rw[k1]
  refine .inl ⟨k2 ?_ ?_ g4 g5,fun f=>(hO f f rfl).2,by rw[hask,hask]⟩
  .rw[ev];unfold L6;rw[VW,g1]
  .rw[ev];unfold L6;rw[VW,g3]
def swap {ops:List Oper} {x y:Le} {r:List Le} (hi:indep ops x y=true) (hxF: ∀ n∈x.news,st.fresh n=true) (hyF: ∀ n∈y.news,st.fresh n=true) (h1:Uj y.news x.says=true) (h2:Uj y.news x.keys=true)
 (hs:Srt st.Jp) (h:wK C ops (x::y::r) st st'):wK C ops (y::x::r) st st':=by
 unfold indep at hi;simp only[Du]at hi;obtain⟨⟨⟨⟨⟨⟨i1,i2⟩,i3⟩,i4⟩,i5⟩,i6⟩,i7⟩:=hi;obtain⟨hx,hy,hr⟩:=h;have hkx: ∀ n,n∈x.keys->n∉y.keys:=LV i6;have hnx: ∀ n∈x.news,n∈x.keys:=fun n hn=>DI _ hn
 have cy:=Aql (C:=C) (ops:=ops) (o:=y.o) (s1:=apply st x.o x.δ) (s2:=st)
  (fun z hz=>(Aku (fun t ht=>LV i2 t (bZ.2 ht)) hz).symm) (Ahx (fun t ht=>LV i2 t (bZ.2 ht))).symm
  (fun n hn=>(Uz (fun hk=>LV i4 n hk (by rw[<- hy.rd];exact hn))).symm)
  (fun n hn=>by rw[hy.step]at hn;exact Zf (hyF n hn) (LV h1 n hn) (LV h2 n hn))
  (fun n hn=>by rw[hy.step]at hn;exact hyF n hn)
 have cx:=AhL (C:=C) (ops:=ops) (o:=x.o) (s1:=st) (s2:=apply st y.o y.δ)
  (fun z hz=>Aku (fun t ht=>LV i3 t (bZ.2 ht)) hz) (Ahx (fun t ht=>LV i3 t (bZ.2 ht)))
  (by
    rcases Bool.or_eq_true_iff.1 i5 with i5 | i5
    .exact Ahd (fun n hn=>Uz (fun hk=>LV i5 n hk (by rw[<- hx.rd];exact hn)))
    .exact Ati hx hy i5)
  (fun n hn=>by rw[hx.step]at hn;exact hxF n hn)
  (fun n hn=>by rw[hx.step]at hn;exact Zf (hxF n hn) (LV i7 n hn) (hkx n (hnx n hn)))
 have hst:apply (apply st y.o y.δ) x.o x.δ =apply (apply st x.o x.δ) y.o y.δ :=by
  have e1:(apply (apply st y.o y.δ) x.o x.δ).tmps=(apply (apply st x.o x.δ) y.o y.δ).tmps:=(put_comm st.tmps x.δ.val y.δ.val (fun t ht he=>LV i1 t (bZ.2 ht) (bZ.2 he))).symm
  have e2:(apply (apply st y.o y.δ) x.o x.δ).Jp=(apply (apply st x.o x.δ) y.o y.δ).Jp:=by
   refine Srt.ext ((hs.apply _ _).apply _ _) ((hs.apply _ _).apply _ _) fun k=> ?_;by_cases hk:k∈x.keys
   .have hky:=hkx k hk;rw[Uz (o:=y.o) (δ :=y.δ) hky,Sm (apply st y.o y.δ),Uz (o:=y.o) (δ :=y.δ) hky,<- Sm st]
   .rw[Uz (o:=x.o) (δ :=x.δ) hk,Sm (apply st x.o x.δ),Uz (o:=x.o) (δ :=x.δ) hk,<- Sm st]
  generalize apply (apply st y.o y.δ) x.o x.δ =s at *
  generalize apply (apply st x.o x.δ) y.o y.δ =s' at *
  cases s;cases s';dsimp only at e1 e2;rw[e1,e2]
 refine⟨⟨by rw[cy.1,hy.step],by rw[cy.2.1,hy.rd],by rw[cy.2.2,hy.one]⟩,⟨by rw[cx.1,hx.step],by rw[cx.2.1,hx.rd],by rw[cx.2.2,hx.one]⟩,?_⟩;rw[hst];exact hr
structure Pre (R:List Le) (st:St):Prop where
 srt:Srt st.Jp
 fresh: ∀ z∈R,∀ n∈z.news,st.fresh n=true
 pairs:R.Pairwise (fun y z=>Uj z.news y.says=true/\Uj z.news y.keys=true)
def Pre.step {y:Le} {R:List Le} (h:Pre (y::R) st):Pre R (apply st y.o y.δ):=by obtain⟨h1,h2⟩:=EM.1 h.pairs;exact⟨h.srt.apply _ _,fun z hz n hn=>Zf (h.fresh z (Dw _ hz) n hn) (LV (h1 z hz).1 n hn) (LV (h1 z hz).2 n hn),h2⟩
def front {ops:List Oper} {x:Le} {L2:List Le}: ∀(L1:List Le) {st:St},Pre (L1++x::L2) st->(∀ y∈L1,indep ops y x=true)->wK C ops (L1++x::L2) st st'->wK C ops (x::(L1++L2)) st st':=by
 intro L1
 induction L1 with
 | nil=>intro st _ _ h;exact h
 | cons y L1 ih =>intro st hP hi h;have h1:=ih (st:=apply st y.o y.δ) (hP.step) (fun z hz=>hi z (Dw _ hz)) h.2;have hx:x∈L1++x::L2:=DI _ Dv;obtain⟨p1,_⟩:=EM.1 hP.pairs;exact swap (hi y Dv) (hP.fresh y Dv) (hP.fresh x (Dw _ hx)) (p1 x hx).1 (p1 x hx).2 hP.srt ⟨h.1,h1⟩
theorem AqJ {md:Region.Mode} {e:Edge} (h:Region.binds .any e=true):Region.binds md e=true:=by unfold Region.binds at h ⊢;all_goals grind
def YH {ops:List Oper} {i:Nat} {x y:Le} (h:Zn ops i x y=true):Uj y.news x.says=true/\Uj y.news x.keys=true/\(i∈y.anc\/indep ops x y=true):=by unfold Zn at h;simp only[Du,Eo]at h;exact⟨h.1.1,h.1.2,h.2.imp OL.1 id⟩
def AkB {l:Array Bool} {i:Nat} (h:i<l.size) (b c:Bool):l.getD i b=l.getD i c:=by grind
def AoR {α :Type} (f: α ->Nat): ∀(l:List α),l≠ []-> ∃ x∈l,∀ y∈l,f x<=f y:=by
 intro l
 induction l with
 | nil=>grind
 | cons a r ih =>
  intro _;by_cases hr:r=[]
  .simp_all
  .grind
def Atv {ρ :Type} (hC:NY P C) {ops:Array Oper} {md:Region.Mode} {Q:Exit->Act->World->Prop} {v: ρ} {K:St->Option ρ} (hQ: ∀ O' m' st' a' w',Sim V0 O0 w0 O' m' st' a' w'->K st'=some v->Q .normal a' w')
 {ANC:List (List Nat)} (hanc: ∀(j:Nat) (o:Oper),ops[j]? =some o-> ∀ i∈ANC.getD j [],∃ e∈Xr o,i=e\/i∈ANC.getD e []) {rk:Nat->Nat} (hback: ∀(j:Nat) (o:Oper),ops[j]? =some o-> ∀ e∈o.after,Region.binds md e=true->e.on<ops.size/\rk e.on<rk j) :
 ∀(fuel:Nat) (R:List (Nat×Le)) (listed:Array Bool) {O:Own} {m:Nat->Value} {st:St} {a:Act} {w:World},R.length=fuel->R.Pairwise (fun p q=>p.1<q.1) ->
  (∀ p∈R,ops[p.1]? =some p.2.o/\J5 p.2.δ.ok/\p.2.anc=ANC.getD p.1 [])->listed.size=ops.size->(∀ i,i<ops.size->(listed.getD i true=false↔i∈R.map (·.1))) ->
  (∀ e,listed.getD e false=true-> ∀ i∈ANC.getD e [],listed.getD i false=true)->R.Pairwise (fun p q=>Zn ops.toList p.1 p.2 q.2=true)->(∀ p∈R,∀ n∈p.2.news,st.fresh n=true)->Srt st.Jp ->
  wK C ops.toList (R.map (·.2)) st st'->K st'=some v->Sim V0 O0 w0 O m st a w->wpAny P md ops Q fuel listed a w:=by
 intro fuel
 induction fuel with
 | zero =>
  intro R listed O m st a w hlen _ _ hsz hl _ _ _ _ hruns hK hS;have hR:R=[]:=Hy.1 hlen;subst hR;refine⟨?_,?_⟩
  .rw[List.eq_nil_iff_forall_not_mem];intro i hi;obtain⟨h1,o,h2,_⟩:=mem_ready.1 hi;have hlt:=(Ee.1 h2).1;have:=(hl i hlt).1 h1;simp at this
  .have:st=st':=hruns;subst this;exact hQ _ _ _ _ _ hS hK
 | succ fuel ih =>
  intro R listed O m st a w hlen hord hops hsz hl hcl hpr hfr hsrt hruns hK hS;have hin: ∀ p∈R,p.1<ops.size:=fun p hp=>(Ee.1 (hops p hp).1).1;refine⟨fun hnil=> ?_,fun i hi=> ?_⟩
  .exfalso;obtain⟨p,hpR,hmin⟩:=AoR (fun q:Nat×Le=>rk q.1) R (by intro h;rw[h]at hlen;simp at hlen);have hp:=hin p hpR
   have:p.1∈Region.ready md ops listed:=by
    refine mem_ready.2 ⟨(hl p.1 hp).2 (DF.2 ⟨p,hpR,rfl⟩),p.2.o,(hops p hpR).1,fun e he hb=> ?_⟩;obtain⟨hsize,hlt⟩:=hback _ _ (hops p hpR).1 e he hb;have hno:e.on∉R.map (·.1):=by intro hm;obtain⟨q,hq,hqe⟩:=DF.1 hm;have:=hmin q hq;rw[hqe]at this;omega
    have:listed.getD e.on true≠false:=fun h=>hno ((hl e.on hsize).1 h);rw[AkB (by rw[hsz];exact hsize) false true];simpa using this
   rw[hnil]at this;cases this
  .obtain⟨hi1,oi,hi2,hi3⟩:=mem_ready.1 hi;have hilt:=(Ee.1 hi2).1;obtain⟨p,hp,rfl⟩:=DF.1 ((hl i hilt).1 hi1);obtain⟨L1,L2,rfl⟩:=List.append_of_mem hp;obtain⟨i,x⟩:=p;dsimp only at hi hi1 hi2 hi3 hilt ⊢;obtain⟨hx1,hx2,hx3⟩:=hops (i,x) hp;dsimp only at hx1 hx2 hx3
   have hancl: ∀ j∈ANC.getD i [],listed.getD j false=true:=by
    intro j hj;obtain⟨e,he,hje⟩:=hanc i _ hx1 j hj;have hel:listed.getD e false=true:=by unfold Xr at he;obtain⟨ed,hed,hb⟩:=Ja.1 he;all_goals grind[AqJ]
    rcases hje with rfl | hje
    .exact hel
    .exact hcl e hel j hje
   have hord':=IG.1 hord;have hpr':=IG.1 hpr;have hind: ∀ q∈L1,Zn ops.toList q.1 q.2 x=true/\indep ops.toList q.2 x=true:=by intro q hq;have hpq:=hpr'.2.2 q hq (i,x) Dv;dsimp only at hpq;refine⟨hpq,(YH hpq).2.2.resolve_left fun hm=> ?_⟩;rw[hx3]at hm;have h1:=hancl _ hm;have hqR:q∈L1++(i,x)::L2:=DL _ hq;have hqlt:=hin q hqR;have h2:=(hl q.1 hqlt).2 (DF.2 ⟨q,hqR,rfl⟩);rw[AkB (by rw[hsz];exact hqlt) true false,h1]at h2;cases h2
   have hPre:Pre ((L1++(i,x)::L2).map (·.2)) st:=by
    refine⟨hsrt,fun z hz n hn=> ?_,?_⟩
    .obtain⟨q,hq,rfl⟩:=DF.1 hz;exact hfr q hq n hn
    .rw[List.pairwise_map];exact hpr.imp fun h=>⟨(YH h).1,(YH h).2.1⟩
   have hfront:wK C ops.toList (x::(L1.map (·.2)++L2.map (·.2))) st st':=by refine front (L1.map (·.2)) (by simpa using hPre) (fun y hy=> ?_) (by simpa using hruns);obtain⟨q,hq,rfl⟩:=DF.1 hy;exact(hind q hq).2
   obtain⟨hstep,hrest⟩:=hfront;have hsub:List.Sublist (L1++L2) (L1++(i,x)::L2):=List.Sublist.append_left (List.sublist_cons_self _ _) _
   have hnext: ∀ O' m' a' w',Sim V0 O0 w0 O' m' (apply st x.o (KF C ops.toList x.o st)) a' w'->wpAny P md ops Q fuel (listed.setIfInBounds i true) a' w':=by
    intro O' m' a' w' hS';rw[hstep.step]at hS';refine ih (L1++L2) _ (by simp at hlen ⊢;omega) (hord.sublist hsub) (fun q hq=>hops q (hsub.subset hq)) (by simpa using hsz) (fun j hj=> ?_) (fun e he j hj=> ?_) (hpr.sublist hsub) (fun q hq n hn=> ?_) (hsrt.apply _ _) (by simpa using hrest) hK hS'
    .by_cases hji:i=j
     .subst hji;have h1:(listed.setIfInBounds i true).getD i true=true:=by simp [Dq,hsz,hj]
      rw[h1];refine⟨fun h=>(by cases h),fun h=> ?_⟩;obtain⟨q,hq,hqi⟩:=DF.1 h;rcases DJ.1 hq with hq | hq
      .have:=hord'.2.2 q hq (i,x) Dv;dsimp only at this;omega
      .have:=(EM.1 hord'.2.1).1 q hq;dsimp only at this;omega
     .rw[getD_set_ne true hji,hl j hj];simp only[F7,Em,DJ,D6];constructor
      .rintro (h | h | h)
       .exact .inl h
       .exact absurd h.symm hji
       .exact .inr h
      .rintro (h | h)
       .exact .inl h
       .exact .inr (.inr h)
    .by_cases hei:i=e
     .subst hei;exact getD_set_true (hancl j hj)
     .rw[getD_set_ne false hei]at he;exact getD_set_true (hcl e he j hj)
    .have hq':=hsub.subset hq;have hf:=hfr q hq' n hn;rcases DJ.1 hq with hq | hq
     .have hi':=(hind q hq).2;unfold indep at hi';simp only[Du]at hi';exact Zf hf (LV hi'.2 n hn) (LV hi'.1.2 n (DI _ hn))
     .have hpq:=YH ((EM.1 hpr'.2.1).1 q hq);exact Zf hf (LV hpq.1 n hn) (LV hpq.2.1 n hn)
   have hw:=Afm hC hS (ops:=ops) (o:=x.o) (by rw[hstep.step];exact hx2) (wpAny P md ops Q fuel (listed.setIfInBounds i true)) Q hnext;unfold wpOp;rw[hx1];dsimp only;split
   .rename_i hwt;rw[Dp hwt]at hw;exact .inl hw
   .rename_i hwt;rw[Dk hwt]at hw;exact hw
end
section
variable {P:Program} {C:Ctx} {V0:Nat->Value} {O0 O:Own} {w0 w:World} {m:Nat->Value} {st st':St} {a:Act}
def enum:Nat->List Le->List (Nat×Le)
 | _,[]=>[]
 | i,x::r=>(i,x)::enum (i+1) r
def Am7: ∀(l:List Le) (i:Nat),(enum i l).length=l.length:=by
 intro l
 induction l with
 | nil=>intro i;rfl
 | cons x r ih=>intro i;simp [enum,ih]
def At1: ∀(l:List Le) (i:Nat),(enum i l).map (·.2)=l:=by
 intro l
 induction l with
 | nil=>intro i;rfl
 | cons x r ih=>intro i;simp [enum,ih]
theorem qH: ∀(l:List Le) (i:Nat) (p:Nat×Le),p∈enum i l-> ∃ k,p.1=i+k/\l[k]? =some p.2:=by
 intro l
 induction l with
 | nil=>intro i p h;cases h
 | cons x r ih =>
  intro i p h;rcases D6.1 h with rfl | h
  .exact⟨0,rfl,rfl⟩
  .obtain⟨k,h1,h2⟩:=ih (i+1) p h;exact⟨k+1,by omega,by simpa using h2⟩
def Aty: ∀(l:List Le) (i j:Nat),j∈(enum i l).map (·.1)↔i<=j/\j<i+l.length:=by
 intro l
 induction l with
 | nil=>intro i j;simp [enum]
 | cons x r ih=>grind[enum]
def Atz: ∀(l:List Le) (i:Nat),(enum i l).Pairwise (fun p q=>p.1<q.1):=by
 intro l
 induction l with
 | nil=>simp_all[enum]
 | cons x r ih =>intro i;refine List.Pairwise.cons (fun q hq=> ?_) (ih (i+1));all_goals grind[qH]
def AoQ {ops:List Oper}: ∀(l:List Le) (i:Nat),dB ops i l=true->(enum i l).Pairwise (fun p q=>Zn ops p.1 p.2 q.2=true):=by
 intro l
 induction l with
 | nil=>intro i _;exact List.Pairwise.nil
 | cons x r ih =>intro i h;simp only[dB,Du]at h;refine List.Pairwise.cons (fun q hq=> ?_) (ih (i+1) h.2);all_goals grind[qH]
def Ari {o:Oper} {e:Nat} (h:e∈Xr o): ∃ ed∈o.after,ed.on=e/\Region.binds .any ed=true:=by grind[Xr]
def AhS: ∀(l:List Oper) (i:Nat),backward i l=true-> ∀(k:Nat) (o:Oper),l[k]? =some o-> ∀ e∈o.after,e.on<i+k:=by
 intro l
 induction l with
 | nil=>intro i _ k o h;simp at h
 | cons x r ih =>
  intro i h k o hk e he;simp only[backward,Du]at h;cases k with
  | zero =>simp at hk;subst hk;have:=DD.1 h.1 e (by simpa using he);rw[EK]at this;exact this
  | succ k=>grind[backward]
def Af6: ∀(l:List Oper) (i:Nat),QL i l=true-> ∀(k:Nat) (o:Oper),l[k]? =some o-> ∀ e∈o.after,Region.binds .any e=true->e.on<i+k:=by
 intro l
 induction l with
 | nil=>intro i _ k o h;simp at h
 | cons x r ih =>
  intro i h k o hk e he hb;simp only[QL,Du]at h;cases k with
  | zero =>simp at hk;subst hk;have:=DD.1 h.1 e (by simpa using he);all_goals simp_all[QL]
  | succ k=>grind[QL]
def Ai5 {md:Region.Mode} {n:Nat} {rk:List Nat}: ∀(l:List Oper) (i:Nat),Yx md n rk i l=true-> ∀(k:Nat) (o:Oper),l[k]? =some o-> ∀ e∈o.after,Region.binds md e=true->e.on<n/\rk.getD e.on 0<rk.getD (i+k) 0:=by
 intro l
 induction l with
 | nil=>intro i _ k o h;simp at h
 | cons x r ih =>
  intro i h k o hk e he hb;simp only[Yx,Du]at h;cases k with
  | zero =>simp at hk;subst hk;have:=DD.1 h.1 e (by simpa using he);all_goals simp_all[Yx]
  | succ k=>grind[Yx]
def Alm {ops:Array Oper} (h:ordered ops.toList=true) (md:Region.Mode): ∃ rk:Nat->Nat,∀(j:Nat) (o:Oper),ops[j]? =some o-> ∀ e∈o.after,Region.binds md e=true->e.on<ops.size/\rk e.on<rk j:=by
 unfold ordered at h;rw[Du,Eo]at h;rcases h.2 with h | h
 .refine⟨id,fun j o hj e he _=> ?_⟩;have h1:=AhS _ _ h j o (by simpa using hj) e he;all_goals grind[ordered]
 .simp only[Du]at h;have key:AeW md ops.toList=true:=by cases md<;>first | exact h.1.1 | exact h.1.2 | exact h.2
  refine⟨fun i=>(ranks md ops.toList ops.toList.length (ops.toList.map fun _=>0)).getD i 0,fun j o hj e he hb=> ?_⟩;have:=Ai5 _ _ key j o (by simpa using hj) e he hb;all_goals grind[ordered]
def Agm {α β :Type} {f g: α ->List β}: ∀(l:List α),(∀ x∈l,f x=g x)->l.flatMap f=l.flatMap g:=by
 intro l
 induction l with
 | nil=>intro _;rfl
 | cons x r ih=>grind
def AoZ {ops:List Oper}: ∀(l:List Oper) (acc:List (List Nat)) (st:St),QL acc.length l=true->(Us C ops l acc st).length=l.length /\
 ∀(k:Nat) (o:Oper),l[k]? =some o-> ∃ x,(Us C ops l acc st)[k]? =some x/\x.o=o/\x.anc=(Xr o).flatMap (fun e=>e::(acc++(Us C ops l acc st).map Le.anc).getD e []):=by
 intro l
 induction l with
 | nil=>intro acc st _;exact⟨rfl,fun k o h=>by simp at h⟩
 | cons o' r ih =>
  intro acc st h;have hb:=Af6 _ _ h;simp only[QL,Du]at h;let an:=(Xr o').flatMap (fun e=>e::acc.getD e []);let s1:=apply st o' (KF C ops o' st);have hf:Us C ops (o'::r) acc st=⟨o',KF C ops o' st,Lm o' st (KC o' st),oneOf C o'.op (KC o' st),an⟩::Us C ops r (acc++[an]) s1:=rfl;obtain⟨g1,g2⟩:=ih (acc++[an]) s1 (by simpa using h.2);rw[hf];refine⟨by simp [g1],fun k o hk=> ?_⟩;cases k with
  | zero =>simp at hk;subst hk;refine⟨_,rfl,rfl,?_⟩;refine Agm _ fun e he=> ?_;obtain⟨ed,h1,h2,h3⟩:=Ari he;have hlt:=hb 0 o' rfl ed h1 h3;rw[Dj,Dj,Eu (by omega)]
  | succ k =>obtain⟨x,h1,h2,h3⟩:=g2 k o (by simpa using hk);refine⟨x,by simpa using h1,h2,?_⟩;rw[h3];simp [Ej]
def AoY {ρ :Type} {ops:List Oper} {K:St->Option ρ} {v: ρ}: ∀(l:List Oper) (acc:List (List Nat)) (st:St),WE C ops l st K=some v-> ∃ st',wK C ops (Us C ops l acc st) st st'/\K st'=some v/\ ∀ x∈Us C ops l acc st,J5 x.δ.ok:=by
 intro l
 induction l with
 | nil=>intro acc st h;exact⟨st,rfl,h,fun x hx=>by cases hx⟩
 | cons o r ih =>
  intro acc st h;obtain⟨h1,h2⟩:=U0 (show allT (KF C ops o st).ok (WE C ops r (apply st o (KF C ops o st)) K)=some v from h);obtain⟨st',h3,h4,h5⟩:=ih (acc++[(Xr o).flatMap (fun e=>e::acc.getD e [])]) _ h2;refine⟨st',⟨⟨rfl,rfl,rfl⟩,h3⟩,h4,fun x hx=> ?_⟩;rcases D6.1 hx with rfl | hx
  .exact h1
  .exact h5 x hx
def Sim.drew (hS:Sim V0 O0 w0 O m st a w):Sim V0 O0 w0 O m st a {w with drawn:=w.drawn+1} :=
 hS.next (st':=st) (d:=none) (v:=undef) (x:=.undef) (T:=fun _=>False) (Nw:=fun _=>False) ⟨rfl,rfl,rfl,DN _,fun _ _=>.inl rfl⟩ ⟨fun _ _ _ h=>h,fun _ _ _ _ h _=>h⟩ (fun _ _ _ h=>h) (fun _ y ho=>.inr ⟨y,ho,rfl,rfl⟩) (fun _ h=>h.elim) (fun _ h=>h.elim)
  (fun _ _ ho=>.inl ⟨id,ho,rfl⟩) rfl (fun h=>absurd rfl h)
def AoO {ρ :Type} (hC:NY P C) {fin:St->Option ρ} {v: ρ} (id:Nat) (ops:Array Oper) {O:Own} {m:Nat->Value} {st:St} {a:Act} {w:World} (K:Ex->St->Option ρ) (hS:Sim V0 O0 w0 O m st a w) (hd:TT C ops.toList st=true)
 (hx:WE C ops.toList ops.toList st (fun st'=>K .normal st')=some v):(Code.region id ops true).wp P (Post V0 O0 w0 fin K v) a w:=by
 unfold TT at hd;dsimp only at hd;simp only[Du]at hd;obtain⟨⟨⟨d1,d2⟩,d3⟩,d4⟩:=hd;have d1A:QL 0 ops.toList=true:=by all_goals grind[ordered]
 obtain⟨f1,f2⟩:=AoZ (C:=C) (ops:=ops.toList) ops.toList [] st d1A;obtain⟨st',r1,r2,r3⟩:=AoY ops.toList [] st hx;generalize hfs:Us C ops.toList ops.toList [] st=fs at *
 have hlen:fs.length=ops.size:=by rw[f1];simp
 have hsize:(enum 0 fs).length=ops.size:=by rw[Am7,hlen]
 have hany: ∀ md,wpAny P md ops (Post V0 O0 w0 fin K v) ops.size (Array.replicate ops.size false) a {w with drawn:=w.drawn+1}:=by
  intro md;obtain⟨rk,hrk⟩:=Alm d1 md
  refine Atv (V0:=V0) (O0:=O0) (w0:=w0) hC (K:=fun st'=>K .normal st') (v:=v) (st':=st') (fun O' m' s a' w' h1 h2=>⟨O',m',s,h1,h2⟩) (ANC:=fs.map Le.anc) (rk:=rk) (fun j o hj i hi=> ?_) hrk
   ops.size (enum 0 fs) _ hsize (Atz _ _) (fun p hp=> ?_) (by simp) (fun i hi=> ?_) (fun e he i _=> ?_) (AoQ _ _ d2) (fun p hp n hn=> ?_) (Aqi d4) (by rw[At1];exact r1) r2 hS.drew
  .obtain⟨x,h1,h2,h3⟩:=f2 j o (by simpa using hj);have e1:(fs.map Le.anc).getD j []=x.anc:=by rw[Dj,EF,h1];rfl
   rw[e1,h3]at hi;obtain⟨e,he,hie⟩:=Ez.1 hi;rcases D6.1 hie with h | h
   .exact⟨e,he,.inl h⟩
   .exact⟨e,he,.inr (by simpa using h)⟩
  .obtain⟨k,h1,h2⟩:=qH _ _ _ hp;rw[DV]at h1
   have hk:k<ops.toList.length:=by
    rw[<- f1];rcases Es k fs.length with h | h
    .exact h
    .rw[Ei h]at h2;cases h2
   obtain⟨x,h3,h4,h5⟩:=f2 k ops.toList[k] (by simp at hk ⊢);rw[h2]at h3;injection h3 with h3;refine⟨?_,r3 _ (Ie h2),?_⟩
   .rw[h1,h3,h4];simp at hk ⊢
   .rw[h1,Dj,EF,h2];rfl
  .rw[Aty];simp [Dq,hi,hlen]
  .have:(Array.replicate ops.size false).getD e false=false:=by
    rw[Dq,Array.getElem?_replicate];split<;>rfl
   rw[this]at he;cases he
  .grind[qH]
 refine wp_region_draw fun t=> ?_;unfold Region.schedule;split
 .exact wpAny_sound _ _ _ _ _ (hany _)
 .exact wpAny_sound _ _ _ _ _ (hany _)
end
end Go.Proofs.YtehkhflpjkokeaaGreatDoor.Vm
