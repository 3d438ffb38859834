import Derived.Test.YtpaimpmokhihmaaGreatDoorA12
import Derived.OwnWalk
set_option linter.all false
namespace Go.Proofs.YtpaimpmokhihmaaGreatDoor.Vm
open Classical
section
variable {P:Program} {C:Ctx} {V0:Nat->Value} {O0 O:Own} {w0 w:World} {m:Nat->Value} {st st':St} {a:Act}
structure Aak (C:Ctx) (ops:List Oper) (x:KE) (st:St):Prop where
 step:JU C ops x.o st=x.δ
 rd:KL x.o st (JP x.o st)=x.rd
 one:oneOf C x.o.op (JP x.o st)=x.one
def aI (C:Ctx) (ops:List Oper):List KE->St->St->Prop
 | [],s,s'=>s=s'
 | x::r,s,s'=>Aak C ops x s/\aI C ops r (apply s x.o x.δ) s'
theorem AdW: ∀(u:List Nat) {l:List (Nat×Obj)} {p:Nat×Obj},p∈JM l u->p∈l:=by
 intro u
 induction u with
 | nil=>intro l p h;exact h
 | cons n r ih=>intro l p h;exact lS (ih h)
theorem TR {x:KE} {n:Nat} (h:st.fresh n=true) (h1:n∉x.says) (h2:n∉x.keys):(apply st x.o x.δ).fresh n=true:=by
 obtain⟨f1,f2,f3,f4⟩:=Lu h;unfold KE.says at h1;simp only[DI,not_or]at h1
 have g1:has (apply st x.o x.δ).ids n=false:=by
  rw[<- Bool.not_eq_true];intro hh;rcases DI.1 (MZ.1 hh)with hm | hm
  .obtain⟨c,hc,hi⟩:=DX.1 hm;have hc:c∈put st.tmps x.o.dst x.δ.val:=hc
   have:c∈st.tmps\/c=x.δ.val:=by
    cases hd:x.o.dst with
    | none=>rw[hd]at hc;exact .inl hc
    | some d=>rw[hd]at hc;exact FC hc
   rcases this with hc | hc
   .exact f1 (Dx _ (DX.2 ⟨c,hc,hi⟩))
   .rw[hc]at hi;exact h1.1.1 hi
  .obtain⟨p,hp,hi⟩:=DX.1 hm;rcases Ve x.δ.new (show p∈J3 (JM (J3 st.Jm x.δ.upd) x.δ.del) x.δ.new from hp)with hp | hp
   .exact h1.2 (DX.2 ⟨p,hp,hi⟩)
   .rcases Ve x.δ.upd (AdW _ hp)with hp | hp
    .exact h1.1.2 (DX.2 ⟨p,hp,hi⟩)
    .exact f1 (Dy _ (DX.2 ⟨p,hp,hi⟩))
 have g2:Jr (apply st x.o x.δ).Jm n=none:=by rw[PK h2];exact f2
 all_goals grind[St.fresh,Ql]
theorem AdO {u:List (Nat×Obj)} {k:Nat} {x:Obj} (h:lastOf u k=some x):(k,x)∈u:=by
 induction u with
 | nil=>cases h
 | cons p r ih=>grind[lastOf]
theorem Agg {ops:List Oper} {x y:KE} (hx:Aak C ops x st) (hy:Aak C ops y (apply st x.o x.δ)) (h:calm x y=true) :
 (opX C x.o (JP x.o st) (JJ (apply st y.o y.δ) (JP x.o st))=opX C x.o (JP x.o st) (JJ st (JP x.o st))/\(∀ f,(opX C x.o (JP x.o st) f).upd=[])/\KL x.o (apply st y.o y.δ) (JP x.o st)=KL x.o st (JP x.o st)) \/
 (JJ (apply st y.o y.δ) (JP x.o st)=JJ st (JP x.o st)/\KL x.o (apply st y.o y.δ) (JP x.o st)=KL x.o st (JP x.o st)):=by
 unfold calm at h;cases ho:x.one with
 | none=>rw[ho]at h;cases h
 | some p =>
  obtain⟨q,off,n⟩:=p;rw[ho]at h;simp only[Dn,Eo]at h;obtain⟨h1,h2,h3,h4,h5⟩:=h;have hone:=hx.one;rw[ho]at hone;obtain⟨k1,k2⟩:=Af4 hone;obtain⟨off',ev,hO⟩:=aK (C:=C) k1;have hS:=Aet (C:=C) (ops:=ops) (o:=y.o) (s:=apply st x.o x.δ);rw[hy.step]at hS;have hxk:Jr (apply st x.o x.δ).Jm q=Jr st.Jm q:=PK fun hm=>by have:=h1.symm.trans (MZ.2 hm);cases this
  have hbox: ∀ e∈y.δ.same,e.1=q-> ∃ cs,Jr st.Jm q=some (.box cs)/\ ∀ p∈y.δ.upd,p.1=q-> ∃ cs',p.2= .box cs'/\cs'.length=cs.length/\cs'.getD e.2 .undef=cs.getD e.2 .undef:=by intro e he heq;obtain⟨cs,g1,g2⟩:=hS e he;rw[heq]at g1 g2;exact⟨cs,by rw[<- hxk];exact Xy _ _ _ _ (KN g1),g2⟩
  obtain⟨e0,he0,heq0⟩:=EX.1 h4;obtain⟨cs,g1,g2⟩:=hbox e0 he0 (Dk heq0);have hcell: ∀ k,k<n-> ∀ p∈y.δ.upd,p.1=q-> ∀ cs',p.2= .box cs'->cs'.getD (off+k) .undef=cs.getD (off+k) .undef:=by intro k hk p hp hpq cs' hcs;have:=DK.1 h5 k (EK.2 hk);obtain⟨e,he,heq⟩:=EX.1 this;rw[Dn]at heq;obtain⟨cs2,g3,g4⟩:=hbox e he (Dk heq.1);rw[g1]at g3;injection g3 with g3;injection g3 with g3;subst g3;obtain⟨cs3,g5,_,g6⟩:=g4 p hp hpq;rw[hcs]at g5;injection g5 with g5;subst g5;rw[Dk heq.2]at g6;exact g6
  have hnd:lastOf y.δ.new q=none:=kC fun hm=>by have:=h3.symm.trans (MZ.2 hm);cases this
  have hdl:q∉y.δ.del:=fun hm=>by rw[MZ.2 hm]at h2;cases h2
  have hnew: ∃ cs',Jr (apply st y.o y.δ).Jm q=some (.box cs')/\cs'.length=cs.length/\ ∀ k,k<n->cs'.getD (off+k) .undef=cs.getD (off+k) .undef:=by
   rw[OC,hnd];dsimp only;rw[Du hdl];cases hl:lastOf y.δ.upd q with
   | none=>exact⟨cs,g1,rfl,fun _ _=>rfl⟩
   | some z =>have hm:=AdO hl;obtain⟨cs',g3,g4,_⟩:=g2 _ hm rfl;dsimp only at g3;subst g3;exact⟨cs',rfl,g4,fun k hk=>hcell k hk _ hm rfl _ rfl⟩
  obtain⟨cs',g3,g4,g5⟩:=hnew;have hask: ∀ s,KL x.o s (JP x.o st)=bif XH x.o.op (JP x.o st)then []else [q]:=by intro s;unfold KL;rw[k1]
  refine .inl ⟨k2 ?_ ?_ g4 g5,fun f=>(hO f f rfl).2,by rw[hask,hask]⟩
  .rw[ev];unfold KT;rw[Qx,g1]
  .rw[ev];unfold KT;rw[Qx,g3]
theorem swap {ops:List Oper} {x y:KE} {r:List KE} (hi:indep ops x y=true) (hxF: ∀ n∈x.news,st.fresh n=true) (hyF: ∀ n∈y.news,st.fresh n=true) (h1:P6 y.news x.says=true) (h2:P6 y.news x.keys=true)
 (hs:Srt st.Jm) (h:aI C ops (x::y::r) st st'):aI C ops (y::x::r) st st':=by
 unfold indep at hi;simp only[Dn]at hi;obtain⟨⟨⟨⟨⟨⟨i1,i2⟩,i3⟩,i4⟩,i5⟩,i6⟩,i7⟩:=hi;obtain⟨hx,hy,hr⟩:=h;have hkx: ∀ n,n∈x.keys->n∉y.keys:=Le i6;have hnx: ∀ n∈x.news,n∈x.keys:=fun n hn=>Dy _ hn
 have cy:=Aeu (C:=C) (ops:=ops) (o:=y.o) (s1:=apply st x.o x.δ) (s2:=st)
  (fun z hz=>(Aa7 (fun t ht=>Le i2 t (Vt.2 ht)) hz).symm) (wR (fun t ht=>Le i2 t (Vt.2 ht))).symm
  (fun n hn=>(PK (fun hk=>Le i4 n hk (by rw[<- hy.rd];exact hn))).symm)
  (fun n hn=>by rw[hy.step]at hn;exact TR (hyF n hn) (Le h1 n hn) (Le h2 n hn))
  (fun n hn=>by rw[hy.step]at hn;exact hyF n hn)
 have cx:=xA (C:=C) (ops:=ops) (o:=x.o) (s1:=st) (s2:=apply st y.o y.δ)
  (fun z hz=>Aa7 (fun t ht=>Le i3 t (Vt.2 ht)) hz) (wR (fun t ht=>Le i3 t (Vt.2 ht)))
  (by
    rcases Bool.or_eq_true_iff.1 i5 with i5 | i5
    .exact wI (fun n hn=>PK (fun hk=>Le i5 n hk (by rw[<- hx.rd];exact hn)))
    .exact Agg hx hy i5)
  (fun n hn=>by rw[hx.step]at hn;exact hxF n hn)
  (fun n hn=>by rw[hx.step]at hn;exact TR (hxF n hn) (Le i7 n hn) (hkx n (hnx n hn)))
 have hst:apply (apply st y.o y.δ) x.o x.δ =apply (apply st x.o x.δ) y.o y.δ :=by
  have e1:(apply (apply st y.o y.δ) x.o x.δ).tmps=(apply (apply st x.o x.δ) y.o y.δ).tmps:=(put_comm st.tmps x.δ.val y.δ.val (fun t ht he=>Le i1 t (Vt.2 ht) (Vt.2 he))).symm
  have e2:(apply (apply st y.o y.δ) x.o x.δ).Jm=(apply (apply st x.o x.δ) y.o y.δ).Jm:=by
   refine Srt.ext ((hs.apply _ _).apply _ _) ((hs.apply _ _).apply _ _) fun k=> ?_;by_cases hk:k∈x.keys
   .have hky:=hkx k hk;rw[PK (o:=y.o) (δ :=y.δ) hky,OC (apply st y.o y.δ),PK (o:=y.o) (δ :=y.δ) hky,<- OC st]
   .rw[PK (o:=x.o) (δ :=x.δ) hk,OC (apply st x.o x.δ),PK (o:=x.o) (δ :=x.δ) hk,<- OC st]
  generalize apply (apply st y.o y.δ) x.o x.δ =s at *
  generalize apply (apply st x.o x.δ) y.o y.δ =s' at *
  cases s;cases s';dsimp only at e1 e2;rw[e1,e2]
 refine⟨⟨by rw[cy.1,hy.step],by rw[cy.2.1,hy.rd],by rw[cy.2.2,hy.one]⟩,⟨by rw[cx.1,hx.step],by rw[cx.2.1,hx.rd],by rw[cx.2.2,hx.one]⟩,?_⟩;rw[hst];exact hr
structure Pre (R:List KE) (st:St):Prop where
 srt:Srt st.Jm
 fresh: ∀ z∈R,∀ n∈z.news,st.fresh n=true
 pairs:R.Pairwise (fun y z=>P6 z.news y.says=true/\P6 z.news y.keys=true)
theorem Pre.step {y:KE} {R:List KE} (h:Pre (y::R) st):Pre R (apply st y.o y.δ):=by obtain⟨h1,h2⟩:=Eu.1 h.pairs;exact⟨h.srt.apply _ _,fun z hz n hn=>TR (h.fresh z (Dq _ hz) n hn) (Le (h1 z hz).1 n hn) (Le (h1 z hz).2 n hn),h2⟩
theorem front {ops:List Oper} {x:KE} {L2:List KE}: ∀(L1:List KE) {st:St},Pre (L1++x::L2) st->(∀ y∈L1,indep ops y x=true)->aI C ops (L1++x::L2) st st'->aI C ops (x::(L1++L2)) st st':=by
 intro L1
 induction L1 with
 | nil=>intro st _ _ h;exact h
 | cons y L1 ih =>intro st hP hi h;have h1:=ih (st:=apply st y.o y.δ) (hP.step) (fun z hz=>hi z (Dq _ hz)) h.2;have hx:x∈L1++x::L2:=Dy _ Dp;obtain⟨p1,_⟩:=Eu.1 hP.pairs;exact swap (hi y Dp) (hP.fresh y Dp) (hP.fresh x (Dq _ hx)) (p1 x hx).1 (p1 x hx).2 hP.srt ⟨h.1,h1⟩
theorem AeB {md:Region.Mode} {e:Edge} (h:Region.binds .any e=true):Region.binds md e=true:=by unfold Region.binds at h ⊢;all_goals grind
theorem TD {ops:List Oper} {i:Nat} {x y:KE} (h:TV ops i x y=true):P6 y.news x.says=true/\P6 y.news x.keys=true/\(i∈y.anc\/indep ops x y=true):=by unfold TV at h;simp only[Dn,GU]at h;exact⟨h.1.1,h.1.2,h.2.imp MZ.1 id⟩
theorem AaH {l:Array Bool} {i:Nat} (h:i<l.size) (b c:Bool):l.getD i b=l.getD i c:=by grind
theorem Ad4 {α :Type} (f: α ->Nat): ∀(l:List α),l≠ []-> ∃ x∈l,∀ y∈l,f x<=f y:=by
 intro l
 induction l with
 | nil=>grind
 | cons a r ih =>
  intro _;by_cases hr:r=[]
  .simp_all
  .grind
theorem Agk {ρ :Type} (hC:Md P C) {ops:Array Oper} {md:Region.Mode} {Q:Exit->Act->World->Prop} {v: ρ} {K:St->Option ρ} (hQ: ∀ O' m' st' a' w',Sim V0 O0 w0 O' m' st' a' w'->K st'=some v->Q .normal a' w')
 {ANC:List (List Nat)} (hanc: ∀(j:Nat) (o:Oper),ops[j]? =some o-> ∀ i∈ANC.getD j [],∃ e∈Rw o,i=e\/i∈ANC.getD e []) {rk:Nat->Nat} (hback: ∀(j:Nat) (o:Oper),ops[j]? =some o-> ∀ e∈o.after,Region.binds md e=true->e.on<ops.size/\rk e.on<rk j) :
 ∀(fuel:Nat) (R:List (Nat×KE)) (listed:Array Bool) {O:Own} {m:Nat->Value} {st:St} {a:Act} {w:World},R.length=fuel->R.Pairwise (fun p q=>p.1<q.1) ->
  (∀ p∈R,ops[p.1]? =some p.2.o/\Jv p.2.δ.ok/\p.2.anc=ANC.getD p.1 [])->listed.size=ops.size->(∀ i,i<ops.size->(listed.getD i true=false↔i∈R.map (·.1))) ->
  (∀ e,listed.getD e false=true-> ∀ i∈ANC.getD e [],listed.getD i false=true)->R.Pairwise (fun p q=>TV ops.toList p.1 p.2 q.2=true)->(∀ p∈R,∀ n∈p.2.news,st.fresh n=true)->Srt st.Jm ->
  aI C ops.toList (R.map (·.2)) st st'->K st'=some v->Sim V0 O0 w0 O m st a w->wpAny P md ops Q fuel listed a w:=by
 intro fuel
 induction fuel with
 | zero =>
  intro R listed O m st a w hlen _ _ hsz hl _ _ _ _ hruns hK hS;have hR:R=[]:=List.length_eq_zero_iff.1 hlen;subst hR;refine⟨?_,?_⟩
  .rw[List.eq_nil_iff_forall_not_mem];intro i hi;obtain⟨h1,o,h2,_⟩:=mem_ready.1 hi;have hlt:=(DL.1 h2).1;have:=(hl i hlt).1 h1;simp at this
  .have:st=st':=hruns;subst this;exact hQ _ _ _ _ _ hS hK
 | succ fuel ih =>
  intro R listed O m st a w hlen hord hops hsz hl hcl hpr hfr hsrt hruns hK hS;have hin: ∀ p∈R,p.1<ops.size:=fun p hp=>(DL.1 (hops p hp).1).1;refine⟨fun hnil=> ?_,fun i hi=> ?_⟩
  .exfalso;obtain⟨p,hpR,hmin⟩:=Ad4 (fun q:Nat×KE=>rk q.1) R (by intro h;rw[h]at hlen;simp at hlen);have hp:=hin p hpR
   have:p.1∈Region.ready md ops listed:=by
    refine mem_ready.2 ⟨(hl p.1 hp).2 (D6.2 ⟨p,hpR,rfl⟩),p.2.o,(hops p hpR).1,fun e he hb=> ?_⟩;obtain⟨hsize,hlt⟩:=hback _ _ (hops p hpR).1 e he hb;have hno:e.on∉R.map (·.1):=by intro hm;obtain⟨q,hq,hqe⟩:=D6.1 hm;have:=hmin q hq;rw[hqe]at this;omega
    have:listed.getD e.on true≠false:=fun h=>hno ((hl e.on hsize).1 h);rw[AaH (by rw[hsz];exact hsize) false true];simpa using this
   rw[hnil]at this;cases this
  .obtain⟨hi1,oi,hi2,hi3⟩:=mem_ready.1 hi;have hilt:=(DL.1 hi2).1;obtain⟨p,hp,rfl⟩:=D6.1 ((hl i hilt).1 hi1);obtain⟨L1,L2,rfl⟩:=List.append_of_mem hp;obtain⟨i,x⟩:=p;dsimp only at hi hi1 hi2 hi3 hilt ⊢;obtain⟨hx1,hx2,hx3⟩:=hops (i,x) hp;dsimp only at hx1 hx2 hx3
   have hancl: ∀ j∈ANC.getD i [],listed.getD j false=true:=by
    intro j hj;obtain⟨e,he,hje⟩:=hanc i _ hx1 j hj;have hel:listed.getD e false=true:=by unfold Rw at he;obtain⟨ed,hed,hb⟩:=Gu.1 he;all_goals grind[AeB]
    rcases hje with rfl | hje
    .exact hel
    .exact hcl e hel j hje
   have hord':=Gf.1 hord;have hpr':=Gf.1 hpr;have hind: ∀ q∈L1,TV ops.toList q.1 q.2 x=true/\indep ops.toList q.2 x=true:=by intro q hq;have hpq:=hpr'.2.2 q hq (i,x) Dp;dsimp only at hpq;refine⟨hpq,(TD hpq).2.2.resolve_left fun hm=> ?_⟩;rw[hx3]at hm;have h1:=hancl _ hm;have hqR:q∈L1++(i,x)::L2:=Dx _ hq;have hqlt:=hin q hqR;have h2:=(hl q.1 hqlt).2 (D6.2 ⟨q,hqR,rfl⟩);rw[AaH (by rw[hsz];exact hqlt) true false,h1]at h2;cases h2
   have hPre:Pre ((L1++(i,x)::L2).map (·.2)) st:=by
    refine⟨hsrt,fun z hz n hn=> ?_,?_⟩
    .obtain⟨q,hq,rfl⟩:=D6.1 hz;exact hfr q hq n hn
    .rw[F9];exact hpr.imp fun h=>⟨(TD h).1,(TD h).2.1⟩
   have hfront:aI C ops.toList (x::(L1.map (·.2)++L2.map (·.2))) st st':=by refine front (L1.map (·.2)) (by simpa using hPre) (fun y hy=> ?_) (by simpa using hruns);obtain⟨q,hq,rfl⟩:=D6.1 hy;exact(hind q hq).2
   obtain⟨hstep,hrest⟩:=hfront;have hsub:List.Sublist (L1++L2) (L1++(i,x)::L2):=List.Sublist.append_left (List.sublist_cons_self _ _) _
   have hnext: ∀ O' m' a' w',Sim V0 O0 w0 O' m' (apply st x.o (JU C ops.toList x.o st)) a' w'->wpAny P md ops Q fuel (listed.setIfInBounds i true) a' w':=by
    intro O' m' a' w' hS';rw[hstep.step]at hS';refine ih (L1++L2) _ (by simp at hlen ⊢;omega) (hord.sublist hsub) (fun q hq=>hops q (hsub.subset hq)) (by simpa using hsz) (fun j hj=> ?_) (fun e he j hj=> ?_) (hpr.sublist hsub) (fun q hq n hn=> ?_) (hsrt.apply _ _) (by simpa using hrest) hK hS'
    .by_cases hji:i=j
     .subst hji;have h1:(listed.setIfInBounds i true).getD i true=true:=by simp [Dj,hsz,hj]
      rw[h1];refine⟨fun h=>(by cases h),fun h=> ?_⟩;obtain⟨q,hq,hqi⟩:=D6.1 h;rcases DI.1 hq with hq | hq
      .have:=hord'.2.2 q hq (i,x) Dp;dsimp only at this;omega
      .have:=(Eu.1 hord'.2.1).1 q hq;dsimp only at this;omega
     .rw[getD_set_ne true hji,hl j hj];simp only[Et,DY,DI,Dz];constructor
      .rintro (h | h | h)
       .exact .inl h
       .exact absurd h.symm hji
       .exact .inr h
      .rintro (h | h)
       .exact .inl h
       .exact .inr (.inr h)
    .by_cases hei:i=e
     .subst hei;exact getD_set_true (hancl j hj)
     .rw[getD_set_ne false hei]at he;exact getD_set_true (hcl e he j hj)
    .have hq':=hsub.subset hq;have hf:=hfr q hq' n hn;rcases DI.1 hq with hq | hq
     .have hi':=(hind q hq).2;unfold indep at hi';simp only[Dn]at hi';exact TR hf (Le hi'.2 n hn) (Le hi'.1.2 n (Dy _ hn))
     .have hpq:=TD ((Eu.1 hpr'.2.1).1 q hq);exact TR hf (Le hpq.1 n hn) (Le hpq.2.1 n hn)
   have hw:=rE hC hS (ops:=ops) (o:=x.o) (by rw[hstep.step];exact hx2) (wpAny P md ops Q fuel (listed.setIfInBounds i true)) Q hnext;unfold wpOp;rw[hx1];dsimp only;split
   .rename_i hwt;rw[Dw hwt]at hw;exact .inl hw
   .rename_i hwt;rw[Du hwt]at hw;exact hw
end
section
variable {P:Program} {C:Ctx} {V0:Nat->Value} {O0 O:Own} {w0 w:World} {m:Nat->Value} {st st':St} {a:Act}
def enum:Nat->List KE->List (Nat×KE)
 | _,[]=>[]
 | i,x::r=>(i,x)::enum (i+1) r
theorem Acm: ∀(l:List KE) (i:Nat),(enum i l).length=l.length:=by
 intro l
 induction l with
 | nil=>intro i;rfl
 | cons x r ih=>intro i;simp [enum,ih]
theorem Agp: ∀(l:List KE) (i:Nat),(enum i l).map (·.2)=l:=by
 intro l
 induction l with
 | nil=>intro i;rfl
 | cons x r ih=>intro i;simp [enum,ih]
theorem YC: ∀(l:List KE) (i:Nat) (p:Nat×KE),p∈enum i l-> ∃ k,p.1=i+k/\l[k]? =some p.2:=by
 intro l
 induction l with
 | nil=>intro i p h;cases h
 | cons x r ih =>
  intro i p h;rcases Dz.1 h with rfl | h
  .exact⟨0,rfl,rfl⟩
  .obtain⟨k,h1,h2⟩:=ih (i+1) p h;exact⟨k+1,by omega,by simpa using h2⟩
theorem Agn: ∀(l:List KE) (i j:Nat),j∈(enum i l).map (·.1)↔i<=j/\j<i+l.length:=by
 intro l
 induction l with
 | nil=>intro i j;simp [enum]
 | cons x r ih=>grind[enum]
theorem Ago: ∀(l:List KE) (i:Nat),(enum i l).Pairwise (fun p q=>p.1<q.1):=by
 intro l
 induction l with
 | nil=>simp_all[enum]
 | cons x r ih =>intro i;refine List.Pairwise.cons (fun q hq=> ?_) (ih (i+1));all_goals grind[YC]
theorem Ad3 {ops:List Oper}: ∀(l:List KE) (i:Nat),Vx ops i l=true->(enum i l).Pairwise (fun p q=>TV ops p.1 p.2 q.2=true):=by
 intro l
 induction l with
 | nil=>intro i _;exact List.Pairwise.nil
 | cons x r ih =>intro i h;simp only[Vx,Dn]at h;refine List.Pairwise.cons (fun q hq=> ?_) (ih (i+1) h.2);all_goals grind[YC]
theorem AeU {o:Oper} {e:Nat} (h:e∈Rw o): ∃ ed∈o.after,ed.on=e/\Region.binds .any ed=true:=by grind[Rw]
theorem xJ: ∀(l:List Oper) (i:Nat),backward i l=true-> ∀(k:Nat) (o:Oper),l[k]? =some o-> ∀ e∈o.after,e.on<i+k:=by
 intro l
 induction l with
 | nil=>intro i _ k o h;simp at h
 | cons x r ih =>
  intro i h k o hk e he;simp only[backward,Dn]at h;cases k with
  | zero =>simp at hk;subst hk;have:=DK.1 h.1 e (by simpa using he);rw[DZ]at this;exact this
  | succ k=>grind[backward]
theorem rZ: ∀(l:List Oper) (i:Nat),Og i l=true-> ∀(k:Nat) (o:Oper),l[k]? =some o-> ∀ e∈o.after,Region.binds .any e=true->e.on<i+k:=by
 intro l
 induction l with
 | nil=>intro i _ k o h;simp at h
 | cons x r ih =>
  intro i h k o hk e he hb;simp only[Og,Dn]at h;cases k with
  | zero =>simp at hk;subst hk;have:=DK.1 h.1 e (by simpa using he);all_goals simp_all[Og]
  | succ k=>grind[Og]
theorem yH {md:Region.Mode} {n:Nat} {rk:List Nat}: ∀(l:List Oper) (i:Nat),SY md n rk i l=true-> ∀(k:Nat) (o:Oper),l[k]? =some o-> ∀ e∈o.after,Region.binds md e=true->e.on<n/\rk.getD e.on 0<rk.getD (i+k) 0:=by
 intro l
 induction l with
 | nil=>intro i _ k o h;simp at h
 | cons x r ih =>
  intro i h k o hk e he hb;simp only[SY,Dn]at h;cases k with
  | zero =>simp at hk;subst hk;have:=DK.1 h.1 e (by simpa using he);all_goals simp_all[SY]
  | succ k=>grind[SY]
theorem Abq {ops:Array Oper} (h:ordered ops.toList=true) (md:Region.Mode): ∃ rk:Nat->Nat,∀(j:Nat) (o:Oper),ops[j]? =some o-> ∀ e∈o.after,Region.binds md e=true->e.on<ops.size/\rk e.on<rk j:=by
 unfold ordered at h;rw[Dn,GU]at h;rcases h.2 with h | h
 .refine⟨id,fun j o hj e he _=> ?_⟩;have h1:=xJ _ _ h j o (by simpa using hj) e he;all_goals grind[ordered]
 .simp only[Dn]at h;have key:qQ md ops.toList=true:=by cases md<;>first | exact h.1.1 | exact h.1.2 | exact h.2
  refine⟨fun i=>(ranks md ops.toList ops.toList.length (ops.toList.map fun _=>0)).getD i 0,fun j o hj e he hb=> ?_⟩;have:=yH _ _ key j o (by simpa using hj) e he hb;all_goals grind[ordered]
theorem uN {α β :Type} {f g: α ->List β}: ∀(l:List α),(∀ x∈l,f x=g x)->l.flatMap f=l.flatMap g:=by
 intro l
 induction l with
 | nil=>intro _;rfl
 | cons x r ih=>grind
theorem Ad9 {ops:List Oper}: ∀(l:List Oper) (acc:List (List Nat)) (st:St),Og acc.length l=true->(PD C ops l acc st).length=l.length /\
 ∀(k:Nat) (o:Oper),l[k]? =some o-> ∃ x,(PD C ops l acc st)[k]? =some x/\x.o=o/\x.anc=(Rw o).flatMap (fun e=>e::(acc++(PD C ops l acc st).map KE.anc).getD e []):=by
 intro l
 induction l with
 | nil=>intro acc st _;exact⟨rfl,fun k o h=>by simp at h⟩
 | cons o' r ih =>
  intro acc st h;have hb:=rZ _ _ h;simp only[Og,Dn]at h;let an:=(Rw o').flatMap (fun e=>e::acc.getD e []);let s1:=apply st o' (JU C ops o' st);have hf:PD C ops (o'::r) acc st=⟨o',JU C ops o' st,KL o' st (JP o' st),oneOf C o'.op (JP o' st),an⟩::PD C ops r (acc++[an]) s1:=rfl;obtain⟨g1,g2⟩:=ih (acc++[an]) s1 (by simpa using h.2);rw[hf];refine⟨by simp [g1],fun k o hk=> ?_⟩;cases k with
  | zero =>simp at hk;subst hk;refine⟨_,rfl,rfl,?_⟩;refine uN _ fun e he=> ?_;obtain⟨ed,h1,h2,h3⟩:=AeU he;have hlt:=hb 0 o' rfl ed h1 h3;rw[Di,Di,DV (by omega)]
  | succ k =>obtain⟨x,h1,h2,h3⟩:=g2 k o (by simpa using hk);refine⟨x,by simpa using h1,h2,?_⟩;rw[h3];simp [EU]
theorem Ad8 {ρ :Type} {ops:List Oper} {K:St->Option ρ} {v: ρ}: ∀(l:List Oper) (acc:List (List Nat)) (st:St),QJ C ops l st K=some v-> ∃ st',aI C ops (PD C ops l acc st) st st'/\K st'=some v/\ ∀ x∈PD C ops l acc st,Jv x.δ.ok:=by
 intro l
 induction l with
 | nil=>intro acc st h;exact⟨st,rfl,h,fun x hx=>by cases hx⟩
 | cons o r ih =>
  intro acc st h;obtain⟨h1,h2⟩:=PL (show allT (JU C ops o st).ok (QJ C ops r (apply st o (JU C ops o st)) K)=some v from h);obtain⟨st',h3,h4,h5⟩:=ih (acc++[(Rw o).flatMap (fun e=>e::acc.getD e [])]) _ h2;refine⟨st',⟨⟨rfl,rfl,rfl⟩,h3⟩,h4,fun x hx=> ?_⟩;rcases Dz.1 hx with rfl | hx
  .exact h1
  .exact h5 x hx
theorem Sim.drew (hS:Sim V0 O0 w0 O m st a w):Sim V0 O0 w0 O m st a {w with drawn:=w.drawn+1} :=
 hS.next (st':=st) (d:=none) (v:=undef) (x:=.undef) (T:=fun _=>False) (Nw:=fun _=>False) ⟨rfl,rfl,rfl,DR _,fun _ _=>.inl rfl⟩ ⟨fun _ _ _ h=>h,fun _ _ _ _ h _=>h⟩ (fun _ _ _ h=>h) (fun _ y ho=>.inr ⟨y,ho,rfl,rfl⟩) (fun _ h=>h.elim) (fun _ h=>h.elim)
  (fun _ _ ho=>.inl ⟨id,ho,rfl⟩) rfl (fun h=>absurd rfl h)
theorem Ad1 {ρ :Type} (hC:Md P C) {fin:St->Option ρ} {v: ρ} (id:Nat) (ops:Array Oper) {O:Own} {m:Nat->Value} {st:St} {a:Act} {w:World} (K:Ex->St->Option ρ) (hS:Sim V0 O0 w0 O m st a w) (hd:Pj C ops.toList st=true)
 (hx:QJ C ops.toList ops.toList st (fun st'=>K .normal st')=some v):(Code.region id ops true).wp P (Post V0 O0 w0 fin K v) a w:=by
 unfold Pj at hd;dsimp only at hd;simp only[Dn]at hd;obtain⟨⟨⟨d1,d2⟩,d3⟩,d4⟩:=hd;have d1A:Og 0 ops.toList=true:=by all_goals grind[ordered]
 obtain⟨f1,f2⟩:=Ad9 (C:=C) (ops:=ops.toList) ops.toList [] st d1A;obtain⟨st',r1,r2,r3⟩:=Ad8 ops.toList [] st hx;generalize hfs:PD C ops.toList ops.toList [] st=fs at *
 have hlen:fs.length=ops.size:=by rw[f1];simp
 have hsize:(enum 0 fs).length=ops.size:=by rw[Acm,hlen]
 have hany: ∀ md,wpAny P md ops (Post V0 O0 w0 fin K v) ops.size (Array.replicate ops.size false) a {w with drawn:=w.drawn+1}:=by
  intro md;obtain⟨rk,hrk⟩:=Abq d1 md
  refine Agk (V0:=V0) (O0:=O0) (w0:=w0) hC (K:=fun st'=>K .normal st') (v:=v) (st':=st') (fun O' m' s a' w' h1 h2=>⟨O',m',s,h1,h2⟩) (ANC:=fs.map KE.anc) (rk:=rk) (fun j o hj i hi=> ?_) hrk
   ops.size (enum 0 fs) _ hsize (Ago _ _) (fun p hp=> ?_) (by simp) (fun i hi=> ?_) (fun e he i _=> ?_) (Ad3 _ _ d2) (fun p hp n hn=> ?_) (Aes d4) (by rw[Agp];exact r1) r2 hS.drew
  .obtain⟨x,h1,h2,h3⟩:=f2 j o (by simpa using hj);have e1:(fs.map KE.anc).getD j []=x.anc:=by rw[Di,DW,h1];rfl
   rw[e1,h3]at hi;obtain⟨e,he,hie⟩:=DX.1 hi;rcases Dz.1 hie with h | h
   .exact⟨e,he,.inl h⟩
   .exact⟨e,he,.inr (by simpa using h)⟩
  .obtain⟨k,h1,h2⟩:=YC _ _ _ hp;rw[DF]at h1
   have hk:k<ops.toList.length:=by
    rw[<- f1];rcases DT k fs.length with h | h
    .exact h
    .rw[DN h]at h2;cases h2
   obtain⟨x,h3,h4,h5⟩:=f2 k ops.toList[k] (by simp at hk ⊢);rw[h2]at h3;injection h3 with h3;refine⟨?_,r3 _ (F5 h2),?_⟩
   .rw[h1,h3,h4];simp at hk ⊢
   .rw[h1,Di,DW,h2];rfl
  .rw[Agn];simp [Dj,hi,hlen]
  .have:(Array.replicate ops.size false).getD e false=false:=by
    rw[Dj,Array.getElem?_replicate];split<;>rfl
   rw[this]at he;cases he
  .grind[YC]
 refine wp_region_draw fun t=> ?_;unfold Region.schedule;split
 .exact wpAny_sound _ _ _ _ _ (hany _)
 .exact wpAny_sound _ _ _ _ _ (hany _)
end
section
variable {P:Program} {C:Ctx}
def Aaa:List (Nat×Sig)->Nat->Option Sig
 | [],_=>none
 | (k,x)::r,t=>bif Nat.beq k t then some x else Aaa r t
theorem Afe: ∀ {l:List (Nat×Sig)} {t:Nat} {x:Sig},Aaa l t=some x->(t,x)∈l:=by
 intro l
 induction l with
 | nil=>intro t x h;cases h
 | cons p r ih=>grind[Aaa,Ql]
def Ahb:List (Nat×Nrm)->Nat->Option Nrm
 | [],_=>none
 | (k,x)::r,t=>bif Nat.beq k t then some x else Ahb r t
def zQ:List (Nat×Alt)->Nat->Option Alt
 | [],_=>none
 | (k,x)::r,t=>bif Nat.beq k t then some x else zQ r t
def zX:List (Nat×(Nat->Sig))->Nat->Option (Nat->Sig)
 | [],_=>none
 | (k,x)::r,t=>bif Nat.beq k t then some x else zX r t
def Ahc:List (Nat×Nat×Nat×List Nat)->Nat->Option (Nat×Nat×List Nat)
 | [],_=>none
 | (k,x)::r,t=>bif Nat.beq k t then some x else Ahc r t
def AgY:List (Nat×List (Nat×Nat))->Nat->List (Nat×Nat)
 | [],_=>[]
 | (k,x)::r,t=>bif Nat.beq k t then x else AgY r t
def ctx (P:Program) (gs:List (Nat×Sig)) (ns:List (Nat×Nrm)) (aa:List (Nat×Alt):=[]) (dd:List (Nat×(Nat->Sig)):=[]) (cc:List Nat:=[]) (bb:List Nat:=[]) (ss:List (Nat×Nat×Nat×List Nat):=[]) (kk:List (Nat×List (Nat×Nat)):=[]):Ctx:=⟨Ae2 P,Aaa gs,Ahb ns,zQ aa,zX dd,cc,bb,fun _=>none,Ahc ss,AgY kk⟩
def WT (P:Program) (F:Nat->Sig):Prop:=(∀ xs,(F 0).ok xs=false)/\ ∀ f xs,(F (f+1)).ok xs=true->Spec P f (F (f+1))
def kV (P:Program):List (Nat×(Nat->Sig))->Prop
 | []=>True
 | (_,F)::r=>WT P F/\kV P r
theorem kV.look: ∀ {l:List (Nat×(Nat->Sig))},kV P l-> ∀ t F,zX l t=some F->WT P F:=by
 intro l
 induction l with
 | nil=>intro _ t F h;cases h
 | cons p r ih=>grind[zX,Ql,kV,WT]
def rU (P:Program):List (Nat×Alt)->Prop
 | []=>True
 | (f,q)::r=>(Spec P f q.1/\Spec P f q.2.1)/\rU P r
theorem rU.look: ∀ {l:List (Nat×Alt)},rU P l-> ∀ f q,zQ l f=some q->Spec P f q.1/\Spec P f q.2.1:=by
 intro l
 induction l with
 | nil=>intro _ f q h;cases h
 | cons p r ih =>
  intro h f q hq;obtain⟨k,x⟩:=p;simp only[zQ,Ql]at hq;by_cases hk:k=f
  .simp only[hk,FU,cond_true,Ez]at hq;rw[<- hq,<- hk];exact h.1
  .rw[show decide (k=f)=false by simpa using hk]at hq;exact ih h.2 f q hq
def iF (P:Program):List (Nat×Sig)->Prop
 | []=>True
 | (f,sg)::r=>Spec P f sg/\iF P r
theorem iF.mem: ∀ {l:List (Nat×Sig)},iF P l-> ∀ p∈l,Spec P p.1 p.2:=by
 intro l
 induction l with
 | nil=>intro _ p hp;cases hp
 | cons q r ih=>grind[iF,Spec]
theorem OG {gs:List (Nat×Sig)} {ns:List (Nat×Nrm)} {aa:List (Nat×Alt)} {dd:List (Nat×(Nat->Sig))} {cc bb:List Nat} {ss:List (Nat×Nat×Nat×List Nat)} {kk:List (Nat×List (Nat×Nat))} (hG:iF P gs) (hA:rU P aa:=by trivial) (hD:kV P dd:=by trivial):Md P (ctx P gs ns aa dd cc bb ss kk) :=
 ⟨fun _ _ h=>h,fun _ _ h=>hG.mem _ (Afe h),hA.look,hD.look⟩
theorem enters {f:FuncId} {fn:Func} (hf:P.funcs[f]? =some fn) (hb:fn.body.isNone=false) (hn:(fn.name== "runtime.NumGoroutine")=false) (args:Array Value) (w:World):(callFunc f args).run P w= .ok (.enter f args) w:=by
 have h1:fn.name≠ "runtime.NumGoroutine" :=by simpa using hn
 have h2:fn.body≠none:=by intro e;rw[e]at hb;cases hb
 simp [callFunc,hf,h1,h2]
def KJ:(ks:List (Bool×CK))->List A->Option (tyl (ks.map (·.2))).Val
 | []=>fun
  | []=>some ()
  | _=>none
 | (_,.bool)::r=>fun
  | .bool b::cs=>(KJ r cs).map (fun q=>Ty.mk2 _ b q)
  | _=>none
 | (_,.int k)::r=>fun
  | .int j n::cs=>bif A.kEq j k then(KJ r cs).map (fun q=>Ty.mk2 _ n q)else none
  | _=>none
 | (_,.str)::r=>fun
  | .str s::cs=>(KJ r cs).map (fun q=>Ty.mk2 _ s q)
  | _=>none
 | (false,.sl _ t)::r=>fun
  | .sl l::cs=>match l.cast t with
   | some xs=>(KJ r cs).map (fun q=>Ty.mk2 _ xs q)
   | none=>none
  | _=>none
 | (true,.sl e t)::r=>fun
  | .usl z e' l::cs=>bif z&&Nat.beq e' e then match l.cast t with
   | some xs=>(KJ r cs).map (fun q=>Ty.mk2 _ xs q)
   | none=>none
   else none
  | _=>none
 | (true,.sln e t)::r=>fun
  | .usl z e' l::cs=>bif !z&&Nat.beq e' e then match l.cast t with
   | some xs=>(KJ r cs).map (fun q=>Ty.mk2 _ xs q)
   | none=>none
   else none
  | _=>none
 | (false,.sln _ t)::r=>fun
  | .sln l::cs=>match l.cast t with
   | some xs=>(KJ r cs).map (fun q=>Ty.mk2 _ xs q)
   | none=>none
  | _=>none
 | (_,.ptr)::r=>fun
  | .KQ::cs=>(KJ r cs).map (fun q=>q)
  | _=>none
 | (_,.fn)::r=>fun
  | .fn n::cs=>(KJ r cs).map (fun q=>Ty.mk2 _ n q)
  | _=>none
 | (_,.mp kt vt)::r=>fun
  | .ump l::cs=>match l.cast kt vt with
   | some xs=>(KJ r cs).map (fun q=>Ty.mk2 _ xs q)
   | none=>none
  | _=>none
 | (true,.bx t)::r=>fun
  | .box ds::cs=>bif (t.mk (ds.map A.weak)).1&&ds.all A.Aea then(KJ r cs).map (fun q=>Ty.mk2 _ [(t.mk (ds.map A.weak)).2] q)else none
  | _=>none
 | (false,.bx _)::_=>fun _=>none
 | (_,.oth)::_=>fun _=>none
def L9:(ks:List (Bool×CK))->(tyl (ks.map (·.2))).Val->List A
 | [],_=>[]
 | (_,.bool)::r,v=>.bool (Ty.hd _ v)::L9 r (Ty.tl _ v)
 | (_,.int k)::r,v=>.int k (Ty.hd _ v)::L9 r (Ty.tl _ v)
 | (_,.str)::r,v=>.str (Ty.hd _ v)::L9 r (Ty.tl _ v)
 | (false,.sl _ t)::r,v=>.sl ⟨t,Ty.hd _ v⟩::L9 r (Ty.tl _ v)
 | (true,.sl e t)::r,v=>.usl true e ⟨t,Ty.hd _ v⟩::L9 r (Ty.tl _ v)
 | (true,.sln e t)::r,v=>.usl false e ⟨t,Ty.hd _ v⟩::L9 r (Ty.tl _ v)
 | (false,.sln _ t)::r,v=>.sln ⟨t,Ty.hd _ v⟩::L9 r (Ty.tl _ v)
 | (_,.ptr)::r,v=>.KQ::L9 r v
 | (_,.fn)::r,v=>.fn (Ty.hd _ v)::L9 r (Ty.tl _ v)
 | (_,.mp kt vt)::r,v=>.ump ⟨kt,vt,Ty.hd _ v⟩::L9 r (Ty.tl _ v)
 | (true,.bx t)::r,v=>.box ((t.cells ((Ty.hd _ v).headD t.zero)).map A.strong)::L9 r (Ty.tl _ v)
 | (false,.bx _)::_,_=>[]
 | (_,.oth)::_,_=>[]
theorem AcK: ∀(ds:List A),ds.all A.Aea=true->(ds.map A.weak).map A.strong=ds:=by
 intro ds
 induction ds with
 | nil=>intro _;rfl
 | cons d ds ih =>intro h;rw[List.all_cons,Dn]at h;rw[DY,DY,ih h.2];congr 1;cases d<;>first | rfl | cases h.1
theorem V6: ∀(ks:List (Bool×CK)) (cs:List A) (v:(tyl (ks.map (·.2))).Val),KJ ks cs=some v->cs=L9 ks v:=by
 intro ks
 induction ks with
 | nil =>
  intro cs v h;cases cs with
  | nil=>rfl
  | cons _ _=>cases h
 | cons k ks ih =>
  intro cs v h;obtain⟨u,k⟩:=k;have none': ∀ {α :Type} {x: α},(none:Option α)=some x->False:=fun h=>by cases h
  cases k with
  | bool =>
   simp only[KJ]at h;split at h
   .rename_i b cs;cases hd:KJ ks cs with
    | none=>rw[hd]at h;cases h
    | some q =>rw[hd]at h;injection h with h;subst h;simp only[L9,Ty.Nj,Ty.Nr];rw[<- ih cs q hd]
   .exact(none' h).elim
  | int k =>
   simp only[KJ]at h;split at h
   .rename_i j n cs;cases hk:A.kEq j k with
    | false=>rw[hk]at h;exact(none' h).elim
    | true =>
     rw[hk]at h;cases hd:KJ ks cs with
     | none=>rw[hd]at h;cases h
     | some q =>rw[hd]at h;injection h with h;subst h;simp only[L9,Ty.Nj,Ty.Nr];rw[<- ih cs q hd,A.NL hk]
   .exact(none' h).elim
  | str =>
   simp only[KJ]at h;split at h
   .rename_i b cs;cases hd:KJ ks cs with
    | none=>rw[hd]at h;cases h
    | some q =>rw[hd]at h;injection h with h;subst h;simp only[L9,Ty.Nj,Ty.Nr];rw[<- ih cs q hd]
   .exact(none' h).elim
  | sl e t =>
   cases u with
   | false =>
    simp only[KJ]at h;split at h
    .rename_i l cs;cases hc:l.cast t with
     | none=>rw[hc]at h;exact(none' h).elim
     | some xs =>
      rw[hc]at h;dsimp only at h;cases hd:KJ ks cs with
      | none=>rw[hd]at h;cases h
      | some q =>rw[hd]at h;injection h with h;subst h;simp only[L9,Ty.Nj,Ty.Nr];rw[<- ih cs q hd,Sl.NC hc]
    .exact(none' h).elim
   | true =>
    simp only[KJ]at h;split at h
    .rename_i z e' l cs;cases he:z&&Nat.beq e' e with
     | false=>rw[he]at h;exact(none' h).elim
     | true =>
      rw[he]at h;dsimp only[cond_true]at h;cases hc:l.cast t with
      | none=>rw[hc]at h;exact(none' h).elim
      | some xs =>
       rw[hc]at h;dsimp only at h;cases hd:KJ ks cs with
       | none=>rw[hd]at h;cases h
       | some q =>rw[hd]at h;injection h with h;subst h;simp only[L9,Ty.Nj,Ty.Nr];rw[Dn]at he;rw[<- ih cs q hd,Sl.NC hc,Dk he.2,he.1]
    .exact(none' h).elim
  | ptr =>
   simp only[KJ]at h;split at h
   .rename_i cs;cases hd:KJ ks cs with
    | none=>rw[hd]at h;cases h
    | some q =>rw[hd]at h;injection h with h;subst h;simp only[L9];rw[<- ih cs _ hd]
   .exact(none' h).elim
  | fn =>
   simp only[KJ]at h;split at h
   .rename_i b cs;cases hd:KJ ks cs with
    | none=>rw[hd]at h;cases h
    | some q =>rw[hd]at h;injection h with h;subst h;simp only[L9,Ty.Nj,Ty.Nr];rw[<- ih cs q hd]
   .exact(none' h).elim
  | sln e t =>
   cases u with
   | false =>
    simp only[KJ]at h;split at h
    .rename_i l cs;cases hc:l.cast t with
     | none=>rw[hc]at h;exact(none' h).elim
     | some xs =>
      rw[hc]at h;dsimp only at h;cases hd:KJ ks cs with
      | none=>rw[hd]at h;cases h
      | some q =>rw[hd]at h;injection h with h;subst h;simp only[L9,Ty.Nj,Ty.Nr];rw[<- ih cs q hd,Sl.NC hc]
    .exact(none' h).elim
   | true =>
    simp only[KJ]at h;split at h
    .rename_i z e' l cs;cases he: !z&&Nat.beq e' e with
     | false=>rw[he]at h;exact(none' h).elim
     | true =>
      rw[he]at h;dsimp only[cond_true]at h;cases hc:l.cast t with
      | none=>rw[hc]at h;exact(none' h).elim
      | some xs =>
       rw[hc]at h;dsimp only at h;cases hd:KJ ks cs with
       | none=>rw[hd]at h;cases h
       | some q =>rw[hd]at h;injection h with h;subst h;simp only[L9,Ty.Nj,Ty.Nr];rw[Dn]at he;rw[<- ih cs q hd,Sl.NC hc,Dk he.2,show z=false from by simpa using he.1]
    .exact(none' h).elim
  | mp kt vt =>
   simp only[KJ]at h;split at h
   .rename_i l cs;cases hc:l.cast kt vt with
    | none=>rw[hc]at h;exact(none' h).elim
    | some xs =>
     rw[hc]at h;dsimp only at h;cases hd:KJ ks cs with
     | none=>rw[hd]at h;cases h
     | some q =>rw[hd]at h;injection h with h;subst h;simp only[L9,Ty.Nj,Ty.Nr];rw[<- ih cs q hd,Mp.NC hc]
   .exact(none' h).elim
  | bx t =>
   cases u with
   | false=>simp only[KJ]at h;exact(none' h).elim
   | true =>
    simp only[KJ]at h;split at h
    .rename_i ds cs;cases hk:(t.mk (ds.map A.weak)).1&&ds.all A.Aea with
     | false=>rw[hk]at h;exact(none' h).elim
     | true =>
      rw[hk]at h;rw[Dn]at hk;cases hd:KJ ks cs with
      | none=>rw[hd]at h;cases h
      | some q =>rw[hd]at h;injection h with h;subst h;simp only[L9,Ty.Nj,Ty.Nr];rw[<- ih cs q hd];congr 2;show _=(t.cells (t.mk (ds.map A.weak)).2).map A.strong;rw[Ty.OY _ _ hk.1,AcK _ hk.2]
    .exact(none' h).elim
  | oth=>simp only[KJ]at h;exact(none' h).elim
def Sh.ks:Sh->List (Bool×CK)
 | .cell u k=>[(u,k)]
 | .agg ks=>ks
 | .box ks=>ks
 | .clo _ ks=>ks
 | .map kt vt=>[(true,.mp kt vt)]
def Sh.T (s:Sh):Type:=(tyl (s.ks.map (·.2))).Val
def Sh.dec:(s:Sh)->A->Option s.T
 | .cell u k,x=>KJ [(u,k)] [x]
 | .agg ks,.agg cs=>KJ ks cs
 | .box ks,.box cs=>KJ ks cs
 | .clo f ks,.cbx g cs=>bif Nat.beq f g then KJ ks cs else none
 | .map kt vt,x=>KJ [(true,.mp kt vt)] [x]
 | _,_=>none
def Sh.enc:(s:Sh)->s.T->A
 | .cell u k,v=>(L9 [(u,k)] v).getD 0 .undef
 | .agg ks,v=>.agg (L9 ks v)
 | .box ks,v=>.box (L9 ks v)
 | .clo f ks,v=>.cbx f (L9 ks v)
 | .map kt vt,v=>(L9 [(true,.mp kt vt)] v).getD 0 .undef
theorem Sh.Ahg {s:Sh} {x:A} {v:s.T} (h:s.dec x=some v):x=s.enc v:=by
 cases s with
 | cell u k =>have:=V6 _ _ _ (show KJ [(u,k)] [x]=some v from h);show x=(L9 [(u,k)] v).getD 0 .undef;rw[<- this];rfl
 | agg ks =>
  cases x with
  | agg cs =>have:=V6 _ _ _ (show KJ ks cs=some v from h);show _=A.agg (L9 ks v);rw[<- this]
  | _=>cases h
 | box ks =>
  cases x with
  | box cs =>have:=V6 _ _ _ (show KJ ks cs=some v from h);show _=A.box (L9 ks v);rw[<- this]
  | _=>cases h
 | clo f ks =>
  cases x with
  | cbx g cs =>
   have h:(bif Nat.beq f g then KJ ks cs else none)=some v:=h;cases hb:Nat.beq f g with
   | false=>rw[hb]at h;cases h
   | true =>rw[hb]at h;have:=V6 _ _ _ (show KJ ks cs=some v from h);show _=A.cbx f (L9 ks v);rw[<- this,Dk hb]
  | _=>cases h
 | map kt vt =>have:=V6 _ _ _ (show KJ [(true,.mp kt vt)] [x]=some v from h);show x=(L9 [(true,.mp kt vt)] v).getD 0 .undef;rw[<- this];rfl
def prS (s:Sh) (β :Type):List Sh->Type
 | []=>s.T
 | _::_=>s.T× β
def ShT:List Sh->Type
 | []=>Unit
 | s::r=>prS s (ShT r) r
def hdS (s:Sh):(r:List Sh)->prS s (ShT r) r->s.T
 | [],v=>v
 | _::_,v=>v.1
def tlS (s:Sh):(r:List Sh)->prS s (ShT r) r->ShT r
 | [],_=>()
 | _::_,v=>v.2
def mkS (s:Sh):(r:List Sh)->s.T->ShT r->prS s (ShT r) r
 | [],a,_=>a
 | _::_,a,b=>(a,b)
theorem AhL (s:Sh) (r:List Sh) (a:s.T) (b:ShT r):hdS s r (mkS s r a b)=a:=by cases r<;>rfl
theorem Aik (s:Sh) (r:List Sh) (a:s.T) (b:ShT r):tlS s r (mkS s r a b)=b:=by cases r<;>rfl
def zT (s:Sh) (r:List Sh):Option s.T->Option (ShT r)->Option (prS s (ShT r) r)
 | some a,some b=>some (mkS s r a b)
 | _,_=>none
theorem Adk {s:Sh} {r:List Sh} {x:Option s.T} {y:Option (ShT r)} {v:prS s (ShT r) r} (h:zT s r x y=some v): ∃ a b,x=some a/\y=some b/\v=mkS s r a b:=by
 cases x with
 | none=>cases h
 | some a =>
  cases y with
  | none=>cases h
  | some b=>grind[Sh,ShT,prS,zT,mkS]
def Rq:(ss:List Sh)->List A->Option (ShT ss)
 | []=>fun
  | []=>some ()
  | _=>none
 | s::r=>fun
  | []=>none
  | x::xs=>zT s r (s.dec x) (Rq r xs)
def encs:(ss:List Sh)->ShT ss->List A
 | [],_=>[]
 | s::r,v=>s.enc (hdS s r v)::encs r (tlS s r v)
theorem Aa0: ∀(ss:List Sh) (xs:List A) (v:ShT ss),Rq ss xs=some v->xs=encs ss v:=by
 intro ss
 induction ss with
 | nil =>
  intro xs v h;cases xs with
  | nil=>rfl
  | cons _ _=>cases h
 | cons s ss ih =>
  intro xs v h;cases xs with
  | nil=>cases h
  | cons x xs =>obtain⟨a,b,h1,h2,h3⟩:=Adk (show zT s ss (s.dec x) (Rq ss xs)=some v from h);subst h3;show _=s.enc (hdS s ss (mkS s ss a b))::encs ss (tlS s ss (mkS s ss a b));rw[AhL,Aik,<- Sh.Ahg h1,<- ih xs b h2]
def Sh.zero (s:Sh):s.T:=Ty.zero _
def zeroS:(ss:List Sh)->ShT ss
 | []=>()
 | s::r=>mkS s r s.zero (zeroS r)
def La (Jp Jz:List Sh):List Sh:=Jz++Jp.filterMap (fun | .box ks=>some (.agg ks) | .clo _ ks=>some (.agg ks) | .map kt vt=>some (.map kt vt) | _=>none)
def Sig.of (Jp Jz:List Sh) (f:ShT Jp->Option (ShT (La Jp Jz))):Sig where
 Jp:=Jp
 Jz:=Jz
 ok xs:=match Rq Jp xs with
  | some a=>(f a).isSome
  | none=>false
 val xs:=match Rq Jp xs with
  | some a=>encs (La Jp Jz) ((f a).getD (zeroS _))
  | none=>[]
def Y9 (Jp Jz:List Sh):List (Nat×(ShT Jp->Option (ShT (La Jp Jz))))->Nat->ShT Jp->Option (ShT (La Jp Jz))
 | [],_,_=>none
 | (f,g)::r,n,x=>bif Nat.beq n (f+1)then g x else Y9 Jp Jz r n x
def aH (P:Program) (Jp Jz:List Sh):List (Nat×(ShT Jp->Option (ShT (La Jp Jz))))->Prop
 | []=>True
 | (f,g)::r=>Spec P f (Sig.of Jp Jz g)/\aH P Jp Jz r
theorem AeR (Jp Jz:List Sh): ∀(l:List (Nat×(ShT Jp->Option (ShT (La Jp Jz))))) (x:ShT Jp),Y9 Jp Jz l 0 x=none:=by
 intro l
 induction l with
 | nil=>intro x;rfl
 | cons p r ih=>intro x;obtain⟨f,g⟩:=p;simp only[Y9];exact ih x
theorem AeQ {Jp Jz:List Sh}: ∀ {l:List (Nat×(ShT Jp->Option (ShT (La Jp Jz))))},aH P Jp Jz l-> ∀ f,(∀ x,Y9 Jp Jz l (f+1) x=none)\/Spec P f (Sig.of Jp Jz (Y9 Jp Jz l (f+1))):=by
 intro l
 induction l with
 | nil=>intro _ f;exact .inl fun x=>rfl
 | cons p r ih=>grind[Y9,Ql,Sh,ShT,La,aH,Spec,Sig.of]
theorem tZ {Jp Jz:List Sh} {l:List (Nat×(ShT Jp->Option (ShT (La Jp Jz))))} (h:aH P Jp Jz l):WT P (fun n=>Sig.of Jp Jz (Y9 Jp Jz l n)):=by
 refine⟨fun xs=> ?_,fun f xs hok=> ?_⟩
 .show(match Rq Jp xs with | some a=>(Y9 Jp Jz l 0 a).isSome | none=>false)=false;cases Rq Jp xs with
  | none=>rfl
  | some a=>grind[AeR]
 .rcases AeQ h f with h0 | h0
  .have hok':(match Rq Jp xs with | some a=>(Y9 Jp Jz l (f+1) a).isSome | none=>false)=true:=hok;cases hd:Rq Jp xs with
   | none=>rw[hd]at hok';cases hok'
   | some a=>simp_all[hd,Sh,ShT,La,aH,WT,Sig.of]
  .exact h0
theorem Sig.Vw {Jp Jz:List Sh} {f:ShT Jp->Option (ShT (La Jp Jz))} {xs rs:List A} (h:(Sig.of Jp Jz f).F xs=some rs): ∃ a o,xs=encs Jp a/\f a=some o/\rs=encs _ o:=by
 unfold Sig.F Sig.of at h;dsimp only at h;cases hd:Rq Jp xs with
 | none=>rw[hd]at h;cases h
 | some a =>
  rw[hd]at h;dsimp only at h;cases hf:f a with
  | none=>rw[hf]at h;cases h
  | some o =>rw[hf]at h;injection h with h;exact⟨a,o,Aa0 _ _ _ hd,hf,h.symm⟩
def Us (C:Ctx) (Jp Jz:List Sh) (outs:List (Nat×Option Nat)) (st:St):Option (ShT (La Jp Jz)) :=
 allT ((J8 st.Jm Jz (MX C outs st)).1++(J8 st.Jm (Jp.map Nc) (Nv Jp 0)).1 ++
  [nodup ((LK st.Jm 256000 256 Jz (MX C outs st)++LK st.Jm 0 256 (Jp.map Nc) (Nv Jp 0)).map (·.1)),!(Jz.any wS||(Jp.map Nc).any wS)||((J8 st.Jm Jz (MX C outs st)).2.2.1.isEmpty&&(J8 st.Jm (Jp.map Nc) (Nv Jp 0)).2.2.1.isEmpty)]++outs.flatMap (fun q=>(lU C st q).1))
  (Rq _ ((J8 st.Jm Jz (MX C outs st)).2.1++(KF Jp 0).map (fun i=>unbox ((J8 st.Jm (Jp.map Nc) (Nv Jp 0)).2.1.getD i .undef))))
theorem Ahd {α β :Type} {l:List Bool} {x:Option α} {y: α} (h:allT l x=some y) (z: β):allT l (some z)=some z:=by
 induction l with
 | nil=>rfl
 | cons c cs ih=>grind[allT]
theorem Afb {C:Ctx} {Jp Jz:List Sh} {outs:List (Nat×Option Nat)} {st:St} {o:ShT (La Jp Jz)} (h:Us C Jp Jz outs st=some o):finish C Jp Jz outs st=some (encs _ o):=by unfold Us at h;obtain⟨_,h2⟩:=PL h;all_goals grind[Aa0,finish,Ahd]
theorem Sv {ρ :Type} {fin:St->Option ρ} (hC:Md P C) (N:Nat) {f:FuncId} {fn:Func} {code:Code} {outs:List (Nat×Option Nat)} {Jp Jz:List Sh} {g:ShT Jp->Option (ShT (La Jp Jz))} (hf:P.funcs[f]? =some fn) (hb:fn.body=some code) (hn:(fn.name== "runtime.NumGoroutine")=false)
 (hout:fn.results=(outs.map rv).toArray) (hF: ∀ a o,g a=some o-> ∃ r,runK C N Jp fn.ntmps code fin (encs Jp a)=some r/\ ∀ st,fin st=some r->Us C Jp Jz outs st=some o):Spec P f (Sig.of Jp Jz g) :=
 ⟨enters hf (by rw[hb];rfl) hn,fun _ _ _ xs rs hI hv hl h100 hx hrs=>by obtain⟨a,o,h1,h2,h3⟩:=Sig.Vw hrs;subst h1;subst h3;obtain⟨r,h4,h5⟩:=hF a o h2;exact AfE (sg:=Sig.of Jp Jz g) (o:=r) hC N (fun {_} hC' {_ _ _ _ _ _} id ops _ _ _ _ _ K hS hd hx=>Ad1 hC' id ops K hS hd hx) hf hb hout hI hv hl h100 hx h4 (fun st h=>Afb (h5 st h))⟩
end
section
def Kw {α ρ :Type} (A:(α ->Option ρ)->Option ρ) (f: α ->Option ρ):Option ρ :=A f
def Jo {ρ :Type} (b:Bool) (k:Bool->Option ρ):Option ρ :=k b
def SV {ρ :Type} (b:Bool) (k:Bool->Option ρ):Jo b k=k b:=rfl
def AhN {α β :Type}:Option (α ⊕ β)->Bool
 | some (.inr _)=>false
 | _=>true
def AhI {α β :Type}:Option (α ⊕ β)->Option α
 | some (.inl x)=>some x
 | _=>none
def AhJ {α β :Type}:Option (α ⊕ β)->Option β
 | some (.inr x)=>some x
 | _=>none
def Tu {α β ρ :Type} [Inhabited α] [Inhabited β] (o:Option (α ⊕ β)) (k: α ->Option ρ) (l: β ->Option ρ):Option ρ :=bif AhN o then Jn (AhI o) k else Jn (AhJ o) l
def strings_Join (_:Nat) (l:List Bs) (sep:Bs):Option Bs:=bif decide (l.length<=140737488355328)&&decide ((sep.intercalate l).length<=140737488355328)then some (sep.intercalate l)else none
variable {a0 a1 a2 a3 a4 a5 a6 a7 a8 a9 a10 a11 a12 a13 a14 a15 a16 a17 a18 a19 a20 a21 a22 r:Type}
def U2 (f:a0->a1->r) (x:a0×a1):r:=f x.1 x.2
def U3 (f:a0->a1->a2->r) (x:a0×a1×a2):r:=f x.1 x.2.1 x.2.2
def U4 (f:a0->a1->a2->a3->r) (x:a0×a1×a2×a3):r:=f x.1 x.2.1 x.2.2.1 x.2.2.2
def U5 (f:a0->a1->a2->a3->a4->r) (x:a0×a1×a2×a3×a4):r:=f x.1 x.2.1 x.2.2.1 x.2.2.2.1 x.2.2.2.2
def U6 (f:a0->a1->a2->a3->a4->a5->r) (x:a0×a1×a2×a3×a4×a5):r:=f x.1 x.2.1 x.2.2.1 x.2.2.2.1 x.2.2.2.2.1 x.2.2.2.2.2
def U7 (f:a0->a1->a2->a3->a4->a5->a6->r) (x:a0×a1×a2×a3×a4×a5×a6):r:=f x.1 x.2.1 x.2.2.1 x.2.2.2.1 x.2.2.2.2.1 x.2.2.2.2.2.1 x.2.2.2.2.2.2
def U8 (f:a0->a1->a2->a3->a4->a5->a6->a7->r) (x:a0×a1×a2×a3×a4×a5×a6×a7):r:=f x.1 x.2.1 x.2.2.1 x.2.2.2.1 x.2.2.2.2.1 x.2.2.2.2.2.1 x.2.2.2.2.2.2.1 x.2.2.2.2.2.2.2
def U10 (f:a0->a1->a2->a3->a4->a5->a6->a7->a8->a9->r) (x:a0×a1×a2×a3×a4×a5×a6×a7×a8×a9):r:=f x.1 x.2.1 x.2.2.1 x.2.2.2.1 x.2.2.2.2.1 x.2.2.2.2.2.1 x.2.2.2.2.2.2.1 x.2.2.2.2.2.2.2.1 x.2.2.2.2.2.2.2.2.1 x.2.2.2.2.2.2.2.2.2
def U18 (f:a0->a1->a2->a3->a4->a5->a6->a7->a8->a9->a10->a11->a12->a13->a14->a15->a16->a17->r) (x:a0×a1×a2×a3×a4×a5×a6×a7×a8×a9×a10×a11×a12×a13×a14×a15×a16×a17):r:=f x.1 x.2.1 x.2.2.1 x.2.2.2.1 x.2.2.2.2.1 x.2.2.2.2.2.1 x.2.2.2.2.2.2.1 x.2.2.2.2.2.2.2.1 x.2.2.2.2.2.2.2.2.1 x.2.2.2.2.2.2.2.2.2.1 x.2.2.2.2.2.2.2.2.2.2.1 x.2.2.2.2.2.2.2.2.2.2.2.1 x.2.2.2.2.2.2.2.2.2.2.2.2.1 x.2.2.2.2.2.2.2.2.2.2.2.2.2.1 x.2.2.2.2.2.2.2.2.2.2.2.2.2.2.1 x.2.2.2.2.2.2.2.2.2.2.2.2.2.2.2.1 x.2.2.2.2.2.2.2.2.2.2.2.2.2.2.2.2.1 x.2.2.2.2.2.2.2.2.2.2.2.2.2.2.2.2.2
def U19 (f:a0->a1->a2->a3->a4->a5->a6->a7->a8->a9->a10->a11->a12->a13->a14->a15->a16->a17->a18->r) (x:a0×a1×a2×a3×a4×a5×a6×a7×a8×a9×a10×a11×a12×a13×a14×a15×a16×a17×a18):r:=f x.1 x.2.1 x.2.2.1 x.2.2.2.1 x.2.2.2.2.1 x.2.2.2.2.2.1 x.2.2.2.2.2.2.1 x.2.2.2.2.2.2.2.1 x.2.2.2.2.2.2.2.2.1 x.2.2.2.2.2.2.2.2.2.1 x.2.2.2.2.2.2.2.2.2.2.1 x.2.2.2.2.2.2.2.2.2.2.2.1 x.2.2.2.2.2.2.2.2.2.2.2.2.1 x.2.2.2.2.2.2.2.2.2.2.2.2.2.1 x.2.2.2.2.2.2.2.2.2.2.2.2.2.2.1 x.2.2.2.2.2.2.2.2.2.2.2.2.2.2.2.1 x.2.2.2.2.2.2.2.2.2.2.2.2.2.2.2.2.1 x.2.2.2.2.2.2.2.2.2.2.2.2.2.2.2.2.2.1 x.2.2.2.2.2.2.2.2.2.2.2.2.2.2.2.2.2.2
def U20 (f:a0->a1->a2->a3->a4->a5->a6->a7->a8->a9->a10->a11->a12->a13->a14->a15->a16->a17->a18->a19->r) (x:a0×a1×a2×a3×a4×a5×a6×a7×a8×a9×a10×a11×a12×a13×a14×a15×a16×a17×a18×a19):r:=f x.1 x.2.1 x.2.2.1 x.2.2.2.1 x.2.2.2.2.1 x.2.2.2.2.2.1 x.2.2.2.2.2.2.1 x.2.2.2.2.2.2.2.1 x.2.2.2.2.2.2.2.2.1 x.2.2.2.2.2.2.2.2.2.1 x.2.2.2.2.2.2.2.2.2.2.1 x.2.2.2.2.2.2.2.2.2.2.2.1 x.2.2.2.2.2.2.2.2.2.2.2.2.1 x.2.2.2.2.2.2.2.2.2.2.2.2.2.1 x.2.2.2.2.2.2.2.2.2.2.2.2.2.2.1 x.2.2.2.2.2.2.2.2.2.2.2.2.2.2.2.1 x.2.2.2.2.2.2.2.2.2.2.2.2.2.2.2.2.1 x.2.2.2.2.2.2.2.2.2.2.2.2.2.2.2.2.2.1 x.2.2.2.2.2.2.2.2.2.2.2.2.2.2.2.2.2.2.1 x.2.2.2.2.2.2.2.2.2.2.2.2.2.2.2.2.2.2.2
def U21 (f:a0->a1->a2->a3->a4->a5->a6->a7->a8->a9->a10->a11->a12->a13->a14->a15->a16->a17->a18->a19->a20->r) (x:a0×a1×a2×a3×a4×a5×a6×a7×a8×a9×a10×a11×a12×a13×a14×a15×a16×a17×a18×a19×a20):r:=f x.1 x.2.1 x.2.2.1 x.2.2.2.1 x.2.2.2.2.1 x.2.2.2.2.2.1 x.2.2.2.2.2.2.1 x.2.2.2.2.2.2.2.1 x.2.2.2.2.2.2.2.2.1 x.2.2.2.2.2.2.2.2.2.1 x.2.2.2.2.2.2.2.2.2.2.1 x.2.2.2.2.2.2.2.2.2.2.2.1 x.2.2.2.2.2.2.2.2.2.2.2.2.1 x.2.2.2.2.2.2.2.2.2.2.2.2.2.1 x.2.2.2.2.2.2.2.2.2.2.2.2.2.2.1 x.2.2.2.2.2.2.2.2.2.2.2.2.2.2.2.1 x.2.2.2.2.2.2.2.2.2.2.2.2.2.2.2.2.1 x.2.2.2.2.2.2.2.2.2.2.2.2.2.2.2.2.2.1 x.2.2.2.2.2.2.2.2.2.2.2.2.2.2.2.2.2.2.1 x.2.2.2.2.2.2.2.2.2.2.2.2.2.2.2.2.2.2.2.1 x.2.2.2.2.2.2.2.2.2.2.2.2.2.2.2.2.2.2.2.2
def U22 (f:a0->a1->a2->a3->a4->a5->a6->a7->a8->a9->a10->a11->a12->a13->a14->a15->a16->a17->a18->a19->a20->a21->r) (x:a0×a1×a2×a3×a4×a5×a6×a7×a8×a9×a10×a11×a12×a13×a14×a15×a16×a17×a18×a19×a20×a21):r:=f x.1 x.2.1 x.2.2.1 x.2.2.2.1 x.2.2.2.2.1 x.2.2.2.2.2.1 x.2.2.2.2.2.2.1 x.2.2.2.2.2.2.2.1 x.2.2.2.2.2.2.2.2.1 x.2.2.2.2.2.2.2.2.2.1 x.2.2.2.2.2.2.2.2.2.2.1 x.2.2.2.2.2.2.2.2.2.2.2.1 x.2.2.2.2.2.2.2.2.2.2.2.2.1 x.2.2.2.2.2.2.2.2.2.2.2.2.2.1 x.2.2.2.2.2.2.2.2.2.2.2.2.2.2.1 x.2.2.2.2.2.2.2.2.2.2.2.2.2.2.2.1 x.2.2.2.2.2.2.2.2.2.2.2.2.2.2.2.2.1 x.2.2.2.2.2.2.2.2.2.2.2.2.2.2.2.2.2.1 x.2.2.2.2.2.2.2.2.2.2.2.2.2.2.2.2.2.2.1 x.2.2.2.2.2.2.2.2.2.2.2.2.2.2.2.2.2.2.2.1 x.2.2.2.2.2.2.2.2.2.2.2.2.2.2.2.2.2.2.2.2.1 x.2.2.2.2.2.2.2.2.2.2.2.2.2.2.2.2.2.2.2.2.2
def U23 (f:a0->a1->a2->a3->a4->a5->a6->a7->a8->a9->a10->a11->a12->a13->a14->a15->a16->a17->a18->a19->a20->a21->a22->r) (x:a0×a1×a2×a3×a4×a5×a6×a7×a8×a9×a10×a11×a12×a13×a14×a15×a16×a17×a18×a19×a20×a21×a22):r:=f x.1 x.2.1 x.2.2.1 x.2.2.2.1 x.2.2.2.2.1 x.2.2.2.2.2.1 x.2.2.2.2.2.2.1 x.2.2.2.2.2.2.2.1 x.2.2.2.2.2.2.2.2.1 x.2.2.2.2.2.2.2.2.2.1 x.2.2.2.2.2.2.2.2.2.2.1 x.2.2.2.2.2.2.2.2.2.2.2.1 x.2.2.2.2.2.2.2.2.2.2.2.2.1 x.2.2.2.2.2.2.2.2.2.2.2.2.2.1 x.2.2.2.2.2.2.2.2.2.2.2.2.2.2.1 x.2.2.2.2.2.2.2.2.2.2.2.2.2.2.2.1 x.2.2.2.2.2.2.2.2.2.2.2.2.2.2.2.2.1 x.2.2.2.2.2.2.2.2.2.2.2.2.2.2.2.2.2.1 x.2.2.2.2.2.2.2.2.2.2.2.2.2.2.2.2.2.2.1 x.2.2.2.2.2.2.2.2.2.2.2.2.2.2.2.2.2.2.2.1 x.2.2.2.2.2.2.2.2.2.2.2.2.2.2.2.2.2.2.2.2.1 x.2.2.2.2.2.2.2.2.2.2.2.2.2.2.2.2.2.2.2.2.2.1 x.2.2.2.2.2.2.2.2.2.2.2.2.2.2.2.2.2.2.2.2.2.2
abbrev CW {a b c d e:Type} (x:a×b×c×d×e):e:=x.2.2.2.2
abbrev CX {a b c d e f g h i:Type} (x:a×b×c×d×e×f×g×h×i):i:=x.2.2.2.2.2.2.2.2
abbrev CY {a b c d e f g h i j k l m:Type} (x:a×b×c×d×e×f×g×h×i×j×k×l×m):m:=x.2.2.2.2.2.2.2.2.2.2.2.2
abbrev CZ {a b c d e f g h i j k l m n o p q:Type} (x:a×b×c×d×e×f×g×h×i×j×k×l×m×n×o×p×q):q:=x.2.2.2.2.2.2.2.2.2.2.2.2.2.2.2.2
abbrev Dc {a b c d e f g h i j k l m n o p q r s t u:Type} (x:a×b×c×d×e×f×g×h×i×j×k×l×m×n×o×p×q×r×s×t×u):u:=x.2.2.2.2.2.2.2.2.2.2.2.2.2.2.2.2.2.2.2.2
abbrev Df {a b c d e f g h i j k l m n o p q r s t u v w x y:Type} (x:a×b×c×d×e×f×g×h×i×j×k×l×m×n×o×p×q×r×s×t×u×v×w×x×y):y:=x.2.2.2.2.2.2.2.2.2.2.2.2.2.2.2.2.2.2.2.2.2.2.2.2
abbrev Dh {a b c d e f g h i j k l m n o p q r s t u v w x y z A B C:Type} (x:a×b×c×d×e×f×g×h×i×j×k×l×m×n×o×p×q×r×s×t×u×v×w×x×y×z×A×B×C):C:=x.2.2.2.2.2.2.2.2.2.2.2.2.2.2.2.2.2.2.2.2.2.2.2.2.2.2.2.2
abbrev Aa {ρ:Type} (b:Bool) (k:Option ρ):Option ρ:=chk (b||!b) k
abbrev Ac {ρ:Type} (b:Bool) (k:Option ρ):Option ρ:=Aa b (Aa b k)
abbrev Ad {ρ:Type} (b:Bool) (k:Option ρ):Option ρ:=Aa b (Ac b k)
abbrev Ae {ρ:Type} (b:Bool) (k:Option ρ):Option ρ:=Aa b (Ad b k)
abbrev Af {ρ:Type} (b:Bool) (k:Option ρ):Option ρ:=Aa b (Ae b k)
abbrev Ag {ρ:Type} (b:Bool) (k:Option ρ):Option ρ:=Aa b (Af b k)
abbrev Ah {ρ:Type} (b:Bool) (k:Option ρ):Option ρ:=chk (bif b then b else true) (chk (bif b then true else true) k)
abbrev Ai {ρ:Type} (b:Bool) (k:Option ρ):Option ρ:=chk (bif b then true else !b) (chk (bif b then true else true) k)
abbrev Aj {ρ:Type} (i:Int) (n:Nat) (k:Option ρ):Option ρ:=chk (decide (0<=i)) (chk (decide (i<(n:Int))) k)
abbrev Ak {ρ:Type} (p:Prop) [Decidable p] (k:Option ρ):Option ρ:=chk (decide p) k
abbrev Am {ρ:Type} (n:Nat) (k:Option ρ):Option ρ:=chk (decide (n<=140737488355328)) k
end
end Go.Proofs.YtpaimpmokhihmaaGreatDoor.Vm
