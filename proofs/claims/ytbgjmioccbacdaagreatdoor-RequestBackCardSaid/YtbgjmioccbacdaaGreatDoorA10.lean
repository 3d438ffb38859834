import Derived.Test.YtbgjmioccbacdaaGreatDoorA9
import Derived.OwnWalk
import Derived.Lib.Join
import Derived.Below
set_option linter.all false
namespace Go.Proofs.YtbgjmioccbacdaaGreatDoor.Vm
open Classical
section
variable {P:Program} {C:Ctx} {V0:Nat->Value} {O0 O:Own} {w0 w:World} {m:Nat->Value} {st st':St} {a:Act}
structure Ag6 (C:Ctx) (ops:List Oper) (x:Lm) (st:St):Prop where
 step:KE C ops x.o st=x.δ
 rd:LH x.o st (Kz x.o st)=x.rd
 one:oneOf C x.o.op (Kz x.o st)=x.one
def sH (C:Ctx) (ops:List Oper):List Lm->St->St->Prop
 | [],s,s'=>s=s'
 | x::r,s,s'=>Ag6 C ops x s/\sH C ops r (apply s x.o x.δ) s'
theorem AlA: ∀(u:List Nat) {l:List (Nat×Obj)} {p:Nat×Obj},p∈Kw l u->p∈l:=by
 intro u
 induction u with
 | nil=>intro l p h;exact h
 | cons n r ih=>intro l p h;exact Abf (ih h)
theorem YJ {x:Lm} {n:Nat} (h:st.fresh n=true) (h1:n∉x.says) (h2:n∉x.keys):(apply st x.o x.δ).fresh n=true:=by
 obtain⟨f1,f2,f3,f4⟩:=Nl h;unfold Lm.says at h1;simp only[DU,not_or]at h1
 have g1:has (apply st x.o x.δ).ids n=false:=by
  rw[<- Bool.not_eq_true];intro hh;rcases DU.1 (NC.1 hh)with hm | hm
  .obtain⟨c,hc,hi⟩:=DX.1 hm;have hc:c∈put st.tmps x.o.dst x.δ.val:=hc
   have:c∈st.tmps\/c=x.δ.val:=by
    cases hd:x.o.dst with
    | none=>rw[hd]at hc;exact .inl hc
    | some d=>rw[hd]at hc;exact FV hc
   rcases this with hc | hc
   .exact f1 (DD _ (DX.2 ⟨c,hc,hi⟩))
   .rw[hc]at hi;exact h1.1.1 hi
  .obtain⟨p,hp,hi⟩:=DX.1 hm;rcases ZB x.δ.new (show p∈JC (Kw (JC st.Jp x.δ.upd) x.δ.del) x.δ.new from hp)with hp | hp
   .exact h1.2 (DX.2 ⟨p,hp,hi⟩)
   .rcases ZB x.δ.upd (AlA _ hp)with hp | hp
    .exact h1.1.2 (DX.2 ⟨p,hp,hi⟩)
    .exact f1 (DC _ (DX.2 ⟨p,hp,hi⟩))
 have g2:Jv (apply st x.o x.δ).Jp n=none:=by rw[UB h2];exact f2
 all_goals grind[St.fresh,VC]
theorem Al2 {u:List (Nat×Obj)} {k:Nat} {x:Obj} (h:lastOf u k=some x):(k,x)∈u:=by
 induction u with
 | nil=>cases h
 | cons p r ih=>grind[lastOf]
theorem Aph {ops:List Oper} {x y:Lm} (hx:Ag6 C ops x st) (hy:Ag6 C ops y (apply st x.o x.δ)) (h:calm x y=true) :
 (opX C x.o (Kz x.o st) (Ku (apply st y.o y.δ) (Kz x.o st))=opX C x.o (Kz x.o st) (Ku st (Kz x.o st))/\(∀ f,(opX C x.o (Kz x.o st) f).upd=[])/\LH x.o (apply st y.o y.δ) (Kz x.o st)=LH x.o st (Kz x.o st)) \/
 (Ku (apply st y.o y.δ) (Kz x.o st)=Ku st (Kz x.o st)/\LH x.o (apply st y.o y.δ) (Kz x.o st)=LH x.o st (Kz x.o st)):=by
 unfold calm at h;cases ho:x.one with
 | none=>rw[ho]at h;cases h
 | some p =>
  obtain⟨q,off,n⟩:=p;rw[ho]at h;simp only[Dq,Ef]at h;obtain⟨h1,h2,h3,h4,h5⟩:=h;have hone:=hx.one;rw[ho]at hone;obtain⟨k1,k2⟩:=Aoj hone;obtain⟨off',ev,hO⟩:=sS (C:=C) k1;have hS:=Amo (C:=C) (ops:=ops) (o:=y.o) (s:=apply st x.o x.δ);rw[hy.step]at hS;have hxk:Jv (apply st x.o x.δ).Jp q=Jv st.Jp q:=UB fun hm=>by have:=h1.symm.trans (NC.2 hm);cases this
  have hbox: ∀ e∈y.δ.same,e.1=q-> ∃ cs,Jv st.Jp q=some (.box cs)/\ ∀ p∈y.δ.upd,p.1=q-> ∃ cs',p.2= .box cs'/\cs'.length=cs.length/\cs'.getD e.2 .undef=cs.getD e.2 .undef:=by intro e he heq;obtain⟨cs,g1,g2⟩:=hS e he;rw[heq]at g1 g2;exact⟨cs,by rw[<- hxk];exact Y2 _ _ _ _ (KX g1),g2⟩
  obtain⟨e0,he0,heq0⟩:=Fz.1 h4;obtain⟨cs,g1,g2⟩:=hbox e0 he0 (Dp heq0);have hcell: ∀ k,k<n-> ∀ p∈y.δ.upd,p.1=q-> ∀ cs',p.2= .box cs'->cs'.getD (off+k) .undef=cs.getD (off+k) .undef:=by intro k hk p hp hpq cs' hcs;have:=D7.1 h5 k (ER.2 hk);obtain⟨e,he,heq⟩:=Fz.1 this;rw[Dq]at heq;obtain⟨cs2,g3,g4⟩:=hbox e he (Dp heq.1);rw[g1]at g3;injection g3 with g3;injection g3 with g3;subst g3;obtain⟨cs3,g5,_,g6⟩:=g4 p hp hpq;rw[hcs]at g5;injection g5 with g5;subst g5;rw[Dp heq.2]at g6;exact g6
  have hnd:lastOf y.δ.new q=none:=Aak fun hm=>by have:=h3.symm.trans (NC.2 hm);cases this
  have hdl:q∉y.δ.del:=fun hm=>by rw[NC.2 hm]at h2;cases h2
  have hnew: ∃ cs',Jv (apply st y.o y.δ).Jp q=some (.box cs')/\cs'.length=cs.length/\ ∀ k,k<n->cs'.getD (off+k) .undef=cs.getD (off+k) .undef:=by
   rw[SY,hnd];dsimp only;rw[Dt hdl];cases hl:lastOf y.δ.upd q with
   | none=>exact⟨cs,g1,rfl,fun _ _=>rfl⟩
   | some z =>have hm:=Al2 hl;obtain⟨cs',g3,g4,_⟩:=g2 _ hm rfl;dsimp only at g3;subst g3;exact⟨cs',rfl,g4,fun k hk=>hcell k hk _ hm rfl _ rfl⟩
  obtain⟨cs',g3,g4,g5⟩:=hnew;have hask: ∀ s,LH x.o s (Kz x.o st)=bif jA x.o.op (Kz x.o st)then []else [q]:=by intro s;unfold LH;rw[k1]
  refine .inl ⟨k2 ?_ ?_ g4 g5,fun f=>(hO f f rfl).2,by rw[hask,hask]⟩
  .rw[ev];unfold Lp;rw[VQ,g1]
  .rw[ev];unfold Lp;rw[VQ,g3]
theorem swap {ops:List Oper} {x y:Lm} {r:List Lm} (hi:indep ops x y=true) (hxF: ∀ n∈x.news,st.fresh n=true) (hyF: ∀ n∈y.news,st.fresh n=true) (h1:Uo y.news x.says=true) (h2:Uo y.news x.keys=true)
 (hs:Srt st.Jp) (h:sH C ops (x::y::r) st st'):sH C ops (y::x::r) st st':=by
 unfold indep at hi;simp only[Dq]at hi;obtain⟨⟨⟨⟨⟨⟨i1,i2⟩,i3⟩,i4⟩,i5⟩,i6⟩,i7⟩:=hi;obtain⟨hx,hy,hr⟩:=h;have hkx: ∀ n,n∈x.keys->n∉y.keys:=ML i6;have hnx: ∀ n∈x.news,n∈x.keys:=fun n hn=>DC _ hn
 have cy:=Amq (C:=C) (ops:=ops) (o:=y.o) (s1:=apply st x.o x.δ) (s2:=st)
  (fun z hz=>(AgQ (fun t ht=>ML i2 t (ZO.2 ht)) hz).symm) (Afb (fun t ht=>ML i2 t (ZO.2 ht))).symm
  (fun n hn=>(UB (fun hk=>ML i4 n hk (by rw[<- hy.rd];exact hn))).symm)
  (fun n hn=>by rw[hy.step]at hn;exact YJ (hyF n hn) (ML h1 n hn) (ML h2 n hn))
  (fun n hn=>by rw[hy.step]at hn;exact hyF n hn)
 have cx:=Aft (C:=C) (ops:=ops) (o:=x.o) (s1:=st) (s2:=apply st y.o y.δ)
  (fun z hz=>AgQ (fun t ht=>ML i3 t (ZO.2 ht)) hz) (Afb (fun t ht=>ML i3 t (ZO.2 ht)))
  (by
    rcases Bool.or_eq_true_iff.1 i5 with i5 | i5
    .exact AeI (fun n hn=>UB (fun hk=>ML i5 n hk (by rw[<- hx.rd];exact hn)))
    .exact Aph hx hy i5)
  (fun n hn=>by rw[hx.step]at hn;exact hxF n hn)
  (fun n hn=>by rw[hx.step]at hn;exact YJ (hxF n hn) (ML i7 n hn) (hkx n (hnx n hn)))
 have hst:apply (apply st y.o y.δ) x.o x.δ =apply (apply st x.o x.δ) y.o y.δ :=by
  have e1:(apply (apply st y.o y.δ) x.o x.δ).tmps=(apply (apply st x.o x.δ) y.o y.δ).tmps:=(put_comm st.tmps x.δ.val y.δ.val (fun t ht he=>ML i1 t (ZO.2 ht) (ZO.2 he))).symm
  have e2:(apply (apply st y.o y.δ) x.o x.δ).Jp=(apply (apply st x.o x.δ) y.o y.δ).Jp:=by
   refine Srt.ext ((hs.apply _ _).apply _ _) ((hs.apply _ _).apply _ _) fun k=> ?_;by_cases hk:k∈x.keys
   .have hky:=hkx k hk;rw[UB (o:=y.o) (δ :=y.δ) hky,SY (apply st y.o y.δ),UB (o:=y.o) (δ :=y.δ) hky,<- SY st]
   .rw[UB (o:=x.o) (δ :=x.δ) hk,SY (apply st x.o x.δ),UB (o:=x.o) (δ :=x.δ) hk,<- SY st]
  generalize apply (apply st y.o y.δ) x.o x.δ =s at *
  generalize apply (apply st x.o x.δ) y.o y.δ =s' at *
  cases s;cases s';dsimp only at e1 e2;rw[e1,e2]
 refine⟨⟨by rw[cy.1,hy.step],by rw[cy.2.1,hy.rd],by rw[cy.2.2,hy.one]⟩,⟨by rw[cx.1,hx.step],by rw[cx.2.1,hx.rd],by rw[cx.2.2,hx.one]⟩,?_⟩;rw[hst];exact hr
structure Pre (R:List Lm) (st:St):Prop where
 srt:Srt st.Jp
 fresh: ∀ z∈R,∀ n∈z.news,st.fresh n=true
 pairs:R.Pairwise (fun y z=>Uo z.news y.says=true/\Uo z.news y.keys=true)
theorem Pre.step {y:Lm} {R:List Lm} (h:Pre (y::R) st):Pre R (apply st y.o y.δ):=by obtain⟨h1,h2⟩:=EC.1 h.pairs;exact⟨h.srt.apply _ _,fun z hz n hn=>YJ (h.fresh z (Dy _ hz) n hn) (ML (h1 z hz).1 n hn) (ML (h1 z hz).2 n hn),h2⟩
theorem front {ops:List Oper} {x:Lm} {L2:List Lm}: ∀(L1:List Lm) {st:St},Pre (L1++x::L2) st->(∀ y∈L1,indep ops y x=true)->sH C ops (L1++x::L2) st st'->sH C ops (x::(L1++L2)) st st':=by
 intro L1
 induction L1 with
 | nil=>intro st _ _ h;exact h
 | cons y L1 ih =>intro st hP hi h;have h1:=ih (st:=apply st y.o y.δ) (hP.step) (fun z hz=>hi z (Dy _ hz)) h.2;have hx:x∈L1++x::L2:=DC _ Du;obtain⟨p1,_⟩:=EC.1 hP.pairs;exact swap (hi y Du) (hP.fresh y Du) (hP.fresh x (Dy _ hx)) (p1 x hx).1 (p1 x hx).2 hP.srt ⟨h.1,h1⟩
theorem AmN {md:Region.Mode} {e:Edge} (h:Region.binds .any e=true):Region.binds md e=true:=by unfold Region.binds at h ⊢;all_goals grind
theorem Y5 {ops:List Oper} {i:Nat} {x y:Lm} (h:YU ops i x y=true):Uo y.news x.says=true/\Uo y.news x.keys=true/\(i∈y.anc\/indep ops x y=true):=by unfold YU at h;simp only[Dq,Gs]at h;exact⟨h.1.1,h.1.2,h.2.imp NC.1 id⟩
theorem Ahg {l:Array Bool} {i:Nat} (h:i<l.size) (b c:Bool):l.getD i b=l.getD i c:=by grind
theorem AkR {α :Type} (f: α ->Nat): ∀(l:List α),l≠ []-> ∃ x∈l,∀ y∈l,f x<=f y:=by
 intro l
 induction l with
 | nil=>grind
 | cons a r ih =>
  intro _;by_cases hr:r=[]
  .simp_all
  .grind
theorem Apr {ρ :Type} (hC:MV P C) {ops:Array Oper} {md:Region.Mode} {Q:Exit->Act->World->Prop} {v: ρ} {K:St->Option ρ} (hQ: ∀ O' m' st' a' w',Sim V0 O0 w0 O' m' st' a' w'->K st'=some v->Q .normal a' w')
 {ANC:List (List Nat)} (hanc: ∀(j:Nat) (o:Oper),ops[j]? =some o-> ∀ i∈ANC.getD j [],∃ e∈Xo o,i=e\/i∈ANC.getD e []) {rk:Nat->Nat} (hback: ∀(j:Nat) (o:Oper),ops[j]? =some o-> ∀ e∈o.after,Region.binds md e=true->e.on<ops.size/\rk e.on<rk j) :
 ∀(fuel:Nat) (R:List (Nat×Lm)) (listed:Array Bool) {O:Own} {m:Nat->Value} {st:St} {a:Act} {w:World},R.length=fuel->R.Pairwise (fun p q=>p.1<q.1) ->
  (∀ p∈R,ops[p.1]? =some p.2.o/\J5 p.2.δ.ok/\p.2.anc=ANC.getD p.1 [])->listed.size=ops.size->(∀ i,i<ops.size->(listed.getD i true=false↔i∈R.map (·.1))) ->
  (∀ e,listed.getD e false=true-> ∀ i∈ANC.getD e [],listed.getD i false=true)->R.Pairwise (fun p q=>YU ops.toList p.1 p.2 q.2=true)->(∀ p∈R,∀ n∈p.2.news,st.fresh n=true)->Srt st.Jp ->
  sH C ops.toList (R.map (·.2)) st st'->K st'=some v->Sim V0 O0 w0 O m st a w->wpAny P md ops Q fuel listed a w:=by
 intro fuel
 induction fuel with
 | zero =>
  intro R listed O m st a w hlen _ _ hsz hl _ _ _ _ hruns hK hS;have hR:R=[]:=Ht.1 hlen;subst hR;refine⟨?_,?_⟩
  .rw[List.eq_nil_iff_forall_not_mem];intro i hi;obtain⟨h1,o,h2,_⟩:=mem_ready.1 hi;have hlt:=(DT.1 h2).1;have:=(hl i hlt).1 h1;simp at this
  .have:st=st':=hruns;subst this;exact hQ _ _ _ _ _ hS hK
 | succ fuel ih =>
  intro R listed O m st a w hlen hord hops hsz hl hcl hpr hfr hsrt hruns hK hS;have hin: ∀ p∈R,p.1<ops.size:=fun p hp=>(DT.1 (hops p hp).1).1;refine⟨fun hnil=> ?_,fun i hi=> ?_⟩
  .exfalso;obtain⟨p,hpR,hmin⟩:=AkR (fun q:Nat×Lm=>rk q.1) R (by intro h;rw[h]at hlen;simp at hlen);have hp:=hin p hpR
   have:p.1∈Region.ready md ops listed:=by
    refine mem_ready.2 ⟨(hl p.1 hp).2 (DF.2 ⟨p,hpR,rfl⟩),p.2.o,(hops p hpR).1,fun e he hb=> ?_⟩;obtain⟨hsize,hlt⟩:=hback _ _ (hops p hpR).1 e he hb;have hno:e.on∉R.map (·.1):=by intro hm;obtain⟨q,hq,hqe⟩:=DF.1 hm;have:=hmin q hq;rw[hqe]at this;omega
    have:listed.getD e.on true≠false:=fun h=>hno ((hl e.on hsize).1 h);rw[Ahg (by rw[hsz];exact hsize) false true];simpa using this
   rw[hnil]at this;cases this
  .obtain⟨hi1,oi,hi2,hi3⟩:=mem_ready.1 hi;have hilt:=(DT.1 hi2).1;obtain⟨p,hp,rfl⟩:=DF.1 ((hl i hilt).1 hi1);obtain⟨L1,L2,rfl⟩:=List.append_of_mem hp;obtain⟨i,x⟩:=p;dsimp only at hi hi1 hi2 hi3 hilt ⊢;obtain⟨hx1,hx2,hx3⟩:=hops (i,x) hp;dsimp only at hx1 hx2 hx3
   have hancl: ∀ j∈ANC.getD i [],listed.getD j false=true:=by
    intro j hj;obtain⟨e,he,hje⟩:=hanc i _ hx1 j hj;have hel:listed.getD e false=true:=by unfold Xo at he;obtain⟨ed,hed,hb⟩:=Gw.1 he;all_goals grind[AmN]
    rcases hje with rfl | hje
    .exact hel
    .exact hcl e hel j hje
   have hord':=GI.1 hord;have hpr':=GI.1 hpr;have hind: ∀ q∈L1,YU ops.toList q.1 q.2 x=true/\indep ops.toList q.2 x=true:=by intro q hq;have hpq:=hpr'.2.2 q hq (i,x) Du;dsimp only at hpq;refine⟨hpq,(Y5 hpq).2.2.resolve_left fun hm=> ?_⟩;rw[hx3]at hm;have h1:=hancl _ hm;have hqR:q∈L1++(i,x)::L2:=DD _ hq;have hqlt:=hin q hqR;have h2:=(hl q.1 hqlt).2 (DF.2 ⟨q,hqR,rfl⟩);rw[Ahg (by rw[hsz];exact hqlt) true false,h1]at h2;cases h2
   have hPre:Pre ((L1++(i,x)::L2).map (·.2)) st:=by
    refine⟨hsrt,fun z hz n hn=> ?_,?_⟩
    .obtain⟨q,hq,rfl⟩:=DF.1 hz;exact hfr q hq n hn
    .rw[IE];exact hpr.imp fun h=>⟨(Y5 h).1,(Y5 h).2.1⟩
   have hfront:sH C ops.toList (x::(L1.map (·.2)++L2.map (·.2))) st st':=by refine front (L1.map (·.2)) (by simpa using hPre) (fun y hy=> ?_) (by simpa using hruns);obtain⟨q,hq,rfl⟩:=DF.1 hy;exact(hind q hq).2
   obtain⟨hstep,hrest⟩:=hfront;have hsub:List.Sublist (L1++L2) (L1++(i,x)::L2):=List.Sublist.append_left (List.sublist_cons_self _ _) _
   have hnext: ∀ O' m' a' w',Sim V0 O0 w0 O' m' (apply st x.o (KE C ops.toList x.o st)) a' w'->wpAny P md ops Q fuel (listed.setIfInBounds i true) a' w':=by
    intro O' m' a' w' hS';rw[hstep.step]at hS';refine ih (L1++L2) _ (by simp at hlen ⊢;omega) (hord.sublist hsub) (fun q hq=>hops q (hsub.subset hq)) (by simpa using hsz) (fun j hj=> ?_) (fun e he j hj=> ?_) (hpr.sublist hsub) (fun q hq n hn=> ?_) (hsrt.apply _ _) (by simpa using hrest) hK hS'
    .by_cases hji:i=j
     .subst hji;have h1:(listed.setIfInBounds i true).getD i true=true:=by simp [Dn,hsz,hj]
      rw[h1];refine⟨fun h=>(by cases h),fun h=> ?_⟩;obtain⟨q,hq,hqi⟩:=DF.1 h;rcases DU.1 hq with hq | hq
      .have:=hord'.2.2 q hq (i,x) Du;dsimp only at this;omega
      .have:=(EC.1 hord'.2.1).1 q hq;dsimp only at this;omega
     .rw[getD_set_ne true hji,hl j hj];simp only[EY,Eb,DU,Dz];constructor
      .rintro (h | h | h)
       .exact .inl h
       .exact absurd h.symm hji
       .exact .inr h
      .rintro (h | h)
       .exact .inl h
       .exact .inr (.inr h)
    .by_cases hei:i=e
     .subst hei;exact getD_set_true (hancl j hj)
     .rw[getD_set_ne false hei]at he;exact getD_set_true (hcl e he j hj)
    .have hq':=hsub.subset hq;have hf:=hfr q hq' n hn;rcases DU.1 hq with hq | hq
     .have hi':=(hind q hq).2;unfold indep at hi';simp only[Dq]at hi';exact YJ hf (ML hi'.2 n hn) (ML hi'.1.2 n (DC _ hn))
     .have hpq:=Y5 ((EC.1 hpr'.2.1).1 q hq);exact YJ hf (ML hpq.1 n hn) (ML hpq.2.1 n hn)
   have hw:=Adp hC hS (ops:=ops) (o:=x.o) (by rw[hstep.step];exact hx2) (wpAny P md ops Q fuel (listed.setIfInBounds i true)) Q hnext;unfold wpOp;rw[hx1];dsimp only;split
   .rename_i hwt;rw[Dw hwt]at hw;exact .inl hw
   .rename_i hwt;rw[Dt hwt]at hw;exact hw
end
section
variable {P:Program} {C:Ctx} {V0:Nat->Value} {O0 O:Own} {w0 w:World} {m:Nat->Value} {st st':St} {a:Act}
def enum:Nat->List Lm->List (Nat×Lm)
 | _,[]=>[]
 | i,x::r=>(i,x)::enum (i+1) r
theorem AiE: ∀(l:List Lm) (i:Nat),(enum i l).length=l.length:=by
 intro l
 induction l with
 | nil=>intro i;rfl
 | cons x r ih=>intro i;simp [enum,ih]
theorem Apx: ∀(l:List Lm) (i:Nat),(enum i l).map (·.2)=l:=by
 intro l
 induction l with
 | nil=>intro i;rfl
 | cons x r ih=>intro i;simp [enum,ih]
theorem nI: ∀(l:List Lm) (i:Nat) (p:Nat×Lm),p∈enum i l-> ∃ k,p.1=i+k/\l[k]? =some p.2:=by
 intro l
 induction l with
 | nil=>intro i p h;cases h
 | cons x r ih =>
  intro i p h;rcases Dz.1 h with rfl | h
  .exact⟨0,rfl,rfl⟩
  .obtain⟨k,h1,h2⟩:=ih (i+1) p h;exact⟨k+1,by omega,by simpa using h2⟩
theorem Apv: ∀(l:List Lm) (i j:Nat),j∈(enum i l).map (·.1)↔i<=j/\j<i+l.length:=by
 intro l
 induction l with
 | nil=>intro i j;simp [enum]
 | cons x r ih=>grind[enum]
theorem Apw: ∀(l:List Lm) (i:Nat),(enum i l).Pairwise (fun p q=>p.1<q.1):=by
 intro l
 induction l with
 | nil=>simp_all[enum]
 | cons x r ih =>intro i;refine List.Pairwise.cons (fun q hq=> ?_) (ih (i+1));all_goals grind[nI]
theorem AkP {ops:List Oper}: ∀(l:List Lm) (i:Nat),ZR ops i l=true->(enum i l).Pairwise (fun p q=>YU ops p.1 p.2 q.2=true):=by
 intro l
 induction l with
 | nil=>intro i _;exact List.Pairwise.nil
 | cons x r ih =>intro i h;simp only[ZR,Dq]at h;refine List.Pairwise.cons (fun q hq=> ?_) (ih (i+1) h.2);all_goals grind[nI]
theorem Anp {o:Oper} {e:Nat} (h:e∈Xo o): ∃ ed∈o.after,ed.on=e/\Region.binds .any ed=true:=by grind[Xo]
theorem Afy: ∀(l:List Oper) (i:Nat),backward i l=true-> ∀(k:Nat) (o:Oper),l[k]? =some o-> ∀ e∈o.after,e.on<i+k:=by
 intro l
 induction l with
 | nil=>intro i _ k o h;simp at h
 | cons x r ih =>
  intro i h k o hk e he;simp only[backward,Dq]at h;cases k with
  | zero =>simp at hk;subst hk;have:=D7.1 h.1 e (by simpa using he);rw[Ep]at this;exact this
  | succ k=>grind[backward]
theorem Ad9: ∀(l:List Oper) (i:Nat),RQ i l=true-> ∀(k:Nat) (o:Oper),l[k]? =some o-> ∀ e∈o.after,Region.binds .any e=true->e.on<i+k:=by
 intro l
 induction l with
 | nil=>intro i _ k o h;simp at h
 | cons x r ih =>
  intro i h k o hk e he hb;simp only[RQ,Dq]at h;cases k with
  | zero =>simp at hk;subst hk;have:=D7.1 h.1 e (by simpa using he);all_goals simp_all[RQ]
  | succ k=>grind[RQ]
theorem AfM {md:Region.Mode} {n:Nat} {rk:List Nat}: ∀(l:List Oper) (i:Nat),Yu md n rk i l=true-> ∀(k:Nat) (o:Oper),l[k]? =some o-> ∀ e∈o.after,Region.binds md e=true->e.on<n/\rk.getD e.on 0<rk.getD (i+k) 0:=by
 intro l
 induction l with
 | nil=>intro i _ k o h;simp at h
 | cons x r ih =>
  intro i h k o hk e he hb;simp only[Yu,Dq]at h;cases k with
  | zero =>simp at hk;subst hk;have:=D7.1 h.1 e (by simpa using he);all_goals simp_all[Yu]
  | succ k=>grind[Yu]
theorem AhL {ops:Array Oper} (h:ordered ops.toList=true) (md:Region.Mode): ∃ rk:Nat->Nat,∀(j:Nat) (o:Oper),ops[j]? =some o-> ∀ e∈o.after,Region.binds md e=true->e.on<ops.size/\rk e.on<rk j:=by
 unfold ordered at h;rw[Dq,Gs]at h;rcases h.2 with h | h
 .refine⟨id,fun j o hj e he _=> ?_⟩;have h1:=Afy _ _ h j o (by simpa using hj) e he;all_goals grind[ordered]
 .simp only[Dq]at h;have key:Adc md ops.toList=true:=by cases md<;>first | exact h.1.1 | exact h.1.2 | exact h.2
  refine⟨fun i=>(ranks md ops.toList ops.toList.length (ops.toList.map fun _=>0)).getD i 0,fun j o hj e he hb=> ?_⟩;have:=AfM _ _ key j o (by simpa using hj) e he hb;all_goals grind[ordered]
theorem AdZ {α β :Type} {f g: α ->List β}: ∀(l:List α),(∀ x∈l,f x=g x)->l.flatMap f=l.flatMap g:=by
 intro l
 induction l with
 | nil=>intro _;rfl
 | cons x r ih=>grind
theorem AkZ {ops:List Oper}: ∀(l:List Oper) (acc:List (List Nat)) (st:St),RQ acc.length l=true->(Uw C ops l acc st).length=l.length /\
 ∀(k:Nat) (o:Oper),l[k]? =some o-> ∃ x,(Uw C ops l acc st)[k]? =some x/\x.o=o/\x.anc=(Xo o).flatMap (fun e=>e::(acc++(Uw C ops l acc st).map Lm.anc).getD e []):=by
 intro l
 induction l with
 | nil=>intro acc st _;exact⟨rfl,fun k o h=>by simp at h⟩
 | cons o' r ih =>
  intro acc st h;have hb:=Ad9 _ _ h;simp only[RQ,Dq]at h;let an:=(Xo o').flatMap (fun e=>e::acc.getD e []);let s1:=apply st o' (KE C ops o' st);have hf:Uw C ops (o'::r) acc st=⟨o',KE C ops o' st,LH o' st (Kz o' st),oneOf C o'.op (Kz o' st),an⟩::Uw C ops r (acc++[an]) s1:=rfl;obtain⟨g1,g2⟩:=ih (acc++[an]) s1 (by simpa using h.2);rw[hf];refine⟨by simp [g1],fun k o hk=> ?_⟩;cases k with
  | zero =>simp at hk;subst hk;refine⟨_,rfl,rfl,?_⟩;refine AdZ _ fun e he=> ?_;obtain⟨ed,h1,h2,h3⟩:=Anp he;have hlt:=hb 0 o' rfl ed h1 h3;rw[Dj,Dj,Em (by omega)]
  | succ k =>obtain⟨x,h1,h2,h3⟩:=g2 k o (by simpa using hk);refine⟨x,by simpa using h1,h2,?_⟩;rw[h3];simp [Eg]
theorem AkY {ρ :Type} {ops:List Oper} {K:St->Option ρ} {v: ρ}: ∀(l:List Oper) (acc:List (List Nat)) (st:St),VE C ops l st K=some v-> ∃ st',sH C ops (Uw C ops l acc st) st st'/\K st'=some v/\ ∀ x∈Uw C ops l acc st,J5 x.δ.ok:=by
 intro l
 induction l with
 | nil=>intro acc st h;exact⟨st,rfl,h,fun x hx=>by cases hx⟩
 | cons o r ih =>
  intro acc st h;obtain⟨h1,h2⟩:=QP (show allT (KE C ops o st).ok (VE C ops r (apply st o (KE C ops o st)) K)=some v from h);obtain⟨st',h3,h4,h5⟩:=ih (acc++[(Xo o).flatMap (fun e=>e::acc.getD e [])]) _ h2;refine⟨st',⟨⟨rfl,rfl,rfl⟩,h3⟩,h4,fun x hx=> ?_⟩;rcases Dz.1 hx with rfl | hx
  .exact h1
  .exact h5 x hx
theorem Sim.drew (hS:Sim V0 O0 w0 O m st a w):Sim V0 O0 w0 O m st a {w with drawn:=w.drawn+1} :=
 hS.next (st':=st) (d:=none) (v:=undef) (x:=.undef) (T:=fun _=>False) (Nw:=fun _=>False) ⟨rfl,rfl,rfl,DW _,fun _ _=>.inl rfl⟩ ⟨fun _ _ _ h=>h,fun _ _ _ _ h _=>h⟩ (fun _ _ _ h=>h) (fun _ y ho=>.inr ⟨y,ho,rfl,rfl⟩) (fun _ h=>h.elim) (fun _ h=>h.elim)
  (fun _ _ ho=>.inl ⟨id,ho,rfl⟩) rfl (fun h=>absurd rfl h)
theorem Acb {ρ :Type} (hC:MV P C) {fin:St->Option ρ} {v: ρ} (id:Nat) (ops:Array Oper) {O:Own} {m:Nat->Value} {st:St} {a:Act} {w:World} (K:Ex->St->Option ρ) (hS:Sim V0 O0 w0 O m st a w) (hd:Tu C ops.toList st=true)
 (hx:VE C ops.toList ops.toList st (fun st'=>K .normal st')=some v):(Code.region id ops true).wp P (Post V0 O0 w0 fin K v) a w:=by
 unfold Tu at hd;dsimp only at hd;simp only[Dq]at hd;obtain⟨⟨⟨d1,d2⟩,d3⟩,d4⟩:=hd;have d1A:RQ 0 ops.toList=true:=by all_goals grind[ordered]
 obtain⟨f1,f2⟩:=AkZ (C:=C) (ops:=ops.toList) ops.toList [] st d1A;obtain⟨st',r1,r2,r3⟩:=AkY ops.toList [] st hx;generalize hfs:Uw C ops.toList ops.toList [] st=fs at *
 have hlen:fs.length=ops.size:=by rw[f1];simp
 have hsize:(enum 0 fs).length=ops.size:=by rw[AiE,hlen]
 have hany: ∀ md,wpAny P md ops (Post V0 O0 w0 fin K v) ops.size (Array.replicate ops.size false) a {w with drawn:=w.drawn+1}:=by
  intro md;obtain⟨rk,hrk⟩:=AhL d1 md
  refine Apr (V0:=V0) (O0:=O0) (w0:=w0) hC (K:=fun st'=>K .normal st') (v:=v) (st':=st') (fun O' m' s a' w' h1 h2=>⟨O',m',s,h1,h2⟩) (ANC:=fs.map Lm.anc) (rk:=rk) (fun j o hj i hi=> ?_) hrk
   ops.size (enum 0 fs) _ hsize (Apw _ _) (fun p hp=> ?_) (by simp) (fun i hi=> ?_) (fun e he i _=> ?_) (AkP _ _ d2) (fun p hp n hn=> ?_) (Amn d4) (by rw[Apx];exact r1) r2 hS.drew
  .obtain⟨x,h1,h2,h3⟩:=f2 j o (by simpa using hj);have e1:(fs.map Lm.anc).getD j []=x.anc:=by rw[Dj,Ed,h1];rfl
   rw[e1,h3]at hi;obtain⟨e,he,hie⟩:=DX.1 hi;rcases Dz.1 hie with h | h
   .exact⟨e,he,.inl h⟩
   .exact⟨e,he,.inr (by simpa using h)⟩
  .obtain⟨k,h1,h2⟩:=nI _ _ _ hp;rw[DR]at h1
   have hk:k<ops.toList.length:=by
    rw[<- f1];rcases Ec k fs.length with h | h
    .exact h
    .rw[DZ h]at h2;cases h2
   obtain⟨x,h3,h4,h5⟩:=f2 k ops.toList[k] (by simp at hk ⊢);rw[h2]at h3;injection h3 with h3;refine⟨?_,r3 _ (FB h2),?_⟩
   .rw[h1,h3,h4];simp at hk ⊢
   .rw[h1,Dj,Ed,h2];rfl
  .rw[Apv];simp [Dn,hi,hlen]
  .have:(Array.replicate ops.size false).getD e false=false:=by
    rw[Dn,Array.getElem?_replicate];split<;>rfl
   rw[this]at he;cases he
  .grind[nI]
 refine wp_region_draw fun t=> ?_;unfold Region.schedule;split
 .exact wpAny_sound _ _ _ _ _ (hany _)
 .exact wpAny_sound _ _ _ _ _ (hany _)
end
section
variable {P:Program} {C:Ctx}
def Agq:List (Nat×Sig)->Nat->Option Sig
 | [],_=>none
 | (k,x)::r,t=>bif Nat.beq k t then some x else Agq r t
theorem An4: ∀ {l:List (Nat×Sig)} {t:Nat} {x:Sig},Agq l t=some x->(t,x)∈l:=by
 intro l
 induction l with
 | nil=>intro t x h;cases h
 | cons p r ih=>grind[Agq,VC]
def AqU:List (Nat×Nrm)->Nat->Option Nrm
 | [],_=>none
 | (k,x)::r,t=>bif Nat.beq k t then some x else AqU r t
def Agc:List (Nat×Alt)->Nat->Option Alt
 | [],_=>none
 | (k,x)::r,t=>bif Nat.beq k t then some x else Agc r t
def Agl:List (Nat×(Nat->Sig))->Nat->Option (Nat->Sig)
 | [],_=>none
 | (k,x)::r,t=>bif Nat.beq k t then some x else Agl r t
def Arc:List (Nat×Nat×Nat×List Nat)->Nat->Option (Nat×Nat×List Nat)
 | [],_=>none
 | (k,x)::r,t=>bif Nat.beq k t then some x else Arc r t
def AqQ:List (Nat×List (Nat×Nat))->Nat->List (Nat×Nat)
 | [],_=>[]
 | (k,x)::r,t=>bif Nat.beq k t then x else AqQ r t
def Agn:List ((Nat×List (Nat×Bool))×Sig)->Nat->List (Nat×Bool)->Option Sig
 | [],_,_=>none
 | (k,x)::r,e,fs=>bif Nat.beq k.1 e&&(k.2==fs)then some x else Agn r e fs
def AbA (P:Program):List ((Nat×List (Nat×Bool))×Sig)->Prop
 | []=>True
 | (k,x)::r=>iW P k.1 k.2 x/\AbA P r
theorem AbA.look: ∀ {l:List ((Nat×List (Nat×Bool))×Sig)},AbA P l-> ∀ e fs sg,Agn l e fs=some sg->iW P e fs sg:=by
 intro l
 induction l with
 | nil=>intro _ e fs sg h;cases h
 | cons q r ih =>
  intro h e fs sg hs;obtain⟨k,x⟩:=q;simp only[Agn]at hs;cases hb:(Nat.beq k.1 e&&(k.2==fs))with
  | false=>rw[hb]at hs;exact ih h.2 e fs sg hs
  | true =>rw[hb]at hs;injection hs with hs;rw[Dq]at hb;rw[<- Dp hb.1,<- FY hb.2,<- hs];exact h.1
def Agy:List (Nat×Nat×Sig)->Nat->Option (Nat×Sig)
 | [],_=>none
 | (k,x)::r,f=>bif Nat.beq k f then some x else Agy r f
def Zs (P:Program):List (Nat×Nat×Sig)->Prop
 | []=>True
 | (k,x)::r=>Spec P k x.2/\Zs P r
theorem Zs.look: ∀ {l:List (Nat×Nat×Sig)},Zs P l-> ∀ f i sg,Agy l f=some (i,sg)->Spec P f sg:=by
 intro l
 induction l with
 | nil=>intro _ f i sg h;cases h
 | cons q r ih =>
  intro h f i sg hs;obtain⟨k,x⟩:=q;simp only[Agy]at hs;cases hb:Nat.beq k f with
  | false=>rw[hb]at hs;exact ih h.2 f i sg hs
  | true =>rw[hb]at hs;injection hs with hs;have h1:=h.1;rw[hs]at h1;rw[<- Dp hb];exact h1
def ctx (P:Program) (gs:List (Nat×Sig)) (ns:List (Nat×Nrm)) (aa:List (Nat×Alt):=[]) (dd:List (Nat×(Nat->Sig)):=[]) (cc:List Nat:=[]) (bb:List Nat:=[]) (ss:List (Nat×Nat×Nat×List Nat):=[]) (kk:List (Nat×List (Nat×Nat)):=[]) (ee:List ((Nat×List (Nat×Bool))×Sig):=[]) (zz:List (Nat×Nat×Sig):=[]):Ctx:=⟨Am1 P,Agq gs,AqU ns,Agc aa,Agl dd,cc,bb,fun _=>none,Arc ss,AqQ kk,Agn ee,Agy zz⟩
def VP (P:Program) (F:Nat->Sig):Prop:=(∀ xs,(F 0).ok xs=false)/\ ∀ f xs,(F (f+1)).ok xs=true->Spec P f (F (f+1))
def Ad0 (P:Program):List (Nat×(Nat->Sig))->Prop
 | []=>True
 | (_,F)::r=>VP P F/\Ad0 P r
theorem Ad0.look: ∀ {l:List (Nat×(Nat->Sig))},Ad0 P l-> ∀ t F,Agl l t=some F->VP P F:=by
 intro l
 induction l with
 | nil=>intro _ t F h;cases h
 | cons p r ih=>grind[Agl,VC,Ad0,VP]
def Agz (P:Program):List (Nat×Alt)->Prop
 | []=>True
 | (f,q)::r=>(Spec P f q.1/\Spec P f q.2.1)/\Agz P r
theorem Agz.look: ∀ {l:List (Nat×Alt)},Agz P l-> ∀ f q,Agc l f=some q->Spec P f q.1/\Spec P f q.2.1:=by
 intro l
 induction l with
 | nil=>intro _ f q h;cases h
 | cons p r ih =>
  intro h f q hq;obtain⟨k,x⟩:=p;simp only[Agc,VC]at hq;by_cases hk:k=f
  .simp only[hk,Hy,cond_true,Fh]at hq;rw[<- hq,<- hk];exact h.1
  .rw[show decide (k=f)=false by simpa using hk]at hq;exact ih h.2 f q hq
def yA (P:Program):List (Nat×Sig)->Prop
 | []=>True
 | (f,sg)::r=>Spec P f sg/\yA P r
theorem yA.mem: ∀ {l:List (Nat×Sig)},yA P l-> ∀ p∈l,Spec P p.1 p.2:=by
 intro l
 induction l with
 | nil=>intro _ p hp;cases hp
 | cons q r ih=>grind[yA,Spec]
theorem MG {gs:List (Nat×Sig)} {ns:List (Nat×Nrm)} {aa:List (Nat×Alt)} {dd:List (Nat×(Nat->Sig))} {cc bb:List Nat} {ss:List (Nat×Nat×Nat×List Nat)} {kk:List (Nat×List (Nat×Nat))} {ee:List ((Nat×List (Nat×Bool))×Sig)} {zz:List (Nat×Nat×Sig)} (hG:yA P gs) (hA:Agz P aa:=by trivial) (hD:Ad0 P dd:=by trivial) (hE:AbA P ee:=by trivial) (hZ:Zs P zz:=by trivial):MV P (ctx P gs ns aa dd cc bb ss kk ee zz) :=
 ⟨fun _ _ h=>h,fun _ _ h=>hG.mem _ (An4 h),hA.look,hD.look,hE.look,hZ.look⟩
theorem enters {f:FuncId} {fn:Func} (hf:P.funcs[f]? =some fn) (hb:fn.body.isNone=false) (hn:(fn.name== "runtime.NumGoroutine")=false) (args:Array Value) (w:World):(callFunc f args).run P w= .ok (.enter f args) w:=by
 have h1:fn.name≠ "runtime.NumGoroutine" :=by simpa using hn
 have h2:fn.body≠none:=by intro e;rw[e]at hb;cases hb
 simp [callFunc,hf,h1,h2]
def LD:(ks:List (Bool×CK))->List A->Option (tyl (ks.map (·.2))).Val
 | []=>fun
  | []=>some ()
  | _=>none
 | (_,.bool)::r=>fun
  | .bool b::cs=>(LD r cs).map (fun q=>Ty.mk2 _ b q)
  | _=>none
 | (_,.int k)::r=>fun
  | .int j n::cs=>bif A.kEq j k then(LD r cs).map (fun q=>Ty.mk2 _ n q)else none
  | _=>none
 | (_,.str)::r=>fun
  | .str s::cs=>(LD r cs).map (fun q=>Ty.mk2 _ s q)
  | _=>none
 | (false,.sl _ t)::r=>fun
  | .sl l::cs=>match l.cast t with
   | some xs=>(LD r cs).map (fun q=>Ty.mk2 _ xs q)
   | none=>none
  | _=>none
 | (true,.sl e t)::r=>fun
  | .usl z e' l::cs=>bif z&&Nat.beq e' e then match l.cast t with
   | some xs=>(LD r cs).map (fun q=>Ty.mk2 _ xs q)
   | none=>none
   else none
  | _=>none
 | (true,.sln e t)::r=>fun
  | .usl z e' l::cs=>bif !z&&Nat.beq e' e then match l.cast t with
   | some xs=>(LD r cs).map (fun q=>Ty.mk2 _ xs q)
   | none=>none
   else none
  | _=>none
 | (false,.sln _ t)::r=>fun
  | .sln l::cs=>match l.cast t with
   | some xs=>(LD r cs).map (fun q=>Ty.mk2 _ xs q)
   | none=>none
  | _=>none
 | (_,.ptr)::r=>fun
  | .LP::cs=>(LD r cs).map (fun q=>q)
  | _=>none
 | (_,.fn)::r=>fun
  | .fn n::cs=>(LD r cs).map (fun q=>Ty.mk2 _ n q)
  | _=>none
 | (_,.mp kt vt)::r=>fun
  | .ump l::cs=>match l.cast kt vt with
   | some xs=>(LD r cs).map (fun q=>Ty.mk2 _ xs q)
   | none=>none
  | _=>none
 | (true,.bx t)::r=>fun
  | .box ds::cs=>bif (t.mk (ds.map A.weak)).1&&ds.all A.AlG then(LD r cs).map (fun q=>Ty.mk2 _ [(t.mk (ds.map A.weak)).2] q)else none
  | _=>none
 | (false,.bx _)::_=>fun _=>none
 | (_,.oth)::_=>fun _=>none
def NG:(ks:List (Bool×CK))->(tyl (ks.map (·.2))).Val->List A
 | [],_=>[]
 | (_,.bool)::r,v=>.bool (Ty.hd _ v)::NG r (Ty.tl _ v)
 | (_,.int k)::r,v=>.int k (Ty.hd _ v)::NG r (Ty.tl _ v)
 | (_,.str)::r,v=>.str (Ty.hd _ v)::NG r (Ty.tl _ v)
 | (false,.sl _ t)::r,v=>.sl ⟨t,Ty.hd _ v⟩::NG r (Ty.tl _ v)
 | (true,.sl e t)::r,v=>.usl true e ⟨t,Ty.hd _ v⟩::NG r (Ty.tl _ v)
 | (true,.sln e t)::r,v=>.usl false e ⟨t,Ty.hd _ v⟩::NG r (Ty.tl _ v)
 | (false,.sln _ t)::r,v=>.sln ⟨t,Ty.hd _ v⟩::NG r (Ty.tl _ v)
 | (_,.ptr)::r,v=>.LP::NG r v
 | (_,.fn)::r,v=>.fn (Ty.hd _ v)::NG r (Ty.tl _ v)
 | (_,.mp kt vt)::r,v=>.ump ⟨kt,vt,Ty.hd _ v⟩::NG r (Ty.tl _ v)
 | (true,.bx t)::r,v=>.box ((t.cells ((Ty.hd _ v).headD t.zero)).map A.strong)::NG r (Ty.tl _ v)
 | (false,.bx _)::_,_=>[]
 | (_,.oth)::_,_=>[]
theorem Ajy: ∀(ds:List A),ds.all A.AlG=true->(ds.map A.weak).map A.strong=ds:=by
 intro ds
 induction ds with
 | nil=>intro _;rfl
 | cons d ds ih =>intro h;rw[List.all_cons,Dq]at h;rw[Eb,Eb,ih h.2];congr 1;cases d<;>first | rfl | cases h.1
theorem aK: ∀(ks:List (Bool×CK)) (cs:List A) (v:(tyl (ks.map (·.2))).Val),LD ks cs=some v->cs=NG ks v:=by
 intro ks
 induction ks with
 | nil =>
  intro cs v h;cases cs with
  | nil=>rfl
  | cons _ _=>cases h
 | cons k ks ih =>
  intro cs v h;obtain⟨u,k⟩:=k;have none': ∀ {α :Type} {x: α},(none:Option α)=some x->False:=fun h=>by cases h
  cases k with
  | bool =>
   simp only[LD]at h;split at h
   .rename_i b cs;cases hd:LD ks cs with
    | none=>rw[hd]at h;cases h
    | some q =>rw[hd]at h;injection h with h;subst h;simp only[NG,Ty.Ql,Ty.Qs];rw[<- ih cs q hd]
   .exact(none' h).elim
  | int k =>
   simp only[LD]at h;split at h
   .rename_i j n cs;cases hk:A.kEq j k with
    | false=>rw[hk]at h;exact(none' h).elim
    | true =>
     rw[hk]at h;cases hd:LD ks cs with
     | none=>rw[hd]at h;cases h
     | some q =>rw[hd]at h;injection h with h;subst h;simp only[NG,Ty.Ql,Ty.Qs];rw[<- ih cs q hd,A.Rq hk]
   .exact(none' h).elim
  | str =>
   simp only[LD]at h;split at h
   .rename_i b cs;cases hd:LD ks cs with
    | none=>rw[hd]at h;cases h
    | some q =>rw[hd]at h;injection h with h;subst h;simp only[NG,Ty.Ql,Ty.Qs];rw[<- ih cs q hd]
   .exact(none' h).elim
  | sl e t =>
   cases u with
   | false =>
    simp only[LD]at h;split at h
    .rename_i l cs;cases hc:l.cast t with
     | none=>rw[hc]at h;exact(none' h).elim
     | some xs =>
      rw[hc]at h;dsimp only at h;cases hd:LD ks cs with
      | none=>rw[hd]at h;cases h
      | some q =>rw[hd]at h;injection h with h;subst h;simp only[NG,Ty.Ql,Ty.Qs];rw[<- ih cs q hd,Sl.QQ hc]
    .exact(none' h).elim
   | true =>
    simp only[LD]at h;split at h
    .rename_i z e' l cs;cases he:z&&Nat.beq e' e with
     | false=>rw[he]at h;exact(none' h).elim
     | true =>
      rw[he]at h;dsimp only[cond_true]at h;cases hc:l.cast t with
      | none=>rw[hc]at h;exact(none' h).elim
      | some xs =>
       rw[hc]at h;dsimp only at h;cases hd:LD ks cs with
       | none=>rw[hd]at h;cases h
       | some q =>rw[hd]at h;injection h with h;subst h;simp only[NG,Ty.Ql,Ty.Qs];rw[Dq]at he;rw[<- ih cs q hd,Sl.QQ hc,Dp he.2,he.1]
    .exact(none' h).elim
  | ptr =>
   simp only[LD]at h;split at h
   .rename_i cs;cases hd:LD ks cs with
    | none=>rw[hd]at h;cases h
    | some q =>rw[hd]at h;injection h with h;subst h;simp only[NG];rw[<- ih cs _ hd]
   .exact(none' h).elim
  | fn =>
   simp only[LD]at h;split at h
   .rename_i b cs;cases hd:LD ks cs with
    | none=>rw[hd]at h;cases h
    | some q =>rw[hd]at h;injection h with h;subst h;simp only[NG,Ty.Ql,Ty.Qs];rw[<- ih cs q hd]
   .exact(none' h).elim
  | sln e t =>
   cases u with
   | false =>
    simp only[LD]at h;split at h
    .rename_i l cs;cases hc:l.cast t with
     | none=>rw[hc]at h;exact(none' h).elim
     | some xs =>
      rw[hc]at h;dsimp only at h;cases hd:LD ks cs with
      | none=>rw[hd]at h;cases h
      | some q =>rw[hd]at h;injection h with h;subst h;simp only[NG,Ty.Ql,Ty.Qs];rw[<- ih cs q hd,Sl.QQ hc]
    .exact(none' h).elim
   | true =>
    simp only[LD]at h;split at h
    .rename_i z e' l cs;cases he: !z&&Nat.beq e' e with
     | false=>rw[he]at h;exact(none' h).elim
     | true =>
      rw[he]at h;dsimp only[cond_true]at h;cases hc:l.cast t with
      | none=>rw[hc]at h;exact(none' h).elim
      | some xs =>
       rw[hc]at h;dsimp only at h;cases hd:LD ks cs with
       | none=>rw[hd]at h;cases h
       | some q =>rw[hd]at h;injection h with h;subst h;simp only[NG,Ty.Ql,Ty.Qs];rw[Dq]at he;rw[<- ih cs q hd,Sl.QQ hc,Dp he.2,show z=false from by simpa using he.1]
    .exact(none' h).elim
  | mp kt vt =>
   simp only[LD]at h;split at h
   .rename_i l cs;cases hc:l.cast kt vt with
    | none=>rw[hc]at h;exact(none' h).elim
    | some xs =>
     rw[hc]at h;dsimp only at h;cases hd:LD ks cs with
     | none=>rw[hd]at h;cases h
     | some q =>rw[hd]at h;injection h with h;subst h;simp only[NG,Ty.Ql,Ty.Qs];rw[<- ih cs q hd,Mp.QQ hc]
   .exact(none' h).elim
  | bx t =>
   cases u with
   | false=>simp only[LD]at h;exact(none' h).elim
   | true =>
    simp only[LD]at h;split at h
    .rename_i ds cs;cases hk:(t.mk (ds.map A.weak)).1&&ds.all A.AlG with
     | false=>rw[hk]at h;exact(none' h).elim
     | true =>
      rw[hk]at h;rw[Dq]at hk;cases hd:LD ks cs with
      | none=>rw[hd]at h;cases h
      | some q =>rw[hd]at h;injection h with h;subst h;simp only[NG,Ty.Ql,Ty.Qs];rw[<- ih cs q hd];congr 2;show _=(t.cells (t.mk (ds.map A.weak)).2).map A.strong;rw[Ty.SG _ _ hk.1,Ajy _ hk.2]
    .exact(none' h).elim
  | oth=>simp only[LD]at h;exact(none' h).elim
def Sh.ks:Sh->List (Bool×CK)
 | .cell u k=>[(u,k)]
 | .agg ks=>ks
 | .box ks=>ks
 | .clo _ ks=>ks
 | .map kt vt=>[(true,.mp kt vt)]
def Sh.T (s:Sh):Type:=(tyl (s.ks.map (·.2))).Val
def Sh.dec:(s:Sh)->A->Option s.T
 | .cell u k,x=>LD [(u,k)] [x]
 | .agg ks,.agg cs=>LD ks cs
 | .box ks,.box cs=>LD ks cs
 | .clo f ks,.cbx g cs=>bif Nat.beq f g then LD ks cs else none
 | .map kt vt,x=>LD [(true,.mp kt vt)] [x]
 | _,_=>none
def Sh.enc:(s:Sh)->s.T->A
 | .cell u k,v=>(NG [(u,k)] v).getD 0 .undef
 | .agg ks,v=>.agg (NG ks v)
 | .box ks,v=>.box (NG ks v)
 | .clo f ks,v=>.cbx f (NG ks v)
 | .map kt vt,v=>(NG [(true,.mp kt vt)] v).getD 0 .undef
theorem Sh.Ar6 {s:Sh} {x:A} {v:s.T} (h:s.dec x=some v):x=s.enc v:=by
 cases s with
 | cell u k =>have:=aK _ _ _ (show LD [(u,k)] [x]=some v from h);show x=(NG [(u,k)] v).getD 0 .undef;rw[<- this];rfl
 | agg ks =>
  cases x with
  | agg cs =>have:=aK _ _ _ (show LD ks cs=some v from h);show _=A.agg (NG ks v);rw[<- this]
  | _=>cases h
 | box ks =>
  cases x with
  | box cs =>have:=aK _ _ _ (show LD ks cs=some v from h);show _=A.box (NG ks v);rw[<- this]
  | _=>cases h
 | clo f ks =>
  cases x with
  | cbx g cs =>
   have h:(bif Nat.beq f g then LD ks cs else none)=some v:=h;cases hb:Nat.beq f g with
   | false=>rw[hb]at h;cases h
   | true =>rw[hb]at h;have:=aK _ _ _ (show LD ks cs=some v from h);show _=A.cbx f (NG ks v);rw[<- this,Dp hb]
  | _=>cases h
 | map kt vt =>have:=aK _ _ _ (show LD [(true,.mp kt vt)] [x]=some v from h);show x=(NG [(true,.mp kt vt)] v).getD 0 .undef;rw[<- this];rfl
def prS (s:Sh) (β :Type):List Sh->Type
 | []=>s.T
 | _::_=>s.T× β
def ShT:List Sh->Type
 | []=>Unit
 | s::r=>prS s (ShT r) r
def hdS (s:Sh):(r:List Sh)->prS s (ShT r) r->s.T
 | [],v=>v
 | _::_,v=>v.1
def tlS (s:Sh):(r:List Sh)->prS s (ShT r) r->ShT r
 | [],_=>()
 | _::_,v=>v.2
def mkS (s:Sh):(r:List Sh)->s.T->ShT r->prS s (ShT r) r
 | [],a,_=>a
 | _::_,a,b=>(a,b)
theorem Atj (s:Sh) (r:List Sh) (a:s.T) (b:ShT r):hdS s r (mkS s r a b)=a:=by cases r<;>rfl
theorem Auj (s:Sh) (r:List Sh) (a:s.T) (b:ShT r):tlS s r (mkS s r a b)=b:=by cases r<;>rfl
def Agh (s:Sh) (r:List Sh):Option s.T->Option (ShT r)->Option (prS s (ShT r) r)
 | some a,some b=>some (mkS s r a b)
 | _,_=>none
theorem Ak3 {s:Sh} {r:List Sh} {x:Option s.T} {y:Option (ShT r)} {v:prS s (ShT r) r} (h:Agh s r x y=some v): ∃ a b,x=some a/\y=some b/\v=mkS s r a b:=by
 cases x with
 | none=>cases h
 | some a =>
  cases y with
  | none=>cases h
  | some b=>grind[Sh,ShT,prS,Agh,mkS]
def Wn:(ss:List Sh)->List A->Option (ShT ss)
 | []=>fun
  | []=>some ()
  | _=>none
 | s::r=>fun
  | []=>none
  | x::xs=>Agh s r (s.dec x) (Wn r xs)
def encs:(ss:List Sh)->ShT ss->List A
 | [],_=>[]
 | s::r,v=>s.enc (hdS s r v)::encs r (tlS s r v)
theorem AgL: ∀(ss:List Sh) (xs:List A) (v:ShT ss),Wn ss xs=some v->xs=encs ss v:=by
 intro ss
 induction ss with
 | nil =>
  intro xs v h;cases xs with
  | nil=>rfl
  | cons _ _=>cases h
 | cons s ss ih =>
  intro xs v h;cases xs with
  | nil=>cases h
  | cons x xs =>obtain⟨a,b,h1,h2,h3⟩:=Ak3 (show Agh s ss (s.dec x) (Wn ss xs)=some v from h);subst h3;show _=s.enc (hdS s ss (mkS s ss a b))::encs ss (tlS s ss (mkS s ss a b));rw[Atj,Auj,<- Sh.Ar6 h1,<- ih xs b h2]
def Sh.zero (s:Sh):s.T:=Ty.zero _
def zeroS:(ss:List Sh)->ShT ss
 | []=>()
 | s::r=>mkS s r s.zero (zeroS r)
def Lr (Js J7:List Sh):List Sh:=J7++Js.filterMap (fun | .box ks=>some (.agg ks) | .clo _ ks=>some (.agg ks) | .map kt vt=>some (.map kt vt) | _=>none)
def Sig.of (Js J7:List Sh) (f:ShT Js->Option (ShT (Lr Js J7))):Sig where
 Js:=Js
 J7:=J7
 ok xs:=match Wn Js xs with
  | some a=>(f a).isSome
  | none=>false
 val xs:=match Wn Js xs with
  | some a=>encs (Lr Js J7) ((f a).getD (zeroS _))
  | none=>[]
def nC (Js J7:List Sh):List (Nat×(ShT Js->Option (ShT (Lr Js J7))))->Nat->ShT Js->Option (ShT (Lr Js J7))
 | [],_,_=>none
 | (f,g)::r,n,x=>bif Nat.beq n (f+1)then g x else nC Js J7 r n x
def rZ (P:Program) (Js J7:List Sh):List (Nat×(ShT Js->Option (ShT (Lr Js J7))))->Prop
 | []=>True
 | (f,g)::r=>Spec P f (Sig.of Js J7 g)/\rZ P Js J7 r
theorem Anl (Js J7:List Sh): ∀(l:List (Nat×(ShT Js->Option (ShT (Lr Js J7))))) (x:ShT Js),nC Js J7 l 0 x=none:=by
 intro l
 induction l with
 | nil=>intro x;rfl
 | cons p r ih=>intro x;obtain⟨f,g⟩:=p;simp only[nC];exact ih x
theorem Ank {Js J7:List Sh}: ∀ {l:List (Nat×(ShT Js->Option (ShT (Lr Js J7))))},rZ P Js J7 l-> ∀ f,(∀ x,nC Js J7 l (f+1) x=none)\/Spec P f (Sig.of Js J7 (nC Js J7 l (f+1))):=by
 intro l
 induction l with
 | nil=>intro _ f;exact .inl fun x=>rfl
 | cons p r ih=>grind[nC,VC,Sh,ShT,Lr,rZ,Spec,Sig.of]
theorem Yi {Js J7:List Sh} {l:List (Nat×(ShT Js->Option (ShT (Lr Js J7))))} (h:rZ P Js J7 l):VP P (fun n=>Sig.of Js J7 (nC Js J7 l n)):=by
 refine⟨fun xs=> ?_,fun f xs hok=> ?_⟩
 .show(match Wn Js xs with | some a=>(nC Js J7 l 0 a).isSome | none=>false)=false;cases Wn Js xs with
  | none=>rfl
  | some a=>grind[Anl]
 .rcases Ank h f with h0 | h0
  .have hok':(match Wn Js xs with | some a=>(nC Js J7 l (f+1) a).isSome | none=>false)=true:=hok;cases hd:Wn Js xs with
   | none=>rw[hd]at hok';cases hok'
   | some a=>simp_all[hd,Sh,ShT,Lr,rZ,VP,Sig.of]
  .exact h0
theorem Sig.Yp {Js J7:List Sh} {f:ShT Js->Option (ShT (Lr Js J7))} {xs rs:List A} (h:(Sig.of Js J7 f).F xs=some rs): ∃ a o,xs=encs Js a/\f a=some o/\rs=encs _ o:=by
 unfold Sig.F Sig.of at h;dsimp only at h;cases hd:Wn Js xs with
 | none=>rw[hd]at h;cases h
 | some a =>
  rw[hd]at h;dsimp only at h;cases hf:f a with
  | none=>rw[hf]at h;cases h
  | some o =>rw[hf]at h;injection h with h;exact⟨a,o,AgL _ _ _ hd,hf,h.symm⟩
def Xp (C:Ctx) (Js J7:List Sh) (outs:List (Nat×Option Nat)) (st:St):Option (ShT (Lr Js J7)) :=
 allT ((JK st.Jp J7 (PU C outs st)).1++(JK st.Jp (Js.map Qb) (Qy Js 0)).1 ++
  [nodup ((NQ st.Jp 256000 256 J7 (PU C outs st)++NQ st.Jp 0 256 (Js.map Qb) (Qy Js 0)).map (·.1)),!(J7.any wS||(Js.map Qb).any wS)||((JK st.Jp J7 (PU C outs st)).2.2.1.isEmpty&&(JK st.Jp (Js.map Qb) (Qy Js 0)).2.2.1.isEmpty)]++outs.flatMap (fun q=>(Abk C st q).1))
  (Wn _ ((JK st.Jp J7 (PU C outs st)).2.1++(La Js 0).map (fun i=>unbox ((JK st.Jp (Js.map Qb) (Qy Js 0)).2.1.getD i .undef))))
theorem Aro {α β :Type} {l:List Bool} {x:Option α} {y: α} (h:allT l x=some y) (z: β):allT l (some z)=some z:=by
 induction l with
 | nil=>rfl
 | cons c cs ih=>grind[allT]
theorem AeY {C:Ctx} {Js J7:List Sh} {outs:List (Nat×Option Nat)} {st:St} {o:ShT (Lr Js J7)} (h:Xp C Js J7 outs st=some o):finish C Js J7 outs st=some (encs _ o):=by unfold Xp at h;obtain⟨_,h2⟩:=QP h;all_goals grind[AgL,finish,Aro]
theorem XJ {ρ :Type} {fin:St->Option ρ} (hC:MV P C) (N:Nat) {f:FuncId} {fn:Func} {code:Code} {outs:List (Nat×Option Nat)} {Js J7:List Sh} {g:ShT Js->Option (ShT (Lr Js J7))} (hf:P.funcs[f]? =some fn) (hb:fn.body=some code) (hn:(fn.name== "runtime.NumGoroutine")=false)
 (hout:fn.results=(outs.map rv).toArray) (hF: ∀ a o,g a=some o-> ∃ r,runK C N Js fn.ntmps code fin (encs Js a)=some r/\ ∀ st,fin st=some r->Xp C Js J7 outs st=some o):Spec P f (Sig.of Js J7 g) :=
 ⟨enters hf (by rw[hb];rfl) hn,fun _ _ _ xs rs hI hv hl h100 hx hrs=>by obtain⟨a,o,h1,h2,h3⟩:=Sig.Yp hrs;subst h1;subst h3;obtain⟨r,h4,h5⟩:=hF a o h2;exact Aoz (sg:=Sig.of Js J7 g) (o:=r) hC N (fun {_} hC' {_ _ _ _ _ _} id ops _ _ _ _ _ K hS hd hx=>Acb hC' id ops K hS hd hx) hf hb hout hI hv hl h100 hx h4 (fun st h=>AeY (h5 st h))⟩
end
section
def Ou {α ρ :Type} (A:(α ->Option ρ)->Option ρ) (f: α ->Option ρ):Option ρ :=A f
def Jy {ρ :Type} (b:Bool) (k:Bool->Option ρ):Option ρ :=k b
def Ym {ρ :Type} (b:Bool) (k:Bool->Option ρ):Jy b k=k b:=rfl
def Atn {α β :Type}:Option (α ⊕ β)->Bool
 | some (.inr _)=>false
 | _=>true
def Ate {α β :Type}:Option (α ⊕ β)->Option α
 | some (.inl x)=>some x
 | _=>none
def Atf {α β :Type}:Option (α ⊕ β)->Option β
 | some (.inr x)=>some x
 | _=>none
def PE {α β ρ :Type} [Inhabited α] [Inhabited β] (o:Option (α ⊕ β)) (k: α ->Option ρ) (l: β ->Option ρ):Option ρ :=bif Atn o then Jq (Ate o) k else Jq (Atf o) l
def Nk {α β ρ :Type} [Inhabited α] [Inhabited β] (x: α) (k: α ->Option ρ) (l: β ->Option ρ):PE (some (.inl x)) k l=k x:=rfl
def strings_Join (_:Nat) (l:List Bs) (sep:Bs):Option Bs:=bif decide (l.length<=140737488355328)&&decide ((sep.intercalate l).length<=140737488355328)then some (sep.intercalate l)else none
variable {a0 a1 a2 a3 a4 a5 a6 a7 a8 a9 a10 a11 a12 a13 a14 a15 a16 a17 a18 a19 a20 a21 a22 a23 a24 a25 a26 a27 r:Type}
def U2 (f:a0->a1->r) (x:a0×a1):r:=f x.1 x.2
def U3 (f:a0->a1->a2->r) (x:a0×a1×a2):r:=f x.1 x.2.1 x.2.2
def U4 (f:a0->a1->a2->a3->r) (x:a0×a1×a2×a3):r:=f x.1 x.2.1 x.2.2.1 x.2.2.2
def U5 (f:a0->a1->a2->a3->a4->r) (x:a0×a1×a2×a3×a4):r:=f x.1 x.2.1 x.2.2.1 x.2.2.2.1 x.2.2.2.2
def U6 (f:a0->a1->a2->a3->a4->a5->r) (x:a0×a1×a2×a3×a4×a5):r:=f x.1 x.2.1 x.2.2.1 x.2.2.2.1 x.2.2.2.2.1 x.2.2.2.2.2
def U7 (f:a0->a1->a2->a3->a4->a5->a6->r) (x:a0×a1×a2×a3×a4×a5×a6):r:=f x.1 x.2.1 x.2.2.1 x.2.2.2.1 x.2.2.2.2.1 x.2.2.2.2.2.1 x.2.2.2.2.2.2
def U8 (f:a0->a1->a2->a3->a4->a5->a6->a7->r) (x:a0×a1×a2×a3×a4×a5×a6×a7):r:=f x.1 x.2.1 x.2.2.1 x.2.2.2.1 x.2.2.2.2.1 x.2.2.2.2.2.1 x.2.2.2.2.2.2.1 x.2.2.2.2.2.2.2
def U9 (f:a0->a1->a2->a3->a4->a5->a6->a7->a8->r) (x:a0×a1×a2×a3×a4×a5×a6×a7×a8):r:=f x.1 x.2.1 x.2.2.1 x.2.2.2.1 x.2.2.2.2.1 x.2.2.2.2.2.1 x.2.2.2.2.2.2.1 x.2.2.2.2.2.2.2.1 x.2.2.2.2.2.2.2.2
def U10 (f:a0->a1->a2->a3->a4->a5->a6->a7->a8->a9->r) (x:a0×a1×a2×a3×a4×a5×a6×a7×a8×a9):r:=f x.1 x.2.1 x.2.2.1 x.2.2.2.1 x.2.2.2.2.1 x.2.2.2.2.2.1 x.2.2.2.2.2.2.1 x.2.2.2.2.2.2.2.1 x.2.2.2.2.2.2.2.2.1 x.2.2.2.2.2.2.2.2.2
def U11 (f:a0->a1->a2->a3->a4->a5->a6->a7->a8->a9->a10->r) (x:a0×a1×a2×a3×a4×a5×a6×a7×a8×a9×a10):r:=f x.1 x.2.1 x.2.2.1 x.2.2.2.1 x.2.2.2.2.1 x.2.2.2.2.2.1 x.2.2.2.2.2.2.1 x.2.2.2.2.2.2.2.1 x.2.2.2.2.2.2.2.2.1 x.2.2.2.2.2.2.2.2.2.1 x.2.2.2.2.2.2.2.2.2.2
def U12 (f:a0->a1->a2->a3->a4->a5->a6->a7->a8->a9->a10->a11->r) (x:a0×a1×a2×a3×a4×a5×a6×a7×a8×a9×a10×a11):r:=f x.1 x.2.1 x.2.2.1 x.2.2.2.1 x.2.2.2.2.1 x.2.2.2.2.2.1 x.2.2.2.2.2.2.1 x.2.2.2.2.2.2.2.1 x.2.2.2.2.2.2.2.2.1 x.2.2.2.2.2.2.2.2.2.1 x.2.2.2.2.2.2.2.2.2.2.1 x.2.2.2.2.2.2.2.2.2.2.2
def U13 (f:a0->a1->a2->a3->a4->a5->a6->a7->a8->a9->a10->a11->a12->r) (x:a0×a1×a2×a3×a4×a5×a6×a7×a8×a9×a10×a11×a12):r:=f x.1 x.2.1 x.2.2.1 x.2.2.2.1 x.2.2.2.2.1 x.2.2.2.2.2.1 x.2.2.2.2.2.2.1 x.2.2.2.2.2.2.2.1 x.2.2.2.2.2.2.2.2.1 x.2.2.2.2.2.2.2.2.2.1 x.2.2.2.2.2.2.2.2.2.2.1 x.2.2.2.2.2.2.2.2.2.2.2.1 x.2.2.2.2.2.2.2.2.2.2.2.2
def U19 (f:a0->a1->a2->a3->a4->a5->a6->a7->a8->a9->a10->a11->a12->a13->a14->a15->a16->a17->a18->r) (x:a0×a1×a2×a3×a4×a5×a6×a7×a8×a9×a10×a11×a12×a13×a14×a15×a16×a17×a18):r:=f x.1 x.2.1 x.2.2.1 x.2.2.2.1 x.2.2.2.2.1 x.2.2.2.2.2.1 x.2.2.2.2.2.2.1 x.2.2.2.2.2.2.2.1 x.2.2.2.2.2.2.2.2.1 x.2.2.2.2.2.2.2.2.2.1 x.2.2.2.2.2.2.2.2.2.2.1 x.2.2.2.2.2.2.2.2.2.2.2.1 x.2.2.2.2.2.2.2.2.2.2.2.2.1 x.2.2.2.2.2.2.2.2.2.2.2.2.2.1 x.2.2.2.2.2.2.2.2.2.2.2.2.2.2.1 x.2.2.2.2.2.2.2.2.2.2.2.2.2.2.2.1 x.2.2.2.2.2.2.2.2.2.2.2.2.2.2.2.2.1 x.2.2.2.2.2.2.2.2.2.2.2.2.2.2.2.2.2.1 x.2.2.2.2.2.2.2.2.2.2.2.2.2.2.2.2.2.2
def U20 (f:a0->a1->a2->a3->a4->a5->a6->a7->a8->a9->a10->a11->a12->a13->a14->a15->a16->a17->a18->a19->r) (x:a0×a1×a2×a3×a4×a5×a6×a7×a8×a9×a10×a11×a12×a13×a14×a15×a16×a17×a18×a19):r:=f x.1 x.2.1 x.2.2.1 x.2.2.2.1 x.2.2.2.2.1 x.2.2.2.2.2.1 x.2.2.2.2.2.2.1 x.2.2.2.2.2.2.2.1 x.2.2.2.2.2.2.2.2.1 x.2.2.2.2.2.2.2.2.2.1 x.2.2.2.2.2.2.2.2.2.2.1 x.2.2.2.2.2.2.2.2.2.2.2.1 x.2.2.2.2.2.2.2.2.2.2.2.2.1 x.2.2.2.2.2.2.2.2.2.2.2.2.2.1 x.2.2.2.2.2.2.2.2.2.2.2.2.2.2.1 x.2.2.2.2.2.2.2.2.2.2.2.2.2.2.2.1 x.2.2.2.2.2.2.2.2.2.2.2.2.2.2.2.2.1 x.2.2.2.2.2.2.2.2.2.2.2.2.2.2.2.2.2.1 x.2.2.2.2.2.2.2.2.2.2.2.2.2.2.2.2.2.2.1 x.2.2.2.2.2.2.2.2.2.2.2.2.2.2.2.2.2.2.2
def U21 (f:a0->a1->a2->a3->a4->a5->a6->a7->a8->a9->a10->a11->a12->a13->a14->a15->a16->a17->a18->a19->a20->r) (x:a0×a1×a2×a3×a4×a5×a6×a7×a8×a9×a10×a11×a12×a13×a14×a15×a16×a17×a18×a19×a20):r:=f x.1 x.2.1 x.2.2.1 x.2.2.2.1 x.2.2.2.2.1 x.2.2.2.2.2.1 x.2.2.2.2.2.2.1 x.2.2.2.2.2.2.2.1 x.2.2.2.2.2.2.2.2.1 x.2.2.2.2.2.2.2.2.2.1 x.2.2.2.2.2.2.2.2.2.2.1 x.2.2.2.2.2.2.2.2.2.2.2.1 x.2.2.2.2.2.2.2.2.2.2.2.2.1 x.2.2.2.2.2.2.2.2.2.2.2.2.2.1 x.2.2.2.2.2.2.2.2.2.2.2.2.2.2.1 x.2.2.2.2.2.2.2.2.2.2.2.2.2.2.2.1 x.2.2.2.2.2.2.2.2.2.2.2.2.2.2.2.2.1 x.2.2.2.2.2.2.2.2.2.2.2.2.2.2.2.2.2.1 x.2.2.2.2.2.2.2.2.2.2.2.2.2.2.2.2.2.2.1 x.2.2.2.2.2.2.2.2.2.2.2.2.2.2.2.2.2.2.2.1 x.2.2.2.2.2.2.2.2.2.2.2.2.2.2.2.2.2.2.2.2
def U22 (f:a0->a1->a2->a3->a4->a5->a6->a7->a8->a9->a10->a11->a12->a13->a14->a15->a16->a17->a18->a19->a20->a21->r) (x:a0×a1×a2×a3×a4×a5×a6×a7×a8×a9×a10×a11×a12×a13×a14×a15×a16×a17×a18×a19×a20×a21):r:=f x.1 x.2.1 x.2.2.1 x.2.2.2.1 x.2.2.2.2.1 x.2.2.2.2.2.1 x.2.2.2.2.2.2.1 x.2.2.2.2.2.2.2.1 x.2.2.2.2.2.2.2.2.1 x.2.2.2.2.2.2.2.2.2.1 x.2.2.2.2.2.2.2.2.2.2.1 x.2.2.2.2.2.2.2.2.2.2.2.1 x.2.2.2.2.2.2.2.2.2.2.2.2.1 x.2.2.2.2.2.2.2.2.2.2.2.2.2.1 x.2.2.2.2.2.2.2.2.2.2.2.2.2.2.1 x.2.2.2.2.2.2.2.2.2.2.2.2.2.2.2.1 x.2.2.2.2.2.2.2.2.2.2.2.2.2.2.2.2.1 x.2.2.2.2.2.2.2.2.2.2.2.2.2.2.2.2.2.1 x.2.2.2.2.2.2.2.2.2.2.2.2.2.2.2.2.2.2.1 x.2.2.2.2.2.2.2.2.2.2.2.2.2.2.2.2.2.2.2.1 x.2.2.2.2.2.2.2.2.2.2.2.2.2.2.2.2.2.2.2.2.1 x.2.2.2.2.2.2.2.2.2.2.2.2.2.2.2.2.2.2.2.2.2
def U23 (f:a0->a1->a2->a3->a4->a5->a6->a7->a8->a9->a10->a11->a12->a13->a14->a15->a16->a17->a18->a19->a20->a21->a22->r) (x:a0×a1×a2×a3×a4×a5×a6×a7×a8×a9×a10×a11×a12×a13×a14×a15×a16×a17×a18×a19×a20×a21×a22):r:=f x.1 x.2.1 x.2.2.1 x.2.2.2.1 x.2.2.2.2.1 x.2.2.2.2.2.1 x.2.2.2.2.2.2.1 x.2.2.2.2.2.2.2.1 x.2.2.2.2.2.2.2.2.1 x.2.2.2.2.2.2.2.2.2.1 x.2.2.2.2.2.2.2.2.2.2.1 x.2.2.2.2.2.2.2.2.2.2.2.1 x.2.2.2.2.2.2.2.2.2.2.2.2.1 x.2.2.2.2.2.2.2.2.2.2.2.2.2.1 x.2.2.2.2.2.2.2.2.2.2.2.2.2.2.1 x.2.2.2.2.2.2.2.2.2.2.2.2.2.2.2.1 x.2.2.2.2.2.2.2.2.2.2.2.2.2.2.2.2.1 x.2.2.2.2.2.2.2.2.2.2.2.2.2.2.2.2.2.1 x.2.2.2.2.2.2.2.2.2.2.2.2.2.2.2.2.2.2.1 x.2.2.2.2.2.2.2.2.2.2.2.2.2.2.2.2.2.2.2.1 x.2.2.2.2.2.2.2.2.2.2.2.2.2.2.2.2.2.2.2.2.1 x.2.2.2.2.2.2.2.2.2.2.2.2.2.2.2.2.2.2.2.2.2.1 x.2.2.2.2.2.2.2.2.2.2.2.2.2.2.2.2.2.2.2.2.2.2
def U28 (f:a0->a1->a2->a3->a4->a5->a6->a7->a8->a9->a10->a11->a12->a13->a14->a15->a16->a17->a18->a19->a20->a21->a22->a23->a24->a25->a26->a27->r) (x:a0×a1×a2×a3×a4×a5×a6×a7×a8×a9×a10×a11×a12×a13×a14×a15×a16×a17×a18×a19×a20×a21×a22×a23×a24×a25×a26×a27):r:=f x.1 x.2.1 x.2.2.1 x.2.2.2.1 x.2.2.2.2.1 x.2.2.2.2.2.1 x.2.2.2.2.2.2.1 x.2.2.2.2.2.2.2.1 x.2.2.2.2.2.2.2.2.1 x.2.2.2.2.2.2.2.2.2.1 x.2.2.2.2.2.2.2.2.2.2.1 x.2.2.2.2.2.2.2.2.2.2.2.1 x.2.2.2.2.2.2.2.2.2.2.2.2.1 x.2.2.2.2.2.2.2.2.2.2.2.2.2.1 x.2.2.2.2.2.2.2.2.2.2.2.2.2.2.1 x.2.2.2.2.2.2.2.2.2.2.2.2.2.2.2.1 x.2.2.2.2.2.2.2.2.2.2.2.2.2.2.2.2.1 x.2.2.2.2.2.2.2.2.2.2.2.2.2.2.2.2.2.1 x.2.2.2.2.2.2.2.2.2.2.2.2.2.2.2.2.2.2.1 x.2.2.2.2.2.2.2.2.2.2.2.2.2.2.2.2.2.2.2.1 x.2.2.2.2.2.2.2.2.2.2.2.2.2.2.2.2.2.2.2.2.1 x.2.2.2.2.2.2.2.2.2.2.2.2.2.2.2.2.2.2.2.2.2.1 x.2.2.2.2.2.2.2.2.2.2.2.2.2.2.2.2.2.2.2.2.2.2.1 x.2.2.2.2.2.2.2.2.2.2.2.2.2.2.2.2.2.2.2.2.2.2.2.1 x.2.2.2.2.2.2.2.2.2.2.2.2.2.2.2.2.2.2.2.2.2.2.2.2.1 x.2.2.2.2.2.2.2.2.2.2.2.2.2.2.2.2.2.2.2.2.2.2.2.2.2.1 x.2.2.2.2.2.2.2.2.2.2.2.2.2.2.2.2.2.2.2.2.2.2.2.2.2.2.1 x.2.2.2.2.2.2.2.2.2.2.2.2.2.2.2.2.2.2.2.2.2.2.2.2.2.2.2
abbrev CX {a b c d e:Type} (x:a×b×c×d×e):e:=x.2.2.2.2
abbrev CY {a b c d e f g h i:Type} (x:a×b×c×d×e×f×g×h×i):i:=x.2.2.2.2.2.2.2.2
abbrev CZ {a b c d e f g h i j k l m:Type} (x:a×b×c×d×e×f×g×h×i×j×k×l×m):m:=x.2.2.2.2.2.2.2.2.2.2.2.2
abbrev Dc {a b c d e f g h i j k l m n o p q:Type} (x:a×b×c×d×e×f×g×h×i×j×k×l×m×n×o×p×q):q:=x.2.2.2.2.2.2.2.2.2.2.2.2.2.2.2.2
abbrev Df {a b c d e f g h i j k l m n o p q r s t u:Type} (x:a×b×c×d×e×f×g×h×i×j×k×l×m×n×o×p×q×r×s×t×u):u:=x.2.2.2.2.2.2.2.2.2.2.2.2.2.2.2.2.2.2.2.2
abbrev Dh {a b c d e f g h i j k l m n o p q r s t u v w x y:Type} (x:a×b×c×d×e×f×g×h×i×j×k×l×m×n×o×p×q×r×s×t×u×v×w×x×y):y:=x.2.2.2.2.2.2.2.2.2.2.2.2.2.2.2.2.2.2.2.2.2.2.2.2
abbrev Di {a b c d e f g h i j k l m n o p q r s t u v w x y z A B C:Type} (x:a×b×c×d×e×f×g×h×i×j×k×l×m×n×o×p×q×r×s×t×u×v×w×x×y×z×A×B×C):C:=x.2.2.2.2.2.2.2.2.2.2.2.2.2.2.2.2.2.2.2.2.2.2.2.2.2.2.2.2
abbrev Aa {ρ:Type} (b:Bool) (k:Option ρ):Option ρ:=chk (b||!b) k
abbrev Ac {ρ:Type} (b:Bool) (k:Option ρ):Option ρ:=Aa b (Aa b k)
abbrev Ad {ρ:Type} (b:Bool) (k:Option ρ):Option ρ:=Aa b (Ac b k)
abbrev Ae {ρ:Type} (b:Bool) (k:Option ρ):Option ρ:=Aa b (Ad b k)
abbrev Af {ρ:Type} (b:Bool) (k:Option ρ):Option ρ:=Aa b (Ae b k)
abbrev Ag {ρ:Type} (b:Bool) (k:Option ρ):Option ρ:=Aa b (Af b k)
abbrev Ah {ρ:Type} (b:Bool) (k:Option ρ):Option ρ:=chk (bif b then b else true) (chk (bif b then true else true) k)
abbrev Ai {ρ:Type} (b:Bool) (k:Option ρ):Option ρ:=chk (bif b then true else !b) (chk (bif b then true else true) k)
abbrev Aj {ρ:Type} (i:Int) (n:Nat) (k:Option ρ):Option ρ:=chk (decide (0<=i)) (chk (decide (i<(n:Int))) k)
abbrev Ak {ρ:Type} (p:Prop) [Decidable p] (k:Option ρ):Option ρ:=chk (decide p) k
abbrev Am {ρ:Type} (n:Nat) (k:Option ρ):Option ρ:=chk (decide (n<=140737488355328)) k
end
open Go.RowKit
def Below.moves {O:Own} {T:Nat->Prop} {w w':World} (h:Below w.heap.size w w'):Moves O T w w':=⟨h.os,h.tape,h.output,h.size,fun b hb=>.inl (h.block b hb)⟩
noncomputable def Sv (e N:Nat):Sig:=.of [.cell false (.sl e (.str .nil)),.cell false .str] [.cell false .str] (fun a=>strings_Join N a.1 a.2)
def UC {O:Own} {w:World} {v:Value} {s:List UInt8} (h:Jw O w v (.str s)):v= .string ⟨s.toArray⟩:=by
 cases h with
 | str s=>simp_all[Own,Jw]
def Zr {O:Own} {w w':World} {vs:Array Value} {e N:Nat} {s:List UInt8} (hb:Below w.heap.size w w'):Came O w vs (Sv e N) [.str s] (.string ⟨s.toArray⟩) O w':=by
 refine⟨Below.moves hb,fun b k _ h=>h,fun b k _ h=>h,rfl,⟨#[.string ⟨s.toArray⟩],rfl,rfl,fun k hk=> ?_⟩,fun j i hj=> ?_⟩
 .have hk0:k=0:=by simp at hk;omega
  subst hk0;show Jw O w' (.string ⟨s.toArray⟩) (.str s);exact Jw.str (O:=O) (w:=w') ⟨s.toArray⟩
 .exact absurd hj (by show(La [.cell false (.sl e (.str .nil)),.cell false .str] 0)[j]? ≠some i;simp [La,KD])
def Ag2 (P:Program) (f:FuncId):Prop :=
 (∀(a:Option Addr) (c:Nat) (sep:ByteArray) (w:World),Calls P f #[.slice a 0 c,.string sep] w fun e w'=>e= .returned (.string ⟨#[]⟩)/\w'=w) /\
 (∀(bk o c:Nat) (xs:List ByteArray) (sep:ByteArray) (w:World),(∀(j:Nat) x,xs[j]? =some x->w.cell? ⟨bk,o+j,none⟩=some (.string x))->bk<w.heap.size->xs.length<=140737488355328->xs.length<=c->(Lib.join (xs.map (·.data.toList)) sep.data.toList).length<=140737488355328 ->
   Calls P f #[.slice (some ⟨bk,o,none⟩) xs.length c,.string sep] w fun e w'=>e= .returned (.string ⟨(Lib.join (xs.map (·.data.toList)) sep.data.toList).toArray⟩)/\Below w.heap.size w w')
def Ab1 {P:Program} {f:FuncId} {e N:Nat} (H:Ag2 P f) {O:Own} {w:World} {vs:Array Value} (l:List Bs) (sep o:Bs) (hl2:vs.size=2) (hx0:Jw O w (vs.getD 0 undef) (.sl ⟨.str .nil,l⟩)) (hx1:Jw O w (vs.getD 1 undef) (.str sep)) (h2':strings_Join N l sep=some o) :
 Calls P f vs w fun e' w'=> ∃ v O',e'= .returned v/\Came O w vs (Sv e N) [.str o] v O' w':=by
 obtain⟨hn,hj⟩:=H
 have hvs:vs= #[vs.getD 0 undef,vs.getD 1 undef]:=by
  apply Fe
  .simpa using hl2
  .intro i h1 h2;have:i=0\/i=1:=by simp at h2;omega
   rcases this with rfl | rfl
   .simp [Dn,h1]
   .simp [Dn,h1]
 rw[UC hx1]at hvs;unfold strings_Join at h2';cases hc:(decide (l.length<=140737488355328)&&decide ((sep.intercalate l).length<=140737488355328))with
 | false=>rw[hc]at h2';cases h2'
 | true =>
  rw[hc]at h2';injection h2' with h2';rw[Dq,DJ,DJ]at hc;subst h2';have hes0:(⟨.str .nil,l⟩:Sl).es=l.map (fun s:Bs=>[A.str s]):=rfl;generalize hv0:vs.getD 0 undef=v0 at *
  have hnil:l=[]-> ∀ a c,v0= .slice a 0 c->Calls P f vs w fun e' w'=> ∃ v O',e'= .returned v/\Came O w vs (Sv e N) [.str (sep.intercalate l)] v O' w':=by
   intro hl0 a c hv0';have:=hn a c ⟨sep.toArray⟩ w;rw[<- hv0',<- hvs]at this;refine this.mono fun e' w' hq=> ?_;obtain⟨h4,h5⟩:=hq;subst h5;refine⟨_,O,h4,?_⟩;have:sep.intercalate l=[]:=by rw[hl0];rfl
   rw[this];exact Zr (Below.refl _ _)
  have hsz:(⟨.str .nil,l⟩:Sl).sz=1:=rfl;generalize hL:(⟨.str .nil,l⟩:Sl)=L at hx0 hes0 hsz;have hlen:L.es.length=l.length:=by rw[hes0,Dx]
  have hes: ∀ j:Nat,L.es[j]? =(l[j]?).map (fun s=>[A.str s]):=fun j=>by rw[hes0,Ed]
  cases hx0 with
  | nil t =>
   have:l=[]:=by injection hL with h1 h2;subst h1;exact I5 h2
   exact hnil this _ _ rfl
  | sl0 ad t =>
   have:l=[]:=by injection hL with h1 h2;subst h1;exact I5 h2
   exact hnil this _ _ rfl
  | @sl b off cap l' vs' hcap hm hr =>
   cases hl0:l with
   | nil=>rw[<- hl0];exact hnil hl0 _ cap (by rw[hlen,hl0];rfl)
   | cons s0 r =>
    have hb:b<w.heap.size:=by have:=(hm 0 0 (by rw[hlen,hl0];simp) (by omega)).2;exact cell_lt this
    rw[<- hl0]
    have hmap:(l.map (fun s=>(⟨s.toArray⟩:ByteArray))).map (·.data.toList)=l:=by
     rw[EO]
     conv=>rhs;rw[<- Gq l]
     refine Ej fun s _=> ?_;simp
    have hJ:=hj b off cap (l.map (fun s=>(⟨s.toArray⟩:ByteArray))) ⟨sep.toArray⟩ w (fun j x hjx=>by
     rw[Ed]at hjx;cases hlj:l[j]? with
     | none=>rw[hlj]at hjx;cases hjx
     | some s =>
      rw[hlj]at hjx;injection hjx with hjx
      have hjl:j<L.es.length:=by
       rw[hlen];rcases Ec j l.length with h | h
       .exact h
       .rw[DZ h]at hlj;cases hlj
      have hm1:=(hm j 0 hjl (by omega)).2;have hr1:=hr j 0 hjl (by omega);rw[Dj (l:=L.es),hes,hlj]at hr1;have:=UC (show Jw O w (vs' j 0) (.str s)from hr1);rw[this]at hm1;rw[<- hjx];have e1:off+(j*L.sz+0)=off+j:=by rw[hsz];omega
      rw[e1]at hm1;exact hm1) hb (by rw[Dx];exact hc.1) (by rw[Dx,<- hlen];exact hcap) (by rw[hmap];show(List.intercalate _ l).length<=_;simpa using hc.2)
    rw[Dx,hmap,<- hlen,<- hvs]at hJ;refine hJ.mono fun e' w' hq=> ?_;have e2:Lib.join l (⟨sep.toArray⟩:ByteArray).data.toList=sep.intercalate l:=by show List.intercalate _ l=_;simp
    rw[e2]at hq;exact⟨_,O,hq.1,Zr hq.2⟩
def Adq {P:Program} {f:FuncId} {e N:Nat} (hent: ∀ args w,(callFunc f args).run P w= .ok (.enter f args) w) (H:Ag2 P f):Spec P f (Sv e N):=by refine⟨hent,fun O w vs xs rs _ hv hl _ hx hrs=> ?_⟩;obtain⟨a,o,h1,h2,h3⟩:=Sig.Yp hrs;subst h1;have h3':rs=[.str o]:=h3;rw[h3'];exact Ab1 H a.1 a.2 o hv (hx 0 (by show 0<2;omega)) (hx 1 (by show 1<2;omega)) h2
end Go.Proofs.YtbgjmioccbacdaaGreatDoor.Vm
