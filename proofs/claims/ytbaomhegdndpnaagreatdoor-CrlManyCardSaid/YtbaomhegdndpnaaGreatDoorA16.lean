import Derived.Test.YtbaomhegdndpnaaGreatDoorA15
import Derived.OwnWalk
set_option linter.all false
namespace Go.Proofs.YtbaomhegdndpnaaGreatDoor.Vm
open Classical
section
variable {P:Program} {C:Ctx} {V0:Nat->Value} {O0 O:Own} {w0 w:World} {m:Nat->Value} {st st':St} {a:Act}
structure uS (C:Ctx) (ops:List Oper) (x:BD) (st:St):Prop where
  step:Bh C ops x.o st=x.δ
  rd:BM x.o st (Bd x.o st)=x.rd
  one:oneOf C x.o.op (Bd x.o st)=x.one
def Xb (C:Ctx) (ops:List Oper):List BD->St->St->Prop
  | [],s,s'=>s=s'
  | x::r,s,s'=>uS C ops x s/\Xb C ops r (apply s x.o x.δ) s'
theorem Ab7: ∀(u:List Nat) {l:List (Nat×Obj)} {p:Nat×Obj},p∈AZ l u->p∈l:=by
  intro u
  induction u with
  | nil=>intro l p h;exact h
  | cons n r ih=>intro l p h;exact bT (ih h)
theorem MP {x:BD} {n:Nat} (h:st.fresh n=true) (h1:n∉x.says) (h2:n∉x.keys):(apply st x.o x.δ).fresh n=true:=by
  obtain⟨f1,f2,f3,f4⟩:=CJ h
  unfold BD.says at h1
  simp only[List.mem_append,not_or]at h1
  have g1:has (apply st x.o x.δ).ids n=false:=by
    rw[<- Bool.not_eq_true]
    intro hh
    rcases List.mem_append.1 (Ea.1 hh)with hm | hm
    ·obtain⟨c,hc,hi⟩:=List.mem_flatMap.1 hm
     have hc:c∈put st.tmps x.o.dst x.δ.val:=hc
     have:c∈st.tmps\/c=x.δ.val:=by
       cases hd:x.o.dst with
       | none=>rw[hd]at hc;exact .inl hc
       | some d=>rw[hd]at hc;exact List.mem_or_eq_of_mem_set hc
     rcases this with hc | hc
     ·exact f1 (List.mem_append_left _ (List.mem_flatMap.2 ⟨c,hc,hi⟩))
     ·rw[hc]at hi;exact h1.1.1 hi
    ·obtain⟨p,hp,hi⟩:=List.mem_flatMap.1 hm
     rcases OT x.δ.new (show p∈Ar (AZ (Ar st.Aa x.δ.upd) x.δ.del) x.δ.new from hp)with hp | hp
     ·exact h1.2 (List.mem_flatMap.2 ⟨p,hp,hi⟩)
     ·rcases OT x.δ.upd (Ab7 _ hp)with hp | hp
      ·exact h1.1.2 (List.mem_flatMap.2 ⟨p,hp,hi⟩)
      ·exact f1 (List.mem_append_right _ (List.mem_flatMap.2 ⟨p,hp,hi⟩))
  have g2:Ai (apply st x.o x.δ).Aa n=none:=by rw[GM h2];exact f2
  unfold St.fresh
  rw[g1,g2,f4,I4]
  simp [f3]
theorem Ab1 {u:List (Nat×Obj)} {k:Nat} {x:Obj} (h:lastOf u k=some x):(k,x)∈u:=by
  induction u with
  | nil=>cases h
  | cons p r ih =>
    obtain⟨n,y⟩:=p
    simp only[lastOf]at h
    cases hr:lastOf r k with
    | some z=>rw[hr]at h;injection h with h;subst h;exact List.mem_cons_of_mem _ (ih hr)
    | none =>
      rw[hr]at h
      dsimp only at h
      by_cases hn:n=k
      ·rw[if_pos hn]at h;injection h with h;subst h;subst hn;exact List.mem_cons_self
      ·rw[if_neg hn]at h;cases h
theorem AdG {ops:List Oper} {x y:BD} (hx:uS C ops x st) (hy:uS C ops y (apply st x.o x.δ)) (h:calm x y=true) :
    (opX C x.o (Bd x.o st) (AX (apply st y.o y.δ) (Bd x.o st))=opX C x.o (Bd x.o st) (AX st (Bd x.o st))/\(∀ f,(opX C x.o (Bd x.o st) f).upd=[])/\BM x.o (apply st y.o y.δ) (Bd x.o st)=BM x.o st (Bd x.o st)) \/
    (AX (apply st y.o y.δ) (Bd x.o st)=AX st (Bd x.o st)/\BM x.o (apply st y.o y.δ) (Bd x.o st)=BM x.o st (Bd x.o st)):=by
  unfold calm at h
  cases ho:x.one with
  | none=>rw[ho]at h;cases h
  | some p =>
    obtain⟨q,off,n⟩:=p
    rw[ho]at h
    simp only[Bool.and_eq_true,Bool.not_eq_true']at h
    obtain⟨h1,h2,h3,h4,h5⟩:=h
    have hone:=hx.one
    rw[ho]at hone
    obtain⟨k1,k2⟩:=Adb hone
    obtain⟨off',ev,hO⟩:=Xd (C:=C) k1
    have hS:=AbU (C:=C) (ops:=ops) (o:=y.o) (s:=apply st x.o x.δ)
    rw[hy.step]at hS
    have hxk:Ai (apply st x.o x.δ).Aa q=Ai st.Aa q:=GM fun hm=>by
      have:=h1.symm.trans (Ea.2 hm)
      cases this
    have hbox: ∀ e∈y.δ.same,e.1=q-> ∃ cs,Ai st.Aa q=some (.box cs)/\ ∀ p∈y.δ.upd,p.1=q-> ∃ cs',p.2= .box cs'/\cs'.length=cs.length/\cs'.getD e.2 .undef=cs.getD e.2 .undef:=by
      intro e he heq
      obtain⟨cs,g1,g2⟩:=hS e he
      rw[heq]at g1 g2
      exact⟨cs,by rw[<- hxk];exact S9 _ _ _ _ (BK g1),g2⟩
    obtain⟨e0,he0,heq0⟩:=List.any_eq_true.1 h4
    obtain⟨cs,g1,g2⟩:=hbox e0 he0 (Nat.eq_of_beq_eq_true heq0)
    have hcell: ∀ k,k<n-> ∀ p∈y.δ.upd,p.1=q-> ∀ cs',p.2= .box cs'->cs'.getD (off+k) .undef=cs.getD (off+k) .undef:=by
      intro k hk p hp hpq cs' hcs
      have:=List.all_eq_true.1 h5 k (List.mem_range.2 hk)
      obtain⟨e,he,heq⟩:=List.any_eq_true.1 this
      rw[Bool.and_eq_true]at heq
      obtain⟨cs2,g3,g4⟩:=hbox e he (Nat.eq_of_beq_eq_true heq.1)
      rw[g1]at g3;injection g3 with g3;injection g3 with g3;subst g3
      obtain⟨cs3,g5,_,g6⟩:=g4 p hp hpq
      rw[hcs]at g5;injection g5 with g5;subst g5
      rw[Nat.eq_of_beq_eq_true heq.2]at g6;exact g6
    have hnd:lastOf y.δ.new q=none:=SI fun hm=>by
      have:=h3.symm.trans (Ea.2 hm)
      cases this
    have hdl:q∉y.δ.del:=fun hm=>by rw[Ea.2 hm]at h2;cases h2
    have hnew: ∃ cs',Ai (apply st y.o y.δ).Aa q=some (.box cs')/\cs'.length=cs.length/\ ∀ k,k<n->cs'.getD (off+k) .undef=cs.getD (off+k) .undef:=by
      rw[FI,hnd]
      dsimp only
      rw[if_neg hdl]
      cases hl:lastOf y.δ.upd q with
      | none=>exact⟨cs,g1,rfl,fun _ _=>rfl⟩
      | some z =>
        have hm:=Ab1 hl
        obtain⟨cs',g3,g4,_⟩:=g2 _ hm rfl
        dsimp only at g3
        subst g3
        exact⟨cs',rfl,g4,fun k hk=>hcell k hk _ hm rfl _ rfl⟩
    obtain⟨cs',g3,g4,g5⟩:=hnew
    have hask: ∀ s,BM x.o s (Bd x.o st)=bif Tv x.o.op (Bd x.o st)then []else [q]:=by
      intro s;unfold BM;rw[k1]
    refine .inl ⟨k2 ?_ ?_ g4 g5,fun f=>(hO f f rfl).2,by rw[hask,hask]⟩
    ·rw[ev];unfold BP;rw[IQ,g1]
    ·rw[ev];unfold BP;rw[IQ,g3]
theorem swap {ops:List Oper} {x y:BD} {r:List BD} (hi:indep ops x y=true) (hxF: ∀ n∈x.news,st.fresh n=true) (hyF: ∀ n∈y.news,st.fresh n=true) (h1:Gz y.news x.says=true) (h2:Gz y.news x.keys=true)
    (hs:Srt st.Aa) (h:Xb C ops (x::y::r) st st'):Xb C ops (y::x::r) st st':=by
  unfold indep at hi
  simp only[Bool.and_eq_true]at hi
  obtain⟨⟨⟨⟨⟨⟨i1,i2⟩,i3⟩,i4⟩,i5⟩,i6⟩,i7⟩:=hi
  obtain⟨hx,hy,hr⟩:=h
  have hkx: ∀ n,n∈x.keys->n∉y.keys:=Cc i6
  have hnx: ∀ n∈x.news,n∈x.keys:=fun n hn=>List.mem_append_right _ hn
  have cy:=AbV (C:=C) (ops:=ops) (o:=y.o) (s1:=apply st x.o x.δ) (s2:=st)
    (fun z hz=>(vT (fun t ht=>Cc i2 t (Pv.2 ht)) hz).symm) (oZ (fun t ht=>Cc i2 t (Pv.2 ht))).symm
    (fun n hn=>(GM (fun hk=>Cc i4 n hk (by rw[<- hy.rd];exact hn))).symm)
    (fun n hn=>by rw[hy.step]at hn;exact MP (hyF n hn) (Cc h1 n hn) (Cc h2 n hn))
    (fun n hn=>by rw[hy.step]at hn;exact hyF n hn)
  have cx:=qB (C:=C) (ops:=ops) (o:=x.o) (s1:=st) (s2:=apply st y.o y.δ)
    (fun z hz=>vT (fun t ht=>Cc i3 t (Pv.2 ht)) hz) (oZ (fun t ht=>Cc i3 t (Pv.2 ht)))
    (by
      rcases Bool.or_eq_true_iff.1 i5 with i5 | i5
      ·exact oI (fun n hn=>GM (fun hk=>Cc i5 n hk (by rw[<- hx.rd];exact hn)))
      ·exact AdG hx hy i5)
    (fun n hn=>by rw[hx.step]at hn;exact hxF n hn)
    (fun n hn=>by rw[hx.step]at hn;exact MP (hxF n hn) (Cc i7 n hn) (hkx n (hnx n hn)))
  have hst:apply (apply st y.o y.δ) x.o x.δ =apply (apply st x.o x.δ) y.o y.δ :=by
    have e1:(apply (apply st y.o y.δ) x.o x.δ).tmps=(apply (apply st x.o x.δ) y.o y.δ).tmps:=(put_comm st.tmps x.δ.val y.δ.val (fun t ht he=>Cc i1 t (Pv.2 ht) (Pv.2 he))).symm
    have e2:(apply (apply st y.o y.δ) x.o x.δ).Aa=(apply (apply st x.o x.δ) y.o y.δ).Aa:=by
      refine Srt.ext ((hs.apply _ _).apply _ _) ((hs.apply _ _).apply _ _) fun k=> ?_
      by_cases hk:k∈x.keys
      ·have hky:=hkx k hk
       rw[GM (o:=y.o) (δ :=y.δ) hky,FI (apply st y.o y.δ),GM (o:=y.o) (δ :=y.δ) hky,<- FI st]
      ·rw[GM (o:=x.o) (δ :=x.δ) hk,FI (apply st x.o x.δ),GM (o:=x.o) (δ :=x.δ) hk,<- FI st]
    generalize apply (apply st y.o y.δ) x.o x.δ =s at *
    generalize apply (apply st x.o x.δ) y.o y.δ =s' at *
    cases s;cases s'
    dsimp only at e1 e2
    rw[e1,e2]
  refine⟨⟨by rw[cy.1,hy.step],by rw[cy.2.1,hy.rd],by rw[cy.2.2,hy.one]⟩,⟨by rw[cx.1,hx.step],by rw[cx.2.1,hx.rd],by rw[cx.2.2,hx.one]⟩,?_⟩
  rw[hst];exact hr
structure Pre (R:List BD) (st:St):Prop where
  srt:Srt st.Aa
  fresh: ∀ z∈R,∀ n∈z.news,st.fresh n=true
  pairs:R.Pairwise (fun y z=>Gz z.news y.says=true/\Gz z.news y.keys=true)
theorem Pre.step {y:BD} {R:List BD} (h:Pre (y::R) st):Pre R (apply st y.o y.δ):=by
  obtain⟨h1,h2⟩:=List.pairwise_cons.1 h.pairs
  exact⟨h.srt.apply _ _,fun z hz n hn=>MP (h.fresh z (List.mem_cons_of_mem _ hz) n hn) (Cc (h1 z hz).1 n hn) (Cc (h1 z hz).2 n hn),h2⟩
theorem front {ops:List Oper} {x:BD} {L2:List BD}: ∀(L1:List BD) {st:St},Pre (L1++x::L2) st->(∀ y∈L1,indep ops y x=true)->Xb C ops (L1++x::L2) st st'->Xb C ops (x::(L1++L2)) st st':=by
  intro L1
  induction L1 with
  | nil=>intro st _ _ h;exact h
  | cons y L1 ih =>
    intro st hP hi h
    have h1:=ih (st:=apply st y.o y.δ) (hP.step) (fun z hz=>hi z (List.mem_cons_of_mem _ hz)) h.2
    have hx:x∈L1++x::L2:=List.mem_append_right _ List.mem_cons_self
    obtain⟨p1,_⟩:=List.pairwise_cons.1 hP.pairs
    exact swap (hi y List.mem_cons_self) (hP.fresh y List.mem_cons_self) (hP.fresh x (List.mem_cons_of_mem _ hx)) (p1 x hx).1 (p1 x hx).2 hP.srt ⟨h.1,h1⟩
theorem Acp {md:Region.Mode} {e:Edge} (h:Region.binds .any e=true):Region.binds md e=true:=by
  unfold Region.binds at h ⊢
  cases hg:e.ground with
  | textOnly r=>rw[hg]at h;cases h
  | gcOnly r=>rw[hg]at h;cases h
  | _=>rfl
theorem MB {ops:List Oper} {i:Nat} {x y:BD} (h:Qu ops i x y=true):Gz y.news x.says=true/\Gz y.news x.keys=true/\(i∈y.anc\/indep ops x y=true):=by
  unfold Qu at h
  simp only[Bool.and_eq_true,Bool.or_eq_true]at h
  exact⟨h.1.1,h.1.2,h.2.imp Ea.1 id⟩
theorem wG {l:Array Bool} {i:Nat} (h:i<l.size) (b c:Bool):l.getD i b=l.getD i c:=by
  simp [Array.getD_eq_getD_getElem?,h]
theorem Abf {α :Type} (f: α ->Nat): ∀(l:List α),l≠ []-> ∃ x∈l,∀ y∈l,f x<=f y:=by
  intro l
  induction l with
  | nil=>intro h;exact absurd rfl h
  | cons a r ih =>
    intro _
    by_cases hr:r=[]
    ·exact⟨a,List.mem_cons_self,fun y hy=>by rw[hr]at hy;simp at hy;rw[hy];exact Nat.le_refl _⟩
    ·obtain⟨x,hx,hm⟩:=ih hr
     by_cases h:f a<=f x
     ·exact⟨a,List.mem_cons_self,fun y hy=>by
        rcases List.mem_cons.1 hy with rfl | hy
        ·exact Nat.le_refl _
        ·exact Nat.le_trans h (hm y hy)⟩
     ·exact⟨x,List.mem_cons_of_mem _ hx,fun y hy=>by
        rcases List.mem_cons.1 hy with rfl | hy
        ·omega
        ·exact hm y hy⟩
theorem AdN {ρ :Type} (hC:D5 P C) {ops:Array Oper} {md:Region.Mode} {Q:Exit->Act->World->Prop} {v: ρ} {K:St->Option ρ} (hQ: ∀ O' m' st' a' w',Sim V0 O0 w0 O' m' st' a' w'->K st'=some v->Q .normal a' w')
    {ANC:List (List Nat)} (hanc: ∀(j:Nat) (o:Oper),ops[j]? =some o-> ∀ i∈ANC.getD j [],∃ e∈JQ o,i=e\/i∈ANC.getD e []) {rk:Nat->Nat} (hback: ∀(j:Nat) (o:Oper),ops[j]? =some o-> ∀ e∈o.after,Region.binds md e=true->e.on<ops.size/\rk e.on<rk j) :
    ∀(fuel:Nat) (R:List (Nat×BD)) (listed:Array Bool) {O:Own} {m:Nat->Value} {st:St} {a:Act} {w:World},R.length=fuel->R.Pairwise (fun p q=>p.1<q.1) ->
     (∀ p∈R,ops[p.1]? =some p.2.o/\Am p.2.δ.ok/\p.2.anc=ANC.getD p.1 [])->listed.size=ops.size->(∀ i,i<ops.size->(listed.getD i true=false↔i∈R.map (·.1))) ->
     (∀ e,listed.getD e false=true-> ∀ i∈ANC.getD e [],listed.getD i false=true)->R.Pairwise (fun p q=>Qu ops.toList p.1 p.2 q.2=true)->(∀ p∈R,∀ n∈p.2.news,st.fresh n=true)->Srt st.Aa ->
     Xb C ops.toList (R.map (·.2)) st st'->K st'=some v->Sim V0 O0 w0 O m st a w->wpAny P md ops Q fuel listed a w:=by
  intro fuel
  induction fuel with
  | zero =>
    intro R listed O m st a w hlen _ _ hsz hl _ _ _ _ hruns hK hS
    have hR:R=[]:=List.length_eq_zero_iff.1 hlen
    subst hR
    refine⟨?_,?_⟩
    ·rw[List.eq_nil_iff_forall_not_mem]
     intro i hi
     obtain⟨h1,o,h2,_⟩:=mem_ready.1 hi
     have hlt:=(Array.getElem?_eq_some_iff.1 h2).1
     have:=(hl i hlt).1 h1
     simp at this
    ·have:st=st':=hruns
     subst this
     exact hQ _ _ _ _ _ hS hK
  | succ fuel ih =>
    intro R listed O m st a w hlen hord hops hsz hl hcl hpr hfr hsrt hruns hK hS
    have hin: ∀ p∈R,p.1<ops.size:=fun p hp=>(Array.getElem?_eq_some_iff.1 (hops p hp).1).1
    refine⟨fun hnil=> ?_,fun i hi=> ?_⟩
    ·exfalso
     obtain⟨p,hpR,hmin⟩:=Abf (fun q:Nat×BD=>rk q.1) R (by intro h;rw[h]at hlen;simp at hlen)
     have hp:=hin p hpR
     have:p.1∈Region.ready md ops listed:=by
       refine mem_ready.2 ⟨(hl p.1 hp).2 (List.mem_map.2 ⟨p,hpR,rfl⟩),p.2.o,(hops p hpR).1,fun e he hb=> ?_⟩
       obtain⟨hsize,hlt⟩:=hback _ _ (hops p hpR).1 e he hb
       have hno:e.on∉R.map (·.1):=by
         intro hm
         obtain⟨q,hq,hqe⟩:=List.mem_map.1 hm
         have:=hmin q hq
         rw[hqe]at this
         omega
       have:listed.getD e.on true≠false:=fun h=>hno ((hl e.on hsize).1 h)
       rw[wG (by rw[hsz];exact hsize) false true]
       simpa using this
     rw[hnil]at this;cases this
    ·obtain⟨hi1,oi,hi2,hi3⟩:=mem_ready.1 hi
     have hilt:=(Array.getElem?_eq_some_iff.1 hi2).1
     obtain⟨p,hp,rfl⟩:=List.mem_map.1 ((hl i hilt).1 hi1)
     obtain⟨L1,L2,rfl⟩:=List.append_of_mem hp
     obtain⟨i,x⟩:=p
     dsimp only at hi hi1 hi2 hi3 hilt ⊢
     obtain⟨hx1,hx2,hx3⟩:=hops (i,x) hp
     dsimp only at hx1 hx2 hx3
     have hancl: ∀ j∈ANC.getD i [],listed.getD j false=true:=by
       intro j hj
       obtain⟨e,he,hje⟩:=hanc i _ hx1 j hj
       have hel:listed.getD e false=true:=by
         unfold JQ at he
         obtain⟨ed,hed,hb⟩:=List.mem_filterMap.1 he
         rw[hi2]at hx1;injection hx1 with hx1;subst hx1
         cases hbb:Region.binds .any ed with
         | false=>rw[hbb]at hb;cases hb
         | true =>
           rw[hbb]at hb
           injection hb with hb
           rw[<- hb];exact hi3 ed (by simpa using hed) (Acp hbb)
       rcases hje with rfl | hje
       ·exact hel
       ·exact hcl e hel j hje
     have hord':=List.pairwise_append.1 hord
     have hpr':=List.pairwise_append.1 hpr
     have hind: ∀ q∈L1,Qu ops.toList q.1 q.2 x=true/\indep ops.toList q.2 x=true:=by
       intro q hq
       have hpq:=hpr'.2.2 q hq (i,x) List.mem_cons_self
       dsimp only at hpq
       refine⟨hpq,(MB hpq).2.2.resolve_left fun hm=> ?_⟩
       rw[hx3]at hm
       have h1:=hancl _ hm
       have hqR:q∈L1++(i,x)::L2:=List.mem_append_left _ hq
       have hqlt:=hin q hqR
       have h2:=(hl q.1 hqlt).2 (List.mem_map.2 ⟨q,hqR,rfl⟩)
       rw[wG (by rw[hsz];exact hqlt) true false,h1]at h2
       cases h2
     have hPre:Pre ((L1++(i,x)::L2).map (·.2)) st:=by
       refine⟨hsrt,fun z hz n hn=> ?_,?_⟩
       ·obtain⟨q,hq,rfl⟩:=List.mem_map.1 hz
        exact hfr q hq n hn
       ·rw[List.pairwise_map]
        exact hpr.imp fun h=>⟨(MB h).1,(MB h).2.1⟩
     have hfront:Xb C ops.toList (x::(L1.map (·.2)++L2.map (·.2))) st st':=by
       refine front (L1.map (·.2)) (by simpa using hPre) (fun y hy=> ?_) (by simpa using hruns)
       obtain⟨q,hq,rfl⟩:=List.mem_map.1 hy
       exact(hind q hq).2
     obtain⟨hstep,hrest⟩:=hfront
     have hsub:List.Sublist (L1++L2) (L1++(i,x)::L2):=List.Sublist.append_left (List.sublist_cons_self _ _) _
     have hnext: ∀ O' m' a' w',Sim V0 O0 w0 O' m' (apply st x.o (Bh C ops.toList x.o st)) a' w'->wpAny P md ops Q fuel (listed.setIfInBounds i true) a' w':=by
       intro O' m' a' w' hS'
       rw[hstep.step]at hS'
       refine ih (L1++L2) _ (by simp at hlen ⊢;omega) (hord.sublist hsub) (fun q hq=>hops q (hsub.subset hq)) (by simpa using hsz) (fun j hj=> ?_) (fun e he j hj=> ?_) (hpr.sublist hsub) (fun q hq n hn=> ?_) (hsrt.apply _ _) (by simpa using hrest) hK hS'
       ·by_cases hji:i=j
        ·subst hji
         have h1:(listed.setIfInBounds i true).getD i true=true:=by simp [Array.getD_eq_getD_getElem?,hsz,hj]
         rw[h1]
         refine⟨fun h=>(by cases h),fun h=> ?_⟩
         obtain⟨q,hq,hqi⟩:=List.mem_map.1 h
         rcases List.mem_append.1 hq with hq | hq
         ·have:=hord'.2.2 q hq (i,x) List.mem_cons_self
          dsimp only at this;omega
         ·have:=(List.pairwise_cons.1 hord'.2.1).1 q hq
          dsimp only at this;omega
        ·rw[getD_set_ne true hji,hl j hj]
         simp only[List.map_append,List.map_cons,List.mem_append,List.mem_cons]
         constructor
         ·rintro (h | h | h)
          ·exact .inl h
          ·exact absurd h.symm hji
          ·exact .inr h
         ·rintro (h | h)
          ·exact .inl h
          ·exact .inr (.inr h)
       ·by_cases hei:i=e
        ·subst hei;exact getD_set_true (hancl j hj)
        ·rw[getD_set_ne false hei]at he
         exact getD_set_true (hcl e he j hj)
       ·have hq':=hsub.subset hq
        have hf:=hfr q hq' n hn
        rcases List.mem_append.1 hq with hq | hq
        ·have hi':=(hind q hq).2
         unfold indep at hi'
         simp only[Bool.and_eq_true]at hi'
         exact MP hf (Cc hi'.2 n hn) (Cc hi'.1.2 n (List.mem_append_right _ hn))
        ·have hpq:=MB ((List.pairwise_cons.1 hpr'.2.1).1 q hq)
         exact MP hf (Cc hpq.1 n hn) (Cc hpq.2.1 n hn)
     have hw:=kF hC hS (ops:=ops) (o:=x.o) (by rw[hstep.step];exact hx2) (wpAny P md ops Q fuel (listed.setIfInBounds i true)) Q hnext
     unfold wpOp
     rw[hx1]
     dsimp only
     split
     ·rename_i hwt;rw[if_pos hwt]at hw;exact .inl hw
     ·rename_i hwt;rw[if_neg hwt]at hw;exact hw
end
end Go.Proofs.YtbaomhegdndpnaaGreatDoor.Vm
namespace Go.Proofs.YtbaomhegdndpnaaGreatDoor.Vm
open Classical
section
variable {P:Program} {C:Ctx} {V0:Nat->Value} {O0 O:Own} {w0 w:World} {m:Nat->Value} {st st':St} {a:Act}
def enum:Nat->List BD->List (Nat×BD)
  | _,[]=>[]
  | i,x::r=>(i,x)::enum (i+1) r
theorem zJ: ∀(l:List BD) (i:Nat),(enum i l).length=l.length:=by
  intro l
  induction l with
  | nil=>intro i;rfl
  | cons x r ih=>intro i;simp [enum,ih]
theorem AdT: ∀(l:List BD) (i:Nat),(enum i l).map (·.2)=l:=by
  intro l
  induction l with
  | nil=>intro i;rfl
  | cons x r ih=>intro i;simp [enum,ih]
theorem UX: ∀(l:List BD) (i:Nat) (p:Nat×BD),p∈enum i l-> ∃ k,p.1=i+k/\l[k]? =some p.2:=by
  intro l
  induction l with
  | nil=>intro i p h;cases h
  | cons x r ih =>
    intro i p h
    rcases List.mem_cons.1 h with rfl | h
    ·exact⟨0,rfl,rfl⟩
    ·obtain⟨k,h1,h2⟩:=ih (i+1) p h
     exact⟨k+1,by omega,by simpa using h2⟩
theorem AdR: ∀(l:List BD) (i j:Nat),j∈(enum i l).map (·.1)↔i<=j/\j<i+l.length:=by
  intro l
  induction l with
  | nil=>intro i j;simp [enum]
  | cons x r ih=>intro i j;simp only[enum,List.map_cons,List.mem_cons,ih,List.length_cons];omega
theorem AdS: ∀(l:List BD) (i:Nat),(enum i l).Pairwise (fun p q=>p.1<q.1):=by
  intro l
  induction l with
  | nil=>intro i;exact List.Pairwise.nil
  | cons x r ih =>
    intro i
    refine List.Pairwise.cons (fun q hq=> ?_) (ih (i+1))
    obtain⟨k,h1,_⟩:=UX _ _ _ hq
    show i<q.1
    omega
theorem Abe {ops:List Oper}: ∀(l:List BD) (i:Nat),Py ops i l=true->(enum i l).Pairwise (fun p q=>Qu ops p.1 p.2 q.2=true):=by
  intro l
  induction l with
  | nil=>intro i _;exact List.Pairwise.nil
  | cons x r ih =>
    intro i h
    simp only[Py,Bool.and_eq_true]at h
    refine List.Pairwise.cons (fun q hq=> ?_) (ih (i+1) h.2)
    obtain⟨k,_,h2⟩:=UX _ _ _ hq
    exact List.all_eq_true.1 h.1 _ (List.mem_of_getElem? h2)
theorem Ac6 {o:Oper} {e:Nat} (h:e∈JQ o): ∃ ed∈o.after,ed.on=e/\Region.binds .any ed=true:=by
  unfold JQ at h
  obtain⟨ed,hed,hb⟩:=List.mem_filterMap.1 h
  cases hbb:Region.binds .any ed with
  | false=>rw[hbb]at hb;cases hb
  | true=>rw[hbb]at hb;injection hb with hb;exact⟨ed,by simpa using hed,hb,hbb⟩
theorem qJ: ∀(l:List Oper) (i:Nat),backward i l=true-> ∀(k:Nat) (o:Oper),l[k]? =some o-> ∀ e∈o.after,e.on<i+k:=by
  intro l
  induction l with
  | nil=>intro i _ k o h;simp at h
  | cons x r ih =>
    intro i h k o hk e he
    simp only[backward,Bool.and_eq_true]at h
    cases k with
    | zero =>
      simp at hk;subst hk
      have:=List.all_eq_true.1 h.1 e (by simpa using he)
      rw[Nat.blt_eq]at this;exact this
    | succ k =>
      have:=ih (i+1) h.2 k o (by simpa using hk) e he
      omega
theorem kV: ∀(l:List Oper) (i:Nat),GR i l=true-> ∀(k:Nat) (o:Oper),l[k]? =some o-> ∀ e∈o.after,Region.binds .any e=true->e.on<i+k:=by
  intro l
  induction l with
  | nil=>intro i _ k o h;simp at h
  | cons x r ih =>
    intro i h k o hk e he hb
    simp only[GR,Bool.and_eq_true]at h
    cases k with
    | zero =>
      simp at hk;subst hk
      have:=List.all_eq_true.1 h.1 e (by simpa using he)
      rw[hb]at this
      have:Nat.blt e.on i=true:=by simpa using this
      rw[Nat.blt_eq]at this;exact this
    | succ k =>
      have:=ih (i+1) h.2 k o (by simpa using hk) e he hb
      omega
theorem rY {md:Region.Mode} {n:Nat} {rk:List Nat}: ∀(l:List Oper) (i:Nat),V7 md n rk i l=true-> ∀(k:Nat) (o:Oper),l[k]? =some o-> ∀ e∈o.after,Region.binds md e=true->e.on<n/\rk.getD e.on 0<rk.getD (i+k) 0:=by
  intro l
  induction l with
  | nil=>intro i _ k o h;simp at h
  | cons x r ih =>
    intro i h k o hk e he hb
    simp only[V7,Bool.and_eq_true]at h
    cases k with
    | zero =>
      simp at hk;subst hk
      have:=List.all_eq_true.1 h.1 e (by simpa using he)
      rw[hb]at this
      have:(Nat.blt e.on n&&Nat.blt (rk.getD e.on 0) (rk.getD i 0))=true:=by simpa using this
      rw[Bool.and_eq_true,Nat.blt_eq,Nat.blt_eq]at this
      exact this
    | succ k =>
      have:=ih (i+1) h.2 k o (by simpa using hk) e he hb
      rw[show i+(k+1)=i+1+k from by omega];exact this
theorem xN {ops:Array Oper} (h:ordered ops.toList=true) (md:Region.Mode): ∃ rk:Nat->Nat,∀(j:Nat) (o:Oper),ops[j]? =some o-> ∀ e∈o.after,Region.binds md e=true->e.on<ops.size/\rk e.on<rk j:=by
  unfold ordered at h
  rw[Bool.and_eq_true,Bool.or_eq_true]at h
  rcases h.2 with h | h
  ·refine⟨id,fun j o hj e he _=> ?_⟩
   have h1:=qJ _ _ h j o (by simpa using hj) e he
   have h2:=(Array.getElem?_eq_some_iff.1 hj).1
   exact⟨by omega,by show e.on<j;omega⟩
  ·simp only[Bool.and_eq_true]at h
   have key:jS md ops.toList=true:=by cases md<;>first | exact h.1.1 | exact h.1.2 | exact h.2
   refine⟨fun i=>(ranks md ops.toList ops.toList.length (ops.toList.map fun _=>0)).getD i 0,fun j o hj e he hb=> ?_⟩
   have:=rY _ _ key j o (by simpa using hj) e he hb
   rw[Nat.zero_add]at this
   exact⟨by simpa using this.1,this.2⟩
theorem mF {α β :Type} {f g: α ->List β}: ∀(l:List α),(∀ x∈l,f x=g x)->l.flatMap f=l.flatMap g:=by
  intro l
  induction l with
  | nil=>intro _;rfl
  | cons x r ih=>intro h;simp only[List.flatMap_cons];rw[h x List.mem_cons_self,ih (fun y hy=>h y (List.mem_cons_of_mem _ hy))]
theorem Abl {ops:List Oper}: ∀(l:List Oper) (acc:List (List Nat)) (st:St),GR acc.length l=true->(GG C ops l acc st).length=l.length /\
    ∀(k:Nat) (o:Oper),l[k]? =some o-> ∃ x,(GG C ops l acc st)[k]? =some x/\x.o=o/\x.anc=(JQ o).flatMap (fun e=>e::(acc++(GG C ops l acc st).map BD.anc).getD e []):=by
  intro l
  induction l with
  | nil=>intro acc st _;exact⟨rfl,fun k o h=>by simp at h⟩
  | cons o' r ih =>
    intro acc st h
    have hb:=kV _ _ h
    simp only[GR,Bool.and_eq_true]at h
    let an:=(JQ o').flatMap (fun e=>e::acc.getD e [])
    let s1:=apply st o' (Bh C ops o' st)
    have hf:GG C ops (o'::r) acc st=⟨o',Bh C ops o' st,BM o' st (Bd o' st),oneOf C o'.op (Bd o' st),an⟩::GG C ops r (acc++[an]) s1:=rfl
    obtain⟨g1,g2⟩:=ih (acc++[an]) s1 (by simpa using h.2)
    rw[hf]
    refine⟨by simp [g1],fun k o hk=> ?_⟩
    cases k with
    | zero =>
      simp at hk;subst hk
      refine⟨_,rfl,rfl,?_⟩
      refine mF _ fun e he=> ?_
      obtain⟨ed,h1,h2,h3⟩:=Ac6 he
      have hlt:=hb 0 o' rfl ed h1 h3
      rw[List.getD_eq_getElem?_getD,List.getD_eq_getElem?_getD,List.getElem?_append_left (by omega)]
    | succ k =>
      obtain⟨x,h1,h2,h3⟩:=g2 k o (by simpa using hk)
      refine⟨x,by simpa using h1,h2,?_⟩
      rw[h3]
      simp [List.append_assoc]
theorem Abk {ρ :Type} {ops:List Oper} {K:St->Option ρ} {v: ρ}: ∀(l:List Oper) (acc:List (List Nat)) (st:St),Jk C ops l st K=some v-> ∃ st',Xb C ops (GG C ops l acc st) st st'/\K st'=some v/\ ∀ x∈GG C ops l acc st,Am x.δ.ok:=by
  intro l
  induction l with
  | nil=>intro acc st h;exact⟨st,rfl,h,fun x hx=>by cases hx⟩
  | cons o r ih =>
    intro acc st h
    obtain⟨h1,h2⟩:=GN (show allT (Bh C ops o st).ok (Jk C ops r (apply st o (Bh C ops o st)) K)=some v from h)
    obtain⟨st',h3,h4,h5⟩:=ih (acc++[(JQ o).flatMap (fun e=>e::acc.getD e [])]) _ h2
    refine⟨st',⟨⟨rfl,rfl,rfl⟩,h3⟩,h4,fun x hx=> ?_⟩
    rcases List.mem_cons.1 hx with rfl | hx
    ·exact h1
    ·exact h5 x hx
theorem Sim.drew (hS:Sim V0 O0 w0 O m st a w):Sim V0 O0 w0 O m st a {w with drawn:=w.drawn+1} :=
  hS.next (st':=st) (d:=none) (v:=undef) (x:=.undef) (T:=fun _=>False) (Nw:=fun _=>False) ⟨rfl,rfl,rfl,Nat.le_refl _,fun _ _=>.inl rfl⟩ ⟨fun _ _ _ h=>h,fun _ _ _ _ h _=>h⟩ (fun _ _ _ h=>h) (fun _ y ho=>.inr ⟨y,ho,rfl,rfl⟩) (fun _ h=>h.elim) (fun _ h=>h.elim)
    (fun _ _ ho=>.inl ⟨id,ho,rfl⟩) rfl (fun h=>absurd rfl h)
theorem Abc {ρ :Type} (hC:D5 P C) {fin:St->Option ρ} {v: ρ} (id:Nat) (ops:Array Oper) {O:Own} {m:Nat->Value} {st:St} {a:Act} {w:World} (K:Ex->St->Option ρ) (hS:Sim V0 O0 w0 O m st a w) (hd:Gm C ops.toList st=true)
    (hx:Jk C ops.toList ops.toList st (fun st'=>K .normal st')=some v):(Code.region id ops true).wp P (Post V0 O0 w0 fin K v) a w:=by
  unfold Gm at hd
  dsimp only at hd
  simp only[Bool.and_eq_true]at hd
  obtain⟨⟨⟨d1,d2⟩,d3⟩,d4⟩:=hd
  have d1A:GR 0 ops.toList=true:=by
    have:=d1
    unfold ordered at this
    rw[Bool.and_eq_true]at this
    exact this.1
  obtain⟨f1,f2⟩:=Abl (C:=C) (ops:=ops.toList) ops.toList [] st d1A
  obtain⟨st',r1,r2,r3⟩:=Abk ops.toList [] st hx
  generalize hfs:GG C ops.toList ops.toList [] st=fs at *
  have hlen:fs.length=ops.size:=by rw[f1];simp
  have hsize:(enum 0 fs).length=ops.size:=by rw[zJ,hlen]
  have hany: ∀ md,wpAny P md ops (Post V0 O0 w0 fin K v) ops.size (Array.replicate ops.size false) a {w with drawn:=w.drawn+1}:=by
    intro md
    obtain⟨rk,hrk⟩:=xN d1 md
    refine AdN (V0:=V0) (O0:=O0) (w0:=w0) hC (K:=fun st'=>K .normal st') (v:=v) (st':=st') (fun O' m' s a' w' h1 h2=>⟨O',m',s,h1,h2⟩) (ANC:=fs.map BD.anc) (rk:=rk) (fun j o hj i hi=> ?_) hrk
      ops.size (enum 0 fs) _ hsize (AdS _ _) (fun p hp=> ?_) (by simp) (fun i hi=> ?_) (fun e he i _=> ?_) (Abe _ _ d2) (fun p hp n hn=> ?_) (AbT d4) (by rw[AdT];exact r1) r2 hS.drew
    ·obtain⟨x,h1,h2,h3⟩:=f2 j o (by simpa using hj)
     have e1:(fs.map BD.anc).getD j []=x.anc:=by
       rw[List.getD_eq_getElem?_getD,List.getElem?_map,h1];rfl
     rw[e1,h3]at hi
     obtain⟨e,he,hie⟩:=List.mem_flatMap.1 hi
     rcases List.mem_cons.1 hie with h | h
     ·exact⟨e,he,.inl h⟩
     ·exact⟨e,he,.inr (by simpa using h)⟩
    ·obtain⟨k,h1,h2⟩:=UX _ _ _ hp
     rw[Nat.zero_add]at h1
     have hk:k<ops.toList.length:=by
       rw[<- f1]
       rcases Nat.lt_or_ge k fs.length with h | h
       ·exact h
       ·rw[List.getElem?_eq_none h]at h2;cases h2
     obtain⟨x,h3,h4,h5⟩:=f2 k ops.toList[k] (by simp at hk ⊢)
     rw[h2]at h3
     injection h3 with h3
     refine⟨?_,r3 _ (List.mem_of_getElem? h2),?_⟩
     ·rw[h1,h3,h4];simp at hk ⊢
     ·rw[h1,List.getD_eq_getElem?_getD,List.getElem?_map,h2];rfl
    ·rw[AdR]
     simp [Array.getD_eq_getD_getElem?,hi,hlen]
    ·have:(Array.replicate ops.size false).getD e false=false:=by
       rw[Array.getD_eq_getD_getElem?,Array.getElem?_replicate]
       split<;>rfl
     rw[this]at he;cases he
    ·obtain⟨k,_,h2⟩:=UX _ _ _ hp
     exact List.all_eq_true.1 d3 n (List.mem_flatMap.2 ⟨_,List.mem_of_getElem? h2,hn⟩)
  refine wp_region_draw fun t=> ?_
  unfold Region.schedule
  split
  ·exact wpAny_sound _ _ _ _ _ (hany _)
  ·exact wpAny_sound _ _ _ _ _ (hany _)
end
end Go.Proofs.YtbaomhegdndpnaaGreatDoor.Vm
namespace Go.Proofs.YtbaomhegdndpnaaGreatDoor.Vm
open Classical
section
variable {P:Program} {C:Ctx}
def uD:List (Nat×Sig)->Nat->Option Sig
  | [],_=>none
  | (k,x)::r,t=>bif Nat.beq k t then some x else uD r t
theorem AcG: ∀ {l:List (Nat×Sig)} {t:Nat} {x:Sig},uD l t=some x->(t,x)∈l:=by
  intro l
  induction l with
  | nil=>intro t x h;cases h
  | cons p r ih=>grind[uD,I4]
def AeG:List (Nat×Nrm)->Nat->Option Nrm
  | [],_=>none
  | (k,x)::r,t=>bif Nat.beq k t then some x else AeG r t
def tK:List (Nat×Alt)->Nat->Option Alt
  | [],_=>none
  | (k,x)::r,t=>bif Nat.beq k t then some x else tK r t
def uA:List (Nat×(Nat->Sig))->Nat->Option (Nat->Sig)
  | [],_=>none
  | (k,x)::r,t=>bif Nat.beq k t then some x else uA r t
def AeI:List (Nat×Nat×Nat×List Nat)->Nat->Option (Nat×Nat×List Nat)
  | [],_=>none
  | (k,x)::r,t=>bif Nat.beq k t then some x else AeI r t
def AeD:List (Nat×List (Nat×Nat))->Nat->List (Nat×Nat)
  | [],_=>[]
  | (k,x)::r,t=>bif Nat.beq k t then x else AeD r t
def ctx (P:Program) (gs:List (Nat×Sig)) (ns:List (Nat×Nrm)) (aa:List (Nat×Alt):=[]) (dd:List (Nat×(Nat->Sig)):=[]) (cc:List Nat:=[]) (bb:List Nat:=[]) (ss:List (Nat×Nat×Nat×List Nat):=[]) (kk:List (Nat×List (Nat×Nat)):=[]):Ctx:=⟨Acb P,uD gs,AeG ns,tK aa,uA dd,cc,bb,fun _=>none,AeI ss,AeD kk⟩
def UA (P:Program) (F:Nat->Sig):Prop:=(∀ xs,(F 0).ok xs=false)/\ ∀ f xs,(F (f+1)).ok xs=true->Spec P f (F (f+1))
def uO (P:Program):List (Nat×(Nat->Sig))->Prop
  | []=>True
  | (_,F)::r=>UA P F/\uO P r
theorem uO.look: ∀ {l:List (Nat×(Nat->Sig))},uO P l-> ∀ t F,uA l t=some F->UA P F:=by
  intro l
  induction l with
  | nil=>intro _ t F h;cases h
  | cons p r ih=>grind[uA,I4,uO,UA]
def Aa5 (P:Program):List (Nat×Alt)->Prop
  | []=>True
  | (f,q)::r=>(Spec P f q.1/\Spec P f q.2.1)/\Aa5 P r
theorem Aa5.look: ∀ {l:List (Nat×Alt)},Aa5 P l-> ∀ f q,tK l f=some q->Spec P f q.1/\Spec P f q.2.1:=by
  intro l
  induction l with
  | nil=>intro _ f q h;cases h
  | cons p r ih =>
    intro h f q hq
    obtain⟨k,x⟩:=p
    simp only[tK,I4]at hq
    by_cases hk:k=f
    ·simp only[hk,decide_true,cond_true,Option.some.injEq]at hq
     rw[<- hq,<- hk];exact h.1
    ·rw[show decide (k=f)=false by simpa using hk]at hq
     exact ih h.2 f q hq
def dR (P:Program):List (Nat×Sig)->Prop
  | []=>True
  | (f,sg)::r=>Spec P f sg/\dR P r
theorem dR.mem: ∀ {l:List (Nat×Sig)},dR P l-> ∀ p∈l,Spec P p.1 p.2:=by
  intro l
  induction l with
  | nil=>intro _ p hp;cases hp
  | cons q r ih=>grind[dR,Spec]
theorem Ac {gs:List (Nat×Sig)} {ns:List (Nat×Nrm)} {aa:List (Nat×Alt)} {dd:List (Nat×(Nat->Sig))} {cc bb:List Nat} {ss:List (Nat×Nat×Nat×List Nat)} {kk:List (Nat×List (Nat×Nat))} (hG:dR P gs) (hA:Aa5 P aa:=by trivial) (hD:uO P dd:=by trivial):D5 P (ctx P gs ns aa dd cc bb ss kk) :=
  ⟨fun _ _ h=>h,fun _ _ h=>hG.mem _ (AcG h),hA.look,hD.look⟩
theorem enters {f:FuncId} {fn:Func} (hf:P.funcs[f]? =some fn) (hb:fn.body.isNone=false) (hn:(fn.name== "runtime.NumGoroutine")=false) (args:Array Value) (w:World):(callFunc f args).run P w= .ok (.enter f args) w:=by
  have h1:fn.name≠ "runtime.NumGoroutine" :=by simpa using hn
  have h2:fn.body≠none:=by intro e;rw[e]at hb;cases hb
  simp [callFunc,hf,h1,h2]
def BH:(ks:List (Bool×CK))->List A->Option (tyl (ks.map (·.2))).Val
  | []=>fun
    | []=>some ()
    | _=>none
  | (_,.bool)::r=>fun
    | .bool b::cs=>(BH r cs).map (fun q=>Ty.mk2 _ b q)
    | _=>none
  | (_,.int k)::r=>fun
    | .int j n::cs=>bif A.kEq j k then(BH r cs).map (fun q=>Ty.mk2 _ n q)else none
    | _=>none
  | (_,.str)::r=>fun
    | .str s::cs=>(BH r cs).map (fun q=>Ty.mk2 _ s q)
    | _=>none
  | (false,.sl _ t)::r=>fun
    | .sl l::cs=>match l.cast t with
      | some xs=>(BH r cs).map (fun q=>Ty.mk2 _ xs q)
      | none=>none
    | _=>none
  | (true,.sl e t)::r=>fun
    | .usl z e' l::cs=>bif z&&Nat.beq e' e then match l.cast t with
      | some xs=>(BH r cs).map (fun q=>Ty.mk2 _ xs q)
      | none=>none
      else none
    | _=>none
  | (true,.sln e t)::r=>fun
    | .usl z e' l::cs=>bif !z&&Nat.beq e' e then match l.cast t with
      | some xs=>(BH r cs).map (fun q=>Ty.mk2 _ xs q)
      | none=>none
      else none
    | _=>none
  | (false,.sln _ t)::r=>fun
    | .sln l::cs=>match l.cast t with
      | some xs=>(BH r cs).map (fun q=>Ty.mk2 _ xs q)
      | none=>none
    | _=>none
  | (_,.ptr)::r=>fun
    | .BN::cs=>(BH r cs).map (fun q=>q)
    | _=>none
  | (_,.fn)::r=>fun
    | .fn n::cs=>(BH r cs).map (fun q=>Ty.mk2 _ n q)
    | _=>none
  | (_,.mp kt vt)::r=>fun
    | .ump l::cs=>match l.cast kt vt with
      | some xs=>(BH r cs).map (fun q=>Ty.mk2 _ xs q)
      | none=>none
    | _=>none
  | (true,.bx t)::r=>fun
    | .box ds::cs=>bif (t.mk (ds.map A.weak)).1&&ds.all A.AbB then(BH r cs).map (fun q=>Ty.mk2 _ [(t.mk (ds.map A.weak)).2] q)else none
    | _=>none
  | (false,.bx _)::_=>fun _=>none
  | (_,.oth)::_=>fun _=>none
def CW:(ks:List (Bool×CK))->(tyl (ks.map (·.2))).Val->List A
  | [],_=>[]
  | (_,.bool)::r,v=>.bool (Ty.hd _ v)::CW r (Ty.tl _ v)
  | (_,.int k)::r,v=>.int k (Ty.hd _ v)::CW r (Ty.tl _ v)
  | (_,.str)::r,v=>.str (Ty.hd _ v)::CW r (Ty.tl _ v)
  | (false,.sl _ t)::r,v=>.sl ⟨t,Ty.hd _ v⟩::CW r (Ty.tl _ v)
  | (true,.sl e t)::r,v=>.usl true e ⟨t,Ty.hd _ v⟩::CW r (Ty.tl _ v)
  | (true,.sln e t)::r,v=>.usl false e ⟨t,Ty.hd _ v⟩::CW r (Ty.tl _ v)
  | (false,.sln _ t)::r,v=>.sln ⟨t,Ty.hd _ v⟩::CW r (Ty.tl _ v)
  | (_,.ptr)::r,v=>.BN::CW r v
  | (_,.fn)::r,v=>.fn (Ty.hd _ v)::CW r (Ty.tl _ v)
  | (_,.mp kt vt)::r,v=>.ump ⟨kt,vt,Ty.hd _ v⟩::CW r (Ty.tl _ v)
  | (true,.bx t)::r,v=>.box ((t.cells ((Ty.hd _ v).headD t.zero)).map A.strong)::CW r (Ty.tl _ v)
  | (false,.bx _)::_,_=>[]
  | (_,.oth)::_,_=>[]
theorem Aal: ∀(ds:List A),ds.all A.AbB=true->(ds.map A.weak).map A.strong=ds:=by
  intro ds
  induction ds with
  | nil=>intro _;rfl
  | cons d ds ih =>
    intro h
    rw[List.all_cons,Bool.and_eq_true]at h
    rw[List.map_cons,List.map_cons,ih h.2]
    congr 1
    cases d<;>first | rfl | cases h.1
theorem PS: ∀(ks:List (Bool×CK)) (cs:List A) (v:(tyl (ks.map (·.2))).Val),BH ks cs=some v->cs=CW ks v:=by
  intro ks
  induction ks with
  | nil =>
    intro cs v h
    cases cs with
    | nil=>rfl
    | cons _ _=>cases h
  | cons k ks ih =>
    intro cs v h
    obtain⟨u,k⟩:=k
    have none': ∀ {α :Type} {x: α},(none:Option α)=some x->False:=fun h=>by cases h
    cases k with
    | bool =>
      simp only[BH]at h
      split at h
      ·rename_i b cs
       cases hd:BH ks cs with
       | none=>rw[hd]at h;cases h
       | some q =>
         rw[hd]at h
         injection h with h
         subst h
         simp only[CW,Ty.Ee,Ty.Eh]
         rw[<- ih cs q hd]
      ·exact(none' h).elim
    | int k =>
      simp only[BH]at h
      split at h
      ·rename_i j n cs
       cases hk:A.kEq j k with
       | false=>rw[hk]at h;exact(none' h).elim
       | true =>
         rw[hk]at h
         cases hd:BH ks cs with
         | none=>rw[hd]at h;cases h
         | some q =>
           rw[hd]at h
           injection h with h
           subst h
           simp only[CW,Ty.Ee,Ty.Eh]
           rw[<- ih cs q hd,A.ES hk]
      ·exact(none' h).elim
    | str =>
      simp only[BH]at h
      split at h
      ·rename_i b cs
       cases hd:BH ks cs with
       | none=>rw[hd]at h;cases h
       | some q =>
         rw[hd]at h
         injection h with h
         subst h
         simp only[CW,Ty.Ee,Ty.Eh]
         rw[<- ih cs q hd]
      ·exact(none' h).elim
    | sl e t =>
      cases u with
      | false =>
        simp only[BH]at h
        split at h
        ·rename_i l cs
         cases hc:l.cast t with
         | none=>rw[hc]at h;exact(none' h).elim
         | some xs =>
           rw[hc]at h
           dsimp only at h
           cases hd:BH ks cs with
           | none=>rw[hd]at h;cases h
           | some q =>
             rw[hd]at h
             injection h with h
             subst h
             simp only[CW,Ty.Ee,Ty.Eh]
             rw[<- ih cs q hd,Sl.EH hc]
        ·exact(none' h).elim
      | true =>
        simp only[BH]at h
        split at h
        ·rename_i z e' l cs
         cases he:z&&Nat.beq e' e with
         | false=>rw[he]at h;exact(none' h).elim
         | true =>
           rw[he]at h
           dsimp only[cond_true]at h
           cases hc:l.cast t with
           | none=>rw[hc]at h;exact(none' h).elim
           | some xs =>
             rw[hc]at h
             dsimp only at h
             cases hd:BH ks cs with
             | none=>rw[hd]at h;cases h
             | some q =>
               rw[hd]at h
               injection h with h
               subst h
               simp only[CW,Ty.Ee,Ty.Eh]
               rw[Bool.and_eq_true]at he
               rw[<- ih cs q hd,Sl.EH hc,Nat.eq_of_beq_eq_true he.2,he.1]
        ·exact(none' h).elim
    | ptr =>
      simp only[BH]at h
      split at h
      ·rename_i cs
       cases hd:BH ks cs with
       | none=>rw[hd]at h;cases h
       | some q =>
         rw[hd]at h
         injection h with h
         subst h
         simp only[CW]
         rw[<- ih cs _ hd]
      ·exact(none' h).elim
    | fn =>
      simp only[BH]at h
      split at h
      ·rename_i b cs
       cases hd:BH ks cs with
       | none=>rw[hd]at h;cases h
       | some q =>
         rw[hd]at h
         injection h with h
         subst h
         simp only[CW,Ty.Ee,Ty.Eh]
         rw[<- ih cs q hd]
      ·exact(none' h).elim
    | sln e t =>
      cases u with
      | false =>
        simp only[BH]at h
        split at h
        ·rename_i l cs
         cases hc:l.cast t with
         | none=>rw[hc]at h;exact(none' h).elim
         | some xs =>
           rw[hc]at h
           dsimp only at h
           cases hd:BH ks cs with
           | none=>rw[hd]at h;cases h
           | some q =>
             rw[hd]at h
             injection h with h
             subst h
             simp only[CW,Ty.Ee,Ty.Eh]
             rw[<- ih cs q hd,Sl.EH hc]
        ·exact(none' h).elim
      | true =>
        simp only[BH]at h
        split at h
        ·rename_i z e' l cs
         cases he: !z&&Nat.beq e' e with
         | false=>rw[he]at h;exact(none' h).elim
         | true =>
           rw[he]at h
           dsimp only[cond_true]at h
           cases hc:l.cast t with
           | none=>rw[hc]at h;exact(none' h).elim
           | some xs =>
             rw[hc]at h
             dsimp only at h
             cases hd:BH ks cs with
             | none=>rw[hd]at h;cases h
             | some q =>
               rw[hd]at h
               injection h with h
               subst h
               simp only[CW,Ty.Ee,Ty.Eh]
               rw[Bool.and_eq_true]at he
               rw[<- ih cs q hd,Sl.EH hc,Nat.eq_of_beq_eq_true he.2,show z=false from by simpa using he.1]
        ·exact(none' h).elim
    | mp kt vt =>
      simp only[BH]at h
      split at h
      ·rename_i l cs
       cases hc:l.cast kt vt with
       | none=>rw[hc]at h;exact(none' h).elim
       | some xs =>
         rw[hc]at h
         dsimp only at h
         cases hd:BH ks cs with
         | none=>rw[hd]at h;cases h
         | some q =>
           rw[hd]at h
           injection h with h
           subst h
           simp only[CW,Ty.Ee,Ty.Eh]
           rw[<- ih cs q hd,Mp.EH hc]
      ·exact(none' h).elim
    | bx t =>
      cases u with
      | false=>simp only[BH]at h;exact(none' h).elim
      | true =>
        simp only[BH]at h
        split at h
        ·rename_i ds cs
         cases hk:(t.mk (ds.map A.weak)).1&&ds.all A.AbB with
         | false=>rw[hk]at h;exact(none' h).elim
         | true =>
           rw[hk]at h
           rw[Bool.and_eq_true]at hk
           cases hd:BH ks cs with
           | none=>rw[hd]at h;cases h
           | some q =>
             rw[hd]at h
             injection h with h
             subst h
             simp only[CW,Ty.Ee,Ty.Eh]
             rw[<- ih cs q hd]
             congr 2
             show _=(t.cells (t.mk (ds.map A.weak)).2).map A.strong
             rw[Ty.Gi _ _ hk.1,Aal _ hk.2]
        ·exact(none' h).elim
    | oth=>simp only[BH]at h;exact(none' h).elim
def Sh.ks:Sh->List (Bool×CK)
  | .cell u k=>[(u,k)]
  | .agg ks=>ks
  | .box ks=>ks
  | .clo _ ks=>ks
  | .map kt vt=>[(true,.mp kt vt)]
def Sh.T (s:Sh):Type:=(tyl (s.ks.map (·.2))).Val
def Sh.dec:(s:Sh)->A->Option s.T
  | .cell u k,x=>BH [(u,k)] [x]
  | .agg ks,.agg cs=>BH ks cs
  | .box ks,.box cs=>BH ks cs
  | .clo f ks,.cbx g cs=>bif Nat.beq f g then BH ks cs else none
  | .map kt vt,x=>BH [(true,.mp kt vt)] [x]
  | _,_=>none
def Sh.enc:(s:Sh)->s.T->A
  | .cell u k,v=>(CW [(u,k)] v).getD 0 .undef
  | .agg ks,v=>.agg (CW ks v)
  | .box ks,v=>.box (CW ks v)
  | .clo f ks,v=>.cbx f (CW ks v)
  | .map kt vt,v=>(CW [(true,.mp kt vt)] v).getD 0 .undef
theorem Sh.AeR {s:Sh} {x:A} {v:s.T} (h:s.dec x=some v):x=s.enc v:=by
  cases s with
  | cell u k =>
    have:=PS _ _ _ (show BH [(u,k)] [x]=some v from h)
    show x=(CW [(u,k)] v).getD 0 .undef
    rw[<- this];rfl
  | agg ks =>
    cases x with
    | agg cs =>
      have:=PS _ _ _ (show BH ks cs=some v from h)
      show _=A.agg (CW ks v)
      rw[<- this]
    | _=>cases h
  | box ks =>
    cases x with
    | box cs =>
      have:=PS _ _ _ (show BH ks cs=some v from h)
      show _=A.box (CW ks v)
      rw[<- this]
    | _=>cases h
  | clo f ks =>
    cases x with
    | cbx g cs =>
      have h:(bif Nat.beq f g then BH ks cs else none)=some v:=h
      cases hb:Nat.beq f g with
      | false=>rw[hb]at h;cases h
      | true =>
        rw[hb]at h
        have:=PS _ _ _ (show BH ks cs=some v from h)
        show _=A.cbx f (CW ks v)
        rw[<- this,Nat.eq_of_beq_eq_true hb]
    | _=>cases h
  | map kt vt =>
    have:=PS _ _ _ (show BH [(true,.mp kt vt)] [x]=some v from h)
    show x=(CW [(true,.mp kt vt)] v).getD 0 .undef
    rw[<- this];rfl
def prS (s:Sh) (β :Type):List Sh->Type
  | []=>s.T
  | _::_=>s.T× β
def ShT:List Sh->Type
  | []=>Unit
  | s::r=>prS s (ShT r) r
def hdS (s:Sh):(r:List Sh)->prS s (ShT r) r->s.T
  | [],v=>v
  | _::_,v=>v.1
def tlS (s:Sh):(r:List Sh)->prS s (ShT r) r->ShT r
  | [],_=>()
  | _::_,v=>v.2
def mkS (s:Sh):(r:List Sh)->s.T->ShT r->prS s (ShT r) r
  | [],a,_=>a
  | _::_,a,b=>(a,b)
theorem Af3 (s:Sh) (r:List Sh) (a:s.T) (b:ShT r):hdS s r (mkS s r a b)=a:=by cases r<;>rfl
theorem AfT (s:Sh) (r:List Sh) (a:s.T) (b:ShT r):tlS s r (mkS s r a b)=b:=by cases r<;>rfl
def tX (s:Sh) (r:List Sh):Option s.T->Option (ShT r)->Option (prS s (ShT r) r)
  | some a,some b=>some (mkS s r a b)
  | _,_=>none
theorem AaL {s:Sh} {r:List Sh} {x:Option s.T} {y:Option (ShT r)} {v:prS s (ShT r) r} (h:tX s r x y=some v): ∃ a b,x=some a/\y=some b/\v=mkS s r a b:=by
  cases x with
  | none=>cases h
  | some a =>
    cases y with
    | none=>cases h
    | some b=>grind[Sh,ShT,prS,tX,mkS]
def L6:(ss:List Sh)->List A->Option (ShT ss)
  | []=>fun
    | []=>some ()
    | _=>none
  | s::r=>fun
    | []=>none
    | x::xs=>tX s r (s.dec x) (L6 r xs)
def encs:(ss:List Sh)->ShT ss->List A
  | [],_=>[]
  | s::r,v=>s.enc (hdS s r v)::encs r (tlS s r v)
theorem vK: ∀(ss:List Sh) (xs:List A) (v:ShT ss),L6 ss xs=some v->xs=encs ss v:=by
  intro ss
  induction ss with
  | nil =>
    intro xs v h
    cases xs with
    | nil=>rfl
    | cons _ _=>cases h
  | cons s ss ih =>
    intro xs v h
    cases xs with
    | nil=>cases h
    | cons x xs =>
      obtain⟨a,b,h1,h2,h3⟩:=AaL (show tX s ss (s.dec x) (L6 ss xs)=some v from h)
      subst h3
      show _=s.enc (hdS s ss (mkS s ss a b))::encs ss (tlS s ss (mkS s ss a b))
      rw[Af3,AfT,<- Sh.AeR h1,<- ih xs b h2]
def Sh.zero (s:Sh):s.T:=Ty.zero _
def zeroS:(ss:List Sh)->ShT ss
  | []=>()
  | s::r=>mkS s r s.zero (zeroS r)
def outS (pars ress:List Sh):List Sh:=ress++pars.filterMap (fun | .box ks=>some (.agg ks) | .clo _ ks=>some (.agg ks) | .map kt vt=>some (.map kt vt) | _=>none)
def Sig.of (pars ress:List Sh) (f:ShT pars->Option (ShT (outS pars ress))):Sig where
  pars:=pars
  ress:=ress
  ok xs:=match L6 pars xs with
    | some a=>(f a).isSome
    | none=>false
  val xs:=match L6 pars xs with
    | some a=>encs (outS pars ress) ((f a).getD (zeroS _))
    | none=>[]
def UU (pars ress:List Sh):List (Nat×(ShT pars->Option (ShT (outS pars ress))))->Nat->ShT pars->Option (ShT (outS pars ress))
  | [],_,_=>none
  | (f,g)::r,n,x=>bif Nat.beq n (f+1)then g x else UU pars ress r n x
def WZ (P:Program) (pars ress:List Sh):List (Nat×(ShT pars->Option (ShT (outS pars ress))))->Prop
  | []=>True
  | (f,g)::r=>Spec P f (Sig.of pars ress g)/\WZ P pars ress r
theorem Ac3 (pars ress:List Sh): ∀(l:List (Nat×(ShT pars->Option (ShT (outS pars ress))))) (x:ShT pars),UU pars ress l 0 x=none:=by
  intro l
  induction l with
  | nil=>intro x;rfl
  | cons p r ih=>intro x;obtain⟨f,g⟩:=p;simp only[UU];exact ih x
theorem Ac2 {pars ress:List Sh}: ∀ {l:List (Nat×(ShT pars->Option (ShT (outS pars ress))))},WZ P pars ress l-> ∀ f,(∀ x,UU pars ress l (f+1) x=none)\/Spec P f (Sig.of pars ress (UU pars ress l (f+1))):=by
  intro l
  induction l with
  | nil=>intro _ f;exact .inl fun x=>rfl
  | cons p r ih=>grind[UU,I4,Sh,ShT,outS,WZ,Spec,Sig.of]
theorem Aax {pars ress:List Sh} {l:List (Nat×(ShT pars->Option (ShT (outS pars ress))))} (h:WZ P pars ress l):UA P (fun n=>Sig.of pars ress (UU pars ress l n)):=by
  refine⟨fun xs=> ?_,fun f xs hok=> ?_⟩
  ·show(match L6 pars xs with | some a=>(UU pars ress l 0 a).isSome | none=>false)=false
   cases L6 pars xs with
   | none=>rfl
   | some a=>grind[Ac3]
  ·rcases Ac2 h f with h0 | h0
   ·have hok':(match L6 pars xs with | some a=>(UU pars ress l (f+1) a).isSome | none=>false)=true:=hok
    cases hd:L6 pars xs with
    | none=>rw[hd]at hok';cases hok'
    | some a=>simp_all[hd,Sh,ShT,outS,WZ,UA,Sig.of]
   ·exact h0
theorem Sig.Uh {pars ress:List Sh} {f:ShT pars->Option (ShT (outS pars ress))} {xs rs:List A} (h:(Sig.of pars ress f).F xs=some rs): ∃ a o,xs=encs pars a/\f a=some o/\rs=encs _ o:=by
  unfold Sig.F Sig.of at h
  dsimp only at h
  cases hd:L6 pars xs with
  | none=>rw[hd]at h;cases h
  | some a =>
    rw[hd]at h
    dsimp only at h
    cases hf:f a with
    | none=>rw[hf]at h;cases h
    | some o =>
      rw[hf]at h
      injection h with h
      exact⟨a,o,vK _ _ _ hd,hf,h.symm⟩
def finT (C:Ctx) (pars ress:List Sh) (outs:List (Nat×Option Nat)) (st:St):Option (ShT (outS pars ress)) :=
  allT ((A8 st.Aa ress (DU C outs st)).1++(A8 st.Aa (pars.map En) (Eo pars 0)).1 ++
      [nodup ((Dh st.Aa 256000 256 ress (DU C outs st)++Dh st.Aa 0 256 (pars.map En) (Eo pars 0)).map (·.1)),!(ress.any wS||(pars.map En).any wS)||((A8 st.Aa ress (DU C outs st)).2.2.1.isEmpty&&(A8 st.Aa (pars.map En) (Eo pars 0)).2.2.1.isEmpty)]++outs.flatMap (fun q=>(dB C st q).1))
    (L6 _ ((A8 st.Aa ress (DU C outs st)).2.1++(BA pars 0).map (fun i=>unbox ((A8 st.Aa (pars.map En) (Eo pars 0)).2.1.getD i .undef))))
theorem AeO {α β :Type} {l:List Bool} {x:Option α} {y: α} (h:allT l x=some y) (z: β):allT l (some z)=some z:=by
  induction l with
  | nil=>rfl
  | cons c cs ih=>grind[allT]
theorem AcD {C:Ctx} {pars ress:List Sh} {outs:List (Nat×Option Nat)} {st:St} {o:ShT (outS pars ress)} (h:finT C pars ress outs st=some o):finish C pars ress outs st=some (encs _ o):=by
  unfold finT at h
  obtain⟨_,h2⟩:=GN h
  all_goals grind[vK,finish,AeO]
theorem KZ {ρ :Type} {fin:St->Option ρ} (hC:D5 P C) (N:Nat) {f:FuncId} {fn:Func} {code:Code} {outs:List (Nat×Option Nat)} {pars ress:List Sh} {g:ShT pars->Option (ShT (outS pars ress))} (hf:P.funcs[f]? =some fn) (hb:fn.body=some code) (hn:(fn.name== "runtime.NumGoroutine")=false)
    (hout:fn.results=(outs.map rv).toArray) (hF: ∀ a o,g a=some o-> ∃ r,runK C N pars fn.ntmps code fin (encs pars a)=some r/\ ∀ st,fin st=some r->finT C pars ress outs st=some o):Spec P f (Sig.of pars ress g) :=
  ⟨enters hf (by rw[hb];rfl) hn,fun _ _ _ xs rs hI hv hl h100 hx hrs=>by
    obtain⟨a,o,h1,h2,h3⟩:=Sig.Uh hrs
    subst h1;subst h3
    obtain⟨r,h4,h5⟩:=hF a o h2
    exact Adn (sg:=Sig.of pars ress g) (o:=r) hC N (fun {_} hC' {_ _ _ _ _ _} id ops _ _ _ _ _ K hS hd hx=>Abc hC' id ops K hS hd hx) hf hb hout hI hv hl h100 hx h4 (fun st h=>AcD (h5 st h))⟩
end
