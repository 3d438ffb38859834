/-
  CertextCheck: the law returns true whatever the input; machine, functions, plain law (part 19 of 47.)
-/
import Derived.Test.YtadefjgbcapakaaGreatDoorA18
set_option linter.unusedVariables false
set_option linter.unusedSimpArgs false
namespace Go.Proofs.YtadefjgbcapakaaGreatDoor.Vm
open Classical
section
variable {P:Program} {C:Ctx} {V0:Nat→Value} {O0 O:Own} {w0 w:World} {m:Nat→Value} {st st':St} {a:Act}
structure An7 (C:Ctx) (ops:List Oper) (x:Cf) (st:St):Prop where
  step:BK C ops x.o st=x.δ
  rd:Hz x.o st (FQ x.o st)=x.rd
def eY (C:Ctx) (ops:List Oper):List Cf→St→St→Prop
  | [],s,s'=>s=s'
  | x::r,s,s'=>An7 C ops x s∧eY C ops r (apply s x.o x.δ) s'
theorem AiP: ∀(u:List Nat) {l:List (Nat×Obj)} {p:Nat×Obj},p∈Bl l u→p∈l:=by
  intro u
  induction u with
  | nil=>intro l p h;exact h
  | cons n r ih=>intro l p h;exact vH (ih h)
theorem Rj {x:Cf} {n:Nat} (h:st.fresh n=true) (h1:n∉x.says) (h2:n∉x.keys):(apply st x.o x.δ).fresh n=true:=by
  obtain⟨f1,f2,f3,f4⟩:=DU h
  unfold Cf.says at h1
  simp only[List.mem_append,not_or]at h1
  have g1:has (apply st x.o x.δ).ids n=false:=by
    rw[← Bool.not_eq_true]
    intro hh
    rcases List.mem_append.1 (H7.1 hh)with hm | hm
    ·obtain⟨c,hc,hi⟩:=List.mem_flatMap.1 hm
     have hc:c∈put st.tmps x.o.dst x.δ.val:=hc
     have:c∈st.tmps∨c=x.δ.val:=by
       cases hd:x.o.dst with
       | none=>rw[hd]at hc;exact .inl hc
       | some d=>rw[hd]at hc;exact List.mem_or_eq_of_mem_set hc
     rcases this with hc | hc
     ·exact f1 (List.mem_append_left _ (List.mem_flatMap.2 ⟨c,hc,hi⟩))
     ·rw[hc]at hi;exact h1.1.1 hi
    ·obtain⟨p,hp,hi⟩:=List.mem_flatMap.1 hm
     rcases TE x.δ.new (show p∈Au (Bl (Au st.Aa x.δ.upd) x.δ.del) x.δ.new from hp)with hp | hp
     ·exact h1.2 (List.mem_flatMap.2 ⟨p,hp,hi⟩)
     ·rcases TE x.δ.upd (AiP _ hp)with hp | hp
      ·exact h1.1.2 (List.mem_flatMap.2 ⟨p,hp,hi⟩)
      ·exact f1 (List.mem_append_right _ (List.mem_flatMap.2 ⟨p,hp,hi⟩))
  have g2:Ai (apply st x.o x.δ).Aa n=none:=by rw[NL h2];exact f2
  unfold St.fresh
  rw[g1,g2,f4,KZ]
  simp [f3]
theorem swap {ops:List Oper} {x y:Cf} {r:List Cf} (hi:indep ops x y=true) (hxF: ∀ n∈x.news,st.fresh n=true) (hyF: ∀ n∈y.news,st.fresh n=true) (h1:Kq y.news x.says=true) (h2:Kq y.news x.keys=true)
    (hs:Srt st.Aa) (h:eY C ops (x::y::r) st st'):eY C ops (y::x::r) st st':=by
  unfold indep at hi
  simp only[Bool.and_eq_true]at hi
  obtain⟨⟨⟨⟨⟨⟨i1,i2⟩,i3⟩,i4⟩,i5⟩,i6⟩,i7⟩:=hi
  obtain⟨hx,hy,hr⟩:=h
  have hkx: ∀ n,n∈x.keys→n∉y.keys:=Dq i6
  have hnx: ∀ n∈x.news,n∈x.keys:=fun n hn=>List.mem_append_right _ hn
  have cy:=Aao (C:=C) (ops:=ops) (o:=y.o) (s1:=apply st x.o x.δ) (s2:=st)
    (fun z hz=>(AeH (fun t ht=>Dq i2 t (TU.2 ht)) hz).symm) (Acf (fun t ht=>Dq i2 t (TU.2 ht))).symm
    (fun n hn=>(NL (fun hk=>Dq i4 n hk (by rw[← hy.rd];exact hn))).symm)
    (fun n hn=>by rw[hy.step]at hn;exact Rj (hyF n hn) (Dq h1 n hn) (Dq h2 n hn))
    (fun n hn=>by rw[hy.step]at hn;exact hyF n hn)
  have cx:=Aao (C:=C) (ops:=ops) (o:=x.o) (s1:=st) (s2:=apply st y.o y.δ)
    (fun z hz=>AeH (fun t ht=>Dq i3 t (TU.2 ht)) hz) (Acf (fun t ht=>Dq i3 t (TU.2 ht)))
    (fun n hn=>NL (fun hk=>Dq i5 n hk (by rw[← hx.rd];exact hn)))
    (fun n hn=>by rw[hx.step]at hn;exact hxF n hn)
    (fun n hn=>by rw[hx.step]at hn;exact Rj (hxF n hn) (Dq i7 n hn) (hkx n (hnx n hn)))
  have hst:apply (apply st y.o y.δ) x.o x.δ =apply (apply st x.o x.δ) y.o y.δ :=by
    have e1:(apply (apply st y.o y.δ) x.o x.δ).tmps=(apply (apply st x.o x.δ) y.o y.δ).tmps:=(put_comm st.tmps x.δ.val y.δ.val (fun t ht he=>Dq i1 t (TU.2 ht) (TU.2 he))).symm
    have e2:(apply (apply st y.o y.δ) x.o x.δ).Aa=(apply (apply st x.o x.δ) y.o y.δ).Aa:=by
      refine Srt.ext ((hs.apply _ _).apply _ _) ((hs.apply _ _).apply _ _) fun k=> ?_
      by_cases hk:k∈x.keys
      ·have hky:=hkx k hk
       rw[NL (o:=y.o) (δ :=y.δ) hky,KH (apply st y.o y.δ),NL (o:=y.o) (δ :=y.δ) hky, ←KH st]
      ·rw[NL (o:=x.o) (δ :=x.δ) hk,KH (apply st x.o x.δ),NL (o:=x.o) (δ :=x.δ) hk, ←KH st]
    generalize apply (apply st y.o y.δ) x.o x.δ =s at *
    generalize apply (apply st x.o x.δ) y.o y.δ =s' at *
    cases s;cases s'
    dsimp only at e1 e2
    rw[e1,e2]
  refine⟨⟨by rw[cy.1,hy.step],by rw[cy.2,hy.rd]⟩,⟨by rw[cx.1,hx.step],by rw[cx.2,hx.rd]⟩,?_⟩
  rw[hst];exact hr
structure Pre (R:List Cf) (st:St):Prop where
  srt:Srt st.Aa
  fresh: ∀ z∈R,∀ n∈z.news,st.fresh n=true
  pairs:R.Pairwise (fun y z=>Kq z.news y.says=true∧Kq z.news y.keys=true)
theorem Pre.step {y:Cf} {R:List Cf} (h:Pre (y::R) st):Pre R (apply st y.o y.δ):=by
  obtain⟨h1,h2⟩:=List.pairwise_cons.1 h.pairs
  exact⟨h.srt.apply _ _,fun z hz n hn=>Rj (h.fresh z (List.mem_cons_of_mem _ hz) n hn) (Dq (h1 z hz).1 n hn) (Dq (h1 z hz).2 n hn),h2⟩
theorem front {ops:List Oper} {x:Cf} {L2:List Cf}: ∀(L1:List Cf) {st:St},Pre (L1++x::L2) st→(∀ y∈L1,indep ops y x=true)→eY C ops (L1++x::L2) st st'→eY C ops (x::(L1++L2)) st st':=by
  intro L1
  induction L1 with
  | nil=>intro st _ _ h;exact h
  | cons y L1 ih =>
    intro st hP hi h
    have h1:=ih (st:=apply st y.o y.δ) (hP.step) (fun z hz=>hi z (List.mem_cons_of_mem _ hz)) h.2
    have hx:x∈L1++x::L2:=List.mem_append_right _ List.mem_cons_self
    obtain⟨p1,_⟩:=List.pairwise_cons.1 hP.pairs
    exact swap (hi y List.mem_cons_self) (hP.fresh y List.mem_cons_self) (hP.fresh x (List.mem_cons_of_mem _ hx)) (p1 x hx).1 (p1 x hx).2 hP.srt ⟨h.1,h1⟩
theorem AjE {md:Region.Mode} {e:Edge} (h:Region.binds .any e=true):Region.binds md e=true:=by
  unfold Region.binds at h ⊢
  cases hg:e.ground with
  | textOnly r=>rw[hg]at h;cases h
  | gcOnly r=>rw[hg]at h;cases h
  | _=>rfl
theorem QI {ops:List Oper} {i:Nat} {x y:Cf} (h:UI ops i x y=true):Kq y.news x.says=true∧Kq y.news x.keys=true∧(i∈y.anc∨indep ops x y=true):=by
  unfold UI at h
  simp only[Bool.and_eq_true,Bool.or_eq_true]at h
  exact⟨h.1.1,h.1.2,h.2.imp H7.1 id⟩
theorem AeS {l:Array Bool} {i:Nat} (h:i<l.size) (b c:Bool):l.getD i b=l.getD i c:=by
  simp [Array.getD_eq_getD_getElem?,h]
theorem Aip {α :Type} (f: α →Nat): ∀(l:List α),l≠ []→ ∃ x∈l,∀ y∈l,f x≤f y:=by
  intro l
  induction l with
  | nil=>intro h;exact absurd rfl h
  | cons a r ih =>
    intro _
    by_cases hr:r=[]
    ·exact⟨a,List.mem_cons_self,fun y hy=>by rw[hr]at hy;simp at hy;rw[hy];exact Nat.le_refl _⟩
    ·obtain⟨x,hx,hm⟩:=ih hr
     by_cases h:f a≤f x
     ·exact⟨a,List.mem_cons_self,fun y hy=>by
        rcases List.mem_cons.1 hy with rfl | hy
        ·exact Nat.le_refl _
        ·exact Nat.le_trans h (hm y hy)⟩
     ·exact⟨x,List.mem_cons_of_mem _ hx,fun y hy=>by
        rcases List.mem_cons.1 hy with rfl | hy
        ·omega
        ·exact hm y hy⟩
theorem AlA {ρ :Type} (hC:Jq P C) {ops:Array Oper} {md:Region.Mode} {Q:Exit→Act→World→Prop} {v: ρ} {K:St→Option ρ} (hQ: ∀ O' m' st' a' w',Sim V0 O0 w0 O' m' st' a' w'→K st'=some v→Q .normal a' w')
    {ANC:List (List Nat)} (hanc: ∀(j:Nat) (o:Oper),ops[j]? =some o→ ∀ i∈ANC.getD j [],∃ e∈OT o,i=e∨i∈ANC.getD e []) {rk:Nat→Nat} (hback: ∀(j:Nat) (o:Oper),ops[j]? =some o→ ∀ e∈o.after,Region.binds md e=true→e.on<ops.size∧rk e.on<rk j) :
    ∀(fuel:Nat) (R:List (Nat×Cf)) (listed:Array Bool) {O:Own} {m:Nat→Value} {st:St} {a:Act} {w:World},R.length=fuel→R.Pairwise (fun p q=>p.1<q.1) →
     (∀ p∈R,ops[p.1]? =some p.2.o∧AA p.2.δ.ok∧p.2.anc=ANC.getD p.1 [])→listed.size=ops.size→(∀ i,i<ops.size→(listed.getD i true=false↔i∈R.map (·.1))) →
     (∀ e,listed.getD e false=true→ ∀ i∈ANC.getD e [],listed.getD i false=true)→R.Pairwise (fun p q=>UI ops.toList p.1 p.2 q.2=true)→(∀ p∈R,∀ n∈p.2.news,st.fresh n=true)→Srt st.Aa →
     eY C ops.toList (R.map (·.2)) st st'→K st'=some v→Sim V0 O0 w0 O m st a w→wpAny P md ops Q fuel listed a w:=by
  intro fuel
  induction fuel with
  | zero =>
    intro R listed O m st a w hlen _ _ hsz hl _ _ _ _ hruns hK hS
    have hR:R=[]:=List.length_eq_zero_iff.1 hlen
    subst hR
    refine⟨?_,?_⟩
    ·rw[List.eq_nil_iff_forall_not_mem]
     intro i hi
     obtain⟨h1,o,h2,_⟩:=mem_ready.1 hi
     have hlt:=(Array.getElem?_eq_some_iff.1 h2).1
     have:=(hl i hlt).1 h1
     simp at this
    ·have:st=st':=hruns
     subst this
     exact hQ _ _ _ _ _ hS hK
  | succ fuel ih =>
    intro R listed O m st a w hlen hord hops hsz hl hcl hpr hfr hsrt hruns hK hS
    have hin: ∀ p∈R,p.1<ops.size:=fun p hp=>(Array.getElem?_eq_some_iff.1 (hops p hp).1).1
    refine⟨fun hnil=> ?_,fun i hi=> ?_⟩
    ·exfalso
     obtain⟨p,hpR,hmin⟩:=Aip (fun q:Nat×Cf=>rk q.1) R (by intro h;rw[h]at hlen;simp at hlen)
     have hp:=hin p hpR
     have:p.1∈Region.ready md ops listed:=by
       refine mem_ready.2 ⟨(hl p.1 hp).2 (List.mem_map.2 ⟨p,hpR,rfl⟩),p.2.o,(hops p hpR).1,fun e he hb=> ?_⟩
       obtain⟨hsize,hlt⟩:=hback _ _ (hops p hpR).1 e he hb
       have hno:e.on∉R.map (·.1):=by
         intro hm
         obtain⟨q,hq,hqe⟩:=List.mem_map.1 hm
         have:=hmin q hq
         rw[hqe]at this
         omega
       have:listed.getD e.on true≠false:=fun h=>hno ((hl e.on hsize).1 h)
       rw[AeS (by rw[hsz];exact hsize) false true]
       simpa using this
     rw[hnil]at this;cases this
    ·obtain⟨hi1,oi,hi2,hi3⟩:=mem_ready.1 hi
     have hilt:=(Array.getElem?_eq_some_iff.1 hi2).1
     obtain⟨p,hp,rfl⟩:=List.mem_map.1 ((hl i hilt).1 hi1)
     obtain⟨L1,L2,rfl⟩:=List.append_of_mem hp
     obtain⟨i,x⟩:=p
     dsimp only at hi hi1 hi2 hi3 hilt ⊢
     obtain⟨hx1,hx2,hx3⟩:=hops (i,x) hp
     dsimp only at hx1 hx2 hx3
     have hancl: ∀ j∈ANC.getD i [],listed.getD j false=true:=by
       intro j hj
       obtain⟨e,he,hje⟩:=hanc i _ hx1 j hj
       have hel:listed.getD e false=true:=by
         unfold OT at he
         obtain⟨ed,hed,hb⟩:=List.mem_filterMap.1 he
         rw[hi2]at hx1;injection hx1 with hx1;subst hx1
         cases hbb:Region.binds .any ed with
         | false=>rw[hbb]at hb;cases hb
         | true =>
           rw[hbb]at hb
           injection hb with hb
           rw[← hb];exact hi3 ed (by simpa using hed) (AjE hbb)
       rcases hje with rfl | hje
       ·exact hel
       ·exact hcl e hel j hje
     have hord':=List.pairwise_append.1 hord
     have hpr':=List.pairwise_append.1 hpr
     have hind: ∀ q∈L1,UI ops.toList q.1 q.2 x=true∧indep ops.toList q.2 x=true:=by
       intro q hq
       have hpq:=hpr'.2.2 q hq (i,x) List.mem_cons_self
       dsimp only at hpq
       refine⟨hpq,(QI hpq).2.2.resolve_left fun hm=> ?_⟩
       rw[hx3]at hm
       have h1:=hancl _ hm
       have hqR:q∈L1++(i,x)::L2:=List.mem_append_left _ hq
       have hqlt:=hin q hqR
       have h2:=(hl q.1 hqlt).2 (List.mem_map.2 ⟨q,hqR,rfl⟩)
       rw[AeS (by rw[hsz];exact hqlt) true false,h1]at h2
       cases h2
     have hPre:Pre ((L1++(i,x)::L2).map (·.2)) st:=by
       refine⟨hsrt,fun z hz n hn=> ?_,?_⟩
       ·obtain⟨q,hq,rfl⟩:=List.mem_map.1 hz
        exact hfr q hq n hn
       ·rw[List.pairwise_map]
        exact hpr.imp fun h=>⟨(QI h).1,(QI h).2.1⟩
     have hfront:eY C ops.toList (x::(L1.map (·.2)++L2.map (·.2))) st st':=by
       refine front (L1.map (·.2)) (by simpa using hPre) (fun y hy=> ?_) (by simpa using hruns)
       obtain⟨q,hq,rfl⟩:=List.mem_map.1 hy
       exact(hind q hq).2
     obtain⟨hstep,hrest⟩:=hfront
     have hsub:List.Sublist (L1++L2) (L1++(i,x)::L2):=List.Sublist.append_left (List.sublist_cons_self _ _) _
     have hnext: ∀ O' m' a' w',Sim V0 O0 w0 O' m' (apply st x.o (BK C ops.toList x.o st)) a' w'→wpAny P md ops Q fuel (listed.setIfInBounds i true) a' w':=by
       intro O' m' a' w' hS'
       rw[hstep.step]at hS'
       refine ih (L1++L2) _ (by simp at hlen ⊢;omega) (hord.sublist hsub) (fun q hq=>hops q (hsub.subset hq)) (by simpa using hsz) (fun j hj=> ?_) (fun e he j hj=> ?_) (hpr.sublist hsub) (fun q hq n hn=> ?_) (hsrt.apply _ _) (by simpa using hrest) hK hS'
       ·by_cases hji:i=j
        ·subst hji
         have h1:(listed.setIfInBounds i true).getD i true=true:=by simp [Array.getD_eq_getD_getElem?,hsz,hj]
         rw[h1]
         refine⟨fun h=>(by cases h),fun h=> ?_⟩
         obtain⟨q,hq,hqi⟩:=List.mem_map.1 h
         rcases List.mem_append.1 hq with hq | hq
         ·have:=hord'.2.2 q hq (i,x) List.mem_cons_self
          dsimp only at this;omega
         ·have:=(List.pairwise_cons.1 hord'.2.1).1 q hq
          dsimp only at this;omega
        ·rw[getD_set_ne true hji,hl j hj]
         simp only[List.map_append,List.map_cons,List.mem_append,List.mem_cons]
         constructor
         ·rintro (h | h | h)
          ·exact .inl h
          ·exact absurd h.symm hji
          ·exact .inr h
         ·rintro (h | h)
          ·exact .inl h
          ·exact .inr (.inr h)
       ·by_cases hei:i=e
        ·subst hei;exact getD_set_true (hancl j hj)
        ·rw[getD_set_ne false hei]at he
         exact getD_set_true (hcl e he j hj)
       ·have hq':=hsub.subset hq
        have hf:=hfr q hq' n hn
        rcases List.mem_append.1 hq with hq | hq
        ·have hi':=(hind q hq).2
         unfold indep at hi'
         simp only[Bool.and_eq_true]at hi'
         exact Rj hf (Dq hi'.2 n hn) (Dq hi'.1.2 n (List.mem_append_right _ hn))
        ·have hpq:=QI ((List.pairwise_cons.1 hpr'.2.1).1 q hq)
         exact Rj hf (Dq hpq.1 n hn) (Dq hpq.2.1 n hn)
     have hw:=Aap hC hS (ops:=ops) (o:=x.o) (by rw[hstep.step];exact hx2) (wpAny P md ops Q fuel (listed.setIfInBounds i true)) Q hnext
     unfold wpOp
     rw[hx1]
     dsimp only
     split
     ·rename_i hwt;rw[if_pos hwt]at hw;exact .inl hw
     ·rename_i hwt;rw[if_neg hwt]at hw;exact hw
end
end Go.Proofs.YtadefjgbcapakaaGreatDoor.Vm
namespace Go.Proofs.YtadefjgbcapakaaGreatDoor.Vm
open Classical
section
variable {P:Program} {C:Ctx} {V0:Nat→Value} {O0 O:Own} {w0 w:World} {m:Nat→Value} {st st':St} {a:Act}
def enum:Nat→List Cf→List (Nat×Cf)
  | _,[]=>[]
  | i,x::r=>(i,x)::enum (i+1) r
theorem Agz: ∀(l:List Cf) (i:Nat),(enum i l).length=l.length:=by
  intro l
  induction l with
  | nil=>intro i;rfl
  | cons x r ih=>intro i;simp [enum,ih]
theorem AlG: ∀(l:List Cf) (i:Nat),(enum i l).map (·.2)=l:=by
  intro l
  induction l with
  | nil=>intro i;rfl
  | cons x r ih=>intro i;simp [enum,ih]
theorem YV: ∀(l:List Cf) (i:Nat) (p:Nat×Cf),p∈enum i l→ ∃ k,p.1=i+k∧l[k]? =some p.2:=by
  intro l
  induction l with
  | nil=>intro i p h;cases h
  | cons x r ih =>
    intro i p h
    rcases List.mem_cons.1 h with rfl | h
    ·exact⟨0,rfl,rfl⟩
    ·obtain⟨k,h1,h2⟩:=ih (i+1) p h
     exact⟨k+1,by omega,by simpa using h2⟩
theorem AlE: ∀(l:List Cf) (i j:Nat),j∈(enum i l).map (·.1)↔i≤j∧j<i+l.length:=by
  intro l
  induction l with
  | nil=>intro i j;simp [enum]
  | cons x r ih=>intro i j;simp only[enum,List.map_cons,List.mem_cons,ih,List.length_cons];omega
theorem AlF: ∀(l:List Cf) (i:Nat),(enum i l).Pairwise (fun p q=>p.1<q.1):=by
  intro l
  induction l with
  | nil=>intro i;exact List.Pairwise.nil
  | cons x r ih =>
    intro i
    refine List.Pairwise.cons (fun q hq=> ?_) (ih (i+1))
    obtain⟨k,h1,_⟩:=YV _ _ _ hq
    show i<q.1
    omega
theorem Aio {ops:List Oper}: ∀(l:List Cf) (i:Nat),TY ops i l=true→(enum i l).Pairwise (fun p q=>UI ops p.1 p.2 q.2=true):=by
  intro l
  induction l with
  | nil=>intro i _;exact List.Pairwise.nil
  | cons x r ih =>
    intro i h
    simp only[TY,Bool.and_eq_true]at h
    refine List.Pairwise.cons (fun q hq=> ?_) (ih (i+1) h.2)
    obtain⟨k,_,h2⟩:=YV _ _ _ hq
    exact List.all_eq_true.1 h.1 _ (List.mem_of_getElem? h2)
theorem AjW {o:Oper} {e:Nat} (h:e∈OT o): ∃ ed∈o.after,ed.on=e∧Region.binds .any ed=true:=by
  unfold OT at h
  obtain⟨ed,hed,hb⟩:=List.mem_filterMap.1 h
  cases hbb:Region.binds .any ed with
  | false=>rw[hbb]at hb;cases hb
  | true=>rw[hbb]at hb;injection hb with hb;exact⟨ed,by simpa using hed,hb,hbb⟩
theorem AcG: ∀(l:List Oper) (i:Nat),backward i l=true→ ∀(k:Nat) (o:Oper),l[k]? =some o→ ∀ e∈o.after,e.on<i+k:=by
  intro l
  induction l with
  | nil=>intro i _ k o h;simp at h
  | cons x r ih =>
    intro i h k o hk e he
    simp only[backward,Bool.and_eq_true]at h
    cases k with
    | zero =>
      simp at hk;subst hk
      have:=List.all_eq_true.1 h.1 e (by simpa using he)
      rw[Nat.blt_eq]at this;exact this
    | succ k =>
      have:=ih (i+1) h.2 k o (by simpa using hk) e he
      omega
theorem Aa6: ∀(l:List Oper) (i:Nat),KJ i l=true→ ∀(k:Nat) (o:Oper),l[k]? =some o→ ∀ e∈o.after,Region.binds .any e=true→e.on<i+k:=by
  intro l
  induction l with
  | nil=>intro i _ k o h;simp at h
  | cons x r ih =>
    intro i h k o hk e he hb
    simp only[KJ,Bool.and_eq_true]at h
    cases k with
    | zero =>
      simp at hk;subst hk
      have:=List.all_eq_true.1 h.1 e (by simpa using he)
      rw[hb]at this
      have:Nat.blt e.on i=true:=by simpa using this
      rw[Nat.blt_eq]at this;exact this
    | succ k =>
      have:=ih (i+1) h.2 k o (by simpa using hk) e he hb
      omega
theorem Adn {md:Region.Mode} {n:Nat} {rk:List Nat}: ∀(l:List Oper) (i:Nat),Zz md n rk i l=true→ ∀(k:Nat) (o:Oper),l[k]? =some o→ ∀ e∈o.after,Region.binds md e=true→e.on<n∧rk.getD e.on 0<rk.getD (i+k) 0:=by
  intro l
  induction l with
  | nil=>intro i _ k o h;simp at h
  | cons x r ih =>
    intro i h k o hk e he hb
    simp only[Zz,Bool.and_eq_true]at h
    cases k with
    | zero =>
      simp at hk;subst hk
      have:=List.all_eq_true.1 h.1 e (by simpa using he)
      rw[hb]at this
      have:(Nat.blt e.on n&&Nat.blt (rk.getD e.on 0) (rk.getD i 0))=true:=by simpa using this
      rw[Bool.and_eq_true,Nat.blt_eq,Nat.blt_eq]at this
      exact this
    | succ k =>
      have:=ih (i+1) h.2 k o (by simpa using hk) e he hb
      rw[show i+(k+1)=i+1+k from by omega];exact this
theorem Af3 {ops:Array Oper} (h:ordered ops.toList=true) (md:Region.Mode): ∃ rk:Nat→Nat,∀(j:Nat) (o:Oper),ops[j]? =some o→ ∀ e∈o.after,Region.binds md e=true→e.on<ops.size∧rk e.on<rk j:=by
  unfold ordered at h
  rw[Bool.and_eq_true,Bool.or_eq_true]at h
  rcases h.2 with h | h
  ·refine⟨id,fun j o hj e he _=> ?_⟩
   have h1:=AcG _ _ h j o (by simpa using hj) e he
   have h2:=(Array.getElem?_eq_some_iff.1 hj).1
   exact⟨by omega,by show e.on<j;omega⟩
  ·simp only[Bool.and_eq_true]at h
   have key:zZ md ops.toList=true:=by cases md<;>first | exact h.1.1 | exact h.1.2 | exact h.2
   refine⟨fun i=>(ranks md ops.toList ops.toList.length (ops.toList.map fun _=>0)).getD i 0,fun j o hj e he hb=> ?_⟩
   have:=Adn _ _ key j o (by simpa using hj) e he hb
   rw[Nat.zero_add]at this
   exact⟨by simpa using this.1,this.2⟩
theorem AaT {α β :Type} {f g: α →List β}: ∀(l:List α),(∀ x∈l,f x=g x)→l.flatMap f=l.flatMap g:=by
  intro l
  induction l with
  | nil=>intro _;rfl
  | cons x r ih=>intro h;simp only[List.flatMap_cons];rw[h x List.mem_cons_self,ih (fun y hy=>h y (List.mem_cons_of_mem _ hy))]
theorem Aiv {ops:List Oper}: ∀(l:List Oper) (acc:List (List Nat)) (st:St),KJ acc.length l=true→(Kz C ops l acc st).length=l.length ∧
    ∀(k:Nat) (o:Oper),l[k]? =some o→ ∃ x,(Kz C ops l acc st)[k]? =some x∧x.o=o∧x.anc=(OT o).flatMap (fun e=>e::(acc++(Kz C ops l acc st).map Cf.anc).getD e []):=by
  intro l
  induction l with
  | nil=>intro acc st _;exact⟨rfl,fun k o h=>by simp at h⟩
  | cons o' r ih =>
    intro acc st h
    have hb:=Aa6 _ _ h
    simp only[KJ,Bool.and_eq_true]at h
    let an:=(OT o').flatMap (fun e=>e::acc.getD e [])
    let s1:=apply st o' (BK C ops o' st)
    have hf:Kz C ops (o'::r) acc st=⟨o',BK C ops o' st,Hz o' st (FQ o' st),an⟩::Kz C ops r (acc++[an]) s1:=rfl
    obtain⟨g1,g2⟩:=ih (acc++[an]) s1 (by simpa using h.2)
    rw[hf]
    refine⟨by simp [g1],fun k o hk=> ?_⟩
    cases k with
    | zero =>
      simp at hk;subst hk
      refine⟨_,rfl,rfl,?_⟩
      refine AaT _ fun e he=> ?_
      obtain⟨ed,h1,h2,h3⟩:=AjW he
      have hlt:=hb 0 o' rfl ed h1 h3
      rw[List.getD_eq_getElem?_getD,List.getD_eq_getElem?_getD,List.getElem?_append_left (by omega)]
    | succ k =>
      obtain⟨x,h1,h2,h3⟩:=g2 k o (by simpa using hk)
      refine⟨x,by simpa using h1,h2,?_⟩
      rw[h3]
      simp [List.append_assoc]
theorem Aiu {ρ :Type} {ops:List Oper} {K:St→Option ρ} {v: ρ}: ∀(l:List Oper) (acc:List (List Nat)) (st:St),Oe C ops l st K=some v→ ∃ st',eY C ops (Kz C ops l acc st) st st'∧K st'=some v∧ ∀ x∈Kz C ops l acc st,AA x.δ.ok:=by
  intro l
  induction l with
  | nil=>intro acc st h;exact⟨st,rfl,h,fun x hx=>by cases hx⟩
  | cons o r ih =>
    intro acc st h
    obtain⟨h1,h2⟩:=Jl (show allT (BK C ops o st).ok (Oe C ops r (apply st o (BK C ops o st)) K)=some v from h)
    obtain⟨st',h3,h4,h5⟩:=ih (acc++[(OT o).flatMap (fun e=>e::acc.getD e [])]) _ h2
    refine⟨st',⟨⟨rfl,rfl⟩,h3⟩,h4,fun x hx=> ?_⟩
    rcases List.mem_cons.1 hx with rfl | hx
    ·exact h1
    ·exact h5 x hx
theorem Sim.drew (hS:Sim V0 O0 w0 O m st a w):Sim V0 O0 w0 O m st a {w with drawn:=w.drawn+1} :=
  hS.next (st':=st) (d:=none) (v:=undef) (x:=.undef) (T:=fun _=>False) (Nw:=fun _=>False) ⟨rfl,rfl,rfl,Nat.le_refl _,fun _ _=>.inl rfl⟩ ⟨fun _ _ _ h=>h,fun _ _ _ _ h _=>h⟩ (fun _ _ _ h=>h) (fun _ y ho=>.inr ⟨y,ho,rfl,rfl⟩) (fun _ h=>h.elim) (fun _ h=>h.elim)
    (fun _ _ ho=>.inl ⟨id,ho,rfl⟩) rfl (fun h=>absurd rfl h)
theorem Ail {ρ :Type} (hC:Jq P C) {fin:St→Option ρ} {v: ρ} (id:Nat) (ops:Array Oper) {O:Own} {m:Nat→Value} {st:St} {a:Act} {w:World} (K:Ex→St→Option ρ) (hS:Sim V0 O0 w0 O m st a w) (hd:JI C ops.toList st=true)
    (hx:Oe C ops.toList ops.toList st (fun st'=>K .normal st')=some v):(Code.region id ops true).wp P (Post V0 O0 w0 fin K v) a w:=by
  unfold JI at hd
  dsimp only at hd
  simp only[Bool.and_eq_true]at hd
  obtain⟨⟨⟨d1,d2⟩,d3⟩,d4⟩:=hd
  have d1A:KJ 0 ops.toList=true:=by
    have:=d1
    unfold ordered at this
    rw[Bool.and_eq_true]at this
    exact this.1
  obtain⟨f1,f2⟩:=Aiv (C:=C) (ops:=ops.toList) ops.toList [] st d1A
  obtain⟨st',r1,r2,r3⟩:=Aiu ops.toList [] st hx
  generalize hfs:Kz C ops.toList ops.toList [] st=fs at *
  have hlen:fs.length=ops.size:=by rw[f1];simp
  have hsize:(enum 0 fs).length=ops.size:=by rw[Agz,hlen]
  have hany: ∀ md,wpAny P md ops (Post V0 O0 w0 fin K v) ops.size (Array.replicate ops.size false) a {w with drawn:=w.drawn+1}:=by
    intro md
    obtain⟨rk,hrk⟩:=Af3 d1 md
    refine AlA (V0:=V0) (O0:=O0) (w0:=w0) hC (K:=fun st'=>K .normal st') (v:=v) (st':=st') (fun O' m' s a' w' h1 h2=>⟨O',m',s,h1,h2⟩) (ANC:=fs.map Cf.anc) (rk:=rk) (fun j o hj i hi=> ?_) hrk
      ops.size (enum 0 fs) _ hsize (AlF _ _) (fun p hp=> ?_) (by simp) (fun i hi=> ?_) (fun e he i _=> ?_) (Aio _ _ d2) (fun p hp n hn=> ?_) (Ajo d4) (by rw[AlG];exact r1) r2 hS.drew
    ·obtain⟨x,h1,h2,h3⟩:=f2 j o (by simpa using hj)
     have e1:(fs.map Cf.anc).getD j []=x.anc:=by
       rw[List.getD_eq_getElem?_getD,List.getElem?_map,h1];rfl
     rw[e1,h3]at hi
     obtain⟨e,he,hie⟩:=List.mem_flatMap.1 hi
     rcases List.mem_cons.1 hie with h | h
     ·exact⟨e,he,.inl h⟩
     ·exact⟨e,he,.inr (by simpa using h)⟩
    ·obtain⟨k,h1,h2⟩:=YV _ _ _ hp
     rw[Nat.zero_add]at h1
     have hk:k<ops.toList.length:=by
       rw[← f1]
       rcases Nat.lt_or_ge k fs.length with h | h
       ·exact h
       ·rw[List.getElem?_eq_none h]at h2;cases h2
     obtain⟨x,h3,h4,h5⟩:=f2 k ops.toList[k] (by simp at hk ⊢)
     rw[h2]at h3
     injection h3 with h3
     refine⟨?_,r3 _ (List.mem_of_getElem? h2),?_⟩
     ·rw[h1,h3,h4];simp at hk ⊢
     ·rw[h1,List.getD_eq_getElem?_getD,List.getElem?_map,h2];rfl
    ·rw[AlE]
     simp [Array.getD_eq_getD_getElem?,hi,hlen]
    ·have:(Array.replicate ops.size false).getD e false=false:=by
       rw[Array.getD_eq_getD_getElem?,Array.getElem?_replicate]
       split<;>rfl
     rw[this]at he;cases he
    ·obtain⟨k,_,h2⟩:=YV _ _ _ hp
     exact List.all_eq_true.1 d3 n (List.mem_flatMap.2 ⟨_,List.mem_of_getElem? h2,hn⟩)
  refine wp_region_draw fun t=> ?_
  unfold Region.schedule
  split
  ·exact wpAny_sound _ _ _ _ _ (hany _)
  ·exact wpAny_sound _ _ _ _ _ (hany _)
end
