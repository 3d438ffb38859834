import Derived.Test.YtbaomhegdndpnaaGreatDoorA11
set_option linter.all false
namespace Go.Proofs.YtbaomhegdndpnaaGreatDoor.Vm
open Classical
structure D5 (P:Program) (C:Ctx):Prop where
  T:TOk P C
  G: ∀ f sg,C.G f=some sg->Spec P f sg
  alt: ∀ f q,C.alt f=some q->Spec P f q.1/\Spec P f q.2.1
  dyn: ∀ t F,C.dyn t=some F->(∀ xs,(F 0).ok xs=false)/\ ∀ f xs,(F (f+1)).ok xs=true->Spec P f (F (f+1))
theorem D5.put {P:Program} {C:Ctx} (h:D5 P C) {f:Nat} {s:Sig} (hs:Spec P f s):D5 P (C.put f s):=⟨h.T,fun k sg hk=>by
    have hk':(bif Nat.beq f k then some s else C.G k)=some sg:=hk
    cases hb:Nat.beq f k with
    | true=>simp_all
    | false=>rw[hb]at hk';exact h.G k sg hk',h.alt,h.dyn⟩
theorem Afx {a b:A} (h:eqC a b=true):a=b:=by
  unfold eqC at h
  split at h
  ·rw[eq_of_beq h]
  ·rw[Bool.and_eq_true]at h;rw[A.ES h.1,eq_of_beq h.2]
  ·rw[eq_of_beq h]
  ·cases h
theorem Abv {fet:Fet} {x:A} {j:Nat} {δ :Dl} (h:Am (IW fet x j δ).ok):Am δ.ok/\(IW fet x j δ).val= δ.val/\(IW fet x j δ).new= δ.new/\(IW fet x j δ).upd= δ.upd/\(IW fet x j δ).del= δ.del:=by
  unfold IW at *
  cases x with
  | ptr q off =>
    dsimp only at h ⊢
    cases hb:BP fet q with
    | none=>rw[hb]at h;exact⟨h,rfl,rfl,rfl,rfl⟩
    | some cs =>
      rw[hb]at h
      dsimp only at h ⊢
      cases hc:Nat.blt j cs.length&& δ.upd.all (fun p=> !(Nat.beq p.1 q)||jA cs.length p.2)with
      | false=>rw[hc]at h;exact⟨h,rfl,rfl,rfl,rfl⟩
      | true =>
        rw[hc]at h
        obtain⟨h1,h2⟩:=(show Am (δ.ok++_)from h).append
        refine⟨h1,rfl,rfl,?_,rfl⟩
        show δ.upd.map _= δ.upd
        conv=>rhs;rw[<- List.map_id δ.upd]
        refine List.map_congr_left fun p hp=> ?_
        have h3:=h2 _ (List.mem_map.2 ⟨p,hp,rfl⟩)
        cases hq:Nat.beq p.1 q with
        | false=>rfl
        | true =>
          rw[hq]at h3
          have h3:eqU j (cs.getD j .undef) p.2=true:=h3
          obtain⟨n,y⟩:=p
          cases y with
          | box ds =>
            have h4:=Afx (show eqC (ds.getD j .undef) (cs.getD j .undef)=true from h3)
            show(n,Obj.box (ds.set j (cs.getD j .undef)))=(n,Obj.box ds)
            rw[<- h4]
            congr 2
            apply List.ext_getElem?
            intro i
            rw[List.getElem?_set]
            by_cases hij:j=i
            ·subst hij
             rw[if_pos rfl]
             by_cases hl:j<ds.length
             ·simp [hl,List.getD_eq_getElem?_getD]
             ·simp [hl]
            ·rw[if_neg hij]
          | _=>cases h3
  | _=>exact⟨h,rfl,rfl,rfl,rfl⟩
theorem Abx {fet:Fet} {xs:List A}: ∀(ks:List (Nat×Nat)) {δ :Dl},Am (keepD fet xs ks δ).ok->Am δ.ok/\(keepD fet xs ks δ).val= δ.val/\(keepD fet xs ks δ).new= δ.new/\(keepD fet xs ks δ).upd= δ.upd/\(keepD fet xs ks δ).del= δ.del:=by
  intro ks
  induction ks with
  | nil=>intro δ h;exact⟨h,rfl,rfl,rfl,rfl⟩
  | cons k ks ih =>
    intro δ h
    obtain⟨i,j⟩:=k
    obtain⟨h1,h2,h3,h4,h5⟩:=ih (δ :=IW fet (xs.getD i .undef) j δ) h
    obtain⟨g1,g2,g3,g4,g5⟩:=Abv h1
    exact⟨g1,h2.trans g2,h3.trans g3,h4.trans g4,h5.trans g5⟩
theorem D5.decide {P:Program} {C:Ctx} (h:D5 P C) (ds:List Nat) (b:Bool):D5 P (C.decide ds b):=⟨h.T,h.G,h.alt,h.dyn⟩
section
variable {P:Program} {C:Ctx} {V0:Nat->Value} {O0 O:Own} {w0 w:World} {m:Nat->Value} {st:St} {a:Act} {o:Oper}
theorem len1 {xs:List A} (h:xs.length=1): ∃ x,xs=[x]:=List.length_eq_one_iff.1 h
theorem Yi {xs:List A} (h:xs.length=2): ∃ x y,xs=[x,y]:=by
  match xs,h with
  | [x,y],_=>exact⟨x,y,rfl⟩
theorem Ab2 {xs:List A} (h:xs.length=3): ∃ x y z,xs=[x,y,z]:=by
  match xs,h with
  | [x,y,z],_=>exact⟨x,y,z,rfl⟩
theorem jE {δ :Dl} (h:Am δ.ok) (e: δ = .no):False:=by rw[e]at h;exact Az h
theorem Pj {t:Nat} {x:Operand} {lo hi:Option Operand} (hC:TOk P C) (hS:Sim V0 O0 w0 O m st a w) (ho:o.op= .slice t x lo hi none) {fet:Fet} (hf:DL st.Aa fet) {x':A} {lo' hi':Option A} (hx:Au O st.Aa m w (a.eval x) x')
    (hlo:ORl O st.Aa m w (lo.map a.eval) lo') (hhi:ORl O st.Aa m w (hi.map a.eval) hi') (hok:Am (Ce C fet t x' lo' hi').ok):Good P V0 O0 w0 (apply st o (Ce C fet t x' lo' hi')) o a w:=by
  cases x' with
  | str s=>exact(Adp hC ho rfl hx hlo hhi hok).good hS
  | sl l=>exact(Aew hC ho rfl hx hlo hhi hok).good hS
  | own q=>grind[sU]
  | _=>grind[Ce,Ba,Az]
theorem Ae8 {k:A->Dl} {v:List A} (h:Am (a1 k v).ok): ∃ x,v=[x]:=by
  match v,h with
  | [x],_=>exact⟨x,rfl⟩
  | [],h=>exact(Az h).elim
  | _::_::_,h=>exact(Az h).elim
theorem dS {k:A->A->Dl} {v:List A} (h:Am (a2 k v).ok): ∃ x y,v=[x,y]:=by
  match v,h with
  | [x,y],_=>exact⟨x,y,rfl⟩
  | [],h=>exact(Az h).elim
  | [_],h=>exact(Az h).elim
  | _::_::_::_,h=>exact(Az h).elim
set_option maxHeartbeats 1000000 in
theorem xK (hCx:D5 P C) (hS:Sim V0 O0 w0 O m st a w) {fet:Fet} (hf:DL st.Aa fet) {xs:List A} (hl:xs.length=o.op.operands.size) (hx: ∀ j,j<xs.length->Au O st.Aa m w (a.eval (o.op.operands.getD j (.tmp 0))) (xs.getD j .undef))
    (hids: ∀ x∈xs,∀ i∈x.ids,i∈st.ids\/(Ai st.Aa i).isSome)
    (hok:Am (opX C o xs fet).ok) (hfr: ∀ p∈(opX C o xs fet).new,st.fresh p.1=true) (hnd:nodup ((opX C o xs fet).new.map (·.1))=true):Good P V0 O0 w0 (apply st o (opX C o xs fet)) o a w:=by
  have hC:=hCx.T
  have hF:FOk O st.Aa m w fet:=fun q x h=>⟨hf q x h,hS.Aa q x (hf q x h)⟩
  obtain⟨dst,op,ty,pos,after,guard⟩:=o
  cases op with
  | move x =>
    obtain⟨x',rfl⟩:=len1 hl
    exact(pM (o:=⟨dst,.move x,ty,pos,after,guard⟩) (.inl rfl) (hx 0 (by simp))).good hS
  | assign x =>
    obtain⟨x',rfl⟩:=len1 hl
    exact(pM (o:=⟨dst,.assign x,ty,pos,after,guard⟩) (.inr rfl) (hx 0 (by simp))).good hS
  | pick c x y =>
    obtain⟨c',x',y',rfl⟩:=Ab2 hl
    exact(Adh rfl (hx 0 (by simp)) (hx 1 (by simp)) (hx 2 (by simp)) hok).good hS
  | alloc t =>
    obtain rfl:xs=[]:=List.eq_nil_of_length_eq_zero hl
    obtain⟨d,hd,he⟩:=AA (show Am (AY dst fun d=>MG C d t).ok from hok)
    have e1:opX C ⟨dst,.alloc t,ty,pos,after,guard⟩ [] fet=MG C d t:=he
    rw[e1]at hok hfr hnd ⊢
    exact yV hC hS hd rfl hok hfr hnd
  | box t x =>
    obtain⟨x',rfl⟩:=len1 hl
    obtain⟨d,hd,he⟩:=AA (show Am (AY dst fun d=>Xh C d t x').ok from hok)
    have e1:opX C ⟨dst,.box t x,ty,pos,after,guard⟩ [x'] fet=Xh C d t x':=he
    rw[e1]at hok hfr hnd ⊢
    exact Acr hC hS hd rfl (hx 0 (by simp)) (hids x' (by simp)) hok hfr hnd
  | build t ps =>
    have hps:xs.length=ps.size:=by
      rw[hl];simp [Op.operands]
    have e1:opX C ⟨dst,.build t ps,ty,pos,after,guard⟩ xs fet=Xj C t ((ps.toList.map (fun(p:Nat×Operand)=>p.1)).zip xs):=rfl
    rw[e1]at hok ⊢
    refine(AaO (o:=⟨dst,.build t ps,ty,pos,after,guard⟩) (ps:=ps) (xs:=(ps.toList.map (fun(p:Nat×Operand)=>p.1)).zip xs) hC rfl (by simp [hps]) (fun j x p hxj hpj=> ?_) hok).good hS
    have hj:j<ps.size:=(Array.getElem?_eq_some_iff.1 hpj).1
    have hjx:j<xs.length:=by omega
    rw[List.getElem?_zip_eq_some]at hxj
    obtain⟨h1,h2⟩:=hxj
    have:=hx j hjx
    have e1:(Op.build t ps).operands.getD j (.tmp 0)=p.2:=by
      simp only[Op.operands]
      rw[Array.getD_eq_getD_getElem?]
      simp [hpj]
    have e2:xs.getD j .undef=x.2:=by rw[List.getD_eq_getElem?_getD,h2];rfl
    refine⟨?_,?_⟩
    ·simp [hpj]at h1;exact h1
    ·rw[<- e1,<- e2];exact this
  | buildSlice t n ps =>
    obtain⟨d,hd,he⟩:=AA (show Am (AY dst fun d=>bif iR ((ps.toList.map (·.1)).zip xs)then Xi C d t n ((ps.toList.map (·.1)).zip xs)else F5 C fet d t n ((ps.toList.map (·.1)).zip xs)).ok from hok)
    have e1:opX C ⟨dst,.buildSlice t n ps,ty,pos,after,guard⟩ xs fet=bif iR ((ps.toList.map (·.1)).zip xs)then Xi C d t n ((ps.toList.map (·.1)).zip xs)else F5 C fet d t n ((ps.toList.map (·.1)).zip xs):=he
    rw[e1]at hok hfr hnd ⊢
    have hps:xs.length=ps.size:=by
      rw[hl];simp [Op.operands]
    have hz:((ps.toList.map (·.1)).zip xs).length=ps.size:=by simp [hps]
    have hxz: ∀(j:Nat) (x:Nat×A) (p:Nat×Operand),((ps.toList.map (·.1)).zip xs)[j]? =some x->ps[j]? =some p->p.1=x.1/\Au O st.Aa m w (a.eval p.2) x.2:=by
      intro j x p hxj hpj
      have hj:j<ps.size:=(Array.getElem?_eq_some_iff.1 hpj).1
      have hjx:j<xs.length:=by omega
      rw[List.getElem?_zip_eq_some]at hxj
      obtain⟨h1,h2⟩:=hxj
      have:=hx j hjx
      have e1:(Op.buildSlice t n ps).operands.getD j (.tmp 0)=p.2:=by
        simp only[Op.operands]
        rw[Array.getD_eq_getD_getElem?]
        simp [hpj]
      have e2:xs.getD j .undef=x.2:=by rw[List.getD_eq_getElem?_getD,h2];rfl
      refine⟨?_,?_⟩
      ·simp [hpj]at h1;exact h1
      ·rw[<- e1,<- e2];exact this
    cases hp:iR ((ps.toList.map (·.1)).zip xs)with
    | false =>
      rw[hp]at hok hfr
      exact eF (o:=⟨dst,.buildSlice t n ps,ty,pos,after,guard⟩) (ps:=ps) hC hS hd rfl hf hz hxz hok hfr
    | true =>
      rw[hp]at hok hfr hnd
      exact AdF (o:=⟨dst,.buildSlice t n ps,ty,pos,after,guard⟩) (ps:=ps) hC hS hd rfl hz hxz (fun x hx'=>hids x.2 (List.of_mem_zip hx').2) hok hfr hnd
  | load t x =>
    obtain⟨x',rfl⟩:=len1 hl
    exact(pJ hC hF rfl (hx 0 (by simp)) hok).good hS
  | store t x y =>
    obtain⟨x',y',rfl⟩:=Yi hl
    cases dst with
    | some d=>exact(Az hok).elim
    | none =>
      have e1:opX C ⟨none,.store t x y,ty,pos,after,guard⟩ [x',y'] fet=Ht C fet t x' y':=rfl
      rw[e1]at hok hfr hnd ⊢
      cases x' with
      | ptr q off=>exact sV hC hS rfl rfl hf (hx 0 (by simp)) (hx 1 (by simp)) (hids y' (by simp)) hok hfr hnd
      | AV q i off=>exact sW hC hS rfl rfl hf (hx 0 (by simp)) (hx 1 (by simp)) hok
      | _ =>
        exfalso
        unfold Ht at hok
        obtain⟨ti,ht,he⟩:=Ba hok
        rw[he]at hok
        exact Az hok
  | nilCheck x =>
    obtain⟨x',rfl⟩:=len1 hl
    exact(rG hF rfl (hx 0 (by simp)) hok).good hS
  | binOp op t x y t' =>
    obtain⟨x',y',rfl⟩:=Yi hl
    exact(AdC hC hF rfl (hx 0 (by simp)) (hx 1 (by simp)) hok).good hS
  | unOp op t x =>
    obtain⟨x',rfl⟩:=len1 hl
    exact(Afg rfl (hx 0 (by simp)) hok).good hS
  | convert s t x =>
    obtain⟨x',rfl⟩:=len1 hl
    exact Acy (o:=⟨dst,.convert s t x,ty,pos,after,guard⟩) hC hS rfl hf (hx 0 (by simp)) hok hfr
  | makeSlice t l c =>
    obtain⟨l',c',rfl⟩:=Yi hl
    obtain⟨d,hd,he⟩:=AA (show Am (AY dst fun d=>Vr C d t l' c').ok from hok)
    have e1:opX C ⟨dst,.makeSlice t l c,ty,pos,after,guard⟩ [l',c'] fet=Vr C d t l' c':=he
    rw[e1]at hok hfr ⊢
    exact AcT hC hS hd rfl (hx 0 (by simp)) (hx 1 (by simp)) hok hfr
  | slice t x lo hi mx =>
    have hok':Am (slX C dst fet t lo hi mx xs).ok:=hok
    show Good P V0 O0 w0 (apply st _ (slX C dst fet t lo hi mx xs)) _ a w
    cases mx with
    | some _=>exfalso;cases lo<;>cases hi<;>exact Az hok'
    | none =>
      cases lo with
      | none =>
        cases hi with
        | none =>
          obtain⟨x',rfl⟩:=len1 (by simpa [Op.operands]using hl)
          exact Pj (o:=⟨dst,.slice t x none none none,ty,pos,after,guard⟩) (lo:=none) (hi:=none) (lo':=none) (hi':=none) hC hS rfl hf (hx 0 (by simp)) trivial trivial hok'
        | some h =>
          obtain⟨x',h',rfl⟩:=Yi (by simpa [Op.operands]using hl)
          have plain:Am (Ce C fet t x' none (some h')).ok->Good P V0 O0 w0 (apply st ⟨dst,.slice t x none (some h) none,ty,pos,after,guard⟩ (Ce C fet t x' none (some h'))) ⟨dst,.slice t x none (some h) none,ty,pos,after,guard⟩ a w:=fun hok'' =>
            Pj (o:=⟨dst,.slice t x none (some h) none,ty,pos,after,guard⟩) (lo:=none) (hi:=some h) (lo':=none) (hi':=some h') hC hS rfl hf (hx 0 (by simp)) trivial (hx 1 (by simp)) hok''
          cases dst with
          | none=>exact plain hok'
          | some d =>
            have hfr': ∀ p∈(slX C (some d) fet t none (some h) none [x',h']).new,st.fresh p.1=true:=hfr
            have e1:slX C (some d) fet t none (some h) none [x',h']=bif has C.cuts d then X9 C fet d t x' h' else Ce C fet t x' none (some h'):=rfl
            rw[e1]at hok' hfr' ⊢
            cases hc:has C.cuts d with
            | false=>rw[hc]at hok';exact plain hok'
            | true =>
              rw[hc]at hok' hfr'
              exact AdK (o:=⟨some d,.slice t x none (some h) none,ty,pos,after,guard⟩) hC hS rfl rfl hf (hx 0 (by simp)) (hx 1 (by simp)) hok' hfr'
      | some l =>
        cases hi with
        | none =>
          obtain⟨x',l',rfl⟩:=Yi (by simpa [Op.operands]using hl)
          have plain:Am (Ce C fet t x' (some l') none).ok->Good P V0 O0 w0 (apply st ⟨dst,.slice t x (some l) none none,ty,pos,after,guard⟩ (Ce C fet t x' (some l') none)) ⟨dst,.slice t x (some l) none none,ty,pos,after,guard⟩ a w:=fun hok'' =>
            Pj (o:=⟨dst,.slice t x (some l) none none,ty,pos,after,guard⟩) (lo:=some l) (hi:=none) (lo':=some l') (hi':=none) hC hS rfl hf (hx 0 (by simp)) (hx 1 (by simp)) trivial hok''
          cases dst with
          | none=>exact plain hok'
          | some d =>
            have e1:slX C (some d) fet t (some l) none none [x',l']=bif has C.cuts d then VN C fet t x' l' else Ce C fet t x' (some l') none:=rfl
            rw[e1]at hok' ⊢
            cases hc:has C.cuts d with
            | false=>rw[hc]at hok';exact plain hok'
            | true =>
              rw[hc]at hok'
              exact(Ads (o:=⟨some d,.slice t x (some l) none none,ty,pos,after,guard⟩) hC hF rfl (hx 0 (by simp)) (hx 1 (by simp)) hok').good hS
        | some h =>
          obtain⟨x',l',h',rfl⟩:=Ab2 (by simpa [Op.operands]using hl)
          exact Pj (o:=⟨dst,.slice t x (some l) (some h) none,ty,pos,after,guard⟩) (lo:=some l) (hi:=some h) (lo':=some l') (hi':=some h') hC hS rfl hf (hx 0 (by simp)) (hx 1 (by simp)) (hx 2 (by simp)) hok'
  | fieldAddr t x f =>
    obtain⟨x',rfl⟩:=len1 hl
    exact(mD hC hF rfl (hx 0 (by simp)) hok).good hS
  | field t x f =>
    obtain⟨x',rfl⟩:=len1 hl
    exact(Abi hC rfl (hx 0 (by simp)) hok).good hS
  | indexAddr t x i =>
    obtain⟨x',i',rfl⟩:=Yi hl
    exact(mQ hC hF rfl (hx 0 (by simp)) (hx 1 (by simp)) hok).good hS
  | index t x i =>
    obtain⟨x',i',rfl⟩:=Yi hl
    exact(Abs hC rfl (hx 0 (by simp)) (hx 1 (by simp)) hok).good hS
  | extract x i =>
    obtain⟨x',rfl⟩:=len1 hl
    exact(vY rfl (hx 0 (by simp)) hok).good hS
  | makeFunc fn fi cap =>
    cases fn with
    | func f =>
      have e1:opX C ⟨dst,.makeFunc (.func f) fi cap,ty,pos,after,guard⟩ xs fet=bif fi.isEmpty then a1 (kZ fet f) xs else .no:=rfl
      rw[e1]at hok ⊢
      cases hfi:fi.isEmpty with
      | false=>rw[hfi]at hok;exact(Az hok).elim
      | true =>
        rw[hfi]at hok
        obtain⟨x',rfl⟩:=Ae8 (show Am (a1 (kZ fet f) xs).ok from hok)
        have hfi':fi= #[]:=by simpa using hfi
        subst hfi'
        have hcap: ∃ x,cap= #[x]:=by
          have:cap.size=1:=by simpa [Op.operands]using hl.symm
          exact⟨cap[0],by apply Array.ext (by simp [this]);intro i h1 h2;have:i=0:=by omega
                          subst this;rfl⟩
        obtain⟨x,rfl⟩:=hcap
        exact AdI (o:=⟨dst,.makeFunc (.func f) #[] #[x],ty,pos,after,guard⟩) hS rfl hf (hx 0 (by simp)) hok
    | _=>exfalso;exact jE hok rfl
  | makeMap t r =>
    obtain⟨d,hd,he⟩:=AA (show Am (AY dst fun d=>Jj C d t xs).ok from hok)
    have e1:opX C ⟨dst,.makeMap t r,ty,pos,after,guard⟩ xs fet=Jj C d t xs:=he
    rw[e1]at hok hfr ⊢
    exact wW hC hS hd rfl (by rw[hl];rfl) hok hfr
  | lookup t x i c =>
    obtain⟨x',i',rfl⟩:=Yi hl
    exact(zV hC hF rfl (hx 0 (by simp)) (hx 1 (by simp)) hok).good hS
  | mapUpdate t x i y =>
    obtain⟨x',i',y',rfl⟩:=Ab2 hl
    cases dst with
    | some d=>exact(Az hok).elim
    | none=>exact aO (o:=⟨none,.mapUpdate t x i y,ty,pos,after,guard⟩) hC hS rfl (.inl rfl) hf (hx 0 (by simp)) (hx 1 (by simp)) (hx 2 (by simp)) hok
  | insert t x i y =>
    obtain⟨x',i',y',rfl⟩:=Ab2 hl
    cases dst with
    | some d=>exact(Az hok).elim
    | none=>exact aO (o:=⟨none,.insert t x i y,ty,pos,after,guard⟩) hC hS rfl (.inr rfl) hf (hx 0 (by simp)) (hx 1 (by simp)) (hx 2 (by simp)) hok
  | call c =>
    obtain⟨callee,args,ts⟩:=c
    cases callee with
    | value fo =>
      cases fo with
      | func f =>
        have hl':xs.length=1+args.size:=by rw[hl];simp [Op.operands,Call.operands]
        obtain⟨x0,xs',rfl⟩: ∃ x0 xs',xs=x0::xs':=by
          cases xs with
          | nil=>simp at hl';omega
          | cons x0 xs'=>exact⟨x0,xs',rfl⟩
        have e1:opX C ⟨dst,.call ⟨.value (.func f),args,ts⟩,ty,pos,after,guard⟩ (x0::xs') fet=OH C fet (dst.getD 0) f xs':=rfl
        rw[e1]at hok hfr hnd ⊢
        cases hsg:C.G f with
        | none=>exfalso;unfold OH at hok;rw[hsg]at hok;exact Az hok
        | some sg =>
          have e3:OH C fet (dst.getD 0) f xs'=keepD fet xs' (C.kept f) (EC fet (dst.getD 0) sg xs'):=by unfold OH;rw[hsg]
          rw[e3]at hok hfr hnd ⊢
          obtain⟨hok,k1,k2,k3,k4⟩:=Abx _ hok
          rw[k2]at hfr hnd
          have e4: ∀ o',apply st o' (keepD fet xs' (C.kept f) (EC fet (dst.getD 0) sg xs'))=apply st o' (EC fet (dst.getD 0) sg xs'):=fun o'=>by unfold apply;rw[k1,k2,k3,k4]
          rw[e4]
          refine oO (x0:=.func f) hS rfl rfl rfl (hCx.G f sg hsg) hf (by simp at hl';show xs'.length=args.size;omega) (fun j hj=> ?_) hok hfr hnd
          have:=hx (j+1) (by simpa using hj)
          have e2:(Op.call ⟨.value (.func f),args,ts⟩).operands.getD (j+1) (.tmp 0)=args.getD j (.tmp 0):=by
            simp only[Op.operands,Call.operands]
            rw[Array.getD_eq_getD_getElem?,Array.getD_eq_getD_getElem?,Array.getElem?_append_right (by simp)]
            simp
          rw[e2]at this
          simpa using this
      | tmp t =>
        have hl':xs.length=1+args.size:=by rw[hl];simp [Op.operands,Call.operands]
        obtain⟨x0,xs',rfl⟩: ∃ x0 xs',xs=x0::xs':=by
          cases xs with
          | nil=>simp at hl';omega
          | cons x0 xs'=>exact⟨x0,xs',rfl⟩
        have e1:opX C ⟨dst,.call ⟨.value (.tmp t),args,ts⟩,ty,pos,after,guard⟩ (x0::xs') fet=vO C fet (dst.getD 0) t x0 xs':=rfl
        rw[e1]at hok hfr hnd ⊢
        have h0:=hx 0 (by simp)
        have e0:(Op.call ⟨.value (.tmp t),args,ts⟩).operands.getD 0 (.tmp 0)= .tmp t:=by
          show(#[Operand.tmp t]++args).getD 0 (.tmp 0)= .tmp t
          rw[Array.getD_eq_getD_getElem?,Array.getElem?_append_left (by simp)];rfl
        rw[e0]at h0
        have h0:Au O st.Aa m w (a.eval (.tmp t)) x0:=h0
        unfold vO at hok hfr hnd ⊢
        cases x0 with
        | fn n =>
          cases hsg:C.dyn t with
          | none=>rw[hsg]at hok;exact(Az hok).elim
          | some F =>
            rw[hsg]at hok hfr hnd
            dsimp only at hok hfr hnd ⊢
            obtain⟨hd1,hd2⟩:=hCx.dyn t F hsg
            have hok2:=vG hok
            cases n with
            | zero=>rw[hd1]at hok2;cases hok2
            | succ f =>
              have hev:a.eval (.tmp t)= .func (.func f) #[] #[]:=by
                have h1:Ak O w (a.eval (.tmp t)) (.fn (f+1)):=h0
                generalize a.eval (.tmp t)=v at h1 ⊢
                cases h1;rfl
              refine oO (x0:=.tmp t) hS rfl rfl hev (hd2 f _ hok2) hf (by simp at hl';show xs'.length=args.size;omega) (fun j hj=> ?_) hok hfr hnd
              have:=hx (j+1) (by simpa using hj)
              have e2:(Op.call ⟨.value (.tmp t),args,ts⟩).operands.getD (j+1) (.tmp 0)=args.getD j (.tmp 0):=by
                simp only[Op.operands,Call.operands]
                rw[Array.getD_eq_getD_getElem?,Array.getD_eq_getD_getElem?,Array.getElem?_append_right (by simp)]
                simp
              rw[e2]at this
              simpa using this
        | clo f q =>
          obtain⟨cs,hb,he⟩:=AA hok
          dsimp only at he hok hfr hnd ⊢
          rw[he]at hok hfr hnd ⊢;clear he
          have hc:Aw O st.Aa m w (a.eval (.tmp t)) (.clo f q):=h0
          obtain⟨_,p,k5,⟨b,j0,k2,k3,k4⟩,hc⟩:=hc
          cases hsg:C.dyn t with
          | none=>rw[hsg]at hok;exact(Az hok).elim
          | some F =>
            rw[hsg]at hok hfr hnd
            dsimp only at hok hfr hnd ⊢
            obtain⟨hd1,hd2⟩:=hCx.dyn t F hsg
            have hok2:=vG hok
            cases f with
            | zero=>rw[hd1]at hok2;cases hok2
            | succ f =>
              have hlx:xs'.length=args.size:=by simp at hl';omega
              refine eG (x0:=.tmp t) (caps:= #[.pointer (some (at' b j0))]) (av:=args.map a.eval++ #[.pointer (some (at' b j0))]) hS rfl rfl k2 rfl (hd2 f _ hok2) hf (by simp [hlx]) (fun j hj=> ?_) hok hfr hnd
              rcases Nat.lt_or_ge j xs'.length with hjl | hjl
              ·have:=hx (j+1) (by simpa using hjl)
               have e2:(Op.call ⟨.value (.tmp t),args,ts⟩).operands.getD (j+1) (.tmp 0)=args.getD j (.tmp 0):=by
                 simp only[Op.operands,Call.operands]
                 rw[Array.getD_eq_getD_getElem?,Array.getD_eq_getD_getElem?,Array.getElem?_append_right (by simp)]
                 simp
               rw[e2]at this
               have hjs:j<args.size:=by omega
               have e3:(args.map a.eval++ #[Value.pointer (some (at' b j0))]).getD j undef=a.eval (args.getD j (.tmp 0)):=by
                 rw[Array.getD_eq_getD_getElem?,Array.getElem?_append_left (by simpa using hjs),Array.getD_eq_getD_getElem?]
                 simp [hjs]
               have e4:(xs'++[A.clo 0 q]).getD j .undef=xs'.getD j .undef:=by
                 simp [List.getD_eq_getElem?_getD,List.getElem?_append_left,hjl]
               rw[e3,e4]
               simpa using this
              ·have hj':j=xs'.length:=by simp at hj;omega
               subst hj'
               have e3:(args.map a.eval++ #[Value.pointer (some (at' b j0))]).getD xs'.length undef= .pointer (some (at' b j0)):=by
                 rw[hlx,Array.getD_eq_getD_getElem?,Array.getElem?_append_right (by simp)]
                 simp
               have e4:(xs'++[A.clo 0 q]).getD xs'.length .undef= .clo 0 q:=by
                 simp [List.getD_eq_getElem?_getD]
               rw[e3,e4]
               show Aw O st.Aa m w _ (.clo 0 q)
               exact⟨rfl,p,k5,⟨b,j0,rfl,k3,k4⟩,hc⟩
        | _=>exact(Az hok).elim
      | _=>exfalso;exact jE hok rfl
    | builtin b =>
      have hok':Am (blX C ⟨dst,.call ⟨.builtin b,args,ts⟩,ty,pos,after,guard⟩ fet ts.toList b xs).ok:=hok
      cases b with
      | len =>
        obtain⟨x',rfl⟩:=Ae8 (show Am (a1 _ xs).ok from hok')
        have hargs: ∃ x,args= #[x]:=by
          have:args.size=1:=by simpa [Op.operands,Call.operands]using hl.symm
          exact⟨args[0],by apply Array.ext (by simp [this]);intro i h1 h2;have:i=0:=by omega
                           subst this;rfl⟩
        obtain⟨x,rfl⟩:=hargs
        obtain⟨t,ht,he⟩:=AA (show Am (AY (one? ts.toList) fun t=>mX C fet t x').ok from hok')
        have e1:opX C ⟨dst,.call ⟨.builtin .len,#[x],ts⟩,ty,pos,after,guard⟩ [x'] fet=mX C fet t x':=he
        rw[e1]at hok ⊢
        exact(Aeb hC hF rfl rfl rfl (pW ht) (hx 0 (by simp)) hok).good hS
      | copy =>
        obtain⟨x',y',rfl⟩:=dS (show Am (a2 _ xs).ok from hok')
        have hargs: ∃ x y,args= #[x,y]:=by
          have:args.size=2:=by simpa [Op.operands,Call.operands]using hl.symm
          refine⟨args[0],args[1],?_⟩
          apply Array.ext (by simp [this])
          intro i h1 h2
          have:i=0\/i=1:=by omega
          rcases this with rfl | rfl<;>rfl
        obtain⟨x,y,rfl⟩:=hargs
        exact Acz (o:=⟨dst,.call ⟨.builtin .copy,#[x,y],ts⟩,ty,pos,after,guard⟩) (ts':=ts.toList) hC hS rfl rfl rfl rfl hf (hx 0 (by simp)) (hx 1 (by simp)) hok'
      | append =>
        obtain⟨x',y',rfl⟩:=dS (show Am (a2 _ xs).ok from hok')
        have hargs: ∃ x y,args= #[x,y]:=by
          have:args.size=2:=by simpa [Op.operands,Call.operands]using hl.symm
          refine⟨args[0],args[1],?_⟩
          apply Array.ext (by simp [this])
          intro i h1 h2
          have:i=0\/i=1:=by omega
          rcases this with rfl | rfl<;>rfl
        obtain⟨x,y,rfl⟩:=hargs
        have e0:opX C ⟨dst,.call ⟨.builtin .append,#[x,y],ts⟩,ty,pos,after,guard⟩ [x',y'] fet=Ad7 C ⟨dst,.call ⟨.builtin .append,#[x,y],ts⟩,ty,pos,after,guard⟩ fet ts.toList x' y':=rfl
        rw[e0]at hok hfr ⊢
        clear hok' e0
        generalize hts:ts.toList=tl at hok hfr ⊢
        unfold Ad7 at hok hfr ⊢
        split at hok
        ·rename_i t u
         dsimp only at hfr ⊢
         obtain⟨tu,htu,he⟩:=Ba hok
         rw[he]at hok hfr ⊢
         obtain⟨d,hd,he⟩:=AA hok
         rw[he]at hok hfr ⊢
         obtain⟨h1,h2⟩:=hok.cons
         exact yX hC hS hd rfl rfl rfl hts htu h1 hf (hx 0 (by simp)) (hx 1 (by simp)) h2 hfr
        ·exact(Az hok).elim
      | delete =>
        obtain⟨x',y',rfl⟩:=dS (show Am (a2 _ xs).ok from hok')
        have hargs: ∃ x y,args= #[x,y]:=by
          have:args.size=2:=by simpa [Op.operands,Call.operands]using hl.symm
          refine⟨args[0],args[1],?_⟩
          apply Array.ext (by simp [this])
          intro i h1 h2
          have:i=0\/i=1:=by omega
          rcases this with rfl | rfl<;>rfl
        obtain⟨x,y,rfl⟩:=hargs
        have e0:opX C ⟨dst,.call ⟨.builtin .delete,#[x,y],ts⟩,ty,pos,after,guard⟩ [x',y'] fet=(match ts.toList with | t::_=>TR C fet t x' y' | []=>.no):=rfl
        rw[e0]at hok ⊢
        clear hok' e0
        generalize hts:ts.toList=tl at hok ⊢
        cases tl with
        | nil=>exact(Az hok).elim
        | cons t r=>exact zH (o:=⟨dst,.call ⟨.builtin .delete,#[x,y],ts⟩,ty,pos,after,guard⟩) hC hS rfl rfl rfl hts hf (hx 0 (by simp)) (hx 1 (by simp)) hok
      | min =>
        obtain⟨x',y',rfl⟩:=dS (show Am (a2 _ xs).ok from hok')
        have hargs: ∃ x y,args= #[x,y]:=by
          have:args.size=2:=by simpa [Op.operands,Call.operands]using hl.symm
          refine⟨args[0],args[1],?_⟩
          apply Array.ext (by simp [this])
          intro i h1 h2
          have:i=0\/i=1:=by omega
          rcases this with rfl | rfl<;>rfl
        obtain⟨x,y,rfl⟩:=hargs
        exact(Aeh (o:=⟨dst,.call ⟨.builtin .min,#[x,y],ts⟩,ty,pos,after,guard⟩) rfl rfl rfl (hx 0 (by simp)) (hx 1 (by simp)) hok).good hS
      | max =>
        obtain⟨x',y',rfl⟩:=dS (show Am (a2 _ xs).ok from hok')
        have hargs: ∃ x y,args= #[x,y]:=by
          have:args.size=2:=by simpa [Op.operands,Call.operands]using hl.symm
          refine⟨args[0],args[1],?_⟩
          apply Array.ext (by simp [this])
          intro i h1 h2
          have:i=0\/i=1:=by omega
          rcases this with rfl | rfl<;>rfl
        obtain⟨x,y,rfl⟩:=hargs
        exact(Aef (o:=⟨dst,.call ⟨.builtin .max,#[x,y],ts⟩,ty,pos,after,guard⟩) rfl rfl rfl (hx 0 (by simp)) (hx 1 (by simp)) hok).good hS
      | _=>exfalso;exact Az hok'
    | invoke r mth=>exfalso;exact jE hok rfl
  | _=>exfalso;exact jE hok rfl
end
