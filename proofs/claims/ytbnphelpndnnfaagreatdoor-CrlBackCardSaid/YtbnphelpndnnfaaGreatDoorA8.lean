import Derived.Test.YtbnphelpndnnfaaGreatDoorA7
set_option linter.all false
namespace Go.Proofs.YtbnphelpndnnfaaGreatDoor.Vm
open Classical
structure CtxOk (P:Program) (C:Ctx):Prop where
  T:TOk P C
  G: ∀ f sg,C.G f=some sg->Spec P f sg
  alt: ∀ f q,C.alt f=some q->Spec P f q.1/\Spec P f q.2.1
  dyn: ∀ t F,C.dyn t=some F->(∀ xs,(F 0).ok xs=false)/\ ∀ f xs,(F (f+1)).ok xs=true->Spec P f (F (f+1))
theorem CtxOk.put {P:Program} {C:Ctx} (h:CtxOk P C) {f:Nat} {s:Sig} (hs:Spec P f s):CtxOk P (C.put f s):=⟨h.T,fun k sg hk=>by
    have hk':(bif Nat.beq f k then some s else C.G k)=some sg:=hk
    cases hb:Nat.beq f k with
    | true=>simp_all
    | false=>rw[hb]at hk';exact h.G k sg hk',h.alt,h.dyn⟩
theorem eqC_eq {a b:A} (h:eqC a b=true):a=b:=by
  unfold eqC at h
  split at h
  ·rw[eq_of_beq h]
  ·rw[Bool.and_eq_true]at h;rw[A.kEq_eq h.1,eq_of_beq h.2]
  ·rw[eq_of_beq h]
  ·cases h
theorem keep1_spec {fet:Fet} {x:A} {j:Nat} {δ :Dl} (h:AllT (keep1 fet x j δ).ok):AllT δ.ok/\(keep1 fet x j δ).val= δ.val/\(keep1 fet x j δ).new= δ.new/\(keep1 fet x j δ).upd= δ.upd/\(keep1 fet x j δ).del= δ.del:=by
  unfold keep1 at *
  cases x with
  | ptr q off =>
    dsimp only at h ⊢
    cases hb:box? fet q with
    | none=>rw[hb]at h;exact⟨h,rfl,rfl,rfl,rfl⟩
    | some cs =>
      rw[hb]at h
      dsimp only at h ⊢
      cases hc:Nat.blt j cs.length&& δ.upd.all (fun p=> !(Nat.beq p.1 q)||lenOk cs.length p.2)with
      | false=>rw[hc]at h;exact⟨h,rfl,rfl,rfl,rfl⟩
      | true =>
        rw[hc]at h
        obtain⟨h1,h2⟩:=(show AllT (δ.ok++_)from h).append
        refine⟨h1,rfl,rfl,?_,rfl⟩
        show δ.upd.map _= δ.upd
        conv=>rhs;rw[<- List.map_id δ.upd]
        refine List.map_congr_left fun p hp=> ?_
        have h3:=h2 _ (List.mem_map.2 ⟨p,hp,rfl⟩)
        cases hq:Nat.beq p.1 q with
        | false=>rfl
        | true =>
          rw[hq]at h3
          have h3:eqU j (cs.getD j .undef) p.2=true:=h3
          obtain⟨n,y⟩:=p
          cases y with
          | box ds =>
            have h4:=eqC_eq (show eqC (ds.getD j .undef) (cs.getD j .undef)=true from h3)
            show(n,Obj.box (ds.set j (cs.getD j .undef)))=(n,Obj.box ds)
            rw[<- h4]
            congr 2
            apply List.ext_getElem?
            intro i
            rw[List.getElem?_set]
            by_cases hij:j=i
            ·subst hij
             rw[if_pos rfl]
             by_cases hl:j<ds.length
             ·simp [hl,List.getD_eq_getElem?_getD]
             ·simp [hl]
            ·rw[if_neg hij]
          | _=>cases h3
  | _=>exact⟨h,rfl,rfl,rfl,rfl⟩
theorem keepD_spec {fet:Fet} {xs:List A}: ∀(ks:List (Nat×Nat)) {δ :Dl},AllT (keepD fet xs ks δ).ok->AllT δ.ok/\(keepD fet xs ks δ).val= δ.val/\(keepD fet xs ks δ).new= δ.new/\(keepD fet xs ks δ).upd= δ.upd/\(keepD fet xs ks δ).del= δ.del:=by
  intro ks
  induction ks with
  | nil=>intro δ h;exact⟨h,rfl,rfl,rfl,rfl⟩
  | cons k ks ih =>
    intro δ h
    obtain⟨i,j⟩:=k
    obtain⟨h1,h2,h3,h4,h5⟩:=ih (δ :=keep1 fet (xs.getD i .undef) j δ) h
    obtain⟨g1,g2,g3,g4,g5⟩:=keep1_spec h1
    exact⟨g1,h2.trans g2,h3.trans g3,h4.trans g4,h5.trans g5⟩
theorem CtxOk.decide {P:Program} {C:Ctx} (h:CtxOk P C) (ds:List Nat) (b:Bool):CtxOk P (C.decide ds b):=⟨h.T,h.G,h.alt,h.dyn⟩
section
variable {P:Program} {C:Ctx} {V0:Nat->Value} {O0 O:Own} {w0 w:World} {m:Nat->Value} {st:St} {a:Act} {o:Oper}
theorem len1 {xs:List A} (h:xs.length=1): ∃ x,xs=[x]:=List.length_eq_one_iff.1 h
theorem len2 {xs:List A} (h:xs.length=2): ∃ x y,xs=[x,y]:=by
  match xs,h with
  | [x,y],_=>exact⟨x,y,rfl⟩
theorem len3 {xs:List A} (h:xs.length=3): ∃ x y z,xs=[x,y,z]:=by
  match xs,h with
  | [x,y,z],_=>exact⟨x,y,z,rfl⟩
theorem not_ok {δ :Dl} (h:AllT δ.ok) (e: δ = .no):False:=by rw[e]at h;exact not_AllT_no h
theorem slice_good {t:Nat} {x:Operand} {lo hi:Option Operand} (hC:TOk P C) (hS:Sim V0 O0 w0 O m st a w) (ho:o.op= .slice t x lo hi none) {fet:Fet} (hf:Fet' st.objs fet) {x':A} {lo' hi':Option A} (hx:TRel O st.objs m w (a.eval x) x')
    (hlo:ORl O st.objs m w (lo.map a.eval) lo') (hhi:ORl O st.objs m w (hi.map a.eval) hi') (hok:AllT (sliceX C fet t x' lo' hi').ok):Good P V0 O0 w0 (apply st o (sliceX C fet t x' lo' hi')) o a w:=by
  cases x' with
  | str s=>exact(slice_str hC ho rfl hx hlo hhi hok).good hS
  | sl l=>exact(slice_sl hC ho rfl hx hlo hhi hok).good hS
  | own q=>grind[sliceOwn_good]
  | _=>grind[sliceX,tiOf_ok,not_AllT_no]
theorem a1_ok {k:A->Dl} {v:List A} (h:AllT (a1 k v).ok): ∃ x,v=[x]:=by
  match v,h with
  | [x],_=>exact⟨x,rfl⟩
  | [],h=>exact(not_AllT_no h).elim
  | _::_::_,h=>exact(not_AllT_no h).elim
theorem a2_ok {k:A->A->Dl} {v:List A} (h:AllT (a2 k v).ok): ∃ x y,v=[x,y]:=by
  match v,h with
  | [x,y],_=>exact⟨x,y,rfl⟩
  | [],h=>exact(not_AllT_no h).elim
  | [_],h=>exact(not_AllT_no h).elim
  | _::_::_::_,h=>exact(not_AllT_no h).elim
set_option maxHeartbeats 1000000 in
theorem op_sound (hCx:CtxOk P C) (hS:Sim V0 O0 w0 O m st a w) {fet:Fet} (hf:Fet' st.objs fet) {xs:List A} (hl:xs.length=o.op.operands.size) (hx: ∀ j,j<xs.length->TRel O st.objs m w (a.eval (o.op.operands.getD j (.tmp 0))) (xs.getD j .undef))
    (hids: ∀ x∈xs,∀ i∈x.ids,i∈st.ids\/(aget st.objs i).isSome)
    (hok:AllT (opX C o xs fet).ok) (hfr: ∀ p∈(opX C o xs fet).new,st.fresh p.1=true) (hnd:nodup ((opX C o xs fet).new.map (·.1))=true):Good P V0 O0 w0 (apply st o (opX C o xs fet)) o a w:=by
  have hC:=hCx.T
  have hF:FOk O st.objs m w fet:=fun q x h=>⟨hf q x h,hS.objs q x (hf q x h)⟩
  obtain⟨dst,op,ty,pos,after,guard⟩:=o
  cases op with
  | move x =>
    obtain⟨x',rfl⟩:=len1 hl
    exact(move_pure (o:=⟨dst,.move x,ty,pos,after,guard⟩) (.inl rfl) (hx 0 (by simp))).good hS
  | assign x =>
    obtain⟨x',rfl⟩:=len1 hl
    exact(move_pure (o:=⟨dst,.assign x,ty,pos,after,guard⟩) (.inr rfl) (hx 0 (by simp))).good hS
  | pick c x y =>
    obtain⟨c',x',y',rfl⟩:=len3 hl
    exact(pick_pure rfl (hx 0 (by simp)) (hx 1 (by simp)) (hx 2 (by simp)) hok).good hS
  | alloc t =>
    obtain rfl:xs=[]:=List.eq_nil_of_length_eq_zero hl
    obtain⟨d,hd,he⟩:=optX_ok (show AllT (optX dst fun d=>allocX C d t).ok from hok)
    have e1:opX C ⟨dst,.alloc t,ty,pos,after,guard⟩ [] fet=allocX C d t:=he
    rw[e1]at hok hfr hnd ⊢
    exact allocX_good hC hS hd rfl hok hfr hnd
  | box t x =>
    obtain⟨x',rfl⟩:=len1 hl
    obtain⟨d,hd,he⟩:=optX_ok (show AllT (optX dst fun d=>boxV C d t x').ok from hok)
    have e1:opX C ⟨dst,.box t x,ty,pos,after,guard⟩ [x'] fet=boxV C d t x':=he
    rw[e1]at hok hfr hnd ⊢
    exact boxV_good hC hS hd rfl (hx 0 (by simp)) (hids x' (by simp)) hok hfr hnd
  | build t ps =>
    have hps:xs.length=ps.size:=by
      rw[hl];simp [Op.operands]
    have e1:opX C ⟨dst,.build t ps,ty,pos,after,guard⟩ xs fet=buildX C t ((ps.toList.map (fun(p:Nat×Operand)=>p.1)).zip xs):=rfl
    rw[e1]at hok ⊢
    refine(build_pure (o:=⟨dst,.build t ps,ty,pos,after,guard⟩) (ps:=ps) (xs:=(ps.toList.map (fun(p:Nat×Operand)=>p.1)).zip xs) hC rfl (by simp [hps]) (fun j x p hxj hpj=> ?_) hok).good hS
    have hj:j<ps.size:=(Array.getElem?_eq_some_iff.1 hpj).1
    have hjx:j<xs.length:=by omega
    rw[List.getElem?_zip_eq_some]at hxj
    obtain⟨h1,h2⟩:=hxj
    have:=hx j hjx
    have e1:(Op.build t ps).operands.getD j (.tmp 0)=p.2:=by
      simp only[Op.operands]
      rw[Array.getD_eq_getD_getElem?]
      simp [hpj]
    have e2:xs.getD j .undef=x.2:=by rw[List.getD_eq_getElem?_getD,h2];rfl
    refine⟨?_,?_⟩
    ·simp [hpj]at h1;exact h1
    ·rw[<- e1,<- e2];exact this
  | buildSlice t n ps =>
    obtain⟨d,hd,he⟩:=optX_ok (show AllT (optX dst fun d=>bif isPtrs ((ps.toList.map (·.1)).zip xs)then bslX C d t n ((ps.toList.map (·.1)).zip xs)else buildSliceX C fet d t n ((ps.toList.map (·.1)).zip xs)).ok from hok)
    have e1:opX C ⟨dst,.buildSlice t n ps,ty,pos,after,guard⟩ xs fet=bif isPtrs ((ps.toList.map (·.1)).zip xs)then bslX C d t n ((ps.toList.map (·.1)).zip xs)else buildSliceX C fet d t n ((ps.toList.map (·.1)).zip xs):=he
    rw[e1]at hok hfr hnd ⊢
    have hps:xs.length=ps.size:=by
      rw[hl];simp [Op.operands]
    have hz:((ps.toList.map (·.1)).zip xs).length=ps.size:=by simp [hps]
    have hxz: ∀(j:Nat) (x:Nat×A) (p:Nat×Operand),((ps.toList.map (·.1)).zip xs)[j]? =some x->ps[j]? =some p->p.1=x.1/\TRel O st.objs m w (a.eval p.2) x.2:=by
      intro j x p hxj hpj
      have hj:j<ps.size:=(Array.getElem?_eq_some_iff.1 hpj).1
      have hjx:j<xs.length:=by omega
      rw[List.getElem?_zip_eq_some]at hxj
      obtain⟨h1,h2⟩:=hxj
      have:=hx j hjx
      have e1:(Op.buildSlice t n ps).operands.getD j (.tmp 0)=p.2:=by
        simp only[Op.operands]
        rw[Array.getD_eq_getD_getElem?]
        simp [hpj]
      have e2:xs.getD j .undef=x.2:=by rw[List.getD_eq_getElem?_getD,h2];rfl
      refine⟨?_,?_⟩
      ·simp [hpj]at h1;exact h1
      ·rw[<- e1,<- e2];exact this
    cases hp:isPtrs ((ps.toList.map (·.1)).zip xs)with
    | false =>
      rw[hp]at hok hfr
      exact buildSlice_good (o:=⟨dst,.buildSlice t n ps,ty,pos,after,guard⟩) (ps:=ps) hC hS hd rfl hf hz hxz hok hfr
    | true =>
      rw[hp]at hok hfr hnd
      exact bsl_good (o:=⟨dst,.buildSlice t n ps,ty,pos,after,guard⟩) (ps:=ps) hC hS hd rfl hz hxz (fun x hx'=>hids x.2 (List.of_mem_zip hx').2) hok hfr hnd
  | load t x =>
    obtain⟨x',rfl⟩:=len1 hl
    exact(load_pure hC hF rfl (hx 0 (by simp)) hok).good hS
  | store t x y =>
    obtain⟨x',y',rfl⟩:=len2 hl
    cases dst with
    | some d=>exact(not_AllT_no hok).elim
    | none =>
      have e1:opX C ⟨none,.store t x y,ty,pos,after,guard⟩ [x',y'] fet=storeX C fet t x' y':=rfl
      rw[e1]at hok hfr hnd ⊢
      cases x' with
      | ptr q off=>exact storeBox_good hC hS rfl rfl hf (hx 0 (by simp)) (hx 1 (by simp)) (hids y' (by simp)) hok hfr hnd
      | oelt q i off=>exact storeRow_good hC hS rfl rfl hf (hx 0 (by simp)) (hx 1 (by simp)) hok
      | _ =>
        exfalso
        unfold storeX at hok
        obtain⟨ti,ht,he⟩:=tiOf_ok hok
        rw[he]at hok
        exact not_AllT_no hok
  | nilCheck x =>
    obtain⟨x',rfl⟩:=len1 hl
    exact(nilCheck_pure hF rfl (hx 0 (by simp)) hok).good hS
  | binOp op t x y t' =>
    obtain⟨x',y',rfl⟩:=len2 hl
    exact(bin_pure hC hF rfl (hx 0 (by simp)) (hx 1 (by simp)) hok).good hS
  | unOp op t x =>
    obtain⟨x',rfl⟩:=len1 hl
    exact(un_pure rfl (hx 0 (by simp)) hok).good hS
  | convert s t x =>
    obtain⟨x',rfl⟩:=len1 hl
    exact conv_good (o:=⟨dst,.convert s t x,ty,pos,after,guard⟩) hC hS rfl hf (hx 0 (by simp)) hok hfr
  | makeSlice t l c =>
    obtain⟨l',c',rfl⟩:=len2 hl
    obtain⟨d,hd,he⟩:=optX_ok (show AllT (optX dst fun d=>makeX C d t l' c').ok from hok)
    have e1:opX C ⟨dst,.makeSlice t l c,ty,pos,after,guard⟩ [l',c'] fet=makeX C d t l' c':=he
    rw[e1]at hok hfr ⊢
    exact make_good hC hS hd rfl (hx 0 (by simp)) (hx 1 (by simp)) hok hfr
  | slice t x lo hi mx =>
    have hok':AllT (slX C dst fet t lo hi mx xs).ok:=hok
    show Good P V0 O0 w0 (apply st _ (slX C dst fet t lo hi mx xs)) _ a w
    cases mx with
    | some _=>exfalso;cases lo<;>cases hi<;>exact not_AllT_no hok'
    | none =>
      cases lo with
      | none =>
        cases hi with
        | none =>
          obtain⟨x',rfl⟩:=len1 (by simpa [Op.operands]using hl)
          exact slice_good (o:=⟨dst,.slice t x none none none,ty,pos,after,guard⟩) (lo:=none) (hi:=none) (lo':=none) (hi':=none) hC hS rfl hf (hx 0 (by simp)) trivial trivial hok'
        | some h =>
          obtain⟨x',h',rfl⟩:=len2 (by simpa [Op.operands]using hl)
          have plain:AllT (sliceX C fet t x' none (some h')).ok->Good P V0 O0 w0 (apply st ⟨dst,.slice t x none (some h) none,ty,pos,after,guard⟩ (sliceX C fet t x' none (some h'))) ⟨dst,.slice t x none (some h) none,ty,pos,after,guard⟩ a w:=fun hok'' =>
            slice_good (o:=⟨dst,.slice t x none (some h) none,ty,pos,after,guard⟩) (lo:=none) (hi:=some h) (lo':=none) (hi':=some h') hC hS rfl hf (hx 0 (by simp)) trivial (hx 1 (by simp)) hok''
          cases dst with
          | none=>exact plain hok'
          | some d =>
            have hfr': ∀ p∈(slX C (some d) fet t none (some h) none [x',h']).new,st.fresh p.1=true:=hfr
            have e1:slX C (some d) fet t none (some h) none [x',h']=bif has C.cuts d then cutX C fet d t x' h' else sliceX C fet t x' none (some h'):=rfl
            rw[e1]at hok' hfr' ⊢
            cases hc:has C.cuts d with
            | false=>rw[hc]at hok';exact plain hok'
            | true =>
              rw[hc]at hok' hfr'
              exact cut_good (o:=⟨some d,.slice t x none (some h) none,ty,pos,after,guard⟩) hC hS rfl rfl hf (hx 0 (by simp)) (hx 1 (by simp)) hok' hfr'
      | some l =>
        cases hi with
        | none =>
          obtain⟨x',l',rfl⟩:=len2 (by simpa [Op.operands]using hl)
          have plain:AllT (sliceX C fet t x' (some l') none).ok->Good P V0 O0 w0 (apply st ⟨dst,.slice t x (some l) none none,ty,pos,after,guard⟩ (sliceX C fet t x' (some l') none)) ⟨dst,.slice t x (some l) none none,ty,pos,after,guard⟩ a w:=fun hok'' =>
            slice_good (o:=⟨dst,.slice t x (some l) none none,ty,pos,after,guard⟩) (lo:=some l) (hi:=none) (lo':=some l') (hi':=none) hC hS rfl hf (hx 0 (by simp)) (hx 1 (by simp)) trivial hok''
          cases dst with
          | none=>exact plain hok'
          | some d =>
            have e1:slX C (some d) fet t (some l) none none [x',l']=bif has C.cuts d then tailX C fet t x' l' else sliceX C fet t x' (some l') none:=rfl
            rw[e1]at hok' ⊢
            cases hc:has C.cuts d with
            | false=>rw[hc]at hok';exact plain hok'
            | true =>
              rw[hc]at hok'
              exact(tail_pure (o:=⟨some d,.slice t x (some l) none none,ty,pos,after,guard⟩) hC hF rfl (hx 0 (by simp)) (hx 1 (by simp)) hok').good hS
        | some h =>
          obtain⟨x',l',h',rfl⟩:=len3 (by simpa [Op.operands]using hl)
          exact slice_good (o:=⟨dst,.slice t x (some l) (some h) none,ty,pos,after,guard⟩) (lo:=some l) (hi:=some h) (lo':=some l') (hi':=some h') hC hS rfl hf (hx 0 (by simp)) (hx 1 (by simp)) (hx 2 (by simp)) hok'
  | fieldAddr t x f =>
    obtain⟨x',rfl⟩:=len1 hl
    exact(fieldAddr_pure hC hF rfl (hx 0 (by simp)) hok).good hS
  | field t x f =>
    obtain⟨x',rfl⟩:=len1 hl
    exact(field_pure hC rfl (hx 0 (by simp)) hok).good hS
  | indexAddr t x i =>
    obtain⟨x',i',rfl⟩:=len2 hl
    exact(indexAddr_pure hC hF rfl (hx 0 (by simp)) (hx 1 (by simp)) hok).good hS
  | index t x i =>
    obtain⟨x',i',rfl⟩:=len2 hl
    exact(index_pure hC rfl (hx 0 (by simp)) (hx 1 (by simp)) hok).good hS
  | extract x i =>
    obtain⟨x',rfl⟩:=len1 hl
    exact(extract_pure rfl (hx 0 (by simp)) hok).good hS
  | makeFunc fn fi cap =>
    cases fn with
    | func f =>
      have e1:opX C ⟨dst,.makeFunc (.func f) fi cap,ty,pos,after,guard⟩ xs fet=bif fi.isEmpty then a1 (cloX fet f) xs else .no:=rfl
      rw[e1]at hok ⊢
      cases hfi:fi.isEmpty with
      | false=>rw[hfi]at hok;exact(not_AllT_no hok).elim
      | true =>
        rw[hfi]at hok
        obtain⟨x',rfl⟩:=a1_ok (show AllT (a1 (cloX fet f) xs).ok from hok)
        have hfi':fi= #[]:=by simpa using hfi
        subst hfi'
        have hcap: ∃ x,cap= #[x]:=by
          have:cap.size=1:=by simpa [Op.operands]using hl.symm
          exact⟨cap[0],by apply Array.ext (by simp [this]);intro i h1 h2;have:i=0:=by omega
                          subst this;rfl⟩
        obtain⟨x,rfl⟩:=hcap
        exact clo_good (o:=⟨dst,.makeFunc (.func f) #[] #[x],ty,pos,after,guard⟩) hS rfl hf (hx 0 (by simp)) hok
    | _=>exfalso;exact not_ok hok rfl
  | makeMap t r =>
    obtain⟨d,hd,he⟩:=optX_ok (show AllT (optX dst fun d=>makeMapX C d t xs).ok from hok)
    have e1:opX C ⟨dst,.makeMap t r,ty,pos,after,guard⟩ xs fet=makeMapX C d t xs:=he
    rw[e1]at hok hfr ⊢
    exact makeMap_good hC hS hd rfl (by rw[hl];rfl) hok hfr
  | lookup t x i c =>
    obtain⟨x',i',rfl⟩:=len2 hl
    exact(lookup_pure hC hF rfl (hx 0 (by simp)) (hx 1 (by simp)) hok).good hS
  | mapUpdate t x i y =>
    obtain⟨x',i',y',rfl⟩:=len3 hl
    cases dst with
    | some d=>exact(not_AllT_no hok).elim
    | none=>exact update_good (o:=⟨none,.mapUpdate t x i y,ty,pos,after,guard⟩) hC hS rfl (.inl rfl) hf (hx 0 (by simp)) (hx 1 (by simp)) (hx 2 (by simp)) hok
  | insert t x i y =>
    obtain⟨x',i',y',rfl⟩:=len3 hl
    cases dst with
    | some d=>exact(not_AllT_no hok).elim
    | none=>exact update_good (o:=⟨none,.insert t x i y,ty,pos,after,guard⟩) hC hS rfl (.inr rfl) hf (hx 0 (by simp)) (hx 1 (by simp)) (hx 2 (by simp)) hok
  | call c =>
    obtain⟨callee,args,ts⟩:=c
    cases callee with
    | value fo =>
      cases fo with
      | func f =>
        have hl':xs.length=1+args.size:=by rw[hl];simp [Op.operands,Call.operands]
        obtain⟨x0,xs',rfl⟩: ∃ x0 xs',xs=x0::xs':=by
          cases xs with
          | nil=>simp at hl';omega
          | cons x0 xs'=>exact⟨x0,xs',rfl⟩
        have e1:opX C ⟨dst,.call ⟨.value (.func f),args,ts⟩,ty,pos,after,guard⟩ (x0::xs') fet=callX C fet (dst.getD 0) f xs':=rfl
        rw[e1]at hok hfr hnd ⊢
        cases hsg:C.G f with
        | none=>exfalso;unfold callX at hok;rw[hsg]at hok;exact not_AllT_no hok
        | some sg =>
          have e3:callX C fet (dst.getD 0) f xs'=keepD fet xs' (C.kept f) (callS fet (dst.getD 0) sg xs'):=by unfold callX;rw[hsg]
          rw[e3]at hok hfr hnd ⊢
          obtain⟨hok,k1,k2,k3,k4⟩:=keepD_spec _ hok
          rw[k2]at hfr hnd
          have e4: ∀ o',apply st o' (keepD fet xs' (C.kept f) (callS fet (dst.getD 0) sg xs'))=apply st o' (callS fet (dst.getD 0) sg xs'):=fun o'=>by unfold apply;rw[k1,k2,k3,k4]
          rw[e4]
          refine call_good (x0:=.func f) hS rfl rfl rfl (hCx.G f sg hsg) hf (by simp at hl';show xs'.length=args.size;omega) (fun j hj=> ?_) hok hfr hnd
          have:=hx (j+1) (by simpa using hj)
          have e2:(Op.call ⟨.value (.func f),args,ts⟩).operands.getD (j+1) (.tmp 0)=args.getD j (.tmp 0):=by
            simp only[Op.operands,Call.operands]
            rw[Array.getD_eq_getD_getElem?,Array.getD_eq_getD_getElem?,Array.getElem?_append_right (by simp)]
            simp
          rw[e2]at this
          simpa using this
      | tmp t =>
        have hl':xs.length=1+args.size:=by rw[hl];simp [Op.operands,Call.operands]
        obtain⟨x0,xs',rfl⟩: ∃ x0 xs',xs=x0::xs':=by
          cases xs with
          | nil=>simp at hl';omega
          | cons x0 xs'=>exact⟨x0,xs',rfl⟩
        have e1:opX C ⟨dst,.call ⟨.value (.tmp t),args,ts⟩,ty,pos,after,guard⟩ (x0::xs') fet=dynX C fet (dst.getD 0) t x0 xs':=rfl
        rw[e1]at hok hfr hnd ⊢
        have h0:=hx 0 (by simp)
        have e0:(Op.call ⟨.value (.tmp t),args,ts⟩).operands.getD 0 (.tmp 0)= .tmp t:=by
          show(#[Operand.tmp t]++args).getD 0 (.tmp 0)= .tmp t
          rw[Array.getD_eq_getD_getElem?,Array.getElem?_append_left (by simp)];rfl
        rw[e0]at h0
        have h0:TRel O st.objs m w (a.eval (.tmp t)) x0:=h0
        unfold dynX at hok hfr hnd ⊢
        cases x0 with
        | fn n =>
          cases hsg:C.dyn t with
          | none=>rw[hsg]at hok;exact(not_AllT_no hok).elim
          | some F =>
            rw[hsg]at hok hfr hnd
            dsimp only at hok hfr hnd ⊢
            obtain⟨hd1,hd2⟩:=hCx.dyn t F hsg
            have hok2:=callS_ok hok
            cases n with
            | zero=>rw[hd1]at hok2;cases hok2
            | succ f =>
              have hev:a.eval (.tmp t)= .func (.func f) #[] #[]:=by
                have h1:VRel O w (a.eval (.tmp t)) (.fn (f+1)):=h0
                generalize a.eval (.tmp t)=v at h1 ⊢
                cases h1;rfl
              refine call_good (x0:=.tmp t) hS rfl rfl hev (hd2 f _ hok2) hf (by simp at hl';show xs'.length=args.size;omega) (fun j hj=> ?_) hok hfr hnd
              have:=hx (j+1) (by simpa using hj)
              have e2:(Op.call ⟨.value (.tmp t),args,ts⟩).operands.getD (j+1) (.tmp 0)=args.getD j (.tmp 0):=by
                simp only[Op.operands,Call.operands]
                rw[Array.getD_eq_getD_getElem?,Array.getD_eq_getD_getElem?,Array.getElem?_append_right (by simp)]
                simp
              rw[e2]at this
              simpa using this
        | clo f q =>
          obtain⟨cs,hb,he⟩:=optX_ok hok
          dsimp only at he hok hfr hnd ⊢
          rw[he]at hok hfr hnd ⊢;clear he
          have hc:CRel O st.objs m w (a.eval (.tmp t)) (.clo f q):=h0
          obtain⟨_,p,k5,⟨b,j0,k2,k3,k4⟩,hc⟩:=hc
          cases hsg:C.dyn t with
          | none=>rw[hsg]at hok;exact(not_AllT_no hok).elim
          | some F =>
            rw[hsg]at hok hfr hnd
            dsimp only at hok hfr hnd ⊢
            obtain⟨hd1,hd2⟩:=hCx.dyn t F hsg
            have hok2:=callS_ok hok
            cases f with
            | zero=>rw[hd1]at hok2;cases hok2
            | succ f =>
              have hlx:xs'.length=args.size:=by simp at hl';omega
              refine call_goodC (x0:=.tmp t) (caps:= #[.pointer (some (at' b j0))]) (av:=args.map a.eval++ #[.pointer (some (at' b j0))]) hS rfl rfl k2 rfl (hd2 f _ hok2) hf (by simp [hlx]) (fun j hj=> ?_) hok hfr hnd
              rcases Nat.lt_or_ge j xs'.length with hjl | hjl
              ·have:=hx (j+1) (by simpa using hjl)
               have e2:(Op.call ⟨.value (.tmp t),args,ts⟩).operands.getD (j+1) (.tmp 0)=args.getD j (.tmp 0):=by
                 simp only[Op.operands,Call.operands]
                 rw[Array.getD_eq_getD_getElem?,Array.getD_eq_getD_getElem?,Array.getElem?_append_right (by simp)]
                 simp
               rw[e2]at this
               have hjs:j<args.size:=by omega
               have e3:(args.map a.eval++ #[Value.pointer (some (at' b j0))]).getD j undef=a.eval (args.getD j (.tmp 0)):=by
                 rw[Array.getD_eq_getD_getElem?,Array.getElem?_append_left (by simpa using hjs),Array.getD_eq_getD_getElem?]
                 simp [hjs]
               have e4:(xs'++[A.clo 0 q]).getD j .undef=xs'.getD j .undef:=by
                 simp [List.getD_eq_getElem?_getD,List.getElem?_append_left,hjl]
               rw[e3,e4]
               simpa using this
              ·have hj':j=xs'.length:=by simp at hj;omega
               subst hj'
               have e3:(args.map a.eval++ #[Value.pointer (some (at' b j0))]).getD xs'.length undef= .pointer (some (at' b j0)):=by
                 rw[hlx,Array.getD_eq_getD_getElem?,Array.getElem?_append_right (by simp)]
                 simp
               have e4:(xs'++[A.clo 0 q]).getD xs'.length .undef= .clo 0 q:=by
                 simp [List.getD_eq_getElem?_getD]
               rw[e3,e4]
               show CRel O st.objs m w _ (.clo 0 q)
               exact⟨rfl,p,k5,⟨b,j0,rfl,k3,k4⟩,hc⟩
        | _=>exact(not_AllT_no hok).elim
      | _=>exfalso;exact not_ok hok rfl
    | builtin b =>
      have hok':AllT (blX C ⟨dst,.call ⟨.builtin b,args,ts⟩,ty,pos,after,guard⟩ fet ts.toList b xs).ok:=hok
      cases b with
      | len =>
        obtain⟨x',rfl⟩:=a1_ok (show AllT (a1 _ xs).ok from hok')
        have hargs: ∃ x,args= #[x]:=by
          have:args.size=1:=by simpa [Op.operands,Call.operands]using hl.symm
          exact⟨args[0],by apply Array.ext (by simp [this]);intro i h1 h2;have:i=0:=by omega
                           subst this;rfl⟩
        obtain⟨x,rfl⟩:=hargs
        obtain⟨t,ht,he⟩:=optX_ok (show AllT (optX (one? ts.toList) fun t=>lenX C fet t x').ok from hok')
        have e1:opX C ⟨dst,.call ⟨.builtin .len,#[x],ts⟩,ty,pos,after,guard⟩ [x'] fet=lenX C fet t x':=he
        rw[e1]at hok ⊢
        exact(len_pure hC hF rfl rfl rfl (one?_some ht) (hx 0 (by simp)) hok).good hS
      | copy =>
        obtain⟨x',y',rfl⟩:=a2_ok (show AllT (a2 _ xs).ok from hok')
        have hargs: ∃ x y,args= #[x,y]:=by
          have:args.size=2:=by simpa [Op.operands,Call.operands]using hl.symm
          refine⟨args[0],args[1],?_⟩
          apply Array.ext (by simp [this])
          intro i h1 h2
          have:i=0\/i=1:=by omega
          rcases this with rfl | rfl<;>rfl
        obtain⟨x,y,rfl⟩:=hargs
        exact copy_good (o:=⟨dst,.call ⟨.builtin .copy,#[x,y],ts⟩,ty,pos,after,guard⟩) (ts':=ts.toList) hC hS rfl rfl rfl rfl hf (hx 0 (by simp)) (hx 1 (by simp)) hok'
      | append =>
        obtain⟨x',y',rfl⟩:=a2_ok (show AllT (a2 _ xs).ok from hok')
        have hargs: ∃ x y,args= #[x,y]:=by
          have:args.size=2:=by simpa [Op.operands,Call.operands]using hl.symm
          refine⟨args[0],args[1],?_⟩
          apply Array.ext (by simp [this])
          intro i h1 h2
          have:i=0\/i=1:=by omega
          rcases this with rfl | rfl<;>rfl
        obtain⟨x,y,rfl⟩:=hargs
        have e0:opX C ⟨dst,.call ⟨.builtin .append,#[x,y],ts⟩,ty,pos,after,guard⟩ [x',y'] fet=appX C ⟨dst,.call ⟨.builtin .append,#[x,y],ts⟩,ty,pos,after,guard⟩ fet ts.toList x' y':=rfl
        rw[e0]at hok hfr ⊢
        clear hok' e0
        generalize hts:ts.toList=tl at hok hfr ⊢
        unfold appX at hok hfr ⊢
        split at hok
        ·rename_i t u
         dsimp only at hfr ⊢
         obtain⟨tu,htu,he⟩:=tiOf_ok hok
         rw[he]at hok hfr ⊢
         obtain⟨d,hd,he⟩:=optX_ok hok
         rw[he]at hok hfr ⊢
         obtain⟨h1,h2⟩:=hok.cons
         exact append_good hC hS hd rfl rfl rfl hts htu h1 hf (hx 0 (by simp)) (hx 1 (by simp)) h2 hfr
        ·exact(not_AllT_no hok).elim
      | delete =>
        obtain⟨x',y',rfl⟩:=a2_ok (show AllT (a2 _ xs).ok from hok')
        have hargs: ∃ x y,args= #[x,y]:=by
          have:args.size=2:=by simpa [Op.operands,Call.operands]using hl.symm
          refine⟨args[0],args[1],?_⟩
          apply Array.ext (by simp [this])
          intro i h1 h2
          have:i=0\/i=1:=by omega
          rcases this with rfl | rfl<;>rfl
        obtain⟨x,y,rfl⟩:=hargs
        have e0:opX C ⟨dst,.call ⟨.builtin .delete,#[x,y],ts⟩,ty,pos,after,guard⟩ [x',y'] fet=(match ts.toList with | t::_=>deleteX C fet t x' y' | []=>.no):=rfl
        rw[e0]at hok ⊢
        clear hok' e0
        generalize hts:ts.toList=tl at hok ⊢
        cases tl with
        | nil=>exact(not_AllT_no hok).elim
        | cons t r=>exact delete_good (o:=⟨dst,.call ⟨.builtin .delete,#[x,y],ts⟩,ty,pos,after,guard⟩) hC hS rfl rfl rfl hts hf (hx 0 (by simp)) (hx 1 (by simp)) hok
      | min =>
        obtain⟨x',y',rfl⟩:=a2_ok (show AllT (a2 _ xs).ok from hok')
        have hargs: ∃ x y,args= #[x,y]:=by
          have:args.size=2:=by simpa [Op.operands,Call.operands]using hl.symm
          refine⟨args[0],args[1],?_⟩
          apply Array.ext (by simp [this])
          intro i h1 h2
          have:i=0\/i=1:=by omega
          rcases this with rfl | rfl<;>rfl
        obtain⟨x,y,rfl⟩:=hargs
        exact(min_pure (o:=⟨dst,.call ⟨.builtin .min,#[x,y],ts⟩,ty,pos,after,guard⟩) rfl rfl rfl (hx 0 (by simp)) (hx 1 (by simp)) hok).good hS
      | max =>
        obtain⟨x',y',rfl⟩:=a2_ok (show AllT (a2 _ xs).ok from hok')
        have hargs: ∃ x y,args= #[x,y]:=by
          have:args.size=2:=by simpa [Op.operands,Call.operands]using hl.symm
          refine⟨args[0],args[1],?_⟩
          apply Array.ext (by simp [this])
          intro i h1 h2
          have:i=0\/i=1:=by omega
          rcases this with rfl | rfl<;>rfl
        obtain⟨x,y,rfl⟩:=hargs
        exact(max_pure (o:=⟨dst,.call ⟨.builtin .max,#[x,y],ts⟩,ty,pos,after,guard⟩) rfl rfl rfl (hx 0 (by simp)) (hx 1 (by simp)) hok).good hS
      | _=>exfalso;exact not_AllT_no hok'
    | invoke r mth=>exfalso;exact not_ok hok rfl
  | _=>exfalso;exact not_ok hok rfl
end
end Go.Proofs.YtbnphelpndnnfaaGreatDoor.Vm
namespace Go.Proofs.YtbnphelpndnnfaaGreatDoor.Vm
open Classical
section
variable {P:Program} {C:Ctx} {V0:Nat->Value} {O0 O:Own} {w0 w:World} {m:Nat->Value} {st:St} {a:Act} {o:Oper}
theorem fetch_ok (objs:List (Nat×Obj)): ∀(l:List Nat) (q:Nat) (x:Obj),aget (fetch objs l) q=some x->aget objs q=some x:=by
  intro l
  induction l with
  | nil=>intro q x h;cases h
  | cons n r ih =>
    intro q x h
    simp only[fetch]at h
    cases hn:aget objs n with
    | none=>rw[hn]at h;exact ih q x h
    | some y =>
      rw[hn]at h
      dsimp only at h
      rw[aget_cons]at h
      by_cases hq:n=q
      ·rw[if_pos hq]at h;injection h with h;subst h;rw[<- hq];exact hn
      ·rw[if_neg hq]at h;exact ih q x h
theorem aget_append (a b:List (Nat×Obj)) (q:Nat):aget (a++b) q=match aget a q with | some x=>some x | none=>aget b q:=by
  induction a with
  | nil=>rfl
  | cons p r ih =>
    obtain⟨k,x⟩:=p
    rw[List.cons_append,aget_cons,aget_cons,ih]
    by_cases h:k=q<;>simp [h]
theorem fetchAll_ok (st:St) (vs:List A):Fet' st.objs (fetchAll st vs):=by
  intro q x h
  unfold fetchAll at h
  dsimp only at h
  rw[aget_append]at h
  split at h
  ·rename_i y hy;injection h with h;subst h;exact fetch_ok _ _ _ _ hy
  ·exact fetch_ok _ _ _ _ h
theorem strip_rel {v:Value} {x:A} (h:TRel O st.objs m w v x) (hok:AllT x.strip.1):TRel O st.objs m w v x.strip.2:=by
  cases x with
  | cnd g y =>
    have:=h.1 hok.cons.1
    cases y<;>first | trivial | exact this | exact this.elim
  | _=>exact h
theorem strips_spec: ∀(xs:List A) (f:Nat->Value),(∀ j,j<xs.length->TRel O st.objs m w (f j) (xs.getD j .undef))->AllT (strips xs).1 ->
    (strips xs).2.length=xs.length/\ ∀ j,j<xs.length->TRel O st.objs m w (f j) ((strips xs).2.getD j .undef):=by
  intro xs
  induction xs with
  | nil=>intro f _ _;exact⟨rfl,fun j hj=>by simp at hj⟩
  | cons x xs ih =>
    intro f h hok
    simp only[strips]at hok ⊢
    obtain⟨h1,h2⟩:=hok.append
    obtain⟨g1,g2⟩:=ih (fun j=>f (j+1)) (fun j hj=>by simpa using h (j+1) (by simpa using hj)) h2
    refine⟨by simp [g1],fun j hj=> ?_⟩
    cases j with
    | zero=>exact strip_rel (h 0 (by simp)) h1
    | succ j=>simpa using g2 j (by simpa using hj)
theorem weak_rel {v:Value} {x:A} (h:TRel O st.objs m w v x):TRel O st.objs m w v x.weak:=by
  cases x with
  | sln l =>
    have h':VRel O w v (.sln l):=h
    cases h' with
    | sln h _=>exact h
  | _=>exact h
theorem weak_ids (x:A):x.weak.ids=x.ids:=by cases x<;>rfl
theorem weak_getD (xs:List A) (j:Nat):(xs.map A.weak).getD j .undef=(xs.getD j .undef).weak:=by
  simp only[List.getD_eq_getElem?_getD,List.getElem?_map]
  cases xs[j]? <;>rfl
theorem stripsFor_eq (op:Op) (xs:List A):(∃ a b c,op= .pick a b c)\/stripsFor op xs=((strips xs).1,bif strongOp op then(strips xs).2 else(strips xs).2.map A.weak):=by
  cases op<;>first | exact .inr rfl | exact .inl ⟨_,_,_,rfl⟩
theorem stripsFor_spec {op:Op} {xs:List A} {f:Nat->Value} (h: ∀ j,j<xs.length->TRel O st.objs m w (f j) (xs.getD j .undef)) (hok:AllT (stripsFor op xs).1) :
    (stripsFor op xs).2.length=xs.length/\ ∀ j,j<xs.length->TRel O st.objs m w (f j) ((stripsFor op xs).2.getD j .undef):=by
  rcases stripsFor_eq op xs with ⟨x,y,z,rfl⟩ | he
  ·exact⟨rfl,h⟩
  ·rw[he]at hok ⊢
   obtain⟨g1,g2⟩:=strips_spec xs f h hok
   cases hb:strongOp op with
   | true=>exact⟨g1,g2⟩
   | false =>
     refine⟨by simp [g1],fun j hj=> ?_⟩
     show TRel O st.objs m w (f j) (((strips xs).2.map A.weak).getD j .undef)
     rw[weak_getD]
     exact weak_rel (g2 j hj)
theorem strip_ids {v:Value} {x:A} {i:Nat} (ht:TRel O st.objs m w v x) (hok:AllT x.strip.1) (h:i∈x.strip.2.ids):i∈x.ids:=by
  cases x with
  | cnd g y =>
    have h1:=ht.1 hok.cons.1
    cases y<;>first | exact h | exact h1.elim
  | _=>exact h
theorem strips_ids: ∀(xs:List A) (f:Nat->Value),(∀ j,j<xs.length->TRel O st.objs m w (f j) (xs.getD j .undef))->AllT (strips xs).1-> ∀ x∈(strips xs).2,∀ i∈x.ids,∃ y∈xs,i∈y.ids:=by
  intro xs
  induction xs with
  | nil=>intro f _ _ x hx;simp [strips]at hx
  | cons z xs ih =>
    intro f h hok x hx i hi
    simp only[strips]at hok hx
    obtain⟨h1,h2⟩:=hok.append
    rcases List.mem_cons.1 hx with rfl | hx
    ·exact⟨z,List.mem_cons_self,strip_ids (h 0 (by simp)) h1 hi⟩
    ·obtain⟨y,hy,hi'⟩:=ih (fun j=>f (j+1)) (fun j hj=>by simpa using h (j+1) (by simpa using hj)) h2 x hx i hi
     exact⟨y,List.mem_cons_of_mem _ hy,hi'⟩
theorem stripsFor_ids {op:Op} {xs:List A} {f:Nat->Value} (h: ∀ j,j<xs.length->TRel O st.objs m w (f j) (xs.getD j .undef)) (hok:AllT (stripsFor op xs).1): ∀ x∈(stripsFor op xs).2,∀ i∈x.ids,∃ y∈xs,i∈y.ids:=by
  rcases stripsFor_eq op xs with ⟨x,y,z,rfl⟩ | he
  ·exact fun x hx i hi=>⟨x,hx,hi⟩
  ·rw[he]at hok ⊢
   have g:=strips_ids xs f h hok
   cases hb:strongOp op with
   | true=>exact g
   | false =>
     intro x hx i hi
     obtain⟨z,hz,rfl⟩:=List.mem_map.1 (show x∈(strips xs).2.map A.weak from hx)
     rw[weak_ids]at hi
     exact g z hz i hi
theorem guard_spec {ops:Array Oper} {gd:Option (Nat×Bool)} (hS:Sim V0 O0 w0 O m st a w) (hgd:o.guard=gd) :
    (guardOf ops.toList st.tmps gd=some none->Region.wanted o (yielded ops a.tmps)=true) /\
    ∀ g,guardOf ops.toList st.tmps gd=some (some g)->Region.wanted o (yielded ops a.tmps)=g:=by
  cases gd with
  | none =>
    refine⟨fun _=>by unfold Region.wanted;rw[hgd],fun g h=>by simp [guardOf]at h⟩
  | some p =>
    obtain⟨j,want⟩:=p
    unfold Region.wanted
    rw[hgd]
    dsimp only
    have key: ∀ oj t,ops[j]? =some oj->oj.dst=some t->yielded ops a.tmps j=match a.tmps[t]? with | some (.bool b)=>some b | _=>none:=by
      intro oj t h1 h2
      unfold yielded
      have:(ops[j]?).bind (·.dst)=some t:=by rw[h1];exact h2
      rw[this]
      show(match a.tmps[t]? with | some (.bool b)=>some b | _=>none)=_
      cases a.tmps[t]? with
      | none=>rfl
      | some v=>cases v<;>rfl
    unfold guardOf
    have hop:ops.toList[j]? =ops[j]? :=by simp
    dsimp only
    rw[hop]
    cases hj:ops[j]? with
    | none=>exact⟨fun h=>by simp at h,fun g h=>by simp at h⟩
    | some oj =>
      dsimp only
      cases hd:oj.dst with
      | none=>exact⟨fun h=>by simp at h,fun g h=>by simp at h⟩
      | some t =>
        dsimp only
        have ht:=hS.tmps t
        rw[key oj t hj hd]
        cases hv:st.tmps.getD t .undef with
        | bool b =>
          refine⟨fun h=>by simp at h,fun g h=> ?_⟩
          simp only[Option.some.injEq]at h
          have htl:t<st.tmps.length:=by
            rcases Nat.lt_or_ge t st.tmps.length with h | h
            ·exact h
            ·rw[List.getD_eq_getElem?_getD,List.getElem?_eq_none h]at hv;cases hv
          have:=ht htl
          rw[hv]at this
          have:=this.bool
          have hts:t<a.tmps.size:=by rw[hS.size];exact htl
          rw[getD_eq hts,this,<- h]
          cases want<;>cases b<;>rfl
        | cnd g0 y =>
          cases y with
          | bool b =>
            refine⟨fun h=>by simp at h,fun g h=> ?_⟩
            simp only[Option.some.injEq]at h
            have htl:t<st.tmps.length:=by
              rcases Nat.lt_or_ge t st.tmps.length with h | h
              ·exact h
              ·rw[List.getD_eq_getElem?_getD,List.getElem?_eq_none h]at hv;cases hv
            have:=ht htl
            rw[hv]at this
            have hts:t<a.tmps.size:=by rw[hS.size];exact htl
            rw[getD_eq hts,<- h]
            cases g0 with
            | true =>
              have h1:VRel O w (a.tmps.getD t undef) (.bool b):=this.1 rfl
              generalize a.tmps.getD t undef=z at h1
              cases h1
              cases want<;>cases b<;>rfl
            | false =>
              rw[this.2 rfl];simp [undef]
          | _=>exact⟨fun h=>by simp at h,fun g h=>by simp at h⟩
        | _=>exact⟨fun h=>by simp at h,fun g h=>by simp at h⟩
theorem const_ids (v:Value):(ofConst v).ids=[]:=by
  have hc: ∀ u:Value,(cellConst u).ids1=[]:=by intro u;unfold cellConst;split<;>rfl
  have hc2: ∀ u:Value,(cellConst u).ids=[]:=by intro u;unfold cellConst;split<;>rfl
  unfold ofConst
  split
  ·rename_i vs
   cases vs.toList.all Value.oneCell' with
   | false=>rfl
   | true =>
     show(vs.toList.map cellConst).flatMap A.ids1=[]
     rw[List.flatMap_eq_nil_iff]
     intro x hx
     obtain⟨u,_,rfl⟩:=List.mem_map.1 hx
     exact hc u
  ·exact hc2 v
theorem mergeA_spec {a b:A} (h:mergeAOk a b=true):mergeA true a b=b/\mergeA false a b=a:=by
  cases a<;>cases b<;>first | exact⟨rfl,rfl⟩ | exact(Bool.false_ne_true h).elim | skip
  case int.int k x k' y =>
    have e:k=k':=by cases k<;>cases k'<;>first | rfl | cases h
    subst e;exact⟨rfl,rfl⟩
  case sl.sl l l' =>
    obtain⟨t,xs⟩:=l
    obtain⟨t',xs'⟩:=l'
    unfold mergeAOk Sl.cast at h
    unfold mergeA Sl.cast
    dsimp only at h ⊢
    cases hd:decEq t' t with
    | isTrue e=>subst e;exact⟨rfl,rfl⟩
    | isFalse e=>rw[hd]at h;cases h
  case sln.sln l l' =>
    obtain⟨t,xs⟩:=l
    obtain⟨t',xs'⟩:=l'
    unfold mergeAOk Sl.cast at h
    unfold mergeA Sl.cast
    dsimp only at h ⊢
    cases hd:decEq t' t with
    | isTrue e=>subst e;exact⟨rfl,rfl⟩
    | isFalse e=>rw[hd]at h;cases h
  case own.own q q' =>
    have e:q=q':=Nat.eq_of_beq_eq_true h
    subst e;exact⟨rfl,rfl⟩
theorem zipM_spec: ∀ {aa bs:List A},okM aa bs=true->zipM true aa bs=bs/\zipM false aa bs=aa
  | [],[],_=>⟨rfl,rfl⟩
  | a::aa,b::bs,h=>by
    unfold okM at h
    obtain⟨h1,h2⟩:=Bool.and_eq_true_iff.1 h
    obtain⟨i1,i2⟩:=mergeA_spec h1
    obtain⟨j1,j2⟩:=zipM_spec h2
    exact⟨by unfold zipM;rw[i1,j1],by unfold zipM;rw[i2,j2]⟩
  | [],_::_,h=>by cases h
  | _::_,[],h=>by cases h
theorem mergeO_spec {c:Bool} {x:Option Obj} {y:Obj} (h:mergeOOk c x y=true) :
    (mergeO true x y=y/\ ∃ cs,x=some (.box cs)/\mergeO false x y= .box cs)\/c=true/\ ∃ e f l l',x=some (.arr e f l)/\y= .arr e true l'/\ ∀ g,mergeO g x y= .arr e true l:=by
  cases x with
  | none=>cases h
  | some x =>
    cases x with
    | box cs =>
      cases y with
      | box ds =>
        obtain⟨h1,h2⟩:=zipM_spec (show okM cs ds=true from h)
        exact .inl ⟨congrArg Obj.box h1,cs,rfl,congrArg Obj.box h2⟩
      | _=>cases h
    | arr e f l =>
      cases y with
      | arr e' f' l' =>
        cases f' with
        | true =>
          have h':(c&&Nat.beq e e')=true:=h
          simp only[Bool.and_eq_true]at h'
          have:=Nat.eq_of_beq_eq_true h'.2
          subst this
          exact .inr ⟨h'.1,e,f,l,l',rfl,rfl,fun _=>rfl⟩
        | false=>cases h
      | _=>cases h
    | _=>cases h
def Closes (objs U:List (Nat×Obj)):Prop:= ∀ p∈U,(∃ cs,aget objs p.1=some (.box cs)/\p.2= .box cs)\/ ∃ e f l,aget objs p.1=some (.arr e f l)/\p.2= .arr e true l
theorem _root_.Go.Proofs.YtbnphelpndnnfaaGreatDoor.Vm.Sim.sameObjs {objs':List (Nat×Obj)} (hS:Sim V0 O0 w0 O m st a w) (h: ∀ n,aget objs' n=aget st.objs n):Sim V0 O0 w0 O m {st with objs:=objs'} a w:=by
  have he:Exts st.objs m objs' m (fun _=>False):=fun o x hx=>.inr ⟨x,by rw[<- h];exact hx,rfl,rfl⟩
  have hp:Pres O w O w:=fun b k u h1 h2=>⟨h1,h2⟩
  refine⟨hS.defers,hS.size,fun t ht=>(hS.tmps t ht).step hp he (fun _ _=>id),fun o x hx=> ?_,hS.frame,hS.own,fun o x hx=>hS.ids o x (by rw[<- h];exact hx),hS.less,fun o ho hx=>hS.root o ho (by rw[<- h];exact hx),hS.junk,hS.inv⟩
  have h0:=hS.objs o x (by rw[<- h];exact hx)
  cases x with
  | box cs =>
    obtain⟨b,base,h1,h2⟩:=h0
    refine⟨b,base,h1,fun j hj=> ?_⟩
    obtain⟨g1,g2,u,g3,g4⟩:=h2 j hj
    exact⟨g1,g2,u,g3,g4.step hp he (fun _ _=>id)⟩
  | arr e f l=>exact h0
  | mp l=>exact h0
theorem _root_.Go.Proofs.YtbnphelpndnnfaaGreatDoor.Vm.Sim.closes: ∀(U:List (Nat×Obj)) {O:Own} {st:St},Sim V0 O0 w0 O m st a w->Closes st.objs U-> ∃ O',Sim V0 O0 w0 O' m {st with objs:=setAll st.objs U} a w:=by
  intro U
  induction U with
  | nil=>intro O st hS _;exact⟨O,hS⟩
  | cons p U ih =>
    intro O st hS h
    obtain⟨n,y⟩:=p
    have h0:=h (n,y) List.mem_cons_self
    have hrest:Closes (aset st.objs n y) U:=by
      intro q hq
      have h1:=h q (List.mem_cons_of_mem _ hq)
      rw[aget_aset]
      by_cases hk:q.1=n
      ·rw[if_pos hk]
       rw[hk]at h1
       rcases h0 with ⟨cs,g1,g2⟩ | ⟨e,f,l,g1,g2⟩
       ·dsimp only at g1 g2
        rw[g1]at h1
        rcases h1 with ⟨cs',k1,k2⟩ | ⟨e',f',l',k1,k2⟩
        ·injection k1 with k1;rw[<- k1]at k2
         exact .inl ⟨cs,by rw[g2],k2⟩
        ·cases k1
       ·dsimp only at g1 g2
        rw[g1]at h1
        rcases h1 with ⟨cs',k1,k2⟩ | ⟨e',f',l',k1,k2⟩
        ·cases k1
        ·injection k1 with k1;injection k1 with q1 q2 q3
         subst q1;subst q3
         exact .inr ⟨e,true,l,by rw[g2],k2⟩
      ·rw[if_neg hk];exact h1
    show ∃ O',Sim V0 O0 w0 O' m {st with objs:=setAll (aset st.objs n y) U} a w
    rcases h0 with ⟨cs,g1,g2⟩ | ⟨e,f,l,g1,g2⟩
    ·dsimp only at g1 g2
     have hS':Sim V0 O0 w0 O m {st with objs:=aset st.objs n y} a w:=hS.sameObjs fun k=>by
       rw[aget_aset]
       by_cases hk:k=n
       ·rw[if_pos hk,hk,g1,g2]
       ·rw[if_neg hk]
     exact ih hS' hrest
    ·dsimp only at g1 g2
     obtain⟨O1,hS1,_⟩:=hS.freezes [(n,y)] (fun q hq=>by
       simp at hq;subst hq;exact⟨e,f,l,g1,g2⟩)
     exact ih hS1 hrest
def OnlyCloses (fet:Fet) (U:List (Nat×Obj)):Prop:= ∀ p∈U,∀ e f l,p.2= .arr e f l-> ∃ e' f',aget fet p.1=some (.arr e' f' l)/\f=true
theorem OnlyCloses.append {fet:Fet} {U V:List (Nat×Obj)} (h:OnlyCloses fet U) (h':OnlyCloses fet V):OnlyCloses fet (U++V):=fun p hp=>(List.mem_append.1 hp).elim (h p) (h' p)
theorem OnlyCloses.nil (fet:Fet):OnlyCloses fet []:=fun p hp=>by cases hp
theorem OnlyCloses.one {fet:Fet} {n e e0:Nat} {f:Bool} {l:Sl} (h:aget fet n=some (.arr e f l)):OnlyCloses fet [(n,.arr e0 true l)]:=by
  intro p hp e' f' l' he
  simp at hp;subst hp
  injection he with h1 h2 h3
  subst h2;subst h3
  exact⟨e,f,h,rfl⟩
theorem OnlyCloses.cons {fet:Fet} {n e e0:Nat} {f:Bool} {l:Sl} {U:List (Nat×Obj)} (h:aget fet n=some (.arr e f l)) (h':OnlyCloses fet U):OnlyCloses fet ((n,.arr e0 true l)::U):=(OnlyCloses.one h).append h'
theorem pur_closes (fet:Fet) (k:CK) (c:A):OnlyCloses fet (pur fet k c).2.2:=by
  unfold pur
  split
  ·split
   ·rename_i h;exact .one h
   ·exact .nil _
  ·split<;>exact .nil _
  all_goals exact .nil _
theorem purs_closes (fet:Fet): ∀(ks:List CK) (cs:List A),OnlyCloses fet (purs fet ks cs).2.2:=by
  intro ks
  induction ks with
  | nil=>intro cs;cases cs<;>exact .nil _
  | cons k ks ih=>intro cs;cases cs with
    | nil=>exact .nil _
    | cons c cs=>exact(pur_closes fet k c).append (ih cs)
theorem handCells_closes (fet:Fet): ∀(ks:List (Bool×CK)) (cs:List A),OnlyCloses fet (handCells fet ks cs).2.2.1:=by
  intro ks
  induction ks with
  | nil=>intro cs;cases cs<;>exact .nil _
  | cons k ks ih =>
    intro cs
    obtain⟨u,k⟩:=k
    cases cs with
    | nil=>cases u<;>cases k<;>exact .nil _
    | cons c cs =>
      cases u with
      | false=>exact(pur_closes fet k c).append (ih cs)
      | true =>
        cases k with
        | sl e t =>
          cases c with
          | own q =>
            simp only[handCells]
            cases h:aget fet q with
            | none=>exact .nil _
            | some x =>
              cases x with
              | arr e' f l=>exact .cons h (ih cs)
              | _=>exact .nil _
          | nils=>exact ih cs
          | _=>exact .nil _
        | sln e t =>
          cases c with
          | own q =>
            simp only[handCells]
            cases h:aget fet q with
            | none=>exact .nil _
            | some x =>
              cases x with
              | arr e' f l=>exact ih cs
              | _=>exact .nil _
          | nils=>exact ih cs
          | _=>exact .nil _
        | bx t =>
          cases c with
          | ptr q off =>
            simp only[handCells]
            cases box? fet q with
            | none=>exact .nil _
            | some zs=>exact(purs_closes fet _ zs).append (ih cs)
          | _=>exact .nil _
        | _=>cases c<;>exact .nil _
theorem handArg_closes (fet:Fet) (s:Sh) (x:A):OnlyCloses fet (handArg fet s x).upd:=by
  cases s with
  | cell u k =>
    have:=handCells_closes fet [(u,k)] [x]
    unfold handArg
    dsimp only
    generalize handCells fet [(u,k)] [x]=r at this ⊢
    obtain⟨ok,cs,upd,del⟩:=r
    cases cs with
    | nil=>exact .nil _
    | cons c cs=>cases cs with
      | nil=>exact this
      | cons _ _=>exact .nil _
  | agg ks=>cases x<;>first | exact .nil _ | exact handCells_closes fet _ _
  | box ks =>
    cases x with
    | ptr q off =>
      unfold handArg
      dsimp only
      cases box? fet q with
      | none=>exact .nil _
      | some cs=>exact handCells_closes fet _ _
    | _=>exact .nil _
  | clo f' ks =>
    cases x with
    | clo g q =>
      unfold handArg
      dsimp only
      cases box? fet q with
      | none=>exact .nil _
      | some cs=>exact handCells_closes fet _ _
    | _=>exact .nil _
  | map kt vt =>
    cases x with
    | own q =>
      unfold handArg
      dsimp only
      split<;>exact .nil _
    | _=>exact .nil _
theorem handArgs_closes (fet:Fet): ∀(ss:List Sh) (xs:List A),OnlyCloses fet (handArgs fet ss xs).2.2.1:=by
  intro ss
  induction ss with
  | nil=>intro xs;cases xs<;>exact .nil _
  | cons s ss ih =>
    intro xs
    cases xs with
    | nil=>exact .nil _
    | cons x xs=>exact(handArg_closes fet s x).append (ih xs)
theorem backBoxes_closes (fet:Fet) (rb:Nat->Nat) (rs:List A): ∀(bs:List (Nat×Sh)) (j:Nat),OnlyCloses fet (backBoxes rb rs bs j).2.1:=by
  intro bs
  induction bs with
  | nil=>intro j;exact .nil _
  | cons b bs ih =>
    intro j p hp
    obtain⟨q,s⟩:=b
    rcases List.mem_cons.1 hp with rfl | hp
    ·intro e f l he
     cases s<;>cases he
    ·exact ih (j+1) p hp
theorem callS_closes (fet:Fet) (d:Nat) (sg:Sig) (xs:List A):OnlyCloses fet (callS fet d sg xs).upd :=
  (handArgs_closes fet _ _).append (backBoxes_closes fet _ _ _ _)
theorem tiOf_upd {t:Nat} {k:TI->Dl} {fet:Fet} (h: ∀ ti,OnlyCloses fet (k ti).upd):OnlyCloses fet (tiOf C t k).upd:=by
  unfold tiOf optX
  cases C.T t with
  | none=>exact .nil _
  | some ti=>exact h ti
theorem optX_upd {α :Type} {o:Option α} {k: α ->Dl} {fet:Fet} (h: ∀ x,o=some x->OnlyCloses fet (k x).upd):OnlyCloses fet (optX o k).upd:=by
  unfold optX
  cases o with
  | none=>exact .nil _
  | some x=>exact h x rfl
theorem sliceX_closes (fet:Fet) (t:Nat) (x:A) (lo hi:Option A):OnlyCloses fet (sliceX C fet t x lo hi).upd:=by
  unfold sliceX
  refine tiOf_upd fun ti=> ?_
  split
  ·exact optX_upd fun _ _=>.nil _
  ·exact optX_upd fun _ _=>optX_upd fun _ _=>tiOf_upd fun _=>.nil _
  ·refine optX_upd fun r hr=>optX_upd fun _ _=>optX_upd fun _ _=>tiOf_upd fun _=> ?_
   cases r.frz with
   | true=>exact .nil _
   | false=>exact .one (arr?_some hr)
  ·exact .nil _
theorem cutX_closes (fet:Fet) (d t:Nat) (x hi:A):OnlyCloses fet (cutX C fet d t x hi).upd:=by
  unfold cutX
  refine tiOf_upd fun ti=> ?_
  split
  ·exact optX_upd fun _ _=>optX_upd fun _ _=>optX_upd fun _ _=>tiOf_upd fun _=>.nil _
  ·exact .nil _
theorem tailX_closes (fet:Fet) (t:Nat) (x h:A):OnlyCloses fet (tailX C fet t x h).upd:=by
  unfold tailX
  refine tiOf_upd fun ti=> ?_
  split
  ·exact optX_upd fun _ _=>optX_upd fun _ _=>optX_upd fun _ _=>tiOf_upd fun _=>.nil _
  ·exact .nil _
theorem keep1_closes {fet:Fet} (x:A) (j:Nat) {δ :Dl} (h:OnlyCloses fet δ.upd):OnlyCloses fet (keep1 fet x j δ).upd:=by
  unfold keep1
  split
  ·split
   ·rename_i q _ _ cs _
    cases Nat.blt j cs.length&& δ.upd.all (fun p=> !(Nat.beq p.1 q)||lenOk cs.length p.2)with
    | false=>exact h
    | true =>
      intro p hp e f l he
      obtain⟨p0,hp0,rfl⟩:=List.mem_map.1 (show p∈ δ.upd.map _ from hp)
      cases hq:Nat.beq p0.1 q with
      | false=>rw[hq]at he;exact h p0 hp0 e f l he
      | true =>
        rw[hq]at he
        obtain⟨n,y⟩:=p0
        cases y with
        | box _=>cases he
        | arr e' f' l'=>exact h _ hp0 e f l he
        | mp _=>cases he
   ·exact h
  ·exact h
theorem keepD_closes {fet:Fet} (xs:List A): ∀(ks:List (Nat×Nat)) {δ :Dl},OnlyCloses fet δ.upd->OnlyCloses fet (keepD fet xs ks δ).upd:=by
  intro ks
  induction ks with
  | nil=>intro δ h;exact h
  | cons k ks ih=>intro δ h;exact ih (keep1_closes _ _ h)
theorem closesOnly_spec {fet:Fet} {xs:List A} (h:closesOnly o.op=true):OnlyCloses fet (opX C o xs fet).upd:=by
  obtain⟨dst,op,ty,pos,after,guard⟩:=o
  cases op with
  | slice t x lo hi mx =>
    show OnlyCloses fet (slX C dst fet t lo hi mx xs).upd
    unfold slX
    split
    ·unfold a1;split<;>first | exact sliceX_closes fet _ _ _ _ | exact .nil _
    ·unfold a2
     split
     ·dsimp only
      split
      ·rename_i d
       cases has C.cuts d with
       | false=>exact sliceX_closes fet _ _ _ _
       | true=>exact tailX_closes fet _ _ _
      ·exact sliceX_closes fet _ _ _ _
     ·exact .nil _
    ·unfold a2
     split
     ·dsimp only
      split
      ·rename_i d
       cases has C.cuts d with
       | false=>exact sliceX_closes fet _ _ _ _
       | true=>exact cutX_closes fet _ _ _ _
      ·exact sliceX_closes fet _ _ _ _
     ·exact .nil _
    ·unfold a3;split<;>first | exact sliceX_closes fet _ _ _ _ | exact .nil _
    ·exact .nil _
  | call c =>
    obtain⟨callee,args,ts⟩:=c
    cases callee with
    | value fo =>
      cases fo with
      | func f =>
        cases xs with
        | nil=>exact .nil _
        | cons x xs =>
          show OnlyCloses fet (callX C fet (dst.getD 0) f xs).upd
          unfold callX
          cases C.G f with
          | none=>exact .nil _
          | some sg=>exact keepD_closes _ _ (callS_closes fet _ _ _)
      | tmp t =>
        cases xs with
        | nil=>exact .nil _
        | cons x xs =>
          show OnlyCloses fet (dynX C fet (dst.getD 0) t x xs).upd
          unfold dynX
          cases x with
          | fn n =>
            dsimp only
            cases C.dyn t with
            | none=>exact .nil _
            | some F=>exact callS_closes fet _ _ _
          | clo f q =>
            dsimp only
            cases box? fet q with
            | none=>exact .nil _
            | some _ =>
              show OnlyCloses fet (match C.dyn t with | some sg=>callS fet (dst.getD 0) (sg f) (xs++[A.clo 0 q]) | none=>.no).upd
              cases C.dyn t with
              | none=>exact .nil _
              | some F=>exact callS_closes fet _ _ _
          | _=>exact .nil _
      | _=>cases h
    | _=>cases h
  | _=>cases h
theorem step_sound (hC:CtxOk P C) (hS:Sim V0 O0 w0 O m st a w) {ops:Array Oper} (hok:AllT (stepX C ops.toList o st).ok) (next:Act->World->Prop) (Q:Exit->Act->World->Prop)
    (hn: ∀ O' m' a' w',Sim V0 O0 w0 O' m' (apply st o (stepX C ops.toList o st)) a' w'->next a' w') :
    if Region.wanted o (yielded ops a.tmps)then o.wp P a w next Q else next (a.put o.dst undef) w:=by
  have hx0: ∀ j,j<(o.op.operands.toList.map (evalA st.tmps)).length->TRel O st.objs m w (a.eval (o.op.operands.getD j (.tmp 0))) ((o.op.operands.toList.map (evalA st.tmps)).getD j .undef):=by
    intro j hj
    have hj':j<o.op.operands.size:=by simpa using hj
    have e1:o.op.operands.getD j (.tmp 0)=o.op.operands[j]:=by rw[Array.getD_eq_getD_getElem?,Array.getElem?_eq_getElem hj'];rfl
    have e2:(o.op.operands.toList.map (evalA st.tmps)).getD j .undef=evalA st.tmps o.op.operands[j]:=by simp [List.getD_eq_getElem?_getD,hj']
    rw[e1,e2];exact eval_rel hS _
  have hid0: ∀ y∈o.op.operands.toList.map (evalA st.tmps),∀ i∈y.ids,i∈st.ids:=by
    intro y hy i hi
    obtain⟨x,_,rfl⟩:=List.mem_map.1 hy
    cases x with
    | tmp t =>
      rcases Nat.lt_or_ge t st.tmps.length with h | h
      ·exact mem_ids_tmps h hi
      ·have:evalA st.tmps (.tmp t)= .undef:=by simp [evalA,List.getD_eq_getElem?_getD,List.getElem?_eq_none h]
       rw[this]at hi;cases hi
    | const v=>have:evalA st.tmps (.const v)=ofConst v:=rfl
               rw[this,const_ids]at hi;cases hi
    | global g =>
      have hi:i∈(tabA (tabI g)).ids:=hi
      cases hg:tabI g with
      | none=>rw[hg]at hi;cases hi
      | some q=>rw[hg]at hi;cases hi
    | func f=>cases hi
  obtain⟨hg1,hg2⟩:=guard_spec (ops:=ops) (o:=o) hS rfl
  have plain: ∀ pre,AllT (plainX C o st pre).ok->(∀ O' m' a' w',Sim V0 O0 w0 O' m' (apply st o (plainX C o st pre)) a' w'->next a' w')->o.wp P a w next Q:=by
    intro pre hok hn
    unfold plainX at hok hn
    dsimp only at hok hn
    obtain⟨_,hok⟩:=hok.append
    obtain⟨hokA,hokB⟩:=hok.append
    obtain⟨hok1,hok2⟩:=hokA.append
    obtain⟨hB1,hB2⟩:=hokB.cons
    have hB2:=hB2.cons.1
    obtain⟨hl,hx⟩:=stripsFor_spec hx0 hok1
    have hid:=stripsFor_ids hx0 hok1
    have hg:=op_sound hC hS (fetchAll_ok st _) (by rw[hl];simp) (fun j hj=>hx j (by rw[<- hl];exact hj)) (fun x hx' i hi=>by
      obtain⟨y,hy,hi'⟩:=hid x hx' i hi
      exact .inl (hid0 y hy i hi')) hok2 (fun p hp=>(List.all_eq_true.1 hB1) p hp) hB2
    exact hg next Q hn
  unfold stepX at hok hn
  cases hgo:guardOf ops.toList st.tmps o.guard with
  | none=>rw[hgo]at hok;exact(not_AllT_no hok).elim
  | some r =>
    cases r with
    | none =>
      rw[hgo]at hok hn
      rw[hg1 hgo,if_pos rfl]
      exact plain _ hok hn
    | some g =>
      rw[hgo]at hok hn
      rw[hg2 g hgo]
      dsimp only at hok hn
      cases hde:decOf C o with
      | some b =>
        rw[hde]at hok hn
        cases b with
        | true =>
          have hg:g=true:=by
            have:=hok
            unfold plainX at this
            exact(this.append).1.cons.1
          subst hg
          rw[if_pos rfl]
          exact plain _ hok hn
        | false =>
          have hg:g=false:=by simpa using (show AllT [!g]from hok).cons.1
          subst hg
          rw[if_neg (by simp)]
          exact hn O m _ _ (hS.put o.dst (x:=.cnd false .undef) ⟨fun h=>by(cases h),fun _=>rfl⟩)
      | none =>
      rw[hde]at hok hn
      dsimp only at hok hn
      obtain⟨hokA,hokB⟩:=hok.append
      obtain⟨h1,hokB⟩:=hokB.cons
      obtain⟨h3,hokB⟩:=hokB.cons
      obtain⟨hdst,hmg⟩:=hokB.cons
      generalize hxs:(stripsFor o.op (o.op.operands.toList.map (evalA st.tmps)))=sf at *
      generalize hδ :opX C o sf.2 (fetchAll st sf.2)= δ at *
      have hfet:=fetchAll_ok st sf.2
      generalize hfe:fetchAll st sf.2=fet at *
      have e1: δ.new=[]:=by simpa using h1
      have e3: δ.del=[]:=by simpa using h3
      have hm2: ∀ p∈ δ.upd,mergeOOk (closesOnly o.op) (aget fet p.1) p.2=true:=fun p hp=>hmg _ (List.mem_map.2 ⟨p,hp,rfl⟩)
      cases g with
      | false =>
        rw[if_neg (by simp)]
        have hS1:=hS.put o.dst (x:=.cnd false δ.val) ⟨fun h=>by(cases h),fun _=>rfl⟩
        obtain⟨O1,hS2⟩:=hS1.closes (δ.upd.map (fun p=>(p.1,mergeO false (aget fet p.1) p.2))) (by
          intro q hq
          obtain⟨p,hp,rfl⟩:=List.mem_map.1 hq
          rcases mergeO_spec (hm2 p hp)with ⟨_,cs,h1,h2⟩ | ⟨_,e,f,l,l',h1,h2,h3⟩
          ·exact .inl ⟨cs,hfet _ _ h1,h2⟩
          ·exact .inr ⟨e,f,l,hfet _ _ h1,h3 false⟩)
        exact hn O1 m _ _ hS2
      | true =>
        rw[if_pos rfl]
        have hokA':AllT (sf.1++(δ.val.isVal:: δ.ok)):=by
          intro b hb
          have:=hokA (b|| !true) (List.mem_map.2 ⟨b,hb,rfl⟩)
          simpa using this
        obtain⟨hok1,hok2⟩:=hokA'.append
        obtain⟨hv,hok2⟩:=hok2.cons
        rw[<- hxs]at hok1
        obtain⟨hl,hx⟩:=stripsFor_spec hx0 hok1
        have hid:=stripsFor_ids hx0 hok1
        rw[hxs]at hl hx hid
        have hg:=op_sound (xs:=sf.2) (fet:=fet) hC hS hfet (by rw[hl];simp) (fun j hj=>hx j (by rw[<- hl];exact hj)) (fun x hx' i hi=>by
          obtain⟨y,hy,hi'⟩:=hid x hx' i hi
          exact .inl (hid0 y hy i hi')) (by rw[hδ];exact hok2) (fun p hp=>by rw[hδ,e1]at hp;cases hp) (by rw[hδ,e1];rfl)
        rw[hδ]at hg
        refine hg next Q (fun O' m' a' w' h=>hn O' m' a' w' ?_)
        have eu: δ.upd.map (fun p=>(p.1,mergeO true (aget fet p.1) p.2))= δ.upd:=by
          conv=>rhs;rw[<- List.map_id δ.upd]
          refine List.map_congr_left fun p hp=> ?_
          rcases mergeO_spec (hm2 p hp)with ⟨h1,_⟩ | ⟨hc,e,f,l,l',h1,h2,h3⟩
          ·rw[h1];rfl
          ·have hcl:=closesOnly_spec (C:=C) (fet:=fet) (xs:=sf.2) hc
           rw[hδ]at hcl
           obtain⟨e',f',h4,_⟩:=hcl p hp _ _ _ h2
           rw[h1]at h4
           injection h4 with h4;injection h4 with q1 q2 q3
           rw[h3 true,q3,<- h2];rfl
        have ea:apply st o δ = {tmps:=put st.tmps o.dst δ.val,objs:=setAll st.objs δ.upd}:=by
          unfold apply;rw[e1,e3];rfl
        rw[ea]at h
        have eb: ∀ ok,apply st o {ok:=ok,val:=.cnd true δ.val,upd:= δ.upd.map (fun p=>(p.1,mergeO true (aget fet p.1) p.2))}= {tmps:=put st.tmps o.dst (.cnd true δ.val),objs:=setAll st.objs δ.upd}:=by
          intro ok;unfold apply;dsimp only;rw[eu];rfl
        rw[eb]
        refine⟨h.defers,by have:=h.size;dsimp only at this ⊢;rw[put_length]at this ⊢;exact this,fun t ht=> ?_,h.objs,h.frame,h.own,h.ids,h.less,h.root,h.junk,h.inv⟩
        have ht':t<st.tmps.length:=by
          have ht2:t<(put st.tmps o.dst (.cnd true δ.val)).length:=ht
          rw[put_length]at ht2;exact ht2
        have:=h.tmps t (by show t<(put st.tmps o.dst δ.val).length;rw[put_length];exact ht')
        dsimp only at this ⊢
        rw[put_getD _ _ _ _ ht']at this
        rw[put_getD _ _ _ _ ht']
        by_cases hd:o.dst=some t
        ·rw[if_pos hd]at this ⊢
         exact⟨fun _=>this.toT1 hv,fun h=>by(cases h)⟩
        ·rw[if_neg hd]at this ⊢;exact this
end
