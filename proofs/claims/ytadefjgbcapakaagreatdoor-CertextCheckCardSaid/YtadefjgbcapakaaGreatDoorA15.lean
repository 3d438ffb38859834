/-
  CertextCheck: the law returns true whatever the input; machine, functions, plain law (part 15 of 47.)
-/
import Derived.Test.YtadefjgbcapakaaGreatDoorA14
set_option linter.unusedVariables false
set_option linter.unusedSimpArgs false
namespace Go.Proofs.YtadefjgbcapakaaGreatDoor.Vm
open Classical
structure Jq (P:Program) (C:Ctx):Prop where
  T:TOk P C
  G: ∀ f sg,C.G f=some sg→Spec P f sg
  alt: ∀ f q,C.alt f=some q→Spec P f q.1∧Spec P f q.2.1
  dyn: ∀ t F,C.dyn t=some F→(∀ xs,(F 0).ok xs=false)∧ ∀ f xs,(F (f+1)).ok xs=true→Spec P f (F (f+1))
theorem Jq.put {P:Program} {C:Ctx} (h:Jq P C) {f:Nat} {s:Sig} (hs:Spec P f s):Jq P (C.put f s) :=
  ⟨h.T,fun k sg hk=>by
    have hk':(bif Nat.beq f k then some s else C.G k)=some sg:=hk
    cases hb:Nat.beq f k with
    | true=>rw[hb]at hk';injection hk' with e;rw[← e, ←Nat.eq_of_beq_eq_true hb];exact hs
    | false=>rw[hb]at hk';exact h.G k sg hk',h.alt,h.dyn⟩
section
variable {P:Program} {C:Ctx} {V0:Nat→Value} {O0 O:Own} {w0 w:World} {m:Nat→Value} {st:St} {a:Act} {o:Oper}
theorem len1 {xs:List A} (h:xs.length=1): ∃ x,xs=[x]:=List.length_eq_one_iff.1 h
theorem iZ {xs:List A} (h:xs.length=2): ∃ x y,xs=[x,y]:=by
  match xs,h with
  | [x,y],_=>exact⟨x,y,rfl⟩
theorem AiF {xs:List A} (h:xs.length=3): ∃ x y z,xs=[x,y,z]:=by
  match xs,h with
  | [x,y,z],_=>exact⟨x,y,z,rfl⟩
theorem Afx {δ :Dl} (h:AA δ.ok) (e: δ = .no):False:=by rw[e]at h;exact AU h
theorem TP {t:Nat} {x:Operand} {lo hi:Option Operand} (hC:TOk P C) (hS:Sim V0 O0 w0 O m st a w) (ho:o.op= .slice t x lo hi none) {fet:Fet} (hf:Ir st.Aa fet) {x':A} {lo' hi':Option A} (hx:AB O st.Aa m w (a.eval x) x')
    (hlo:ORl O st.Aa m w (lo.map a.eval) lo') (hhi:ORl O st.Aa m w (hi.map a.eval) hi') (hok:AA (DT C fet t x' lo' hi').ok):Good P V0 O0 w0 (apply st o (DT C fet t x' lo' hi')) o a w:=by
  cases x' with
  | str s=>exact(AkQ hC ho rfl hx hlo hhi hok).good hS
  | sl l=>exact(Amq hC ho rfl hx hlo hhi hok).good hS
  | own q=>exact AdG hC hS ho rfl hf hx hlo hhi hok
  | _ =>
    exfalso
    unfold DT at hok
    obtain⟨ti,ht,he⟩:=BB hok
    rw[he]at hok
    exact AU hok
theorem Aop {k:A→Dl} {v:List A} (h:AA (a1 k v).ok): ∃ x,v=[x]:=by
  match v,h with
  | [x],_=>exact⟨x,rfl⟩
  | [],h=>exact(AU h).elim
  | _::_::_,h=>exact(AU h).elim
theorem AdR {k:A→A→Dl} {v:List A} (h:AA (a2 k v).ok): ∃ x y,v=[x,y]:=by
  match v,h with
  | [x,y],_=>exact⟨x,y,rfl⟩
  | [],h=>exact(AU h).elim
  | [_],h=>exact(AU h).elim
  | _::_::_::_,h=>exact(AU h).elim
set_option maxHeartbeats 1000000 in
theorem Af2 (hCx:Jq P C) (hS:Sim V0 O0 w0 O m st a w) {fet:Fet} (hf:Ir st.Aa fet) {xs:List A} (hl:xs.length=o.op.operands.size) (hx: ∀ j,j<xs.length→AB O st.Aa m w (a.eval (o.op.operands.getD j (.tmp 0))) (xs.getD j .undef))
    (hids: ∀ x∈xs,∀ i∈x.ids,i∈st.ids∨(Ai st.Aa i).isSome)
    (hok:AA (opX C o xs fet).ok) (hfr: ∀ p∈(opX C o xs fet).new,st.fresh p.1=true) (hnd:nodup ((opX C o xs fet).new.map (·.1))=true):Good P V0 O0 w0 (apply st o (opX C o xs fet)) o a w:=by
  have hC:=hCx.T
  have hF:FOk O st.Aa m w fet:=fun q x h=>⟨hf q x h,hS.Aa q x (hf q x h)⟩
  obtain⟨dst,op,ty,pos,after,guard⟩:=o
  cases op with
  | move x =>
    obtain⟨x',rfl⟩:=len1 hl
    exact(Acn (o:=⟨dst,.move x,ty,pos,after,guard⟩) (.inl rfl) (hx 0 (by simp))).good hS
  | assign x =>
    obtain⟨x',rfl⟩:=len1 hl
    exact(Acn (o:=⟨dst,.assign x,ty,pos,after,guard⟩) (.inr rfl) (hx 0 (by simp))).good hS
  | pick c x y =>
    obtain⟨c',x',y',rfl⟩:=AiF hl
    exact(AkF rfl (hx 0 (by simp)) (hx 1 (by simp)) (hx 2 (by simp)) hok).good hS
  | alloc t =>
    obtain rfl:xs=[]:=List.eq_nil_of_length_eq_zero hl
    obtain⟨d,hd,he⟩:=Be (show AA (BH dst fun d=>QY C d t).ok from hok)
    have e1:opX C ⟨dst,.alloc t,ty,pos,after,guard⟩ [] fet=QY C d t:=he
    rw[e1]at hok hfr hnd ⊢
    exact Agt hC hS hd rfl hok hfr hnd
  | box t x =>
    obtain⟨x',rfl⟩:=len1 hl
    obtain⟨d,hd,he⟩:=Be (show AA (BH dst fun d=>KL C d t x').ok from hok)
    have e1:opX C ⟨dst,.box t x,ty,pos,after,guard⟩ [x'] fet=KL C d t x':=he
    rw[e1]at hok hfr hnd ⊢
    exact AhX hC hS hd rfl (hx 0 (by simp)) (hids x' (by simp)) hok hfr hnd
  | build t ps =>
    have hps:xs.length=ps.size:=by
      rw[hl];simp [Op.operands]
    have e1:opX C ⟨dst,.build t ps,ty,pos,after,guard⟩ xs fet=fH C t ((ps.toList.map (fun(p:Nat×Operand)=>p.1)).zip xs):=rfl
    rw[e1]at hok ⊢
    refine(AhY (o:=⟨dst,.build t ps,ty,pos,after,guard⟩) (ps:=ps) (xs:=(ps.toList.map (fun(p:Nat×Operand)=>p.1)).zip xs) hC rfl (by simp [hps]) (fun j x p hxj hpj=> ?_) hok).good hS
    have hj:j<ps.size:=(Array.getElem?_eq_some_iff.1 hpj).1
    have hjx:j<xs.length:=by omega
    rw[List.getElem?_zip_eq_some]at hxj
    obtain⟨h1,h2⟩:=hxj
    have:=hx j hjx
    have e1:(Op.build t ps).operands.getD j (.tmp 0)=p.2:=by
      simp only[Op.operands]
      rw[Array.getD_eq_getD_getElem?]
      simp [hpj]
    have e2:xs.getD j .undef=x.2:=by rw[List.getD_eq_getElem?_getD,h2];rfl
    refine⟨?_,?_⟩
    ·simp [hpj]at h1;exact h1
    ·rw[← e1, ←e2];exact this
  | buildSlice t n ps =>
    obtain⟨d,hd,he⟩:=Be (show AA (BH dst fun d=>Iu C fet d t n ((ps.toList.map (·.1)).zip xs)).ok from hok)
    have e1:opX C ⟨dst,.buildSlice t n ps,ty,pos,after,guard⟩ xs fet=Iu C fet d t n ((ps.toList.map (·.1)).zip xs):=he
    rw[e1]at hok hfr ⊢
    have hps:xs.length=ps.size:=by
      rw[hl];simp [Op.operands]
    refine xG (o:=⟨dst,.buildSlice t n ps,ty,pos,after,guard⟩) (ps:=ps) (xs:=(ps.toList.map (·.1)).zip xs) hC hS hd rfl hf (by simp [hps]) (fun j x p hxj hpj=> ?_) hok hfr
    have hj:j<ps.size:=(Array.getElem?_eq_some_iff.1 hpj).1
    have hjx:j<xs.length:=by omega
    rw[List.getElem?_zip_eq_some]at hxj
    obtain⟨h1,h2⟩:=hxj
    have:=hx j hjx
    have e1:(Op.buildSlice t n ps).operands.getD j (.tmp 0)=p.2:=by
      simp only[Op.operands]
      rw[Array.getD_eq_getD_getElem?]
      simp [hpj]
    have e2:xs.getD j .undef=x.2:=by rw[List.getD_eq_getElem?_getD,h2];rfl
    refine⟨?_,?_⟩
    ·simp [hpj]at h1;exact h1
    ·rw[← e1, ←e2];exact this
  | load t x =>
    obtain⟨x',rfl⟩:=len1 hl
    exact(Ack hC hF rfl (hx 0 (by simp)) hok).good hS
  | store t x y =>
    obtain⟨x',y',rfl⟩:=iZ hl
    cases dst with
    | some d=>exact(AU hok).elim
    | none =>
      have e1:opX C ⟨none,.store t x y,ty,pos,after,guard⟩ [x',y'] fet=Lr C fet t x' y':=rfl
      rw[e1]at hok hfr hnd ⊢
      cases x' with
      | ptr q off=>exact AdH hC hS rfl rfl hf (hx 0 (by simp)) (hx 1 (by simp)) (hids y' (by simp)) hok hfr hnd
      | CB q i off=>exact AdI hC hS rfl rfl hf (hx 0 (by simp)) (hx 1 (by simp)) hok
      | _ =>
        exfalso
        unfold Lr at hok
        obtain⟨ti,ht,he⟩:=BB hok
        rw[he]at hok
        exact AU hok
  | nilCheck x =>
    obtain⟨x',rfl⟩:=len1 hl
    exact(Adi hF rfl (hx 0 (by simp)) hok).good hS
  | binOp op t x y t' =>
    obtain⟨x',y',rfl⟩:=iZ hl
    exact(Alv hC hF rfl (hx 0 (by simp)) (hx 1 (by simp)) hok).good hS
  | unOp op t x =>
    obtain⟨x',rfl⟩:=len1 hl
    exact(Anu rfl (hx 0 (by simp)) hok).good hS
  | convert s t x =>
    obtain⟨x',rfl⟩:=len1 hl
    exact AjO (o:=⟨dst,.convert s t x,ty,pos,after,guard⟩) hC hS rfl hf (hx 0 (by simp)) hok hfr
  | makeSlice t l c =>
    obtain⟨l',c',rfl⟩:=iZ hl
    obtain⟨d,hd,he⟩:=Be (show AA (BH dst fun d=>Zl C d t l' c').ok from hok)
    have e1:opX C ⟨dst,.makeSlice t l c,ty,pos,after,guard⟩ [l',c'] fet=Zl C d t l' c':=he
    rw[e1]at hok hfr ⊢
    exact Ak1 hC hS hd rfl (hx 0 (by simp)) (hx 1 (by simp)) hok hfr
  | slice t x lo hi mx =>
    have hok':AA (slX C dst fet t lo hi mx xs).ok:=hok
    show Good P V0 O0 w0 (apply st _ (slX C dst fet t lo hi mx xs)) _ a w
    cases mx with
    | some _=>exfalso;cases lo<;>cases hi<;>exact AU hok'
    | none =>
      cases lo with
      | none =>
        cases hi with
        | none =>
          obtain⟨x',rfl⟩:=len1 (by simpa [Op.operands]using hl)
          exact TP (o:=⟨dst,.slice t x none none none,ty,pos,after,guard⟩) (lo:=none) (hi:=none) (lo':=none) (hi':=none) hC hS rfl hf (hx 0 (by simp)) trivial trivial hok'
        | some h =>
          obtain⟨x',h',rfl⟩:=iZ (by simpa [Op.operands]using hl)
          have plain:AA (DT C fet t x' none (some h')).ok→Good P V0 O0 w0 (apply st ⟨dst,.slice t x none (some h) none,ty,pos,after,guard⟩ (DT C fet t x' none (some h'))) ⟨dst,.slice t x none (some h) none,ty,pos,after,guard⟩ a w:=fun hok'' =>
            TP (o:=⟨dst,.slice t x none (some h) none,ty,pos,after,guard⟩) (lo:=none) (hi:=some h) (lo':=none) (hi':=some h') hC hS rfl hf (hx 0 (by simp)) trivial (hx 1 (by simp)) hok''
          cases dst with
          | none=>exact plain hok'
          | some d =>
            have hfr': ∀ p∈(slX C (some d) fet t none (some h) none [x',h']).new,st.fresh p.1=true:=hfr
            have e1:slX C (some d) fet t none (some h) none [x',h']=bif has C.cuts d then gV C fet d t x' h' else DT C fet t x' none (some h'):=rfl
            rw[e1]at hok' hfr' ⊢
            cases hc:has C.cuts d with
            | false=>rw[hc]at hok';exact plain hok'
            | true =>
              rw[hc]at hok' hfr'
              exact Al4 (o:=⟨some d,.slice t x none (some h) none,ty,pos,after,guard⟩) hC hS rfl rfl hf (hx 0 (by simp)) (hx 1 (by simp)) hok' hfr'
      | some l =>
        cases hi with
        | none =>
          obtain⟨x',l',rfl⟩:=iZ (by simpa [Op.operands]using hl)
          exact TP (o:=⟨dst,.slice t x (some l) none none,ty,pos,after,guard⟩) (lo:=some l) (hi:=none) (lo':=some l') (hi':=none) hC hS rfl hf (hx 0 (by simp)) (hx 1 (by simp)) trivial hok'
        | some h =>
          obtain⟨x',l',h',rfl⟩:=AiF (by simpa [Op.operands]using hl)
          exact TP (o:=⟨dst,.slice t x (some l) (some h) none,ty,pos,after,guard⟩) (lo:=some l) (hi:=some h) (lo':=some l') (hi':=some h') hC hS rfl hf (hx 0 (by simp)) (hx 1 (by simp)) (hx 2 (by simp)) hok'
  | fieldAddr t x f =>
    obtain⟨x',rfl⟩:=len1 hl
    exact(AaS hC hF rfl (hx 0 (by simp)) hok).good hS
  | field t x f =>
    obtain⟨x',rfl⟩:=len1 hl
    exact(Air hC rfl (hx 0 (by simp)) hok).good hS
  | indexAddr t x i =>
    obtain⟨x',i',rfl⟩:=iZ hl
    exact(Abf hC hF rfl (hx 0 (by simp)) (hx 1 (by simp)) hok).good hS
  | index t x i =>
    obtain⟨x',i',rfl⟩:=iZ hl
    exact(Ai6 hC rfl (hx 0 (by simp)) (hx 1 (by simp)) hok).good hS
  | extract x i =>
    obtain⟨x',rfl⟩:=len1 hl
    exact(AeI rfl (hx 0 (by simp)) hok).good hS
  | makeMap t r =>
    obtain⟨d,hd,he⟩:=Be (show AA (BH dst fun d=>Oa C d t xs).ok from hok)
    have e1:opX C ⟨dst,.makeMap t r,ty,pos,after,guard⟩ xs fet=Oa C d t xs:=he
    rw[e1]at hok hfr ⊢
    exact Afq hC hS hd rfl (by rw[hl];rfl) hok hfr
  | lookup t x i c =>
    obtain⟨x',i',rfl⟩:=iZ hl
    exact(Ag7 hC hF rfl (hx 0 (by simp)) (hx 1 (by simp)) hok).good hS
  | mapUpdate t x i y =>
    obtain⟨x',i',y',rfl⟩:=AiF hl
    cases dst with
    | some d=>exact(AU hok).elim
    | none=>exact rJ (o:=⟨none,.mapUpdate t x i y,ty,pos,after,guard⟩) hC hS rfl (.inl rfl) hf (hx 0 (by simp)) (hx 1 (by simp)) (hx 2 (by simp)) hok
  | insert t x i y =>
    obtain⟨x',i',y',rfl⟩:=AiF hl
    cases dst with
    | some d=>exact(AU hok).elim
    | none=>exact rJ (o:=⟨none,.insert t x i y,ty,pos,after,guard⟩) hC hS rfl (.inr rfl) hf (hx 0 (by simp)) (hx 1 (by simp)) (hx 2 (by simp)) hok
  | call c =>
    obtain⟨callee,args,ts⟩:=c
    cases callee with
    | value fo =>
      cases fo with
      | func f =>
        have hl':xs.length=1+args.size:=by rw[hl];simp [Op.operands,Call.operands]
        obtain⟨x0,xs',rfl⟩: ∃ x0 xs',xs=x0::xs':=by
          cases xs with
          | nil=>simp at hl';omega
          | cons x0 xs'=>exact⟨x0,xs',rfl⟩
        have e1:opX C ⟨dst,.call ⟨.value (.func f),args,ts⟩,ty,pos,after,guard⟩ (x0::xs') fet=YB C fet (dst.getD 0) f xs':=rfl
        rw[e1]at hok hfr hnd ⊢
        cases hsg:C.G f with
        | none=>exfalso;unfold YB at hok;rw[hsg]at hok;exact AU hok
        | some sg =>
          have e3:YB C fet (dst.getD 0) f xs'=OE fet (dst.getD 0) sg xs':=by unfold YB;rw[hsg]
          rw[e3]at hok hfr hnd ⊢
          refine AbQ (x0:=.func f) hS rfl rfl rfl (hCx.G f sg hsg) hf (by simp at hl';show xs'.length=args.size;omega) (fun j hj=> ?_) hok hfr hnd
          have:=hx (j+1) (by simpa using hj)
          have e2:(Op.call ⟨.value (.func f),args,ts⟩).operands.getD (j+1) (.tmp 0)=args.getD j (.tmp 0):=by
            simp only[Op.operands,Call.operands]
            rw[Array.getD_eq_getD_getElem?,Array.getD_eq_getD_getElem?,Array.getElem?_append_right (by simp)]
            simp
          rw[e2]at this
          simpa using this
      | tmp t =>
        have hl':xs.length=1+args.size:=by rw[hl];simp [Op.operands,Call.operands]
        obtain⟨x0,xs',rfl⟩: ∃ x0 xs',xs=x0::xs':=by
          cases xs with
          | nil=>simp at hl';omega
          | cons x0 xs'=>exact⟨x0,xs',rfl⟩
        have e1:opX C ⟨dst,.call ⟨.value (.tmp t),args,ts⟩,ty,pos,after,guard⟩ (x0::xs') fet=AeE C fet (dst.getD 0) t x0 xs':=rfl
        rw[e1]at hok hfr hnd ⊢
        have h0:=hx 0 (by simp)
        have e0:(Op.call ⟨.value (.tmp t),args,ts⟩).operands.getD 0 (.tmp 0)= .tmp t:=by
          show(#[Operand.tmp t]++args).getD 0 (.tmp 0)= .tmp t
          rw[Array.getD_eq_getD_getElem?,Array.getElem?_append_left (by simp)];rfl
        rw[e0]at h0
        have h0:AB O st.Aa m w (a.eval (.tmp t)) x0:=h0
        unfold AeE at hok hfr hnd ⊢
        cases x0 with
        | fn n =>
          cases hsg:C.dyn t with
          | none=>rw[hsg]at hok;exact(AU hok).elim
          | some F =>
            rw[hsg]at hok hfr hnd
            dsimp only at hok hfr hnd ⊢
            obtain⟨hd1,hd2⟩:=hCx.dyn t F hsg
            have hok2:=Al1 hok
            cases n with
            | zero=>rw[hd1]at hok2;cases hok2
            | succ f =>
              have hev:a.eval (.tmp t)= .func (.func f) #[] #[]:=by
                have h1:Am O w (a.eval (.tmp t)) (.fn (f+1)):=h0
                generalize a.eval (.tmp t)=v at h1 ⊢
                cases h1;rfl
              refine AbQ (x0:=.tmp t) hS rfl rfl hev (hd2 f _ hok2) hf (by simp at hl';show xs'.length=args.size;omega) (fun j hj=> ?_) hok hfr hnd
              have:=hx (j+1) (by simpa using hj)
              have e2:(Op.call ⟨.value (.tmp t),args,ts⟩).operands.getD (j+1) (.tmp 0)=args.getD j (.tmp 0):=by
                simp only[Op.operands,Call.operands]
                rw[Array.getD_eq_getD_getElem?,Array.getD_eq_getD_getElem?,Array.getElem?_append_right (by simp)]
                simp
              rw[e2]at this
              simpa using this
        | _=>exact(AU hok).elim
      | _=>exfalso;exact Afx hok rfl
    | builtin b =>
      have hok':AA (blX C ⟨dst,.call ⟨.builtin b,args,ts⟩,ty,pos,after,guard⟩ fet ts.toList b xs).ok:=hok
      cases b with
      | len =>
        obtain⟨x',rfl⟩:=Aop (show AA (a1 _ xs).ok from hok')
        have hargs: ∃ x,args= #[x]:=by
          have:args.size=1:=by simpa [Op.operands,Call.operands]using hl.symm
          exact⟨args[0],by apply Array.ext (by simp [this]);intro i h1 h2;have:i=0:=by omega
                           subst this;rfl⟩
        obtain⟨x,rfl⟩:=hargs
        obtain⟨t,ht,he⟩:=Be (show AA (BH (one? ts.toList) fun t=>Abh C fet t x').ok from hok')
        have e1:opX C ⟨dst,.call ⟨.builtin .len,#[x],ts⟩,ty,pos,after,guard⟩ [x'] fet=Abh C fet t x':=he
        rw[e1]at hok ⊢
        exact(AlR hC hF rfl rfl rfl (Acv ht) (hx 0 (by simp)) hok).good hS
      | append =>
        obtain⟨x',y',rfl⟩:=AdR (show AA (a2 _ xs).ok from hok')
        have hargs: ∃ x y,args= #[x,y]:=by
          have:args.size=2:=by simpa [Op.operands,Call.operands]using hl.symm
          refine⟨args[0],args[1],?_⟩
          apply Array.ext (by simp [this])
          intro i h1 h2
          have:i=0∨i=1:=by omega
          rcases this with rfl | rfl<;>rfl
        obtain⟨x,y,rfl⟩:=hargs
        have e0:opX C ⟨dst,.call ⟨.builtin .append,#[x,y],ts⟩,ty,pos,after,guard⟩ [x',y'] fet=Alk C ⟨dst,.call ⟨.builtin .append,#[x,y],ts⟩,ty,pos,after,guard⟩ fet ts.toList x' y':=rfl
        rw[e0]at hok hfr ⊢
        clear hok' e0
        generalize hts:ts.toList=tl at hok hfr ⊢
        unfold Alk at hok hfr ⊢
        split at hok
        ·rename_i t u
         dsimp only at hfr ⊢
         obtain⟨tu,htu,he⟩:=BB hok
         rw[he]at hok hfr ⊢
         obtain⟨d,hd,he⟩:=Be hok
         rw[he]at hok hfr ⊢
         obtain⟨h1,h2⟩:=hok.cons
         exact Agu hC hS hd rfl rfl rfl hts htu h1 hf (hx 0 (by simp)) (hx 1 (by simp)) h2 hfr
        ·exact(AU hok).elim
      | delete =>
        obtain⟨x',y',rfl⟩:=AdR (show AA (a2 _ xs).ok from hok')
        have hargs: ∃ x y,args= #[x,y]:=by
          have:args.size=2:=by simpa [Op.operands,Call.operands]using hl.symm
          refine⟨args[0],args[1],?_⟩
          apply Array.ext (by simp [this])
          intro i h1 h2
          have:i=0∨i=1:=by omega
          rcases this with rfl | rfl<;>rfl
        obtain⟨x,y,rfl⟩:=hargs
        have e0:opX C ⟨dst,.call ⟨.builtin .delete,#[x,y],ts⟩,ty,pos,after,guard⟩ [x',y'] fet=(match ts.toList with | t::_=>XC C fet t x' y' | []=>.no):=rfl
        rw[e0]at hok ⊢
        clear hok' e0
        generalize hts:ts.toList=tl at hok ⊢
        cases tl with
        | nil=>exact(AU hok).elim
        | cons t r=>exact Agy (o:=⟨dst,.call ⟨.builtin .delete,#[x,y],ts⟩,ty,pos,after,guard⟩) hC hS rfl rfl rfl hts hf (hx 0 (by simp)) (hx 1 (by simp)) hok
      | min =>
        obtain⟨x',y',rfl⟩:=AdR (show AA (a2 _ xs).ok from hok')
        have hargs: ∃ x y,args= #[x,y]:=by
          have:args.size=2:=by simpa [Op.operands,Call.operands]using hl.symm
          refine⟨args[0],args[1],?_⟩
          apply Array.ext (by simp [this])
          intro i h1 h2
          have:i=0∨i=1:=by omega
          rcases this with rfl | rfl<;>rfl
        obtain⟨x,y,rfl⟩:=hargs
        exact(AlY (o:=⟨dst,.call ⟨.builtin .min,#[x,y],ts⟩,ty,pos,after,guard⟩) rfl rfl rfl (hx 0 (by simp)) (hx 1 (by simp)) hok).good hS
      | max =>
        obtain⟨x',y',rfl⟩:=AdR (show AA (a2 _ xs).ok from hok')
        have hargs: ∃ x y,args= #[x,y]:=by
          have:args.size=2:=by simpa [Op.operands,Call.operands]using hl.symm
          refine⟨args[0],args[1],?_⟩
          apply Array.ext (by simp [this])
          intro i h1 h2
          have:i=0∨i=1:=by omega
          rcases this with rfl | rfl<;>rfl
        obtain⟨x,y,rfl⟩:=hargs
        exact(AlW (o:=⟨dst,.call ⟨.builtin .max,#[x,y],ts⟩,ty,pos,after,guard⟩) rfl rfl rfl (hx 0 (by simp)) (hx 1 (by simp)) hok).good hS
      | _=>exfalso;exact AU hok'
    | invoke r mth=>exfalso;exact Afx hok rfl
  | _=>exfalso;exact Afx hok rfl
end
