import Derived.Test.YtbgjmioccbacdaaGreatDoorA7
set_option linter.all false
namespace Go.Proofs.YtbgjmioccbacdaaGreatDoor.Vm
open Classical
structure MV (P:Program) (C:Ctx):Prop where
 T:TOk P C
 G: ∀ f sg,C.G f=some sg->Spec P f sg
 alt: ∀ f q,C.alt f=some q->Spec P f q.1/\Spec P f q.2.1
 dyn: ∀ t F,C.dyn t=some F->(∀ xs,(F 0).ok xs=false)/\ ∀ f xs,(F (f+1)).ok xs=true->Spec P f (F (f+1))
 each: ∀ e fs sg,C.each e fs=some sg->iW P e fs sg
 Abh: ∀ f i sg,C.Abh f=some (i,sg)->Spec P f sg
def Amm {P:Program} {C:Ctx} (h:MV P C) {f:Nat} {xs:List A} {sg:Sig} (hs:yX C f xs=some sg):Spec P f sg:=by
 unfold yX at hs;cases hz:C.Abh f with
 | none=>rw[hz]at hs;exact h.G f sg hs
 | some q =>
  obtain⟨i,s⟩:=q;rw[hz]at hs;dsimp only at hs;cases hb:AnD (xs.getD i .undef)with
  | false=>rw[hb]at hs;exact h.G f sg hs
  | true =>rw[hb]at hs;injection hs with hs;rw[<- hs];exact h.Abh f i s hz
theorem MV.put {P:Program} {C:Ctx} (h:MV P C) {f:Nat} {s:Sig} (hs:Spec P f s):MV P (C.put f s) :=
 ⟨h.T,fun k sg hk=>by
   have hk':(bif Nat.beq f k then some s else C.G k)=some sg:=hk;cases hb:Nat.beq f k with
   | true=>rw[hb]at hk';injection hk' with e;rw[<- e,<- Dp hb];exact hs
   | false=>rw[hb]at hk';exact h.G k sg hk',h.alt,h.dyn,h.each,h.Abh⟩
def AsY {a b:A} (h:eqC a b=true):a=b:=by
 unfold eqC at h;split at h
 .rw[FY h]
 .rw[Dq]at h;rw[A.Rq h.1,FY h.2]
 .rw[FY h]
 .cases h
def Alr {fet:Fet} {x:A} {j:Nat} {δ :Dl} (h:J5 (TM fet x j δ).ok):J5 δ.ok/\(TM fet x j δ).val= δ.val/\(TM fet x j δ).new= δ.new/\(TM fet x j δ).upd= δ.upd/\(TM fet x j δ).del= δ.del:=by
 unfold TM at *
 cases x with
 | ptr q off =>
  dsimp only at h ⊢;cases hb:Lp fet q with
  | none=>rw[hb]at h;exact⟨h,rfl,rfl,rfl,rfl⟩
  | some cs =>
   rw[hb]at h;dsimp only at h ⊢;cases hc:Nat.blt j cs.length&& δ.upd.all (fun p=> !(Nat.beq p.1 q)||Ac9 cs.length p.2)with
   | false=>rw[hc]at h;exact⟨h,rfl,rfl,rfl,rfl⟩
   | true =>
    rw[hc]at h;obtain⟨h1,h2⟩:=(show J5 (δ.ok++_)from h).append;refine⟨h1,rfl,rfl,?_,rfl⟩;show δ.upd.map _= δ.upd
    conv=>rhs;rw[<- Gq δ.upd]
    refine Ej fun p hp=> ?_;have h3:=h2 _ (DF.2 ⟨p,hp,rfl⟩);cases hq:Nat.beq p.1 q with
    | false=>rfl
    | true =>
     rw[hq]at h3;have h3:eqU j (cs.getD j .undef) p.2=true:=h3;obtain⟨n,y⟩:=p;cases y with
     | box ds =>
      have h4:=AsY (show eqC (ds.getD j .undef) (cs.getD j .undef)=true from h3);show(n,Obj.box (ds.set j (cs.getD j .undef)))=(n,Obj.box ds);rw[<- h4];congr 2;apply IB;intro i;rw[FC];by_cases hij:j=i
      .subst hij;rw[Dw rfl];by_cases hl:j<ds.length
       .simp [hl,Dj]
       .simp [hl]
      .rw[Dt hij]
     | _=>cases h3
 | _=>exact⟨h,rfl,rfl,rfl,rfl⟩
def Alu {fet:Fet} {xs:List A}: ∀(ks:List (Nat×Nat)) {δ :Dl},J5 (keepD fet xs ks δ).ok->J5 δ.ok/\(keepD fet xs ks δ).val= δ.val/\(keepD fet xs ks δ).new= δ.new/\(keepD fet xs ks δ).upd= δ.upd/\(keepD fet xs ks δ).del= δ.del:=by
 intro ks
 induction ks with
 | nil=>intro δ h;exact⟨h,rfl,rfl,rfl,rfl⟩
 | cons k ks ih =>intro δ h;obtain⟨i,j⟩:=k;obtain⟨h1,h2,h3,h4,h5⟩:=ih (δ :=TM fet (xs.getD i .undef) j δ) h;obtain⟨g1,g2,g3,g4,g5⟩:=Alr h1;exact⟨g1,h2.trans g2,h3.trans g3,h4.trans g4,h5.trans g5⟩
def MV.decide {P:Program} {C:Ctx} (h:MV P C) (ds:List Nat) (b:Bool):MV P (C.decide ds b):=⟨h.T,h.G,h.alt,h.dyn,h.each,h.Abh⟩
section
variable {P:Program} {C:Ctx} {V0:Nat->Value} {O0 O:Own} {w0 w:World} {m:Nat->Value} {st:St} {a:Act} {o:Oper}
theorem len1 {xs:List A} (h:xs.length=1): ∃ x,xs=[x]:=Fv.1 h
theorem vV {xs:List A} (h:xs.length=2): ∃ x y,xs=[x,y]:=by
 match xs,h with
 | [x,y],_=>exact⟨x,y,rfl⟩
theorem Al3 {xs:List A} (h:xs.length=3): ∃ x y z,xs=[x,y,z]:=by
 match xs,h with
 | [x,y,z],_=>exact⟨x,y,z,rfl⟩
theorem AcN {δ :Dl} (h:J5 δ.ok) (e: δ = .no):False:=by rw[e]at h;exact JE h
theorem ZI {t:Nat} {x:Operand} {lo hi:Option Operand} (hC:TOk P C) (hS:Sim V0 O0 w0 O m st a w) (ho:o.op= .slice t x lo hi none) {fet:Fet} (hf:OL st.Jp fet) {x':A} {lo' hi':Option A} (hx:J8 O st.Jp m w (a.eval x) x')
 (hlo:ORl O st.Jp m w (lo.map a.eval) lo') (hhi:ORl O st.Jp m w (hi.map a.eval) hi') (hok:J5 (Mc C fet t x' lo' hi').ok):Good P V0 O0 w0 (apply st o (Mc C fet t x' lo' hi')) o a w:=by
 cases x' with
 | str s=>exact(Ao3 hC ho rfl hx hlo hhi hok).good hS
 | sl l=>exact(Aqr hC ho rfl hx hlo hhi hok).good hS
 | sln l=>exact(Ao2 hC ho rfl hx hlo hhi hok).good hS
 | own q=>exact AfU hC hS ho rfl hf hx hlo hhi hok
 | _ =>exfalso;unfold Mc at hok;obtain⟨ti,ht,he⟩:=Kt hok;rw[he]at hok;exact JE hok
theorem Aq8 {k:A->Dl} {v:List A} (h:J5 (a1 k v).ok): ∃ x,v=[x]:=by
 match v,h with
 | [x],_=>exact⟨x,rfl⟩
 | [],h=>exact(JE h).elim
 | _::_::_,h=>exact(JE h).elim
theorem AbD {k:A->A->Dl} {v:List A} (h:J5 (a2 k v).ok): ∃ x y,v=[x,y]:=by
 match v,h with
 | [x,y],_=>exact⟨x,y,rfl⟩
 | [],h=>exact(JE h).elim
 | [_],h=>exact(JE h).elim
 | _::_::_::_,h=>exact(JE h).elim
set_option maxHeartbeats 1000000 in
theorem AhK (hCx:MV P C) (hS:Sim V0 O0 w0 O m st a w) {fet:Fet} (hf:OL st.Jp fet) {xs:List A} (hl:xs.length=o.op.operands.size) (hx: ∀ j,j<xs.length->J8 O st.Jp m w (a.eval (o.op.operands.getD j (.tmp 0))) (xs.getD j .undef))
 (hids: ∀ x∈xs,∀ i∈x.ids,i∈st.ids\/(Jv st.Jp i).isSome)
 (hok:J5 (opX C o xs fet).ok) (hfr: ∀ p∈(opX C o xs fet).new,st.fresh p.1=true) (hnd:nodup ((opX C o xs fet).new.map (·.1))=true):Good P V0 O0 w0 (apply st o (opX C o xs fet)) o a w:=by
 have hC:=hCx.T;have hF:FOk O st.Jp m w fet:=fun q x h=>⟨hf q x h,hS.Jp q x (hf q x h)⟩
 obtain⟨dst,op,ty,pos,after,guard⟩:=o;cases op with
 | move x =>obtain⟨x',rfl⟩:=len1 hl;exact(Afh (o:=⟨dst,.move x,ty,pos,after,guard⟩) (.inl rfl) (hx 0 (by simp))).good hS
 | assign x =>obtain⟨x',rfl⟩:=len1 hl;exact(Afh (o:=⟨dst,.assign x,ty,pos,after,guard⟩) (.inr rfl) (hx 0 (by simp))).good hS
 | pick c x y =>obtain⟨c',x',y',rfl⟩:=Al3 hl;exact(Aoq rfl (hx 0 (by simp)) (hx 1 (by simp)) (hx 2 (by simp)) hok).good hS
 | alloc t =>obtain rfl:xs=[]:=GK hl;obtain⟨d,hd,he⟩:=JL (show J5 (Kr dst fun d=>YC C d t).ok from hok);have e1:opX C ⟨dst,.alloc t,ty,pos,after,guard⟩ [] fet=YC C d t:=he;rw[e1]at hok hfr hnd ⊢;exact Ai4 hC hS hd rfl hok hfr hnd
 | box t x =>obtain⟨x',rfl⟩:=len1 hl;obtain⟨d,hd,he⟩:=JL (show J5 (Kr dst fun d=>sW C d t x').ok from hok);have e1:opX C ⟨dst,.box t x,ty,pos,after,guard⟩ [x'] fet=sW C d t x':=he;rw[e1]at hok hfr hnd ⊢;exact AmP hC hS hd rfl (hx 0 (by simp)) (hids x' (by simp)) hok hfr hnd
 | build t ps =>
  have hps:xs.length=ps.size:=by rw[hl];simp [Op.operands]
  have e1:opX C ⟨dst,.build t ps,ty,pos,after,guard⟩ xs fet=tC C t ((ps.toList.map (fun(p:Nat×Operand)=>p.1)).zip xs):=rfl;rw[e1]at hok ⊢;refine(Ak6 (o:=⟨dst,.build t ps,ty,pos,after,guard⟩) (ps:=ps) (xs:=(ps.toList.map (fun(p:Nat×Operand)=>p.1)).zip xs) hC rfl (by simp [hps]) (fun j x p hxj hpj=> ?_) hok).good hS;have hj:j<ps.size:=(DT.1 hpj).1;have hjx:j<xs.length:=by omega
  rw[FW]at hxj;obtain⟨h1,h2⟩:=hxj;have:=hx j hjx;have e1:(Op.build t ps).operands.getD j (.tmp 0)=p.2:=by simp only[Op.operands];rw[Dn];simp [hpj]
  have e2:xs.getD j .undef=x.2:=by rw[Dj,h2];rfl
  refine⟨?_,?_⟩
  .simp [hpj]at h1;exact h1
  .rw[<- e1,<- e2];exact this
 | buildSlice t n ps =>
  obtain⟨d,hd,he⟩:=JL (show J5 (Kr dst fun d=>bif Ac1 ((ps.toList.map (·.1)).zip xs)then sZ C d t n ((ps.toList.map (·.1)).zip xs)else SB C fet d t n ((ps.toList.map (·.1)).zip xs)).ok from hok);have e1:opX C ⟨dst,.buildSlice t n ps,ty,pos,after,guard⟩ xs fet=bif Ac1 ((ps.toList.map (·.1)).zip xs)then sZ C d t n ((ps.toList.map (·.1)).zip xs)else SB C fet d t n ((ps.toList.map (·.1)).zip xs):=he;rw[e1]at hok hfr hnd ⊢;have hps:xs.length=ps.size:=by rw[hl];simp [Op.operands]
  have hz:((ps.toList.map (·.1)).zip xs).length=ps.size:=by simp [hps]
  have hxz: ∀(j:Nat) (x:Nat×A) (p:Nat×Operand),((ps.toList.map (·.1)).zip xs)[j]? =some x->ps[j]? =some p->p.1=x.1/\J8 O st.Jp m w (a.eval p.2) x.2:=by
   intro j x p hxj hpj;have hj:j<ps.size:=(DT.1 hpj).1;have hjx:j<xs.length:=by omega
   rw[FW]at hxj;obtain⟨h1,h2⟩:=hxj;have:=hx j hjx;have e1:(Op.buildSlice t n ps).operands.getD j (.tmp 0)=p.2:=by simp only[Op.operands];rw[Dn];simp [hpj]
   have e2:xs.getD j .undef=x.2:=by rw[Dj,h2];rfl
   refine⟨?_,?_⟩
   .simp [hpj]at h1;exact h1
   .rw[<- e1,<- e2];exact this
  cases hp:Ac1 ((ps.toList.map (·.1)).zip xs)with
  | false =>rw[hp]at hok hfr;exact AbP (o:=⟨dst,.buildSlice t n ps,ty,pos,after,guard⟩) (ps:=ps) hC hS hd rfl hf hz hxz hok hfr
  | true =>rw[hp]at hok hfr hnd;exact Apg (o:=⟨dst,.buildSlice t n ps,ty,pos,after,guard⟩) (ps:=ps) hC hS hd rfl hz hxz (fun x hx'=>hids x.2 (List.of_mem_zip hx').2) hok hfr hnd
 | load t x =>obtain⟨x',rfl⟩:=len1 hl;exact(vX hC hF rfl (hx 0 (by simp)) hok).good hS
 | store t x y =>
  obtain⟨x',y',rfl⟩:=vV hl;cases dst with
  | some d=>exact(JE hok).elim
  | none =>
   have e1:opX C ⟨none,.store t x y,ty,pos,after,guard⟩ [x',y'] fet=UT C fet t x' y':=rfl;rw[e1]at hok hfr hnd ⊢;cases x' with
   | ptr q off=>exact AfV hC hS rfl rfl hf (hx 0 (by simp)) (hx 1 (by simp)) (hids y' (by simp)) hok hfr hnd
   | Kq q i off=>exact AfW hC hS rfl rfl hf (hx 0 (by simp)) (hx 1 (by simp)) hok
   | _ =>exfalso;unfold UT at hok;obtain⟨ti,ht,he⟩:=Kt hok;rw[he]at hok;exact JE hok
 | nilCheck x =>obtain⟨x',rfl⟩:=len1 hl;exact(AfC hF rfl (hx 0 (by simp)) hok).good hS
 | binOp op t x y t' =>
  obtain⟨x',y',rfl⟩:=vV hl;have e0:opX C ⟨dst,.binOp op t x y t',ty,pos,after,guard⟩ [x',y'] fet=bif vP y then kZ C fet op t x' else AgF C fet op t x' y':=by show(bif _ then _ else _)=_;cases vP y<;>rfl
  rw[e0]at hok ⊢;cases hy:vP y with
  | true=>rw[hy]at hok;exact(Ajk (o:=⟨dst,.binOp op t x y t',ty,pos,after,guard⟩) hC hF rfl hy (hx 0 (by simp)) hok).good hS
  | false=>rw[hy]at hok;exact(Apd (o:=⟨dst,.binOp op t x y t',ty,pos,after,guard⟩) hC hF rfl (hx 0 (by simp)) (hx 1 (by simp)) hok).good hS
 | unOp op t x =>obtain⟨x',rfl⟩:=len1 hl;exact(Asy rfl (hx 0 (by simp)) hok).good hS
 | convert s t x =>obtain⟨x',rfl⟩:=len1 hl;exact Ane (o:=⟨dst,.convert s t x,ty,pos,after,guard⟩) hC hS rfl hf (hx 0 (by simp)) hok hfr
 | makeSlice t l c =>obtain⟨l',c',rfl⟩:=vV hl;obtain⟨d,hd,he⟩:=JL (show J5 (Kr dst fun d=>o9 C d t l' c').ok from hok);have e1:opX C ⟨dst,.makeSlice t l c,ty,pos,after,guard⟩ [l',c'] fet=o9 C d t l' c':=he;rw[e1]at hok hfr ⊢;exact AnQ hC hS hd rfl (hx 0 (by simp)) (hx 1 (by simp)) hok hfr
 | slice t x lo hi mx =>
  have hok':J5 (slX C dst fet t lo hi mx xs).ok:=hok;show Good P V0 O0 w0 (apply st _ (slX C dst fet t lo hi mx xs)) _ a w;cases mx with
  | some _=>exfalso;cases lo<;>cases hi<;>exact JE hok'
  | none =>
   cases lo with
   | none =>
    cases hi with
    | none =>obtain⟨x',rfl⟩:=len1 (by simpa [Op.operands]using hl);exact ZI (o:=⟨dst,.slice t x none none none,ty,pos,after,guard⟩) (lo:=none) (hi:=none) (lo':=none) (hi':=none) hC hS rfl hf (hx 0 (by simp)) trivial trivial hok'
    | some h =>
     obtain⟨x',h',rfl⟩:=vV (by simpa [Op.operands]using hl)
     have plain:J5 (Mc C fet t x' none (some h')).ok->Good P V0 O0 w0 (apply st ⟨dst,.slice t x none (some h) none,ty,pos,after,guard⟩ (Mc C fet t x' none (some h'))) ⟨dst,.slice t x none (some h) none,ty,pos,after,guard⟩ a w:=fun hok'' =>
      ZI (o:=⟨dst,.slice t x none (some h) none,ty,pos,after,guard⟩) (lo:=none) (hi:=some h) (lo':=none) (hi':=some h') hC hS rfl hf (hx 0 (by simp)) trivial (hx 1 (by simp)) hok''
     cases dst with
     | none=>exact plain hok'
     | some d =>
      have hfr': ∀ p∈(slX C (some d) fet t none (some h) none [x',h']).new,st.fresh p.1=true:=hfr;have e1:slX C (some d) fet t none (some h) none [x',h']=bif has C.cuts d then uQ C fet d t x' h' else Mc C fet t x' none (some h'):=rfl;rw[e1]at hok' hfr' ⊢;cases hc:has C.cuts d with
      | false=>rw[hc]at hok';exact plain hok'
      | true =>rw[hc]at hok' hfr';exact Apo (o:=⟨some d,.slice t x none (some h) none,ty,pos,after,guard⟩) hC hS rfl rfl hf (hx 0 (by simp)) (hx 1 (by simp)) hok' hfr'
   | some l =>
    cases hi with
    | none =>
     obtain⟨x',l',rfl⟩:=vV (by simpa [Op.operands]using hl)
     have plain:J5 (Mc C fet t x' (some l') none).ok->Good P V0 O0 w0 (apply st ⟨dst,.slice t x (some l) none none,ty,pos,after,guard⟩ (Mc C fet t x' (some l') none)) ⟨dst,.slice t x (some l) none none,ty,pos,after,guard⟩ a w:=fun hok'' =>
      ZI (o:=⟨dst,.slice t x (some l) none none,ty,pos,after,guard⟩) (lo:=some l) (hi:=none) (lo':=some l') (hi':=none) hC hS rfl hf (hx 0 (by simp)) (hx 1 (by simp)) trivial hok''
     cases dst with
     | none=>exact plain hok'
     | some d =>
      have e1:slX C (some d) fet t (some l) none none [x',l']=bif has C.cuts d then qE C fet t x' l' else Mc C fet t x' (some l') none:=rfl;rw[e1]at hok' ⊢;cases hc:has C.cuts d with
      | false=>rw[hc]at hok';exact plain hok'
      | true =>rw[hc]at hok';exact(Ao7 (o:=⟨some d,.slice t x (some l) none none,ty,pos,after,guard⟩) hC hF rfl (hx 0 (by simp)) (hx 1 (by simp)) hok').good hS
    | some h =>obtain⟨x',l',h',rfl⟩:=Al3 (by simpa [Op.operands]using hl);exact ZI (o:=⟨dst,.slice t x (some l) (some h) none,ty,pos,after,guard⟩) (lo:=some l) (hi:=some h) (lo':=some l') (hi':=some h') hC hS rfl hf (hx 0 (by simp)) (hx 1 (by simp)) (hx 2 (by simp)) hok'
 | fieldAddr t x f =>obtain⟨x',rfl⟩:=len1 hl;exact(AdX hC hF rfl (hx 0 (by simp)) hok).good hS
 | field t x f =>obtain⟨x',rfl⟩:=len1 hl;exact(AkU hC rfl (hx 0 (by simp)) hok).good hS
 | indexAddr t x i =>obtain⟨x',i',rfl⟩:=vV hl;exact(Aeg hC hF rfl (hx 0 (by simp)) (hx 1 (by simp)) hok).good hS
 | index t x i =>obtain⟨x',i',rfl⟩:=vV hl;exact(Alj hC rfl (hx 0 (by simp)) (hx 1 (by simp)) hok).good hS
 | extract x i =>obtain⟨x',rfl⟩:=len1 hl;exact(Aha rfl (hx 0 (by simp)) hok).good hS
 | makeFunc fn fi cap =>
  cases fn with
  | func f =>
   have e1:opX C ⟨dst,.makeFunc (.func f) fi cap,ty,pos,after,guard⟩ xs fet=bif fi.isEmpty then a1 (AdK fet f) xs else .no:=rfl;rw[e1]at hok ⊢;cases hfi:fi.isEmpty with
   | false=>rw[hfi]at hok;exact(JE hok).elim
   | true =>
    rw[hfi]at hok;obtain⟨x',rfl⟩:=Aq8 (show J5 (a1 (AdK fet f) xs).ok from hok);have hfi':fi= #[]:=by simpa using hfi
    subst hfi'
    have hcap: ∃ x,cap= #[x]:=by
     have:cap.size=1:=by simpa [Op.operands]using hl.symm
     exact⟨cap[0],by apply Fe (by simp [this]);intro i h1 h2;have:i=0:=by omega
                     subst this;rfl⟩
    obtain⟨x,rfl⟩:=hcap;exact Apl (o:=⟨dst,.makeFunc (.func f) #[] #[x],ty,pos,after,guard⟩) hS rfl hf (hx 0 (by simp)) hok
  | _=>exfalso;exact AcN hok rfl
 | makeMap t r =>obtain⟨d,hd,he⟩:=JL (show J5 (Kr dst fun d=>Wv C d t xs).ok from hok);have e1:opX C ⟨dst,.makeMap t r,ty,pos,after,guard⟩ xs fet=Wv C d t xs:=he;rw[e1]at hok hfr ⊢;exact Ah9 hC hS hd rfl (by rw[hl];rfl) hok hfr
 | lookup t x i c =>obtain⟨x',i',rfl⟩:=vV hl;exact(AiX hC hF rfl (hx 0 (by simp)) (hx 1 (by simp)) hok).good hS
 | mapUpdate t x i y =>
  obtain⟨x',i',y',rfl⟩:=Al3 hl;cases dst with
  | some d=>exact(JE hok).elim
  | none=>exact Aaw (o:=⟨none,.mapUpdate t x i y,ty,pos,after,guard⟩) hC hS rfl (.inl rfl) hf (hx 0 (by simp)) (hx 1 (by simp)) (hx 2 (by simp)) hok
 | insert t x i y =>
  obtain⟨x',i',y',rfl⟩:=Al3 hl;cases dst with
  | some d=>exact(JE hok).elim
  | none=>exact Aaw (o:=⟨none,.insert t x i y,ty,pos,after,guard⟩) hC hS rfl (.inr rfl) hf (hx 0 (by simp)) (hx 1 (by simp)) (hx 2 (by simp)) hok
 | call c =>
  obtain⟨callee,args,ts⟩:=c;cases callee with
  | value fo =>
   cases fo with
   | func f =>
    have hl':xs.length=1+args.size:=by rw[hl];simp [Op.operands,Call.operands]
    obtain⟨x0,xs',rfl⟩: ∃ x0 xs',xs=x0::xs':=by
     cases xs with
     | nil=>simp at hl';omega
     | cons x0 xs'=>exact⟨x0,xs',rfl⟩
    have e1:opX C ⟨dst,.call ⟨.value (.func f),args,ts⟩,ty,pos,after,guard⟩ (x0::xs') fet=Zy C fet (dst.getD 0) f xs':=rfl;rw[e1]at hok hfr hnd ⊢;cases hsg:yX C f xs' with
    | none=>exfalso;unfold Zy at hok;rw[hsg]at hok;exact JE hok
    | some sg =>
     have hGs:Spec P f sg:=Amm hCx hsg;have e3:Zy C fet (dst.getD 0) f xs'=keepD fet xs' (C.kept f) (OE fet (dst.getD 0) sg xs'):=by unfold Zy;rw[hsg]
     rw[e3]at hok hfr hnd ⊢;obtain⟨hok,k1,k2,k3,k4⟩:=Alu _ hok;rw[k2]at hfr hnd;have e4: ∀ o',apply st o' (keepD fet xs' (C.kept f) (OE fet (dst.getD 0) sg xs'))=apply st o' (OE fet (dst.getD 0) sg xs'):=fun o'=>by unfold apply;rw[k1,k2,k3,k4]
     rw[e4];refine AeO (x0:=.func f) hS rfl rfl rfl hGs hf (by simp at hl';show xs'.length=args.size;omega) (fun j hj=> ?_) hok hfr hnd;have:=hx (j+1) (by simpa using hj);have e2:(Op.call ⟨.value (.func f),args,ts⟩).operands.getD (j+1) (.tmp 0)=args.getD j (.tmp 0):=by simp only[Op.operands,Call.operands];rw[Dn,Dn,Fj (by simp)];simp
     rw[e2]at this;simpa using this
   | tmp t =>
    have hl':xs.length=1+args.size:=by rw[hl];simp [Op.operands,Call.operands]
    obtain⟨x0,xs',rfl⟩: ∃ x0 xs',xs=x0::xs':=by
     cases xs with
     | nil=>simp at hl';omega
     | cons x0 xs'=>exact⟨x0,xs',rfl⟩
    have e1:opX C ⟨dst,.call ⟨.value (.tmp t),args,ts⟩,ty,pos,after,guard⟩ (x0::xs') fet=AgM C fet (dst.getD 0) t x0 xs':=rfl;rw[e1]at hok hfr hnd ⊢;have h0:=hx 0 (by simp);have e0:(Op.call ⟨.value (.tmp t),args,ts⟩).operands.getD 0 (.tmp 0)= .tmp t:=by show(#[Operand.tmp t]++args).getD 0 (.tmp 0)= .tmp t;rw[Dn,E8 (by simp)];rfl
    rw[e0]at h0;have h0:J8 O st.Jp m w (a.eval (.tmp t)) x0:=h0;unfold AgM at hok hfr hnd ⊢;cases x0 with
    | fn n =>
     cases hsg:C.dyn t with
     | none=>rw[hsg]at hok;exact(JE hok).elim
     | some F =>
      rw[hsg]at hok hfr hnd;dsimp only at hok hfr hnd ⊢;obtain⟨hd1,hd2⟩:=hCx.dyn t F hsg;have hok2:=AgH hok;cases n with
      | zero=>rw[hd1]at hok2;cases hok2
      | succ f =>
       have hev:a.eval (.tmp t)= .func (.func f) #[] #[]:=by have h1:Jw O w (a.eval (.tmp t)) (.fn (f+1)):=h0;generalize a.eval (.tmp t)=v at h1 ⊢;cases h1;rfl
       refine AeO (x0:=.tmp t) hS rfl rfl hev (hd2 f _ hok2) hf (by simp at hl';show xs'.length=args.size;omega) (fun j hj=> ?_) hok hfr hnd;have:=hx (j+1) (by simpa using hj);have e2:(Op.call ⟨.value (.tmp t),args,ts⟩).operands.getD (j+1) (.tmp 0)=args.getD j (.tmp 0):=by simp only[Op.operands,Call.operands];rw[Dn,Dn,Fj (by simp)];simp
       rw[e2]at this;simpa using this
    | clo f q =>
     obtain⟨cs,hb,he⟩:=JL hok;dsimp only at he hok hfr hnd ⊢;rw[he]at hok hfr hnd ⊢;clear he;have hc:JF O st.Jp m w (a.eval (.tmp t)) (.clo f q):=h0;obtain⟨_,p,k5,⟨b,j0,k2,k3,k4⟩,hc⟩:=hc;cases hsg:C.dyn t with
     | none=>rw[hsg]at hok;exact(JE hok).elim
     | some F =>
      rw[hsg]at hok hfr hnd;dsimp only at hok hfr hnd ⊢;obtain⟨hd1,hd2⟩:=hCx.dyn t F hsg;have hok2:=AgH hok;cases f with
      | zero=>rw[hd1]at hok2;cases hok2
      | succ f =>
       have hlx:xs'.length=args.size:=by simp at hl';omega
       refine AbQ (x0:=.tmp t) (caps:= #[.pointer (some (at' b j0))]) (av:=args.map a.eval++ #[.pointer (some (at' b j0))]) hS rfl rfl k2 rfl (hd2 f _ hok2) hf (by simp [hlx]) (fun j hj=> ?_) hok hfr hnd;rcases Ec j xs'.length with hjl | hjl
       .have:=hx (j+1) (by simpa using hjl);have e2:(Op.call ⟨.value (.tmp t),args,ts⟩).operands.getD (j+1) (.tmp 0)=args.getD j (.tmp 0):=by simp only[Op.operands,Call.operands];rw[Dn,Dn,Fj (by simp)];simp
        rw[e2]at this;have hjs:j<args.size:=by omega
        have e3:(args.map a.eval++ #[Value.pointer (some (at' b j0))]).getD j undef=a.eval (args.getD j (.tmp 0)):=by rw[Dn,E8 (by simpa using hjs),Dn];simp [hjs]
        have e4:(xs'++[A.clo 0 q]).getD j .undef=xs'.getD j .undef:=by simp [Dj,Em,hjl]
        rw[e3,e4];simpa using this
       .have hj':j=xs'.length:=by simp at hj;omega
        subst hj';have e3:(args.map a.eval++ #[Value.pointer (some (at' b j0))]).getD xs'.length undef= .pointer (some (at' b j0)):=by rw[hlx,Dn,Fj (by simp)];simp
        have e4:(xs'++[A.clo 0 q]).getD xs'.length .undef= .clo 0 q:=by simp [Dj]
        rw[e3,e4];show JF O st.Jp m w _ (.clo 0 q);exact⟨rfl,p,k5,⟨b,j0,rfl,k3,k4⟩,hc⟩
    | _=>exact(JE hok).elim
   | _=>exfalso;exact AcN hok rfl
  | builtin b =>
   have hok':J5 (blX C ⟨dst,.call ⟨.builtin b,args,ts⟩,ty,pos,after,guard⟩ fet ts.toList b xs).ok:=hok;cases b with
   | len =>
    obtain⟨x',rfl⟩:=Aq8 (show J5 (a1 _ xs).ok from hok')
    have hargs: ∃ x,args= #[x]:=by
     have:args.size=1:=by simpa [Op.operands,Call.operands]using hl.symm
     exact⟨args[0],by apply Fe (by simp [this]);intro i h1 h2;have:i=0:=by omega
                      subst this;rfl⟩
    obtain⟨x,rfl⟩:=hargs;obtain⟨t,ht,he⟩:=JL (show J5 (Kr (one? ts.toList) fun t=>Aek C fet t x').ok from hok');have e1:opX C ⟨dst,.call ⟨.builtin .len,#[x],ts⟩,ty,pos,after,guard⟩ [x'] fet=Aek C fet t x':=he;rw[e1]at hok ⊢;exact(ApF hC hF rfl rfl rfl (Afl ht) (hx 0 (by simp)) hok).good hS
   | copy =>
    obtain⟨x',y',rfl⟩:=AbD (show J5 (a2 _ xs).ok from hok')
    have hargs: ∃ x y,args= #[x,y]:=by
     have:args.size=2:=by simpa [Op.operands,Call.operands]using hl.symm
     refine⟨args[0],args[1],?_⟩;apply Fe (by simp [this]);intro i h1 h2;have:i=0\/i=1:=by omega
     rcases this with rfl | rfl<;>rfl
    obtain⟨x,y,rfl⟩:=hargs;exact Anf (o:=⟨dst,.call ⟨.builtin .copy,#[x,y],ts⟩,ty,pos,after,guard⟩) (ts':=ts.toList) hC hS rfl rfl rfl rfl hf (hx 0 (by simp)) (hx 1 (by simp)) hok'
   | append =>
    obtain⟨x',y',rfl⟩:=AbD (show J5 (a2 _ xs).ok from hok')
    have hargs: ∃ x y,args= #[x,y]:=by
     have:args.size=2:=by simpa [Op.operands,Call.operands]using hl.symm
     refine⟨args[0],args[1],?_⟩;apply Fe (by simp [this]);intro i h1 h2;have:i=0\/i=1:=by omega
     rcases this with rfl | rfl<;>rfl
    obtain⟨x,y,rfl⟩:=hargs;have e0:opX C ⟨dst,.call ⟨.builtin .append,#[x,y],ts⟩,ty,pos,after,guard⟩ [x',y'] fet=AoV C ⟨dst,.call ⟨.builtin .append,#[x,y],ts⟩,ty,pos,after,guard⟩ fet ts.toList x' y':=rfl;rw[e0]at hok hfr ⊢;clear hok' e0;generalize hts:ts.toList=tl at hok hfr ⊢;unfold AoV at hok hfr ⊢;split at hok
    .rename_i t u;dsimp only at hfr ⊢;obtain⟨tu,htu,he⟩:=Kt hok;rw[he]at hok hfr ⊢;obtain⟨d,hd,he⟩:=JL hok;rw[he]at hok hfr ⊢;obtain⟨h1,h2⟩:=hok.cons;exact Ai5 hC hS hd rfl rfl rfl hts htu h1 hf (hx 0 (by simp)) (hx 1 (by simp)) h2 hfr
    .exact(JE hok).elim
   | delete =>
    obtain⟨x',y',rfl⟩:=AbD (show J5 (a2 _ xs).ok from hok')
    have hargs: ∃ x y,args= #[x,y]:=by
     have:args.size=2:=by simpa [Op.operands,Call.operands]using hl.symm
     refine⟨args[0],args[1],?_⟩;apply Fe (by simp [this]);intro i h1 h2;have:i=0\/i=1:=by omega
     rcases this with rfl | rfl<;>rfl
    obtain⟨x,y,rfl⟩:=hargs;have e0:opX C ⟨dst,.call ⟨.builtin .delete,#[x,y],ts⟩,ty,pos,after,guard⟩ [x',y'] fet=(match ts.toList with | t::_=>kD C fet t x' y' | []=>.no):=rfl;rw[e0]at hok ⊢;clear hok' e0;generalize hts:ts.toList=tl at hok ⊢;cases tl with
    | nil=>exact(JE hok).elim
    | cons t r=>exact AiD (o:=⟨dst,.call ⟨.builtin .delete,#[x,y],ts⟩,ty,pos,after,guard⟩) hC hS rfl rfl rfl hts hf (hx 0 (by simp)) (hx 1 (by simp)) hok
   | min =>
    obtain⟨x',y',rfl⟩:=AbD (show J5 (a2 _ xs).ok from hok')
    have hargs: ∃ x y,args= #[x,y]:=by
     have:args.size=2:=by simpa [Op.operands,Call.operands]using hl.symm
     refine⟨args[0],args[1],?_⟩;apply Fe (by simp [this]);intro i h1 h2;have:i=0\/i=1:=by omega
     rcases this with rfl | rfl<;>rfl
    obtain⟨x,y,rfl⟩:=hargs;exact(ApN (o:=⟨dst,.call ⟨.builtin .min,#[x,y],ts⟩,ty,pos,after,guard⟩) rfl rfl rfl (hx 0 (by simp)) (hx 1 (by simp)) hok).good hS
   | max =>
    obtain⟨x',y',rfl⟩:=AbD (show J5 (a2 _ xs).ok from hok')
    have hargs: ∃ x y,args= #[x,y]:=by
     have:args.size=2:=by simpa [Op.operands,Call.operands]using hl.symm
     refine⟨args[0],args[1],?_⟩;apply Fe (by simp [this]);intro i h1 h2;have:i=0\/i=1:=by omega
     rcases this with rfl | rfl<;>rfl
    obtain⟨x,y,rfl⟩:=hargs;exact(ApK (o:=⟨dst,.call ⟨.builtin .max,#[x,y],ts⟩,ty,pos,after,guard⟩) rfl rfl rfl (hx 0 (by simp)) (hx 1 (by simp)) hok).good hS
   | _=>exfalso;exact JE hok'
  | invoke r mth=>exfalso;exact AcN hok rfl
 | _=>exfalso;exact AcN hok rfl
end
section
variable {P:Program} {C:Ctx} {V0:Nat->Value} {O0 O:Own} {w0 w:World} {m:Nat->Value} {st:St} {a:Act} {o:Oper}
theorem Apy (Jp:List (Nat×Obj)): ∀(l:List Nat) (q:Nat) (x:Obj),Jv (fetch Jp l) q=some x->Jv Jp q=some x:=by
 intro l
 induction l with
 | nil=>intro q x h;cases h
 | cons n r ih=>grind[fetch,Jv,Ov]
theorem Ai1 (a b:List (Nat×Obj)) (q:Nat):Jv (a++b) q=match Jv a q with | some x=>some x | none=>Jv b q:=by
 induction a with
 | nil=>rfl
 | cons p r ih=>grind[Ov]
theorem Y2 (st:St) (vs:List A):OL st.Jp (Ku st vs):=by intro q x h;grind[Ku,Ai1,split,Apy]
theorem Ao5 {v:Value} {x:A} (h:J8 O st.Jp m w v x) (hok:J5 x.strip.1):J8 O st.Jp m w v x.strip.2:=by
 cases x with
 | cnd g y =>have:=h.1 hok.cons.1;cases y<;>first | trivial | exact this | exact this.elim
 | _=>exact h
theorem Ajx: ∀(xs:List A) (f:Nat->Value),(∀ j,j<xs.length->J8 O st.Jp m w (f j) (xs.getD j .undef))->J5 (strips xs).1 ->
 (strips xs).2.length=xs.length/\ ∀ j,j<xs.length->J8 O st.Jp m w (f j) ((strips xs).2.getD j .undef):=by
 intro xs
 induction xs with
 | nil=>intro f _ _;exact⟨rfl,fun j hj=>by simp at hj⟩
 | cons x xs ih =>
  intro f h hok;simp only[strips]at hok ⊢;obtain⟨h1,h2⟩:=hok.append;obtain⟨g1,g2⟩:=ih (fun j=>f (j+1)) (fun j hj=>by simpa using h (j+1) (by simpa using hj)) h2;refine⟨by simp [g1],fun j hj=> ?_⟩;cases j with
  | zero=>grind[Ao5]
  | succ j=>simpa using g2 j (by simpa using hj)
theorem Aq5 {v:Value} {x:A} (h:J8 O st.Jp m w v x):J8 O st.Jp m w v x.weak:=by
 cases x with
 | sln l =>
  have h':Jw O w v (.sln l):=h;cases h' with
  | sln h _=>exact h
 | _=>exact h
theorem Aq4 (x:A):x.weak.ids=x.ids:=by cases x<;>rfl
theorem AoB (xs:List A) (j:Nat):(xs.map A.weak).getD j .undef=(xs.getD j .undef).weak:=by simp only[Dj,Ed];cases xs[j]? <;>rfl
theorem xW (op:Op) (xs:List A):(∃ a b c,op= .pick a b c)\/KU op xs=((strips xs).1,bif pX op then(strips xs).2 else(strips xs).2.map A.weak):=by cases op<;>first | exact .inr rfl | exact .inl ⟨_,_,_,rfl⟩
theorem lS {op:Op} {xs:List A} {f:Nat->Value} (h: ∀ j,j<xs.length->J8 O st.Jp m w (f j) (xs.getD j .undef)) (hok:J5 (KU op xs).1) :
 (KU op xs).2.length=xs.length/\ ∀ j,j<xs.length->J8 O st.Jp m w (f j) ((KU op xs).2.getD j .undef):=by
 rcases xW op xs with ⟨x,y,z,rfl⟩ | he
 .exact⟨rfl,h⟩
 .rw[he]at hok ⊢;obtain⟨g1,g2⟩:=Ajx xs f h hok;cases hb:pX op with
  | true=>exact⟨g1,g2⟩
  | false =>refine⟨by simp [g1],fun j hj=> ?_⟩;show J8 O st.Jp m w (f j) (((strips xs).2.map A.weak).getD j .undef);rw[AoB];exact Aq5 (g2 j hj)
theorem Ao4 {v:Value} {x:A} {i:Nat} (ht:J8 O st.Jp m w v x) (hok:J5 x.strip.1) (h:i∈x.strip.2.ids):i∈x.ids:=by
 cases x with
 | cnd g y =>have h1:=ht.1 hok.cons.1;cases y<;>first | exact h | exact h1.elim
 | _=>exact h
theorem Amr: ∀(xs:List A) (f:Nat->Value),(∀ j,j<xs.length->J8 O st.Jp m w (f j) (xs.getD j .undef))->J5 (strips xs).1-> ∀ x∈(strips xs).2,∀ i∈x.ids,∃ y∈xs,i∈y.ids:=by
 intro xs
 induction xs with
 | nil=>grind[strips]
 | cons z xs ih =>
  intro f h hok x hx i hi;simp only[strips]at hok hx;obtain⟨h1,h2⟩:=hok.append;rcases Dz.1 hx with rfl | hx
  .exact⟨z,Du,Ao4 (h 0 (by simp)) h1 hi⟩
  .obtain⟨y,hy,hi'⟩:=ih (fun j=>f (j+1)) (fun j hj=>by simpa using h (j+1) (by simpa using hj)) h2 x hx i hi;exact⟨y,Dy _ hy,hi'⟩
theorem qQ {op:Op} {xs:List A} {f:Nat->Value} (h: ∀ j,j<xs.length->J8 O st.Jp m w (f j) (xs.getD j .undef)) (hok:J5 (KU op xs).1): ∀ x∈(KU op xs).2,∀ i∈x.ids,∃ y∈xs,i∈y.ids:=by
 rcases xW op xs with ⟨x,y,z,rfl⟩ | he
 .exact fun x hx i hi=>⟨x,hx,hi⟩
 .rw[he]at hok ⊢;have g:=Amr xs f h hok;cases hb:pX op with
  | true=>exact g
  | false =>intro x hx i hi;obtain⟨z,hz,rfl⟩:=DF.1 (show x∈(strips xs).2.map A.weak from hx);rw[Aq4]at hi;exact g z hz i hi
theorem Ald {ops:Array Oper} {gd:Option (Nat×Bool)} (hS:Sim V0 O0 w0 O m st a w) (hgd:o.guard=gd) :
 (guardOf ops.toList st.tmps gd=some none->Region.wanted o (yielded ops a.tmps)=true) /\
 ∀ g,guardOf ops.toList st.tmps gd=some (some g)->Region.wanted o (yielded ops a.tmps)=g:=by
 cases gd with
 | none =>refine⟨fun _=>by unfold Region.wanted;rw[hgd],fun g h=>by simp [guardOf]at h⟩
 | some p =>
  obtain⟨j,want⟩:=p;unfold Region.wanted;rw[hgd];dsimp only
  have key: ∀ oj t,ops[j]? =some oj->oj.dst=some t->yielded ops a.tmps j=match a.tmps[t]? with | some (.bool b)=>some b | _=>none:=by
   intro oj t h1 h2;unfold yielded;have:(ops[j]?).bind (·.dst)=some t:=by rw[h1];exact h2
   rw[this];show(match a.tmps[t]? with | some (.bool b)=>some b | _=>none)=_;cases a.tmps[t]? with
   | none=>rfl
   | some v=>cases v<;>rfl
  unfold guardOf;have hop:ops.toList[j]? =ops[j]? :=by simp
  dsimp only;rw[hop];cases hj:ops[j]? with
  | none=>exact⟨fun h=>by simp at h,fun g h=>by simp at h⟩
  | some oj =>
   dsimp only;cases hd:oj.dst with
   | none=>exact⟨fun h=>by simp at h,fun g h=>by simp at h⟩
   | some t =>
    dsimp only;have ht:=hS.tmps t;rw[key oj t hj hd];cases hv:st.tmps.getD t .undef with
    | bool b =>
     refine⟨fun h=>by simp at h,fun g h=> ?_⟩;simp only[Fh]at h
     have htl:t<st.tmps.length:=by
      rcases Ec t st.tmps.length with h | h
      .exact h
      .rw[Dj,DZ h]at hv;cases hv
     have:=ht htl;rw[hv]at this;have:=this.bool;have hts:t<a.tmps.size:=by rw[hS.size];exact htl
     rw[getD_eq hts,this,<- h];cases want<;>cases b<;>rfl
    | cnd g0 y =>
     cases y with
     | bool b =>
      refine⟨fun h=>by simp at h,fun g h=> ?_⟩;simp only[Fh]at h
      have htl:t<st.tmps.length:=by
       rcases Ec t st.tmps.length with h | h
       .exact h
       .rw[Dj,DZ h]at hv;cases hv
      have:=ht htl;rw[hv]at this;have hts:t<a.tmps.size:=by rw[hS.size];exact htl
      rw[getD_eq hts,<- h];cases g0 with
      | true =>have h1:Jw O w (a.tmps.getD t undef) (.bool b):=this.1 rfl;generalize a.tmps.getD t undef=z at h1;cases h1;cases want<;>cases b<;>rfl
      | false =>rw[this.2 rfl];simp [undef]
     | _=>exact⟨fun h=>by simp at h,fun g h=>by simp at h⟩
    | _=>exact⟨fun h=>by simp at h,fun g h=>by simp at h⟩
theorem Anb (v:Value):(ofConst v).ids=[]:=by
 have hc: ∀ u:Value,(Pz u).Nc=[]:=by intro u;unfold Pz;split<;>rfl
 have hc2: ∀ u:Value,(Pz u).ids=[]:=by intro u;unfold Pz;split<;>rfl
 unfold ofConst;split
 .rename_i vs;cases vs.toList.all Value.oneCell' with
  | false=>rfl
  | true =>show(vs.toList.map Pz).flatMap A.Nc=[];rw[Hr];intro x hx;obtain⟨u,_,rfl⟩:=DF.1 hx;exact hc u
 .exact hc2 v
theorem Aji {a b:A} (h:bK a b=true):kY true a b=b/\kY false a b=a:=by
 cases a<;>cases b<;>first | exact⟨rfl,rfl⟩ | exact(Bool.false_ne_true h).elim | skip
 case int.int k x k' y =>
  have e:k=k':=by cases k<;>cases k'<;>first | rfl | cases h
  subst e;exact⟨rfl,rfl⟩
 case sl.sl l l' =>
  obtain⟨t,xs⟩:=l;obtain⟨t',xs'⟩:=l';unfold bK Sl.cast at h;unfold kY Sl.cast;dsimp only at h ⊢;cases hd:decEq t' t with
  | isTrue e=>subst e;exact⟨rfl,rfl⟩
  | isFalse e=>rw[hd]at h;cases h
 case sln.sln l l' =>
  obtain⟨t,xs⟩:=l;obtain⟨t',xs'⟩:=l';unfold bK Sl.cast at h;unfold kY Sl.cast;dsimp only at h ⊢;cases hd:decEq t' t with
  | isTrue e=>subst e;exact⟨rfl,rfl⟩
  | isFalse e=>rw[hd]at h;cases h
 all_goals simp_all[bK,kY]
theorem Afu: ∀ {aa bs:List A},okM aa bs=true->AeF true aa bs=bs/\AeF false aa bs=aa
 | [],[],_=>⟨rfl,rfl⟩
 | a::aa,b::bs,h=>by unfold okM at h;obtain⟨h1,h2⟩:=Bool.and_eq_true_iff.1 h;obtain⟨i1,i2⟩:=Aji h1;obtain⟨j1,j2⟩:=Afu h2;exact⟨by unfold AeF;rw[i1,j1],by unfold AeF;rw[i2,j2]⟩
 | [],_::_,h=>by cases h
 | _::_,[],h=>by cases h
theorem Aam {c:Bool} {x:Option Obj} {y:Obj} (h:bM c x y=true) :
 (Xz true x y=y/\ ∃ cs,x=some (.box cs)/\Xz false x y= .box cs)\/c=true/\ ∃ e f l l',x=some (.arr e f l)/\y= .arr e true l'/\ ∀ g,Xz g x y= .arr e true l:=by
 cases x with
 | none=>cases h
 | some x =>
  cases x with
  | box cs=>grind[Afu,okM,Obj,bM,Xz]
  | arr e f l =>
   cases y with
   | arr e' f' l' =>
    cases f' with
    | true=>simp_all[Obj,bM,Xz]
    | false=>cases h
   | _=>cases h
  | _=>cases h
def Closes (Jp U:List (Nat×Obj)):Prop:= ∀ p∈U,(∃ cs,Jv Jp p.1=some (.box cs)/\p.2= .box cs)\/ ∃ e f l,Jv Jp p.1=some (.arr e f l)/\p.2= .arr e true l
theorem _root_.Go.Proofs.YtbgjmioccbacdaaGreatDoor.Vm.Sim.Aqi {objs':List (Nat×Obj)} (hS:Sim V0 O0 w0 O m st a w) (h: ∀ n,Jv objs' n=Jv st.Jp n):Sim V0 O0 w0 O m {st with Jp:=objs'} a w:=by
 have he:Rz st.Jp m objs' m (fun _=>False):=fun o x hx=>.inr ⟨x,by rw[<- h];exact hx,rfl,rfl⟩;have hp:Nj O w O w:=fun b k u h1 h2=>⟨h1,h2⟩
 refine⟨hS.defers,hS.size,fun t ht=>(hS.tmps t ht).step hp he (fun _ _=>id),fun o x hx=> ?_,hS.frame,hS.own,fun o x hx=>hS.ids o x (by rw[<- h];exact hx),hS.less,fun o ho hx=>hS.root o ho (by rw[<- h];exact hx),hS.VA,hS.inv⟩;have h0:=hS.Jp o x (by rw[<- h];exact hx);cases x with
 | box cs =>obtain⟨b,base,h1,h2⟩:=h0;refine⟨b,base,h1,fun j hj=> ?_⟩;obtain⟨g1,g2,u,g3,g4⟩:=h2 j hj;exact⟨g1,g2,u,g3,g4.step hp he (fun _ _=>id)⟩
 | arr e f l=>exact h0
 | mp l=>exact h0
theorem _root_.Go.Proofs.YtbgjmioccbacdaaGreatDoor.Vm.Sim.closes: ∀(U:List (Nat×Obj)) {O:Own} {st:St},Sim V0 O0 w0 O m st a w->Closes st.Jp U-> ∃ O',Sim V0 O0 w0 O' m {st with Jp:=JC st.Jp U} a w:=by
 intro U
 induction U with
 | nil=>intro O st hS _;exact⟨O,hS⟩
 | cons p U ih =>
  intro O st hS h;obtain⟨n,y⟩:=p;have h0:=h (n,y) Du
  have hrest:Closes (L9 st.Jp n y) U:=by
   intro q hq;have h1:=h q (Dy _ hq);rw[Ky];by_cases hk:q.1=n
   .rw[Dw hk];rw[hk]at h1;rcases h0 with ⟨cs,g1,g2⟩ | ⟨e,f,l,g1,g2⟩
    .dsimp only at g1 g2;rw[g1]at h1;rcases h1 with ⟨cs',k1,k2⟩ | ⟨e',f',l',k1,k2⟩
     .injection k1 with k1;rw[<- k1]at k2;exact .inl ⟨cs,by rw[g2],k2⟩
     .cases k1
    .dsimp only at g1 g2;rw[g1]at h1;rcases h1 with ⟨cs',k1,k2⟩ | ⟨e',f',l',k1,k2⟩
     .cases k1
     .injection k1 with k1;injection k1 with q1 q2 q3;subst q1;subst q3;exact .inr ⟨e,true,l,by rw[g2],k2⟩
   .rw[Dt hk];exact h1
  show ∃ O',Sim V0 O0 w0 O' m {st with Jp:=JC (L9 st.Jp n y) U} a w;rcases h0 with ⟨cs,g1,g2⟩ | ⟨e,f,l,g1,g2⟩
  .dsimp only at g1 g2
   have hS':Sim V0 O0 w0 O m {st with Jp:=L9 st.Jp n y} a w:=hS.Aqi fun k=>by
    rw[Ky];by_cases hk:k=n
    .rw[Dw hk,hk,g1,g2]
    .rw[Dt hk]
   exact ih hS' hrest
  .dsimp only at g1 g2;obtain⟨O1,hS1,_⟩:=hS.freezes [(n,y)] (fun q hq=>by simp at hq;subst hq;exact⟨e,f,l,g1,g2⟩);exact ih hS1 hrest
def JY (fet:Fet) (U:List (Nat×Obj)):Prop:= ∀ p∈U,∀ e f l,p.2= .arr e f l-> ∃ e' f',Jv fet p.1=some (.arr e' f' l)/\f=true
theorem JY.append {fet:Fet} {U V:List (Nat×Obj)} (h:JY fet U) (h':JY fet V):JY fet (U++V):=fun p hp=>(DU.1 hp).elim (h p) (h' p)
theorem JY.nil (fet:Fet):JY fet []:=fun p hp=>by cases hp
theorem JY.one {fet:Fet} {n e e0:Nat} {f:Bool} {l:Sl} (h:Jv fet n=some (.arr e f l)):JY fet [(n,.arr e0 true l)]:=by simp_all[Fet,Jv,JY]
theorem JY.cons {fet:Fet} {n e e0:Nat} {f:Bool} {l:Sl} {U:List (Nat×Obj)} (h:Jv fet n=some (.arr e f l)) (h':JY fet U):JY fet ((n,.arr e0 true l)::U):=(JY.one h).append h'
theorem Adb (fet:Fet) (k:CK) (c:A):JY fet (pur fet k c).2.2:=by
 unfold pur;split
 .split
  .rename_i h;exact .one h
  .exact .nil _
 .split<;>exact .nil _
 all_goals exact .nil _
theorem Ajp (fet:Fet): ∀(ks:List CK) (cs:List A),JY fet (KF fet ks cs).2.2:=by
 intro ks
 induction ks with
 | nil=>intro cs;cases cs<;>exact .nil _
 | cons k ks ih=>intro cs;cases cs with
  | nil=>exact .nil _
  | cons c cs=>exact(Adb fet k c).append (ih cs)
theorem TL (fet:Fet): ∀(ks:List (Bool×CK)) (cs:List A),JY fet (J3 fet ks cs).2.2.1:=by
 intro ks
 induction ks with
 | nil=>intro cs;cases cs<;>exact .nil _
 | cons k ks ih =>
  intro cs;obtain⟨u,k⟩:=k;cases cs with
  | nil=>cases u<;>cases k<;>exact .nil _
  | cons c cs =>
   cases u with
   | false=>exact(Adb fet k c).append (ih cs)
   | true =>
    cases k with
    | sl e t =>
     cases c with
     | own q =>
      simp only[J3];cases h:Jv fet q with
      | none=>exact .nil _
      | some x =>
       cases x with
       | arr e' f l=>exact .cons h (ih cs)
       | _=>exact .nil _
     | Lj=>exact ih cs
     | _=>exact .nil _
    | sln e t =>
     cases c with
     | own q =>
      simp only[J3];cases h:Jv fet q with
      | none=>exact .nil _
      | some x =>
       cases x with
       | arr e' f l=>exact ih cs
       | _=>exact .nil _
     | Lj=>exact ih cs
     | _=>exact .nil _
    | bx t =>
     cases c with
     | ptr q off =>
      simp only[J3];cases Lp fet q with
      | none=>exact .nil _
      | some zs=>exact(Ajp fet _ zs).append (ih cs)
     | _=>exact .nil _
    | mp kt vt =>
     cases c with
     | own q =>
      simp only[J3];cases h:Jv fet q with
      | none=>exact .nil _
      | some x =>
       cases x with
       | mp l=>exact ih cs
       | _=>exact .nil _
     | _=>exact .nil _
    | _=>cases c<;>exact .nil _
theorem Aeb (fet:Fet) (s:Sh) (x:A):JY fet (JU fet s x).upd:=by
 cases s with
 | cell u k =>
  have:=TL fet [(u,k)] [x];unfold JU;dsimp only;generalize J3 fet [(u,k)] [x]=r at this ⊢;obtain⟨ok,cs,upd,del⟩:=r;cases cs with
  | nil=>exact .nil _
  | cons c cs=>cases cs with
   | nil=>exact this
   | cons _ _=>exact .nil _
 | agg ks=>cases x<;>first | exact .nil _ | exact TL fet _ _
 | box ks =>
  cases x with
  | ptr q off =>
   unfold JU;dsimp only;cases Lp fet q with
   | none=>exact .nil _
   | some cs=>exact TL fet _ _
  | _=>exact .nil _
 | clo f' ks =>
  cases x with
  | clo g q =>
   unfold JU;dsimp only;cases Lp fet q with
   | none=>exact .nil _
   | some cs=>exact TL fet _ _
  | _=>exact .nil _
 | map kt vt =>
  cases x with
  | own q =>unfold JU;dsimp only;split<;>exact .nil _
  | _=>exact .nil _
theorem Acr (fet:Fet): ∀(ss:List Sh) (xs:List A),JY fet (JK fet ss xs).2.2.1:=by
 intro ss
 induction ss with
 | nil=>intro xs;cases xs<;>exact .nil _
 | cons s ss ih =>
  intro xs;cases xs with
  | nil=>exact .nil _
  | cons x xs=>exact(Aeb fet s x).append (ih xs)
theorem Aa1 (fet:Fet) (rb:Nat->Nat) (rs:List A): ∀(bs:List (Nat×Sh)) (j:Nat),JY fet (KR rb rs bs j).2.1:=by
 intro bs
 induction bs with
 | nil=>intro j;exact .nil _
 | cons b bs ih =>
  intro j p hp;obtain⟨q,s⟩:=b;rcases Dz.1 hp with rfl | hp
  .intro e f l he;cases s<;>cases he
  .exact ih (j+1) p hp
theorem ZX (fet:Fet) (d:Nat) (sg:Sig) (xs:List A):JY fet (OE fet d sg xs).upd :=
 (Acr fet _ _).append (Aa1 fet _ _ _ _)
theorem UW {t:Nat} {k:TI->Dl} {fet:Fet} (h: ∀ ti,JY fet (k ti).upd):JY fet (LU C t k).upd:=by
 unfold LU Kr;cases C.T t with
 | none=>exact .nil _
 | some ti=>exact h ti
theorem Pj {α :Type} {o:Option α} {k: α ->Dl} {fet:Fet} (h: ∀ x,o=some x->JY fet (k x).upd):JY fet (Kr o k).upd:=by
 unfold Kr;cases o with
 | none=>exact .nil _
 | some x=>exact h x rfl
theorem RI (fet:Fet) (t:Nat) (x:A) (lo hi:Option A):JY fet (Mc C fet t x lo hi).upd:=by
 unfold Mc;refine UW fun ti=> ?_;split
 .exact Pj fun _ _=>.nil _
 .exact Pj fun _ _=>Pj fun _ _=>UW fun _=>.nil _
 .exact Pj fun _ _=>Pj fun _ _=>UW fun _=>.nil _
 .refine Pj fun r hr=>Pj fun _ _=>Pj fun _ _=>UW fun _=> ?_;cases r.frz with
  | true=>exact .nil _
  | false=>exact .one (NK hr)
 .exact .nil _
theorem AiC (fet:Fet) (d t:Nat) (x hi:A):JY fet (uQ C fet d t x hi).upd:=by
 unfold uQ;refine UW fun ti=> ?_;split
 .exact Pj fun _ _=>Pj fun _ _=>Pj fun _ _=>UW fun _=>.nil _
 .exact .nil _
theorem Ail (fet:Fet) (t:Nat) (x h:A):JY fet (qE C fet t x h).upd:=by
 unfold qE;refine UW fun ti=> ?_;split
 .exact Pj fun _ _=>Pj fun _ _=>Pj fun _ _=>UW fun _=>.nil _
 .exact .nil _
theorem Ahz {fet:Fet} (x:A) (j:Nat) {δ :Dl} (h:JY fet δ.upd):JY fet (TM fet x j δ).upd:=by
 unfold TM;split
 .split
  .rename_i q _ _ cs _;cases Nat.blt j cs.length&& δ.upd.all (fun p=> !(Nat.beq p.1 q)||Ac9 cs.length p.2)with
   | false=>exact h
   | true =>
    intro p hp e f l he;obtain⟨p0,hp0,rfl⟩:=DF.1 (show p∈ δ.upd.map _ from hp);cases hq:Nat.beq p0.1 q with
    | false=>rw[hq]at he;exact h p0 hp0 e f l he
    | true =>
     rw[hq]at he;obtain⟨n,y⟩:=p0;cases y with
     | box _=>cases he
     | arr e' f' l'=>exact h _ hp0 e f l he
     | mp _=>cases he
  .exact h
 .exact h
theorem Ah0 {fet:Fet} (xs:List A): ∀(ks:List (Nat×Nat)) {δ :Dl},JY fet δ.upd->JY fet (keepD fet xs ks δ).upd:=by
 intro ks
 induction ks with
 | nil=>intro δ h;exact h
 | cons k ks ih=>intro δ h;exact ih (Ahz _ _ h)
theorem AbW {fet:Fet} {xs:List A} (h:mY o.op=true):JY fet (opX C o xs fet).upd:=by
 obtain⟨dst,op,ty,pos,after,guard⟩:=o;cases op with
 | slice t x lo hi mx =>
  show JY fet (slX C dst fet t lo hi mx xs).upd;unfold slX;split
  .unfold a1;split<;>first | exact RI fet _ _ _ _ | exact .nil _
  .unfold a2;split
   .dsimp only;split
    .rename_i d;cases has C.cuts d with
     | false=>exact RI fet _ _ _ _
     | true=>exact Ail fet _ _ _
    .exact RI fet _ _ _ _
   .exact .nil _
  .unfold a2;split
   .dsimp only;split
    .rename_i d;cases has C.cuts d with
     | false=>exact RI fet _ _ _ _
     | true=>exact AiC fet _ _ _ _
    .exact RI fet _ _ _ _
   .exact .nil _
  .unfold a3;split<;>first | exact RI fet _ _ _ _ | exact .nil _
  .exact .nil _
 | call c =>
  obtain⟨callee,args,ts⟩:=c;cases callee with
  | value fo =>
   cases fo with
   | func f =>
    cases xs with
    | nil=>exact .nil _
    | cons x xs =>
     show JY fet (Zy C fet (dst.getD 0) f xs).upd;unfold Zy;cases yX C f xs with
     | none=>exact .nil _
     | some sg=>exact Ah0 _ _ (ZX fet _ _ _)
   | tmp t =>
    cases xs with
    | nil=>exact .nil _
    | cons x xs =>
     show JY fet (AgM C fet (dst.getD 0) t x xs).upd;unfold AgM;cases x with
     | fn n =>
      dsimp only;cases C.dyn t with
      | none=>exact .nil _
      | some F=>exact ZX fet _ _ _
     | clo f q =>
      dsimp only;cases Lp fet q with
      | none=>exact .nil _
      | some _ =>
       show JY fet (match C.dyn t with | some sg=>OE fet (dst.getD 0) (sg f) (xs++[A.clo 0 q]) | none=>.no).upd;cases C.dyn t with
       | none=>exact .nil _
       | some F=>exact ZX fet _ _ _
     | _=>exact .nil _
   | _=>cases h
  | _=>cases h
 | _=>cases h
theorem Adp (hC:MV P C) (hS:Sim V0 O0 w0 O m st a w) {ops:Array Oper} (hok:J5 (KE C ops.toList o st).ok) (next:Act->World->Prop) (Q:Exit->Act->World->Prop)
 (hn: ∀ O' m' a' w',Sim V0 O0 w0 O' m' (apply st o (KE C ops.toList o st)) a' w'->next a' w') :
 if Region.wanted o (yielded ops a.tmps)then o.wp P a w next Q else next (a.put o.dst undef) w:=by
 have hx0: ∀ j,j<(o.op.operands.toList.map (KP st.tmps)).length->J8 O st.Jp m w (a.eval (o.op.operands.getD j (.tmp 0))) ((o.op.operands.toList.map (KP st.tmps)).getD j .undef):=by
  intro j hj;have hj':j<o.op.operands.size:=by simpa using hj
  have e1:o.op.operands.getD j (.tmp 0)=o.op.operands[j]:=by rw[Dn,D6 hj'];rfl
  have e2:(o.op.operands.toList.map (KP st.tmps)).getD j .undef=KP st.tmps o.op.operands[j]:=by simp [Dj,hj']
  rw[e1,e2];exact aT hS _
 have hid0: ∀ y∈o.op.operands.toList.map (KP st.tmps),∀ i∈y.ids,i∈st.ids:=by
  intro y hy i hi;obtain⟨x,_,rfl⟩:=DF.1 hy;cases x with
  | tmp t =>
   rcases Ec t st.tmps.length with h | h
   .exact bJ h hi
   .have:KP st.tmps (.tmp t)= .undef:=by simp [KP,Dj,DZ h]
    rw[this]at hi;cases hi
  | const v=>have:KP st.tmps (.const v)=ofConst v:=rfl
             rw[this,Anb]at hi;cases hi
  | global g =>
   have hi:i∈(Aqv (Ab5 g)).ids:=hi;cases hg:Ab5 g with
   | none=>rw[hg]at hi;cases hi
   | some q=>rw[hg]at hi;cases hi
  | func f=>cases hi
 obtain⟨hg1,hg2⟩:=Ald (ops:=ops) (o:=o) hS rfl;have plain: ∀ pre,J5 (TC C o st pre).ok->(∀ O' m' a' w',Sim V0 O0 w0 O' m' (apply st o (TC C o st pre)) a' w'->next a' w')->o.wp P a w next Q:=by intro pre hok hn;unfold TC at hok hn;dsimp only at hok hn;obtain⟨_,hok⟩:=hok.append;obtain⟨hokA,hokB⟩:=hok.append;obtain⟨hok1,hok2⟩:=hokA.append;obtain⟨hB1,hB2⟩:=hokB.cons;have hB2:=hB2.cons.1;obtain⟨hl,hx⟩:=lS hx0 hok1;have hid:=qQ hx0 hok1;have hg:=AhK hC hS (Y2 st _) (by rw[hl];simp) (fun j hj=>hx j (by rw[<- hl];exact hj)) (fun x hx' i hi=>by obtain⟨y,hy,hi'⟩:=hid x hx' i hi;exact .inl (hid0 y hy i hi')) hok2 (fun p hp=>(D7.1 hB1) p hp) hB2;exact hg next Q hn
 unfold KE at hok hn;cases hgo:guardOf ops.toList st.tmps o.guard with
 | none=>rw[hgo]at hok;exact(JE hok).elim
 | some r =>
  cases r with
  | none =>rw[hgo]at hok hn;rw[hg1 hgo,Dw rfl];exact plain _ hok hn
  | some g =>
   rw[hgo]at hok hn;rw[hg2 g hgo];dsimp only at hok hn;cases hde:AkG C o with
   | some b =>
    rw[hde]at hok hn;cases b with
    | true =>
     have hg:g=true:=by have:=hok;unfold TC at this;exact(this.append).1.cons.1
     subst hg;rw[Dw rfl];exact plain _ hok hn
    | false =>
     have hg:g=false:=by simpa using (show J5 [!g]from hok).cons.1
     subst hg;rw[Dt (by simp)];exact hn O m _ _ (hS.put o.dst (x:=.cnd false .undef) ⟨fun h=>by(cases h),fun _=>rfl⟩)
   | none =>
   rw[hde]at hok hn;dsimp only at hok hn;obtain⟨hokA,hokB⟩:=hok.append;obtain⟨h1,hokB⟩:=hokB.cons;obtain⟨h3,hokB⟩:=hokB.cons;obtain⟨hdst,hmg⟩:=hokB.cons;generalize hxs:(KU o.op (o.op.operands.toList.map (KP st.tmps)))=sf at *
   generalize hδ :opX C o sf.2 (Ku st sf.2)= δ at *
   have hfet:=Y2 st sf.2;generalize hfe:Ku st sf.2=fet at *
   have e1: δ.new=[]:=by simpa using h1
   have e3: δ.del=[]:=by simpa using h3
   have hm2: ∀ p∈ δ.upd,bM (mY o.op) (Jv fet p.1) p.2=true:=fun p hp=>hmg _ (DF.2 ⟨p,hp,rfl⟩);cases g with
   | false =>
    rw[Dt (by simp)];have hS1:=hS.put o.dst (x:=.cnd false δ.val) ⟨fun h=>by(cases h),fun _=>rfl⟩
    obtain⟨O1,hS2⟩:=hS1.closes (δ.upd.map (fun p=>(p.1,Xz false (Jv fet p.1) p.2))) (by
     intro q hq;obtain⟨p,hp,rfl⟩:=DF.1 hq;rcases Aam (hm2 p hp)with ⟨_,cs,h1,h2⟩ | ⟨_,e,f,l,l',h1,h2,h3⟩
     .exact .inl ⟨cs,hfet _ _ h1,h2⟩
     .exact .inr ⟨e,f,l,hfet _ _ h1,h3 false⟩)
    exact hn O1 m _ _ hS2
   | true =>
    rw[Dw rfl];have hokA':J5 (sf.1++(δ.val.isVal:: δ.ok)):=by intro b hb;have:=hokA (b|| !true) (DF.2 ⟨b,hb,rfl⟩);simpa using this
    obtain⟨hok1,hok2⟩:=hokA'.append;obtain⟨hv,hok2⟩:=hok2.cons;rw[<- hxs]at hok1;obtain⟨hl,hx⟩:=lS hx0 hok1;have hid:=qQ hx0 hok1;rw[hxs]at hl hx hid;have hg:=AhK (xs:=sf.2) (fet:=fet) hC hS hfet (by rw[hl];simp) (fun j hj=>hx j (by rw[<- hl];exact hj)) (fun x hx' i hi=>by obtain⟨y,hy,hi'⟩:=hid x hx' i hi;exact .inl (hid0 y hy i hi')) (by rw[hδ];exact hok2) (fun p hp=>by rw[hδ,e1]at hp;cases hp) (by rw[hδ,e1];rfl);rw[hδ]at hg;refine hg next Q (fun O' m' a' w' h=>hn O' m' a' w' ?_)
    have eu: δ.upd.map (fun p=>(p.1,Xz true (Jv fet p.1) p.2))= δ.upd:=by
     conv=>rhs;rw[<- Gq δ.upd]
     refine Ej fun p hp=> ?_;rcases Aam (hm2 p hp)with ⟨h1,_⟩ | ⟨hc,e,f,l,l',h1,h2,h3⟩
     .rw[h1];rfl
     .have hcl:=AbW (C:=C) (fet:=fet) (xs:=sf.2) hc;rw[hδ]at hcl;obtain⟨e',f',h4,_⟩:=hcl p hp _ _ _ h2;rw[h1]at h4;injection h4 with h4;injection h4 with q1 q2 q3;rw[h3 true,q3,<- h2];rfl
    have ea:apply st o δ = {tmps:=put st.tmps o.dst δ.val,Jp:=JC st.Jp δ.upd}:=by unfold apply;rw[e1,e3];rfl
    rw[ea]at h;have eb: ∀ ok,apply st o {ok:=ok,val:=.cnd true δ.val,upd:= δ.upd.map (fun p=>(p.1,Xz true (Jv fet p.1) p.2))}= {tmps:=put st.tmps o.dst (.cnd true δ.val),Jp:=JC st.Jp δ.upd}:=by intro ok;unfold apply;dsimp only;rw[eu];rfl
    rw[eb];refine⟨h.defers,by have:=h.size;dsimp only at this ⊢;rw[X8]at this ⊢;exact this,fun t ht=> ?_,h.Jp,h.frame,h.own,h.ids,h.less,h.root,h.VA,h.inv⟩;have ht':t<st.tmps.length:=by have ht2:t<(put st.tmps o.dst (.cnd true δ.val)).length:=ht;rw[X8]at ht2;exact ht2
    have:=h.tmps t (by show t<(put st.tmps o.dst δ.val).length;rw[X8];exact ht');dsimp only at this ⊢;rw[Abr _ _ _ _ ht']at this;rw[Abr _ _ _ _ ht'];by_cases hd:o.dst=some t
    .rw[Dw hd]at this ⊢;exact⟨fun _=>this.Aul hv,fun h=>by(cases h)⟩
    .rw[Dt hd]at this ⊢;exact this
end
section
variable {P:Program} {C:Ctx} {V0:Nat->Value} {O0 O:Own} {w0 w:World} {m:Nat->Value} {st:St} {a:Act}
theorem Ai2 (p:Nat->Bool) (l:List (Nat×Obj)) (k:Nat):Jv (l.filter (fun q=>p q.1)) k=if p k then Jv l k else none:=by
 induction l with
 | nil=>simp [Jv]
 | cons q r ih=>grind[Ov]
theorem AoU (g:Obj->Obj) (l:List (Nat×Obj)) (k:Nat):Jv (l.map (fun q=>(q.1,g q.2))) k=(Jv l k).map g:=by
 induction l with
 | nil=>rfl
 | cons q r ih=>grind[Ov]
theorem drop_length (keep:List Nat): ∀(l:List A) (i:Nat),(drop keep l i).length=l.length:=by
 intro l
 induction l with
 | nil=>intro i;rfl
 | cons x r ih=>intro i;simp [drop,ih]
theorem Ann (keep:List Nat): ∀(l:List A) (i t:Nat),(drop keep l i).getD t .undef= .undef\/(drop keep l i).getD t .undef=l.getD t .undef:=by
 intro l
 induction l with
 | nil=>grind[drop]
 | cons x r ih =>
  intro i t;cases t with
  | zero=>grind[drop,has]
  | succ t=>simp_all[drop]
theorem Sim.dropped (hS:Sim V0 O0 w0 O m st a w) (keep Jp:List Nat):Sim V0 O0 w0 O m {tmps:=drop keep st.tmps 0,Jp:=st.Jp.filter (fun p=>has Jp p.1)} a w:=by
 have hag: ∀ o x,Jv (st.Jp.filter (fun p=>has Jp p.1)) o=some x->Jv st.Jp o=some x:=by
  intro o x h;rw[Ai2 (has Jp)]at h;split at h
  .exact h
  .cases h
 have hE:Rz st.Jp m (st.Jp.filter (fun p=>has Jp p.1)) m (fun _=>False):=fun o x h=>.inr ⟨x,hag o x h,rfl,rfl⟩;have hp:Nj O w O w:=fun _ _ _ h hc=>⟨h,hc⟩
 refine⟨hS.defers,by rw[hS.size];exact(drop_length _ _ _).symm,fun t ht=> ?_,fun o x h=> ?_,hS.frame,hS.own,fun o x h=>hS.ids o x (hag o x h),hS.less,fun o hr ho=>(by obtain⟨x,hx⟩:=Ez.1 ho;exact hS.root o hr (by rw[hag o x hx];rfl)),hS.VA,hS.inv⟩
 .have ht':t<st.tmps.length:=by
   all_goals grind[drop,drop_length]
  show J8 O _ m w _ ((drop keep st.tmps 0).getD t .undef);rcases Ann keep st.tmps 0 t with h | h
  .rw[h];trivial
  .rw[h];exact(hS.tmps t ht').step hp hE (fun _ _ h=>h)
 .exact(hS.Jp o x (hag o x h)).step (T:=fun _=>False) (Moves.refl O _ w) ⟨fun _ _ _ h=>h,fun _ _ _ _ h _=>h⟩ hE id rfl (fun _ _ h=>h)
def rho (f t o:Nat):Nat:=if o=f then t else o
theorem YW (f t o:Nat):(bif Nat.beq o f then t else o)=rho f t o:=by grind[VC,rho]
def QF (f t:Nat):A->A
 | .ptr o off=>.ptr (rho f t o) off
 | .own o=>.own (rho f t o)
 | .clo g o=>.clo g (rho f t o)
 | .bsl o n=>.bsl (rho f t o) n
 | .osl o n=>.osl (rho f t o) n
 | .Kq o i off=>.Kq (rho f t o) i off
 | c=>c
theorem Aqf (f t:Nat) (cs:List A):OI f t (.agg cs)= .agg (cs.map (QF f t)):=by show A.agg (cs.map _)=_;congr 1;refine Ej fun c _=> ?_;all_goals grind[QF,YW]
theorem AtV (f t:Nat) (c:A):(∃ cs,c= .agg cs)\/OI f t c=QF f t c:=by cases c<;>first | exact .inl ⟨_,rfl⟩ | exact .inr rfl | (right;simp only[QF,OI,YW])
structure Ren (O:Own) (Jp:List (Nat×Obj)) (m:Nat->Value) (f t:Nat) (O':Own) (objs':List (Nat×Obj)) (m':Nat->Value):Prop where
 here: ∀ x',Jv objs' t=some x'-> ∃ x,Jv Jp f=some x/\x.shp=x'.shp/\m' t=m f
 there: ∀ o x',o≠t->Jv objs' o=some x'->o≠f/\ ∃ x,Jv Jp o=some x/\x.shp=x'.shp/\m' o=m o
 own: ∀ b k,O' b k=(O b k).map (rho f t)
theorem Ren.JW {O':Own} {Jp objs':List (Nat×Obj)} {m':Nat->Value} {f t:Nat} (h:Ren O Jp m f t O' objs' m'):Nj O w O' w:=by intro b k u hn hc;exact⟨by rw[h.own,hn];rfl,hc⟩
theorem JF.ren {O':Own} {Jp objs':List (Nat×Obj)} {m':Nat->Value} {f t:Nat} (h:Ren O Jp m f t O' objs' m') {v:Value} {c:A} (hn: ∀ i∈c.Nc,i=t->f=t) (hc:JF O Jp m w v c) :
 JF O' objs' m' w v (QF f t c):=by
 have key: ∀ o,(o=t->f=t)-> ∀ x',Jv objs' (rho f t o)=some x'-> ∃ x,Jv Jp o=some x/\x.shp=x'.shp/\m' (rho f t o)=m o:=by
  intro o ho x' hx;unfold rho at hx ⊢;by_cases hf:o=f
  .rw[Dw hf]at hx ⊢;rw[hf];exact h.here x' hx
  .rw[Dt hf]at hx ⊢;exact(h.there o x' (fun e=>hf (by rw[e,ho e])) hx).2
 cases c with
 | ptr o off =>
  simp only[JF,QF]at *
  refine⟨hc.1,?_⟩;have hc:=hc.2;cases hx:Jv objs' (rho f t o)with
  | none=>simp
  | some x' =>obtain⟨x,h1,h2,h3⟩:=key o (hn o (by simp [A.Nc])) x' hx;rw[h1]at hc;simp only[Option.map_some,h2]at hc;simp only[Option.map_some,h3];exact hc
 | own o =>
  simp only[JF,QF]at *
  refine⟨hc.1,?_⟩;have hc:=hc.2;cases hx:Jv objs' (rho f t o)with
  | none=>simp
  | some x' =>obtain⟨x,h1,h2,h3⟩:=key o (hn o (by simp [A.Nc])) x' hx;rw[h1]at hc;simp only[Option.map_some,h2]at hc;simp only[Option.map_some,h3];exact hc
 | clo k o =>
  simp only[JF,QF]at *
  obtain⟨h0,p,h4,h5,hc⟩:=hc;refine⟨h0,p,h4,h5.JW h.JW,?_⟩;cases hx:Jv objs' (rho f t o)with
  | none=>simp
  | some x' =>obtain⟨x,h1,h2,h3⟩:=key o (hn o (by simp [A.Nc])) x' hx;rw[h1]at hc;simp only[Option.map_some,h2]at hc;simp only[Option.map_some,h3];exact hc
 | bsl o n =>
  simp only[JF,QF]at *
  refine⟨hc.1,?_⟩;have hc:=hc.2;cases hx:Jv objs' (rho f t o)with
  | none=>simp
  | some x' =>obtain⟨x,h1,h2,h3⟩:=key o (hn o (by simp [A.Nc])) x' hx;rw[h1]at hc;simp only[Option.map_some,h2]at hc;simp only[Option.map_some,h3];exact hc
 | osl o n =>
  simp only[JF,QF]at *
  refine⟨hc.1,?_⟩;have hc:=hc.2;cases hx:Jv objs' (rho f t o)with
  | none=>simp
  | some x' =>obtain⟨x,h1,h2,h3⟩:=key o (hn o (by simp [A.Nc])) x' hx;rw[h1]at hc;simp only[Option.map_some,h2]at hc;simp only[Option.map_some,h3];exact hc
 | Kq o i off =>
  simp only[JF,QF]at *
  refine⟨hc.1,?_⟩;have hc:=hc.2;cases hx:Jv objs' (rho f t o)with
  | none=>simp
  | some x' =>obtain⟨x,h1,h2,h3⟩:=key o (hn o (by simp [A.Nc])) x' hx;rw[h1]at hc;simp only[Option.map_some,h2]at hc;simp only[Option.map_some,h3];exact hc
 | elt cs =>obtain⟨b,off,hv,hc⟩:=hc;refine⟨b,off,hv,fun j hj=> ?_⟩;obtain⟨h1,u,h2,h3⟩:=hc j hj;obtain⟨h4,h5⟩:=h.JW _ _ _ h1 h2;exact⟨h4,u,h5,h3.JW h.JW⟩
 | fn f=>exact Jw.JW h.JW hc
 | ump _=>exact hc
 | undef=>exact hc
 | Lj=>exact hc
 | bool b=>exact Jw.JW h.JW hc
 | int k n=>exact Jw.JW h.JW hc
 | str s=>exact Jw.JW h.JW hc
 | sl l=>exact Jw.JW h.JW hc
 | sln l=>exact Jw.JW h.JW hc
 | LP=>exact Jw.JW h.JW hc
 | usl _ _ _=>exact hc
 | agg _=>exact hc
 | tup _=>exact hc
 | box _=>exact hc
 | cbx _ _=>exact hc
 | cnd _ _=>exact hc
theorem Ren.exts {O':Own} {Jp objs':List (Nat×Obj)} {m':Nat->Value} {f t:Nat} (h:Ren O Jp m f t O' objs' m'):Rz Jp m objs' m' (fun o=>o=t/\f≠t):=by
 intro o x' hx;by_cases ho:o=t
 .subst ho;by_cases hf:f=o
  .right;obtain⟨x,h1,h2,h3⟩:=h.here x' hx;rw[hf]at h1 h3;exact⟨x,h1,h2,h3⟩
  .exact .inl ⟨rfl,hf⟩
 .exact .inr (h.there o x' ho hx).2
theorem J8.ren {O':Own} {Jp objs':List (Nat×Obj)} {m':Nat->Value} {f t:Nat} (h:Ren O Jp m f t O' objs' m') {v:Value} {c:A} (hn: ∀ i∈c.ids,i=t->f=t) (hc:J8 O Jp m w v c) :
 J8 O' objs' m' w v (OI f t c):=by
 cases c with
 | agg cs =>
  rw[Aqf];obtain⟨vs,h1,h2,h3⟩:=hc;refine⟨vs,h1,by simpa using h2,fun j hj=> ?_⟩;have hj':j<cs.length:=by simpa using hj
  have e:(cs.map (QF f t)).getD j .undef=QF f t (cs.getD j .undef):=by simp [Dj,hj']
  rw[e];exact(h3 j hj').ren h (fun i hi=>hn i (TP (f:=A.Nc) hj' hi))
 | tup l=>exact J8.step h.JW h.exts (fun o ho hN=>hN.2 (hn o ho hN.1)) hc
 | cnd g c=>exact J8.step h.JW h.exts (fun o ho hN=>hN.2 (hn o ho hN.1)) hc
 | undef=>trivial
 | ptr o off =>
  have e:OI f t (.ptr o off)=QF f t (.ptr o off):=by simp only[QF,OI,YW]
  rw[e];exact JF.ren (w:=w) (m:=m) (c:=.ptr o off) h hn hc
 | own o =>
  have e:OI f t (.own o)=QF f t (.own o):=by simp only[QF,OI,YW]
  rw[e];exact JF.ren (w:=w) (m:=m) (c:=.own o) h hn hc
 | clo g o =>
  have e:OI f t (.clo g o)=QF f t (.clo g o):=by simp only[QF,OI,YW]
  rw[e];exact JF.ren (w:=w) (m:=m) (c:=.clo g o) h hn hc
 | bsl o n =>
  have e:OI f t (.bsl o n)=QF f t (.bsl o n):=by simp only[QF,OI,YW]
  rw[e];exact JF.ren (w:=w) (m:=m) (c:=.bsl o n) h hn hc
 | osl o n =>
  have e:OI f t (.osl o n)=QF f t (.osl o n):=by simp only[QF,OI,YW]
  rw[e];exact JF.ren (w:=w) (m:=m) (c:=.osl o n) h hn hc
 | Kq o i off =>
  have e:OI f t (.Kq o i off)=QF f t (.Kq o i off):=by simp only[QF,OI,YW]
  rw[e];exact JF.ren (w:=w) (m:=m) (c:=.Kq o i off) h hn hc
 | bool b=>exact JF.ren (w:=w) (m:=m) (c:=.bool b) h hn hc
 | int k n=>exact JF.ren (w:=w) (m:=m) (c:=.int k n) h hn hc
 | str s=>exact JF.ren (w:=w) (m:=m) (c:=.str s) h hn hc
 | sl l=>exact JF.ren (w:=w) (m:=m) (c:=.sl l) h hn hc
 | sln l=>exact JF.ren (w:=w) (m:=m) (c:=.sln l) h hn hc
 | Lj=>exact JF.ren (w:=w) (m:=m) (c:=.Lj) h hn hc
 | LP=>exact JF.ren (w:=w) (m:=m) (c:=.LP) h hn hc
 | elt cs=>exact JF.ren (w:=w) (m:=m) (c:=.elt cs) h hn hc
 | fn g=>exact JF.ren (w:=w) (m:=m) (c:=.fn g) h hn hc
 | ump _=>exact hc
 | usl _ _ _=>exact hc
 | box _=>exact hc
 | cbx _ _=>exact hc
theorem JF.OI {O':Own} {Jp objs':List (Nat×Obj)} {m':Nat->Value} {f t:Nat} (h:Ren O Jp m f t O' objs' m') {v:Value} {c:A} (hn: ∀ i∈c.Nc,i=t->f=t) (hc:JF O Jp m w v c) :
 JF O' objs' m' w v (Vm.OI f t c):=by
 rcases AtV f t c with ⟨cs,rfl⟩ | e
 .exact hc.elim
 .rw[e];exact hc.ren h hn
theorem KZ.ren {O':Own} {Jp objs':List (Nat×Obj)} {m':Nat->Value} {f t:Nat} (h:Ren O Jp m f t O' objs' m') {o:Nat} {x:Obj} (hm:m' (rho f t o)=m o) (hn: ∀ i∈x.ids,i=t->f=t) (hx:KZ O Jp m w o x) :
 KZ O' objs' m' w (rho f t o) (xK f t x):=by
 cases x with
 | box cs =>
  obtain⟨b,base,h1,h2⟩:=hx;refine⟨b,base,by rw[hm];exact h1,fun j hj=> ?_⟩;have hj':j<cs.length:=by simpa using hj
  obtain⟨h3,h4,u,h5,h6⟩:=h2 j hj';refine⟨by rw[h.own,h3];rfl,h4,u,h5,?_⟩;have e:(cs.map (Vm.OI f t)).getD j .undef=Vm.OI f t (cs.getD j .undef):=by simp [Dj,hj']
  rw[e];exact h6.OI h (fun i hi=>hn i (TP (f:=A.Nc) hj' hi))
 | arr e frz l =>
  obtain⟨h0,hx⟩:=hx;refine⟨h0,?_⟩;rcases hx with ⟨h1,h2,h3⟩ | ⟨h1,g,cap,cur,h2,h3,h4,h5,h6,h7,h8,h9⟩
  .exact .inl ⟨h1,h2,by rw[hm];exact h3⟩
  .refine .inr ⟨h1,g,cap,cur,by rw[hm];exact h2,h3,h4,h5,h6,fun i j hi hj=> ?_,fun k hk hge=> ?_,fun k hk=> ?_⟩
   .obtain⟨u,h10,h11⟩:=h7 i j hi hj;exact⟨u,h10,h11.JW h.JW⟩
   .rw[h.own,h8 k hk hge];rfl
   .rw[h.own,h9 k hk];cases frz<;>rfl
 | mp l =>
  obtain⟨r,es,ck,h1,h2,h3,h4,h5⟩:=(show NU O w o (m o) l from hx)
  refine(⟨r,es,ck,by rw[hm];exact h1,h2,by rw[h.own,h3];rfl,h4,fun i p hi=> ?_⟩:NU O' w (rho f t o) (m' (rho f t o)) l);obtain⟨e,k1,k2,k3⟩:=h5 i p hi;exact⟨e,k1,k2.JW h.JW,k3.JW h.JW⟩
theorem Sim.renamed (hS:Sim V0 O0 w0 O m st a w) {f t:Nat} {x:Obj} (hf:Jv st.Jp f=some x) (ht:f=t\/Qu st t) :
 ∃ O' m',Sim V0 O0 w0 O' m' {tmps:=st.tmps.map (OI f t),Jp:=(L9 (SX st.Jp f) t x).map (fun p=>(p.1,xK f t p.2))} a w:=by
 have hag: ∀ o,Jv ((L9 (SX st.Jp f) t x).map (fun p=>(p.1,xK f t p.2))) o=(if o=t then some x else if o=f then none else Jv st.Jp o).map (xK f t):=by intro o;rw[AoU,Ky,dN]
 have hshp: ∀ y,(xK f t y).shp=y.shp:=by intro y;cases y<;>rfl
 have h255:f≠255:=hS.ids f x hf
 have hR:Ren O st.Jp m f t (fun b k=>(O b k).map (rho f t)) ((L9 (SX st.Jp f) t x).map (fun p=>(p.1,xK f t p.2))) (fun o=>if o=t then m f else m o):=by
  refine⟨fun x' hx=> ?_,fun o x' ho hx=> ?_,fun _ _=>rfl⟩
  .rw[hag,Dw rfl]at hx;simp only[Option.map_some,Fh]at hx;exact⟨x,hf,by rw[<- hx,hshp],Dw rfl⟩
  .rw[hag,Dt ho]at hx;by_cases hof:o=f
   .rw[Dw hof]at hx;cases hx
   .rw[Dt hof]at hx;cases hy:Jv st.Jp o with
    | none=>rw[hy]at hx;cases hx
    | some y =>rw[hy]at hx;simp only[Option.map_some,Fh]at hx;exact⟨hof,y,rfl,by rw[<- hx,hshp],Dt ho⟩
 have hids: ∀ i∈st.ids,i=t->f=t:=by
  intro i hi he;rcases ht with h | h
  .exact h
  .exact absurd (he▸hi) h.ids
 have hmr: ∀ o,(o=t->f=t)->(fun o=>if o=t then m f else m o) (rho f t o)=m o:=by all_goals grind[rho]
 refine⟨(fun b k=>(O b k).map (rho f t)),(fun o=>if o=t then m f else m o),hS.defers,by rw[hS.size];simp,fun i hi=> ?_,fun o y hy=> ?_,hS.frame,fun b k o hb ho hne=> ?_,fun o y hy=> ?_,fun b k hb h=>hS.less b k hb (fun e=>h (by show(O b k).map _=none;rw[e];rfl)),fun o hr ho=> ?_,fun b k hb h=>by show(O b k).map (rho f t)=_;rw[hS.VA b k hb h];exact congrArg some (Dt (fun e=>h255 e.symm)),hS.inv⟩
 .have hi':i<st.tmps.length:=by simpa using hi
  have e:(st.tmps.map (OI f t)).getD i .undef=OI f t (st.tmps.getD i .undef):=by simp [Dj,hi']
  show J8 _ _ _ _ _ ((st.tmps.map (OI f t)).getD i .undef);rw[e];exact(hS.tmps i hi').ren hR (fun j hj=>hids j (bJ hi' hj))
 .have hy':=hy;dsimp only at hy;rw[hag]at hy;by_cases h1:o=t
  .rw[Dw h1]at hy;simp only[Option.map_some,Fh]at hy;subst hy;have:=(hS.Jp f x hf).ren hR (hmr f (fun e=>e)) (fun i hi=>hids i (Xy hf hi));have e:rho f t f=t:=Dw rfl;rw[e]at this;rw[h1];exact this
  .rw[Dt h1]at hy;by_cases h2:o=f
   .rw[Dw h2]at hy;cases hy
   .rw[Dt h2]at hy;cases hz:Jv st.Jp o with
    | none=>rw[hz]at hy;cases hy
    | some z =>rw[hz]at hy;simp only[Option.map_some,Fh]at hy;subst hy;have:=(hS.Jp o z hz).ren hR (hmr o (fun e=>absurd e h1)) (fun i hi=>hids i (Xy hz hi));have e:rho f t o=o:=Dt h2;rw[e]at this;exact this
 .cases hq:O b k with
  | none =>have:(O b k).map (rho f t)=some o:=ho;rw[hq]at this;cases this
  | some o1 =>have:(O b k).map (rho f t)=some o:=ho;rw[hq]at this;simp only[Option.map_some,Fh]at this;refine hS.own b k o1 hb hq (fun e=>hne ?_);rw[<- this,e];exact Dt (fun e=>h255 e.symm)
 .dsimp only at hy;rw[hag]at hy;by_cases h1:o=t
  .rw[h1];rcases ht with h | h
   .rw[<- h];exact h255
   .exact h.ne
  .rw[Dt h1]at hy;by_cases h2:o=f
   .rw[h2];exact h255
   .rw[Dt h2]at hy;cases hz:Jv st.Jp o with
    | none=>rw[hz]at hy;cases hy
    | some z=>exact hS.ids o z hz
 .dsimp only at ho ⊢;rw[hag]at ho;by_cases h1:o=t
  .rw[Dw h1];rcases ht with h | h
   .rw[h1,<- h];exact hS.root f (by rw[h,<- h1];exact hr) (by rw[hf];rfl)
   .rw[h1,h.root]at hr;cases hr
  .rw[Dt h1]at ho ⊢;by_cases h2:o=f
   .rw[Dw h2]at ho;cases ho
   .rw[Dt h2]at ho;refine hS.root o hr ?_;cases hz:Jv st.Jp o with
    | none=>rw[hz]at ho;cases ho
    | some z=>rfl
theorem Amb: ∀(l:List (Nat×Nat)) {O:Own} {m:Nat->Value} {st:St},Sim V0 O0 w0 O m st a w->(xM st l).1=true-> ∃ O' m',Sim V0 O0 w0 O' m' (xM st l).2 a w:=by
 intro l
 induction l with
 | nil=>intro O m st hS _;exact⟨O,m,hS⟩
 | cons p r ih =>
  intro O m st hS h;obtain⟨f,t⟩:=p;simp only[xM]at h ⊢;cases hx:Jv st.Jp f with
  | none=>rw[hx]at h;exact ih hS h
  | some x =>
   rw[hx]at h;dsimp only at h ⊢;rw[Dq,VC]at h
   obtain⟨O1,m1,hS1⟩:=hS.renamed (t:=t) hx (by
    by_cases hft:f=t
    .exact .inl hft
    .have h1:=h.1;rw[show decide (f=t)=false by simpa using hft]at h1;exact .inr (Nl h1))
   exact ih hS1 h.2
theorem Alb: ∀(l:List Nat) {O:Own} {st:St},Sim V0 O0 w0 O m st a w-> ∃ O',Sim V0 O0 w0 O' m {st with Jp:=Ahf st.Jp l} a w:=by
 intro l
 induction l with
 | nil=>intro O st hS;exact⟨O,hS⟩
 | cons n r ih =>
  intro O st hS;simp only[Ahf];cases hx:Jv st.Jp n with
  | none=>exact ih hS
  | some x =>
   cases x with
   | mp _=>exact ih hS
   | box cs=>exact ih hS
   | arr e f l =>obtain⟨O1,hS1,_⟩:=hS.kP hx;exact ih hS1
theorem oV {t:Nat} {v:Value} (hs:a.tmps.getD t undef=v) (hlt:t<a.tmps.size):a.put (some t) v=a:=by
 have:a.tmps.setIfInBounds t v=a.tmps:=by apply Array.ext_getElem?;intro i;rw[EX];by_cases hi:t=i;all_goals simp_all[getD_eq,hs]
 simp only[Act.put,this]
theorem AnE {x:A} (h:kS x=true):x= .Lj:=by cases x<;>first | rfl | cases h
theorem Amj {id:Nat}: ∀(ts:List Nat) {O:Own} {m:Nat->Value} {st:St},Sim V0 O0 w0 O m st a w->(∀ t∈ts,t<st.tmps.length)->(∀ t∈ts,JF O st.Jp m w (a.tmps.getD t undef) (.own id)) ->
 Sim V0 O0 w0 O m {st with tmps:=xP id ts st.tmps} a w:=by
 intro ts
 induction ts with
 | nil=>intro O m st hS _ _;exact hS
 | cons t r ih =>intro O m st hS hl hc;have hlt:=hl t Du;have h1:=hS.put (some t) (x:=.own id) (v:=a.tmps.getD t undef) ((hc t Du).toT);rw[oV rfl (by rw[hS.size];exact hlt)]at h1;exact ih (st:= {st with tmps:=st.tmps.set t (.own id)}) h1 (fun q hq=>by simpa using hl q (Dy _ hq)) (fun q hq=>hc q (Dy _ hq))
theorem AlV: ∀(l:List (List Nat×Nat×Ty×Nat)) {O:Own} {m:Nat->Value} {st:St},Sim V0 O0 w0 O m st a w->(owns l st).1=true-> ∃ O' m',Sim V0 O0 w0 O' m' (owns l st).2 a w:=by
 intro l
 induction l with
 | nil=>intro O m st hS _;exact⟨O,m,hS⟩
 | cons p r ih =>
  intro O m st hS h;obtain⟨ts,e,ty,id⟩:=p;unfold owns at h ⊢;cases hany:ts.any (fun t=>kS (st.tmps.getD t .undef))with
  | false=>rw[hany]at h;exact ih hS h
  | true =>
   rw[hany]at h;simp only[cond_true]at h ⊢;rw[Dq,Dq]at h;obtain⟨⟨h1,h2⟩,h3⟩:=h;have hall: ∀ t∈ts,st.tmps.getD t .undef= .Lj/\t<st.tmps.length:=by all_goals grind[AnE]
   have hval: ∀ t∈ts,a.tmps.getD t undef= .slice none 0 0:=by intro t ht;have hv:=hS.tmps t (hall t ht).2;rw[(hall t ht).1]at hv;exact hv
   cases ts with
   | nil=>cases hany
   | cons t ts =>
    have hlt:=(hall t Du).2;obtain⟨O',m',hS'⟩:=oG hS (d:=t) (e:=e) (t:=ty) (frz:=false) (del:=[]) (Nl h2);rw[oV (hval t Du) (by rw[hS.size];exact hlt)]at hS';have hslot:=hS'.tmps t (by simpa using hlt);have e0:(st.tmps.set t (.own id)).getD t .undef= .own id:=by simp [Dj,hlt]
    rw[e0,hval t Du]at hslot;have hfin:=Amj (a:=a) ts hS' (fun q hq=>by simpa using (hall q (Dy _ hq)).2) (fun q hq=>by rw[hval q (Dy _ hq)];exact hslot);exact ih hfin h3
theorem Aov: ∀(l:List (Option Nat×Nat×Ty)) {O:Own} {st:St},Sim V0 O0 w0 O m st a w-> ∃ O',Sim V0 O0 w0 O' m (pzs l st) a w:=by
 intro l
 induction l with
 | nil=>intro O st hS;exact⟨O,hS⟩
 | cons p r ih =>
  intro O st hS;obtain⟨b,j,ty⟩:=p;cases b with
  | none =>
   unfold pzs;cases hx:st.tmps.getD j .undef with
   | Lj =>
    dsimp only
    have hlt:j<st.tmps.length:=by
     rcases Ec j st.tmps.length with h | h
     .exact h
     .rw[Dj,DZ h]at hx;cases hx
    have hc:=hS.tmps j hlt;rw[hx]at hc;have hc:a.tmps.getD j undef= .slice none 0 0:=hc;have h2:=hS.put (some j) (x:=.sl ⟨ty,[]⟩) (v:=a.tmps.getD j undef) (by rw[hc];exact Jw.nil ty);rw[oV rfl (by rw[hS.size];exact hlt)]at h2;exact ih h2
   | own o =>
    dsimp only;cases ho:Jv st.Jp o with
    | none=>exact ih hS
    | some y =>
     cases y with
     | box _=>exact ih hS
     | mp _=>exact ih hS
     | arr e f l =>
      dsimp only;obtain⟨O1,hS1,hp1,_,hv1,_⟩:=hS.kP ho
      have hlt:j<st.tmps.length:=by
       rcases Ec j st.tmps.length with h | h
       .exact h
       .rw[Dj,DZ h]at hx;cases hx
      have hc:=hS.tmps j hlt;rw[hx]at hc;have hc:JF O st.Jp m w (a.tmps.getD j undef) (.own o):=hc;have hc2:=hc.2;rw[ho]at hc2;have hm:a.tmps.getD j undef=m o:=hc2;have h2:=hS1.put (some j) (x:=.sl l) (v:=a.tmps.getD j undef) (by rw[hm];exact hv1);rw[oV rfl (by rw[hS.size];exact hlt)]at h2;exact ih h2
   | _=>exact ih hS
  | some b =>
   unfold pzs;cases hb:Jv st.Jp b with
   | none=>exact ih hS
   | some y =>
    cases y with
    | arr _ _ _=>exact ih hS
    | mp _=>exact ih hS
    | box cs =>
     dsimp only;cases hx:cs.getD j .undef with
     | own o =>
      dsimp only;cases ho:Jv st.Jp o with
      | none=>exact ih hS
      | some y =>
       cases y with
       | box _=>exact ih hS
       | mp _=>exact ih hS
       | arr e f l =>
        dsimp only;obtain⟨O1,hS1,hp1,_,hv1,_⟩:=hS.kP ho;have hbo:b≠o:=fun h=>by rw[h,ho]at hb;cases hb
        have hb1:Jv (L9 st.Jp o (.arr e true l)) b=some (.box cs):=by rw[Ky,Dt hbo];exact hb
        have ho1:Jv (L9 st.Jp o (.arr e true l)) o=some (.arr e true l):=by rw[Ky,Dw rfl]
        have hjl:j<cs.length:=by
         rcases Ec j cs.length with h | h
         .exact h
         .rw[Dj,DZ h]at hx;cases hx
        have hE:Rz (L9 st.Jp o (.arr e true l)) m (L9 (L9 st.Jp o (.arr e true l)) b (.box (cs.set j (.sl l)))) m (fun _=>False):=by
         intro q z hz;rw[Ky]at hz;by_cases hq:q=b
         .rw[Dw hq]at hz;injection hz with hz;subst hz;exact .inr ⟨.box cs,by rw[hq];exact hb1,rfl,rfl⟩
         .rw[Dt hq]at hz;exact .inr ⟨z,hz,rfl,rfl⟩
        have h2:=hS1.next (st':= {st with Jp:=L9 (L9 st.Jp o (.arr e true l)) b (.box (cs.set j (.sl l)))}) (d:=none) (v:=undef) (x:=.undef) (T:=fun _=>False) (Nw:=fun _=>False) (Moves.refl O1 _ w) ⟨fun _ _ _ h=>h,fun _ _ _ _ h _=>h⟩ (fun _ _ _ h=>h) hE (fun _ h=>h.elim) (fun _ h=>h.elim)
         (fun q z hz=>by
           rw[Ky]at hz;by_cases hq:q=b
           .rw[Dw hq]at hz;injection hz with hz;subst hz;right;obtain⟨bk,base,g1,g2⟩:=hS1.Jp b _ hb1;rw[hq];refine⟨⟨bk,base,g1,fun i hi=> ?_⟩,hS.ids b _ hb⟩;rw[F7]at hi;obtain⟨k1,k2,u,k3,k4⟩:=g2 i hi;refine⟨k1,k2,u,k3,?_⟩;by_cases hij:j=i
            .subst hij;have e1:(cs.set j (.sl l)).getD j .undef= .sl l:=by simp [Dj,hjl]
             rw[e1];rw[hx]at k4;have k5:=k4.2;rw[ho1]at k5;have hm:u=m o:=k5;rw[hm];exact hv1
            .have e1:(cs.set j (.sl l)).getD i .undef=cs.getD i .undef:=by
              simp only[Dj,FC];rw[Dt hij]
             rw[e1];exact k4.step (fun _ _ _ h hc=>⟨h,hc⟩) hE (fun _ _ h=>h)
           .rw[Dt hq]at hz;exact .inl ⟨fun h=>h,hz,rfl⟩) rfl (fun h=>absurd rfl h)
        exact ih h2
     | _=>exact ih hS
theorem AlF (hS:Sim V0 O0 w0 O m st a w) {key:Nat} (h:(norm C key st).1=true): ∃ O' m',Sim V0 O0 w0 O' m' (norm C key st).2 a w:=by
 unfold norm at h ⊢;cases hn:C.nrm key with
 | none=>exact⟨O,m,hS⟩
 | some n =>rw[hn]at h;dsimp only at h ⊢;rw[Dq]at h;obtain⟨O4,hS4⟩:=Aov n.pz hS;obtain⟨O1,m1,hS1⟩:=Amb n.ren (hS4.dropped n.keep (reached (drop n.keep (pzs n.pz st).tmps 0) (pzs n.pz st).Jp)) h.1;obtain⟨O3,m3,hS3⟩:=AlV n.nw hS1 h.2;obtain⟨O2,hS2⟩:=Alb n.frz hS3;exact⟨O2,m3,hS2⟩
theorem wE {ρ :Type} (hS:Sim V0 O0 w0 O m st a w) {key:Nat} {K:St->Option ρ} {r: ρ} (h:Ue C key st K=some r): ∃ O' m' st',Sim V0 O0 w0 O' m' st' a w/\K st'=some r:=by
 unfold Ue at h;cases hn:(norm C key st).1 with
 | false =>have h':(bif (norm C key st).1 then K (norm C key st).2 else none)=some r:=h;rw[hn]at h';cases h'
 | true =>have h':(bif (norm C key st).1 then K (norm C key st).2 else none)=some r:=h;rw[hn]at h';obtain⟨O1,m1,hS1⟩:=AlF hS hn;exact⟨O1,m1,_,hS1,h'⟩
theorem oD {ρ :Type} (hS:Sim V0 O0 w0 O m st a w) {kind:Nat} {c:Code} {K:St->Option ρ} {r: ρ} (h:meet C kind c st K=some r): ∃ O' m' st',Sim V0 O0 w0 O' m' st' a w/\K st'=some r:=by
 unfold meet at h;cases hn:MJ c with
 | none=>rw[hn]at h;exact⟨O,m,st,hS,h⟩
 | some n=>rw[hn]at h;exact wE hS h
end
end Go.Proofs.YtbgjmioccbacdaaGreatDoor.Vm
