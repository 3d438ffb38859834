import Derived.Test.YtacidcemomccpaaGreatDoorA5
set_option linter.all false
namespace Go.Proofs.YtacidcemomccpaaGreatDoor.Vm
open Classical
structure MX (P:Program) (C:Ctx):Prop where
 T:TOk P C
 G: ∀ f sg,C.G f=some sg->Spec P f sg
 alt: ∀ f q,C.alt f=some q->Spec P f q.1/\Spec P f q.2.1
 dyn: ∀ t F,C.dyn t=some F->(∀ xs,(F 0).ok xs=false)/\ ∀ f xs,(F (f+1)).ok xs=true->Spec P f (F (f+1))
 each: ∀ e fs sg,C.each e fs=some sg->pF P e fs sg
 Aem: ∀ f i sg,C.Aem f=some (i,sg)->Spec P f sg
def Art {P:Program} {C:Ctx} (h:MX P C) {f:Nat} {xs:List A} {sg:Sig} (hs:Aco C f xs=some sg):Spec P f sg:=by
 unfold Aco at hs;cases hz:C.Aem f with
 | none=>rw[hz]at hs;exact h.G f sg hs
 | some q =>
  obtain⟨i,s⟩:=q;rw[hz]at hs;dsimp only at hs;cases hb:AsO (xs.getD i .undef)with
  | false=>rw[hb]at hs;exact h.G f sg hs
  | true =>rw[hb]at hs;injection hs with hs;rw[<- hs];exact h.Aem f i s hz
theorem MX.put {P:Program} {C:Ctx} (h:MX P C) {f:Nat} {s:Sig} (hs:Spec P f s):MX P (C.put f s) :=
 ⟨h.T,λk sg hk=>by
   have hk':(bif Nat.beq f k then some s else C.G k)=some sg:=hk;cases hb:Nat.beq f k with
   | true=>rw[hb]at hk';injection hk' with e;rw[<- e,<- Dx hb];exact hs
   | false=>rw[hb]at hk';exact h.G k sg hk',h.alt,h.dyn,h.each,h.Aem⟩
def AxK {a b:A} (h:eqC a b=true):a=b:=by
 unfold eqC at h;split at h
 .rw[Gu h]
 .rw[Dw]at h;rw[A.Rf h.1,Gu h.2]
 .rw[Gu h]
 .cases h
def Aq3 {fet:Fet} {x:A} {j:Nat} {δ :Dl} (h:J6 (Uw fet x j δ).ok):J6 δ.ok/\(Uw fet x j δ).val= δ.val/\(Uw fet x j δ).new= δ.new/\(Uw fet x j δ).upd= δ.upd/\(Uw fet x j δ).del= δ.del:=by
 unfold Uw at *
 cases x with
 | ptr q off =>
  dsimp only at h ⊢;cases hb:L8 fet q with
  | none=>rw[hb]at h;exact⟨h,rfl,rfl,rfl,rfl⟩
  | some cs =>
   rw[hb]at h;dsimp only at h ⊢;cases hc:Nat.blt j cs.length&& δ.upd.all (λp=> !(Nat.beq p.1 q)||AfB cs.length p.2)with
   | false=>rw[hc]at h;exact⟨h,rfl,rfl,rfl,rfl⟩
   | true =>
    rw[hc]at h;obtain⟨h1,h2⟩:=(show J6 (δ.ok++_)from h).append;refine⟨h1,rfl,rfl,?_,rfl⟩;show δ.upd.map _= δ.upd
    conv=>rhs;rw[<- Gf δ.upd]
    refine Eu λp hp=> ?_;have h3:=h2 _ (DK.2 ⟨p,hp,rfl⟩);cases hq:Nat.beq p.1 q with
    | false=>rfl
    | true =>
     rw[hq]at h3;have h3:eqU j (cs.getD j .undef) p.2=true:=h3;obtain⟨n,y⟩:=p;cases y with
     | box ds =>
      have h4:=AxK (show eqC (ds.getD j .undef) (cs.getD j .undef)=true from h3);show(n,Obj.box (ds.set j (cs.getD j .undef)))=(n,Obj.box ds);rw[<- h4];congr 2;apply List.ext_getElem?;intro i;rw[Gj];by_cases hij:j=i
      .subst hij;rw[Du rfl];by_cases hl:j<ds.length
       .simp [hl,Dn]
       .simp [hl]
      .rw[Dt hij]
     | _=>cases h3
 | _=>exact⟨h,rfl,rfl,rfl,rfl⟩
def Aq5 {fet:Fet} {xs:List A}: ∀(ks:List (Nat×Nat)) {δ :Dl},J6 (keepD fet xs ks δ).ok->J6 δ.ok/\(keepD fet xs ks δ).val= δ.val/\(keepD fet xs ks δ).new= δ.new/\(keepD fet xs ks δ).upd= δ.upd/\(keepD fet xs ks δ).del= δ.del:=by
 intro ks
 induction ks with
 | nil=>intro δ h;exact⟨h,rfl,rfl,rfl,rfl⟩
 | cons k ks ih =>intro δ h;obtain⟨i,j⟩:=k;obtain⟨h1,h2,h3,h4,h5⟩:=ih (δ :=Uw fet (xs.getD i .undef) j δ) h;obtain⟨g1,g2,g3,g4,g5⟩:=Aq3 h1;exact⟨g1,h2.trans g2,h3.trans g3,h4.trans g4,h5.trans g5⟩
def MX.decide {P:Program} {C:Ctx} (h:MX P C) (ds:List Nat) (b:Bool):MX P (C.decide ds b):=⟨h.T,h.G,h.alt,h.dyn,h.each,h.Aem⟩
section
variable {P:Program} {C:Ctx} {V0:Nat->Value} {O0 O:Own} {w0 w:World} {m:Nat->Value} {st:St} {a:Act} {o:Oper}
def len1 {xs:List A} (h:xs.length=1): ∃ x,xs=[x]:=Hf.1 h
def AdY {xs:List A} (h:xs.length=2): ∃ x y,xs=[x,y]:=by
 match xs,h with
 | [x,y],_=>exact⟨x,y,rfl⟩
def AxS {xs:List A} (h:xs.length=3): ∃ x y z,xs=[x,y,z]:=by
 match xs,h with
 | [x,y,z],_=>exact⟨x,y,z,rfl⟩
def AfP {δ :Dl} (h:J6 δ.ok) (e: δ = .no):False:=by rw[e]at h;exact JJ h
def gU {t:Nat} {x:Operand} {lo hi:Option Operand} (hC:TOk P C) (hS:Sim V0 O0 w0 O m st a w) (ho:o.op= .slice t x lo hi none) {fet:Fet} (hf:P8 st.Jr fet) {x':A} {lo' hi':Option A} (hx:JC O st.Jr m w (a.eval x) x')
 (hlo:ORl O st.Jr m w (lo.map a.eval) lo') (hhi:ORl O st.Jr m w (hi.map a.eval) hi') (hok:J6 (MQ C fet t x' lo' hi').ok):Good P V0 O0 w0 (apply st o (MQ C fet t x' lo' hi')) o a w:=by
 cases x' with
 | str s=>exact(At8 hC ho rfl hx hlo hhi hok).good hS
 | sl l=>exact(AvA hC ho rfl hx hlo hhi hok).good hS
 | own q=>grind[Aki]
 | _=>grind[MQ,KF,JJ]
def AvR {k:A->Dl} {v:List A} (h:J6 (a1 k v).ok): ∃ x,v=[x]:=by
 match v,h with
 | [x],_=>exact⟨x,rfl⟩
 | [],h=>exact(JJ h).elim
 | _::_::_,h=>exact(JJ h).elim
def Akr {k:A->A->Dl} {v:List A} (h:J6 (a2 k v).ok): ∃ x y,v=[x,y]:=by
 match v,h with
 | [x,y],_=>exact⟨x,y,rfl⟩
 | [],h=>exact(JJ h).elim
 | [_],h=>exact(JJ h).elim
 | _::_::_::_,h=>exact(JJ h).elim
set_option maxHeartbeats 1000000 in
def Amo (hCx:MX P C) (hS:Sim V0 O0 w0 O m st a w) {fet:Fet} (hf:P8 st.Jr fet) {xs:List A} (hl:xs.length=o.op.operands.size) (hx: ∀ j,j<xs.length->JC O st.Jr m w (a.eval (o.op.operands.getD j (.tmp 0))) (xs.getD j .undef))
 (hids: ∀ x∈xs,∀ i∈x.ids,i∈st.ids\/(J3 st.Jr i).isSome)
 (hok:J6 (opX C o xs fet).ok) (hfr: ∀ p∈(opX C o xs fet).new,st.fresh p.1=true) (hnd:nodup ((opX C o xs fet).new.map (·.1))=true):Good P V0 O0 w0 (apply st o (opX C o xs fet)) o a w:=by
 have hC:=hCx.T;have hF:FOk O st.Jr m w fet:=λq x h=>⟨hf q x h,hS.Jr q x (hf q x h)⟩
 obtain⟨dst,op,ty,pos,after,guard⟩:=o;cases op with
 | move x =>obtain⟨x',rfl⟩:=len1 hl;exact(AiC (o:=⟨dst,.move x,ty,pos,after,guard⟩) (.inl rfl) (hx 0 (by simp))).good hS
 | assign x =>obtain⟨x',rfl⟩:=len1 hl;exact(AiC (o:=⟨dst,.assign x,ty,pos,after,guard⟩) (.inr rfl) (hx 0 (by simp))).good hS
 | pick c x y =>obtain⟨c',x',y',rfl⟩:=AxS hl;exact(Atu rfl (hx 0 (by simp)) (hx 1 (by simp)) (hx 2 (by simp)) hok).good hS
 | alloc t =>obtain rfl:xs=[]:=FU hl;obtain⟨d,hd,he⟩:=JU (show J6 (KA dst λd=>aS C d t).ok from hok);have e1:opX C ⟨dst,.alloc t,ty,pos,after,guard⟩ [] fet=aS C d t:=he;rw[e1]at hok hfr hnd ⊢;exact Ant hC hS hd rfl hok hfr hnd
 | box t x =>obtain⟨x',rfl⟩:=len1 hl;obtain⟨d,hd,he⟩:=JU (show J6 (KA dst λd=>zM C d t x').ok from hok);have e1:opX C ⟨dst,.box t x,ty,pos,after,guard⟩ [x'] fet=zM C d t x':=he;rw[e1]at hok hfr hnd ⊢;exact Asd hC hS hd rfl (hx 0 (by simp)) (hids x' (by simp)) hok hfr hnd
 | build t ps =>
  have hps:xs.length=ps.size:=by rw[hl];simp [Op.operands]
  have e1:opX C ⟨dst,.build t ps,ty,pos,after,guard⟩ xs fet=zO C t ((ps.toList.map (fun(p:Nat×Operand)=>p.1)).zip xs):=rfl;rw[e1]at hok ⊢;refine(ApH (o:=⟨dst,.build t ps,ty,pos,after,guard⟩) (ps:=ps) (xs:=(ps.toList.map (fun(p:Nat×Operand)=>p.1)).zip xs) hC rfl (by simp [hps]) (λj x p hxj hpj=> ?_) hok).good hS;have hj:j<ps.size:=(DX.1 hpj).1;have hjx:j<xs.length:=by omega
  rw[Ij]at hxj;obtain⟨h1,h2⟩:=hxj;have:=hx j hjx;have e1:(Op.build t ps).operands.getD j (.tmp 0)=p.2:=by simp only[Op.operands];rw[Dv];simp [hpj]
  have e2:xs.getD j .undef=x.2:=by rw[Dn,h2];rfl
  refine⟨?_,?_⟩
  .simp [hpj]at h1;exact h1
  .rw[<- e1,<- e2];exact this
 | buildSlice t n ps =>
  obtain⟨d,hd,he⟩:=JU (show J6 (KA dst λd=>bif Af2 ((ps.toList.map (·.1)).zip xs)then zN C d t n ((ps.toList.map (·.1)).zip xs)else SS C fet d t n ((ps.toList.map (·.1)).zip xs)).ok from hok);have e1:opX C ⟨dst,.buildSlice t n ps,ty,pos,after,guard⟩ xs fet=bif Af2 ((ps.toList.map (·.1)).zip xs)then zN C d t n ((ps.toList.map (·.1)).zip xs)else SS C fet d t n ((ps.toList.map (·.1)).zip xs):=he;rw[e1]at hok hfr hnd ⊢;have hps:xs.length=ps.size:=by rw[hl];simp [Op.operands]
  have hz:((ps.toList.map (·.1)).zip xs).length=ps.size:=by simp [hps]
  have hxz: ∀(j:Nat) (x:Nat×A) (p:Nat×Operand),((ps.toList.map (·.1)).zip xs)[j]? =some x->ps[j]? =some p->p.1=x.1/\JC O st.Jr m w (a.eval p.2) x.2:=by
   intro j x p hxj hpj;have hj:j<ps.size:=(DX.1 hpj).1;have hjx:j<xs.length:=by omega
   rw[Ij]at hxj;obtain⟨h1,h2⟩:=hxj;have:=hx j hjx;have e1:(Op.buildSlice t n ps).operands.getD j (.tmp 0)=p.2:=by simp only[Op.operands];rw[Dv];simp [hpj]
   have e2:xs.getD j .undef=x.2:=by rw[Dn,h2];rfl
   refine⟨?_,?_⟩
   .simp [hpj]at h1;exact h1
   .rw[<- e1,<- e2];exact this
  cases hp:Af2 ((ps.toList.map (·.1)).zip xs)with
  | false =>rw[hp]at hok hfr;exact AeQ (o:=⟨dst,.buildSlice t n ps,ty,pos,after,guard⟩) (ps:=ps) hC hS hd rfl hf hz hxz hok hfr
  | true =>rw[hp]at hok hfr hnd;exact Au1 (o:=⟨dst,.buildSlice t n ps,ty,pos,after,guard⟩) (ps:=ps) hC hS hd rfl hz hxz (λx hx'=>hids x.2 (List.of_mem_zip hx').2) hok hfr hnd
 | load t x =>obtain⟨x',rfl⟩:=len1 hl;exact(Aa7 hC hF rfl (hx 0 (by simp)) hok).good hS
 | store t x y =>
  obtain⟨x',y',rfl⟩:=AdY hl;cases dst with
  | some d=>exact(JJ hok).elim
  | none =>
   have e1:opX C ⟨none,.store t x y,ty,pos,after,guard⟩ [x',y'] fet=VW C fet t x' y':=rfl;rw[e1]at hok hfr hnd ⊢;cases x' with
   | ptr q off=>exact Akj hC hS rfl rfl hf (hx 0 (by simp)) (hx 1 (by simp)) (hids y' (by simp)) hok hfr hnd
   | Ku q i off=>exact Akk hC hS rfl rfl hf (hx 0 (by simp)) (hx 1 (by simp)) hok
   | _ =>exfalso;unfold VW at hok;obtain⟨ti,ht,he⟩:=KF hok;rw[he]at hok;exact JJ hok
 | nilCheck x =>obtain⟨x',rfl⟩:=len1 hl;exact(Aj4 hF rfl (hx 0 (by simp)) hok).good hS
 | binOp op t x y t' =>obtain⟨x',y',rfl⟩:=AdY hl;exact(Aux hC hF rfl (hx 0 (by simp)) (hx 1 (by simp)) hok).good hS
 | unOp op t x =>obtain⟨x',rfl⟩:=len1 hl;exact(Axv rfl (hx 0 (by simp)) hok).good hS
 | convert s t x =>obtain⟨x',rfl⟩:=len1 hl;exact Asq (o:=⟨dst,.convert s t x,ty,pos,after,guard⟩) hC hS rfl hf (hx 0 (by simp)) hok hfr
 | makeSlice t l c =>obtain⟨l',c',rfl⟩:=AdY hl;obtain⟨d,hd,he⟩:=JU (show J6 (KA dst λd=>vI C d t l' c').ok from hok);have e1:opX C ⟨dst,.makeSlice t l c,ty,pos,after,guard⟩ [l',c'] fet=vI C d t l' c':=he;rw[e1]at hok hfr ⊢;exact Atb hC hS hd rfl (hx 0 (by simp)) (hx 1 (by simp)) hok hfr
 | slice t x lo hi mx =>
  have hok':J6 (slX C dst fet t lo hi mx xs).ok:=hok;show Good P V0 O0 w0 (apply st _ (slX C dst fet t lo hi mx xs)) _ a w;cases mx with
  | some _=>exfalso;cases lo<;>cases hi<;>exact JJ hok'
  | none =>
   cases lo with
   | none =>
    cases hi with
    | none =>obtain⟨x',rfl⟩:=len1 (by simpa [Op.operands]using hl);exact gU (o:=⟨dst,.slice t x none none none,ty,pos,after,guard⟩) (lo:=none) (hi:=none) (lo':=none) (hi':=none) hC hS rfl hf (hx 0 (by simp)) trivial trivial hok'
    | some h =>
     obtain⟨x',h',rfl⟩:=AdY (by simpa [Op.operands]using hl)
     have plain:J6 (MQ C fet t x' none (some h')).ok->Good P V0 O0 w0 (apply st ⟨dst,.slice t x none (some h) none,ty,pos,after,guard⟩ (MQ C fet t x' none (some h'))) ⟨dst,.slice t x none (some h) none,ty,pos,after,guard⟩ a w:=λhok'' =>
      gU (o:=⟨dst,.slice t x none (some h) none,ty,pos,after,guard⟩) (lo:=none) (hi:=some h) (lo':=none) (hi':=some h') hC hS rfl hf (hx 0 (by simp)) trivial (hx 1 (by simp)) hok''
     cases dst with
     | none=>exact plain hok'
     | some d =>
      have hfr': ∀ p∈(slX C (some d) fet t none (some h) none [x',h']).new,st.fresh p.1=true:=hfr;have e1:slX C (some d) fet t none (some h) none [x',h']=bif has C.cuts d then Aah C fet d t x' h' else MQ C fet t x' none (some h'):=rfl;rw[e1]at hok' hfr' ⊢;cases hc:has C.cuts d with
      | false=>rw[hc]at hok';exact plain hok'
      | true =>rw[hc]at hok' hfr';exact Au8 (o:=⟨some d,.slice t x none (some h) none,ty,pos,after,guard⟩) hC hS rfl rfl hf (hx 0 (by simp)) (hx 1 (by simp)) hok' hfr'
   | some l =>
    cases hi with
    | none =>
     obtain⟨x',l',rfl⟩:=AdY (by simpa [Op.operands]using hl)
     have plain:J6 (MQ C fet t x' (some l') none).ok->Good P V0 O0 w0 (apply st ⟨dst,.slice t x (some l) none none,ty,pos,after,guard⟩ (MQ C fet t x' (some l') none)) ⟨dst,.slice t x (some l) none none,ty,pos,after,guard⟩ a w:=λhok'' =>
      gU (o:=⟨dst,.slice t x (some l) none none,ty,pos,after,guard⟩) (lo:=some l) (hi:=none) (lo':=some l') (hi':=none) hC hS rfl hf (hx 0 (by simp)) (hx 1 (by simp)) trivial hok''
     cases dst with
     | none=>exact plain hok'
     | some d =>
      have e1:slX C (some d) fet t (some l) none none [x',l']=bif has C.cuts d then xC C fet t x' l' else MQ C fet t x' (some l') none:=rfl;rw[e1]at hok' ⊢;cases hc:has C.cuts d with
      | false=>rw[hc]at hok';exact plain hok'
      | true =>rw[hc]at hok';exact(AtJ (o:=⟨some d,.slice t x (some l) none none,ty,pos,after,guard⟩) hC hF rfl (hx 0 (by simp)) (hx 1 (by simp)) hok').good hS
    | some h =>obtain⟨x',l',h',rfl⟩:=AxS (by simpa [Op.operands]using hl);exact gU (o:=⟨dst,.slice t x (some l) (some h) none,ty,pos,after,guard⟩) (lo:=some l) (hi:=some h) (lo':=some l') (hi':=some h') hC hS rfl hf (hx 0 (by simp)) (hx 1 (by simp)) (hx 2 (by simp)) hok'
 | fieldAddr t x f =>obtain⟨x',rfl⟩:=len1 hl;exact(Ahd hC hF rfl (hx 0 (by simp)) hok).good hS
 | field t x f =>obtain⟨x',rfl⟩:=len1 hl;exact(Aqh hC rfl (hx 0 (by simp)) hok).good hS
 | indexAddr t x i =>obtain⟨x',i',rfl⟩:=AdY hl;exact(Ahn hC hF rfl (hx 0 (by simp)) (hx 1 (by simp)) hok).good hS
 | index t x i =>obtain⟨x',i',rfl⟩:=AdY hl;exact(Aqz hC rfl (hx 0 (by simp)) (hx 1 (by simp)) hok).good hS
 | extract x i =>obtain⟨x',rfl⟩:=len1 hl;exact(Alz rfl (hx 0 (by simp)) hok).good hS
 | makeFunc fn fi cap =>
  cases fn with
  | func f =>
   have e1:opX C ⟨dst,.makeFunc (.func f) fi cap,ty,pos,after,guard⟩ xs fet=bif fi.isEmpty then a1 (AgN fet f) xs else .no:=rfl;rw[e1]at hok ⊢;cases hfi:fi.isEmpty with
   | false=>rw[hfi]at hok;exact(JJ hok).elim
   | true =>
    rw[hfi]at hok;obtain⟨x',rfl⟩:=AvR (show J6 (a1 (AgN fet f) xs).ok from hok);have hfi':fi= #[]:=by simpa using hfi
    subst hfi'
    have hcap: ∃ x,cap= #[x]:=by
     have:cap.size=1:=by simpa [Op.operands]using hl.symm
     exact⟨cap[0],by apply FC (by simp [this]);intro i h1 h2;have:i=0:=by omega
                     subst this;rfl⟩
    obtain⟨x,rfl⟩:=hcap;exact Au5 (o:=⟨dst,.makeFunc (.func f) #[] #[x],ty,pos,after,guard⟩) hS rfl hf (hx 0 (by simp)) hok
  | _=>exfalso;exact AfP hok rfl
 | call c =>
  obtain⟨callee,args,ts⟩:=c;cases callee with
  | value fo =>
   cases fo with
   | func f =>
    have hl':xs.length=1+args.size:=by rw[hl];simp [Op.operands,Call.operands]
    obtain⟨x0,xs',rfl⟩: ∃ x0 xs',xs=x0::xs':=by
     cases xs with
     | nil=>simp at hl';omega
     | cons x0 xs'=>exact⟨x0,xs',rfl⟩
    have e1:opX C ⟨dst,.call ⟨.value (.func f),args,ts⟩,ty,pos,after,guard⟩ (x0::xs') fet=fG C fet (dst.getD 0) f xs':=rfl;rw[e1]at hok hfr hnd ⊢;cases hsg:Aco C f xs' with
    | none=>exfalso;unfold fG at hok;rw[hsg]at hok;exact JJ hok
    | some sg =>
     have hGs:Spec P f sg:=Art hCx hsg;have e3:fG C fet (dst.getD 0) f xs'=keepD fet xs' (C.kept f) (Oy fet (dst.getD 0) sg xs'):=by unfold fG;rw[hsg]
     rw[e3]at hok hfr hnd ⊢;obtain⟨hok,k1,k2,k3,k4⟩:=Aq5 _ hok;rw[k2]at hfr hnd;have e4: ∀ o',apply st o' (keepD fet xs' (C.kept f) (Oy fet (dst.getD 0) sg xs'))=apply st o' (Oy fet (dst.getD 0) sg xs'):=λo'=>by unfold apply;rw[k1,k2,k3,k4]
     rw[e4];refine Aim (x0:=.func f) hS rfl rfl rfl hGs hf (by simp at hl';show xs'.length=args.size;omega) (λj hj=> ?_) hok hfr hnd;have:=hx (j+1) (by simpa using hj);have e2:(Op.call ⟨.value (.func f),args,ts⟩).operands.getD (j+1) (.tmp 0)=args.getD j (.tmp 0):=by simp only[Op.operands,Call.operands];rw[Dv,Dv,FB (by simp)];simp
     rw[e2]at this;simpa using this
   | tmp t =>
    have hl':xs.length=1+args.size:=by rw[hl];simp [Op.operands,Call.operands]
    obtain⟨x0,xs',rfl⟩: ∃ x0 xs',xs=x0::xs':=by
     cases xs with
     | nil=>simp at hl';omega
     | cons x0 xs'=>exact⟨x0,xs',rfl⟩
    have e1:opX C ⟨dst,.call ⟨.value (.tmp t),args,ts⟩,ty,pos,after,guard⟩ (x0::xs') fet=Alo C fet (dst.getD 0) t x0 xs':=rfl;rw[e1]at hok hfr hnd ⊢;have h0:=hx 0 (by simp);have e0:(Op.call ⟨.value (.tmp t),args,ts⟩).operands.getD 0 (.tmp 0)= .tmp t:=by show(#[Operand.tmp t]++args).getD 0 (.tmp 0)= .tmp t;rw[Dv,EJ (by simp)];rfl
    rw[e0]at h0;have h0:JC O st.Jr m w (a.eval (.tmp t)) x0:=h0;unfold Alo at hok hfr hnd ⊢;cases x0 with
    | fn n =>
     cases hsg:C.dyn t with
     | none=>rw[hsg]at hok;exact(JJ hok).elim
     | some F =>
      rw[hsg]at hok hfr hnd;dsimp only at hok hfr hnd ⊢;obtain⟨hd1,hd2⟩:=hCx.dyn t F hsg;have hok2:=AkY hok;cases n with
      | zero=>rw[hd1]at hok2;cases hok2
      | succ f =>
       have hev:a.eval (.tmp t)= .func (.func f) #[] #[]:=by have h1:J5 O w (a.eval (.tmp t)) (.fn (f+1)):=h0;generalize a.eval (.tmp t)=v at h1 ⊢;cases h1;rfl
       refine Aim (x0:=.tmp t) hS rfl rfl hev (hd2 f _ hok2) hf (by simp at hl';show xs'.length=args.size;omega) (λj hj=> ?_) hok hfr hnd;have:=hx (j+1) (by simpa using hj);have e2:(Op.call ⟨.value (.tmp t),args,ts⟩).operands.getD (j+1) (.tmp 0)=args.getD j (.tmp 0):=by simp only[Op.operands,Call.operands];rw[Dv,Dv,FB (by simp)];simp
       rw[e2]at this;simpa using this
    | clo f q =>
     obtain⟨cs,hb,he⟩:=JU hok;dsimp only at he hok hfr hnd ⊢;rw[he]at hok hfr hnd ⊢;clear he;have hc:JG O st.Jr m w (a.eval (.tmp t)) (.clo f q):=h0;obtain⟨_,p,k5,⟨b,j0,k2,k3,k4⟩,hc⟩:=hc;cases hsg:C.dyn t with
     | none=>rw[hsg]at hok;exact(JJ hok).elim
     | some F =>
      rw[hsg]at hok hfr hnd;dsimp only at hok hfr hnd ⊢;obtain⟨hd1,hd2⟩:=hCx.dyn t F hsg;have hok2:=AkY hok;cases f with
      | zero=>rw[hd1]at hok2;cases hok2
      | succ f =>
       have hlx:xs'.length=args.size:=by simp at hl';omega
       refine AeS (x0:=.tmp t) (caps:= #[.pointer (some (at' b j0))]) (av:=args.map a.eval++ #[.pointer (some (at' b j0))]) hS rfl rfl k2 rfl (hd2 f _ hok2) hf (by simp [hlx]) (λj hj=> ?_) hok hfr hnd;rcases Eh j xs'.length with hjl | hjl
       .have:=hx (j+1) (by simpa using hjl);have e2:(Op.call ⟨.value (.tmp t),args,ts⟩).operands.getD (j+1) (.tmp 0)=args.getD j (.tmp 0):=by simp only[Op.operands,Call.operands];rw[Dv,Dv,FB (by simp)];simp
        rw[e2]at this;have hjs:j<args.size:=by omega
        have e3:(args.map a.eval++ #[Value.pointer (some (at' b j0))]).getD j undef=a.eval (args.getD j (.tmp 0)):=by rw[Dv,EJ (by simpa using hjs),Dv];simp [hjs]
        have e4:(xs'++[A.clo 0 q]).getD j .undef=xs'.getD j .undef:=by simp [Dn,Ez,hjl]
        rw[e3,e4];simpa using this
       .have hj':j=xs'.length:=by simp at hj;omega
        subst hj';have e3:(args.map a.eval++ #[Value.pointer (some (at' b j0))]).getD xs'.length undef= .pointer (some (at' b j0)):=by rw[hlx,Dv,FB (by simp)];simp
        have e4:(xs'++[A.clo 0 q]).getD xs'.length .undef= .clo 0 q:=by simp [Dn]
        rw[e3,e4];show JG O st.Jr m w _ (.clo 0 q);exact⟨rfl,p,k5,⟨b,j0,rfl,k3,k4⟩,hc⟩
    | _=>exact(JJ hok).elim
   | _=>exfalso;exact AfP hok rfl
  | builtin b =>
   have hok':J6 (blX C ⟨dst,.call ⟨.builtin b,args,ts⟩,ty,pos,after,guard⟩ fet ts.toList b xs).ok:=hok;cases b with
   | len =>
    obtain⟨x',rfl⟩:=AvR (show J6 (a1 _ xs).ok from hok')
    have hargs: ∃ x,args= #[x]:=by
     have:args.size=1:=by simpa [Op.operands,Call.operands]using hl.symm
     exact⟨args[0],by apply FC (by simp [this]);intro i h1 h2;have:i=0:=by omega
                      subst this;rfl⟩
    obtain⟨x,rfl⟩:=hargs;obtain⟨t,ht,he⟩:=JU (show J6 (KA (one? ts.toList) λt=>Ahs C fet t x').ok from hok');have e1:opX C ⟨dst,.call ⟨.builtin .len,#[x],ts⟩,ty,pos,after,guard⟩ [x'] fet=Ahs C fet t x':=he;rw[e1]at hok ⊢;exact(AuX hC hF rfl rfl rfl (AiH ht) (hx 0 (by simp)) hok).good hS
   | copy =>
    obtain⟨x',y',rfl⟩:=Akr (show J6 (a2 _ xs).ok from hok')
    have hargs: ∃ x y,args= #[x,y]:=by
     have:args.size=2:=by simpa [Op.operands,Call.operands]using hl.symm
     refine⟨args[0],args[1],?_⟩;apply FC (by simp [this]);intro i h1 h2;have:i=0\/i=1:=by omega
     rcases this with rfl | rfl<;>rfl
    obtain⟨x,y,rfl⟩:=hargs;exact Asr (o:=⟨dst,.call ⟨.builtin .copy,#[x,y],ts⟩,ty,pos,after,guard⟩) (ts':=ts.toList) hC hS rfl rfl rfl rfl hf (hx 0 (by simp)) (hx 1 (by simp)) hok'
   | append =>
    obtain⟨x',y',rfl⟩:=Akr (show J6 (a2 _ xs).ok from hok')
    have hargs: ∃ x y,args= #[x,y]:=by
     have:args.size=2:=by simpa [Op.operands,Call.operands]using hl.symm
     refine⟨args[0],args[1],?_⟩;apply FC (by simp [this]);intro i h1 h2;have:i=0\/i=1:=by omega
     rcases this with rfl | rfl<;>rfl
    obtain⟨x,y,rfl⟩:=hargs;have e0:opX C ⟨dst,.call ⟨.builtin .append,#[x,y],ts⟩,ty,pos,after,guard⟩ [x',y'] fet=Aun C ⟨dst,.call ⟨.builtin .append,#[x,y],ts⟩,ty,pos,after,guard⟩ fet ts.toList x' y':=rfl;rw[e0]at hok hfr ⊢;clear hok' e0;generalize hts:ts.toList=tl at hok hfr ⊢;unfold Aun at hok hfr ⊢;split at hok
    .rename_i t u;dsimp only at hfr ⊢;obtain⟨tu,htu,he⟩:=KF hok;rw[he]at hok hfr ⊢;obtain⟨d,hd,he⟩:=JU hok;rw[he]at hok hfr ⊢;obtain⟨h1,h2⟩:=hok.cons;exact Anu hC hS hd rfl rfl rfl hts htu h1 hf (hx 0 (by simp)) (hx 1 (by simp)) h2 hfr
    .exact(JJ hok).elim
   | min =>
    obtain⟨x',y',rfl⟩:=Akr (show J6 (a2 _ xs).ok from hok')
    have hargs: ∃ x y,args= #[x,y]:=by
     have:args.size=2:=by simpa [Op.operands,Call.operands]using hl.symm
     refine⟨args[0],args[1],?_⟩;apply FC (by simp [this]);intro i h1 h2;have:i=0\/i=1:=by omega
     rcases this with rfl | rfl<;>rfl
    obtain⟨x,y,rfl⟩:=hargs;exact(Avd (o:=⟨dst,.call ⟨.builtin .min,#[x,y],ts⟩,ty,pos,after,guard⟩) rfl rfl rfl (hx 0 (by simp)) (hx 1 (by simp)) hok).good hS
   | max =>
    obtain⟨x',y',rfl⟩:=Akr (show J6 (a2 _ xs).ok from hok')
    have hargs: ∃ x y,args= #[x,y]:=by
     have:args.size=2:=by simpa [Op.operands,Call.operands]using hl.symm
     refine⟨args[0],args[1],?_⟩;apply FC (by simp [this]);intro i h1 h2;have:i=0\/i=1:=by omega
     rcases this with rfl | rfl<;>rfl
    obtain⟨x,y,rfl⟩:=hargs;exact(Avc (o:=⟨dst,.call ⟨.builtin .max,#[x,y],ts⟩,ty,pos,after,guard⟩) rfl rfl rfl (hx 0 (by simp)) (hx 1 (by simp)) hok).good hS
   | _=>exfalso;exact JJ hok'
  | invoke r mth=>exfalso;exact AfP hok rfl
 | _=>exfalso;exact AfP hok rfl
end
section
variable {P:Program} {C:Ctx} {V0:Nat->Value} {O0 O:Own} {w0 w:World} {m:Nat->Value} {st:St} {a:Act} {o:Oper}
theorem AuL (Jr:List (Nat×Obj)): ∀(l:List Nat) (q:Nat) (x:Obj),J3 (fetch Jr l) q=some x->J3 Jr q=some x:=by
 intro l
 induction l with
 | nil=>intro q x h;cases h
 | cons n r ih=>grind[fetch,J3,Ol]
theorem Anq (a b:List (Nat×Obj)) (q:Nat):J3 (a++b) q=match J3 a q with | some x=>some x | none=>J3 b q:=by
 induction a with
 | nil=>rfl
 | cons p r ih=>grind[Ol]
def ZT (st:St) (vs:List A):P8 st.Jr (Kv st vs):=by intro q x h;grind[Kv,Anq,split,AuL]
theorem AtI {v:Value} {x:A} (h:JC O st.Jr m w v x) (hok:J6 x.strip.1):JC O st.Jr m w v x.strip.2:=by
 cases x with
 | cnd g y =>have:=h.1 hok.cons.1;cases y<;>first | trivial | exact this | exact this.elim
 | _=>exact h
def Aou: ∀(xs:List A) (f:Nat->Value),(∀ j,j<xs.length->JC O st.Jr m w (f j) (xs.getD j .undef))->J6 (strips xs).1 ->
 (strips xs).2.length=xs.length/\ ∀ j,j<xs.length->JC O st.Jr m w (f j) ((strips xs).2.getD j .undef):=by
 intro xs
 induction xs with
 | nil=>intro f _ _;exact⟨rfl,λj hj=>by simp at hj⟩
 | cons x xs ih =>
  intro f h hok;simp only[strips]at hok ⊢;obtain⟨h1,h2⟩:=hok.append;obtain⟨g1,g2⟩:=ih (λj=>f (j+1)) (λj hj=>by simpa using h (j+1) (by simpa using hj)) h2;refine⟨by simp [g1],λj hj=> ?_⟩;cases j with
  | zero=>grind[AtI]
  | succ j=>simpa using g2 j (by simpa using hj)
def AvP {v:Value} {x:A} (h:JC O st.Jr m w v x):JC O st.Jr m w v x.weak:=by
 cases x with
 | sln l =>
  have h':J5 O w v (.sln l):=h;cases h' with
  | sln h _=>exact h
 | _=>exact h
def AvO (x:A):x.weak.ids=x.ids:=by cases x<;>rfl
def AtT (xs:List A) (j:Nat):(xs.map A.weak).getD j .undef=(xs.getD j .undef).weak:=by simp only[Dn,Ep];cases xs[j]? <;>rfl
def AbF (op:Op) (xs:List A):(∃ a b c,op= .pick a b c)\/Lc op xs=((strips xs).1,bif wZ op then(strips xs).2 else(strips xs).2.map A.weak):=by cases op<;>first | exact .inr rfl | exact .inl ⟨_,_,_,rfl⟩
def sG {op:Op} {xs:List A} {f:Nat->Value} (h: ∀ j,j<xs.length->JC O st.Jr m w (f j) (xs.getD j .undef)) (hok:J6 (Lc op xs).1) :
 (Lc op xs).2.length=xs.length/\ ∀ j,j<xs.length->JC O st.Jr m w (f j) ((Lc op xs).2.getD j .undef):=by
 rcases AbF op xs with ⟨x,y,z,rfl⟩ | he
 .exact⟨rfl,h⟩
 .rw[he]at hok ⊢;obtain⟨g1,g2⟩:=Aou xs f h hok;cases hb:wZ op with
  | true=>exact⟨g1,g2⟩
  | false =>refine⟨by simp [g1],λj hj=> ?_⟩;show JC O st.Jr m w (f j) (((strips xs).2.map A.weak).getD j .undef);rw[AtT];exact AvP (g2 j hj)
def AtG {v:Value} {x:A} {i:Nat} (ht:JC O st.Jr m w v x) (hok:J6 x.strip.1) (h:i∈x.strip.2.ids):i∈x.ids:=by
 cases x with
 | cnd g y =>have h1:=ht.1 hok.cons.1;cases y<;>first | exact h | exact h1.elim
 | _=>exact h
def Ar0: ∀(xs:List A) (f:Nat->Value),(∀ j,j<xs.length->JC O st.Jr m w (f j) (xs.getD j .undef))->J6 (strips xs).1-> ∀ x∈(strips xs).2,∀ i∈x.ids,∃ y∈xs,i∈y.ids:=by
 intro xs
 induction xs with
 | nil=>grind[strips]
 | cons z xs ih =>
  intro f h hok x hx i hi;simp only[strips]at hok hx;obtain⟨h1,h2⟩:=hok.append;rcases D7.1 hx with rfl | hx
  .exact⟨z,Dy,AtG (h 0 (by simp)) h1 hi⟩
  .obtain⟨y,hy,hi'⟩:=ih (λj=>f (j+1)) (λj hj=>by simpa using h (j+1) (by simpa using hj)) h2 x hx i hi;exact⟨y,Dz _ hy,hi'⟩
def y9 {op:Op} {xs:List A} {f:Nat->Value} (h: ∀ j,j<xs.length->JC O st.Jr m w (f j) (xs.getD j .undef)) (hok:J6 (Lc op xs).1): ∀ x∈(Lc op xs).2,∀ i∈x.ids,∃ y∈xs,i∈y.ids:=by
 rcases AbF op xs with ⟨x,y,z,rfl⟩ | he
 .exact λx hx i hi=>⟨x,hx,hi⟩
 .rw[he]at hok ⊢;have g:=Ar0 xs f h hok;cases hb:wZ op with
  | true=>exact g
  | false =>intro x hx i hi;obtain⟨z,hz,rfl⟩:=DK.1 (show x∈(strips xs).2.map A.weak from hx);rw[AvO]at hi;exact g z hz i hi
def Aqr {ops:Array Oper} {gd:Option (Nat×Bool)} (hS:Sim V0 O0 w0 O m st a w) (hgd:o.guard=gd) :
 (guardOf ops.toList st.tmps gd=some none->Region.wanted o (yielded ops a.tmps)=true) /\
 ∀ g,guardOf ops.toList st.tmps gd=some (some g)->Region.wanted o (yielded ops a.tmps)=g:=by
 cases gd with
 | none =>refine⟨λ_=>by unfold Region.wanted;rw[hgd],λg h=>by simp [guardOf]at h⟩
 | some p =>
  obtain⟨j,want⟩:=p;unfold Region.wanted;rw[hgd];dsimp only
  have key: ∀ oj t,ops[j]? =some oj->oj.dst=some t->yielded ops a.tmps j=match a.tmps[t]? with | some (.bool b)=>some b | _=>none:=by
   intro oj t h1 h2;unfold yielded;have:(ops[j]?).bind (·.dst)=some t:=by rw[h1];exact h2
   rw[this];show(match a.tmps[t]? with | some (.bool b)=>some b | _=>none)=_;cases a.tmps[t]? with
   | none=>rfl
   | some v=>cases v<;>rfl
  unfold guardOf;have hop:ops.toList[j]? =ops[j]? :=by simp
  dsimp only;rw[hop];cases hj:ops[j]? with
  | none=>exact⟨λh=>by simp at h,λg h=>by simp at h⟩
  | some oj =>
   dsimp only;cases hd:oj.dst with
   | none=>exact⟨λh=>by simp at h,λg h=>by simp at h⟩
   | some t =>
    dsimp only;have ht:=hS.tmps t;rw[key oj t hj hd];cases hv:st.tmps.getD t .undef with
    | bool b =>
     refine⟨λh=>by simp at h,λg h=> ?_⟩;simp only[F9]at h
     have htl:t<st.tmps.length:=by
      rcases Eh t st.tmps.length with h | h
      .exact h
      .rw[Dn,Ed h]at hv;cases hv
     have:=ht htl;rw[hv]at this;have:=this.bool;have hts:t<a.tmps.size:=by rw[hS.size];exact htl
     rw[getD_eq hts,this,<- h];cases want<;>cases b<;>rfl
    | cnd g0 y =>
     cases y with
     | bool b =>
      refine⟨λh=>by simp at h,λg h=> ?_⟩;simp only[F9]at h
      have htl:t<st.tmps.length:=by
       rcases Eh t st.tmps.length with h | h
       .exact h
       .rw[Dn,Ed h]at hv;cases hv
      have:=ht htl;rw[hv]at this;have hts:t<a.tmps.size:=by rw[hS.size];exact htl
      rw[getD_eq hts,<- h];cases g0 with
      | true =>have h1:J5 O w (a.tmps.getD t undef) (.bool b):=this.1 rfl;generalize a.tmps.getD t undef=z at h1;cases h1;cases want<;>cases b<;>rfl
      | false =>rw[this.2 rfl];simp [undef]
     | _=>exact⟨λh=>by simp at h,λg h=>by simp at h⟩
    | _=>exact⟨λh=>by simp at h,λg h=>by simp at h⟩
def Aso (v:Value):(ofConst v).ids=[]:=by
 have hc: ∀ u:Value,(OY u).Nu=[]:=by intro u;unfold OY;split<;>rfl
 have hc2: ∀ u:Value,(OY u).ids=[]:=by intro u;unfold OY;split<;>rfl
 unfold ofConst;split
 .rename_i vs;cases vs.toList.all Value.oneCell' with
  | false=>rfl
  | true =>show(vs.toList.map OY).flatMap A.Nu=[];rw[Iu];intro x hx;obtain⟨u,_,rfl⟩:=DK.1 hx;exact hc u
 .exact hc2 v
def AnT {a b:A} (h:jY a b=true):rC true a b=b/\rC false a b=a:=by
 cases a<;>cases b<;>first | exact⟨rfl,rfl⟩ | exact(Bool.false_ne_true h).elim | skip
 case int.int k x k' y =>
  have e:k=k':=by cases k<;>cases k'<;>first | rfl | cases h
  subst e;exact⟨rfl,rfl⟩
 case sl.sl l l' =>
  obtain⟨t,xs⟩:=l;obtain⟨t',xs'⟩:=l';unfold jY Sl.cast at h;unfold rC Sl.cast;dsimp only at h ⊢;cases hd:decEq t' t with
  | isTrue e=>subst e;exact⟨rfl,rfl⟩
  | isFalse e=>rw[hd]at h;cases h
 case sln.sln l l' =>
  obtain⟨t,xs⟩:=l;obtain⟨t',xs'⟩:=l';unfold jY Sl.cast at h;unfold rC Sl.cast;dsimp only at h ⊢;cases hd:decEq t' t with
  | isTrue e=>subst e;exact⟨rfl,rfl⟩
  | isFalse e=>rw[hd]at h;cases h
 all_goals simp_all[jY,rC]
theorem AiV: ∀ {aa bs:List A},okM aa bs=true->Aia true aa bs=bs/\Aia false aa bs=aa
 | [],[],_=>⟨rfl,rfl⟩
 | a::aa,b::bs,h=>by unfold okM at h;obtain⟨h1,h2⟩:=Bool.and_eq_true_iff.1 h;obtain⟨i1,i2⟩:=AnT h1;obtain⟨j1,j2⟩:=AiV h2;exact⟨by unfold Aia;rw[i1,j1],by unfold Aia;rw[i2,j2]⟩
 | [],_::_,h=>by cases h
 | _::_,[],h=>by cases h
def Adh {c:Bool} {x:Option Obj} {y:Obj} (h:jZ c x y=true) :
 (Y7 true x y=y/\ ∃ cs,x=some (.box cs)/\Y7 false x y= .box cs)\/c=true/\ ∃ e f l l',x=some (.arr e f l)/\y= .arr e true l'/\ ∀ g,Y7 g x y= .arr e true l:=by
 cases x with
 | none=>cases h
 | some x =>
  cases x with
  | box cs=>grind[AiV,okM,Obj,jZ,Y7]
  | arr e f l =>
   cases y with
   | arr e' f' l' =>
    cases f' with
    | true=>simp_all[Obj,jZ,Y7]
    | false=>cases h
   | _=>cases h
  | _=>cases h
def Closes (Jr U:List (Nat×Obj)):Prop:= ∀ p∈U,(∃ cs,J3 Jr p.1=some (.box cs)/\p.2= .box cs)\/ ∃ e f l,J3 Jr p.1=some (.arr e f l)/\p.2= .arr e true l
def _root_.Go.Proofs.YtacidcemomccpaaGreatDoor.Vm.Sim.Av0 {objs':List (Nat×Obj)} (hS:Sim V0 O0 w0 O m st a w) (h: ∀ n,J3 objs' n=J3 st.Jr n):Sim V0 O0 w0 O m {st with Jr:=objs'} a w:=by
 have he:TC st.Jr m objs' m (λ_=>False):=λo x hx=>.inr ⟨x,by rw[<- h];exact hx,rfl,rfl⟩;have hp:Nz O w O w:=λb k u h1 h2=>⟨h1,h2⟩
 refine⟨hS.defers,hS.size,λt ht=>(hS.tmps t ht).step hp he (λ_ _=>id),λo x hx=> ?_,hS.frame,hS.own,λo x hx=>hS.ids o x (by rw[<- h];exact hx),hS.less,λo ho hx=>hS.root o ho (by rw[<- h];exact hx),hS.WS,hS.inv⟩;have h0:=hS.Jr o x (by rw[<- h];exact hx);cases x with
 | box cs =>obtain⟨b,base,h1,h2⟩:=h0;refine⟨b,base,h1,λj hj=> ?_⟩;obtain⟨g1,g2,u,g3,g4⟩:=h2 j hj;exact⟨g1,g2,u,g3,g4.step hp he (λ_ _=>id)⟩
 | arr e f l=>exact h0
 | mp l=>exact h0
def _root_.Go.Proofs.YtacidcemomccpaaGreatDoor.Vm.Sim.closes: ∀(U:List (Nat×Obj)) {O:Own} {st:St},Sim V0 O0 w0 O m st a w->Closes st.Jr U-> ∃ O',Sim V0 O0 w0 O' m {st with Jr:=JH st.Jr U} a w:=by
 intro U
 induction U with
 | nil=>intro O st hS _;exact⟨O,hS⟩
 | cons p U ih =>
  intro O st hS h;obtain⟨n,y⟩:=p;have h0:=h (n,y) Dy
  have hrest:Closes (Ns st.Jr n y) U:=by
   intro q hq;have h1:=h q (Dz _ hq);rw[KO];by_cases hk:q.1=n
   .rw[Du hk];rw[hk]at h1;rcases h0 with ⟨cs,g1,g2⟩ | ⟨e,f,l,g1,g2⟩
    .dsimp only at g1 g2;rw[g1]at h1;rcases h1 with ⟨cs',k1,k2⟩ | ⟨e',f',l',k1,k2⟩
     .injection k1 with k1;rw[<- k1]at k2;exact .inl ⟨cs,by rw[g2],k2⟩
     .cases k1
    .dsimp only at g1 g2;rw[g1]at h1;rcases h1 with ⟨cs',k1,k2⟩ | ⟨e',f',l',k1,k2⟩
     .cases k1
     .injection k1 with k1;injection k1 with q1 q2 q3;subst q1;subst q3;exact .inr ⟨e,true,l,by rw[g2],k2⟩
   .rw[Dt hk];exact h1
  show ∃ O',Sim V0 O0 w0 O' m {st with Jr:=JH (Ns st.Jr n y) U} a w;rcases h0 with ⟨cs,g1,g2⟩ | ⟨e,f,l,g1,g2⟩
  .dsimp only at g1 g2
   have hS':Sim V0 O0 w0 O m {st with Jr:=Ns st.Jr n y} a w:=hS.Av0 λk=>by
    rw[KO];by_cases hk:k=n
    .rw[Du hk,hk,g1,g2]
    .rw[Dt hk]
   exact ih hS' hrest
  .dsimp only at g1 g2;obtain⟨O1,hS1,_⟩:=hS.freezes [(n,y)] (λq hq=>by simp at hq;subst hq;exact⟨e,f,l,g1,g2⟩);exact ih hS1 hrest
def Ko (fet:Fet) (U:List (Nat×Obj)):Prop:= ∀ p∈U,∀ e f l,p.2= .arr e f l-> ∃ e' f',J3 fet p.1=some (.arr e' f' l)/\f=true
def Ko.append {fet:Fet} {U V:List (Nat×Obj)} (h:Ko fet U) (h':Ko fet V):Ko fet (U++V):=λp hp=>(DN.1 hp).elim (h p) (h' p)
theorem Ko.nil (fet:Fet):Ko fet []:=λp hp=>by cases hp
def Ko.one {fet:Fet} {n e e0:Nat} {f:Bool} {l:Sl} (h:J3 fet n=some (.arr e f l)):Ko fet [(n,.arr e0 true l)]:=by simp_all[Fet,J3,Ko]
def Ko.cons {fet:Fet} {n e e0:Nat} {f:Bool} {l:Sl} {U:List (Nat×Obj)} (h:J3 fet n=some (.arr e f l)) (h':Ko fet U):Ko fet ((n,.arr e0 true l)::U):=(Ko.one h).append h'
def Agd (fet:Fet) (k:CK) (c:A):Ko fet (pur fet k c).2.2:=by
 unfold pur;split
 .split
  .rename_i h;exact .one h
  .exact .nil _
 .split<;>exact .nil _
 all_goals exact .nil _
def Aoe (fet:Fet): ∀(ks:List CK) (cs:List A),Ko fet (KQ fet ks cs).2.2:=by
 intro ks
 induction ks with
 | nil=>intro cs;cases cs<;>exact .nil _
 | cons k ks ih=>intro cs;cases cs with
  | nil=>exact .nil _
  | cons c cs=>exact(Agd fet k c).append (ih cs)
def Uu (fet:Fet): ∀(ks:List (Bool×CK)) (cs:List A),Ko fet (J8 fet ks cs).2.2.1:=by
 intro ks
 induction ks with
 | nil=>intro cs;cases cs<;>exact .nil _
 | cons k ks ih =>
  intro cs;obtain⟨u,k⟩:=k;cases cs with
  | nil=>cases u<;>cases k<;>exact .nil _
  | cons c cs =>
   cases u with
   | false=>exact(Agd fet k c).append (ih cs)
   | true =>
    cases k with
    | sl e t =>
     cases c with
     | own q =>
      simp only[J8];cases h:J3 fet q with
      | none=>exact .nil _
      | some x =>
       cases x with
       | arr e' f l=>exact .cons h (ih cs)
       | _=>exact .nil _
     | Lt=>exact ih cs
     | _=>exact .nil _
    | sln e t =>
     cases c with
     | own q =>
      simp only[J8];cases h:J3 fet q with
      | none=>exact .nil _
      | some x =>
       cases x with
       | arr e' f l=>exact ih cs
       | _=>exact .nil _
     | Lt=>exact ih cs
     | _=>exact .nil _
    | bx t =>
     cases c with
     | ptr q off =>
      simp only[J8];cases L8 fet q with
      | none=>exact .nil _
      | some zs=>exact(Aoe fet _ zs).append (ih cs)
     | _=>exact .nil _
    | _=>cases c<;>exact .nil _
def Ahi (fet:Fet) (s:Sh) (x:A):Ko fet (JY fet s x).upd:=by
 cases s with
 | cell u k =>
  have:=Uu fet [(u,k)] [x];unfold JY;dsimp only;generalize J8 fet [(u,k)] [x]=r at this ⊢;obtain⟨ok,cs,upd,del⟩:=r;cases cs with
  | nil=>exact .nil _
  | cons c cs=>cases cs with
   | nil=>exact this
   | cons _ _=>exact .nil _
 | agg ks=>cases x<;>first | exact .nil _ | exact Uu fet _ _
 | box ks =>
  cases x with
  | ptr q off =>
   unfold JY;dsimp only;cases L8 fet q with
   | none=>exact .nil _
   | some cs=>exact Uu fet _ _
  | _=>exact .nil _
 | clo f' ks =>
  cases x with
  | clo g q =>
   unfold JY;dsimp only;cases L8 fet q with
   | none=>exact .nil _
   | some cs=>exact Uu fet _ _
  | _=>exact .nil _
 | map kt vt =>
  cases x with
  | own q =>unfold JY;dsimp only;split<;>exact .nil _
  | _=>exact .nil _
def Aft (fet:Fet): ∀(ss:List Sh) (xs:List A),Ko fet (JM fet ss xs).2.2.1:=by
 intro ss
 induction ss with
 | nil=>intro xs;cases xs<;>exact .nil _
 | cons s ss ih =>
  intro xs;cases xs with
  | nil=>exact .nil _
  | cons x xs=>exact(Ahi fet s x).append (ih xs)
def Ady (fet:Fet) (rb:Nat->Nat) (rs:List A): ∀(bs:List (Nat×Sh)) (j:Nat),Ko fet (La rb rs bs j).2.1:=by
 intro bs
 induction bs with
 | nil=>intro j;exact .nil _
 | cons b bs ih =>
  intro j p hp;obtain⟨q,s⟩:=b;rcases D7.1 hp with rfl | hp
  .intro e f l he;cases s<;>cases he
  .exact ih (j+1) p hp
def iQ (fet:Fet) (d:Nat) (sg:Sig) (xs:List A):Ko fet (Oy fet d sg xs).upd :=
 (Aft fet _ _).append (Ady fet _ _ _ _)
def XF {t:Nat} {k:TI->Dl} {fet:Fet} (h: ∀ ti,Ko fet (k ti).upd):Ko fet (ML C t k).upd:=by
 unfold ML KA;cases C.T t with
 | none=>exact .nil _
 | some ti=>exact h ti
def Q5 {α :Type} {o:Option α} {k: α ->Dl} {fet:Fet} (h: ∀ x,o=some x->Ko fet (k x).upd):Ko fet (KA o k).upd:=by
 unfold KA;cases o with
 | none=>exact .nil _
 | some x=>exact h x rfl
def RY (fet:Fet) (t:Nat) (x:A) (lo hi:Option A):Ko fet (MQ C fet t x lo hi).upd:=by
 unfold MQ;refine XF λti=> ?_;split
 .exact Q5 λ_ _=>.nil _
 .exact Q5 λ_ _=>Q5 λ_ _=>XF λ_=>.nil _
 .refine Q5 λr hr=>Q5 λ_ _=>Q5 λ_ _=>XF λ_=> ?_;cases r.frz with
  | true=>exact .nil _
  | false=>exact .one (NP hr)
 .exact .nil _
def An3 (fet:Fet) (d t:Nat) (x hi:A):Ko fet (Aah C fet d t x hi).upd:=by
 unfold Aah;refine XF λti=> ?_;split
 .exact Q5 λ_ _=>Q5 λ_ _=>Q5 λ_ _=>XF λ_=>.nil _
 .exact .nil _
def Ane (fet:Fet) (t:Nat) (x h:A):Ko fet (xC C fet t x h).upd:=by
 unfold xC;refine XF λti=> ?_;split
 .exact Q5 λ_ _=>Q5 λ_ _=>Q5 λ_ _=>XF λ_=>.nil _
 .exact .nil _
def AlT {fet:Fet} (x:A) (j:Nat) {δ :Dl} (h:Ko fet δ.upd):Ko fet (Uw fet x j δ).upd:=by
 unfold Uw;split
 .split
  .rename_i q _ _ cs _;cases Nat.blt j cs.length&& δ.upd.all (λp=> !(Nat.beq p.1 q)||AfB cs.length p.2)with
   | false=>exact h
   | true =>
    intro p hp e f l he;obtain⟨p0,hp0,rfl⟩:=DK.1 (show p∈ δ.upd.map _ from hp);cases hq:Nat.beq p0.1 q with
    | false=>rw[hq]at he;exact h p0 hp0 e f l he
    | true =>
     rw[hq]at he;obtain⟨n,y⟩:=p0;cases y with
     | box _=>cases he
     | arr e' f' l'=>exact h _ hp0 e f l he
     | mp _=>cases he
  .exact h
 .exact h
def AlU {fet:Fet} (xs:List A): ∀(ks:List (Nat×Nat)) {δ :Dl},Ko fet δ.upd->Ko fet (keepD fet xs ks δ).upd:=by
 intro ks
 induction ks with
 | nil=>intro δ h;exact h
 | cons k ks ih=>intro δ h;exact ih (AlT _ _ h)
def AeZ {fet:Fet} {xs:List A} (h:uC o.op=true):Ko fet (opX C o xs fet).upd:=by
 obtain⟨dst,op,ty,pos,after,guard⟩:=o;cases op with
 | slice t x lo hi mx =>
  show Ko fet (slX C dst fet t lo hi mx xs).upd;unfold slX;split
  .unfold a1;split<;>first | exact RY fet _ _ _ _ | exact .nil _
  .unfold a2;split
   .dsimp only;split
    .rename_i d;cases has C.cuts d with
     | false=>exact RY fet _ _ _ _
     | true=>exact Ane fet _ _ _
    .exact RY fet _ _ _ _
   .exact .nil _
  .unfold a2;split
   .dsimp only;split
    .rename_i d;cases has C.cuts d with
     | false=>exact RY fet _ _ _ _
     | true=>exact An3 fet _ _ _ _
    .exact RY fet _ _ _ _
   .exact .nil _
  .unfold a3;split<;>first | exact RY fet _ _ _ _ | exact .nil _
  .exact .nil _
 | call c =>
  obtain⟨callee,args,ts⟩:=c;cases callee with
  | value fo =>
   cases fo with
   | func f =>
    cases xs with
    | nil=>exact .nil _
    | cons x xs =>
     show Ko fet (fG C fet (dst.getD 0) f xs).upd;unfold fG;cases Aco C f xs with
     | none=>exact .nil _
     | some sg=>exact AlU _ _ (iQ fet _ _ _)
   | tmp t =>
    cases xs with
    | nil=>exact .nil _
    | cons x xs =>
     show Ko fet (Alo C fet (dst.getD 0) t x xs).upd;unfold Alo;cases x with
     | fn n =>
      dsimp only;cases C.dyn t with
      | none=>exact .nil _
      | some F=>exact iQ fet _ _ _
     | clo f q =>
      dsimp only;cases L8 fet q with
      | none=>exact .nil _
      | some _ =>
       show Ko fet (match C.dyn t with | some sg=>Oy fet (dst.getD 0) (sg f) (xs++[A.clo 0 q]) | none=>.no).upd;cases C.dyn t with
       | none=>exact .nil _
       | some F=>exact iQ fet _ _ _
     | _=>exact .nil _
   | _=>cases h
  | _=>cases h
 | _=>cases h
def Ags (hC:MX P C) (hS:Sim V0 O0 w0 O m st a w) {ops:Array Oper} (hok:J6 (KI C ops.toList o st).ok) (next:Act->World->Prop) (Q:Exit->Act->World->Prop)
 (hn: ∀ O' m' a' w',Sim V0 O0 w0 O' m' (apply st o (KI C ops.toList o st)) a' w'->next a' w') :
 if Region.wanted o (yielded ops a.tmps)then o.wp P a w next Q else next (a.put o.dst undef) w:=by
 have hx0: ∀ j,j<(o.op.operands.toList.map (KZ st.tmps)).length->JC O st.Jr m w (a.eval (o.op.operands.getD j (.tmp 0))) ((o.op.operands.toList.map (KZ st.tmps)).getD j .undef):=by
  intro j hj;have hj':j<o.op.operands.size:=by simpa using hj
  have e1:o.op.operands.getD j (.tmp 0)=o.op.operands[j]:=by rw[Dv,En hj'];rfl
  have e2:(o.op.operands.toList.map (KZ st.tmps)).getD j .undef=KZ st.tmps o.op.operands[j]:=by simp [Dn,hj']
  rw[e1,e2];exact jM hS _
 have hid0: ∀ y∈o.op.operands.toList.map (KZ st.tmps),∀ i∈y.ids,i∈st.ids:=by
  intro y hy i hi;obtain⟨x,_,rfl⟩:=DK.1 hy;cases x with
  | tmp t =>
   rcases Eh t st.tmps.length with h | h
   .exact jX h hi
   .have:KZ st.tmps (.tmp t)= .undef:=by simp [KZ,Dn,Ed h]
    rw[this]at hi;cases hi
  | const v=>have:KZ st.tmps (.const v)=ofConst v:=rfl
             rw[this,Aso]at hi;cases hi
  | global g =>
   have hi:i∈(AvH (Ae7 g)).ids:=hi;cases hg:Ae7 g with
   | none=>rw[hg]at hi;cases hi
   | some q=>rw[hg]at hi;cases hi
  | func f=>cases hi
 obtain⟨hg1,hg2⟩:=Aqr (ops:=ops) (o:=o) hS rfl;have plain: ∀ pre,J6 (TY C o st pre).ok->(∀ O' m' a' w',Sim V0 O0 w0 O' m' (apply st o (TY C o st pre)) a' w'->next a' w')->o.wp P a w next Q:=by intro pre hok hn;unfold TY at hok hn;dsimp only at hok hn;obtain⟨_,hok⟩:=hok.append;obtain⟨hokA,hokB⟩:=hok.append;obtain⟨hok1,hok2⟩:=hokA.append;obtain⟨hB1,hB2⟩:=hokB.cons;have hB2:=hB2.cons.1;obtain⟨hl,hx⟩:=sG hx0 hok1;have hid:=y9 hx0 hok1;have hg:=Amo hC hS (ZT st _) (by rw[hl];simp) (λj hj=>hx j (by rw[<- hl];exact hj)) (λx hx' i hi=>by obtain⟨y,hy,hi'⟩:=hid x hx' i hi;exact .inl (hid0 y hy i hi')) hok2 (λp hp=>(DI.1 hB1) p hp) hB2;exact hg next Q hn
 unfold KI at hok hn;cases hgo:guardOf ops.toList st.tmps o.guard with
 | none=>rw[hgo]at hok;exact(JJ hok).elim
 | some r =>
  cases r with
  | none =>rw[hgo]at hok hn;rw[hg1 hgo,Du rfl];exact plain _ hok hn
  | some g =>
   rw[hgo]at hok hn;rw[hg2 g hgo];dsimp only at hok hn;cases hde:ApU C o with
   | some b =>
    rw[hde]at hok hn;cases b with
    | true =>
     have hg:g=true:=by have:=hok;unfold TY at this;exact(this.append).1.cons.1
     subst hg;rw[Du rfl];exact plain _ hok hn
    | false =>
     have hg:g=false:=by simpa using (show J6 [!g]from hok).cons.1
     subst hg;rw[Dt (by simp)];exact hn O m _ _ (hS.put o.dst (x:=.cnd false .undef) ⟨λh=>by(cases h),λ_=>rfl⟩)
   | none =>
   rw[hde]at hok hn;dsimp only at hok hn;obtain⟨hokA,hokB⟩:=hok.append;obtain⟨h1,hokB⟩:=hokB.cons;obtain⟨h3,hokB⟩:=hokB.cons;obtain⟨hdst,hmg⟩:=hokB.cons;generalize hxs:(Lc o.op (o.op.operands.toList.map (KZ st.tmps)))=sf at *
   generalize hδ :opX C o sf.2 (Kv st sf.2)= δ at *
   have hfet:=ZT st sf.2;generalize hfe:Kv st sf.2=fet at *
   have e1: δ.new=[]:=by simpa using h1
   have e3: δ.del=[]:=by simpa using h3
   have hm2: ∀ p∈ δ.upd,jZ (uC o.op) (J3 fet p.1) p.2=true:=λp hp=>hmg _ (DK.2 ⟨p,hp,rfl⟩);cases g with
   | false =>
    rw[Dt (by simp)];have hS1:=hS.put o.dst (x:=.cnd false δ.val) ⟨λh=>by(cases h),λ_=>rfl⟩
    obtain⟨O1,hS2⟩:=hS1.closes (δ.upd.map (λp=>(p.1,Y7 false (J3 fet p.1) p.2))) (by
     intro q hq;obtain⟨p,hp,rfl⟩:=DK.1 hq;rcases Adh (hm2 p hp)with ⟨_,cs,h1,h2⟩ | ⟨_,e,f,l,l',h1,h2,h3⟩
     .exact .inl ⟨cs,hfet _ _ h1,h2⟩
     .exact .inr ⟨e,f,l,hfet _ _ h1,h3 false⟩)
    exact hn O1 m _ _ hS2
   | true =>
    rw[Du rfl];have hokA':J6 (sf.1++(δ.val.isVal:: δ.ok)):=by intro b hb;have:=hokA (b|| !true) (DK.2 ⟨b,hb,rfl⟩);simpa using this
    obtain⟨hok1,hok2⟩:=hokA'.append;obtain⟨hv,hok2⟩:=hok2.cons;rw[<- hxs]at hok1;obtain⟨hl,hx⟩:=sG hx0 hok1;have hid:=y9 hx0 hok1;rw[hxs]at hl hx hid;have hg:=Amo (xs:=sf.2) (fet:=fet) hC hS hfet (by rw[hl];simp) (λj hj=>hx j (by rw[<- hl];exact hj)) (λx hx' i hi=>by obtain⟨y,hy,hi'⟩:=hid x hx' i hi;exact .inl (hid0 y hy i hi')) (by rw[hδ];exact hok2) (λp hp=>by rw[hδ,e1]at hp;cases hp) (by rw[hδ,e1];rfl);rw[hδ]at hg;refine hg next Q (λO' m' a' w' h=>hn O' m' a' w' ?_)
    have eu: δ.upd.map (λp=>(p.1,Y7 true (J3 fet p.1) p.2))= δ.upd:=by
     conv=>rhs;rw[<- Gf δ.upd]
     refine Eu λp hp=> ?_;rcases Adh (hm2 p hp)with ⟨h1,_⟩ | ⟨hc,e,f,l,l',h1,h2,h3⟩
     .rw[h1];rfl
     .have hcl:=AeZ (C:=C) (fet:=fet) (xs:=sf.2) hc;rw[hδ]at hcl;obtain⟨e',f',h4,_⟩:=hcl p hp _ _ _ h2;rw[h1]at h4;injection h4 with h4;injection h4 with q1 q2 q3;rw[h3 true,q3,<- h2];rfl
    have ea:apply st o δ = {tmps:=put st.tmps o.dst δ.val,Jr:=JH st.Jr δ.upd}:=by unfold apply;rw[e1,e3];rfl
    rw[ea]at h;have eb: ∀ ok,apply st o {ok:=ok,val:=.cnd true δ.val,upd:= δ.upd.map (λp=>(p.1,Y7 true (J3 fet p.1) p.2))}= {tmps:=put st.tmps o.dst (.cnd true δ.val),Jr:=JH st.Jr δ.upd}:=by intro ok;unfold apply;dsimp only;rw[eu];rfl
    rw[eb];refine⟨h.defers,by have:=h.size;dsimp only at this ⊢;rw[YG]at this ⊢;exact this,λt ht=> ?_,h.Jr,h.frame,h.own,h.ids,h.less,h.root,h.WS,h.inv⟩;have ht':t<st.tmps.length:=by have ht2:t<(put st.tmps o.dst (.cnd true δ.val)).length:=ht;rw[YG]at ht2;exact ht2
    have:=h.tmps t (by show t<(put st.tmps o.dst δ.val).length;rw[YG];exact ht');dsimp only at this ⊢;rw[Aes _ _ _ _ ht']at this;rw[Aes _ _ _ _ ht'];by_cases hd:o.dst=some t
    .rw[Du hd]at this ⊢;exact⟨λ_=>this.Ay3 hv,λh=>by(cases h)⟩
    .rw[Dt hd]at this ⊢;exact this
end
section
variable {P:Program} {C:Ctx} {V0:Nat->Value} {O0 O:Own} {w0 w:World} {m:Nat->Value} {st:St} {a:Act}
def Anr (p:Nat->Bool) (l:List (Nat×Obj)) (k:Nat):J3 (l.filter (λq=>p q.1)) k=if p k then J3 l k else none:=by
 induction l with
 | nil=>simp [J3]
 | cons q r ih=>grind[Ol]
def Auk (g:Obj->Obj) (l:List (Nat×Obj)) (k:Nat):J3 (l.map (λq=>(q.1,g q.2))) k=(J3 l k).map g:=by
 induction l with
 | nil=>rfl
 | cons q r ih=>grind[Ol]
theorem drop_length (keep:List Nat): ∀(l:List A) (i:Nat),(drop keep l i).length=l.length:=by
 intro l
 induction l with
 | nil=>intro i;rfl
 | cons x r ih=>intro i;simp [drop,ih]
def As0 (keep:List Nat): ∀(l:List A) (i t:Nat),(drop keep l i).getD t .undef= .undef\/(drop keep l i).getD t .undef=l.getD t .undef:=by
 intro l
 induction l with
 | nil=>grind[drop]
 | cons x r ih =>
  intro i t;cases t with
  | zero=>grind[drop,has]
  | succ t=>simp_all[drop]
def Sim.dropped (hS:Sim V0 O0 w0 O m st a w) (keep Jr:List Nat):Sim V0 O0 w0 O m {tmps:=drop keep st.tmps 0,Jr:=st.Jr.filter (λp=>has Jr p.1)} a w:=by
 have hag: ∀ o x,J3 (st.Jr.filter (λp=>has Jr p.1)) o=some x->J3 st.Jr o=some x:=by
  intro o x h;rw[Anr (has Jr)]at h;split at h
  .exact h
  .cases h
 have hE:TC st.Jr m (st.Jr.filter (λp=>has Jr p.1)) m (λ_=>False):=λo x h=>.inr ⟨x,hag o x h,rfl,rfl⟩;have hp:Nz O w O w:=λ_ _ _ h hc=>⟨h,hc⟩
 refine⟨hS.defers,by rw[hS.size];exact(drop_length _ _ _).symm,λt ht=> ?_,λo x h=> ?_,hS.frame,hS.own,λo x h=>hS.ids o x (hag o x h),hS.less,λo hr ho=>(by obtain⟨x,hx⟩:=EG.1 ho;exact hS.root o hr (by rw[hag o x hx];rfl)),hS.WS,hS.inv⟩
 .have ht':t<st.tmps.length:=by
   all_goals grind[drop,drop_length]
  show JC O _ m w _ ((drop keep st.tmps 0).getD t .undef);rcases As0 keep st.tmps 0 t with h | h
  .rw[h];trivial
  .rw[h];exact(hS.tmps t ht').step hp hE (λ_ _ h=>h)
 .exact(hS.Jr o x (hag o x h)).step (T:=λ_=>False) (Moves.refl O _ w) ⟨λ_ _ _ h=>h,λ_ _ _ _ h _=>h⟩ hE id rfl (λ_ _ h=>h)
def rho (f t o:Nat):Nat:=if o=f then t else o
theorem cO (f t o:Nat):(bif Nat.beq o f then t else o)=rho f t o:=by grind[XB,rho]
def Q9 (f t:Nat):A->A
 | .ptr o off=>.ptr (rho f t o) off
 | .own o=>.own (rho f t o)
 | .clo g o=>.clo g (rho f t o)
 | .bsl o n=>.bsl (rho f t o) n
 | .osl o n=>.osl (rho f t o) n
 | .Ku o i off=>.Ku (rho f t o) i off
 | c=>c
def Avv (f t:Nat) (cs:List A):O7 f t (.agg cs)= .agg (cs.map (Q9 f t)):=by show A.agg (cs.map _)=_;congr 1;refine Eu λc _=> ?_;all_goals grind[Q9,cO]
def Ayr (f t:Nat) (c:A):(∃ cs,c= .agg cs)\/O7 f t c=Q9 f t c:=by cases c<;>first | exact .inl ⟨_,rfl⟩ | exact .inr rfl | (right;simp only[Q9,O7,cO])
structure Ren (O:Own) (Jr:List (Nat×Obj)) (m:Nat->Value) (f t:Nat) (O':Own) (objs':List (Nat×Obj)) (m':Nat->Value):Prop where
 here: ∀ x',J3 objs' t=some x'-> ∃ x,J3 Jr f=some x/\x.shp=x'.shp/\m' t=m f
 there: ∀ o x',o≠t->J3 objs' o=some x'->o≠f/\ ∃ x,J3 Jr o=some x/\x.shp=x'.shp/\m' o=m o
 own: ∀ b k,O' b k=(O b k).map (rho f t)
def Ren.Kr {O':Own} {Jr objs':List (Nat×Obj)} {m':Nat->Value} {f t:Nat} (h:Ren O Jr m f t O' objs' m'):Nz O w O' w:=by intro b k u hn hc;exact⟨by rw[h.own,hn];rfl,hc⟩
def JG.ren {O':Own} {Jr objs':List (Nat×Obj)} {m':Nat->Value} {f t:Nat} (h:Ren O Jr m f t O' objs' m') {v:Value} {c:A} (hn: ∀ i∈c.Nu,i=t->f=t) (hc:JG O Jr m w v c) :
 JG O' objs' m' w v (Q9 f t c):=by
 have key: ∀ o,(o=t->f=t)-> ∀ x',J3 objs' (rho f t o)=some x'-> ∃ x,J3 Jr o=some x/\x.shp=x'.shp/\m' (rho f t o)=m o:=by
  intro o ho x' hx;unfold rho at hx ⊢;by_cases hf:o=f
  .rw[Du hf]at hx ⊢;rw[hf];exact h.here x' hx
  .rw[Dt hf]at hx ⊢;exact(h.there o x' (λe=>hf (by rw[e,ho e])) hx).2
 cases c with
 | ptr o off =>
  simp only[JG,Q9]at *
  refine⟨hc.1,?_⟩;have hc:=hc.2;cases hx:J3 objs' (rho f t o)with
  | none=>simp
  | some x' =>obtain⟨x,h1,h2,h3⟩:=key o (hn o (by simp [A.Nu])) x' hx;rw[h1]at hc;simp only[Option.map_some,h2]at hc;simp only[Option.map_some,h3];exact hc
 | own o =>
  simp only[JG,Q9]at *
  refine⟨hc.1,?_⟩;have hc:=hc.2;cases hx:J3 objs' (rho f t o)with
  | none=>simp
  | some x' =>obtain⟨x,h1,h2,h3⟩:=key o (hn o (by simp [A.Nu])) x' hx;rw[h1]at hc;simp only[Option.map_some,h2]at hc;simp only[Option.map_some,h3];exact hc
 | clo k o =>
  simp only[JG,Q9]at *
  obtain⟨h0,p,h4,h5,hc⟩:=hc;refine⟨h0,p,h4,h5.Kr h.Kr,?_⟩;cases hx:J3 objs' (rho f t o)with
  | none=>simp
  | some x' =>obtain⟨x,h1,h2,h3⟩:=key o (hn o (by simp [A.Nu])) x' hx;rw[h1]at hc;simp only[Option.map_some,h2]at hc;simp only[Option.map_some,h3];exact hc
 | bsl o n =>
  simp only[JG,Q9]at *
  refine⟨hc.1,?_⟩;have hc:=hc.2;cases hx:J3 objs' (rho f t o)with
  | none=>simp
  | some x' =>obtain⟨x,h1,h2,h3⟩:=key o (hn o (by simp [A.Nu])) x' hx;rw[h1]at hc;simp only[Option.map_some,h2]at hc;simp only[Option.map_some,h3];exact hc
 | osl o n =>
  simp only[JG,Q9]at *
  refine⟨hc.1,?_⟩;have hc:=hc.2;cases hx:J3 objs' (rho f t o)with
  | none=>simp
  | some x' =>obtain⟨x,h1,h2,h3⟩:=key o (hn o (by simp [A.Nu])) x' hx;rw[h1]at hc;simp only[Option.map_some,h2]at hc;simp only[Option.map_some,h3];exact hc
 | Ku o i off =>
  simp only[JG,Q9]at *
  refine⟨hc.1,?_⟩;have hc:=hc.2;cases hx:J3 objs' (rho f t o)with
  | none=>simp
  | some x' =>obtain⟨x,h1,h2,h3⟩:=key o (hn o (by simp [A.Nu])) x' hx;rw[h1]at hc;simp only[Option.map_some,h2]at hc;simp only[Option.map_some,h3];exact hc
 | elt cs =>obtain⟨b,off,hv,hc⟩:=hc;refine⟨b,off,hv,λj hj=> ?_⟩;obtain⟨h1,u,h2,h3⟩:=hc j hj;obtain⟨h4,h5⟩:=h.Kr _ _ _ h1 h2;exact⟨h4,u,h5,h3.Kr h.Kr⟩
 | fn f=>exact J5.Kr h.Kr hc
 | ump _=>exact hc
 | undef=>exact hc
 | Lt=>exact hc
 | bool b=>exact J5.Kr h.Kr hc
 | int k n=>exact J5.Kr h.Kr hc
 | str s=>exact J5.Kr h.Kr hc
 | sl l=>exact J5.Kr h.Kr hc
 | sln l=>exact J5.Kr h.Kr hc
 | Mc=>exact J5.Kr h.Kr hc
 | usl _ _ _=>exact hc
 | agg _=>exact hc
 | tup _=>exact hc
 | box _=>exact hc
 | cbx _ _=>exact hc
 | cnd _ _=>exact hc
def Ren.exts {O':Own} {Jr objs':List (Nat×Obj)} {m':Nat->Value} {f t:Nat} (h:Ren O Jr m f t O' objs' m'):TC Jr m objs' m' (λo=>o=t/\f≠t):=by
 intro o x' hx;by_cases ho:o=t
 .subst ho;by_cases hf:f=o
  .right;obtain⟨x,h1,h2,h3⟩:=h.here x' hx;rw[hf]at h1 h3;exact⟨x,h1,h2,h3⟩
  .exact .inl ⟨rfl,hf⟩
 .exact .inr (h.there o x' ho hx).2
def JC.ren {O':Own} {Jr objs':List (Nat×Obj)} {m':Nat->Value} {f t:Nat} (h:Ren O Jr m f t O' objs' m') {v:Value} {c:A} (hn: ∀ i∈c.ids,i=t->f=t) (hc:JC O Jr m w v c) :
 JC O' objs' m' w v (O7 f t c):=by
 cases c with
 | agg cs =>
  rw[Avv];obtain⟨vs,h1,h2,h3⟩:=hc;refine⟨vs,h1,by simpa using h2,λj hj=> ?_⟩;have hj':j<cs.length:=by simpa using hj
  have e:(cs.map (Q9 f t)).getD j .undef=Q9 f t (cs.getD j .undef):=by simp [Dn,hj']
  rw[e];exact(h3 j hj').ren h (λi hi=>hn i (Uy (f:=A.Nu) hj' hi))
 | tup l=>exact JC.step h.Kr h.exts (λo ho hN=>hN.2 (hn o ho hN.1)) hc
 | cnd g c=>exact JC.step h.Kr h.exts (λo ho hN=>hN.2 (hn o ho hN.1)) hc
 | undef=>trivial
 | ptr o off =>
  have e:O7 f t (.ptr o off)=Q9 f t (.ptr o off):=by simp only[Q9,O7,cO]
  rw[e];exact JG.ren (w:=w) (m:=m) (c:=.ptr o off) h hn hc
 | own o =>
  have e:O7 f t (.own o)=Q9 f t (.own o):=by simp only[Q9,O7,cO]
  rw[e];exact JG.ren (w:=w) (m:=m) (c:=.own o) h hn hc
 | clo g o =>
  have e:O7 f t (.clo g o)=Q9 f t (.clo g o):=by simp only[Q9,O7,cO]
  rw[e];exact JG.ren (w:=w) (m:=m) (c:=.clo g o) h hn hc
 | bsl o n =>
  have e:O7 f t (.bsl o n)=Q9 f t (.bsl o n):=by simp only[Q9,O7,cO]
  rw[e];exact JG.ren (w:=w) (m:=m) (c:=.bsl o n) h hn hc
 | osl o n =>
  have e:O7 f t (.osl o n)=Q9 f t (.osl o n):=by simp only[Q9,O7,cO]
  rw[e];exact JG.ren (w:=w) (m:=m) (c:=.osl o n) h hn hc
 | Ku o i off =>
  have e:O7 f t (.Ku o i off)=Q9 f t (.Ku o i off):=by simp only[Q9,O7,cO]
  rw[e];exact JG.ren (w:=w) (m:=m) (c:=.Ku o i off) h hn hc
 | bool b=>exact JG.ren (w:=w) (m:=m) (c:=.bool b) h hn hc
 | int k n=>exact JG.ren (w:=w) (m:=m) (c:=.int k n) h hn hc
 | str s=>exact JG.ren (w:=w) (m:=m) (c:=.str s) h hn hc
 | sl l=>exact JG.ren (w:=w) (m:=m) (c:=.sl l) h hn hc
 | sln l=>exact JG.ren (w:=w) (m:=m) (c:=.sln l) h hn hc
 | Lt=>exact JG.ren (w:=w) (m:=m) (c:=.Lt) h hn hc
 | Mc=>exact JG.ren (w:=w) (m:=m) (c:=.Mc) h hn hc
 | elt cs=>exact JG.ren (w:=w) (m:=m) (c:=.elt cs) h hn hc
 | fn g=>exact JG.ren (w:=w) (m:=m) (c:=.fn g) h hn hc
 | ump _=>exact hc
 | usl _ _ _=>exact hc
 | box _=>exact hc
 | cbx _ _=>exact hc
def JG.O7 {O':Own} {Jr objs':List (Nat×Obj)} {m':Nat->Value} {f t:Nat} (h:Ren O Jr m f t O' objs' m') {v:Value} {c:A} (hn: ∀ i∈c.Nu,i=t->f=t) (hc:JG O Jr m w v c) :
 JG O' objs' m' w v (Vm.O7 f t c):=by
 rcases Ayr f t c with ⟨cs,rfl⟩ | e
 .exact hc.elim
 .rw[e];exact hc.ren h hn
def Lm.ren {O':Own} {Jr objs':List (Nat×Obj)} {m':Nat->Value} {f t:Nat} (h:Ren O Jr m f t O' objs' m') {o:Nat} {x:Obj} (hm:m' (rho f t o)=m o) (hn: ∀ i∈x.ids,i=t->f=t) (hx:Lm O Jr m w o x) :
 Lm O' objs' m' w (rho f t o) (Ab2 f t x):=by
 cases x with
 | box cs =>
  obtain⟨b,base,h1,h2⟩:=hx;refine⟨b,base,by rw[hm];exact h1,λj hj=> ?_⟩;have hj':j<cs.length:=by simpa using hj
  obtain⟨h3,h4,u,h5,h6⟩:=h2 j hj';refine⟨by rw[h.own,h3];rfl,h4,u,h5,?_⟩;have e:(cs.map (Vm.O7 f t)).getD j .undef=Vm.O7 f t (cs.getD j .undef):=by simp [Dn,hj']
  rw[e];exact h6.O7 h (λi hi=>hn i (Uy (f:=A.Nu) hj' hi))
 | arr e frz l =>
  obtain⟨h0,hx⟩:=hx;refine⟨h0,?_⟩;rcases hx with ⟨h1,h2,h3⟩ | ⟨h1,g,cap,cur,h2,h3,h4,h5,h6,h7,h8,h9⟩
  .exact .inl ⟨h1,h2,by rw[hm];exact h3⟩
  .refine .inr ⟨h1,g,cap,cur,by rw[hm];exact h2,h3,h4,h5,h6,λi j hi hj=> ?_,λk hk hge=> ?_,λk hk=> ?_⟩
   .obtain⟨u,h10,h11⟩:=h7 i j hi hj;exact⟨u,h10,h11.Kr h.Kr⟩
   .rw[h.own,h8 k hk hge];rfl
   .rw[h.own,h9 k hk];cases frz<;>rfl
 | mp l =>
  obtain⟨r,es,ck,h1,h2,h3,h4,h5⟩:=(show QD O w o (m o) l from hx)
  refine(⟨r,es,ck,by rw[hm];exact h1,h2,by rw[h.own,h3];rfl,h4,λi p hi=> ?_⟩:QD O' w (rho f t o) (m' (rho f t o)) l);obtain⟨e,k1,k2,k3⟩:=h5 i p hi;exact⟨e,k1,k2.Kr h.Kr,k3.Kr h.Kr⟩
def Sim.renamed (hS:Sim V0 O0 w0 O m st a w) {f t:Nat} {x:Obj} (hf:J3 st.Jr f=some x) (ht:f=t\/Qk st t) :
 ∃ O' m',Sim V0 O0 w0 O' m' {tmps:=st.tmps.map (O7 f t),Jr:=(Ns (TE st.Jr f) t x).map (λp=>(p.1,Ab2 f t p.2))} a w:=by
 have hag: ∀ o,J3 ((Ns (TE st.Jr f) t x).map (λp=>(p.1,Ab2 f t p.2))) o=(if o=t then some x else if o=f then none else J3 st.Jr o).map (Ab2 f t):=by intro o;rw[Auk,KO,lH]
 have hshp: ∀ y,(Ab2 f t y).shp=y.shp:=by intro y;cases y<;>rfl
 have h255:f≠255:=hS.ids f x hf
 have hR:Ren O st.Jr m f t (λb k=>(O b k).map (rho f t)) ((Ns (TE st.Jr f) t x).map (λp=>(p.1,Ab2 f t p.2))) (λo=>if o=t then m f else m o):=by
  refine⟨λx' hx=> ?_,λo x' ho hx=> ?_,λ_ _=>rfl⟩
  .rw[hag,Du rfl]at hx;simp only[Option.map_some,F9]at hx;exact⟨x,hf,by rw[<- hx,hshp],Du rfl⟩
  .rw[hag,Dt ho]at hx;by_cases hof:o=f
   .rw[Du hof]at hx;cases hx
   .rw[Dt hof]at hx;cases hy:J3 st.Jr o with
    | none=>rw[hy]at hx;cases hx
    | some y =>rw[hy]at hx;simp only[Option.map_some,F9]at hx;exact⟨hof,y,rfl,by rw[<- hx,hshp],Dt ho⟩
 have hids: ∀ i∈st.ids,i=t->f=t:=by
  intro i hi he;rcases ht with h | h
  .exact h
  .exact absurd (he▸hi) h.ids
 have hmr: ∀ o,(o=t->f=t)->(λo=>if o=t then m f else m o) (rho f t o)=m o:=by all_goals grind[rho]
 refine⟨(λb k=>(O b k).map (rho f t)),(λo=>if o=t then m f else m o),hS.defers,by rw[hS.size];simp,λi hi=> ?_,λo y hy=> ?_,hS.frame,λb k o hb ho hne=> ?_,λo y hy=> ?_,λb k hb h=>hS.less b k hb (λe=>h (by show(O b k).map _=none;rw[e];rfl)),λo hr ho=> ?_,λb k hb h=>by show(O b k).map (rho f t)=_;rw[hS.WS b k hb h];exact congrArg some (Dt (λe=>h255 e.symm)),hS.inv⟩
 .have hi':i<st.tmps.length:=by simpa using hi
  have e:(st.tmps.map (O7 f t)).getD i .undef=O7 f t (st.tmps.getD i .undef):=by simp [Dn,hi']
  show JC _ _ _ _ _ ((st.tmps.map (O7 f t)).getD i .undef);rw[e];exact(hS.tmps i hi').ren hR (λj hj=>hids j (jX hi' hj))
 .have hy':=hy;dsimp only at hy;rw[hag]at hy;by_cases h1:o=t
  .rw[Du h1]at hy;simp only[Option.map_some,F9]at hy;subst hy;have:=(hS.Jr f x hf).ren hR (hmr f (λe=>e)) (λi hi=>hids i (Y6 hf hi));have e:rho f t f=t:=Du rfl;rw[e]at this;rw[h1];exact this
  .rw[Dt h1]at hy;by_cases h2:o=f
   .rw[Du h2]at hy;cases hy
   .rw[Dt h2]at hy;cases hz:J3 st.Jr o with
    | none=>rw[hz]at hy;cases hy
    | some z =>rw[hz]at hy;simp only[Option.map_some,F9]at hy;subst hy;have:=(hS.Jr o z hz).ren hR (hmr o (λe=>absurd e h1)) (λi hi=>hids i (Y6 hz hi));have e:rho f t o=o:=Dt h2;rw[e]at this;exact this
 .cases hq:O b k with
  | none =>have:(O b k).map (rho f t)=some o:=ho;rw[hq]at this;cases this
  | some o1 =>have:(O b k).map (rho f t)=some o:=ho;rw[hq]at this;simp only[Option.map_some,F9]at this;refine hS.own b k o1 hb hq (λe=>hne ?_);rw[<- this,e];exact Dt (λe=>h255 e.symm)
 .dsimp only at hy;rw[hag]at hy;by_cases h1:o=t
  .rw[h1];rcases ht with h | h
   .rw[<- h];exact h255
   .exact h.ne
  .rw[Dt h1]at hy;by_cases h2:o=f
   .rw[h2];exact h255
   .rw[Dt h2]at hy;cases hz:J3 st.Jr o with
    | none=>rw[hz]at hy;cases hy
    | some z=>exact hS.ids o z hz
 .dsimp only at ho ⊢;rw[hag]at ho;by_cases h1:o=t
  .rw[Du h1];rcases ht with h | h
   .rw[h1,<- h];exact hS.root f (by rw[h,<- h1];exact hr) (by rw[hf];rfl)
   .rw[h1,h.root]at hr;cases hr
  .rw[Dt h1]at ho ⊢;by_cases h2:o=f
   .rw[Du h2]at ho;cases ho
   .rw[Dt h2]at ho;refine hS.root o hr ?_;cases hz:J3 st.Jr o with
    | none=>rw[hz]at ho;cases ho
    | some z=>rfl
def Arj: ∀(l:List (Nat×Nat)) {O:Own} {m:Nat->Value} {st:St},Sim V0 O0 w0 O m st a w->(Ab3 st l).1=true-> ∃ O' m',Sim V0 O0 w0 O' m' (Ab3 st l).2 a w:=by
 intro l
 induction l with
 | nil=>intro O m st hS _;exact⟨O,m,hS⟩
 | cons p r ih =>
  intro O m st hS h;obtain⟨f,t⟩:=p;simp only[Ab3]at h ⊢;cases hx:J3 st.Jr f with
  | none=>rw[hx]at h;exact ih hS h
  | some x =>
   rw[hx]at h;dsimp only at h ⊢;rw[Dw,XB]at h
   obtain⟨O1,m1,hS1⟩:=hS.renamed (t:=t) hx (by
    by_cases hft:f=t
    .exact .inl hft
    .have h1:=h.1;rw[show decide (f=t)=false by simpa using hft]at h1;exact .inr (NQ h1))
   exact ih hS1 h.2
def Aqo: ∀(l:List Nat) {O:Own} {st:St},Sim V0 O0 w0 O m st a w-> ∃ O',Sim V0 O0 w0 O' m {st with Jr:=Al7 st.Jr l} a w:=by
 intro l
 induction l with
 | nil=>intro O st hS;exact⟨O,hS⟩
 | cons n r ih =>
  intro O st hS;simp only[Al7];cases hx:J3 st.Jr n with
  | none=>exact ih hS
  | some x =>
   cases x with
   | mp _=>exact ih hS
   | box cs=>exact ih hS
   | arr e f l =>obtain⟨O1,hS1,_⟩:=hS.qO hx;exact ih hS1
def wB {t:Nat} {v:Value} (hs:a.tmps.getD t undef=v) (hlt:t<a.tmps.size):a.put (some t) v=a:=by
 have:a.tmps.setIfInBounds t v=a.tmps:=by apply Array.ext_getElem?;intro i;rw[Fa];by_cases hi:t=i;all_goals simp_all[getD_eq,hs]
 simp only[Act.put,this]
theorem AsP {x:A} (h:qU x=true):x= .Lt:=by cases x<;>first | rfl | cases h
def Arp {id:Nat}: ∀(ts:List Nat) {O:Own} {m:Nat->Value} {st:St},Sim V0 O0 w0 O m st a w->(∀ t∈ts,t<st.tmps.length)->(∀ t∈ts,JG O st.Jr m w (a.tmps.getD t undef) (.own id)) ->
 Sim V0 O0 w0 O m {st with tmps:=Ab7 id ts st.tmps} a w:=by
 intro ts
 induction ts with
 | nil=>intro O m st hS _ _;exact hS
 | cons t r ih =>intro O m st hS hl hc;have hlt:=hl t Dy;have h1:=hS.put (some t) (x:=.own id) (v:=a.tmps.getD t undef) ((hc t Dy).toT);rw[wB rfl (by rw[hS.size];exact hlt)]at h1;exact ih (st:= {st with tmps:=st.tmps.set t (.own id)}) h1 (λq hq=>by simpa using hl q (Dz _ hq)) (λq hq=>hc q (Dz _ hq))
def Arc: ∀(l:List (List Nat×Nat×Ty×Nat)) {O:Own} {m:Nat->Value} {st:St},Sim V0 O0 w0 O m st a w->(owns l st).1=true-> ∃ O' m',Sim V0 O0 w0 O' m' (owns l st).2 a w:=by
 intro l
 induction l with
 | nil=>intro O m st hS _;exact⟨O,m,hS⟩
 | cons p r ih =>
  intro O m st hS h;obtain⟨ts,e,ty,id⟩:=p;unfold owns at h ⊢;cases hany:ts.any (λt=>qU (st.tmps.getD t .undef))with
  | false=>rw[hany]at h;exact ih hS h
  | true =>
   rw[hany]at h;simp only[cond_true]at h ⊢;rw[Dw,Dw]at h;obtain⟨⟨h1,h2⟩,h3⟩:=h;have hall: ∀ t∈ts,st.tmps.getD t .undef= .Lt/\t<st.tmps.length:=by all_goals grind[AsP]
   have hval: ∀ t∈ts,a.tmps.getD t undef= .slice none 0 0:=by intro t ht;have hv:=hS.tmps t (hall t ht).2;rw[(hall t ht).1]at hv;exact hv
   cases ts with
   | nil=>cases hany
   | cons t ts =>
    have hlt:=(hall t Dy).2;obtain⟨O',m',hS'⟩:=vK hS (d:=t) (e:=e) (t:=ty) (frz:=false) (del:=[]) (NQ h2);rw[wB (hval t Dy) (by rw[hS.size];exact hlt)]at hS';have hslot:=hS'.tmps t (by simpa using hlt);have e0:(st.tmps.set t (.own id)).getD t .undef= .own id:=by simp [Dn,hlt]
    rw[e0,hval t Dy]at hslot;have hfin:=Arp (a:=a) ts hS' (λq hq=>by simpa using (hall q (Dz _ hq)).2) (λq hq=>by rw[hval q (Dz _ hq)];exact hslot);exact ih hfin h3
def Atx: ∀(l:List (Option Nat×Nat×Ty)) {O:Own} {st:St},Sim V0 O0 w0 O m st a w-> ∃ O',Sim V0 O0 w0 O' m (pzs l st) a w:=by
 intro l
 induction l with
 | nil=>intro O st hS;exact⟨O,hS⟩
 | cons p r ih =>
  intro O st hS;obtain⟨b,j,ty⟩:=p;cases b with
  | none =>
   unfold pzs;cases hx:st.tmps.getD j .undef with
   | Lt =>
    dsimp only
    have hlt:j<st.tmps.length:=by
     rcases Eh j st.tmps.length with h | h
     .exact h
     .rw[Dn,Ed h]at hx;cases hx
    have hc:=hS.tmps j hlt;rw[hx]at hc;have hc:a.tmps.getD j undef= .slice none 0 0:=hc;have h2:=hS.put (some j) (x:=.sl ⟨ty,[]⟩) (v:=a.tmps.getD j undef) (by rw[hc];exact J5.nil ty);rw[wB rfl (by rw[hS.size];exact hlt)]at h2;exact ih h2
   | own o =>
    dsimp only;cases ho:J3 st.Jr o with
    | none=>exact ih hS
    | some y =>
     cases y with
     | box _=>exact ih hS
     | mp _=>exact ih hS
     | arr e f l =>
      dsimp only;obtain⟨O1,hS1,hp1,_,hv1,_⟩:=hS.qO ho
      have hlt:j<st.tmps.length:=by
       rcases Eh j st.tmps.length with h | h
       .exact h
       .rw[Dn,Ed h]at hx;cases hx
      have hc:=hS.tmps j hlt;rw[hx]at hc;have hc:JG O st.Jr m w (a.tmps.getD j undef) (.own o):=hc;have hc2:=hc.2;rw[ho]at hc2;have hm:a.tmps.getD j undef=m o:=hc2;have h2:=hS1.put (some j) (x:=.sl l) (v:=a.tmps.getD j undef) (by rw[hm];exact hv1);rw[wB rfl (by rw[hS.size];exact hlt)]at h2;exact ih h2
   | _=>exact ih hS
  | some b =>
   unfold pzs;cases hb:J3 st.Jr b with
   | none=>exact ih hS
   | some y =>
    cases y with
    | arr _ _ _=>exact ih hS
    | mp _=>exact ih hS
    | box cs =>
     dsimp only;cases hx:cs.getD j .undef with
     | own o =>
      dsimp only;cases ho:J3 st.Jr o with
      | none=>exact ih hS
      | some y =>
       cases y with
       | box _=>exact ih hS
       | mp _=>exact ih hS
       | arr e f l =>
        dsimp only;obtain⟨O1,hS1,hp1,_,hv1,_⟩:=hS.qO ho;have hbo:b≠o:=λh=>by rw[h,ho]at hb;cases hb
        have hb1:J3 (Ns st.Jr o (.arr e true l)) b=some (.box cs):=by rw[KO,Dt hbo];exact hb
        have ho1:J3 (Ns st.Jr o (.arr e true l)) o=some (.arr e true l):=by rw[KO,Du rfl]
        have hjl:j<cs.length:=by
         rcases Eh j cs.length with h | h
         .exact h
         .rw[Dn,Ed h]at hx;cases hx
        have hE:TC (Ns st.Jr o (.arr e true l)) m (Ns (Ns st.Jr o (.arr e true l)) b (.box (cs.set j (.sl l)))) m (λ_=>False):=by
         intro q z hz;rw[KO]at hz;by_cases hq:q=b
         .rw[Du hq]at hz;injection hz with hz;subst hz;exact .inr ⟨.box cs,by rw[hq];exact hb1,rfl,rfl⟩
         .rw[Dt hq]at hz;exact .inr ⟨z,hz,rfl,rfl⟩
        have h2:=hS1.next (st':= {st with Jr:=Ns (Ns st.Jr o (.arr e true l)) b (.box (cs.set j (.sl l)))}) (d:=none) (v:=undef) (x:=.undef) (T:=λ_=>False) (Nw:=λ_=>False) (Moves.refl O1 _ w) ⟨λ_ _ _ h=>h,λ_ _ _ _ h _=>h⟩ (λ_ _ _ h=>h) hE (λ_ h=>h.elim) (λ_ h=>h.elim)
         (λq z hz=>by
           rw[KO]at hz;by_cases hq:q=b
           .rw[Du hq]at hz;injection hz with hz;subst hz;right;obtain⟨bk,base,g1,g2⟩:=hS1.Jr b _ hb1;rw[hq];refine⟨⟨bk,base,g1,λi hi=> ?_⟩,hS.ids b _ hb⟩;rw[FN]at hi;obtain⟨k1,k2,u,k3,k4⟩:=g2 i hi;refine⟨k1,k2,u,k3,?_⟩;by_cases hij:j=i
            .subst hij;have e1:(cs.set j (.sl l)).getD j .undef= .sl l:=by simp [Dn,hjl]
             rw[e1];rw[hx]at k4;have k5:=k4.2;rw[ho1]at k5;have hm:u=m o:=k5;rw[hm];exact hv1
            .have e1:(cs.set j (.sl l)).getD i .undef=cs.getD i .undef:=by
              simp only[Dn,Gj];rw[Dt hij]
             rw[e1];exact k4.step (λ_ _ _ h hc=>⟨h,hc⟩) hE (λ_ _ h=>h)
           .rw[Dt hq]at hz;exact .inl ⟨λh=>h,hz,rfl⟩) rfl (λh=>absurd rfl h)
        exact ih h2
     | _=>exact ih hS
def AqL (hS:Sim V0 O0 w0 O m st a w) {key:Nat} (h:(norm C key st).1=true): ∃ O' m',Sim V0 O0 w0 O' m' (norm C key st).2 a w:=by
 unfold norm at h ⊢;cases hn:C.nrm key with
 | none=>exact⟨O,m,hS⟩
 | some n =>rw[hn]at h;dsimp only at h ⊢;rw[Dw]at h;obtain⟨O4,hS4⟩:=Atx n.pz hS;obtain⟨O1,m1,hS1⟩:=Arj n.ren (hS4.dropped n.keep (reached (drop n.keep (pzs n.pz st).tmps 0) (pzs n.pz st).Jr)) h.1;obtain⟨O3,m3,hS3⟩:=Arc n.nw hS1 h.2;obtain⟨O2,hS2⟩:=Aqo n.frz hS3;exact⟨O2,m3,hS2⟩
def AaG {ρ :Type} (hS:Sim V0 O0 w0 O m st a w) {key:Nat} {K:St->Option ρ} {r: ρ} (h:UR C key st K=some r): ∃ O' m' st',Sim V0 O0 w0 O' m' st' a w/\K st'=some r:=by
 unfold UR at h;cases hn:(norm C key st).1 with
 | false =>have h':(bif (norm C key st).1 then K (norm C key st).2 else none)=some r:=h;rw[hn]at h';cases h'
 | true =>have h':(bif (norm C key st).1 then K (norm C key st).2 else none)=some r:=h;rw[hn]at h';obtain⟨O1,m1,hS1⟩:=AqL hS hn;exact⟨O1,m1,_,hS1,h'⟩
def vJ {ρ :Type} (hS:Sim V0 O0 w0 O m st a w) {kind:Nat} {c:Code} {K:St->Option ρ} {r: ρ} (h:meet C kind c st K=some r): ∃ O' m' st',Sim V0 O0 w0 O' m' st' a w/\K st'=some r:=by
 unfold meet at h;cases hn:MI c with
 | none=>rw[hn]at h;exact⟨O,m,st,hS,h⟩
 | some n=>rw[hn]at h;exact AaG hS h
end
end Go.Proofs.YtacidcemomccpaaGreatDoor.Vm
