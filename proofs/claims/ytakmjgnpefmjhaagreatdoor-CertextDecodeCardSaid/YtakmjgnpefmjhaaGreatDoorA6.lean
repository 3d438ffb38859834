import Derived.Test.YtakmjgnpefmjhaaGreatDoorA5
import Derived.Scope
import Derived.LoopN
import Derived.Tactics
set_option linter.all false
namespace Go.Proofs.YtakmjgnpefmjhaaGreatDoor.Vm
open Classical
structure OD (P:Program) (C:Ctx):Prop where
 T:TOk P C
 G: ∀ f sg,C.G f=some sg->Spec P f sg
 alt: ∀ f q,C.alt f=some q->Spec P f q.1/\Spec P f q.2.1
 dyn: ∀ t F,C.dyn t=some F->(∀ xs,(F 0).ok xs=false)/\ ∀ f xs,(F (f+1)).ok xs=true->Spec P f (F (f+1))
theorem OD.put {P:Program} {C:Ctx} (h:OD P C) {f:Nat} {s:Sig} (hs:Spec P f s):OD P (C.put f s):=⟨h.T,fun k sg hk=>by
 have hk':(bif Nat.beq f k then some s else C.G k)=some sg:=hk;cases hb:Nat.beq f k with
 | true=>simp_all
 | false=>rw[hb]at hk';exact h.G k sg hk',h.alt,h.dyn⟩
def AzZ {a b:A} (h:eqC a b=true):a=b:=by
 unfold eqC at h;split at h
 .rw[FT h]
 .rw[Dv]at h;rw[A.Si h.1,FT h.2]
 .rw[FT h]
 .cases h
def Ats {fet:Fet} {x:A} {j:Nat} {δ :Dl} (h:JC (V5 fet x j δ).ok):JC δ.ok/\(V5 fet x j δ).val= δ.val/\(V5 fet x j δ).new= δ.new/\(V5 fet x j δ).upd= δ.upd/\(V5 fet x j δ).del= δ.del:=by
 unfold V5 at *
 cases x with
 | ptr q off =>
  dsimp only at h ⊢;cases hb:MK fet q with
  | none=>rw[hb]at h;exact⟨h,rfl,rfl,rfl,rfl⟩
  | some cs =>
   rw[hb]at h;dsimp only at h ⊢;cases hc:Nat.blt j cs.length&& δ.upd.all (fun p=> !(Nat.beq p.1 q)||AjN cs.length p.2)with
   | false=>rw[hc]at h;exact⟨h,rfl,rfl,rfl,rfl⟩
   | true =>
    rw[hc]at h;obtain⟨h1,h2⟩:=(show JC (δ.ok++_)from h).append;refine⟨h1,rfl,rfl,?_,rfl⟩;show δ.upd.map _= δ.upd
    conv=>rhs;rw[<- FW δ.upd]
    refine EK fun p hp=> ?_;have h3:=h2 _ (DD.2 ⟨p,hp,rfl⟩);cases hq:Nat.beq p.1 q with
    | false=>rfl
    | true =>
     rw[hq]at h3;have h3:eqU j (cs.getD j .undef) p.2=true:=h3;obtain⟨n,y⟩:=p;cases y with
     | box ds =>
      have h4:=AzZ (show eqC (ds.getD j .undef) (cs.getD j .undef)=true from h3);show(n,Obj.box (ds.set j (cs.getD j .undef)))=(n,Obj.box ds);rw[<- h4];congr 2;apply Je;intro i;rw[Gh];by_cases hij:j=i
      .subst hij;rw[Dq rfl];by_cases hl:j<ds.length
       .simp [hl,Dp]
       .simp [hl]
      .rw[Dt hij]
     | _=>cases h3
 | _=>exact⟨h,rfl,rfl,rfl,rfl⟩
def Atv {fet:Fet} {xs:List A}: ∀(ks:List (Nat×Nat)) {δ :Dl},JC (keepD fet xs ks δ).ok->JC δ.ok/\(keepD fet xs ks δ).val= δ.val/\(keepD fet xs ks δ).new= δ.new/\(keepD fet xs ks δ).upd= δ.upd/\(keepD fet xs ks δ).del= δ.del:=by
 intro ks
 induction ks with
 | nil=>intro δ h;exact⟨h,rfl,rfl,rfl,rfl⟩
 | cons k ks ih =>intro δ h;obtain⟨i,j⟩:=k;obtain⟨h1,h2,h3,h4,h5⟩:=ih (δ :=V5 fet (xs.getD i .undef) j δ) h;obtain⟨g1,g2,g3,g4,g5⟩:=Ats h1;exact⟨g1,h2.trans g2,h3.trans g3,h4.trans g4,h5.trans g5⟩
def OD.decide {P:Program} {C:Ctx} (h:OD P C) (ds:List Nat) (b:Bool):OD P (C.decide ds b):=⟨h.T,h.G,h.alt,h.dyn⟩
section
variable {P:Program} {C:Ctx} {V0:Nat->Value} {O0 O:Own} {w0 w:World} {m:Nat->Value} {st:St} {a:Act} {o:Oper}
def len1 {xs:List A} (h:xs.length=1): ∃ x,xs=[x]:=GV.1 h
def Aih {xs:List A} (h:xs.length=2): ∃ x y,xs=[x,y]:=by
 match xs,h with
 | [x,y],_=>exact⟨x,y,rfl⟩
def A0i {xs:List A} (h:xs.length=3): ∃ x y z,xs=[x,y,z]:=by
 match xs,h with
 | [x,y,z],_=>exact⟨x,y,z,rfl⟩
def AjY {δ :Dl} (h:JC δ.ok) (e: δ = .no):False:=by rw[e]at h;exact JQ h
def pU {t:Nat} {x:Operand} {lo hi:Option Operand} (hC:TOk P C) (hS:Sim V0 O0 w0 O m st a w) (ho:o.op= .slice t x lo hi none) {fet:Fet} (hf:Qj st.Jr fet) {x':A} {lo' hi':Option A} (hx:JK O st.Jr m w (a.eval x) x')
 (hlo:ORl O st.Jr m w (lo.map a.eval) lo') (hhi:ORl O st.Jr m w (hi.map a.eval) hi') (hok:JC (Nb C fet t x' lo' hi').ok):Good P V0 O0 w0 (apply st o (Nb C fet t x' lo' hi')) o a w:=by
 cases x' with
 | str s=>exact(Awl hC ho rfl hx hlo hhi hok).good hS
 | sl l=>exact(AxS hC ho rfl hx hlo hhi hok).good hS
 | own q=>grind[AnR]
 | _=>grind[Nb,KN,JQ]
def Ayn {k:A->Dl} {v:List A} (h:JC (a1 k v).ok): ∃ x,v=[x]:=by
 match v,h with
 | [x],_=>exact⟨x,rfl⟩
 | [],h=>exact(JQ h).elim
 | _::_::_,h=>exact(JQ h).elim
def Aob {k:A->A->Dl} {v:List A} (h:JC (a2 k v).ok): ∃ x y,v=[x,y]:=by
 match v,h with
 | [x,y],_=>exact⟨x,y,rfl⟩
 | [],h=>exact(JQ h).elim
 | [_],h=>exact(JQ h).elim
 | _::_::_::_,h=>exact(JQ h).elim
set_option maxHeartbeats 1000000 in
def ApX (hCx:OD P C) (hS:Sim V0 O0 w0 O m st a w) {fet:Fet} (hf:Qj st.Jr fet) {xs:List A} (hl:xs.length=o.op.operands.size) (hx: ∀ j,j<xs.length->JK O st.Jr m w (a.eval (o.op.operands.getD j (.tmp 0))) (xs.getD j .undef))
 (hids: ∀ x∈xs,∀ i∈x.ids,i∈st.ids\/(J5 st.Jr i).isSome)
 (hok:JC (opX C o xs fet).ok) (hfr: ∀ p∈(opX C o xs fet).new,st.fresh p.1=true) (hnd:nodup ((opX C o xs fet).new.map (·.1))=true):Good P V0 O0 w0 (apply st o (opX C o xs fet)) o a w:=by
 have hC:=hCx.T;have hF:FOk O st.Jr m w fet:=fun q x h=>⟨hf q x h,hS.Jr q x (hf q x h)⟩
 obtain⟨dst,op,ty,pos,after,guard⟩:=o;cases op with
 | move x =>obtain⟨x',rfl⟩:=len1 hl;exact(Am1 (o:=⟨dst,.move x,ty,pos,after,guard⟩) (.inl rfl) (hx 0 (by simp))).good hS
 | assign x =>obtain⟨x',rfl⟩:=len1 hl;exact(Am1 (o:=⟨dst,.assign x,ty,pos,after,guard⟩) (.inr rfl) (hx 0 (by simp))).good hS
 | pick c x y =>obtain⟨c',x',y',rfl⟩:=A0i hl;exact(AvW rfl (hx 0 (by simp)) (hx 1 (by simp)) (hx 2 (by simp)) hok).good hS
 | alloc t =>obtain rfl:xs=[]:=Fz hl;obtain⟨d,hd,he⟩:=JX (show JC (KI dst fun d=>jU C d t).ok from hok);have e1:opX C ⟨dst,.alloc t,ty,pos,after,guard⟩ [] fet=jU C d t:=he;rw[e1]at hok hfr hnd ⊢;exact AqN hC hS hd rfl hok hfr hnd
 | box t x =>obtain⟨x',rfl⟩:=len1 hl;obtain⟨d,hd,he⟩:=JX (show JC (KI dst fun d=>Aey C d t x').ok from hok);have e1:opX C ⟨dst,.box t x,ty,pos,after,guard⟩ [x'] fet=Aey C d t x':=he;rw[e1]at hok hfr hnd ⊢;exact AuP hC hS hd rfl (hx 0 (by simp)) (hids x' (by simp)) hok hfr hnd
 | build t ps =>
  have hps:xs.length=ps.size:=by rw[hl];simp [Op.operands]
  have e1:opX C ⟨dst,.build t ps,ty,pos,after,guard⟩ xs fet=Ae0 C t ((ps.toList.map (fun(p:Nat×Operand)=>p.1)).zip xs):=rfl;rw[e1]at hok ⊢;refine(AsE (o:=⟨dst,.build t ps,ty,pos,after,guard⟩) (ps:=ps) (xs:=(ps.toList.map (fun(p:Nat×Operand)=>p.1)).zip xs) hC rfl (by simp [hps]) (fun j x p hxj hpj=> ?_) hok).good hS;have hj:j<ps.size:=(Eo.1 hpj).1;have hjx:j<xs.length:=by omega
  rw[H6]at hxj;obtain⟨h1,h2⟩:=hxj;have:=hx j hjx;have e1:(Op.build t ps).operands.getD j (.tmp 0)=p.2:=by simp only[Op.operands];rw[Dy];simp [hpj]
  have e2:xs.getD j .undef=x.2:=by rw[Dp,h2];rfl
  refine⟨?_,?_⟩
  .simp [hpj]at h1;exact h1
  .rw[<- e1,<- e2];exact this
 | buildSlice t n ps =>
  obtain⟨d,hd,he⟩:=JX (show JC (KI dst fun d=>bif AjE ((ps.toList.map (·.1)).zip xs)then Aez C d t n ((ps.toList.map (·.1)).zip xs)else TT C fet d t n ((ps.toList.map (·.1)).zip xs)).ok from hok);have e1:opX C ⟨dst,.buildSlice t n ps,ty,pos,after,guard⟩ xs fet=bif AjE ((ps.toList.map (·.1)).zip xs)then Aez C d t n ((ps.toList.map (·.1)).zip xs)else TT C fet d t n ((ps.toList.map (·.1)).zip xs):=he;rw[e1]at hok hfr hnd ⊢;have hps:xs.length=ps.size:=by rw[hl];simp [Op.operands]
  have hz:((ps.toList.map (·.1)).zip xs).length=ps.size:=by simp [hps]
  have hxz: ∀(j:Nat) (x:Nat×A) (p:Nat×Operand),((ps.toList.map (·.1)).zip xs)[j]? =some x->ps[j]? =some p->p.1=x.1/\JK O st.Jr m w (a.eval p.2) x.2:=by
   intro j x p hxj hpj;have hj:j<ps.size:=(Eo.1 hpj).1;have hjx:j<xs.length:=by omega
   rw[H6]at hxj;obtain⟨h1,h2⟩:=hxj;have:=hx j hjx;have e1:(Op.buildSlice t n ps).operands.getD j (.tmp 0)=p.2:=by simp only[Op.operands];rw[Dy];simp [hpj]
   have e2:xs.getD j .undef=x.2:=by rw[Dp,h2];rfl
   refine⟨?_,?_⟩
   .simp [hpj]at h1;exact h1
   .rw[<- e1,<- e2];exact this
  cases hp:AjE ((ps.toList.map (·.1)).zip xs)with
  | false =>rw[hp]at hok hfr;exact Ajc (o:=⟨dst,.buildSlice t n ps,ty,pos,after,guard⟩) (ps:=ps) hC hS hd rfl hf hz hxz hok hfr
  | true =>rw[hp]at hok hfr hnd;exact AwO (o:=⟨dst,.buildSlice t n ps,ty,pos,after,guard⟩) (ps:=ps) hC hS hd rfl hz hxz (fun x hx'=>hids x.2 (List.of_mem_zip hx').2) hok hfr hnd
 | load t x =>obtain⟨x',rfl⟩:=len1 hl;exact(Amz hC hF rfl (hx 0 (by simp)) hok).good hS
 | store t x y =>
  obtain⟨x',y',rfl⟩:=Aih hl;cases dst with
  | some d=>exact(JQ hok).elim
  | none =>
   have e1:opX C ⟨none,.store t x y,ty,pos,after,guard⟩ [x',y'] fet=X9 C fet t x' y':=rfl;rw[e1]at hok hfr hnd ⊢;cases x' with
   | ptr q off=>exact AnS hC hS rfl rfl hf (hx 0 (by simp)) (hx 1 (by simp)) (hids y' (by simp)) hok hfr hnd
   | LU q i off=>exact AnT hC hS rfl rfl hf (hx 0 (by simp)) (hx 1 (by simp)) hok
   | _ =>exfalso;unfold X9 at hok;obtain⟨ti,ht,he⟩:=KN hok;rw[he]at hok;exact JQ hok
 | nilCheck x =>obtain⟨x',rfl⟩:=len1 hl;exact(Anu hF rfl (hx 0 (by simp)) hok).good hS
 | binOp op t x y t' =>obtain⟨x',y',rfl⟩:=Aih hl;exact(AwK hC hF rfl (hx 0 (by simp)) (hx 1 (by simp)) hok).good hS
 | unOp op t x =>obtain⟨x',rfl⟩:=len1 hl;exact(AzB rfl (hx 0 (by simp)) hok).good hS
 | convert s t x =>obtain⟨x',rfl⟩:=len1 hl;exact Avc (o:=⟨dst,.convert s t x,ty,pos,after,guard⟩) hC hS rfl hf (hx 0 (by simp)) hok hfr
 | makeSlice t l c =>obtain⟨l',c',rfl⟩:=Aih hl;obtain⟨d,hd,he⟩:=JX (show JC (KI dst fun d=>Aco C d t l' c').ok from hok);have e1:opX C ⟨dst,.makeSlice t l c,ty,pos,after,guard⟩ [l',c'] fet=Aco C d t l' c':=he;rw[e1]at hok hfr ⊢;exact AvH hC hS hd rfl (hx 0 (by simp)) (hx 1 (by simp)) hok hfr
 | slice t x lo hi mx =>
  have hok':JC (slX C dst fet t lo hi mx xs).ok:=hok;show Good P V0 O0 w0 (apply st _ (slX C dst fet t lo hi mx xs)) _ a w;cases mx with
  | some _=>exfalso;cases lo<;>cases hi<;>exact JQ hok'
  | none =>
   cases lo with
   | none =>
    cases hi with
    | none =>obtain⟨x',rfl⟩:=len1 (by simpa [Op.operands]using hl);exact pU (o:=⟨dst,.slice t x none none none,ty,pos,after,guard⟩) (lo:=none) (hi:=none) (lo':=none) (hi':=none) hC hS rfl hf (hx 0 (by simp)) trivial trivial hok'
    | some h =>
     obtain⟨x',h',rfl⟩:=Aih (by simpa [Op.operands]using hl)
     have plain:JC (Nb C fet t x' none (some h')).ok->Good P V0 O0 w0 (apply st ⟨dst,.slice t x none (some h) none,ty,pos,after,guard⟩ (Nb C fet t x' none (some h'))) ⟨dst,.slice t x none (some h) none,ty,pos,after,guard⟩ a w:=fun hok'' =>
      pU (o:=⟨dst,.slice t x none (some h) none,ty,pos,after,guard⟩) (lo:=none) (hi:=some h) (lo':=none) (hi':=some h') hC hS rfl hf (hx 0 (by simp)) trivial (hx 1 (by simp)) hok''
     cases dst with
     | none=>exact plain hok'
     | some d =>
      have hfr': ∀ p∈(slX C (some d) fet t none (some h) none [x',h']).new,st.fresh p.1=true:=hfr;have e1:slX C (some d) fet t none (some h) none [x',h']=bif has C.cuts d then AeI C fet d t x' h' else Nb C fet t x' none (some h'):=rfl;rw[e1]at hok' hfr' ⊢;cases hc:has C.cuts d with
      | false=>rw[hc]at hok';exact plain hok'
      | true =>rw[hc]at hok' hfr';exact AwT (o:=⟨some d,.slice t x none (some h) none,ty,pos,after,guard⟩) hC hS rfl rfl hf (hx 0 (by simp)) (hx 1 (by simp)) hok' hfr'
   | some l =>
    cases hi with
    | none =>
     obtain⟨x',l',rfl⟩:=Aih (by simpa [Op.operands]using hl)
     have plain:JC (Nb C fet t x' (some l') none).ok->Good P V0 O0 w0 (apply st ⟨dst,.slice t x (some l) none none,ty,pos,after,guard⟩ (Nb C fet t x' (some l') none)) ⟨dst,.slice t x (some l) none none,ty,pos,after,guard⟩ a w:=fun hok'' =>
      pU (o:=⟨dst,.slice t x (some l) none none,ty,pos,after,guard⟩) (lo:=some l) (hi:=none) (lo':=some l') (hi':=none) hC hS rfl hf (hx 0 (by simp)) (hx 1 (by simp)) trivial hok''
     cases dst with
     | none=>exact plain hok'
     | some d =>
      have e1:slX C (some d) fet t (some l) none none [x',l']=bif has C.cuts d then AcV C fet t x' l' else Nb C fet t x' (some l') none:=rfl;rw[e1]at hok' ⊢;cases hc:has C.cuts d with
      | false=>rw[hc]at hok';exact plain hok'
      | true =>rw[hc]at hok';exact(Aww (o:=⟨some d,.slice t x (some l) none none,ty,pos,after,guard⟩) hC hF rfl (hx 0 (by simp)) (hx 1 (by simp)) hok').good hS
    | some h =>obtain⟨x',l',h',rfl⟩:=A0i (by simpa [Op.operands]using hl);exact pU (o:=⟨dst,.slice t x (some l) (some h) none,ty,pos,after,guard⟩) (lo:=some l) (hi:=some h) (lo':=some l') (hi':=some h') hC hS rfl hf (hx 0 (by simp)) (hx 1 (by simp)) (hx 2 (by simp)) hok'
 | fieldAddr t x f =>obtain⟨x',rfl⟩:=len1 hl;exact(Ali hC hF rfl (hx 0 (by simp)) hok).good hS
 | field t x f =>obtain⟨x',rfl⟩:=len1 hl;exact(Atd hC rfl (hx 0 (by simp)) hok).good hS
 | indexAddr t x i =>obtain⟨x',i',rfl⟩:=Aih hl;exact(Alv hC hF rfl (hx 0 (by simp)) (hx 1 (by simp)) hok).good hS
 | index t x i =>obtain⟨x',i',rfl⟩:=Aih hl;exact(Ato hC rfl (hx 0 (by simp)) (hx 1 (by simp)) hok).good hS
 | extract x i =>obtain⟨x',rfl⟩:=len1 hl;exact(Apf rfl (hx 0 (by simp)) hok).good hS
 | makeFunc fn fi cap =>
  cases fn with
  | func f =>
   have e1:opX C ⟨dst,.makeFunc (.func f) fi cap,ty,pos,after,guard⟩ xs fet=bif fi.isEmpty then a1 (AkW fet f) xs else .no:=rfl;rw[e1]at hok ⊢;cases hfi:fi.isEmpty with
   | false=>rw[hfi]at hok;exact(JQ hok).elim
   | true =>
    rw[hfi]at hok;obtain⟨x',rfl⟩:=Ayn (show JC (a1 (AkW fet f) xs).ok from hok);have hfi':fi= #[]:=by simpa using hfi
    subst hfi'
    have hcap: ∃ x,cap= #[x]:=by
     have:cap.size=1:=by simpa [Op.operands]using hl.symm
     exact⟨cap[0],by apply Gu (by simp [this]);intro i h1 h2;have:i=0:=by omega
                     subst this;rfl⟩
    obtain⟨x,rfl⟩:=hcap;exact AwR (o:=⟨dst,.makeFunc (.func f) #[] #[x],ty,pos,after,guard⟩) hS rfl hf (hx 0 (by simp)) hok
  | _=>exfalso;exact AjY hok rfl
 | call c =>
  obtain⟨callee,args,ts⟩:=c;cases callee with
  | value fo =>
   cases fo with
   | func f =>
    have hl':xs.length=1+args.size:=by rw[hl];simp [Op.operands,Call.operands]
    obtain⟨x0,xs',rfl⟩: ∃ x0 xs',xs=x0::xs':=by
     cases xs with
     | nil=>simp at hl';omega
     | cons x0 xs'=>exact⟨x0,xs',rfl⟩
    have e1:opX C ⟨dst,.call ⟨.value (.func f),args,ts⟩,ty,pos,after,guard⟩ (x0::xs') fet=oK C fet (dst.getD 0) f xs':=rfl;rw[e1]at hok hfr hnd ⊢;cases hsg:C.G f with
    | none=>exfalso;unfold oK at hok;rw[hsg]at hok;exact JQ hok
    | some sg =>
     have e3:oK C fet (dst.getD 0) f xs'=keepD fet xs' (C.kept f) (QV fet (dst.getD 0) sg xs'):=by unfold oK;rw[hsg]
     rw[e3]at hok hfr hnd ⊢;obtain⟨hok,k1,k2,k3,k4⟩:=Atv _ hok;rw[k2]at hfr hnd;have e4: ∀ o',apply st o' (keepD fet xs' (C.kept f) (QV fet (dst.getD 0) sg xs'))=apply st o' (QV fet (dst.getD 0) sg xs'):=fun o'=>by unfold apply;rw[k1,k2,k3,k4]
     rw[e4];refine Amh (x0:=.func f) hS rfl rfl rfl (hCx.G f sg hsg) hf (by simp at hl';show xs'.length=args.size;omega) (fun j hj=> ?_) hok hfr hnd;have:=hx (j+1) (by simpa using hj);have e2:(Op.call ⟨.value (.func f),args,ts⟩).operands.getD (j+1) (.tmp 0)=args.getD j (.tmp 0):=by simp only[Op.operands,Call.operands];rw[Dy,Dy,FB (by simp)];simp
     rw[e2]at this;simpa using this
   | tmp t =>
    have hl':xs.length=1+args.size:=by rw[hl];simp [Op.operands,Call.operands]
    obtain⟨x0,xs',rfl⟩: ∃ x0 xs',xs=x0::xs':=by
     cases xs with
     | nil=>simp at hl';omega
     | cons x0 xs'=>exact⟨x0,xs',rfl⟩
    have e1:opX C ⟨dst,.call ⟨.value (.tmp t),args,ts⟩,ty,pos,after,guard⟩ (x0::xs') fet=Apa C fet (dst.getD 0) t x0 xs':=rfl;rw[e1]at hok hfr hnd ⊢;have h0:=hx 0 (by simp);have e0:(Op.call ⟨.value (.tmp t),args,ts⟩).operands.getD 0 (.tmp 0)= .tmp t:=by show(#[Operand.tmp t]++args).getD 0 (.tmp 0)= .tmp t;rw[Dy,Fe (by simp)];rfl
    rw[e0]at h0;have h0:JK O st.Jr m w (a.eval (.tmp t)) x0:=h0;unfold Apa at hok hfr hnd ⊢;cases x0 with
    | fn n =>
     cases hsg:C.dyn t with
     | none=>rw[hsg]at hok;exact(JQ hok).elim
     | some F =>
      rw[hsg]at hok hfr hnd;dsimp only at hok hfr hnd ⊢;obtain⟨hd1,hd2⟩:=hCx.dyn t F hsg;have hok2:=AoL hok;cases n with
      | zero=>rw[hd1]at hok2;cases hok2
      | succ f =>
       have hev:a.eval (.tmp t)= .func (.func f) #[] #[]:=by have h1:JE O w (a.eval (.tmp t)) (.fn (f+1)):=h0;generalize a.eval (.tmp t)=v at h1 ⊢;cases h1;rfl
       refine Amh (x0:=.tmp t) hS rfl rfl hev (hd2 f _ hok2) hf (by simp at hl';show xs'.length=args.size;omega) (fun j hj=> ?_) hok hfr hnd;have:=hx (j+1) (by simpa using hj);have e2:(Op.call ⟨.value (.tmp t),args,ts⟩).operands.getD (j+1) (.tmp 0)=args.getD j (.tmp 0):=by simp only[Op.operands,Call.operands];rw[Dy,Dy,FB (by simp)];simp
       rw[e2]at this;simpa using this
    | clo f q =>
     obtain⟨cs,hb,he⟩:=JX hok;dsimp only at he hok hfr hnd ⊢;rw[he]at hok hfr hnd ⊢;clear he;have hc:JJ O st.Jr m w (a.eval (.tmp t)) (.clo f q):=h0;obtain⟨_,p,k5,⟨b,j0,k2,k3,k4⟩,hc⟩:=hc;cases hsg:C.dyn t with
     | none=>rw[hsg]at hok;exact(JQ hok).elim
     | some F =>
      rw[hsg]at hok hfr hnd;dsimp only at hok hfr hnd ⊢;obtain⟨hd1,hd2⟩:=hCx.dyn t F hsg;have hok2:=AoL hok;cases f with
      | zero=>rw[hd1]at hok2;cases hok2
      | succ f =>
       have hlx:xs'.length=args.size:=by simp at hl';omega
       refine Ajd (x0:=.tmp t) (caps:= #[.pointer (some (at' b j0))]) (av:=args.map a.eval++ #[.pointer (some (at' b j0))]) hS rfl rfl k2 rfl (hd2 f _ hok2) hf (by simp [hlx]) (fun j hj=> ?_) hok hfr hnd;rcases En j xs'.length with hjl | hjl
       .have:=hx (j+1) (by simpa using hjl);have e2:(Op.call ⟨.value (.tmp t),args,ts⟩).operands.getD (j+1) (.tmp 0)=args.getD j (.tmp 0):=by simp only[Op.operands,Call.operands];rw[Dy,Dy,FB (by simp)];simp
        rw[e2]at this;have hjs:j<args.size:=by omega
        have e3:(args.map a.eval++ #[Value.pointer (some (at' b j0))]).getD j undef=a.eval (args.getD j (.tmp 0)):=by rw[Dy,Fe (by simpa using hjs),Dy];simp [hjs]
        have e4:(xs'++[A.clo 0 q]).getD j .undef=xs'.getD j .undef:=by simp [Dp,Ew,hjl]
        rw[e3,e4];simpa using this
       .have hj':j=xs'.length:=by simp at hj;omega
        subst hj';have e3:(args.map a.eval++ #[Value.pointer (some (at' b j0))]).getD xs'.length undef= .pointer (some (at' b j0)):=by rw[hlx,Dy,FB (by simp)];simp
        have e4:(xs'++[A.clo 0 q]).getD xs'.length .undef= .clo 0 q:=by simp [Dp]
        rw[e3,e4];show JJ O st.Jr m w _ (.clo 0 q);exact⟨rfl,p,k5,⟨b,j0,rfl,k3,k4⟩,hc⟩
    | _=>exact(JQ hok).elim
   | _=>exfalso;exact AjY hok rfl
  | builtin b =>
   have hok':JC (blX C ⟨dst,.call ⟨.builtin b,args,ts⟩,ty,pos,after,guard⟩ fet ts.toList b xs).ok:=hok;cases b with
   | len =>
    obtain⟨x',rfl⟩:=Ayn (show JC (a1 _ xs).ok from hok')
    have hargs: ∃ x,args= #[x]:=by
     have:args.size=1:=by simpa [Op.operands,Call.operands]using hl.symm
     exact⟨args[0],by apply Gu (by simp [this]);intro i h1 h2;have:i=0:=by omega
                      subst this;rfl⟩
    obtain⟨x,rfl⟩:=hargs;obtain⟨t,ht,he⟩:=JX (show JC (KI (one? ts.toList) fun t=>Al1 C fet t x').ok from hok');have e1:opX C ⟨dst,.call ⟨.builtin .len,#[x],ts⟩,ty,pos,after,guard⟩ [x'] fet=Al1 C fet t x':=he;rw[e1]at hok ⊢;exact(Axw hC hF rfl rfl rfl (Am9 ht) (hx 0 (by simp)) hok).good hS
   | copy =>
    obtain⟨x',y',rfl⟩:=Aob (show JC (a2 _ xs).ok from hok')
    have hargs: ∃ x y,args= #[x,y]:=by
     have:args.size=2:=by simpa [Op.operands,Call.operands]using hl.symm
     refine⟨args[0],args[1],?_⟩;apply Gu (by simp [this]);intro i h1 h2;have:i=0\/i=1:=by omega
     rcases this with rfl | rfl<;>rfl
    obtain⟨x,y,rfl⟩:=hargs;exact Avd (o:=⟨dst,.call ⟨.builtin .copy,#[x,y],ts⟩,ty,pos,after,guard⟩) (ts':=ts.toList) hC hS rfl rfl rfl rfl hf (hx 0 (by simp)) (hx 1 (by simp)) hok'
   | append =>
    obtain⟨x',y',rfl⟩:=Aob (show JC (a2 _ xs).ok from hok')
    have hargs: ∃ x y,args= #[x,y]:=by
     have:args.size=2:=by simpa [Op.operands,Call.operands]using hl.symm
     refine⟨args[0],args[1],?_⟩;apply Gu (by simp [this]);intro i h1 h2;have:i=0\/i=1:=by omega
     rcases this with rfl | rfl<;>rfl
    obtain⟨x,y,rfl⟩:=hargs;have e0:opX C ⟨dst,.call ⟨.builtin .append,#[x,y],ts⟩,ty,pos,after,guard⟩ [x',y'] fet=AwA C ⟨dst,.call ⟨.builtin .append,#[x,y],ts⟩,ty,pos,after,guard⟩ fet ts.toList x' y':=rfl;rw[e0]at hok hfr ⊢;clear hok' e0;generalize hts:ts.toList=tl at hok hfr ⊢;unfold AwA at hok hfr ⊢;split at hok
    .rename_i t u;dsimp only at hfr ⊢;obtain⟨tu,htu,he⟩:=KN hok;rw[he]at hok hfr ⊢;obtain⟨d,hd,he⟩:=JX hok;rw[he]at hok hfr ⊢;obtain⟨h1,h2⟩:=hok.cons;exact AqO hC hS hd rfl rfl rfl hts htu h1 hf (hx 0 (by simp)) (hx 1 (by simp)) h2 hfr
    .exact(JQ hok).elim
   | min =>
    obtain⟨x',y',rfl⟩:=Aob (show JC (a2 _ xs).ok from hok')
    have hargs: ∃ x y,args= #[x,y]:=by
     have:args.size=2:=by simpa [Op.operands,Call.operands]using hl.symm
     refine⟨args[0],args[1],?_⟩;apply Gu (by simp [this]);intro i h1 h2;have:i=0\/i=1:=by omega
     rcases this with rfl | rfl<;>rfl
    obtain⟨x,y,rfl⟩:=hargs;exact(Ax2 (o:=⟨dst,.call ⟨.builtin .min,#[x,y],ts⟩,ty,pos,after,guard⟩) rfl rfl rfl (hx 0 (by simp)) (hx 1 (by simp)) hok).good hS
   | max =>
    obtain⟨x',y',rfl⟩:=Aob (show JC (a2 _ xs).ok from hok')
    have hargs: ∃ x y,args= #[x,y]:=by
     have:args.size=2:=by simpa [Op.operands,Call.operands]using hl.symm
     refine⟨args[0],args[1],?_⟩;apply Gu (by simp [this]);intro i h1 h2;have:i=0\/i=1:=by omega
     rcases this with rfl | rfl<;>rfl
    obtain⟨x,y,rfl⟩:=hargs;exact(Ax1 (o:=⟨dst,.call ⟨.builtin .max,#[x,y],ts⟩,ty,pos,after,guard⟩) rfl rfl rfl (hx 0 (by simp)) (hx 1 (by simp)) hok).good hS
   | _=>exfalso;exact JQ hok'
  | invoke r mth=>exfalso;exact AjY hok rfl
 | _=>exfalso;exact AjY hok rfl
end
section
variable {P:Program} {C:Ctx} {V0:Nat->Value} {O0 O:Own} {w0 w:World} {m:Nat->Value} {st:St} {a:Act} {o:Oper}
theorem Axh (Jr:List (Nat×Obj)): ∀(l:List Nat) (q:Nat) (x:Obj),J5 (fetch Jr l) q=some x->J5 Jr q=some x:=by
 intro l
 induction l with
 | nil=>intro q x h;cases h
 | cons n r ih=>grind[fetch,J5,O5]
theorem AqL (a b:List (Nat×Obj)) (q:Nat):J5 (a++b) q=match J5 a q with | some x=>some x | none=>J5 b q:=by
 induction a with
 | nil=>rfl
 | cons p r ih=>grind[O5]
def yT (st:St) (vs:List A):Qj st.Jr (KE st vs):=by intro q x h;grind[KE,AqL,split,Axh]
theorem Awv {v:Value} {x:A} (h:JK O st.Jr m w v x) (hok:JC x.strip.1):JK O st.Jr m w v x.strip.2:=by
 cases x with
 | cnd g y =>have:=h.1 hok.cons.1;cases y<;>first | trivial | exact this | exact this.elim
 | _=>exact h
def Ar4: ∀(xs:List A) (f:Nat->Value),(∀ j,j<xs.length->JK O st.Jr m w (f j) (xs.getD j .undef))->JC (strips xs).1 ->
 (strips xs).2.length=xs.length/\ ∀ j,j<xs.length->JK O st.Jr m w (f j) ((strips xs).2.getD j .undef):=by
 intro xs
 induction xs with
 | nil=>intro f _ _;exact⟨rfl,fun j hj=>by simp at hj⟩
 | cons x xs ih =>
  intro f h hok;simp only[strips]at hok ⊢;obtain⟨h1,h2⟩:=hok.append;obtain⟨g1,g2⟩:=ih (fun j=>f (j+1)) (fun j hj=>by simpa using h (j+1) (by simpa using hj)) h2;refine⟨by simp [g1],fun j hj=> ?_⟩;cases j with
  | zero=>grind[Awv]
  | succ j=>simpa using g2 j (by simpa using hj)
def Ayl {v:Value} {x:A} (h:JK O st.Jr m w v x):JK O st.Jr m w v x.weak:=by
 cases x with
 | sln l =>
  have h':JE O w v (.sln l):=h;cases h' with
  | sln h _=>exact h
 | _=>exact h
def Ayk (x:A):x.weak.ids=x.ids:=by cases x<;>rfl
def Awz (xs:List A) (j:Nat):(xs.map A.weak).getD j .undef=(xs.getD j .undef).weak:=by simp only[Dp,E8];cases xs[j]? <;>rfl
def Agj (op:Op) (xs:List A):(∃ a b c,op= .pick a b c)\/Ls op xs=((strips xs).1,bif AcS op then(strips xs).2 else(strips xs).2.map A.weak):=by cases op<;>first | exact .inr rfl | exact .inl ⟨_,_,_,rfl⟩
def Abw {op:Op} {xs:List A} {f:Nat->Value} (h: ∀ j,j<xs.length->JK O st.Jr m w (f j) (xs.getD j .undef)) (hok:JC (Ls op xs).1) :
 (Ls op xs).2.length=xs.length/\ ∀ j,j<xs.length->JK O st.Jr m w (f j) ((Ls op xs).2.getD j .undef):=by
 rcases Agj op xs with ⟨x,y,z,rfl⟩ | he
 .exact⟨rfl,h⟩
 .rw[he]at hok ⊢;obtain⟨g1,g2⟩:=Ar4 xs f h hok;cases hb:AcS op with
  | true=>exact⟨g1,g2⟩
  | false =>refine⟨by simp [g1],fun j hj=> ?_⟩;show JK O st.Jr m w (f j) (((strips xs).2.map A.weak).getD j .undef);rw[Awz];exact Ayl (g2 j hj)
def Awu {v:Value} {x:A} {i:Nat} (ht:JK O st.Jr m w v x) (hok:JC x.strip.1) (h:i∈x.strip.2.ids):i∈x.ids:=by
 cases x with
 | cnd g y =>have h1:=ht.1 hok.cons.1;cases y<;>first | exact h | exact h1.elim
 | _=>exact h
def Auu: ∀(xs:List A) (f:Nat->Value),(∀ j,j<xs.length->JK O st.Jr m w (f j) (xs.getD j .undef))->JC (strips xs).1-> ∀ x∈(strips xs).2,∀ i∈x.ids,∃ y∈xs,i∈y.ids:=by
 intro xs
 induction xs with
 | nil=>grind[strips]
 | cons z xs ih =>
  intro f h hok x hx i hi;simp only[strips]at hok hx;obtain⟨h1,h2⟩:=hok.append;rcases D8.1 hx with rfl | hx
  .exact⟨z,Dw,Awu (h 0 (by simp)) h1 hi⟩
  .obtain⟨y,hy,hi'⟩:=ih (fun j=>f (j+1)) (fun j hj=>by simpa using h (j+1) (by simpa using hj)) h2 x hx i hi;exact⟨y,Dz _ hy,hi'⟩
def Adx {op:Op} {xs:List A} {f:Nat->Value} (h: ∀ j,j<xs.length->JK O st.Jr m w (f j) (xs.getD j .undef)) (hok:JC (Ls op xs).1): ∀ x∈(Ls op xs).2,∀ i∈x.ids,∃ y∈xs,i∈y.ids:=by
 rcases Agj op xs with ⟨x,y,z,rfl⟩ | he
 .exact fun x hx i hi=>⟨x,hx,hi⟩
 .rw[he]at hok ⊢;have g:=Auu xs f h hok;cases hb:AcS op with
  | true=>exact g
  | false =>intro x hx i hi;obtain⟨z,hz,rfl⟩:=DD.1 (show x∈(strips xs).2.map A.weak from hx);rw[Ayk]at hi;exact g z hz i hi
def Atk {ops:Array Oper} {gd:Option (Nat×Bool)} (hS:Sim V0 O0 w0 O m st a w) (hgd:o.guard=gd) :
 (guardOf ops.toList st.tmps gd=some none->Region.wanted o (yielded ops a.tmps)=true) /\
 ∀ g,guardOf ops.toList st.tmps gd=some (some g)->Region.wanted o (yielded ops a.tmps)=g:=by
 cases gd with
 | none =>refine⟨fun _=>by unfold Region.wanted;rw[hgd],fun g h=>by simp [guardOf]at h⟩
 | some p =>
  obtain⟨j,want⟩:=p;unfold Region.wanted;rw[hgd];dsimp only
  have key: ∀ oj t,ops[j]? =some oj->oj.dst=some t->yielded ops a.tmps j=match a.tmps[t]? with | some (.bool b)=>some b | _=>none:=by
   intro oj t h1 h2;unfold yielded;have:(ops[j]?).bind (·.dst)=some t:=by rw[h1];exact h2
   rw[this];show(match a.tmps[t]? with | some (.bool b)=>some b | _=>none)=_;cases a.tmps[t]? with
   | none=>rfl
   | some v=>cases v<;>rfl
  unfold guardOf;have hop:ops.toList[j]? =ops[j]? :=by simp
  dsimp only;rw[hop];cases hj:ops[j]? with
  | none=>exact⟨fun h=>by simp at h,fun g h=>by simp at h⟩
  | some oj =>
   dsimp only;cases hd:oj.dst with
   | none=>exact⟨fun h=>by simp at h,fun g h=>by simp at h⟩
   | some t =>
    dsimp only;have ht:=hS.tmps t;rw[key oj t hj hd];cases hv:st.tmps.getD t .undef with
    | bool b =>
     refine⟨fun h=>by simp at h,fun g h=> ?_⟩;simp only[F8]at h
     have htl:t<st.tmps.length:=by
      rcases En t st.tmps.length with h | h
      .exact h
      .rw[Dp,Eh h]at hv;cases hv
     have:=ht htl;rw[hv]at this;have:=this.bool;have hts:t<a.tmps.size:=by rw[hS.size];exact htl
     rw[getD_eq hts,this,<- h];cases want<;>cases b<;>rfl
    | cnd g0 y =>
     cases y with
     | bool b =>
      refine⟨fun h=>by simp at h,fun g h=> ?_⟩;simp only[F8]at h
      have htl:t<st.tmps.length:=by
       rcases En t st.tmps.length with h | h
       .exact h
       .rw[Dp,Eh h]at hv;cases hv
      have:=ht htl;rw[hv]at this;have hts:t<a.tmps.size:=by rw[hS.size];exact htl
      rw[getD_eq hts,<- h];cases g0 with
      | true =>have h1:JE O w (a.tmps.getD t undef) (.bool b):=this.1 rfl;generalize a.tmps.getD t undef=z at h1;cases h1;cases want<;>cases b<;>rfl
      | false =>rw[this.2 rfl];simp [undef]
     | _=>exact⟨fun h=>by simp at h,fun g h=>by simp at h⟩
    | _=>exact⟨fun h=>by simp at h,fun g h=>by simp at h⟩
def Ava (v:Value):(ofConst v).ids=[]:=by
 have hc: ∀ u:Value,(P5 u).N8=[]:=by intro u;unfold P5;split<;>rfl
 have hc2: ∀ u:Value,(P5 u).ids=[]:=by intro u;unfold P5;split<;>rfl
 unfold ofConst;split
 .rename_i vs;cases vs.toList.all Value.oneCell' with
  | false=>rfl
  | true =>show(vs.toList.map P5).flatMap A.N8=[];rw[Ih];intro x hx;obtain⟨u,_,rfl⟩:=DD.1 hx;exact hc u
 .exact hc2 v
def Aro {a b:A} (h:sW a b=true):AaQ true a b=b/\AaQ false a b=a:=by
 cases a<;>cases b<;>first | exact⟨rfl,rfl⟩ | exact(Bool.false_ne_true h).elim | skip
 case int.int k x k' y =>
  have e:k=k':=by cases k<;>cases k'<;>first | rfl | cases h
  subst e;exact⟨rfl,rfl⟩
 case sl.sl l l' =>
  obtain⟨t,xs⟩:=l;obtain⟨t',xs'⟩:=l';unfold sW Sl.cast at h;unfold AaQ Sl.cast;dsimp only at h ⊢;cases hd:decEq t' t with
  | isTrue e=>subst e;exact⟨rfl,rfl⟩
  | isFalse e=>rw[hd]at h;cases h
 case sln.sln l l' =>
  obtain⟨t,xs⟩:=l;obtain⟨t',xs'⟩:=l';unfold sW Sl.cast at h;unfold AaQ Sl.cast;dsimp only at h ⊢;cases hd:decEq t' t with
  | isTrue e=>subst e;exact⟨rfl,rfl⟩
  | isFalse e=>rw[hd]at h;cases h
 all_goals simp_all[sW,AaQ]
theorem AmR: ∀ {aa bs:List A},okM aa bs=true->Amc true aa bs=bs/\Amc false aa bs=aa
 | [],[],_=>⟨rfl,rfl⟩
 | a::aa,b::bs,h=>by unfold okM at h;obtain⟨h1,h2⟩:=Bool.and_eq_true_iff.1 h;obtain⟨i1,i2⟩:=Aro h1;obtain⟨j1,j2⟩:=AmR h2;exact⟨by unfold Amc;rw[i1,j1],by unfold Amc;rw[i2,j2]⟩
 | [],_::_,h=>by cases h
 | _::_,[],h=>by cases h
def Ah4 {c:Bool} {x:Option Obj} {y:Obj} (h:sZ c x y=true) :
 (bT true x y=y/\ ∃ cs,x=some (.box cs)/\bT false x y= .box cs)\/c=true/\ ∃ e f l l',x=some (.arr e f l)/\y= .arr e true l'/\ ∀ g,bT g x y= .arr e true l:=by
 cases x with
 | none=>cases h
 | some x =>
  cases x with
  | box cs=>grind[AmR,okM,Obj,sZ,bT]
  | arr e f l =>
   cases y with
   | arr e' f' l' =>
    cases f' with
    | true=>simp_all[Obj,sZ,bT]
    | false=>cases h
   | _=>cases h
  | _=>cases h
def Closes (Jr U:List (Nat×Obj)):Prop:= ∀ p∈U,(∃ cs,J5 Jr p.1=some (.box cs)/\p.2= .box cs)\/ ∃ e f l,J5 Jr p.1=some (.arr e f l)/\p.2= .arr e true l
def _root_.Go.Proofs.YtakmjgnpefmjhaaGreatDoor.Vm.Sim.AxP {objs':List (Nat×Obj)} (hS:Sim V0 O0 w0 O m st a w) (h: ∀ n,J5 objs' n=J5 st.Jr n):Sim V0 O0 w0 O m {st with Jr:=objs'} a w:=by
 have he:Us st.Jr m objs' m (fun _=>False):=fun o x hx=>.inr ⟨x,by rw[<- h];exact hx,rfl,rfl⟩;have hp:NT O w O w:=fun b k u h1 h2=>⟨h1,h2⟩
 refine⟨hS.defers,hS.size,fun t ht=>(hS.tmps t ht).step hp he (fun _ _=>id),fun o x hx=> ?_,hS.frame,hS.own,fun o x hx=>hS.ids o x (by rw[<- h];exact hx),hS.less,fun o ho hx=>hS.root o ho (by rw[<- h];exact hx),hS.yX,hS.inv⟩;have h0:=hS.Jr o x (by rw[<- h];exact hx);cases x with
 | box cs =>obtain⟨b,base,h1,h2⟩:=h0;refine⟨b,base,h1,fun j hj=> ?_⟩;obtain⟨g1,g2,u,g3,g4⟩:=h2 j hj;exact⟨g1,g2,u,g3,g4.step hp he (fun _ _=>id)⟩
 | arr e f l=>exact h0
 | mp l=>exact h0
def _root_.Go.Proofs.YtakmjgnpefmjhaaGreatDoor.Vm.Sim.closes: ∀(U:List (Nat×Obj)) {O:Own} {st:St},Sim V0 O0 w0 O m st a w->Closes st.Jr U-> ∃ O',Sim V0 O0 w0 O' m {st with Jr:=JH st.Jr U} a w:=by
 intro U
 induction U with
 | nil=>intro O st hS _;exact⟨O,hS⟩
 | cons p U ih =>
  intro O st hS h;obtain⟨n,y⟩:=p;have h0:=h (n,y) Dw
  have hrest:Closes (N7 st.Jr n y) U:=by
   intro q hq;have h1:=h q (Dz _ hq);rw[KU];by_cases hk:q.1=n
   .rw[Dq hk];rw[hk]at h1;rcases h0 with ⟨cs,g1,g2⟩ | ⟨e,f,l,g1,g2⟩
    .dsimp only at g1 g2;rw[g1]at h1;rcases h1 with ⟨cs',k1,k2⟩ | ⟨e',f',l',k1,k2⟩
     .injection k1 with k1;rw[<- k1]at k2;exact .inl ⟨cs,by rw[g2],k2⟩
     .cases k1
    .dsimp only at g1 g2;rw[g1]at h1;rcases h1 with ⟨cs',k1,k2⟩ | ⟨e',f',l',k1,k2⟩
     .cases k1
     .injection k1 with k1;injection k1 with q1 q2 q3;subst q1;subst q3;exact .inr ⟨e,true,l,by rw[g2],k2⟩
   .rw[Dt hk];exact h1
  show ∃ O',Sim V0 O0 w0 O' m {st with Jr:=JH (N7 st.Jr n y) U} a w;rcases h0 with ⟨cs,g1,g2⟩ | ⟨e,f,l,g1,g2⟩
  .dsimp only at g1 g2
   have hS':Sim V0 O0 w0 O m {st with Jr:=N7 st.Jr n y} a w:=hS.AxP fun k=>by
    rw[KU];by_cases hk:k=n
    .rw[Dq hk,hk,g1,g2]
    .rw[Dt hk]
   exact ih hS' hrest
  .dsimp only at g1 g2;obtain⟨O1,hS1,_⟩:=hS.freezes [(n,y)] (fun q hq=>by simp at hq;subst hq;exact⟨e,f,l,g1,g2⟩);exact ih hS1 hrest
def Kt (fet:Fet) (U:List (Nat×Obj)):Prop:= ∀ p∈U,∀ e f l,p.2= .arr e f l-> ∃ e' f',J5 fet p.1=some (.arr e' f' l)/\f=true
def Kt.append {fet:Fet} {U V:List (Nat×Obj)} (h:Kt fet U) (h':Kt fet V):Kt fet (U++V):=fun p hp=>(DR.1 hp).elim (h p) (h' p)
theorem Kt.nil (fet:Fet):Kt fet []:=fun p hp=>by cases hp
def Kt.one {fet:Fet} {n e e0:Nat} {f:Bool} {l:Sl} (h:J5 fet n=some (.arr e f l)):Kt fet [(n,.arr e0 true l)]:=by simp_all[Fet,J5,Kt]
def Kt.cons {fet:Fet} {n e e0:Nat} {f:Bool} {l:Sl} {U:List (Nat×Obj)} (h:J5 fet n=some (.arr e f l)) (h':Kt fet U):Kt fet ((n,.arr e0 true l)::U):=(Kt.one h).append h'
def Akq (fet:Fet) (k:CK) (c:A):Kt fet (pur fet k c).2.2:=by
 unfold pur;split
 .split
  .rename_i h;exact .one h
  .exact .nil _
 .split<;>exact .nil _
 all_goals exact .nil _
def Arw (fet:Fet): ∀(ks:List CK) (cs:List A),Kt fet (KX fet ks cs).2.2:=by
 intro ks
 induction ks with
 | nil=>intro cs;cases cs<;>exact .nil _
 | cons k ks ih=>intro cs;cases cs with
  | nil=>exact .nil _
  | cons c cs=>exact(Akq fet k c).append (ih cs)
def V4 (fet:Fet): ∀(ks:List (Bool×CK)) (cs:List A),Kt fet (JA fet ks cs).2.2.1:=by
 intro ks
 induction ks with
 | nil=>intro cs;cases cs<;>exact .nil _
 | cons k ks ih =>
  intro cs;obtain⟨u,k⟩:=k;cases cs with
  | nil=>cases u<;>cases k<;>exact .nil _
  | cons c cs =>
   cases u with
   | false=>exact(Akq fet k c).append (ih cs)
   | true =>
    cases k with
    | sl e t =>
     cases c with
     | own q =>
      simp only[JA];cases h:J5 fet q with
      | none=>exact .nil _
      | some x =>
       cases x with
       | arr e' f l=>exact .cons h (ih cs)
       | _=>exact .nil _
     | LJ=>exact ih cs
     | _=>exact .nil _
    | sln e t =>
     cases c with
     | own q =>
      simp only[JA];cases h:J5 fet q with
      | none=>exact .nil _
      | some x =>
       cases x with
       | arr e' f l=>exact ih cs
       | _=>exact .nil _
     | LJ=>exact ih cs
     | _=>exact .nil _
    | bx t =>
     cases c with
     | ptr q off =>
      simp only[JA];cases MK fet q with
      | none=>exact .nil _
      | some zs=>exact(Arw fet _ zs).append (ih cs)
     | _=>exact .nil _
    | _=>cases c<;>exact .nil _
def Alp (fet:Fet) (s:Sh) (x:A):Kt fet (JZ fet s x).upd:=by
 cases s with
 | cell u k =>
  have:=V4 fet [(u,k)] [x];unfold JZ;dsimp only;generalize JA fet [(u,k)] [x]=r at this ⊢;obtain⟨ok,cs,upd,del⟩:=r;cases cs with
  | nil=>exact .nil _
  | cons c cs=>cases cs with
   | nil=>exact this
   | cons _ _=>exact .nil _
 | agg ks=>cases x<;>first | exact .nil _ | exact V4 fet _ _
 | box ks =>
  cases x with
  | ptr q off =>
   unfold JZ;dsimp only;cases MK fet q with
   | none=>exact .nil _
   | some cs=>exact V4 fet _ _
  | _=>exact .nil _
 | clo f' ks =>
  cases x with
  | clo g q =>
   unfold JZ;dsimp only;cases MK fet q with
   | none=>exact .nil _
   | some cs=>exact V4 fet _ _
  | _=>exact .nil _
 | map kt vt =>
  cases x with
  | own q =>unfold JZ;dsimp only;split<;>exact .nil _
  | _=>exact .nil _
def Aj2 (fet:Fet): ∀(ss:List Sh) (xs:List A),Kt fet (JP fet ss xs).2.2.1:=by
 intro ss
 induction ss with
 | nil=>intro xs;cases xs<;>exact .nil _
 | cons s ss ih =>
  intro xs;cases xs with
  | nil=>exact .nil _
  | cons x xs=>exact(Alp fet s x).append (ih xs)
def AhF (fet:Fet) (rb:Nat->Nat) (rs:List A): ∀(bs:List (Nat×Sh)) (j:Nat),Kt fet (Lh rb rs bs j).2.1:=by
 intro bs
 induction bs with
 | nil=>intro j;exact .nil _
 | cons b bs ih =>
  intro j p hp;obtain⟨q,s⟩:=b;rcases D8.1 hp with rfl | hp
  .intro e f l he;cases s<;>cases he
  .exact ih (j+1) p hp
theorem qO (fet:Fet) (d:Nat) (sg:Sig) (xs:List A):Kt fet (QV fet d sg xs).upd :=
 (Aj2 fet _ _).append (AhF fet _ _ _ _)
def ZA {t:Nat} {k:TI->Dl} {fet:Fet} (h: ∀ ti,Kt fet (k ti).upd):Kt fet (MV C t k).upd:=by
 unfold MV KI;cases C.T t with
 | none=>exact .nil _
 | some ti=>exact h ti
def QJ {α :Type} {o:Option α} {k: α ->Dl} {fet:Fet} (h: ∀ x,o=some x->Kt fet (k x).upd):Kt fet (KI o k).upd:=by
 unfold KI;cases o with
 | none=>exact .nil _
 | some x=>exact h x rfl
theorem Zf (fet:Fet) (t:Nat) (x:A) (lo hi:Option A):Kt fet (Nb C fet t x lo hi).upd:=by
 unfold Nb;refine ZA fun ti=> ?_;split
 .exact QJ fun _ _=>.nil _
 .exact QJ fun _ _=>QJ fun _ _=>ZA fun _=>.nil _
 .refine QJ fun r hr=>QJ fun _ _=>QJ fun _ _=>ZA fun _=> ?_;cases r.frz with
  | true=>exact .nil _
  | false=>exact .one (Oa hr)
 .exact .nil _
theorem AqT (fet:Fet) (d t:Nat) (x hi:A):Kt fet (AeI C fet d t x hi).upd:=by
 unfold AeI;refine ZA fun ti=> ?_;split
 .exact QJ fun _ _=>QJ fun _ _=>QJ fun _ _=>ZA fun _=>.nil _
 .exact .nil _
theorem AqB (fet:Fet) (t:Nat) (x h:A):Kt fet (AcV C fet t x h).upd:=by
 unfold AcV;refine ZA fun ti=> ?_;split
 .exact QJ fun _ _=>QJ fun _ _=>QJ fun _ _=>ZA fun _=>.nil _
 .exact .nil _
def ApA {fet:Fet} (x:A) (j:Nat) {δ :Dl} (h:Kt fet δ.upd):Kt fet (V5 fet x j δ).upd:=by
 unfold V5;split
 .split
  .rename_i q _ _ cs _;cases Nat.blt j cs.length&& δ.upd.all (fun p=> !(Nat.beq p.1 q)||AjN cs.length p.2)with
   | false=>exact h
   | true =>
    intro p hp e f l he;obtain⟨p0,hp0,rfl⟩:=DD.1 (show p∈ δ.upd.map _ from hp);cases hq:Nat.beq p0.1 q with
    | false=>rw[hq]at he;exact h p0 hp0 e f l he
    | true =>
     rw[hq]at he;obtain⟨n,y⟩:=p0;cases y with
     | box _=>cases he
     | arr e' f' l'=>exact h _ hp0 e f l he
     | mp _=>cases he
  .exact h
 .exact h
theorem ApB {fet:Fet} (xs:List A): ∀(ks:List (Nat×Nat)) {δ :Dl},Kt fet δ.upd->Kt fet (keepD fet xs ks δ).upd:=by
 intro ks
 induction ks with
 | nil=>intro δ h;exact h
 | cons k ks ih=>intro δ h;exact ih (ApA _ _ h)
def Ajj {fet:Fet} {xs:List A} (h:AbN o.op=true):Kt fet (opX C o xs fet).upd:=by
 obtain⟨dst,op,ty,pos,after,guard⟩:=o;cases op with
 | slice t x lo hi mx =>
  show Kt fet (slX C dst fet t lo hi mx xs).upd;unfold slX;split
  .unfold a1;split<;>first | exact Zf fet _ _ _ _ | exact .nil _
  .unfold a2;split
   .grind[split,has,Zf,AqB]
   .exact .nil _
  .unfold a2;split
   .grind[split,has,Zf,AqT]
   .exact .nil _
  .unfold a3;split<;>first | exact Zf fet _ _ _ _ | exact .nil _
  .exact .nil _
 | call c =>
  obtain⟨callee,args,ts⟩:=c;cases callee with
  | value fo =>
   cases fo with
   | func f =>
    cases xs with
    | nil=>exact .nil _
    | cons x xs =>
     show Kt fet (oK C fet (dst.getD 0) f xs).upd;unfold oK;cases C.G f with
     | none=>exact .nil _
     | some sg=>grind[ApB,qO]
   | tmp t =>
    cases xs with
    | nil=>exact .nil _
    | cons x xs =>
     show Kt fet (Apa C fet (dst.getD 0) t x xs).upd;unfold Apa;cases x with
     | fn n =>
      dsimp only;cases C.dyn t with
      | none=>exact .nil _
      | some F=>exact qO fet _ _ _
     | clo f q =>
      dsimp only;cases MK fet q with
      | none=>exact .nil _
      | some _ =>
       show Kt fet (match C.dyn t with | some sg=>QV fet (dst.getD 0) (sg f) (xs++[A.clo 0 q]) | none=>.no).upd;cases C.dyn t with
       | none=>exact .nil _
       | some F=>exact qO fet _ _ _
     | _=>exact .nil _
   | _=>cases h
  | _=>cases h
 | _=>cases h
def Ak4 (hC:OD P C) (hS:Sim V0 O0 w0 O m st a w) {ops:Array Oper} (hok:JC (KQ C ops.toList o st).ok) (next:Act->World->Prop) (Q:Exit->Act->World->Prop)
 (hn: ∀ O' m' a' w',Sim V0 O0 w0 O' m' (apply st o (KQ C ops.toList o st)) a' w'->next a' w') :
 if Region.wanted o (yielded ops a.tmps)then o.wp P a w next Q else next (a.put o.dst undef) w:=by
 have hx0: ∀ j,j<(o.op.operands.toList.map (Ll st.tmps)).length->JK O st.Jr m w (a.eval (o.op.operands.getD j (.tmp 0))) ((o.op.operands.toList.map (Ll st.tmps)).getD j .undef):=by
  intro j hj;have hj':j<o.op.operands.size:=by simpa using hj
  have e1:o.op.operands.getD j (.tmp 0)=o.op.operands[j]:=by rw[Dy,Em hj'];rfl
  have e2:(o.op.operands.toList.map (Ll st.tmps)).getD j .undef=Ll st.tmps o.op.operands[j]:=by simp [Dp,hj']
  rw[e1,e2];exact AhW hS _
 have hid0: ∀ y∈o.op.operands.toList.map (Ll st.tmps),∀ i∈y.ids,i∈st.ids:=by
  intro y hy i hi;obtain⟨x,_,rfl⟩:=DD.1 hy;cases x with
  | tmp t =>
   rcases En t st.tmps.length with h | h
   .exact sV h hi
   .have:Ll st.tmps (.tmp t)= .undef:=by simp [Ll,Dp,Eh h]
    rw[this]at hi;cases hi
  | const v=>have:Ll st.tmps (.const v)=ofConst v:=rfl
             rw[this,Ava]at hi;cases hi
  | global g =>
   have hi:i∈(AxZ (AiQ g)).ids:=hi;cases hg:AiQ g with
   | none=>rw[hg]at hi;cases hi
   | some q=>rw[hg]at hi;cases hi
  | func f=>cases hi
 obtain⟨hg1,hg2⟩:=Atk (ops:=ops) (o:=o) hS rfl;have plain: ∀ pre,JC (UL C o st pre).ok->(∀ O' m' a' w',Sim V0 O0 w0 O' m' (apply st o (UL C o st pre)) a' w'->next a' w')->o.wp P a w next Q:=by intro pre hok hn;unfold UL at hok hn;dsimp only at hok hn;obtain⟨_,hok⟩:=hok.append;obtain⟨hokA,hokB⟩:=hok.append;obtain⟨hok1,hok2⟩:=hokA.append;obtain⟨hB1,hB2⟩:=hokB.cons;have hB2:=hB2.cons.1;obtain⟨hl,hx⟩:=Abw hx0 hok1;have hid:=Adx hx0 hok1;have hg:=ApX hC hS (yT st _) (by rw[hl];simp) (fun j hj=>hx j (by rw[<- hl];exact hj)) (fun x hx' i hi=>by obtain⟨y,hy,hi'⟩:=hid x hx' i hi;exact .inl (hid0 y hy i hi')) hok2 (fun p hp=>(DJ.1 hB1) p hp) hB2;exact hg next Q hn
 unfold KQ at hok hn;cases hgo:guardOf ops.toList st.tmps o.guard with
 | none=>rw[hgo]at hok;exact(JQ hok).elim
 | some r =>
  cases r with
  | none =>rw[hgo]at hok hn;rw[hg1 hgo,Dq rfl];exact plain _ hok hn
  | some g =>
   rw[hgo]at hok hn;rw[hg2 g hgo];dsimp only at hok hn;cases hde:AsO C o with
   | some b =>
    rw[hde]at hok hn;cases b with
    | true =>
     have hg:g=true:=by have:=hok;unfold UL at this;exact(this.append).1.cons.1
     subst hg;rw[Dq rfl];exact plain _ hok hn
    | false =>
     have hg:g=false:=by simpa using (show JC [!g]from hok).cons.1
     subst hg;rw[Dt (by simp)];exact hn O m _ _ (hS.put o.dst (x:=.cnd false .undef) ⟨fun h=>by(cases h),fun _=>rfl⟩)
   | none =>
   rw[hde]at hok hn;dsimp only at hok hn;obtain⟨hokA,hokB⟩:=hok.append;obtain⟨h1,hokB⟩:=hokB.cons;obtain⟨h3,hokB⟩:=hokB.cons;obtain⟨hdst,hmg⟩:=hokB.cons;generalize hxs:(Ls o.op (o.op.operands.toList.map (Ll st.tmps)))=sf at *
   generalize hδ :opX C o sf.2 (KE st sf.2)= δ at *
   have hfet:=yT st sf.2;generalize hfe:KE st sf.2=fet at *
   have e1: δ.new=[]:=by simpa using h1
   have e3: δ.del=[]:=by simpa using h3
   have hm2: ∀ p∈ δ.upd,sZ (AbN o.op) (J5 fet p.1) p.2=true:=fun p hp=>hmg _ (DD.2 ⟨p,hp,rfl⟩);cases g with
   | false =>
    rw[Dt (by simp)];have hS1:=hS.put o.dst (x:=.cnd false δ.val) ⟨fun h=>by(cases h),fun _=>rfl⟩
    obtain⟨O1,hS2⟩:=hS1.closes (δ.upd.map (fun p=>(p.1,bT false (J5 fet p.1) p.2))) (by
     intro q hq;obtain⟨p,hp,rfl⟩:=DD.1 hq;rcases Ah4 (hm2 p hp)with ⟨_,cs,h1,h2⟩ | ⟨_,e,f,l,l',h1,h2,h3⟩
     .exact .inl ⟨cs,hfet _ _ h1,h2⟩
     .exact .inr ⟨e,f,l,hfet _ _ h1,h3 false⟩)
    exact hn O1 m _ _ hS2
   | true =>
    rw[Dq rfl];have hokA':JC (sf.1++(δ.val.isVal:: δ.ok)):=by intro b hb;have:=hokA (b|| !true) (DD.2 ⟨b,hb,rfl⟩);simpa using this
    obtain⟨hok1,hok2⟩:=hokA'.append;obtain⟨hv,hok2⟩:=hok2.cons;rw[<- hxs]at hok1;obtain⟨hl,hx⟩:=Abw hx0 hok1;have hid:=Adx hx0 hok1;rw[hxs]at hl hx hid;have hg:=ApX (xs:=sf.2) (fet:=fet) hC hS hfet (by rw[hl];simp) (fun j hj=>hx j (by rw[<- hl];exact hj)) (fun x hx' i hi=>by obtain⟨y,hy,hi'⟩:=hid x hx' i hi;exact .inl (hid0 y hy i hi')) (by rw[hδ];exact hok2) (fun p hp=>by rw[hδ,e1]at hp;cases hp) (by rw[hδ,e1];rfl);rw[hδ]at hg;refine hg next Q (fun O' m' a' w' h=>hn O' m' a' w' ?_)
    have eu: δ.upd.map (fun p=>(p.1,bT true (J5 fet p.1) p.2))= δ.upd:=by
     conv=>rhs;rw[<- FW δ.upd]
     refine EK fun p hp=> ?_;rcases Ah4 (hm2 p hp)with ⟨h1,_⟩ | ⟨hc,e,f,l,l',h1,h2,h3⟩
     .rw[h1];rfl
     .have hcl:=Ajj (C:=C) (fet:=fet) (xs:=sf.2) hc;rw[hδ]at hcl;obtain⟨e',f',h4,_⟩:=hcl p hp _ _ _ h2;rw[h1]at h4;injection h4 with h4;injection h4 with q1 q2 q3;rw[h3 true,q3,<- h2];rfl
    have ea:apply st o δ = {tmps:=put st.tmps o.dst δ.val,Jr:=JH st.Jr δ.upd}:=by unfold apply;rw[e1,e3];rfl
    rw[ea]at h;have eb: ∀ ok,apply st o {ok:=ok,val:=.cnd true δ.val,upd:= δ.upd.map (fun p=>(p.1,bT true (J5 fet p.1) p.2))}= {tmps:=put st.tmps o.dst (.cnd true δ.val),Jr:=JH st.Jr δ.upd}:=by intro ok;unfold apply;dsimp only;rw[eu];rfl
    rw[eb];refine⟨h.defers,by have:=h.size;dsimp only at this ⊢;rw[dD]at this ⊢;exact this,fun t ht=> ?_,h.Jr,h.frame,h.own,h.ids,h.less,h.root,h.yX,h.inv⟩;have ht':t<st.tmps.length:=by have ht2:t<(put st.tmps o.dst (.cnd true δ.val)).length:=ht;rw[dD]at ht2;exact ht2
    have:=h.tmps t (by show t<(put st.tmps o.dst δ.val).length;rw[dD];exact ht');dsimp only at this ⊢;rw[Aiz _ _ _ _ ht']at this;rw[Aiz _ _ _ _ ht'];by_cases hd:o.dst=some t
    .rw[Dq hd]at this ⊢;exact⟨fun _=>this.A0E hv,fun h=>by(cases h)⟩
    .rw[Dt hd]at this ⊢;exact this
end
section
variable {P:Program} {C:Ctx} {V0:Nat->Value} {O0 O:Own} {w0 w:World} {m:Nat->Value} {st:St} {a:Act}
def AqM (p:Nat->Bool) (l:List (Nat×Obj)) (k:Nat):J5 (l.filter (fun q=>p q.1)) k=if p k then J5 l k else none:=by
 induction l with
 | nil=>simp [J5]
 | cons q r ih=>grind[O5]
def Aw8 (g:Obj->Obj) (l:List (Nat×Obj)) (k:Nat):J5 (l.map (fun q=>(q.1,g q.2))) k=(J5 l k).map g:=by
 induction l with
 | nil=>rfl
 | cons q r ih=>grind[O5]
theorem drop_length (keep:List Nat): ∀(l:List A) (i:Nat),(drop keep l i).length=l.length:=by
 intro l
 induction l with
 | nil=>intro i;rfl
 | cons x r ih=>intro i;simp [drop,ih]
def Avl (keep:List Nat): ∀(l:List A) (i t:Nat),(drop keep l i).getD t .undef= .undef\/(drop keep l i).getD t .undef=l.getD t .undef:=by
 intro l
 induction l with
 | nil=>grind[drop]
 | cons x r ih =>
  intro i t;cases t with
  | zero=>grind[drop,has]
  | succ t=>simp_all[drop]
def Sim.dropped (hS:Sim V0 O0 w0 O m st a w) (keep Jr:List Nat):Sim V0 O0 w0 O m {tmps:=drop keep st.tmps 0,Jr:=st.Jr.filter (fun p=>has Jr p.1)} a w:=by
 have hag: ∀ o x,J5 (st.Jr.filter (fun p=>has Jr p.1)) o=some x->J5 st.Jr o=some x:=by
  intro o x h;rw[AqM (has Jr)]at h;split at h
  .exact h
  .cases h
 have hE:Us st.Jr m (st.Jr.filter (fun p=>has Jr p.1)) m (fun _=>False):=fun o x h=>.inr ⟨x,hag o x h,rfl,rfl⟩;have hp:NT O w O w:=fun _ _ _ h hc=>⟨h,hc⟩
 refine⟨hS.defers,by rw[hS.size];exact(drop_length _ _ _).symm,fun t ht=> ?_,fun o x h=> ?_,hS.frame,hS.own,fun o x h=>hS.ids o x (hag o x h),hS.less,fun o hr ho=>(by obtain⟨x,hx⟩:=EX.1 ho;exact hS.root o hr (by rw[hag o x hx];rfl)),hS.yX,hS.inv⟩
 .have ht':t<st.tmps.length:=by
   all_goals grind[drop,drop_length]
  show JK O _ m w _ ((drop keep st.tmps 0).getD t .undef);rcases Avl keep st.tmps 0 t with h | h
  .rw[h];trivial
  .rw[h];exact(hS.tmps t ht').step hp hE (fun _ _ h=>h)
 .exact(hS.Jr o x (hag o x h)).step (T:=fun _=>False) (Moves.refl O _ w) ⟨fun _ _ _ h=>h,fun _ _ _ _ h _=>h⟩ hE id rfl (fun _ _ h=>h)
def rho (f t o:Nat):Nat:=if o=f then t else o
theorem lC (f t o:Nat):(bif Nat.beq o f then t else o)=rho f t o:=by grind[Zx,rho]
def QM (f t:Nat):A->A
 | .ptr o off=>.ptr (rho f t o) off
 | .own o=>.own (rho f t o)
 | .clo g o=>.clo g (rho f t o)
 | .bsl o n=>.bsl (rho f t o) n
 | .osl o n=>.osl (rho f t o) n
 | .LU o i off=>.LU (rho f t o) i off
 | c=>c
def AxM (f t:Nat) (cs:List A):OE f t (.agg cs)= .agg (cs.map (QM f t)):=by show A.agg (cs.map _)=_;congr 1;refine EK fun c _=> ?_;all_goals grind[QM,lC]
def A0x (f t:Nat) (c:A):(∃ cs,c= .agg cs)\/OE f t c=QM f t c:=by cases c<;>first | exact .inl ⟨_,rfl⟩ | exact .inr rfl | (right;simp only[QM,OE,lC])
structure Ren (O:Own) (Jr:List (Nat×Obj)) (m:Nat->Value) (f t:Nat) (O':Own) (objs':List (Nat×Obj)) (m':Nat->Value):Prop where
 here: ∀ x',J5 objs' t=some x'-> ∃ x,J5 Jr f=some x/\x.shp=x'.shp/\m' t=m f
 there: ∀ o x',o≠t->J5 objs' o=some x'->o≠f/\ ∃ x,J5 Jr o=some x/\x.shp=x'.shp/\m' o=m o
 own: ∀ b k,O' b k=(O b k).map (rho f t)
def Ren.Ky {O':Own} {Jr objs':List (Nat×Obj)} {m':Nat->Value} {f t:Nat} (h:Ren O Jr m f t O' objs' m'):NT O w O' w:=by intro b k u hn hc;exact⟨by rw[h.own,hn];rfl,hc⟩
def JJ.ren {O':Own} {Jr objs':List (Nat×Obj)} {m':Nat->Value} {f t:Nat} (h:Ren O Jr m f t O' objs' m') {v:Value} {c:A} (hn: ∀ i∈c.N8,i=t->f=t) (hc:JJ O Jr m w v c) :
 JJ O' objs' m' w v (QM f t c):=by
 have key: ∀ o,(o=t->f=t)-> ∀ x',J5 objs' (rho f t o)=some x'-> ∃ x,J5 Jr o=some x/\x.shp=x'.shp/\m' (rho f t o)=m o:=by
  intro o ho x' hx;unfold rho at hx ⊢;by_cases hf:o=f
  .rw[Dq hf]at hx ⊢;rw[hf];exact h.here x' hx
  .rw[Dt hf]at hx ⊢;exact(h.there o x' (fun e=>hf (by rw[e,ho e])) hx).2
 cases c with
 | ptr o off =>
  simp only[JJ,QM]at *
  refine⟨hc.1,?_⟩;have hc:=hc.2;cases hx:J5 objs' (rho f t o)with
  | none=>simp
  | some x' =>obtain⟨x,h1,h2,h3⟩:=key o (hn o (by simp [A.N8])) x' hx;rw[h1]at hc;simp only[Option.map_some,h2]at hc;simp only[Option.map_some,h3];exact hc
 | own o =>
  simp only[JJ,QM]at *
  refine⟨hc.1,?_⟩;have hc:=hc.2;cases hx:J5 objs' (rho f t o)with
  | none=>simp
  | some x' =>obtain⟨x,h1,h2,h3⟩:=key o (hn o (by simp [A.N8])) x' hx;rw[h1]at hc;simp only[Option.map_some,h2]at hc;simp only[Option.map_some,h3];exact hc
 | clo k o =>
  simp only[JJ,QM]at *
  obtain⟨h0,p,h4,h5,hc⟩:=hc;refine⟨h0,p,h4,h5.Ky h.Ky,?_⟩;cases hx:J5 objs' (rho f t o)with
  | none=>simp
  | some x' =>obtain⟨x,h1,h2,h3⟩:=key o (hn o (by simp [A.N8])) x' hx;rw[h1]at hc;simp only[Option.map_some,h2]at hc;simp only[Option.map_some,h3];exact hc
 | bsl o n =>
  simp only[JJ,QM]at *
  refine⟨hc.1,?_⟩;have hc:=hc.2;cases hx:J5 objs' (rho f t o)with
  | none=>simp
  | some x' =>obtain⟨x,h1,h2,h3⟩:=key o (hn o (by simp [A.N8])) x' hx;rw[h1]at hc;simp only[Option.map_some,h2]at hc;simp only[Option.map_some,h3];exact hc
 | osl o n =>
  simp only[JJ,QM]at *
  refine⟨hc.1,?_⟩;have hc:=hc.2;cases hx:J5 objs' (rho f t o)with
  | none=>simp
  | some x' =>obtain⟨x,h1,h2,h3⟩:=key o (hn o (by simp [A.N8])) x' hx;rw[h1]at hc;simp only[Option.map_some,h2]at hc;simp only[Option.map_some,h3];exact hc
 | LU o i off =>
  simp only[JJ,QM]at *
  refine⟨hc.1,?_⟩;have hc:=hc.2;cases hx:J5 objs' (rho f t o)with
  | none=>simp
  | some x' =>obtain⟨x,h1,h2,h3⟩:=key o (hn o (by simp [A.N8])) x' hx;rw[h1]at hc;simp only[Option.map_some,h2]at hc;simp only[Option.map_some,h3];exact hc
 | elt cs =>obtain⟨b,off,hv,hc⟩:=hc;refine⟨b,off,hv,fun j hj=> ?_⟩;obtain⟨h1,u,h2,h3⟩:=hc j hj;obtain⟨h4,h5⟩:=h.Ky _ _ _ h1 h2;exact⟨h4,u,h5,h3.Ky h.Ky⟩
 | fn f=>exact JE.Ky h.Ky hc
 | ump _=>exact hc
 | undef=>exact hc
 | LJ=>exact hc
 | bool b=>exact JE.Ky h.Ky hc
 | int k n=>exact JE.Ky h.Ky hc
 | str s=>exact JE.Ky h.Ky hc
 | sl l=>exact JE.Ky h.Ky hc
 | sln l=>exact JE.Ky h.Ky hc
 | MP=>exact JE.Ky h.Ky hc
 | usl _ _ _=>exact hc
 | agg _=>exact hc
 | tup _=>exact hc
 | box _=>exact hc
 | cbx _ _=>exact hc
 | cnd _ _=>exact hc
def Ren.exts {O':Own} {Jr objs':List (Nat×Obj)} {m':Nat->Value} {f t:Nat} (h:Ren O Jr m f t O' objs' m'):Us Jr m objs' m' (fun o=>o=t/\f≠t):=by
 intro o x' hx;by_cases ho:o=t
 .subst ho;by_cases hf:f=o
  .right;obtain⟨x,h1,h2,h3⟩:=h.here x' hx;rw[hf]at h1 h3;exact⟨x,h1,h2,h3⟩
  .exact .inl ⟨rfl,hf⟩
 .exact .inr (h.there o x' ho hx).2
def JK.ren {O':Own} {Jr objs':List (Nat×Obj)} {m':Nat->Value} {f t:Nat} (h:Ren O Jr m f t O' objs' m') {v:Value} {c:A} (hn: ∀ i∈c.ids,i=t->f=t) (hc:JK O Jr m w v c) :
 JK O' objs' m' w v (OE f t c):=by
 cases c with
 | agg cs =>
  rw[AxM];obtain⟨vs,h1,h2,h3⟩:=hc;refine⟨vs,h1,by simpa using h2,fun j hj=> ?_⟩;have hj':j<cs.length:=by simpa using hj
  have e:(cs.map (QM f t)).getD j .undef=QM f t (cs.getD j .undef):=by simp [Dp,hj']
  rw[e];exact(h3 j hj').ren h (fun i hi=>hn i (V6 (f:=A.N8) hj' hi))
 | tup l=>exact JK.step h.Ky h.exts (fun o ho hN=>hN.2 (hn o ho hN.1)) hc
 | cnd g c=>exact JK.step h.Ky h.exts (fun o ho hN=>hN.2 (hn o ho hN.1)) hc
 | undef=>trivial
 | ptr o off =>
  have e:OE f t (.ptr o off)=QM f t (.ptr o off):=by simp only[QM,OE,lC]
  rw[e];exact JJ.ren (w:=w) (m:=m) (c:=.ptr o off) h hn hc
 | own o =>
  have e:OE f t (.own o)=QM f t (.own o):=by simp only[QM,OE,lC]
  rw[e];exact JJ.ren (w:=w) (m:=m) (c:=.own o) h hn hc
 | clo g o =>
  have e:OE f t (.clo g o)=QM f t (.clo g o):=by simp only[QM,OE,lC]
  rw[e];exact JJ.ren (w:=w) (m:=m) (c:=.clo g o) h hn hc
 | bsl o n =>
  have e:OE f t (.bsl o n)=QM f t (.bsl o n):=by simp only[QM,OE,lC]
  rw[e];exact JJ.ren (w:=w) (m:=m) (c:=.bsl o n) h hn hc
 | osl o n =>
  have e:OE f t (.osl o n)=QM f t (.osl o n):=by simp only[QM,OE,lC]
  rw[e];exact JJ.ren (w:=w) (m:=m) (c:=.osl o n) h hn hc
 | LU o i off =>
  have e:OE f t (.LU o i off)=QM f t (.LU o i off):=by simp only[QM,OE,lC]
  rw[e];exact JJ.ren (w:=w) (m:=m) (c:=.LU o i off) h hn hc
 | bool b=>exact JJ.ren (w:=w) (m:=m) (c:=.bool b) h hn hc
 | int k n=>exact JJ.ren (w:=w) (m:=m) (c:=.int k n) h hn hc
 | str s=>exact JJ.ren (w:=w) (m:=m) (c:=.str s) h hn hc
 | sl l=>exact JJ.ren (w:=w) (m:=m) (c:=.sl l) h hn hc
 | sln l=>exact JJ.ren (w:=w) (m:=m) (c:=.sln l) h hn hc
 | LJ=>exact JJ.ren (w:=w) (m:=m) (c:=.LJ) h hn hc
 | MP=>exact JJ.ren (w:=w) (m:=m) (c:=.MP) h hn hc
 | elt cs=>exact JJ.ren (w:=w) (m:=m) (c:=.elt cs) h hn hc
 | fn g=>exact JJ.ren (w:=w) (m:=m) (c:=.fn g) h hn hc
 | ump _=>exact hc
 | usl _ _ _=>exact hc
 | box _=>exact hc
 | cbx _ _=>exact hc
def JJ.OE {O':Own} {Jr objs':List (Nat×Obj)} {m':Nat->Value} {f t:Nat} (h:Ren O Jr m f t O' objs' m') {v:Value} {c:A} (hn: ∀ i∈c.N8,i=t->f=t) (hc:JJ O Jr m w v c) :
 JJ O' objs' m' w v (Vm.OE f t c):=by
 rcases A0x f t c with ⟨cs,rfl⟩ | e
 .exact hc.elim
 .rw[e];exact hc.ren h hn
def LH.ren {O':Own} {Jr objs':List (Nat×Obj)} {m':Nat->Value} {f t:Nat} (h:Ren O Jr m f t O' objs' m') {o:Nat} {x:Obj} (hm:m' (rho f t o)=m o) (hn: ∀ i∈x.ids,i=t->f=t) (hx:LH O Jr m w o x) :
 LH O' objs' m' w (rho f t o) (AfZ f t x):=by
 cases x with
 | box cs =>
  obtain⟨b,base,h1,h2⟩:=hx;refine⟨b,base,by rw[hm];exact h1,fun j hj=> ?_⟩;have hj':j<cs.length:=by simpa using hj
  obtain⟨h3,h4,u,h5,h6⟩:=h2 j hj';refine⟨by rw[h.own,h3];rfl,h4,u,h5,?_⟩;have e:(cs.map (Vm.OE f t)).getD j .undef=Vm.OE f t (cs.getD j .undef):=by simp [Dp,hj']
  rw[e];exact h6.OE h (fun i hi=>hn i (V6 (f:=A.N8) hj' hi))
 | arr e frz l =>
  obtain⟨h0,hx⟩:=hx;refine⟨h0,?_⟩;rcases hx with ⟨h1,h2,h3⟩ | ⟨h1,g,cap,cur,h2,h3,h4,h5,h6,h7,h8,h9⟩
  .exact .inl ⟨h1,h2,by rw[hm];exact h3⟩
  .refine .inr ⟨h1,g,cap,cur,by rw[hm];exact h2,h3,h4,h5,h6,fun i j hi hj=> ?_,fun k hk hge=> ?_,fun k hk=> ?_⟩
   .obtain⟨u,h10,h11⟩:=h7 i j hi hj;exact⟨u,h10,h11.Ky h.Ky⟩
   .rw[h.own,h8 k hk hge];rfl
   .rw[h.own,h9 k hk];cases frz<;>rfl
 | mp l =>
  obtain⟨r,es,ck,h1,h2,h3,h4,h5⟩:=(show QU O w o (m o) l from hx)
  refine(⟨r,es,ck,by rw[hm];exact h1,h2,by rw[h.own,h3];rfl,h4,fun i p hi=> ?_⟩:QU O' w (rho f t o) (m' (rho f t o)) l);obtain⟨e,k1,k2,k3⟩:=h5 i p hi;exact⟨e,k1,k2.Ky h.Ky,k3.Ky h.Ky⟩
def Sim.renamed (hS:Sim V0 O0 w0 O m st a w) {f t:Nat} {x:Obj} (hf:J5 st.Jr f=some x) (ht:f=t\/Qz st t) :
 ∃ O' m',Sim V0 O0 w0 O' m' {tmps:=st.tmps.map (OE f t),Jr:=(N7 (Uu st.Jr f) t x).map (fun p=>(p.1,AfZ f t p.2))} a w:=by
 have hag: ∀ o,J5 ((N7 (Uu st.Jr f) t x).map (fun p=>(p.1,AfZ f t p.2))) o=(if o=t then some x else if o=f then none else J5 st.Jr o).map (AfZ f t):=by intro o;rw[Aw8,KU,wL]
 have hshp: ∀ y,(AfZ f t y).shp=y.shp:=by intro y;cases y<;>rfl
 have h255:f≠255:=hS.ids f x hf
 have hR:Ren O st.Jr m f t (fun b k=>(O b k).map (rho f t)) ((N7 (Uu st.Jr f) t x).map (fun p=>(p.1,AfZ f t p.2))) (fun o=>if o=t then m f else m o):=by
  refine⟨fun x' hx=> ?_,fun o x' ho hx=> ?_,fun _ _=>rfl⟩
  .rw[hag,Dq rfl]at hx;simp only[Option.map_some,F8]at hx;exact⟨x,hf,by rw[<- hx,hshp],Dq rfl⟩
  .rw[hag,Dt ho]at hx;by_cases hof:o=f
   .rw[Dq hof]at hx;cases hx
   .rw[Dt hof]at hx;cases hy:J5 st.Jr o with
    | none=>rw[hy]at hx;cases hx
    | some y =>rw[hy]at hx;simp only[Option.map_some,F8]at hx;exact⟨hof,y,rfl,by rw[<- hx,hshp],Dt ho⟩
 have hids: ∀ i∈st.ids,i=t->f=t:=by
  intro i hi he;rcases ht with h | h
  .exact h
  .exact absurd (he▸hi) h.ids
 have hmr: ∀ o,(o=t->f=t)->(fun o=>if o=t then m f else m o) (rho f t o)=m o:=by all_goals grind[rho]
 refine⟨(fun b k=>(O b k).map (rho f t)),(fun o=>if o=t then m f else m o),hS.defers,by rw[hS.size];simp,fun i hi=> ?_,fun o y hy=> ?_,hS.frame,fun b k o hb ho hne=> ?_,fun o y hy=> ?_,fun b k hb h=>hS.less b k hb (fun e=>h (by show(O b k).map _=none;rw[e];rfl)),fun o hr ho=> ?_,fun b k hb h=>by show(O b k).map (rho f t)=_;rw[hS.yX b k hb h];exact congrArg some (Dt (fun e=>h255 e.symm)),hS.inv⟩
 .have hi':i<st.tmps.length:=by simpa using hi
  have e:(st.tmps.map (OE f t)).getD i .undef=OE f t (st.tmps.getD i .undef):=by simp [Dp,hi']
  show JK _ _ _ _ _ ((st.tmps.map (OE f t)).getD i .undef);rw[e];exact(hS.tmps i hi').ren hR (fun j hj=>hids j (sV hi' hj))
 .have hy':=hy;dsimp only at hy;rw[hag]at hy;by_cases h1:o=t
  .rw[Dq h1]at hy;simp only[Option.map_some,F8]at hy;subst hy;have:=(hS.Jr f x hf).ren hR (hmr f (fun e=>e)) (fun i hi=>hids i (bQ hf hi));have e:rho f t f=t:=Dq rfl;rw[e]at this;rw[h1];exact this
  .rw[Dt h1]at hy;by_cases h2:o=f
   .rw[Dq h2]at hy;cases hy
   .rw[Dt h2]at hy;cases hz:J5 st.Jr o with
    | none=>rw[hz]at hy;cases hy
    | some z =>rw[hz]at hy;simp only[Option.map_some,F8]at hy;subst hy;have:=(hS.Jr o z hz).ren hR (hmr o (fun e=>absurd e h1)) (fun i hi=>hids i (bQ hz hi));have e:rho f t o=o:=Dt h2;rw[e]at this;exact this
 .cases hq:O b k with
  | none =>have:(O b k).map (rho f t)=some o:=ho;rw[hq]at this;cases this
  | some o1 =>have:(O b k).map (rho f t)=some o:=ho;rw[hq]at this;simp only[Option.map_some,F8]at this;refine hS.own b k o1 hb hq (fun e=>hne ?_);rw[<- this,e];exact Dt (fun e=>h255 e.symm)
 .dsimp only at hy;rw[hag]at hy;by_cases h1:o=t
  .rw[h1];rcases ht with h | h
   .rw[<- h];exact h255
   .exact h.ne
  .rw[Dt h1]at hy;by_cases h2:o=f
   .rw[h2];exact h255
   .rw[Dt h2]at hy;cases hz:J5 st.Jr o with
    | none=>rw[hz]at hy;cases hy
    | some z=>exact hS.ids o z hz
 .dsimp only at ho ⊢;rw[hag]at ho;by_cases h1:o=t
  .rw[Dq h1];rcases ht with h | h
   .rw[h1,<- h];exact hS.root f (by rw[h,<- h1];exact hr) (by rw[hf];rfl)
   .rw[h1,h.root]at hr;cases hr
  .rw[Dt h1]at ho ⊢;by_cases h2:o=f
   .rw[Dq h2]at ho;cases ho
   .rw[Dt h2]at ho;refine hS.root o hr ?_;cases hz:J5 st.Jr o with
    | none=>rw[hz]at ho;cases ho
    | some z=>rfl
def Aue: ∀(l:List (Nat×Nat)) {O:Own} {m:Nat->Value} {st:St},Sim V0 O0 w0 O m st a w->(Aga st l).1=true-> ∃ O' m',Sim V0 O0 w0 O' m' (Aga st l).2 a w:=by
 intro l
 induction l with
 | nil=>intro O m st hS _;exact⟨O,m,hS⟩
 | cons p r ih =>
  intro O m st hS h;obtain⟨f,t⟩:=p;simp only[Aga]at h ⊢;cases hx:J5 st.Jr f with
  | none=>rw[hx]at h;exact ih hS h
  | some x =>
   rw[hx]at h;dsimp only at h ⊢;rw[Dv,Zx]at h
   obtain⟨O1,m1,hS1⟩:=hS.renamed (t:=t) hx (by
    by_cases hft:f=t
    .exact .inl hft
    .have h1:=h.1;rw[show decide (f=t)=false by simpa using hft]at h1;exact .inr (Ob h1))
   exact ih hS1 h.2
def Atj: ∀(l:List Nat) {O:Own} {st:St},Sim V0 O0 w0 O m st a w-> ∃ O',Sim V0 O0 w0 O' m {st with Jr:=Apq st.Jr l} a w:=by
 intro l
 induction l with
 | nil=>intro O st hS;exact⟨O,hS⟩
 | cons n r ih =>
  intro O st hS;simp only[Apq];cases hx:J5 st.Jr n with
  | none=>exact ih hS
  | some x =>
   cases x with
   | mp _=>exact ih hS
   | box cs=>exact ih hS
   | arr e f l =>obtain⟨O1,hS1,_⟩:=hS.AaD hx;exact ih hS1
def Ac2 {t:Nat} {v:Value} (hs:a.tmps.getD t undef=v) (hlt:t<a.tmps.size):a.put (some t) v=a:=by
 have:a.tmps.setIfInBounds t v=a.tmps:=by apply IL;intro i;rw[Fj];by_cases hi:t=i;all_goals simp_all[getD_eq,hs]
 simp only[Act.put,this]
theorem Av9 {x:A} (h:AaL x=true):x= .LJ:=by cases x<;>first | rfl | cases h
def Aum {id:Nat}: ∀(ts:List Nat) {O:Own} {m:Nat->Value} {st:St},Sim V0 O0 w0 O m st a w->(∀ t∈ts,t<st.tmps.length)->(∀ t∈ts,JJ O st.Jr m w (a.tmps.getD t undef) (.own id)) ->
 Sim V0 O0 w0 O m {st with tmps:=Agc id ts st.tmps} a w:=by
 intro ts
 induction ts with
 | nil=>intro O m st hS _ _;exact hS
 | cons t r ih =>intro O m st hS hl hc;have hlt:=hl t Dw;have h1:=hS.put (some t) (x:=.own id) (v:=a.tmps.getD t undef) ((hc t Dw).toT);rw[Ac2 rfl (by rw[hS.size];exact hlt)]at h1;exact ih (st:= {st with tmps:=st.tmps.set t (.own id)}) h1 (fun q hq=>by simpa using hl q (Dz _ hq)) (fun q hq=>hc q (Dz _ hq))
def Aua: ∀(l:List (List Nat×Nat×Ty×Nat)) {O:Own} {m:Nat->Value} {st:St},Sim V0 O0 w0 O m st a w->(owns l st).1=true-> ∃ O' m',Sim V0 O0 w0 O' m' (owns l st).2 a w:=by
 intro l
 induction l with
 | nil=>intro O m st hS _;exact⟨O,m,hS⟩
 | cons p r ih =>
  intro O m st hS h;obtain⟨ts,e,ty,id⟩:=p;unfold owns at h ⊢;cases hany:ts.any (fun t=>AaL (st.tmps.getD t .undef))with
  | false=>rw[hany]at h;exact ih hS h
  | true =>
   rw[hany]at h;simp only[cond_true]at h ⊢;rw[Dv,Dv]at h;obtain⟨⟨h1,h2⟩,h3⟩:=h;have hall: ∀ t∈ts,st.tmps.getD t .undef= .LJ/\t<st.tmps.length:=by all_goals grind[Av9]
   have hval: ∀ t∈ts,a.tmps.getD t undef= .slice none 0 0:=by intro t ht;have hv:=hS.tmps t (hall t ht).2;rw[(hall t ht).1]at hv;exact hv
   cases ts with
   | nil=>cases hany
   | cons t ts =>
    have hlt:=(hall t Dw).2;obtain⟨O',m',hS'⟩:=Acr hS (d:=t) (e:=e) (t:=ty) (frz:=false) (del:=[]) (Ob h2);rw[Ac2 (hval t Dw) (by rw[hS.size];exact hlt)]at hS';have hslot:=hS'.tmps t (by simpa using hlt);have e0:(st.tmps.set t (.own id)).getD t .undef= .own id:=by simp [Dp,hlt]
    rw[e0,hval t Dw]at hslot;have hfin:=Aum (a:=a) ts hS' (fun q hq=>by simpa using (hall q (Dz _ hq)).2) (fun q hq=>by rw[hval q (Dz _ hq)];exact hslot);exact ih hfin h3
def Awa: ∀(l:List (Option Nat×Nat×Ty)) {O:Own} {st:St},Sim V0 O0 w0 O m st a w-> ∃ O',Sim V0 O0 w0 O' m (pzs l st) a w:=by
 intro l
 induction l with
 | nil=>intro O st hS;exact⟨O,hS⟩
 | cons p r ih =>
  intro O st hS;obtain⟨b,j,ty⟩:=p;cases b with
  | none =>
   unfold pzs;cases hx:st.tmps.getD j .undef with
   | LJ =>
    dsimp only
    have hlt:j<st.tmps.length:=by
     rcases En j st.tmps.length with h | h
     .exact h
     .rw[Dp,Eh h]at hx;cases hx
    have hc:=hS.tmps j hlt;rw[hx]at hc;have hc:a.tmps.getD j undef= .slice none 0 0:=hc;have h2:=hS.put (some j) (x:=.sl ⟨ty,[]⟩) (v:=a.tmps.getD j undef) (by rw[hc];exact JE.nil ty);rw[Ac2 rfl (by rw[hS.size];exact hlt)]at h2;exact ih h2
   | own o =>
    dsimp only;cases ho:J5 st.Jr o with
    | none=>exact ih hS
    | some y =>
     cases y with
     | box _=>exact ih hS
     | mp _=>exact ih hS
     | arr e f l =>
      dsimp only;obtain⟨O1,hS1,hp1,_,hv1,_⟩:=hS.AaD ho
      have hlt:j<st.tmps.length:=by
       rcases En j st.tmps.length with h | h
       .exact h
       .rw[Dp,Eh h]at hx;cases hx
      have hc:=hS.tmps j hlt;rw[hx]at hc;have hc:JJ O st.Jr m w (a.tmps.getD j undef) (.own o):=hc;have hc2:=hc.2;rw[ho]at hc2;have hm:a.tmps.getD j undef=m o:=hc2;have h2:=hS1.put (some j) (x:=.sl l) (v:=a.tmps.getD j undef) (by rw[hm];exact hv1);rw[Ac2 rfl (by rw[hS.size];exact hlt)]at h2;exact ih h2
   | _=>exact ih hS
  | some b =>
   unfold pzs;cases hb:J5 st.Jr b with
   | none=>exact ih hS
   | some y =>
    cases y with
    | arr _ _ _=>exact ih hS
    | mp _=>exact ih hS
    | box cs =>
     dsimp only;cases hx:cs.getD j .undef with
     | own o =>
      dsimp only;cases ho:J5 st.Jr o with
      | none=>exact ih hS
      | some y =>
       cases y with
       | box _=>exact ih hS
       | mp _=>exact ih hS
       | arr e f l =>
        dsimp only;obtain⟨O1,hS1,hp1,_,hv1,_⟩:=hS.AaD ho;have hbo:b≠o:=fun h=>by rw[h,ho]at hb;cases hb
        have hb1:J5 (N7 st.Jr o (.arr e true l)) b=some (.box cs):=by rw[KU,Dt hbo];exact hb
        have ho1:J5 (N7 st.Jr o (.arr e true l)) o=some (.arr e true l):=by rw[KU,Dq rfl]
        have hjl:j<cs.length:=by
         rcases En j cs.length with h | h
         .exact h
         .rw[Dp,Eh h]at hx;cases hx
        have hE:Us (N7 st.Jr o (.arr e true l)) m (N7 (N7 st.Jr o (.arr e true l)) b (.box (cs.set j (.sl l)))) m (fun _=>False):=by
         intro q z hz;rw[KU]at hz;by_cases hq:q=b
         .rw[Dq hq]at hz;injection hz with hz;subst hz;exact .inr ⟨.box cs,by rw[hq];exact hb1,rfl,rfl⟩
         .rw[Dt hq]at hz;exact .inr ⟨z,hz,rfl,rfl⟩
        have h2:=hS1.next (st':= {st with Jr:=N7 (N7 st.Jr o (.arr e true l)) b (.box (cs.set j (.sl l)))}) (d:=none) (v:=undef) (x:=.undef) (T:=fun _=>False) (Nw:=fun _=>False) (Moves.refl O1 _ w) ⟨fun _ _ _ h=>h,fun _ _ _ _ h _=>h⟩ (fun _ _ _ h=>h) hE (fun _ h=>h.elim) (fun _ h=>h.elim)
         (fun q z hz=>by
           rw[KU]at hz;by_cases hq:q=b
           .rw[Dq hq]at hz;injection hz with hz;subst hz;right;obtain⟨bk,base,g1,g2⟩:=hS1.Jr b _ hb1;rw[hq];refine⟨⟨bk,base,g1,fun i hi=> ?_⟩,hS.ids b _ hb⟩;rw[Gt]at hi;obtain⟨k1,k2,u,k3,k4⟩:=g2 i hi;refine⟨k1,k2,u,k3,?_⟩;by_cases hij:j=i
            .subst hij;have e1:(cs.set j (.sl l)).getD j .undef= .sl l:=by simp [Dp,hjl]
             rw[e1];rw[hx]at k4;have k5:=k4.2;rw[ho1]at k5;have hm:u=m o:=k5;rw[hm];exact hv1
            .have e1:(cs.set j (.sl l)).getD i .undef=cs.getD i .undef:=by
              simp only[Dp,Gh];rw[Dt hij]
             rw[e1];exact k4.step (fun _ _ _ h hc=>⟨h,hc⟩) hE (fun _ _ h=>h)
           .rw[Dt hq]at hz;exact .inl ⟨fun h=>h,hz,rfl⟩) rfl (fun h=>absurd rfl h)
        exact ih h2
     | _=>exact ih hS
def AtI (hS:Sim V0 O0 w0 O m st a w) {key:Nat} (h:(norm C key st).1=true): ∃ O' m',Sim V0 O0 w0 O' m' (norm C key st).2 a w:=by
 unfold norm at h ⊢;cases hn:C.nrm key with
 | none=>exact⟨O,m,hS⟩
 | some n =>rw[hn]at h;dsimp only at h ⊢;rw[Dv]at h;obtain⟨O4,hS4⟩:=Awa n.pz hS;obtain⟨O1,m1,hS1⟩:=Aue n.ren (hS4.dropped n.keep (reached (drop n.keep (pzs n.pz st).tmps 0) (pzs n.pz st).Jr)) h.1;obtain⟨O3,m3,hS3⟩:=Aua n.nw hS1 h.2;obtain⟨O2,hS2⟩:=Atj n.frz hS3;exact⟨O2,m3,hS2⟩
def Afr {ρ :Type} (hS:Sim V0 O0 w0 O m st a w) {key:Nat} {K:St->Option ρ} {r: ρ} (h:VW C key st K=some r): ∃ O' m' st',Sim V0 O0 w0 O' m' st' a w/\K st'=some r:=by
 unfold VW at h;cases hn:(norm C key st).1 with
 | false =>have h':(bif (norm C key st).1 then K (norm C key st).2 else none)=some r:=h;rw[hn]at h';cases h'
 | true =>have h':(bif (norm C key st).1 then K (norm C key st).2 else none)=some r:=h;rw[hn]at h';obtain⟨O1,m1,hS1⟩:=AtI hS hn;exact⟨O1,m1,_,hS1,h'⟩
def Acp {ρ :Type} (hS:Sim V0 O0 w0 O m st a w) {kind:Nat} {c:Code} {K:St->Option ρ} {r: ρ} (h:meet C kind c st K=some r): ∃ O' m' st',Sim V0 O0 w0 O' m' st' a w/\K st'=some r:=by
 unfold meet at h;cases hn:MS c with
 | none=>rw[hn]at h;exact⟨O,m,st,hS,h⟩
 | some n=>rw[hn]at h;exact Afr hS h
end
section
variable {P:Program} {C:Ctx} {V0:Nat->Value} {O0 O:Own} {w0 w:World} {m:Nat->Value} {st:St} {a:Act}
def As0 {C:Ctx} {o:Oper} {f:Nat} {q:Alt} (h:oH C o=some (f,q)):C.alt f=some q:=by
 unfold oH at h;split at h
 .rename_i g _ _ _ _;cases ha:C.alt g with
  | none=>rw[ha]at h;cases h
  | some q'=>simp_all[Alt,oH]
 .cases h
def AvS {ρ :Type} (hC:OD P C) {ops:Array Oper} {Q:Exit->Act->World->Prop} {v: ρ} {K:St->Option ρ} (hK: ∀ O' m' st' a' w',Sim V0 O0 w0 O' m' st' a' w'->K st'=some v->Q .normal a' w') :
 ∀(l:List Oper) {O:Own} {m:Nat->Value} {st:St} {a:Act} {w:World},Sim V0 O0 w0 O m st a w->Zy C ops.toList l st K=some v->wpList P ops Q l a w:=by
 intro l
 induction l with
 | nil=>intro O m st a w hS h;exact hK _ _ _ _ _ hS h
 | cons o r ih =>
  intro O m st a w hS h;have one: ∀ C':Ctx,OD P C'->allT (KQ C' ops.toList o st).ok (Zy C ops.toList r (apply st o (KQ C' ops.toList o st)) K)=some v->wpList P ops Q (o::r) a w:=by intro C' hC' h;obtain⟨h1,h2⟩:=WZ h;refine wpList_step fun k hk=> ?_;exact Ak4 hC' hS h1 k Q fun O' m' a' w' hS'=>hk _ _ (ih hS' h2)
  unfold Zy at h;cases ha:oH C o with
  | none=>rw[ha]at h;exact one C hC h
  | some q =>
   obtain⟨f,q⟩:=q;rw[ha]at h;dsimp only at h;obtain⟨h1,h2⟩:=hC.alt f q (As0 ha);cases hb:AkJ o st q with
   | true=>rw[hb]at h;exact one _ (hC.put h1) h
   | false=>rw[hb]at h;exact one _ (hC.put h2) h
def Post {ρ :Type} (V0:Nat->Value) (O0:Own) (w0:World) (fin:St->Option ρ) (K:Ex->St->Option ρ) (v: ρ):Exit->Act->World->Prop
 | .normal,a,w=> ∃ O m st,Sim V0 O0 w0 O m st a w/\K .normal st=some v
 | .exit id,a,w=> ∃ O m st,Sim V0 O0 w0 O m st a w/\K (.exit id) st=some v
 | .ret,a,w=> ∃ O m st,Sim V0 O0 w0 O m st a w/\fin st=some v
 | _,_,_=>False
def AuZ (hS:Sim V0 O0 w0 O m st a w) {c:Operand} {t:Bool} (h:Ll st.tmps c= .bool t\/Ll st.tmps c= .cnd true (.bool t)):a.eval c= .bool t:=by
 have:=AhW hS c;rcases h with h | h
 .rw[h]at this;exact this.bool
 .rw[h]at this;have h1:JE O w (a.eval c) (.bool t):=this.1 rfl;generalize a.eval c=z at h1 ⊢;cases h1;rfl
def AsK {ρ :Type} (hC:OD P C) (N:Nat) {fin:St->Option ρ} {v: ρ}
 (hdraw: ∀ {C:Ctx},OD P C-> ∀(id:Nat) (ops:Array Oper) {O:Own} {m:Nat->Value} {st:St} {a:Act} {w:World} (K:Ex->St->Option ρ),Sim V0 O0 w0 O m st a w->VS C ops.toList st=true->Zz C ops.toList ops.toList st (fun st'=>K .normal st')=some v ->
   (Code.region id ops true).wp P (Post V0 O0 w0 fin K v) a w) :
 ∀(c:Code) {O:Own} {m:Nat->Value} {st:St} {a:Act} {w:World} {K:Ex->St->Option ρ},Sim V0 O0 w0 O m st a w->exec C N fin c st K=some v->c.wp P (Post V0 O0 w0 fin K v) a w:=by
 intro c
 induction c with
 | skip=>intro O m st a w K hS h;exact wp_skip ⟨O,m,st,hS,h⟩
 | label l=>intro O m st a w K hS h;exact wp_label ⟨O,m,st,hS,h⟩
 | ret=>intro O m st a w K hS h;exact wp_ret ⟨O,m,st,hS,h⟩
 | exit id =>intro O m st a w K hS h;obtain⟨O',m',st',hS',h'⟩:=Afr hS (show VW C (4*id+3) st (fun st'=>K (.exit id) st')=some v from h);exact wp_exit ⟨O',m',st',hS',h'⟩
 | region id ops d =>
  intro O m st a w K hS h;cases d with
  | false =>
   have key: ∀ C':Ctx,OD P C'->Zy C' ops.toList ops.toList st (fun st'=>K .normal st')=some v->(Code.region id ops false).wp P (Post V0 O0 w0 fin K v) a w:=fun C' hC' h' =>
    wp_region_list (AvS hC' (K:=fun st'=>K .normal st') (fun O' m' st' a' w' hS' h'=>⟨O',m',st',hS',h'⟩) ops.toList hS h')
   rcases(pV (show split C id ops.toList st _=some v from h)).1 with h' | ⟨ds,b,h'⟩
   .exact key C hC h'
   .exact key _ (hC.decide ds b) h'
  | true =>
   have key: ∀ C':Ctx,OD P C'->(bif VS C' ops.toList st then Zz C' ops.toList ops.toList st (fun st'=>K .normal st')else none)=some v->(Code.region id ops true).wp P (Post V0 O0 w0 fin K v) a w:=by
    intro C' hC' h';cases hd:VS C' ops.toList st with
    | false=>rw[hd]at h';cases h'
    | true=>rw[hd]at h';exact hdraw hC' id ops K hS hd h'
   rcases(pV (show split C id ops.toList st _=some v from h)).1 with h' | ⟨ds,b,h'⟩
   .exact key C hC h'
   .exact key _ (hC.decide ds b) h'
 | seq x y ihx ihy =>
  intro O m st a w K hS h;refine wp_seq (Jd (ihx (K:=fun | .normal,st'=>meet C 1 y st' fun st''=>exec C N fin y st'' K | .exit id,st'=>K (.exit id) st') hS h) fun e a' w' hq=> ?_);cases e with
  | normal =>obtain⟨O1,m1,st1,hS1,h1⟩:=hq;obtain⟨O2,m2,st2,hS2,h2⟩:=Acp hS1 h1;exact ihy hS2 h2
  | exit id=>exact hq
  | ret=>exact hq
  | goto l=>exact hq
  | panic ch=>exact hq
  | outgrown=>exact hq
 | cond c x y ihx ihy =>
  intro O m st a w K hS h
  have key: ∀ t:Bool,(Ll st.tmps c= .bool t\/Ll st.tmps c= .cnd true (.bool t))->(bif t then exec C N fin x st K else exec C N fin y st K)=some v->(Code.cond c x y).wp P (Post V0 O0 w0 fin K v) a w:=by
   intro t ht h';refine wp_cond (AuZ hS ht) ?_;cases t with
   | true=>exact ihx hS h'
   | false=>exact ihy hS h'
  simp only[exec]at h;cases he:Ll st.tmps c with
  | bool t=>rw[he]at h;exact key t (.inl he) h
  | cnd g y' =>
   rw[he]at h;cases y' with
   | bool t =>
    cases g with
    | false=>cases h
    | true=>exact key t (.inr he) h
   | _=>cases h
  | _=>rw[he]at h;cases h
 | block id c ih =>
  intro O m st a w K hS h;refine wp_block (Jd (ih (K:=fun | .exit j,st'=>bif Nat.beq j id then K .normal st' else K (.exit j) st' | .normal,st'=>K .normal st') hS h) fun e a' w' hq=> ?_);cases e with
  | normal=>exact hq
  | exit j =>
   obtain⟨O1,m1,st1,hS1,h1⟩:=hq;dsimp only at h1;show if j=id then _ else _;rw[Zx]at h1;by_cases hj:j=id
   .rw[Dq hj];simp only[hj,Gy,cond_true]at h1;exact⟨O1,m1,st1,hS1,h1⟩
   .rw[Dt hj];rw[show decide (j=id)=false by simpa using hj]at h1;exact⟨O1,m1,st1,hS1,h1⟩
  | ret=>exact hq
  | goto l=>exact hq
  | panic ch=>exact hq
  | outgrown=>exact hq
 | loop c ih =>
  intro O m st a w K hS h;obtain⟨O1,m1,st1,hS1,h1⟩:=Acp hS (show meet C 2 c st (fun st'=>rounds (meet C 2 c) (exec C N fin c) N st' K)=some v from h);refine wp_loop_rounds N ?_
  have key: ∀(n:Nat) {O:Own} {m:Nat->Value} {st:St} {a:Act} {w:World},Sim V0 O0 w0 O m st a w->rounds (meet C 2 c) (exec C N fin c) n st K=some v->Code.rounds P c (Post V0 O0 w0 fin K v) n a w:=by
   intro n
   induction n with
   | zero=>intro O m st a w _ h;cases h
   | succ n ihn =>
    intro O m st a w hS h;refine Jd (ih (K:=fun | .normal,st'=>meet C 2 c st' fun st''=>rounds (meet C 2 c) (exec C N fin c) n st'' K | .exit id,st'=>K (.exit id) st') hS h) fun e a' w' hq=> ?_;cases e with
    | normal =>obtain⟨O2,m2,st2,hS2,h2⟩:=hq;obtain⟨O3,m3,st3,hS3,h3⟩:=Acp hS2 h2;exact ihn hS3 h3
    | exit id=>exact hq
    | ret=>exact hq
    | goto l=>exact hq
    | panic ch=>exact hq
    | outgrown=>exact hq
  exact key N hS1 h1
 | scope c ih =>intro O m st a w K hS h;refine wp_scope_straight (Jd (ih hS (show exec C N fin c st K=some v from h)) fun e a' w' hq=> ?_);cases e<;>first | exact hq | exact hq.elim
 | _=>intro O m st a w K hS h;cases h
end
end Go.Proofs.YtakmjgnpefmjhaaGreatDoor.Vm
