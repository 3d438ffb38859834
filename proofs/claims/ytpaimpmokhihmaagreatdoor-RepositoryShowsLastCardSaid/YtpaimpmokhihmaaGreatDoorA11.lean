import Derived.Test.YtpaimpmokhihmaaGreatDoorA10
set_option linter.all false
namespace Go.Proofs.YtpaimpmokhihmaaGreatDoor.Vm
open Classical
structure LX (P:Program) (C:Ctx):Prop where
 T:TOk P C
 G: ∀ f sg,C.G f=some sg->Spec P f sg
 alt: ∀ f q,C.alt f=some q->Spec P f q.1/\Spec P f q.2.1
 dyn: ∀ t F,C.dyn t=some F->(∀ xs,(F 0).ok xs=false)/\ ∀ f xs,(F (f+1)).ok xs=true->Spec P f (F (f+1))
theorem LX.put {P:Program} {C:Ctx} (h:LX P C) {f:Nat} {s:Sig} (hs:Spec P f s):LX P (C.put f s):=⟨h.T,fun k sg hk=>by
 have hk':(bif Nat.beq f k then some s else C.G k)=some sg:=hk;cases hb:Nat.beq f k with
 | true=>simp_all
 | false=>rw[hb]at hk';exact h.G k sg hk',h.alt,h.dyn⟩
def Aht {a b:A} (h:eqC a b=true):a=b:=by
 unfold eqC at h;split at h
 .rw[EK h]
 .rw[Dn]at h;rw[A.NL h.1,EK h.2]
 .rw[EK h]
 .cases h
def Ad7 {fet:Fet} {x:A} {j:Nat} {δ :Dl} (h:Jv (OV fet x j δ).ok):Jv δ.ok/\(OV fet x j δ).val= δ.val/\(OV fet x j δ).new= δ.new/\(OV fet x j δ).upd= δ.upd/\(OV fet x j δ).del= δ.del:=by
 unfold OV at *
 cases x with
 | ptr q off =>
  dsimp only at h ⊢;cases hb:KQ fet q with
  | none=>rw[hb]at h;exact⟨h,rfl,rfl,rfl,rfl⟩
  | some cs =>
   rw[hb]at h;dsimp only at h ⊢;cases hc:Nat.blt j cs.length&& δ.upd.all (fun p=> !(Nat.beq p.1 q)||pR cs.length p.2)with
   | false=>rw[hc]at h;exact⟨h,rfl,rfl,rfl,rfl⟩
   | true =>
    rw[hc]at h;obtain⟨h1,h2⟩:=(show Jv (δ.ok++_)from h).append;refine⟨h1,rfl,rfl,?_,rfl⟩;show δ.upd.map _= δ.upd
    conv=>rhs;rw[<- Fz δ.upd]
    refine Es fun p hp=> ?_;have h3:=h2 _ (D8.2 ⟨p,hp,rfl⟩);cases hq:Nat.beq p.1 q with
    | false=>rfl
    | true =>
     rw[hq]at h3;have h3:eqU j (cs.getD j .undef) p.2=true:=h3;obtain⟨n,y⟩:=p;cases y with
     | box ds =>
      have h4:=Aht (show eqC (ds.getD j .undef) (cs.getD j .undef)=true from h3);show(n,Obj.box (ds.set j (cs.getD j .undef)))=(n,Obj.box ds);rw[<- h4];congr 2;apply Gt;intro i;rw[E8];by_cases hij:j=i
      .subst hij;rw[Dw rfl];by_cases hl:j<ds.length
       .simp [hl,Di]
       .simp [hl]
      .rw[Du hij]
     | _=>cases h3
 | _=>exact⟨h,rfl,rfl,rfl,rfl⟩
def Ad9 {fet:Fet} {xs:List A}: ∀(ks:List (Nat×Nat)) {δ :Dl},Jv (keepD fet xs ks δ).ok->Jv δ.ok/\(keepD fet xs ks δ).val= δ.val/\(keepD fet xs ks δ).new= δ.new/\(keepD fet xs ks δ).upd= δ.upd/\(keepD fet xs ks δ).del= δ.del:=by
 intro ks
 induction ks with
 | nil=>intro δ h;exact⟨h,rfl,rfl,rfl,rfl⟩
 | cons k ks ih =>intro δ h;obtain⟨i,j⟩:=k;obtain⟨h1,h2,h3,h4,h5⟩:=ih (δ :=OV fet (xs.getD i .undef) j δ) h;obtain⟨g1,g2,g3,g4,g5⟩:=Ad7 h1;exact⟨g1,h2.trans g2,h3.trans g3,h4.trans g4,h5.trans g5⟩
def LX.decide {P:Program} {C:Ctx} (h:LX P C) (ds:List Nat) (b:Bool):LX P (C.decide ds b):=⟨h.T,h.G,h.alt,h.dyn⟩
section
variable {P:Program} {C:Ctx} {V0:Nat->Value} {O0 O:Own} {w0 w:World} {m:Nat->Value} {st:St} {a:Act} {o:Oper}
theorem len1 {xs:List A} (h:xs.length=1): ∃ x,xs=[x]:=Ey.1 h
theorem dK {xs:List A} (h:xs.length=2): ∃ x y,xs=[x,y]:=by
 match xs,h with
 | [x,y],_=>exact⟨x,y,rfl⟩
theorem AdE {xs:List A} (h:xs.length=3): ∃ x y z,xs=[x,y,z]:=by
 match xs,h with
 | [x,y,z],_=>exact⟨x,y,z,rfl⟩
theorem pY {δ :Dl} (h:Jv δ.ok) (e: δ = .no):False:=by rw[e]at h;exact J5 h
theorem Vf {t:Nat} {x:Operand} {lo hi:Option Operand} (hC:TOk P C) (hS:Sim V0 O0 w0 O m st a w) (ho:o.op= .slice t x lo hi none) {fet:Fet} (hf:MP st.Jm fet) {x':A} {lo' hi':Option A} (hx:Jw O st.Jm m w (a.eval x) x')
 (hlo:ORl O st.Jm m w (lo.map a.eval) lo') (hhi:ORl O st.Jm m w (hi.map a.eval) hi') (hok:Jv (KP C fet t x' lo' hi').ok):Good P V0 O0 w0 (apply st o (KP C fet t x' lo' hi')) o a w:=by
 cases x' with
 | str s=>exact(Af6 hC ho rfl hx hlo hhi hok).good hS
 | sl l=>exact(Ag1 hC ho rfl hx hlo hhi hok).good hS
 | sln l=>exact(Af5 hC ho rfl hx hlo hhi hok).good hS
 | own q=>exact zA hC hS ho rfl hf hx hlo hhi hok
 | _ =>exfalso;unfold KP at hok;obtain⟨ti,ht,he⟩:=JH hok;rw[he]at hok;exact J5 hok
theorem AgA {k:A->Dl} {v:List A} (h:Jv (a1 k v).ok): ∃ x,v=[x]:=by
 match v,h with
 | [x],_=>exact⟨x,rfl⟩
 | [],h=>exact(J5 h).elim
 | _::_::_,h=>exact(J5 h).elim
theorem mG {k:A->A->Dl} {v:List A} (h:Jv (a2 k v).ok): ∃ x y,v=[x,y]:=by
 match v,h with
 | [x,y],_=>exact⟨x,y,rfl⟩
 | [],h=>exact(J5 h).elim
 | [_],h=>exact(J5 h).elim
 | _::_::_::_,h=>exact(J5 h).elim
set_option maxHeartbeats 1000000 in
theorem Abf (hCx:LX P C) (hS:Sim V0 O0 w0 O m st a w) {fet:Fet} (hf:MP st.Jm fet) {xs:List A} (hl:xs.length=o.op.operands.size) (hx: ∀ j,j<xs.length->Jw O st.Jm m w (a.eval (o.op.operands.getD j (.tmp 0))) (xs.getD j .undef))
 (hids: ∀ x∈xs,∀ i∈x.ids,i∈st.ids\/(Jr st.Jm i).isSome)
 (hok:Jv (opX C o xs fet).ok) (hfr: ∀ p∈(opX C o xs fet).new,st.fresh p.1=true) (hnd:nodup ((opX C o xs fet).new.map (·.1))=true):Good P V0 O0 w0 (apply st o (opX C o xs fet)) o a w:=by
 have hC:=hCx.T;have hF:FOk O st.Jm m w fet:=fun q x h=>⟨hf q x h,hS.Jm q x (hf q x h)⟩
 obtain⟨dst,op,ty,pos,after,guard⟩:=o;cases op with
 | move x =>obtain⟨x',rfl⟩:=len1 hl;exact(wP (o:=⟨dst,.move x,ty,pos,after,guard⟩) (.inl rfl) (hx 0 (by simp))).good hS
 | assign x =>obtain⟨x',rfl⟩:=len1 hl;exact(wP (o:=⟨dst,.assign x,ty,pos,after,guard⟩) (.inr rfl) (hx 0 (by simp))).good hS
 | pick c x y =>obtain⟨c',x',y',rfl⟩:=AdE hl;exact(Afx rfl (hx 0 (by simp)) (hx 1 (by simp)) (hx 2 (by simp)) hok).good hS
 | alloc t =>obtain rfl:xs=[]:=Fv hl;obtain⟨d,hd,he⟩:=J8 (show Jv (JG dst fun d=>TC C d t).ok from hok);have e1:opX C ⟨dst,.alloc t,ty,pos,after,guard⟩ [] fet=TC C d t:=he;rw[e1]at hok hfr hnd ⊢;exact AbM hC hS hd rfl hok hfr hnd
 | box t x =>obtain⟨x',rfl⟩:=len1 hl;obtain⟨d,hd,he⟩:=J8 (show Jv (JG dst fun d=>aI C d t x').ok from hok);have e1:opX C ⟨dst,.box t x,ty,pos,after,guard⟩ [x'] fet=aI C d t x':=he;rw[e1]at hok hfr hnd ⊢;exact Ae0 hC hS hd rfl (hx 0 (by simp)) (hids x' (by simp)) hok hfr hnd
 | build t ps =>
  have hps:xs.length=ps.size:=by rw[hl];simp [Op.operands]
  have e1:opX C ⟨dst,.build t ps,ty,pos,after,guard⟩ xs fet=aK C t ((ps.toList.map (fun(p:Nat×Operand)=>p.1)).zip xs):=rfl;rw[e1]at hok ⊢;refine(Adb (o:=⟨dst,.build t ps,ty,pos,after,guard⟩) (ps:=ps) (xs:=(ps.toList.map (fun(p:Nat×Operand)=>p.1)).zip xs) hC rfl (by simp [hps]) (fun j x p hxj hpj=> ?_) hok).good hS;have hj:j<ps.size:=(DK.1 hpj).1;have hjx:j<xs.length:=by omega
  rw[EE]at hxj;obtain⟨h1,h2⟩:=hxj;have:=hx j hjx;have e1:(Op.build t ps).operands.getD j (.tmp 0)=p.2:=by simp only[Op.operands];rw[Dj];simp [hpj]
  have e2:xs.getD j .undef=x.2:=by rw[Di,h2];rfl
  refine⟨?_,?_⟩
  .simp [hpj]at h1;exact h1
  .rw[<- e1,<- e2];exact this
 | buildSlice t n ps =>
  obtain⟨d,hd,he⟩:=J8 (show Jv (JG dst fun d=>bif pG ((ps.toList.map (·.1)).zip xs)then aJ C d t n ((ps.toList.map (·.1)).zip xs)else Oy C fet d t n ((ps.toList.map (·.1)).zip xs)).ok from hok);have e1:opX C ⟨dst,.buildSlice t n ps,ty,pos,after,guard⟩ xs fet=bif pG ((ps.toList.map (·.1)).zip xs)then aJ C d t n ((ps.toList.map (·.1)).zip xs)else Oy C fet d t n ((ps.toList.map (·.1)).zip xs):=he;rw[e1]at hok hfr hnd ⊢;have hps:xs.length=ps.size:=by rw[hl];simp [Op.operands]
  have hz:((ps.toList.map (·.1)).zip xs).length=ps.size:=by simp [hps]
  have hxz: ∀(j:Nat) (x:Nat×A) (p:Nat×Operand),((ps.toList.map (·.1)).zip xs)[j]? =some x->ps[j]? =some p->p.1=x.1/\Jw O st.Jm m w (a.eval p.2) x.2:=by
   intro j x p hxj hpj;have hj:j<ps.size:=(DK.1 hpj).1;have hjx:j<xs.length:=by omega
   rw[EE]at hxj;obtain⟨h1,h2⟩:=hxj;have:=hx j hjx;have e1:(Op.buildSlice t n ps).operands.getD j (.tmp 0)=p.2:=by simp only[Op.operands];rw[Dj];simp [hpj]
   have e2:xs.getD j .undef=x.2:=by rw[Di,h2];rfl
   refine⟨?_,?_⟩
   .simp [hpj]at h1;exact h1
   .rw[<- e1,<- e2];exact this
  cases hp:pG ((ps.toList.map (·.1)).zip xs)with
  | false =>rw[hp]at hok hfr;exact mX (o:=⟨dst,.buildSlice t n ps,ty,pos,after,guard⟩) (ps:=ps) hC hS hd rfl hf hz hxz hok hfr
  | true =>rw[hp]at hok hfr hnd;exact AfQ (o:=⟨dst,.buildSlice t n ps,ty,pos,after,guard⟩) (ps:=ps) hC hS hd rfl hz hxz (fun x hx'=>hids x.2 (List.of_mem_zip hx').2) hok hfr hnd
 | load t x =>obtain⟨x',rfl⟩:=len1 hl;exact(wO hC hF rfl (hx 0 (by simp)) hok).good hS
 | store t x y =>
  obtain⟨x',y',rfl⟩:=dK hl;cases dst with
  | some d=>exact(J5 hok).elim
  | none =>
   have e1:opX C ⟨none,.store t x y,ty,pos,after,guard⟩ [x',y'] fet=PR C fet t x' y':=rfl;rw[e1]at hok hfr hnd ⊢;cases x' with
   | ptr q off=>exact zB hC hS rfl rfl hf (hx 0 (by simp)) (hx 1 (by simp)) (hids y' (by simp)) hok hfr hnd
   | KD q i off=>exact zC hC hS rfl rfl hf (hx 0 (by simp)) (hx 1 (by simp)) hok
   | _ =>exfalso;unfold PR at hok;obtain⟨ti,ht,he⟩:=JH hok;rw[he]at hok;exact J5 hok
 | nilCheck x =>obtain⟨x',rfl⟩:=len1 hl;exact(xZ hF rfl (hx 0 (by simp)) hok).good hS
 | binOp op t x y t' =>
  obtain⟨x',y',rfl⟩:=dK hl;have e0:opX C ⟨dst,.binOp op t x y t',ty,pos,after,guard⟩ [x',y'] fet=bif dH y then XX C fet op t x' else Aaj C fet op t x' y':=by show(bif _ then _ else _)=_;cases dH y<;>rfl
  rw[e0]at hok ⊢;cases hy:dH y with
  | true=>rw[hy]at hok;exact(Acw (o:=⟨dst,.binOp op t x y t',ty,pos,after,guard⟩) hC hF rfl hy (hx 0 (by simp)) hok).good hS
  | false=>rw[hy]at hok;exact(AfN (o:=⟨dst,.binOp op t x y t',ty,pos,after,guard⟩) hC hF rfl (hx 0 (by simp)) (hx 1 (by simp)) hok).good hS
 | unOp op t x =>obtain⟨x',rfl⟩:=len1 hl;exact(Ahe rfl (hx 0 (by simp)) hok).good hS
 | convert s t x =>obtain⟨x',rfl⟩:=len1 hl;exact Ae6 (o:=⟨dst,.convert s t x,ty,pos,after,guard⟩) hC hS rfl hf (hx 0 (by simp)) hok hfr
 | makeSlice t l c =>obtain⟨l',c',rfl⟩:=dK hl;obtain⟨d,hd,he⟩:=J8 (show Jv (JG dst fun d=>YK C d t l' c').ok from hok);have e1:opX C ⟨dst,.makeSlice t l c,ty,pos,after,guard⟩ [l',c'] fet=YK C d t l' c':=he;rw[e1]at hok hfr ⊢;exact Aff hC hS hd rfl (hx 0 (by simp)) (hx 1 (by simp)) hok hfr
 | slice t x lo hi mx =>
  have hok':Jv (slX C dst fet t lo hi mx xs).ok:=hok;show Good P V0 O0 w0 (apply st _ (slX C dst fet t lo hi mx xs)) _ a w;cases mx with
  | some _=>exfalso;cases lo<;>cases hi<;>exact J5 hok'
  | none =>
   cases lo with
   | none =>
    cases hi with
    | none =>obtain⟨x',rfl⟩:=len1 (by simpa [Op.operands]using hl);exact Vf (o:=⟨dst,.slice t x none none none,ty,pos,after,guard⟩) (lo:=none) (hi:=none) (lo':=none) (hi':=none) hC hS rfl hf (hx 0 (by simp)) trivial trivial hok'
    | some h =>
     obtain⟨x',h',rfl⟩:=dK (by simpa [Op.operands]using hl)
     have plain:Jv (KP C fet t x' none (some h')).ok->Good P V0 O0 w0 (apply st ⟨dst,.slice t x none (some h) none,ty,pos,after,guard⟩ (KP C fet t x' none (some h'))) ⟨dst,.slice t x none (some h) none,ty,pos,after,guard⟩ a w:=fun hok'' =>
      Vf (o:=⟨dst,.slice t x none (some h) none,ty,pos,after,guard⟩) (lo:=none) (hi:=some h) (lo':=none) (hi':=some h') hC hS rfl hf (hx 0 (by simp)) trivial (hx 1 (by simp)) hok''
     cases dst with
     | none=>exact plain hok'
     | some d =>
      have hfr': ∀ p∈(slX C (some d) fet t none (some h) none [x',h']).new,st.fresh p.1=true:=hfr;have e1:slX C (some d) fet t none (some h) none [x',h']=bif has C.cuts d then bH C fet d t x' h' else KP C fet t x' none (some h'):=rfl;rw[e1]at hok' hfr' ⊢;cases hc:has C.cuts d with
      | false=>rw[hc]at hok';exact plain hok'
      | true =>rw[hc]at hok' hfr';exact AfU (o:=⟨some d,.slice t x none (some h) none,ty,pos,after,guard⟩) hC hS rfl rfl hf (hx 0 (by simp)) (hx 1 (by simp)) hok' hfr'
   | some l =>
    cases hi with
    | none =>
     obtain⟨x',l',rfl⟩:=dK (by simpa [Op.operands]using hl)
     have plain:Jv (KP C fet t x' (some l') none).ok->Good P V0 O0 w0 (apply st ⟨dst,.slice t x (some l) none none,ty,pos,after,guard⟩ (KP C fet t x' (some l') none)) ⟨dst,.slice t x (some l) none none,ty,pos,after,guard⟩ a w:=fun hok'' =>
      Vf (o:=⟨dst,.slice t x (some l) none none,ty,pos,after,guard⟩) (lo:=some l) (hi:=none) (lo':=some l') (hi':=none) hC hS rfl hf (hx 0 (by simp)) (hx 1 (by simp)) trivial hok''
     cases dst with
     | none=>exact plain hok'
     | some d =>
      have e1:slX C (some d) fet t (some l) none none [x',l']=bif has C.cuts d then Zl C fet t x' l' else KP C fet t x' (some l') none:=rfl;rw[e1]at hok' ⊢;cases hc:has C.cuts d with
      | false=>rw[hc]at hok';exact plain hok'
      | true =>rw[hc]at hok';exact(Af9 (o:=⟨some d,.slice t x (some l) none none,ty,pos,after,guard⟩) hC hF rfl (hx 0 (by simp)) (hx 1 (by simp)) hok').good hS
    | some h =>obtain⟨x',l',h',rfl⟩:=AdE (by simpa [Op.operands]using hl);exact Vf (o:=⟨dst,.slice t x (some l) (some h) none,ty,pos,after,guard⟩) (lo:=some l) (hi:=some h) (lo':=some l') (hi':=some h') hC hS rfl hf (hx 0 (by simp)) (hx 1 (by simp)) (hx 2 (by simp)) hok'
 | fieldAddr t x f =>obtain⟨x',rfl⟩:=len1 hl;exact(uD hC hF rfl (hx 0 (by simp)) hok).good hS
 | field t x f =>obtain⟨x',rfl⟩:=len1 hl;exact(Adv hC rfl (hx 0 (by simp)) hok).good hS
 | indexAddr t x i =>obtain⟨x',i',rfl⟩:=dK hl;exact(uO hC hF rfl (hx 0 (by simp)) (hx 1 (by simp)) hok).good hS
 | index t x i =>obtain⟨x',i',rfl⟩:=dK hl;exact(Ad4 hC rfl (hx 0 (by simp)) (hx 1 (by simp)) hok).good hS
 | extract x i =>obtain⟨x',rfl⟩:=len1 hl;exact(Aa5 rfl (hx 0 (by simp)) hok).good hS
 | makeFunc fn fi cap =>
  cases fn with
  | func f =>
   have e1:opX C ⟨dst,.makeFunc (.func f) fi cap,ty,pos,after,guard⟩ xs fet=bif fi.isEmpty then a1 (rW fet f) xs else .no:=rfl;rw[e1]at hok ⊢;cases hfi:fi.isEmpty with
   | false=>rw[hfi]at hok;exact(J5 hok).elim
   | true =>
    rw[hfi]at hok;obtain⟨x',rfl⟩:=AgA (show Jv (a1 (rW fet f) xs).ok from hok);have hfi':fi= #[]:=by simpa using hfi
    subst hfi'
    have hcap: ∃ x,cap= #[x]:=by
     have:cap.size=1:=by simpa [Op.operands]using hl.symm
     exact⟨cap[0],by apply Ez (by simp [this]);intro i h1 h2;have:i=0:=by omega
                     subst this;rfl⟩
    obtain⟨x,rfl⟩:=hcap;exact AfT (o:=⟨dst,.makeFunc (.func f) #[] #[x],ty,pos,after,guard⟩) hS rfl hf (hx 0 (by simp)) hok
  | _=>exfalso;exact pY hok rfl
 | makeMap t r =>obtain⟨d,hd,he⟩:=J8 (show Jv (JG dst fun d=>QD C d t xs).ok from hok);have e1:opX C ⟨dst,.makeMap t r,ty,pos,after,guard⟩ xs fet=QD C d t xs:=he;rw[e1]at hok hfr ⊢;exact AaV hC hS hd rfl (by rw[hl];rfl) hok hfr
 | lookup t x i c =>obtain⟨x',i',rfl⟩:=dK hl;exact(Acs hC hF rfl (hx 0 (by simp)) (hx 1 (by simp)) hok).good hS
 | mapUpdate t x i y =>
  obtain⟨x',i',y',rfl⟩:=AdE hl;cases dst with
  | some d=>exact(J5 hok).elim
  | none=>exact kM (o:=⟨none,.mapUpdate t x i y,ty,pos,after,guard⟩) hC hS rfl (.inl rfl) hf (hx 0 (by simp)) (hx 1 (by simp)) (hx 2 (by simp)) hok
 | insert t x i y =>
  obtain⟨x',i',y',rfl⟩:=AdE hl;cases dst with
  | some d=>exact(J5 hok).elim
  | none=>exact kM (o:=⟨none,.insert t x i y,ty,pos,after,guard⟩) hC hS rfl (.inr rfl) hf (hx 0 (by simp)) (hx 1 (by simp)) (hx 2 (by simp)) hok
 | call c =>
  obtain⟨callee,args,ts⟩:=c;cases callee with
  | value fo =>
   cases fo with
   | func f =>
    have hl':xs.length=1+args.size:=by rw[hl];simp [Op.operands,Call.operands]
    obtain⟨x0,xs',rfl⟩: ∃ x0 xs',xs=x0::xs':=by
     cases xs with
     | nil=>simp at hl';omega
     | cons x0 xs'=>exact⟨x0,xs',rfl⟩
    have e1:opX C ⟨dst,.call ⟨.value (.func f),args,ts⟩,ty,pos,after,guard⟩ (x0::xs') fet=UR C fet (dst.getD 0) f xs':=rfl;rw[e1]at hok hfr hnd ⊢;cases hsg:C.G f with
    | none=>exfalso;unfold UR at hok;rw[hsg]at hok;exact J5 hok
    | some sg =>
     have e3:UR C fet (dst.getD 0) f xs'=keepD fet xs' (C.kept f) (N8 fet (dst.getD 0) sg xs'):=by unfold UR;rw[hsg]
     rw[e3]at hok hfr hnd ⊢;obtain⟨hok,k1,k2,k3,k4⟩:=Ad9 _ hok;rw[k2]at hfr hnd;have e4: ∀ o',apply st o' (keepD fet xs' (C.kept f) (N8 fet (dst.getD 0) sg xs'))=apply st o' (N8 fet (dst.getD 0) sg xs'):=fun o'=>by unfold apply;rw[k1,k2,k3,k4]
     rw[e4];refine wE (x0:=.func f) hS rfl rfl rfl (hCx.G f sg hsg) hf (by simp at hl';show xs'.length=args.size;omega) (fun j hj=> ?_) hok hfr hnd;have:=hx (j+1) (by simpa using hj);have e2:(Op.call ⟨.value (.func f),args,ts⟩).operands.getD (j+1) (.tmp 0)=args.getD j (.tmp 0):=by simp only[Op.operands,Call.operands];rw[Dj,Dj,Ew (by simp)];simp
     rw[e2]at this;simpa using this
   | tmp t =>
    have hl':xs.length=1+args.size:=by rw[hl];simp [Op.operands,Call.operands]
    obtain⟨x0,xs',rfl⟩: ∃ x0 xs',xs=x0::xs':=by
     cases xs with
     | nil=>simp at hl';omega
     | cons x0 xs'=>exact⟨x0,xs',rfl⟩
    have e1:opX C ⟨dst,.call ⟨.value (.tmp t),args,ts⟩,ty,pos,after,guard⟩ (x0::xs') fet=Aay C fet (dst.getD 0) t x0 xs':=rfl;rw[e1]at hok hfr hnd ⊢;have h0:=hx 0 (by simp);have e0:(Op.call ⟨.value (.tmp t),args,ts⟩).operands.getD 0 (.tmp 0)= .tmp t:=by show(#[Operand.tmp t]++args).getD 0 (.tmp 0)= .tmp t;rw[Dj,Ei (by simp)];rfl
    rw[e0]at h0;have h0:Jw O st.Jm m w (a.eval (.tmp t)) x0:=h0;unfold Aay at hok hfr hnd ⊢;cases x0 with
    | fn n =>
     cases hsg:C.dyn t with
     | none=>rw[hsg]at hok;exact(J5 hok).elim
     | some F =>
      rw[hsg]at hok hfr hnd;dsimp only at hok hfr hnd ⊢;obtain⟨hd1,hd2⟩:=hCx.dyn t F hsg;have hok2:=Aal hok;cases n with
      | zero=>rw[hd1]at hok2;cases hok2
      | succ f =>
       have hev:a.eval (.tmp t)= .func (.func f) #[] #[]:=by have h1:Jt O w (a.eval (.tmp t)) (.fn (f+1)):=h0;generalize a.eval (.tmp t)=v at h1 ⊢;cases h1;rfl
       refine wE (x0:=.tmp t) hS rfl rfl hev (hd2 f _ hok2) hf (by simp at hl';show xs'.length=args.size;omega) (fun j hj=> ?_) hok hfr hnd;have:=hx (j+1) (by simpa using hj);have e2:(Op.call ⟨.value (.tmp t),args,ts⟩).operands.getD (j+1) (.tmp 0)=args.getD j (.tmp 0):=by simp only[Op.operands,Call.operands];rw[Dj,Dj,Ew (by simp)];simp
       rw[e2]at this;simpa using this
    | clo f q =>
     obtain⟨cs,hb,he⟩:=J8 hok;dsimp only at he hok hfr hnd ⊢;rw[he]at hok hfr hnd ⊢;clear he;have hc:J4 O st.Jm m w (a.eval (.tmp t)) (.clo f q):=h0;obtain⟨_,p,k5,⟨b,j0,k2,k3,k4⟩,hc⟩:=hc;cases hsg:C.dyn t with
     | none=>rw[hsg]at hok;exact(J5 hok).elim
     | some F =>
      rw[hsg]at hok hfr hnd;dsimp only at hok hfr hnd ⊢;obtain⟨hd1,hd2⟩:=hCx.dyn t F hsg;have hok2:=Aal hok;cases f with
      | zero=>rw[hd1]at hok2;cases hok2
      | succ f =>
       have hlx:xs'.length=args.size:=by simp at hl';omega
       refine mY (x0:=.tmp t) (caps:= #[.pointer (some (at' b j0))]) (av:=args.map a.eval++ #[.pointer (some (at' b j0))]) hS rfl rfl k2 rfl (hd2 f _ hok2) hf (by simp [hlx]) (fun j hj=> ?_) hok hfr hnd;rcases DN j xs'.length with hjl | hjl
       .have:=hx (j+1) (by simpa using hjl);have e2:(Op.call ⟨.value (.tmp t),args,ts⟩).operands.getD (j+1) (.tmp 0)=args.getD j (.tmp 0):=by simp only[Op.operands,Call.operands];rw[Dj,Dj,Ew (by simp)];simp
        rw[e2]at this;have hjs:j<args.size:=by omega
        have e3:(args.map a.eval++ #[Value.pointer (some (at' b j0))]).getD j undef=a.eval (args.getD j (.tmp 0)):=by rw[Dj,Ei (by simpa using hjs),Dj];simp [hjs]
        have e4:(xs'++[A.clo 0 q]).getD j .undef=xs'.getD j .undef:=by simp [Di,DU,hjl]
        rw[e3,e4];simpa using this
       .have hj':j=xs'.length:=by simp at hj;omega
        subst hj';have e3:(args.map a.eval++ #[Value.pointer (some (at' b j0))]).getD xs'.length undef= .pointer (some (at' b j0)):=by rw[hlx,Dj,Ew (by simp)];simp
        have e4:(xs'++[A.clo 0 q]).getD xs'.length .undef= .clo 0 q:=by simp [Di]
        rw[e3,e4];show J4 O st.Jm m w _ (.clo 0 q);exact⟨rfl,p,k5,⟨b,j0,rfl,k3,k4⟩,hc⟩
    | _=>exact(J5 hok).elim
   | _=>exfalso;exact pY hok rfl
  | builtin b =>
   have hok':Jv (blX C ⟨dst,.call ⟨.builtin b,args,ts⟩,ty,pos,after,guard⟩ fet ts.toList b xs).ok:=hok;cases b with
   | len =>
    obtain⟨x',rfl⟩:=AgA (show Jv (a1 _ xs).ok from hok')
    have hargs: ∃ x,args= #[x]:=by
     have:args.size=1:=by simpa [Op.operands,Call.operands]using hl.symm
     exact⟨args[0],by apply Ez (by simp [this]);intro i h1 h2;have:i=0:=by omega
                      subst this;rfl⟩
    obtain⟨x,rfl⟩:=hargs;obtain⟨t,ht,he⟩:=J8 (show Jv (JG (one? ts.toList) fun t=>uQ C fet t x').ok from hok');have e1:opX C ⟨dst,.call ⟨.builtin .len,#[x],ts⟩,ty,pos,after,guard⟩ [x'] fet=uQ C fet t x':=he;rw[e1]at hok ⊢;exact(Agi hC hF rfl rfl rfl (wR ht) (hx 0 (by simp)) hok).good hS
   | copy =>
    obtain⟨x',y',rfl⟩:=mG (show Jv (a2 _ xs).ok from hok')
    have hargs: ∃ x y,args= #[x,y]:=by
     have:args.size=2:=by simpa [Op.operands,Call.operands]using hl.symm
     refine⟨args[0],args[1],?_⟩;apply Ez (by simp [this]);intro i h1 h2;have:i=0\/i=1:=by omega
     rcases this with rfl | rfl<;>rfl
    obtain⟨x,y,rfl⟩:=hargs;exact Ae7 (o:=⟨dst,.call ⟨.builtin .copy,#[x,y],ts⟩,ty,pos,after,guard⟩) (ts':=ts.toList) hC hS rfl rfl rfl rfl hf (hx 0 (by simp)) (hx 1 (by simp)) hok'
   | append =>
    obtain⟨x',y',rfl⟩:=mG (show Jv (a2 _ xs).ok from hok')
    have hargs: ∃ x y,args= #[x,y]:=by
     have:args.size=2:=by simpa [Op.operands,Call.operands]using hl.symm
     refine⟨args[0],args[1],?_⟩;apply Ez (by simp [this]);intro i h1 h2;have:i=0\/i=1:=by omega
     rcases this with rfl | rfl<;>rfl
    obtain⟨x,y,rfl⟩:=hargs;have e0:opX C ⟨dst,.call ⟨.builtin .append,#[x,y],ts⟩,ty,pos,after,guard⟩ [x',y'] fet=AfK C ⟨dst,.call ⟨.builtin .append,#[x,y],ts⟩,ty,pos,after,guard⟩ fet ts.toList x' y':=rfl;rw[e0]at hok hfr ⊢;clear hok' e0;generalize hts:ts.toList=tl at hok hfr ⊢;unfold AfK at hok hfr ⊢;split at hok
    .rename_i t u;dsimp only at hfr ⊢;obtain⟨tu,htu,he⟩:=JH hok;rw[he]at hok hfr ⊢;obtain⟨d,hd,he⟩:=J8 hok;rw[he]at hok hfr ⊢;obtain⟨h1,h2⟩:=hok.cons;exact AbN hC hS hd rfl rfl rfl hts htu h1 hf (hx 0 (by simp)) (hx 1 (by simp)) h2 hfr
    .exact(J5 hok).elim
   | delete =>
    obtain⟨x',y',rfl⟩:=mG (show Jv (a2 _ xs).ok from hok')
    have hargs: ∃ x y,args= #[x,y]:=by
     have:args.size=2:=by simpa [Op.operands,Call.operands]using hl.symm
     refine⟨args[0],args[1],?_⟩;apply Ez (by simp [this]);intro i h1 h2;have:i=0\/i=1:=by omega
     rcases this with rfl | rfl<;>rfl
    obtain⟨x,y,rfl⟩:=hargs;have e0:opX C ⟨dst,.call ⟨.builtin .delete,#[x,y],ts⟩,ty,pos,after,guard⟩ [x',y'] fet=(match ts.toList with | t::_=>XK C fet t x' y' | []=>.no):=rfl;rw[e0]at hok ⊢;clear hok' e0;generalize hts:ts.toList=tl at hok ⊢;cases tl with
    | nil=>exact(J5 hok).elim
    | cons t r=>exact AbX (o:=⟨dst,.call ⟨.builtin .delete,#[x,y],ts⟩,ty,pos,after,guard⟩) hC hS rfl rfl rfl hts hf (hx 0 (by simp)) (hx 1 (by simp)) hok
   | min =>
    obtain⟨x',y',rfl⟩:=mG (show Jv (a2 _ xs).ok from hok')
    have hargs: ∃ x y,args= #[x,y]:=by
     have:args.size=2:=by simpa [Op.operands,Call.operands]using hl.symm
     refine⟨args[0],args[1],?_⟩;apply Ez (by simp [this]);intro i h1 h2;have:i=0\/i=1:=by omega
     rcases this with rfl | rfl<;>rfl
    obtain⟨x,y,rfl⟩:=hargs;exact(Agm (o:=⟨dst,.call ⟨.builtin .min,#[x,y],ts⟩,ty,pos,after,guard⟩) rfl rfl rfl (hx 0 (by simp)) (hx 1 (by simp)) hok).good hS
   | max =>
    obtain⟨x',y',rfl⟩:=mG (show Jv (a2 _ xs).ok from hok')
    have hargs: ∃ x y,args= #[x,y]:=by
     have:args.size=2:=by simpa [Op.operands,Call.operands]using hl.symm
     refine⟨args[0],args[1],?_⟩;apply Ez (by simp [this]);intro i h1 h2;have:i=0\/i=1:=by omega
     rcases this with rfl | rfl<;>rfl
    obtain⟨x,y,rfl⟩:=hargs;exact(Agk (o:=⟨dst,.call ⟨.builtin .max,#[x,y],ts⟩,ty,pos,after,guard⟩) rfl rfl rfl (hx 0 (by simp)) (hx 1 (by simp)) hok).good hS
   | _=>exfalso;exact J5 hok'
  | invoke r mth=>exfalso;exact pY hok rfl
 | _=>exfalso;exact pY hok rfl
end
section
variable {P:Program} {C:Ctx} {V0:Nat->Value} {O0 O:Own} {w0 w:World} {m:Nat->Value} {st:St} {a:Act} {o:Oper}
theorem Agb (Jm:List (Nat×Obj)): ∀(l:List Nat) (q:Nat) (x:Obj),Jr (fetch Jm l) q=some x->Jr Jm q=some x:=by
 intro l
 induction l with
 | nil=>intro q x h;cases h
 | cons n r ih=>grind[fetch,Jr,LU]
theorem AbK (a b:List (Nat×Obj)) (q:Nat):Jr (a++b) q=match Jr a q with | some x=>some x | none=>Jr b q:=by
 induction a with
 | nil=>rfl
 | cons p r ih=>grind[LU]
theorem Xq (st:St) (vs:List A):MP st.Jm (JI st vs):=by intro q x h;grind[JI,AbK,split,Agb]
theorem Af8 {v:Value} {x:A} (h:Jw O st.Jm m w v x) (hok:Jv x.strip.1):Jw O st.Jm m w v x.strip.2:=by
 cases x with
 | cnd g y =>have:=h.1 hok.cons.1;cases y<;>first | trivial | exact this | exact this.elim
 | _=>exact h
theorem Ac7: ∀(xs:List A) (f:Nat->Value),(∀ j,j<xs.length->Jw O st.Jm m w (f j) (xs.getD j .undef))->Jv (strips xs).1 ->
 (strips xs).2.length=xs.length/\ ∀ j,j<xs.length->Jw O st.Jm m w (f j) ((strips xs).2.getD j .undef):=by
 intro xs
 induction xs with
 | nil=>intro f _ _;exact⟨rfl,fun j hj=>by simp at hj⟩
 | cons x xs ih =>
  intro f h hok;simp only[strips]at hok ⊢;obtain⟨h1,h2⟩:=hok.append;obtain⟨g1,g2⟩:=ih (fun j=>f (j+1)) (fun j hj=>by simpa using h (j+1) (by simpa using hj)) h2;refine⟨by simp [g1],fun j hj=> ?_⟩;cases j with
  | zero=>grind[Af8]
  | succ j=>simpa using g2 j (by simpa using hj)
theorem Ag9 {v:Value} {x:A} (h:Jw O st.Jm m w v x):Jw O st.Jm m w v x.weak:=by
 cases x with
 | sln l =>
  have h':Jt O w v (.sln l):=h;cases h' with
  | sln h _=>exact h
 | _=>exact h
theorem Ag8 (x:A):x.weak.ids=x.ids:=by cases x<;>rfl
theorem AfA (xs:List A) (j:Nat):(xs.map A.weak).getD j .undef=(xs.getD j .undef).weak:=by simp only[Di,DV];cases xs[j]? <;>rfl
theorem gJ (op:Op) (xs:List A):(∃ a b c,op= .pick a b c)\/Kr op xs=((strips xs).1,bif Zk op then(strips xs).2 else(strips xs).2.map A.weak):=by cases op<;>first | exact .inr rfl | exact .inl ⟨_,_,_,rfl⟩
theorem Yl {op:Op} {xs:List A} {f:Nat->Value} (h: ∀ j,j<xs.length->Jw O st.Jm m w (f j) (xs.getD j .undef)) (hok:Jv (Kr op xs).1) :
 (Kr op xs).2.length=xs.length/\ ∀ j,j<xs.length->Jw O st.Jm m w (f j) ((Kr op xs).2.getD j .undef):=by
 rcases gJ op xs with ⟨x,y,z,rfl⟩ | he
 .exact⟨rfl,h⟩
 .rw[he]at hok ⊢;obtain⟨g1,g2⟩:=Ac7 xs f h hok;cases hb:Zk op with
  | true=>exact⟨g1,g2⟩
  | false =>refine⟨by simp [g1],fun j hj=> ?_⟩;show Jw O st.Jm m w (f j) (((strips xs).2.map A.weak).getD j .undef);rw[AfA];exact Ag9 (g2 j hj)
theorem Af7 {v:Value} {x:A} {i:Nat} (ht:Jw O st.Jm m w v x) (hok:Jv x.strip.1) (h:i∈x.strip.2.ids):i∈x.ids:=by
 cases x with
 | cnd g y =>have h1:=ht.1 hok.cons.1;cases y<;>first | exact h | exact h1.elim
 | _=>exact h
theorem Aei: ∀(xs:List A) (f:Nat->Value),(∀ j,j<xs.length->Jw O st.Jm m w (f j) (xs.getD j .undef))->Jv (strips xs).1-> ∀ x∈(strips xs).2,∀ i∈x.ids,∃ y∈xs,i∈y.ids:=by
 intro xs
 induction xs with
 | nil=>grind[strips]
 | cons z xs ih =>
  intro f h hok x hx i hi;simp only[strips]at hok hx;obtain⟨h1,h2⟩:=hok.append;rcases Dx.1 hx with rfl | hx
  .exact⟨z,Dp,Af7 (h 0 (by simp)) h1 hi⟩
  .obtain⟨y,hy,hi'⟩:=ih (fun j=>f (j+1)) (fun j hj=>by simpa using h (j+1) (by simpa using hj)) h2 x hx i hi;exact⟨y,Dq _ hy,hi'⟩
theorem ZI {op:Op} {xs:List A} {f:Nat->Value} (h: ∀ j,j<xs.length->Jw O st.Jm m w (f j) (xs.getD j .undef)) (hok:Jv (Kr op xs).1): ∀ x∈(Kr op xs).2,∀ i∈x.ids,∃ y∈xs,i∈y.ids:=by
 rcases gJ op xs with ⟨x,y,z,rfl⟩ | he
 .exact fun x hx i hi=>⟨x,hx,hi⟩
 .rw[he]at hok ⊢;have g:=Aei xs f h hok;cases hb:Zk op with
  | true=>exact g
  | false =>intro x hx i hi;obtain⟨z,hz,rfl⟩:=D8.1 (show x∈(strips xs).2.map A.weak from hx);rw[Ag8]at hi;exact g z hz i hi
theorem Ad1 {ops:Array Oper} {gd:Option (Nat×Bool)} (hS:Sim V0 O0 w0 O m st a w) (hgd:o.guard=gd) :
 (guardOf ops.toList st.tmps gd=some none->Region.wanted o (yielded ops a.tmps)=true) /\
 ∀ g,guardOf ops.toList st.tmps gd=some (some g)->Region.wanted o (yielded ops a.tmps)=g:=by
 cases gd with
 | none =>refine⟨fun _=>by unfold Region.wanted;rw[hgd],fun g h=>by simp [guardOf]at h⟩
 | some p =>
  obtain⟨j,want⟩:=p;unfold Region.wanted;rw[hgd];dsimp only
  have key: ∀ oj t,ops[j]? =some oj->oj.dst=some t->yielded ops a.tmps j=match a.tmps[t]? with | some (.bool b)=>some b | _=>none:=by
   intro oj t h1 h2;unfold yielded;have:(ops[j]?).bind (·.dst)=some t:=by rw[h1];exact h2
   rw[this];show(match a.tmps[t]? with | some (.bool b)=>some b | _=>none)=_;cases a.tmps[t]? with
   | none=>rfl
   | some v=>cases v<;>rfl
  unfold guardOf;have hop:ops.toList[j]? =ops[j]? :=by simp
  dsimp only;rw[hop];cases hj:ops[j]? with
  | none=>exact⟨fun h=>by simp at h,fun g h=>by simp at h⟩
  | some oj =>
   dsimp only;cases hd:oj.dst with
   | none=>exact⟨fun h=>by simp at h,fun g h=>by simp at h⟩
   | some t =>
    dsimp only;have ht:=hS.tmps t;rw[key oj t hj hd];cases hv:st.tmps.getD t .undef with
    | bool b =>
     refine⟨fun h=>by simp at h,fun g h=> ?_⟩;simp only[Eu]at h
     have htl:t<st.tmps.length:=by
      rcases DN t st.tmps.length with h | h
      .exact h
      .rw[Di,DL h]at hv;cases hv
     have:=ht htl;rw[hv]at this;have:=this.bool;have hts:t<a.tmps.size:=by rw[hS.size];exact htl
     rw[getD_eq hts,this,<- h];cases want<;>cases b<;>rfl
    | cnd g0 y =>
     cases y with
     | bool b =>
      refine⟨fun h=>by simp at h,fun g h=> ?_⟩;simp only[Eu]at h
      have htl:t<st.tmps.length:=by
       rcases DN t st.tmps.length with h | h
       .exact h
       .rw[Di,DL h]at hv;cases hv
      have:=ht htl;rw[hv]at this;have hts:t<a.tmps.size:=by rw[hS.size];exact htl
      rw[getD_eq hts,<- h];cases g0 with
      | true =>have h1:Jt O w (a.tmps.getD t undef) (.bool b):=this.1 rfl;generalize a.tmps.getD t undef=z at h1;cases h1;cases want<;>cases b<;>rfl
      | false =>rw[this.2 rfl];simp [undef]
     | _=>exact⟨fun h=>by simp at h,fun g h=>by simp at h⟩
    | _=>exact⟨fun h=>by simp at h,fun g h=>by simp at h⟩
theorem Ae5 (v:Value):(ofConst v).ids=[]:=by
 have hc: ∀ u:Value,(MN u).Lp=[]:=by intro u;unfold MN;split<;>rfl
 have hc2: ∀ u:Value,(MN u).ids=[]:=by intro u;unfold MN;split<;>rfl
 unfold ofConst;split
 .rename_i vs;cases vs.toList.all Value.oneCell' with
  | false=>rfl
  | true =>show(vs.toList.map MN).flatMap A.Lp=[];rw[FI];intro x hx;obtain⟨u,_,rfl⟩:=D8.1 hx;exact hc u
 .exact hc2 v
theorem Acv {a b:A} (h:VL a b=true):XW true a b=b/\XW false a b=a:=by
 cases a<;>cases b<;>first | exact⟨rfl,rfl⟩ | exact(Bool.false_ne_true h).elim | skip
 case int.int k x k' y =>
  have e:k=k':=by cases k<;>cases k'<;>first | rfl | cases h
  subst e;exact⟨rfl,rfl⟩
 case sl.sl l l' =>
  obtain⟨t,xs⟩:=l;obtain⟨t',xs'⟩:=l';unfold VL Sl.cast at h;unfold XW Sl.cast;dsimp only at h ⊢;cases hd:decEq t' t with
  | isTrue e=>subst e;exact⟨rfl,rfl⟩
  | isFalse e=>rw[hd]at h;cases h
 case sln.sln l l' =>
  obtain⟨t,xs⟩:=l;obtain⟨t',xs'⟩:=l';unfold VL Sl.cast at h;unfold XW Sl.cast;dsimp only at h ⊢;cases hd:decEq t' t with
  | isTrue e=>subst e;exact⟨rfl,rfl⟩
  | isFalse e=>rw[hd]at h;cases h
 all_goals simp_all[VL,XW]
theorem wX: ∀ {aa bs:List A},okM aa bs=true->vX true aa bs=bs/\vX false aa bs=aa
 | [],[],_=>⟨rfl,rfl⟩
 | a::aa,b::bs,h=>by unfold okM at h;obtain⟨h1,h2⟩:=Bool.and_eq_true_iff.1 h;obtain⟨i1,i2⟩:=Acv h1;obtain⟨j1,j2⟩:=wX h2;exact⟨by unfold vX;rw[i1,j1],by unfold vX;rw[i2,j2]⟩
 | [],_::_,h=>by cases h
 | _::_,[],h=>by cases h
theorem jU {c:Bool} {x:Option Obj} {y:Obj} (h:VM c x y=true) :
 (Rz true x y=y/\ ∃ cs,x=some (.box cs)/\Rz false x y= .box cs)\/c=true/\ ∃ e f l l',x=some (.arr e f l)/\y= .arr e true l'/\ ∀ g,Rz g x y= .arr e true l:=by
 cases x with
 | none=>cases h
 | some x =>
  cases x with
  | box cs=>grind[wX,okM,Obj,VM,Rz]
  | arr e f l =>
   cases y with
   | arr e' f' l' =>
    cases f' with
    | true=>simp_all[Obj,VM,Rz]
    | false=>cases h
   | _=>cases h
  | _=>cases h
def Closes (Jm U:List (Nat×Obj)):Prop:= ∀ p∈U,(∃ cs,Jr Jm p.1=some (.box cs)/\p.2= .box cs)\/ ∃ e f l,Jr Jm p.1=some (.arr e f l)/\p.2= .arr e true l
theorem _root_.Go.Proofs.YtpaimpmokhihmaaGreatDoor.Vm.Sim.Agw {objs':List (Nat×Obj)} (hS:Sim V0 O0 w0 O m st a w) (h: ∀ n,Jr objs' n=Jr st.Jm n):Sim V0 O0 w0 O m {st with Jm:=objs'} a w:=by
 have he:NY st.Jm m objs' m (fun _=>False):=fun o x hx=>.inr ⟨x,by rw[<- h];exact hx,rfl,rfl⟩;have hp:Lr O w O w:=fun b k u h1 h2=>⟨h1,h2⟩
 refine⟨hS.defers,hS.size,fun t ht=>(hS.tmps t ht).step hp he (fun _ _=>id),fun o x hx=> ?_,hS.frame,hS.own,fun o x hx=>hS.ids o x (by rw[<- h];exact hx),hS.less,fun o ho hx=>hS.root o ho (by rw[<- h];exact hx),hS.VF,hS.inv⟩;have h0:=hS.Jm o x (by rw[<- h];exact hx);cases x with
 | box cs =>obtain⟨b,base,h1,h2⟩:=h0;refine⟨b,base,h1,fun j hj=> ?_⟩;obtain⟨g1,g2,u,g3,g4⟩:=h2 j hj;exact⟨g1,g2,u,g3,g4.step hp he (fun _ _=>id)⟩
 | arr e f l=>exact h0
 | mp l=>exact h0
theorem _root_.Go.Proofs.YtpaimpmokhihmaaGreatDoor.Vm.Sim.closes: ∀(U:List (Nat×Obj)) {O:Own} {st:St},Sim V0 O0 w0 O m st a w->Closes st.Jm U-> ∃ O',Sim V0 O0 w0 O' m {st with Jm:=J3 st.Jm U} a w:=by
 intro U
 induction U with
 | nil=>intro O st hS _;exact⟨O,hS⟩
 | cons p U ih =>
  intro O st hS h;obtain⟨n,y⟩:=p;have h0:=h (n,y) Dp
  have hrest:Closes (KG st.Jm n y) U:=by
   intro q hq;have h1:=h q (Dq _ hq);rw[JL];by_cases hk:q.1=n
   .rw[Dw hk];rw[hk]at h1;rcases h0 with ⟨cs,g1,g2⟩ | ⟨e,f,l,g1,g2⟩
    .dsimp only at g1 g2;rw[g1]at h1;rcases h1 with ⟨cs',k1,k2⟩ | ⟨e',f',l',k1,k2⟩
     .injection k1 with k1;rw[<- k1]at k2;exact .inl ⟨cs,by rw[g2],k2⟩
     .cases k1
    .dsimp only at g1 g2;rw[g1]at h1;rcases h1 with ⟨cs',k1,k2⟩ | ⟨e',f',l',k1,k2⟩
     .cases k1
     .injection k1 with k1;injection k1 with q1 q2 q3;subst q1;subst q3;exact .inr ⟨e,true,l,by rw[g2],k2⟩
   .rw[Du hk];exact h1
  show ∃ O',Sim V0 O0 w0 O' m {st with Jm:=J3 (KG st.Jm n y) U} a w;rcases h0 with ⟨cs,g1,g2⟩ | ⟨e,f,l,g1,g2⟩
  .dsimp only at g1 g2
   have hS':Sim V0 O0 w0 O m {st with Jm:=KG st.Jm n y} a w:=hS.Agw fun k=>by
    rw[JL];by_cases hk:k=n
    .rw[Dw hk,hk,g1,g2]
    .rw[Du hk]
   exact ih hS' hrest
  .dsimp only at g1 g2;obtain⟨O1,hS1,_⟩:=hS.freezes [(n,y)] (fun q hq=>by simp at hq;subst hq;exact⟨e,f,l,g1,g2⟩);exact ih hS1 hrest
def JF (fet:Fet) (U:List (Nat×Obj)):Prop:= ∀ p∈U,∀ e f l,p.2= .arr e f l-> ∃ e' f',Jr fet p.1=some (.arr e' f' l)/\f=true
theorem JF.append {fet:Fet} {U V:List (Nat×Obj)} (h:JF fet U) (h':JF fet V):JF fet (U++V):=fun p hp=>(DJ.1 hp).elim (h p) (h' p)
theorem JF.nil (fet:Fet):JF fet []:=fun p hp=>by cases hp
theorem JF.one {fet:Fet} {n e e0:Nat} {f:Bool} {l:Sl} (h:Jr fet n=some (.arr e f l)):JF fet [(n,.arr e0 true l)]:=by simp_all[Fet,Jr,JF]
theorem JF.cons {fet:Fet} {n e e0:Nat} {f:Bool} {l:Sl} {U:List (Nat×Obj)} (h:Jr fet n=some (.arr e f l)) (h':JF fet U):JF fet ((n,.arr e0 true l)::U):=(JF.one h).append h'
theorem qK (fet:Fet) (k:CK) (c:A):JF fet (pur fet k c).2.2:=by
 unfold pur;split
 .split
  .rename_i h;exact .one h
  .exact .nil _
 .split<;>exact .nil _
 all_goals exact .nil _
theorem Acy (fet:Fet): ∀(ks:List CK) (cs:List A),JF fet (JS fet ks cs).2.2:=by
 intro ks
 induction ks with
 | nil=>intro cs;cases cs<;>exact .nil _
 | cons k ks ih=>intro cs;cases cs with
  | nil=>exact .nil _
  | cons c cs=>exact(qK fet k c).append (ih cs)
theorem OU (fet:Fet): ∀(ks:List (Bool×CK)) (cs:List A),JF fet (Ju fet ks cs).2.2.1:=by
 intro ks
 induction ks with
 | nil=>intro cs;cases cs<;>exact .nil _
 | cons k ks ih =>
  intro cs;obtain⟨u,k⟩:=k;cases cs with
  | nil=>cases u<;>cases k<;>exact .nil _
  | cons c cs =>
   cases u with
   | false=>exact(qK fet k c).append (ih cs)
   | true =>
    cases k with
    | sl e t =>
     cases c with
     | own q =>
      simp only[Ju];cases h:Jr fet q with
      | none=>exact .nil _
      | some x =>
       cases x with
       | arr e' f l=>exact .cons h (ih cs)
       | _=>exact .nil _
     | Ky=>exact ih cs
     | _=>exact .nil _
    | sln e t =>
     cases c with
     | own q =>
      simp only[Ju];cases h:Jr fet q with
      | none=>exact .nil _
      | some x =>
       cases x with
       | arr e' f l=>exact ih cs
       | _=>exact .nil _
     | Ky=>exact ih cs
     | _=>exact .nil _
    | bx t =>
     cases c with
     | ptr q off =>
      simp only[Ju];cases KQ fet q with
      | none=>exact .nil _
      | some zs=>exact(Acy fet _ zs).append (ih cs)
     | _=>exact .nil _
    | mp kt vt =>
     cases c with
     | own q =>
      simp only[Ju];cases h:Jr fet q with
      | none=>exact .nil _
      | some x =>
       cases x with
       | mp l=>exact ih cs
       | _=>exact .nil _
     | _=>exact .nil _
    | _=>cases c<;>exact .nil _
theorem uK (fet:Fet) (s:Sh) (x:A):JF fet (JD fet s x).upd:=by
 cases s with
 | cell u k =>
  have:=OU fet [(u,k)] [x];unfold JD;dsimp only;generalize Ju fet [(u,k)] [x]=r at this ⊢;obtain⟨ok,cs,upd,del⟩:=r;cases cs with
  | nil=>exact .nil _
  | cons c cs=>cases cs with
   | nil=>exact this
   | cons _ _=>exact .nil _
 | agg ks=>cases x<;>first | exact .nil _ | exact OU fet _ _
 | box ks =>
  cases x with
  | ptr q off =>
   unfold JD;dsimp only;cases KQ fet q with
   | none=>exact .nil _
   | some cs=>exact OU fet _ _
  | _=>exact .nil _
 | clo f' ks =>
  cases x with
  | clo g q =>
   unfold JD;dsimp only;cases KQ fet q with
   | none=>exact .nil _
   | some cs=>exact OU fet _ _
  | _=>exact .nil _
 | map kt vt =>
  cases x with
  | own q =>unfold JD;dsimp only;split<;>exact .nil _
  | _=>exact .nil _
theorem oP (fet:Fet): ∀(ss:List Sh) (xs:List A),JF fet (J7 fet ss xs).2.2.1:=by
 intro ss
 induction ss with
 | nil=>intro xs;cases xs<;>exact .nil _
 | cons s ss ih =>
  intro xs;cases xs with
  | nil=>exact .nil _
  | cons x xs=>exact(uK fet s x).append (ih xs)
theorem kQ (fet:Fet) (rb:Nat->Nat) (rs:List A): ∀(bs:List (Nat×Sh)) (j:Nat),JF fet (Ko rb rs bs j).2.1:=by
 intro bs
 induction bs with
 | nil=>intro j;exact .nil _
 | cons b bs ih =>
  intro j p hp;obtain⟨q,s⟩:=b;rcases Dx.1 hp with rfl | hp
  .intro e f l he;cases s<;>cases he
  .exact ih (j+1) p hp
theorem Vs (fet:Fet) (d:Nat) (sg:Sig) (xs:List A):JF fet (N8 fet d sg xs).upd :=
 (oP fet _ _).append (kQ fet _ _ _ _)
theorem PT {t:Nat} {k:TI->Dl} {fet:Fet} (h: ∀ ti,JF fet (k ti).upd):JF fet (KN C t k).upd:=by
 unfold KN JG;cases C.T t with
 | none=>exact .nil _
 | some ti=>exact h ti
theorem MI {α :Type} {o:Option α} {k: α ->Dl} {fet:Fet} (h: ∀ x,o=some x->JF fet (k x).upd):JF fet (JG o k).upd:=by
 unfold JG;cases o with
 | none=>exact .nil _
 | some x=>exact h x rfl
theorem Q3 (fet:Fet) (t:Nat) (x:A) (lo hi:Option A):JF fet (KP C fet t x lo hi).upd:=by
 unfold KP;refine PT fun ti=> ?_;split
 .exact MI fun _ _=>.nil _
 .exact MI fun _ _=>MI fun _ _=>PT fun _=>.nil _
 .exact MI fun _ _=>MI fun _ _=>PT fun _=>.nil _
 .refine MI fun r hr=>MI fun _ _=>MI fun _ _=>PT fun _=> ?_;cases r.frz with
  | true=>exact .nil _
  | false=>exact .one (L9 hr)
 .exact .nil _
theorem AbU (fet:Fet) (d t:Nat) (x hi:A):JF fet (bH C fet d t x hi).upd:=by
 unfold bH;refine PT fun ti=> ?_;split
 .exact MI fun _ _=>MI fun _ _=>MI fun _ _=>PT fun _=>.nil _
 .exact .nil _
theorem Ab9 (fet:Fet) (t:Nat) (x h:A):JF fet (Zl C fet t x h).upd:=by
 unfold Zl;refine PT fun ti=> ?_;split
 .exact MI fun _ _=>MI fun _ _=>MI fun _ _=>PT fun _=>.nil _
 .exact .nil _
theorem AaP {fet:Fet} (x:A) (j:Nat) {δ :Dl} (h:JF fet δ.upd):JF fet (OV fet x j δ).upd:=by
 unfold OV;split
 .split
  .rename_i q _ _ cs _;cases Nat.blt j cs.length&& δ.upd.all (fun p=> !(Nat.beq p.1 q)||pR cs.length p.2)with
   | false=>exact h
   | true =>
    intro p hp e f l he;obtain⟨p0,hp0,rfl⟩:=D8.1 (show p∈ δ.upd.map _ from hp);cases hq:Nat.beq p0.1 q with
    | false=>rw[hq]at he;exact h p0 hp0 e f l he
    | true =>
     rw[hq]at he;obtain⟨n,y⟩:=p0;cases y with
     | box _=>cases he
     | arr e' f' l'=>exact h _ hp0 e f l he
     | mp _=>cases he
  .exact h
 .exact h
theorem AaQ {fet:Fet} (xs:List A): ∀(ks:List (Nat×Nat)) {δ :Dl},JF fet δ.upd->JF fet (keepD fet xs ks δ).upd:=by
 intro ks
 induction ks with
 | nil=>intro δ h;exact h
 | cons k ks ih=>intro δ h;exact ih (AaP _ _ h)
theorem nD {fet:Fet} {xs:List A} (h:Yw o.op=true):JF fet (opX C o xs fet).upd:=by
 obtain⟨dst,op,ty,pos,after,guard⟩:=o;cases op with
 | slice t x lo hi mx =>
  show JF fet (slX C dst fet t lo hi mx xs).upd;unfold slX;split
  .unfold a1;split<;>first | exact Q3 fet _ _ _ _ | exact .nil _
  .unfold a2;split
   .grind[split,has,Q3,Ab9]
   .exact .nil _
  .unfold a2;split
   .grind[split,has,Q3,AbU]
   .exact .nil _
  .unfold a3;split<;>first | exact Q3 fet _ _ _ _ | exact .nil _
  .exact .nil _
 | call c =>
  obtain⟨callee,args,ts⟩:=c;cases callee with
  | value fo =>
   cases fo with
   | func f =>
    cases xs with
    | nil=>exact .nil _
    | cons x xs =>
     show JF fet (UR C fet (dst.getD 0) f xs).upd;unfold UR;cases C.G f with
     | none=>exact .nil _
     | some sg=>grind[AaQ,Vs]
   | tmp t =>
    cases xs with
    | nil=>exact .nil _
    | cons x xs =>
     show JF fet (Aay C fet (dst.getD 0) t x xs).upd;unfold Aay;cases x with
     | fn n =>
      dsimp only;cases C.dyn t with
      | none=>exact .nil _
      | some F=>exact Vs fet _ _ _
     | clo f q =>
      dsimp only;cases KQ fet q with
      | none=>exact .nil _
      | some _ =>
       show JF fet (match C.dyn t with | some sg=>N8 fet (dst.getD 0) (sg f) (xs++[A.clo 0 q]) | none=>.no).upd;cases C.dyn t with
       | none=>exact .nil _
       | some F=>exact Vs fet _ _ _
     | _=>exact .nil _
   | _=>cases h
  | _=>cases h
 | _=>cases h
theorem qX (hC:LX P C) (hS:Sim V0 O0 w0 O m st a w) {ops:Array Oper} (hok:Jv (JR C ops.toList o st).ok) (next:Act->World->Prop) (Q:Exit->Act->World->Prop)
 (hn: ∀ O' m' a' w',Sim V0 O0 w0 O' m' (apply st o (JR C ops.toList o st)) a' w'->next a' w') :
 if Region.wanted o (yielded ops a.tmps)then o.wp P a w next Q else next (a.put o.dst undef) w:=by
 have hx0: ∀ j,j<(o.op.operands.toList.map (JY st.tmps)).length->Jw O st.Jm m w (a.eval (o.op.operands.getD j (.tmp 0))) ((o.op.operands.toList.map (JY st.tmps)).getD j .undef):=by
  intro j hj;have hj':j<o.op.operands.size:=by simpa using hj
  have e1:o.op.operands.getD j (.tmp 0)=o.op.operands[j]:=by rw[Dj,Dt hj'];rfl
  have e2:(o.op.operands.toList.map (JY st.tmps)).getD j .undef=JY st.tmps o.op.operands[j]:=by simp [Di,hj']
  rw[e1,e2];exact kV hS _
 have hid0: ∀ y∈o.op.operands.toList.map (JY st.tmps),∀ i∈y.ids,i∈st.ids:=by
  intro y hy i hi;obtain⟨x,_,rfl⟩:=D8.1 hy;cases x with
  | tmp t =>
   rcases DN t st.tmps.length with h | h
   .exact VK h hi
   .have:JY st.tmps (.tmp t)= .undef:=by simp [JY,Di,DL h]
    rw[this]at hi;cases hi
  | const v=>have:JY st.tmps (.const v)=ofConst v:=rfl
             rw[this,Ae5]at hi;cases hi
  | global g =>
   have hi:i∈(Ag4 (gK g)).ids:=hi;cases hg:gK g with
   | none=>rw[hg]at hi;cases hi
   | some q=>rw[hg]at hi;cases hi
  | func f=>cases hi
 obtain⟨hg1,hg2⟩:=Ad1 (ops:=ops) (o:=o) hS rfl;have plain: ∀ pre,Jv (OH C o st pre).ok->(∀ O' m' a' w',Sim V0 O0 w0 O' m' (apply st o (OH C o st pre)) a' w'->next a' w')->o.wp P a w next Q:=by intro pre hok hn;unfold OH at hok hn;dsimp only at hok hn;obtain⟨_,hok⟩:=hok.append;obtain⟨hokA,hokB⟩:=hok.append;obtain⟨hok1,hok2⟩:=hokA.append;obtain⟨hB1,hB2⟩:=hokB.cons;have hB2:=hB2.cons.1;obtain⟨hl,hx⟩:=Yl hx0 hok1;have hid:=ZI hx0 hok1;have hg:=Abf hC hS (Xq st _) (by rw[hl];simp) (fun j hj=>hx j (by rw[<- hl];exact hj)) (fun x hx' i hi=>by obtain⟨y,hy,hi'⟩:=hid x hx' i hi;exact .inl (hid0 y hy i hi')) hok2 (fun p hp=>(DI.1 hB1) p hp) hB2;exact hg next Q hn
 unfold JR at hok hn;cases hgo:guardOf ops.toList st.tmps o.guard with
 | none=>rw[hgo]at hok;exact(J5 hok).elim
 | some r =>
  cases r with
  | none =>rw[hgo]at hok hn;rw[hg1 hgo,Dw rfl];exact plain _ hok hn
  | some g =>
   rw[hgo]at hok hn;rw[hg2 g hgo];dsimp only at hok hn;cases hde:Adm C o with
   | some b =>
    rw[hde]at hok hn;cases b with
    | true =>
     have hg:g=true:=by have:=hok;unfold OH at this;exact(this.append).1.cons.1
     subst hg;rw[Dw rfl];exact plain _ hok hn
    | false =>
     have hg:g=false:=by simpa using (show Jv [!g]from hok).cons.1
     subst hg;rw[Du (by simp)];exact hn O m _ _ (hS.put o.dst (x:=.cnd false .undef) ⟨fun h=>by(cases h),fun _=>rfl⟩)
   | none =>
   rw[hde]at hok hn;dsimp only at hok hn;obtain⟨hokA,hokB⟩:=hok.append;obtain⟨h1,hokB⟩:=hokB.cons;obtain⟨h3,hokB⟩:=hokB.cons;obtain⟨hdst,hmg⟩:=hokB.cons;generalize hxs:(Kr o.op (o.op.operands.toList.map (JY st.tmps)))=sf at *
   generalize hδ :opX C o sf.2 (JI st sf.2)= δ at *
   have hfet:=Xq st sf.2;generalize hfe:JI st sf.2=fet at *
   have e1: δ.new=[]:=by simpa using h1
   have e3: δ.del=[]:=by simpa using h3
   have hm2: ∀ p∈ δ.upd,VM (Yw o.op) (Jr fet p.1) p.2=true:=fun p hp=>hmg _ (D8.2 ⟨p,hp,rfl⟩);cases g with
   | false =>
    rw[Du (by simp)];have hS1:=hS.put o.dst (x:=.cnd false δ.val) ⟨fun h=>by(cases h),fun _=>rfl⟩
    obtain⟨O1,hS2⟩:=hS1.closes (δ.upd.map (fun p=>(p.1,Rz false (Jr fet p.1) p.2))) (by
     intro q hq;obtain⟨p,hp,rfl⟩:=D8.1 hq;rcases jU (hm2 p hp)with ⟨_,cs,h1,h2⟩ | ⟨_,e,f,l,l',h1,h2,h3⟩
     .exact .inl ⟨cs,hfet _ _ h1,h2⟩
     .exact .inr ⟨e,f,l,hfet _ _ h1,h3 false⟩)
    exact hn O1 m _ _ hS2
   | true =>
    rw[Dw rfl];have hokA':Jv (sf.1++(δ.val.isVal:: δ.ok)):=by intro b hb;have:=hokA (b|| !true) (D8.2 ⟨b,hb,rfl⟩);simpa using this
    obtain⟨hok1,hok2⟩:=hokA'.append;obtain⟨hv,hok2⟩:=hok2.cons;rw[<- hxs]at hok1;obtain⟨hl,hx⟩:=Yl hx0 hok1;have hid:=ZI hx0 hok1;rw[hxs]at hl hx hid;have hg:=Abf (xs:=sf.2) (fet:=fet) hC hS hfet (by rw[hl];simp) (fun j hj=>hx j (by rw[<- hl];exact hj)) (fun x hx' i hi=>by obtain⟨y,hy,hi'⟩:=hid x hx' i hi;exact .inl (hid0 y hy i hi')) (by rw[hδ];exact hok2) (fun p hp=>by rw[hδ,e1]at hp;cases hp) (by rw[hδ,e1];rfl);rw[hδ]at hg;refine hg next Q (fun O' m' a' w' h=>hn O' m' a' w' ?_)
    have eu: δ.upd.map (fun p=>(p.1,Rz true (Jr fet p.1) p.2))= δ.upd:=by
     conv=>rhs;rw[<- Fz δ.upd]
     refine Es fun p hp=> ?_;rcases jU (hm2 p hp)with ⟨h1,_⟩ | ⟨hc,e,f,l,l',h1,h2,h3⟩
     .rw[h1];rfl
     .have hcl:=nD (C:=C) (fet:=fet) (xs:=sf.2) hc;rw[hδ]at hcl;obtain⟨e',f',h4,_⟩:=hcl p hp _ _ _ h2;rw[h1]at h4;injection h4 with h4;injection h4 with q1 q2 q3;rw[h3 true,q3,<- h2];rfl
    have ea:apply st o δ = {tmps:=put st.tmps o.dst δ.val,Jm:=J3 st.Jm δ.upd}:=by unfold apply;rw[e1,e3];rfl
    rw[ea]at h;have eb: ∀ ok,apply st o {ok:=ok,val:=.cnd true δ.val,upd:= δ.upd.map (fun p=>(p.1,Rz true (Jr fet p.1) p.2))}= {tmps:=put st.tmps o.dst (.cnd true δ.val),Jm:=J3 st.Jm δ.upd}:=by intro ok;unfold apply;dsimp only;rw[eu];rfl
    rw[eb];refine⟨h.defers,by have:=h.size;dsimp only at this ⊢;rw[RI]at this ⊢;exact this,fun t ht=> ?_,h.Jm,h.frame,h.own,h.ids,h.less,h.root,h.VF,h.inv⟩;have ht':t<st.tmps.length:=by have ht2:t<(put st.tmps o.dst (.cnd true δ.val)).length:=ht;rw[RI]at ht2;exact ht2
    have:=h.tmps t (by show t<(put st.tmps o.dst δ.val).length;rw[RI];exact ht');dsimp only at this ⊢;rw[lM _ _ _ _ ht']at this;rw[lM _ _ _ _ ht'];by_cases hd:o.dst=some t
    .rw[Dw hd]at this ⊢;exact⟨fun _=>this.AhO hv,fun h=>by(cases h)⟩
    .rw[Du hd]at this ⊢;exact this
end
end Go.Proofs.YtpaimpmokhihmaaGreatDoor.Vm
