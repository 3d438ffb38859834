import Derived.Test.YtdihmdelaolelaaGreatDoorA5
set_option linter.all false
namespace Go.Proofs.YtdihmdelaolelaaGreatDoor.Vm
open Classical
section
variable {P:Program} {C:Ctx} {V0:Nat->Value} {O0 O:Own} {w0 w:World} {m:Nat->Value} {st:St} {a:Act} {o:Oper}
def Asb {cs:List A} {r:Nat} (h:Asa cs=some r):cs=[.ptr r 0]:=by unfold Asa at h;all_goals grind[split]
def Avp {f:Nat} {x:Operand} (hS:Sim V0 O0 w0 O m st a w) (ho:o.op= .makeFunc (.func f) #[] #[x]) {fet:Fet} (hf:PO st.Js fet) {x':A} (hx:JG O st.Js m w (a.eval x) x') (hok:J7 (Ahl fet f x').ok) :
 Good P V0 O0 w0 (apply st o (Ahl fet f x')) o a w:=by
 intro next Q hn
 have hF:FOk O st.Js m w fet:=fun q x h=>⟨hf q x h,hS.Js q x (hf q x h)⟩
 cases x' with
 | ptr q off =>
  unfold Ahl at hok hn;dsimp only at hok hn;obtain⟨cs,hb,he⟩:=JV hok;rw[he]at hok hn;clear he;obtain⟨r,hr,he⟩:=JV hok;rw[he]at hok hn;clear he;have h0:=Dz hok.cons.1;subst h0;obtain rfl:=Asb hr;obtain⟨b,base,g1,g2,g3⟩:=hx.ptr hF (LJ hb);obtain⟨k1,k2,u,k3,k4⟩:=g3 0 (by simp);rw[Nat.add_zero]at k1 k3 g2;let O':Own:=fun b' k'=>if b'=b/\k'=base then none else O b' k';have hO': ∀ b' k',O' b' k'=if b'=b/\k'=base then none else O b' k':=fun _ _=>rfl;have hrun:(execOp a.eval o).run P w= .ok (.value (.func (.func f) #[] #[a.eval x])) w:=by simp [execOp,ho,Instr.makeFunc]
  unfold Oper.wp;rw[hrun,Oper.upon_value];refine hn O' m _ _ ?_;have hP:Passes O O' (· =q) w.heap.size:=by refine⟨fun b' k' _ h=> ?_,fun b' k' o' _ h ht=> ?_⟩;all_goals grind[split]
  have hget: ∀ i y,J4 (apply st o {ok:=[Nat.beq 0 0],val:=.clo (f+1) r,del:=[q]}).Js i=some y->i≠q/\J4 st.Js i=some y:=by
   intro i y hy;rcases Yn hy with h | ⟨_,h2,h | ⟨_,h⟩⟩
   .cases h
   .cases h
   .exact⟨fun e=>h2 (by rw[e];exact Dy),h⟩
  refine hS.next (T:=(· =q)) (Nw:=fun _=>False) (Moves.refl O _ w) hP (fun b' k' _ h h'=>h (by rw[hO',h'];split<;>rfl)) (fun i y hy=>.inr ⟨y,(hget i y hy).2,rfl,rfl⟩) (fun _ h=>h.elim)
   (fun o' h=>by rw[h,hf _ _ (LJ hb)];rfl) (fun i y hy=>.inl ⟨(hget i y hy).1,(hget i y hy).2,rfl⟩) rfl (fun _=> ?_)
  show JI O' _ m w _ (.clo (f+1) r);have k4:JI O st.Js m w u (.ptr r 0):=k4;refine⟨rfl,u,k4.1,⟨b,base,by rw[g2];rfl,by rw[hO',Du ⟨rfl,rfl⟩],k3⟩,?_⟩;cases hr':J4 (apply st o {ok:=[Nat.beq 0 0],val:=.clo (f+1) r,del:=[q]}).Js r with
  | none=>trivial
  | some y =>
   have hy:=(hget r y hr').2;cases y with
   | box cs' =>have k4:=k4.2;rw[hy]at k4;exact k4
   | _=>trivial
 | _=>exact(JR hok).elim
def Av8 {C:Ctx} {d:TypeDesc}: ∀(xs:List (Nat×A)) (cs cs':List A),fill C d xs cs=some cs'-> ∀ i∈cs'.flatMap A.Nq,i∈cs.flatMap A.Nq\/ ∃ x∈xs,i∈x.2.ids:=by
 intro xs
 induction xs with
 | nil=>intro cs cs' h i hi;simp only[fill]at h;injection h with h;rw[h];exact .inl hi
 | cons x xs ih =>
  intro cs cs' h i hi;obtain⟨k,x⟩:=x;simp only[fill]at h;cases hp:Ac2 C d k with
  | none=>rw[hp]at h;cases h
  | some q =>
   obtain⟨off,ti⟩:=q;rw[hp]at h;dsimp only at h;cases hb:(x.isVal&&Nat.beq x.cells.length ti.cs.length&&Nat.ble (off+ti.cs.length) cs.length)with
   | false=>rw[hb]at h;cases h
   | true =>
    rw[hb]at h;simp only[cond_true]at h;simp only[Dx]at hb;rcases ih _ _ h i hi with h1 | ⟨y,h1,h2⟩
    .unfold splice at h1;simp only[List.flatMap_append,DR]at h1;rcases h1 with (h1 | h1) | h1
     .left;obtain⟨c,hc,hci⟩:=Et.1 h1;exact Et.2 ⟨c,FO hc,hci⟩
     .right;refine⟨(k,x),Dy,?_⟩;obtain⟨c,hc,hci⟩:=Et.1 h1;obtain⟨j,hj,rfl⟩:=FP.1 hc;all_goals grind[Aaj]
     .left;obtain⟨c,hc,hci⟩:=Et.1 h1;exact Et.2 ⟨c,FQ hc,hci⟩
    .exact .inr ⟨y,D5 _ h1,h2⟩
def Avm {t n:Nat} {ps:Array (Nat×Operand)} (hC:TOk P C) (hS:Sim V0 O0 w0 O m st a w) {d:Tmp} (hd:o.dst=some d) (ho:o.op= .buildSlice t n ps) {xs:List (Nat×A)}
 (hl:xs.length=ps.size) (hx: ∀(j:Nat) (x:Nat×A) (p:Nat×Operand),xs[j]? =some x->ps[j]? =some p->p.1=x.1/\JG O st.Js m w (a.eval p.2) x.2)
 (hids: ∀ x∈xs,∀ i∈x.2.ids,i∈st.ids\/(J4 st.Js i).isSome)
 (hok:J7 (Aaf C d t n xs).ok) (hfr: ∀ p∈(Aaf C d t n xs).new,st.fresh p.1=true) (hnd:nodup ((Aaf C d t n xs).new.map (·.1))=true):Good P V0 O0 w0 (apply st o (Aaf C d t n xs)) o a w:=by
 unfold Aaf at *
 obtain⟨ti,e,te,ht,hte,hd',he⟩:=XV hok;rw[he]at hok hfr hnd ⊢;clear he;obtain⟨cs,hcs,he⟩:=JV hok;rw[he]at hok hfr hnd ⊢;clear he;obtain⟨h0,h1⟩:=hok.cons;have hn:=DX h1.cons.1;have hk:=AiQ h0;have hk1:te.cs.length=1:=by rw[hk];rfl
 have hT:=hC.is hd';obtain⟨i,z,g1,g2,g3,g4,g5,g6⟩:=hT.i;have hu:=(hC.is ht).d;rw[hte]at hu;obtain⟨hz1,hz2⟩:=vJ (O:=O) (w:=w) hT (by rw[g1];exact g4) (by rw[hk];rfl) (by rw[hk1];decide) n;rw[hk1,FB]at hz1
 have hz:RP O st.Js m w (zeros z (n*te.cs.length)) (List.replicate n .Me):=by
  rw[hk1,FB];refine⟨by rw[hz1,EF],fun j hj=> ?_⟩;rw[EF]at hj;obtain⟨u,k1,k2⟩:=hz2.2 j 0 (by simpa using hj) (by rw[hk1];decide);rw[hk1,FB,FB,Nat.add_zero]at k1;have e1:(zeros z n).getD j undef=u:=by rw[Dw,k1];rfl
  have e2:(List.replicate n A.Me).getD j .undef= .Me:=by simp [Dn,hj]
  rw[e1,e2];have e3:((List.replicate n (te.cs.map CK.Qe)).getD j []).getD 0 .undef= .Me:=by simp [Dn,hj,hk,CK.Qe,CK.zero]
  rw[e3]at k2;exact k2
 obtain⟨vs',f1,f2⟩:=Amn (O:=O) (Js:=st.Js) (m:=m) (w:=w) hC (d:=.array n e) (place:=fun i=>some (i*te.cs.length,te.cs.length)) (fun i p hp=>by
  simp only[kP,g1,Option.map_some]at hp;rw[<- hp];have:te.cs.length=_:=rfl;simp [g2]) xs (ps.map (fun(i,x)=>(i,a.eval x))).toList _ _ cs (by simp [hl]) (fun j x p hxj hpj=>by
  simp only[Ii,E8]at hpj;cases hq:ps.toList[j]? with
  | none=>rw[hq]at hpj;cases hpj
  | some q =>rw[hq]at hpj;injection hpj with hpj;subst hpj;exact hx j x q hxj (by simpa using hq)) hz hcs
 refine Ai7 (ks:=[]) (t:=e) (r:=.slice (some (at' w.heap.size 0)) n n) hS f2 (fun j hj i hi=> ?_) hd ?_ (fun O' objs' m' w' c hc hm=> ?_) hfr hnd
 .rcases Av8 _ _ _ hcs i (Us (f:=A.Nq) hj hi)with h | ⟨x,h2,h3⟩
  .obtain⟨c,hc,hci⟩:=Et.1 h;rw[Gm hc]at hci;cases hci
  .exact hids x h2 i h3
 .have hbig: ¬(16777216<n*te.cs.length):=by rw[hk1];omega
  simp only[execOp,ho,DU,Instr.buildSlice,EC hu,Result.andThen_ok,hT.PH];rw[Dp (by simpa using hbig)];by_cases h0:n*te.cs.length=0
  .have hz0:(Array.range (n*te.cs.length)).map ((#[]:Array Value)[· % (#[]:Array Value).size]!)=zeros z (n*te.cs.length):=by simp [zeros,h0]
   simp only[Du h0,DU,Sem.run_pure,Result.andThen_ok,hz0,f1];rfl
  .simp only[Dp h0,DU,Sem.run_pure,Result.andThen_ok,zeroValue,typeInfo,run_program,g1,g4];have hz0:(Array.range (n*te.cs.length)).map (z.cells[· % z.cells.size]!)=zeros z (n*te.cs.length):=rfl;rw[hz0,f1];rfl
 .show JI O' objs' m' w' _ (.bsl (b2 d) n);refine⟨rfl,?_⟩;rw[hc];exact⟨w.heap.size,0,hm,rfl⟩
end
structure Ou (P:Program) (C:Ctx):Prop where
 T:TOk P C
 G: ∀ f sg,C.G f=some sg->Spec P f sg
 alt: ∀ f q,C.alt f=some q->Spec P f q.1/\Spec P f q.2.1
 dyn: ∀ t F,C.dyn t=some F->(∀ xs,(F 0).ok xs=false)/\ ∀ f xs,(F (f+1)).ok xs=true->Spec P f (F (f+1))
theorem Ou.put {P:Program} {C:Ctx} (h:Ou P C) {f:Nat} {s:Sig} (hs:Spec P f s):Ou P (C.put f s):=⟨h.T,fun k sg hk=>by
 have hk':(bif Nat.beq f k then some s else C.G k)=some sg:=hk;cases hb:Nat.beq f k with
 | true=>simp_all
 | false=>rw[hb]at hk';exact h.G k sg hk',h.alt,h.dyn⟩
def Ayv {a b:A} (h:eqC a b=true):a=b:=by
 unfold eqC at h;split at h
 .rw[G6 h]
 .rw[Dx]at h;rw[A.QW h.1,G6 h.2]
 .rw[G6 h]
 .cases h
def Ar2 {fet:Fet} {x:A} {j:Nat} {δ :Dl} (h:J7 (Ur fet x j δ).ok):J7 δ.ok/\(Ur fet x j δ).val= δ.val/\(Ur fet x j δ).new= δ.new/\(Ur fet x j δ).upd= δ.upd/\(Ur fet x j δ).del= δ.del:=by
 unfold Ur at *
 cases x with
 | ptr q off =>
  dsimp only at h ⊢;cases hb:LW fet q with
  | none=>rw[hb]at h;exact⟨h,rfl,rfl,rfl,rfl⟩
  | some cs =>
   rw[hb]at h;dsimp only at h ⊢;cases hc:Nat.blt j cs.length&& δ.upd.all (fun p=> !(Nat.beq p.1 q)||Agg cs.length p.2)with
   | false=>rw[hc]at h;exact⟨h,rfl,rfl,rfl,rfl⟩
   | true =>
    rw[hc]at h;obtain⟨h1,h2⟩:=(show J7 (δ.ok++_)from h).append;refine⟨h1,rfl,rfl,?_,rfl⟩;show δ.upd.map _= δ.upd
    conv=>rhs;rw[<- Gj δ.upd]
    refine Ez fun p hp=> ?_;have h3:=h2 _ (DN.2 ⟨p,hp,rfl⟩);cases hq:Nat.beq p.1 q with
    | false=>rfl
    | true =>
     rw[hq]at h3;have h3:eqU j (cs.getD j .undef) p.2=true:=h3;obtain⟨n,y⟩:=p;cases y with
     | box ds =>
      have h4:=Ayv (show eqC (ds.getD j .undef) (cs.getD j .undef)=true from h3);show(n,Obj.box (ds.set j (cs.getD j .undef)))=(n,Obj.box ds);rw[<- h4];congr 2;apply Jf;intro i;rw[Gf];by_cases hij:j=i
      .subst hij;rw[Du rfl];by_cases hl:j<ds.length
       .simp [hl,Dn]
       .simp [hl]
      .rw[Dp hij]
     | _=>cases h3
 | _=>exact⟨h,rfl,rfl,rfl,rfl⟩
def Ar4 {fet:Fet} {xs:List A}: ∀(ks:List (Nat×Nat)) {δ :Dl},J7 (keepD fet xs ks δ).ok->J7 δ.ok/\(keepD fet xs ks δ).val= δ.val/\(keepD fet xs ks δ).new= δ.new/\(keepD fet xs ks δ).upd= δ.upd/\(keepD fet xs ks δ).del= δ.del:=by
 intro ks
 induction ks with
 | nil=>intro δ h;exact⟨h,rfl,rfl,rfl,rfl⟩
 | cons k ks ih =>intro δ h;obtain⟨i,j⟩:=k;obtain⟨h1,h2,h3,h4,h5⟩:=ih (δ :=Ur fet (xs.getD i .undef) j δ) h;obtain⟨g1,g2,g3,g4,g5⟩:=Ar2 h1;exact⟨g1,h2.trans g2,h3.trans g3,h4.trans g4,h5.trans g5⟩
def Ou.decide {P:Program} {C:Ctx} (h:Ou P C) (ds:List Nat) (b:Bool):Ou P (C.decide ds b):=⟨h.T,h.G,h.alt,h.dyn⟩
section
variable {P:Program} {C:Ctx} {V0:Nat->Value} {O0 O:Own} {w0 w:World} {m:Nat->Value} {st:St} {a:Act} {o:Oper}
def len1 {xs:List A} (h:xs.length=1): ∃ x,xs=[x]:=Hg.1 h
def Aex {xs:List A} (h:xs.length=2): ∃ x y,xs=[x,y]:=by
 match xs,h with
 | [x,y],_=>exact⟨x,y,rfl⟩
def Ay3 {xs:List A} (h:xs.length=3): ∃ x y z,xs=[x,y,z]:=by
 match xs,h with
 | [x,y,z],_=>exact⟨x,y,z,rfl⟩
def Agt {δ :Dl} (h:J7 δ.ok) (e: δ = .no):False:=by rw[e]at h;exact JR h
def iP {t:Nat} {x:Operand} {lo hi:Option Operand} (hC:TOk P C) (hS:Sim V0 O0 w0 O m st a w) (ho:o.op= .slice t x lo hi none) {fet:Fet} (hf:PO st.Js fet) {x':A} {lo' hi':Option A} (hx:JG O st.Js m w (a.eval x) x')
 (hlo:ORl O st.Js m w (lo.map a.eval) lo') (hhi:ORl O st.Js m w (hi.map a.eval) hi') (hok:J7 (MN C fet t x' lo' hi').ok):Good P V0 O0 w0 (apply st o (MN C fet t x' lo' hi')) o a w:=by
 cases x' with
 | str s=>exact(Au6 hC ho rfl hx hlo hhi hok).good hS
 | sl l=>exact(Awx hC ho rfl hx hlo hhi hok).good hS
 | own q=>grind[AkL]
 | _=>grind[MN,KG,JR]
def AwD {k:A->Dl} {v:List A} (h:J7 (a1 k v).ok): ∃ x,v=[x]:=by
 match v,h with
 | [x],_=>exact⟨x,rfl⟩
 | [],h=>exact(JR h).elim
 | _::_::_,h=>exact(JR h).elim
def AkV {k:A->A->Dl} {v:List A} (h:J7 (a2 k v).ok): ∃ x y,v=[x,y]:=by
 match v,h with
 | [x,y],_=>exact⟨x,y,rfl⟩
 | [],h=>exact(JR h).elim
 | [_],h=>exact(JR h).elim
 | _::_::_::_,h=>exact(JR h).elim
set_option maxHeartbeats 1000000 in
def AmY (hCx:Ou P C) (hS:Sim V0 O0 w0 O m st a w) {fet:Fet} (hf:PO st.Js fet) {xs:List A} (hl:xs.length=o.op.operands.size) (hx: ∀ j,j<xs.length->JG O st.Js m w (a.eval (o.op.operands.getD j (.tmp 0))) (xs.getD j .undef))
 (hids: ∀ x∈xs,∀ i∈x.ids,i∈st.ids\/(J4 st.Js i).isSome)
 (hok:J7 (opX C o xs fet).ok) (hfr: ∀ p∈(opX C o xs fet).new,st.fresh p.1=true) (hnd:nodup ((opX C o xs fet).new.map (·.1))=true):Good P V0 O0 w0 (apply st o (opX C o xs fet)) o a w:=by
 have hC:=hCx.T;have hF:FOk O st.Js m w fet:=fun q x h=>⟨hf q x h,hS.Js q x (hf q x h)⟩
 obtain⟨dst,op,ty,pos,after,guard⟩:=o;cases op with
 | move x =>obtain⟨x',rfl⟩:=len1 hl;exact(Aja (o:=⟨dst,.move x,ty,pos,after,guard⟩) (.inl rfl) (hx 0 (by simp))).good hS
 | assign x =>obtain⟨x',rfl⟩:=len1 hl;exact(Aja (o:=⟨dst,.assign x,ty,pos,after,guard⟩) (.inr rfl) (hx 0 (by simp))).good hS
 | pick c x y =>obtain⟨c',x',y',rfl⟩:=Ay3 hl;exact(Auv rfl (hx 0 (by simp)) (hx 1 (by simp)) (hx 2 (by simp)) hok).good hS
 | alloc t =>obtain rfl:xs=[]:=FU hl;obtain⟨d,hd,he⟩:=JV (show J7 (KA dst fun d=>bJ C d t).ok from hok);have e1:opX C ⟨dst,.alloc t,ty,pos,after,guard⟩ [] fet=bJ C d t:=he;rw[e1]at hok hfr hnd ⊢;exact Aok hC hS hd rfl hok hfr hnd
 | box t x =>obtain⟨x',rfl⟩:=len1 hl;obtain⟨d,hd,he⟩:=JV (show J7 (KA dst fun d=>Aae C d t x').ok from hok);have e1:opX C ⟨dst,.box t x,ty,pos,after,guard⟩ [x'] fet=Aae C d t x':=he;rw[e1]at hok hfr hnd ⊢;exact AsZ hC hS hd rfl (hx 0 (by simp)) (hids x' (by simp)) hok hfr hnd
 | build t ps =>
  have hps:xs.length=ps.size:=by rw[hl];simp [Op.operands]
  have e1:opX C ⟨dst,.build t ps,ty,pos,after,guard⟩ xs fet=Aag C t ((ps.toList.map (fun(p:Nat×Operand)=>p.1)).zip xs):=rfl;rw[e1]at hok ⊢;refine(AqD (o:=⟨dst,.build t ps,ty,pos,after,guard⟩) (ps:=ps) (xs:=(ps.toList.map (fun(p:Nat×Operand)=>p.1)).zip xs) hC rfl (by simp [hps]) (fun j x p hxj hpj=> ?_) hok).good hS;have hj:j<ps.size:=(Eb.1 hpj).1;have hjx:j<xs.length:=by omega
  rw[Ig]at hxj;obtain⟨h1,h2⟩:=hxj;have:=hx j hjx;have e1:(Op.build t ps).operands.getD j (.tmp 0)=p.2:=by simp only[Op.operands];rw[Dw];simp [hpj]
  have e2:xs.getD j .undef=x.2:=by rw[Dn,h2];rfl
  refine⟨?_,?_⟩
  .simp [hpj]at h1;exact h1
  .rw[<- e1,<- e2];exact this
 | buildSlice t n ps =>
  obtain⟨d,hd,he⟩:=JV (show J7 (KA dst fun d=>bif AfV ((ps.toList.map (·.1)).zip xs)then Aaf C d t n ((ps.toList.map (·.1)).zip xs)else SS C fet d t n ((ps.toList.map (·.1)).zip xs)).ok from hok);have e1:opX C ⟨dst,.buildSlice t n ps,ty,pos,after,guard⟩ xs fet=bif AfV ((ps.toList.map (·.1)).zip xs)then Aaf C d t n ((ps.toList.map (·.1)).zip xs)else SS C fet d t n ((ps.toList.map (·.1)).zip xs):=he;rw[e1]at hok hfr hnd ⊢;have hps:xs.length=ps.size:=by rw[hl];simp [Op.operands]
  have hz:((ps.toList.map (·.1)).zip xs).length=ps.size:=by simp [hps]
  have hxz: ∀(j:Nat) (x:Nat×A) (p:Nat×Operand),((ps.toList.map (·.1)).zip xs)[j]? =some x->ps[j]? =some p->p.1=x.1/\JG O st.Js m w (a.eval p.2) x.2:=by
   intro j x p hxj hpj;have hj:j<ps.size:=(Eb.1 hpj).1;have hjx:j<xs.length:=by omega
   rw[Ig]at hxj;obtain⟨h1,h2⟩:=hxj;have:=hx j hjx;have e1:(Op.buildSlice t n ps).operands.getD j (.tmp 0)=p.2:=by simp only[Op.operands];rw[Dw];simp [hpj]
   have e2:xs.getD j .undef=x.2:=by rw[Dn,h2];rfl
   refine⟨?_,?_⟩
   .simp [hpj]at h1;exact h1
   .rw[<- e1,<- e2];exact this
  cases hp:AfV ((ps.toList.map (·.1)).zip xs)with
  | false =>rw[hp]at hok hfr;exact Afm (o:=⟨dst,.buildSlice t n ps,ty,pos,after,guard⟩) (ps:=ps) hC hS hd rfl hf hz hxz hok hfr
  | true =>rw[hp]at hok hfr hnd;exact Avm (o:=⟨dst,.buildSlice t n ps,ty,pos,after,guard⟩) (ps:=ps) hC hS hd rfl hz hxz (fun x hx'=>hids x.2 (List.of_mem_zip hx').2) hok hfr hnd
 | load t x =>obtain⟨x',rfl⟩:=len1 hl;exact(AiW hC hF rfl (hx 0 (by simp)) hok).good hS
 | store t x y =>
  obtain⟨x',y',rfl⟩:=Aex hl;cases dst with
  | some d=>exact(JR hok).elim
  | none =>
   have e1:opX C ⟨none,.store t x y,ty,pos,after,guard⟩ [x',y'] fet=VW C fet t x' y':=rfl;rw[e1]at hok hfr hnd ⊢;cases x' with
   | ptr q off=>exact AkM hC hS rfl rfl hf (hx 0 (by simp)) (hx 1 (by simp)) (hids y' (by simp)) hok hfr hnd
   | Kt q i off=>exact AkN hC hS rfl rfl hf (hx 0 (by simp)) (hx 1 (by simp)) hok
   | _ =>exfalso;unfold VW at hok;obtain⟨ti,ht,he⟩:=KG hok;rw[he]at hok;exact JR hok
 | nilCheck x =>obtain⟨x',rfl⟩:=len1 hl;exact(Ake hF rfl (hx 0 (by simp)) hok).good hS
 | binOp op t x y t' =>obtain⟨x',y',rfl⟩:=Aex hl;exact(Avi hC hF rfl (hx 0 (by simp)) (hx 1 (by simp)) hok).good hS
 | unOp op t x =>obtain⟨x',rfl⟩:=len1 hl;exact(AxW rfl (hx 0 (by simp)) hok).good hS
 | convert s t x =>obtain⟨x',rfl⟩:=len1 hl;exact Atj (o:=⟨dst,.convert s t x,ty,pos,after,guard⟩) hC hS rfl hf (hx 0 (by simp)) hok hfr
 | makeSlice t l c =>obtain⟨l',c',rfl⟩:=Aex hl;obtain⟨d,hd,he⟩:=JV (show J7 (KA dst fun d=>vW C d t l' c').ok from hok);have e1:opX C ⟨dst,.makeSlice t l c,ty,pos,after,guard⟩ [l',c'] fet=vW C d t l' c':=he;rw[e1]at hok hfr ⊢;exact Auc hC hS hd rfl (hx 0 (by simp)) (hx 1 (by simp)) hok hfr
 | slice t x lo hi mx =>
  have hok':J7 (slX C dst fet t lo hi mx xs).ok:=hok;show Good P V0 O0 w0 (apply st _ (slX C dst fet t lo hi mx xs)) _ a w;cases mx with
  | some _=>exfalso;cases lo<;>cases hi<;>exact JR hok'
  | none =>
   cases lo with
   | none =>
    cases hi with
    | none =>obtain⟨x',rfl⟩:=len1 (by simpa [Op.operands]using hl);exact iP (o:=⟨dst,.slice t x none none none,ty,pos,after,guard⟩) (lo:=none) (hi:=none) (lo':=none) (hi':=none) hC hS rfl hf (hx 0 (by simp)) trivial trivial hok'
    | some h =>
     obtain⟨x',h',rfl⟩:=Aex (by simpa [Op.operands]using hl)
     have plain:J7 (MN C fet t x' none (some h')).ok->Good P V0 O0 w0 (apply st ⟨dst,.slice t x none (some h) none,ty,pos,after,guard⟩ (MN C fet t x' none (some h'))) ⟨dst,.slice t x none (some h) none,ty,pos,after,guard⟩ a w:=fun hok'' =>
      iP (o:=⟨dst,.slice t x none (some h) none,ty,pos,after,guard⟩) (lo:=none) (hi:=some h) (lo':=none) (hi':=some h') hC hS rfl hf (hx 0 (by simp)) trivial (hx 1 (by simp)) hok''
     cases dst with
     | none=>exact plain hok'
     | some d =>
      have hfr': ∀ p∈(slX C (some d) fet t none (some h) none [x',h']).new,st.fresh p.1=true:=hfr;have e1:slX C (some d) fet t none (some h) none [x',h']=bif has C.cuts d then Aaz C fet d t x' h' else MN C fet t x' none (some h'):=rfl;rw[e1]at hok' hfr' ⊢;cases hc:has C.cuts d with
      | false=>rw[hc]at hok';exact plain hok'
      | true =>rw[hc]at hok' hfr';exact Avt (o:=⟨some d,.slice t x none (some h) none,ty,pos,after,guard⟩) hC hS rfl rfl hf (hx 0 (by simp)) (hx 1 (by simp)) hok' hfr'
   | some l =>
    cases hi with
    | none =>
     obtain⟨x',l',rfl⟩:=Aex (by simpa [Op.operands]using hl)
     have plain:J7 (MN C fet t x' (some l') none).ok->Good P V0 O0 w0 (apply st ⟨dst,.slice t x (some l) none none,ty,pos,after,guard⟩ (MN C fet t x' (some l') none)) ⟨dst,.slice t x (some l) none none,ty,pos,after,guard⟩ a w:=fun hok'' =>
      iP (o:=⟨dst,.slice t x (some l) none none,ty,pos,after,guard⟩) (lo:=some l) (hi:=none) (lo':=some l') (hi':=none) hC hS rfl hf (hx 0 (by simp)) (hx 1 (by simp)) trivial hok''
     cases dst with
     | none=>exact plain hok'
     | some d =>
      have e1:slX C (some d) fet t (some l) none none [x',l']=bif has C.cuts d then xP C fet t x' l' else MN C fet t x' (some l') none:=rfl;rw[e1]at hok' ⊢;cases hc:has C.cuts d with
      | false=>rw[hc]at hok';exact plain hok'
      | true =>rw[hc]at hok';exact(AuD (o:=⟨some d,.slice t x (some l) none none,ty,pos,after,guard⟩) hC hF rfl (hx 0 (by simp)) (hx 1 (by simp)) hok').good hS
    | some h =>obtain⟨x',l',h',rfl⟩:=Ay3 (by simpa [Op.operands]using hl);exact iP (o:=⟨dst,.slice t x (some l) (some h) none,ty,pos,after,guard⟩) (lo:=some l) (hi:=some h) (lo':=some l') (hi':=some h') hC hS rfl hf (hx 0 (by simp)) (hx 1 (by simp)) (hx 2 (by simp)) hok'
 | fieldAddr t x f =>obtain⟨x',rfl⟩:=len1 hl;exact(Ah9 hC hF rfl (hx 0 (by simp)) hok).good hS
 | field t x f =>obtain⟨x',rfl⟩:=len1 hl;exact(Arf hC rfl (hx 0 (by simp)) hok).good hS
 | indexAddr t x i =>obtain⟨x',i',rfl⟩:=Aex hl;exact(AhJ hC hF rfl (hx 0 (by simp)) (hx 1 (by simp)) hok).good hS
 | index t x i =>obtain⟨x',i',rfl⟩:=Aex hl;exact(Ary hC rfl (hx 0 (by simp)) (hx 1 (by simp)) hok).good hS
 | extract x i =>obtain⟨x',rfl⟩:=len1 hl;exact(Aml rfl (hx 0 (by simp)) hok).good hS
 | makeFunc fn fi cap =>
  cases fn with
  | func f =>
   have e1:opX C ⟨dst,.makeFunc (.func f) fi cap,ty,pos,after,guard⟩ xs fet=bif fi.isEmpty then a1 (Ahl fet f) xs else .no:=rfl;rw[e1]at hok ⊢;cases hfi:fi.isEmpty with
   | false=>rw[hfi]at hok;exact(JR hok).elim
   | true =>
    rw[hfi]at hok;obtain⟨x',rfl⟩:=AwD (show J7 (a1 (Ahl fet f) xs).ok from hok);have hfi':fi= #[]:=by simpa using hfi
    subst hfi'
    have hcap: ∃ x,cap= #[x]:=by
     have:cap.size=1:=by simpa [Op.operands]using hl.symm
     exact⟨cap[0],by apply F5 (by simp [this]);intro i h1 h2;have:i=0:=by omega
                     subst this;rfl⟩
    obtain⟨x,rfl⟩:=hcap;exact Avp (o:=⟨dst,.makeFunc (.func f) #[] #[x],ty,pos,after,guard⟩) hS rfl hf (hx 0 (by simp)) hok
  | _=>exfalso;exact Agt hok rfl
 | call c =>
  obtain⟨callee,args,ts⟩:=c;cases callee with
  | value fo =>
   cases fo with
   | func f =>
    have hl':xs.length=1+args.size:=by rw[hl];simp [Op.operands,Call.operands]
    obtain⟨x0,xs',rfl⟩: ∃ x0 xs',xs=x0::xs':=by
     cases xs with
     | nil=>simp at hl';omega
     | cons x0 xs'=>exact⟨x0,xs',rfl⟩
    have e1:opX C ⟨dst,.call ⟨.value (.func f),args,ts⟩,ty,pos,after,guard⟩ (x0::xs') fet=gZ C fet (dst.getD 0) f xs':=rfl;rw[e1]at hok hfr hnd ⊢;cases hsg:C.G f with
    | none=>exfalso;unfold gZ at hok;rw[hsg]at hok;exact JR hok
    | some sg =>
     have e3:gZ C fet (dst.getD 0) f xs'=keepD fet xs' (C.kept f) (Q7 fet (dst.getD 0) sg xs'):=by unfold gZ;rw[hsg]
     rw[e3]at hok hfr hnd ⊢;obtain⟨hok,k1,k2,k3,k4⟩:=Ar4 _ hok;rw[k2]at hfr hnd;have e4: ∀ o',apply st o' (keepD fet xs' (C.kept f) (Q7 fet (dst.getD 0) sg xs'))=apply st o' (Q7 fet (dst.getD 0) sg xs'):=fun o'=>by unfold apply;rw[k1,k2,k3,k4]
     rw[e4];refine AiA (x0:=.func f) hS rfl rfl rfl (hCx.G f sg hsg) hf (by simp at hl';show xs'.length=args.size;omega) (fun j hj=> ?_) hok hfr hnd;have:=hx (j+1) (by simpa using hj);have e2:(Op.call ⟨.value (.func f),args,ts⟩).operands.getD (j+1) (.tmp 0)=args.getD j (.tmp 0):=by simp only[Op.operands,Call.operands];rw[Dw,Dw,F9 (by simp)];simp
     rw[e2]at this;simpa using this
   | tmp t =>
    have hl':xs.length=1+args.size:=by rw[hl];simp [Op.operands,Call.operands]
    obtain⟨x0,xs',rfl⟩: ∃ x0 xs',xs=x0::xs':=by
     cases xs with
     | nil=>simp at hl';omega
     | cons x0 xs'=>exact⟨x0,xs',rfl⟩
    have e1:opX C ⟨dst,.call ⟨.value (.tmp t),args,ts⟩,ty,pos,after,guard⟩ (x0::xs') fet=Amd C fet (dst.getD 0) t x0 xs':=rfl;rw[e1]at hok hfr hnd ⊢;have h0:=hx 0 (by simp);have e0:(Op.call ⟨.value (.tmp t),args,ts⟩).operands.getD 0 (.tmp 0)= .tmp t:=by show(#[Operand.tmp t]++args).getD 0 (.tmp 0)= .tmp t;rw[Dw,EY (by simp)];rfl
    rw[e0]at h0;have h0:JG O st.Js m w (a.eval (.tmp t)) x0:=h0;unfold Amd at hok hfr hnd ⊢;cases x0 with
    | fn n =>
     cases hsg:C.dyn t with
     | none=>rw[hsg]at hok;exact(JR hok).elim
     | some F =>
      rw[hsg]at hok hfr hnd;dsimp only at hok hfr hnd ⊢;obtain⟨hd1,hd2⟩:=hCx.dyn t F hsg;have hok2:=AlH hok;cases n with
      | zero=>rw[hd1]at hok2;cases hok2
      | succ f =>
       have hev:a.eval (.tmp t)= .func (.func f) #[] #[]:=by have h1:J5 O w (a.eval (.tmp t)) (.fn (f+1)):=h0;generalize a.eval (.tmp t)=v at h1 ⊢;cases h1;rfl
       refine AiA (x0:=.tmp t) hS rfl rfl hev (hd2 f _ hok2) hf (by simp at hl';show xs'.length=args.size;omega) (fun j hj=> ?_) hok hfr hnd;have:=hx (j+1) (by simpa using hj);have e2:(Op.call ⟨.value (.tmp t),args,ts⟩).operands.getD (j+1) (.tmp 0)=args.getD j (.tmp 0):=by simp only[Op.operands,Call.operands];rw[Dw,Dw,F9 (by simp)];simp
       rw[e2]at this;simpa using this
    | clo f q =>
     obtain⟨cs,hb,he⟩:=JV hok;dsimp only at he hok hfr hnd ⊢;rw[he]at hok hfr hnd ⊢;clear he;have hc:JI O st.Js m w (a.eval (.tmp t)) (.clo f q):=h0;obtain⟨_,p,k5,⟨b,j0,k2,k3,k4⟩,hc⟩:=hc;cases hsg:C.dyn t with
     | none=>rw[hsg]at hok;exact(JR hok).elim
     | some F =>
      rw[hsg]at hok hfr hnd;dsimp only at hok hfr hnd ⊢;obtain⟨hd1,hd2⟩:=hCx.dyn t F hsg;have hok2:=AlH hok;cases f with
      | zero=>rw[hd1]at hok2;cases hok2
      | succ f =>
       have hlx:xs'.length=args.size:=by simp at hl';omega
       refine Afo (x0:=.tmp t) (caps:= #[.pointer (some (at' b j0))]) (av:=args.map a.eval++ #[.pointer (some (at' b j0))]) hS rfl rfl k2 rfl (hd2 f _ hok2) hf (by simp [hlx]) (fun j hj=> ?_) hok hfr hnd;rcases Eo j xs'.length with hjl | hjl
       .have:=hx (j+1) (by simpa using hjl);have e2:(Op.call ⟨.value (.tmp t),args,ts⟩).operands.getD (j+1) (.tmp 0)=args.getD j (.tmp 0):=by simp only[Op.operands,Call.operands];rw[Dw,Dw,F9 (by simp)];simp
        rw[e2]at this;have hjs:j<args.size:=by omega
        have e3:(args.map a.eval++ #[Value.pointer (some (at' b j0))]).getD j undef=a.eval (args.getD j (.tmp 0)):=by rw[Dw,EY (by simpa using hjs),Dw];simp [hjs]
        have e4:(xs'++[A.clo 0 q]).getD j .undef=xs'.getD j .undef:=by simp [Dn,E5,hjl]
        rw[e3,e4];simpa using this
       .have hj':j=xs'.length:=by simp at hj;omega
        subst hj';have e3:(args.map a.eval++ #[Value.pointer (some (at' b j0))]).getD xs'.length undef= .pointer (some (at' b j0)):=by rw[hlx,Dw,F9 (by simp)];simp
        have e4:(xs'++[A.clo 0 q]).getD xs'.length .undef= .clo 0 q:=by simp [Dn]
        rw[e3,e4];show JI O st.Js m w _ (.clo 0 q);exact⟨rfl,p,k5,⟨b,j0,rfl,k3,k4⟩,hc⟩
    | _=>exact(JR hok).elim
   | _=>exfalso;exact Agt hok rfl
  | builtin b =>
   have hok':J7 (blX C ⟨dst,.call ⟨.builtin b,args,ts⟩,ty,pos,after,guard⟩ fet ts.toList b xs).ok:=hok;cases b with
   | len =>
    obtain⟨x',rfl⟩:=AwD (show J7 (a1 _ xs).ok from hok')
    have hargs: ∃ x,args= #[x]:=by
     have:args.size=1:=by simpa [Op.operands,Call.operands]using hl.symm
     exact⟨args[0],by apply F5 (by simp [this]);intro i h1 h2;have:i=0:=by omega
                      subst this;rfl⟩
    obtain⟨x,rfl⟩:=hargs;obtain⟨t,ht,he⟩:=JV (show J7 (KA (one? ts.toList) fun t=>AhN C fet t x').ok from hok');have e1:opX C ⟨dst,.call ⟨.builtin .len,#[x],ts⟩,ty,pos,after,guard⟩ [x'] fet=AhN C fet t x':=he;rw[e1]at hok ⊢;exact(AvL hC hF rfl rfl rfl (Ajf ht) (hx 0 (by simp)) hok).good hS
   | copy =>
    obtain⟨x',y',rfl⟩:=AkV (show J7 (a2 _ xs).ok from hok')
    have hargs: ∃ x y,args= #[x,y]:=by
     have:args.size=2:=by simpa [Op.operands,Call.operands]using hl.symm
     refine⟨args[0],args[1],?_⟩;apply F5 (by simp [this]);intro i h1 h2;have:i=0\/i=1:=by omega
     rcases this with rfl | rfl<;>rfl
    obtain⟨x,y,rfl⟩:=hargs;exact Atk (o:=⟨dst,.call ⟨.builtin .copy,#[x,y],ts⟩,ty,pos,after,guard⟩) (ts':=ts.toList) hC hS rfl rfl rfl rfl hf (hx 0 (by simp)) (hx 1 (by simp)) hok'
   | append =>
    obtain⟨x',y',rfl⟩:=AkV (show J7 (a2 _ xs).ok from hok')
    have hargs: ∃ x y,args= #[x,y]:=by
     have:args.size=2:=by simpa [Op.operands,Call.operands]using hl.symm
     refine⟨args[0],args[1],?_⟩;apply F5 (by simp [this]);intro i h1 h2;have:i=0\/i=1:=by omega
     rcases this with rfl | rfl<;>rfl
    obtain⟨x,y,rfl⟩:=hargs;have e0:opX C ⟨dst,.call ⟨.builtin .append,#[x,y],ts⟩,ty,pos,after,guard⟩ [x',y'] fet=AuZ C ⟨dst,.call ⟨.builtin .append,#[x,y],ts⟩,ty,pos,after,guard⟩ fet ts.toList x' y':=rfl;rw[e0]at hok hfr ⊢;clear hok' e0;generalize hts:ts.toList=tl at hok hfr ⊢;unfold AuZ at hok hfr ⊢;split at hok
    .rename_i t u;dsimp only at hfr ⊢;obtain⟨tu,htu,he⟩:=KG hok;rw[he]at hok hfr ⊢;obtain⟨d,hd,he⟩:=JV hok;rw[he]at hok hfr ⊢;obtain⟨h1,h2⟩:=hok.cons;exact Aol hC hS hd rfl rfl rfl hts htu h1 hf (hx 0 (by simp)) (hx 1 (by simp)) h2 hfr
    .exact(JR hok).elim
   | min =>
    obtain⟨x',y',rfl⟩:=AkV (show J7 (a2 _ xs).ok from hok')
    have hargs: ∃ x y,args= #[x,y]:=by
     have:args.size=2:=by simpa [Op.operands,Call.operands]using hl.symm
     refine⟨args[0],args[1],?_⟩;apply F5 (by simp [this]);intro i h1 h2;have:i=0\/i=1:=by omega
     rcases this with rfl | rfl<;>rfl
    obtain⟨x,y,rfl⟩:=hargs;exact(AvS (o:=⟨dst,.call ⟨.builtin .min,#[x,y],ts⟩,ty,pos,after,guard⟩) rfl rfl rfl (hx 0 (by simp)) (hx 1 (by simp)) hok).good hS
   | max =>
    obtain⟨x',y',rfl⟩:=AkV (show J7 (a2 _ xs).ok from hok')
    have hargs: ∃ x y,args= #[x,y]:=by
     have:args.size=2:=by simpa [Op.operands,Call.operands]using hl.symm
     refine⟨args[0],args[1],?_⟩;apply F5 (by simp [this]);intro i h1 h2;have:i=0\/i=1:=by omega
     rcases this with rfl | rfl<;>rfl
    obtain⟨x,y,rfl⟩:=hargs;exact(AvR (o:=⟨dst,.call ⟨.builtin .max,#[x,y],ts⟩,ty,pos,after,guard⟩) rfl rfl rfl (hx 0 (by simp)) (hx 1 (by simp)) hok).good hS
   | _=>exfalso;exact JR hok'
  | invoke r mth=>exfalso;exact Agt hok rfl
 | _=>exfalso;exact Agt hok rfl
end
section
variable {P:Program} {C:Ctx} {V0:Nat->Value} {O0 O:Own} {w0 w:World} {m:Nat->Value} {st:St} {a:Act} {o:Oper}
theorem Av7 (Js:List (Nat×Obj)): ∀(l:List Nat) (q:Nat) (x:Obj),J4 (fetch Js l) q=some x->J4 Js q=some x:=by
 intro l
 induction l with
 | nil=>intro q x h;cases h
 | cons n r ih=>grind[fetch,J4,Og]
theorem Aoi (a b:List (Nat×Obj)) (q:Nat):J4 (a++b) q=match J4 a q with | some x=>some x | none=>J4 b q:=by
 induction a with
 | nil=>rfl
 | cons p r ih=>grind[Og]
def o8 (st:St) (vs:List A):PO st.Js (Kv st vs):=by intro q x h;grind[Kv,Aoi,split,Av7]
theorem AuC {v:Value} {x:A} (h:JG O st.Js m w v x) (hok:J7 x.strip.1):JG O st.Js m w v x.strip.2:=by
 cases x with
 | cnd g y =>have:=h.1 hok.cons.1;cases y<;>first | trivial | exact this | exact this.elim
 | _=>exact h
def Apv: ∀(xs:List A) (f:Nat->Value),(∀ j,j<xs.length->JG O st.Js m w (f j) (xs.getD j .undef))->J7 (strips xs).1 ->
 (strips xs).2.length=xs.length/\ ∀ j,j<xs.length->JG O st.Js m w (f j) ((strips xs).2.getD j .undef):=by
 intro xs
 induction xs with
 | nil=>intro f _ _;exact⟨rfl,fun j hj=>by simp at hj⟩
 | cons x xs ih =>
  intro f h hok;simp only[strips]at hok ⊢;obtain⟨h1,h2⟩:=hok.append;obtain⟨g1,g2⟩:=ih (fun j=>f (j+1)) (fun j hj=>by simpa using h (j+1) (by simpa using hj)) h2;refine⟨by simp [g1],fun j hj=> ?_⟩;cases j with
  | zero=>grind[AuC]
  | succ j=>simpa using g2 j (by simpa using hj)
def AwC {v:Value} {x:A} (h:JG O st.Js m w v x):JG O st.Js m w v x.weak:=by
 cases x with
 | sln l =>
  have h':J5 O w v (.sln l):=h;cases h' with
  | sln h _=>exact h
 | _=>exact h
def AwB (x:A):x.weak.ids=x.ids:=by cases x<;>rfl
def AuH (xs:List A) (j:Nat):(xs.map A.weak).getD j .undef=(xs.getD j .undef).weak:=by simp only[Dn,E8];cases xs[j]? <;>rfl
def AbZ (op:Op) (xs:List A):(∃ a b c,op= .pick a b c)\/Lc op xs=((strips xs).1,bif xM op then(strips xs).2 else(strips xs).2.map A.weak):=by cases op<;>first | exact .inr rfl | exact .inl ⟨_,_,_,rfl⟩
def tH {op:Op} {xs:List A} {f:Nat->Value} (h: ∀ j,j<xs.length->JG O st.Js m w (f j) (xs.getD j .undef)) (hok:J7 (Lc op xs).1) :
 (Lc op xs).2.length=xs.length/\ ∀ j,j<xs.length->JG O st.Js m w (f j) ((Lc op xs).2.getD j .undef):=by
 rcases AbZ op xs with ⟨x,y,z,rfl⟩ | he
 .exact⟨rfl,h⟩
 .rw[he]at hok ⊢;obtain⟨g1,g2⟩:=Apv xs f h hok;cases hb:xM op with
  | true=>exact⟨g1,g2⟩
  | false =>refine⟨by simp [g1],fun j hj=> ?_⟩;show JG O st.Js m w (f j) (((strips xs).2.map A.weak).getD j .undef);rw[AuH];exact AwC (g2 j hj)
def AuA {v:Value} {x:A} {i:Nat} (ht:JG O st.Js m w v x) (hok:J7 x.strip.1) (h:i∈x.strip.2.ids):i∈x.ids:=by
 cases x with
 | cnd g y =>have h1:=ht.1 hok.cons.1;cases y<;>first | exact h | exact h1.elim
 | _=>exact h
def Asy: ∀(xs:List A) (f:Nat->Value),(∀ j,j<xs.length->JG O st.Js m w (f j) (xs.getD j .undef))->J7 (strips xs).1-> ∀ x∈(strips xs).2,∀ i∈x.ids,∃ y∈xs,i∈y.ids:=by
 intro xs
 induction xs with
 | nil=>grind[strips]
 | cons z xs ih =>
  intro f h hok x hx i hi;simp only[strips]at hok hx;obtain⟨h1,h2⟩:=hok.append;rcases D8.1 hx with rfl | hx
  .exact⟨z,Dy,AuA (h 0 (by simp)) h1 hi⟩
  .obtain⟨y,hy,hi'⟩:=ih (fun j=>f (j+1)) (fun j hj=>by simpa using h (j+1) (by simpa using hj)) h2 x hx i hi;exact⟨y,D5 _ hy,hi'⟩
def yN {op:Op} {xs:List A} {f:Nat->Value} (h: ∀ j,j<xs.length->JG O st.Js m w (f j) (xs.getD j .undef)) (hok:J7 (Lc op xs).1): ∀ x∈(Lc op xs).2,∀ i∈x.ids,∃ y∈xs,i∈y.ids:=by
 rcases AbZ op xs with ⟨x,y,z,rfl⟩ | he
 .exact fun x hx i hi=>⟨x,hx,hi⟩
 .rw[he]at hok ⊢;have g:=Asy xs f h hok;cases hb:xM op with
  | true=>exact g
  | false =>intro x hx i hi;obtain⟨z,hz,rfl⟩:=DN.1 (show x∈(strips xs).2.map A.weak from hx);rw[AwB]at hi;exact g z hz i hi
def Arp {ops:Array Oper} {gd:Option (Nat×Bool)} (hS:Sim V0 O0 w0 O m st a w) (hgd:o.guard=gd) :
 (guardOf ops.toList st.tmps gd=some none->Region.wanted o (yielded ops a.tmps)=true) /\
 ∀ g,guardOf ops.toList st.tmps gd=some (some g)->Region.wanted o (yielded ops a.tmps)=g:=by
 cases gd with
 | none =>refine⟨fun _=>by unfold Region.wanted;rw[hgd],fun g h=>by simp [guardOf]at h⟩
 | some p =>
  obtain⟨j,want⟩:=p;unfold Region.wanted;rw[hgd];dsimp only
  have key: ∀ oj t,ops[j]? =some oj->oj.dst=some t->yielded ops a.tmps j=match a.tmps[t]? with | some (.bool b)=>some b | _=>none:=by
   intro oj t h1 h2;unfold yielded;have:(ops[j]?).bind (·.dst)=some t:=by rw[h1];exact h2
   rw[this];show(match a.tmps[t]? with | some (.bool b)=>some b | _=>none)=_;cases a.tmps[t]? with
   | none=>rfl
   | some v=>cases v<;>rfl
  unfold guardOf;have hop:ops.toList[j]? =ops[j]? :=by simp
  dsimp only;rw[hop];cases hj:ops[j]? with
  | none=>exact⟨fun h=>by simp at h,fun g h=>by simp at h⟩
  | some oj =>
   dsimp only;cases hd:oj.dst with
   | none=>exact⟨fun h=>by simp at h,fun g h=>by simp at h⟩
   | some t =>
    dsimp only;have ht:=hS.tmps t;rw[key oj t hj hd];cases hv:st.tmps.getD t .undef with
    | bool b =>
     refine⟨fun h=>by simp at h,fun g h=> ?_⟩;simp only[F8]at h
     have htl:t<st.tmps.length:=by
      rcases Eo t st.tmps.length with h | h
      .exact h
      .rw[Dn,Ef h]at hv;cases hv
     have:=ht htl;rw[hv]at this;have:=this.bool;have hts:t<a.tmps.size:=by rw[hS.size];exact htl
     rw[getD_eq hts,this,<- h];cases want<;>cases b<;>rfl
    | cnd g0 y =>
     cases y with
     | bool b =>
      refine⟨fun h=>by simp at h,fun g h=> ?_⟩;simp only[F8]at h
      have htl:t<st.tmps.length:=by
       rcases Eo t st.tmps.length with h | h
       .exact h
       .rw[Dn,Ef h]at hv;cases hv
      have:=ht htl;rw[hv]at this;have hts:t<a.tmps.size:=by rw[hS.size];exact htl
      rw[getD_eq hts,<- h];cases g0 with
      | true =>have h1:J5 O w (a.tmps.getD t undef) (.bool b):=this.1 rfl;generalize a.tmps.getD t undef=z at h1;cases h1;cases want<;>cases b<;>rfl
      | false =>rw[this.2 rfl];simp [undef]
     | _=>exact⟨fun h=>by simp at h,fun g h=>by simp at h⟩
    | _=>exact⟨fun h=>by simp at h,fun g h=>by simp at h⟩
def Ath (v:Value):(ofConst v).ids=[]:=by
 have hc: ∀ u:Value,(OQ u).Nq=[]:=by intro u;unfold OQ;split<;>rfl
 have hc2: ∀ u:Value,(OQ u).ids=[]:=by intro u;unfold OQ;split<;>rfl
 unfold ofConst;split
 .rename_i vs;cases vs.toList.all Value.oneCell' with
  | false=>rfl
  | true =>show(vs.toList.map OQ).flatMap A.Nq=[];rw[Ip];intro x hx;obtain⟨u,_,rfl⟩:=DN.1 hx;exact hc u
 .exact hc2 v
def AoS {a b:A} (h:kJ a b=true):rQ true a b=b/\rQ false a b=a:=by
 cases a<;>cases b<;>first | exact⟨rfl,rfl⟩ | exact(Bool.false_ne_true h).elim | skip
 case int.int k x k' y =>
  have e:k=k':=by cases k<;>cases k'<;>first | rfl | cases h
  subst e;exact⟨rfl,rfl⟩
 case sl.sl l l' =>
  obtain⟨t,xs⟩:=l;obtain⟨t',xs'⟩:=l';unfold kJ Sl.cast at h;unfold rQ Sl.cast;dsimp only at h ⊢;cases hd:decEq t' t with
  | isTrue e=>subst e;exact⟨rfl,rfl⟩
  | isFalse e=>rw[hd]at h;cases h
 case sln.sln l l' =>
  obtain⟨t,xs⟩:=l;obtain⟨t',xs'⟩:=l';unfold kJ Sl.cast at h;unfold rQ Sl.cast;dsimp only at h ⊢;cases hd:decEq t' t with
  | isTrue e=>subst e;exact⟨rfl,rfl⟩
  | isFalse e=>rw[hd]at h;cases h
 all_goals simp_all[kJ,rQ]
theorem Ajv: ∀ {aa bs:List A},okM aa bs=true->Ai1 true aa bs=bs/\Ai1 false aa bs=aa
 | [],[],_=>⟨rfl,rfl⟩
 | a::aa,b::bs,h=>by unfold okM at h;obtain⟨h1,h2⟩:=Bool.and_eq_true_iff.1 h;obtain⟨i1,i2⟩:=AoS h1;obtain⟨j1,j2⟩:=Ajv h2;exact⟨by unfold Ai1;rw[i1,j1],by unfold Ai1;rw[i2,j2]⟩
 | [],_::_,h=>by cases h
 | _::_,[],h=>by cases h
def Ad8 {c:Bool} {x:Option Obj} {y:Obj} (h:kK c x y=true) :
 (YI true x y=y/\ ∃ cs,x=some (.box cs)/\YI false x y= .box cs)\/c=true/\ ∃ e f l l',x=some (.arr e f l)/\y= .arr e true l'/\ ∀ g,YI g x y= .arr e true l:=by
 cases x with
 | none=>cases h
 | some x =>
  cases x with
  | box cs=>grind[Ajv,okM,Obj,kK,YI]
  | arr e f l =>
   cases y with
   | arr e' f' l' =>
    cases f' with
    | true=>simp_all[Obj,kK,YI]
    | false=>cases h
   | _=>cases h
  | _=>cases h
def Closes (Js U:List (Nat×Obj)):Prop:= ∀ p∈U,(∃ cs,J4 Js p.1=some (.box cs)/\p.2= .box cs)\/ ∃ e f l,J4 Js p.1=some (.arr e f l)/\p.2= .arr e true l
def _root_.Go.Proofs.YtdihmdelaolelaaGreatDoor.Vm.Sim.Awo {objs':List (Nat×Obj)} (hS:Sim V0 O0 w0 O m st a w) (h: ∀ n,J4 objs' n=J4 st.Js n):Sim V0 O0 w0 O m {st with Js:=objs'} a w:=by
 have he:TB st.Js m objs' m (fun _=>False):=fun o x hx=>.inr ⟨x,by rw[<- h];exact hx,rfl,rfl⟩;have hp:MW O w O w:=fun b k u h1 h2=>⟨h1,h2⟩
 refine⟨hS.defers,hS.size,fun t ht=>(hS.tmps t ht).step hp he (fun _ _=>id),fun o x hx=> ?_,hS.frame,hS.own,fun o x hx=>hS.ids o x (by rw[<- h];exact hx),hS.less,fun o ho hx=>hS.root o ho (by rw[<- h];exact hx),hS.oH,hS.inv⟩;have h0:=hS.Js o x (by rw[<- h];exact hx);cases x with
 | box cs =>obtain⟨b,base,h1,h2⟩:=h0;refine⟨b,base,h1,fun j hj=> ?_⟩;obtain⟨g1,g2,u,g3,g4⟩:=h2 j hj;exact⟨g1,g2,u,g3,g4.step hp he (fun _ _=>id)⟩
 | arr e f l=>exact h0
 | mp l=>exact h0
def _root_.Go.Proofs.YtdihmdelaolelaaGreatDoor.Vm.Sim.closes: ∀(U:List (Nat×Obj)) {O:Own} {st:St},Sim V0 O0 w0 O m st a w->Closes st.Js U-> ∃ O',Sim V0 O0 w0 O' m {st with Js:=JL st.Js U} a w:=by
 intro U
 induction U with
 | nil=>intro O st hS _;exact⟨O,hS⟩
 | cons p U ih =>
  intro O st hS h;obtain⟨n,y⟩:=p;have h0:=h (n,y) Dy
  have hrest:Closes (Np st.Js n y) U:=by
   intro q hq;have h1:=h q (D5 _ hq);rw[KL];by_cases hk:q.1=n
   .rw[Du hk];rw[hk]at h1;rcases h0 with ⟨cs,g1,g2⟩ | ⟨e,f,l,g1,g2⟩
    .dsimp only at g1 g2;rw[g1]at h1;rcases h1 with ⟨cs',k1,k2⟩ | ⟨e',f',l',k1,k2⟩
     .injection k1 with k1;rw[<- k1]at k2;exact .inl ⟨cs,by rw[g2],k2⟩
     .cases k1
    .dsimp only at g1 g2;rw[g1]at h1;rcases h1 with ⟨cs',k1,k2⟩ | ⟨e',f',l',k1,k2⟩
     .cases k1
     .injection k1 with k1;injection k1 with q1 q2 q3;subst q1;subst q3;exact .inr ⟨e,true,l,by rw[g2],k2⟩
   .rw[Dp hk];exact h1
  show ∃ O',Sim V0 O0 w0 O' m {st with Js:=JL (Np st.Js n y) U} a w;rcases h0 with ⟨cs,g1,g2⟩ | ⟨e,f,l,g1,g2⟩
  .dsimp only at g1 g2
   have hS':Sim V0 O0 w0 O m {st with Js:=Np st.Js n y} a w:=hS.Awo fun k=>by
    rw[KL];by_cases hk:k=n
    .rw[Du hk,hk,g1,g2]
    .rw[Dp hk]
   exact ih hS' hrest
  .dsimp only at g1 g2;obtain⟨O1,hS1,_⟩:=hS.freezes [(n,y)] (fun q hq=>by simp at hq;subst hq;exact⟨e,f,l,g1,g2⟩);exact ih hS1 hrest
def Kq (fet:Fet) (U:List (Nat×Obj)):Prop:= ∀ p∈U,∀ e f l,p.2= .arr e f l-> ∃ e' f',J4 fet p.1=some (.arr e' f' l)/\f=true
def Kq.append {fet:Fet} {U V:List (Nat×Obj)} (h:Kq fet U) (h':Kq fet V):Kq fet (U++V):=fun p hp=>(DR.1 hp).elim (h p) (h' p)
theorem Kq.nil (fet:Fet):Kq fet []:=fun p hp=>by cases hp
def Kq.one {fet:Fet} {n e e0:Nat} {f:Bool} {l:Sl} (h:J4 fet n=some (.arr e f l)):Kq fet [(n,.arr e0 true l)]:=by simp_all[Fet,J4,Kq]
def Kq.cons {fet:Fet} {n e e0:Nat} {f:Bool} {l:Sl} {U:List (Nat×Obj)} (h:J4 fet n=some (.arr e f l)) (h':Kq fet U):Kq fet ((n,.arr e0 true l)::U):=(Kq.one h).append h'
def Ag7 (fet:Fet) (k:CK) (c:A):Kq fet (pur fet k c).2.2:=by
 unfold pur;split
 .split
  .rename_i h;exact .one h
  .exact .nil _
 .split<;>exact .nil _
 all_goals exact .nil _
def Apa (fet:Fet): ∀(ks:List CK) (cs:List A),Kq fet (KO fet ks cs).2.2:=by
 intro ks
 induction ks with
 | nil=>intro cs;cases cs<;>exact .nil _
 | cons k ks ih=>intro cs;cases cs with
  | nil=>exact .nil _
  | cons c cs=>exact(Ag7 fet k c).append (ih cs)
def Uo (fet:Fet): ∀(ks:List (Bool×CK)) (cs:List A),Kq fet (J9 fet ks cs).2.2.1:=by
 intro ks
 induction ks with
 | nil=>intro cs;cases cs<;>exact .nil _
 | cons k ks ih =>
  intro cs;obtain⟨u,k⟩:=k;cases cs with
  | nil=>cases u<;>cases k<;>exact .nil _
  | cons c cs =>
   cases u with
   | false=>exact(Ag7 fet k c).append (ih cs)
   | true =>
    cases k with
    | sl e t =>
     cases c with
     | own q =>
      simp only[J9];cases h:J4 fet q with
      | none=>exact .nil _
      | some x =>
       cases x with
       | arr e' f l=>exact .cons h (ih cs)
       | _=>exact .nil _
     | Ls=>exact ih cs
     | _=>exact .nil _
    | sln e t =>
     cases c with
     | own q =>
      simp only[J9];cases h:J4 fet q with
      | none=>exact .nil _
      | some x =>
       cases x with
       | arr e' f l=>exact ih cs
       | _=>exact .nil _
     | Ls=>exact ih cs
     | _=>exact .nil _
    | bx t =>
     cases c with
     | ptr q off =>
      simp only[J9];cases LW fet q with
      | none=>exact .nil _
      | some zs=>exact(Apa fet _ zs).append (ih cs)
     | _=>exact .nil _
    | _=>cases c<;>exact .nil _
def AhE (fet:Fet) (s:Sh) (x:A):Kq fet (JZ fet s x).upd:=by
 cases s with
 | cell u k =>
  have:=Uo fet [(u,k)] [x];unfold JZ;dsimp only;generalize J9 fet [(u,k)] [x]=r at this ⊢;obtain⟨ok,cs,upd,del⟩:=r;cases cs with
  | nil=>exact .nil _
  | cons c cs=>cases cs with
   | nil=>exact this
   | cons _ _=>exact .nil _
 | agg ks=>cases x<;>first | exact .nil _ | exact Uo fet _ _
 | box ks =>
  cases x with
  | ptr q off =>
   unfold JZ;dsimp only;cases LW fet q with
   | none=>exact .nil _
   | some cs=>exact Uo fet _ _
  | _=>exact .nil _
 | clo f' ks =>
  cases x with
  | clo g q =>
   unfold JZ;dsimp only;cases LW fet q with
   | none=>exact .nil _
   | some cs=>exact Uo fet _ _
  | _=>exact .nil _
 | map kt vt =>
  cases x with
  | own q =>unfold JZ;dsimp only;split<;>exact .nil _
  | _=>exact .nil _
def AfL (fet:Fet): ∀(ss:List Sh) (xs:List A),Kq fet (JP fet ss xs).2.2.1:=by
 intro ss
 induction ss with
 | nil=>intro xs;cases xs<;>exact .nil _
 | cons s ss ih =>
  intro xs;cases xs with
  | nil=>exact .nil _
  | cons x xs=>exact(AhE fet s x).append (ih xs)
def AdN (fet:Fet) (rb:Nat->Nat) (rs:List A): ∀(bs:List (Nat×Sh)) (j:Nat),Kq fet (KZ rb rs bs j).2.1:=by
 intro bs
 induction bs with
 | nil=>intro j;exact .nil _
 | cons b bs ih =>
  intro j p hp;obtain⟨q,s⟩:=b;rcases D8.1 hp with rfl | hp
  .intro e f l he;cases s<;>cases he
  .exact ih (j+1) p hp
theorem jH (fet:Fet) (d:Nat) (sg:Sig) (xs:List A):Kq fet (Q7 fet d sg xs).upd :=
 (AfL fet _ _).append (AdN fet _ _ _ _)
def XI {t:Nat} {k:TI->Dl} {fet:Fet} (h: ∀ ti,Kq fet (k ti).upd):Kq fet (MI C t k).upd:=by
 unfold MI KA;cases C.T t with
 | none=>exact .nil _
 | some ti=>exact h ti
def Qx {α :Type} {o:Option α} {k: α ->Dl} {fet:Fet} (h: ∀ x,o=some x->Kq fet (k x).upd):Kq fet (KA o k).upd:=by
 unfold KA;cases o with
 | none=>exact .nil _
 | some x=>exact h x rfl
theorem Xy (fet:Fet) (t:Nat) (x:A) (lo hi:Option A):Kq fet (MN C fet t x lo hi).upd:=by
 unfold MN;refine XI fun ti=> ?_;split
 .exact Qx fun _ _=>.nil _
 .exact Qx fun _ _=>Qx fun _ _=>XI fun _=>.nil _
 .refine Qx fun r hr=>Qx fun _ _=>Qx fun _ _=>XI fun _=> ?_;cases r.frz with
  | true=>exact .nil _
  | false=>exact .one (NH hr)
 .exact .nil _
theorem Aow (fet:Fet) (d t:Nat) (x hi:A):Kq fet (Aaz C fet d t x hi).upd:=by
 unfold Aaz;refine XI fun ti=> ?_;split
 .exact Qx fun _ _=>Qx fun _ _=>Qx fun _ _=>XI fun _=>.nil _
 .exact .nil _
theorem AnR (fet:Fet) (t:Nat) (x h:A):Kq fet (xP C fet t x h).upd:=by
 unfold xP;refine XI fun ti=> ?_;split
 .exact Qx fun _ _=>Qx fun _ _=>Qx fun _ _=>XI fun _=>.nil _
 .exact .nil _
def AmD {fet:Fet} (x:A) (j:Nat) {δ :Dl} (h:Kq fet δ.upd):Kq fet (Ur fet x j δ).upd:=by
 unfold Ur;split
 .split
  .rename_i q _ _ cs _;cases Nat.blt j cs.length&& δ.upd.all (fun p=> !(Nat.beq p.1 q)||Agg cs.length p.2)with
   | false=>exact h
   | true =>
    intro p hp e f l he;obtain⟨p0,hp0,rfl⟩:=DN.1 (show p∈ δ.upd.map _ from hp);cases hq:Nat.beq p0.1 q with
    | false=>rw[hq]at he;exact h p0 hp0 e f l he
    | true =>
     rw[hq]at he;obtain⟨n,y⟩:=p0;cases y with
     | box _=>cases he
     | arr e' f' l'=>exact h _ hp0 e f l he
     | mp _=>cases he
  .exact h
 .exact h
theorem AmE {fet:Fet} (xs:List A): ∀(ks:List (Nat×Nat)) {δ :Dl},Kq fet δ.upd->Kq fet (keepD fet xs ks δ).upd:=by
 intro ks
 induction ks with
 | nil=>intro δ h;exact h
 | cons k ks ih=>intro δ h;exact ih (AmD _ _ h)
def Afv {fet:Fet} {xs:List A} (h:uP o.op=true):Kq fet (opX C o xs fet).upd:=by
 obtain⟨dst,op,ty,pos,after,guard⟩:=o;cases op with
 | slice t x lo hi mx =>
  show Kq fet (slX C dst fet t lo hi mx xs).upd;unfold slX;split
  .unfold a1;split<;>first | exact Xy fet _ _ _ _ | exact .nil _
  .unfold a2;split
   .grind[split,has,Xy,AnR]
   .exact .nil _
  .unfold a2;split
   .grind[split,has,Xy,Aow]
   .exact .nil _
  .unfold a3;split<;>first | exact Xy fet _ _ _ _ | exact .nil _
  .exact .nil _
 | call c =>
  obtain⟨callee,args,ts⟩:=c;cases callee with
  | value fo =>
   cases fo with
   | func f =>
    cases xs with
    | nil=>exact .nil _
    | cons x xs =>
     show Kq fet (gZ C fet (dst.getD 0) f xs).upd;unfold gZ;cases C.G f with
     | none=>exact .nil _
     | some sg=>grind[AmE,jH]
   | tmp t =>
    cases xs with
    | nil=>exact .nil _
    | cons x xs =>
     show Kq fet (Amd C fet (dst.getD 0) t x xs).upd;unfold Amd;cases x with
     | fn n =>
      dsimp only;cases C.dyn t with
      | none=>exact .nil _
      | some F=>exact jH fet _ _ _
     | clo f q =>
      dsimp only;cases LW fet q with
      | none=>exact .nil _
      | some _ =>
       show Kq fet (match C.dyn t with | some sg=>Q7 fet (dst.getD 0) (sg f) (xs++[A.clo 0 q]) | none=>.no).upd;cases C.dyn t with
       | none=>exact .nil _
       | some F=>exact jH fet _ _ _
     | _=>exact .nil _
   | _=>cases h
  | _=>cases h
 | _=>cases h
def AgJ (hC:Ou P C) (hS:Sim V0 O0 w0 O m st a w) {ops:Array Oper} (hok:J7 (KI C ops.toList o st).ok) (next:Act->World->Prop) (Q:Exit->Act->World->Prop)
 (hn: ∀ O' m' a' w',Sim V0 O0 w0 O' m' (apply st o (KI C ops.toList o st)) a' w'->next a' w') :
 if Region.wanted o (yielded ops a.tmps)then o.wp P a w next Q else next (a.put o.dst undef) w:=by
 have hx0: ∀ j,j<(o.op.operands.toList.map (KY st.tmps)).length->JG O st.Js m w (a.eval (o.op.operands.getD j (.tmp 0))) ((o.op.operands.toList.map (KY st.tmps)).getD j .undef):=by
  intro j hj;have hj':j<o.op.operands.size:=by simpa using hj
  have e1:o.op.operands.getD j (.tmp 0)=o.op.operands[j]:=by rw[Dw,En hj'];rfl
  have e2:(o.op.operands.toList.map (KY st.tmps)).getD j .undef=KY st.tmps o.op.operands[j]:=by simp [Dn,hj']
  rw[e1,e2];exact Aei hS _
 have hid0: ∀ y∈o.op.operands.toList.map (KY st.tmps),∀ i∈y.ids,i∈st.ids:=by
  intro y hy i hi;obtain⟨x,_,rfl⟩:=DN.1 hy;cases x with
  | tmp t =>
   rcases Eo t st.tmps.length with h | h
   .exact kH h hi
   .have:KY st.tmps (.tmp t)= .undef:=by simp [KY,Dn,Ef h]
    rw[this]at hi;cases hi
  | const v=>have:KY st.tmps (.const v)=ofConst v:=rfl
             rw[this,Ath]at hi;cases hi
  | global g =>
   have hi:i∈(Aw3 (Aca g)).ids:=hi;cases hg:Aca g with
   | none=>rw[hg]at hi;cases hi
   | some q=>rw[hg]at hi;cases hi
  | func f=>cases hi
 obtain⟨hg1,hg2⟩:=Arp (ops:=ops) (o:=o) hS rfl;have plain: ∀ pre,J7 (TT C o st pre).ok->(∀ O' m' a' w',Sim V0 O0 w0 O' m' (apply st o (TT C o st pre)) a' w'->next a' w')->o.wp P a w next Q:=by intro pre hok hn;unfold TT at hok hn;dsimp only at hok hn;obtain⟨_,hok⟩:=hok.append;obtain⟨hokA,hokB⟩:=hok.append;obtain⟨hok1,hok2⟩:=hokA.append;obtain⟨hB1,hB2⟩:=hokB.cons;have hB2:=hB2.cons.1;obtain⟨hl,hx⟩:=tH hx0 hok1;have hid:=yN hx0 hok1;have hg:=AmY hC hS (o8 st _) (by rw[hl];simp) (fun j hj=>hx j (by rw[<- hl];exact hj)) (fun x hx' i hi=>by obtain⟨y,hy,hi'⟩:=hid x hx' i hi;exact .inl (hid0 y hy i hi')) hok2 (fun p hp=>(DF.1 hB1) p hp) hB2;exact hg next Q hn
 unfold KI at hok hn;cases hgo:guardOf ops.toList st.tmps o.guard with
 | none=>rw[hgo]at hok;exact(JR hok).elim
 | some r =>
  cases r with
  | none =>rw[hgo]at hok hn;rw[hg1 hgo,Du rfl];exact plain _ hok hn
  | some g =>
   rw[hgo]at hok hn;rw[hg2 g hgo];dsimp only at hok hn;cases hde:AqS C o with
   | some b =>
    rw[hde]at hok hn;cases b with
    | true =>
     have hg:g=true:=by have:=hok;unfold TT at this;exact(this.append).1.cons.1
     subst hg;rw[Du rfl];exact plain _ hok hn
    | false =>
     have hg:g=false:=by simpa using (show J7 [!g]from hok).cons.1
     subst hg;rw[Dp (by simp)];exact hn O m _ _ (hS.put o.dst (x:=.cnd false .undef) ⟨fun h=>by(cases h),fun _=>rfl⟩)
   | none =>
   rw[hde]at hok hn;dsimp only at hok hn;obtain⟨hokA,hokB⟩:=hok.append;obtain⟨h1,hokB⟩:=hokB.cons;obtain⟨h3,hokB⟩:=hokB.cons;obtain⟨hdst,hmg⟩:=hokB.cons;generalize hxs:(Lc o.op (o.op.operands.toList.map (KY st.tmps)))=sf at *
   generalize hδ :opX C o sf.2 (Kv st sf.2)= δ at *
   have hfet:=o8 st sf.2;generalize hfe:Kv st sf.2=fet at *
   have e1: δ.new=[]:=by simpa using h1
   have e3: δ.del=[]:=by simpa using h3
   have hm2: ∀ p∈ δ.upd,kK (uP o.op) (J4 fet p.1) p.2=true:=fun p hp=>hmg _ (DN.2 ⟨p,hp,rfl⟩);cases g with
   | false =>
    rw[Dp (by simp)];have hS1:=hS.put o.dst (x:=.cnd false δ.val) ⟨fun h=>by(cases h),fun _=>rfl⟩
    obtain⟨O1,hS2⟩:=hS1.closes (δ.upd.map (fun p=>(p.1,YI false (J4 fet p.1) p.2))) (by
     intro q hq;obtain⟨p,hp,rfl⟩:=DN.1 hq;rcases Ad8 (hm2 p hp)with ⟨_,cs,h1,h2⟩ | ⟨_,e,f,l,l',h1,h2,h3⟩
     .exact .inl ⟨cs,hfet _ _ h1,h2⟩
     .exact .inr ⟨e,f,l,hfet _ _ h1,h3 false⟩)
    exact hn O1 m _ _ hS2
   | true =>
    rw[Du rfl];have hokA':J7 (sf.1++(δ.val.isVal:: δ.ok)):=by intro b hb;have:=hokA (b|| !true) (DN.2 ⟨b,hb,rfl⟩);simpa using this
    obtain⟨hok1,hok2⟩:=hokA'.append;obtain⟨hv,hok2⟩:=hok2.cons;rw[<- hxs]at hok1;obtain⟨hl,hx⟩:=tH hx0 hok1;have hid:=yN hx0 hok1;rw[hxs]at hl hx hid;have hg:=AmY (xs:=sf.2) (fet:=fet) hC hS hfet (by rw[hl];simp) (fun j hj=>hx j (by rw[<- hl];exact hj)) (fun x hx' i hi=>by obtain⟨y,hy,hi'⟩:=hid x hx' i hi;exact .inl (hid0 y hy i hi')) (by rw[hδ];exact hok2) (fun p hp=>by rw[hδ,e1]at hp;cases hp) (by rw[hδ,e1];rfl);rw[hδ]at hg;refine hg next Q (fun O' m' a' w' h=>hn O' m' a' w' ?_)
    have eu: δ.upd.map (fun p=>(p.1,YI true (J4 fet p.1) p.2))= δ.upd:=by
     conv=>rhs;rw[<- Gj δ.upd]
     refine Ez fun p hp=> ?_;rcases Ad8 (hm2 p hp)with ⟨h1,_⟩ | ⟨hc,e,f,l,l',h1,h2,h3⟩
     .rw[h1];rfl
     .have hcl:=Afv (C:=C) (fet:=fet) (xs:=sf.2) hc;rw[hδ]at hcl;obtain⟨e',f',h4,_⟩:=hcl p hp _ _ _ h2;rw[h1]at h4;injection h4 with h4;injection h4 with q1 q2 q3;rw[h3 true,q3,<- h2];rfl
    have ea:apply st o δ = {tmps:=put st.tmps o.dst δ.val,Js:=JL st.Js δ.upd}:=by unfold apply;rw[e1,e3];rfl
    rw[ea]at h;have eb: ∀ ok,apply st o {ok:=ok,val:=.cnd true δ.val,upd:= δ.upd.map (fun p=>(p.1,YI true (J4 fet p.1) p.2))}= {tmps:=put st.tmps o.dst (.cnd true δ.val),Js:=JL st.Js δ.upd}:=by intro ok;unfold apply;dsimp only;rw[eu];rfl
    rw[eb];refine⟨h.defers,by have:=h.size;dsimp only at this ⊢;rw[YR]at this ⊢;exact this,fun t ht=> ?_,h.Js,h.frame,h.own,h.ids,h.less,h.root,h.oH,h.inv⟩;have ht':t<st.tmps.length:=by have ht2:t<(put st.tmps o.dst (.cnd true δ.val)).length:=ht;rw[YR]at ht2;exact ht2
    have:=h.tmps t (by show t<(put st.tmps o.dst δ.val).length;rw[YR];exact ht');dsimp only at this ⊢;rw[AeG _ _ _ _ ht']at this;rw[AeG _ _ _ _ ht'];by_cases hd:o.dst=some t
    .rw[Du hd]at this ⊢;exact⟨fun _=>this.Azb hv,fun h=>by(cases h)⟩
    .rw[Dp hd]at this ⊢;exact this
end
section
variable {P:Program} {C:Ctx} {V0:Nat->Value} {O0 O:Own} {w0 w:World} {m:Nat->Value} {st:St} {a:Act}
def Aoj (p:Nat->Bool) (l:List (Nat×Obj)) (k:Nat):J4 (l.filter (fun q=>p q.1)) k=if p k then J4 l k else none:=by
 induction l with
 | nil=>simp [J4]
 | cons q r ih=>grind[Og]
def AuX (g:Obj->Obj) (l:List (Nat×Obj)) (k:Nat):J4 (l.map (fun q=>(q.1,g q.2))) k=(J4 l k).map g:=by
 induction l with
 | nil=>rfl
 | cons q r ih=>grind[Og]
theorem drop_length (keep:List Nat): ∀(l:List A) (i:Nat),(drop keep l i).length=l.length:=by
 intro l
 induction l with
 | nil=>intro i;rfl
 | cons x r ih=>intro i;simp [drop,ih]
def Ats (keep:List Nat): ∀(l:List A) (i t:Nat),(drop keep l i).getD t .undef= .undef\/(drop keep l i).getD t .undef=l.getD t .undef:=by
 intro l
 induction l with
 | nil=>grind[drop]
 | cons x r ih =>
  intro i t;cases t with
  | zero=>grind[drop,has]
  | succ t=>simp_all[drop]
def Sim.dropped (hS:Sim V0 O0 w0 O m st a w) (keep Js:List Nat):Sim V0 O0 w0 O m {tmps:=drop keep st.tmps 0,Js:=st.Js.filter (fun p=>has Js p.1)} a w:=by
 have hag: ∀ o x,J4 (st.Js.filter (fun p=>has Js p.1)) o=some x->J4 st.Js o=some x:=by
  intro o x h;rw[Aoj (has Js)]at h;split at h
  .exact h
  .cases h
 have hE:TB st.Js m (st.Js.filter (fun p=>has Js p.1)) m (fun _=>False):=fun o x h=>.inr ⟨x,hag o x h,rfl,rfl⟩;have hp:MW O w O w:=fun _ _ _ h hc=>⟨h,hc⟩
 refine⟨hS.defers,by rw[hS.size];exact(drop_length _ _ _).symm,fun t ht=> ?_,fun o x h=> ?_,hS.frame,hS.own,fun o x h=>hS.ids o x (hag o x h),hS.less,fun o hr ho=>(by obtain⟨x,hx⟩:=ET.1 ho;exact hS.root o hr (by rw[hag o x hx];rfl)),hS.oH,hS.inv⟩
 .have ht':t<st.tmps.length:=by
   all_goals grind[drop,drop_length]
  show JG O _ m w _ ((drop keep st.tmps 0).getD t .undef);rcases Ats keep st.tmps 0 t with h | h
  .rw[h];trivial
  .rw[h];exact(hS.tmps t ht').step hp hE (fun _ _ h=>h)
 .exact(hS.Js o x (hag o x h)).step (T:=fun _=>False) (Moves.refl O _ w) ⟨fun _ _ _ h=>h,fun _ _ _ _ h _=>h⟩ hE id rfl (fun _ _ h=>h)
def rho (f t o:Nat):Nat:=if o=f then t else o
theorem dL (f t o:Nat):(bif Nat.beq o f then t else o)=rho f t o:=by grind[XD,rho]
def Qy (f t:Nat):A->A
 | .ptr o off=>.ptr (rho f t o) off
 | .own o=>.own (rho f t o)
 | .clo g o=>.clo g (rho f t o)
 | .bsl o n=>.bsl (rho f t o) n
 | .osl o n=>.osl (rho f t o) n
 | .Kt o i off=>.Kt (rho f t o) i off
 | c=>c
def Awj (f t:Nat) (cs:List A):Oy f t (.agg cs)= .agg (cs.map (Qy f t)):=by show A.agg (cs.map _)=_;congr 1;refine Ez fun c _=> ?_;all_goals grind[Qy,dL]
def AyQ (f t:Nat) (c:A):(∃ cs,c= .agg cs)\/Oy f t c=Qy f t c:=by cases c<;>first | exact .inl ⟨_,rfl⟩ | exact .inr rfl | (right;simp only[Qy,Oy,dL])
structure Ren (O:Own) (Js:List (Nat×Obj)) (m:Nat->Value) (f t:Nat) (O':Own) (objs':List (Nat×Obj)) (m':Nat->Value):Prop where
 here: ∀ x',J4 objs' t=some x'-> ∃ x,J4 Js f=some x/\x.shp=x'.shp/\m' t=m f
 there: ∀ o x',o≠t->J4 objs' o=some x'->o≠f/\ ∃ x,J4 Js o=some x/\x.shp=x'.shp/\m' o=m o
 own: ∀ b k,O' b k=(O b k).map (rho f t)
def Ren.Kr {O':Own} {Js objs':List (Nat×Obj)} {m':Nat->Value} {f t:Nat} (h:Ren O Js m f t O' objs' m'):MW O w O' w:=by intro b k u hn hc;exact⟨by rw[h.own,hn];rfl,hc⟩
def JI.ren {O':Own} {Js objs':List (Nat×Obj)} {m':Nat->Value} {f t:Nat} (h:Ren O Js m f t O' objs' m') {v:Value} {c:A} (hn: ∀ i∈c.Nq,i=t->f=t) (hc:JI O Js m w v c) :
 JI O' objs' m' w v (Qy f t c):=by
 have key: ∀ o,(o=t->f=t)-> ∀ x',J4 objs' (rho f t o)=some x'-> ∃ x,J4 Js o=some x/\x.shp=x'.shp/\m' (rho f t o)=m o:=by
  intro o ho x' hx;unfold rho at hx ⊢;by_cases hf:o=f
  .rw[Du hf]at hx ⊢;rw[hf];exact h.here x' hx
  .rw[Dp hf]at hx ⊢;exact(h.there o x' (fun e=>hf (by rw[e,ho e])) hx).2
 cases c with
 | ptr o off =>
  simp only[JI,Qy]at *
  refine⟨hc.1,?_⟩;have hc:=hc.2;cases hx:J4 objs' (rho f t o)with
  | none=>simp
  | some x' =>obtain⟨x,h1,h2,h3⟩:=key o (hn o (by simp [A.Nq])) x' hx;rw[h1]at hc;simp only[Option.map_some,h2]at hc;simp only[Option.map_some,h3];exact hc
 | own o =>
  simp only[JI,Qy]at *
  refine⟨hc.1,?_⟩;have hc:=hc.2;cases hx:J4 objs' (rho f t o)with
  | none=>simp
  | some x' =>obtain⟨x,h1,h2,h3⟩:=key o (hn o (by simp [A.Nq])) x' hx;rw[h1]at hc;simp only[Option.map_some,h2]at hc;simp only[Option.map_some,h3];exact hc
 | clo k o =>
  simp only[JI,Qy]at *
  obtain⟨h0,p,h4,h5,hc⟩:=hc;refine⟨h0,p,h4,h5.Kr h.Kr,?_⟩;cases hx:J4 objs' (rho f t o)with
  | none=>simp
  | some x' =>obtain⟨x,h1,h2,h3⟩:=key o (hn o (by simp [A.Nq])) x' hx;rw[h1]at hc;simp only[Option.map_some,h2]at hc;simp only[Option.map_some,h3];exact hc
 | bsl o n =>
  simp only[JI,Qy]at *
  refine⟨hc.1,?_⟩;have hc:=hc.2;cases hx:J4 objs' (rho f t o)with
  | none=>simp
  | some x' =>obtain⟨x,h1,h2,h3⟩:=key o (hn o (by simp [A.Nq])) x' hx;rw[h1]at hc;simp only[Option.map_some,h2]at hc;simp only[Option.map_some,h3];exact hc
 | osl o n =>
  simp only[JI,Qy]at *
  refine⟨hc.1,?_⟩;have hc:=hc.2;cases hx:J4 objs' (rho f t o)with
  | none=>simp
  | some x' =>obtain⟨x,h1,h2,h3⟩:=key o (hn o (by simp [A.Nq])) x' hx;rw[h1]at hc;simp only[Option.map_some,h2]at hc;simp only[Option.map_some,h3];exact hc
 | Kt o i off =>
  simp only[JI,Qy]at *
  refine⟨hc.1,?_⟩;have hc:=hc.2;cases hx:J4 objs' (rho f t o)with
  | none=>simp
  | some x' =>obtain⟨x,h1,h2,h3⟩:=key o (hn o (by simp [A.Nq])) x' hx;rw[h1]at hc;simp only[Option.map_some,h2]at hc;simp only[Option.map_some,h3];exact hc
 | elt cs =>obtain⟨b,off,hv,hc⟩:=hc;refine⟨b,off,hv,fun j hj=> ?_⟩;obtain⟨h1,u,h2,h3⟩:=hc j hj;obtain⟨h4,h5⟩:=h.Kr _ _ _ h1 h2;exact⟨h4,u,h5,h3.Kr h.Kr⟩
 | fn f=>exact J5.Kr h.Kr hc
 | ump _=>exact hc
 | undef=>exact hc
 | Ls=>exact hc
 | bool b=>exact J5.Kr h.Kr hc
 | int k n=>exact J5.Kr h.Kr hc
 | str s=>exact J5.Kr h.Kr hc
 | sl l=>exact J5.Kr h.Kr hc
 | sln l=>exact J5.Kr h.Kr hc
 | Me=>exact J5.Kr h.Kr hc
 | usl _ _ _=>exact hc
 | agg _=>exact hc
 | tup _=>exact hc
 | box _=>exact hc
 | cbx _ _=>exact hc
 | cnd _ _=>exact hc
def Ren.exts {O':Own} {Js objs':List (Nat×Obj)} {m':Nat->Value} {f t:Nat} (h:Ren O Js m f t O' objs' m'):TB Js m objs' m' (fun o=>o=t/\f≠t):=by
 intro o x' hx;by_cases ho:o=t
 .subst ho;by_cases hf:f=o
  .right;obtain⟨x,h1,h2,h3⟩:=h.here x' hx;rw[hf]at h1 h3;exact⟨x,h1,h2,h3⟩
  .exact .inl ⟨rfl,hf⟩
 .exact .inr (h.there o x' ho hx).2
def JG.ren {O':Own} {Js objs':List (Nat×Obj)} {m':Nat->Value} {f t:Nat} (h:Ren O Js m f t O' objs' m') {v:Value} {c:A} (hn: ∀ i∈c.ids,i=t->f=t) (hc:JG O Js m w v c) :
 JG O' objs' m' w v (Oy f t c):=by
 cases c with
 | agg cs =>
  rw[Awj];obtain⟨vs,h1,h2,h3⟩:=hc;refine⟨vs,h1,by simpa using h2,fun j hj=> ?_⟩;have hj':j<cs.length:=by simpa using hj
  have e:(cs.map (Qy f t)).getD j .undef=Qy f t (cs.getD j .undef):=by simp [Dn,hj']
  rw[e];exact(h3 j hj').ren h (fun i hi=>hn i (Us (f:=A.Nq) hj' hi))
 | tup l=>exact JG.step h.Kr h.exts (fun o ho hN=>hN.2 (hn o ho hN.1)) hc
 | cnd g c=>exact JG.step h.Kr h.exts (fun o ho hN=>hN.2 (hn o ho hN.1)) hc
 | undef=>trivial
 | ptr o off =>
  have e:Oy f t (.ptr o off)=Qy f t (.ptr o off):=by simp only[Qy,Oy,dL]
  rw[e];exact JI.ren (w:=w) (m:=m) (c:=.ptr o off) h hn hc
 | own o =>
  have e:Oy f t (.own o)=Qy f t (.own o):=by simp only[Qy,Oy,dL]
  rw[e];exact JI.ren (w:=w) (m:=m) (c:=.own o) h hn hc
 | clo g o =>
  have e:Oy f t (.clo g o)=Qy f t (.clo g o):=by simp only[Qy,Oy,dL]
  rw[e];exact JI.ren (w:=w) (m:=m) (c:=.clo g o) h hn hc
 | bsl o n =>
  have e:Oy f t (.bsl o n)=Qy f t (.bsl o n):=by simp only[Qy,Oy,dL]
  rw[e];exact JI.ren (w:=w) (m:=m) (c:=.bsl o n) h hn hc
 | osl o n =>
  have e:Oy f t (.osl o n)=Qy f t (.osl o n):=by simp only[Qy,Oy,dL]
  rw[e];exact JI.ren (w:=w) (m:=m) (c:=.osl o n) h hn hc
 | Kt o i off =>
  have e:Oy f t (.Kt o i off)=Qy f t (.Kt o i off):=by simp only[Qy,Oy,dL]
  rw[e];exact JI.ren (w:=w) (m:=m) (c:=.Kt o i off) h hn hc
 | bool b=>exact JI.ren (w:=w) (m:=m) (c:=.bool b) h hn hc
 | int k n=>exact JI.ren (w:=w) (m:=m) (c:=.int k n) h hn hc
 | str s=>exact JI.ren (w:=w) (m:=m) (c:=.str s) h hn hc
 | sl l=>exact JI.ren (w:=w) (m:=m) (c:=.sl l) h hn hc
 | sln l=>exact JI.ren (w:=w) (m:=m) (c:=.sln l) h hn hc
 | Ls=>exact JI.ren (w:=w) (m:=m) (c:=.Ls) h hn hc
 | Me=>exact JI.ren (w:=w) (m:=m) (c:=.Me) h hn hc
 | elt cs=>exact JI.ren (w:=w) (m:=m) (c:=.elt cs) h hn hc
 | fn g=>exact JI.ren (w:=w) (m:=m) (c:=.fn g) h hn hc
 | ump _=>exact hc
 | usl _ _ _=>exact hc
 | box _=>exact hc
 | cbx _ _=>exact hc
def JI.Oy {O':Own} {Js objs':List (Nat×Obj)} {m':Nat->Value} {f t:Nat} (h:Ren O Js m f t O' objs' m') {v:Value} {c:A} (hn: ∀ i∈c.Nq,i=t->f=t) (hc:JI O Js m w v c) :
 JI O' objs' m' w v (Vm.Oy f t c):=by
 rcases AyQ f t c with ⟨cs,rfl⟩ | e
 .exact hc.elim
 .rw[e];exact hc.ren h hn
def Ll.ren {O':Own} {Js objs':List (Nat×Obj)} {m':Nat->Value} {f t:Nat} (h:Ren O Js m f t O' objs' m') {o:Nat} {x:Obj} (hm:m' (rho f t o)=m o) (hn: ∀ i∈x.ids,i=t->f=t) (hx:Ll O Js m w o x) :
 Ll O' objs' m' w (rho f t o) (AbO f t x):=by
 cases x with
 | box cs =>
  obtain⟨b,base,h1,h2⟩:=hx;refine⟨b,base,by rw[hm];exact h1,fun j hj=> ?_⟩;have hj':j<cs.length:=by simpa using hj
  obtain⟨h3,h4,u,h5,h6⟩:=h2 j hj';refine⟨by rw[h.own,h3];rfl,h4,u,h5,?_⟩;have e:(cs.map (Vm.Oy f t)).getD j .undef=Vm.Oy f t (cs.getD j .undef):=by simp [Dn,hj']
  rw[e];exact h6.Oy h (fun i hi=>hn i (Us (f:=A.Nq) hj' hi))
 | arr e frz l =>
  obtain⟨h0,hx⟩:=hx;refine⟨h0,?_⟩;rcases hx with ⟨h1,h2,h3⟩ | ⟨h1,g,cap,cur,h2,h3,h4,h5,h6,h7,h8,h9⟩
  .exact .inl ⟨h1,h2,by rw[hm];exact h3⟩
  .refine .inr ⟨h1,g,cap,cur,by rw[hm];exact h2,h3,h4,h5,h6,fun i j hi hj=> ?_,fun k hk hge=> ?_,fun k hk=> ?_⟩
   .obtain⟨u,h10,h11⟩:=h7 i j hi hj;exact⟨u,h10,h11.Kr h.Kr⟩
   .rw[h.own,h8 k hk hge];rfl
   .rw[h.own,h9 k hk];cases frz<;>rfl
 | mp l =>
  obtain⟨r,es,ck,h1,h2,h3,h4,h5⟩:=(show Q5 O w o (m o) l from hx)
  refine(⟨r,es,ck,by rw[hm];exact h1,h2,by rw[h.own,h3];rfl,h4,fun i p hi=> ?_⟩:Q5 O' w (rho f t o) (m' (rho f t o)) l);obtain⟨e,k1,k2,k3⟩:=h5 i p hi;exact⟨e,k1,k2.Kr h.Kr,k3.Kr h.Kr⟩
def Sim.renamed (hS:Sim V0 O0 w0 O m st a w) {f t:Nat} {x:Obj} (hf:J4 st.Js f=some x) (ht:f=t\/Qa st t) :
 ∃ O' m',Sim V0 O0 w0 O' m' {tmps:=st.tmps.map (Oy f t),Js:=(Np (TD st.Js f) t x).map (fun p=>(p.1,AbO f t p.2))} a w:=by
 have hag: ∀ o,J4 ((Np (TD st.Js f) t x).map (fun p=>(p.1,AbO f t p.2))) o=(if o=t then some x else if o=f then none else J4 st.Js o).map (AbO f t):=by intro o;rw[AuX,KL,lW]
 have hshp: ∀ y,(AbO f t y).shp=y.shp:=by intro y;cases y<;>rfl
 have h255:f≠255:=hS.ids f x hf
 have hR:Ren O st.Js m f t (fun b k=>(O b k).map (rho f t)) ((Np (TD st.Js f) t x).map (fun p=>(p.1,AbO f t p.2))) (fun o=>if o=t then m f else m o):=by
  refine⟨fun x' hx=> ?_,fun o x' ho hx=> ?_,fun _ _=>rfl⟩
  .rw[hag,Du rfl]at hx;simp only[Option.map_some,F8]at hx;exact⟨x,hf,by rw[<- hx,hshp],Du rfl⟩
  .rw[hag,Dp ho]at hx;by_cases hof:o=f
   .rw[Du hof]at hx;cases hx
   .rw[Dp hof]at hx;cases hy:J4 st.Js o with
    | none=>rw[hy]at hx;cases hx
    | some y =>rw[hy]at hx;simp only[Option.map_some,F8]at hx;exact⟨hof,y,rfl,by rw[<- hx,hshp],Dp ho⟩
 have hids: ∀ i∈st.ids,i=t->f=t:=by
  intro i hi he;rcases ht with h | h
  .exact h
  .exact absurd (he▸hi) h.ids
 have hmr: ∀ o,(o=t->f=t)->(fun o=>if o=t then m f else m o) (rho f t o)=m o:=by all_goals grind[rho]
 refine⟨(fun b k=>(O b k).map (rho f t)),(fun o=>if o=t then m f else m o),hS.defers,by rw[hS.size];simp,fun i hi=> ?_,fun o y hy=> ?_,hS.frame,fun b k o hb ho hne=> ?_,fun o y hy=> ?_,fun b k hb h=>hS.less b k hb (fun e=>h (by show(O b k).map _=none;rw[e];rfl)),fun o hr ho=> ?_,fun b k hb h=>by show(O b k).map (rho f t)=_;rw[hS.oH b k hb h];exact congrArg some (Dp (fun e=>h255 e.symm)),hS.inv⟩
 .have hi':i<st.tmps.length:=by simpa using hi
  have e:(st.tmps.map (Oy f t)).getD i .undef=Oy f t (st.tmps.getD i .undef):=by simp [Dn,hi']
  show JG _ _ _ _ _ ((st.tmps.map (Oy f t)).getD i .undef);rw[e];exact(hS.tmps i hi').ren hR (fun j hj=>hids j (kH hi' hj))
 .have hy':=hy;dsimp only at hy;rw[hag]at hy;by_cases h1:o=t
  .rw[Du h1]at hy;simp only[Option.map_some,F8]at hy;subst hy;have:=(hS.Js f x hf).ren hR (hmr f (fun e=>e)) (fun i hi=>hids i (YH hf hi));have e:rho f t f=t:=Du rfl;rw[e]at this;rw[h1];exact this
  .rw[Dp h1]at hy;by_cases h2:o=f
   .rw[Du h2]at hy;cases hy
   .rw[Dp h2]at hy;cases hz:J4 st.Js o with
    | none=>rw[hz]at hy;cases hy
    | some z =>rw[hz]at hy;simp only[Option.map_some,F8]at hy;subst hy;have:=(hS.Js o z hz).ren hR (hmr o (fun e=>absurd e h1)) (fun i hi=>hids i (YH hz hi));have e:rho f t o=o:=Dp h2;rw[e]at this;exact this
 .cases hq:O b k with
  | none =>have:(O b k).map (rho f t)=some o:=ho;rw[hq]at this;cases this
  | some o1 =>have:(O b k).map (rho f t)=some o:=ho;rw[hq]at this;simp only[Option.map_some,F8]at this;refine hS.own b k o1 hb hq (fun e=>hne ?_);rw[<- this,e];exact Dp (fun e=>h255 e.symm)
 .dsimp only at hy;rw[hag]at hy;by_cases h1:o=t
  .rw[h1];rcases ht with h | h
   .rw[<- h];exact h255
   .exact h.ne
  .rw[Dp h1]at hy;by_cases h2:o=f
   .rw[h2];exact h255
   .rw[Dp h2]at hy;cases hz:J4 st.Js o with
    | none=>rw[hz]at hy;cases hy
    | some z=>exact hS.ids o z hz
 .dsimp only at ho ⊢;rw[hag]at ho;by_cases h1:o=t
  .rw[Du h1];rcases ht with h | h
   .rw[h1,<- h];exact hS.root f (by rw[h,<- h1];exact hr) (by rw[hf];rfl)
   .rw[h1,h.root]at hr;cases hr
  .rw[Dp h1]at ho ⊢;by_cases h2:o=f
   .rw[Du h2]at ho;cases ho
   .rw[Dp h2]at ho;refine hS.root o hr ?_;cases hz:J4 st.Js o with
    | none=>rw[hz]at ho;cases ho
    | some z=>rfl
def Asi: ∀(l:List (Nat×Nat)) {O:Own} {m:Nat->Value} {st:St},Sim V0 O0 w0 O m st a w->(AbP st l).1=true-> ∃ O' m',Sim V0 O0 w0 O' m' (AbP st l).2 a w:=by
 intro l
 induction l with
 | nil=>intro O m st hS _;exact⟨O,m,hS⟩
 | cons p r ih =>
  intro O m st hS h;obtain⟨f,t⟩:=p;simp only[AbP]at h ⊢;cases hx:J4 st.Js f with
  | none=>rw[hx]at h;exact ih hS h
  | some x =>
   rw[hx]at h;dsimp only at h ⊢;rw[Dx,XD]at h
   obtain⟨O1,m1,hS1⟩:=hS.renamed (t:=t) hx (by
    by_cases hft:f=t
    .exact .inl hft
    .have h1:=h.1;rw[show decide (f=t)=false by simpa using hft]at h1;exact .inr (NJ h1))
   exact ih hS1 h.2
def Arm: ∀(l:List Nat) {O:Own} {st:St},Sim V0 O0 w0 O m st a w-> ∃ O',Sim V0 O0 w0 O' m {st with Js:=Amu st.Js l} a w:=by
 intro l
 induction l with
 | nil=>intro O st hS;exact⟨O,hS⟩
 | cons n r ih =>
  intro O st hS;simp only[Amu];cases hx:J4 st.Js n with
  | none=>exact ih hS
  | some x =>
   cases x with
   | mp _=>exact ih hS
   | box cs=>exact ih hS
   | arr e f l =>obtain⟨O1,hS1,_⟩:=hS.rD hx;exact ih hS1
def wP {t:Nat} {v:Value} (hs:a.tmps.getD t undef=v) (hlt:t<a.tmps.size):a.put (some t) v=a:=by
 have:a.tmps.setIfInBounds t v=a.tmps:=by apply Array.ext_getElem?;intro i;rw[EZ];by_cases hi:t=i;all_goals simp_all[getD_eq,hs]
 simp only[Act.put,this]
theorem AtT {x:A} (h:rH x=true):x= .Ls:=by cases x<;>first | rfl | cases h
def Asq {id:Nat}: ∀(ts:List Nat) {O:Own} {m:Nat->Value} {st:St},Sim V0 O0 w0 O m st a w->(∀ t∈ts,t<st.tmps.length)->(∀ t∈ts,JI O st.Js m w (a.tmps.getD t undef) (.own id)) ->
 Sim V0 O0 w0 O m {st with tmps:=AbS id ts st.tmps} a w:=by
 intro ts
 induction ts with
 | nil=>intro O m st hS _ _;exact hS
 | cons t r ih =>intro O m st hS hl hc;have hlt:=hl t Dy;have h1:=hS.put (some t) (x:=.own id) (v:=a.tmps.getD t undef) ((hc t Dy).toT);rw[wP rfl (by rw[hS.size];exact hlt)]at h1;exact ih (st:= {st with tmps:=st.tmps.set t (.own id)}) h1 (fun q hq=>by simpa using hl q (D5 _ hq)) (fun q hq=>hc q (D5 _ hq))
def ArZ: ∀(l:List (List Nat×Nat×Ty×Nat)) {O:Own} {m:Nat->Value} {st:St},Sim V0 O0 w0 O m st a w->(owns l st).1=true-> ∃ O' m',Sim V0 O0 w0 O' m' (owns l st).2 a w:=by
 intro l
 induction l with
 | nil=>intro O m st hS _;exact⟨O,m,hS⟩
 | cons p r ih =>
  intro O m st hS h;obtain⟨ts,e,ty,id⟩:=p;unfold owns at h ⊢;cases hany:ts.any (fun t=>rH (st.tmps.getD t .undef))with
  | false=>rw[hany]at h;exact ih hS h
  | true =>
   rw[hany]at h;simp only[cond_true]at h ⊢;rw[Dx,Dx]at h;obtain⟨⟨h1,h2⟩,h3⟩:=h;have hall: ∀ t∈ts,st.tmps.getD t .undef= .Ls/\t<st.tmps.length:=by all_goals grind[AtT]
   have hval: ∀ t∈ts,a.tmps.getD t undef= .slice none 0 0:=by intro t ht;have hv:=hS.tmps t (hall t ht).2;rw[(hall t ht).1]at hv;exact hv
   cases ts with
   | nil=>cases hany
   | cons t ts =>
    have hlt:=(hall t Dy).2;obtain⟨O',m',hS'⟩:=vY hS (d:=t) (e:=e) (t:=ty) (frz:=false) (del:=[]) (NJ h2);rw[wP (hval t Dy) (by rw[hS.size];exact hlt)]at hS';have hslot:=hS'.tmps t (by simpa using hlt);have e0:(st.tmps.set t (.own id)).getD t .undef= .own id:=by simp [Dn,hlt]
    rw[e0,hval t Dy]at hslot;have hfin:=Asq (a:=a) ts hS' (fun q hq=>by simpa using (hall q (D5 _ hq)).2) (fun q hq=>by rw[hval q (D5 _ hq)];exact hslot);exact ih hfin h3
def Aux: ∀(l:List (Option Nat×Nat×Ty)) {O:Own} {st:St},Sim V0 O0 w0 O m st a w-> ∃ O',Sim V0 O0 w0 O' m (pzs l st) a w:=by
 intro l
 induction l with
 | nil=>intro O st hS;exact⟨O,hS⟩
 | cons p r ih =>
  intro O st hS;obtain⟨b,j,ty⟩:=p;cases b with
  | none =>
   unfold pzs;cases hx:st.tmps.getD j .undef with
   | Ls =>
    dsimp only
    have hlt:j<st.tmps.length:=by
     rcases Eo j st.tmps.length with h | h
     .exact h
     .rw[Dn,Ef h]at hx;cases hx
    have hc:=hS.tmps j hlt;rw[hx]at hc;have hc:a.tmps.getD j undef= .slice none 0 0:=hc;have h2:=hS.put (some j) (x:=.sl ⟨ty,[]⟩) (v:=a.tmps.getD j undef) (by rw[hc];exact J5.nil ty);rw[wP rfl (by rw[hS.size];exact hlt)]at h2;exact ih h2
   | own o =>
    dsimp only;cases ho:J4 st.Js o with
    | none=>exact ih hS
    | some y =>
     cases y with
     | box _=>exact ih hS
     | mp _=>exact ih hS
     | arr e f l =>
      dsimp only;obtain⟨O1,hS1,hp1,_,hv1,_⟩:=hS.rD ho
      have hlt:j<st.tmps.length:=by
       rcases Eo j st.tmps.length with h | h
       .exact h
       .rw[Dn,Ef h]at hx;cases hx
      have hc:=hS.tmps j hlt;rw[hx]at hc;have hc:JI O st.Js m w (a.tmps.getD j undef) (.own o):=hc;have hc2:=hc.2;rw[ho]at hc2;have hm:a.tmps.getD j undef=m o:=hc2;have h2:=hS1.put (some j) (x:=.sl l) (v:=a.tmps.getD j undef) (by rw[hm];exact hv1);rw[wP rfl (by rw[hS.size];exact hlt)]at h2;exact ih h2
   | _=>exact ih hS
  | some b =>
   unfold pzs;cases hb:J4 st.Js b with
   | none=>exact ih hS
   | some y =>
    cases y with
    | arr _ _ _=>exact ih hS
    | mp _=>exact ih hS
    | box cs =>
     dsimp only;cases hx:cs.getD j .undef with
     | own o =>
      dsimp only;cases ho:J4 st.Js o with
      | none=>exact ih hS
      | some y =>
       cases y with
       | box _=>exact ih hS
       | mp _=>exact ih hS
       | arr e f l =>
        dsimp only;obtain⟨O1,hS1,hp1,_,hv1,_⟩:=hS.rD ho;have hbo:b≠o:=fun h=>by rw[h,ho]at hb;cases hb
        have hb1:J4 (Np st.Js o (.arr e true l)) b=some (.box cs):=by rw[KL,Dp hbo];exact hb
        have ho1:J4 (Np st.Js o (.arr e true l)) o=some (.arr e true l):=by rw[KL,Du rfl]
        have hjl:j<cs.length:=by
         rcases Eo j cs.length with h | h
         .exact h
         .rw[Dn,Ef h]at hx;cases hx
        have hE:TB (Np st.Js o (.arr e true l)) m (Np (Np st.Js o (.arr e true l)) b (.box (cs.set j (.sl l)))) m (fun _=>False):=by
         intro q z hz;rw[KL]at hz;by_cases hq:q=b
         .rw[Du hq]at hz;injection hz with hz;subst hz;exact .inr ⟨.box cs,by rw[hq];exact hb1,rfl,rfl⟩
         .rw[Dp hq]at hz;exact .inr ⟨z,hz,rfl,rfl⟩
        have h2:=hS1.next (st':= {st with Js:=Np (Np st.Js o (.arr e true l)) b (.box (cs.set j (.sl l)))}) (d:=none) (v:=undef) (x:=.undef) (T:=fun _=>False) (Nw:=fun _=>False) (Moves.refl O1 _ w) ⟨fun _ _ _ h=>h,fun _ _ _ _ h _=>h⟩ (fun _ _ _ h=>h) hE (fun _ h=>h.elim) (fun _ h=>h.elim)
         (fun q z hz=>by
           rw[KL]at hz;by_cases hq:q=b
           .rw[Du hq]at hz;injection hz with hz;subst hz;right;obtain⟨bk,base,g1,g2⟩:=hS1.Js b _ hb1;rw[hq];refine⟨⟨bk,base,g1,fun i hi=> ?_⟩,hS.ids b _ hb⟩;rw[FX]at hi;obtain⟨k1,k2,u,k3,k4⟩:=g2 i hi;refine⟨k1,k2,u,k3,?_⟩;by_cases hij:j=i
            .subst hij;have e1:(cs.set j (.sl l)).getD j .undef= .sl l:=by simp [Dn,hjl]
             rw[e1];rw[hx]at k4;have k5:=k4.2;rw[ho1]at k5;have hm:u=m o:=k5;rw[hm];exact hv1
            .have e1:(cs.set j (.sl l)).getD i .undef=cs.getD i .undef:=by
              simp only[Dn,Gf];rw[Dp hij]
             rw[e1];exact k4.step (fun _ _ _ h hc=>⟨h,hc⟩) hE (fun _ _ h=>h)
           .rw[Dp hq]at hz;exact .inl ⟨fun h=>h,hz,rfl⟩) rfl (fun h=>absurd rfl h)
        exact ih h2
     | _=>exact ih hS
def ArK (hS:Sim V0 O0 w0 O m st a w) {key:Nat} (h:(norm C key st).1=true): ∃ O' m',Sim V0 O0 w0 O' m' (norm C key st).2 a w:=by
 unfold norm at h ⊢;cases hn:C.nrm key with
 | none=>exact⟨O,m,hS⟩
 | some n =>rw[hn]at h;dsimp only at h ⊢;rw[Dx]at h;obtain⟨O4,hS4⟩:=Aux n.pz hS;obtain⟨O1,m1,hS1⟩:=Asi n.ren (hS4.dropped n.keep (reached (drop n.keep (pzs n.pz st).tmps 0) (pzs n.pz st).Js)) h.1;obtain⟨O3,m3,hS3⟩:=ArZ n.nw hS1 h.2;obtain⟨O2,hS2⟩:=Arm n.frz hS3;exact⟨O2,m3,hS2⟩
def Aba {ρ :Type} (hS:Sim V0 O0 w0 O m st a w) {key:Nat} {K:St->Option ρ} {r: ρ} (h:UQ C key st K=some r): ∃ O' m' st',Sim V0 O0 w0 O' m' st' a w/\K st'=some r:=by
 unfold UQ at h;cases hn:(norm C key st).1 with
 | false =>have h':(bif (norm C key st).1 then K (norm C key st).2 else none)=some r:=h;rw[hn]at h';cases h'
 | true =>have h':(bif (norm C key st).1 then K (norm C key st).2 else none)=some r:=h;rw[hn]at h';obtain⟨O1,m1,hS1⟩:=ArK hS hn;exact⟨O1,m1,_,hS1,h'⟩
def vX {ρ :Type} (hS:Sim V0 O0 w0 O m st a w) {kind:Nat} {c:Code} {K:St->Option ρ} {r: ρ} (h:meet C kind c st K=some r): ∃ O' m' st',Sim V0 O0 w0 O' m' st' a w/\K st'=some r:=by
 unfold meet at h;cases hn:MC c with
 | none=>rw[hn]at h;exact⟨O,m,st,hS,h⟩
 | some n=>rw[hn]at h;exact Aba hS h
end
end Go.Proofs.YtdihmdelaolelaaGreatDoor.Vm
