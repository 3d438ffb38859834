import Derived.Test.YtadefjgbcapakaaGreatDoorA11
import Derived.Orders
set_option linter.all false
namespace Go.Proofs.YtadefjgbcapakaaGreatDoor.Vm
open Classical
def rv:Nat×Option Nat->ResultVar
  | (t,none)=>.tmp t
  | (a,some ty)=>.cell a ty
def iQ (tmps:Array Value):ResultVar->Sem Value
  | .tmp t=>pure (tmps.getD t undef)
  | .cell a t=>do loadVar t (<- asAddr (tmps.getD a undef))
theorem AeN {P:Program} {w:World} {α :Type} {g: α ->Sem Value}: ∀(l:List α) (f:Nat->Value),(∀(j:Nat) (x: α),l[j]? =some x->(g x).run P w= .ok (f j) w)->(l.mapM g).run P w= .ok ((List.range l.length).map f) w:=by
  intro l
  induction l with
  | nil=>intro f _;simp
  | cons x r ih =>
    intro f h
    have h1:=ih (fun j=>f (j+1)) (fun j y hy=>h (j+1) y (by simpa using hy))
    have h2:=h 0 x rfl
    rw[List.mapM_cons]
    simp only[Sem.run_bind,h2,Result.andThen_ok,h1,Sem.run_pure,List.length_cons,List.range_succ_eq_map,List.map_cons,List.map_map]
    rfl
def xO (us:Array Value):Value:=if h:us.size=1 then us[0]else .tuple us
theorem yS {P:Program} {w:World} {fn:Func} {outs:List (Nat×Option Nat)} {tmps:Array Value} (h:fn.results=(outs.map rv).toArray) (f:Nat->Value) (hf: ∀(j:Nat) (q:Nat×Option Nat),outs[j]? =some q->(iQ tmps (rv q)).run P w= .ok (f j) w) :
    (results fn tmps).run P w= .ok (xO ((List.range outs.length).map f).toArray) w:=by
  have e:results fn tmps=(do let vs <- fn.results.mapM (iQ tmps);pure (xO vs)):=by
    have e0:iQ tmps=(fun | .tmp t=>pure (tmps.getD t undef) | .cell a t=>do loadVar t (<- asAddr (tmps.getD a undef))):=by
      funext x;cases x<;>rfl
    unfold results xO
    rw[e0]
    rfl
  rw[e,h,List.mapM_toArray]
  have:=AeN (P:=P) (w:=w) (g:=iQ tmps) (outs.map rv) f (fun j x hx=>by
    rw[List.getElem?_map]at hx
    cases hq:outs[j]? with
    | none=>rw[hq]at hx;cases hx
    | some q=>rw[hq]at hx;injection hx with hx;rw[<- hx];exact hf j q hq)
  rw[List.length_map]at this
  simp only[map_eq_pure_bind,bind_assoc,pure_bind,Sem.run_bind,Sem.run_pure,this,Result.andThen_ok]
section
variable {P:Program} {C:Ctx} {V0:Nat->Value} {O0 O:Own} {w0 w:World} {m:Nat->Value} {st:St} {a:Act}
theorem AbN {Ad:List Sh} {i:Nat} {s:Sh} (h:Ad[i]? =some s) (hb:Bq s=true):(Ad.map Iq)[i]? =some (Iq s)/\Bq (Iq s)=true/\Bq (Ad.getD i (.agg []))=true/\i<Ad.length:=by
  have hi:i<Ad.length:=by
    rcases Nat.lt_or_ge i Ad.length with h' | h'
    ·exact h'
    ·rw[List.getElem?_eq_none h']at h;cases h
  refine⟨(by rw[List.getElem?_map,h];rfl),(by cases s<;>first | rfl | (cases hb;done)),?_,hi⟩
  rw[List.getD_eq_getElem?_getD,h];exact hb
theorem AcS {Ad Aq:List Sh} {outs:List (Nat×Option Nat)} {rs:List A} {vs:Array Value} {sg:Sig} {fn:Func} (hC:TOk P C) (hfn:fn.results=(outs.map rv).toArray) (hp:sg.Ad=Ad) (hr:sg.Aq=Aq) (h100:Ad.length<=100)
    (hptr: ∀ i,i<Ad.length->Bq (Ad.getD i (.agg []))=true->(innerS w0 (Ad.getD i (.agg [])) (vs.getD i undef)).oneCell'=true)
    (hS:Sim (fun o=>innerS w0 (Ad.getD (o / 256) (.agg [])) (vs.getD (o / 256) undef)) O0 w0 O m st a w) (h:finish C Ad Aq outs st=some rs) :
    ∃ v O',(results fn a.tmps).run P w= .ok v w/\Came O0 w0 vs sg rs v O' w:=by
  obtain⟨hok,hrs⟩:=Iw h
  injection hrs with hrs
  obtain⟨hokA,hokO⟩:=hok.append
  obtain⟨hokA,hokB⟩:=hokA.append
  obtain⟨hok1,hok2⟩:=hokA.append
  have hnd:=hokB.cons.1
  have hf:EZ st.Aa st.Aa:=fun _ _ h=>h
  generalize hN:Dy st.Aa 256000 256 Aq (FP C outs st)++Dy st.Aa 0 256 (Ad.map Iq) (Gu Ad 0)=N at *
  have hout: ∀ j:Nat,∃ u:Value,∀ q,outs[j]? =some q->(iQ a.tmps (rv q)).run P w= .ok u w/\Ap O st.Aa m w u (bU C st q).2:=by
    intro j
    cases hj:outs[j]? with
    | none=>exact⟨undef,fun q hq=>by cases hq⟩
    | some q =>
      have hqok:Ak (bU C st q).1:=fun b hb=>hokO b (List.mem_flatMap.2 ⟨q,List.mem_of_getElem? hj,hb⟩)
      obtain⟨t,ty⟩:=q
      cases ty with
      | none =>
        have hlt:=hqok.cons.1
        rw[Nat.blt_eq]at hlt
        exact⟨a.tmps.getD t undef,fun q hq=>by injection hq with hq;subst hq;exact⟨rfl,hS.tmps t hlt⟩⟩
      | some ty =>
        have hq2:Ak (Nat.blt t st.tmps.length::(QM C st.Aa ty (st.tmps.getD t .undef)).ok):=hqok
        obtain⟨hlt,hld⟩:=hq2.cons
        rw[Nat.blt_eq]at hlt
        obtain⟨u,hu1,hu2⟩:=(nN (o:= {(default:Oper)with op:=.load ty (.tmp t)}) hC (fun q x hq=>⟨hq,hS.Aa q x hq⟩) rfl (aZ hS (.tmp t)) hld).run
        refine⟨u,fun q hq=> ?_⟩
        injection hq with hq;subst hq
        refine⟨?_,hu2⟩
        have hev:a.eval (.tmp t)=a.tmps.getD t undef:=by simp [Act.eval]
        simp only[execOp,Instr.loadAt,hev]at hu1
        show(do loadVar ty (<- asAddr (a.tmps.getD t undef)):Sem Value).run P w=_
        generalize a.tmps.getD t undef=z at hu1 ⊢
        cases z with
        | pointer p =>
          cases p with
          | none=>simp [Instr.sureAddr]at hu1
          | some ad =>
            simp only[asAddr,Sem.run_bind,Sem.run_pure,Result.andThen_ok]
            simp only[Instr.sureAddr,pure_bind,Sem.run_bind,Sem.run_pure]at hu1
            cases hl:(loadVar ty ad).run P w with
            | ok x w2 =>
              rw[hl]at hu1
              simp only[Result.andThen_ok,Sem.run_pure,Result.ok.injEq,Next.value.injEq]at hu1
              rw[hu1.1,hu1.2]
            | halt x w2=>rw[hl]at hu1;simp [Result.andThen]at hu1
        | _=>simp [Instr.sureAddr]at hu1
  obtain⟨fv,hfv⟩:=Classical.axiomOfChoice hout
  obtain⟨g1,g2,g3,_,g5⟩:=NV hf hS.Aa 256 Aq (FP C outs st) 256000 fv (fun j hj=>by
    have hj':j<outs.length:=by simpa [FP]using hj
    have e:(FP C outs st).getD j .undef=(bU C st outs[j]).2:=by
      simp [FP,List.getD_eq_getElem?_getD,hj']
    rw[e];exact(hfv j _ (List.getElem?_eq_getElem hj')).2) hok1
  have hmaskl:(Ad.map Iq).length=Ad.length:=by simp
  obtain⟨k1,k2,k3,_,k5⟩:=NV hf hS.Aa 256 (Ad.map Iq) (Gu Ad 0) 0 (fun j=>if Bq (Ad.getD j (.agg []))then innerS w0 (Ad.getD j (.agg [])) (vs.getD j undef)else .bool true) (fun j hj=>by
    have hj':j<Ad.length:=by rw[vH]at hj;exact hj
    rw[Abm Ad 0 j hj',Nat.zero_add]
    have hroot:Ll (256*j)=true:=by
      unfold Ll
      rw[Bool.and_eq_true,Nat.blt_eq]
      refine⟨by omega,?_⟩
      rw[Nat.mul_mod_right];rfl
    have hrt: ∀ x,Ag st.Aa (256*j)=some x->m (256*j)=innerS w0 (Ad.getD j (.agg [])) (vs.getD j undef):=fun x hx=>by
      have:=hS.root (256*j) hroot (by rw[hx];rfl)
      rw[Nat.mul_div_cancel_left j (by decide)]at this
      exact this
    have hp:=hptr j hj'
    generalize Ad.getD j (.agg [])=s at hp hrt ⊢
    cases s with
    | box ks =>
      rw[if_pos (show Bq (Sh.box ks)=true from rfl)]
      refine⟨hp rfl,?_⟩
      cases hx:Ag st.Aa (256*j)with
      | none=>trivial
      | some x =>
        cases x with
        | arr _ _ _=>trivial
        | mp _=>trivial
        | box cs =>
          obtain⟨b,base,h1,_⟩:=hS.Aa _ _ hx
          exact⟨b,base,h1,by rw[<- hrt _ hx,h1];rfl⟩
    | clo f' ks =>
      rw[if_pos (show Bq (Sh.clo f' ks)=true from rfl)]
      refine⟨hp rfl,?_⟩
      cases hx:Ag st.Aa (256*j)with
      | none=>trivial
      | some x =>
        cases x with
        | arr _ _ _=>trivial
        | mp _=>trivial
        | box cs =>
          obtain⟨b,base,h1,_⟩:=hS.Aa _ _ hx
          exact⟨b,base,h1,by rw[<- hrt _ hx,h1];rfl⟩
    | map kt vt =>
      rw[if_pos (show Bq (Sh.map kt vt)=true from rfl)]
      refine⟨hp rfl,?_⟩
      cases hx:Ag st.Aa (256*j)with
      | none=>trivial
      | some x =>
        cases x with
        | box _=>trivial
        | arr _ _ _=>exact(hrt _ hx).symm
        | mp _=>exact(hrt _ hx).symm
    | cell u k=>rw[if_neg (show ¬ Bq (Sh.cell u k)=true from fun h=>by cases h)];exact Ai.bool true
    | agg ks=>rw[if_neg (show ¬ Bq (Sh.agg ks)=true from fun h=>by cases h)];exact Ai.bool true) hok2
  obtain⟨O1,hS1,hp1,_,hv1,_,hk1⟩:=hS.freezes _ (g3.append k3)
  have hρ : ∀ p∈N,look N p.1=some p.2:=vC hnd
  have halive: ∀ p∈N,(Ag st.Aa p.1).isSome:=by
    intro p hp'
    rw[<- hN]at hp'
    rcases List.mem_append.1 hp' with hp' | hp'
    ·exact NW _ _ _ hok1 p hp'
    ·exact NW _ _ _ hok2 p hp'
  generalize hU:(A8 st.Aa Aq (FP C outs st)).2.2.1++(A8 st.Aa (Ad.map Iq) (Gu Ad 0)).2.2.1=U at *
  have hFU:Frz st.Aa U:=by rw[<- hU];exact g3.append k3
  have hupdO: ∀ p∈U,Ce O1 (Aj st.Aa U) m w p.1 p.2:=by
    intro p hp
    obtain⟨x,hx1,hx2⟩:=DU U st.Aa p.1 ⟨p,hp,rfl⟩
    obtain⟨e,fz,l,k1,k2⟩:=hFU p hp
    obtain⟨e',fz',l',k3,k4⟩:=hFU _ hx1
    dsimp only at k3 k4
    rw[k1]at k3
    injection k3 with k3;injection k3 with q1 q2 q3
    subst q1;subst q3
    rw[k2,<- k4]
    exact hS1.Aa p.1 x hx2
  have hR:=g5 (ρ :=look N) hp1 (fun p hp=>hv1 p (by rw[<- hU];exact List.mem_append_left _ hp)) (fun p hp=>hupdO p (by rw[<- hU];exact List.mem_append_left _ hp)) hk1 (fun p hp=>hρ p (by rw[<- hN];exact List.mem_append_left _ hp))
  have hB:=k5 (ρ :=look N) hp1 (fun p hp=>hv1 p (by rw[<- hU];exact List.mem_append_right _ hp)) (fun p hp=>hupdO p (by rw[<- hU];exact List.mem_append_right _ hp)) hk1 (fun p hp=>hρ p (by rw[<- hN];exact List.mem_append_right _ hp))
  have hol:outs.length=Aq.length:=by rw[<- g2];simp [FP]
  refine⟨_,Ew O1 (look N),yS hfn fv (fun j q hq=>(hfv j q hq).1),hS1.frame,fun b k hb hne=>hS1.less b k hb (fun e=>hne (Lh.2 e)),fun b k hb hj=> ?_,?_,?_,?_⟩
  ·have:=hS1.Ry b k hb hj
   unfold Ew
   rw[this]
   dsimp only
   cases hl:look N 255 with
   | none=>rfl
   | some i =>
     have h1:=halive _ (X0 hl)
     obtain⟨x,hx⟩:=Option.isSome_iff_exists.1 h1
     exact absurd rfl (hS.ids 255 x hx)
  ·rw[<- hrs,hp,hr];simp [g1]
  ·refine⟨((List.range outs.length).map fv).toArray,by rw[hr];simp [hol],rfl,fun k hk=> ?_⟩
   have hk':k<outs.length:=by simpa using hk
   have hus:(((List.range outs.length).map fv).toArray).getD k undef=fv k:=by
     simp [Array.getD_eq_getD_getElem?,hk']
   rw[hus]
   have:=hR k (by rw[<- hol];exact hk')
   have e:rs.getD k .undef=(A8 st.Aa Aq (FP C outs st)).2.1.getD k .undef:=by
     rw[<- hrs,List.getD_eq_getElem?_getD,List.getElem?_append_left (by rw[g1,<- hol];exact hk'),<- List.getD_eq_getElem?_getD]
   rw[e];exact this
  ·intro j i hji
   rw[hp]at hji
   obtain⟨r,s,h1,h2,h2'⟩:=Aa4 Ad 0 j i hji
   rw[Nat.zero_add]at h1;subst h1
   obtain⟨h3,h3',h4,h5⟩:=AbN h2 h2'
   have h6:=uP _ _ hok2 i _ h3 h3'
   have e:rs.getD (sg.Aq.length+j) .undef=unbox ((A8 st.Aa (Ad.map Iq) (Gu Ad 0)).2.1.getD i .undef):=by
     rw[<- hrs,hr,List.getD_eq_getElem?_getD,List.getElem?_append_right (by rw[g1];omega),g1,Nat.add_sub_cancel_left,List.getElem?_map,hji]
     rfl
   rw[e,h6,hp]
   have:=hB i (by rw[hmaskl];exact h5)
   rw[Nat.zero_add,if_pos h4]at this
   exact this
theorem AdU {ρ :Type} {o: ρ} {fin:St->Option ρ} (hC:Gm P C) (N:Nat)
    (hdraw: ∀ {ρ :Type} {V0:Nat->Value} {O0:Own} {w0:World} {fin:St->Option ρ} {v: ρ} (id:Nat) (ops:Array Oper) {O:Own} {m:Nat->Value} {st:St} {a:Act} {w:World} (K:Ex->St->Option ρ),Sim V0 O0 w0 O m st a w->Hz C ops.toList st=true->JF C ops.toList ops.toList st (fun st'=>K .normal st')=some v ->
      (Code.region id ops true).wp P (Post V0 O0 w0 fin K v) a w)
    {f:FuncId} {fn:Func} {code:Code} {outs:List (Nat×Option Nat)} {sg:Sig} (hf:P.funcs[f]? =some fn) (hb:fn.body=some code) (hout:fn.results=(outs.map rv).toArray)
    {vs:Array Value} {xs rs:List A} (hI:Inv O w) (hv:vs.size=xs.length) (hl:xs.length=sg.Ad.length) (h100:xs.length<=100) (hx: ∀ j,j<xs.length->IR O w (256*j) (vs.getD j undef) (xs.getD j .undef))
    (h:runK C N sg.Ad fn.ntmps code fin xs=some o) (hrs: ∀ st,fin st=some o->finish C sg.Ad sg.Aq outs st=some rs) :
    Calls P f vs w fun e w'=> ∃ v O',e= .returned v/\Came O w vs sg rs v O' w':=by
  obtain⟨hok,h⟩:=Iw h
  obtain⟨hok1,hok2⟩:=hok.append
  obtain⟨hnd,hok2⟩:=hok2.cons
  have h255:=hok2.cons.1
  rw[Bool.not_eq_true']at h255
  have hS:=AcT (n:=fn.ntmps) hI hv hl hx hok1 hnd h255
  have hptr: ∀ i,i<sg.Ad.length->Bq (sg.Ad.getD i (.agg []))=true->(innerS w (sg.Ad.getD i (.agg [])) (vs.getD i undef)).oneCell'=true:=by
    intro i hi hb
    have hi':i<xs.length:=by rw[hl];exact hi
    have hbk:Ak (back (256*i) (sg.Ad.getD i (.agg [])) (xs.getD i .undef)).1:=by
      have key: ∀(ss:List Sh) (j0 i:Nat),i<ss.length->Ak (Bz 0 256 ss xs j0).1->Ak (back (0+256*(j0+i)) (ss.getD i (.agg [])) (xs.getD (j0+i) .undef)).1:=by
        intro ss
        induction ss with
        | nil=>intro j0 i h;simp at h
        | cons s ss ih =>
          intro j0 i h hok
          simp only[Bz]at hok
          obtain⟨h1,h2⟩:=hok.append
          cases i with
          | zero=>simpa using h1
          | succ i =>
            have:=ih (j0+1) i (by simpa using h) h2
            rw[show j0+1+i=j0+(i+1)from by omega]at this
            simpa using this
      have:=key sg.Ad 0 i hi hok1
      rw[Nat.zero_add,Nat.zero_add]at this;exact this
    have hir:=hx i hi'
    generalize sg.Ad.getD i (.agg [])=s at hb hbk
    cases s with
    | box ks =>
      simp only[back]at hbk
      have h2:=hbk.cons.2.cons.1
      generalize xs.getD i .undef=x at h2 hir
      cases x with
      | box cs =>
        obtain⟨b,base,h3,_⟩:=hir
        rw[h3];rfl
      | _=>cases h2
    | clo f' ks =>
      simp only[back]at hbk
      have h2:=hbk.cons.2.cons.1
      generalize xs.getD i .undef=x at h2 hir
      cases x with
      | cbx g cs =>
        obtain⟨b,base,h3,_⟩:=hir
        rw[show innerS w (.clo f' ks) (vs.getD i undef)=_ from h3.inner (ks:=ks)];rfl
      | _=>cases h2
    | map kt vt =>
      obtain⟨l,hl',_,_⟩:=UC (show A.UB kt vt _=true from hbk.cons.1)
      rw[hl']at hir
      obtain⟨r,_,_,h3,_⟩:=(show Ey O w _ _ l from hir)
      rw[h3];rfl
    | _=>cases hb
  refine calls_of_wp hf hb (wp_mono (AaC hC N hdraw code hS h) fun e a' w' hq=> ?_)
  have fin':(∃ O' m' st',Sim (fun o=>innerS w (sg.Ad.getD (o / 256) (.agg [])) (vs.getD (o / 256) undef)) O w O' m' st' a' w'/\fin st'=some o)->a'.defers=[]/\ ∃ v,(results fn a'.tmps).run P w'= .ok v w'/\ ∃ v' O',Ending.returned v= .returned v'/\Came O w vs sg rs v' O' w':=by
    rintro ⟨O',m',st',hS',hfin⟩
    obtain⟨v,O2,hres,hcame⟩:=AcS (sg:=sg) hC.T hout rfl rfl (by rw[<- hl];exact h100) hptr hS' (hrs st' hfin)
    exact⟨hS'.defers,v,hres,v,O2,rfl,hcame⟩
  cases e with
  | normal=>exact fin' hq
  | ret=>exact fin' hq
  | exit id =>
    obtain⟨O',m',st',_,h'⟩:=hq
    cases h'
  | goto l=>exact hq.elim
  | panic ch=>exact hq.elim
  | outgrown=>exact hq.elim
end
end Go.Proofs.YtadefjgbcapakaaGreatDoor.Vm
namespace Go.Proofs.YtadefjgbcapakaaGreatDoor.Vm
open Classical
section
variable {P:Program} {C:Ctx} {V0:Nat->Value} {O0 O:Own} {w0 w:World} {m:Nat->Value} {st:St} {a:Act}
theorem CE {a b:List Nat} (h:Ie a b=true): ∀ n∈a,n∉b:=by
  intro n hn hb
  have:=List.all_eq_true.1 h n hn
  rw[FH.2 hb]at this;cases this
def lastOf:List (Nat×Obj)->Nat->Option Obj
  | [],_=>none
  | (n,x)::r,k=>match lastOf r k with
    | some y=>some y
    | none=>if n=k then some x else none
theorem Zz {u:List (Nat×Obj)} {k:Nat} (h:k∉u.map (·.1)):lastOf u k=none:=by
  induction u with
  | nil=>rfl
  | cons p r ih =>
    obtain⟨n,x⟩:=p
    simp only[List.map_cons,List.mem_cons,not_or]at h
    simp only[lastOf,ih h.2]
    exact if_neg (fun e=>h.1 e.symm)
theorem Zo (u:List (Nat×Obj)): ∀(l:List (Nat×Obj)) (k:Nat),Ag (Aj l u) k=match lastOf u k with | some x=>some x | none=>Ag l k:=by
  induction u with
  | nil=>intro l k;rfl
  | cons p r ih =>
    obtain⟨n,x⟩:=p
    intro l k
    rw[Aj,ih,Bd]
    simp only[lastOf]
    cases lastOf r k with
    | some y=>rfl
    | none =>
      by_cases h:n=k
      ·simp [h]
      ·have:k≠n:=fun e=>h e.symm
       simp [h,this]
theorem Iu (st:St) (o:Oper) (δ :Dl) (k:Nat):Ag (apply st o δ).Aa k=match lastOf δ.new k with
    | some x=>some x
    | none=>if k∈ δ.del then none else match lastOf δ.upd k with
      | some x=>some x
      | none=>Ag st.Aa k:=by
  unfold apply
  dsimp only
  rw[Zo,HY,Zo]
theorem J9 {st:St} {o:Oper} {δ :Dl} {k:Nat} (h:k∉ δ.upd.map (·.1)++ δ.del++ δ.new.map (·.1)):Ag (apply st o δ).Aa k=Ag st.Aa k:=by
  simp only[List.mem_append,not_or]at h
  rw[Iu,Zz h.2,Zz h.1.1]
  exact if_neg h.1.2
def Srt:List (Nat×Obj)->Prop:=List.Pairwise (fun p q=>p.1<q.1)
theorem AbO: ∀ {l:List (Nat×Obj)},sorted l=true->Srt l:=by
  intro l
  induction l with
  | nil=>intro _;exact List.Pairwise.nil
  | cons p r ih =>
    intro h
    cases r with
    | nil=>exact List.pairwise_singleton _ _
    | cons q r =>
      obtain⟨n,x⟩:=p
      obtain⟨k,y⟩:=q
      simp only[sorted,Bool.and_eq_true,Nat.blt_eq]at h
      have hr:=ih h.2
      refine List.Pairwise.cons (fun q hq=> ?_) hr
      rcases List.mem_cons.1 hq with rfl | hq
      ·exact h.1
      ·exact Nat.lt_trans h.1 ((List.pairwise_cons.1 hr).1 q hq)
theorem Srt.Gw {l:List (Nat×Obj)} (h:Srt l) (n:Nat):Srt (Vm.Gw l n):=by
  induction l with
  | nil=>exact h
  | cons p r ih =>
    obtain⟨k,x⟩:=p
    obtain⟨h1,h2⟩:=List.pairwise_cons.1 h
    rw[WC]
    split
    ·exact ih h2
    ·exact List.Pairwise.cons (fun q hq=>h1 q (bK hq)) (ih h2)
theorem Srt.NL {l:List (Nat×Obj)} (h:Srt l) {n:Nat} (y:Obj) (hn:Ag l n=none):Srt (Vm.NL l n y):=by
  induction l with
  | nil=>exact List.pairwise_singleton _ _
  | cons p r ih =>
    obtain⟨k,x⟩:=p
    obtain⟨h1,h2⟩:=List.pairwise_cons.1 h
    rw[BO]at hn
    have hkn:k≠n:=fun e=>by rw[if_pos e]at hn;cases hn
    rw[if_neg hkn]at hn
    simp only[Vm.NL]
    cases hle:Nat.ble n k with
    | true =>
      have:=Nat.le_of_ble_eq_true hle
      refine List.Pairwise.cons (fun q hq=> ?_) h
      rcases List.mem_cons.1 hq with rfl | hq
      ·show n<k;omega
      ·have:=h1 q hq
       show n<q.1
       dsimp only at this;omega
    | false =>
      have hlt:k<n:=by
        rcases Nat.lt_or_ge k n with h | h
        ·exact h
        ·rw[Nat.ble_eq_true_of_le h]at hle;cases hle
      refine List.Pairwise.cons (fun q hq=> ?_) (ih h2 hn)
      rcases vJ hq with rfl | hq
      ·exact hlt
      ·exact h1 q hq
theorem Srt.BP {l:List (Nat×Obj)} (h:Srt l) (n:Nat) (y:Obj):Srt (Vm.BP l n y):=(h.Gw n).NL y (by rw[Nk,if_pos rfl])
theorem Srt.Aj: ∀(u:List (Nat×Obj)) {l:List (Nat×Obj)},Srt l->Srt (Vm.Aj l u):=by
  intro u
  induction u with
  | nil=>intro l h;exact h
  | cons p r ih=>intro l h;obtain⟨n,x⟩:=p;exact ih (h.BP n x)
theorem Srt.Ba: ∀(u:List Nat) {l:List (Nat×Obj)},Srt l->Srt (Vm.Ba l u):=by
  intro u
  induction u with
  | nil=>intro l h;exact h
  | cons n r ih=>intro l h;exact ih (h.Gw n)
theorem Srt.apply {st:St} (h:Srt st.Aa) (o:Oper) (δ :Dl):Srt (Vm.apply st o δ).Aa:=((h.Aj δ.upd).Ba δ.del).Aj δ.new
theorem JI {n:Nat} {x:Obj} {r:List (Nat×Obj)}:Ag ((n,x)::r) n=some x:=by rw[BO,if_pos rfl]
theorem Yv {l:List (Nat×Obj)} {k:Nat} (h: ∀ p∈l,k<p.1):Ag l k=none:=by
  cases hx:Ag l k with
  | none=>rfl
  | some x=>exact absurd (h _ (ZJ hx)) (Nat.lt_irrefl _)
theorem Srt.ext: ∀ {l l':List (Nat×Obj)},Srt l->Srt l'->(∀ k,Ag l k=Ag l' k)->l=l':=by
  intro l
  induction l with
  | nil =>
    intro l' _ _ h
    cases l' with
    | nil=>rfl
    | cons p r=>obtain⟨n,x⟩:=p;have:=h n;rw[JI]at this;cases this
  | cons p r ih =>
    intro l' h1 h2 h
    obtain⟨n,x⟩:=p
    cases l' with
    | nil=>have:=h n;rw[JI]at this;cases this
    | cons q r' =>
      obtain⟨k,y⟩:=q
      obtain⟨a1,a2⟩:=List.pairwise_cons.1 h1
      obtain⟨b1,b2'⟩:=List.pairwise_cons.1 h2
      have hnk:n=k:=by
        rcases Nat.lt_trichotomy n k with hlt | he | hgt
        ·have:=h n
         rw[JI,Yv]at this
         ·cases this
         ·intro p hp
          rcases List.mem_cons.1 hp with rfl | hp
          ·exact hlt
          ·exact Nat.lt_trans hlt (b1 p hp)
        ·exact he
        ·have:=h k
         rw[JI,Yv]at this
         ·cases this
         ·intro p hp
          rcases List.mem_cons.1 hp with rfl | hp
          ·exact hgt
          ·exact Nat.lt_trans hgt (a1 p hp)
      subst hnk
      have hx:=h n
      rw[JI,JI]at hx
      injection hx with hx;subst hx
      rw[ih a2 b2' (fun j=> ?_)]
      by_cases hj:n=j
      ·subst hj;rw[Yv a1,Yv b1]
      ·have:=h j
       rw[BO,BO,if_neg hj,if_neg hj]at this;exact this
theorem put_comm (tmps:List A) {d e:Option Tmp} (x y:A) (h: ∀ t,d=some t->e≠some t):put (put tmps d x) e y=put (put tmps e y) d x:=by
  cases d with
  | none=>rfl
  | some d =>
    cases e with
    | none=>rfl
    | some e =>
      have:d≠e:=fun he=>h d rfl (by rw[he])
      exact List.set_comm _ _ this
theorem Aaj (tmps:List A) {d:Option Tmp} (x:A) {t:Nat} (h:d≠some t):(put tmps d x).getD t .undef=tmps.getD t .undef:=by
  cases d with
  | none=>rfl
  | some d =>
    have:d≠t:=fun e=>h (by rw[e])
    simp [put,List.getD_eq_getElem?_getD,List.getElem?_set,this]
theorem Pz {o:Oper} {t:Nat}:t∈MR o↔o.dst=some t:=by
  unfold MR
  cases o.dst with
  | none=>simp
  | some d=>simp [eq_comm]
theorem uF {ops:List Oper} {o:Oper} {tmps:List A} {d:Option Tmp} {v:A} (h: ∀ t,d=some t->t∉slotsOf ops o) {x:Operand} (hx:x∈o.op.operands):BG (put tmps d v) x=BG tmps x:=by
  cases x with
  | tmp t =>
    refine Aaj tmps v fun hd=>h t hd ?_
    exact List.mem_append_left _ (List.mem_filterMap.2 ⟨.tmp t,by simpa using hx,rfl⟩)
  | _=>rfl
theorem nJ {ops:List Oper} {o:Oper} {tmps:List A} {d:Option Tmp} {v:A} (h: ∀ t,d=some t->t∉slotsOf ops o):guardOf ops (put tmps d v) o.guard=guardOf ops tmps o.guard:=by
  cases hg:o.guard with
  | none=>rfl
  | some p =>
    obtain⟨j,want⟩:=p
    unfold guardOf
    dsimp only
    cases hj:ops[j]? with
    | none=>rfl
    | some oj =>
      dsimp only
      cases hd:oj.dst with
      | none=>rfl
      | some t =>
        dsimp only
        rw[Aaj tmps v (t:=t) (fun hd'=>h t hd' (by
          unfold slotsOf
          refine List.mem_append_right _ ?_
          rw[hg];dsimp only;rw[hj];dsimp only;rw[hd];simp))]
theorem Zv {Aa objs':List (Nat×Obj)}: ∀(l:List Nat),(∀ n∈l,Ag Aa n=Ag objs' n)->fetch Aa l=fetch objs' l:=by
  intro l
  induction l with
  | nil=>intro _;rfl
  | cons n r ih =>
    intro h
    simp only[fetch]
    rw[h n List.mem_cons_self,ih (fun k hk=>h k (List.mem_cons_of_mem _ hk))]
theorem sQ {op:Op} {vs:List A} (h:Yw op vs=true):(∃ x,op= .move x)\/(∃ x,op= .assign x)\/ ∃ t x k q,op= .load t x/\vs=[.clo k q]:=by
  unfold Yw at h
  split at h
  ·exact .inl ⟨_,rfl⟩
  ·exact .inr (.inl ⟨_,rfl⟩)
  ·exact .inr (.inr ⟨_,_,_,_,rfl,rfl⟩)
  ·cases h
theorem jI {ops:List Oper} {o:Oper} {s1 s2:St} (hE: ∀ x∈o.op.operands,BG s2.tmps x=BG s1.tmps x) (hG:guardOf ops s2.tmps o.guard=guardOf ops s1.tmps o.guard)
    (hF: ∀ n∈FB o s1 (Et o s1),Ag s2.Aa n=Ag s1.Aa n) (h1: ∀ n∈(Bv C ops o s1).new.map (·.1),s1.fresh n=true) (h2: ∀ n∈(Bv C ops o s1).new.map (·.1),s2.fresh n=true) :
    Bv C ops o s2=Bv C ops o s1/\FB o s2 (Et o s2)=FB o s1 (Et o s1):=by
  have hmap:o.op.operands.toList.map (BG s2.tmps)=o.op.operands.toList.map (BG s1.tmps):=List.map_congr_left fun x hx=>hE x (by simpa using hx)
  have hvs:Et o s2=Et o s1:=by unfold Et;rw[hmap]
  have key:((∀ w,opX C o (Et o s1) (BM s2 w)=opX C o (Et o s1) (BM s1 w))/\(∀ f,(opX C o (Et o s1) f).upd=[])/\FB o s2 (Et o s1)=FB o s1 (Et o s1))\/(BM s2 (Et o s1)=BM s1 (Et o s1)/\FB o s2 (Et o s1)=FB o s1 (Et o s1)):=by
    unfold FB at hF ⊢
    cases hm:Yw o.op (Et o s1)with
    | true =>
      have hu: ∀(v:List A),(a1 (fun a=>.v a) v).upd=[]:=fun v=>by
        cases v with
        | nil=>rfl
        | cons x r=>cases r<;>rfl
      rcases sQ hm with ⟨x,e⟩ | ⟨x,e⟩ | ⟨t,x,k,q,e,ev⟩
      ·exact .inl ⟨fun w=>by unfold opX;rw[e],fun f=>by unfold opX;rw[e];exact hu _,rfl⟩
      ·exact .inl ⟨fun w=>by unfold opX;rw[e],fun f=>by unfold opX;rw[e];exact hu _,rfl⟩
      ·have hl: ∀ f,(QM C f t (.clo k q)).upd=[]:=fun f=>by
         unfold QM CX Bi
         cases C.T t<;>rfl
       exact .inl ⟨fun w=>by unfold opX;rw[e,ev];rfl,fun f=>by unfold opX;rw[e,ev];exact hl f,rfl⟩
    | false =>
      rw[hm]at hF
      have e1:fetch s2.Aa ((Et o s1).flatMap A.ids)=fetch s1.Aa ((Et o s1).flatMap A.ids):=Zv _ (fun n hn=>hF n (List.mem_append_left _ hn))
      refine .inr ⟨?_,by show(_++_:List Nat)=_;rw[e1];rfl⟩
      unfold BM
      dsimp only
      rw[e1,Zv _ (fun n hn=>hF n (List.mem_append_right _ hn))]
  have hop:opX C o (Et o s1) (BM s2 (Et o s1))=opX C o (Et o s1) (BM s1 (Et o s1)):=by
    rcases key with h | h
    ·exact h.1 _
    ·rw[h.1]
  refine⟨?_,by rw[hvs];rcases key with h | h;exact h.2.2;exact h.2⟩
  unfold Bv at h1 h2 ⊢
  rw[hG,hmap]
  have hfa':opX C o (BI o.op (o.op.operands.toList.map (BG s1.tmps))).2 (BM s2 (BI o.op (o.op.operands.toList.map (BG s1.tmps))).2)=opX C o (BI o.op (o.op.operands.toList.map (BG s1.tmps))).2 (BM s1 (BI o.op (o.op.operands.toList.map (BG s1.tmps))).2):=hop
  cases hg:guardOf ops s1.tmps o.guard with
  | none=>rfl
  | some r =>
    cases r with
    | some g =>
      dsimp only
      rcases key with h | h
      ·have hu:=h.2.1 (BM s1 (Et o s1))
       rw[hfa']
       have hu':(opX C o (BI o.op (o.op.operands.toList.map (BG s1.tmps))).2 (BM s1 (BI o.op (o.op.operands.toList.map (BG s1.tmps))).2)).upd=[]:=hu
       simp only[hu',List.map_nil]
      ·have h1':BM s2 (BI o.op (o.op.operands.toList.map (BG s1.tmps))).2=BM s1 (BI o.op (o.op.operands.toList.map (BG s1.tmps))).2:=h.1
       rw[h1']
    | none =>
      rw[hg]at h1 h2
      dsimp only at h1 h2 ⊢
      rw[hfa']
      generalize opX C o (BI o.op (o.op.operands.toList.map (BG s1.tmps))).2 (BM s1 (BI o.op (o.op.operands.toList.map (BG s1.tmps))).2)= δ at *
      have a1: δ.new.all (fun p=>s1.fresh p.1)=true:=List.all_eq_true.2 fun p hp=>h1 p.1 (List.mem_map.2 ⟨p,hp,rfl⟩)
      have a2: δ.new.all (fun p=>s2.fresh p.1)=true:=List.all_eq_true.2 fun p hp=>h2 p.1 (List.mem_map.2 ⟨p,hp,rfl⟩)
      rw[a1,a2]
end
end Go.Proofs.YtadefjgbcapakaaGreatDoor.Vm
namespace Go.Proofs.YtadefjgbcapakaaGreatDoor.Vm
open Classical
section
variable {P:Program} {C:Ctx} {V0:Nat->Value} {O0 O:Own} {w0 w:World} {m:Nat->Value} {st st':St} {a:Act}
structure Agn (C:Ctx) (ops:List Oper) (x:BL) (st:St):Prop where
  step:Bv C ops x.o st=x.δ
  rd:FB x.o st (Et x.o st)=x.rd
def WB (C:Ctx) (ops:List Oper):List BL->St->St->Prop
  | [],s,s'=>s=s'
  | x::r,s,s'=>Agn C ops x s/\WB C ops r (apply s x.o x.δ) s'
theorem Abp: ∀(u:List Nat) {l:List (Nat×Obj)} {p:Nat×Obj},p∈Ba l u->p∈l:=by
  intro u
  induction u with
  | nil=>intro l p h;exact h
  | cons n r ih=>intro l p h;exact bK (ih h)
theorem Nz {x:BL} {n:Nat} (h:st.fresh n=true) (h1:n∉x.says) (h2:n∉x.keys):(apply st x.o x.δ).fresh n=true:=by
  obtain⟨f1,f2,f3,f4⟩:=Dv h
  unfold BL.says at h1
  simp only[List.mem_append,not_or]at h1
  have g1:has (apply st x.o x.δ).ids n=false:=by
    rw[<- Bool.not_eq_true]
    intro hh
    rcases List.mem_append.1 (FH.1 hh)with hm | hm
    ·obtain⟨c,hc,hi⟩:=List.mem_flatMap.1 hm
     have hc:c∈put st.tmps x.o.dst x.δ.val:=hc
     have:c∈st.tmps\/c=x.δ.val:=by
       cases hd:x.o.dst with
       | none=>rw[hd]at hc;exact .inl hc
       | some d=>rw[hd]at hc;exact List.mem_or_eq_of_mem_set hc
     rcases this with hc | hc
     ·exact f1 (List.mem_append_left _ (List.mem_flatMap.2 ⟨c,hc,hi⟩))
     ·rw[hc]at hi;exact h1.1.1 hi
    ·obtain⟨p,hp,hi⟩:=List.mem_flatMap.1 hm
     rcases OO x.δ.new (show p∈Aj (Ba (Aj st.Aa x.δ.upd) x.δ.del) x.δ.new from hp)with hp | hp
     ·exact h1.2 (List.mem_flatMap.2 ⟨p,hp,hi⟩)
     ·rcases OO x.δ.upd (Abp _ hp)with hp | hp
      ·exact h1.1.2 (List.mem_flatMap.2 ⟨p,hp,hi⟩)
      ·exact f1 (List.mem_append_right _ (List.mem_flatMap.2 ⟨p,hp,hi⟩))
  have g2:Ag (apply st x.o x.δ).Aa n=none:=by rw[J9 h2];exact f2
  unfold St.fresh
  rw[g1,g2,f4,IG]
  simp [f3]
theorem swap {ops:List Oper} {x y:BL} {r:List BL} (hi:indep ops x y=true) (hxF: ∀ n∈x.news,st.fresh n=true) (hyF: ∀ n∈y.news,st.fresh n=true) (h1:Ie y.news x.says=true) (h2:Ie y.news x.keys=true)
    (hs:Srt st.Aa) (h:WB C ops (x::y::r) st st'):WB C ops (y::x::r) st st':=by
  unfold indep at hi
  simp only[Bool.and_eq_true]at hi
  obtain⟨⟨⟨⟨⟨⟨i1,i2⟩,i3⟩,i4⟩,i5⟩,i6⟩,i7⟩:=hi
  obtain⟨hx,hy,hr⟩:=h
  have hkx: ∀ n,n∈x.keys->n∉y.keys:=CE i6
  have hnx: ∀ n∈x.news,n∈x.keys:=fun n hn=>List.mem_append_right _ hn
  have cy:=jI (C:=C) (ops:=ops) (o:=y.o) (s1:=apply st x.o x.δ) (s2:=st)
    (fun z hz=>(uF (fun t ht=>CE i2 t (Pz.2 ht)) hz).symm) (nJ (fun t ht=>CE i2 t (Pz.2 ht))).symm
    (fun n hn=>(J9 (fun hk=>CE i4 n hk (by rw[<- hy.rd];exact hn))).symm)
    (fun n hn=>by rw[hy.step]at hn;exact Nz (hyF n hn) (CE h1 n hn) (CE h2 n hn))
    (fun n hn=>by rw[hy.step]at hn;exact hyF n hn)
  have cx:=jI (C:=C) (ops:=ops) (o:=x.o) (s1:=st) (s2:=apply st y.o y.δ)
    (fun z hz=>uF (fun t ht=>CE i3 t (Pz.2 ht)) hz) (nJ (fun t ht=>CE i3 t (Pz.2 ht)))
    (fun n hn=>J9 (fun hk=>CE i5 n hk (by rw[<- hx.rd];exact hn)))
    (fun n hn=>by rw[hx.step]at hn;exact hxF n hn)
    (fun n hn=>by rw[hx.step]at hn;exact Nz (hxF n hn) (CE i7 n hn) (hkx n (hnx n hn)))
  have hst:apply (apply st y.o y.δ) x.o x.δ =apply (apply st x.o x.δ) y.o y.δ :=by
    have e1:(apply (apply st y.o y.δ) x.o x.δ).tmps=(apply (apply st x.o x.δ) y.o y.δ).tmps:=(put_comm st.tmps x.δ.val y.δ.val (fun t ht he=>CE i1 t (Pz.2 ht) (Pz.2 he))).symm
    have e2:(apply (apply st y.o y.δ) x.o x.δ).Aa=(apply (apply st x.o x.δ) y.o y.δ).Aa:=by
      refine Srt.ext ((hs.apply _ _).apply _ _) ((hs.apply _ _).apply _ _) fun k=> ?_
      by_cases hk:k∈x.keys
      ·have hky:=hkx k hk
       rw[J9 (o:=y.o) (δ :=y.δ) hky,Iu (apply st y.o y.δ),J9 (o:=y.o) (δ :=y.δ) hky,<- Iu st]
      ·rw[J9 (o:=x.o) (δ :=x.δ) hk,Iu (apply st x.o x.δ),J9 (o:=x.o) (δ :=x.δ) hk,<- Iu st]
    generalize apply (apply st y.o y.δ) x.o x.δ =s at *
    generalize apply (apply st x.o x.δ) y.o y.δ =s' at *
    cases s;cases s'
    dsimp only at e1 e2
    rw[e1,e2]
  refine⟨⟨by rw[cy.1,hy.step],by rw[cy.2,hy.rd]⟩,⟨by rw[cx.1,hx.step],by rw[cx.2,hx.rd]⟩,?_⟩
  rw[hst];exact hr
structure Pre (R:List BL) (st:St):Prop where
  srt:Srt st.Aa
  fresh: ∀ z∈R,∀ n∈z.news,st.fresh n=true
  pairs:R.Pairwise (fun y z=>Ie z.news y.says=true/\Ie z.news y.keys=true)
theorem Pre.step {y:BL} {R:List BL} (h:Pre (y::R) st):Pre R (apply st y.o y.δ):=by
  obtain⟨h1,h2⟩:=List.pairwise_cons.1 h.pairs
  exact⟨h.srt.apply _ _,fun z hz n hn=>Nz (h.fresh z (List.mem_cons_of_mem _ hz) n hn) (CE (h1 z hz).1 n hn) (CE (h1 z hz).2 n hn),h2⟩
theorem front {ops:List Oper} {x:BL} {L2:List BL}: ∀(L1:List BL) {st:St},Pre (L1++x::L2) st->(∀ y∈L1,indep ops y x=true)->WB C ops (L1++x::L2) st st'->WB C ops (x::(L1++L2)) st st':=by
  intro L1
  induction L1 with
  | nil=>intro st _ _ h;exact h
  | cons y L1 ih =>
    intro st hP hi h
    have h1:=ih (st:=apply st y.o y.δ) (hP.step) (fun z hz=>hi z (List.mem_cons_of_mem _ hz)) h.2
    have hx:x∈L1++x::L2:=List.mem_append_right _ List.mem_cons_self
    obtain⟨p1,_⟩:=List.pairwise_cons.1 hP.pairs
    exact swap (hi y List.mem_cons_self) (hP.fresh y List.mem_cons_self) (hP.fresh x (List.mem_cons_of_mem _ hx)) (p1 x hx).1 (p1 x hx).2 hP.srt ⟨h.1,h1⟩
theorem Ac7 {md:Region.Mode} {e:Edge} (h:Region.binds .any e=true):Region.binds md e=true:=by
  unfold Region.binds at h ⊢
  cases hg:e.ground with
  | textOnly r=>rw[hg]at h;cases h
  | gcOnly r=>rw[hg]at h;cases h
  | _=>rfl
theorem MX {ops:List Oper} {i:Nat} {x y:BL} (h:Qh ops i x y=true):Ie y.news x.says=true/\Ie y.news x.keys=true/\(i∈y.anc\/indep ops x y=true):=by
  unfold Qh at h
  simp only[Bool.and_eq_true,Bool.or_eq_true]at h
  exact⟨h.1.1,h.1.2,h.2.imp FH.1 id⟩
theorem uN {l:Array Bool} {i:Nat} (h:i<l.size) (b c:Bool):l.getD i b=l.getD i c:=by
  simp [Array.getD_eq_getD_getElem?,h]
theorem AaN {α :Type} (f: α ->Nat): ∀(l:List α),l≠ []-> ∃ x∈l,∀ y∈l,f x<=f y:=by
  intro l
  induction l with
  | nil=>intro h;exact absurd rfl h
  | cons a r ih =>
    intro _
    by_cases hr:r=[]
    ·exact⟨a,List.mem_cons_self,fun y hy=>by rw[hr]at hy;simp at hy;rw[hy];exact Nat.le_refl _⟩
    ·obtain⟨x,hx,hm⟩:=ih hr
     by_cases h:f a<=f x
     ·exact⟨a,List.mem_cons_self,fun y hy=>by
        rcases List.mem_cons.1 hy with rfl | hy
        ·exact Nat.le_refl _
        ·exact Nat.le_trans h (hm y hy)⟩
     ·exact⟨x,List.mem_cons_of_mem _ hx,fun y hy=>by
        rcases List.mem_cons.1 hy with rfl | hy
        ·omega
        ·exact hm y hy⟩
theorem Ae4 {ρ :Type} (hC:Gm P C) {ops:Array Oper} {md:Region.Mode} {Q:Exit->Act->World->Prop} {v: ρ} {K:St->Option ρ} (hQ: ∀ O' m' st' a' w',Sim V0 O0 w0 O' m' st' a' w'->K st'=some v->Q .normal a' w')
    {ANC:List (List Nat)} (hanc: ∀(j:Nat) (o:Oper),ops[j]? =some o-> ∀ i∈ANC.getD j [],∃ e∈Ky o,i=e\/i∈ANC.getD e []) {rk:Nat->Nat} (hback: ∀(j:Nat) (o:Oper),ops[j]? =some o-> ∀ e∈o.after,Region.binds md e=true->e.on<ops.size/\rk e.on<rk j) :
    ∀(fuel:Nat) (R:List (Nat×BL)) (listed:Array Bool) {O:Own} {m:Nat->Value} {st:St} {a:Act} {w:World},R.length=fuel->R.Pairwise (fun p q=>p.1<q.1) ->
     (∀ p∈R,ops[p.1]? =some p.2.o/\Ak p.2.δ.ok/\p.2.anc=ANC.getD p.1 [])->listed.size=ops.size->(∀ i,i<ops.size->(listed.getD i true=false↔i∈R.map (·.1))) ->
     (∀ e,listed.getD e false=true-> ∀ i∈ANC.getD e [],listed.getD i false=true)->R.Pairwise (fun p q=>Qh ops.toList p.1 p.2 q.2=true)->(∀ p∈R,∀ n∈p.2.news,st.fresh n=true)->Srt st.Aa ->
     WB C ops.toList (R.map (·.2)) st st'->K st'=some v->Sim V0 O0 w0 O m st a w->wpAny P md ops Q fuel listed a w:=by
  intro fuel
  induction fuel with
  | zero =>
    intro R listed O m st a w hlen _ _ hsz hl _ _ _ _ hruns hK hS
    have hR:R=[]:=List.length_eq_zero_iff.1 hlen
    subst hR
    refine⟨?_,?_⟩
    ·rw[List.eq_nil_iff_forall_not_mem]
     intro i hi
     obtain⟨h1,o,h2,_⟩:=mem_ready.1 hi
     have hlt:=(Array.getElem?_eq_some_iff.1 h2).1
     have:=(hl i hlt).1 h1
     simp at this
    ·have:st=st':=hruns
     subst this
     exact hQ _ _ _ _ _ hS hK
  | succ fuel ih =>
    intro R listed O m st a w hlen hord hops hsz hl hcl hpr hfr hsrt hruns hK hS
    have hin: ∀ p∈R,p.1<ops.size:=fun p hp=>(Array.getElem?_eq_some_iff.1 (hops p hp).1).1
    refine⟨fun hnil=> ?_,fun i hi=> ?_⟩
    ·exfalso
     obtain⟨p,hpR,hmin⟩:=AaN (fun q:Nat×BL=>rk q.1) R (by intro h;rw[h]at hlen;simp at hlen)
     have hp:=hin p hpR
     have:p.1∈Region.ready md ops listed:=by
       refine mem_ready.2 ⟨(hl p.1 hp).2 (List.mem_map.2 ⟨p,hpR,rfl⟩),p.2.o,(hops p hpR).1,fun e he hb=> ?_⟩
       obtain⟨hsize,hlt⟩:=hback _ _ (hops p hpR).1 e he hb
       have hno:e.on∉R.map (·.1):=by
         intro hm
         obtain⟨q,hq,hqe⟩:=List.mem_map.1 hm
         have:=hmin q hq
         rw[hqe]at this
         omega
       have:listed.getD e.on true≠false:=fun h=>hno ((hl e.on hsize).1 h)
       rw[uN (by rw[hsz];exact hsize) false true]
       simpa using this
     rw[hnil]at this;cases this
    ·obtain⟨hi1,oi,hi2,hi3⟩:=mem_ready.1 hi
     have hilt:=(Array.getElem?_eq_some_iff.1 hi2).1
     obtain⟨p,hp,rfl⟩:=List.mem_map.1 ((hl i hilt).1 hi1)
     obtain⟨L1,L2,rfl⟩:=List.append_of_mem hp
     obtain⟨i,x⟩:=p
     dsimp only at hi hi1 hi2 hi3 hilt ⊢
     obtain⟨hx1,hx2,hx3⟩:=hops (i,x) hp
     dsimp only at hx1 hx2 hx3
     have hancl: ∀ j∈ANC.getD i [],listed.getD j false=true:=by
       intro j hj
       obtain⟨e,he,hje⟩:=hanc i _ hx1 j hj
       have hel:listed.getD e false=true:=by
         unfold Ky at he
         obtain⟨ed,hed,hb⟩:=List.mem_filterMap.1 he
         rw[hi2]at hx1;injection hx1 with hx1;subst hx1
         cases hbb:Region.binds .any ed with
         | false=>rw[hbb]at hb;cases hb
         | true =>
           rw[hbb]at hb
           injection hb with hb
           rw[<- hb];exact hi3 ed (by simpa using hed) (Ac7 hbb)
       rcases hje with rfl | hje
       ·exact hel
       ·exact hcl e hel j hje
     have hord':=List.pairwise_append.1 hord
     have hpr':=List.pairwise_append.1 hpr
     have hind: ∀ q∈L1,Qh ops.toList q.1 q.2 x=true/\indep ops.toList q.2 x=true:=by
       intro q hq
       have hpq:=hpr'.2.2 q hq (i,x) List.mem_cons_self
       dsimp only at hpq
       refine⟨hpq,(MX hpq).2.2.resolve_left fun hm=> ?_⟩
       rw[hx3]at hm
       have h1:=hancl _ hm
       have hqR:q∈L1++(i,x)::L2:=List.mem_append_left _ hq
       have hqlt:=hin q hqR
       have h2:=(hl q.1 hqlt).2 (List.mem_map.2 ⟨q,hqR,rfl⟩)
       rw[uN (by rw[hsz];exact hqlt) true false,h1]at h2
       cases h2
     have hPre:Pre ((L1++(i,x)::L2).map (·.2)) st:=by
       refine⟨hsrt,fun z hz n hn=> ?_,?_⟩
       ·obtain⟨q,hq,rfl⟩:=List.mem_map.1 hz
        exact hfr q hq n hn
       ·rw[List.pairwise_map]
        exact hpr.imp fun h=>⟨(MX h).1,(MX h).2.1⟩
     have hfront:WB C ops.toList (x::(L1.map (·.2)++L2.map (·.2))) st st':=by
       refine front (L1.map (·.2)) (by simpa using hPre) (fun y hy=> ?_) (by simpa using hruns)
       obtain⟨q,hq,rfl⟩:=List.mem_map.1 hy
       exact(hind q hq).2
     obtain⟨hstep,hrest⟩:=hfront
     have hsub:List.Sublist (L1++L2) (L1++(i,x)::L2):=List.Sublist.append_left (List.sublist_cons_self _ _) _
     have hnext: ∀ O' m' a' w',Sim V0 O0 w0 O' m' (apply st x.o (Bv C ops.toList x.o st)) a' w'->wpAny P md ops Q fuel (listed.setIfInBounds i true) a' w':=by
       intro O' m' a' w' hS'
       rw[hstep.step]at hS'
       refine ih (L1++L2) _ (by simp at hlen ⊢;omega) (hord.sublist hsub) (fun q hq=>hops q (hsub.subset hq)) (by simpa using hsz) (fun j hj=> ?_) (fun e he j hj=> ?_) (hpr.sublist hsub) (fun q hq n hn=> ?_) (hsrt.apply _ _) (by simpa using hrest) hK hS'
       ·by_cases hji:i=j
        ·subst hji
         have h1:(listed.setIfInBounds i true).getD i true=true:=by simp [Array.getD_eq_getD_getElem?,hsz,hj]
         rw[h1]
         refine⟨fun h=>(by cases h),fun h=> ?_⟩
         obtain⟨q,hq,hqi⟩:=List.mem_map.1 h
         rcases List.mem_append.1 hq with hq | hq
         ·have:=hord'.2.2 q hq (i,x) List.mem_cons_self
          dsimp only at this;omega
         ·have:=(List.pairwise_cons.1 hord'.2.1).1 q hq
          dsimp only at this;omega
        ·rw[getD_set_ne true hji,hl j hj]
         simp only[List.map_append,List.map_cons,List.mem_append,List.mem_cons]
         constructor
         ·rintro (h | h | h)
          ·exact .inl h
          ·exact absurd h.symm hji
          ·exact .inr h
         ·rintro (h | h)
          ·exact .inl h
          ·exact .inr (.inr h)
       ·by_cases hei:i=e
        ·subst hei;exact getD_set_true (hancl j hj)
        ·rw[getD_set_ne false hei]at he
         exact getD_set_true (hcl e he j hj)
       ·have hq':=hsub.subset hq
        have hf:=hfr q hq' n hn
        rcases List.mem_append.1 hq with hq | hq
        ·have hi':=(hind q hq).2
         unfold indep at hi'
         simp only[Bool.and_eq_true]at hi'
         exact Nz hf (CE hi'.2 n hn) (CE hi'.1.2 n (List.mem_append_right _ hn))
        ·have hpq:=MX ((List.pairwise_cons.1 hpr'.2.1).1 q hq)
         exact Nz hf (CE hpq.1 n hn) (CE hpq.2.1 n hn)
     have hw:=jJ hC hS (ops:=ops) (o:=x.o) (by rw[hstep.step];exact hx2) (wpAny P md ops Q fuel (listed.setIfInBounds i true)) Q hnext
     unfold wpOp
     rw[hx1]
     dsimp only
     split
     ·rename_i hwt;rw[if_pos hwt]at hw;exact .inl hw
     ·rename_i hwt;rw[if_neg hwt]at hw;exact hw
end
end Go.Proofs.YtadefjgbcapakaaGreatDoor.Vm
namespace Go.Proofs.YtadefjgbcapakaaGreatDoor.Vm
open Classical
section
variable {P:Program} {C:Ctx} {V0:Nat->Value} {O0 O:Own} {w0 w:World} {m:Nat->Value} {st st':St} {a:Act}
def enum:Nat->List BL->List (Nat×BL)
  | _,[]=>[]
  | i,x::r=>(i,x)::enum (i+1) r
theorem yB: ∀(l:List BL) (i:Nat),(enum i l).length=l.length:=by
  intro l
  induction l with
  | nil=>intro i;rfl
  | cons x r ih=>intro i;simp [enum,ih]
theorem Ae9: ∀(l:List BL) (i:Nat),(enum i l).map (·.2)=l:=by
  intro l
  induction l with
  | nil=>intro i;rfl
  | cons x r ih=>intro i;simp [enum,ih]
theorem Ut: ∀(l:List BL) (i:Nat) (p:Nat×BL),p∈enum i l-> ∃ k,p.1=i+k/\l[k]? =some p.2:=by
  intro l
  induction l with
  | nil=>intro i p h;cases h
  | cons x r ih =>
    intro i p h
    rcases List.mem_cons.1 h with rfl | h
    ·exact⟨0,rfl,rfl⟩
    ·obtain⟨k,h1,h2⟩:=ih (i+1) p h
     exact⟨k+1,by omega,by simpa using h2⟩
theorem Ae7: ∀(l:List BL) (i j:Nat),j∈(enum i l).map (·.1)↔i<=j/\j<i+l.length:=by
  intro l
  induction l with
  | nil=>intro i j;simp [enum]
  | cons x r ih=>intro i j;simp only[enum,List.map_cons,List.mem_cons,ih,List.length_cons];omega
theorem Ae8: ∀(l:List BL) (i:Nat),(enum i l).Pairwise (fun p q=>p.1<q.1):=by
  intro l
  induction l with
  | nil=>intro i;exact List.Pairwise.nil
  | cons x r ih =>
    intro i
    refine List.Pairwise.cons (fun q hq=> ?_) (ih (i+1))
    obtain⟨k,h1,_⟩:=Ut _ _ _ hq
    show i<q.1
    omega
theorem AaK {ops:List Oper}: ∀(l:List BL) (i:Nat),P6 ops i l=true->(enum i l).Pairwise (fun p q=>Qh ops p.1 p.2 q.2=true):=by
  intro l
  induction l with
  | nil=>intro i _;exact List.Pairwise.nil
  | cons x r ih =>
    intro i h
    simp only[P6,Bool.and_eq_true]at h
    refine List.Pairwise.cons (fun q hq=> ?_) (ih (i+1) h.2)
    obtain⟨k,_,h2⟩:=Ut _ _ _ hq
    exact List.all_eq_true.1 h.1 _ (List.mem_of_getElem? h2)
theorem AcR {o:Oper} {e:Nat} (h:e∈Ky o): ∃ ed∈o.after,ed.on=e/\Region.binds .any ed=true:=by
  unfold Ky at h
  obtain⟨ed,hed,hb⟩:=List.mem_filterMap.1 h
  cases hbb:Region.binds .any ed with
  | false=>rw[hbb]at hb;cases hb
  | true=>rw[hbb]at hb;injection hb with hb;exact⟨ed,by simpa using hed,hb,hbb⟩
theorem oI: ∀(l:List Oper) (i:Nat),backward i l=true-> ∀(k:Nat) (o:Oper),l[k]? =some o-> ∀ e∈o.after,e.on<i+k:=by
  intro l
  induction l with
  | nil=>intro i _ k o h;simp at h
  | cons x r ih =>
    intro i h k o hk e he
    simp only[backward,Bool.and_eq_true]at h
    cases k with
    | zero =>
      simp at hk;subst hk
      have:=List.all_eq_true.1 h.1 e (by simpa using he)
      rw[Nat.blt_eq]at this;exact this
    | succ k =>
      have:=ih (i+1) h.2 k o (by simpa using hk) e he
      omega
theorem kC: ∀(l:List Oper) (i:Nat),Iy i l=true-> ∀(k:Nat) (o:Oper),l[k]? =some o-> ∀ e∈o.after,Region.binds .any e=true->e.on<i+k:=by
  intro l
  induction l with
  | nil=>intro i _ k o h;simp at h
  | cons x r ih =>
    intro i h k o hk e he hb
    simp only[Iy,Bool.and_eq_true]at h
    cases k with
    | zero =>
      simp at hk;subst hk
      have:=List.all_eq_true.1 h.1 e (by simpa using he)
      rw[hb]at this
      have:Nat.blt e.on i=true:=by simpa using this
      rw[Nat.blt_eq]at this;exact this
    | succ k =>
      have:=ih (i+1) h.2 k o (by simpa using hk) e he hb
      omega
theorem pF {md:Region.Mode} {n:Nat} {rk:List Nat}: ∀(l:List Oper) (i:Nat),UQ md n rk i l=true-> ∀(k:Nat) (o:Oper),l[k]? =some o-> ∀ e∈o.after,Region.binds md e=true->e.on<n/\rk.getD e.on 0<rk.getD (i+k) 0:=by
  intro l
  induction l with
  | nil=>intro i _ k o h;simp at h
  | cons x r ih =>
    intro i h k o hk e he hb
    simp only[UQ,Bool.and_eq_true]at h
    cases k with
    | zero =>
      simp at hk;subst hk
      have:=List.all_eq_true.1 h.1 e (by simpa using he)
      rw[hb]at this
      have:(Nat.blt e.on n&&Nat.blt (rk.getD e.on 0) (rk.getD i 0))=true:=by simpa using this
      rw[Bool.and_eq_true,Nat.blt_eq,Nat.blt_eq]at this
      exact this
    | succ k =>
      have:=ih (i+1) h.2 k o (by simpa using hk) e he hb
      rw[show i+(k+1)=i+1+k from by omega];exact this
theorem vT {ops:Array Oper} (h:ordered ops.toList=true) (md:Region.Mode): ∃ rk:Nat->Nat,∀(j:Nat) (o:Oper),ops[j]? =some o-> ∀ e∈o.after,Region.binds md e=true->e.on<ops.size/\rk e.on<rk j:=by
  unfold ordered at h
  rw[Bool.and_eq_true,Bool.or_eq_true]at h
  rcases h.2 with h | h
  ·refine⟨id,fun j o hj e he _=> ?_⟩
   have h1:=oI _ _ h j o (by simpa using hj) e he
   have h2:=(Array.getElem?_eq_some_iff.1 hj).1
   exact⟨by omega,by show e.on<j;omega⟩
  ·simp only[Bool.and_eq_true]at h
   have key:iO md ops.toList=true:=by cases md<;>first | exact h.1.1 | exact h.1.2 | exact h.2
   refine⟨fun i=>(ranks md ops.toList ops.toList.length (ops.toList.map fun _=>0)).getD i 0,fun j o hj e he hb=> ?_⟩
   have:=pF _ _ key j o (by simpa using hj) e he hb
   rw[Nat.zero_add]at this
   exact⟨by simpa using this.1,this.2⟩
theorem kY {α β :Type} {f g: α ->List β}: ∀(l:List α),(∀ x∈l,f x=g x)->l.flatMap f=l.flatMap g:=by
  intro l
  induction l with
  | nil=>intro _;rfl
  | cons x r ih=>intro h;simp only[List.flatMap_cons];rw[h x List.mem_cons_self,ih (fun y hy=>h y (List.mem_cons_of_mem _ hy))]
theorem AaR {ops:List Oper}: ∀(l:List Oper) (acc:List (List Nat)) (st:St),Iy acc.length l=true->(Ip C ops l acc st).length=l.length /\
    ∀(k:Nat) (o:Oper),l[k]? =some o-> ∃ x,(Ip C ops l acc st)[k]? =some x/\x.o=o/\x.anc=(Ky o).flatMap (fun e=>e::(acc++(Ip C ops l acc st).map BL.anc).getD e []):=by
  intro l
  induction l with
  | nil=>intro acc st _;exact⟨rfl,fun k o h=>by simp at h⟩
  | cons o' r ih =>
    intro acc st h
    have hb:=kC _ _ h
    simp only[Iy,Bool.and_eq_true]at h
    let an:=(Ky o').flatMap (fun e=>e::acc.getD e [])
    let s1:=apply st o' (Bv C ops o' st)
    have hf:Ip C ops (o'::r) acc st=⟨o',Bv C ops o' st,FB o' st (Et o' st),an⟩::Ip C ops r (acc++[an]) s1:=rfl
    obtain⟨g1,g2⟩:=ih (acc++[an]) s1 (by simpa using h.2)
    rw[hf]
    refine⟨by simp [g1],fun k o hk=> ?_⟩
    cases k with
    | zero =>
      simp at hk;subst hk
      refine⟨_,rfl,rfl,?_⟩
      refine kY _ fun e he=> ?_
      obtain⟨ed,h1,h2,h3⟩:=AcR he
      have hlt:=hb 0 o' rfl ed h1 h3
      rw[List.getD_eq_getElem?_getD,List.getD_eq_getElem?_getD,List.getElem?_append_left (by omega)]
    | succ k =>
      obtain⟨x,h1,h2,h3⟩:=g2 k o (by simpa using hk)
      refine⟨x,by simpa using h1,h2,?_⟩
      rw[h3]
      simp [List.append_assoc]
theorem AaQ {ρ :Type} {ops:List Oper} {K:St->Option ρ} {v: ρ}: ∀(l:List Oper) (acc:List (List Nat)) (st:St),JF C ops l st K=some v-> ∃ st',WB C ops (Ip C ops l acc st) st st'/\K st'=some v/\ ∀ x∈Ip C ops l acc st,Ak x.δ.ok:=by
  intro l
  induction l with
  | nil=>intro acc st h;exact⟨st,rfl,h,fun x hx=>by cases hx⟩
  | cons o r ih =>
    intro acc st h
    obtain⟨h1,h2⟩:=Iw (show allT (Bv C ops o st).ok (JF C ops r (apply st o (Bv C ops o st)) K)=some v from h)
    obtain⟨st',h3,h4,h5⟩:=ih (acc++[(Ky o).flatMap (fun e=>e::acc.getD e [])]) _ h2
    refine⟨st',⟨⟨rfl,rfl⟩,h3⟩,h4,fun x hx=> ?_⟩
    rcases List.mem_cons.1 hx with rfl | hx
    ·exact h1
    ·exact h5 x hx
theorem Sim.drew (hS:Sim V0 O0 w0 O m st a w):Sim V0 O0 w0 O m st a {w with drawn:=w.drawn+1} :=
  hS.next (st':=st) (d:=none) (v:=undef) (x:=.undef) (T:=fun _=>False) (Nw:=fun _=>False) ⟨rfl,rfl,rfl,Nat.le_refl _,fun _ _=>.inl rfl⟩ ⟨fun _ _ _ h=>h,fun _ _ _ _ h _=>h⟩ (fun _ _ _ h=>h) (fun _ y ho=>.inr ⟨y,ho,rfl,rfl⟩) (fun _ h=>h.elim) (fun _ h=>h.elim)
    (fun _ _ ho=>.inl ⟨id,ho,rfl⟩) rfl (fun h=>absurd rfl h)
theorem AaI {ρ :Type} (hC:Gm P C) {fin:St->Option ρ} {v: ρ} (id:Nat) (ops:Array Oper) {O:Own} {m:Nat->Value} {st:St} {a:Act} {w:World} (K:Ex->St->Option ρ) (hS:Sim V0 O0 w0 O m st a w) (hd:Hz C ops.toList st=true)
    (hx:JF C ops.toList ops.toList st (fun st'=>K .normal st')=some v):(Code.region id ops true).wp P (Post V0 O0 w0 fin K v) a w:=by
  unfold Hz at hd
  dsimp only at hd
  simp only[Bool.and_eq_true]at hd
  obtain⟨⟨⟨d1,d2⟩,d3⟩,d4⟩:=hd
  have d1A:Iy 0 ops.toList=true:=by
    have:=d1
    unfold ordered at this
    rw[Bool.and_eq_true]at this
    exact this.1
  obtain⟨f1,f2⟩:=AaR (C:=C) (ops:=ops.toList) ops.toList [] st d1A
  obtain⟨st',r1,r2,r3⟩:=AaQ ops.toList [] st hx
  generalize hfs:Ip C ops.toList ops.toList [] st=fs at *
  have hlen:fs.length=ops.size:=by rw[f1];simp
  have hsize:(enum 0 fs).length=ops.size:=by rw[yB,hlen]
  have hany: ∀ md,wpAny P md ops (Post V0 O0 w0 fin K v) ops.size (Array.replicate ops.size false) a {w with drawn:=w.drawn+1}:=by
    intro md
    obtain⟨rk,hrk⟩:=vT d1 md
    refine Ae4 (V0:=V0) (O0:=O0) (w0:=w0) hC (K:=fun st'=>K .normal st') (v:=v) (st':=st') (fun O' m' s a' w' h1 h2=>⟨O',m',s,h1,h2⟩) (ANC:=fs.map BL.anc) (rk:=rk) (fun j o hj i hi=> ?_) hrk
      ops.size (enum 0 fs) _ hsize (Ae8 _ _) (fun p hp=> ?_) (by simp) (fun i hi=> ?_) (fun e he i _=> ?_) (AaK _ _ d2) (fun p hp n hn=> ?_) (AbO d4) (by rw[Ae9];exact r1) r2 hS.drew
    ·obtain⟨x,h1,h2,h3⟩:=f2 j o (by simpa using hj)
     have e1:(fs.map BL.anc).getD j []=x.anc:=by
       rw[List.getD_eq_getElem?_getD,List.getElem?_map,h1];rfl
     rw[e1,h3]at hi
     obtain⟨e,he,hie⟩:=List.mem_flatMap.1 hi
     rcases List.mem_cons.1 hie with h | h
     ·exact⟨e,he,.inl h⟩
     ·exact⟨e,he,.inr (by simpa using h)⟩
    ·obtain⟨k,h1,h2⟩:=Ut _ _ _ hp
     rw[Nat.zero_add]at h1
     have hk:k<ops.toList.length:=by
       rw[<- f1]
       rcases Nat.lt_or_ge k fs.length with h | h
       ·exact h
       ·rw[List.getElem?_eq_none h]at h2;cases h2
     obtain⟨x,h3,h4,h5⟩:=f2 k ops.toList[k] (by simp at hk ⊢)
     rw[h2]at h3
     injection h3 with h3
     refine⟨?_,r3 _ (List.mem_of_getElem? h2),?_⟩
     ·rw[h1,h3,h4];simp at hk ⊢
     ·rw[h1,List.getD_eq_getElem?_getD,List.getElem?_map,h2];rfl
    ·rw[Ae7]
     simp [Array.getD_eq_getD_getElem?,hi,hlen]
    ·have:(Array.replicate ops.size false).getD e false=false:=by
       rw[Array.getD_eq_getD_getElem?,Array.getElem?_replicate]
       split<;>rfl
     rw[this]at he;cases he
    ·obtain⟨k,_,h2⟩:=Ut _ _ _ hp
     exact List.all_eq_true.1 d3 n (List.mem_flatMap.2 ⟨_,List.mem_of_getElem? h2,hn⟩)
  refine wp_region_draw fun t=> ?_
  unfold Region.schedule
  split
  ·exact wpAny_sound _ _ _ _ _ (hany _)
  ·exact wpAny_sound _ _ _ _ _ (hany _)
end
