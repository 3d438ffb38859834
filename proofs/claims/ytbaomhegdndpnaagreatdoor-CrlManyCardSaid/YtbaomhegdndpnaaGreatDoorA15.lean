import Derived.Test.YtbaomhegdndpnaaGreatDoorA14
import Derived.Orders
set_option linter.all false
namespace Go.Proofs.YtbaomhegdndpnaaGreatDoor.Vm
open Classical
def rv:Nat×Option Nat->ResultVar
  | (t,none)=>.tmp t
  | (a,some ty)=>.cell a ty
def jT (tmps:Array Value):ResultVar->Sem Value
  | .tmp t=>pure (tmps.getD t undef)
  | .cell a t=>do loadVar t (<- asAddr (tmps.getD a undef))
theorem Aee {P:Program} {w:World} {α :Type} {g: α ->Sem Value}: ∀(l:List α) (f:Nat->Value),(∀(j:Nat) (x: α),l[j]? =some x->(g x).run P w= .ok (f j) w)->(l.mapM g).run P w= .ok ((List.range l.length).map f) w:=by
  intro l
  induction l with
  | nil=>intro f _;simp
  | cons x r ih =>
    intro f h
    have h1:=ih (fun j=>f (j+1)) (fun j y hy=>h (j+1) y (by simpa using hy))
    have h2:=h 0 x rfl
    rw[List.mapM_cons]
    simp only[Sem.run_bind,h2,Result.andThen_ok,h1,Sem.run_pure,List.length_cons,List.range_succ_eq_map,List.map_cons,List.map_map]
    rfl
def yM (us:Array Value):Value:=if h:us.size=1 then us[0]else .tuple us
theorem Aag {P:Program} {w:World} {fn:Func} {outs:List (Nat×Option Nat)} {tmps:Array Value} (h:fn.results=(outs.map rv).toArray) (f:Nat->Value) (hf: ∀(j:Nat) (q:Nat×Option Nat),outs[j]? =some q->(jT tmps (rv q)).run P w= .ok (f j) w) :
    (results fn tmps).run P w= .ok (yM ((List.range outs.length).map f).toArray) w:=by
  have e:results fn tmps=(do let vs <- fn.results.mapM (jT tmps);pure (yM vs)):=by
    have e0:jT tmps=(fun | .tmp t=>pure (tmps.getD t undef) | .cell a t=>do loadVar t (<- asAddr (tmps.getD a undef))):=by
      funext x;cases x<;>rfl
    unfold results yM
    rw[e0]
    rfl
  rw[e,h,List.mapM_toArray]
  have:=Aee (P:=P) (w:=w) (g:=jT tmps) (outs.map rv) f (fun j x hx=>by
    rw[List.getElem?_map]at hx
    cases hq:outs[j]? with
    | none=>rw[hq]at hx;cases hx
    | some q=>rw[hq]at hx;injection hx with hx;rw[<- hx];exact hf j q hq)
  rw[List.length_map]at this
  simp only[map_eq_pure_bind,bind_assoc,pure_bind,Sem.run_bind,Sem.run_pure,this,Result.andThen_ok]
section
variable {P:Program} {C:Ctx} {V0:Nat->Value} {O0 O:Own} {w0 w:World} {m:Nat->Value} {st:St} {a:Act}
theorem AbS {pars:List Sh} {i:Nat} {s:Sh} (h:pars[i]? =some s) (hb:Be s=true):(pars.map En)[i]? =some (En s)/\Be (En s)=true/\Be (pars.getD i (.agg []))=true/\i<pars.length:=by
  have hi:i<pars.length:=by
    rcases Nat.lt_or_ge i pars.length with h' | h'
    ·exact h'
    ·rw[List.getElem?_eq_none h']at h;cases h
  refine⟨(by rw[List.getElem?_map,h];rfl),(by cases s<;>first | rfl | (cases hb;done)),?_,hi⟩
  rw[List.getD_eq_getElem?_getD,h];exact hb
theorem Ac7 {pars ress:List Sh} {outs:List (Nat×Option Nat)} {rs:List A} {vs:Array Value} {sg:Sig} {fn:Func} (hC:TOk P C) (hfn:fn.results=(outs.map rv).toArray) (hp:sg.pars=pars) (hr:sg.ress=ress) (h100:pars.length<=100)
    (hptr: ∀ i,i<pars.length->Be (pars.getD i (.agg []))=true->(innerS w0 (pars.getD i (.agg [])) (vs.getD i undef)).oneCell'=true)
    (hS:Sim (fun o=>innerS w0 (pars.getD (o / 256) (.agg [])) (vs.getD (o / 256) undef)) O0 w0 O m st a w) (h:finish C pars ress outs st=some rs) :
    ∃ v O',(results fn a.tmps).run P w= .ok v w/\Came O0 w0 vs sg rs v O' w:=by
  obtain⟨hok,hrs⟩:=GN h
  injection hrs with hrs
  obtain⟨hokA,hokO⟩:=hok.append
  obtain⟨hokA,hokB⟩:=hokA.append
  obtain⟨hok1,hok2⟩:=hokA.append
  have hnd:=hokB.cons.1
  have hwr:=hokB.cons.2.cons.1
  have hf:DL st.Aa st.Aa:=fun _ _ h=>h
  generalize hN:Dh st.Aa 256000 256 ress (DU C outs st)++Dh st.Aa 0 256 (pars.map En) (Eo pars 0)=N at *
  have hout: ∀ j:Nat,∃ u:Value,∀ q,outs[j]? =some q->(jT a.tmps (rv q)).run P w= .ok u w/\Au O st.Aa m w u (dB C st q).2:=by
    intro j
    cases hj:outs[j]? with
    | none=>exact⟨undef,fun q hq=>by cases hq⟩
    | some q =>
      have hqok:Am (dB C st q).1:=fun b hb=>hokO b (List.mem_flatMap.2 ⟨q,List.mem_of_getElem? hj,hb⟩)
      obtain⟨t,ty⟩:=q
      cases ty with
      | none =>
        have hlt:=hqok.cons.1
        rw[Nat.blt_eq]at hlt
        exact⟨a.tmps.getD t undef,fun q hq=>by injection hq with hq;subst hq;exact⟨rfl,hS.tmps t hlt⟩⟩
      | some ty =>
        have hq2:Am (Nat.blt t st.tmps.length::(Mc C st.Aa ty (st.tmps.getD t .undef)).ok):=hqok
        obtain⟨hlt,hld⟩:=hq2.cons
        rw[Nat.blt_eq]at hlt
        obtain⟨u,hu1,hu2⟩:=(pJ (o:= {(default:Oper)with op:=.load ty (.tmp t)}) hC (fun q x hq=>⟨hq,hS.Aa q x hq⟩) rfl (bD hS (.tmp t)) hld).run
        refine⟨u,fun q hq=> ?_⟩
        injection hq with hq;subst hq
        refine⟨?_,hu2⟩
        have hev:a.eval (.tmp t)=a.tmps.getD t undef:=by simp [Act.eval]
        simp only[execOp,Instr.loadAt,hev]at hu1
        show(do loadVar ty (<- asAddr (a.tmps.getD t undef)):Sem Value).run P w=_
        generalize a.tmps.getD t undef=z at hu1 ⊢
        cases z with
        | pointer p =>
          cases p with
          | none=>simp [Instr.sureAddr]at hu1
          | some ad =>
            simp only[asAddr,Sem.run_bind,Sem.run_pure,Result.andThen_ok]
            simp only[Instr.sureAddr,pure_bind,Sem.run_bind,Sem.run_pure]at hu1
            cases hl:(loadVar ty ad).run P w with
            | ok x w2 =>
              rw[hl]at hu1
              simp only[Result.andThen_ok,Sem.run_pure,Result.ok.injEq,Next.value.injEq]at hu1
              rw[hu1.1,hu1.2]
            | halt x w2=>rw[hl]at hu1;simp [Result.andThen]at hu1
        | _=>simp [Instr.sureAddr]at hu1
  obtain⟨fv,hfv⟩:=Classical.axiomOfChoice hout
  obtain⟨g1,g2,g3,_,g5⟩:=NK (W:=(A8 st.Aa ress (DU C outs st)).2.2.1++(A8 st.Aa (pars.map En) (Eo pars 0)).2.2.1=[]) hf hS.Aa 256 ress (DU C outs st) 256000 fv (fun e=>by rw[e]at hwr;simpa using hwr) (fun j hj=>by
    have hj':j<outs.length:=by simpa [DU]using hj
    have e:(DU C outs st).getD j .undef=(dB C st outs[j]).2:=by
      simp [DU,List.getD_eq_getElem?_getD,hj']
    rw[e];exact(hfv j _ (List.getElem?_eq_getElem hj')).2) hok1
  have hmaskl:(pars.map En).length=pars.length:=by simp
  obtain⟨k1,k2,k3,_,k5⟩:=NK (W:=(A8 st.Aa ress (DU C outs st)).2.2.1++(A8 st.Aa (pars.map En) (Eo pars 0)).2.2.1=[]) hf hS.Aa 256 (pars.map En) (Eo pars 0) 0 (fun j=>if Be (pars.getD j (.agg []))then innerS w0 (pars.getD j (.agg [])) (vs.getD j undef)else .bool true) (fun e=>by rw[e,Bool.or_true]at hwr;simpa using hwr) (fun j hj=>by
    have hj':j<pars.length:=by rw[wX]at hj;exact hj
    rw[Ab5 pars 0 j hj',Nat.zero_add]
    have hroot:KT (256*j)=true:=by
      unfold KT
      rw[Bool.and_eq_true,Nat.blt_eq]
      refine⟨by omega,?_⟩
      rw[Nat.mul_mod_right];rfl
    have hrt: ∀ x,Ai st.Aa (256*j)=some x->m (256*j)=innerS w0 (pars.getD j (.agg [])) (vs.getD j undef):=fun x hx=>by
      have:=hS.root (256*j) hroot (by rw[hx];rfl)
      rw[Nat.mul_div_cancel_left j (by decide)]at this
      exact this
    have hp:=hptr j hj'
    generalize pars.getD j (.agg [])=s at hp hrt ⊢
    cases s with
    | box ks =>
      rw[if_pos (show Be (Sh.box ks)=true from rfl)]
      refine⟨hp rfl,?_⟩
      cases hx:Ai st.Aa (256*j)with
      | none=>trivial
      | some x =>
        cases x with
        | arr _ _ _=>trivial
        | mp _=>trivial
        | box cs =>
          obtain⟨b,base,h1,_⟩:=hS.Aa _ _ hx
          exact⟨b,base,h1,by rw[<- hrt _ hx,h1];rfl⟩
    | clo f' ks =>
      rw[if_pos (show Be (Sh.clo f' ks)=true from rfl)]
      refine⟨hp rfl,?_⟩
      cases hx:Ai st.Aa (256*j)with
      | none=>trivial
      | some x =>
        cases x with
        | arr _ _ _=>trivial
        | mp _=>trivial
        | box cs =>
          obtain⟨b,base,h1,_⟩:=hS.Aa _ _ hx
          exact⟨b,base,h1,by rw[<- hrt _ hx,h1];rfl⟩
    | map kt vt =>
      rw[if_pos (show Be (Sh.map kt vt)=true from rfl)]
      refine⟨hp rfl,?_⟩
      cases hx:Ai st.Aa (256*j)with
      | none=>trivial
      | some x =>
        cases x with
        | box _=>trivial
        | arr _ _ _=>exact(hrt _ hx).symm
        | mp _=>exact(hrt _ hx).symm
    | cell u k=>rw[if_neg (show ¬ Be (Sh.cell u k)=true from fun h=>by cases h)];exact Ak.bool true
    | agg ks=>rw[if_neg (show ¬ Be (Sh.agg ks)=true from fun h=>by cases h)];exact Ak.bool true) hok2
  obtain⟨O1,hS1,hp1,_,hv1,_,hk1⟩:=hS.freezes _ (g3.append k3)
  have hρ : ∀ p∈N,look N p.1=some p.2:=wV hnd
  have halive: ∀ p∈N,(Ai st.Aa p.1).isSome:=by
    intro p hp'
    rw[<- hN]at hp'
    rcases List.mem_append.1 hp' with hp' | hp'
    ·exact NP _ _ _ hok1 p hp'
    ·exact NP _ _ _ hok2 p hp'
  generalize hU:(A8 st.Aa ress (DU C outs st)).2.2.1++(A8 st.Aa (pars.map En) (Eo pars 0)).2.2.1=U at *
  have hFU:Frz st.Aa U:=by rw[<- hU];exact g3.append k3
  have hupdO: ∀ p∈U,BC O1 (Ar st.Aa U) m w p.1 p.2:=by
    intro p hp
    obtain⟨x,hx1,hx2⟩:=D6 U st.Aa p.1 ⟨p,hp,rfl⟩
    obtain⟨e,fz,l,k1,k2⟩:=hFU p hp
    obtain⟨e',fz',l',k3,k4⟩:=hFU _ hx1
    dsimp only at k3 k4
    rw[k1]at k3
    injection k3 with k3;injection k3 with q1 q2 q3
    subst q1;subst q3
    rw[k2,<- k4]
    exact hS1.Aa p.1 x hx2
  have hR:=g5 (ρ :=look N) hp1 (fun p hp=>hv1 p (by rw[<- hU];exact List.mem_append_left _ hp)) (fun p hp=>hupdO p (by rw[<- hU];exact List.mem_append_left _ hp)) hk1 (fun p hp=>hρ p (by rw[<- hN];exact List.mem_append_left _ hp))
  have hB:=k5 (ρ :=look N) hp1 (fun p hp=>hv1 p (by rw[<- hU];exact List.mem_append_right _ hp)) (fun p hp=>hupdO p (by rw[<- hU];exact List.mem_append_right _ hp)) hk1 (fun p hp=>hρ p (by rw[<- hN];exact List.mem_append_right _ hp))
  have hol:outs.length=ress.length:=by rw[<- g2];simp [DU]
  refine⟨_,DR O1 (look N),Aag hfn fv (fun j q hq=>(hfv j q hq).1),hS1.frame,fun b k hb hne=>hS1.less b k hb (fun e=>hne (KR.2 e)),fun b k hb hj=> ?_,?_,?_,?_⟩
  ·have:=hS1.SG b k hb hj
   unfold DR
   rw[this]
   dsimp only
   cases hl:look N 255 with
   | none=>rfl
   | some i =>
     have h1:=halive _ (Yk hl)
     obtain⟨x,hx⟩:=Option.isSome_iff_exists.1 h1
     exact absurd rfl (hS.ids 255 x hx)
  ·rw[<- hrs,hp,hr];simp [g1]
  ·refine⟨((List.range outs.length).map fv).toArray,by rw[hr];simp [hol],rfl,fun k hk=> ?_⟩
   have hk':k<outs.length:=by simpa using hk
   have hus:(((List.range outs.length).map fv).toArray).getD k undef=fv k:=by
     simp [Array.getD_eq_getD_getElem?,hk']
   rw[hus]
   have:=hR k (by rw[<- hol];exact hk')
   have e:rs.getD k .undef=(A8 st.Aa ress (DU C outs st)).2.1.getD k .undef:=by
     rw[<- hrs,List.getD_eq_getElem?_getD,List.getElem?_append_left (by rw[g1,<- hol];exact hk'),<- List.getD_eq_getElem?_getD]
   rw[e];exact this
  ·intro j i hji
   rw[hp]at hji
   obtain⟨r,s,h1,h2,h2'⟩:=AaM pars 0 j i hji
   rw[Nat.zero_add]at h1;subst h1
   obtain⟨h3,h3',h4,h5⟩:=AbS h2 h2'
   have h6:=wJ _ _ hok2 i _ h3 h3'
   have e:rs.getD (sg.ress.length+j) .undef=unbox ((A8 st.Aa (pars.map En) (Eo pars 0)).2.1.getD i .undef):=by
     rw[<- hrs,hr,List.getD_eq_getElem?_getD,List.getElem?_append_right (by rw[g1];omega),g1,Nat.add_sub_cancel_left,List.getElem?_map,hji]
     rfl
   rw[e,h6,hp]
   have:=hB i (by rw[hmaskl];exact h5)
   rw[Nat.zero_add,if_pos h4]at this
   exact this
theorem Adn {ρ :Type} {o: ρ} {fin:St->Option ρ} (hC:D5 P C) (N:Nat)
    (hdraw: ∀ {C:Ctx},D5 P C-> ∀ {ρ :Type} {V0:Nat->Value} {O0:Own} {w0:World} {fin:St->Option ρ} {v: ρ} (id:Nat) (ops:Array Oper) {O:Own} {m:Nat->Value} {st:St} {a:Act} {w:World} (K:Ex->St->Option ρ),Sim V0 O0 w0 O m st a w->Gm C ops.toList st=true->Jk C ops.toList ops.toList st (fun st'=>K .normal st')=some v ->
      (Code.region id ops true).wp P (Post V0 O0 w0 fin K v) a w)
    {f:FuncId} {fn:Func} {code:Code} {outs:List (Nat×Option Nat)} {sg:Sig} (hf:P.funcs[f]? =some fn) (hb:fn.body=some code) (hout:fn.results=(outs.map rv).toArray)
    {vs:Array Value} {xs rs:List A} (hI:Inv O w) (hv:vs.size=xs.length) (hl:xs.length=sg.pars.length) (h100:xs.length<=100) (hx: ∀ j,j<xs.length->IR O w (256*j) (vs.getD j undef) (xs.getD j .undef))
    (h:runK C N sg.pars fn.ntmps code fin xs=some o) (hrs: ∀ st,fin st=some o->finish C sg.pars sg.ress outs st=some rs) :
    Calls P f vs w fun e w'=> ∃ v O',e= .returned v/\Came O w vs sg rs v O' w':=by
  obtain⟨hok,h⟩:=GN h
  obtain⟨hok1,hok2⟩:=hok.append
  obtain⟨hnd,hok2⟩:=hok2.cons
  have h255:=hok2.cons.1
  rw[Bool.not_eq_true']at h255
  have hS:=Ac8 (n:=fn.ntmps) hI hv hl hx hok1 hnd h255
  have hptr: ∀ i,i<sg.pars.length->Be (sg.pars.getD i (.agg []))=true->(innerS w (sg.pars.getD i (.agg [])) (vs.getD i undef)).oneCell'=true:=by
    intro i hi hb
    have hi':i<xs.length:=by rw[hl];exact hi
    have hbk:Am (back (256*i) (sg.pars.getD i (.agg [])) (xs.getD i .undef)).1:=by
      have key: ∀(ss:List Sh) (j0 i:Nat),i<ss.length->Am (backs 0 256 ss xs j0).1->Am (back (0+256*(j0+i)) (ss.getD i (.agg [])) (xs.getD (j0+i) .undef)).1:=by
        intro ss
        induction ss with
        | nil=>intro j0 i h;simp at h
        | cons s ss ih =>
          intro j0 i h hok
          simp only[backs]at hok
          obtain⟨h1,h2⟩:=hok.append
          cases i with
          | zero=>simpa using h1
          | succ i =>
            have:=ih (j0+1) i (by simpa using h) h2
            rw[show j0+1+i=j0+(i+1)from by omega]at this
            simpa using this
      have:=key sg.pars 0 i hi hok1
      rw[Nat.zero_add,Nat.zero_add]at this;exact this
    have hir:=hx i hi'
    generalize sg.pars.getD i (.agg [])=s at hb hbk
    cases s with
    | box ks =>
      simp only[back]at hbk
      have h2:=hbk.cons.2.cons.1
      generalize xs.getD i .undef=x at h2 hir
      cases x with
      | box cs =>
        obtain⟨b,base,h3,_⟩:=hir
        rw[h3];rfl
      | _=>cases h2
    | clo f' ks =>
      simp only[back]at hbk
      have h2:=hbk.cons.2.cons.1
      generalize xs.getD i .undef=x at h2 hir
      cases x with
      | cbx g cs =>
        obtain⟨b,base,h3,_⟩:=hir
        rw[show innerS w (.clo f' ks) (vs.getD i undef)=_ from h3.inner (ks:=ks)];rfl
      | _=>cases h2
    | map kt vt =>
      obtain⟨l,hl',_,_⟩:=Vp (show A.Vo kt vt _=true from hbk.cons.1)
      rw[hl']at hir
      obtain⟨r,_,_,h3,_⟩:=(show DV O w _ _ l from hir)
      rw[h3];rfl
    | _=>cases hb
  refine calls_of_wp hf hb (wp_mono (AaU hC N (fun hC'=>hdraw hC') code hS h) fun e a' w' hq=> ?_)
  have fin':(∃ O' m' st',Sim (fun o=>innerS w (sg.pars.getD (o / 256) (.agg [])) (vs.getD (o / 256) undef)) O w O' m' st' a' w'/\fin st'=some o)->a'.defers=[]/\ ∃ v,(results fn a'.tmps).run P w'= .ok v w'/\ ∃ v' O',Ending.returned v= .returned v'/\Came O w vs sg rs v' O' w':=by
    rintro ⟨O',m',st',hS',hfin⟩
    obtain⟨v,O2,hres,hcame⟩:=Ac7 (sg:=sg) hC.T hout rfl rfl (by rw[<- hl];exact h100) hptr hS' (hrs st' hfin)
    exact⟨hS'.defers,v,hres,v,O2,rfl,hcame⟩
  cases e with
  | normal=>exact fin' hq
  | ret=>exact fin' hq
  | exit id =>
    obtain⟨O',m',st',_,h'⟩:=hq
    cases h'
  | goto l=>exact hq.elim
  | panic ch=>exact hq.elim
  | outgrown=>exact hq.elim
end
end Go.Proofs.YtbaomhegdndpnaaGreatDoor.Vm
namespace Go.Proofs.YtbaomhegdndpnaaGreatDoor.Vm
open Classical
section
variable {P:Program} {C:Ctx} {V0:Nat->Value} {O0 O:Own} {w0 w:World} {m:Nat->Value} {st:St} {a:Act}
theorem Cc {a b:List Nat} (h:Gz a b=true): ∀ n∈a,n∉b:=by
  intro n hn hb
  have:=List.all_eq_true.1 h n hn
  rw[Ea.2 hb]at this;cases this
def lastOf:List (Nat×Obj)->Nat->Option Obj
  | [],_=>none
  | (n,x)::r,k=>match lastOf r k with
    | some y=>some y
    | none=>if n=k then some x else none
theorem SI {u:List (Nat×Obj)} {k:Nat} (h:k∉u.map (·.1)):lastOf u k=none:=by
  induction u with
  | nil=>rfl
  | cons p r ih =>
    obtain⟨n,x⟩:=p
    simp only[List.map_cons,List.mem_cons,not_or]at h
    simp only[lastOf,ih h.2]
    exact if_neg (fun e=>h.1 e.symm)
theorem ZA (u:List (Nat×Obj)): ∀(l:List (Nat×Obj)) (k:Nat),Ai (Ar l u) k=match lastOf u k with | some x=>some x | none=>Ai l k:=by
  induction u with
  | nil=>intro l k;rfl
  | cons p r ih =>
    obtain⟨n,x⟩:=p
    intro l k
    rw[Ar,ih,Bc]
    simp only[lastOf]
    cases lastOf r k with
    | some y=>rfl
    | none =>
      by_cases h:n=k
      ·simp [h]
      ·have:k≠n:=fun e=>h e.symm
       simp [h,this]
theorem FI (st:St) (o:Oper) (δ :Dl) (k:Nat):Ai (apply st o δ).Aa k=match lastOf δ.new k with
    | some x=>some x
    | none=>if k∈ δ.del then none else match lastOf δ.upd k with
      | some x=>some x
      | none=>Ai st.Aa k:=by
  unfold apply
  dsimp only
  rw[ZA,Gs,ZA]
theorem GM {st:St} {o:Oper} {δ :Dl} {k:Nat} (h:k∉ δ.upd.map (·.1)++ δ.del++ δ.new.map (·.1)):Ai (apply st o δ).Aa k=Ai st.Aa k:=by
  simp only[List.mem_append,not_or]at h
  rw[FI,SI h.2,SI h.1.1]
  exact if_neg h.1.2
def Srt:List (Nat×Obj)->Prop:=List.Pairwise (fun p q=>p.1<q.1)
theorem AbT: ∀ {l:List (Nat×Obj)},sorted l=true->Srt l:=by
  intro l
  induction l with
  | nil=>intro _;exact List.Pairwise.nil
  | cons p r ih =>
    intro h
    cases r with
    | nil=>exact List.pairwise_singleton _ _
    | cons q r =>
      obtain⟨n,x⟩:=p
      obtain⟨k,y⟩:=q
      simp only[sorted,Bool.and_eq_true,Nat.blt_eq]at h
      have hr:=ih h.2
      refine List.Pairwise.cons (fun q hq=> ?_) hr
      rcases List.mem_cons.1 hq with rfl | hq
      ·exact h.1
      ·exact Nat.lt_trans h.1 ((List.pairwise_cons.1 hr).1 q hq)
theorem Srt.FH {l:List (Nat×Obj)} (h:Srt l) (n:Nat):Srt (Vm.FH l n):=by
  induction l with
  | nil=>exact h
  | cons p r ih =>
    obtain⟨k,x⟩:=p
    obtain⟨h1,h2⟩:=List.pairwise_cons.1 h
    rw[Xc]
    split
    ·exact ih h2
    ·exact List.Pairwise.cons (fun q hq=>h1 q (bT hq)) (ih h2)
theorem Srt.Nu {l:List (Nat×Obj)} (h:Srt l) {n:Nat} (y:Obj) (hn:Ai l n=none):Srt (Vm.Nu l n y):=by
  induction l with
  | nil=>exact List.pairwise_singleton _ _
  | cons p r ih =>
    obtain⟨k,x⟩:=p
    obtain⟨h1,h2⟩:=List.pairwise_cons.1 h
    rw[Cb]at hn
    have hkn:k≠n:=fun e=>by rw[if_pos e]at hn;cases hn
    rw[if_neg hkn]at hn
    simp only[Vm.Nu]
    cases hle:Nat.ble n k with
    | true =>
      have:=Nat.le_of_ble_eq_true hle
      refine List.Pairwise.cons (fun q hq=> ?_) h
      rcases List.mem_cons.1 hq with rfl | hq
      ·show n<k;omega
      ·have:=h1 q hq
       show n<q.1
       dsimp only at this;omega
    | false =>
      have hlt:k<n:=by
        rcases Nat.lt_or_ge k n with h | h
        ·exact h
        ·rw[Nat.ble_eq_true_of_le h]at hle;cases hle
      refine List.Pairwise.cons (fun q hq=> ?_) (ih h2 hn)
      rcases wZ hq with rfl | hq
      ·exact hlt
      ·exact h1 q hq
theorem Srt.BG {l:List (Nat×Obj)} (h:Srt l) (n:Nat) (y:Obj):Srt (Vm.BG l n y):=(h.FH n).Nu y (by rw[QW,if_pos rfl])
theorem Srt.Ar: ∀(u:List (Nat×Obj)) {l:List (Nat×Obj)},Srt l->Srt (Vm.Ar l u):=by
  intro u
  induction u with
  | nil=>intro l h;exact h
  | cons p r ih=>intro l h;obtain⟨n,x⟩:=p;exact ih (h.BG n x)
theorem Srt.AZ: ∀(u:List Nat) {l:List (Nat×Obj)},Srt l->Srt (Vm.AZ l u):=by
  intro u
  induction u with
  | nil=>intro l h;exact h
  | cons n r ih=>intro l h;exact ih (h.FH n)
theorem Srt.apply {st:St} (h:Srt st.Aa) (o:Oper) (δ :Dl):Srt (Vm.apply st o δ).Aa:=((h.Ar δ.upd).AZ δ.del).Ar δ.new
theorem Jp {n:Nat} {x:Obj} {r:List (Nat×Obj)}:Ai ((n,x)::r) n=some x:=by rw[Cb,if_pos rfl]
theorem YR {l:List (Nat×Obj)} {k:Nat} (h: ∀ p∈l,k<p.1):Ai l k=none:=by
  cases hx:Ai l k with
  | none=>rfl
  | some x=>exact absurd (h _ (aQ hx)) (Nat.lt_irrefl _)
theorem Srt.ext: ∀ {l l':List (Nat×Obj)},Srt l->Srt l'->(∀ k,Ai l k=Ai l' k)->l=l':=by
  intro l
  induction l with
  | nil =>
    intro l' _ _ h
    cases l' with
    | nil=>rfl
    | cons p r=>obtain⟨n,x⟩:=p;have:=h n;rw[Jp]at this;cases this
  | cons p r ih =>
    intro l' h1 h2 h
    obtain⟨n,x⟩:=p
    cases l' with
    | nil=>have:=h n;rw[Jp]at this;cases this
    | cons q r' =>
      obtain⟨k,y⟩:=q
      obtain⟨a1,a2⟩:=List.pairwise_cons.1 h1
      obtain⟨b1,b2'⟩:=List.pairwise_cons.1 h2
      have hnk:n=k:=by
        rcases Nat.lt_trichotomy n k with hlt | he | hgt
        ·have:=h n
         rw[Jp,YR]at this
         ·cases this
         ·intro p hp
          rcases List.mem_cons.1 hp with rfl | hp
          ·exact hlt
          ·exact Nat.lt_trans hlt (b1 p hp)
        ·exact he
        ·have:=h k
         rw[Jp,YR]at this
         ·cases this
         ·intro p hp
          rcases List.mem_cons.1 hp with rfl | hp
          ·exact hgt
          ·exact Nat.lt_trans hgt (a1 p hp)
      subst hnk
      have hx:=h n
      rw[Jp,Jp]at hx
      injection hx with hx;subst hx
      rw[ih a2 b2' (fun j=> ?_)]
      by_cases hj:n=j
      ·subst hj;rw[YR a1,YR b1]
      ·have:=h j
       rw[Cb,Cb,if_neg hj,if_neg hj]at this;exact this
theorem put_comm (tmps:List A) {d e:Option Tmp} (x y:A) (h: ∀ t,d=some t->e≠some t):put (put tmps d x) e y=put (put tmps e y) d x:=by
  cases d with
  | none=>rfl
  | some d =>
    cases e with
    | none=>rfl
    | some e =>
      have:d≠e:=fun he=>h d rfl (by rw[he])
      exact List.set_comm _ _ this
theorem Aa2 (tmps:List A) {d:Option Tmp} (x:A) {t:Nat} (h:d≠some t):(put tmps d x).getD t .undef=tmps.getD t .undef:=by
  cases d with
  | none=>rfl
  | some d =>
    have:d≠t:=fun e=>h (by rw[e])
    simp [put,List.getD_eq_getElem?_getD,List.getElem?_set,this]
theorem Pv {o:Oper} {t:Nat}:t∈LZ o↔o.dst=some t:=by
  unfold LZ
  cases o.dst with
  | none=>simp
  | some d=>simp [eq_comm]
theorem vT {ops:List Oper} {o:Oper} {tmps:List A} {d:Option Tmp} {v:A} (h: ∀ t,d=some t->t∉slotsOf ops o) {x:Operand} (hx:x∈o.op.operands):evalA (put tmps d v) x=evalA tmps x:=by
  cases x with
  | tmp t =>
    refine Aa2 tmps v fun hd=>h t hd ?_
    exact List.mem_append_left _ (List.mem_filterMap.2 ⟨.tmp t,by simpa using hx,rfl⟩)
  | _=>rfl
theorem oZ {ops:List Oper} {o:Oper} {tmps:List A} {d:Option Tmp} {v:A} (h: ∀ t,d=some t->t∉slotsOf ops o):guardOf ops (put tmps d v) o.guard=guardOf ops tmps o.guard:=by
  cases hg:o.guard with
  | none=>rfl
  | some p =>
    obtain⟨j,want⟩:=p
    unfold guardOf
    dsimp only
    cases hj:ops[j]? with
    | none=>rfl
    | some oj =>
      dsimp only
      cases hd:oj.dst with
      | none=>rfl
      | some t =>
        dsimp only
        rw[Aa2 tmps v (t:=t) (fun hd'=>h t hd' (by
          unfold slotsOf
          refine List.mem_append_right _ ?_
          rw[hg];dsimp only;rw[hj];dsimp only;rw[hd];simp))]
theorem ZK {Aa objs':List (Nat×Obj)}: ∀(l:List Nat),(∀ n∈l,Ai Aa n=Ai objs' n)->fetch Aa l=fetch objs' l:=by
  intro l
  induction l with
  | nil=>intro _;rfl
  | cons n r ih =>
    intro h
    simp only[fetch]
    rw[h n List.mem_cons_self,ih (fun k hk=>h k (List.mem_cons_of_mem _ hk))]
theorem uY {op:Op} {vs:List A} (h:Tv op vs=true):(∃ x,op= .move x)\/(∃ x,op= .assign x)\/ ∃ t x k q,op= .load t x/\vs=[.clo k q]:=by
  unfold Tv at h
  split at h
  ·exact .inl ⟨_,rfl⟩
  ·exact .inr (.inl ⟨_,rfl⟩)
  ·exact .inr (.inr ⟨_,_,_,_,rfl,rfl⟩)
  ·cases h
theorem Na {α :Type} {x:Option α} {k: α ->Dl} (h: ∀ y,(k y).upd=[]):(AY x k).upd=[]:=by
  cases x with
  | none=>rfl
  | some y=>exact h y
theorem IQ (s:St) (q off:Nat):Ai (AX s [.ptr q off]) q=Ai s.Aa q:=by
  show Ai (fetch s.Aa [q]++fetch s.Aa ((fetch s.Aa [q]).flatMap (fun p=>p.2.ids))) q=_
  cases h:Ai s.Aa q with
  | none =>
    have e:fetch s.Aa [q]=[]:=by simp [fetch,h]
    rw[e];rfl
  | some x =>
    have e:fetch s.Aa [q]=[(q,x)]:=by simp [fetch,h]
    rw[e]
    show Ai ((q,x)::_) q=_
    rw[Cb,if_pos rfl]
theorem Xd {o:Oper} {vs:List A} {q:Nat} (h:Tz o.op vs=some q): ∃ off,vs=[.ptr q off]/\ ∀ f f',BP f q=BP f' q->opX C o vs f=opX C o vs f'/\(opX C o vs f).upd=[]:=by
  obtain⟨dst,op,ty,pos,after,guard⟩:=o
  dsimp only at h
  unfold Tz at h
  split at h
  ·injection h with h;subst h
   refine⟨_,rfl,fun f f' hb=> ?_⟩
   unfold opX
   dsimp only[a1]
   unfold J4
   dsimp only
   rw[hb]
   exact⟨rfl,by unfold AY;split<;>rfl⟩
  ·injection h with h;subst h
   refine⟨_,rfl,fun f f' hb=> ?_⟩
   unfold opX
   dsimp only[a1]
   unfold H9 OC
   dsimp only
   rw[hb]
   refine⟨rfl,?_⟩
   unfold BQ
   refine Na fun ti=>Na fun p=> ?_
   exact Na (fun _=>rfl)
  ·injection h with h;subst h
   refine⟨_,rfl,fun f f' hb=> ?_⟩
   unfold opX
   dsimp only[a1]
   unfold Mc
   dsimp only
   rw[hb]
   refine⟨rfl,?_⟩
   unfold BQ
   exact Na fun ti=>Na fun _=>rfl
  ·cases h
theorem qB {ops:List Oper} {o:Oper} {s1 s2:St} (hE: ∀ x∈o.op.operands,evalA s2.tmps x=evalA s1.tmps x) (hG:guardOf ops s2.tmps o.guard=guardOf ops s1.tmps o.guard)
    (key:(opX C o (Bd o s1) (AX s2 (Bd o s1))=opX C o (Bd o s1) (AX s1 (Bd o s1))/\(∀ f,(opX C o (Bd o s1) f).upd=[])/\BM o s2 (Bd o s1)=BM o s1 (Bd o s1))\/(AX s2 (Bd o s1)=AX s1 (Bd o s1)/\BM o s2 (Bd o s1)=BM o s1 (Bd o s1))) (h1: ∀ n∈(Bh C ops o s1).new.map (·.1),s1.fresh n=true) (h2: ∀ n∈(Bh C ops o s1).new.map (·.1),s2.fresh n=true) :
    Bh C ops o s2=Bh C ops o s1/\BM o s2 (Bd o s2)=BM o s1 (Bd o s1)/\Bd o s2=Bd o s1:=by
  have hmap:o.op.operands.toList.map (evalA s2.tmps)=o.op.operands.toList.map (evalA s1.tmps):=List.map_congr_left fun x hx=>hE x (by simpa using hx)
  have hvs:Bd o s2=Bd o s1:=by unfold Bd;rw[hmap]
  have hop:opX C o (Bd o s1) (AX s2 (Bd o s1))=opX C o (Bd o s1) (AX s1 (Bd o s1)):=by
    rcases key with h | h
    ·exact h.1
    ·rw[h.1]
  refine⟨?_,by rw[hvs];rcases key with h | h;exact h.2.2;exact h.2,hvs⟩
  have hpl: ∀ pre,(∀ n∈(FT C o s1 pre).new.map (·.1),s1.fresh n=true)->(∀ n∈(FT C o s1 pre).new.map (·.1),s2.fresh n=true)->FT C o s2 pre=FT C o s1 pre:=by
    intro pre h1 h2
    unfold FT at h1 h2 ⊢
    rw[hmap]
    dsimp only at h1 h2 ⊢
    rw[show opX C o (Bv o.op (o.op.operands.toList.map (evalA s1.tmps))).2 (AX s2 (Bv o.op (o.op.operands.toList.map (evalA s1.tmps))).2)=opX C o (Bv o.op (o.op.operands.toList.map (evalA s1.tmps))).2 (AX s1 (Bv o.op (o.op.operands.toList.map (evalA s1.tmps))).2)from hop]
    generalize opX C o (Bv o.op (o.op.operands.toList.map (evalA s1.tmps))).2 (AX s1 (Bv o.op (o.op.operands.toList.map (evalA s1.tmps))).2)= δ at *
    have a1: δ.new.all (fun p=>s1.fresh p.1)=true:=List.all_eq_true.2 fun p hp=>h1 p.1 (List.mem_map.2 ⟨p,hp,rfl⟩)
    have a2: δ.new.all (fun p=>s2.fresh p.1)=true:=List.all_eq_true.2 fun p hp=>h2 p.1 (List.mem_map.2 ⟨p,hp,rfl⟩)
    rw[a1,a2]
  unfold Bh at h1 h2 ⊢
  rw[hG,hmap]
  have hfa':opX C o (Bv o.op (o.op.operands.toList.map (evalA s1.tmps))).2 (AX s2 (Bv o.op (o.op.operands.toList.map (evalA s1.tmps))).2)=opX C o (Bv o.op (o.op.operands.toList.map (evalA s1.tmps))).2 (AX s1 (Bv o.op (o.op.operands.toList.map (evalA s1.tmps))).2):=hop
  cases hg:guardOf ops s1.tmps o.guard with
  | none=>rfl
  | some r =>
    cases r with
    | some g =>
      rw[hg]at h1 h2
      dsimp only at h1 h2 ⊢
      cases hde:AaY C o with
      | some b =>
        rw[hde]at h1 h2
        cases b with
        | true=>exact hpl _ h1 h2
        | false=>rfl
      | none =>
      dsimp only
      rcases key with h | h
      ·have hu:=h.2.1 (AX s1 (Bd o s1))
       rw[hfa']
       have hu':(opX C o (Bv o.op (o.op.operands.toList.map (evalA s1.tmps))).2 (AX s1 (Bv o.op (o.op.operands.toList.map (evalA s1.tmps))).2)).upd=[]:=hu
       simp only[hu',List.map_nil]
      ·have h1':AX s2 (Bv o.op (o.op.operands.toList.map (evalA s1.tmps))).2=AX s1 (Bv o.op (o.op.operands.toList.map (evalA s1.tmps))).2:=h.1
       rw[h1']
    | none =>
      rw[hg]at h1 h2
      exact hpl _ h1 h2
theorem oI {o:Oper} {s1 s2:St} (hF: ∀ n∈BM o s1 (Bd o s1),Ai s2.Aa n=Ai s1.Aa n) :
    (opX C o (Bd o s1) (AX s2 (Bd o s1))=opX C o (Bd o s1) (AX s1 (Bd o s1))/\(∀ f,(opX C o (Bd o s1) f).upd=[])/\BM o s2 (Bd o s1)=BM o s1 (Bd o s1))\/(AX s2 (Bd o s1)=AX s1 (Bd o s1)/\BM o s2 (Bd o s1)=BM o s1 (Bd o s1)):=by
  unfold BM at hF ⊢
  cases hm:Tv o.op (Bd o s1)with
  | true =>
    have hu: ∀(v:List A),(a1 (fun a=>.v a) v).upd=[]:=fun v=>by
      cases v with
      | nil=>rfl
      | cons x r=>cases r<;>rfl
    rcases uY hm with ⟨x,e⟩ | ⟨x,e⟩ | ⟨t,x,k,q,e,ev⟩
    ·exact .inl ⟨by unfold opX;rw[e],fun f=>by unfold opX;rw[e];exact hu _,rfl⟩
    ·exact .inl ⟨by unfold opX;rw[e],fun f=>by unfold opX;rw[e];exact hu _,rfl⟩
    ·have hl: ∀ f,(Mc C f t (.clo k q)).upd=[]:=fun f=>by
       unfold Mc BQ AY
       cases C.T t<;>rfl
     exact .inl ⟨by unfold opX;rw[e,ev];rfl,fun f=>by unfold opX;rw[e,ev];exact hl f,rfl⟩
  | false =>
    rw[hm]at hF
    cases h1':Tz o.op (Bd o s1)with
    | some q =>
      rw[h1']at hF
      have hq:Ai s2.Aa q=Ai s1.Aa q:=hF q (List.mem_singleton.2 rfl)
      obtain⟨off,ev,hO⟩:=Xd (C:=C) h1'
      refine .inl ⟨(hO _ _ ?_).1,fun f=>(hO f f rfl).2,rfl⟩
      rw[ev]
      unfold BP
      rw[IQ,IQ,hq]
    | none =>
    rw[h1']at hF
    have e1:fetch s2.Aa ((Bd o s1).flatMap A.ids)=fetch s1.Aa ((Bd o s1).flatMap A.ids):=ZK _ (fun n hn=>hF n (List.mem_append_left _ hn))
    refine .inr ⟨?_,by show(_++_:List Nat)=_;rw[e1];rfl⟩
    unfold AX
    dsimp only
    rw[e1,ZK _ (fun n hn=>hF n (List.mem_append_right _ hn))]
theorem AbV {ops:List Oper} {o:Oper} {s1 s2:St} (hE: ∀ x∈o.op.operands,evalA s2.tmps x=evalA s1.tmps x) (hG:guardOf ops s2.tmps o.guard=guardOf ops s1.tmps o.guard)
    (hF: ∀ n∈BM o s1 (Bd o s1),Ai s2.Aa n=Ai s1.Aa n) (h1: ∀ n∈(Bh C ops o s1).new.map (·.1),s1.fresh n=true) (h2: ∀ n∈(Bh C ops o s1).new.map (·.1),s2.fresh n=true) :
    Bh C ops o s2=Bh C ops o s1/\BM o s2 (Bd o s2)=BM o s1 (Bd o s1)/\Bd o s2=Bd o s1:=by
  exact qB (C:=C) hE hG (oI hF) h1 h2
theorem Adb {o:Oper} {vs:List A} {q off n:Nat} (h:oneOf C o.op vs=some (q,off,n)):Tz o.op vs=some q/\ ∀ {f f':Fet} {cs cs':List A},BP f q=some cs->BP f' q=some cs'->cs'.length=cs.length->(∀ k,k<n->cs'.getD (off+k) .undef=cs.getD (off+k) .undef)->opX C o vs f'=opX C o vs f:=by
  obtain⟨dst,op,ty,pos,after,guard⟩:=o
  dsimp only at h
  unfold oneOf at h
  split at h
  ·injection h with h;injection h with h1 h2;subst h1
   refine⟨rfl,fun {f f' cs cs'} h1 h2 h3 h4=> ?_⟩
   unfold opX
   dsimp only[a1]
   unfold J4
   dsimp only
   rw[h1,h2];rfl
  ·injection h with h;injection h with h1 h2;subst h1
   refine⟨rfl,fun {f f' cs cs'} h1 h2 h3 h4=> ?_⟩
   unfold opX
   dsimp only[a1]
   unfold H9 OC
   dsimp only
   rw[h1,h2]
   unfold AY
   dsimp only
   rw[h3]
  ·rename_i t _ o' off'
   cases ht:C.T t with
   | none=>rw[ht]at h;cases h
   | some ti =>
     rw[ht]at h
     dsimp only at h
     cases h0:Nat.blt 0 ti.cs.length with
     | false=>rw[h0]at h;cases h
     | true =>
     rw[h0]at h
     injection h with h;injection h with h1 h2;injection h2 with h2 h3'
     subst h1;subst h2;subst h3'
     have h0:0<ti.cs.length:=by simpa [Nat.blt_eq]using h0
     refine⟨rfl,fun {f f' cs cs'} h1 h2 h3 h4=> ?_⟩
     unfold opX
     dsimp only[a1]
     unfold Mc BQ
     rw[ht]
     unfold AY
     dsimp only
     rw[h1,h2]
     dsimp only
     rw[h3]
     congr 1
     unfold YZ
     cases ti.agg with
     | false =>
       have:=h4 0 h0
       simpa using this
     | true =>
       refine congrArg A.agg (List.ext_getElem? fun i=> ?_)
       rw[List.getElem?_take,List.getElem?_take]
       by_cases hi:i<ti.cs.length
       ·rw[if_pos hi,if_pos hi,List.getElem?_drop,List.getElem?_drop]
        have:=h4 i hi
        rw[List.getD_eq_getElem?_getD,List.getD_eq_getElem?_getD]at this
        by_cases hl:off'+i<cs.length
        ·rw[List.getElem?_eq_getElem hl,List.getElem?_eq_getElem (by omega)]at this ⊢
         exact congrArg some this
        ·rw[List.getElem?_eq_none (by omega),List.getElem?_eq_none (by omega)]
       ·rw[if_neg hi,if_neg hi]
  ·cases h
def Ec (fet:Fet) (δ :Dl):Prop:= ∀ e∈ δ.same,∃ cs,BP fet e.1=some cs/\ ∀ p∈ δ.upd,p.1=e.1-> ∃ cs',p.2= .box cs'/\cs'.length=cs.length/\cs'.getD e.2 .undef=cs.getD e.2 .undef
theorem Abu {fet:Fet} (x:A) (j:Nat) {δ :Dl} (h:Ec fet δ):Ec fet (IW fet x j δ):=by
  unfold IW
  split
  ·rename_i q off
   cases hb:BP fet q with
   | none=>exact h
   | some cs =>
     dsimp only
     cases hc:Nat.blt j cs.length&& δ.upd.all (fun p=> !(Nat.beq p.1 q)||jA cs.length p.2)with
     | false=>exact h
     | true =>
       rw[Bool.and_eq_true,Nat.blt_eq]at hc
       have hset: ∀ ds:List A,ds.length=cs.length-> ∀ i,(ds.set j (cs.getD j .undef)).getD i .undef=if j=i then cs.getD j .undef else ds.getD i .undef:=by
         intro ds hd i
         rw[List.getD_eq_getElem?_getD,List.getElem?_set]
         by_cases hij:j=i
         ·subst hij
          rw[if_pos rfl,if_pos rfl,if_pos (by omega)];rfl
         ·rw[if_neg hij,if_neg hij,<- List.getD_eq_getElem?_getD]
       have key: ∀ p0∈ δ.upd,Nat.beq p0.1 q=true-> ∃ ds,p0.2= .box ds/\ds.length=cs.length:=by
         intro p0 hp0 hq
         have h1:=List.all_eq_true.1 hc.2 p0 hp0
         rw[hq]at h1
         have h1:jA cs.length p0.2=true:=h1
         obtain⟨n,y⟩:=p0
         cases y with
         | box ds=>exact⟨ds,rfl,Nat.eq_of_beq_eq_true h1⟩
         | _=>cases h1
       intro e he
       rcases List.mem_cons.1 (show e∈(q,j):: δ.same from he)with rfl | he
       ·refine⟨cs,hb,fun p hp hpq=> ?_⟩
        obtain⟨p0,hp0,rfl⟩:=List.mem_map.1 (show p∈ δ.upd.map _ from hp)
        cases hq:Nat.beq p0.1 q with
        | false =>
          rw[hq]at hpq
          have hpq:p0.1=q:=hpq
          rw[hpq,Nat.beq_refl]at hq;cases hq
        | true =>
          obtain⟨ds,h2,h3⟩:=key p0 hp0 hq
          refine⟨ds.set j (cs.getD j .undef),by rw[show(bif true then(p0.1,yD j (cs.getD j .undef) p0.2)else p0)=(p0.1,yD j (cs.getD j .undef) p0.2)from rfl,h2];rfl,by rw[List.length_set,h3],?_⟩
          rw[hset ds h3,if_pos rfl]
       ·obtain⟨cs0,h4,h5⟩:=h e he
        refine⟨cs0,h4,fun p hp hpq=> ?_⟩
        obtain⟨p0,hp0,rfl⟩:=List.mem_map.1 (show p∈ δ.upd.map _ from hp)
        cases hq:Nat.beq p0.1 q with
        | false=>rw[hq]at hpq;exact h5 p0 hp0 hpq
        | true =>
          rw[hq]at hpq
          have hpq:p0.1=e.1:=hpq
          obtain⟨ds,h2,h3⟩:=key p0 hp0 hq
          obtain⟨cs',g1,g2,g3⟩:=h5 p0 hp0 hpq
          rw[h2]at g1;injection g1 with g1;subst g1
          have:cs0=cs:=by
            rw[<- hpq,Nat.eq_of_beq_eq_true hq,hb]at h4;injection h4 with h4;exact h4.symm
          subst this
          refine⟨ds.set j (cs0.getD j .undef),by rw[show(bif true then(p0.1,yD j (cs0.getD j .undef) p0.2)else p0)=(p0.1,yD j (cs0.getD j .undef) p0.2)from rfl,h2];rfl,by rw[List.length_set,h3],?_⟩
          rw[hset ds h3]
          by_cases hij:j=e.2
          ·rw[if_pos hij,hij]
          ·rw[if_neg hij];exact g3
  ·exact h
theorem Abw {fet:Fet} (xs:List A): ∀(ks:List (Nat×Nat)) {δ :Dl},Ec fet δ ->Ec fet (keepD fet xs ks δ):=by
  intro ks
  induction ks with
  | nil=>intro δ h;exact h
  | cons k ks ih=>intro δ h;exact ih (Abu _ _ h)
theorem Ec.nil {fet:Fet} {δ :Dl} (h: δ.same=[]):Ec fet δ :=fun e he=>by rw[h]at he;cases he
theorem jM {o:Oper} {s:St} (pre:List Bool):Ec (AX s (Bd o s)) (FT C o s pre):=by
  cases hc:YU o.op with
  | false=>exact Ec.nil (by unfold FT;rw[hc];rfl)
  | true =>
    have key:Ec (AX s (Bd o s)) (opX C o (Bd o s) (AX s (Bd o s))):=by
      generalize Bd o s=vs
      generalize AX s vs=fet
      obtain⟨dst,op,ty,pos,after,guard⟩:=o
      dsimp only at hc
      unfold YU at hc
      split at hc
      ·cases vs with
       | nil=>exact Ec.nil rfl
       | cons x xs =>
         rename_i f _ _
         show Ec fet (OH C fet (dst.getD 0) f xs)
         unfold OH
         cases C.G f with
         | none=>exact Ec.nil rfl
         | some sg=>exact Abw _ _ (Ec.nil rfl)
      ·cases hc
    intro e he
    have he:e∈(bif YU o.op then(opX C o (Bd o s) (AX s (Bd o s))).same else []):=he
    rw[hc]at he
    exact key e he
theorem AbU {ops:List Oper} {o:Oper} {s:St}:Ec (AX s (Bd o s)) (Bh C ops o s):=by
  unfold Bh
  split
  ·exact jM _
  ·split
   ·exact jM _
   ·exact Ec.nil rfl
   ·exact Ec.nil rfl
  ·exact Ec.nil rfl
end
