import Derived.Test.YtbaomhegdndpnaaGreatDoorA11
import Derived.Orders
set_option linter.all false
namespace Go.Proofs.YtbaomhegdndpnaaGreatDoor.Vm
open Classical
def rv:Nat×Option Nat->ResultVar
  | (t,none)=>.tmp t
  | (a,some ty)=>.cell a ty
def kM (tmps:Array Value):ResultVar->Sem Value
  | .tmp t=>pure (tmps.getD t undef)
  | .cell a t=>do loadVar t (<- asAddr (tmps.getD a undef))
theorem AeK {P:Program} {w:World} {α :Type} {g: α ->Sem Value}: ∀(l:List α) (f:Nat->Value),(∀(j:Nat) (x: α),l[j]? =some x->(g x).run P w= .ok (f j) w)->(l.mapM g).run P w= .ok ((List.range l.length).map f) w:=by
  intro l
  induction l with
  | nil=>intro f _;simp
  | cons x r ih =>
    intro f h
    have h1:=ih (fun j=>f (j+1)) (fun j y hy=>h (j+1) y (by simpa using hy))
    have h2:=h 0 x rfl
    rw[List.mapM_cons]
    simp only[Sem.run_bind,h2,Result.andThen_ok,h1,Sem.run_pure,List.length_cons,List.range_succ_eq_map,List.map_cons,List.map_map]
    rfl
def zO (us:Array Value):Value:=if h:us.size=1 then us[0]else .tuple us
theorem Aa8 {P:Program} {w:World} {fn:Func} {outs:List (Nat×Option Nat)} {tmps:Array Value} (h:fn.results=(outs.map rv).toArray) (f:Nat->Value) (hf: ∀(j:Nat) (q:Nat×Option Nat),outs[j]? =some q->(kM tmps (rv q)).run P w= .ok (f j) w) :
    (results fn tmps).run P w= .ok (zO ((List.range outs.length).map f).toArray) w:=by
  have e:results fn tmps=(do let vs <- fn.results.mapM (kM tmps);pure (zO vs)):=by
    have e0:kM tmps=(fun | .tmp t=>pure (tmps.getD t undef) | .cell a t=>do loadVar t (<- asAddr (tmps.getD a undef))):=by
      funext x;cases x<;>rfl
    unfold results zO
    rw[e0]
    rfl
  rw[e,h,List.mapM_toArray]
  have:=AeK (P:=P) (w:=w) (g:=kM tmps) (outs.map rv) f (fun j x hx=>by
    rw[List.getElem?_map]at hx
    cases hq:outs[j]? with
    | none=>rw[hq]at hx;cases hx
    | some q=>rw[hq]at hx;injection hx with hx;rw[<- hx];exact hf j q hq)
  rw[List.length_map]at this
  simp only[map_eq_pure_bind,bind_assoc,pure_bind,Sem.run_bind,Sem.run_pure,this,Result.andThen_ok]
section
variable {P:Program} {C:Ctx} {V0:Nat->Value} {O0 O:Own} {w0 w:World} {m:Nat->Value} {st:St} {a:Act}
theorem Ac2 {pars:List Sh} {i:Nat} {s:Sh} (h:pars[i]? =some s) (hb:Bo s=true):(pars.map E8)[i]? =some (E8 s)/\Bo (E8 s)=true/\Bo (pars.getD i (.agg []))=true/\i<pars.length:=by
  have hi:i<pars.length:=by
    rcases Nat.lt_or_ge i pars.length with h' | h'
    ·exact h'
    ·rw[List.getElem?_eq_none h']at h;cases h
  refine⟨(by rw[List.getElem?_map,h];rfl),(by cases s<;>first | rfl | (cases hb;done)),?_,hi⟩
  rw[List.getD_eq_getElem?_getD,h];exact hb
theorem Adj {pars ress:List Sh} {outs:List (Nat×Option Nat)} {rs:List A} {vs:Array Value} {sg:Sig} {fn:Func} (hC:TOk P C) (hfn:fn.results=(outs.map rv).toArray) (hp:sg.pars=pars) (hr:sg.ress=ress) (h100:pars.length<=100)
    (hptr: ∀ i,i<pars.length->Bo (pars.getD i (.agg []))=true->(innerS w0 (pars.getD i (.agg [])) (vs.getD i undef)).oneCell'=true)
    (hS:Sim (fun o=>innerS w0 (pars.getD (o / 256) (.agg [])) (vs.getD (o / 256) undef)) O0 w0 O m st a w) (h:finish C pars ress outs st=some rs) :
    ∃ v O',(results fn a.tmps).run P w= .ok v w/\Came O0 w0 vs sg rs v O' w:=by
  obtain⟨hok,hrs⟩:=H6 h
  injection hrs with hrs
  obtain⟨hokA,hokO⟩:=hok.append
  obtain⟨hokA,hokB⟩:=hokA.append
  obtain⟨hok1,hok2⟩:=hokA.append
  have hnd:=hokB.cons.1
  have hwr:=hokB.cons.2.cons.1
  have hf:DZ st.Aa st.Aa:=fun _ _ h=>h
  generalize hN:Dx st.Aa 256000 256 ress (Ed C outs st)++Dx st.Aa 0 256 (pars.map E8) (EC pars 0)=N at *
  have hout: ∀ j:Nat,∃ u:Value,∀ q,outs[j]? =some q->(kM a.tmps (rv q)).run P w= .ok u w/\Ar O st.Aa m w u (dR C st q).2:=by
    intro j
    cases hj:outs[j]? with
    | none=>exact⟨undef,fun q hq=>by cases hq⟩
    | some q =>
      have hqok:Ak (dR C st q).1:=fun b hb=>hokO b (List.mem_flatMap.2 ⟨q,List.mem_of_getElem? hj,hb⟩)
      obtain⟨t,ty⟩:=q
      cases ty with
      | none =>
        have hlt:=hqok.cons.1
        rw[Nat.blt_eq]at hlt
        exact⟨a.tmps.getD t undef,fun q hq=>by injection hq with hq;subst hq;exact⟨rfl,hS.tmps t hlt⟩⟩
      | some ty =>
        have hq2:Ak (Nat.blt t st.tmps.length::(MQ C st.Aa ty (st.tmps.getD t .undef)).ok):=hqok
        obtain⟨hlt,hld⟩:=hq2.cons
        rw[Nat.blt_eq]at hlt
        obtain⟨u,hu1,hu2⟩:=(qK (o:= {(default:Oper)with op:=.load ty (.tmp t)}) hC (fun q x hq=>⟨hq,hS.Aa q x hq⟩) rfl (bM hS (.tmp t)) hld).run
        refine⟨u,fun q hq=> ?_⟩
        injection hq with hq;subst hq
        refine⟨?_,hu2⟩
        have hev:a.eval (.tmp t)=a.tmps.getD t undef:=by simp [Act.eval]
        simp only[execOp,Instr.loadAt,hev]at hu1
        show(do loadVar ty (<- asAddr (a.tmps.getD t undef)):Sem Value).run P w=_
        generalize a.tmps.getD t undef=z at hu1 ⊢
        cases z with
        | pointer p =>
          cases p with
          | none=>simp [Instr.sureAddr]at hu1
          | some ad =>
            simp only[asAddr,Sem.run_bind,Sem.run_pure,Result.andThen_ok]
            simp only[Instr.sureAddr,pure_bind,Sem.run_bind,Sem.run_pure]at hu1
            cases hl:(loadVar ty ad).run P w with
            | ok x w2 =>
              rw[hl]at hu1
              simp only[Result.andThen_ok,Sem.run_pure,Result.ok.injEq,Next.value.injEq]at hu1
              rw[hu1.1,hu1.2]
            | halt x w2=>rw[hl]at hu1;simp [Result.andThen]at hu1
        | _=>simp [Instr.sureAddr]at hu1
  obtain⟨fv,hfv⟩:=Classical.axiomOfChoice hout
  obtain⟨g1,g2,g3,_,g5⟩:=Oh (W:=(AA st.Aa ress (Ed C outs st)).2.2.1++(AA st.Aa (pars.map E8) (EC pars 0)).2.2.1=[]) hf hS.Aa 256 ress (Ed C outs st) 256000 fv (fun e=>by rw[e]at hwr;simpa using hwr) (fun j hj=>by
    have hj':j<outs.length:=by simpa [Ed]using hj
    have e:(Ed C outs st).getD j .undef=(dR C st outs[j]).2:=by
      simp [Ed,List.getD_eq_getElem?_getD,hj']
    rw[e];exact(hfv j _ (List.getElem?_eq_getElem hj')).2) hok1
  have hmaskl:(pars.map E8).length=pars.length:=by simp
  obtain⟨k1,k2,k3,_,k5⟩:=Oh (W:=(AA st.Aa ress (Ed C outs st)).2.2.1++(AA st.Aa (pars.map E8) (EC pars 0)).2.2.1=[]) hf hS.Aa 256 (pars.map E8) (EC pars 0) 0 (fun j=>if Bo (pars.getD j (.agg []))then innerS w0 (pars.getD j (.agg [])) (vs.getD j undef)else .bool true) (fun e=>by rw[e,Bool.or_true]at hwr;simpa using hwr) (fun j hj=>by
    have hj':j<pars.length:=by rw[xZ]at hj;exact hj
    rw[Acd pars 0 j hj',Nat.zero_add]
    have hroot:Ls (256*j)=true:=by
      unfold Ls
      rw[Bool.and_eq_true,Nat.blt_eq]
      refine⟨by omega,?_⟩
      rw[Nat.mul_mod_right];rfl
    have hrt: ∀ x,Af st.Aa (256*j)=some x->m (256*j)=innerS w0 (pars.getD j (.agg [])) (vs.getD j undef):=fun x hx=>by
      have:=hS.root (256*j) hroot (by rw[hx];rfl)
      rw[Nat.mul_div_cancel_left j (by decide)]at this
      exact this
    have hp:=hptr j hj'
    generalize pars.getD j (.agg [])=s at hp hrt ⊢
    cases s with
    | box ks =>
      rw[if_pos (show Bo (Sh.box ks)=true from rfl)]
      refine⟨hp rfl,?_⟩
      cases hx:Af st.Aa (256*j)with
      | none=>trivial
      | some x =>
        cases x with
        | arr _ _ _=>trivial
        | mp _=>trivial
        | box cs =>
          obtain⟨b,base,h1,_⟩:=hS.Aa _ _ hx
          exact⟨b,base,h1,by rw[<- hrt _ hx,h1];rfl⟩
    | clo f' ks =>
      rw[if_pos (show Bo (Sh.clo f' ks)=true from rfl)]
      refine⟨hp rfl,?_⟩
      cases hx:Af st.Aa (256*j)with
      | none=>trivial
      | some x =>
        cases x with
        | arr _ _ _=>trivial
        | mp _=>trivial
        | box cs =>
          obtain⟨b,base,h1,_⟩:=hS.Aa _ _ hx
          exact⟨b,base,h1,by rw[<- hrt _ hx,h1];rfl⟩
    | map kt vt =>
      rw[if_pos (show Bo (Sh.map kt vt)=true from rfl)]
      refine⟨hp rfl,?_⟩
      cases hx:Af st.Aa (256*j)with
      | none=>trivial
      | some x =>
        cases x with
        | box _=>trivial
        | arr _ _ _=>exact(hrt _ hx).symm
        | mp _=>exact(hrt _ hx).symm
    | cell u k=>rw[if_neg (show ¬ Bo (Sh.cell u k)=true from fun h=>by cases h)];exact Ai.bool true
    | agg ks=>rw[if_neg (show ¬ Bo (Sh.agg ks)=true from fun h=>by cases h)];exact Ai.bool true) hok2
  obtain⟨O1,hS1,hp1,_,hv1,_,hk1⟩:=hS.freezes _ (g3.append k3)
  have hρ : ∀ p∈N,look N p.1=some p.2:=xU hnd
  have halive: ∀ p∈N,(Af st.Aa p.1).isSome:=by
    intro p hp'
    rw[<- hN]at hp'
    rcases List.mem_append.1 hp' with hp' | hp'
    ·exact Om _ _ _ hok1 p hp'
    ·exact Om _ _ _ hok2 p hp'
  generalize hU:(AA st.Aa ress (Ed C outs st)).2.2.1++(AA st.Aa (pars.map E8) (EC pars 0)).2.2.1=U at *
  have hFU:Frz st.Aa U:=by rw[<- hU];exact g3.append k3
  have hupdO: ∀ p∈U,BL O1 (Aq st.Aa U) m w p.1 p.2:=by
    intro p hp
    obtain⟨x,hx1,hx2⟩:=DN U st.Aa p.1 ⟨p,hp,rfl⟩
    obtain⟨e,fz,l,k1,k2⟩:=hFU p hp
    obtain⟨e',fz',l',k3,k4⟩:=hFU _ hx1
    dsimp only at k3 k4
    rw[k1]at k3
    injection k3 with k3;injection k3 with q1 q2 q3
    subst q1;subst q3
    rw[k2,<- k4]
    exact hS1.Aa p.1 x hx2
  have hR:=g5 (ρ :=look N) hp1 (fun p hp=>hv1 p (by rw[<- hU];exact List.mem_append_left _ hp)) (fun p hp=>hupdO p (by rw[<- hU];exact List.mem_append_left _ hp)) hk1 (fun p hp=>hρ p (by rw[<- hN];exact List.mem_append_left _ hp))
  have hB:=k5 (ρ :=look N) hp1 (fun p hp=>hv1 p (by rw[<- hU];exact List.mem_append_right _ hp)) (fun p hp=>hupdO p (by rw[<- hU];exact List.mem_append_right _ hp)) hk1 (fun p hp=>hρ p (by rw[<- hN];exact List.mem_append_right _ hp))
  have hol:outs.length=ress.length:=by rw[<- g2];simp [Ed]
  refine⟨_,Eb O1 (look N),Aa8 hfn fv (fun j q hq=>(hfv j q hq).1),hS1.frame,fun b k hb hne=>hS1.less b k hb (fun e=>hne (Lr.2 e)),fun b k hb hj=> ?_,?_,?_,?_⟩
  ·have:=hS1.Tc b k hb hj
   unfold Eb
   rw[this]
   dsimp only
   cases hl:look N 255 with
   | none=>rfl
   | some i =>
     have h1:=halive _ (Yq hl)
     obtain⟨x,hx⟩:=Option.isSome_iff_exists.1 h1
     exact absurd rfl (hS.ids 255 x hx)
  ·rw[<- hrs,hp,hr];simp [g1]
  ·refine⟨((List.range outs.length).map fv).toArray,by rw[hr];simp [hol],rfl,fun k hk=> ?_⟩
   have hk':k<outs.length:=by simpa using hk
   have hus:(((List.range outs.length).map fv).toArray).getD k undef=fv k:=by
     simp [Array.getD_eq_getD_getElem?,hk']
   rw[hus]
   have:=hR k (by rw[<- hol];exact hk')
   have e:rs.getD k .undef=(AA st.Aa ress (Ed C outs st)).2.1.getD k .undef:=by
     rw[<- hrs,List.getD_eq_getElem?_getD,List.getElem?_append_left (by rw[g1,<- hol];exact hk'),<- List.getD_eq_getElem?_getD]
   rw[e];exact this
  ·intro j i hji
   rw[hp]at hji
   obtain⟨r,s,h1,h2,h2'⟩:=Abt pars 0 j i hji
   rw[Nat.zero_add]at h1;subst h1
   obtain⟨h3,h3',h4,h5⟩:=Ac2 h2 h2'
   have h6:=xH _ _ hok2 i _ h3 h3'
   have e:rs.getD (sg.ress.length+j) .undef=unbox ((AA st.Aa (pars.map E8) (EC pars 0)).2.1.getD i .undef):=by
     rw[<- hrs,hr,List.getD_eq_getElem?_getD,List.getElem?_append_right (by rw[g1];omega),g1,Nat.add_sub_cancel_left,List.getElem?_map,hji]
     rfl
   rw[e,h6,hp]
   have:=hB i (by rw[hmaskl];exact h5)
   rw[Nat.zero_add,if_pos h4]at this
   exact this
theorem AdQ {ρ :Type} {o: ρ} {fin:St->Option ρ} (hC:DL P C) (N:Nat)
    (hdraw: ∀ {C:Ctx},DL P C-> ∀ {ρ :Type} {V0:Nat->Value} {O0:Own} {w0:World} {fin:St->Option ρ} {v: ρ} (id:Nat) (ops:Array Oper) {O:Own} {m:Nat->Value} {st:St} {a:Act} {w:World} (K:Ex->St->Option ρ),Sim V0 O0 w0 O m st a w->GL C ops.toList st=true->J8 C ops.toList ops.toList st (fun st'=>K .normal st')=some v ->
      (Code.region id ops true).wp P (Post V0 O0 w0 fin K v) a w)
    {f:FuncId} {fn:Func} {code:Code} {outs:List (Nat×Option Nat)} {sg:Sig} (hf:P.funcs[f]? =some fn) (hb:fn.body=some code) (hout:fn.results=(outs.map rv).toArray)
    {vs:Array Value} {xs rs:List A} (hI:Inv O w) (hv:vs.size=xs.length) (hl:xs.length=sg.pars.length) (h100:xs.length<=100) (hx: ∀ j,j<xs.length->IR O w (256*j) (vs.getD j undef) (xs.getD j .undef))
    (h:runK C N sg.pars fn.ntmps code fin xs=some o) (hrs: ∀ st,fin st=some o->finish C sg.pars sg.ress outs st=some rs) :
    Calls P f vs w fun e w'=> ∃ v O',e= .returned v/\Came O w vs sg rs v O' w':=by
  obtain⟨hok,h⟩:=H6 h
  obtain⟨hok1,hok2⟩:=hok.append
  obtain⟨hnd,hok2⟩:=hok2.cons
  have h255:=hok2.cons.1
  rw[Bool.not_eq_true']at h255
  have hS:=Adk (n:=fn.ntmps) hI hv hl hx hok1 hnd h255
  have hptr: ∀ i,i<sg.pars.length->Bo (sg.pars.getD i (.agg []))=true->(innerS w (sg.pars.getD i (.agg [])) (vs.getD i undef)).oneCell'=true:=by
    intro i hi hb
    have hi':i<xs.length:=by rw[hl];exact hi
    have hbk:Ak (back (256*i) (sg.pars.getD i (.agg [])) (xs.getD i .undef)).1:=by
      have key: ∀(ss:List Sh) (j0 i:Nat),i<ss.length->Ak (backs 0 256 ss xs j0).1->Ak (back (0+256*(j0+i)) (ss.getD i (.agg [])) (xs.getD (j0+i) .undef)).1:=by
        intro ss
        induction ss with
        | nil=>intro j0 i h;simp at h
        | cons s ss ih =>
          intro j0 i h hok
          simp only[backs]at hok
          obtain⟨h1,h2⟩:=hok.append
          cases i with
          | zero=>simpa using h1
          | succ i =>
            have:=ih (j0+1) i (by simpa using h) h2
            rw[show j0+1+i=j0+(i+1)from by omega]at this
            simpa using this
      have:=key sg.pars 0 i hi hok1
      rw[Nat.zero_add,Nat.zero_add]at this;exact this
    have hir:=hx i hi'
    generalize sg.pars.getD i (.agg [])=s at hb hbk
    cases s with
    | box ks =>
      simp only[back]at hbk
      have h2:=hbk.cons.2.cons.1
      generalize xs.getD i .undef=x at h2 hir
      cases x with
      | box cs =>
        obtain⟨b,base,h3,_⟩:=hir
        rw[h3];rfl
      | _=>cases h2
    | clo f' ks =>
      simp only[back]at hbk
      have h2:=hbk.cons.2.cons.1
      generalize xs.getD i .undef=x at h2 hir
      cases x with
      | cbx g cs =>
        obtain⟨b,base,h3,_⟩:=hir
        rw[show innerS w (.clo f' ks) (vs.getD i undef)=_ from h3.inner (ks:=ks)];rfl
      | _=>cases h2
    | map kt vt =>
      obtain⟨l,hl',_,_⟩:=V5 (show A.V4 kt vt _=true from hbk.cons.1)
      rw[hl']at hir
      obtain⟨r,_,_,h3,_⟩:=(show Ee O w _ _ l from hir)
      rw[h3];rfl
    | _=>cases hb
  refine calls_of_wp hf hb (wp_mono (Ab1 hC N (fun hC'=>hdraw hC') code hS h) fun e a' w' hq=> ?_)
  have fin':(∃ O' m' st',Sim (fun o=>innerS w (sg.pars.getD (o / 256) (.agg [])) (vs.getD (o / 256) undef)) O w O' m' st' a' w'/\fin st'=some o)->a'.defers=[]/\ ∃ v,(results fn a'.tmps).run P w'= .ok v w'/\ ∃ v' O',Ending.returned v= .returned v'/\Came O w vs sg rs v' O' w':=by
    rintro ⟨O',m',st',hS',hfin⟩
    obtain⟨v,O2,hres,hcame⟩:=Adj (sg:=sg) hC.T hout rfl rfl (by rw[<- hl];exact h100) hptr hS' (hrs st' hfin)
    exact⟨hS'.defers,v,hres,v,O2,rfl,hcame⟩
  cases e with
  | normal=>exact fin' hq
  | ret=>exact fin' hq
  | exit id =>
    obtain⟨O',m',st',_,h'⟩:=hq
    cases h'
  | goto l=>exact hq.elim
  | panic ch=>exact hq.elim
  | outgrown=>exact hq.elim
end
end Go.Proofs.YtbaomhegdndpnaaGreatDoor.Vm
namespace Go.Proofs.YtbaomhegdndpnaaGreatDoor.Vm
open Classical
section
variable {P:Program} {C:Ctx} {V0:Nat->Value} {O0 O:Own} {w0 w:World} {m:Nat->Value} {st:St} {a:Act}
theorem CE {a b:List Nat} (h:Hg a b=true): ∀ n∈a,n∉b:=by
  intro n hn hb
  have:=List.all_eq_true.1 h n hn
  rw[Ei.2 hb]at this;cases this
def lastOf:List (Nat×Obj)->Nat->Option Obj
  | [],_=>none
  | (n,x)::r,k=>match lastOf r k with
    | some y=>some y
    | none=>if n=k then some x else none
theorem Tf {u:List (Nat×Obj)} {k:Nat} (h:k∉u.map (·.1)):lastOf u k=none:=by
  induction u with
  | nil=>rfl
  | cons p r ih =>
    obtain⟨n,x⟩:=p
    simp only[List.map_cons,List.mem_cons,not_or]at h
    simp only[lastOf,ih h.2]
    exact if_neg (fun e=>h.1 e.symm)
theorem ZE (u:List (Nat×Obj)): ∀(l:List (Nat×Obj)) (k:Nat),Af (Aq l u) k=match lastOf u k with | some x=>some x | none=>Af l k:=by
  induction u with
  | nil=>intro l k;rfl
  | cons p r ih =>
    obtain⟨n,x⟩:=p
    intro l k
    rw[Aq,ih,Bi]
    simp only[lastOf]
    cases lastOf r k with
    | some y=>rfl
    | none =>
      by_cases h:n=k
      ·simp [h]
      ·have:k≠n:=fun e=>h e.symm
       simp [h,this]
theorem Gq (st:St) (o:Oper) (δ :Dl) (k:Nat):Af (apply st o δ).Aa k=match lastOf δ.new k with
    | some x=>some x
    | none=>if k∈ δ.del then none else match lastOf δ.upd k with
      | some x=>some x
      | none=>Af st.Aa k:=by
  unfold apply
  dsimp only
  rw[ZE,GU,ZE]
theorem H5 {st:St} {o:Oper} {δ :Dl} {k:Nat} (h:k∉ δ.upd.map (·.1)++ δ.del++ δ.new.map (·.1)):Af (apply st o δ).Aa k=Af st.Aa k:=by
  simp only[List.mem_append,not_or]at h
  rw[Gq,Tf h.2,Tf h.1.1]
  exact if_neg h.1.2
def Srt:List (Nat×Obj)->Prop:=List.Pairwise (fun p q=>p.1<q.1)
theorem Ac3: ∀ {l:List (Nat×Obj)},sorted l=true->Srt l:=by
  intro l
  induction l with
  | nil=>intro _;exact List.Pairwise.nil
  | cons p r ih =>
    intro h
    cases r with
    | nil=>exact List.pairwise_singleton _ _
    | cons q r =>
      obtain⟨n,x⟩:=p
      obtain⟨k,y⟩:=q
      simp only[sorted,Bool.and_eq_true,Nat.blt_eq]at h
      have hr:=ih h.2
      refine List.Pairwise.cons (fun q hq=> ?_) hr
      rcases List.mem_cons.1 hq with rfl | hq
      ·exact h.1
      ·exact Nat.lt_trans h.1 ((List.pairwise_cons.1 hr).1 q hq)
theorem Srt.Gp {l:List (Nat×Obj)} (h:Srt l) (n:Nat):Srt (Vm.Gp l n):=by
  induction l with
  | nil=>exact h
  | cons p r ih =>
    obtain⟨k,x⟩:=p
    obtain⟨h1,h2⟩:=List.pairwise_cons.1 h
    rw[Xh]
    split
    ·exact ih h2
    ·exact List.Pairwise.cons (fun q hq=>h1 q (dH hq)) (ih h2)
theorem Srt.NM {l:List (Nat×Obj)} (h:Srt l) {n:Nat} (y:Obj) (hn:Af l n=none):Srt (Vm.NM l n y):=by
  induction l with
  | nil=>exact List.pairwise_singleton _ _
  | cons p r ih =>
    obtain⟨k,x⟩:=p
    obtain⟨h1,h2⟩:=List.pairwise_cons.1 h
    rw[CB]at hn
    have hkn:k≠n:=fun e=>by rw[if_pos e]at hn;cases hn
    rw[if_neg hkn]at hn
    simp only[Vm.NM]
    cases hle:Nat.ble n k with
    | true =>
      have:=Nat.le_of_ble_eq_true hle
      refine List.Pairwise.cons (fun q hq=> ?_) h
      rcases List.mem_cons.1 hq with rfl | hq
      ·show n<k;omega
      ·have:=h1 q hq
       show n<q.1
       dsimp only at this;omega
    | false =>
      have hlt:k<n:=by
        rcases Nat.lt_or_ge k n with h | h
        ·exact h
        ·rw[Nat.ble_eq_true_of_le h]at hle;cases hle
      refine List.Pairwise.cons (fun q hq=> ?_) (ih h2 hn)
      rcases y8 hq with rfl | hq
      ·exact hlt
      ·exact h1 q hq
theorem Srt.BP {l:List (Nat×Obj)} (h:Srt l) (n:Nat) (y:Obj):Srt (Vm.BP l n y):=(h.Gp n).NM y (by rw[Ro,if_pos rfl])
theorem Srt.Aq: ∀(u:List (Nat×Obj)) {l:List (Nat×Obj)},Srt l->Srt (Vm.Aq l u):=by
  intro u
  induction u with
  | nil=>intro l h;exact h
  | cons p r ih=>intro l h;obtain⟨n,x⟩:=p;exact ih (h.BP n x)
theorem Srt.Bf: ∀(u:List Nat) {l:List (Nat×Obj)},Srt l->Srt (Vm.Bf l u):=by
  intro u
  induction u with
  | nil=>intro l h;exact h
  | cons n r ih=>intro l h;exact ih (h.Gp n)
theorem Srt.apply {st:St} (h:Srt st.Aa) (o:Oper) (δ :Dl):Srt (Vm.apply st o δ).Aa:=((h.Aq δ.upd).Bf δ.del).Aq δ.new
theorem JA {n:Nat} {x:Obj} {r:List (Nat×Obj)}:Af ((n,x)::r) n=some x:=by rw[CB,if_pos rfl]
theorem YS {l:List (Nat×Obj)} {k:Nat} (h: ∀ p∈l,k<p.1):Af l k=none:=by
  cases hx:Af l k with
  | none=>rfl
  | some x=>exact absurd (h _ (aY hx)) (Nat.lt_irrefl _)
theorem Srt.ext: ∀ {l l':List (Nat×Obj)},Srt l->Srt l'->(∀ k,Af l k=Af l' k)->l=l':=by
  intro l
  induction l with
  | nil =>
    intro l' _ _ h
    cases l' with
    | nil=>rfl
    | cons p r=>obtain⟨n,x⟩:=p;have:=h n;rw[JA]at this;cases this
  | cons p r ih =>
    intro l' h1 h2 h
    obtain⟨n,x⟩:=p
    cases l' with
    | nil=>have:=h n;rw[JA]at this;cases this
    | cons q r' =>
      obtain⟨k,y⟩:=q
      obtain⟨a1,a2⟩:=List.pairwise_cons.1 h1
      obtain⟨b1,b2'⟩:=List.pairwise_cons.1 h2
      have hnk:n=k:=by
        rcases Nat.lt_trichotomy n k with hlt | he | hgt
        ·have:=h n
         rw[JA,YS]at this
         ·cases this
         ·intro p hp
          rcases List.mem_cons.1 hp with rfl | hp
          ·exact hlt
          ·exact Nat.lt_trans hlt (b1 p hp)
        ·exact he
        ·have:=h k
         rw[JA,YS]at this
         ·cases this
         ·intro p hp
          rcases List.mem_cons.1 hp with rfl | hp
          ·exact hgt
          ·exact Nat.lt_trans hgt (a1 p hp)
      subst hnk
      have hx:=h n
      rw[JA,JA]at hx
      injection hx with hx;subst hx
      rw[ih a2 b2' (fun j=> ?_)]
      by_cases hj:n=j
      ·subst hj;rw[YS a1,YS b1]
      ·have:=h j
       rw[CB,CB,if_neg hj,if_neg hj]at this;exact this
theorem put_comm (tmps:List A) {d e:Option Tmp} (x y:A) (h: ∀ t,d=some t->e≠some t):put (put tmps d x) e y=put (put tmps e y) d x:=by
  cases d with
  | none=>rfl
  | some d =>
    cases e with
    | none=>rfl
    | some e =>
      have:d≠e:=fun he=>h d rfl (by rw[he])
      exact List.set_comm _ _ this
theorem AaU (tmps:List A) {d:Option Tmp} (x:A) {t:Nat} (h:d≠some t):(put tmps d x).getD t .undef=tmps.getD t .undef:=by
  cases d with
  | none=>rfl
  | some d =>
    have:d≠t:=fun e=>h (by rw[e])
    simp [put,List.getD_eq_getElem?_getD,List.getElem?_set,this]
theorem PI {o:Oper} {t:Nat}:t∈MP o↔o.dst=some t:=by
  unfold MP
  cases o.dst with
  | none=>simp
  | some d=>simp [eq_comm]
theorem wP {ops:List Oper} {o:Oper} {tmps:List A} {d:Option Tmp} {v:A} (h: ∀ t,d=some t->t∉slotsOf ops o) {x:Operand} (hx:x∈o.op.operands):evalA (put tmps d v) x=evalA tmps x:=by
  cases x with
  | tmp t =>
    refine AaU tmps v fun hd=>h t hd ?_
    exact List.mem_append_left _ (List.mem_filterMap.2 ⟨.tmp t,by simpa using hx,rfl⟩)
  | _=>rfl
theorem qG {ops:List Oper} {o:Oper} {tmps:List A} {d:Option Tmp} {v:A} (h: ∀ t,d=some t->t∉slotsOf ops o):guardOf ops (put tmps d v) o.guard=guardOf ops tmps o.guard:=by
  cases hg:o.guard with
  | none=>rfl
  | some p =>
    obtain⟨j,want⟩:=p
    unfold guardOf
    dsimp only
    cases hj:ops[j]? with
    | none=>rfl
    | some oj =>
      dsimp only
      cases hd:oj.dst with
      | none=>rfl
      | some t =>
        dsimp only
        rw[AaU tmps v (t:=t) (fun hd'=>h t hd' (by
          unfold slotsOf
          refine List.mem_append_right _ ?_
          rw[hg];dsimp only;rw[hj];dsimp only;rw[hd];simp))]
theorem ZN {Aa objs':List (Nat×Obj)}: ∀(l:List Nat),(∀ n∈l,Af Aa n=Af objs' n)->fetch Aa l=fetch objs' l:=by
  intro l
  induction l with
  | nil=>intro _;rfl
  | cons n r ih =>
    intro h
    simp only[fetch]
    rw[h n List.mem_cons_self,ih (fun k hk=>h k (List.mem_cons_of_mem _ hk))]
theorem vW {op:Op} {vs:List A} (h:TK op vs=true):(∃ x,op= .move x)\/(∃ x,op= .assign x)\/ ∃ t x k q,op= .load t x/\vs=[.clo k q]:=by
  unfold TK at h
  split at h
  ·exact .inl ⟨_,rfl⟩
  ·exact .inr (.inl ⟨_,rfl⟩)
  ·exact .inr (.inr ⟨_,_,_,_,rfl,rfl⟩)
  ·cases h
theorem NC {α :Type} {x:Option α} {k: α ->Dl} (h: ∀ y,(k y).upd=[]):(Be x k).upd=[]:=by
  cases x with
  | none=>rfl
  | some y=>exact h y
theorem Jp (s:St) (q off:Nat):Af (Bd s [.ptr q off]) q=Af s.Aa q:=by
  show Af (fetch s.Aa [q]++fetch s.Aa ((fetch s.Aa [q]).flatMap (fun p=>p.2.ids))) q=_
  cases h:Af s.Aa q with
  | none =>
    have e:fetch s.Aa [q]=[]:=by simp [fetch,h]
    rw[e];rfl
  | some x =>
    have e:fetch s.Aa [q]=[(q,x)]:=by simp [fetch,h]
    rw[e]
    show Af ((q,x)::_) q=_
    rw[CB,if_pos rfl]
theorem Xi {o:Oper} {vs:List A} {q:Nat} (h:TL o.op vs=some q): ∃ off,vs=[.ptr q off]/\ ∀ f f',Ce f q=Ce f' q->opX C o vs f=opX C o vs f'/\(opX C o vs f).upd=[]:=by
  obtain⟨dst,op,ty,pos,after,guard⟩:=o
  dsimp only at h
  unfold TL at h
  split at h
  ·injection h with h;subst h
   refine⟨_,rfl,fun f f' hb=> ?_⟩
   unfold opX
   dsimp only[a1]
   unfold JL
   dsimp only
   rw[hb]
   exact⟨rfl,by unfold Be;split<;>rfl⟩
  ·injection h with h;subst h
   refine⟨_,rfl,fun f f' hb=> ?_⟩
   unfold opX
   dsimp only[a1]
   unfold I5 OT
   dsimp only
   rw[hb]
   refine⟨rfl,?_⟩
   unfold Cf
   refine NC fun ti=>NC fun p=> ?_
   exact NC (fun _=>rfl)
  ·injection h with h;subst h
   refine⟨_,rfl,fun f f' hb=> ?_⟩
   unfold opX
   dsimp only[a1]
   unfold MQ
   dsimp only
   rw[hb]
   refine⟨rfl,?_⟩
   unfold Cf
   exact NC fun ti=>NC fun _=>rfl
  ·cases h
theorem qX {ops:List Oper} {o:Oper} {s1 s2:St} (hE: ∀ x∈o.op.operands,evalA s2.tmps x=evalA s1.tmps x) (hG:guardOf ops s2.tmps o.guard=guardOf ops s1.tmps o.guard)
    (key:(opX C o (Bl o s1) (Bd s2 (Bl o s1))=opX C o (Bl o s1) (Bd s1 (Bl o s1))/\(∀ f,(opX C o (Bl o s1) f).upd=[])/\Cb o s2 (Bl o s1)=Cb o s1 (Bl o s1))\/(Bd s2 (Bl o s1)=Bd s1 (Bl o s1)/\Cb o s2 (Bl o s1)=Cb o s1 (Bl o s1))) (h1: ∀ n∈(Bz C ops o s1).new.map (·.1),s1.fresh n=true) (h2: ∀ n∈(Bz C ops o s1).new.map (·.1),s2.fresh n=true) :
    Bz C ops o s2=Bz C ops o s1/\Cb o s2 (Bl o s2)=Cb o s1 (Bl o s1)/\Bl o s2=Bl o s1:=by
  have hmap:o.op.operands.toList.map (evalA s2.tmps)=o.op.operands.toList.map (evalA s1.tmps):=List.map_congr_left fun x hx=>hE x (by simpa using hx)
  have hvs:Bl o s2=Bl o s1:=by unfold Bl;rw[hmap]
  have hop:opX C o (Bl o s1) (Bd s2 (Bl o s1))=opX C o (Bl o s1) (Bd s1 (Bl o s1)):=by
    rcases key with h | h
    ·exact h.1
    ·rw[h.1]
  refine⟨?_,by rw[hvs];rcases key with h | h;exact h.2.2;exact h.2,hvs⟩
  have hpl: ∀ pre,(∀ n∈(Gy C o s1 pre).new.map (·.1),s1.fresh n=true)->(∀ n∈(Gy C o s1 pre).new.map (·.1),s2.fresh n=true)->Gy C o s2 pre=Gy C o s1 pre:=by
    intro pre h1 h2
    unfold Gy at h1 h2 ⊢
    rw[hmap]
    dsimp only at h1 h2 ⊢
    rw[show opX C o (BG o.op (o.op.operands.toList.map (evalA s1.tmps))).2 (Bd s2 (BG o.op (o.op.operands.toList.map (evalA s1.tmps))).2)=opX C o (BG o.op (o.op.operands.toList.map (evalA s1.tmps))).2 (Bd s1 (BG o.op (o.op.operands.toList.map (evalA s1.tmps))).2)from hop]
    generalize opX C o (BG o.op (o.op.operands.toList.map (evalA s1.tmps))).2 (Bd s1 (BG o.op (o.op.operands.toList.map (evalA s1.tmps))).2)= δ at *
    have a1: δ.new.all (fun p=>s1.fresh p.1)=true:=List.all_eq_true.2 fun p hp=>h1 p.1 (List.mem_map.2 ⟨p,hp,rfl⟩)
    have a2: δ.new.all (fun p=>s2.fresh p.1)=true:=List.all_eq_true.2 fun p hp=>h2 p.1 (List.mem_map.2 ⟨p,hp,rfl⟩)
    rw[a1,a2]
  unfold Bz at h1 h2 ⊢
  rw[hG,hmap]
  have hfa':opX C o (BG o.op (o.op.operands.toList.map (evalA s1.tmps))).2 (Bd s2 (BG o.op (o.op.operands.toList.map (evalA s1.tmps))).2)=opX C o (BG o.op (o.op.operands.toList.map (evalA s1.tmps))).2 (Bd s1 (BG o.op (o.op.operands.toList.map (evalA s1.tmps))).2):=hop
  cases hg:guardOf ops s1.tmps o.guard with
  | none=>rfl
  | some r =>
    cases r with
    | some g =>
      rw[hg]at h1 h2
      dsimp only at h1 h2 ⊢
      cases hde:Ab5 C o with
      | some b =>
        rw[hde]at h1 h2
        cases b with
        | true=>exact hpl _ h1 h2
        | false=>rfl
      | none =>
      dsimp only
      rcases key with h | h
      ·have hu:=h.2.1 (Bd s1 (Bl o s1))
       rw[hfa']
       have hu':(opX C o (BG o.op (o.op.operands.toList.map (evalA s1.tmps))).2 (Bd s1 (BG o.op (o.op.operands.toList.map (evalA s1.tmps))).2)).upd=[]:=hu
       simp only[hu',List.map_nil]
      ·have h1':Bd s2 (BG o.op (o.op.operands.toList.map (evalA s1.tmps))).2=Bd s1 (BG o.op (o.op.operands.toList.map (evalA s1.tmps))).2:=h.1
       rw[h1']
    | none =>
      rw[hg]at h1 h2
      exact hpl _ h1 h2
theorem pO {o:Oper} {s1 s2:St} (hF: ∀ n∈Cb o s1 (Bl o s1),Af s2.Aa n=Af s1.Aa n) :
    (opX C o (Bl o s1) (Bd s2 (Bl o s1))=opX C o (Bl o s1) (Bd s1 (Bl o s1))/\(∀ f,(opX C o (Bl o s1) f).upd=[])/\Cb o s2 (Bl o s1)=Cb o s1 (Bl o s1))\/(Bd s2 (Bl o s1)=Bd s1 (Bl o s1)/\Cb o s2 (Bl o s1)=Cb o s1 (Bl o s1)):=by
  unfold Cb at hF ⊢
  cases hm:TK o.op (Bl o s1)with
  | true =>
    have hu: ∀(v:List A),(a1 (fun a=>.v a) v).upd=[]:=fun v=>by
      cases v with
      | nil=>rfl
      | cons x r=>cases r<;>rfl
    rcases vW hm with ⟨x,e⟩ | ⟨x,e⟩ | ⟨t,x,k,q,e,ev⟩
    ·exact .inl ⟨by unfold opX;rw[e],fun f=>by unfold opX;rw[e];exact hu _,rfl⟩
    ·exact .inl ⟨by unfold opX;rw[e],fun f=>by unfold opX;rw[e];exact hu _,rfl⟩
    ·have hl: ∀ f,(MQ C f t (.clo k q)).upd=[]:=fun f=>by
       unfold MQ Cf Be
       cases C.T t<;>rfl
     exact .inl ⟨by unfold opX;rw[e,ev];rfl,fun f=>by unfold opX;rw[e,ev];exact hl f,rfl⟩
  | false =>
    rw[hm]at hF
    cases h1':TL o.op (Bl o s1)with
    | some q =>
      rw[h1']at hF
      have hq:Af s2.Aa q=Af s1.Aa q:=hF q (List.mem_singleton.2 rfl)
      obtain⟨off,ev,hO⟩:=Xi (C:=C) h1'
      refine .inl ⟨(hO _ _ ?_).1,fun f=>(hO f f rfl).2,rfl⟩
      rw[ev]
      unfold Ce
      rw[Jp,Jp,hq]
    | none =>
    rw[h1']at hF
    have e1:fetch s2.Aa ((Bl o s1).flatMap A.ids)=fetch s1.Aa ((Bl o s1).flatMap A.ids):=ZN _ (fun n hn=>hF n (List.mem_append_left _ hn))
    refine .inr ⟨?_,by show(_++_:List Nat)=_;rw[e1];rfl⟩
    unfold Bd
    dsimp only
    rw[e1,ZN _ (fun n hn=>hF n (List.mem_append_right _ hn))]
theorem Ac5 {ops:List Oper} {o:Oper} {s1 s2:St} (hE: ∀ x∈o.op.operands,evalA s2.tmps x=evalA s1.tmps x) (hG:guardOf ops s2.tmps o.guard=guardOf ops s1.tmps o.guard)
    (hF: ∀ n∈Cb o s1 (Bl o s1),Af s2.Aa n=Af s1.Aa n) (h1: ∀ n∈(Bz C ops o s1).new.map (·.1),s1.fresh n=true) (h2: ∀ n∈(Bz C ops o s1).new.map (·.1),s2.fresh n=true) :
    Bz C ops o s2=Bz C ops o s1/\Cb o s2 (Bl o s2)=Cb o s1 (Bl o s1)/\Bl o s2=Bl o s1:=by
  exact qX (C:=C) hE hG (pO hF) h1 h2
theorem AdF {o:Oper} {vs:List A} {q off n:Nat} (h:oneOf C o.op vs=some (q,off,n)):TL o.op vs=some q/\ ∀ {f f':Fet} {cs cs':List A},Ce f q=some cs->Ce f' q=some cs'->cs'.length=cs.length->(∀ k,k<n->cs'.getD (off+k) .undef=cs.getD (off+k) .undef)->opX C o vs f'=opX C o vs f:=by
  obtain⟨dst,op,ty,pos,after,guard⟩:=o
  dsimp only at h
  unfold oneOf at h
  split at h
  ·injection h with h;injection h with h1 h2;subst h1
   refine⟨rfl,fun {f f' cs cs'} h1 h2 h3 h4=> ?_⟩
   unfold opX
   dsimp only[a1]
   unfold JL
   dsimp only
   rw[h1,h2];rfl
  ·injection h with h;injection h with h1 h2;subst h1
   refine⟨rfl,fun {f f' cs cs'} h1 h2 h3 h4=> ?_⟩
   unfold opX
   dsimp only[a1]
   unfold I5 OT
   dsimp only
   rw[h1,h2]
   unfold Be
   dsimp only
   rw[h3]
  ·rename_i t _ o' off'
   cases ht:C.T t with
   | none=>rw[ht]at h;cases h
   | some ti =>
     rw[ht]at h
     dsimp only at h
     cases h0:Nat.blt 0 ti.cs.length with
     | false=>rw[h0]at h;cases h
     | true =>
     rw[h0]at h
     injection h with h;injection h with h1 h2;injection h2 with h2 h3'
     subst h1;subst h2;subst h3'
     have h0:0<ti.cs.length:=by simpa [Nat.blt_eq]using h0
     refine⟨rfl,fun {f f' cs cs'} h1 h2 h3 h4=> ?_⟩
     unfold opX
     dsimp only[a1]
     unfold MQ Cf
     rw[ht]
     unfold Be
     dsimp only
     rw[h1,h2]
     dsimp only
     rw[h3]
     congr 1
     unfold Zb
     cases ti.agg with
     | false =>
       have:=h4 0 h0
       simpa using this
     | true =>
       refine congrArg A.agg (List.ext_getElem? fun i=> ?_)
       rw[List.getElem?_take,List.getElem?_take]
       by_cases hi:i<ti.cs.length
       ·rw[if_pos hi,if_pos hi,List.getElem?_drop,List.getElem?_drop]
        have:=h4 i hi
        rw[List.getD_eq_getElem?_getD,List.getD_eq_getElem?_getD]at this
        by_cases hl:off'+i<cs.length
        ·rw[List.getElem?_eq_getElem hl,List.getElem?_eq_getElem (by omega)]at this ⊢
         exact congrArg some this
        ·rw[List.getElem?_eq_none (by omega),List.getElem?_eq_none (by omega)]
       ·rw[if_neg hi,if_neg hi]
  ·cases h
def En (fet:Fet) (δ :Dl):Prop:= ∀ e∈ δ.same,∃ cs,Ce fet e.1=some cs/\ ∀ p∈ δ.upd,p.1=e.1-> ∃ cs',p.2= .box cs'/\cs'.length=cs.length/\cs'.getD e.2 .undef=cs.getD e.2 .undef
theorem AbR {fet:Fet} (x:A) (j:Nat) {δ :Dl} (h:En fet δ):En fet (Js fet x j δ):=by
  unfold Js
  split
  ·rename_i q off
   cases hb:Ce fet q with
   | none=>exact h
   | some cs =>
     dsimp only
     cases hc:Nat.blt j cs.length&& δ.upd.all (fun p=> !(Nat.beq p.1 q)||jQ cs.length p.2)with
     | false=>exact h
     | true =>
       rw[Bool.and_eq_true,Nat.blt_eq]at hc
       have hset: ∀ ds:List A,ds.length=cs.length-> ∀ i,(ds.set j (cs.getD j .undef)).getD i .undef=if j=i then cs.getD j .undef else ds.getD i .undef:=by
         intro ds hd i
         rw[List.getD_eq_getElem?_getD,List.getElem?_set]
         by_cases hij:j=i
         ·subst hij
          rw[if_pos rfl,if_pos rfl,if_pos (by omega)];rfl
         ·rw[if_neg hij,if_neg hij,<- List.getD_eq_getElem?_getD]
       have key: ∀ p0∈ δ.upd,Nat.beq p0.1 q=true-> ∃ ds,p0.2= .box ds/\ds.length=cs.length:=by
         intro p0 hp0 hq
         have h1:=List.all_eq_true.1 hc.2 p0 hp0
         rw[hq]at h1
         have h1:jQ cs.length p0.2=true:=h1
         obtain⟨n,y⟩:=p0
         cases y with
         | box ds=>exact⟨ds,rfl,Nat.eq_of_beq_eq_true h1⟩
         | _=>cases h1
       intro e he
       rcases List.mem_cons.1 (show e∈(q,j):: δ.same from he)with rfl | he
       ·refine⟨cs,hb,fun p hp hpq=> ?_⟩
        obtain⟨p0,hp0,rfl⟩:=List.mem_map.1 (show p∈ δ.upd.map _ from hp)
        cases hq:Nat.beq p0.1 q with
        | false =>
          rw[hq]at hpq
          have hpq:p0.1=q:=hpq
          rw[hpq,Nat.beq_refl]at hq;cases hq
        | true =>
          obtain⟨ds,h2,h3⟩:=key p0 hp0 hq
          refine⟨ds.set j (cs.getD j .undef),by rw[show(bif true then(p0.1,zD j (cs.getD j .undef) p0.2)else p0)=(p0.1,zD j (cs.getD j .undef) p0.2)from rfl,h2];rfl,by rw[List.length_set,h3],?_⟩
          rw[hset ds h3,if_pos rfl]
       ·obtain⟨cs0,h4,h5⟩:=h e he
        refine⟨cs0,h4,fun p hp hpq=> ?_⟩
        obtain⟨p0,hp0,rfl⟩:=List.mem_map.1 (show p∈ δ.upd.map _ from hp)
        cases hq:Nat.beq p0.1 q with
        | false=>rw[hq]at hpq;exact h5 p0 hp0 hpq
        | true =>
          rw[hq]at hpq
          have hpq:p0.1=e.1:=hpq
          obtain⟨ds,h2,h3⟩:=key p0 hp0 hq
          obtain⟨cs',g1,g2,g3⟩:=h5 p0 hp0 hpq
          rw[h2]at g1;injection g1 with g1;subst g1
          have:cs0=cs:=by
            rw[<- hpq,Nat.eq_of_beq_eq_true hq,hb]at h4;injection h4 with h4;exact h4.symm
          subst this
          refine⟨ds.set j (cs0.getD j .undef),by rw[show(bif true then(p0.1,zD j (cs0.getD j .undef) p0.2)else p0)=(p0.1,zD j (cs0.getD j .undef) p0.2)from rfl,h2];rfl,by rw[List.length_set,h3],?_⟩
          rw[hset ds h3]
          by_cases hij:j=e.2
          ·rw[if_pos hij,hij]
          ·rw[if_neg hij];exact g3
  ·exact h
theorem AbT {fet:Fet} (xs:List A): ∀(ks:List (Nat×Nat)) {δ :Dl},En fet δ ->En fet (keepD fet xs ks δ):=by
  intro ks
  induction ks with
  | nil=>intro δ h;exact h
  | cons k ks ih=>intro δ h;exact ih (AbR _ _ h)
theorem En.nil {fet:Fet} {δ :Dl} (h: δ.same=[]):En fet δ :=fun e he=>by rw[h]at he;cases he
theorem kF {o:Oper} {s:St} (pre:List Bool):En (Bd s (Bl o s)) (Gy C o s pre):=by
  cases hc:YW o.op with
  | false=>exact En.nil (by unfold Gy;rw[hc];rfl)
  | true =>
    have key:En (Bd s (Bl o s)) (opX C o (Bl o s) (Bd s (Bl o s))):=by
      generalize Bl o s=vs
      generalize Bd s vs=fet
      obtain⟨dst,op,ty,pos,after,guard⟩:=o
      dsimp only at hc
      unfold YW at hc
      split at hc
      ·cases vs with
       | nil=>exact En.nil rfl
       | cons x xs =>
         rename_i f _ _
         show En fet (OX C fet (dst.getD 0) f xs)
         unfold OX
         cases C.G f with
         | none=>exact En.nil rfl
         | some sg=>exact AbT _ _ (En.nil rfl)
      ·cases hc
    intro e he
    have he:e∈(bif YW o.op then(opX C o (Bl o s) (Bd s (Bl o s))).same else []):=he
    rw[hc]at he
    exact key e he
theorem Ac4 {ops:List Oper} {o:Oper} {s:St}:En (Bd s (Bl o s)) (Bz C ops o s):=by
  unfold Bz
  split
  ·exact kF _
  ·split
   ·exact kF _
   ·exact En.nil rfl
   ·exact En.nil rfl
  ·exact En.nil rfl
end
end Go.Proofs.YtbaomhegdndpnaaGreatDoor.Vm
namespace Go.Proofs.YtbaomhegdndpnaaGreatDoor.Vm
open Classical
section
variable {P:Program} {C:Ctx} {V0:Nat->Value} {O0 O:Own} {w0 w:World} {m:Nat->Value} {st st':St} {a:Act}
structure vP (C:Ctx) (ops:List Oper) (x:BN) (st:St):Prop where
  step:Bz C ops x.o st=x.δ
  rd:Cb x.o st (Bl x.o st)=x.rd
  one:oneOf C x.o.op (Bl x.o st)=x.one
def Xf (C:Ctx) (ops:List Oper):List BN->St->St->Prop
  | [],s,s'=>s=s'
  | x::r,s,s'=>vP C ops x s/\Xf C ops r (apply s x.o x.δ) s'
theorem Acf: ∀(u:List Nat) {l:List (Nat×Obj)} {p:Nat×Obj},p∈Bf l u->p∈l:=by
  intro u
  induction u with
  | nil=>intro l p h;exact h
  | cons n r ih=>intro l p h;exact dH (ih h)
theorem Nr {x:BN} {n:Nat} (h:st.fresh n=true) (h1:n∉x.says) (h2:n∉x.keys):(apply st x.o x.δ).fresh n=true:=by
  obtain⟨f1,f2,f3,f4⟩:=CY h
  unfold BN.says at h1
  simp only[List.mem_append,not_or]at h1
  have g1:has (apply st x.o x.δ).ids n=false:=by
    rw[<- Bool.not_eq_true]
    intro hh
    rcases List.mem_append.1 (Ei.1 hh)with hm | hm
    ·obtain⟨c,hc,hi⟩:=List.mem_flatMap.1 hm
     have hc:c∈put st.tmps x.o.dst x.δ.val:=hc
     have:c∈st.tmps\/c=x.δ.val:=by
       cases hd:x.o.dst with
       | none=>rw[hd]at hc;exact .inl hc
       | some d=>rw[hd]at hc;exact List.mem_or_eq_of_mem_set hc
     rcases this with hc | hc
     ·exact f1 (List.mem_append_left _ (List.mem_flatMap.2 ⟨c,hc,hi⟩))
     ·rw[hc]at hi;exact h1.1.1 hi
    ·obtain⟨p,hp,hi⟩:=List.mem_flatMap.1 hm
     rcases Pq x.δ.new (show p∈Aq (Bf (Aq st.Aa x.δ.upd) x.δ.del) x.δ.new from hp)with hp | hp
     ·exact h1.2 (List.mem_flatMap.2 ⟨p,hp,hi⟩)
     ·rcases Pq x.δ.upd (Acf _ hp)with hp | hp
      ·exact h1.1.2 (List.mem_flatMap.2 ⟨p,hp,hi⟩)
      ·exact f1 (List.mem_append_right _ (List.mem_flatMap.2 ⟨p,hp,hi⟩))
  have g2:Af (apply st x.o x.δ).Aa n=none:=by rw[H5 h2];exact f2
  unfold St.fresh
  rw[g1,g2,f4,Jc]
  simp [f3]
theorem AbY {u:List (Nat×Obj)} {k:Nat} {x:Obj} (h:lastOf u k=some x):(k,x)∈u:=by
  induction u with
  | nil=>cases h
  | cons p r ih =>
    obtain⟨n,y⟩:=p
    simp only[lastOf]at h
    cases hr:lastOf r k with
    | some z=>rw[hr]at h;injection h with h;subst h;exact List.mem_cons_of_mem _ (ih hr)
    | none =>
      rw[hr]at h
      dsimp only at h
      by_cases hn:n=k
      ·rw[if_pos hn]at h;injection h with h;subst h;subst hn;exact List.mem_cons_self
      ·rw[if_neg hn]at h;cases h
theorem Aev {ops:List Oper} {x y:BN} (hx:vP C ops x st) (hy:vP C ops y (apply st x.o x.δ)) (h:calm x y=true) :
    (opX C x.o (Bl x.o st) (Bd (apply st y.o y.δ) (Bl x.o st))=opX C x.o (Bl x.o st) (Bd st (Bl x.o st))/\(∀ f,(opX C x.o (Bl x.o st) f).upd=[])/\Cb x.o (apply st y.o y.δ) (Bl x.o st)=Cb x.o st (Bl x.o st)) \/
    (Bd (apply st y.o y.δ) (Bl x.o st)=Bd st (Bl x.o st)/\Cb x.o (apply st y.o y.δ) (Bl x.o st)=Cb x.o st (Bl x.o st)):=by
  unfold calm at h
  cases ho:x.one with
  | none=>rw[ho]at h;cases h
  | some p =>
    obtain⟨q,off,n⟩:=p
    rw[ho]at h
    simp only[Bool.and_eq_true,Bool.not_eq_true']at h
    obtain⟨h1,h2,h3,h4,h5⟩:=h
    have hone:=hx.one
    rw[ho]at hone
    obtain⟨k1,k2⟩:=AdF hone
    obtain⟨off',ev,hO⟩:=Xi (C:=C) k1
    have hS:=Ac4 (C:=C) (ops:=ops) (o:=y.o) (s:=apply st x.o x.δ)
    rw[hy.step]at hS
    have hxk:Af (apply st x.o x.δ).Aa q=Af st.Aa q:=H5 fun hm=>by
      have:=h1.symm.trans (Ei.2 hm)
      cases this
    have hbox: ∀ e∈y.δ.same,e.1=q-> ∃ cs,Af st.Aa q=some (.box cs)/\ ∀ p∈y.δ.upd,p.1=q-> ∃ cs',p.2= .box cs'/\cs'.length=cs.length/\cs'.getD e.2 .undef=cs.getD e.2 .undef:=by
      intro e he heq
      obtain⟨cs,g1,g2⟩:=hS e he
      rw[heq]at g1 g2
      exact⟨cs,by rw[<- hxk];exact SQ _ _ _ _ (BV g1),g2⟩
    obtain⟨e0,he0,heq0⟩:=List.any_eq_true.1 h4
    obtain⟨cs,g1,g2⟩:=hbox e0 he0 (Nat.eq_of_beq_eq_true heq0)
    have hcell: ∀ k,k<n-> ∀ p∈y.δ.upd,p.1=q-> ∀ cs',p.2= .box cs'->cs'.getD (off+k) .undef=cs.getD (off+k) .undef:=by
      intro k hk p hp hpq cs' hcs
      have:=List.all_eq_true.1 h5 k (List.mem_range.2 hk)
      obtain⟨e,he,heq⟩:=List.any_eq_true.1 this
      rw[Bool.and_eq_true]at heq
      obtain⟨cs2,g3,g4⟩:=hbox e he (Nat.eq_of_beq_eq_true heq.1)
      rw[g1]at g3;injection g3 with g3;injection g3 with g3;subst g3
      obtain⟨cs3,g5,_,g6⟩:=g4 p hp hpq
      rw[hcs]at g5;injection g5 with g5;subst g5
      rw[Nat.eq_of_beq_eq_true heq.2]at g6;exact g6
    have hnd:lastOf y.δ.new q=none:=Tf fun hm=>by
      have:=h3.symm.trans (Ei.2 hm)
      cases this
    have hdl:q∉y.δ.del:=fun hm=>by rw[Ei.2 hm]at h2;cases h2
    have hnew: ∃ cs',Af (apply st y.o y.δ).Aa q=some (.box cs')/\cs'.length=cs.length/\ ∀ k,k<n->cs'.getD (off+k) .undef=cs.getD (off+k) .undef:=by
      rw[Gq,hnd]
      dsimp only
      rw[if_neg hdl]
      cases hl:lastOf y.δ.upd q with
      | none=>exact⟨cs,g1,rfl,fun _ _=>rfl⟩
      | some z =>
        have hm:=AbY hl
        obtain⟨cs',g3,g4,_⟩:=g2 _ hm rfl
        dsimp only at g3
        subst g3
        exact⟨cs',rfl,g4,fun k hk=>hcell k hk _ hm rfl _ rfl⟩
    obtain⟨cs',g3,g4,g5⟩:=hnew
    have hask: ∀ s,Cb x.o s (Bl x.o st)=bif TK x.o.op (Bl x.o st)then []else [q]:=by
      intro s;unfold Cb;rw[k1]
    refine .inl ⟨k2 ?_ ?_ g4 g5,fun f=>(hO f f rfl).2,by rw[hask,hask]⟩
    ·rw[ev];unfold Ce;rw[Jp,g1]
    ·rw[ev];unfold Ce;rw[Jp,g3]
theorem swap {ops:List Oper} {x y:BN} {r:List BN} (hi:indep ops x y=true) (hxF: ∀ n∈x.news,st.fresh n=true) (hyF: ∀ n∈y.news,st.fresh n=true) (h1:Hg y.news x.says=true) (h2:Hg y.news x.keys=true)
    (hs:Srt st.Aa) (h:Xf C ops (x::y::r) st st'):Xf C ops (y::x::r) st st':=by
  unfold indep at hi
  simp only[Bool.and_eq_true]at hi
  obtain⟨⟨⟨⟨⟨⟨i1,i2⟩,i3⟩,i4⟩,i5⟩,i6⟩,i7⟩:=hi
  obtain⟨hx,hy,hr⟩:=h
  have hkx: ∀ n,n∈x.keys->n∉y.keys:=CE i6
  have hnx: ∀ n∈x.news,n∈x.keys:=fun n hn=>List.mem_append_right _ hn
  have cy:=Ac5 (C:=C) (ops:=ops) (o:=y.o) (s1:=apply st x.o x.δ) (s2:=st)
    (fun z hz=>(wP (fun t ht=>CE i2 t (PI.2 ht)) hz).symm) (qG (fun t ht=>CE i2 t (PI.2 ht))).symm
    (fun n hn=>(H5 (fun hk=>CE i4 n hk (by rw[<- hy.rd];exact hn))).symm)
    (fun n hn=>by rw[hy.step]at hn;exact Nr (hyF n hn) (CE h1 n hn) (CE h2 n hn))
    (fun n hn=>by rw[hy.step]at hn;exact hyF n hn)
  have cx:=qX (C:=C) (ops:=ops) (o:=x.o) (s1:=st) (s2:=apply st y.o y.δ)
    (fun z hz=>wP (fun t ht=>CE i3 t (PI.2 ht)) hz) (qG (fun t ht=>CE i3 t (PI.2 ht)))
    (by
      rcases Bool.or_eq_true_iff.1 i5 with i5 | i5
      ·exact pO (fun n hn=>H5 (fun hk=>CE i5 n hk (by rw[<- hx.rd];exact hn)))
      ·exact Aev hx hy i5)
    (fun n hn=>by rw[hx.step]at hn;exact hxF n hn)
    (fun n hn=>by rw[hx.step]at hn;exact Nr (hxF n hn) (CE i7 n hn) (hkx n (hnx n hn)))
  have hst:apply (apply st y.o y.δ) x.o x.δ =apply (apply st x.o x.δ) y.o y.δ :=by
    have e1:(apply (apply st y.o y.δ) x.o x.δ).tmps=(apply (apply st x.o x.δ) y.o y.δ).tmps:=(put_comm st.tmps x.δ.val y.δ.val (fun t ht he=>CE i1 t (PI.2 ht) (PI.2 he))).symm
    have e2:(apply (apply st y.o y.δ) x.o x.δ).Aa=(apply (apply st x.o x.δ) y.o y.δ).Aa:=by
      refine Srt.ext ((hs.apply _ _).apply _ _) ((hs.apply _ _).apply _ _) fun k=> ?_
      by_cases hk:k∈x.keys
      ·have hky:=hkx k hk
       rw[H5 (o:=y.o) (δ :=y.δ) hky,Gq (apply st y.o y.δ),H5 (o:=y.o) (δ :=y.δ) hky,<- Gq st]
      ·rw[H5 (o:=x.o) (δ :=x.δ) hk,Gq (apply st x.o x.δ),H5 (o:=x.o) (δ :=x.δ) hk,<- Gq st]
    generalize apply (apply st y.o y.δ) x.o x.δ =s at *
    generalize apply (apply st x.o x.δ) y.o y.δ =s' at *
    cases s;cases s'
    dsimp only at e1 e2
    rw[e1,e2]
  refine⟨⟨by rw[cy.1,hy.step],by rw[cy.2.1,hy.rd],by rw[cy.2.2,hy.one]⟩,⟨by rw[cx.1,hx.step],by rw[cx.2.1,hx.rd],by rw[cx.2.2,hx.one]⟩,?_⟩
  rw[hst];exact hr
structure Pre (R:List BN) (st:St):Prop where
  srt:Srt st.Aa
  fresh: ∀ z∈R,∀ n∈z.news,st.fresh n=true
  pairs:R.Pairwise (fun y z=>Hg z.news y.says=true/\Hg z.news y.keys=true)
theorem Pre.step {y:BN} {R:List BN} (h:Pre (y::R) st):Pre R (apply st y.o y.δ):=by
  obtain⟨h1,h2⟩:=List.pairwise_cons.1 h.pairs
  exact⟨h.srt.apply _ _,fun z hz n hn=>Nr (h.fresh z (List.mem_cons_of_mem _ hz) n hn) (CE (h1 z hz).1 n hn) (CE (h1 z hz).2 n hn),h2⟩
theorem front {ops:List Oper} {x:BN} {L2:List BN}: ∀(L1:List BN) {st:St},Pre (L1++x::L2) st->(∀ y∈L1,indep ops y x=true)->Xf C ops (L1++x::L2) st st'->Xf C ops (x::(L1++L2)) st st':=by
  intro L1
  induction L1 with
  | nil=>intro st _ _ h;exact h
  | cons y L1 ih =>
    intro st hP hi h
    have h1:=ih (st:=apply st y.o y.δ) (hP.step) (fun z hz=>hi z (List.mem_cons_of_mem _ hz)) h.2
    have hx:x∈L1++x::L2:=List.mem_append_right _ List.mem_cons_self
    obtain⟨p1,_⟩:=List.pairwise_cons.1 hP.pairs
    exact swap (hi y List.mem_cons_self) (hP.fresh y List.mem_cons_self) (hP.fresh x (List.mem_cons_of_mem _ hx)) (p1 x hx).1 (p1 x hx).2 hP.srt ⟨h.1,h1⟩
theorem AcQ {md:Region.Mode} {e:Edge} (h:Region.binds .any e=true):Region.binds md e=true:=by
  unfold Region.binds at h ⊢
  cases hg:e.ground with
  | textOnly r=>rw[hg]at h;cases h
  | gcOnly r=>rw[hg]at h;cases h
  | _=>rfl
theorem MW {ops:List Oper} {i:Nat} {x y:BN} (h:QG ops i x y=true):Hg y.news x.says=true/\Hg y.news x.keys=true/\(i∈y.anc\/indep ops x y=true):=by
  unfold QG at h
  simp only[Bool.and_eq_true,Bool.or_eq_true]at h
  exact⟨h.1.1,h.1.2,h.2.imp Ei.1 id⟩
theorem xC {l:Array Bool} {i:Nat} (h:i<l.size) (b c:Bool):l.getD i b=l.getD i c:=by
  simp [Array.getD_eq_getD_getElem?,h]
theorem AbD {α :Type} (f: α ->Nat): ∀(l:List α),l≠ []-> ∃ x∈l,∀ y∈l,f x<=f y:=by
  intro l
  induction l with
  | nil=>intro h;exact absurd rfl h
  | cons a r ih =>
    intro _
    by_cases hr:r=[]
    ·exact⟨a,List.mem_cons_self,fun y hy=>by rw[hr]at hy;simp at hy;rw[hy];exact Nat.le_refl _⟩
    ·obtain⟨x,hx,hm⟩:=ih hr
     by_cases h:f a<=f x
     ·exact⟨a,List.mem_cons_self,fun y hy=>by
        rcases List.mem_cons.1 hy with rfl | hy
        ·exact Nat.le_refl _
        ·exact Nat.le_trans h (hm y hy)⟩
     ·exact⟨x,List.mem_cons_of_mem _ hx,fun y hy=>by
        rcases List.mem_cons.1 hy with rfl | hy
        ·omega
        ·exact hm y hy⟩
theorem Ae1 {ρ :Type} (hC:DL P C) {ops:Array Oper} {md:Region.Mode} {Q:Exit->Act->World->Prop} {v: ρ} {K:St->Option ρ} (hQ: ∀ O' m' st' a' w',Sim V0 O0 w0 O' m' st' a' w'->K st'=some v->Q .normal a' w')
    {ANC:List (List Nat)} (hanc: ∀(j:Nat) (o:Oper),ops[j]? =some o-> ∀ i∈ANC.getD j [],∃ e∈Ky o,i=e\/i∈ANC.getD e []) {rk:Nat->Nat} (hback: ∀(j:Nat) (o:Oper),ops[j]? =some o-> ∀ e∈o.after,Region.binds md e=true->e.on<ops.size/\rk e.on<rk j) :
    ∀(fuel:Nat) (R:List (Nat×BN)) (listed:Array Bool) {O:Own} {m:Nat->Value} {st:St} {a:Act} {w:World},R.length=fuel->R.Pairwise (fun p q=>p.1<q.1) ->
     (∀ p∈R,ops[p.1]? =some p.2.o/\Ak p.2.δ.ok/\p.2.anc=ANC.getD p.1 [])->listed.size=ops.size->(∀ i,i<ops.size->(listed.getD i true=false↔i∈R.map (·.1))) ->
     (∀ e,listed.getD e false=true-> ∀ i∈ANC.getD e [],listed.getD i false=true)->R.Pairwise (fun p q=>QG ops.toList p.1 p.2 q.2=true)->(∀ p∈R,∀ n∈p.2.news,st.fresh n=true)->Srt st.Aa ->
     Xf C ops.toList (R.map (·.2)) st st'->K st'=some v->Sim V0 O0 w0 O m st a w->wpAny P md ops Q fuel listed a w:=by
  intro fuel
  induction fuel with
  | zero =>
    intro R listed O m st a w hlen _ _ hsz hl _ _ _ _ hruns hK hS
    have hR:R=[]:=List.length_eq_zero_iff.1 hlen
    subst hR
    refine⟨?_,?_⟩
    ·rw[List.eq_nil_iff_forall_not_mem]
     intro i hi
     obtain⟨h1,o,h2,_⟩:=mem_ready.1 hi
     have hlt:=(Array.getElem?_eq_some_iff.1 h2).1
     have:=(hl i hlt).1 h1
     simp at this
    ·have:st=st':=hruns
     subst this
     exact hQ _ _ _ _ _ hS hK
  | succ fuel ih =>
    intro R listed O m st a w hlen hord hops hsz hl hcl hpr hfr hsrt hruns hK hS
    have hin: ∀ p∈R,p.1<ops.size:=fun p hp=>(Array.getElem?_eq_some_iff.1 (hops p hp).1).1
    refine⟨fun hnil=> ?_,fun i hi=> ?_⟩
    ·exfalso
     obtain⟨p,hpR,hmin⟩:=AbD (fun q:Nat×BN=>rk q.1) R (by intro h;rw[h]at hlen;simp at hlen)
     have hp:=hin p hpR
     have:p.1∈Region.ready md ops listed:=by
       refine mem_ready.2 ⟨(hl p.1 hp).2 (List.mem_map.2 ⟨p,hpR,rfl⟩),p.2.o,(hops p hpR).1,fun e he hb=> ?_⟩
       obtain⟨hsize,hlt⟩:=hback _ _ (hops p hpR).1 e he hb
       have hno:e.on∉R.map (·.1):=by
         intro hm
         obtain⟨q,hq,hqe⟩:=List.mem_map.1 hm
         have:=hmin q hq
         rw[hqe]at this
         omega
       have:listed.getD e.on true≠false:=fun h=>hno ((hl e.on hsize).1 h)
       rw[xC (by rw[hsz];exact hsize) false true]
       simpa using this
     rw[hnil]at this;cases this
    ·obtain⟨hi1,oi,hi2,hi3⟩:=mem_ready.1 hi
     have hilt:=(Array.getElem?_eq_some_iff.1 hi2).1
     obtain⟨p,hp,rfl⟩:=List.mem_map.1 ((hl i hilt).1 hi1)
     obtain⟨L1,L2,rfl⟩:=List.append_of_mem hp
     obtain⟨i,x⟩:=p
     dsimp only at hi hi1 hi2 hi3 hilt ⊢
     obtain⟨hx1,hx2,hx3⟩:=hops (i,x) hp
     dsimp only at hx1 hx2 hx3
     have hancl: ∀ j∈ANC.getD i [],listed.getD j false=true:=by
       intro j hj
       obtain⟨e,he,hje⟩:=hanc i _ hx1 j hj
       have hel:listed.getD e false=true:=by
         unfold Ky at he
         obtain⟨ed,hed,hb⟩:=List.mem_filterMap.1 he
         rw[hi2]at hx1;injection hx1 with hx1;subst hx1
         cases hbb:Region.binds .any ed with
         | false=>rw[hbb]at hb;cases hb
         | true =>
           rw[hbb]at hb
           injection hb with hb
           rw[<- hb];exact hi3 ed (by simpa using hed) (AcQ hbb)
       rcases hje with rfl | hje
       ·exact hel
       ·exact hcl e hel j hje
     have hord':=List.pairwise_append.1 hord
     have hpr':=List.pairwise_append.1 hpr
     have hind: ∀ q∈L1,QG ops.toList q.1 q.2 x=true/\indep ops.toList q.2 x=true:=by
       intro q hq
       have hpq:=hpr'.2.2 q hq (i,x) List.mem_cons_self
       dsimp only at hpq
       refine⟨hpq,(MW hpq).2.2.resolve_left fun hm=> ?_⟩
       rw[hx3]at hm
       have h1:=hancl _ hm
       have hqR:q∈L1++(i,x)::L2:=List.mem_append_left _ hq
       have hqlt:=hin q hqR
       have h2:=(hl q.1 hqlt).2 (List.mem_map.2 ⟨q,hqR,rfl⟩)
       rw[xC (by rw[hsz];exact hqlt) true false,h1]at h2
       cases h2
     have hPre:Pre ((L1++(i,x)::L2).map (·.2)) st:=by
       refine⟨hsrt,fun z hz n hn=> ?_,?_⟩
       ·obtain⟨q,hq,rfl⟩:=List.mem_map.1 hz
        exact hfr q hq n hn
       ·rw[List.pairwise_map]
        exact hpr.imp fun h=>⟨(MW h).1,(MW h).2.1⟩
     have hfront:Xf C ops.toList (x::(L1.map (·.2)++L2.map (·.2))) st st':=by
       refine front (L1.map (·.2)) (by simpa using hPre) (fun y hy=> ?_) (by simpa using hruns)
       obtain⟨q,hq,rfl⟩:=List.mem_map.1 hy
       exact(hind q hq).2
     obtain⟨hstep,hrest⟩:=hfront
     have hsub:List.Sublist (L1++L2) (L1++(i,x)::L2):=List.Sublist.append_left (List.sublist_cons_self _ _) _
     have hnext: ∀ O' m' a' w',Sim V0 O0 w0 O' m' (apply st x.o (Bz C ops.toList x.o st)) a' w'->wpAny P md ops Q fuel (listed.setIfInBounds i true) a' w':=by
       intro O' m' a' w' hS'
       rw[hstep.step]at hS'
       refine ih (L1++L2) _ (by simp at hlen ⊢;omega) (hord.sublist hsub) (fun q hq=>hops q (hsub.subset hq)) (by simpa using hsz) (fun j hj=> ?_) (fun e he j hj=> ?_) (hpr.sublist hsub) (fun q hq n hn=> ?_) (hsrt.apply _ _) (by simpa using hrest) hK hS'
       ·by_cases hji:i=j
        ·subst hji
         have h1:(listed.setIfInBounds i true).getD i true=true:=by simp [Array.getD_eq_getD_getElem?,hsz,hj]
         rw[h1]
         refine⟨fun h=>(by cases h),fun h=> ?_⟩
         obtain⟨q,hq,hqi⟩:=List.mem_map.1 h
         rcases List.mem_append.1 hq with hq | hq
         ·have:=hord'.2.2 q hq (i,x) List.mem_cons_self
          dsimp only at this;omega
         ·have:=(List.pairwise_cons.1 hord'.2.1).1 q hq
          dsimp only at this;omega
        ·rw[getD_set_ne true hji,hl j hj]
         simp only[List.map_append,List.map_cons,List.mem_append,List.mem_cons]
         constructor
         ·rintro (h | h | h)
          ·exact .inl h
          ·exact absurd h.symm hji
          ·exact .inr h
         ·rintro (h | h)
          ·exact .inl h
          ·exact .inr (.inr h)
       ·by_cases hei:i=e
        ·subst hei;exact getD_set_true (hancl j hj)
        ·rw[getD_set_ne false hei]at he
         exact getD_set_true (hcl e he j hj)
       ·have hq':=hsub.subset hq
        have hf:=hfr q hq' n hn
        rcases List.mem_append.1 hq with hq | hq
        ·have hi':=(hind q hq).2
         unfold indep at hi'
         simp only[Bool.and_eq_true]at hi'
         exact Nr hf (CE hi'.2 n hn) (CE hi'.1.2 n (List.mem_append_right _ hn))
        ·have hpq:=MW ((List.pairwise_cons.1 hpr'.2.1).1 q hq)
         exact Nr hf (CE hpq.1 n hn) (CE hpq.2.1 n hn)
     have hw:=kW hC hS (ops:=ops) (o:=x.o) (by rw[hstep.step];exact hx2) (wpAny P md ops Q fuel (listed.setIfInBounds i true)) Q hnext
     unfold wpOp
     rw[hx1]
     dsimp only
     split
     ·rename_i hwt;rw[if_pos hwt]at hw;exact .inl hw
     ·rename_i hwt;rw[if_neg hwt]at hw;exact hw
end
