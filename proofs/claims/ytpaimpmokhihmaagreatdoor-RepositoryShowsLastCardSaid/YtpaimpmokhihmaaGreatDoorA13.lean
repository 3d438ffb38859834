import Derived.Test.YtpaimpmokhihmaaGreatDoorA12
import Derived.Orders
set_option linter.all false
namespace Go.Proofs.YtpaimpmokhihmaaGreatDoor.Vm
open Classical
def rv:Nat×Option Nat->ResultVar
 | (t,none)=>.tmp t
 | (a,some ty)=>.cell a ty
def iF (tmps:Array Value):ResultVar->Sem Value
 | .tmp t=>pure (tmps.getD t undef)
 | .cell a t=>do loadVar t (<- asAddr (tmps.getD a undef))
def Agj {P:Program} {w:World} {α :Type} {g: α ->Sem Value}: ∀(l:List α) (f:Nat->Value),(∀(j:Nat) (x: α),l[j]? =some x->(g x).run P w= .ok (f j) w)->(l.mapM g).run P w= .ok ((List.range l.length).map f) w:=by
 intro l
 induction l with
 | nil=>intro f _;simp
 | cons x r ih =>intro f h;have h1:=ih (fun j=>f (j+1)) (fun j y hy=>h (j+1) y (by simpa using hy));have h2:=h 0 x rfl;rw[FO];simp only[Dv,h2,Result.andThen_ok,h1,Sem.run_pure,List.length_cons,List.range_succ_eq_map,Ec,EP];rfl
def vW (us:Array Value):Value:=if h:us.size=1 then us[0]else .tuple us
def Ac4 {P:Program} {w:World} {fn:Func} {outs:List (Nat×Option Nat)} {tmps:Array Value} (h:fn.results=(outs.map rv).toArray) (f:Nat->Value) (hf: ∀(j:Nat) (q:Nat×Option Nat),outs[j]? =some q->(iF tmps (rv q)).run P w= .ok (f j) w) :
 (results fn tmps).run P w= .ok (vW ((List.range outs.length).map f).toArray) w:=by
 have e:results fn tmps=(do let vs <- fn.results.mapM (iF tmps);pure (vW vs)):=by
  have e0:iF tmps=(fun | .tmp t=>pure (tmps.getD t undef) | .cell a t=>do loadVar t (<- asAddr (tmps.getD a undef))):=by funext x;cases x<;>rfl
  unfold results vW;rw[e0];rfl
 rw[e,h,List.mapM_toArray]
 have:=Agj (P:=P) (w:=w) (g:=iF tmps) (outs.map rv) f (fun j x hx=>by
  rw[DV]at hx;cases hq:outs[j]? with
  | none=>rw[hq]at hx;cases hx
  | some q=>rw[hq]at hx;injection hx with hx;rw[<- hx];exact hf j q hq)
 all_goals simp_all[rv,iF,vW]
section
variable {P:Program} {C:Ctx} {V0:Nat->Value} {O0 O:Own} {w0 w:World} {m:Nat->Value} {st:St} {a:Act}
theorem Aee {Jp:List Sh} {i:Nat} {s:Sh} (h:Jp[i]? =some s) (hb:JP s=true):(Jp.map MZ)[i]? =some (MZ s)/\JP (MZ s)=true/\JP (Jp.getD i (.agg []))=true/\i<Jp.length:=by
 have hi:i<Jp.length:=by all_goals grind[Sh,JP,MZ]
 refine⟨(by rw[DV,h];rfl),(by cases s<;>first | rfl | (cases hb;done)),?_,hi⟩;rw[Di,h];exact hb
theorem AeJ {Jp Jz:List Sh} {outs:List (Nat×Option Nat)} {rs:List A} {vs:Array Value} {sg:Sig} {fn:Func} (hC:TOk P C) (hfn:fn.results=(outs.map rv).toArray) (hp:sg.Jp=Jp) (hr:sg.Jz=Jz) (h100:Jp.length<=100)
 (hptr: ∀ i,i<Jp.length->JP (Jp.getD i (.agg []))=true->(innerS w0 (Jp.getD i (.agg [])) (vs.getD i undef)).oneCell'=true)
 (hS:Sim (fun o=>innerS w0 (Jp.getD (o / 256) (.agg [])) (vs.getD (o / 256) undef)) O0 w0 O m st a w) (h:finish C Jp Jz outs st=some rs) :
 ∃ v O',(results fn a.tmps).run P w= .ok v w/\Came O0 w0 vs sg rs v O' w:=by
 obtain⟨hok,hrs⟩:=PH h;injection hrs with hrs;obtain⟨hokA,hokO⟩:=hok.append;obtain⟨hokA,hokB⟩:=hokA.append;obtain⟨hok1,hok2⟩:=hokA.append;have hnd:=hokB.cons.1;have hwr:=hokB.cons.2.cons.1;have hf:MP st.Jm st.Jm:=fun _ _ h=>h;generalize hN:LH st.Jm 256000 256 Jz (MR C outs st)++LH st.Jm 0 256 (Jp.map MZ) (Nq Jp 0)=N at *
 have hout: ∀ j:Nat,∃ u:Value,∀ q,outs[j]? =some q->(iF a.tmps (rv q)).run P w= .ok u w/\Jw O st.Jm m w u (lK C st q).2:=by
  intro j;cases hj:outs[j]? with
  | none=>exact⟨undef,fun q hq=>by cases hq⟩
  | some q =>
   have hqok:Jv (lK C st q).1:=fun b hb=>hokO b (DW.2 ⟨q,Fp hj,hb⟩);obtain⟨t,ty⟩:=q;cases ty with
   | none =>have hlt:=hqok.cons.1;rw[DY]at hlt;exact⟨a.tmps.getD t undef,fun q hq=>by injection hq with hq;subst hq;exact⟨rfl,hS.tmps t hlt⟩⟩
   | some ty =>
    have hq2:Jv (Nat.blt t st.tmps.length::(Rw C st.Jm ty (st.tmps.getD t .undef)).ok):=hqok;obtain⟨hlt,hld⟩:=hq2.cons;rw[DY]at hlt;obtain⟨u,hu1,hu2⟩:=(wO (o:= {(default:Oper)with op:=.load ty (.tmp t)}) hC (fun q x hq=>⟨hq,hS.Jm q x hq⟩) rfl (kV hS (.tmp t)) hld).run;refine⟨u,fun q hq=> ?_⟩;injection hq with hq;subst hq;refine⟨?_,hu2⟩;have hev:a.eval (.tmp t)=a.tmps.getD t undef:=by simp [Act.eval]
    simp only[execOp,Instr.loadAt,hev]at hu1;show(do loadVar ty (<- asAddr (a.tmps.getD t undef)):Sem Value).run P w=_;generalize a.tmps.getD t undef=z at hu1 ⊢;cases z with
    | pointer p =>
     cases p with
     | none=>simp [Instr.sureAddr]at hu1
     | some ad =>
      simp only[asAddr,Dv,Sem.run_pure,Result.andThen_ok];simp only[Instr.sureAddr,pure_bind,Dv,Sem.run_pure]at hu1;cases hl:(loadVar ty ad).run P w with
      | ok x w2 =>rw[hl]at hu1;simp only[Result.andThen_ok,Sem.run_pure,Result.ok.injEq,Next.value.injEq]at hu1;rw[hu1.1,hu1.2]
      | halt x w2=>rw[hl]at hu1;simp [Result.andThen]at hu1
    | _=>simp [Instr.sureAddr]at hu1
 obtain⟨fv,hfv⟩:=EZ hout
 obtain⟨g1,g2,g3,_,g5⟩:=Ul (W:=(J7 st.Jm Jz (MR C outs st)).2.2.1++(J7 st.Jm (Jp.map MZ) (Nq Jp 0)).2.2.1=[]) hf hS.Jm 256 Jz (MR C outs st) 256000 fv (fun e=>by rw[e]at hwr;simpa using hwr) (fun j hj=>by
  have hj':j<outs.length:=by simpa [MR]using hj
  have e:(MR C outs st).getD j .undef=(lK C st outs[j]).2:=by simp [MR,Di,hj']
  rw[e];exact(hfv j _ (D7 hj')).2) hok1
 have hmaskl:(Jp.map MZ).length=Jp.length:=by simp
 obtain⟨k1,k2,k3,_,k5⟩:=Ul (W:=(J7 st.Jm Jz (MR C outs st)).2.2.1++(J7 st.Jm (Jp.map MZ) (Nq Jp 0)).2.2.1=[]) hf hS.Jm 256 (Jp.map MZ) (Nq Jp 0) 0 (fun j=>if JP (Jp.getD j (.agg []))then innerS w0 (Jp.getD j (.agg [])) (vs.getD j undef)else .bool true) (fun e=>by rw[e,Gl]at hwr;simpa using hwr) (fun j hj=>by
  have hj':j<Jp.length:=by rw[AaW]at hj;exact hj
  rw[AdI Jp 0 j hj',DD];have hroot:Sj (256*j)=true:=by unfold Sj;rw[Dn,DY];refine⟨by omega,?_⟩;rw[Nat.mul_mod_right];rfl
  have hrt: ∀ x,Jr st.Jm (256*j)=some x->m (256*j)=innerS w0 (Jp.getD j (.agg [])) (vs.getD j undef):=fun x hx=>by have:=hS.root (256*j) hroot (by rw[hx];rfl);rw[Nat.mul_div_cancel_left j (by decide)]at this;exact this
  have hp:=hptr j hj';generalize Jp.getD j (.agg [])=s at hp hrt ⊢;cases s with
  | box ks =>
   rw[Dw (show JP (Sh.box ks)=true from rfl)];refine⟨hp rfl,?_⟩;cases hx:Jr st.Jm (256*j)with
   | none=>trivial
   | some x =>
    cases x with
    | arr _ _ _=>trivial
    | mp _=>trivial
    | box cs =>obtain⟨b,base,h1,_⟩:=hS.Jm _ _ hx;exact⟨b,base,h1,by rw[<- hrt _ hx,h1];rfl⟩
  | clo f' ks =>
   rw[Dw (show JP (Sh.clo f' ks)=true from rfl)];refine⟨hp rfl,?_⟩;cases hx:Jr st.Jm (256*j)with
   | none=>trivial
   | some x =>
    cases x with
    | arr _ _ _=>trivial
    | mp _=>trivial
    | box cs =>obtain⟨b,base,h1,_⟩:=hS.Jm _ _ hx;exact⟨b,base,h1,by rw[<- hrt _ hx,h1];rfl⟩
  | map kt vt =>
   rw[Dw (show JP (Sh.map kt vt)=true from rfl)];refine⟨hp rfl,?_⟩;cases hx:Jr st.Jm (256*j)with
   | none=>trivial
   | some x =>
    cases x with
    | box _=>trivial
    | arr _ _ _=>exact(hrt _ hx).symm
    | mp _=>exact(hrt _ hx).symm
  | cell u k=>rw[Du (show ¬ JP (Sh.cell u k)=true from fun h=>by cases h)];exact Jt.bool true
  | agg ks=>rw[Du (show ¬ JP (Sh.agg ks)=true from fun h=>by cases h)];exact Jt.bool true) hok2
 obtain⟨O1,hS1,hp1,_,hv1,_,hk1⟩:=hS.freezes _ (g3.append k3);have hρ : ∀ p∈N,look N p.1=some p.2:=AaU hnd
 have halive: ∀ p∈N,(Jr st.Jm p.1).isSome:=by
  intro p hp';rw[<- hN]at hp';rcases DJ.1 hp' with hp' | hp'
  .exact Un _ _ _ hok1 p hp'
  .exact Un _ _ _ hok2 p hp'
 generalize hU:(J7 st.Jm Jz (MR C outs st)).2.2.1++(J7 st.Jm (Jp.map MZ) (Nq Jp 0)).2.2.1=U at *
 have hFU:Frz st.Jm U:=by rw[<- hU];exact g3.append k3
 have hupdO: ∀ p∈U,Kv O1 (J3 st.Jm U) m w p.1 p.2:=by intro p hp;obtain⟨x,hx1,hx2⟩:=MC U st.Jm p.1 ⟨p,hp,rfl⟩;obtain⟨e,fz,l,k1,k2⟩:=hFU p hp;obtain⟨e',fz',l',k3,k4⟩:=hFU _ hx1;dsimp only at k3 k4;rw[k1]at k3;injection k3 with k3;injection k3 with q1 q2 q3;subst q1;subst q3;rw[k2,<- k4];exact hS1.Jm p.1 x hx2
 have hR:=g5 (ρ :=look N) hp1 (fun p hp=>hv1 p (by rw[<- hU];exact Dz _ hp)) (fun p hp=>hupdO p (by rw[<- hU];exact Dz _ hp)) hk1 (fun p hp=>hρ p (by rw[<- hN];exact Dz _ hp));have hB:=k5 (ρ :=look N) hp1 (fun p hp=>hv1 p (by rw[<- hU];exact Dy _ hp)) (fun p hp=>hupdO p (by rw[<- hU];exact Dy _ hp)) hk1 (fun p hp=>hρ p (by rw[<- hN];exact Dy _ hp));have hol:outs.length=Jz.length:=by rw[<- g2];simp [MR]
 refine⟨_,LZ O1 (look N),Ac4 hfn fv (fun j q hq=>(hfv j q hq).1),hS1.frame,fun b k hb hne=>hS1.less b k hb (fun e=>hne (RY.2 e)),fun b k hb hj=> ?_,?_,?_,?_⟩
 .have:=hS1.VF b k hb hj;unfold LZ;rw[this];dsimp only;cases hl:look N 255 with
  | none=>rfl
  | some i =>have h1:=halive _ (dM hl);obtain⟨x,hx⟩:=Eg.1 h1;exact absurd rfl (hS.ids 255 x hx)
 .rw[<- hrs,hp,hr];simp [g1]
 .refine⟨((List.range outs.length).map fv).toArray,by rw[hr];simp [hol],rfl,fun k hk=> ?_⟩;have hk':k<outs.length:=by simpa using hk
  have hus:(((List.range outs.length).map fv).toArray).getD k undef=fv k:=by simp [Dj,hk']
  rw[hus];have:=hR k (by rw[<- hol];exact hk');have e:rs.getD k .undef=(J7 st.Jm Jz (MR C outs st)).2.1.getD k .undef:=by rw[<- hrs,Di,DU (by rw[g1,<- hol];exact hk'),<- Di]
  rw[e];exact this
 .intro j i hji;rw[hp]at hji;obtain⟨r,s,h1,h2,h2'⟩:=AcZ Jp 0 j i hji;rw[DD]at h1;subst h1;obtain⟨h3,h3',h4,h5⟩:=Aee h2 h2';have h6:=AaD _ _ hok2 i _ h3 h3';have e:rs.getD (sg.Jz.length+j) .undef=unbox ((J7 st.Jm (Jp.map MZ) (Nq Jp 0)).2.1.getD i .undef):=by rw[<- hrs,hr,Di,Ea (by rw[g1];omega),g1,EY,DV,hji];rfl
  rw[e,h6,hp];have:=hB i (by rw[hmaskl];exact h5);rw[DD,Dw h4]at this;exact this
theorem Af2 {ρ :Type} {o: ρ} {fin:St->Option ρ} (hC:LX P C) (N:Nat)
 (hdraw: ∀ {C:Ctx},LX P C-> ∀ {ρ :Type} {V0:Nat->Value} {O0:Own} {w0:World} {fin:St->Option ρ} {v: ρ} (id:Nat) (ops:Array Oper) {O:Own} {m:Nat->Value} {st:St} {a:Act} {w:World} (K:Ex->St->Option ρ),Sim V0 O0 w0 O m st a w->Ph C ops.toList st=true->QF C ops.toList ops.toList st (fun st'=>K .normal st')=some v ->
   (Code.region id ops true).wp P (Post V0 O0 w0 fin K v) a w)
 {f:FuncId} {fn:Func} {code:Code} {outs:List (Nat×Option Nat)} {sg:Sig} (hf:P.funcs[f]? =some fn) (hb:fn.body=some code) (hout:fn.results=(outs.map rv).toArray)
 {vs:Array Value} {xs rs:List A} (hI:Inv O w) (hv:vs.size=xs.length) (hl:xs.length=sg.Jp.length) (h100:xs.length<=100) (hx: ∀ j,j<xs.length->IR O w (256*j) (vs.getD j undef) (xs.getD j .undef))
 (h:runK C N sg.Jp fn.ntmps code fin xs=some o) (hrs: ∀ st,fin st=some o->finish C sg.Jp sg.Jz outs st=some rs) :
 Calls P f vs w fun e w'=> ∃ v O',e= .returned v/\Came O w vs sg rs v O' w':=by
 obtain⟨hok,h⟩:=PH h;obtain⟨hok1,hok2⟩:=hok.append;obtain⟨hnd,hok2⟩:=hok2.cons;have h255:=hok2.cons.1;rw[Em]at h255;have hS:=AeK (n:=fn.ntmps) hI hv hl hx hok1 hnd h255
 have hptr: ∀ i,i<sg.Jp.length->JP (sg.Jp.getD i (.agg []))=true->(innerS w (sg.Jp.getD i (.agg [])) (vs.getD i undef)).oneCell'=true:=by
  intro i hi hb;have hi':i<xs.length:=by rw[hl];exact hi
  have hbk:Jv (back (256*i) (sg.Jp.getD i (.agg [])) (xs.getD i .undef)).1:=by
   have key: ∀(ss:List Sh) (j0 i:Nat),i<ss.length->Jv (JX 0 256 ss xs j0).1->Jv (back (0+256*(j0+i)) (ss.getD i (.agg [])) (xs.getD (j0+i) .undef)).1:=by
    intro ss
    induction ss with
    | nil=>intro j0 i h;simp at h
    | cons s ss ih =>
     intro j0 i h hok;simp only[JX]at hok;obtain⟨h1,h2⟩:=hok.append;cases i with
     | zero=>simpa using h1
     | succ i =>have:=ih (j0+1) i (by simpa using h) h2;rw[show j0+1+i=j0+(i+1)from by omega]at this;simpa using this
   have:=key sg.Jp 0 i hi hok1;rw[DD,DD]at this;exact this
  have hir:=hx i hi';generalize sg.Jp.getD i (.agg [])=s at hb hbk;cases s with
  | box ks =>
   simp only[back]at hbk;have h2:=hbk.cons.2.cons.1;generalize xs.getD i .undef=x at h2 hir;cases x with
   | box cs =>obtain⟨b,base,h3,_⟩:=hir;rw[h3];rfl
   | _=>cases h2
  | clo f' ks =>
   simp only[back]at hbk;have h2:=hbk.cons.2.cons.1;generalize xs.getD i .undef=x at h2 hir;cases x with
   | cbx g cs =>obtain⟨b,base,h3,_⟩:=hir;rw[show innerS w (.clo f' ks) (vs.getD i undef)=_ from h3.inner (ks:=ks)];rfl
   | _=>cases h2
  | map kt vt =>
   obtain⟨l,hl',_,_⟩:=VE (show A.WR kt vt _=true from hbk.cons.1);rw[hl']at hir;obtain⟨r,_,_,h3,_⟩:=(show LK O w _ _ l from hir)
   rw[h3];rfl
  | _=>cases hb
 refine calls_of_wp hf hb (Gq (Adh hC N (fun hC'=>hdraw hC') code hS h) fun e a' w' hq=> ?_);have fin':(∃ O' m' st',Sim (fun o=>innerS w (sg.Jp.getD (o / 256) (.agg [])) (vs.getD (o / 256) undef)) O w O' m' st' a' w'/\fin st'=some o)->a'.defers=[]/\ ∃ v,(results fn a'.tmps).run P w'= .ok v w'/\ ∃ v' O',Ending.returned v= .returned v'/\Came O w vs sg rs v' O' w':=by rintro ⟨O',m',st',hS',hfin⟩;obtain⟨v,O2,hres,hcame⟩:=AeJ (sg:=sg) hC.T hout rfl rfl (by rw[<- hl];exact h100) hptr hS' (hrs st' hfin);exact⟨hS'.defers,v,hres,v,O2,rfl,hcame⟩
 cases e with
 | normal=>exact fin' hq
 | ret=>exact fin' hq
 | exit id =>obtain⟨O',m',st',_,h'⟩:=hq;cases h'
 | goto l=>exact hq.elim
 | panic ch=>exact hq.elim
 | outgrown=>exact hq.elim
end
section
variable {P:Program} {C:Ctx} {V0:Nat->Value} {O0 O:Own} {w0 w:World} {m:Nat->Value} {st:St} {a:Act}
theorem Lc {a b:List Nat} (h:Pz a b=true): ∀ n∈a,n∉b:=by intro n hn hb;have:=DI.1 h n hn;rw[MS.2 hb]at this;cases this
def lastOf:List (Nat×Obj)->Nat->Option Obj
 | [],_=>none
 | (n,x)::r,k=>match lastOf r k with
  | some y=>some y
  | none=>if n=k then some x else none
theorem jT {u:List (Nat×Obj)} {k:Nat} (h:k∉u.map (·.1)):lastOf u k=none:=by
 induction u with
 | nil=>rfl
 | cons p r ih=>grind[lastOf]
theorem jJ (u:List (Nat×Obj)): ∀(l:List (Nat×Obj)) (k:Nat),Jr (J3 l u) k=match lastOf u k with | some x=>some x | none=>Jr l k:=by
 induction u with
 | nil=>intro l k;rfl
 | cons p r ih=>grind[J3,JL,lastOf]
theorem OB (st:St) (o:Oper) (δ :Dl) (k:Nat):Jr (apply st o δ).Jm k=match lastOf δ.new k with
 | some x=>some x
 | none=>if k∈ δ.del then none else match lastOf δ.upd k with
  | some x=>some x
  | none=>Jr st.Jm k:=by
 unfold apply;dsimp only;rw[jJ,Pm,jJ]
theorem PG {st:St} {o:Oper} {δ :Dl} {k:Nat} (h:k∉ δ.upd.map (·.1)++ δ.del++ δ.new.map (·.1)):Jr (apply st o δ).Jm k=Jr st.Jm k:=by grind[OB,jT]
def Srt:List (Nat×Obj)->Prop:=List.Pairwise (fun p q=>p.1<q.1)
theorem Aef: ∀ {l:List (Nat×Obj)},sorted l=true->Srt l:=by
 intro l
 induction l with
 | nil=>intro _;exact List.Pairwise.nil
 | cons p r ih =>
  intro h;cases r with
  | nil=>exact FK _ _
  | cons q r =>
   obtain⟨n,x⟩:=p;obtain⟨k,y⟩:=q;simp only[sorted,Dn,DY]at h;have hr:=ih h.2;refine List.Pairwise.cons (fun q hq=> ?_) hr;rcases Dx.1 hq with rfl | hq
   .exact h.1
   .exact Nat.lt_trans h.1 ((Ep.1 hr).1 q hq)
theorem Srt.OA {l:List (Nat×Obj)} (h:Srt l) (n:Nat):Srt (Vm.OA l n):=by
 induction l with
 | nil=>exact h
 | cons p r ih =>
  obtain⟨k,x⟩:=p;obtain⟨h1,h2⟩:=Ep.1 h;rw[aC];split
  .exact ih h2
  .exact List.Pairwise.cons (fun q hq=>h1 q (lI hq)) (ih h2)
theorem Srt.Ug {l:List (Nat×Obj)} (h:Srt l) {n:Nat} (y:Obj) (hn:Jr l n=none):Srt (Vm.Ug l n y):=by
 induction l with
 | nil=>exact FK _ _
 | cons p r ih =>
  obtain⟨k,x⟩:=p;obtain⟨h1,h2⟩:=Ep.1 h;rw[LU]at hn;have hkn:k≠n:=fun e=>by rw[Dw e]at hn;cases hn
  rw[Du hkn]at hn;simp only[Vm.Ug];cases hle:Nat.ble n k with
  | true =>have:=D6 hle;refine List.Pairwise.cons (fun q hq=> ?_) h;all_goals grind[Obj,Srt,Jr]
  | false =>
   have hlt:k<n:=by
    rcases DN k n with h | h
    .exact h
    .rw[Nat.ble_eq_true_of_le h]at hle;cases hle
   refine List.Pairwise.cons (fun q hq=> ?_) (ih h2 hn);rcases AaY hq with rfl | hq
   .exact hlt
   .exact h1 q hq
theorem Srt.KG {l:List (Nat×Obj)} (h:Srt l) (n:Nat) (y:Obj):Srt (Vm.KG l n y):=(h.OA n).Ug y (by rw[WL,Dw rfl])
theorem Srt.J3: ∀(u:List (Nat×Obj)) {l:List (Nat×Obj)},Srt l->Srt (Vm.J3 l u):=by
 intro u
 induction u with
 | nil=>intro l h;exact h
 | cons p r ih=>intro l h;obtain⟨n,x⟩:=p;exact ih (h.KG n x)
theorem Srt.JK: ∀(u:List Nat) {l:List (Nat×Obj)},Srt l->Srt (Vm.JK l u):=by
 intro u
 induction u with
 | nil=>intro l h;exact h
 | cons n r ih=>intro l h;exact ih (h.OA n)
theorem Srt.apply {st:St} (h:Srt st.Jm) (o:Oper) (δ :Dl):Srt (Vm.apply st o δ).Jm:=((h.J3 δ.upd).JK δ.del).J3 δ.new
theorem TB {n:Nat} {x:Obj} {r:List (Nat×Obj)}:Jr ((n,x)::r) n=some x:=by rw[LU,Dw rfl]
theorem AcJ {l:List (Nat×Obj)} {k:Nat} (h: ∀ p∈l,k<p.1):Jr l k=none:=by
 cases hx:Jr l k with
 | none=>rfl
 | some x=>exact absurd (h _ (kP hx)) (Nat.lt_irrefl _)
theorem Srt.ext: ∀ {l l':List (Nat×Obj)},Srt l->Srt l'->(∀ k,Jr l k=Jr l' k)->l=l':=by
 intro l
 induction l with
 | nil =>
  intro l' _ _ h;cases l' with
  | nil=>rfl
  | cons p r=>grind[TB,Obj,Srt,Jr]
 | cons p r ih =>
  intro l' h1 h2 h;obtain⟨n,x⟩:=p;cases l' with
  | nil=>grind[TB,Obj,Srt,Jr]
  | cons q r' =>
   obtain⟨k,y⟩:=q;obtain⟨a1,a2⟩:=Ep.1 h1;obtain⟨b1,b2'⟩:=Ep.1 h2;have hnk:n=k:=by all_goals grind[TB,AcJ,a1]
   subst hnk;have hx:=h n;rw[TB,TB]at hx;injection hx with hx;subst hx;rw[ih a2 b2' (fun j=> ?_)];by_cases hj:n=j
   .grind[AcJ,a1]
   .have:=h j;rw[LU,LU,Du hj,Du hj]at this;exact this
theorem put_comm (tmps:List A) {d e:Option Tmp} (x y:A) (h: ∀ t,d=some t->e≠some t):put (put tmps d x) e y=put (put tmps e y) d x:=by
 cases d with
 | none=>rfl
 | some d =>
  cases e with
  | none=>rfl
  | some e =>have:d≠e:=fun he=>h d rfl (by rw[he]);exact List.set_comm _ _ this
theorem AcR (tmps:List A) {d:Option Tmp} (x:A) {t:Nat} (h:d≠some t):(put tmps d x).getD t .undef=tmps.getD t .undef:=by
 cases d with
 | none=>rfl
 | some d=>grind[put]
theorem Vk {o:Oper} {t:Nat}:t∈Tt o↔o.dst=some t:=by grind[Tt]
theorem Aa0 {ops:List Oper} {o:Oper} {tmps:List A} {d:Option Tmp} {v:A} (h: ∀ t,d=some t->t∉slotsOf ops o) {x:Operand} (hx:x∈o.op.operands):JY (put tmps d v) x=JY tmps x:=by
 cases x with
 | tmp t =>refine AcR tmps v fun hd=>h t hd ?_;exact Dz _ (Gm.2 ⟨.tmp t,by simpa using hx,rfl⟩)
 | _=>rfl
theorem wK {ops:List Oper} {o:Oper} {tmps:List A} {d:Option Tmp} {v:A} (h: ∀ t,d=some t->t∉slotsOf ops o):guardOf ops (put tmps d v) o.guard=guardOf ops tmps o.guard:=by
 cases hg:o.guard with
 | none=>rfl
 | some p =>
  obtain⟨j,want⟩:=p;unfold guardOf;dsimp only;cases hj:ops[j]? with
  | none=>rfl
  | some oj =>
   dsimp only;cases hd:oj.dst with
   | none=>rfl
   | some t =>dsimp only;rw[AcR tmps v (t:=t) (fun hd'=>h t hd' (by unfold slotsOf;refine Dy _ ?_;rw[hg];dsimp only;rw[hj];dsimp only;rw[hd];simp))]
theorem Acf {Jm objs':List (Nat×Obj)}: ∀(l:List Nat),(∀ n∈l,Jr Jm n=Jr objs' n)->fetch Jm l=fetch objs' l:=by
 intro l
 induction l with
 | nil=>intro _;rfl
 | cons n r ih=>grind[fetch]
theorem Aag {op:Op} {vs:List A} (h:XA op vs=true):(∃ x,op= .move x)\/(∃ x,op= .assign x)\/ ∃ t x k q,op= .load t x/\vs=[.clo k q]:=by unfold XA at h;all_goals grind[split]
theorem TP {α :Type} {x:Option α} {k: α ->Dl} (h: ∀ y,(k y).upd=[]):(JG x k).upd=[]:=by
 cases x with
 | none=>rfl
 | some y=>exact h y
theorem Qu (s:St) (q off:Nat):Jr (JI s [.ptr q off]) q=Jr s.Jm q:=by show Jr (fetch s.Jm [q]++fetch s.Jm ((fetch s.Jm [q]).flatMap (fun p=>p.2.ids))) q=_;all_goals grind[Jr,fetch,LU]
theorem aF {o:Oper} {vs:List A} {q:Nat} (h:SE o.op vs=some q): ∃ off,vs=[.ptr q off]/\ ∀ f f',KQ f q=KQ f' q->opX C o vs f=opX C o vs f'/\(opX C o vs f).upd=[]:=by
 obtain⟨dst,op,ty,pos,after,guard⟩:=o;dsimp only at h;unfold SE at h;split at h
 .injection h with h;subst h;refine⟨_,rfl,fun f f' hb=> ?_⟩;unfold opX;dsimp only[a1];unfold QQ;dsimp only;rw[hb];exact⟨rfl,by unfold JG;split<;>rfl⟩
 .injection h with h;subst h;refine⟨_,rfl,fun f f' hb=> ?_⟩;unfold opX;dsimp only[a1];unfold PY Ti;dsimp only;rw[hb];refine⟨rfl,?_⟩;unfold KN;refine TP fun ti=>TP fun p=> ?_;exact TP (fun _=>rfl)
 .injection h with h;subst h;refine⟨_,rfl,fun f f' hb=> ?_⟩;unfold opX;dsimp only[a1];unfold Rw;dsimp only;rw[hb];refine⟨rfl,?_⟩;unfold KN;exact TP fun ti=>TP fun _=>rfl
 .cases h
theorem wU {ops:List Oper} {o:Oper} {s1 s2:St} (hE: ∀ x∈o.op.operands,JY s2.tmps x=JY s1.tmps x) (hG:guardOf ops s2.tmps o.guard=guardOf ops s1.tmps o.guard)
 (key:(opX C o (JM o s1) (JI s2 (JM o s1))=opX C o (JM o s1) (JI s1 (JM o s1))/\(∀ f,(opX C o (JM o s1) f).upd=[])/\KI o s2 (JM o s1)=KI o s1 (JM o s1))\/(JI s2 (JM o s1)=JI s1 (JM o s1)/\KI o s2 (JM o s1)=KI o s1 (JM o s1))) (h1: ∀ n∈(JR C ops o s1).new.map (·.1),s1.fresh n=true) (h2: ∀ n∈(JR C ops o s1).new.map (·.1),s2.fresh n=true) :
 JR C ops o s2=JR C ops o s1/\KI o s2 (JM o s2)=KI o s1 (JM o s1)/\JM o s2=JM o s1:=by
 have hmap:o.op.operands.toList.map (JY s2.tmps)=o.op.operands.toList.map (JY s1.tmps):=Es fun x hx=>hE x (by simpa using hx);have hvs:JM o s2=JM o s1:=by unfold JM;rw[hmap]
 have hop:opX C o (JM o s1) (JI s2 (JM o s1))=opX C o (JM o s1) (JI s1 (JM o s1)):=by
  rcases key with h | h
  .exact h.1
  .rw[h.1]
 refine⟨?_,by rw[hvs];rcases key with h | h;exact h.2.2;exact h.2,hvs⟩
 have hpl: ∀ pre,(∀ n∈(OH C o s1 pre).new.map (·.1),s1.fresh n=true)->(∀ n∈(OH C o s1 pre).new.map (·.1),s2.fresh n=true)->OH C o s2 pre=OH C o s1 pre:=by
  intro pre h1 h2;unfold OH at h1 h2 ⊢;rw[hmap];dsimp only at h1 h2 ⊢;rw[show opX C o (Kr o.op (o.op.operands.toList.map (JY s1.tmps))).2 (JI s2 (Kr o.op (o.op.operands.toList.map (JY s1.tmps))).2)=opX C o (Kr o.op (o.op.operands.toList.map (JY s1.tmps))).2 (JI s1 (Kr o.op (o.op.operands.toList.map (JY s1.tmps))).2)from hop];generalize opX C o (Kr o.op (o.op.operands.toList.map (JY s1.tmps))).2 (JI s1 (Kr o.op (o.op.operands.toList.map (JY s1.tmps))).2)= δ at *
  have a1: δ.new.all (fun p=>s1.fresh p.1)=true:=DI.2 fun p hp=>h1 p.1 (D8.2 ⟨p,hp,rfl⟩);have a2: δ.new.all (fun p=>s2.fresh p.1)=true:=DI.2 fun p hp=>h2 p.1 (D8.2 ⟨p,hp,rfl⟩);rw[a1,a2]
 unfold JR at h1 h2 ⊢;rw[hG,hmap];have hfa':opX C o (Kr o.op (o.op.operands.toList.map (JY s1.tmps))).2 (JI s2 (Kr o.op (o.op.operands.toList.map (JY s1.tmps))).2)=opX C o (Kr o.op (o.op.operands.toList.map (JY s1.tmps))).2 (JI s1 (Kr o.op (o.op.operands.toList.map (JY s1.tmps))).2):=hop;cases hg:guardOf ops s1.tmps o.guard with
 | none=>rfl
 | some r =>
  cases r with
  | some g =>
   rw[hg]at h1 h2;dsimp only at h1 h2 ⊢;cases hde:Adm C o with
   | some b =>
    rw[hde]at h1 h2;cases b with
    | true=>exact hpl _ h1 h2
    | false=>rfl
   | none =>
   dsimp only;rcases key with h | h
   .have hu:=h.2.1 (JI s1 (JM o s1));rw[hfa'];have hu':(opX C o (Kr o.op (o.op.operands.toList.map (JY s1.tmps))).2 (JI s1 (Kr o.op (o.op.operands.toList.map (JY s1.tmps))).2)).upd=[]:=hu;simp only[hu',ED]
   .grind[JI,Kr,JY,guardOf,opX,JM,KI,JR]
  | none =>rw[hg]at h1 h2;exact hpl _ h1 h2
theorem vZ {o:Oper} {s1 s2:St} (hF: ∀ n∈KI o s1 (JM o s1),Jr s2.Jm n=Jr s1.Jm n) :
 (opX C o (JM o s1) (JI s2 (JM o s1))=opX C o (JM o s1) (JI s1 (JM o s1))/\(∀ f,(opX C o (JM o s1) f).upd=[])/\KI o s2 (JM o s1)=KI o s1 (JM o s1))\/(JI s2 (JM o s1)=JI s1 (JM o s1)/\KI o s2 (JM o s1)=KI o s1 (JM o s1)):=by
 unfold KI at hF ⊢;cases hm:XA o.op (JM o s1)with
 | true =>
  have hu: ∀(v:List A),(a1 (fun a=>.v a) v).upd=[]:=fun v=>by
   cases v with
   | nil=>rfl
   | cons x r=>cases r<;>rfl
  rcases Aag hm with ⟨x,e⟩ | ⟨x,e⟩ | ⟨t,x,k,q,e,ev⟩
  .grind[opX]
  .grind[opX]
  .have hl: ∀ f,(Rw C f t (.clo k q)).upd=[]:=fun f=>by
    unfold Rw KN JG;cases C.T t<;>rfl
   exact .inl ⟨by unfold opX;rw[e,ev];rfl,fun f=>by unfold opX;rw[e,ev];exact hl f,rfl⟩
 | false =>
  rw[hm]at hF;cases h1':SE o.op (JM o s1)with
  | some q =>rw[h1']at hF;have hq:Jr s2.Jm q=Jr s1.Jm q:=hF q (Ej.2 rfl);obtain⟨off,ev,hO⟩:=aF (C:=C) h1';refine .inl ⟨(hO _ _ ?_).1,fun f=>(hO f f rfl).2,rfl⟩;rw[ev];unfold KQ;rw[Qu,Qu,hq]
  | none =>
  all_goals grind[fetch,JM,Acf,JI]
theorem Aeh {ops:List Oper} {o:Oper} {s1 s2:St} (hE: ∀ x∈o.op.operands,JY s2.tmps x=JY s1.tmps x) (hG:guardOf ops s2.tmps o.guard=guardOf ops s1.tmps o.guard)
 (hF: ∀ n∈KI o s1 (JM o s1),Jr s2.Jm n=Jr s1.Jm n) (h1: ∀ n∈(JR C ops o s1).new.map (·.1),s1.fresh n=true) (h2: ∀ n∈(JR C ops o s1).new.map (·.1),s2.fresh n=true) :
 JR C ops o s2=JR C ops o s1/\KI o s2 (JM o s2)=KI o s1 (JM o s1)/\JM o s2=JM o s1:=by grind[wU,vZ]
theorem Afs {o:Oper} {vs:List A} {q off n:Nat} (h:oneOf C o.op vs=some (q,off,n)):SE o.op vs=some q/\ ∀ {f f':Fet} {cs cs':List A},KQ f q=some cs->KQ f' q=some cs'->cs'.length=cs.length->(∀ k,k<n->cs'.getD (off+k) .undef=cs.getD (off+k) .undef)->opX C o vs f'=opX C o vs f:=by
 obtain⟨dst,op,ty,pos,after,guard⟩:=o;dsimp only at h;unfold oneOf at h;split at h
 .injection h with h;injection h with h1 h2;subst h1;refine⟨rfl,fun {f f' cs cs'} h1 h2 h3 h4=> ?_⟩;unfold opX;dsimp only[a1];unfold QQ;dsimp only;rw[h1,h2];rfl
 .simp_all[opX,a1,PY,Ti,JG,oneOf,SE,Fet]
 .rename_i t _ o' off';cases ht:C.T t with
  | none=>rw[ht]at h;cases h
  | some ti =>
   rw[ht]at h;dsimp only at h;cases h0:Nat.blt 0 ti.cs.length with
   | false=>rw[h0]at h;cases h
   | true =>
   rw[h0]at h;injection h with h;injection h with h1 h2;injection h2 with h2 h3';subst h1;subst h2;subst h3';have h0:0<ti.cs.length:=by simpa [DY]using h0
   refine⟨rfl,fun {f f' cs cs'} h1 h2 h3 h4=> ?_⟩;unfold opX;dsimp only[a1];unfold Rw KN;rw[ht];unfold JG;dsimp only;rw[h1,h2];dsimp only;rw[h3];congr 1;unfold YQ;cases ti.agg with
   | false =>have:=h4 0 h0;simpa using this
   | true =>
    refine congrArg A.agg (Gt fun i=> ?_);rw[F5,F5];by_cases hi:i<ti.cs.length
    .rw[Dw hi,Dw hi,EJ,EJ];have:=h4 i hi;rw[Di,Di]at this;by_cases hl:off'+i<cs.length
     .simp_all[oneOf,SE,Fet,opX]
     .rw[DL (by omega),DL (by omega)]
    .rw[Du hi,Du hi]
 .cases h
def MB (fet:Fet) (δ :Dl):Prop:= ∀ e∈ δ.same,∃ cs,KQ fet e.1=some cs/\ ∀ p∈ δ.upd,p.1=e.1-> ∃ cs',p.2= .box cs'/\cs'.length=cs.length/\cs'.getD e.2 .undef=cs.getD e.2 .undef
theorem Ad6 {fet:Fet} (x:A) (j:Nat) {δ :Dl} (h:MB fet δ):MB fet (OV fet x j δ):=by
 unfold OV;split
 .rename_i q off;cases hb:KQ fet q with
  | none=>exact h
  | some cs =>
   dsimp only;cases hc:Nat.blt j cs.length&& δ.upd.all (fun p=> !(Nat.beq p.1 q)||pR cs.length p.2)with
   | false=>exact h
   | true =>
    rw[Dn,DY]at hc;have hset: ∀ ds:List A,ds.length=cs.length-> ∀ i,(ds.set j (cs.getD j .undef)).getD i .undef=if j=i then cs.getD j .undef else ds.getD i .undef:=by intro ds hd i;rw[Di,E8];by_cases hij:j=i;all_goals simp_all[Fet,MB,OV]
    have key: ∀ p0∈ δ.upd,Nat.beq p0.1 q=true-> ∃ ds,p0.2= .box ds/\ds.length=cs.length:=by
     intro p0 hp0 hq;have h1:=DI.1 hc.2 p0 hp0;rw[hq]at h1;have h1:pR cs.length p0.2=true:=h1;obtain⟨n,y⟩:=p0;cases y with
     | box ds=>exact⟨ds,rfl,Dk h1⟩
     | _=>cases h1
    intro e he;rcases Dx.1 (show e∈(q,j):: δ.same from he)with rfl | he
    .refine⟨cs,hb,fun p hp hpq=> ?_⟩;obtain⟨p0,hp0,rfl⟩:=D8.1 (show p∈ δ.upd.map _ from hp);cases hq:Nat.beq p0.1 q with
     | false=>simp_all[Fet,MB,OV]
     | true=>grind[Agz]
    .obtain⟨cs0,h4,h5⟩:=h e he;refine⟨cs0,h4,fun p hp hpq=> ?_⟩;obtain⟨p0,hp0,rfl⟩:=D8.1 (show p∈ δ.upd.map _ from hp);cases hq:Nat.beq p0.1 q with
     | false=>rw[hq]at hpq;exact h5 p0 hp0 hpq
     | true =>rw[hq]at hpq;have hpq:p0.1=e.1:=hpq;obtain⟨ds,h2,h3⟩:=key p0 hp0 hq;obtain⟨cs',g1,g2,g3⟩:=h5 p0 hp0 hpq;all_goals simp_all[Agz,Fet,MB,OV]
 .exact h
theorem Ad8 {fet:Fet} (xs:List A): ∀(ks:List (Nat×Nat)) {δ :Dl},MB fet δ ->MB fet (keepD fet xs ks δ):=by
 intro ks
 induction ks with
 | nil=>intro δ h;exact h
 | cons k ks ih=>intro δ h;exact ih (Ad6 _ _ h)
theorem MB.nil {fet:Fet} {δ :Dl} (h: δ.same=[]):MB fet δ :=fun e he=>by rw[h]at he;cases he
theorem qH {o:Oper} {s:St} (pre:List Bool):MB (JI s (JM o s)) (OH C o s pre):=by
 cases hc:gZ o.op with
 | false=>grind[MB.nil,OH]
 | true =>
  have key:MB (JI s (JM o s)) (opX C o (JM o s) (JI s (JM o s))):=by
   generalize JM o s=vs;generalize JI s vs=fet;obtain⟨dst,op,ty,pos,after,guard⟩:=o;dsimp only at hc;unfold gZ at hc;split at hc
   .cases vs with
    | nil=>exact MB.nil rfl
    | cons x xs =>
     rename_i f _ _;show MB fet (UR C fet (dst.getD 0) f xs);unfold UR;cases C.G f with
     | none=>exact MB.nil rfl
     | some sg=>exact Ad8 _ _ (MB.nil rfl)
   .cases hc
  intro e he;have he:e∈(bif gZ o.op then(opX C o (JM o s) (JI s (JM o s))).same else []):=he;rw[hc]at he;exact key e he
theorem Aeg {ops:List Oper} {o:Oper} {s:St}:MB (JI s (JM o s)) (JR C ops o s):=by
 unfold JR;split
 .exact qH _
 .grind[split,qH,MB.nil]
 .exact MB.nil rfl
end
section
variable {P:Program} {C:Ctx} {V0:Nat->Value} {O0 O:Own} {w0 w:World} {m:Nat->Value} {st st':St} {a:Act}
structure Aac (C:Ctx) (ops:List Oper) (x:KA) (st:St):Prop where
 step:JR C ops x.o st=x.δ
 rd:KI x.o st (JM x.o st)=x.rd
 one:oneOf C x.o.op (JM x.o st)=x.one
def aB (C:Ctx) (ops:List Oper):List KA->St->St->Prop
 | [],s,s'=>s=s'
 | x::r,s,s'=>Aac C ops x s/\aB C ops r (apply s x.o x.δ) s'
theorem AdK: ∀(u:List Nat) {l:List (Nat×Obj)} {p:Nat×Obj},p∈JK l u->p∈l:=by
 intro u
 induction u with
 | nil=>intro l p h;exact h
 | cons n r ih=>intro l p h;exact lI (ih h)
theorem TL {x:KA} {n:Nat} (h:st.fresh n=true) (h1:n∉x.says) (h2:n∉x.keys):(apply st x.o x.δ).fresh n=true:=by
 obtain⟨f1,f2,f3,f4⟩:=Ls h;unfold KA.says at h1;simp only[DJ,not_or]at h1
 have g1:has (apply st x.o x.δ).ids n=false:=by
  rw[<- Bool.not_eq_true];intro hh;rcases DJ.1 (MS.1 hh)with hm | hm
  .obtain⟨c,hc,hi⟩:=DW.1 hm;have hc:c∈put st.tmps x.o.dst x.δ.val:=hc
   have:c∈st.tmps\/c=x.δ.val:=by
    cases hd:x.o.dst with
    | none=>rw[hd]at hc;exact .inl hc
    | some d=>rw[hd]at hc;exact F7 hc
   rcases this with hc | hc
   .exact f1 (Dz _ (DW.2 ⟨c,hc,hi⟩))
   .rw[hc]at hi;exact h1.1.1 hi
  .obtain⟨p,hp,hi⟩:=DW.1 hm;rcases UX x.δ.new (show p∈J3 (JK (J3 st.Jm x.δ.upd) x.δ.del) x.δ.new from hp)with hp | hp
   .exact h1.2 (DW.2 ⟨p,hp,hi⟩)
   .rcases UX x.δ.upd (AdK _ hp)with hp | hp
    .exact h1.1.2 (DW.2 ⟨p,hp,hi⟩)
    .exact f1 (Dy _ (DW.2 ⟨p,hp,hi⟩))
 have g2:Jr (apply st x.o x.δ).Jm n=none:=by rw[PG h2];exact f2
 all_goals grind[St.fresh,Qi]
theorem AdD {u:List (Nat×Obj)} {k:Nat} {x:Obj} (h:lastOf u k=some x):(k,x)∈u:=by
 induction u with
 | nil=>cases h
 | cons p r ih=>grind[lastOf]
theorem AfR {ops:List Oper} {x y:KA} (hx:Aac C ops x st) (hy:Aac C ops y (apply st x.o x.δ)) (h:calm x y=true) :
 (opX C x.o (JM x.o st) (JI (apply st y.o y.δ) (JM x.o st))=opX C x.o (JM x.o st) (JI st (JM x.o st))/\(∀ f,(opX C x.o (JM x.o st) f).upd=[])/\KI x.o (apply st y.o y.δ) (JM x.o st)=KI x.o st (JM x.o st)) \/
 (JI (apply st y.o y.δ) (JM x.o st)=JI st (JM x.o st)/\KI x.o (apply st y.o y.δ) (JM x.o st)=KI x.o st (JM x.o st)):=by
 unfold calm at h;cases ho:x.one with
 | none=>rw[ho]at h;cases h
 | some p =>
  obtain⟨q,off,n⟩:=p;rw[ho]at h;simp only[Dn,Em]at h;obtain⟨h1,h2,h3,h4,h5⟩:=h;have hone:=hx.one;rw[ho]at hone;obtain⟨k1,k2⟩:=Afs hone;obtain⟨off',ev,hO⟩:=aF (C:=C) k1;have hS:=Aeg (C:=C) (ops:=ops) (o:=y.o) (s:=apply st x.o x.δ);rw[hy.step]at hS;have hxk:Jr (apply st x.o x.δ).Jm q=Jr st.Jm q:=PG fun hm=>by have:=h1.symm.trans (MS.2 hm);cases this
  have hbox: ∀ e∈y.δ.same,e.1=q-> ∃ cs,Jr st.Jm q=some (.box cs)/\ ∀ p∈y.δ.upd,p.1=q-> ∃ cs',p.2= .box cs'/\cs'.length=cs.length/\cs'.getD e.2 .undef=cs.getD e.2 .undef:=by intro e he heq;obtain⟨cs,g1,g2⟩:=hS e he;rw[heq]at g1 g2;exact⟨cs,by rw[<- hxk];exact Xq _ _ _ _ (KJ g1),g2⟩
  obtain⟨e0,he0,heq0⟩:=Fg.1 h4;obtain⟨cs,g1,g2⟩:=hbox e0 he0 (Dk heq0);have hcell: ∀ k,k<n-> ∀ p∈y.δ.upd,p.1=q-> ∀ cs',p.2= .box cs'->cs'.getD (off+k) .undef=cs.getD (off+k) .undef:=by intro k hk p hp hpq cs' hcs;have:=DI.1 h5 k (EX.2 hk);obtain⟨e,he,heq⟩:=Fg.1 this;rw[Dn]at heq;obtain⟨cs2,g3,g4⟩:=hbox e he (Dk heq.1);rw[g1]at g3;injection g3 with g3;injection g3 with g3;subst g3;obtain⟨cs3,g5,_,g6⟩:=g4 p hp hpq;rw[hcs]at g5;injection g5 with g5;subst g5;rw[Dk heq.2]at g6;exact g6
  have hnd:lastOf y.δ.new q=none:=jT fun hm=>by have:=h3.symm.trans (MS.2 hm);cases this
  have hdl:q∉y.δ.del:=fun hm=>by rw[MS.2 hm]at h2;cases h2
  have hnew: ∃ cs',Jr (apply st y.o y.δ).Jm q=some (.box cs')/\cs'.length=cs.length/\ ∀ k,k<n->cs'.getD (off+k) .undef=cs.getD (off+k) .undef:=by
   rw[OB,hnd];dsimp only;rw[Du hdl];cases hl:lastOf y.δ.upd q with
   | none=>exact⟨cs,g1,rfl,fun _ _=>rfl⟩
   | some z =>have hm:=AdD hl;obtain⟨cs',g3,g4,_⟩:=g2 _ hm rfl;dsimp only at g3;subst g3;exact⟨cs',rfl,g4,fun k hk=>hcell k hk _ hm rfl _ rfl⟩
  obtain⟨cs',g3,g4,g5⟩:=hnew;have hask: ∀ s,KI x.o s (JM x.o st)=bif XA x.o.op (JM x.o st)then []else [q]:=by intro s;unfold KI;rw[k1]
  refine .inl ⟨k2 ?_ ?_ g4 g5,fun f=>(hO f f rfl).2,by rw[hask,hask]⟩
  .rw[ev];unfold KQ;rw[Qu,g1]
  .rw[ev];unfold KQ;rw[Qu,g3]
theorem swap {ops:List Oper} {x y:KA} {r:List KA} (hi:indep ops x y=true) (hxF: ∀ n∈x.news,st.fresh n=true) (hyF: ∀ n∈y.news,st.fresh n=true) (h1:Pz y.news x.says=true) (h2:Pz y.news x.keys=true)
 (hs:Srt st.Jm) (h:aB C ops (x::y::r) st st'):aB C ops (y::x::r) st st':=by
 unfold indep at hi;simp only[Dn]at hi;obtain⟨⟨⟨⟨⟨⟨i1,i2⟩,i3⟩,i4⟩,i5⟩,i6⟩,i7⟩:=hi;obtain⟨hx,hy,hr⟩:=h;have hkx: ∀ n,n∈x.keys->n∉y.keys:=Lc i6;have hnx: ∀ n∈x.news,n∈x.keys:=fun n hn=>Dy _ hn
 have cy:=Aeh (C:=C) (ops:=ops) (o:=y.o) (s1:=apply st x.o x.δ) (s2:=st)
  (fun z hz=>(Aa0 (fun t ht=>Lc i2 t (Vk.2 ht)) hz).symm) (wK (fun t ht=>Lc i2 t (Vk.2 ht))).symm
  (fun n hn=>(PG (fun hk=>Lc i4 n hk (by rw[<- hy.rd];exact hn))).symm)
  (fun n hn=>by rw[hy.step]at hn;exact TL (hyF n hn) (Lc h1 n hn) (Lc h2 n hn))
  (fun n hn=>by rw[hy.step]at hn;exact hyF n hn)
 have cx:=wU (C:=C) (ops:=ops) (o:=x.o) (s1:=st) (s2:=apply st y.o y.δ)
  (fun z hz=>Aa0 (fun t ht=>Lc i3 t (Vk.2 ht)) hz) (wK (fun t ht=>Lc i3 t (Vk.2 ht)))
  (by
    rcases Bool.or_eq_true_iff.1 i5 with i5 | i5
    .exact vZ (fun n hn=>PG (fun hk=>Lc i5 n hk (by rw[<- hx.rd];exact hn)))
    .exact AfR hx hy i5)
  (fun n hn=>by rw[hx.step]at hn;exact hxF n hn)
  (fun n hn=>by rw[hx.step]at hn;exact TL (hxF n hn) (Lc i7 n hn) (hkx n (hnx n hn)))
 have hst:apply (apply st y.o y.δ) x.o x.δ =apply (apply st x.o x.δ) y.o y.δ :=by
  have e1:(apply (apply st y.o y.δ) x.o x.δ).tmps=(apply (apply st x.o x.δ) y.o y.δ).tmps:=(put_comm st.tmps x.δ.val y.δ.val (fun t ht he=>Lc i1 t (Vk.2 ht) (Vk.2 he))).symm
  have e2:(apply (apply st y.o y.δ) x.o x.δ).Jm=(apply (apply st x.o x.δ) y.o y.δ).Jm:=by
   refine Srt.ext ((hs.apply _ _).apply _ _) ((hs.apply _ _).apply _ _) fun k=> ?_;by_cases hk:k∈x.keys
   .have hky:=hkx k hk;rw[PG (o:=y.o) (δ :=y.δ) hky,OB (apply st y.o y.δ),PG (o:=y.o) (δ :=y.δ) hky,<- OB st]
   .rw[PG (o:=x.o) (δ :=x.δ) hk,OB (apply st x.o x.δ),PG (o:=x.o) (δ :=x.δ) hk,<- OB st]
  generalize apply (apply st y.o y.δ) x.o x.δ =s at *
  generalize apply (apply st x.o x.δ) y.o y.δ =s' at *
  cases s;cases s';dsimp only at e1 e2;rw[e1,e2]
 refine⟨⟨by rw[cy.1,hy.step],by rw[cy.2.1,hy.rd],by rw[cy.2.2,hy.one]⟩,⟨by rw[cx.1,hx.step],by rw[cx.2.1,hx.rd],by rw[cx.2.2,hx.one]⟩,?_⟩;rw[hst];exact hr
structure Pre (R:List KA) (st:St):Prop where
 srt:Srt st.Jm
 fresh: ∀ z∈R,∀ n∈z.news,st.fresh n=true
 pairs:R.Pairwise (fun y z=>Pz z.news y.says=true/\Pz z.news y.keys=true)
theorem Pre.step {y:KA} {R:List KA} (h:Pre (y::R) st):Pre R (apply st y.o y.δ):=by obtain⟨h1,h2⟩:=Ep.1 h.pairs;exact⟨h.srt.apply _ _,fun z hz n hn=>TL (h.fresh z (Dq _ hz) n hn) (Lc (h1 z hz).1 n hn) (Lc (h1 z hz).2 n hn),h2⟩
theorem front {ops:List Oper} {x:KA} {L2:List KA}: ∀(L1:List KA) {st:St},Pre (L1++x::L2) st->(∀ y∈L1,indep ops y x=true)->aB C ops (L1++x::L2) st st'->aB C ops (x::(L1++L2)) st st':=by
 intro L1
 induction L1 with
 | nil=>intro st _ _ h;exact h
 | cons y L1 ih =>intro st hP hi h;have h1:=ih (st:=apply st y.o y.δ) (hP.step) (fun z hz=>hi z (Dq _ hz)) h.2;have hx:x∈L1++x::L2:=Dy _ Dp;obtain⟨p1,_⟩:=Ep.1 hP.pairs;exact swap (hi y Dp) (hP.fresh y Dp) (hP.fresh x (Dq _ hx)) (p1 x hx).1 (p1 x hx).2 hP.srt ⟨h.1,h1⟩
theorem Aez {md:Region.Mode} {e:Edge} (h:Region.binds .any e=true):Region.binds md e=true:=by unfold Region.binds at h ⊢;all_goals grind
theorem Tv {ops:List Oper} {i:Nat} {x y:KA} (h:TQ ops i x y=true):Pz y.news x.says=true/\Pz y.news x.keys=true/\(i∈y.anc\/indep ops x y=true):=by unfold TQ at h;simp only[Dn,G8]at h;exact⟨h.1.1,h.1.2,h.2.imp MS.1 id⟩
theorem AaA {l:Array Bool} {i:Nat} (h:i<l.size) (b c:Bool):l.getD i b=l.getD i c:=by grind
theorem Adt {α :Type} (f: α ->Nat): ∀(l:List α),l≠ []-> ∃ x∈l,∀ y∈l,f x<=f y:=by
 intro l
 induction l with
 | nil=>grind
 | cons a r ih =>
  intro _;by_cases hr:r=[]
  .simp_all
  .grind
theorem AfV {ρ :Type} (hC:LX P C) {ops:Array Oper} {md:Region.Mode} {Q:Exit->Act->World->Prop} {v: ρ} {K:St->Option ρ} (hQ: ∀ O' m' st' a' w',Sim V0 O0 w0 O' m' st' a' w'->K st'=some v->Q .normal a' w')
 {ANC:List (List Nat)} (hanc: ∀(j:Nat) (o:Oper),ops[j]? =some o-> ∀ i∈ANC.getD j [],∃ e∈Rn o,i=e\/i∈ANC.getD e []) {rk:Nat->Nat} (hback: ∀(j:Nat) (o:Oper),ops[j]? =some o-> ∀ e∈o.after,Region.binds md e=true->e.on<ops.size/\rk e.on<rk j) :
 ∀(fuel:Nat) (R:List (Nat×KA)) (listed:Array Bool) {O:Own} {m:Nat->Value} {st:St} {a:Act} {w:World},R.length=fuel->R.Pairwise (fun p q=>p.1<q.1) ->
  (∀ p∈R,ops[p.1]? =some p.2.o/\Jv p.2.δ.ok/\p.2.anc=ANC.getD p.1 [])->listed.size=ops.size->(∀ i,i<ops.size->(listed.getD i true=false↔i∈R.map (·.1))) ->
  (∀ e,listed.getD e false=true-> ∀ i∈ANC.getD e [],listed.getD i false=true)->R.Pairwise (fun p q=>TQ ops.toList p.1 p.2 q.2=true)->(∀ p∈R,∀ n∈p.2.news,st.fresh n=true)->Srt st.Jm ->
  aB C ops.toList (R.map (·.2)) st st'->K st'=some v->Sim V0 O0 w0 O m st a w->wpAny P md ops Q fuel listed a w:=by
 intro fuel
 induction fuel with
 | zero =>
  intro R listed O m st a w hlen _ _ hsz hl _ _ _ _ hruns hK hS;have hR:R=[]:=List.length_eq_zero_iff.1 hlen;subst hR;refine⟨?_,?_⟩
  .rw[List.eq_nil_iff_forall_not_mem];intro i hi;obtain⟨h1,o,h2,_⟩:=mem_ready.1 hi;have hlt:=(DK.1 h2).1;have:=(hl i hlt).1 h1;simp at this
  .have:st=st':=hruns;subst this;exact hQ _ _ _ _ _ hS hK
 | succ fuel ih =>
  intro R listed O m st a w hlen hord hops hsz hl hcl hpr hfr hsrt hruns hK hS;have hin: ∀ p∈R,p.1<ops.size:=fun p hp=>(DK.1 (hops p hp).1).1;refine⟨fun hnil=> ?_,fun i hi=> ?_⟩
  .exfalso;obtain⟨p,hpR,hmin⟩:=Adt (fun q:Nat×KA=>rk q.1) R (by intro h;rw[h]at hlen;simp at hlen);have hp:=hin p hpR
   have:p.1∈Region.ready md ops listed:=by
    refine mem_ready.2 ⟨(hl p.1 hp).2 (D8.2 ⟨p,hpR,rfl⟩),p.2.o,(hops p hpR).1,fun e he hb=> ?_⟩;obtain⟨hsize,hlt⟩:=hback _ _ (hops p hpR).1 e he hb;have hno:e.on∉R.map (·.1):=by intro hm;obtain⟨q,hq,hqe⟩:=D8.1 hm;have:=hmin q hq;rw[hqe]at this;omega
    have:listed.getD e.on true≠false:=fun h=>hno ((hl e.on hsize).1 h);rw[AaA (by rw[hsz];exact hsize) false true];simpa using this
   rw[hnil]at this;cases this
  .obtain⟨hi1,oi,hi2,hi3⟩:=mem_ready.1 hi;have hilt:=(DK.1 hi2).1;obtain⟨p,hp,rfl⟩:=D8.1 ((hl i hilt).1 hi1);obtain⟨L1,L2,rfl⟩:=List.append_of_mem hp;obtain⟨i,x⟩:=p;dsimp only at hi hi1 hi2 hi3 hilt ⊢;obtain⟨hx1,hx2,hx3⟩:=hops (i,x) hp;dsimp only at hx1 hx2 hx3
   have hancl: ∀ j∈ANC.getD i [],listed.getD j false=true:=by
    intro j hj;obtain⟨e,he,hje⟩:=hanc i _ hx1 j hj;have hel:listed.getD e false=true:=by unfold Rn at he;obtain⟨ed,hed,hb⟩:=Gm.1 he;all_goals grind[Aez]
    rcases hje with rfl | hje
    .exact hel
    .exact hcl e hel j hje
   have hord':=FV.1 hord;have hpr':=FV.1 hpr;have hind: ∀ q∈L1,TQ ops.toList q.1 q.2 x=true/\indep ops.toList q.2 x=true:=by intro q hq;have hpq:=hpr'.2.2 q hq (i,x) Dp;dsimp only at hpq;refine⟨hpq,(Tv hpq).2.2.resolve_left fun hm=> ?_⟩;rw[hx3]at hm;have h1:=hancl _ hm;have hqR:q∈L1++(i,x)::L2:=Dz _ hq;have hqlt:=hin q hqR;have h2:=(hl q.1 hqlt).2 (D8.2 ⟨q,hqR,rfl⟩);rw[AaA (by rw[hsz];exact hqlt) true false,h1]at h2;cases h2
   have hPre:Pre ((L1++(i,x)::L2).map (·.2)) st:=by
    refine⟨hsrt,fun z hz n hn=> ?_,?_⟩
    .obtain⟨q,hq,rfl⟩:=D8.1 hz;exact hfr q hq n hn
    .rw[List.pairwise_map];exact hpr.imp fun h=>⟨(Tv h).1,(Tv h).2.1⟩
   have hfront:aB C ops.toList (x::(L1.map (·.2)++L2.map (·.2))) st st':=by refine front (L1.map (·.2)) (by simpa using hPre) (fun y hy=> ?_) (by simpa using hruns);obtain⟨q,hq,rfl⟩:=D8.1 hy;exact(hind q hq).2
   obtain⟨hstep,hrest⟩:=hfront;have hsub:List.Sublist (L1++L2) (L1++(i,x)::L2):=List.Sublist.append_left (List.sublist_cons_self _ _) _
   have hnext: ∀ O' m' a' w',Sim V0 O0 w0 O' m' (apply st x.o (JR C ops.toList x.o st)) a' w'->wpAny P md ops Q fuel (listed.setIfInBounds i true) a' w':=by
    intro O' m' a' w' hS';rw[hstep.step]at hS';refine ih (L1++L2) _ (by simp at hlen ⊢;omega) (hord.sublist hsub) (fun q hq=>hops q (hsub.subset hq)) (by simpa using hsz) (fun j hj=> ?_) (fun e he j hj=> ?_) (hpr.sublist hsub) (fun q hq n hn=> ?_) (hsrt.apply _ _) (by simpa using hrest) hK hS'
    .by_cases hji:i=j
     .subst hji;have h1:(listed.setIfInBounds i true).getD i true=true:=by simp [Dj,hsz,hj]
      rw[h1];refine⟨fun h=>(by cases h),fun h=> ?_⟩;obtain⟨q,hq,hqi⟩:=D8.1 h;rcases DJ.1 hq with hq | hq
      .have:=hord'.2.2 q hq (i,x) Dp;dsimp only at this;omega
      .have:=(Ep.1 hord'.2.1).1 q hq;dsimp only at this;omega
     .rw[getD_set_ne true hji,hl j hj];simp only[Fq,Ec,DJ,Dx];constructor
      .rintro (h | h | h)
       .exact .inl h
       .exact absurd h.symm hji
       .exact .inr h
      .rintro (h | h)
       .exact .inl h
       .exact .inr (.inr h)
    .by_cases hei:i=e
     .subst hei;exact getD_set_true (hancl j hj)
     .rw[getD_set_ne false hei]at he;exact getD_set_true (hcl e he j hj)
    .have hq':=hsub.subset hq;have hf:=hfr q hq' n hn;rcases DJ.1 hq with hq | hq
     .have hi':=(hind q hq).2;unfold indep at hi';simp only[Dn]at hi';exact TL hf (Lc hi'.2 n hn) (Lc hi'.1.2 n (Dy _ hn))
     .have hpq:=Tv ((Ep.1 hpr'.2.1).1 q hq);exact TL hf (Lc hpq.1 n hn) (Lc hpq.2.1 n hn)
   have hw:=qX hC hS (ops:=ops) (o:=x.o) (by rw[hstep.step];exact hx2) (wpAny P md ops Q fuel (listed.setIfInBounds i true)) Q hnext;unfold wpOp;rw[hx1];dsimp only;split
   .rename_i hwt;rw[Dw hwt]at hw;exact .inl hw
   .rename_i hwt;rw[Du hwt]at hw;exact hw
end
section
variable {P:Program} {C:Ctx} {V0:Nat->Value} {O0 O:Own} {w0 w:World} {m:Nat->Value} {st st':St} {a:Act}
def enum:Nat->List KA->List (Nat×KA)
 | _,[]=>[]
 | i,x::r=>(i,x)::enum (i+1) r
theorem Aca: ∀(l:List KA) (i:Nat),(enum i l).length=l.length:=by
 intro l
 induction l with
 | nil=>intro i;rfl
 | cons x r ih=>intro i;simp [enum,ih]
theorem Aga: ∀(l:List KA) (i:Nat),(enum i l).map (·.2)=l:=by
 intro l
 induction l with
 | nil=>intro i;rfl
 | cons x r ih=>intro i;simp [enum,ih]
theorem Y6: ∀(l:List KA) (i:Nat) (p:Nat×KA),p∈enum i l-> ∃ k,p.1=i+k/\l[k]? =some p.2:=by
 intro l
 induction l with
 | nil=>intro i p h;cases h
 | cons x r ih =>
  intro i p h;rcases Dx.1 h with rfl | h
  .exact⟨0,rfl,rfl⟩
  .obtain⟨k,h1,h2⟩:=ih (i+1) p h;exact⟨k+1,by omega,by simpa using h2⟩
theorem AfY: ∀(l:List KA) (i j:Nat),j∈(enum i l).map (·.1)↔i<=j/\j<i+l.length:=by
 intro l
 induction l with
 | nil=>intro i j;simp [enum]
 | cons x r ih=>grind[enum]
theorem AfZ: ∀(l:List KA) (i:Nat),(enum i l).Pairwise (fun p q=>p.1<q.1):=by
 intro l
 induction l with
 | nil=>simp_all[enum]
 | cons x r ih =>intro i;refine List.Pairwise.cons (fun q hq=> ?_) (ih (i+1));all_goals grind[Y6]
theorem Ads {ops:List Oper}: ∀(l:List KA) (i:Nat),Vp ops i l=true->(enum i l).Pairwise (fun p q=>TQ ops p.1 p.2 q.2=true):=by
 intro l
 induction l with
 | nil=>intro i _;exact List.Pairwise.nil
 | cons x r ih =>intro i h;simp only[Vp,Dn]at h;refine List.Pairwise.cons (fun q hq=> ?_) (ih (i+1) h.2);all_goals grind[Y6]
theorem AeI {o:Oper} {e:Nat} (h:e∈Rn o): ∃ ed∈o.after,ed.on=e/\Region.binds .any ed=true:=by grind[Rn]
theorem xB: ∀(l:List Oper) (i:Nat),backward i l=true-> ∀(k:Nat) (o:Oper),l[k]? =some o-> ∀ e∈o.after,e.on<i+k:=by
 intro l
 induction l with
 | nil=>intro i _ k o h;simp at h
 | cons x r ih =>
  intro i h k o hk e he;simp only[backward,Dn]at h;cases k with
  | zero =>simp at hk;subst hk;have:=DI.1 h.1 e (by simpa using he);rw[DY]at this;exact this
  | succ k=>grind[backward]
theorem rU: ∀(l:List Oper) (i:Nat),Oh i l=true-> ∀(k:Nat) (o:Oper),l[k]? =some o-> ∀ e∈o.after,Region.binds .any e=true->e.on<i+k:=by
 intro l
 induction l with
 | nil=>intro i _ k o h;simp at h
 | cons x r ih =>
  intro i h k o hk e he hb;simp only[Oh,Dn]at h;cases k with
  | zero =>simp at hk;subst hk;have:=DI.1 h.1 e (by simpa using he);all_goals simp_all[Oh]
  | succ k=>grind[Oh]
theorem yB {md:Region.Mode} {n:Nat} {rk:List Nat}: ∀(l:List Oper) (i:Nat),SN md n rk i l=true-> ∀(k:Nat) (o:Oper),l[k]? =some o-> ∀ e∈o.after,Region.binds md e=true->e.on<n/\rk.getD e.on 0<rk.getD (i+k) 0:=by
 intro l
 induction l with
 | nil=>intro i _ k o h;simp at h
 | cons x r ih =>
  intro i h k o hk e he hb;simp only[SN,Dn]at h;cases k with
  | zero =>simp at hk;subst hk;have:=DI.1 h.1 e (by simpa using he);all_goals simp_all[SN]
  | succ k=>grind[SN]
theorem Abh {ops:Array Oper} (h:ordered ops.toList=true) (md:Region.Mode): ∃ rk:Nat->Nat,∀(j:Nat) (o:Oper),ops[j]? =some o-> ∀ e∈o.after,Region.binds md e=true->e.on<ops.size/\rk e.on<rk j:=by
 unfold ordered at h;rw[Dn,G8]at h;rcases h.2 with h | h
 .refine⟨id,fun j o hj e he _=> ?_⟩;have h1:=xB _ _ h j o (by simpa using hj) e he;all_goals grind[ordered]
 .simp only[Dn]at h;have key:qL md ops.toList=true:=by cases md<;>first | exact h.1.1 | exact h.1.2 | exact h.2
  refine⟨fun i=>(ranks md ops.toList ops.toList.length (ops.toList.map fun _=>0)).getD i 0,fun j o hj e he hb=> ?_⟩;have:=yB _ _ key j o (by simpa using hj) e he hb;all_goals grind[ordered]
theorem uG {α β :Type} {f g: α ->List β}: ∀(l:List α),(∀ x∈l,f x=g x)->l.flatMap f=l.flatMap g:=by
 intro l
 induction l with
 | nil=>intro _;rfl
 | cons x r ih=>grind
theorem Ady {ops:List Oper}: ∀(l:List Oper) (acc:List (List Nat)) (st:St),Oh acc.length l=true->(P8 C ops l acc st).length=l.length /\
 ∀(k:Nat) (o:Oper),l[k]? =some o-> ∃ x,(P8 C ops l acc st)[k]? =some x/\x.o=o/\x.anc=(Rn o).flatMap (fun e=>e::(acc++(P8 C ops l acc st).map KA.anc).getD e []):=by
 intro l
 induction l with
 | nil=>intro acc st _;exact⟨rfl,fun k o h=>by simp at h⟩
 | cons o' r ih =>
  intro acc st h;have hb:=rU _ _ h;simp only[Oh,Dn]at h;let an:=(Rn o').flatMap (fun e=>e::acc.getD e []);let s1:=apply st o' (JR C ops o' st);have hf:P8 C ops (o'::r) acc st=⟨o',JR C ops o' st,KI o' st (JM o' st),oneOf C o'.op (JM o' st),an⟩::P8 C ops r (acc++[an]) s1:=rfl;obtain⟨g1,g2⟩:=ih (acc++[an]) s1 (by simpa using h.2);rw[hf];refine⟨by simp [g1],fun k o hk=> ?_⟩;cases k with
  | zero =>simp at hk;subst hk;refine⟨_,rfl,rfl,?_⟩;refine uG _ fun e he=> ?_;obtain⟨ed,h1,h2,h3⟩:=AeI he;have hlt:=hb 0 o' rfl ed h1 h3;rw[Di,Di,DU (by omega)]
  | succ k =>obtain⟨x,h1,h2,h3⟩:=g2 k o (by simpa using hk);refine⟨x,by simpa using h1,h2,?_⟩;rw[h3];simp [EN]
theorem Adx {ρ :Type} {ops:List Oper} {K:St->Option ρ} {v: ρ}: ∀(l:List Oper) (acc:List (List Nat)) (st:St),QF C ops l st K=some v-> ∃ st',aB C ops (P8 C ops l acc st) st st'/\K st'=some v/\ ∀ x∈P8 C ops l acc st,Jv x.δ.ok:=by
 intro l
 induction l with
 | nil=>intro acc st h;exact⟨st,rfl,h,fun x hx=>by cases hx⟩
 | cons o r ih =>
  intro acc st h;obtain⟨h1,h2⟩:=PH (show allT (JR C ops o st).ok (QF C ops r (apply st o (JR C ops o st)) K)=some v from h);obtain⟨st',h3,h4,h5⟩:=ih (acc++[(Rn o).flatMap (fun e=>e::acc.getD e [])]) _ h2;refine⟨st',⟨⟨rfl,rfl,rfl⟩,h3⟩,h4,fun x hx=> ?_⟩;rcases Dx.1 hx with rfl | hx
  .exact h1
  .exact h5 x hx
theorem Sim.drew (hS:Sim V0 O0 w0 O m st a w):Sim V0 O0 w0 O m st a {w with drawn:=w.drawn+1} :=
 hS.next (st':=st) (d:=none) (v:=undef) (x:=.undef) (T:=fun _=>False) (Nw:=fun _=>False) ⟨rfl,rfl,rfl,DR _,fun _ _=>.inl rfl⟩ ⟨fun _ _ _ h=>h,fun _ _ _ _ h _=>h⟩ (fun _ _ _ h=>h) (fun _ y ho=>.inr ⟨y,ho,rfl,rfl⟩) (fun _ h=>h.elim) (fun _ h=>h.elim)
  (fun _ _ ho=>.inl ⟨id,ho,rfl⟩) rfl (fun h=>absurd rfl h)
theorem Adq {ρ :Type} (hC:LX P C) {fin:St->Option ρ} {v: ρ} (id:Nat) (ops:Array Oper) {O:Own} {m:Nat->Value} {st:St} {a:Act} {w:World} (K:Ex->St->Option ρ) (hS:Sim V0 O0 w0 O m st a w) (hd:Ph C ops.toList st=true)
 (hx:QF C ops.toList ops.toList st (fun st'=>K .normal st')=some v):(Code.region id ops true).wp P (Post V0 O0 w0 fin K v) a w:=by
 unfold Ph at hd;dsimp only at hd;simp only[Dn]at hd;obtain⟨⟨⟨d1,d2⟩,d3⟩,d4⟩:=hd;have d1A:Oh 0 ops.toList=true:=by all_goals grind[ordered]
 obtain⟨f1,f2⟩:=Ady (C:=C) (ops:=ops.toList) ops.toList [] st d1A;obtain⟨st',r1,r2,r3⟩:=Adx ops.toList [] st hx;generalize hfs:P8 C ops.toList ops.toList [] st=fs at *
 have hlen:fs.length=ops.size:=by rw[f1];simp
 have hsize:(enum 0 fs).length=ops.size:=by rw[Aca,hlen]
 have hany: ∀ md,wpAny P md ops (Post V0 O0 w0 fin K v) ops.size (Array.replicate ops.size false) a {w with drawn:=w.drawn+1}:=by
  intro md;obtain⟨rk,hrk⟩:=Abh d1 md
  refine AfV (V0:=V0) (O0:=O0) (w0:=w0) hC (K:=fun st'=>K .normal st') (v:=v) (st':=st') (fun O' m' s a' w' h1 h2=>⟨O',m',s,h1,h2⟩) (ANC:=fs.map KA.anc) (rk:=rk) (fun j o hj i hi=> ?_) hrk
   ops.size (enum 0 fs) _ hsize (AfZ _ _) (fun p hp=> ?_) (by simp) (fun i hi=> ?_) (fun e he i _=> ?_) (Ads _ _ d2) (fun p hp n hn=> ?_) (Aef d4) (by rw[Aga];exact r1) r2 hS.drew
  .obtain⟨x,h1,h2,h3⟩:=f2 j o (by simpa using hj);have e1:(fs.map KA.anc).getD j []=x.anc:=by rw[Di,DV,h1];rfl
   rw[e1,h3]at hi;obtain⟨e,he,hie⟩:=DW.1 hi;rcases Dx.1 hie with h | h
   .exact⟨e,he,.inl h⟩
   .exact⟨e,he,.inr (by simpa using h)⟩
  .obtain⟨k,h1,h2⟩:=Y6 _ _ _ hp;rw[DD]at h1
   have hk:k<ops.toList.length:=by
    rw[<- f1];rcases DN k fs.length with h | h
    .exact h
    .rw[DL h]at h2;cases h2
   obtain⟨x,h3,h4,h5⟩:=f2 k ops.toList[k] (by simp at hk ⊢);rw[h2]at h3;injection h3 with h3;refine⟨?_,r3 _ (Fp h2),?_⟩
   .rw[h1,h3,h4];simp at hk ⊢
   .rw[h1,Di,DV,h2];rfl
  .rw[AfY];simp [Dj,hi,hlen]
  .have:(Array.replicate ops.size false).getD e false=false:=by
    rw[Dj,Array.getElem?_replicate];split<;>rfl
   rw[this]at he;cases he
  .grind[Y6]
 refine wp_region_draw fun t=> ?_;unfold Region.schedule;split
 .exact wpAny_sound _ _ _ _ _ (hany _)
 .exact wpAny_sound _ _ _ _ _ (hany _)
end
end Go.Proofs.YtpaimpmokhihmaaGreatDoor.Vm
