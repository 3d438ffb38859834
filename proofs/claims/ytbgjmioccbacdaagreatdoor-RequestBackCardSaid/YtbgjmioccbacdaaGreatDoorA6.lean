import Derived.Test.YtbgjmioccbacdaaGreatDoorA5
import Derived.Carry
set_option linter.all false
namespace Go.Proofs.YtbgjmioccbacdaaGreatDoor.Vm
open Classical MapKept
def AnB:A->Bool
 | .bool _ | .int _ _ | .str _ | .sl _ | .LP | .fn _ | .ump _=>true
 | _=>false
def Ty.RS: ∀(t:Ty) (v:t.Val),∀ c∈t.cells v,AnB c=true
 | .nil,_,c,h=>by cases h
 | .bool r,v,c,h=>by
  rcases Dz.1 h with rfl | h
  .rfl
  .exact Ty.RS r _ c h
 | .int _ r,v,c,h=>by
  rcases Dz.1 h with rfl | h
  .rfl
  .exact Ty.RS r _ c h
 | .str r,v,c,h=>by
  rcases Dz.1 h with rfl | h
  .rfl
  .exact Ty.RS r _ c h
 | .sl _ _ r,v,c,h=>by
  rcases Dz.1 h with rfl | h
  .rfl
  .exact Ty.RS r _ c h
 | .ptr r,v,c,h=>by
  rcases Dz.1 h with rfl | h
  .rfl
  .exact Ty.RS r v c h
 | .fn r,v,c,h=>by
  rcases Dz.1 h with rfl | h
  .rfl
  .exact Ty.RS r _ c h
 | .mp _ _ r,v,c,h=>by
  rcases Dz.1 h with rfl | h
  .rfl
  .exact Ty.RS r _ c h
section
variable {P:Program} {C:Ctx} {V0:Nat->Value} {O0 O:Own} {w0 w:World} {m:Nat->Value} {st:St} {a:Act} {o:Oper}
theorem JF.data {Jp:List (Nat×Obj)} {v:Value} {c:A} (h:JF O Jp m w v c) (hd:AnB c=true):Jw O w v c:=by cases c<;>first | exact h | exact h.elim | cases hd
theorem NT.toT {Jp:List (Nat×Obj)} {v:Value} {x:A} (h:NT O w v x):J8 O Jp m w v x/\T1 O Jp m w v x:=by
 have cell: ∀ {v:Value} {x:A},Jw O w v x->JF O Jp m w v x:=fun h=>by cases h<;>first | exact .bool _ | exact .int _ _ | exact .str _ | exact .nil _ | exact .LP | exact .fn _ | exact .eQ | exact Jw.sl0 _ _ | (rename_i vs a1 a2 a3;exact Jw.sl vs a1 a2 a3) | (rename_i h hn;exact Jw.sln h hn)
 cases x with
 | agg cs=>grind[Obj,NT,J8,T1]
 | undef=>cases h
 | Lj=>cases h
 | usl _ _ _=>cases h
 | ump _=>cases h
 | ptr _ _=>cases h
 | own _=>cases h
 | elt _=>cases h
 | Kq _ _ _=>cases h
 | tup _=>cases h
 | box _=>cases h
 | cbx _ _=>cases h
 | clo _ _=>cases h
 | bsl _ _=>cases h
 | osl _ _=>cases h
 | cnd _ _=>cases h
 | bool _=>exact⟨cell h,cell h⟩
 | int _ _=>exact⟨cell h,cell h⟩
 | str _=>exact⟨cell h,cell h⟩
 | sl _=>exact⟨cell h,cell h⟩
 | sln _=>exact⟨cell h,cell h⟩
 | LP=>exact⟨cell h,cell h⟩
 | fn _=>exact⟨cell h,cell h⟩
theorem ApA {xs:List A} (h:Alo (.agg xs)=true):xs.length≠1:=by intro h1;obtain⟨c,rfl⟩:=Fv.1 h1;cases h
theorem AjN {O':Own} {Jp:List (Nat×Obj)} {v:Value} {x:A} {cs:List A} (ho:Alo x=true) (hv:x.isVal=true) (hx:J8 O Jp m w v x) (hl:cs.length=x.cells.length)
 (hrel: ∀ j,j<cs.length->Jw O' w (v.cells.getD j undef) (cs.getD j .undef)):NT O' w v (PD cs):=by
 have one:JF O Jp m w v x->x.cells=[x]->NT O' w v (PD cs):=by intro hc he;rw[he]at hl;obtain⟨c,rfl⟩:=Fv.1 hl;have h0:=hrel 0 (by simp);rw[oneCell_cells hc.one]at h0;have h0:Jw O' w v c:=h0;show NT O' w v c;cases c<;>first | exact h0 | cases h0
 cases x with
 | agg xs =>obtain⟨vs,rfl,h2,h3⟩:=hx;have hl:cs.length=xs.length:=hl;rw[oJ (by rw[hl];exact ApA ho)];exact⟨vs,rfl,by rw[h2,hl],hrel⟩
 | undef=>cases hv
 | tup _=>cases hv
 | usl _ _ _=>cases hv
 | ump _=>cases hv
 | box _=>cases hv
 | cbx _ _=>cases hv
 | cnd _ _=>cases hv
 | _=>exact one hx rfl
theorem Vk {r:Nat} {es:Array MapEntry} {ck:Nat} (hb:w.heap[r]? =some (.map es ck)):(getObj r).run P w= .ok (.map es ck) w:=by simp [getObj,Sem.run,hb]
theorem ZH {r:Nat} {es:Array MapEntry} {ck:Nat} (x:Go.Obj) (hb:w.heap[r]? =some (.map es ck)):(setObj r x).run P w= .ok () {w with heap:=w.heap.setIfInBounds r x}:=by simp [setObj,Sem.run,hb]
theorem oC {t:Nat} {k:TI->TI->Dl} (hok:J5 (mapOf C t k).ok): ∃ ti kt et ta tb,C.T t=some ti/\ti.d= .map kt et/\C.T kt=some ta/\C.T et=some tb/\mapOf C t k=k ta tb:=by
 unfold mapOf at hok ⊢;obtain⟨ti,ht,he⟩:=Kt hok;rw[he]at hok ⊢;split at hok
 .rename_i kt et hd;obtain⟨ta,hta,he⟩:=Kt hok;rw[he]at hok;obtain⟨tb,htb,he'⟩:=Kt hok;exact⟨ti,kt,et,ta,tb,ht,hd,hta,htb,he.trans he'⟩
 .exact(JE hok).elim
theorem Ah2 {Jp:List (Nat×Obj)} (hC:TOk P C) {kt:Nat} {ta tb:TI} (hta:C.T kt=some ta) {l:Mp} {i:A} {v:Value} (hi:J8 O Jp m w v i) (hok:J5 (Ago C ta tb l i)) :
 y9 P O w kt l.kt/\NT O w v (PD (l.kt.cells (l.kt.mk i.cells).2))/\Agu tb=true/\l.vt=tyl tb.cs:=by
 obtain⟨h1,hok⟩:=hok.cons;obtain⟨h2,hok⟩:=hok.cons;obtain⟨h3,hok⟩:=hok.cons;obtain⟨h4,hok⟩:=hok.cons;obtain⟨h5,hok⟩:=hok.cons;obtain⟨h6,hok⟩:=hok.cons;have h7:=hok.cons.1;have h3:=D5 h3;have hc:=Ty.SG _ _ h7;refine⟨by rw[h3];exact ApB hC hta h1,?_,h2,D5 h4⟩;obtain⟨g1,g2⟩:=hi.cells h5;refine AjN (Jp:=Jp) h6 h5 hi (by rw[hc]) (fun j hj=> ?_);have hd:=Ty.RS _ _ _ (EZ hj);have e:(l.kt.cells (l.kt.mk i.cells).2).getD j .undef=(l.kt.cells (l.kt.mk i.cells).2)[j]:=by rw[Dj,D9 hj];rfl
 rw[<- e]at hd;rw[hc]at hd hj ⊢;exact(g2 j hj).data hd
theorem AoJ {t:Nat} {tb:TI} (hT:V8 P t tb) (hone:Agu tb=true) (hp:tb.cs.all CK.plain=true): ∃ z,(zeroValue t).run P w= .ok z w/\NT O w z (PD ((tyl tb.cs).cells (tyl tb.cs).zero)):=by
 obtain⟨i,z,h1,h2,h3,h4,h5,h6⟩:=hT.i;refine⟨z,by simp [zeroValue,typeInfo,h1,h4],?_⟩;rw[Ty.Adz _ hp];have hv:=Zm (O:=O) (w:=w) _ _ h5 hp;have hl:=(TD (O:=O) (Jp:=[]) (m:=fun _=>undef) (w:=w) _ _ h5).1;have hone:tb.agg= !(Nat.beq tb.cs.length 1):=by simpa [Agu]using hone
 rw[AbE,h6,VC]at hone;cases z with
 | agg vs =>
  have hne:tb.cs.length≠1:=by simpa [bD]using hone
  rw[oJ (by simpa using hne)];refine⟨vs,rfl,?_,fun j hj=> ?_⟩
  .have:vs.toList.length=tb.cs.length:=hl;rw[Array.length_toList]at this;simpa using this
  .have:=hv j (by simpa using hj);have e:(Value.agg vs).cells.toList.getD j undef=vs.getD j undef:=by show vs.toList.getD j undef=_;rw[Dn,Dj,DY]
   rw[e]at this;exact this
 | _ =>
  have he:tb.cs.length=1:=by simpa [bD]using hone
  obtain⟨c,hc⟩:=Fv.1 he;rw[hc]at hv ⊢;have:=hv 0 (by simp);have this:Jw O w _ c.OZ:=this;show NT O w _ c.OZ;cases hcz:c.OZ<;>rw[hcz]at this<;>first | exact this | cases this
theorem Ajk {op:BinOp} {t ty:Nat} {x y:Operand} {Jp:List (Nat×Obj)} {fet:Fet} (hC:TOk P C) (hF:FOk O Jp m w fet) (ho:o.op= .binOp op t x y ty) (hn:vP y=true) {x':A} (hx:J8 O Jp m w (a.eval x) x')
 (hok:J5 (kZ C fet op t x').ok):Pure P O Jp m a w o (kZ C fet op t x'):=by
 have hy:a.eval y= .map none:=by
  cases y with
  | const c=>cases c with
   | map r=>cases r with
    | none=>rfl
    | some _=>cases hn
   | _=>cases hn
  | _=>cases hn
 unfold kZ at hok ⊢;obtain⟨p,hp,he⟩:=JL hok;rw[he]at hok ⊢;clear he;obtain⟨ti,ht,he⟩:=Kt hok;rw[he]at hok ⊢;clear he;obtain⟨_,hv,hM⟩:=AcL hF hx hp;obtain⟨r,es,ck,h1,_⟩:=hM.lists;rw[h1]at hv;cases hd:AnC ti.d with
 | false=>rw[hd]at hok;exact(JE hok).elim
 | true =>
  rw[hd]at hok;have hu:=(hC.is ht).d;have hu': ∃ k e,P.underlying t=some (.map k e):=by cases hdd:ti.d<;>rw[hdd]at hd hu<;>first | exact⟨_,_,hu⟩ | cases hd
  obtain⟨k,e,hu⟩:=hu'
  have heq:(Op.equal t (.map (some r)) (.map none)).run P w= .ok false w:=by
   have: ∀ d,(Op.equalIn (d+1) t (.map (some r)) (.map none)).run P w= .ok false w:=by intro d;simp [Op.equalIn,DL hu]
   exact this 9999
  cases op with
  | eql =>refine⟨⟨_,?_,.Qn _⟩,rfl,rfl,rfl⟩;simp only[execOp,ho,hv,hy,D8,aQ (v:=.map (some r)) (by simp) (by simp),Result.andThen_ok,binOp,heq,Sem.run_pure]
  | neq =>refine⟨⟨_,?_,.Qn _⟩,rfl,rfl,rfl⟩;simp only[execOp,ho,hv,hy,D8,aQ (v:=.map (some r)) (by simp) (by simp),Result.andThen_ok,binOp,heq,Sem.run_pure];rfl
  | _=>exact(JE hok).elim
theorem AiX {t:Nat} {x i:Operand} {c:Bool} {Jp:List (Nat×Obj)} {fet:Fet} (hC:TOk P C) (hF:FOk O Jp m w fet) (ho:o.op= .lookup t x i c) {x' i':A} (hx:J8 O Jp m w (a.eval x) x') (hi:J8 O Jp m w (a.eval i) i')
 (hok:J5 (yK C fet t c x' i').ok):Pure P O Jp m a w o (yK C fet t c x' i'):=by
 unfold yK at hok ⊢;obtain⟨ti,kt,et,ta,tb,ht,hd,hta,htb,he⟩:=oC hok;rw[he]at hok ⊢;clear he;obtain⟨p,hp,he⟩:=JL hok;rw[he]at hok ⊢;clear he;obtain⟨hok1,hok2⟩:=hok.append;have hpl:=hok2.cons.1;obtain⟨_,hv,hM⟩:=AcL hF hx hp;obtain⟨hK,hk,hone,hvt⟩:=Ah2 hC hta hi hok1;obtain⟨r,es,ck,h1,h2,h3,h4,h5⟩:=hM.lists;have hu:=(hC.is ht).d;rw[hd]at hu;have hfind:=hK.find (a.eval i) _ es.toList p.2.l hk h4 (fun i e p he hp=>(h5 i e p he hp).1);have hchk:=hK.check es.isEmpty (a.eval i) _ hk;obtain⟨z,hz1,hz2⟩:=AoJ (O:=O) (w:=w) (hC.is htb) hone hpl;rw[<- hvt]at hz2
 have key: ∃ u,(Instr.lookup t (a.eval x) (a.eval i) c).run P w= .ok (if c then .tuple #[u,.bool (TR p.2.kt (p.2.kt.mk i'.cells).2 p.2.l).isSome]else u) w /\
  NT O w u (PD (p.2.vt.cells ((TR p.2.kt (p.2.kt.mk i'.cells).2 p.2.l).getD p.2.vt.zero))):=by
  rw[hv,h1];rcases AaT (k:=(p.2.kt.mk i'.cells).2) es.toList p.2.l 0 h4 with ⟨f1,f2,_,_⟩ | ⟨j,e,q,f1,f2,f3,f4,f5,_,_⟩
  .refine⟨z,?_,by rw[f2];exact hz2⟩;simp [Instr.lookup,DL hu,Vk h2,hchk,hfind,f1,hz1,f2,Result.andThen]
  .refine⟨e.val,?_,by rw[f5];exact(h5 j e q f2 f3).2⟩;simp [Instr.lookup,DL hu,Vk h2,hchk,hfind,f1,f5,Result.andThen]
 obtain⟨u,hrun,hu2⟩:=key;refine⟨⟨if c then .tuple #[u,.bool (TR p.2.kt (p.2.kt.mk i'.cells).2 p.2.l).isSome]else u,?_,?_⟩,rfl,rfl,rfl⟩
 .simp only[execOp,ho,D8,hrun,Result.andThen_ok,Sem.run_pure]
 .show J8 O Jp m w _ (Aem _ _ _);unfold Aem;cases c with
  | false=>exact hu2.toT.1
  | true =>
   refine⟨#[u,.bool (TR p.2.kt (p.2.kt.mk i'.cells).2 p.2.l).isSome],rfl,rfl,fun j hj=> ?_⟩;have hj:j<2:=hj;rcases(show j=0\/j=1 by omega)with rfl | rfl
   .exact hu2.toT.2
   .exact Jw.bool _
theorem An7 {r:Nat} {x y:Go.Obj} (hb:w.heap[r]? =some x):(w.heap.setIfInBounds r y)[r]? =some y/\ ∀ b,b≠r->(w.heap.setIfInBounds r y)[b]? =w.heap[b]? :=by grind
theorem pO (hS:Sim V0 O0 w0 O m st a w) {q r ck ck':Nat} {es es':Array MapEntry} {l l':Mp} (hq:Jv st.Jp q=some (.mp l)) (hm:m q= .map (some r)) (hb:w.heap[r]? =some (.map es ck)) (hO:O r 0=some q) (hs:es'.size=l'.l.length)
 (hes: ∀(i:Nat) (p:l'.kt.Val×l'.vt.Val),l'.l[i]? =some p-> ∃ e,es'[i]? =some e/\NT O w e.key (PD (l'.kt.cells p.1))/\NT O w e.val (PD (l'.vt.cells p.2))) {d:Option Tmp} {v:Value} {x:A} (hx:d≠none-> ∀ O' objs' m' w',J8 O' objs' m' w' v x) :
 Sim V0 O0 w0 O m {tmps:=put st.tmps d x,Jp:=L9 st.Jp q (.mp l')} (a.put d v) {w with heap:=w.heap.setIfInBounds r (.map es' ck')}:=by
 obtain⟨hb1,hb2⟩:=An7 (y:=.map es' ck') hb;have hM:Moves O (fun i=>i=q) w {w with heap:=w.heap.setIfInBounds r (.map es' ck')}:=Moves.map rfl rfl rfl (by simp) hb hb1 hb2 hO rfl;have hP:Passes O O (fun i=>i=q) w.heap.size:=⟨fun _ _ _ h=>h,fun _ _ _ _ h _=>h⟩
 have hpr:=hM.JW hP
 have hE:Rz st.Jp m (L9 st.Jp q (.mp l')) m (fun _=>False):=by
  intro i y hy;rw[Ky]at hy;by_cases hi:i=q
  .rw[Dw hi]at hy;injection hy with hy;subst hy;subst hi;exact .inr ⟨_,hq,rfl,rfl⟩
  .rw[Dt hi]at hy;exact .inr ⟨y,hy,rfl,rfl⟩
 refine hS.next (st':= {tmps:=put st.tmps d x,Jp:=L9 st.Jp q (.mp l')}) (T:=fun i=>i=q) (Nw:=fun _=>False) hM hP (fun b k _ h=>h) hE (fun _ h=>h.elim) (fun r' hr=>by rw[hr,hq];rfl) (fun i y hy=> ?_) rfl (fun h=>hx h _ _ _ _);rw[Ky]at hy;by_cases hi:i=q
 .right;rw[Dw hi]at hy;injection hy with hy;subst hy;subst hi;refine⟨(⟨r,es',ck',hm,hb1,hO,hs,fun j p hp=> ?_⟩:NU O _ i (m i) l'),hS.ids i _ hq⟩;obtain⟨e,k1,k2,k3⟩:=hes j p hp;exact⟨e,k1,k2.JW hpr,k3.JW hpr⟩
 .left;rw[Dt hi]at hy;exact⟨hi,hy,rfl⟩
theorem Ah9 {t:Nat} {r:Option Operand} {xs:List A} (hC:TOk P C) (hS:Sim V0 O0 w0 O m st a w) {d:Nat} (hd:o.dst=some d) (ho:o.op= .makeMap t r) (hr:xs.length=r.toArray.size) (hok:J5 (Wv C d t xs).ok) (hfr: ∀ p∈(Wv C d t xs).new,st.fresh p.1=true) :
 Good P V0 O0 w0 (apply st o (Wv C d t xs)) o a w:=by
 intro next Q hn
 unfold Wv at *
 obtain⟨ti,kt,et,ta,tb,ht,hd',hta,htb,he⟩:=oC hok;rw[he]at hok hfr hn;clear he;have hx:xs=[]:=by simpa using hok.cons.1
 subst hx;have hr0:r=none:=by cases r with | none=>rfl | some _=>simp at hr
 subst hr0;have hfresh:=Nl (hfr _ Du);have hrun:(execOp a.eval o).run P w= .ok (.value (.map (some w.heap.size))) (w.alloc (.map #[] 0)):=by have:(Instr.makeMap t none).run P w= .ok (.map (some w.heap.size)) (w.alloc (.map #[] 0)):=rfl;simp only[execOp,ho,Option.map_none,D8,this,Result.andThen_ok,Sem.run_pure]
 unfold Oper.wp;rw[hrun,Oper.upon_value,hd];let id:=b2 d;let O':Own:=fun b k=>if b=w.heap.size then some id else O b k;let m':Nat->Value:=fun i=>if i=id then .map (some w.heap.size)else m i;have hlt: ∀ {b k},b<w.heap.size->O' b k=O b k:=fun hb=>Dt (GH hb);have hM:Moves O (fun _=>False) w (w.alloc (.map #[] 0)):=Moves.push _;have hP:Passes O O' (fun _=>False) w.heap.size:=⟨fun b k hb h=>by rw[hlt hb];exact h,fun b k q hb h _=>by rw[hlt hb];exact h⟩
 let ob:Vm.Obj:=.mp ⟨tyl ta.cs,tyl tb.cs,[]⟩
 have hget: ∀ i y,Jv (L9 st.Jp id ob) i=some y->(i=id/\y=ob)\/(i≠id/\Jv st.Jp i=some y):=by
  intro i y hy;rw[Ky]at hy;by_cases hi:i=id
  .rw[Dw hi]at hy;injection hy with hy;exact .inl ⟨hi,hy.symm⟩
  .rw[Dt hi]at hy;exact .inr ⟨hi,hy⟩
 have hE:Rz st.Jp m (L9 st.Jp id ob) m' (fun i=>i=id):=by
  intro i y hy;rcases hget i y hy with ⟨h1,_⟩ | ⟨h1,h2⟩
  .exact .inl h1
  .exact .inr ⟨y,h2,rfl,Dt h1⟩
 refine hn O' m' _ _ ?_;have happ: ∀ ok,apply st o {ok:=ok,val:=.own (b2 d),new:=[(b2 d,ob)]}= {tmps:=put st.tmps (some d) (.own id),Jp:=L9 st.Jp id ob}:=by intro ok;unfold apply;rw[hd];rfl
 rw[happ];refine hS.next (st':= {tmps:=put st.tmps (some d) (.own id),Jp:=L9 st.Jp id ob}) (x:=.own id) (T:=fun _=>False) (Nw:=fun i=>i=id) hM hP (fun b k hb h=>by rw[hlt hb]at h;exact h) hE (fun n hn=>by rw[hn];exact hfresh.both) (fun _ h=>h.elim) (fun i y hy=> ?_) rfl (fun _=> ?_)
 .rcases hget i y hy with ⟨h1,h2⟩ | ⟨h1,h2⟩
  .right;subst h1;subst h2;refine⟨(⟨w.heap.size,#[],0,Dw rfl,nT _ _,Dw rfl,rfl,fun i p hp=>by cases hp⟩:NU O' _ id (m' id) _),hfresh.ne⟩
  .exact .inl ⟨fun h=>h,h2,Dt h1⟩
 .refine⟨rfl,?_⟩;all_goals grind[Jv,L9,Obj.shp,Ky]
theorem ApL {α :Type} {l:List α} {j:Nat} {x: α} {i:Nat} {p: α} (h:(l.set j x)[i]? =some p):(i=j/\p=x/\j<l.length)\/(i≠j/\l[i]? =some p):=by
 rw[FC]at h;by_cases hi:j=i
 .simp_all[hi,split]
 .rw[Dt hi]at h;exact .inr ⟨fun e=>hi e.symm,h⟩
theorem Aaw {t:Nat} {x i y:Operand} (hC:TOk P C) (hS:Sim V0 O0 w0 O m st a w) (hd:o.dst=none) (ho:o.op= .mapUpdate t x i y\/o.op= .insert t x i y) {fet:Fet} (hf:OL st.Jp fet) {x' i' y':A} (hx:J8 O st.Jp m w (a.eval x) x') (hi:J8 O st.Jp m w (a.eval i) i') (hy:J8 O st.Jp m w (a.eval y) y')
 (hok:J5 (lV C fet t x' i' y').ok):Good P V0 O0 w0 (apply st o (lV C fet t x' i' y')) o a w:=by
 intro next Q hn
 have hF:FOk O st.Jp m w fet:=fun q x h=>⟨hf q x h,hS.Jp q x (hf q x h)⟩
 unfold lV at *
 obtain⟨ti,kt,et,ta,tb,ht,hd',hta,htb,he⟩:=oC hok;rw[he]at hok hn;clear he;obtain⟨p,hp,he⟩:=JL hok;rw[he]at hok hn;clear he;obtain⟨hokA,hokB⟩:=hok.append;have hmk:=hokB.cons.1;obtain⟨hokA,hokP⟩:=hokA.append;obtain⟨hok1,hokV⟩:=hokA.append;obtain⟨hv1,hokV⟩:=hokV.cons;have hv2:=hokV.cons.1;obtain⟨hq,hv,hM⟩:=AcL hF hx hp;obtain⟨hK,hk,hone,hvt⟩:=Ah2 hC hta hi hok1;obtain⟨hyc1,hyc2⟩:=hy.cells hv1;obtain⟨g1,g2,g3,g4⟩:=UQ (O:=O) (m:=m) (w:=w) hf tb.cs y'.cells (fun j=>(a.eval y).cells.getD j undef) hyc2 hokP;generalize hpu:KF fet tb.cs y'.cells=pu at *
 obtain⟨O1,hS1,hp1,hle1,hv1',hE1,hk1⟩:=hS.freezes _ g3;have hNR:NR st.Jp p.1:=.of hq (fun _ _ _ h=>by cases h)
 have hq1:Jv (JC st.Jp pu.2.2) p.1=some (.mp p.2):=by
  rw[MI _ _ _ (fun z hz e=> ?_)]
  .exact hq
  .obtain⟨e',f',l',h1,_⟩:=g3 z hz;rw[e]at h1;exact hNR _ _ _ h1
 obtain⟨r,es,ck,h1,h2,h3,h4,h5⟩:=(show NU O1 w p.1 (m p.1) p.2 from hS1.Jp p.1 _ hq1).lists;have hu:=(hC.is ht).d;rw[hd']at hu;have hM0:=hM.lists;obtain⟨r0,es0,ck0,k1,k2,k3,k4,k5⟩:=hM0;rw[h1]at k1;injection k1 with k1;injection k1 with k1;subst k1;rw[h2]at k2;injection k2 with k2;injection k2 with k2 k2';subst k2;subst k2';have hfind:=hK.find (a.eval i) _ es.toList p.2.l hk k4 (fun i e p he hp=>(k5 i e p he hp).1);have hchk:=hK.check false (a.eval i) _ hk;have hk':NT O1 w (a.eval i) (PD (p.2.kt.cells (p.2.kt.mk i'.cells).2)):=hk.JW hp1;have hcells:=Ty.SG _ _ hmk;have hval:NT O1 w (a.eval y) (PD (p.2.vt.cells (p.2.vt.mk pu.2.1).2)):=by rw[hcells];refine AjN (Jp:=st.Jp) hv2 hv1 hy (by rw[g1,g2]) (fun j hj=>g4 hp1 hv1' j (by rw[<- g1];exact hj))
 have happ: ∀ ok l',apply st o {ok:=ok,val:=.undef,upd:=pu.2.2++[(p.1,.mp l')]}= {tmps:=put st.tmps none .undef,Jp:=L9 (JC st.Jp pu.2.2) p.1 (.mp l')}:=by
  intro ok l';unfold apply;rw[hd]
  have: ∀(u:List (Nat×Vm.Obj)) (l:List (Nat×Vm.Obj)) n z,JC l (u++[(n,z)])=L9 (JC l u) n z:=by
   intro u
   induction u with
   | nil=>intro l n z;rfl
   | cons q u ih=>intro l n z;exact ih _ _ _
  show St.mk _ (JC (Kw (JC st.Jp (pu.2.2++[(p.1,.mp l')])) []) [])=_;rw[this];rfl
 rcases AaT (k:=(p.2.kt.mk i'.cells).2) es.toList p.2.l 0 k4 with ⟨f1,_,f3,_⟩ | ⟨j,e,q,f1,f2,f3,f4,_,f6,_⟩
 .have hrun:(execOp a.eval o).run P w= .ok .skip {w with heap:=w.heap.setIfInBounds r (.map (es.push {key:=a.eval i,val:=a.eval y,born:=ck}) (ck+1))}:=by
   have:(Instr.mapUpdate t (a.eval x) (a.eval i) (a.eval y)).run P w= .ok () {w with heap:=w.heap.setIfInBounds r (.map (es.push {key:=a.eval i,val:=a.eval y,born:=ck}) (ck+1))}:=by rw[hv,h1];simp [Instr.mapUpdate,DL hu,Vk h2,hchk,hfind,f1,ZH _ h2,Result.andThen]
   rcases ho with ho | ho<;>simp only[execOp,ho,D8,this,Result.andThen_ok,Sem.run_pure]
  unfold Oper.wp;rw[hrun,Oper.upon_skip,hd];refine hn O1 m _ _ ?_;rw[happ];refine pO hS1 (d:=none) (v:=undef) hq1 h1 h2 h3 (by rw[f3,Array.size_push,Dv,<- k4,Array.length_toList];rfl) (fun i0 p0 hp0=> ?_) (fun h=>absurd rfl h);have hp0:(Zg p.2.kt (p.2.kt.mk i'.cells).2 (p.2.vt.mk pu.2.1).2 p.2.l)[i0]? =some p0:=hp0;rw[f3]at hp0;have hsz:es.size=p.2.l.length:=by rw[<- k4,Array.length_toList]
  rcases Ec i0 p.2.l.length with hlt | hge
  .rw[Em hlt]at hp0;have hlt':i0<es.size:=by omega
   have hes:es.toList[i0]? =some es[i0]:=by rw[DY,D6 hlt']
   refine⟨es[i0],by rw[Io,AvH,D6 hlt'],h5 i0 _ p0 hes hp0⟩
  .rw[E5 hge]at hp0
   have h0:i0 - p.2.l.length=0:=by
    rcases GU (i0 - p.2.l.length)with h | h
    .exact h
    .rw[DZ (by show 1<=_;omega)]at hp0;cases hp0
   rw[h0]at hp0;injection hp0 with hp0;subst hp0;exact⟨_,by rw[Io,AvI],hk',hval⟩
 .have hstay:=hK.stays (a.eval i) e.key _ hk (by rw[<- f4];exact(k5 j e q f2 f3).1);have f2':es[j]? =some e:=by rw[<- DY];exact f2
  have hrun:(execOp a.eval o).run P w= .ok .skip {w with heap:=w.heap.setIfInBounds r (.map (es.modify j fun e=> {e with key:=a.eval i,val:=a.eval y}) ck)}:=by
   have:(Instr.mapUpdate t (a.eval x) (a.eval i) (a.eval y)).run P w= .ok () {w with heap:=w.heap.setIfInBounds r (.map (es.modify j fun e=> {e with key:=a.eval i,val:=a.eval y}) ck)}:=by rw[hv,h1];simp [Instr.mapUpdate,DL hu,Vk h2,hchk,hfind,f1,f2',hstay,ZH _ h2,Result.andThen]
   rcases ho with ho | ho<;>simp only[execOp,ho,D8,this,Result.andThen_ok,Sem.run_pure]
  unfold Oper.wp;rw[hrun,Oper.upon_skip,hd];refine hn O1 m _ _ ?_;rw[happ];refine pO hS1 (d:=none) (v:=undef) hq1 h1 h2 h3 (by rw[f6,Array.size_modify,F7,<- k4,Array.length_toList]) (fun i0 p0 hp0=> ?_) (fun h=>absurd rfl h);have hp0:(Zg p.2.kt (p.2.kt.mk i'.cells).2 (p.2.vt.mk pu.2.1).2 p.2.l)[i0]? =some p0:=hp0;rw[f6]at hp0;rcases ApL hp0 with ⟨q1,q2,_⟩ | ⟨q1,q2⟩
  .subst q1;subst q2;refine⟨_,by rw[Gl,Dw rfl,f2'];rfl,?_,hval⟩;dsimp only;rw[f4];exact hk'
  .have hlt:i0<es.size:=by
    have:=(Fb.1 q2).1;rw[<- k4,Array.length_toList]at this;exact this
   have hes:es.toList[i0]? =some es[i0]:=by rw[DY,D6 hlt]
   exact⟨es[i0],by rw[Gl,Dt (fun h=>q1 h.symm),D6 hlt],h5 i0 _ p0 hes q2⟩
theorem AiD {t:Nat} {x i:Operand} {c:Call} (hC:TOk P C) (hS:Sim V0 O0 w0 O m st a w) (ho:o.op= .call c) (hcal:c.callee= .builtin .delete) (hargs:c.args= #[x,i]) {ts:List Nat} (hts:c.argTypes.toList=t::ts) {fet:Fet} (hf:OL st.Jp fet) {x' i':A} (hx:J8 O st.Jp m w (a.eval x) x') (hi:J8 O st.Jp m w (a.eval i) i')
 (hok:J5 (kD C fet t x' i').ok):Good P V0 O0 w0 (apply st o (kD C fet t x' i')) o a w:=by
 intro next Q hn
 have hF:FOk O st.Jp m w fet:=fun q x h=>⟨hf q x h,hS.Jp q x (hf q x h)⟩
 unfold kD at *
 obtain⟨ti,kt,et,ta,tb,ht,hd',hta,htb,he⟩:=oC hok;rw[he]at hok hn;clear he;obtain⟨p,hp,he⟩:=JL hok;rw[he]at hok hn;clear he;obtain⟨hq,hv,hM⟩:=AcL hF hx hp;obtain⟨hK,hk,hone,hvt⟩:=Ah2 hC hta hi hok;obtain⟨r,es,ck,h1,h2,h3,h4,h5⟩:=hM.lists;have hu:=(hC.is ht).d;rw[hd']at hu;have hts0:c.argTypes[0]? =some t:=by rw[<- DY,hts];rfl
 have hfind:=hK.find (a.eval i) _ es.toList p.2.l hk h4 (fun i e p he hp=>(h5 i e p he hp).1);have hchk:=hK.check es.isEmpty (a.eval i) _ hk;have happ: ∀ ok l',apply st o {ok:=ok,val:=.tup [],upd:=[(p.1,.mp l')]}= {tmps:=put st.tmps o.dst (.tup []),Jp:=L9 st.Jp p.1 (.mp l')}:=by intro ok l';rfl
 have hT: ∀(O':Own) (objs':List (Nat×Vm.Obj)) (m':Nat->Value) (w':World),J8 O' objs' m' w' (.tuple #[]) (.tup []):=fun _ _ _ _=>⟨#[],rfl,rfl,fun j hj=>by cases hj⟩
 have main: ∀(es':Array MapEntry),(Builtin.delete_ c.argTypes o.type #[a.eval x,a.eval i]).run P w= .ok (.tuple #[]) {w with heap:=w.heap.setIfInBounds r (.map es' ck)}->es'.size=(iE p.2.kt (p.2.kt.mk i'.cells).2 p.2.l).length ->
  (∀(i0:Nat) (p0:p.2.kt.Val×p.2.vt.Val),(iE p.2.kt (p.2.kt.mk i'.cells).2 p.2.l)[i0]? =some p0-> ∃ e,es'[i0]? =some e/\NT O w e.key (PD (p.2.kt.cells p0.1))/\NT O w e.val (PD (p.2.vt.cells p0.2)))->o.wp P a w next Q:=by
  intro es' hr hs he;have hrun:(execOp a.eval o).run P w= .ok (.value (.tuple #[])) {w with heap:=w.heap.setIfInBounds r (.map es' ck)}:=by simp [execOp,ho,resolve,hcal,hargs,invoke,builtin,hr]
  unfold Oper.wp;rw[hrun,Oper.upon_value];refine hn O m _ _ ?_;rw[happ];exact pO (l':=⟨p.2.kt,p.2.vt,iE p.2.kt (p.2.kt.mk i'.cells).2 p.2.l⟩) hS hq (by rw[<- h1]) h2 h3 hs he (fun _=>hT)
 have hsz:es.size=p.2.l.length:=by rw[<- h4,Array.length_toList]
 rcases AaT (k:=(p.2.kt.mk i'.cells).2) es.toList p.2.l 0 h4 with ⟨f1,_,_,f3⟩ | ⟨j,e,q,f1,f2,f3,f4,_,_,f6⟩
 .refine main es ?_ (by rw[f3];exact hsz) (fun i0 p0 hp0=> ?_)
  .rw[hv,h1];simp [Builtin.delete_,hts0,DL hu,Vk h2,hchk,hfind,f1,ZH _ h2,Result.andThen]
  .rw[f3]at hp0;have hlt:i0<es.size:=by have:=(Fb.1 hp0).1;omega
   have hes:es.toList[i0]? =some es[i0]:=by rw[DY,D6 hlt]
   exact⟨es[i0],D6 hlt,h5 i0 _ p0 hes hp0⟩
 .have hj:j<es.size:=by
   have:=(Fb.1 f2).1;simpa using this
  have hel:(es.eraseIdxIfInBounds j).toList=es.toList.eraseIdx j:=by unfold Array.eraseIdxIfInBounds;rw[GZ hj];simp
  refine main (es.eraseIdxIfInBounds j) ?_ ?_ (fun i0 p0 hp0=> ?_)
  .rw[hv,h1];simp [Builtin.delete_,hts0,DL hu,Vk h2,hchk,hfind,f1,ZH _ h2,Result.andThen]
  all_goals grind[NT,PD,split]
end
open Classical
def IC (O:Own) (w:World) (id:Nat) (v:Value):A->Prop
 | .usl z e l=>KZ O [] (fun _=>v) w id (.arr e z l)
 | .box cs=> ∃ b base,v= .pointer (some (at' b base))/\ ∀ j,j<cs.length->O b (base+j)=some id/\w.frozen? (at' b (base+j))=false/\ ∃ u,w.cell? (at' b (base+j))=some u/\Jw O w u (cs.getD j .undef)
 | .ump l=>NU O w id v l
 | a=>Jw O w v a
def IR (O:Own) (w:World) (id:Nat) (v:Value):A->Prop
 | .agg cs=> ∃ vs:Array Value,v= .agg vs/\vs.size=cs.length/\ ∀ j,j<cs.length->IC O w (id+1+j) (vs.getD j undef) (cs.getD j .undef)
 | .box cs=> ∃ b base,v= .pointer (some (at' b base))/\ ∀ j,j<cs.length->O b (base+j)=some id/\w.frozen? (at' b (base+j))=false/\ ∃ u,w.cell? (at' b (base+j))=some u/\IC O w (id+1+j) u (cs.getD j .undef)
 | .cbx k cs=> ∃ b base,Zu O w k v (.pointer (some (at' b base)))/\ ∀ j,j<cs.length->O b (base+j)=some id/\w.frozen? (at' b (base+j))=false/\ ∃ u,w.cell? (at' b (base+j))=some u/\IC O w (id+1+j) u (cs.getD j .undef)
 | .ump l=>NU O w id v l
 | a=>IC O w id v a
section
variable {P:Program} {C:Ctx} {V0:Nat->Value} {O0 O:Own} {w0 w:World} {m:Nat->Value} {st:St} {a:Act} {o:Oper}
theorem Jw.ic {id:Nat} {v:Value} {x:A} (h:Jw O w v x):IC O w id v x:=by cases h<;>first | exact .bool _ | exact .int _ _ | exact .str _ | exact .nil _ | exact .LP | exact .fn _ | exact .eQ | exact Jw.sl0 _ _ | (rename_i vs a1 a2 a3;exact Jw.sl vs a1 a2 a3) | (rename_i h hn;exact Jw.sln h hn)
def OG (O:Own) (ρ :Nat->Option Nat):Own:=fun b k=>match O b k with
 | none=>none
 | some o=>match ρ o with
  | some i=>some i
  | none=>some 255
theorem Vx {ρ :Nat->Option Nat} {b k:Nat}:OG O ρ b k=none↔O b k=none:=by grind[OG]
theorem TZ {ρ :Nat->Option Nat} {b k o i:Nat} (h:O b k=some o) (hr: ρ o=some i):OG O ρ b k=some i:=by unfold OG;rw[h];simp [hr]
theorem Sm (ρ :Nat->Option Nat):Nj O w (OG O ρ) w:=fun _ _ _ h hc=>⟨Vx.2 h,hc⟩
theorem KZ.OG {ρ :Nat->Option Nat} {q i e:Nat} {z:Bool} {l:Sl} {Jp objs':List (Nat×Obj)} {m m':Nat->Value} (h:KZ O Jp m w q (.arr e z l)) (hr: ρ q=some i) (hm:m' i=m q) :
 KZ (OG O ρ) objs' m' w i (.arr e z l):=by
 refine⟨h.1,?_⟩;rcases h.2 with ⟨h1,h2,h3⟩ | ⟨h1,g,cap,cur,h2,h3,h4,h5,h6,h7,h8,h9⟩
 .exact .inl ⟨h1,h2,by rw[hm];exact h3⟩
 .refine .inr ⟨h1,g,cap,cur,by rw[hm];exact h2,h3,h4,h5,h6,fun r j hr' hj=> ?_,fun k hk hge=>TZ (h8 k hk hge) hr,fun k hk=> ?_⟩
  .obtain⟨u,h10,h11⟩:=h7 r j hr' hj;exact⟨u,h10,h11.JW (Sm ρ)⟩
  .have:=h9 k hk;cases z with
   | true=>exact Vx.2 this
   | false=>exact TZ this hr
theorem KZ.keep {O':Own} {q e:Nat} {l:Sl} {Jp objs':List (Nat×Obj)} {m:Nat->Value} (h:KZ O Jp m w q (.arr e false l)) (hp:Nj O w O' w) (hk: ∀ b k,O b k=some q->O' b k=some q):KZ O' objs' m w q (.arr e false l):=by
 refine⟨h.1,?_⟩;rcases h.2 with h0 | ⟨h1,g,cap,cur,h2,h3,h4,h5,h6,h7,h8,h9⟩
 .exact .inl h0
 .refine .inr ⟨h1,g,cap,cur,h2,h3,h4,h5,h6,fun r j hr' hj=> ?_,fun k a b=>hk _ _ (h8 k a b),fun k a=>hk _ _ (h9 k a)⟩;obtain⟨u,h10,h11⟩:=h7 r j hr' hj;exact⟨u,h10,h11.JW hp⟩
theorem Vl {W:Prop} {fet:Fet} (hf:OL st.Jp fet) (hS: ∀ q y,Jv st.Jp q=some y->KZ O st.Jp m w q y): ∀(ks:List (Bool×CK)) (cs:List A) (id:Nat) (f:Nat->Value),(ks.any wC=true->W)->(∀ j,j<cs.length->JF O st.Jp m w (f j) (cs.getD j .undef))->J5 (J3 fet ks cs).1 ->
 (J3 fet ks cs).2.1.length=ks.length/\cs.length=ks.length/\Frz st.Jp (J3 fet ks cs).2.2.1/\(J3 fet ks cs).2.2.2=(Ld id ks cs).map (·.1) /\
 ∀ {O':Own} {objs':List (Nat×Obj)} {ρ :Nat->Option Nat},Nj O w O' w->(∀ p∈(J3 fet ks cs).2.2.1,∀ e l,p.2= .arr e true l->Jw O' w (m p.1) (.sl l)) ->
  (∀ p∈(J3 fet ks cs).2.2.1,KZ O' objs' m w p.1 p.2)->(∀ b k q,O b k=some q->(NR st.Jp q\/W)->O' b k=some q)->(∀ p∈Ld id ks cs,ρ p.1=some p.2) ->
  ∀ j,j<ks.length->IC (OG O' ρ) w (id+j) (f j) ((J3 fet ks cs).2.1.getD j .undef):=by
 intro ks
 induction ks with
 | nil =>
  intro cs id f _ _ hok;cases cs with
  | nil=>exact⟨rfl,rfl,(fun p hp=>by simp [J3]at hp),rfl,fun _ _ _ _ _ j hj=>by simp at hj⟩
  | cons _ _=>have:=hok false (by simp [J3]);cases this
 | cons k ks ih =>
  intro cs id f hW h hok;obtain⟨u,k⟩:=k;cases cs with
  | nil=>have:=hok false (by cases u<;>simp [J3]);cases this
  | cons c cs =>
   have hrest:=fun hok2=>ih cs (id+1) (fun j=>f (j+1)) (fun h=>hW (by rw[List.any_cons,h,Ff])) (fun j hj=>by simpa using h (j+1) (by simpa using hj)) hok2;cases u with
   | false =>
    simp only[J3]at hok ⊢;obtain⟨hok1,hok2⟩:=hok.append;obtain⟨h1,h2⟩:=AhV hf (h 0 (by simp)) hok1;obtain⟨h3,h4,h5,h6,h7⟩:=hrest hok2;have hnames:Ld id ((false,k)::ks) (c::cs)=Ld (id+1) ks cs:=by cases c<;>rfl
    refine⟨by simp [h3],by simp [h4],h1.append h5,by rw[hnames];exact h6,fun {O' objs' ρ} hp hv hO hbx hρ j hj=> ?_⟩;rw[hnames]at hρ;cases j with
    | zero =>have hvr:=(h2 hp (fun p hp=>hv p (DD _ hp))).JW (Sm ρ);exact hvr.ic
    | succ j =>have:=h7 hp (fun p hp=>hv p (DC _ hp)) (fun p hp=>hO p (DC _ hp)) hbx hρ j (by simpa using hj);rw[show id+(j+1)=id+1+j from by omega];simpa using this
   | true =>
    cases k with
    | sl e sz =>
     cases c with
     | own q =>
      simp only[J3]at hok ⊢;cases hg:Jv fet q with
      | none=>rw[hg]at hok;have:=hok false (by simp);cases this
      | some x =>
       cases x with
       | box _=>rw[hg]at hok;have:=hok false (by simp);cases this
       | mp _=>rw[hg]at hok;have:=hok false (by simp);cases this
       | arr e' fz l =>
        rw[hg]at hok;dsimp only at hok ⊢;obtain⟨hok1,hok2⟩:=hok.append;obtain⟨e1,e2⟩:=hok1.cons;have e1:=Dp e1;subst e1;obtain⟨h3,h4,h5,h6,h7⟩:=hrest hok2;have hq:=hf q _ hg;refine⟨by simp [h3],by simp [h4],fun p hp=> ?_,?_,fun {O' objs' ρ} hp hv hO hbx hρ j hj=> ?_⟩
        .rcases Dz.1 hp with rfl | hp
         .exact⟨e,fz,l,hq,rfl⟩
         .exact h5 p hp
        .simp only[Ld,Eb,h6]
        .cases j with
         | zero =>have hc:JF O st.Jp m w (f 0) (.own q):=h 0 (by simp);have hc:=hc.2;rw[hq]at hc;simp only[Option.map_some,Obj.shp]at hc;have:=hO _ Du;exact this.OG (objs':=[]) (m':=fun _=>f 0) (hρ (q,id) Du) hc
         | succ j =>have:=h7 hp (fun p hp=>hv p (Dy _ hp)) (fun p hp=>hO p (Dy _ hp)) hbx (fun p hp=>hρ p (Dy _ hp)) j (by simpa using hj);rw[show id+(j+1)=id+1+j from by omega];simpa using this
     | Lj =>
      simp only[J3]at hok ⊢;obtain⟨h3,h4,h5,h6,h7⟩:=hrest hok;have hnames:Ld id ((true,.sl e sz)::ks) (.Lj::cs)=Ld (id+1) ks cs:=rfl;refine⟨by simp [h3],by simp [h4],h5,by rw[hnames];exact h6,fun {O' objs' ρ} hp hv hO hbx hρ j hj=> ?_⟩;rw[hnames]at hρ;cases j with
      | zero =>have hc:JF O st.Jp m w (f 0) .Lj:=h 0 (by simp);have hc:f 0= .slice none 0 0:=hc;show KZ _ [] (fun _=>f 0) w _ (.arr e true ⟨sz,[]⟩);exact⟨by simp [Sl.es],.inl ⟨trivial,rfl,hc⟩⟩
      | succ j =>have:=h7 hp hv hO hbx hρ j (by simpa using hj);rw[show id+(j+1)=id+1+j from by omega];simpa using this
     | _=>have:=hok false (by simp [J3]);cases this
    | sln e sz =>
     cases c with
     | own q =>
      simp only[J3]at hok ⊢;cases hg:Jv fet q with
      | none=>rw[hg]at hok;have:=hok false (by simp);cases this
      | some x =>
       cases x with
       | box _=>rw[hg]at hok;have:=hok false (by simp);cases this
       | mp _=>rw[hg]at hok;have:=hok false (by simp);cases this
       | arr e' fz l =>
        rw[hg]at hok;dsimp only at hok ⊢;obtain⟨hok1,hok2⟩:=hok.append;obtain⟨e1,e2⟩:=hok1.cons;obtain⟨_,e3⟩:=e2.cons;have e3:fz=false:=by simpa using e3.cons.1
        subst e3;have e1:=Dp e1;subst e1;obtain⟨h3,h4,h5,h6,h7⟩:=hrest hok2;have hq:=hf q _ hg;refine⟨by simp [h3],by simp [h4],h5,?_,fun {O' objs' ρ} hp hv hO hbx hρ j hj=> ?_⟩
        .simp only[Ld,Eb,h6]
        .cases j with
         | zero =>have hc:JF O st.Jp m w (f 0) (.own q):=h 0 (by simp);have hc:=hc.2;rw[hq]at hc;simp only[Option.map_some,Obj.shp]at hc;exact(KZ.keep (objs':=st.Jp) (hS q _ hq) hp fun b k hb=>hbx b k q hb (.inr (hW rfl))).OG (objs':=[]) (m':=fun _=>f 0) (hρ (q,id) Du) hc
         | succ j =>have:=h7 hp hv hO hbx (fun p hp=>hρ p (Dy _ hp)) j (by simpa using hj);rw[show id+(j+1)=id+1+j from by omega];simpa using this
     | Lj =>
      simp only[J3]at hok ⊢;obtain⟨h3,h4,h5,h6,h7⟩:=hrest hok;have hnames:Ld id ((true,.sln e sz)::ks) (.Lj::cs)=Ld (id+1) ks cs:=rfl;refine⟨by simp [h3],by simp [h4],h5,by rw[hnames];exact h6,fun {O' objs' ρ} hp hv hO hbx hρ j hj=> ?_⟩;rw[hnames]at hρ;cases j with
      | zero =>have hc:JF O st.Jp m w (f 0) .Lj:=h 0 (by simp);have hc:f 0= .slice none 0 0:=hc;show KZ _ [] (fun _=>f 0) w _ (.arr e false ⟨sz,[]⟩);exact⟨by simp [Sl.es],.inl ⟨trivial,rfl,hc⟩⟩
      | succ j =>have:=h7 hp hv hO hbx hρ j (by simpa using hj);rw[show id+(j+1)=id+1+j from by omega];simpa using this
     | _=>have:=hok false (by simp [J3]);cases this
    | bx t =>
     cases c with
     | ptr q off =>
      simp only[J3]at hok ⊢;cases hg:Lp fet q with
      | none=>rw[hg]at hok;have:=hok false (by simp);cases this
      | some zs =>
       rw[hg]at hok;dsimp only at hok ⊢;obtain⟨hok0,hok1⟩:=hok.cons;obtain⟨hok1,hok2⟩:=hok1.append;have hok0:=Dp hok0;subst hok0;obtain⟨h3,h4,h5,h6,h7⟩:=hrest hok2;have hq:=hf q _ (KX hg);obtain⟨b,base,g1,g2⟩:=hS q _ hq;have hv0:f 0= .pointer (some (at' b base)):=by have hc:JF O st.Jp m w (f 0) (.ptr q 0):=h 0 (by simp);have hc:=hc.2;rw[hq]at hc;simp only[Option.map_some,Obj.shp]at hc;obtain⟨b',base',g3,g4⟩:=hc;rw[g1]at g3;injection g3 with g3;injection g3 with g3;injection g3 with e1 e2;subst e1;subst e2;exact g4
       have hfc: ∀ j,j<zs.length->w.cell? (at' b (base+j))=some ((w.cell? (at' b (base+j))).getD undef)/\JF O st.Jp m w ((w.cell? (at' b (base+j))).getD undef) (zs.getD j .undef):=by intro j hj;obtain⟨_,_,u,h3,h4⟩:=g2 j hj;rw[h3];exact⟨rfl,h4⟩
       obtain⟨p1,p2,p3,p4⟩:=UQ hf (tck t) zs (fun j=>(w.cell? (at' b (base+j))).getD undef) (fun j hj=>(hfc j hj).2) hok1;refine⟨by simp [h3],by simp [h4],p3.append h5,?_,fun {O' objs' ρ} hp hv hO hbx hρ j hj=> ?_⟩
       .simp only[Ld,Eb,h6]
       .cases j with
        | zero =>
         refine⟨b,base,hv0,fun j hj=> ?_⟩;have hj:j<(KF fet (tck t) zs).2.1.length:=hj;rw[p1]at hj;have hj':j<zs.length:=by rw[p2];exact hj
         obtain⟨k1,k2,_⟩:=g2 j hj';exact⟨TZ (hbx _ _ _ k1 (.inl (.of hq (fun _ _ _ h=>by cases h)))) (hρ (q,id) Du),k2,_,(hfc j hj').1,(p4 hp (fun p hp=>hv p (DD _ hp)) j hj).JW (Sm ρ)⟩
        | succ j =>have:=h7 hp (fun p hp=>hv p (DC _ hp)) (fun p hp=>hO p (DC _ hp)) hbx (fun p hp=>hρ p (Dy _ hp)) j (by simpa using hj);rw[show id+(j+1)=id+1+j from by omega];simpa using this
     | _=>have:=hok false (by simp [J3]);cases this
    | mp kt vt =>
     cases c with
     | own q =>
      simp only[J3]at hok ⊢;cases hg:Jv fet q with
      | none=>rw[hg]at hok;have:=hok false (by simp);cases this
      | some x =>
       cases x with
       | box _=>rw[hg]at hok;have:=hok false (by simp);cases this
       | arr _ _ _=>rw[hg]at hok;have:=hok false (by simp);cases this
       | mp l =>
        rw[hg]at hok;dsimp only at hok ⊢;obtain⟨hok1,hok2⟩:=hok.append;obtain⟨h3,h4,h5,h6,h7⟩:=hrest hok2;have hq:=hf q _ hg;refine⟨by simp [h3],by simp [h4],h5,?_,fun {O' objs' ρ} hp hv hO hbx hρ j hj=> ?_⟩
        .simp only[Ld,Eb,h6]
        .cases j with
         | zero =>
          have hc:JF O st.Jp m w (f 0) (.own q):=h 0 (by simp);have hc:=hc.2;rw[hq]at hc;have hv0:f 0=m q:=hc;obtain⟨r,es,ck,g1,g2,g3,g4,g5⟩:=(show NU O w q (m q) l from hS q _ hq)
          refine⟨r,es,ck,by rw[hv0];exact g1,g2,TZ (hbx _ _ _ g3 (.inl (.of hq (fun _ _ _ h=>by cases h)))) (hρ (q,id) Du),g4,fun i p hip=> ?_⟩;obtain⟨e,k1,k2,k3⟩:=g5 i p hip;exact⟨e,k1,(k2.JW hp).JW (Sm ρ),(k3.JW hp).JW (Sm ρ)⟩
         | succ j =>have:=h7 hp hv hO hbx (fun p hp=>hρ p (Dy _ hp)) j (by simpa using hj);rw[show id+(j+1)=id+1+j from by omega];simpa using this
     | _=>have:=hok false (by simp [J3]);cases this
    | _=>have:=hok false (by simp [J3]);cases this
end
section
variable {P:Program} {C:Ctx} {V0:Nat->Value} {O0 O:Own} {w0 w:World} {m:Nat->Value} {st:St} {a:Act} {o:Oper}
theorem Ahi {W:Prop} {fet:Fet} (hf:OL st.Jp fet) {s:Sh} {x:A} {v:Value} {id:Nat} (hW:wS s=true->W) (hx:J8 O st.Jp m w v x) (hS: ∀ q y,Jv st.Jp q=some y->KZ O st.Jp m w q y) (hok:J5 (JU fet s x).ok) :
 Frz st.Jp (JU fet s x).upd/\(∀ q∈(JU fet s x).del++(JU fet s x).boxes.map (·.1),q∈(Ph fet id s x).map (·.1))/\(∀ q∈(Ph fet id s x).map (·.1),q∈(JU fet s x).del++(JU fet s x).boxes.map (·.1)) /\
 (KD s=true↔(JU fet s x).boxes≠ []) /\
 ∀ {O':Own} {objs':List (Nat×Obj)} {ρ :Nat->Option Nat},Nj O w O' w->(∀ p∈(JU fet s x).upd,∀ e l,p.2= .arr e true l->Jw O' w (m p.1) (.sl l)) ->
  (∀ p∈(JU fet s x).upd,KZ O' objs' m w p.1 p.2)->(∀ b k q,O b k=some q->(NR st.Jp q\/W)->O' b k=some q)->(∀ p∈Ph fet id s x,ρ p.1=some p.2) ->
  IR (OG O' ρ) w id v (JU fet s x).a:=by
 cases s with
 | cell u k =>
  unfold JU at *
  dsimp only at hok ⊢
  have hall: ∀ hc:JF O st.Jp m w v x,_:=fun hc=>Vl hf hS [(u,k)] [x] id (fun _=>v) (fun h=>hW (by rw[List.any_cons,List.any_nil,FK]at h;exact h)) (fun j hj=>by
   have:j=0:=by simpa using hj
   subst this;exact hc)
  have hnc: ∀(h:J5 (J3 fet [(u,k)] [x]).1),JF O st.Jp m w v x:=by
   intro h;cases x with
   | undef=>cases u<;>cases k<;>(have:=h false (by simp [J3,pur]);cases this)
   | agg _=>cases u<;>cases k<;>(have:=h false (by simp [J3,pur]);cases this)
   | tup _=>cases u<;>cases k<;>(have:=h false (by simp [J3,pur]);cases this)
   | cnd _ _=>cases u<;>cases k<;>(have:=h false (by simp [J3,pur]);cases this)
   | _=>exact hx
  generalize hh:J3 fet [(u,k)] [x]=r at *
  obtain⟨ok,cs,upd,del⟩:=r;cases cs with
  | nil=>have:=hok false (by simp);cases this
  | cons c cs =>
   cases cs with
   | cons _ _=>have:=hok false (by simp);cases this
   | nil =>
    dsimp only at hok ⊢;obtain⟨h1,h2,h3,h4,h5⟩:=hall (hnc hok) hok;have h4:del=(Ld id [(u,k)] [x]).map (·.1):=h4;refine⟨h3,fun q hq=> ?_,fun q hq=> ?_,⟨(fun h=>by cases h),fun h=>absurd rfl h⟩,fun {O' objs' ρ} hp hv hO hbx hρ => ?_⟩
    .simp only[ET,Ee]at hq;rw[h4]at hq;exact hq
    .simp only[ET,Ee];rw[h4];exact hq
    .have:=h5 hp hv hO hbx hρ 0 (by simp);have e: [c].getD 0 .undef=c:=rfl;dsimp only at this;rw[e]at this;cases c<;>first | exact this | (obtain⟨b,base,e1,e2⟩:=this;exact⟨b,base,e1,fun j hj=>let ⟨k1,k2,u,k3,k4⟩:=e2 j hj;⟨k1,k2,u,k3,k4.ic⟩⟩) | cases this
 | agg ks =>
  cases x with
  | agg cs =>
   unfold JU at *
   dsimp only at hok ⊢;obtain⟨vs,g1,g2,g3⟩:=hx;obtain⟨h1,h2,h3,h4,h5⟩:=Vl hf hS ks cs (id+1) (fun j=>vs.getD j undef) hW g3 hok;refine⟨h3,fun q hq=> ?_,fun q hq=> ?_,⟨(fun h=>by cases h),fun h=>absurd rfl h⟩,fun {O' objs' ρ} hp hv hO hbx hρ => ?_⟩
   .simp only[ET,Ee]at hq;rw[h4]at hq;exact hq
   .simp only[ET,Ee];rw[h4];exact hq
   .exact⟨vs,g1,by rw[g2,h1,h2],fun j hj=>h5 hp hv hO hbx hρ j (by rw[<- h1];exact hj)⟩
  | _=>have:=hok false (by simp [JU]);cases this
 | box ks =>
  cases x with
  | ptr q off =>
   unfold JU at *
   dsimp only at hok ⊢;cases hg:Lp fet q with
   | none=>rw[hg]at hok;have:=hok false (by simp);cases this
   | some cs =>
    rw[hg]at hok;dsimp only at hok ⊢;obtain⟨ho0,hokA⟩:=hok.cons;obtain⟨_,hokB⟩:=hokA.cons;have ho0:=Dp ho0;subst ho0;have hq:=hf q _ (KX hg);obtain⟨b,base,g1,g2⟩:=hS q _ hq;have hv0:v= .pointer (some (at' b base)):=by have hc:JF O st.Jp m w v (.ptr q 0):=hx;have hc:=hc.2;all_goals grind[Obj.shp]
    let f:Nat->Value:=fun j=>(w.cell? (at' b (base+j))).getD undef
    have hfc: ∀ j,j<cs.length->w.cell? (at' b (base+j))=some (f j)/\JF O st.Jp m w (f j) (cs.getD j .undef):=by
     intro j hj;obtain⟨_,_,u,h3,h4⟩:=g2 j hj;have:f j=u:=by show(w.cell? _).getD _=_;rw[h3];rfl
     rw[this];exact⟨h3,h4⟩
    obtain⟨h1,h2,h3,h4,h5⟩:=Vl hf hS ks cs (id+1) f hW (fun j hj=>(hfc j hj).2) hokB;have hnames:Ph fet id (.box ks) (.ptr q 0)=(q,id)::Ld (id+1) ks cs:=by simp only[Ph,hg]
    rw[hnames];refine⟨h3,fun r hr=> ?_,fun r hr=> ?_,⟨fun _=>by simp,fun _=>rfl⟩,fun {O' objs' ρ} hp hv hO hbx hρ => ?_⟩
    .simp only[Eb,ET,DU,Eh]at hr;rcases hr with hr | hr
     .rw[h4]at hr;exact Dy _ hr
     .rw[hr];exact Du
    .simp only[Eb,ET,DU,Eh];rcases Dz.1 hr with hr | hr
     .exact .inr hr
     .left;rw[h4];exact hr
    .refine⟨b,base,hv0,fun j hj=> ?_⟩;rw[h1]at hj;obtain⟨k1,k2,u,k3,_⟩:=g2 j (by rw[h2];exact hj);refine⟨TZ (hbx _ _ _ k1 (.inl (.of hq (fun _ _ _ h=>by cases h)))) (hρ (q,id) Du),k2,f j,(hfc j (by rw[h2];exact hj)).1,h5 hp hv hO hbx (fun p hp'=>hρ p (Dy _ hp')) j hj⟩
  | _=>have:=hok false (by simp [JU]);cases this
 | clo f' ks =>
  cases x with
  | clo g q =>
   unfold JU at *
   dsimp only at hok ⊢;cases hg:Lp fet q with
   | none=>rw[hg]at hok;have:=hok false (by simp);cases this
   | some cs =>
    rw[hg]at hok;dsimp only at hok ⊢;obtain⟨ho0,hokA⟩:=hok.cons;obtain⟨_,hokB⟩:=hokA.cons;have ho0:=Dp ho0;subst ho0;have hq:=hf q _ (KX hg);obtain⟨b,base,g1,g2⟩:=hS q _ hq;have hv0:Zu O w f' v (.pointer (some (at' b base))):=by have hc:JF O st.Jp m w v (.clo f' q):=hx;obtain⟨_,p,_,hc2,hc⟩:=hc;rw[hq]at hc;obtain⟨b',base',e1,e2⟩:=hc;rw[g1]at e1;rw[e1,<- e2];exact hc2
    let f:Nat->Value:=fun j=>(w.cell? (at' b (base+j))).getD undef
    have hfc: ∀ j,j<cs.length->w.cell? (at' b (base+j))=some (f j)/\JF O st.Jp m w (f j) (cs.getD j .undef):=by
     intro j hj;obtain⟨_,_,u,h3,h4⟩:=g2 j hj;have:f j=u:=by show(w.cell? _).getD _=_;rw[h3];rfl
     rw[this];exact⟨h3,h4⟩
    obtain⟨h1,h2,h3,h4,h5⟩:=Vl hf hS ks cs (id+1) f hW (fun j hj=>(hfc j hj).2) hokB;have hnames:Ph fet id (.clo f' ks) (.clo f' q)=(q,id)::Ld (id+1) ks cs:=by simp only[Ph,hg]
    rw[hnames];refine⟨h3,fun r hr=> ?_,fun r hr=> ?_,⟨fun _=>by simp,fun _=>rfl⟩,fun {O' objs' ρ} hp hv hO hbx hρ => ?_⟩
    .simp only[Eb,ET,DU,Eh]at hr;rcases hr with hr | hr
     .rw[h4]at hr;exact Dy _ hr
     .rw[hr];exact Du
    .simp only[Eb,ET,DU,Eh];rcases Dz.1 hr with hr | hr
     .exact .inr hr
     .left;rw[h4];exact hr
    .refine⟨b,base,(hv0.JW hp).JW (Sm ρ),fun j hj=> ?_⟩;rw[h1]at hj;obtain⟨k1,k2,u,k3,_⟩:=g2 j (by rw[h2];exact hj);refine⟨TZ (hbx _ _ _ k1 (.inl (.of hq (fun _ _ _ h=>by cases h)))) (hρ (q,id) Du),k2,f j,(hfc j (by rw[h2];exact hj)).1,h5 hp hv hO hbx (fun p hp'=>hρ p (Dy _ hp')) j hj⟩
  | _=>have:=hok false (by simp [JU]);cases this
 | map kt vt =>
  cases x with
  | own q =>
   unfold JU at *
   dsimp only at hok ⊢;cases hg:Jv fet q with
   | none=>rw[hg]at hok;have:=hok false (by simp);cases this
   | some y =>
    cases y with
    | box _=>rw[hg]at hok;have:=hok false (by simp);cases this
    | arr _ _ _=>rw[hg]at hok;have:=hok false (by simp);cases this
    | mp l =>
     rw[hg]at hok;dsimp only at hok ⊢;have hq:=hf q _ hg;have hv0:v=m q:=by have hc:JF O st.Jp m w v (.own q):=hx;have hc:=hc.2;rw[hq]at hc;exact hc
     refine⟨(fun p hp=>by cases hp),fun r hr=> ?_,fun r hr=> ?_,⟨fun _=>by simp,fun _=>rfl⟩,fun {O' objs' ρ} hp hv hO hbx hρ => ?_⟩
     .simpa [Ph]using hr
     .simpa [Ph]using hr
     .obtain⟨r,es,ck,g1,g2,g3,g4,g5⟩:=(show NU O w q (m q) l from hS q _ hq)
      refine⟨r,es,ck,by rw[hv0];exact g1,g2,TZ (hbx _ _ _ g3 (.inl (.of hq (fun _ _ _ h=>by cases h)))) (hρ (q,id) Du),g4,fun i p hip=> ?_⟩;obtain⟨e,k1,k2,k3⟩:=g5 i p hip;exact⟨e,k1,(k2.JW hp).JW (Sm ρ),(k3.JW hp).JW (Sm ρ)⟩
  | _=>have:=hok false (by simp [JU]);cases this
theorem Zc {W:Prop} {fet:Fet} (hf:OL st.Jp fet) (hS: ∀ q y,Jv st.Jp q=some y->KZ O st.Jp m w q y) (stride:Nat): ∀(ss:List Sh) (xs:List A) (id:Nat) (f:Nat->Value),(ss.any wS=true->W)->(∀ j,j<xs.length->J8 O st.Jp m w (f j) (xs.getD j .undef))->J5 (JK fet ss xs).1 ->
 (JK fet ss xs).2.1.length=ss.length/\xs.length=ss.length/\Frz st.Jp (JK fet ss xs).2.2.1 /\
 (∀ q,q∈(JK fet ss xs).2.2.2.1++(JK fet ss xs).2.2.2.2.map (·.1)↔q∈(NQ fet id stride ss xs).map (·.1)) /\
 ∀ {O':Own} {objs':List (Nat×Obj)} {ρ :Nat->Option Nat},Nj O w O' w->(∀ p∈(JK fet ss xs).2.2.1,∀ e l,p.2= .arr e true l->Jw O' w (m p.1) (.sl l)) ->
  (∀ p∈(JK fet ss xs).2.2.1,KZ O' objs' m w p.1 p.2)->(∀ b k q,O b k=some q->(NR st.Jp q\/W)->O' b k=some q)->(∀ p∈NQ fet id stride ss xs,ρ p.1=some p.2) ->
  ∀ j,j<ss.length->IR (OG O' ρ) w (id+stride*j) (f j) ((JK fet ss xs).2.1.getD j .undef):=by
 intro ss
 induction ss with
 | nil =>
  intro xs id f _ _ hok;cases xs with
  | nil=>exact⟨rfl,rfl,(fun p hp=>by simp [JK]at hp),(fun q=>by simp [JK,NQ]),fun _ _ _ _ _ j hj=>by simp at hj⟩
  | cons _ _=>have:=hok false (by simp [JK]);cases this
 | cons s ss ih =>
  intro xs id f hW h hok;cases xs with
  | nil=>have:=hok false (by simp [JK]);cases this
  | cons x xs =>
   simp only[JK]at hok ⊢;obtain⟨hok1,hok2⟩:=hok.append;obtain⟨h1,h2,h3,_,h4⟩:=Ahi (id:=id) hf (fun e=>hW (by rw[List.any_cons,e,EJ])) (h 0 (by simp)) hS hok1;obtain⟨g1,g2,g3,g4,g5⟩:=ih xs (id+stride) (fun j=>f (j+1)) (fun e=>hW (by rw[List.any_cons,e,Ff])) (fun j hj=>by simpa using h (j+1) (by simpa using hj)) hok2;refine⟨by simp [g1],by simp [g2],h1.append g3,fun q=> ?_,fun {O' objs' ρ} hp hv hO hbx hρ j hj=> ?_⟩
   .grind[NQ,a1,a2,a3]
   .cases j with
    | zero=>simpa using h4 hp (fun p hp=>hv p (DD _ hp)) (fun p hp=>hO p (DD _ hp)) hbx (fun p hp=>hρ p (DD _ hp))
    | succ j =>have:=g5 hp (fun p hp=>hv p (DC _ hp)) (fun p hp=>hO p (DC _ hp)) hbx (fun p hp=>hρ p (DC _ hp)) j (by simpa using hj);rw[show id+stride*(j+1)=id+stride+stride*j from by rw[II];omega];simpa using this
end
def As0:Value->Value
 | .func g fi caps=>caps.getD 0 (.func g fi caps)
 | v=>v
def deref (w:World):Value->Value
 | .pointer (some a)=>(w.cell? a).getD undef
 | _=>undef
def innerS (w:World):Sh->Value->Value
 | .clo _ _,v=>deref w (As0 v)
 | _,v=>v
def Zu.inner {O:Own} {w:World} {k:Nat} {v p:Value} {ks:List (Bool×CK)} (h:Zu O w k v p):innerS w (.clo k ks) v=p:=by obtain⟨b,j,h1,_,h3⟩:=h;rw[h1];cases k<;>(show(w.cell? _).getD _=_;rw[h3];rfl)
def Nq (w:World) (v:Value):Nat->Value
 | 0=>v
 | x+1=>match v with
  | .agg vs=>vs.getD x undef
  | .pointer (some a)=>(w.cell? (at' a.block (a.off+x))).getD undef
  | _=>undef
section
variable {Oc O':Own} {w:World} {objs':List (Nat×Obj)} {m':Nat->Value}
theorem KZ.carry {Jp:List (Nat×Obj)} {m:Nat->Value} {c i e:Nat} {z:Bool} {l:Sl} (h:KZ Oc Jp m w c (.arr e z l)) (hp:Nj Oc w O' w) (hr: ∀ b k,Oc b k=some c->O' b k=some i) (hn: ∀ b k,Oc b k=none->O' b k=none) (hm:m' i=m c) :
 KZ O' objs' m' w i (.arr e z l):=by
 refine⟨h.1,?_⟩;rcases h.2 with ⟨h1,h2,h3⟩ | ⟨h1,g,cap,cur,h2,h3,h4,h5,h6,h7,h8,h9⟩
 .grind[Obj,KZ,Nj]
 .refine .inr ⟨h1,g,cap,cur,by rw[hm];exact h2,h3,h4,h5,h6,fun r j hr' hj=> ?_,fun k hk hge=>hr _ _ (h8 k hk hge),fun k hk=> ?_⟩
  .obtain⟨u,h10,h11⟩:=h7 r j hr' hj;exact⟨u,h10,h11.JW hp⟩
  .grind[Obj,KZ,Nj]
theorem NU.carry {c i:Nat} {v:Value} {l:Mp} (h:NU Oc w c v l) (hp:Nj Oc w O' w) (hr: ∀ b k,Oc b k=some c->O' b k=some i):NU O' w i v l:=by obtain⟨r,es,ck,h1,h2,h3,h4,h5⟩:=h;refine⟨r,es,ck,h1,h2,hr _ _ h3,h4,fun j p hj=> ?_⟩;obtain⟨e,k1,k2,k3⟩:=h5 j p hj;exact⟨e,k1,k2.JW hp,k3.JW hp⟩
theorem bG {kt vt:Ty} {a:A} (h:a.dZ kt vt=true): ∃ l,a= .ump l/\l.kt=kt/\l.vt=vt:=by
 cases a with
 | ump l =>have h':(decide (l.kt=kt)&&decide (l.vt=vt))=true:=h;all_goals grind[Ty]
 | _=>cases h
theorem Jw.toC {v:Value} {a:A} (h:Jw O' w v a):JF O' objs' m' w v a:=by cases a<;>first | exact h | (cases h;done)
theorem AiK {id:Nat} {k:CK} {v:Value} {c:A} (h:IC Oc w id v c) (hp:Nj Oc w O' w) (hok:J5 (force k c).1):JF O' objs' m' w v (force k c).2:=by
 cases c with
 | box cs =>
  cases k with
  | oth=>obtain⟨b,base,h1,_⟩:=h;rw[h1];rfl
  | mp _ _=>have:=hok.cons.1;cases this
  | bx _=>have:=hok.cons.1;cases this
  | _=>have:=hok.cons.1;simp [A.isB,A.isI,A.isS,A.AaU,A.nZ,A.bF,A.isFn]at this
 | usl z e l =>
  cases k with
  | oth =>
   rcases h.2 with ⟨_,_,h3⟩ | ⟨_,g,cap,cur,h2,_⟩
   .show v.oneCell'=true;have h3:v=_:=h3;rw[h3];rfl
   .show v.oneCell'=true;have h2:v=_:=h2;rw[h2];rfl
  | mp _ _=>have:=hok.cons.1;cases this
  | bx _=>have:=hok.cons.1;cases this
  | _=>have:=hok.cons.1;simp [A.isB,A.isI,A.isS,A.AaU,A.nZ,A.bF,A.isFn]at this
 | ump l =>
  cases k with
  | oth=>obtain⟨r,_,_,h1,_⟩:=h;rw[h1];rfl
  | mp _ _=>have:=hok.cons.1;cases this
  | bx _=>have:=hok.cons.1;cases this
  | _=>have:=hok.cons.1;simp [A.isB,A.isI,A.isS,A.AaU,A.nZ,A.bF,A.isFn]at this
 | _=>exact vF (Jw.JW hp h) hok
theorem Tc {cid id:Nat} {f:Nat->Value} (hp:Nj Oc w O' w) (hn: ∀ b k,Oc b k=none->O' b k=none): ∀(ks:List (Bool×CK)) (cs:List A) (j0:Nat),(∀ j,j<ks.length->IC Oc w (cid+(j0+j)) (f (j0+j)) (cs.getD (j0+j) .undef)) ->
 (∀ b k x,x<j0+ks.length->Oc b k=some (cid+x)->O' b k=some (id+x))->J5 (JI id ks cs j0).1->(∀ p∈(JI id ks cs j0).2.2,Jv objs' p.1=some p.2)->(∀ p∈(JI id ks cs j0).2.2,∀ x,p.1=id+x->m' p.1=f x) ->
 (JI id ks cs j0).2.1.length=ks.length/\(∀ j,j<ks.length->JF O' objs' m' w (f (j0+j)) ((JI id ks cs j0).2.1.getD j .undef))/\ ∀ p∈(JI id ks cs j0).2.2,KZ O' objs' m' w p.1 p.2/\ ∃ x,p.1=id+x/\j0<=x/\x<j0+ks.length:=by
 intro ks
 induction ks with
 | nil=>intro cs j0 _ _ _ _ _;exact⟨rfl,fun j hj=>by simp at hj,fun p hp=>by simp [JI]at hp⟩
 | cons k ks ih =>
  intro cs j0 h hr hok hO hm;obtain⟨u,k⟩:=k;have h0:=h 0 (by simp);rw[Nat.add_zero]at h0;have hrest:=fun hok2 hO2 hm2=>ih cs (j0+1) (fun j hj=>by have:=h (j+1) (by simpa using hj);rwa [show j0+(j+1)=j0+1+j from by omega]at this) (fun b k x hx=>hr b k x (by simp only[List.length_cons];omega)) hok2 hO2 hm2;cases u with
  | false =>
   simp only[JI]at hok hO hm ⊢;obtain⟨hok1,hok2⟩:=hok.append;obtain⟨g1,g2,g3⟩:=hrest hok2 hO hm;refine⟨by simp [g1],fun j hj=> ?_,fun p hp=> ?_⟩
   .cases j with
    | zero=>exact AiK h0 hp hok1
    | succ j =>have:=g2 j (by simpa using hj);rw[show j0+(j+1)=j0+1+j from by omega];simpa using this
   .obtain⟨a1,x,a2,a3,a4⟩:=g3 p hp;exact⟨a1,x,a2,by omega,by simp only[List.length_cons];omega⟩
  | true =>
   cases k with
   | sl e sz =>
    simp only[JI]at hok hO hm ⊢;obtain⟨hok1,hok2⟩:=hok.cons;obtain⟨g1,g2,g3⟩:=hrest hok2 (fun p hp=>hO p (Dy _ hp)) (fun p hp=>hm p (Dy _ hp));have hO0:=hO _ Du;have hm0:=hm _ Du j0 rfl;dsimp only at hO0 hm0
    have hc:cs.getD j0 .undef= .usl true e (cs.getD j0 .undef).toL:=by
     generalize cs.getD j0 .undef=c at *
     cases c<;>simp only[A.Ac5]at hok1<;>first | (cases hok1;done) | skip
     simp only[Dq,EK]at hok1;rw[Dp hok1.2.1,<- hok1.1];rfl
    rw[hc]at h0;have hor:KZ O' objs' m' w (id+j0) (.arr e true (cs.getD j0 .undef).toL):=KZ.carry (show KZ Oc [] (fun _=>f j0) w (cid+j0) _ from h0) hp (fun b k hbk=>hr b k j0 (by simp) hbk) hn hm0;refine⟨by simp [g1],fun j hj=> ?_,fun p hp=> ?_⟩
    .cases j with
     | zero =>
      have hone:(f j0).oneCell'=true:=by
       rcases h0.2 with ⟨_,_,h3⟩ | ⟨_,g,cap,cur,h2,_⟩
       .have h3:f j0=_:=h3;rw[h3];rfl
       .have h2:f j0=_:=h2;rw[h2];rfl
      refine⟨hone,?_⟩;show match (Jv objs' (id+j0)).map Obj.shp with | some (.arr _ _)=>_ | some .mp=>_ | _=>True
      rw[hO0];exact hm0.symm
     | succ j =>have:=g2 j (by simpa using hj);rw[show j0+(j+1)=j0+1+j from by omega];simpa using this
    .rcases Dz.1 hp with rfl | hp
     .exact⟨hor,j0,rfl,DW _,by simp⟩
     .obtain⟨a1,x,a2,a3,a4⟩:=g3 p hp;exact⟨a1,x,a2,by omega,by simp only[List.length_cons];omega⟩
   | sln e sz =>
    simp only[JI]at hok hO hm ⊢;obtain⟨hok1,hok2⟩:=hok.cons;obtain⟨g1,g2,g3⟩:=hrest hok2 (fun p hp=>hO p (Dy _ hp)) (fun p hp=>hm p (Dy _ hp));have hO0:=hO _ Du;have hm0:=hm _ Du j0 rfl;dsimp only at hO0 hm0
    have hc:cs.getD j0 .undef= .usl false e (cs.getD j0 .undef).toL:=by
     generalize cs.getD j0 .undef=c at *
     cases c<;>simp only[A.Ac5]at hok1<;>first | (cases hok1;done) | skip
     simp only[Dq,EK]at hok1;rw[Dp hok1.2.1,<- hok1.1];rfl
    rw[hc]at h0;have hor:KZ O' objs' m' w (id+j0) (.arr e false (cs.getD j0 .undef).toL):=KZ.carry (show KZ Oc [] (fun _=>f j0) w (cid+j0) _ from h0) hp (fun b k hbk=>hr b k j0 (by simp) hbk) hn hm0;refine⟨by simp [g1],fun j hj=> ?_,fun p hp=> ?_⟩
    .cases j with
     | zero =>
      have hone:(f j0).oneCell'=true:=by
       rcases h0.2 with ⟨_,_,h3⟩ | ⟨_,g,cap,cur,h2,_⟩
       .have h3:f j0=_:=h3;rw[h3];rfl
       .have h2:f j0=_:=h2;rw[h2];rfl
      refine⟨hone,?_⟩;show match (Jv objs' (id+j0)).map Obj.shp with | some (.arr _ _)=>_ | some .mp=>_ | _=>True
      rw[hO0];exact hm0.symm
     | succ j =>have:=g2 j (by simpa using hj);rw[show j0+(j+1)=j0+1+j from by omega];simpa using this
    .rcases Dz.1 hp with rfl | hp
     .exact⟨hor,j0,rfl,DW _,by simp⟩
     .obtain⟨a1,x,a2,a3,a4⟩:=g3 p hp;exact⟨a1,x,a2,by omega,by simp only[List.length_cons];omega⟩
   | bx t =>
    simp only[JI]at hok hO hm ⊢;obtain⟨hok1,hok2⟩:=hok.cons;obtain⟨g1,g2,g3⟩:=hrest hok2 (fun p hp=>hO p (Dy _ hp)) (fun p hp=>hm p (Dy _ hp));have hO0:=hO _ Du;have hm0:=hm _ Du j0 rfl;dsimp only at hO0 hm0;generalize cs.getD j0 .undef=c at *
    cases c with
    | box ds =>
     obtain⟨b,base,e1,e2⟩:=h0;refine⟨by simp [g1],fun j hj=> ?_,fun p hp=> ?_⟩
     .cases j with
      | zero =>
       refine⟨by rw[Nat.add_zero,e1];rfl,?_⟩;show match (Jv objs' (id+j0)).map Obj.shp with | some .box=>_ | _=>True
       rw[hO0];exact⟨b,base,by rw[hm0];exact e1,e1⟩
      | succ j =>have:=g2 j (by simpa using hj);rw[show j0+(j+1)=j0+1+j from by omega];simpa using this
     .rcases Dz.1 hp with rfl | hp
      .refine⟨⟨b,base,by rw[hm0];exact e1,fun j hj=> ?_⟩,j0,rfl,DW _,by simp⟩;obtain⟨a1,a2,u,a3,a4⟩:=e2 j hj;exact⟨hr _ _ _ (by simp) a1,a2,u,a3,(Jw.JW ‹_› a4).toC⟩
      .obtain⟨a1,x,a2,a3,a4⟩:=g3 p hp;exact⟨a1,x,a2,by omega,by simp only[List.length_cons];omega⟩
    | _=>cases hok1
   | mp kt vt =>
    simp only[JI]at hok hO hm ⊢;obtain⟨hok1,hok2⟩:=hok.cons;obtain⟨g1,g2,g3⟩:=hrest hok2 (fun p hp=>hO p (Dy _ hp)) (fun p hp=>hm p (Dy _ hp));have hO0:=hO _ Du;have hm0:=hm _ Du j0 rfl;dsimp only at hO0 hm0;generalize cs.getD j0 .undef=c at *
    obtain⟨l,rfl,_,_⟩:=bG hok1;have h0:NU Oc w (cid+j0) (f j0) l:=h0;have h2:NU O' w (id+j0) (f j0) l:=h0.carry hp (fun b k hb=>hr b k j0 (by simp) hb);refine⟨by simp [g1],fun j hj=> ?_,fun p hp=> ?_⟩
    .cases j with
     | zero =>
      refine⟨by obtain⟨r,_,_,h1,_⟩:=h0;rw[Nat.add_zero,h1];rfl,?_⟩;show match (Jv objs' (id+j0)).map Obj.shp with | some (.arr _ _)=>_ | some .mp=>_ | _=>True
      rw[hO0];exact hm0.symm
     | succ j =>have:=g2 j (by simpa using hj);rw[show j0+(j+1)=j0+1+j from by omega];simpa using this
    .rcases Dz.1 hp with rfl | hp
     .refine⟨?_,j0,rfl,DW _,by simp⟩;show NU O' w (id+j0) (m' (id+j0)) l;rw[hm0];exact h2
     .obtain⟨a1,x,a2,a3,a4⟩:=g3 p hp;exact⟨a1,x,a2,by omega,by simp only[List.length_cons];omega⟩
   | _=>have:=hok false (by simp [JI]);cases this
theorem AmI {cid id:Nat} {s:Sh} {x:A} {v:Value} (hp:Nj Oc w O' w) (hn: ∀ b k,Oc b k=none->O' b k=none) (h:IR Oc w cid v x) (hr: ∀ b k i,i<255->Oc b k=some (cid+i)->O' b k=some (id+i))
 (hok:J5 (back id s x).1) (hO: ∀ p∈(back id s x).2.2,Jv objs' p.1=some p.2) (hm: ∀ p∈(back id s x).2.2,∀ i,p.1=id+i->m' p.1=Nq w (innerS w s v) i) :
 J8 O' objs' m' w v (back id s x).2.1/\ ∀ p∈(back id s x).2.2,KZ O' objs' m' w p.1 p.2:=by
 cases s with
 | cell u k =>
  simp only[back]at hok hO hm ⊢;obtain⟨hok1,hok2⟩:=hok.append;have hpl:=hok2.cons.1
  have hic:IC Oc w cid v x:=by
   have bad: ∀ cs l,x= .agg cs\/x= .box cs\/x= .ump l\/(∃ f,x= .cbx f cs)->False:=by rintro cs l (rfl | rfl | rfl | ⟨f,rfl⟩)<;>(cases u<;>cases k<;>first | (cases hpl;done) | (have:=hok1 false (by simp [JI,force,A.isB,A.isI,A.isS,A.AaU,A.nZ,A.bF,A.Ac5,A.isFn]);cases this))
   cases x with
   | agg cs=>exact(bad cs default (.inl rfl)).elim
   | box cs=>exact(bad cs default (.inr (.inl rfl))).elim
   | ump l=>exact(bad [] l (.inr (.inr (.inl rfl)))).elim
   | cbx f cs=>exact(bad cs default (.inr (.inr (.inr ⟨f,rfl⟩)))).elim
   | _=>exact h
  obtain⟨g1,g2,g3⟩:=Tc (cid:=cid) (id:=id) (f:=Nq w v) hp hn [(u,k)] [x] 0 (fun j hj=>by
   have:j=0:=by simpa using hj
   subst this;exact hic) (fun b k i hi hb=>hr b k i (by simp at hi;omega) hb) hok1 hO hm
  have:=g2 0 (by simp);exact⟨this.toT,fun p hp=>(g3 p hp).1⟩
 | agg ks =>
  simp only[back]at hok hO hm ⊢;obtain⟨hf,hok⟩:=hok.cons;have hf:=DI hf;obtain⟨hok1,hok2⟩:=hok.cons;cases x with
  | agg cs =>
   obtain⟨vs,h1,h2,h3⟩:=h;have hl:cs.length=ks.length:=by simpa [A.isAgg,VC]using hok1
   obtain⟨g1,g2,g3⟩:=Tc (objs':=objs') (m':=m') (cid:=cid+1) (id:=id+1) (f:=fun j=>vs.getD j undef) hp hn ks cs 0 (fun j hj=>by
    have:=h3 j (by omega);rw[DR];exact this) (fun b k i hi hb=>by
    have:=hr b k (1+i) (by omega) (by rw[<- EE];exact hb);rw[<- EE]at this;exact this) hok2 hO (fun p hp i hi=>by
    have:=hm p hp (i+1) (by omega);rw[this,h1];rfl)
   refine⟨⟨vs,h1,?_,fun j hj=> ?_⟩,fun p hp=>(g3 p hp).1⟩
   .show vs.size=(JI (id+1) ks cs 0).2.1.length;rw[h2,g1,hl]
   .have hj:j<(JI (id+1) ks cs 0).2.1.length:=hj;rw[g1]at hj;have:=g2 j hj;rwa [DR]at this
  | _=>simp [A.isAgg]at hok1
 | box ks =>
  simp only[back]at hok hO hm ⊢;obtain⟨hf,hok⟩:=hok.cons;have hf:=DI hf;obtain⟨hok1,hok2⟩:=hok.cons;cases x with
  | box cs =>
   obtain⟨b,base,h1,h2⟩:=h;have h1':Nq w v 0= .pointer (some (at' b base)):=by rw[h1];rfl
   have hl:cs.length=ks.length:=by simpa [A.Agr,VC]using hok1
   have hcell: ∀ j,Nq w v (j+1)=(w.cell? (at' b (base+j))).getD undef:=by intro j;rw[h1];rfl
   obtain⟨g1,g2,g3⟩:=Tc (objs':=objs') (m':=m') (cid:=cid+1) (id:=id+1) (f:=fun j=>(w.cell? (at' b (base+j))).getD undef) hp hn ks cs 0 (fun j hj=>by
    obtain⟨_,_,u,h5,h6⟩:=h2 j (by omega);rw[DR,h5];exact h6) (fun b k i hi hb=>by
    have:=hr b k (1+i) (by omega) (by rw[<- EE];exact hb);rw[<- EE]at this;exact this) hok2 (fun p hp=>hO p (Dy _ hp)) (fun p hp i hi=>by
    have:=hm p (Dy _ hp) (i+1) (by omega);rw[this];exact hcell _)
   have hO0:=hO _ Du;have hm0:=hm _ Du 0 rfl;dsimp only at hO0 hm0;refine⟨?_,fun p hp=> ?_⟩
   .show JF O' objs' m' w v (.ptr id 0);refine⟨by rw[h1];rfl,?_⟩;show match (Jv objs' id).map Obj.shp with | some .box=>_ | _=>True
    rw[hO0];exact⟨b,base,by rw[hm0];exact h1',h1⟩
   .rcases Dz.1 hp with rfl | hp
    .refine⟨b,base,by rw[hm0];exact h1',fun j hj=> ?_⟩;have hj:j<(JI (id+1) ks cs 0).2.1.length:=hj;rw[g1]at hj;obtain⟨a1,a2,u,a3,_⟩:=h2 j (by omega);have:=g2 j hj;rw[DR,a3]at this;exact⟨by have:=hr b (base+j) 0 (by omega) a1;exact this,a2,u,a3,this⟩
    .exact(g3 p hp).1
  | _=>simp [A.Agr]at hok1
 | clo f' ks =>
  simp only[back]at hok hO hm ⊢;obtain⟨hf,hok⟩:=hok.cons;have hf:=DI hf;obtain⟨hok1,hok2⟩:=hok.cons;cases x with
  | cbx g cs =>
   have hg:f'=g:=by have h':=hok1;simp only[A.Ags,Dq]at h';exact Dp h'.1
   subst hg;obtain⟨b,base,h1,h2⟩:=h;have h1':Nq w (innerS w (.clo f' ks) v) 0= .pointer (some (at' b base)):=h1.inner (ks:=ks);have hl:cs.length=ks.length:=by have h':=hok1;simp only[A.Ags,Dq]at h';exact Dp h'.2
   have hcell: ∀ j,Nq w (innerS w (.clo f' ks) v) (j+1)=(w.cell? (at' b (base+j))).getD undef:=by intro j;rw[h1.inner (ks:=ks)];rfl
   obtain⟨g1,g2,g3⟩:=Tc (objs':=objs') (m':=m') (cid:=cid+1) (id:=id+1) (f:=fun j=>(w.cell? (at' b (base+j))).getD undef) hp hn ks cs 0 (fun j hj=>by
    obtain⟨_,_,u,h5,h6⟩:=h2 j (by omega);rw[DR,h5];exact h6) (fun b k i hi hb=>by
    have:=hr b k (1+i) (by omega) (by rw[<- EE];exact hb);rw[<- EE]at this;exact this) hok2 (fun p hp=>hO p (Dy _ hp)) (fun p hp i hi=>by
    have:=hm p (Dy _ hp) (i+1) (by omega);rw[this];exact hcell _)
   have hO0:=hO _ Du;have hm0:=hm _ Du 0 rfl;dsimp only at hO0 hm0;refine⟨?_,fun p hp=> ?_⟩
   .show JF O' objs' m' w v (.clo f' id);refine⟨by obtain⟨_,_,e,_⟩:=h1;rw[e];cases f'<;>rfl,_,rfl,h1.JW hp,?_⟩;show match (Jv objs' id).map Obj.shp with | some .box=>_ | _=>True
    rw[hO0];exact⟨b,base,hm0.trans h1',rfl⟩
   .rcases Dz.1 hp with rfl | hp
    .refine⟨b,base,by rw[hm0];exact h1',fun j hj=> ?_⟩;have hj:j<(JI (id+1) ks cs 0).2.1.length:=hj;rw[g1]at hj;obtain⟨a1,a2,u,a3,_⟩:=h2 j (by omega);have:=g2 j hj;rw[DR,a3]at this;exact⟨by have:=hr b (base+j) 0 (by omega) a1;exact this,a2,u,a3,this⟩
    .exact(g3 p hp).1
  | _=>simp [A.Ags]at hok1
 | map kt vt =>
  simp only[back]at hok hO hm ⊢;obtain⟨l,rfl,_,_⟩:=bG hok.cons.1;have hO0:=hO _ Du;have hm0:=hm _ Du 0 rfl;dsimp only at hO0 hm0;have h:NU Oc w cid v l:=h;have hm0:m' id=v:=hm0;have h2:NU O' w id v l:=h.carry hp (fun b k hb=>hr b k 0 (by omega) hb);refine⟨?_,fun p hp=> ?_⟩
  .show JF O' objs' m' w v (.own id);refine⟨by obtain⟨r,_,_,h1,_⟩:=h;rw[h1];rfl,?_⟩;rw[hO0];exact hm0.symm
  .obtain rfl:p=(id,.mp l):=Eh.1 hp;show NU O' w id (m' id) l;rw[hm0];exact h2
end
end Go.Proofs.YtbgjmioccbacdaaGreatDoor.Vm
