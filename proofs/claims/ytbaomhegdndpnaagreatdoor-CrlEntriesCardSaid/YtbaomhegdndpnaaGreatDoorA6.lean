import Derived.Test.YtbaomhegdndpnaaGreatDoorA5
import Derived.Carry
set_option linter.all false
namespace Go.Proofs.YtbaomhegdndpnaaGreatDoor.Vm
open Classical MapKept
def An1:A->Bool
  | .bool _ | .int _ _ | .str _ | .sl _ | .Ff | .fn _ | .ump _=>true
  | _=>false
theorem Ty.KT: ∀(t:Ty) (v:t.Val),∀ c∈t.cells v,An1 c=true
  | .nil,_,c,h=>by cases h
  | .bool r,v,c,h=>by
    rcases List.mem_cons.1 h with rfl | h
    ·rfl
    ·exact Ty.KT r _ c h
  | .int _ r,v,c,h=>by
    rcases List.mem_cons.1 h with rfl | h
    ·rfl
    ·exact Ty.KT r _ c h
  | .str r,v,c,h=>by
    rcases List.mem_cons.1 h with rfl | h
    ·rfl
    ·exact Ty.KT r _ c h
  | .sl _ _ r,v,c,h=>by
    rcases List.mem_cons.1 h with rfl | h
    ·rfl
    ·exact Ty.KT r _ c h
  | .ptr r,v,c,h=>by
    rcases List.mem_cons.1 h with rfl | h
    ·rfl
    ·exact Ty.KT r v c h
  | .fn r,v,c,h=>by
    rcases List.mem_cons.1 h with rfl | h
    ·rfl
    ·exact Ty.KT r _ c h
  | .mp _ _ r,v,c,h=>by
    rcases List.mem_cons.1 h with rfl | h
    ·rfl
    ·exact Ty.KT r _ c h
section
variable {P:Program} {C:Ctx} {V0:Nat->Value} {O0 O:Own} {w0 w:World} {m:Nat->Value} {st:St} {a:Act} {o:Oper}
theorem D5.data {CX:List (Nat×Obj)} {v:Value} {c:A} (h:D5 O CX m w v c) (hd:An1 c=true):Dt O w v c:=by
  cases c<;>first | exact h | exact h.elim | cases hd
theorem GI.toT {CX:List (Nat×Obj)} {v:Value} {x:A} (h:GI O w v x):Dz O CX m w v x/\T1 O CX m w v x:=by
  have cell: ∀ {v:Value} {x:A},Dt O w v x->D5 O CX m w v x:=fun h=>by cases h<;>first | exact .bool _ | exact .int _ _ | exact .str _ | exact .nil _ | exact .Ff | exact .fn _ | exact .ZL | exact Dt.sl0 _ _ | (rename_i vs a1 a2 a3;exact Dt.sl vs a1 a2 a3) | (rename_i h hn;exact Dt.sln h hn)
  cases x with
  | agg cs =>
    obtain⟨vs,h1,h2,h3⟩:=h
    exact⟨⟨vs,h1,h2,fun j hj=>cell (h3 j hj)⟩,⟨vs,h1,h2,fun j hj=>cell (h3 j hj)⟩⟩
  | undef=>cases h
  | EK=>cases h
  | usl _ _ _=>cases h
  | ump _=>cases h
  | ptr _ _=>cases h
  | own _=>cases h
  | elt _=>cases h
  | Ea _ _ _=>cases h
  | tup _=>cases h
  | box _=>cases h
  | cbx _ _=>cases h
  | clo _ _=>cases h
  | bsl _ _=>cases h
  | osl _ _=>cases h
  | cnd _ _=>cases h
  | bool _=>exact⟨cell h,cell h⟩
  | int _ _=>exact⟨cell h,cell h⟩
  | str _=>exact⟨cell h,cell h⟩
  | sl _=>exact⟨cell h,cell h⟩
  | sln _=>exact⟨cell h,cell h⟩
  | Ff=>exact⟨cell h,cell h⟩
  | fn _=>exact⟨cell h,cell h⟩
theorem Apj {xs:List A} (h:Al5 (.agg xs)=true):xs.length≠1:=by
  intro h1
  obtain⟨c,rfl⟩:=List.length_eq_one_iff.1 h1
  cases h
theorem Ako {O':Own} {CX:List (Nat×Obj)} {v:Value} {x:A} {cs:List A} (ho:Al5 x=true) (hv:x.isVal=true) (hx:Dz O CX m w v x) (hl:cs.length=x.cells.length)
    (hrel: ∀ j,j<cs.length->Dt O' w (v.cells.getD j undef) (cs.getD j .undef)):GI O' w v (Iz cs):=by
  have one:D5 O CX m w v x->x.cells=[x]->GI O' w v (Iz cs):=by
    intro hc he
    rw[he]at hl
    obtain⟨c,rfl⟩:=List.length_eq_one_iff.1 hl
    have h0:=hrel 0 (by simp)
    rw[oneCell_cells hc.one]at h0
    have h0:Dt O' w v c:=h0
    show GI O' w v c
    cases c<;>first | exact h0 | cases h0
  cases x with
  | agg xs =>
    obtain⟨vs,rfl,h2,h3⟩:=hx
    have hl:cs.length=xs.length:=hl
    rw[Aba (by rw[hl];exact Apj ho)]
    exact⟨vs,rfl,by rw[h2,hl],hrel⟩
  | undef=>cases hv
  | tup _=>cases hv
  | usl _ _ _=>cases hv
  | ump _=>cases hv
  | box _=>cases hv
  | cbx _ _=>cases hv
  | cnd _ _=>cases hv
  | _=>exact one hx rfl
theorem PD {r:Nat} {es:Array MapEntry} {ck:Nat} (hb:w.heap[r]? =some (.map es ck)):(getObj r).run P w= .ok (.map es ck) w:=by simp [getObj,Sem.run,hb]
theorem XE {r:Nat} {es:Array MapEntry} {ck:Nat} (x:Go.Obj) (hb:w.heap[r]? =some (.map es ck)):(setObj r x).run P w= .ok () {w with heap:=w.heap.setIfInBounds r x}:=by simp [setObj,Sem.run,hb]
theorem kE {t:Nat} {k:TI->TI->Dl} (hok:Du (mapOf C t k).ok): ∃ ti kt et ta tb,C.T t=some ti/\ti.d= .map kt et/\C.T kt=some ta/\C.T et=some tb/\mapOf C t k=k ta tb:=by
  unfold mapOf at hok ⊢
  obtain⟨ti,ht,he⟩:=Eg hok
  rw[he]at hok ⊢
  split at hok
  ·rename_i kt et hd
   obtain⟨ta,hta,he⟩:=Eg hok
   rw[he]at hok
   obtain⟨tb,htb,he'⟩:=Eg hok
   exact⟨ti,kt,et,ta,tb,ht,hd,hta,htb,he.trans he'⟩
  ·exact(D7 hok).elim
theorem Aib {CX:List (Nat×Obj)} (hC:TOk P C) {kt:Nat} {ta tb:TI} (hta:C.T kt=some ta) {l:Mp} {i:A} {v:Value} (hi:Dz O CX m w v i) (hok:Du (AgS C ta tb l i)) :
    Ab9 P O w kt l.kt/\GI O w v (Iz (l.kt.cells (l.kt.mk i.cells).2))/\Aha tb=true/\l.vt=tyl tb.cs:=by
  obtain⟨h1,hok⟩:=hok.cons
  obtain⟨h2,hok⟩:=hok.cons
  obtain⟨h3,hok⟩:=hok.cons
  obtain⟨h4,hok⟩:=hok.cons
  obtain⟨h5,hok⟩:=hok.cons
  obtain⟨h6,hok⟩:=hok.cons
  have h7:=hok.cons.1
  have h3:=of_decide_eq_true h3
  have hc:=Ty.OQ _ _ h7
  refine⟨by rw[h3];exact Apk hC hta h1,?_,h2,of_decide_eq_true h4⟩
  obtain⟨g1,g2⟩:=hi.cells h5
  refine Ako (CX:=CX) h6 h5 hi (by rw[hc]) (fun j hj=> ?_)
  have hd:=Ty.KT _ _ _ (List.getElem_mem hj)
  have e:(l.kt.cells (l.kt.mk i.cells).2).getD j .undef=(l.kt.cells (l.kt.mk i.cells).2)[j]:=by
    rw[List.getD_eq_getElem?_getD,List.getElem?_eq_getElem hj];rfl
  rw[<- e]at hd
  rw[hc]at hd hj ⊢
  exact(g2 j hj).data hd
theorem Aow {t:Nat} {tb:TI} (hT:Qc P t tb) (hone:Aha tb=true) (hp:tb.cs.all CK.plain=true): ∃ z,(zeroValue t).run P w= .ok z w/\GI O w z (Iz ((tyl tb.cs).cells (tyl tb.cs).zero)):=by
  obtain⟨i,z,h1,h2,h3,h4,h5,h6⟩:=hT.i
  refine⟨z,by simp [zeroValue,typeInfo,h1,h4],?_⟩
  rw[Ty.Ad6 _ hp]
  have hv:=WT (O:=O) (w:=w) _ _ h5 hp
  have hl:=(MI (O:=O) (CX:=[]) (m:=fun _=>undef) (w:=w) _ _ h5).1
  have hone:tb.agg= !(Nat.beq tb.cs.length 1):=by simpa [Aha]using hone
  rw[AbC,h6,Qj]at hone
  cases z with
  | agg vs =>
    have hne:tb.cs.length≠1:=by simpa [Y2]using hone
    rw[Aba (by simpa using hne)]
    refine⟨vs,rfl,?_,fun j hj=> ?_⟩
    ·have:vs.toList.length=tb.cs.length:=hl
     rw[Array.length_toList]at this;simpa using this
    ·have:=hv j (by simpa using hj)
     have e:(Value.agg vs).cells.toList.getD j undef=vs.getD j undef:=by
       show vs.toList.getD j undef=_
       rw[Array.getD_eq_getD_getElem?,List.getD_eq_getElem?_getD,Array.getElem?_toList]
     rw[e]at this;exact this
  | _ =>
    have he:tb.cs.length=1:=by simpa [Y2]using hone
    obtain⟨c,hc⟩:=List.length_eq_one_iff.1 he
    rw[hc]at hv ⊢
    have:=hv 0 (by simp)
    have this:Dt O w _ c.Ib:=this
    show GI O w _ c.Ib
    cases hcz:c.Ib<;>rw[hcz]at this<;>first | exact this | cases this
theorem Aj7 {t:Nat} {x i:Operand} {c:Bool} {CX:List (Nat×Obj)} {fet:Fet} (hC:TOk P C) (hF:FOk O CX m w fet) (ho:o.op= .lookup t x i c) {x' i':A} (hx:Dz O CX m w (a.eval x) x') (hi:Dz O CX m w (a.eval i) i')
    (hok:Du (xM C fet t c x' i').ok):Pure P O CX m a w o (xM C fet t c x' i'):=by
  unfold xM at hok ⊢
  obtain⟨ti,kt,et,ta,tb,ht,hd,hta,htb,he⟩:=kE hok
  rw[he]at hok ⊢;clear he
  obtain⟨p,hp,he⟩:=DI hok
  rw[he]at hok ⊢;clear he
  obtain⟨hok1,hok2⟩:=hok.append
  have hpl:=hok2.cons.1
  obtain⟨_,hv,hM⟩:=AgX hF hx hp
  obtain⟨hK,hk,hone,hvt⟩:=Aib hC hta hi hok1
  obtain⟨r,es,ck,h1,h2,h3,h4,h5⟩:=hM.lists
  have hu:=(hC.is ht).d
  rw[hd]at hu
  have hfind:=hK.find (a.eval i) _ es.toList p.2.l hk h4 (fun i e p he hp=>(h5 i e p he hp).1)
  have hchk:=hK.check es.isEmpty (a.eval i) _ hk
  obtain⟨z,hz1,hz2⟩:=Aow (O:=O) (w:=w) (hC.is htb) hone hpl
  rw[<- hvt]at hz2
  have key: ∃ u,(Instr.lookup t (a.eval x) (a.eval i) c).run P w= .ok (if c then .tuple #[u,.bool (MZ p.2.kt (p.2.kt.mk i'.cells).2 p.2.l).isSome]else u) w /\
      GI O w u (Iz (p.2.vt.cells ((MZ p.2.kt (p.2.kt.mk i'.cells).2 p.2.l).getD p.2.vt.zero))):=by
    rw[hv,h1]
    rcases AaJ (k:=(p.2.kt.mk i'.cells).2) es.toList p.2.l 0 h4 with ⟨f1,f2,_,_⟩ | ⟨j,e,q,f1,f2,f3,f4,f5,_,_⟩
    ·refine⟨z,?_,by rw[f2];exact hz2⟩
     simp [Instr.lookup,run_underlying hu,PD h2,hchk,hfind,f1,hz1,f2,Result.andThen]
    ·refine⟨e.val,?_,by rw[f5];exact(h5 j e q f2 f3).2⟩
     simp [Instr.lookup,run_underlying hu,PD h2,hchk,hfind,f1,f5,Result.andThen]
  obtain⟨u,hrun,hu2⟩:=key
  refine⟨⟨if c then .tuple #[u,.bool (MZ p.2.kt (p.2.kt.mk i'.cells).2 p.2.l).isSome]else u,?_,?_⟩,rfl,rfl,rfl⟩
  ·simp only[execOp,ho,Sem.run_bind,hrun,Result.andThen_ok,Sem.run_pure]
  ·show Dz O CX m w _ (Aex _ _ _)
   unfold Aex
   cases c with
   | false=>exact hu2.toT.1
   | true =>
     refine⟨#[u,.bool (MZ p.2.kt (p.2.kt.mk i'.cells).2 p.2.l).isSome],rfl,rfl,fun j hj=> ?_⟩
     have hj:j<2:=hj
     rcases(show j=0\/j=1 by omega)with rfl | rfl
     ·exact hu2.toT.2
     ·exact Dt.bool _
theorem Anv {r:Nat} {x y:Go.Obj} (hb:w.heap[r]? =some x):(w.heap.setIfInBounds r y)[r]? =some y/\ ∀ b,b≠r->(w.heap.setIfInBounds r y)[b]? =w.heap[b]? :=by
  have hlt:=(Array.getElem?_eq_some_iff.1 hb).1
  refine⟨by rw[Array.getElem?_setIfInBounds,if_pos rfl,if_pos hlt],fun b hne=>by rw[Array.getElem?_setIfInBounds,if_neg (fun h=>hne h.symm)]⟩
theorem lM (hS:Sim V0 O0 w0 O m st a w) {q r ck ck':Nat} {es es':Array MapEntry} {l l':Mp} (hq:Dp st.CX q=some (.mp l)) (hm:m q= .map (some r)) (hb:w.heap[r]? =some (.map es ck)) (hO:O r 0=some q) (hs:es'.size=l'.l.length)
    (hes: ∀(i:Nat) (p:l'.kt.Val×l'.vt.Val),l'.l[i]? =some p-> ∃ e,es'[i]? =some e/\GI O w e.key (Iz (l'.kt.cells p.1))/\GI O w e.val (Iz (l'.vt.cells p.2))) {d:Option Tmp} {v:Value} {x:A} (hx:d≠none-> ∀ O' objs' m' w',Dz O' objs' m' w' v x) :
    Sim V0 O0 w0 O m {tmps:=put st.tmps d x,CX:=ER st.CX q (.mp l')} (a.put d v) {w with heap:=w.heap.setIfInBounds r (.map es' ck')}:=by
  obtain⟨hb1,hb2⟩:=Anv (y:=.map es' ck') hb
  have hM:Moves O (fun i=>i=q) w {w with heap:=w.heap.setIfInBounds r (.map es' ck')}:=Moves.map rfl rfl rfl (by simp) hb hb1 hb2 hO rfl
  have hP:Passes O O (fun i=>i=q) w.heap.size:=⟨fun _ _ _ h=>h,fun _ _ _ _ h _=>h⟩
  have hpr:=hM.DW hP
  have hE:KC st.CX m (ER st.CX q (.mp l')) m (fun _=>False):=by
    intro i y hy
    rw[Eh]at hy
    by_cases hi:i=q
    ·rw[if_pos hi]at hy;injection hy with hy;subst hy;subst hi
     exact .inr ⟨_,hq,rfl,rfl⟩
    ·rw[if_neg hi]at hy;exact .inr ⟨y,hy,rfl,rfl⟩
  refine hS.next (st':= {tmps:=put st.tmps d x,CX:=ER st.CX q (.mp l')}) (T:=fun i=>i=q) (Nw:=fun _=>False) hM hP (fun b k _ h=>h) hE (fun _ h=>h.elim) (fun r' hr=>by rw[hr,hq];rfl) (fun i y hy=> ?_) rfl (fun h=>hx h _ _ _ _)
  rw[Eh]at hy
  by_cases hi:i=q
  ·right
   rw[if_pos hi]at hy;injection hy with hy;subst hy;subst hi
   refine⟨(⟨r,es',ck',hm,hb1,hO,hs,fun j p hp=> ?_⟩:I9 O _ i (m i) l'),hS.ids i _ hq⟩
   obtain⟨e,k1,k2,k3⟩:=hes j p hp
   exact⟨e,k1,k2.DW hpr,k3.DW hpr⟩
  ·left
   rw[if_neg hi]at hy
   exact⟨hi,hy,rfl⟩
theorem Aig {t:Nat} {r:Option Operand} {xs:List A} (hC:TOk P C) (hS:Sim V0 O0 w0 O m st a w) {d:Nat} (hd:o.dst=some d) (ho:o.op= .makeMap t r) (hr:xs.length=r.toArray.size) (hok:Du (QV C d t xs).ok) (hfr: ∀ p∈(QV C d t xs).new,st.fresh p.1=true) :
    Good P V0 O0 w0 (apply st o (QV C d t xs)) o a w:=by
  intro next Q hn
  unfold QV at *
  obtain⟨ti,kt,et,ta,tb,ht,hd',hta,htb,he⟩:=kE hok
  rw[he]at hok hfr hn;clear he
  have hx:xs=[]:=by simpa using hok.cons.1
  subst hx
  have hr0:r=none:=by cases r with | none=>rfl | some _=>simp at hr
  subst hr0
  have hfresh:=Gl (hfr _ List.mem_cons_self)
  have hrun:(execOp a.eval o).run P w= .ok (.value (.map (some w.heap.size))) (w.alloc (.map #[] 0)):=by
    have:(Instr.makeMap t none).run P w= .ok (.map (some w.heap.size)) (w.alloc (.map #[] 0)):=rfl
    simp only[execOp,ho,Option.map_none,Sem.run_bind,this,Result.andThen_ok,Sem.run_pure]
  unfold Oper.wp
  rw[hrun,Oper.upon_value,hd]
  let id:=b2 d
  let O':Own:=fun b k=>if b=w.heap.size then some id else O b k
  let m':Nat->Value:=fun i=>if i=id then .map (some w.heap.size)else m i
  have hlt: ∀ {b k},b<w.heap.size->O' b k=O b k:=fun hb=>if_neg (Nat.ne_of_lt hb)
  have hM:Moves O (fun _=>False) w (w.alloc (.map #[] 0)):=Moves.push _
  have hP:Passes O O' (fun _=>False) w.heap.size:=⟨fun b k hb h=>by rw[hlt hb];exact h,fun b k q hb h _=>by rw[hlt hb];exact h⟩
  let ob:Vm.Obj:=.mp ⟨tyl ta.cs,tyl tb.cs,[]⟩
  have hget: ∀ i y,Dp (ER st.CX id ob) i=some y->(i=id/\y=ob)\/(i≠id/\Dp st.CX i=some y):=by
    intro i y hy
    rw[Eh]at hy
    by_cases hi:i=id
    ·rw[if_pos hi]at hy;injection hy with hy;exact .inl ⟨hi,hy.symm⟩
    ·rw[if_neg hi]at hy;exact .inr ⟨hi,hy⟩
  have hE:KC st.CX m (ER st.CX id ob) m' (fun i=>i=id):=by
    intro i y hy
    rcases hget i y hy with ⟨h1,_⟩ | ⟨h1,h2⟩
    ·exact .inl h1
    ·exact .inr ⟨y,h2,rfl,if_neg h1⟩
  refine hn O' m' _ _ ?_
  have happ: ∀ ok,apply st o {ok:=ok,val:=.own (b2 d),new:=[(b2 d,ob)]}= {tmps:=put st.tmps (some d) (.own id),CX:=ER st.CX id ob}:=by
    intro ok;unfold apply;rw[hd];rfl
  rw[happ]
  refine hS.next (st':= {tmps:=put st.tmps (some d) (.own id),CX:=ER st.CX id ob}) (x:=.own id) (T:=fun _=>False) (Nw:=fun i=>i=id) hM hP (fun b k hb h=>by rw[hlt hb]at h;exact h) hE (fun n hn=>by rw[hn];exact hfresh.both) (fun _ h=>h.elim) (fun i y hy=> ?_) rfl (fun _=> ?_)
  ·rcases hget i y hy with ⟨h1,h2⟩ | ⟨h1,h2⟩
   ·right
    subst h1;subst h2
    refine⟨(⟨w.heap.size,#[],0,if_pos rfl,jO _ _,if_pos rfl,rfl,fun i p hp=>by cases hp⟩:I9 O' _ id (m' id) _),hfresh.ne⟩
   ·exact .inl ⟨fun h=>h,h2,if_neg h1⟩
  ·refine⟨rfl,?_⟩
   show match (Dp (ER st.CX id ob) id).map Obj.shp with | some (.arr _ _)=>_ | some .mp=>_ | _=>True
   rw[Eh,if_pos rfl]
   exact(if_pos rfl:m' id=_).symm
theorem Aps {α :Type} {l:List α} {j:Nat} {x: α} {i:Nat} {p: α} (h:(l.set j x)[i]? =some p):(i=j/\p=x/\j<l.length)\/(i≠j/\l[i]? =some p):=by
  rw[List.getElem?_set]at h
  by_cases hi:j=i
  ·rw[if_pos hi]at h
   split at h
   ·injection h with h;exact .inl ⟨hi.symm,h.symm,by omega⟩
   ·cases h
  ·rw[if_neg hi]at h;exact .inr ⟨fun e=>hi e.symm,h⟩
theorem Aaz {t:Nat} {x i y:Operand} (hC:TOk P C) (hS:Sim V0 O0 w0 O m st a w) (hd:o.dst=none) (ho:o.op= .mapUpdate t x i y\/o.op= .insert t x i y) {fet:Fet} (hf:Iy st.CX fet) {x' i' y':A} (hx:Dz O st.CX m w (a.eval x) x') (hi:Dz O st.CX m w (a.eval i) i') (hy:Dz O st.CX m w (a.eval y) y')
    (hok:Du (iJ C fet t x' i' y').ok):Good P V0 O0 w0 (apply st o (iJ C fet t x' i' y')) o a w:=by
  intro next Q hn
  have hF:FOk O st.CX m w fet:=fun q x h=>⟨hf q x h,hS.CX q x (hf q x h)⟩
  unfold iJ at *
  obtain⟨ti,kt,et,ta,tb,ht,hd',hta,htb,he⟩:=kE hok
  rw[he]at hok hn;clear he
  obtain⟨p,hp,he⟩:=DI hok
  rw[he]at hok hn;clear he
  obtain⟨hokA,hokB⟩:=hok.append
  have hmk:=hokB.cons.1
  obtain⟨hokA,hokP⟩:=hokA.append
  obtain⟨hok1,hokV⟩:=hokA.append
  obtain⟨hv1,hokV⟩:=hokV.cons
  have hv2:=hokV.cons.1
  obtain⟨hq,hv,hM⟩:=AgX hF hx hp
  obtain⟨hK,hk,hone,hvt⟩:=Aib hC hta hi hok1
  obtain⟨hyc1,hyc2⟩:=hy.cells hv1
  obtain⟨g1,g2,g3,g4⟩:=OU (O:=O) (m:=m) (w:=w) hf tb.cs y'.cells (fun j=>(a.eval y).cells.getD j undef) hyc2 hokP
  generalize hpu:Es fet tb.cs y'.cells=pu at *
  obtain⟨O1,hS1,hp1,hle1,hv1',hE1,hk1⟩:=hS.freezes _ g3
  have hNR:NR st.CX p.1:=.of hq (fun _ _ _ h=>by cases h)
  have hq1:Dp (Dy st.CX pu.2.2) p.1=some (.mp p.2):=by
    rw[F8 _ _ _ (fun z hz e=> ?_)]
    ·exact hq
    ·obtain⟨e',f',l',h1,_⟩:=g3 z hz
     rw[e]at h1;exact hNR _ _ _ h1
  obtain⟨r,es,ck,h1,h2,h3,h4,h5⟩:=(show I9 O1 w p.1 (m p.1) p.2 from hS1.CX p.1 _ hq1).lists
  have hu:=(hC.is ht).d
  rw[hd']at hu
  have hM0:=hM.lists
  obtain⟨r0,es0,ck0,k1,k2,k3,k4,k5⟩:=hM0
  rw[h1]at k1;injection k1 with k1;injection k1 with k1;subst k1
  rw[h2]at k2;injection k2 with k2;injection k2 with k2 k2';subst k2;subst k2'
  have hfind:=hK.find (a.eval i) _ es.toList p.2.l hk k4 (fun i e p he hp=>(k5 i e p he hp).1)
  have hchk:=hK.check false (a.eval i) _ hk
  have hk':GI O1 w (a.eval i) (Iz (p.2.kt.cells (p.2.kt.mk i'.cells).2)):=hk.DW hp1
  have hcells:=Ty.OQ _ _ hmk
  have hval:GI O1 w (a.eval y) (Iz (p.2.vt.cells (p.2.vt.mk pu.2.1).2)):=by
    rw[hcells]
    refine Ako (CX:=st.CX) hv2 hv1 hy (by rw[g1,g2]) (fun j hj=>g4 hp1 hv1' j (by rw[<- g1];exact hj))
  have happ: ∀ ok l',apply st o {ok:=ok,val:=.undef,upd:=pu.2.2++[(p.1,.mp l')]}= {tmps:=put st.tmps none .undef,CX:=ER (Dy st.CX pu.2.2) p.1 (.mp l')}:=by
    intro ok l'
    unfold apply
    rw[hd]
    have: ∀(u:List (Nat×Vm.Obj)) (l:List (Nat×Vm.Obj)) n z,Dy l (u++[(n,z)])=ER (Dy l u) n z:=by
      intro u
      induction u with
      | nil=>intro l n z;rfl
      | cons q u ih=>intro l n z;exact ih _ _ _
    show St.mk _ (Dy (Ee (Dy st.CX (pu.2.2++[(p.1,.mp l')])) []) [])=_
    rw[this];rfl
  rcases AaJ (k:=(p.2.kt.mk i'.cells).2) es.toList p.2.l 0 k4 with ⟨f1,_,f3,_⟩ | ⟨j,e,q,f1,f2,f3,f4,_,f6,_⟩
  ·have hrun:(execOp a.eval o).run P w= .ok .skip {w with heap:=w.heap.setIfInBounds r (.map (es.push {key:=a.eval i,val:=a.eval y,born:=ck}) (ck+1))}:=by
     have:(Instr.mapUpdate t (a.eval x) (a.eval i) (a.eval y)).run P w= .ok () {w with heap:=w.heap.setIfInBounds r (.map (es.push {key:=a.eval i,val:=a.eval y,born:=ck}) (ck+1))}:=by
       rw[hv,h1]
       simp [Instr.mapUpdate,run_underlying hu,PD h2,hchk,hfind,f1,XE _ h2,Result.andThen]
     rcases ho with ho | ho<;>simp only[execOp,ho,Sem.run_bind,this,Result.andThen_ok,Sem.run_pure]
   unfold Oper.wp
   rw[hrun,Oper.upon_skip,hd]
   refine hn O1 m _ _ ?_
   rw[happ]
   refine lM hS1 (d:=none) (v:=undef) hq1 h1 h2 h3 (by rw[f3,Array.size_push,List.length_append,<- k4,Array.length_toList];rfl) (fun i0 p0 hp0=> ?_) (fun h=>absurd rfl h)
   have hp0:(UH p.2.kt (p.2.kt.mk i'.cells).2 (p.2.vt.mk pu.2.1).2 p.2.l)[i0]? =some p0:=hp0
   rw[f3]at hp0
   have hsz:es.size=p.2.l.length:=by rw[<- k4,Array.length_toList]
   rcases Nat.lt_or_ge i0 p.2.l.length with hlt | hge
   ·rw[List.getElem?_append_left hlt]at hp0
    have hlt':i0<es.size:=by omega
    have hes:es.toList[i0]? =some es[i0]:=by rw[Array.getElem?_toList,Array.getElem?_eq_getElem hlt']
    refine⟨es[i0],by rw[Array.getElem?_push,if_neg (by omega),Array.getElem?_eq_getElem hlt'],h5 i0 _ p0 hes hp0⟩
   ·rw[List.getElem?_append_right hge]at hp0
    have h0:i0 - p.2.l.length=0:=by
      rcases Nat.eq_zero_or_pos (i0 - p.2.l.length)with h | h
      ·exact h
      ·rw[List.getElem?_eq_none (by show 1<=_;omega)]at hp0;cases hp0
    rw[h0]at hp0
    injection hp0 with hp0
    subst hp0
    exact⟨_,by rw[Array.getElem?_push,if_pos (by omega)],hk',hval⟩
  ·have hstay:=hK.stays (a.eval i) e.key _ hk (by rw[<- f4];exact(k5 j e q f2 f3).1)
   have f2':es[j]? =some e:=by rw[<- Array.getElem?_toList];exact f2
   have hrun:(execOp a.eval o).run P w= .ok .skip {w with heap:=w.heap.setIfInBounds r (.map (es.modify j fun e=> {e with key:=a.eval i,val:=a.eval y}) ck)}:=by
     have:(Instr.mapUpdate t (a.eval x) (a.eval i) (a.eval y)).run P w= .ok () {w with heap:=w.heap.setIfInBounds r (.map (es.modify j fun e=> {e with key:=a.eval i,val:=a.eval y}) ck)}:=by
       rw[hv,h1]
       simp [Instr.mapUpdate,run_underlying hu,PD h2,hchk,hfind,f1,f2',hstay,XE _ h2,Result.andThen]
     rcases ho with ho | ho<;>simp only[execOp,ho,Sem.run_bind,this,Result.andThen_ok,Sem.run_pure]
   unfold Oper.wp
   rw[hrun,Oper.upon_skip,hd]
   refine hn O1 m _ _ ?_
   rw[happ]
   refine lM hS1 (d:=none) (v:=undef) hq1 h1 h2 h3 (by rw[f6,Array.size_modify,List.length_set,<- k4,Array.length_toList]) (fun i0 p0 hp0=> ?_) (fun h=>absurd rfl h)
   have hp0:(UH p.2.kt (p.2.kt.mk i'.cells).2 (p.2.vt.mk pu.2.1).2 p.2.l)[i0]? =some p0:=hp0
   rw[f6]at hp0
   rcases Aps hp0 with ⟨q1,q2,_⟩ | ⟨q1,q2⟩
   ·subst q1;subst q2
    refine⟨_,by rw[Array.getElem?_modify,if_pos rfl,f2'];rfl,?_,hval⟩
    dsimp only
    rw[f4];exact hk'
   ·have hlt:i0<es.size:=by
      have:=(List.getElem?_eq_some_iff.1 q2).1
      rw[<- k4,Array.length_toList]at this;exact this
    have hes:es.toList[i0]? =some es[i0]:=by rw[Array.getElem?_toList,Array.getElem?_eq_getElem hlt]
    exact⟨es[i0],by rw[Array.getElem?_modify,if_neg (fun h=>q1 h.symm),Array.getElem?_eq_getElem hlt],h5 i0 _ p0 hes q2⟩
theorem Ajr {t:Nat} {x i:Operand} {c:Call} (hC:TOk P C) (hS:Sim V0 O0 w0 O m st a w) (ho:o.op= .call c) (hcal:c.callee= .builtin .delete) (hargs:c.args= #[x,i]) {ts:List Nat} (hts:c.argTypes.toList=t::ts) {fet:Fet} (hf:Iy st.CX fet) {x' i':A} (hx:Dz O st.CX m w (a.eval x) x') (hi:Dz O st.CX m w (a.eval i) i')
    (hok:Du (eF C fet t x' i').ok):Good P V0 O0 w0 (apply st o (eF C fet t x' i')) o a w:=by
  intro next Q hn
  have hF:FOk O st.CX m w fet:=fun q x h=>⟨hf q x h,hS.CX q x (hf q x h)⟩
  unfold eF at *
  obtain⟨ti,kt,et,ta,tb,ht,hd',hta,htb,he⟩:=kE hok
  rw[he]at hok hn;clear he
  obtain⟨p,hp,he⟩:=DI hok
  rw[he]at hok hn;clear he
  obtain⟨hq,hv,hM⟩:=AgX hF hx hp
  obtain⟨hK,hk,hone,hvt⟩:=Aib hC hta hi hok
  obtain⟨r,es,ck,h1,h2,h3,h4,h5⟩:=hM.lists
  have hu:=(hC.is ht).d
  rw[hd']at hu
  have hts0:c.argTypes[0]? =some t:=by rw[<- Array.getElem?_toList,hts];rfl
  have hfind:=hK.find (a.eval i) _ es.toList p.2.l hk h4 (fun i e p he hp=>(h5 i e p he hp).1)
  have hchk:=hK.check es.isEmpty (a.eval i) _ hk
  have happ: ∀ ok l',apply st o {ok:=ok,val:=.tup [],upd:=[(p.1,.mp l')]}= {tmps:=put st.tmps o.dst (.tup []),CX:=ER st.CX p.1 (.mp l')}:=by
    intro ok l';rfl
  have hT: ∀(O':Own) (objs':List (Nat×Vm.Obj)) (m':Nat->Value) (w':World),Dz O' objs' m' w' (.tuple #[]) (.tup []):=fun _ _ _ _=>⟨#[],rfl,rfl,fun j hj=>by cases hj⟩
  have main: ∀(es':Array MapEntry),(Builtin.delete_ c.argTypes o.type #[a.eval x,a.eval i]).run P w= .ok (.tuple #[]) {w with heap:=w.heap.setIfInBounds r (.map es' ck)}->es'.size=(W9 p.2.kt (p.2.kt.mk i'.cells).2 p.2.l).length ->
      (∀(i0:Nat) (p0:p.2.kt.Val×p.2.vt.Val),(W9 p.2.kt (p.2.kt.mk i'.cells).2 p.2.l)[i0]? =some p0-> ∃ e,es'[i0]? =some e/\GI O w e.key (Iz (p.2.kt.cells p0.1))/\GI O w e.val (Iz (p.2.vt.cells p0.2)))->o.wp P a w next Q:=by
    intro es' hr hs he
    have hrun:(execOp a.eval o).run P w= .ok (.value (.tuple #[])) {w with heap:=w.heap.setIfInBounds r (.map es' ck)}:=by
      simp [execOp,ho,resolve,hcal,hargs,invoke,builtin,hr]
    unfold Oper.wp
    rw[hrun,Oper.upon_value]
    refine hn O m _ _ ?_
    rw[happ]
    exact lM (l':=⟨p.2.kt,p.2.vt,W9 p.2.kt (p.2.kt.mk i'.cells).2 p.2.l⟩) hS hq (by rw[<- h1]) h2 h3 hs he (fun _=>hT)
  have hsz:es.size=p.2.l.length:=by rw[<- h4,Array.length_toList]
  rcases AaJ (k:=(p.2.kt.mk i'.cells).2) es.toList p.2.l 0 h4 with ⟨f1,_,_,f3⟩ | ⟨j,e,q,f1,f2,f3,f4,_,_,f6⟩
  ·refine main es ?_ (by rw[f3];exact hsz) (fun i0 p0 hp0=> ?_)
   ·rw[hv,h1]
    simp [Builtin.delete_,hts0,run_underlying hu,PD h2,hchk,hfind,f1,XE _ h2,Result.andThen]
   ·rw[f3]at hp0
    have hlt:i0<es.size:=by
      have:=(List.getElem?_eq_some_iff.1 hp0).1
      omega
    have hes:es.toList[i0]? =some es[i0]:=by rw[Array.getElem?_toList,Array.getElem?_eq_getElem hlt]
    exact⟨es[i0],Array.getElem?_eq_getElem hlt,h5 i0 _ p0 hes hp0⟩
  ·have hj:j<es.size:=by
     have:=(List.getElem?_eq_some_iff.1 f2).1
     simpa using this
   have hel:(es.eraseIdxIfInBounds j).toList=es.toList.eraseIdx j:=by
     unfold Array.eraseIdxIfInBounds
     rw[dif_pos hj];simp
   refine main (es.eraseIdxIfInBounds j) ?_ ?_ (fun i0 p0 hp0=> ?_)
   ·rw[hv,h1]
    simp [Builtin.delete_,hts0,run_underlying hu,PD h2,hchk,hfind,f1,XE _ h2,Result.andThen]
   ·rw[f6,<- Array.length_toList,hel,List.length_eraseIdx,List.length_eraseIdx,h4]
   ·rw[f6]at hp0
    rw[List.getElem?_eraseIdx]at hp0
    have key: ∀ i1:Nat,p.2.l[i1]? =some p0->(es.toList.eraseIdx j)[i0]? =es.toList[i1]? -> ∃ e,(es.eraseIdxIfInBounds j)[i0]? =some e/\GI O w e.key (Iz (p.2.kt.cells p0.1))/\GI O w e.val (Iz (p.2.vt.cells p0.2)):=by
      intro i1 hl hh
      have hlt:i1<es.size:=by
        have:=(List.getElem?_eq_some_iff.1 hl).1
        omega
      have hes:es.toList[i1]? =some es[i1]:=by rw[Array.getElem?_toList,Array.getElem?_eq_getElem hlt]
      exact⟨es[i1],by rw[<- Array.getElem?_toList,hel,hh,hes],h5 i1 _ p0 hes hl⟩
    split at hp0
    ·rename_i hlt;exact key i0 hp0 (by rw[List.getElem?_eraseIdx,if_pos hlt])
    ·rename_i hlt;exact key (i0+1) hp0 (by rw[List.getElem?_eraseIdx,if_neg hlt])
end
end Go.Proofs.YtbaomhegdndpnaaGreatDoor.Vm
namespace Go.Proofs.YtbaomhegdndpnaaGreatDoor.Vm
open Classical
def IC (O:Own) (w:World) (id:Nat) (v:Value):A->Prop
  | .usl z e l=>EL O [] (fun _=>v) w id (.arr e z l)
  | .box cs=> ∃ b base,v= .pointer (some (at' b base))/\ ∀ j,j<cs.length->O b (base+j)=some id/\w.frozen? (at' b (base+j))=false/\ ∃ u,w.cell? (at' b (base+j))=some u/\Dt O w u (cs.getD j .undef)
  | a=>Dt O w v a
def IR (O:Own) (w:World) (id:Nat) (v:Value):A->Prop
  | .agg cs=> ∃ vs:Array Value,v= .agg vs/\vs.size=cs.length/\ ∀ j,j<cs.length->IC O w (id+1+j) (vs.getD j undef) (cs.getD j .undef)
  | .box cs=> ∃ b base,v= .pointer (some (at' b base))/\ ∀ j,j<cs.length->O b (base+j)=some id/\w.frozen? (at' b (base+j))=false/\ ∃ u,w.cell? (at' b (base+j))=some u/\IC O w (id+1+j) u (cs.getD j .undef)
  | .cbx k cs=> ∃ b base,Xq O w k v (.pointer (some (at' b base)))/\ ∀ j,j<cs.length->O b (base+j)=some id/\w.frozen? (at' b (base+j))=false/\ ∃ u,w.cell? (at' b (base+j))=some u/\IC O w (id+1+j) u (cs.getD j .undef)
  | .ump l=>I9 O w id v l
  | a=>IC O w id v a
section
variable {P:Program} {C:Ctx} {V0:Nat->Value} {O0 O:Own} {w0 w:World} {m:Nat->Value} {st:St} {a:Act} {o:Oper}
theorem Dt.ic {id:Nat} {v:Value} {x:A} (h:Dt O w v x):IC O w id v x:=by cases h<;>first | exact .bool _ | exact .int _ _ | exact .str _ | exact .nil _ | exact .Ff | exact .fn _ | exact .ZL | exact Dt.sl0 _ _ | (rename_i vs a1 a2 a3;exact Dt.sl vs a1 a2 a3) | (rename_i h hn;exact Dt.sln h hn)
def I4 (O:Own) (ρ :Nat->Option Nat):Own:=fun b k=>match O b k with
  | none=>none
  | some o=>match ρ o with
    | some i=>some i
    | none=>some 255
theorem Ub {ρ :Nat->Option Nat} {b k:Nat}:I4 O ρ b k=none↔O b k=none:=by grind[I4]
theorem PT {ρ :Nat->Option Nat} {b k o i:Nat} (h:O b k=some o) (hr: ρ o=some i):I4 O ρ b k=some i:=by
  unfold I4;rw[h];simp [hr]
theorem PS (ρ :Nat->Option Nat):Gu O w (I4 O ρ) w:=fun _ _ _ h hc=>⟨Ub.2 h,hc⟩
theorem EL.I4 {ρ :Nat->Option Nat} {q i e:Nat} {z:Bool} {l:Sl} {CX objs':List (Nat×Obj)} {m m':Nat->Value} (h:EL O CX m w q (.arr e z l)) (hr: ρ q=some i) (hm:m' i=m q) :
    EL (I4 O ρ) objs' m' w i (.arr e z l):=by
  refine⟨h.1,?_⟩
  rcases h.2 with ⟨h1,h2,h3⟩ | ⟨h1,g,cap,cur,h2,h3,h4,h5,h6,h7,h8,h9⟩
  ·exact .inl ⟨h1,h2,by rw[hm];exact h3⟩
  ·refine .inr ⟨h1,g,cap,cur,by rw[hm];exact h2,h3,h4,h5,h6,fun r j hr' hj=> ?_,fun k hk hge=>PT (h8 k hk hge) hr,fun k hk=> ?_⟩
   ·obtain⟨u,h10,h11⟩:=h7 r j hr' hj
    exact⟨u,h10,h11.DW (PS ρ)⟩
   ·have:=h9 k hk
    cases z with
    | true=>exact Ub.2 this
    | false=>exact PT this hr
theorem EL.keep {O':Own} {q e:Nat} {l:Sl} {CX objs':List (Nat×Obj)} {m:Nat->Value} (h:EL O CX m w q (.arr e false l)) (hp:Gu O w O' w) (hk: ∀ b k,O b k=some q->O' b k=some q):EL O' objs' m w q (.arr e false l):=by
  refine⟨h.1,?_⟩
  rcases h.2 with h0 | ⟨h1,g,cap,cur,h2,h3,h4,h5,h6,h7,h8,h9⟩
  ·exact .inl h0
  ·refine .inr ⟨h1,g,cap,cur,h2,h3,h4,h5,h6,fun r j hr' hj=> ?_,fun k a b=>hk _ _ (h8 k a b),fun k a=>hk _ _ (h9 k a)⟩
   obtain⟨u,h10,h11⟩:=h7 r j hr' hj
   exact⟨u,h10,h11.DW hp⟩
theorem PG {W:Prop} {fet:Fet} (hf:Iy st.CX fet) (hS: ∀ q y,Dp st.CX q=some y->EL O st.CX m w q y): ∀(ks:List (Bool×CK)) (cs:List A) (id:Nat) (f:Nat->Value),(ks.any wC=true->W)->(∀ j,j<cs.length->D5 O st.CX m w (f j) (cs.getD j .undef))->Du (Dv fet ks cs).1 ->
    (Dv fet ks cs).2.1.length=ks.length/\cs.length=ks.length/\Frz st.CX (Dv fet ks cs).2.2.1/\(Dv fet ks cs).2.2.2=(ET id ks cs).map (·.1) /\
    ∀ {O':Own} {objs':List (Nat×Obj)} {ρ :Nat->Option Nat},Gu O w O' w->(∀ p∈(Dv fet ks cs).2.2.1,∀ e l,p.2= .arr e true l->Dt O' w (m p.1) (.sl l)) ->
      (∀ p∈(Dv fet ks cs).2.2.1,EL O' objs' m w p.1 p.2)->(∀ b k q,O b k=some q->(NR st.CX q\/W)->O' b k=some q)->(∀ p∈ET id ks cs,ρ p.1=some p.2) ->
      ∀ j,j<ks.length->IC (I4 O' ρ) w (id+j) (f j) ((Dv fet ks cs).2.1.getD j .undef):=by
  intro ks
  induction ks with
  | nil =>
    intro cs id f _ _ hok
    cases cs with
    | nil=>exact⟨rfl,rfl,(fun p hp=>by simp [Dv]at hp),rfl,fun _ _ _ _ _ j hj=>by simp at hj⟩
    | cons _ _=>have:=hok false (by simp [Dv]);cases this
  | cons k ks ih =>
    intro cs id f hW h hok
    obtain⟨u,k⟩:=k
    cases cs with
    | nil=>have:=hok false (by cases u<;>simp [Dv]);cases this
    | cons c cs =>
      have hrest:=fun hok2=>ih cs (id+1) (fun j=>f (j+1)) (fun h=>hW (by rw[List.any_cons,h,Bool.or_true])) (fun j hj=>by simpa using h (j+1) (by simpa using hj)) hok2
      cases u with
      | false =>
        simp only[Dv]at hok ⊢
        obtain⟨hok1,hok2⟩:=hok.append
        obtain⟨h1,h2⟩:=Ai1 hf (h 0 (by simp)) hok1
        obtain⟨h3,h4,h5,h6,h7⟩:=hrest hok2
        have hnames:ET id ((false,k)::ks) (c::cs)=ET (id+1) ks cs:=by cases c<;>rfl
        refine⟨by simp [h3],by simp [h4],h1.append h5,by rw[hnames];exact h6,fun {O' objs' ρ} hp hv hO hbx hρ j hj=> ?_⟩
        rw[hnames]at hρ
        cases j with
        | zero =>
          have hvr:=(h2 hp (fun p hp=>hv p (List.mem_append_left _ hp))).DW (PS ρ)
          exact hvr.ic
        | succ j =>
          have:=h7 hp (fun p hp=>hv p (List.mem_append_right _ hp)) (fun p hp=>hO p (List.mem_append_right _ hp)) hbx hρ j (by simpa using hj)
          rw[show id+(j+1)=id+1+j from by omega]
          simpa using this
      | true =>
        cases k with
        | sl e sz =>
          cases c with
          | own q =>
            simp only[Dv]at hok ⊢
            cases hg:Dp fet q with
            | none=>rw[hg]at hok;have:=hok false (by simp);cases this
            | some x =>
              cases x with
              | box _=>rw[hg]at hok;have:=hok false (by simp);cases this
              | mp _=>rw[hg]at hok;have:=hok false (by simp);cases this
              | arr e' fz l =>
                rw[hg]at hok
                dsimp only at hok ⊢
                obtain⟨hok1,hok2⟩:=hok.append
                obtain⟨e1,e2⟩:=hok1.cons
                have e1:=Nat.eq_of_beq_eq_true e1
                subst e1
                obtain⟨h3,h4,h5,h6,h7⟩:=hrest hok2
                have hq:=hf q _ hg
                refine⟨by simp [h3],by simp [h4],fun p hp=> ?_,?_,fun {O' objs' ρ} hp hv hO hbx hρ j hj=> ?_⟩
                ·rcases List.mem_cons.1 hp with rfl | hp
                 ·exact⟨e,fz,l,hq,rfl⟩
                 ·exact h5 p hp
                ·simp only[ET,List.map_cons,h6]
                ·cases j with
                 | zero =>
                   have hc:D5 O st.CX m w (f 0) (.own q):=h 0 (by simp)
                   have hc:=hc.2
                   rw[hq]at hc
                   simp only[Option.map_some,Obj.shp]at hc
                   have:=hO _ List.mem_cons_self
                   exact this.I4 (objs':=[]) (m':=fun _=>f 0) (hρ (q,id) List.mem_cons_self) hc
                 | succ j =>
                   have:=h7 hp (fun p hp=>hv p (List.mem_cons_of_mem _ hp)) (fun p hp=>hO p (List.mem_cons_of_mem _ hp)) hbx (fun p hp=>hρ p (List.mem_cons_of_mem _ hp)) j (by simpa using hj)
                   rw[show id+(j+1)=id+1+j from by omega]
                   simpa using this
          | EK =>
            simp only[Dv]at hok ⊢
            obtain⟨h3,h4,h5,h6,h7⟩:=hrest hok
            have hnames:ET id ((true,.sl e sz)::ks) (.EK::cs)=ET (id+1) ks cs:=rfl
            refine⟨by simp [h3],by simp [h4],h5,by rw[hnames];exact h6,fun {O' objs' ρ} hp hv hO hbx hρ j hj=> ?_⟩
            rw[hnames]at hρ
            cases j with
            | zero =>
              have hc:D5 O st.CX m w (f 0) .EK:=h 0 (by simp)
              have hc:f 0= .slice none 0 0:=hc
              show EL _ [] (fun _=>f 0) w _ (.arr e true ⟨sz,[]⟩)
              exact⟨by simp [Sl.es],.inl ⟨trivial,rfl,hc⟩⟩
            | succ j =>
              have:=h7 hp hv hO hbx hρ j (by simpa using hj)
              rw[show id+(j+1)=id+1+j from by omega]
              simpa using this
          | _=>have:=hok false (by simp [Dv]);cases this
        | sln e sz =>
          cases c with
          | own q =>
            simp only[Dv]at hok ⊢
            cases hg:Dp fet q with
            | none=>rw[hg]at hok;have:=hok false (by simp);cases this
            | some x =>
              cases x with
              | box _=>rw[hg]at hok;have:=hok false (by simp);cases this
              | mp _=>rw[hg]at hok;have:=hok false (by simp);cases this
              | arr e' fz l =>
                rw[hg]at hok
                dsimp only at hok ⊢
                obtain⟨hok1,hok2⟩:=hok.append
                obtain⟨e1,e2⟩:=hok1.cons
                obtain⟨_,e3⟩:=e2.cons
                have e3:fz=false:=by simpa using e3.cons.1
                subst e3
                have e1:=Nat.eq_of_beq_eq_true e1
                subst e1
                obtain⟨h3,h4,h5,h6,h7⟩:=hrest hok2
                have hq:=hf q _ hg
                refine⟨by simp [h3],by simp [h4],h5,?_,fun {O' objs' ρ} hp hv hO hbx hρ j hj=> ?_⟩
                ·simp only[ET,List.map_cons,h6]
                ·cases j with
                 | zero =>
                   have hc:D5 O st.CX m w (f 0) (.own q):=h 0 (by simp)
                   have hc:=hc.2
                   rw[hq]at hc
                   simp only[Option.map_some,Obj.shp]at hc
                   exact(EL.keep (objs':=st.CX) (hS q _ hq) hp fun b k hb=>hbx b k q hb (.inr (hW rfl))).I4 (objs':=[]) (m':=fun _=>f 0) (hρ (q,id) List.mem_cons_self) hc
                 | succ j =>
                   have:=h7 hp hv hO hbx (fun p hp=>hρ p (List.mem_cons_of_mem _ hp)) j (by simpa using hj)
                   rw[show id+(j+1)=id+1+j from by omega]
                   simpa using this
          | EK =>
            simp only[Dv]at hok ⊢
            obtain⟨h3,h4,h5,h6,h7⟩:=hrest hok
            have hnames:ET id ((true,.sln e sz)::ks) (.EK::cs)=ET (id+1) ks cs:=rfl
            refine⟨by simp [h3],by simp [h4],h5,by rw[hnames];exact h6,fun {O' objs' ρ} hp hv hO hbx hρ j hj=> ?_⟩
            rw[hnames]at hρ
            cases j with
            | zero =>
              have hc:D5 O st.CX m w (f 0) .EK:=h 0 (by simp)
              have hc:f 0= .slice none 0 0:=hc
              show EL _ [] (fun _=>f 0) w _ (.arr e false ⟨sz,[]⟩)
              exact⟨by simp [Sl.es],.inl ⟨trivial,rfl,hc⟩⟩
            | succ j =>
              have:=h7 hp hv hO hbx hρ j (by simpa using hj)
              rw[show id+(j+1)=id+1+j from by omega]
              simpa using this
          | _=>have:=hok false (by simp [Dv]);cases this
        | bx t =>
          cases c with
          | ptr q off =>
            simp only[Dv]at hok ⊢
            cases hg:Fh fet q with
            | none=>rw[hg]at hok;have:=hok false (by simp);cases this
            | some zs =>
              rw[hg]at hok
              dsimp only at hok ⊢
              obtain⟨hok0,hok1⟩:=hok.cons
              obtain⟨hok1,hok2⟩:=hok1.append
              have hok0:=Nat.eq_of_beq_eq_true hok0
              subst hok0
              obtain⟨h3,h4,h5,h6,h7⟩:=hrest hok2
              have hq:=hf q _ (EX hg)
              obtain⟨b,base,g1,g2⟩:=hS q _ hq
              have hv0:f 0= .pointer (some (at' b base)):=by
                have hc:D5 O st.CX m w (f 0) (.ptr q 0):=h 0 (by simp)
                have hc:=hc.2
                rw[hq]at hc
                simp only[Option.map_some,Obj.shp]at hc
                obtain⟨b',base',g3,g4⟩:=hc
                rw[g1]at g3;injection g3 with g3;injection g3 with g3;injection g3 with e1 e2
                subst e1;subst e2;exact g4
              have hfc: ∀ j,j<zs.length->w.cell? (at' b (base+j))=some ((w.cell? (at' b (base+j))).getD undef)/\D5 O st.CX m w ((w.cell? (at' b (base+j))).getD undef) (zs.getD j .undef):=by
                intro j hj
                obtain⟨_,_,u,h3,h4⟩:=g2 j hj
                rw[h3];exact⟨rfl,h4⟩
              obtain⟨p1,p2,p3,p4⟩:=OU hf (tck t) zs (fun j=>(w.cell? (at' b (base+j))).getD undef) (fun j hj=>(hfc j hj).2) hok1
              refine⟨by simp [h3],by simp [h4],p3.append h5,?_,fun {O' objs' ρ} hp hv hO hbx hρ j hj=> ?_⟩
              ·simp only[ET,List.map_cons,h6]
              ·cases j with
               | zero =>
                 refine⟨b,base,hv0,fun j hj=> ?_⟩
                 have hj:j<(Es fet (tck t) zs).2.1.length:=hj
                 rw[p1]at hj
                 have hj':j<zs.length:=by rw[p2];exact hj
                 obtain⟨k1,k2,_⟩:=g2 j hj'
                 exact⟨PT (hbx _ _ _ k1 (.inl (.of hq (fun _ _ _ h=>by cases h)))) (hρ (q,id) List.mem_cons_self),k2,_,(hfc j hj').1,(p4 hp (fun p hp=>hv p (List.mem_append_left _ hp)) j hj).DW (PS ρ)⟩
               | succ j =>
                 have:=h7 hp (fun p hp=>hv p (List.mem_append_right _ hp)) (fun p hp=>hO p (List.mem_append_right _ hp)) hbx (fun p hp=>hρ p (List.mem_cons_of_mem _ hp)) j (by simpa using hj)
                 rw[show id+(j+1)=id+1+j from by omega]
                 simpa using this
          | _=>have:=hok false (by simp [Dv]);cases this
        | _=>have:=hok false (by simp [Dv]);cases this
end
end Go.Proofs.YtbaomhegdndpnaaGreatDoor.Vm
namespace Go.Proofs.YtbaomhegdndpnaaGreatDoor.Vm
open Classical
section
variable {P:Program} {C:Ctx} {V0:Nat->Value} {O0 O:Own} {w0 w:World} {m:Nat->Value} {st:St} {a:Act} {o:Oper}
theorem AhR {W:Prop} {fet:Fet} (hf:Iy st.CX fet) {s:Sh} {x:A} {v:Value} {id:Nat} (hW:wS s=true->W) (hx:Dz O st.CX m w v x) (hS: ∀ q y,Dp st.CX q=some y->EL O st.CX m w q y) (hok:Du (DR fet s x).ok) :
    Frz st.CX (DR fet s x).upd/\(∀ q∈(DR fet s x).del++(DR fet s x).boxes.map (·.1),q∈(Ie fet id s x).map (·.1))/\(∀ q∈(Ie fet id s x).map (·.1),q∈(DR fet s x).del++(DR fet s x).boxes.map (·.1)) /\
    (Eo s=true↔(DR fet s x).boxes≠ []) /\
    ∀ {O':Own} {objs':List (Nat×Obj)} {ρ :Nat->Option Nat},Gu O w O' w->(∀ p∈(DR fet s x).upd,∀ e l,p.2= .arr e true l->Dt O' w (m p.1) (.sl l)) ->
      (∀ p∈(DR fet s x).upd,EL O' objs' m w p.1 p.2)->(∀ b k q,O b k=some q->(NR st.CX q\/W)->O' b k=some q)->(∀ p∈Ie fet id s x,ρ p.1=some p.2) ->
      IR (I4 O' ρ) w id v (DR fet s x).a:=by
  cases s with
  | cell u k =>
    unfold DR at *
    dsimp only at hok ⊢
    have hall: ∀ hc:D5 O st.CX m w v x,_:=fun hc=>PG hf hS [(u,k)] [x] id (fun _=>v) (fun h=>hW (by rw[List.any_cons,List.any_nil,Bool.or_false]at h;exact h)) (fun j hj=>by
      have:j=0:=by simpa using hj
      subst this;exact hc)
    have hnc: ∀(h:Du (Dv fet [(u,k)] [x]).1),D5 O st.CX m w v x:=by
      intro h
      cases x with
      | undef=>cases u<;>cases k<;>(have:=h false (by simp [Dv,pur]);cases this)
      | agg _=>cases u<;>cases k<;>(have:=h false (by simp [Dv,pur]);cases this)
      | tup _=>cases u<;>cases k<;>(have:=h false (by simp [Dv,pur]);cases this)
      | cnd _ _=>cases u<;>cases k<;>(have:=h false (by simp [Dv,pur]);cases this)
      | _=>exact hx
    generalize hh:Dv fet [(u,k)] [x]=r at *
    obtain⟨ok,cs,upd,del⟩:=r
    cases cs with
    | nil=>have:=hok false (by simp);cases this
    | cons c cs =>
      cases cs with
      | cons _ _=>have:=hok false (by simp);cases this
      | nil =>
        dsimp only at hok ⊢
        obtain⟨h1,h2,h3,h4,h5⟩:=hall (hnc hok) hok
        have h4:del=(ET id [(u,k)] [x]).map (·.1):=h4
        refine⟨h3,fun q hq=> ?_,fun q hq=> ?_,⟨(fun h=>by cases h),fun h=>absurd rfl h⟩,fun {O' objs' ρ} hp hv hO hbx hρ => ?_⟩
        ·simp only[List.map_nil,List.append_nil]at hq;rw[h4]at hq;exact hq
        ·simp only[List.map_nil,List.append_nil];rw[h4];exact hq
        ·have:=h5 hp hv hO hbx hρ 0 (by simp)
         have e: [c].getD 0 .undef=c:=rfl
         dsimp only at this
         rw[e]at this
         cases c<;>first | exact this | (obtain⟨b,base,e1,e2⟩:=this;exact⟨b,base,e1,fun j hj=>let ⟨k1,k2,u,k3,k4⟩:=e2 j hj;⟨k1,k2,u,k3,k4.ic⟩⟩) | cases this
  | agg ks =>
    cases x with
    | agg cs =>
      unfold DR at *
      dsimp only at hok ⊢
      obtain⟨vs,g1,g2,g3⟩:=hx
      obtain⟨h1,h2,h3,h4,h5⟩:=PG hf hS ks cs (id+1) (fun j=>vs.getD j undef) hW g3 hok
      refine⟨h3,fun q hq=> ?_,fun q hq=> ?_,⟨(fun h=>by cases h),fun h=>absurd rfl h⟩,fun {O' objs' ρ} hp hv hO hbx hρ => ?_⟩
      ·simp only[List.map_nil,List.append_nil]at hq;rw[h4]at hq;exact hq
      ·simp only[List.map_nil,List.append_nil];rw[h4];exact hq
      ·exact⟨vs,g1,by rw[g2,h1,h2],fun j hj=>h5 hp hv hO hbx hρ j (by rw[<- h1];exact hj)⟩
    | _=>have:=hok false (by simp [DR]);cases this
  | box ks =>
    cases x with
    | ptr q off =>
      unfold DR at *
      dsimp only at hok ⊢
      cases hg:Fh fet q with
      | none=>rw[hg]at hok;have:=hok false (by simp);cases this
      | some cs =>
            rw[hg]at hok
            dsimp only at hok ⊢
            obtain⟨ho0,hokA⟩:=hok.cons
            obtain⟨_,hokB⟩:=hokA.cons
            have ho0:=Nat.eq_of_beq_eq_true ho0
            subst ho0
            have hq:=hf q _ (EX hg)
            obtain⟨b,base,g1,g2⟩:=hS q _ hq
            have hv0:v= .pointer (some (at' b base)):=by
              have hc:D5 O st.CX m w v (.ptr q 0):=hx
              have hc:=hc.2
              rw[hq]at hc
              simp only[Option.map_some,Obj.shp]at hc
              obtain⟨b',base',g3,g4⟩:=hc
              rw[g1]at g3;injection g3 with g3;injection g3 with g3;injection g3 with e1 e2
              subst e1;subst e2;exact g4
            let f:Nat->Value:=fun j=>(w.cell? (at' b (base+j))).getD undef
            have hfc: ∀ j,j<cs.length->w.cell? (at' b (base+j))=some (f j)/\D5 O st.CX m w (f j) (cs.getD j .undef):=by
              intro j hj
              obtain⟨_,_,u,h3,h4⟩:=g2 j hj
              have:f j=u:=by show(w.cell? _).getD _=_;rw[h3];rfl
              rw[this];exact⟨h3,h4⟩
            obtain⟨h1,h2,h3,h4,h5⟩:=PG hf hS ks cs (id+1) f hW (fun j hj=>(hfc j hj).2) hokB
            have hnames:Ie fet id (.box ks) (.ptr q 0)=(q,id)::ET (id+1) ks cs:=by simp only[Ie,hg]
            rw[hnames]
            refine⟨h3,fun r hr=> ?_,fun r hr=> ?_,⟨fun _=>by simp,fun _=>rfl⟩,fun {O' objs' ρ} hp hv hO hbx hρ => ?_⟩
            ·simp only[List.map_cons,List.map_nil,List.mem_append,List.mem_singleton]at hr
             rcases hr with hr | hr
             ·rw[h4]at hr;exact List.mem_cons_of_mem _ hr
             ·rw[hr];exact List.mem_cons_self
            ·simp only[List.map_cons,List.map_nil,List.mem_append,List.mem_singleton]
             rcases List.mem_cons.1 hr with hr | hr
             ·exact .inr hr
             ·left;rw[h4];exact hr
            ·refine⟨b,base,hv0,fun j hj=> ?_⟩
             rw[h1]at hj
             obtain⟨k1,k2,u,k3,_⟩:=g2 j (by rw[h2];exact hj)
             refine⟨PT (hbx _ _ _ k1 (.inl (.of hq (fun _ _ _ h=>by cases h)))) (hρ (q,id) List.mem_cons_self),k2,f j,(hfc j (by rw[h2];exact hj)).1,h5 hp hv hO hbx (fun p hp'=>hρ p (List.mem_cons_of_mem _ hp')) j hj⟩
    | _=>have:=hok false (by simp [DR]);cases this
  | clo f' ks =>
    cases x with
    | clo g q =>
      unfold DR at *
      dsimp only at hok ⊢
      cases hg:Fh fet q with
      | none=>rw[hg]at hok;have:=hok false (by simp);cases this
      | some cs =>
            rw[hg]at hok
            dsimp only at hok ⊢
            obtain⟨ho0,hokA⟩:=hok.cons
            obtain⟨_,hokB⟩:=hokA.cons
            have ho0:=Nat.eq_of_beq_eq_true ho0
            subst ho0
            have hq:=hf q _ (EX hg)
            obtain⟨b,base,g1,g2⟩:=hS q _ hq
            have hv0:Xq O w f' v (.pointer (some (at' b base))):=by
              have hc:D5 O st.CX m w v (.clo f' q):=hx
              obtain⟨_,p,_,hc2,hc⟩:=hc
              rw[hq]at hc
              obtain⟨b',base',e1,e2⟩:=hc
              rw[g1]at e1
              rw[e1,<- e2];exact hc2
            let f:Nat->Value:=fun j=>(w.cell? (at' b (base+j))).getD undef
            have hfc: ∀ j,j<cs.length->w.cell? (at' b (base+j))=some (f j)/\D5 O st.CX m w (f j) (cs.getD j .undef):=by
              intro j hj
              obtain⟨_,_,u,h3,h4⟩:=g2 j hj
              have:f j=u:=by show(w.cell? _).getD _=_;rw[h3];rfl
              rw[this];exact⟨h3,h4⟩
            obtain⟨h1,h2,h3,h4,h5⟩:=PG hf hS ks cs (id+1) f hW (fun j hj=>(hfc j hj).2) hokB
            have hnames:Ie fet id (.clo f' ks) (.clo f' q)=(q,id)::ET (id+1) ks cs:=by simp only[Ie,hg]
            rw[hnames]
            refine⟨h3,fun r hr=> ?_,fun r hr=> ?_,⟨fun _=>by simp,fun _=>rfl⟩,fun {O' objs' ρ} hp hv hO hbx hρ => ?_⟩
            ·simp only[List.map_cons,List.map_nil,List.mem_append,List.mem_singleton]at hr
             rcases hr with hr | hr
             ·rw[h4]at hr;exact List.mem_cons_of_mem _ hr
             ·rw[hr];exact List.mem_cons_self
            ·simp only[List.map_cons,List.map_nil,List.mem_append,List.mem_singleton]
             rcases List.mem_cons.1 hr with hr | hr
             ·exact .inr hr
             ·left;rw[h4];exact hr
            ·refine⟨b,base,(hv0.DW hp).DW (PS ρ),fun j hj=> ?_⟩
             rw[h1]at hj
             obtain⟨k1,k2,u,k3,_⟩:=g2 j (by rw[h2];exact hj)
             refine⟨PT (hbx _ _ _ k1 (.inl (.of hq (fun _ _ _ h=>by cases h)))) (hρ (q,id) List.mem_cons_self),k2,f j,(hfc j (by rw[h2];exact hj)).1,h5 hp hv hO hbx (fun p hp'=>hρ p (List.mem_cons_of_mem _ hp')) j hj⟩
    | _=>have:=hok false (by simp [DR]);cases this
  | map kt vt =>
    cases x with
    | own q =>
      unfold DR at *
      dsimp only at hok ⊢
      cases hg:Dp fet q with
      | none=>rw[hg]at hok;have:=hok false (by simp);cases this
      | some y =>
        cases y with
        | box _=>rw[hg]at hok;have:=hok false (by simp);cases this
        | arr _ _ _=>rw[hg]at hok;have:=hok false (by simp);cases this
        | mp l =>
          rw[hg]at hok
          dsimp only at hok ⊢
          have hq:=hf q _ hg
          have hv0:v=m q:=by
            have hc:D5 O st.CX m w v (.own q):=hx
            have hc:=hc.2
            rw[hq]at hc
            exact hc
          refine⟨(fun p hp=>by cases hp),fun r hr=> ?_,fun r hr=> ?_,⟨fun _=>by simp,fun _=>rfl⟩,fun {O' objs' ρ} hp hv hO hbx hρ => ?_⟩
          ·simpa [Ie]using hr
          ·simpa [Ie]using hr
          ·obtain⟨r,es,ck,g1,g2,g3,g4,g5⟩:=(show I9 O w q (m q) l from hS q _ hq)
           refine⟨r,es,ck,by rw[hv0];exact g1,g2,PT (hbx _ _ _ g3 (.inl (.of hq (fun _ _ _ h=>by cases h)))) (hρ (q,id) List.mem_cons_self),g4,fun i p hip=> ?_⟩
           obtain⟨e,k1,k2,k3⟩:=g5 i p hip
           exact⟨e,k1,(k2.DW hp).DW (PS ρ),(k3.DW hp).DW (PS ρ)⟩
    | _=>have:=hok false (by simp [DR]);cases this
theorem Wv {W:Prop} {fet:Fet} (hf:Iy st.CX fet) (hS: ∀ q y,Dp st.CX q=some y->EL O st.CX m w q y) (stride:Nat): ∀(ss:List Sh) (xs:List A) (id:Nat) (f:Nat->Value),(ss.any wS=true->W)->(∀ j,j<xs.length->Dz O st.CX m w (f j) (xs.getD j .undef))->Du (DC fet ss xs).1 ->
    (DC fet ss xs).2.1.length=ss.length/\xs.length=ss.length/\Frz st.CX (DC fet ss xs).2.2.1 /\
    (∀ q,q∈(DC fet ss xs).2.2.2.1++(DC fet ss xs).2.2.2.2.map (·.1)↔q∈(GG fet id stride ss xs).map (·.1)) /\
    ∀ {O':Own} {objs':List (Nat×Obj)} {ρ :Nat->Option Nat},Gu O w O' w->(∀ p∈(DC fet ss xs).2.2.1,∀ e l,p.2= .arr e true l->Dt O' w (m p.1) (.sl l)) ->
      (∀ p∈(DC fet ss xs).2.2.1,EL O' objs' m w p.1 p.2)->(∀ b k q,O b k=some q->(NR st.CX q\/W)->O' b k=some q)->(∀ p∈GG fet id stride ss xs,ρ p.1=some p.2) ->
      ∀ j,j<ss.length->IR (I4 O' ρ) w (id+stride*j) (f j) ((DC fet ss xs).2.1.getD j .undef):=by
  intro ss
  induction ss with
  | nil =>
    intro xs id f _ _ hok
    cases xs with
    | nil=>exact⟨rfl,rfl,(fun p hp=>by simp [DC]at hp),(fun q=>by simp [DC,GG]),fun _ _ _ _ _ j hj=>by simp at hj⟩
    | cons _ _=>have:=hok false (by simp [DC]);cases this
  | cons s ss ih =>
    intro xs id f hW h hok
    cases xs with
    | nil=>have:=hok false (by simp [DC]);cases this
    | cons x xs =>
      simp only[DC]at hok ⊢
      obtain⟨hok1,hok2⟩:=hok.append
      obtain⟨h1,h2,h3,_,h4⟩:=AhR (id:=id) hf (fun e=>hW (by rw[List.any_cons,e,Bool.true_or])) (h 0 (by simp)) hS hok1
      obtain⟨g1,g2,g3,g4,g5⟩:=ih xs (id+stride) (fun j=>f (j+1)) (fun e=>hW (by rw[List.any_cons,e,Bool.or_true])) (fun j hj=>by simpa using h (j+1) (by simpa using hj)) hok2
      refine⟨by simp [g1],by simp [g2],h1.append g3,fun q=> ?_,fun {O' objs' ρ} hp hv hO hbx hρ j hj=> ?_⟩
      ·simp only[GG,List.map_append,List.mem_append]
       have a1:=h2 q
       have a2:=h3 q
       have a3:=g4 q
       simp only[List.mem_append]at a1 a2 a3
       constructor
       ·rintro ((h | h) | (h | h))
        ·exact .inl (a1 (.inl h))
        ·exact .inr (a3.1 (.inl h))
        ·exact .inl (a1 (.inr h))
        ·exact .inr (a3.1 (.inr h))
       ·rintro (h | h)
        ·rcases a2 h with h | h
         ·exact .inl (.inl h)
         ·exact .inr (.inl h)
        ·rcases a3.2 h with h | h
         ·exact .inl (.inr h)
         ·exact .inr (.inr h)
      ·cases j with
       | zero=>simpa using h4 hp (fun p hp=>hv p (List.mem_append_left _ hp)) (fun p hp=>hO p (List.mem_append_left _ hp)) hbx (fun p hp=>hρ p (List.mem_append_left _ hp))
       | succ j =>
         have:=g5 hp (fun p hp=>hv p (List.mem_append_right _ hp)) (fun p hp=>hO p (List.mem_append_right _ hp)) hbx (fun p hp=>hρ p (List.mem_append_right _ hp)) j (by simpa using hj)
         rw[show id+stride*(j+1)=id+stride+stride*j from by rw[Nat.mul_add];omega]
         simpa using this
end
end Go.Proofs.YtbaomhegdndpnaaGreatDoor.Vm
namespace Go.Proofs.YtbaomhegdndpnaaGreatDoor.Vm
open Classical
def Art:Value->Value
  | .func g fi caps=>caps.getD 0 (.func g fi caps)
  | v=>v
def deref (w:World):Value->Value
  | .pointer (some a)=>(w.cell? a).getD undef
  | _=>undef
def innerS (w:World):Sh->Value->Value
  | .clo _ _,v=>deref w (Art v)
  | _,v=>v
theorem Xq.inner {O:Own} {w:World} {k:Nat} {v p:Value} {ks:List (Bool×CK)} (h:Xq O w k v p):innerS w (.clo k ks) v=p:=by
  obtain⟨b,j,h1,_,h3⟩:=h
  rw[h1]
  cases k<;>(show(w.cell? _).getD _=_;rw[h3];rfl)
def Hl (w:World) (v:Value):Nat->Value
  | 0=>v
  | x+1=>match v with
    | .agg vs=>vs.getD x undef
    | .pointer (some a)=>(w.cell? (at' a.block (a.off+x))).getD undef
    | _=>undef
section
variable {Oc O':Own} {w:World} {objs':List (Nat×Obj)} {m':Nat->Value}
theorem EL.carry {CX:List (Nat×Obj)} {m:Nat->Value} {c i e:Nat} {z:Bool} {l:Sl} (h:EL Oc CX m w c (.arr e z l)) (hp:Gu Oc w O' w) (hr: ∀ b k,Oc b k=some c->O' b k=some i) (hn: ∀ b k,Oc b k=none->O' b k=none) (hm:m' i=m c) :
    EL O' objs' m' w i (.arr e z l):=by
  refine⟨h.1,?_⟩
  rcases h.2 with ⟨h1,h2,h3⟩ | ⟨h1,g,cap,cur,h2,h3,h4,h5,h6,h7,h8,h9⟩
  ·exact .inl ⟨h1,h2,by rw[hm];exact h3⟩
  ·refine .inr ⟨h1,g,cap,cur,by rw[hm];exact h2,h3,h4,h5,h6,fun r j hr' hj=> ?_,fun k hk hge=>hr _ _ (h8 k hk hge),fun k hk=> ?_⟩
   ·obtain⟨u,h10,h11⟩:=h7 r j hr' hj
    exact⟨u,h10,h11.DW hp⟩
   ·have:=h9 k hk
    cases z with
    | true=>exact hn _ _ this
    | false=>exact hr _ _ this
theorem I9.carry {c i:Nat} {v:Value} {l:Mp} (h:I9 Oc w c v l) (hp:Gu Oc w O' w) (hr: ∀ b k,Oc b k=some c->O' b k=some i):I9 O' w i v l:=by
  obtain⟨r,es,ck,h1,h2,h3,h4,h5⟩:=h
  refine⟨r,es,ck,h1,h2,hr _ _ h3,h4,fun j p hj=> ?_⟩
  obtain⟨e,k1,k2,k3⟩:=h5 j p hj
  exact⟨e,k1,k2.DW hp,k3.DW hp⟩
theorem jX {kt vt:Ty} {a:A} (h:a.jW kt vt=true): ∃ l,a= .ump l/\l.kt=kt/\l.vt=vt:=by
  cases a with
  | ump l =>
    have h':(decide (l.kt=kt)&&decide (l.vt=vt))=true:=h
    simp only[Bool.and_eq_true,decide_eq_true_eq]at h'
    exact⟨l,rfl,h'.1,h'.2⟩
  | _=>cases h
theorem Dt.toC {v:Value} {a:A} (h:Dt O' w v a):D5 O' objs' m' w v a:=by cases a<;>first | exact h | (cases h;done)
theorem Aj0 {id:Nat} {k:CK} {v:Value} {c:A} (h:IC Oc w id v c) (hp:Gu Oc w O' w) (hok:Du (force k c).1):D5 O' objs' m' w v (force k c).2:=by
  cases c with
  | box cs =>
    cases k with
    | oth=>obtain⟨b,base,h1,_⟩:=h;rw[h1];rfl
    | mp _ _=>have:=hok.cons.1;cases this
    | bx _=>have:=hok.cons.1;cases this
    | _=>have:=hok.cons.1;simp [A.isB,A.isI,A.isS,A.Aeu,A.xK,A.fE,A.isFn]at this
  | usl z e l =>
    cases k with
    | oth =>
      rcases h.2 with ⟨_,_,h3⟩ | ⟨_,g,cap,cur,h2,_⟩
      ·show v.oneCell'=true
       have h3:v=_:=h3
       rw[h3];rfl
      ·show v.oneCell'=true
       have h2:v=_:=h2
       rw[h2];rfl
    | mp _ _=>have:=hok.cons.1;cases this
    | bx _=>have:=hok.cons.1;cases this
    | _=>have:=hok.cons.1;simp [A.isB,A.isI,A.isS,A.Aeu,A.xK,A.fE,A.isFn]at this
  | _=>exact rV (Dt.DW hp h) hok
theorem LQ {cid id:Nat} {f:Nat->Value} (hp:Gu Oc w O' w) (hn: ∀ b k,Oc b k=none->O' b k=none): ∀(ks:List (Bool×CK)) (cs:List A) (j0:Nat),(∀ j,j<ks.length->IC Oc w (cid+(j0+j)) (f (j0+j)) (cs.getD (j0+j) .undef)) ->
    (∀ b k x,x<j0+ks.length->Oc b k=some (cid+x)->O' b k=some (id+x))->Du (DJ id ks cs j0).1->(∀ p∈(DJ id ks cs j0).2.2,Dp objs' p.1=some p.2)->(∀ p∈(DJ id ks cs j0).2.2,∀ x,p.1=id+x->m' p.1=f x) ->
    (DJ id ks cs j0).2.1.length=ks.length/\(∀ j,j<ks.length->D5 O' objs' m' w (f (j0+j)) ((DJ id ks cs j0).2.1.getD j .undef))/\ ∀ p∈(DJ id ks cs j0).2.2,EL O' objs' m' w p.1 p.2/\ ∃ x,p.1=id+x/\j0<=x/\x<j0+ks.length:=by
  intro ks
  induction ks with
  | nil=>intro cs j0 _ _ _ _ _;exact⟨rfl,fun j hj=>by simp at hj,fun p hp=>by simp [DJ]at hp⟩
  | cons k ks ih =>
    intro cs j0 h hr hok hO hm
    obtain⟨u,k⟩:=k
    have h0:=h 0 (by simp)
    rw[Nat.add_zero]at h0
    have hrest:=fun hok2 hO2 hm2=>ih cs (j0+1) (fun j hj=>by have:=h (j+1) (by simpa using hj);rwa [show j0+(j+1)=j0+1+j from by omega]at this) (fun b k x hx=>hr b k x (by simp only[List.length_cons];omega)) hok2 hO2 hm2
    cases u with
    | false =>
      simp only[DJ]at hok hO hm ⊢
      obtain⟨hok1,hok2⟩:=hok.append
      obtain⟨g1,g2,g3⟩:=hrest hok2 hO hm
      refine⟨by simp [g1],fun j hj=> ?_,fun p hp=> ?_⟩
      ·cases j with
       | zero=>exact Aj0 h0 hp hok1
       | succ j =>
         have:=g2 j (by simpa using hj)
         rw[show j0+(j+1)=j0+1+j from by omega];simpa using this
      ·obtain⟨a1,x,a2,a3,a4⟩:=g3 p hp
       exact⟨a1,x,a2,by omega,by simp only[List.length_cons];omega⟩
    | true =>
      cases k with
      | sl e sz =>
        simp only[DJ]at hok hO hm ⊢
        obtain⟨hok1,hok2⟩:=hok.cons
        obtain⟨g1,g2,g3⟩:=hrest hok2 (fun p hp=>hO p (List.mem_cons_of_mem _ hp)) (fun p hp=>hm p (List.mem_cons_of_mem _ hp))
        have hO0:=hO _ List.mem_cons_self
        have hm0:=hm _ List.mem_cons_self j0 rfl
        dsimp only at hO0 hm0
        have hc:cs.getD j0 .undef= .usl true e (cs.getD j0 .undef).toL:=by
          generalize cs.getD j0 .undef=c at *
          cases c<;>simp only[A.AcH]at hok1<;>first | (cases hok1;done) | skip
          simp only[Bool.and_eq_true,beq_iff_eq]at hok1
          rw[Nat.eq_of_beq_eq_true hok1.2.1,<- hok1.1];rfl
        rw[hc]at h0
        have hor:EL O' objs' m' w (id+j0) (.arr e true (cs.getD j0 .undef).toL):=EL.carry (show EL Oc [] (fun _=>f j0) w (cid+j0) _ from h0) hp (fun b k hbk=>hr b k j0 (by simp) hbk) hn hm0
        refine⟨by simp [g1],fun j hj=> ?_,fun p hp=> ?_⟩
        ·cases j with
         | zero =>
           have hone:(f j0).oneCell'=true:=by
             rcases h0.2 with ⟨_,_,h3⟩ | ⟨_,g,cap,cur,h2,_⟩
             ·have h3:f j0=_:=h3
              rw[h3];rfl
             ·have h2:f j0=_:=h2
              rw[h2];rfl
           refine⟨hone,?_⟩
           show match (Dp objs' (id+j0)).map Obj.shp with | some (.arr _ _)=>_ | some .mp=>_ | _=>True
           rw[hO0]
           exact hm0.symm
         | succ j =>
           have:=g2 j (by simpa using hj)
           rw[show j0+(j+1)=j0+1+j from by omega];simpa using this
        ·rcases List.mem_cons.1 hp with rfl | hp
         ·exact⟨hor,j0,rfl,Nat.le_refl _,by simp⟩
         ·obtain⟨a1,x,a2,a3,a4⟩:=g3 p hp
          exact⟨a1,x,a2,by omega,by simp only[List.length_cons];omega⟩
      | sln e sz =>
        simp only[DJ]at hok hO hm ⊢
        obtain⟨hok1,hok2⟩:=hok.cons
        obtain⟨g1,g2,g3⟩:=hrest hok2 (fun p hp=>hO p (List.mem_cons_of_mem _ hp)) (fun p hp=>hm p (List.mem_cons_of_mem _ hp))
        have hO0:=hO _ List.mem_cons_self
        have hm0:=hm _ List.mem_cons_self j0 rfl
        dsimp only at hO0 hm0
        have hc:cs.getD j0 .undef= .usl false e (cs.getD j0 .undef).toL:=by
          generalize cs.getD j0 .undef=c at *
          cases c<;>simp only[A.AcH]at hok1<;>first | (cases hok1;done) | skip
          simp only[Bool.and_eq_true,beq_iff_eq]at hok1
          rw[Nat.eq_of_beq_eq_true hok1.2.1,<- hok1.1];rfl
        rw[hc]at h0
        have hor:EL O' objs' m' w (id+j0) (.arr e false (cs.getD j0 .undef).toL):=EL.carry (show EL Oc [] (fun _=>f j0) w (cid+j0) _ from h0) hp (fun b k hbk=>hr b k j0 (by simp) hbk) hn hm0
        refine⟨by simp [g1],fun j hj=> ?_,fun p hp=> ?_⟩
        ·cases j with
         | zero =>
           have hone:(f j0).oneCell'=true:=by
             rcases h0.2 with ⟨_,_,h3⟩ | ⟨_,g,cap,cur,h2,_⟩
             ·have h3:f j0=_:=h3
              rw[h3];rfl
             ·have h2:f j0=_:=h2
              rw[h2];rfl
           refine⟨hone,?_⟩
           show match (Dp objs' (id+j0)).map Obj.shp with | some (.arr _ _)=>_ | some .mp=>_ | _=>True
           rw[hO0]
           exact hm0.symm
         | succ j =>
           have:=g2 j (by simpa using hj)
           rw[show j0+(j+1)=j0+1+j from by omega];simpa using this
        ·rcases List.mem_cons.1 hp with rfl | hp
         ·exact⟨hor,j0,rfl,Nat.le_refl _,by simp⟩
         ·obtain⟨a1,x,a2,a3,a4⟩:=g3 p hp
          exact⟨a1,x,a2,by omega,by simp only[List.length_cons];omega⟩
      | bx t =>
        simp only[DJ]at hok hO hm ⊢
        obtain⟨hok1,hok2⟩:=hok.cons
        obtain⟨g1,g2,g3⟩:=hrest hok2 (fun p hp=>hO p (List.mem_cons_of_mem _ hp)) (fun p hp=>hm p (List.mem_cons_of_mem _ hp))
        have hO0:=hO _ List.mem_cons_self
        have hm0:=hm _ List.mem_cons_self j0 rfl
        dsimp only at hO0 hm0
        generalize cs.getD j0 .undef=c at *
        cases c with
        | box ds =>
          obtain⟨b,base,e1,e2⟩:=h0
          refine⟨by simp [g1],fun j hj=> ?_,fun p hp=> ?_⟩
          ·cases j with
           | zero =>
             refine⟨by rw[Nat.add_zero,e1];rfl,?_⟩
             show match (Dp objs' (id+j0)).map Obj.shp with | some .box=>_ | _=>True
             rw[hO0]
             exact⟨b,base,by rw[hm0];exact e1,e1⟩
           | succ j =>
             have:=g2 j (by simpa using hj)
             rw[show j0+(j+1)=j0+1+j from by omega];simpa using this
          ·rcases List.mem_cons.1 hp with rfl | hp
           ·refine⟨⟨b,base,by rw[hm0];exact e1,fun j hj=> ?_⟩,j0,rfl,Nat.le_refl _,by simp⟩
            obtain⟨a1,a2,u,a3,a4⟩:=e2 j hj
            exact⟨hr _ _ _ (by simp) a1,a2,u,a3,(Dt.DW ‹_› a4).toC⟩
           ·obtain⟨a1,x,a2,a3,a4⟩:=g3 p hp
            exact⟨a1,x,a2,by omega,by simp only[List.length_cons];omega⟩
        | _=>cases hok1
      | _=>have:=hok false (by simp [DJ]);cases this
theorem AmD {cid id:Nat} {s:Sh} {x:A} {v:Value} (hp:Gu Oc w O' w) (hn: ∀ b k,Oc b k=none->O' b k=none) (h:IR Oc w cid v x) (hr: ∀ b k i,i<255->Oc b k=some (cid+i)->O' b k=some (id+i))
    (hok:Du (back id s x).1) (hO: ∀ p∈(back id s x).2.2,Dp objs' p.1=some p.2) (hm: ∀ p∈(back id s x).2.2,∀ i,p.1=id+i->m' p.1=Hl w (innerS w s v) i) :
    Dz O' objs' m' w v (back id s x).2.1/\ ∀ p∈(back id s x).2.2,EL O' objs' m' w p.1 p.2:=by
  cases s with
  | cell u k =>
    simp only[back]at hok hO hm ⊢
    obtain⟨hok1,hok2⟩:=hok.append
    have hpl:=hok2.cons.1
    have hic:IC Oc w cid v x:=by
      have bad: ∀ cs l,x= .agg cs\/x= .box cs\/x= .ump l\/(∃ f,x= .cbx f cs)->False:=by
        rintro cs l (rfl | rfl | rfl | ⟨f,rfl⟩)<;>(cases u<;>cases k<;>first | (cases hpl;done) | (have:=hok1 false (by simp [DJ,force,A.isB,A.isI,A.isS,A.Aeu,A.xK,A.fE,A.AcH,A.isFn]);cases this))
      cases x with
      | agg cs=>exact(bad cs default (.inl rfl)).elim
      | box cs=>exact(bad cs default (.inr (.inl rfl))).elim
      | ump l=>exact(bad [] l (.inr (.inr (.inl rfl)))).elim
      | cbx f cs=>exact(bad cs default (.inr (.inr (.inr ⟨f,rfl⟩)))).elim
      | _=>exact h
    obtain⟨g1,g2,g3⟩:=LQ (cid:=cid) (id:=id) (f:=Hl w v) hp hn [(u,k)] [x] 0 (fun j hj=>by
      have:j=0:=by simpa using hj
      subst this
      exact hic) (fun b k i hi hb=>hr b k i (by simp at hi;omega) hb) hok1 hO hm
    have:=g2 0 (by simp)
    exact⟨this.toT,fun p hp=>(g3 p hp).1⟩
  | agg ks =>
    simp only[back]at hok hO hm ⊢
    obtain⟨hf,hok⟩:=hok.cons
    have hf:=Nat.le_of_ble_eq_true hf
    obtain⟨hok1,hok2⟩:=hok.cons
    cases x with
    | agg cs =>
      obtain⟨vs,h1,h2,h3⟩:=h
      have hl:cs.length=ks.length:=by simpa [A.isAgg,Qj]using hok1
      obtain⟨g1,g2,g3⟩:=LQ (objs':=objs') (m':=m') (cid:=cid+1) (id:=id+1) (f:=fun j=>vs.getD j undef) hp hn ks cs 0 (fun j hj=>by
        have:=h3 j (by omega)
        rw[Nat.zero_add];exact this) (fun b k i hi hb=>by
        have:=hr b k (1+i) (by omega) (by rw[<- Nat.add_assoc];exact hb)
        rw[<- Nat.add_assoc]at this;exact this) hok2 hO (fun p hp i hi=>by
        have:=hm p hp (i+1) (by omega)
        rw[this,h1];rfl)
      refine⟨⟨vs,h1,?_,fun j hj=> ?_⟩,fun p hp=>(g3 p hp).1⟩
      ·show vs.size=(DJ (id+1) ks cs 0).2.1.length
       rw[h2,g1,hl]
      ·have hj:j<(DJ (id+1) ks cs 0).2.1.length:=hj
       rw[g1]at hj
       have:=g2 j hj
       rwa [Nat.zero_add]at this
    | _=>simp [A.isAgg]at hok1
  | box ks =>
    simp only[back]at hok hO hm ⊢
    obtain⟨hf,hok⟩:=hok.cons
    have hf:=Nat.le_of_ble_eq_true hf
    obtain⟨hok1,hok2⟩:=hok.cons
    cases x with
    | box cs =>
      obtain⟨b,base,h1,h2⟩:=h
      have h1':Hl w v 0= .pointer (some (at' b base)):=by rw[h1];rfl
      have hl:cs.length=ks.length:=by simpa [A.AgV,Qj]using hok1
      have hcell: ∀ j,Hl w v (j+1)=(w.cell? (at' b (base+j))).getD undef:=by intro j;rw[h1];rfl
      obtain⟨g1,g2,g3⟩:=LQ (objs':=objs') (m':=m') (cid:=cid+1) (id:=id+1) (f:=fun j=>(w.cell? (at' b (base+j))).getD undef) hp hn ks cs 0 (fun j hj=>by
        obtain⟨_,_,u,h5,h6⟩:=h2 j (by omega)
        rw[Nat.zero_add,h5];exact h6) (fun b k i hi hb=>by
        have:=hr b k (1+i) (by omega) (by rw[<- Nat.add_assoc];exact hb)
        rw[<- Nat.add_assoc]at this;exact this) hok2 (fun p hp=>hO p (List.mem_cons_of_mem _ hp)) (fun p hp i hi=>by
        have:=hm p (List.mem_cons_of_mem _ hp) (i+1) (by omega)
        rw[this];exact hcell _)
      have hO0:=hO _ List.mem_cons_self
      have hm0:=hm _ List.mem_cons_self 0 rfl
      dsimp only at hO0 hm0
      refine⟨?_,fun p hp=> ?_⟩
      ·show D5 O' objs' m' w v (.ptr id 0)
       refine⟨by rw[h1];rfl,?_⟩
       show match (Dp objs' id).map Obj.shp with | some .box=>_ | _=>True
       rw[hO0]
       exact⟨b,base,by rw[hm0];exact h1',h1⟩
      ·rcases List.mem_cons.1 hp with rfl | hp
       ·refine⟨b,base,by rw[hm0];exact h1',fun j hj=> ?_⟩
        have hj:j<(DJ (id+1) ks cs 0).2.1.length:=hj
        rw[g1]at hj
        obtain⟨a1,a2,u,a3,_⟩:=h2 j (by omega)
        have:=g2 j hj
        rw[Nat.zero_add,a3]at this
        exact⟨by have:=hr b (base+j) 0 (by omega) a1;exact this,a2,u,a3,this⟩
       ·exact(g3 p hp).1
    | _=>simp [A.AgV]at hok1
  | clo f' ks =>
    simp only[back]at hok hO hm ⊢
    obtain⟨hf,hok⟩:=hok.cons
    have hf:=Nat.le_of_ble_eq_true hf
    obtain⟨hok1,hok2⟩:=hok.cons
    cases x with
    | cbx g cs =>
      have hg:f'=g:=by
        have h':=hok1
        simp only[A.AgW,Bool.and_eq_true]at h'
        exact Nat.eq_of_beq_eq_true h'.1
      subst hg
      obtain⟨b,base,h1,h2⟩:=h
      have h1':Hl w (innerS w (.clo f' ks) v) 0= .pointer (some (at' b base)):=h1.inner (ks:=ks)
      have hl:cs.length=ks.length:=by
        have h':=hok1
        simp only[A.AgW,Bool.and_eq_true]at h'
        exact Nat.eq_of_beq_eq_true h'.2
      have hcell: ∀ j,Hl w (innerS w (.clo f' ks) v) (j+1)=(w.cell? (at' b (base+j))).getD undef:=by intro j;rw[h1.inner (ks:=ks)];rfl
      obtain⟨g1,g2,g3⟩:=LQ (objs':=objs') (m':=m') (cid:=cid+1) (id:=id+1) (f:=fun j=>(w.cell? (at' b (base+j))).getD undef) hp hn ks cs 0 (fun j hj=>by
        obtain⟨_,_,u,h5,h6⟩:=h2 j (by omega)
        rw[Nat.zero_add,h5];exact h6) (fun b k i hi hb=>by
        have:=hr b k (1+i) (by omega) (by rw[<- Nat.add_assoc];exact hb)
        rw[<- Nat.add_assoc]at this;exact this) hok2 (fun p hp=>hO p (List.mem_cons_of_mem _ hp)) (fun p hp i hi=>by
        have:=hm p (List.mem_cons_of_mem _ hp) (i+1) (by omega)
        rw[this];exact hcell _)
      have hO0:=hO _ List.mem_cons_self
      have hm0:=hm _ List.mem_cons_self 0 rfl
      dsimp only at hO0 hm0
      refine⟨?_,fun p hp=> ?_⟩
      ·show D5 O' objs' m' w v (.clo f' id)
       refine⟨by obtain⟨_,_,e,_⟩:=h1;rw[e];cases f'<;>rfl,_,rfl,h1.DW hp,?_⟩
       show match (Dp objs' id).map Obj.shp with | some .box=>_ | _=>True
       rw[hO0]
       exact⟨b,base,hm0.trans h1',rfl⟩
      ·rcases List.mem_cons.1 hp with rfl | hp
       ·refine⟨b,base,by rw[hm0];exact h1',fun j hj=> ?_⟩
        have hj:j<(DJ (id+1) ks cs 0).2.1.length:=hj
        rw[g1]at hj
        obtain⟨a1,a2,u,a3,_⟩:=h2 j (by omega)
        have:=g2 j hj
        rw[Nat.zero_add,a3]at this
        exact⟨by have:=hr b (base+j) 0 (by omega) a1;exact this,a2,u,a3,this⟩
       ·exact(g3 p hp).1
    | _=>simp [A.AgW]at hok1
  | map kt vt =>
    simp only[back]at hok hO hm ⊢
    obtain⟨l,rfl,_,_⟩:=jX hok.cons.1
    have hO0:=hO _ List.mem_cons_self
    have hm0:=hm _ List.mem_cons_self 0 rfl
    dsimp only at hO0 hm0
    have h:I9 Oc w cid v l:=h
    have hm0:m' id=v:=hm0
    have h2:I9 O' w id v l:=h.carry hp (fun b k hb=>hr b k 0 (by omega) hb)
    refine⟨?_,fun p hp=> ?_⟩
    ·show D5 O' objs' m' w v (.own id)
     refine⟨by obtain⟨r,_,_,h1,_⟩:=h;rw[h1];rfl,?_⟩
     rw[hO0]
     exact hm0.symm
    ·obtain rfl:p=(id,.mp l):=List.mem_singleton.1 hp
     show I9 O' w id (m' id) l
     rw[hm0];exact h2
end
