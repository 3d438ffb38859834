import Derived.Test.YtbaomhegdndpnaaGreatDoorA8
import Derived.Carry
set_option linter.all false
namespace Go.Proofs.YtbaomhegdndpnaaGreatDoor.Vm
open Classical MapKept
def AcM:A->Bool
  | .bool _ | .int _ _ | .str _ | .sl _ | .BN | .fn _ | .ump _=>true
  | _=>false
theorem Ty.Fj: ∀(t:Ty) (v:t.Val),∀ c∈t.cells v,AcM c=true
  | .nil,_,c,h=>by cases h
  | .bool r,v,c,h=>by
    rcases List.mem_cons.1 h with rfl | h
    ·rfl
    ·exact Ty.Fj r _ c h
  | .int _ r,v,c,h=>by
    rcases List.mem_cons.1 h with rfl | h
    ·rfl
    ·exact Ty.Fj r _ c h
  | .str r,v,c,h=>by
    rcases List.mem_cons.1 h with rfl | h
    ·rfl
    ·exact Ty.Fj r _ c h
  | .sl _ _ r,v,c,h=>by
    rcases List.mem_cons.1 h with rfl | h
    ·rfl
    ·exact Ty.Fj r _ c h
  | .ptr r,v,c,h=>by
    rcases List.mem_cons.1 h with rfl | h
    ·rfl
    ·exact Ty.Fj r v c h
  | .fn r,v,c,h=>by
    rcases List.mem_cons.1 h with rfl | h
    ·rfl
    ·exact Ty.Fj r _ c h
  | .mp _ _ r,v,c,h=>by
    rcases List.mem_cons.1 h with rfl | h
    ·rfl
    ·exact Ty.Fj r _ c h
section
variable {P:Program} {C:Ctx} {V0:Nat->Value} {O0 O:Own} {w0 w:World} {m:Nat->Value} {st:St} {a:Act} {o:Oper}
theorem Aw.data {Aa:List (Nat×Obj)} {v:Value} {c:A} (h:Aw O Aa m w v c) (hd:AcM c=true):Ak O w v c:=by
  cases c<;>first | exact h | exact h.elim | cases hd
theorem Di.toT {Aa:List (Nat×Obj)} {v:Value} {x:A} (h:Di O w v x):Au O Aa m w v x/\T1 O Aa m w v x:=by
  have cell: ∀ {v:Value} {x:A},Ak O w v x->Aw O Aa m w v x:=fun h=>by cases h<;>first | exact .bool _ | exact .int _ _ | exact .str _ | exact .nil _ | exact .BN | exact .fn _ | exact .Rx | exact Ak.sl0 _ _ | (rename_i vs a1 a2 a3;exact Ak.sl vs a1 a2 a3) | (rename_i h hn;exact Ak.sln h hn)
  cases x with
  | agg cs =>
    obtain⟨vs,h1,h2,h3⟩:=h
    exact⟨⟨vs,h1,h2,fun j hj=>cell (h3 j hj)⟩,⟨vs,h1,h2,fun j hj=>cell (h3 j hj)⟩⟩
  | undef=>cases h
  | BB=>cases h
  | usl _ _ _=>cases h
  | ump _=>cases h
  | ptr _ _=>cases h
  | own _=>cases h
  | elt _=>cases h
  | AV _ _ _=>cases h
  | tup _=>cases h
  | box _=>cases h
  | cbx _ _=>cases h
  | clo _ _=>cases h
  | bsl _ _=>cases h
  | osl _ _=>cases h
  | cnd _ _=>cases h
  | bool _=>exact⟨cell h,cell h⟩
  | int _ _=>exact⟨cell h,cell h⟩
  | str _=>exact⟨cell h,cell h⟩
  | sl _=>exact⟨cell h,cell h⟩
  | sln _=>exact⟨cell h,cell h⟩
  | BN=>exact⟨cell h,cell h⟩
  | fn _=>exact⟨cell h,cell h⟩
theorem AdY {xs:List A} (h:Abt (.agg xs)=true):xs.length≠1:=by
  intro h1
  obtain⟨c,rfl⟩:=List.length_eq_one_iff.1 h1
  cases h
theorem Aay {O':Own} {Aa:List (Nat×Obj)} {v:Value} {x:A} {cs:List A} (ho:Abt x=true) (hv:x.isVal=true) (hx:Au O Aa m w v x) (hl:cs.length=x.cells.length)
    (hrel: ∀ j,j<cs.length->Ak O' w (v.cells.getD j undef) (cs.getD j .undef)):Di O' w v (DN cs):=by
  have one:Aw O Aa m w v x->x.cells=[x]->Di O' w v (DN cs):=by
    intro hc he
    rw[he]at hl
    obtain⟨c,rfl⟩:=List.length_eq_one_iff.1 hl
    have h0:=hrel 0 (by simp)
    rw[oneCell_cells hc.one]at h0
    have h0:Ak O' w v c:=h0
    show Di O' w v c
    cases c<;>first | exact h0 | cases h0
  cases x with
  | agg xs =>
    obtain⟨vs,rfl,h2,h3⟩:=hx
    have hl:cs.length=xs.length:=hl
    rw[bY (by rw[hl];exact AdY ho)]
    exact⟨vs,rfl,by rw[h2,hl],hrel⟩
  | undef=>cases hv
  | tup _=>cases hv
  | usl _ _ _=>cases hv
  | ump _=>cases hv
  | box _=>cases hv
  | cbx _ _=>cases hv
  | cnd _ _=>cases hv
  | _=>exact one hx rfl
theorem Ia {r:Nat} {es:Array MapEntry} {ck:Nat} (hb:w.heap[r]? =some (.map es ck)):(getObj r).run P w= .ok (.map es ck) w:=by simp [getObj,Sem.run,hb]
theorem Ph {r:Nat} {es:Array MapEntry} {ck:Nat} (x:Go.Obj) (hb:w.heap[r]? =some (.map es ck)):(setObj r x).run P w= .ok () {w with heap:=w.heap.setIfInBounds r x}:=by simp [setObj,Sem.run,hb]
theorem Vs {t:Nat} {k:TI->TI->Dl} (hok:Am (mapOf C t k).ok): ∃ ti kt et ta tb,C.T t=some ti/\ti.d= .map kt et/\C.T kt=some ta/\C.T et=some tb/\mapOf C t k=k ta tb:=by
  unfold mapOf at hok ⊢
  obtain⟨ti,ht,he⟩:=Ba hok
  rw[he]at hok ⊢
  split at hok
  ·rename_i kt et hd
   obtain⟨ta,hta,he⟩:=Ba hok
   rw[he]at hok
   obtain⟨tb,htb,he'⟩:=Ba hok
   exact⟨ti,kt,et,ta,tb,ht,hd,hta,htb,he.trans he'⟩
  ·exact(Az hok).elim
theorem wU {Aa:List (Nat×Obj)} (hC:TOk P C) {kt:Nat} {ta tb:TI} (hta:C.T kt=some ta) {l:Mp} {i:A} {v:Value} (hi:Au O Aa m w v i) (hok:Am (uB C ta tb l i)) :
    dQ P O w kt l.kt/\Di O w v (DN (l.kt.cells (l.kt.mk i.cells).2))/\uJ tb=true/\l.vt=tyl tb.cs:=by
  obtain⟨h1,hok⟩:=hok.cons
  obtain⟨h2,hok⟩:=hok.cons
  obtain⟨h3,hok⟩:=hok.cons
  obtain⟨h4,hok⟩:=hok.cons
  obtain⟨h5,hok⟩:=hok.cons
  obtain⟨h6,hok⟩:=hok.cons
  have h7:=hok.cons.1
  have h3:=of_decide_eq_true h3
  have hc:=Ty.Gi _ _ h7
  refine⟨by rw[h3];exact AdZ hC hta h1,?_,h2,of_decide_eq_true h4⟩
  obtain⟨g1,g2⟩:=hi.cells h5
  refine Aay (Aa:=Aa) h6 h5 hi (by rw[hc]) (fun j hj=> ?_)
  have hd:=Ty.Fj _ _ _ (List.getElem_mem hj)
  have e:(l.kt.cells (l.kt.mk i.cells).2).getD j .undef=(l.kt.cells (l.kt.mk i.cells).2)[j]:=by
    rw[List.getD_eq_getElem?_getD,List.getElem?_eq_getElem hj];rfl
  rw[<- e]at hd
  rw[hc]at hd hj ⊢
  exact(g2 j hj).data hd
theorem Adw {t:Nat} {tb:TI} (hT:Iq P t tb) (hone:uJ tb=true) (hp:tb.cs.all CK.plain=true): ∃ z,(zeroValue t).run P w= .ok z w/\Di O w z (DN ((tyl tb.cs).cells (tyl tb.cs).zero)):=by
  obtain⟨i,z,h1,h2,h3,h4,h5,h6⟩:=hT.i
  refine⟨z,by simp [zeroValue,typeInfo,h1,h4],?_⟩
  rw[Ty.kR _ hp]
  have hv:=Og (O:=O) (w:=w) _ _ h5 hp
  have hl:=(FU (O:=O) (Aa:=[]) (m:=fun _=>undef) (w:=w) _ _ h5).1
  have hone:tb.agg= !(Nat.beq tb.cs.length 1):=by simpa [uJ]using hone
  rw[dU,h6,I4]at hone
  cases z with
  | agg vs =>
    have hne:tb.cs.length≠1:=by simpa [Qj]using hone
    rw[bY (by simpa using hne)]
    refine⟨vs,rfl,?_,fun j hj=> ?_⟩
    ·have:vs.toList.length=tb.cs.length:=hl
     rw[Array.length_toList]at this;simpa using this
    ·have:=hv j (by simpa using hj)
     have e:(Value.agg vs).cells.toList.getD j undef=vs.getD j undef:=by
       show vs.toList.getD j undef=_
       rw[Array.getD_eq_getD_getElem?,List.getD_eq_getElem?_getD,Array.getElem?_toList]
     rw[e]at this;exact this
  | _ =>
    have he:tb.cs.length=1:=by simpa [Qj]using hone
    obtain⟨c,hc⟩:=List.length_eq_one_iff.1 he
    rw[hc]at hv ⊢
    have:=hv 0 (by simp)
    have this:Ak O w _ c.D8:=this
    show Di O w _ c.D8
    cases hcz:c.D8<;>rw[hcz]at this<;>first | exact this | cases this
theorem zV {t:Nat} {x i:Operand} {c:Bool} {Aa:List (Nat×Obj)} {fet:Fet} (hC:TOk P C) (hF:FOk O Aa m w fet) (ho:o.op= .lookup t x i c) {x' i':A} (hx:Au O Aa m w (a.eval x) x') (hi:Au O Aa m w (a.eval i) i')
    (hok:Am (YX C fet t c x' i').ok):Pure P O Aa m a w o (YX C fet t c x' i'):=by
  unfold YX at hok ⊢
  obtain⟨ti,kt,et,ta,tb,ht,hd,hta,htb,he⟩:=Vs hok
  rw[he]at hok ⊢;clear he
  obtain⟨p,hp,he⟩:=AA hok
  rw[he]at hok ⊢;clear he
  obtain⟨hok1,hok2⟩:=hok.append
  have hpl:=hok2.cons.1
  obtain⟨_,hv,hM⟩:=uH hF hx hp
  obtain⟨hK,hk,hone,hvt⟩:=wU hC hta hi hok1
  obtain⟨r,es,ck,h1,h2,h3,h4,h5⟩:=hM.lists
  have hu:=(hC.is ht).d
  rw[hd]at hu
  have hfind:=hK.find (a.eval i) _ es.toList p.2.l hk h4 (fun i e p he hp=>(h5 i e p he hp).1)
  have hchk:=hK.check es.isEmpty (a.eval i) _ hk
  obtain⟨z,hz1,hz2⟩:=Adw (O:=O) (w:=w) (hC.is htb) hone hpl
  rw[<- hvt]at hz2
  have key: ∃ u,(Instr.lookup t (a.eval x) (a.eval i) c).run P w= .ok (if c then .tuple #[u,.bool (Kq p.2.kt (p.2.kt.mk i'.cells).2 p.2.l).isSome]else u) w /\
      Di O w u (DN (p.2.vt.cells ((Kq p.2.kt (p.2.kt.mk i'.cells).2 p.2.l).getD p.2.vt.zero))):=by
    rw[hv,h1]
    rcases bH (k:=(p.2.kt.mk i'.cells).2) es.toList p.2.l 0 h4 with ⟨f1,f2,_,_⟩ | ⟨j,e,q,f1,f2,f3,f4,f5,_,_⟩
    ·refine⟨z,?_,by rw[f2];exact hz2⟩
     simp [Instr.lookup,run_underlying hu,Ia h2,hchk,hfind,f1,hz1,f2,Result.andThen]
    ·refine⟨e.val,?_,by rw[f5];exact(h5 j e q f2 f3).2⟩
     simp [Instr.lookup,run_underlying hu,Ia h2,hchk,hfind,f1,f5,Result.andThen]
  obtain⟨u,hrun,hu2⟩:=key
  refine⟨⟨if c then .tuple #[u,.bool (Kq p.2.kt (p.2.kt.mk i'.cells).2 p.2.l).isSome]else u,?_,?_⟩,rfl,rfl,rfl⟩
  ·simp only[execOp,ho,Sem.run_bind,hrun,Result.andThen_ok,Sem.run_pure]
  ·show Au O Aa m w _ (mY _ _ _)
   unfold mY
   cases c with
   | false=>exact hu2.toT.1
   | true =>
     refine⟨#[u,.bool (Kq p.2.kt (p.2.kt.mk i'.cells).2 p.2.l).isSome],rfl,rfl,fun j hj=> ?_⟩
     have hj:j<2:=hj
     rcases(show j=0\/j=1 by omega)with rfl | rfl
     ·exact hu2.toT.2
     ·exact Ak.bool _
theorem AcI {r:Nat} {x y:Go.Obj} (hb:w.heap[r]? =some x):(w.heap.setIfInBounds r y)[r]? =some y/\ ∀ b,b≠r->(w.heap.setIfInBounds r y)[b]? =w.heap[b]? :=by
  have hlt:=(Array.getElem?_eq_some_iff.1 hb).1
  refine⟨by rw[Array.getElem?_setIfInBounds,if_pos rfl,if_pos hlt],fun b hne=>by rw[Array.getElem?_setIfInBounds,if_neg (fun h=>hne h.symm)]⟩
theorem VI (hS:Sim V0 O0 w0 O m st a w) {q r ck ck':Nat} {es es':Array MapEntry} {l l':Mp} (hq:Ai st.Aa q=some (.mp l)) (hm:m q= .map (some r)) (hb:w.heap[r]? =some (.map es ck)) (hO:O r 0=some q) (hs:es'.size=l'.l.length)
    (hes: ∀(i:Nat) (p:l'.kt.Val×l'.vt.Val),l'.l[i]? =some p-> ∃ e,es'[i]? =some e/\Di O w e.key (DN (l'.kt.cells p.1))/\Di O w e.val (DN (l'.vt.cells p.2))) {d:Option Tmp} {v:Value} {x:A} (hx:d≠none-> ∀ O' objs' m' w',Au O' objs' m' w' v x) :
    Sim V0 O0 w0 O m {tmps:=put st.tmps d x,Aa:=BG st.Aa q (.mp l')} (a.put d v) {w with heap:=w.heap.setIfInBounds r (.map es' ck')}:=by
  obtain⟨hb1,hb2⟩:=AcI (y:=.map es' ck') hb
  have hM:Moves O (fun i=>i=q) w {w with heap:=w.heap.setIfInBounds r (.map es' ck')}:=Moves.map rfl rfl rfl (by simp) hb hb1 hb2 hO rfl
  have hP:Passes O O (fun i=>i=q) w.heap.size:=⟨fun _ _ _ h=>h,fun _ _ _ _ h _=>h⟩
  have hpr:=hM.AQ hP
  have hE:EX st.Aa m (BG st.Aa q (.mp l')) m (fun _=>False):=by
    intro i y hy
    rw[Bc]at hy
    by_cases hi:i=q
    ·rw[if_pos hi]at hy;injection hy with hy;subst hy;subst hi
     exact .inr ⟨_,hq,rfl,rfl⟩
    ·rw[if_neg hi]at hy;exact .inr ⟨y,hy,rfl,rfl⟩
  refine hS.next (st':= {tmps:=put st.tmps d x,Aa:=BG st.Aa q (.mp l')}) (T:=fun i=>i=q) (Nw:=fun _=>False) hM hP (fun b k _ h=>h) hE (fun _ h=>h.elim) (fun r' hr=>by rw[hr,hq];rfl) (fun i y hy=> ?_) rfl (fun h=>hx h _ _ _ _)
  rw[Bc]at hy
  by_cases hi:i=q
  ·right
   rw[if_pos hi]at hy;injection hy with hy;subst hy;subst hi
   refine⟨(⟨r,es',ck',hm,hb1,hO,hs,fun j p hp=> ?_⟩:DV O _ i (m i) l'),hS.ids i _ hq⟩
   obtain⟨e,k1,k2,k3⟩:=hes j p hp
   exact⟨e,k1,k2.AQ hpr,k3.AQ hpr⟩
  ·left
   rw[if_neg hi]at hy
   exact⟨hi,hy,rfl⟩
theorem wW {t:Nat} {r:Option Operand} {xs:List A} (hC:TOk P C) (hS:Sim V0 O0 w0 O m st a w) {d:Nat} (hd:o.dst=some d) (ho:o.op= .makeMap t r) (hr:xs.length=r.toArray.size) (hok:Am (Jj C d t xs).ok) (hfr: ∀ p∈(Jj C d t xs).new,st.fresh p.1=true) :
    Good P V0 O0 w0 (apply st o (Jj C d t xs)) o a w:=by
  intro next Q hn
  unfold Jj at *
  obtain⟨ti,kt,et,ta,tb,ht,hd',hta,htb,he⟩:=Vs hok
  rw[he]at hok hfr hn;clear he
  have hx:xs=[]:=by simpa using hok.cons.1
  subst hx
  have hr0:r=none:=by cases r with | none=>rfl | some _=>simp at hr
  subst hr0
  have hfresh:=CJ (hfr _ List.mem_cons_self)
  have hrun:(execOp a.eval o).run P w= .ok (.value (.map (some w.heap.size))) (w.alloc (.map #[] 0)):=by
    have:(Instr.makeMap t none).run P w= .ok (.map (some w.heap.size)) (w.alloc (.map #[] 0)):=rfl
    simp only[execOp,ho,Option.map_none,Sem.run_bind,this,Result.andThen_ok,Sem.run_pure]
  unfold Oper.wp
  rw[hrun,Oper.upon_value,hd]
  let id:=b2 d
  let O':Own:=fun b k=>if b=w.heap.size then some id else O b k
  let m':Nat->Value:=fun i=>if i=id then .map (some w.heap.size)else m i
  have hlt: ∀ {b k},b<w.heap.size->O' b k=O b k:=fun hb=>if_neg (Nat.ne_of_lt hb)
  have hM:Moves O (fun _=>False) w (w.alloc (.map #[] 0)):=Moves.push _
  have hP:Passes O O' (fun _=>False) w.heap.size:=⟨fun b k hb h=>by rw[hlt hb];exact h,fun b k q hb h _=>by rw[hlt hb];exact h⟩
  let ob:Vm.Obj:=.mp ⟨tyl ta.cs,tyl tb.cs,[]⟩
  have hget: ∀ i y,Ai (BG st.Aa id ob) i=some y->(i=id/\y=ob)\/(i≠id/\Ai st.Aa i=some y):=by
    intro i y hy
    rw[Bc]at hy
    by_cases hi:i=id
    ·rw[if_pos hi]at hy;injection hy with hy;exact .inl ⟨hi,hy.symm⟩
    ·rw[if_neg hi]at hy;exact .inr ⟨hi,hy⟩
  have hE:EX st.Aa m (BG st.Aa id ob) m' (fun i=>i=id):=by
    intro i y hy
    rcases hget i y hy with ⟨h1,_⟩ | ⟨h1,h2⟩
    ·exact .inl h1
    ·exact .inr ⟨y,h2,rfl,if_neg h1⟩
  refine hn O' m' _ _ ?_
  have happ: ∀ ok,apply st o {ok:=ok,val:=.own (b2 d),new:=[(b2 d,ob)]}= {tmps:=put st.tmps (some d) (.own id),Aa:=BG st.Aa id ob}:=by
    intro ok;unfold apply;rw[hd];rfl
  rw[happ]
  refine hS.next (st':= {tmps:=put st.tmps (some d) (.own id),Aa:=BG st.Aa id ob}) (x:=.own id) (T:=fun _=>False) (Nw:=fun i=>i=id) hM hP (fun b k hb h=>by rw[hlt hb]at h;exact h) hE (fun n hn=>by rw[hn];exact hfresh.both) (fun _ h=>h.elim) (fun i y hy=> ?_) rfl (fun _=> ?_)
  ·rcases hget i y hy with ⟨h1,h2⟩ | ⟨h1,h2⟩
   ·right
    subst h1;subst h2
    refine⟨(⟨w.heap.size,#[],0,if_pos rfl,Vg _ _,if_pos rfl,rfl,fun i p hp=>by cases hp⟩:DV O' _ id (m' id) _),hfresh.ne⟩
   ·exact .inl ⟨fun h=>h,h2,if_neg h1⟩
  ·refine⟨rfl,?_⟩
   show match (Ai (BG st.Aa id ob) id).map Obj.shp with | some (.arr _ _)=>_ | some .mp=>_ | _=>True
   rw[Bc,if_pos rfl]
   exact(if_pos rfl:m' id=_).symm
theorem Aeg {α :Type} {l:List α} {j:Nat} {x: α} {i:Nat} {p: α} (h:(l.set j x)[i]? =some p):(i=j/\p=x/\j<l.length)\/(i≠j/\l[i]? =some p):=by
  rw[List.getElem?_set]at h
  by_cases hi:j=i
  ·rw[if_pos hi]at h
   split at h
   ·injection h with h;exact .inl ⟨hi.symm,h.symm,by omega⟩
   ·cases h
  ·rw[if_neg hi]at h;exact .inr ⟨fun e=>hi e.symm,h⟩
theorem aO {t:Nat} {x i y:Operand} (hC:TOk P C) (hS:Sim V0 O0 w0 O m st a w) (hd:o.dst=none) (ho:o.op= .mapUpdate t x i y\/o.op= .insert t x i y) {fet:Fet} (hf:DL st.Aa fet) {x' i' y':A} (hx:Au O st.Aa m w (a.eval x) x') (hi:Au O st.Aa m w (a.eval i) i') (hy:Au O st.Aa m w (a.eval y) y')
    (hok:Am (U9 C fet t x' i' y').ok):Good P V0 O0 w0 (apply st o (U9 C fet t x' i' y')) o a w:=by
  intro next Q hn
  have hF:FOk O st.Aa m w fet:=fun q x h=>⟨hf q x h,hS.Aa q x (hf q x h)⟩
  unfold U9 at *
  obtain⟨ti,kt,et,ta,tb,ht,hd',hta,htb,he⟩:=Vs hok
  rw[he]at hok hn;clear he
  obtain⟨p,hp,he⟩:=AA hok
  rw[he]at hok hn;clear he
  obtain⟨hokA,hokB⟩:=hok.append
  have hmk:=hokB.cons.1
  obtain⟨hokA,hokP⟩:=hokA.append
  obtain⟨hok1,hokV⟩:=hokA.append
  obtain⟨hv1,hokV⟩:=hokV.cons
  have hv2:=hokV.cons.1
  obtain⟨hq,hv,hM⟩:=uH hF hx hp
  obtain⟨hK,hk,hone,hvt⟩:=wU hC hta hi hok1
  obtain⟨hyc1,hyc2⟩:=hy.cells hv1
  obtain⟨g1,g2,g3,g4⟩:=Ho (O:=O) (m:=m) (w:=w) hf tb.cs y'.cells (fun j=>(a.eval y).cells.getD j undef) hyc2 hokP
  generalize hpu:Bg fet tb.cs y'.cells=pu at *
  obtain⟨O1,hS1,hp1,hle1,hv1',hE1,hk1⟩:=hS.freezes _ g3
  have hNR:NR st.Aa p.1:=.of hq (fun _ _ _ h=>by cases h)
  have hq1:Ai (Ar st.Aa pu.2.2) p.1=some (.mp p.2):=by
    rw[BV _ _ _ (fun z hz e=> ?_)]
    ·exact hq
    ·obtain⟨e',f',l',h1,_⟩:=g3 z hz
     rw[e]at h1;exact hNR _ _ _ h1
  obtain⟨r,es,ck,h1,h2,h3,h4,h5⟩:=(show DV O1 w p.1 (m p.1) p.2 from hS1.Aa p.1 _ hq1).lists
  have hu:=(hC.is ht).d
  rw[hd']at hu
  have hM0:=hM.lists
  obtain⟨r0,es0,ck0,k1,k2,k3,k4,k5⟩:=hM0
  rw[h1]at k1;injection k1 with k1;injection k1 with k1;subst k1
  rw[h2]at k2;injection k2 with k2;injection k2 with k2 k2';subst k2;subst k2'
  have hfind:=hK.find (a.eval i) _ es.toList p.2.l hk k4 (fun i e p he hp=>(k5 i e p he hp).1)
  have hchk:=hK.check false (a.eval i) _ hk
  have hk':Di O1 w (a.eval i) (DN (p.2.kt.cells (p.2.kt.mk i'.cells).2)):=hk.AQ hp1
  have hcells:=Ty.Gi _ _ hmk
  have hval:Di O1 w (a.eval y) (DN (p.2.vt.cells (p.2.vt.mk pu.2.1).2)):=by
    rw[hcells]
    refine Aay (Aa:=st.Aa) hv2 hv1 hy (by rw[g1,g2]) (fun j hj=>g4 hp1 hv1' j (by rw[<- g1];exact hj))
  have happ: ∀ ok l',apply st o {ok:=ok,val:=.undef,upd:=pu.2.2++[(p.1,.mp l')]}= {tmps:=put st.tmps none .undef,Aa:=BG (Ar st.Aa pu.2.2) p.1 (.mp l')}:=by
    intro ok l'
    unfold apply
    rw[hd]
    have: ∀(u:List (Nat×Vm.Obj)) (l:List (Nat×Vm.Obj)) n z,Ar l (u++[(n,z)])=BG (Ar l u) n z:=by
      intro u
      induction u with
      | nil=>intro l n z;rfl
      | cons q u ih=>intro l n z;exact ih _ _ _
    show St.mk _ (Ar (AZ (Ar st.Aa (pu.2.2++[(p.1,.mp l')])) []) [])=_
    rw[this];rfl
  rcases bH (k:=(p.2.kt.mk i'.cells).2) es.toList p.2.l 0 k4 with ⟨f1,_,f3,_⟩ | ⟨j,e,q,f1,f2,f3,f4,_,f6,_⟩
  ·have hrun:(execOp a.eval o).run P w= .ok .skip {w with heap:=w.heap.setIfInBounds r (.map (es.push {key:=a.eval i,val:=a.eval y,born:=ck}) (ck+1))}:=by
     have:(Instr.mapUpdate t (a.eval x) (a.eval i) (a.eval y)).run P w= .ok () {w with heap:=w.heap.setIfInBounds r (.map (es.push {key:=a.eval i,val:=a.eval y,born:=ck}) (ck+1))}:=by
       rw[hv,h1]
       simp [Instr.mapUpdate,run_underlying hu,Ia h2,hchk,hfind,f1,Ph _ h2,Result.andThen]
     rcases ho with ho | ho<;>simp only[execOp,ho,Sem.run_bind,this,Result.andThen_ok,Sem.run_pure]
   unfold Oper.wp
   rw[hrun,Oper.upon_skip,hd]
   refine hn O1 m _ _ ?_
   rw[happ]
   refine VI hS1 (d:=none) (v:=undef) hq1 h1 h2 h3 (by rw[f3,Array.size_push,List.length_append,<- k4,Array.length_toList];rfl) (fun i0 p0 hp0=> ?_) (fun h=>absurd rfl h)
   have hp0:(Qo p.2.kt (p.2.kt.mk i'.cells).2 (p.2.vt.mk pu.2.1).2 p.2.l)[i0]? =some p0:=hp0
   rw[f3]at hp0
   have hsz:es.size=p.2.l.length:=by rw[<- k4,Array.length_toList]
   rcases Nat.lt_or_ge i0 p.2.l.length with hlt | hge
   ·rw[List.getElem?_append_left hlt]at hp0
    have hlt':i0<es.size:=by omega
    have hes:es.toList[i0]? =some es[i0]:=by rw[Array.getElem?_toList,Array.getElem?_eq_getElem hlt']
    refine⟨es[i0],by rw[Array.getElem?_push,if_neg (by omega),Array.getElem?_eq_getElem hlt'],h5 i0 _ p0 hes hp0⟩
   ·rw[List.getElem?_append_right hge]at hp0
    have h0:i0 - p.2.l.length=0:=by
      rcases Nat.eq_zero_or_pos (i0 - p.2.l.length)with h | h
      ·exact h
      ·rw[List.getElem?_eq_none (by show 1<=_;omega)]at hp0;cases hp0
    rw[h0]at hp0
    injection hp0 with hp0
    subst hp0
    exact⟨_,by rw[Array.getElem?_push,if_pos (by omega)],hk',hval⟩
  ·have hstay:=hK.stays (a.eval i) e.key _ hk (by rw[<- f4];exact(k5 j e q f2 f3).1)
   have f2':es[j]? =some e:=by rw[<- Array.getElem?_toList];exact f2
   have hrun:(execOp a.eval o).run P w= .ok .skip {w with heap:=w.heap.setIfInBounds r (.map (es.modify j fun e=> {e with key:=a.eval i,val:=a.eval y}) ck)}:=by
     have:(Instr.mapUpdate t (a.eval x) (a.eval i) (a.eval y)).run P w= .ok () {w with heap:=w.heap.setIfInBounds r (.map (es.modify j fun e=> {e with key:=a.eval i,val:=a.eval y}) ck)}:=by
       rw[hv,h1]
       simp [Instr.mapUpdate,run_underlying hu,Ia h2,hchk,hfind,f1,f2',hstay,Ph _ h2,Result.andThen]
     rcases ho with ho | ho<;>simp only[execOp,ho,Sem.run_bind,this,Result.andThen_ok,Sem.run_pure]
   unfold Oper.wp
   rw[hrun,Oper.upon_skip,hd]
   refine hn O1 m _ _ ?_
   rw[happ]
   refine VI hS1 (d:=none) (v:=undef) hq1 h1 h2 h3 (by rw[f6,Array.size_modify,List.length_set,<- k4,Array.length_toList]) (fun i0 p0 hp0=> ?_) (fun h=>absurd rfl h)
   have hp0:(Qo p.2.kt (p.2.kt.mk i'.cells).2 (p.2.vt.mk pu.2.1).2 p.2.l)[i0]? =some p0:=hp0
   rw[f6]at hp0
   rcases Aeg hp0 with ⟨q1,q2,_⟩ | ⟨q1,q2⟩
   ·subst q1;subst q2
    refine⟨_,by rw[Array.getElem?_modify,if_pos rfl,f2'];rfl,?_,hval⟩
    dsimp only
    rw[f4];exact hk'
   ·have hlt:i0<es.size:=by
      have:=(List.getElem?_eq_some_iff.1 q2).1
      rw[<- k4,Array.length_toList]at this;exact this
    have hes:es.toList[i0]? =some es[i0]:=by rw[Array.getElem?_toList,Array.getElem?_eq_getElem hlt]
    exact⟨es[i0],by rw[Array.getElem?_modify,if_neg (fun h=>q1 h.symm),Array.getElem?_eq_getElem hlt],h5 i0 _ p0 hes q2⟩
theorem zH {t:Nat} {x i:Operand} {c:Call} (hC:TOk P C) (hS:Sim V0 O0 w0 O m st a w) (ho:o.op= .call c) (hcal:c.callee= .builtin .delete) (hargs:c.args= #[x,i]) {ts:List Nat} (hts:c.argTypes.toList=t::ts) {fet:Fet} (hf:DL st.Aa fet) {x' i':A} (hx:Au O st.Aa m w (a.eval x) x') (hi:Au O st.Aa m w (a.eval i) i')
    (hok:Am (TR C fet t x' i').ok):Good P V0 O0 w0 (apply st o (TR C fet t x' i')) o a w:=by
  intro next Q hn
  have hF:FOk O st.Aa m w fet:=fun q x h=>⟨hf q x h,hS.Aa q x (hf q x h)⟩
  unfold TR at *
  obtain⟨ti,kt,et,ta,tb,ht,hd',hta,htb,he⟩:=Vs hok
  rw[he]at hok hn;clear he
  obtain⟨p,hp,he⟩:=AA hok
  rw[he]at hok hn;clear he
  obtain⟨hq,hv,hM⟩:=uH hF hx hp
  obtain⟨hK,hk,hone,hvt⟩:=wU hC hta hi hok
  obtain⟨r,es,ck,h1,h2,h3,h4,h5⟩:=hM.lists
  have hu:=(hC.is ht).d
  rw[hd']at hu
  have hts0:c.argTypes[0]? =some t:=by rw[<- Array.getElem?_toList,hts];rfl
  have hfind:=hK.find (a.eval i) _ es.toList p.2.l hk h4 (fun i e p he hp=>(h5 i e p he hp).1)
  have hchk:=hK.check es.isEmpty (a.eval i) _ hk
  have happ: ∀ ok l',apply st o {ok:=ok,val:=.tup [],upd:=[(p.1,.mp l')]}= {tmps:=put st.tmps o.dst (.tup []),Aa:=BG st.Aa p.1 (.mp l')}:=by
    intro ok l';rfl
  have hT: ∀(O':Own) (objs':List (Nat×Vm.Obj)) (m':Nat->Value) (w':World),Au O' objs' m' w' (.tuple #[]) (.tup []):=fun _ _ _ _=>⟨#[],rfl,rfl,fun j hj=>by cases hj⟩
  have main: ∀(es':Array MapEntry),(Builtin.delete_ c.argTypes o.type #[a.eval x,a.eval i]).run P w= .ok (.tuple #[]) {w with heap:=w.heap.setIfInBounds r (.map es' ck)}->es'.size=(Qk p.2.kt (p.2.kt.mk i'.cells).2 p.2.l).length ->
      (∀(i0:Nat) (p0:p.2.kt.Val×p.2.vt.Val),(Qk p.2.kt (p.2.kt.mk i'.cells).2 p.2.l)[i0]? =some p0-> ∃ e,es'[i0]? =some e/\Di O w e.key (DN (p.2.kt.cells p0.1))/\Di O w e.val (DN (p.2.vt.cells p0.2)))->o.wp P a w next Q:=by
    intro es' hr hs he
    have hrun:(execOp a.eval o).run P w= .ok (.value (.tuple #[])) {w with heap:=w.heap.setIfInBounds r (.map es' ck)}:=by
      simp [execOp,ho,resolve,hcal,hargs,invoke,builtin,hr]
    unfold Oper.wp
    rw[hrun,Oper.upon_value]
    refine hn O m _ _ ?_
    rw[happ]
    exact VI (l':=⟨p.2.kt,p.2.vt,Qk p.2.kt (p.2.kt.mk i'.cells).2 p.2.l⟩) hS hq (by rw[<- h1]) h2 h3 hs he (fun _=>hT)
  have hsz:es.size=p.2.l.length:=by rw[<- h4,Array.length_toList]
  rcases bH (k:=(p.2.kt.mk i'.cells).2) es.toList p.2.l 0 h4 with ⟨f1,_,_,f3⟩ | ⟨j,e,q,f1,f2,f3,f4,_,_,f6⟩
  ·refine main es ?_ (by rw[f3];exact hsz) (fun i0 p0 hp0=> ?_)
   ·rw[hv,h1]
    simp [Builtin.delete_,hts0,run_underlying hu,Ia h2,hchk,hfind,f1,Ph _ h2,Result.andThen]
   ·rw[f3]at hp0
    have hlt:i0<es.size:=by
      have:=(List.getElem?_eq_some_iff.1 hp0).1
      omega
    have hes:es.toList[i0]? =some es[i0]:=by rw[Array.getElem?_toList,Array.getElem?_eq_getElem hlt]
    exact⟨es[i0],Array.getElem?_eq_getElem hlt,h5 i0 _ p0 hes hp0⟩
  ·have hj:j<es.size:=by
     have:=(List.getElem?_eq_some_iff.1 f2).1
     simpa using this
   have hel:(es.eraseIdxIfInBounds j).toList=es.toList.eraseIdx j:=by
     unfold Array.eraseIdxIfInBounds
     rw[dif_pos hj];simp
   refine main (es.eraseIdxIfInBounds j) ?_ ?_ (fun i0 p0 hp0=> ?_)
   ·rw[hv,h1]
    simp [Builtin.delete_,hts0,run_underlying hu,Ia h2,hchk,hfind,f1,Ph _ h2,Result.andThen]
   ·rw[f6,<- Array.length_toList,hel,List.length_eraseIdx,List.length_eraseIdx,h4]
   ·rw[f6]at hp0
    rw[List.getElem?_eraseIdx]at hp0
    have key: ∀ i1:Nat,p.2.l[i1]? =some p0->(es.toList.eraseIdx j)[i0]? =es.toList[i1]? -> ∃ e,(es.eraseIdxIfInBounds j)[i0]? =some e/\Di O w e.key (DN (p.2.kt.cells p0.1))/\Di O w e.val (DN (p.2.vt.cells p0.2)):=by
      intro i1 hl hh
      have hlt:i1<es.size:=by
        have:=(List.getElem?_eq_some_iff.1 hl).1
        omega
      have hes:es.toList[i1]? =some es[i1]:=by rw[Array.getElem?_toList,Array.getElem?_eq_getElem hlt]
      exact⟨es[i1],by rw[<- Array.getElem?_toList,hel,hh,hes],h5 i1 _ p0 hes hl⟩
    split at hp0
    ·rename_i hlt;exact key i0 hp0 (by rw[List.getElem?_eraseIdx,if_pos hlt])
    ·rename_i hlt;exact key (i0+1) hp0 (by rw[List.getElem?_eraseIdx,if_neg hlt])
end
end Go.Proofs.YtbaomhegdndpnaaGreatDoor.Vm
namespace Go.Proofs.YtbaomhegdndpnaaGreatDoor.Vm
open Classical
def IC (O:Own) (w:World) (id:Nat) (v:Value):A->Prop
  | .usl z e l=>BC O [] (fun _=>v) w id (.arr e z l)
  | .box cs=> ∃ b base,v= .pointer (some (at' b base))/\ ∀ j,j<cs.length->O b (base+j)=some id/\w.frozen? (at' b (base+j))=false/\ ∃ u,w.cell? (at' b (base+j))=some u/\Ak O w u (cs.getD j .undef)
  | a=>Ak O w v a
def IR (O:Own) (w:World) (id:Nat) (v:Value):A->Prop
  | .agg cs=> ∃ vs:Array Value,v= .agg vs/\vs.size=cs.length/\ ∀ j,j<cs.length->IC O w (id+1+j) (vs.getD j undef) (cs.getD j .undef)
  | .box cs=> ∃ b base,v= .pointer (some (at' b base))/\ ∀ j,j<cs.length->O b (base+j)=some id/\w.frozen? (at' b (base+j))=false/\ ∃ u,w.cell? (at' b (base+j))=some u/\IC O w (id+1+j) u (cs.getD j .undef)
  | .cbx k cs=> ∃ b base,OB O w k v (.pointer (some (at' b base)))/\ ∀ j,j<cs.length->O b (base+j)=some id/\w.frozen? (at' b (base+j))=false/\ ∃ u,w.cell? (at' b (base+j))=some u/\IC O w (id+1+j) u (cs.getD j .undef)
  | .ump l=>DV O w id v l
  | a=>IC O w id v a
section
variable {P:Program} {C:Ctx} {V0:Nat->Value} {O0 O:Own} {w0 w:World} {m:Nat->Value} {st:St} {a:Act} {o:Oper}
theorem Ak.ic {id:Nat} {v:Value} {x:A} (h:Ak O w v x):IC O w id v x:=by cases h<;>first | exact .bool _ | exact .int _ _ | exact .str _ | exact .nil _ | exact .BN | exact .fn _ | exact .Rx | exact Ak.sl0 _ _ | (rename_i vs a1 a2 a3;exact Ak.sl vs a1 a2 a3) | (rename_i h hn;exact Ak.sln h hn)
def DR (O:Own) (ρ :Nat->Option Nat):Own:=fun b k=>match O b k with
  | none=>none
  | some o=>match ρ o with
    | some i=>some i
    | none=>some 255
theorem KR {ρ :Nat->Option Nat} {b k:Nat}:DR O ρ b k=none↔O b k=none:=by grind[DR]
theorem Ii {ρ :Nat->Option Nat} {b k o i:Nat} (h:O b k=some o) (hr: ρ o=some i):DR O ρ b k=some i:=by
  unfold DR;rw[h];simp [hr]
theorem Ih (ρ :Nat->Option Nat):CS O w (DR O ρ) w:=fun _ _ _ h hc=>⟨KR.2 h,hc⟩
theorem BC.DR {ρ :Nat->Option Nat} {q i e:Nat} {z:Bool} {l:Sl} {Aa objs':List (Nat×Obj)} {m m':Nat->Value} (h:BC O Aa m w q (.arr e z l)) (hr: ρ q=some i) (hm:m' i=m q) :
    BC (DR O ρ) objs' m' w i (.arr e z l):=by
  refine⟨h.1,?_⟩
  rcases h.2 with ⟨h1,h2,h3⟩ | ⟨h1,g,cap,cur,h2,h3,h4,h5,h6,h7,h8,h9⟩
  ·exact .inl ⟨h1,h2,by rw[hm];exact h3⟩
  ·refine .inr ⟨h1,g,cap,cur,by rw[hm];exact h2,h3,h4,h5,h6,fun r j hr' hj=> ?_,fun k hk hge=>Ii (h8 k hk hge) hr,fun k hk=> ?_⟩
   ·obtain⟨u,h10,h11⟩:=h7 r j hr' hj
    exact⟨u,h10,h11.AQ (Ih ρ)⟩
   ·have:=h9 k hk
    cases z with
    | true=>exact KR.2 this
    | false=>exact Ii this hr
theorem BC.keep {O':Own} {q e:Nat} {l:Sl} {Aa objs':List (Nat×Obj)} {m:Nat->Value} (h:BC O Aa m w q (.arr e false l)) (hp:CS O w O' w) (hk: ∀ b k,O b k=some q->O' b k=some q):BC O' objs' m w q (.arr e false l):=by
  refine⟨h.1,?_⟩
  rcases h.2 with h0 | ⟨h1,g,cap,cur,h2,h3,h4,h5,h6,h7,h8,h9⟩
  ·exact .inl h0
  ·refine .inr ⟨h1,g,cap,cur,h2,h3,h4,h5,h6,fun r j hr' hj=> ?_,fun k a b=>hk _ _ (h8 k a b),fun k a=>hk _ _ (h9 k a)⟩
   obtain⟨u,h10,h11⟩:=h7 r j hr' hj
   exact⟨u,h10,h11.AQ hp⟩
theorem Ic {W:Prop} {fet:Fet} (hf:DL st.Aa fet) (hS: ∀ q y,Ai st.Aa q=some y->BC O st.Aa m w q y): ∀(ks:List (Bool×CK)) (cs:List A) (id:Nat) (f:Nat->Value),(ks.any wC=true->W)->(∀ j,j<cs.length->Aw O st.Aa m w (f j) (cs.getD j .undef))->Am (Ap fet ks cs).1 ->
    (Ap fet ks cs).2.1.length=ks.length/\cs.length=ks.length/\Frz st.Aa (Ap fet ks cs).2.2.1/\(Ap fet ks cs).2.2.2=(BJ id ks cs).map (·.1) /\
    ∀ {O':Own} {objs':List (Nat×Obj)} {ρ :Nat->Option Nat},CS O w O' w->(∀ p∈(Ap fet ks cs).2.2.1,∀ e l,p.2= .arr e true l->Ak O' w (m p.1) (.sl l)) ->
      (∀ p∈(Ap fet ks cs).2.2.1,BC O' objs' m w p.1 p.2)->(∀ b k q,O b k=some q->(NR st.Aa q\/W)->O' b k=some q)->(∀ p∈BJ id ks cs,ρ p.1=some p.2) ->
      ∀ j,j<ks.length->IC (DR O' ρ) w (id+j) (f j) ((Ap fet ks cs).2.1.getD j .undef):=by
  intro ks
  induction ks with
  | nil =>
    intro cs id f _ _ hok
    cases cs with
    | nil=>exact⟨rfl,rfl,(fun p hp=>by simp [Ap]at hp),rfl,fun _ _ _ _ _ j hj=>by simp at hj⟩
    | cons _ _=>have:=hok false (by simp [Ap]);cases this
  | cons k ks ih =>
    intro cs id f hW h hok
    obtain⟨u,k⟩:=k
    cases cs with
    | nil=>have:=hok false (by cases u<;>simp [Ap]);cases this
    | cons c cs =>
      have hrest:=fun hok2=>ih cs (id+1) (fun j=>f (j+1)) (fun h=>hW (by rw[List.any_cons,h,Bool.or_true])) (fun j hj=>by simpa using h (j+1) (by simpa using hj)) hok2
      cases u with
      | false =>
        simp only[Ap]at hok ⊢
        obtain⟨hok1,hok2⟩:=hok.append
        obtain⟨h1,h2⟩:=xU hf (h 0 (by simp)) hok1
        obtain⟨h3,h4,h5,h6,h7⟩:=hrest hok2
        have hnames:BJ id ((false,k)::ks) (c::cs)=BJ (id+1) ks cs:=by cases c<;>rfl
        refine⟨by simp [h3],by simp [h4],h1.append h5,by rw[hnames];exact h6,fun {O' objs' ρ} hp hv hO hbx hρ j hj=> ?_⟩
        rw[hnames]at hρ
        cases j with
        | zero =>
          have hvr:=(h2 hp (fun p hp=>hv p (List.mem_append_left _ hp))).AQ (Ih ρ)
          exact hvr.ic
        | succ j =>
          have:=h7 hp (fun p hp=>hv p (List.mem_append_right _ hp)) (fun p hp=>hO p (List.mem_append_right _ hp)) hbx hρ j (by simpa using hj)
          rw[show id+(j+1)=id+1+j from by omega]
          simpa using this
      | true =>
        cases k with
        | sl e sz =>
          cases c with
          | own q =>
            simp only[Ap]at hok ⊢
            cases hg:Ai fet q with
            | none=>rw[hg]at hok;have:=hok false (by simp);cases this
            | some x =>
              cases x with
              | box _=>rw[hg]at hok;have:=hok false (by simp);cases this
              | mp _=>rw[hg]at hok;have:=hok false (by simp);cases this
              | arr e' fz l =>
                rw[hg]at hok
                dsimp only at hok ⊢
                obtain⟨hok1,hok2⟩:=hok.append
                obtain⟨e1,e2⟩:=hok1.cons
                have e1:=Nat.eq_of_beq_eq_true e1
                subst e1
                obtain⟨h3,h4,h5,h6,h7⟩:=hrest hok2
                have hq:=hf q _ hg
                refine⟨by simp [h3],by simp [h4],fun p hp=> ?_,?_,fun {O' objs' ρ} hp hv hO hbx hρ j hj=> ?_⟩
                ·rcases List.mem_cons.1 hp with rfl | hp
                 ·exact⟨e,fz,l,hq,rfl⟩
                 ·exact h5 p hp
                ·simp only[BJ,List.map_cons,h6]
                ·cases j with
                 | zero =>
                   have hc:Aw O st.Aa m w (f 0) (.own q):=h 0 (by simp)
                   have hc:=hc.2
                   rw[hq]at hc
                   simp only[Option.map_some,Obj.shp]at hc
                   have:=hO _ List.mem_cons_self
                   exact this.DR (objs':=[]) (m':=fun _=>f 0) (hρ (q,id) List.mem_cons_self) hc
                 | succ j =>
                   have:=h7 hp (fun p hp=>hv p (List.mem_cons_of_mem _ hp)) (fun p hp=>hO p (List.mem_cons_of_mem _ hp)) hbx (fun p hp=>hρ p (List.mem_cons_of_mem _ hp)) j (by simpa using hj)
                   rw[show id+(j+1)=id+1+j from by omega]
                   simpa using this
          | BB =>
            simp only[Ap]at hok ⊢
            obtain⟨h3,h4,h5,h6,h7⟩:=hrest hok
            have hnames:BJ id ((true,.sl e sz)::ks) (.BB::cs)=BJ (id+1) ks cs:=rfl
            refine⟨by simp [h3],by simp [h4],h5,by rw[hnames];exact h6,fun {O' objs' ρ} hp hv hO hbx hρ j hj=> ?_⟩
            rw[hnames]at hρ
            cases j with
            | zero =>
              have hc:Aw O st.Aa m w (f 0) .BB:=h 0 (by simp)
              have hc:f 0= .slice none 0 0:=hc
              show BC _ [] (fun _=>f 0) w _ (.arr e true ⟨sz,[]⟩)
              exact⟨by simp [Sl.es],.inl ⟨trivial,rfl,hc⟩⟩
            | succ j =>
              have:=h7 hp hv hO hbx hρ j (by simpa using hj)
              rw[show id+(j+1)=id+1+j from by omega]
              simpa using this
          | _=>have:=hok false (by simp [Ap]);cases this
        | sln e sz =>
          cases c with
          | own q =>
            simp only[Ap]at hok ⊢
            cases hg:Ai fet q with
            | none=>rw[hg]at hok;have:=hok false (by simp);cases this
            | some x =>
              cases x with
              | box _=>rw[hg]at hok;have:=hok false (by simp);cases this
              | mp _=>rw[hg]at hok;have:=hok false (by simp);cases this
              | arr e' fz l =>
                rw[hg]at hok
                dsimp only at hok ⊢
                obtain⟨hok1,hok2⟩:=hok.append
                obtain⟨e1,e2⟩:=hok1.cons
                obtain⟨_,e3⟩:=e2.cons
                have e3:fz=false:=by simpa using e3.cons.1
                subst e3
                have e1:=Nat.eq_of_beq_eq_true e1
                subst e1
                obtain⟨h3,h4,h5,h6,h7⟩:=hrest hok2
                have hq:=hf q _ hg
                refine⟨by simp [h3],by simp [h4],h5,?_,fun {O' objs' ρ} hp hv hO hbx hρ j hj=> ?_⟩
                ·simp only[BJ,List.map_cons,h6]
                ·cases j with
                 | zero =>
                   have hc:Aw O st.Aa m w (f 0) (.own q):=h 0 (by simp)
                   have hc:=hc.2
                   rw[hq]at hc
                   simp only[Option.map_some,Obj.shp]at hc
                   exact(BC.keep (objs':=st.Aa) (hS q _ hq) hp fun b k hb=>hbx b k q hb (.inr (hW rfl))).DR (objs':=[]) (m':=fun _=>f 0) (hρ (q,id) List.mem_cons_self) hc
                 | succ j =>
                   have:=h7 hp hv hO hbx (fun p hp=>hρ p (List.mem_cons_of_mem _ hp)) j (by simpa using hj)
                   rw[show id+(j+1)=id+1+j from by omega]
                   simpa using this
          | BB =>
            simp only[Ap]at hok ⊢
            obtain⟨h3,h4,h5,h6,h7⟩:=hrest hok
            have hnames:BJ id ((true,.sln e sz)::ks) (.BB::cs)=BJ (id+1) ks cs:=rfl
            refine⟨by simp [h3],by simp [h4],h5,by rw[hnames];exact h6,fun {O' objs' ρ} hp hv hO hbx hρ j hj=> ?_⟩
            rw[hnames]at hρ
            cases j with
            | zero =>
              have hc:Aw O st.Aa m w (f 0) .BB:=h 0 (by simp)
              have hc:f 0= .slice none 0 0:=hc
              show BC _ [] (fun _=>f 0) w _ (.arr e false ⟨sz,[]⟩)
              exact⟨by simp [Sl.es],.inl ⟨trivial,rfl,hc⟩⟩
            | succ j =>
              have:=h7 hp hv hO hbx hρ j (by simpa using hj)
              rw[show id+(j+1)=id+1+j from by omega]
              simpa using this
          | _=>have:=hok false (by simp [Ap]);cases this
        | bx t =>
          cases c with
          | ptr q off =>
            simp only[Ap]at hok ⊢
            cases hg:BP fet q with
            | none=>rw[hg]at hok;have:=hok false (by simp);cases this
            | some zs =>
              rw[hg]at hok
              dsimp only at hok ⊢
              obtain⟨hok0,hok1⟩:=hok.cons
              obtain⟨hok1,hok2⟩:=hok1.append
              have hok0:=Nat.eq_of_beq_eq_true hok0
              subst hok0
              obtain⟨h3,h4,h5,h6,h7⟩:=hrest hok2
              have hq:=hf q _ (BK hg)
              obtain⟨b,base,g1,g2⟩:=hS q _ hq
              have hv0:f 0= .pointer (some (at' b base)):=by
                have hc:Aw O st.Aa m w (f 0) (.ptr q 0):=h 0 (by simp)
                have hc:=hc.2
                rw[hq]at hc
                simp only[Option.map_some,Obj.shp]at hc
                obtain⟨b',base',g3,g4⟩:=hc
                rw[g1]at g3;injection g3 with g3;injection g3 with g3;injection g3 with e1 e2
                subst e1;subst e2;exact g4
              have hfc: ∀ j,j<zs.length->w.cell? (at' b (base+j))=some ((w.cell? (at' b (base+j))).getD undef)/\Aw O st.Aa m w ((w.cell? (at' b (base+j))).getD undef) (zs.getD j .undef):=by
                intro j hj
                obtain⟨_,_,u,h3,h4⟩:=g2 j hj
                rw[h3];exact⟨rfl,h4⟩
              obtain⟨p1,p2,p3,p4⟩:=Ho hf (tck t) zs (fun j=>(w.cell? (at' b (base+j))).getD undef) (fun j hj=>(hfc j hj).2) hok1
              refine⟨by simp [h3],by simp [h4],p3.append h5,?_,fun {O' objs' ρ} hp hv hO hbx hρ j hj=> ?_⟩
              ·simp only[BJ,List.map_cons,h6]
              ·cases j with
               | zero =>
                 refine⟨b,base,hv0,fun j hj=> ?_⟩
                 have hj:j<(Bg fet (tck t) zs).2.1.length:=hj
                 rw[p1]at hj
                 have hj':j<zs.length:=by rw[p2];exact hj
                 obtain⟨k1,k2,_⟩:=g2 j hj'
                 exact⟨Ii (hbx _ _ _ k1 (.inl (.of hq (fun _ _ _ h=>by cases h)))) (hρ (q,id) List.mem_cons_self),k2,_,(hfc j hj').1,(p4 hp (fun p hp=>hv p (List.mem_append_left _ hp)) j hj).AQ (Ih ρ)⟩
               | succ j =>
                 have:=h7 hp (fun p hp=>hv p (List.mem_append_right _ hp)) (fun p hp=>hO p (List.mem_append_right _ hp)) hbx (fun p hp=>hρ p (List.mem_cons_of_mem _ hp)) j (by simpa using hj)
                 rw[show id+(j+1)=id+1+j from by omega]
                 simpa using this
          | _=>have:=hok false (by simp [Ap]);cases this
        | _=>have:=hok false (by simp [Ap]);cases this
end
end Go.Proofs.YtbaomhegdndpnaaGreatDoor.Vm
namespace Go.Proofs.YtbaomhegdndpnaaGreatDoor.Vm
open Classical
section
variable {P:Program} {C:Ctx} {V0:Nat->Value} {O0 O:Own} {w0 w:World} {m:Nat->Value} {st:St} {a:Act} {o:Oper}
theorem wI {W:Prop} {fet:Fet} (hf:DL st.Aa fet) {s:Sh} {x:A} {v:Value} {id:Nat} (hW:wS s=true->W) (hx:Au O st.Aa m w v x) (hS: ∀ q y,Ai st.Aa q=some y->BC O st.Aa m w q y) (hok:Am (AO fet s x).ok) :
    Frz st.Aa (AO fet s x).upd/\(∀ q∈(AO fet s x).del++(AO fet s x).boxes.map (·.1),q∈(D9 fet id s x).map (·.1))/\(∀ q∈(D9 fet id s x).map (·.1),q∈(AO fet s x).del++(AO fet s x).boxes.map (·.1)) /\
    (Be s=true↔(AO fet s x).boxes≠ []) /\
    ∀ {O':Own} {objs':List (Nat×Obj)} {ρ :Nat->Option Nat},CS O w O' w->(∀ p∈(AO fet s x).upd,∀ e l,p.2= .arr e true l->Ak O' w (m p.1) (.sl l)) ->
      (∀ p∈(AO fet s x).upd,BC O' objs' m w p.1 p.2)->(∀ b k q,O b k=some q->(NR st.Aa q\/W)->O' b k=some q)->(∀ p∈D9 fet id s x,ρ p.1=some p.2) ->
      IR (DR O' ρ) w id v (AO fet s x).a:=by
  cases s with
  | cell u k =>
    unfold AO at *
    dsimp only at hok ⊢
    have hall: ∀ hc:Aw O st.Aa m w v x,_:=fun hc=>Ic hf hS [(u,k)] [x] id (fun _=>v) (fun h=>hW (by rw[List.any_cons,List.any_nil,Bool.or_false]at h;exact h)) (fun j hj=>by
      have:j=0:=by simpa using hj
      subst this;exact hc)
    have hnc: ∀(h:Am (Ap fet [(u,k)] [x]).1),Aw O st.Aa m w v x:=by
      intro h
      cases x with
      | undef=>cases u<;>cases k<;>(have:=h false (by simp [Ap,pur]);cases this)
      | agg _=>cases u<;>cases k<;>(have:=h false (by simp [Ap,pur]);cases this)
      | tup _=>cases u<;>cases k<;>(have:=h false (by simp [Ap,pur]);cases this)
      | cnd _ _=>cases u<;>cases k<;>(have:=h false (by simp [Ap,pur]);cases this)
      | _=>exact hx
    generalize hh:Ap fet [(u,k)] [x]=r at *
    obtain⟨ok,cs,upd,del⟩:=r
    cases cs with
    | nil=>have:=hok false (by simp);cases this
    | cons c cs =>
      cases cs with
      | cons _ _=>have:=hok false (by simp);cases this
      | nil =>
        dsimp only at hok ⊢
        obtain⟨h1,h2,h3,h4,h5⟩:=hall (hnc hok) hok
        have h4:del=(BJ id [(u,k)] [x]).map (·.1):=h4
        refine⟨h3,fun q hq=> ?_,fun q hq=> ?_,⟨(fun h=>by cases h),fun h=>absurd rfl h⟩,fun {O' objs' ρ} hp hv hO hbx hρ => ?_⟩
        ·simp only[List.map_nil,List.append_nil]at hq;rw[h4]at hq;exact hq
        ·simp only[List.map_nil,List.append_nil];rw[h4];exact hq
        ·have:=h5 hp hv hO hbx hρ 0 (by simp)
         have e: [c].getD 0 .undef=c:=rfl
         dsimp only at this
         rw[e]at this
         cases c<;>first | exact this | (obtain⟨b,base,e1,e2⟩:=this;exact⟨b,base,e1,fun j hj=>let ⟨k1,k2,u,k3,k4⟩:=e2 j hj;⟨k1,k2,u,k3,k4.ic⟩⟩) | cases this
  | agg ks =>
    cases x with
    | agg cs =>
      unfold AO at *
      dsimp only at hok ⊢
      obtain⟨vs,g1,g2,g3⟩:=hx
      obtain⟨h1,h2,h3,h4,h5⟩:=Ic hf hS ks cs (id+1) (fun j=>vs.getD j undef) hW g3 hok
      refine⟨h3,fun q hq=> ?_,fun q hq=> ?_,⟨(fun h=>by cases h),fun h=>absurd rfl h⟩,fun {O' objs' ρ} hp hv hO hbx hρ => ?_⟩
      ·simp only[List.map_nil,List.append_nil]at hq;rw[h4]at hq;exact hq
      ·simp only[List.map_nil,List.append_nil];rw[h4];exact hq
      ·exact⟨vs,g1,by rw[g2,h1,h2],fun j hj=>h5 hp hv hO hbx hρ j (by rw[<- h1];exact hj)⟩
    | _=>have:=hok false (by simp [AO]);cases this
  | box ks =>
    cases x with
    | ptr q off =>
      unfold AO at *
      dsimp only at hok ⊢
      cases hg:BP fet q with
      | none=>rw[hg]at hok;have:=hok false (by simp);cases this
      | some cs =>
            rw[hg]at hok
            dsimp only at hok ⊢
            obtain⟨ho0,hokA⟩:=hok.cons
            obtain⟨_,hokB⟩:=hokA.cons
            have ho0:=Nat.eq_of_beq_eq_true ho0
            subst ho0
            have hq:=hf q _ (BK hg)
            obtain⟨b,base,g1,g2⟩:=hS q _ hq
            have hv0:v= .pointer (some (at' b base)):=by
              have hc:Aw O st.Aa m w v (.ptr q 0):=hx
              have hc:=hc.2
              rw[hq]at hc
              simp only[Option.map_some,Obj.shp]at hc
              obtain⟨b',base',g3,g4⟩:=hc
              rw[g1]at g3;injection g3 with g3;injection g3 with g3;injection g3 with e1 e2
              subst e1;subst e2;exact g4
            let f:Nat->Value:=fun j=>(w.cell? (at' b (base+j))).getD undef
            have hfc: ∀ j,j<cs.length->w.cell? (at' b (base+j))=some (f j)/\Aw O st.Aa m w (f j) (cs.getD j .undef):=by
              intro j hj
              obtain⟨_,_,u,h3,h4⟩:=g2 j hj
              have:f j=u:=by show(w.cell? _).getD _=_;rw[h3];rfl
              rw[this];exact⟨h3,h4⟩
            obtain⟨h1,h2,h3,h4,h5⟩:=Ic hf hS ks cs (id+1) f hW (fun j hj=>(hfc j hj).2) hokB
            have hnames:D9 fet id (.box ks) (.ptr q 0)=(q,id)::BJ (id+1) ks cs:=by simp only[D9,hg]
            rw[hnames]
            refine⟨h3,fun r hr=> ?_,fun r hr=> ?_,⟨fun _=>by simp,fun _=>rfl⟩,fun {O' objs' ρ} hp hv hO hbx hρ => ?_⟩
            ·simp only[List.map_cons,List.map_nil,List.mem_append,List.mem_singleton]at hr
             rcases hr with hr | hr
             ·rw[h4]at hr;exact List.mem_cons_of_mem _ hr
             ·rw[hr];exact List.mem_cons_self
            ·simp only[List.map_cons,List.map_nil,List.mem_append,List.mem_singleton]
             rcases List.mem_cons.1 hr with hr | hr
             ·exact .inr hr
             ·left;rw[h4];exact hr
            ·refine⟨b,base,hv0,fun j hj=> ?_⟩
             rw[h1]at hj
             obtain⟨k1,k2,u,k3,_⟩:=g2 j (by rw[h2];exact hj)
             refine⟨Ii (hbx _ _ _ k1 (.inl (.of hq (fun _ _ _ h=>by cases h)))) (hρ (q,id) List.mem_cons_self),k2,f j,(hfc j (by rw[h2];exact hj)).1,h5 hp hv hO hbx (fun p hp'=>hρ p (List.mem_cons_of_mem _ hp')) j hj⟩
    | _=>have:=hok false (by simp [AO]);cases this
  | clo f' ks =>
    cases x with
    | clo g q =>
      unfold AO at *
      dsimp only at hok ⊢
      cases hg:BP fet q with
      | none=>rw[hg]at hok;have:=hok false (by simp);cases this
      | some cs =>
            rw[hg]at hok
            dsimp only at hok ⊢
            obtain⟨ho0,hokA⟩:=hok.cons
            obtain⟨_,hokB⟩:=hokA.cons
            have ho0:=Nat.eq_of_beq_eq_true ho0
            subst ho0
            have hq:=hf q _ (BK hg)
            obtain⟨b,base,g1,g2⟩:=hS q _ hq
            have hv0:OB O w f' v (.pointer (some (at' b base))):=by
              have hc:Aw O st.Aa m w v (.clo f' q):=hx
              obtain⟨_,p,_,hc2,hc⟩:=hc
              rw[hq]at hc
              obtain⟨b',base',e1,e2⟩:=hc
              rw[g1]at e1
              rw[e1,<- e2];exact hc2
            let f:Nat->Value:=fun j=>(w.cell? (at' b (base+j))).getD undef
            have hfc: ∀ j,j<cs.length->w.cell? (at' b (base+j))=some (f j)/\Aw O st.Aa m w (f j) (cs.getD j .undef):=by
              intro j hj
              obtain⟨_,_,u,h3,h4⟩:=g2 j hj
              have:f j=u:=by show(w.cell? _).getD _=_;rw[h3];rfl
              rw[this];exact⟨h3,h4⟩
            obtain⟨h1,h2,h3,h4,h5⟩:=Ic hf hS ks cs (id+1) f hW (fun j hj=>(hfc j hj).2) hokB
            have hnames:D9 fet id (.clo f' ks) (.clo f' q)=(q,id)::BJ (id+1) ks cs:=by simp only[D9,hg]
            rw[hnames]
            refine⟨h3,fun r hr=> ?_,fun r hr=> ?_,⟨fun _=>by simp,fun _=>rfl⟩,fun {O' objs' ρ} hp hv hO hbx hρ => ?_⟩
            ·simp only[List.map_cons,List.map_nil,List.mem_append,List.mem_singleton]at hr
             rcases hr with hr | hr
             ·rw[h4]at hr;exact List.mem_cons_of_mem _ hr
             ·rw[hr];exact List.mem_cons_self
            ·simp only[List.map_cons,List.map_nil,List.mem_append,List.mem_singleton]
             rcases List.mem_cons.1 hr with hr | hr
             ·exact .inr hr
             ·left;rw[h4];exact hr
            ·refine⟨b,base,(hv0.AQ hp).AQ (Ih ρ),fun j hj=> ?_⟩
             rw[h1]at hj
             obtain⟨k1,k2,u,k3,_⟩:=g2 j (by rw[h2];exact hj)
             refine⟨Ii (hbx _ _ _ k1 (.inl (.of hq (fun _ _ _ h=>by cases h)))) (hρ (q,id) List.mem_cons_self),k2,f j,(hfc j (by rw[h2];exact hj)).1,h5 hp hv hO hbx (fun p hp'=>hρ p (List.mem_cons_of_mem _ hp')) j hj⟩
    | _=>have:=hok false (by simp [AO]);cases this
  | map kt vt =>
    cases x with
    | own q =>
      unfold AO at *
      dsimp only at hok ⊢
      cases hg:Ai fet q with
      | none=>rw[hg]at hok;have:=hok false (by simp);cases this
      | some y =>
        cases y with
        | box _=>rw[hg]at hok;have:=hok false (by simp);cases this
        | arr _ _ _=>rw[hg]at hok;have:=hok false (by simp);cases this
        | mp l =>
          rw[hg]at hok
          dsimp only at hok ⊢
          have hq:=hf q _ hg
          have hv0:v=m q:=by
            have hc:Aw O st.Aa m w v (.own q):=hx
            have hc:=hc.2
            rw[hq]at hc
            exact hc
          refine⟨(fun p hp=>by cases hp),fun r hr=> ?_,fun r hr=> ?_,⟨fun _=>by simp,fun _=>rfl⟩,fun {O' objs' ρ} hp hv hO hbx hρ => ?_⟩
          ·simpa [D9]using hr
          ·simpa [D9]using hr
          ·obtain⟨r,es,ck,g1,g2,g3,g4,g5⟩:=(show DV O w q (m q) l from hS q _ hq)
           refine⟨r,es,ck,by rw[hv0];exact g1,g2,Ii (hbx _ _ _ g3 (.inl (.of hq (fun _ _ _ h=>by cases h)))) (hρ (q,id) List.mem_cons_self),g4,fun i p hip=> ?_⟩
           obtain⟨e,k1,k2,k3⟩:=g5 i p hip
           exact⟨e,k1,(k2.AQ hp).AQ (Ih ρ),(k3.AQ hp).AQ (Ih ρ)⟩
    | _=>have:=hok false (by simp [AO]);cases this
theorem NK {W:Prop} {fet:Fet} (hf:DL st.Aa fet) (hS: ∀ q y,Ai st.Aa q=some y->BC O st.Aa m w q y) (stride:Nat): ∀(ss:List Sh) (xs:List A) (id:Nat) (f:Nat->Value),(ss.any wS=true->W)->(∀ j,j<xs.length->Au O st.Aa m w (f j) (xs.getD j .undef))->Am (A8 fet ss xs).1 ->
    (A8 fet ss xs).2.1.length=ss.length/\xs.length=ss.length/\Frz st.Aa (A8 fet ss xs).2.2.1 /\
    (∀ q,q∈(A8 fet ss xs).2.2.2.1++(A8 fet ss xs).2.2.2.2.map (·.1)↔q∈(Dh fet id stride ss xs).map (·.1)) /\
    ∀ {O':Own} {objs':List (Nat×Obj)} {ρ :Nat->Option Nat},CS O w O' w->(∀ p∈(A8 fet ss xs).2.2.1,∀ e l,p.2= .arr e true l->Ak O' w (m p.1) (.sl l)) ->
      (∀ p∈(A8 fet ss xs).2.2.1,BC O' objs' m w p.1 p.2)->(∀ b k q,O b k=some q->(NR st.Aa q\/W)->O' b k=some q)->(∀ p∈Dh fet id stride ss xs,ρ p.1=some p.2) ->
      ∀ j,j<ss.length->IR (DR O' ρ) w (id+stride*j) (f j) ((A8 fet ss xs).2.1.getD j .undef):=by
  intro ss
  induction ss with
  | nil =>
    intro xs id f _ _ hok
    cases xs with
    | nil=>exact⟨rfl,rfl,(fun p hp=>by simp [A8]at hp),(fun q=>by simp [A8,Dh]),fun _ _ _ _ _ j hj=>by simp at hj⟩
    | cons _ _=>have:=hok false (by simp [A8]);cases this
  | cons s ss ih =>
    intro xs id f hW h hok
    cases xs with
    | nil=>have:=hok false (by simp [A8]);cases this
    | cons x xs =>
      simp only[A8]at hok ⊢
      obtain⟨hok1,hok2⟩:=hok.append
      obtain⟨h1,h2,h3,_,h4⟩:=wI (id:=id) hf (fun e=>hW (by rw[List.any_cons,e,Bool.true_or])) (h 0 (by simp)) hS hok1
      obtain⟨g1,g2,g3,g4,g5⟩:=ih xs (id+stride) (fun j=>f (j+1)) (fun e=>hW (by rw[List.any_cons,e,Bool.or_true])) (fun j hj=>by simpa using h (j+1) (by simpa using hj)) hok2
      refine⟨by simp [g1],by simp [g2],h1.append g3,fun q=> ?_,fun {O' objs' ρ} hp hv hO hbx hρ j hj=> ?_⟩
      ·simp only[Dh,List.map_append,List.mem_append]
       have a1:=h2 q
       have a2:=h3 q
       have a3:=g4 q
       simp only[List.mem_append]at a1 a2 a3
       constructor
       ·rintro ((h | h) | (h | h))
        ·exact .inl (a1 (.inl h))
        ·exact .inr (a3.1 (.inl h))
        ·exact .inl (a1 (.inr h))
        ·exact .inr (a3.1 (.inr h))
       ·rintro (h | h)
        ·rcases a2 h with h | h
         ·exact .inl (.inl h)
         ·exact .inr (.inl h)
        ·rcases a3.2 h with h | h
         ·exact .inl (.inr h)
         ·exact .inr (.inr h)
      ·cases j with
       | zero=>simpa using h4 hp (fun p hp=>hv p (List.mem_append_left _ hp)) (fun p hp=>hO p (List.mem_append_left _ hp)) hbx (fun p hp=>hρ p (List.mem_append_left _ hp))
       | succ j =>
         have:=g5 hp (fun p hp=>hv p (List.mem_append_right _ hp)) (fun p hp=>hO p (List.mem_append_right _ hp)) hbx (fun p hp=>hρ p (List.mem_append_right _ hp)) j (by simpa using hj)
         rw[show id+stride*(j+1)=id+stride+stride*j from by rw[Nat.mul_add];omega]
         simpa using this
end
