import Derived.Test.YtbnphelpndnnfaaGreatDoorA5
import Derived.Carry
set_option linter.all false
namespace Go.Proofs.YtbnphelpndnnfaaGreatDoor.Vm
open Classical MapKept
def isData:A->Bool
  | .bool _ | .int _ _ | .str _ | .sl _ | .nilp | .fn _ | .ump _=>true
  | _=>false
theorem Ty.cells_data: ∀(t:Ty) (v:t.Val),∀ c∈t.cells v,isData c=true
  | .nil,_,c,h=>by cases h
  | .bool r,v,c,h=>by
    rcases List.mem_cons.1 h with rfl | h
    ·rfl
    ·exact Ty.cells_data r _ c h
  | .int _ r,v,c,h=>by
    rcases List.mem_cons.1 h with rfl | h
    ·rfl
    ·exact Ty.cells_data r _ c h
  | .str r,v,c,h=>by
    rcases List.mem_cons.1 h with rfl | h
    ·rfl
    ·exact Ty.cells_data r _ c h
  | .sl _ _ r,v,c,h=>by
    rcases List.mem_cons.1 h with rfl | h
    ·rfl
    ·exact Ty.cells_data r _ c h
  | .ptr r,v,c,h=>by
    rcases List.mem_cons.1 h with rfl | h
    ·rfl
    ·exact Ty.cells_data r v c h
  | .fn r,v,c,h=>by
    rcases List.mem_cons.1 h with rfl | h
    ·rfl
    ·exact Ty.cells_data r _ c h
  | .mp _ _ r,v,c,h=>by
    rcases List.mem_cons.1 h with rfl | h
    ·rfl
    ·exact Ty.cells_data r _ c h
section
variable {P:Program} {C:Ctx} {V0:Nat->Value} {O0 O:Own} {w0 w:World} {m:Nat->Value} {st:St} {a:Act} {o:Oper}
theorem CRel.data {objs:List (Nat×Obj)} {v:Value} {c:A} (h:CRel O objs m w v c) (hd:isData c=true):VRel O w v c:=by
  cases c<;>first | exact h | exact h.elim | cases hd
theorem DRel.toT {objs:List (Nat×Obj)} {v:Value} {x:A} (h:DRel O w v x):TRel O objs m w v x/\T1 O objs m w v x:=by
  have cell: ∀ {v:Value} {x:A},VRel O w v x->CRel O objs m w v x:=fun h=>by cases h<;>first | exact .bool _ | exact .int _ _ | exact .str _ | exact .nil _ | exact .nilp | exact .fn _ | exact .nilfn | exact VRel.sl0 _ _ | (rename_i vs a1 a2 a3;exact VRel.sl vs a1 a2 a3) | (rename_i h hn;exact VRel.sln h hn)
  cases x with
  | agg cs =>
    obtain⟨vs,h1,h2,h3⟩:=h
    exact⟨⟨vs,h1,h2,fun j hj=>cell (h3 j hj)⟩,⟨vs,h1,h2,fun j hj=>cell (h3 j hj)⟩⟩
  | undef=>cases h
  | nils=>cases h
  | usl _ _ _=>cases h
  | ump _=>cases h
  | ptr _ _=>cases h
  | own _=>cases h
  | elt _=>cases h
  | oelt _ _ _=>cases h
  | tup _=>cases h
  | box _=>cases h
  | cbx _ _=>cases h
  | clo _ _=>cases h
  | bsl _ _=>cases h
  | osl _ _=>cases h
  | cnd _ _=>cases h
  | bool _=>exact⟨cell h,cell h⟩
  | int _ _=>exact⟨cell h,cell h⟩
  | str _=>exact⟨cell h,cell h⟩
  | sl _=>exact⟨cell h,cell h⟩
  | sln _=>exact⟨cell h,cell h⟩
  | nilp=>exact⟨cell h,cell h⟩
  | fn _=>exact⟨cell h,cell h⟩
theorem isOf_agg {xs:List A} (h:isOf (.agg xs)=true):xs.length≠1:=by
  intro h1
  obtain⟨c,rfl⟩:=List.length_eq_one_iff.1 h1
  cases h
theorem drel_of {O':Own} {objs:List (Nat×Obj)} {v:Value} {x:A} {cs:List A} (ho:isOf x=true) (hv:x.isVal=true) (hx:TRel O objs m w v x) (hl:cs.length=x.cells.length)
    (hrel: ∀ j,j<cs.length->VRel O' w (v.cells.getD j undef) (cs.getD j .undef)):DRel O' w v (ofCs cs):=by
  have one:CRel O objs m w v x->x.cells=[x]->DRel O' w v (ofCs cs):=by
    intro hc he
    rw[he]at hl
    obtain⟨c,rfl⟩:=List.length_eq_one_iff.1 hl
    have h0:=hrel 0 (by simp)
    rw[oneCell_cells hc.one]at h0
    have h0:VRel O' w v c:=h0
    show DRel O' w v c
    cases c<;>first | exact h0 | cases h0
  cases x with
  | agg xs =>
    obtain⟨vs,rfl,h2,h3⟩:=hx
    have hl:cs.length=xs.length:=hl
    rw[ofCs_agg (by rw[hl];exact isOf_agg ho)]
    exact⟨vs,rfl,by rw[h2,hl],hrel⟩
  | undef=>cases hv
  | tup _=>cases hv
  | usl _ _ _=>cases hv
  | ump _=>cases hv
  | box _=>cases hv
  | cbx _ _=>cases hv
  | cnd _ _=>cases hv
  | _=>exact one hx rfl
theorem getMap_run {r:Nat} {es:Array MapEntry} {ck:Nat} (hb:w.heap[r]? =some (.map es ck)):(getObj r).run P w= .ok (.map es ck) w:=by simp [getObj,Sem.run,hb]
theorem setMap_run {r:Nat} {es:Array MapEntry} {ck:Nat} (x:Go.Obj) (hb:w.heap[r]? =some (.map es ck)):(setObj r x).run P w= .ok () {w with heap:=w.heap.setIfInBounds r x}:=by simp [setObj,Sem.run,hb]
theorem mapOf_ok {t:Nat} {k:TI->TI->Dl} (hok:AllT (mapOf C t k).ok): ∃ ti kt et ta tb,C.T t=some ti/\ti.d= .map kt et/\C.T kt=some ta/\C.T et=some tb/\mapOf C t k=k ta tb:=by
  unfold mapOf at hok ⊢
  obtain⟨ti,ht,he⟩:=tiOf_ok hok
  rw[he]at hok ⊢
  split at hok
  ·rename_i kt et hd
   obtain⟨ta,hta,he⟩:=tiOf_ok hok
   rw[he]at hok
   obtain⟨tb,htb,he'⟩:=tiOf_ok hok
   exact⟨ti,kt,et,ta,tb,ht,hd,hta,htb,he.trans he'⟩
  ·exact(not_AllT_no hok).elim
theorem key_at {objs:List (Nat×Obj)} (hC:TOk P C) {kt:Nat} {ta tb:TI} (hta:C.T kt=some ta) {l:Mp} {i:A} {v:Value} (hi:TRel O objs m w v i) (hok:AllT (fitsM C ta tb l i)) :
    KeyAt P O w kt l.kt/\DRel O w v (ofCs (l.kt.cells (l.kt.mk i.cells).2))/\oneOk tb=true/\l.vt=tyl tb.cs:=by
  obtain⟨h1,hok⟩:=hok.cons
  obtain⟨h2,hok⟩:=hok.cons
  obtain⟨h3,hok⟩:=hok.cons
  obtain⟨h4,hok⟩:=hok.cons
  obtain⟨h5,hok⟩:=hok.cons
  obtain⟨h6,hok⟩:=hok.cons
  have h7:=hok.cons.1
  have h3:=of_decide_eq_true h3
  have hc:=Ty.mk_cells _ _ h7
  refine⟨by rw[h3];exact keyOk_at hC hta h1,?_,h2,of_decide_eq_true h4⟩
  obtain⟨g1,g2⟩:=hi.cells h5
  refine drel_of (objs:=objs) h6 h5 hi (by rw[hc]) (fun j hj=> ?_)
  have hd:=Ty.cells_data _ _ _ (List.getElem_mem hj)
  have e:(l.kt.cells (l.kt.mk i.cells).2).getD j .undef=(l.kt.cells (l.kt.mk i.cells).2)[j]:=by
    rw[List.getD_eq_getElem?_getD,List.getElem?_eq_getElem hj];rfl
  rw[<- e]at hd
  rw[hc]at hd hj ⊢
  exact(g2 j hj).data hd
theorem zero_drel {t:Nat} {tb:TI} (hT:TyIs P t tb) (hone:oneOk tb=true) (hp:tb.cs.all CK.plain=true): ∃ z,(zeroValue t).run P w= .ok z w/\DRel O w z (ofCs ((tyl tb.cs).cells (tyl tb.cs).zero)):=by
  obtain⟨i,z,h1,h2,h3,h4,h5,h6⟩:=hT.i
  refine⟨z,by simp [zeroValue,typeInfo,h1,h4],?_⟩
  rw[Ty.zero_cells _ hp]
  have hv:=zeroFits_vrel (O:=O) (w:=w) _ _ h5 hp
  have hl:=(zeroFits_rel (O:=O) (objs:=[]) (m:=fun _=>undef) (w:=w) _ _ h5).1
  have hone:tb.agg= !(Nat.beq tb.cs.length 1):=by simpa [oneOk]using hone
  rw[agg_isAggD,h6,nbeq]at hone
  cases z with
  | agg vs =>
    have hne:tb.cs.length≠1:=by simpa [isAggV]using hone
    rw[ofCs_agg (by simpa using hne)]
    refine⟨vs,rfl,?_,fun j hj=> ?_⟩
    ·have:vs.toList.length=tb.cs.length:=hl
     rw[Array.length_toList]at this;simpa using this
    ·have:=hv j (by simpa using hj)
     have e:(Value.agg vs).cells.toList.getD j undef=vs.getD j undef:=by
       show vs.toList.getD j undef=_
       rw[Array.getD_eq_getD_getElem?,List.getD_eq_getElem?_getD,Array.getElem?_toList]
     rw[e]at this;exact this
  | _ =>
    have he:tb.cs.length=1:=by simpa [isAggV]using hone
    obtain⟨c,hc⟩:=List.length_eq_one_iff.1 he
    rw[hc]at hv ⊢
    have:=hv 0 (by simp)
    have this:VRel O w _ c.fzero:=this
    show DRel O w _ c.fzero
    cases hcz:c.fzero<;>rw[hcz]at this<;>first | exact this | cases this
theorem lookup_pure {t:Nat} {x i:Operand} {c:Bool} {objs:List (Nat×Obj)} {fet:Fet} (hC:TOk P C) (hF:FOk O objs m w fet) (ho:o.op= .lookup t x i c) {x' i':A} (hx:TRel O objs m w (a.eval x) x') (hi:TRel O objs m w (a.eval i) i')
    (hok:AllT (lookupX C fet t c x' i').ok):Pure P O objs m a w o (lookupX C fet t c x' i'):=by
  unfold lookupX at hok ⊢
  obtain⟨ti,kt,et,ta,tb,ht,hd,hta,htb,he⟩:=mapOf_ok hok
  rw[he]at hok ⊢;clear he
  obtain⟨p,hp,he⟩:=optX_ok hok
  rw[he]at hok ⊢;clear he
  obtain⟨hok1,hok2⟩:=hok.append
  have hpl:=hok2.cons.1
  obtain⟨_,hv,hM⟩:=mp_at hF hx hp
  obtain⟨hK,hk,hone,hvt⟩:=key_at hC hta hi hok1
  obtain⟨r,es,ck,h1,h2,h3,h4,h5⟩:=hM.lists
  have hu:=(hC.is ht).d
  rw[hd]at hu
  have hfind:=hK.find (a.eval i) _ es.toList p.2.l hk h4 (fun i e p he hp=>(h5 i e p he hp).1)
  have hchk:=hK.check es.isEmpty (a.eval i) _ hk
  obtain⟨z,hz1,hz2⟩:=zero_drel (O:=O) (w:=w) (hC.is htb) hone hpl
  rw[<- hvt]at hz2
  have key: ∃ u,(Instr.lookup t (a.eval x) (a.eval i) c).run P w= .ok (if c then .tuple #[u,.bool (mget p.2.kt (p.2.kt.mk i'.cells).2 p.2.l).isSome]else u) w /\
      DRel O w u (ofCs (p.2.vt.cells ((mget p.2.kt (p.2.kt.mk i'.cells).2 p.2.l).getD p.2.vt.zero))):=by
    rw[hv,h1]
    rcases fnd_spec (k:=(p.2.kt.mk i'.cells).2) es.toList p.2.l 0 h4 with ⟨f1,f2,_,_⟩ | ⟨j,e,q,f1,f2,f3,f4,f5,_,_⟩
    ·refine⟨z,?_,by rw[f2];exact hz2⟩
     simp [Instr.lookup,run_underlying hu,getMap_run h2,hchk,hfind,f1,hz1,f2,Result.andThen]
    ·refine⟨e.val,?_,by rw[f5];exact(h5 j e q f2 f3).2⟩
     simp [Instr.lookup,run_underlying hu,getMap_run h2,hchk,hfind,f1,f5,Result.andThen]
  obtain⟨u,hrun,hu2⟩:=key
  refine⟨⟨if c then .tuple #[u,.bool (mget p.2.kt (p.2.kt.mk i'.cells).2 p.2.l).isSome]else u,?_,?_⟩,rfl,rfl,rfl⟩
  ·simp only[execOp,ho,Sem.run_bind,hrun,Result.andThen_ok,Sem.run_pure]
  ·show TRel O objs m w _ (lookedX _ _ _)
   unfold lookedX
   cases c with
   | false=>exact hu2.toT.1
   | true =>
     refine⟨#[u,.bool (mget p.2.kt (p.2.kt.mk i'.cells).2 p.2.l).isSome],rfl,rfl,fun j hj=> ?_⟩
     have hj:j<2:=hj
     rcases(show j=0\/j=1 by omega)with rfl | rfl
     ·exact hu2.toT.2
     ·exact VRel.bool _
theorem heap_set' {r:Nat} {x y:Go.Obj} (hb:w.heap[r]? =some x):(w.heap.setIfInBounds r y)[r]? =some y/\ ∀ b,b≠r->(w.heap.setIfInBounds r y)[b]? =w.heap[b]? :=by
  have hlt:=(Array.getElem?_eq_some_iff.1 hb).1
  refine⟨by rw[Array.getElem?_setIfInBounds,if_pos rfl,if_pos hlt],fun b hne=>by rw[Array.getElem?_setIfInBounds,if_neg (fun h=>hne h.symm)]⟩
theorem setMap_sim (hS:Sim V0 O0 w0 O m st a w) {q r ck ck':Nat} {es es':Array MapEntry} {l l':Mp} (hq:aget st.objs q=some (.mp l)) (hm:m q= .map (some r)) (hb:w.heap[r]? =some (.map es ck)) (hO:O r 0=some q) (hs:es'.size=l'.l.length)
    (hes: ∀(i:Nat) (p:l'.kt.Val×l'.vt.Val),l'.l[i]? =some p-> ∃ e,es'[i]? =some e/\DRel O w e.key (ofCs (l'.kt.cells p.1))/\DRel O w e.val (ofCs (l'.vt.cells p.2))) {d:Option Tmp} {v:Value} {x:A} (hx:d≠none-> ∀ O' objs' m' w',TRel O' objs' m' w' v x) :
    Sim V0 O0 w0 O m {tmps:=put st.tmps d x,objs:=aset st.objs q (.mp l')} (a.put d v) {w with heap:=w.heap.setIfInBounds r (.map es' ck')}:=by
  obtain⟨hb1,hb2⟩:=heap_set' (y:=.map es' ck') hb
  have hM:Moves O (fun i=>i=q) w {w with heap:=w.heap.setIfInBounds r (.map es' ck')}:=Moves.map rfl rfl rfl (by simp) hb hb1 hb2 hO rfl
  have hP:Passes O O (fun i=>i=q) w.heap.size:=⟨fun _ _ _ h=>h,fun _ _ _ _ h _=>h⟩
  have hpr:=hM.pres hP
  have hE:Exts st.objs m (aset st.objs q (.mp l')) m (fun _=>False):=by
    intro i y hy
    rw[aget_aset]at hy
    by_cases hi:i=q
    ·rw[if_pos hi]at hy;injection hy with hy;subst hy;subst hi
     exact .inr ⟨_,hq,rfl,rfl⟩
    ·rw[if_neg hi]at hy;exact .inr ⟨y,hy,rfl,rfl⟩
  refine hS.next (st':= {tmps:=put st.tmps d x,objs:=aset st.objs q (.mp l')}) (T:=fun i=>i=q) (Nw:=fun _=>False) hM hP (fun b k _ h=>h) hE (fun _ h=>h.elim) (fun r' hr=>by rw[hr,hq];rfl) (fun i y hy=> ?_) rfl (fun h=>hx h _ _ _ _)
  rw[aget_aset]at hy
  by_cases hi:i=q
  ·right
   rw[if_pos hi]at hy;injection hy with hy;subst hy;subst hi
   refine⟨(⟨r,es',ck',hm,hb1,hO,hs,fun j p hp=> ?_⟩:MRel O _ i (m i) l'),hS.ids i _ hq⟩
   obtain⟨e,k1,k2,k3⟩:=hes j p hp
   exact⟨e,k1,k2.pres hpr,k3.pres hpr⟩
  ·left
   rw[if_neg hi]at hy
   exact⟨hi,hy,rfl⟩
theorem makeMap_good {t:Nat} {r:Option Operand} {xs:List A} (hC:TOk P C) (hS:Sim V0 O0 w0 O m st a w) {d:Nat} (hd:o.dst=some d) (ho:o.op= .makeMap t r) (hr:xs.length=r.toArray.size) (hok:AllT (makeMapX C d t xs).ok) (hfr: ∀ p∈(makeMapX C d t xs).new,st.fresh p.1=true) :
    Good P V0 O0 w0 (apply st o (makeMapX C d t xs)) o a w:=by
  intro next Q hn
  unfold makeMapX at *
  obtain⟨ti,kt,et,ta,tb,ht,hd',hta,htb,he⟩:=mapOf_ok hok
  rw[he]at hok hfr hn;clear he
  have hx:xs=[]:=by simpa using hok.cons.1
  subst hx
  have hr0:r=none:=by cases r with | none=>rfl | some _=>simp at hr
  subst hr0
  have hfresh:=fresh_not (hfr _ List.mem_cons_self)
  have hrun:(execOp a.eval o).run P w= .ok (.value (.map (some w.heap.size))) (w.alloc (.map #[] 0)):=by
    have:(Instr.makeMap t none).run P w= .ok (.map (some w.heap.size)) (w.alloc (.map #[] 0)):=rfl
    simp only[execOp,ho,Option.map_none,Sem.run_bind,this,Result.andThen_ok,Sem.run_pure]
  unfold Oper.wp
  rw[hrun,Oper.upon_value,hd]
  let id:=b2 d
  let O':Own:=fun b k=>if b=w.heap.size then some id else O b k
  let m':Nat->Value:=fun i=>if i=id then .map (some w.heap.size)else m i
  have hlt: ∀ {b k},b<w.heap.size->O' b k=O b k:=fun hb=>if_neg (Nat.ne_of_lt hb)
  have hM:Moves O (fun _=>False) w (w.alloc (.map #[] 0)):=Moves.push _
  have hP:Passes O O' (fun _=>False) w.heap.size:=⟨fun b k hb h=>by rw[hlt hb];exact h,fun b k q hb h _=>by rw[hlt hb];exact h⟩
  let ob:Vm.Obj:=.mp ⟨tyl ta.cs,tyl tb.cs,[]⟩
  have hget: ∀ i y,aget (aset st.objs id ob) i=some y->(i=id/\y=ob)\/(i≠id/\aget st.objs i=some y):=by
    intro i y hy
    rw[aget_aset]at hy
    by_cases hi:i=id
    ·rw[if_pos hi]at hy;injection hy with hy;exact .inl ⟨hi,hy.symm⟩
    ·rw[if_neg hi]at hy;exact .inr ⟨hi,hy⟩
  have hE:Exts st.objs m (aset st.objs id ob) m' (fun i=>i=id):=by
    intro i y hy
    rcases hget i y hy with ⟨h1,_⟩ | ⟨h1,h2⟩
    ·exact .inl h1
    ·exact .inr ⟨y,h2,rfl,if_neg h1⟩
  refine hn O' m' _ _ ?_
  have happ: ∀ ok,apply st o {ok:=ok,val:=.own (b2 d),new:=[(b2 d,ob)]}= {tmps:=put st.tmps (some d) (.own id),objs:=aset st.objs id ob}:=by
    intro ok;unfold apply;rw[hd];rfl
  rw[happ]
  refine hS.next (st':= {tmps:=put st.tmps (some d) (.own id),objs:=aset st.objs id ob}) (x:=.own id) (T:=fun _=>False) (Nw:=fun i=>i=id) hM hP (fun b k hb h=>by rw[hlt hb]at h;exact h) hE (fun n hn=>by rw[hn];exact hfresh.both) (fun _ h=>h.elim) (fun i y hy=> ?_) rfl (fun _=> ?_)
  ·rcases hget i y hy with ⟨h1,h2⟩ | ⟨h1,h2⟩
   ·right
    subst h1;subst h2
    refine⟨(⟨w.heap.size,#[],0,if_pos rfl,heap_new _ _,if_pos rfl,rfl,fun i p hp=>by cases hp⟩:MRel O' _ id (m' id) _),hfresh.ne⟩
   ·exact .inl ⟨fun h=>h,h2,if_neg h1⟩
  ·refine⟨rfl,?_⟩
   show match (aget (aset st.objs id ob) id).map Obj.shp with | some (.arr _ _)=>_ | some .mp=>_ | _=>True
   rw[aget_aset,if_pos rfl]
   exact(if_pos rfl:m' id=_).symm
theorem mem_lset {α :Type} {l:List α} {j:Nat} {x: α} {i:Nat} {p: α} (h:(l.set j x)[i]? =some p):(i=j/\p=x/\j<l.length)\/(i≠j/\l[i]? =some p):=by
  rw[List.getElem?_set]at h
  by_cases hi:j=i
  ·rw[if_pos hi]at h
   split at h
   ·injection h with h;exact .inl ⟨hi.symm,h.symm,by omega⟩
   ·cases h
  ·rw[if_neg hi]at h;exact .inr ⟨fun e=>hi e.symm,h⟩
theorem update_good {t:Nat} {x i y:Operand} (hC:TOk P C) (hS:Sim V0 O0 w0 O m st a w) (hd:o.dst=none) (ho:o.op= .mapUpdate t x i y\/o.op= .insert t x i y) {fet:Fet} (hf:Fet' st.objs fet) {x' i' y':A} (hx:TRel O st.objs m w (a.eval x) x') (hi:TRel O st.objs m w (a.eval i) i') (hy:TRel O st.objs m w (a.eval y) y')
    (hok:AllT (updateX C fet t x' i' y').ok):Good P V0 O0 w0 (apply st o (updateX C fet t x' i' y')) o a w:=by
  intro next Q hn
  have hF:FOk O st.objs m w fet:=fun q x h=>⟨hf q x h,hS.objs q x (hf q x h)⟩
  unfold updateX at *
  obtain⟨ti,kt,et,ta,tb,ht,hd',hta,htb,he⟩:=mapOf_ok hok
  rw[he]at hok hn;clear he
  obtain⟨p,hp,he⟩:=optX_ok hok
  rw[he]at hok hn;clear he
  obtain⟨hokA,hokB⟩:=hok.append
  have hmk:=hokB.cons.1
  obtain⟨hokA,hokP⟩:=hokA.append
  obtain⟨hok1,hokV⟩:=hokA.append
  obtain⟨hv1,hokV⟩:=hokV.cons
  have hv2:=hokV.cons.1
  obtain⟨hq,hv,hM⟩:=mp_at hF hx hp
  obtain⟨hK,hk,hone,hvt⟩:=key_at hC hta hi hok1
  obtain⟨hyc1,hyc2⟩:=hy.cells hv1
  obtain⟨g1,g2,g3,g4⟩:=purs_spec (O:=O) (m:=m) (w:=w) hf tb.cs y'.cells (fun j=>(a.eval y).cells.getD j undef) hyc2 hokP
  generalize hpu:purs fet tb.cs y'.cells=pu at *
  obtain⟨O1,hS1,hp1,hle1,hv1',hE1,hk1⟩:=hS.freezes _ g3
  have hNR:NR st.objs p.1:=.of hq (fun _ _ _ h=>by cases h)
  have hq1:aget (setAll st.objs pu.2.2) p.1=some (.mp p.2):=by
    rw[aget_setAll_not _ _ _ (fun z hz e=> ?_)]
    ·exact hq
    ·obtain⟨e',f',l',h1,_⟩:=g3 z hz
     rw[e]at h1;exact hNR _ _ _ h1
  obtain⟨r,es,ck,h1,h2,h3,h4,h5⟩:=(show MRel O1 w p.1 (m p.1) p.2 from hS1.objs p.1 _ hq1).lists
  have hu:=(hC.is ht).d
  rw[hd']at hu
  have hM0:=hM.lists
  obtain⟨r0,es0,ck0,k1,k2,k3,k4,k5⟩:=hM0
  rw[h1]at k1;injection k1 with k1;injection k1 with k1;subst k1
  rw[h2]at k2;injection k2 with k2;injection k2 with k2 k2';subst k2;subst k2'
  have hfind:=hK.find (a.eval i) _ es.toList p.2.l hk k4 (fun i e p he hp=>(k5 i e p he hp).1)
  have hchk:=hK.check false (a.eval i) _ hk
  have hk':DRel O1 w (a.eval i) (ofCs (p.2.kt.cells (p.2.kt.mk i'.cells).2)):=hk.pres hp1
  have hcells:=Ty.mk_cells _ _ hmk
  have hval:DRel O1 w (a.eval y) (ofCs (p.2.vt.cells (p.2.vt.mk pu.2.1).2)):=by
    rw[hcells]
    refine drel_of (objs:=st.objs) hv2 hv1 hy (by rw[g1,g2]) (fun j hj=>g4 hp1 hv1' j (by rw[<- g1];exact hj))
  have happ: ∀ ok l',apply st o {ok:=ok,val:=.undef,upd:=pu.2.2++[(p.1,.mp l')]}= {tmps:=put st.tmps none .undef,objs:=aset (setAll st.objs pu.2.2) p.1 (.mp l')}:=by
    intro ok l'
    unfold apply
    rw[hd]
    have: ∀(u:List (Nat×Vm.Obj)) (l:List (Nat×Vm.Obj)) n z,setAll l (u++[(n,z)])=aset (setAll l u) n z:=by
      intro u
      induction u with
      | nil=>intro l n z;rfl
      | cons q u ih=>intro l n z;exact ih _ _ _
    show St.mk _ (setAll (delAll (setAll st.objs (pu.2.2++[(p.1,.mp l')])) []) [])=_
    rw[this];rfl
  rcases fnd_spec (k:=(p.2.kt.mk i'.cells).2) es.toList p.2.l 0 k4 with ⟨f1,_,f3,_⟩ | ⟨j,e,q,f1,f2,f3,f4,_,f6,_⟩
  ·have hrun:(execOp a.eval o).run P w= .ok .skip {w with heap:=w.heap.setIfInBounds r (.map (es.push {key:=a.eval i,val:=a.eval y,born:=ck}) (ck+1))}:=by
     have:(Instr.mapUpdate t (a.eval x) (a.eval i) (a.eval y)).run P w= .ok () {w with heap:=w.heap.setIfInBounds r (.map (es.push {key:=a.eval i,val:=a.eval y,born:=ck}) (ck+1))}:=by
       rw[hv,h1]
       simp [Instr.mapUpdate,run_underlying hu,getMap_run h2,hchk,hfind,f1,setMap_run _ h2,Result.andThen]
     rcases ho with ho | ho<;>simp only[execOp,ho,Sem.run_bind,this,Result.andThen_ok,Sem.run_pure]
   unfold Oper.wp
   rw[hrun,Oper.upon_skip,hd]
   refine hn O1 m _ _ ?_
   rw[happ]
   refine setMap_sim hS1 (d:=none) (v:=undef) hq1 h1 h2 h3 (by rw[f3,Array.size_push,List.length_append,<- k4,Array.length_toList];rfl) (fun i0 p0 hp0=> ?_) (fun h=>absurd rfl h)
   have hp0:(mput p.2.kt (p.2.kt.mk i'.cells).2 (p.2.vt.mk pu.2.1).2 p.2.l)[i0]? =some p0:=hp0
   rw[f3]at hp0
   have hsz:es.size=p.2.l.length:=by rw[<- k4,Array.length_toList]
   rcases Nat.lt_or_ge i0 p.2.l.length with hlt | hge
   ·rw[List.getElem?_append_left hlt]at hp0
    have hlt':i0<es.size:=by omega
    have hes:es.toList[i0]? =some es[i0]:=by rw[Array.getElem?_toList,Array.getElem?_eq_getElem hlt']
    refine⟨es[i0],by rw[Array.getElem?_push,if_neg (by omega),Array.getElem?_eq_getElem hlt'],h5 i0 _ p0 hes hp0⟩
   ·rw[List.getElem?_append_right hge]at hp0
    have h0:i0 - p.2.l.length=0:=by
      rcases Nat.eq_zero_or_pos (i0 - p.2.l.length)with h | h
      ·exact h
      ·rw[List.getElem?_eq_none (by show 1<=_;omega)]at hp0;cases hp0
    rw[h0]at hp0
    injection hp0 with hp0
    subst hp0
    exact⟨_,by rw[Array.getElem?_push,if_pos (by omega)],hk',hval⟩
  ·have hstay:=hK.stays (a.eval i) e.key _ hk (by rw[<- f4];exact(k5 j e q f2 f3).1)
   have f2':es[j]? =some e:=by rw[<- Array.getElem?_toList];exact f2
   have hrun:(execOp a.eval o).run P w= .ok .skip {w with heap:=w.heap.setIfInBounds r (.map (es.modify j fun e=> {e with key:=a.eval i,val:=a.eval y}) ck)}:=by
     have:(Instr.mapUpdate t (a.eval x) (a.eval i) (a.eval y)).run P w= .ok () {w with heap:=w.heap.setIfInBounds r (.map (es.modify j fun e=> {e with key:=a.eval i,val:=a.eval y}) ck)}:=by
       rw[hv,h1]
       simp [Instr.mapUpdate,run_underlying hu,getMap_run h2,hchk,hfind,f1,f2',hstay,setMap_run _ h2,Result.andThen]
     rcases ho with ho | ho<;>simp only[execOp,ho,Sem.run_bind,this,Result.andThen_ok,Sem.run_pure]
   unfold Oper.wp
   rw[hrun,Oper.upon_skip,hd]
   refine hn O1 m _ _ ?_
   rw[happ]
   refine setMap_sim hS1 (d:=none) (v:=undef) hq1 h1 h2 h3 (by rw[f6,Array.size_modify,List.length_set,<- k4,Array.length_toList]) (fun i0 p0 hp0=> ?_) (fun h=>absurd rfl h)
   have hp0:(mput p.2.kt (p.2.kt.mk i'.cells).2 (p.2.vt.mk pu.2.1).2 p.2.l)[i0]? =some p0:=hp0
   rw[f6]at hp0
   rcases mem_lset hp0 with ⟨q1,q2,_⟩ | ⟨q1,q2⟩
   ·subst q1;subst q2
    refine⟨_,by rw[Array.getElem?_modify,if_pos rfl,f2'];rfl,?_,hval⟩
    dsimp only
    rw[f4];exact hk'
   ·have hlt:i0<es.size:=by
      have:=(List.getElem?_eq_some_iff.1 q2).1
      rw[<- k4,Array.length_toList]at this;exact this
    have hes:es.toList[i0]? =some es[i0]:=by rw[Array.getElem?_toList,Array.getElem?_eq_getElem hlt]
    exact⟨es[i0],by rw[Array.getElem?_modify,if_neg (fun h=>q1 h.symm),Array.getElem?_eq_getElem hlt],h5 i0 _ p0 hes q2⟩
theorem delete_good {t:Nat} {x i:Operand} {c:Call} (hC:TOk P C) (hS:Sim V0 O0 w0 O m st a w) (ho:o.op= .call c) (hcal:c.callee= .builtin .delete) (hargs:c.args= #[x,i]) {ts:List Nat} (hts:c.argTypes.toList=t::ts) {fet:Fet} (hf:Fet' st.objs fet) {x' i':A} (hx:TRel O st.objs m w (a.eval x) x') (hi:TRel O st.objs m w (a.eval i) i')
    (hok:AllT (deleteX C fet t x' i').ok):Good P V0 O0 w0 (apply st o (deleteX C fet t x' i')) o a w:=by
  intro next Q hn
  have hF:FOk O st.objs m w fet:=fun q x h=>⟨hf q x h,hS.objs q x (hf q x h)⟩
  unfold deleteX at *
  obtain⟨ti,kt,et,ta,tb,ht,hd',hta,htb,he⟩:=mapOf_ok hok
  rw[he]at hok hn;clear he
  obtain⟨p,hp,he⟩:=optX_ok hok
  rw[he]at hok hn;clear he
  obtain⟨hq,hv,hM⟩:=mp_at hF hx hp
  obtain⟨hK,hk,hone,hvt⟩:=key_at hC hta hi hok
  obtain⟨r,es,ck,h1,h2,h3,h4,h5⟩:=hM.lists
  have hu:=(hC.is ht).d
  rw[hd']at hu
  have hts0:c.argTypes[0]? =some t:=by rw[<- Array.getElem?_toList,hts];rfl
  have hfind:=hK.find (a.eval i) _ es.toList p.2.l hk h4 (fun i e p he hp=>(h5 i e p he hp).1)
  have hchk:=hK.check es.isEmpty (a.eval i) _ hk
  have happ: ∀ ok l',apply st o {ok:=ok,val:=.tup [],upd:=[(p.1,.mp l')]}= {tmps:=put st.tmps o.dst (.tup []),objs:=aset st.objs p.1 (.mp l')}:=by
    intro ok l';rfl
  have hT: ∀(O':Own) (objs':List (Nat×Vm.Obj)) (m':Nat->Value) (w':World),TRel O' objs' m' w' (.tuple #[]) (.tup []):=fun _ _ _ _=>⟨#[],rfl,rfl,fun j hj=>by cases hj⟩
  have main: ∀(es':Array MapEntry),(Builtin.delete_ c.argTypes o.type #[a.eval x,a.eval i]).run P w= .ok (.tuple #[]) {w with heap:=w.heap.setIfInBounds r (.map es' ck)}->es'.size=(mdel p.2.kt (p.2.kt.mk i'.cells).2 p.2.l).length ->
      (∀(i0:Nat) (p0:p.2.kt.Val×p.2.vt.Val),(mdel p.2.kt (p.2.kt.mk i'.cells).2 p.2.l)[i0]? =some p0-> ∃ e,es'[i0]? =some e/\DRel O w e.key (ofCs (p.2.kt.cells p0.1))/\DRel O w e.val (ofCs (p.2.vt.cells p0.2)))->o.wp P a w next Q:=by
    intro es' hr hs he
    have hrun:(execOp a.eval o).run P w= .ok (.value (.tuple #[])) {w with heap:=w.heap.setIfInBounds r (.map es' ck)}:=by
      simp [execOp,ho,resolve,hcal,hargs,invoke,builtin,hr]
    unfold Oper.wp
    rw[hrun,Oper.upon_value]
    refine hn O m _ _ ?_
    rw[happ]
    exact setMap_sim (l':=⟨p.2.kt,p.2.vt,mdel p.2.kt (p.2.kt.mk i'.cells).2 p.2.l⟩) hS hq (by rw[<- h1]) h2 h3 hs he (fun _=>hT)
  have hsz:es.size=p.2.l.length:=by rw[<- h4,Array.length_toList]
  rcases fnd_spec (k:=(p.2.kt.mk i'.cells).2) es.toList p.2.l 0 h4 with ⟨f1,_,_,f3⟩ | ⟨j,e,q,f1,f2,f3,f4,_,_,f6⟩
  ·refine main es ?_ (by rw[f3];exact hsz) (fun i0 p0 hp0=> ?_)
   ·rw[hv,h1]
    simp [Builtin.delete_,hts0,run_underlying hu,getMap_run h2,hchk,hfind,f1,setMap_run _ h2,Result.andThen]
   ·rw[f3]at hp0
    have hlt:i0<es.size:=by
      have:=(List.getElem?_eq_some_iff.1 hp0).1
      omega
    have hes:es.toList[i0]? =some es[i0]:=by rw[Array.getElem?_toList,Array.getElem?_eq_getElem hlt]
    exact⟨es[i0],Array.getElem?_eq_getElem hlt,h5 i0 _ p0 hes hp0⟩
  ·have hj:j<es.size:=by
     have:=(List.getElem?_eq_some_iff.1 f2).1
     simpa using this
   have hel:(es.eraseIdxIfInBounds j).toList=es.toList.eraseIdx j:=by
     unfold Array.eraseIdxIfInBounds
     rw[dif_pos hj];simp
   refine main (es.eraseIdxIfInBounds j) ?_ ?_ (fun i0 p0 hp0=> ?_)
   ·rw[hv,h1]
    simp [Builtin.delete_,hts0,run_underlying hu,getMap_run h2,hchk,hfind,f1,setMap_run _ h2,Result.andThen]
   ·rw[f6,<- Array.length_toList,hel,List.length_eraseIdx,List.length_eraseIdx,h4]
   ·rw[f6]at hp0
    rw[List.getElem?_eraseIdx]at hp0
    have key: ∀ i1:Nat,p.2.l[i1]? =some p0->(es.toList.eraseIdx j)[i0]? =es.toList[i1]? -> ∃ e,(es.eraseIdxIfInBounds j)[i0]? =some e/\DRel O w e.key (ofCs (p.2.kt.cells p0.1))/\DRel O w e.val (ofCs (p.2.vt.cells p0.2)):=by
      intro i1 hl hh
      have hlt:i1<es.size:=by
        have:=(List.getElem?_eq_some_iff.1 hl).1
        omega
      have hes:es.toList[i1]? =some es[i1]:=by rw[Array.getElem?_toList,Array.getElem?_eq_getElem hlt]
      exact⟨es[i1],by rw[<- Array.getElem?_toList,hel,hh,hes],h5 i1 _ p0 hes hl⟩
    split at hp0
    ·rename_i hlt;exact key i0 hp0 (by rw[List.getElem?_eraseIdx,if_pos hlt])
    ·rename_i hlt;exact key (i0+1) hp0 (by rw[List.getElem?_eraseIdx,if_neg hlt])
end
end Go.Proofs.YtbnphelpndnnfaaGreatDoor.Vm
namespace Go.Proofs.YtbnphelpndnnfaaGreatDoor.Vm
open Classical
def IC (O:Own) (w:World) (id:Nat) (v:Value):A->Prop
  | .usl z e l=>ORel O [] (fun _=>v) w id (.arr e z l)
  | .box cs=> ∃ b base,v= .pointer (some (at' b base))/\ ∀ j,j<cs.length->O b (base+j)=some id/\w.frozen? (at' b (base+j))=false/\ ∃ u,w.cell? (at' b (base+j))=some u/\VRel O w u (cs.getD j .undef)
  | a=>VRel O w v a
def IR (O:Own) (w:World) (id:Nat) (v:Value):A->Prop
  | .agg cs=> ∃ vs:Array Value,v= .agg vs/\vs.size=cs.length/\ ∀ j,j<cs.length->IC O w (id+1+j) (vs.getD j undef) (cs.getD j .undef)
  | .box cs=> ∃ b base,v= .pointer (some (at' b base))/\ ∀ j,j<cs.length->O b (base+j)=some id/\w.frozen? (at' b (base+j))=false/\ ∃ u,w.cell? (at' b (base+j))=some u/\IC O w (id+1+j) u (cs.getD j .undef)
  | .cbx k cs=> ∃ b base,Leads O w k v (.pointer (some (at' b base)))/\ ∀ j,j<cs.length->O b (base+j)=some id/\w.frozen? (at' b (base+j))=false/\ ∃ u,w.cell? (at' b (base+j))=some u/\IC O w (id+1+j) u (cs.getD j .undef)
  | .ump l=>MRel O w id v l
  | a=>IC O w id v a
section
variable {P:Program} {C:Ctx} {V0:Nat->Value} {O0 O:Own} {w0 w:World} {m:Nat->Value} {st:St} {a:Act} {o:Oper}
theorem VRel.ic {id:Nat} {v:Value} {x:A} (h:VRel O w v x):IC O w id v x:=by cases h<;>first | exact .bool _ | exact .int _ _ | exact .str _ | exact .nil _ | exact .nilp | exact .fn _ | exact .nilfn | exact VRel.sl0 _ _ | (rename_i vs a1 a2 a3;exact VRel.sl vs a1 a2 a3) | (rename_i h hn;exact VRel.sln h hn)
def relab (O:Own) (ρ :Nat->Option Nat):Own:=fun b k=>match O b k with
  | none=>none
  | some o=>match ρ o with
    | some i=>some i
    | none=>some 255
theorem relab_none {ρ :Nat->Option Nat} {b k:Nat}:relab O ρ b k=none↔O b k=none:=by grind[relab]
theorem relab_some {ρ :Nat->Option Nat} {b k o i:Nat} (h:O b k=some o) (hr: ρ o=some i):relab O ρ b k=some i:=by
  unfold relab;rw[h];simp [hr]
theorem relab_pres (ρ :Nat->Option Nat):Pres O w (relab O ρ) w:=fun _ _ _ h hc=>⟨relab_none.2 h,hc⟩
theorem ORel.relab {ρ :Nat->Option Nat} {q i e:Nat} {z:Bool} {l:Sl} {objs objs':List (Nat×Obj)} {m m':Nat->Value} (h:ORel O objs m w q (.arr e z l)) (hr: ρ q=some i) (hm:m' i=m q) :
    ORel (relab O ρ) objs' m' w i (.arr e z l):=by
  refine⟨h.1,?_⟩
  rcases h.2 with ⟨h1,h2,h3⟩ | ⟨h1,g,cap,cur,h2,h3,h4,h5,h6,h7,h8,h9⟩
  ·exact .inl ⟨h1,h2,by rw[hm];exact h3⟩
  ·refine .inr ⟨h1,g,cap,cur,by rw[hm];exact h2,h3,h4,h5,h6,fun r j hr' hj=> ?_,fun k hk hge=>relab_some (h8 k hk hge) hr,fun k hk=> ?_⟩
   ·obtain⟨u,h10,h11⟩:=h7 r j hr' hj
    exact⟨u,h10,h11.pres (relab_pres ρ)⟩
   ·have:=h9 k hk
    cases z with
    | true=>exact relab_none.2 this
    | false=>exact relab_some this hr
theorem ORel.keep {O':Own} {q e:Nat} {l:Sl} {objs objs':List (Nat×Obj)} {m:Nat->Value} (h:ORel O objs m w q (.arr e false l)) (hp:Pres O w O' w) (hk: ∀ b k,O b k=some q->O' b k=some q):ORel O' objs' m w q (.arr e false l):=by
  refine⟨h.1,?_⟩
  rcases h.2 with h0 | ⟨h1,g,cap,cur,h2,h3,h4,h5,h6,h7,h8,h9⟩
  ·exact .inl h0
  ·refine .inr ⟨h1,g,cap,cur,h2,h3,h4,h5,h6,fun r j hr' hj=> ?_,fun k a b=>hk _ _ (h8 k a b),fun k a=>hk _ _ (h9 k a)⟩
   obtain⟨u,h10,h11⟩:=h7 r j hr' hj
   exact⟨u,h10,h11.pres hp⟩
theorem handCells_spec {W:Prop} {fet:Fet} (hf:Fet' st.objs fet) (hS: ∀ q y,aget st.objs q=some y->ORel O st.objs m w q y): ∀(ks:List (Bool×CK)) (cs:List A) (id:Nat) (f:Nat->Value),(ks.any wC=true->W)->(∀ j,j<cs.length->CRel O st.objs m w (f j) (cs.getD j .undef))->AllT (handCells fet ks cs).1 ->
    (handCells fet ks cs).2.1.length=ks.length/\cs.length=ks.length/\Frz st.objs (handCells fet ks cs).2.2.1/\(handCells fet ks cs).2.2.2=(namesC id ks cs).map (·.1) /\
    ∀ {O':Own} {objs':List (Nat×Obj)} {ρ :Nat->Option Nat},Pres O w O' w->(∀ p∈(handCells fet ks cs).2.2.1,∀ e l,p.2= .arr e true l->VRel O' w (m p.1) (.sl l)) ->
      (∀ p∈(handCells fet ks cs).2.2.1,ORel O' objs' m w p.1 p.2)->(∀ b k q,O b k=some q->(NR st.objs q\/W)->O' b k=some q)->(∀ p∈namesC id ks cs,ρ p.1=some p.2) ->
      ∀ j,j<ks.length->IC (relab O' ρ) w (id+j) (f j) ((handCells fet ks cs).2.1.getD j .undef):=by
  intro ks
  induction ks with
  | nil =>
    intro cs id f _ _ hok
    cases cs with
    | nil=>exact⟨rfl,rfl,(fun p hp=>by simp [handCells]at hp),rfl,fun _ _ _ _ _ j hj=>by simp at hj⟩
    | cons _ _=>have:=hok false (by simp [handCells]);cases this
  | cons k ks ih =>
    intro cs id f hW h hok
    obtain⟨u,k⟩:=k
    cases cs with
    | nil=>have:=hok false (by cases u<;>simp [handCells]);cases this
    | cons c cs =>
      have hrest:=fun hok2=>ih cs (id+1) (fun j=>f (j+1)) (fun h=>hW (by rw[List.any_cons,h,Bool.or_true])) (fun j hj=>by simpa using h (j+1) (by simpa using hj)) hok2
      cases u with
      | false =>
        simp only[handCells]at hok ⊢
        obtain⟨hok1,hok2⟩:=hok.append
        obtain⟨h1,h2⟩:=pur_spec hf (h 0 (by simp)) hok1
        obtain⟨h3,h4,h5,h6,h7⟩:=hrest hok2
        have hnames:namesC id ((false,k)::ks) (c::cs)=namesC (id+1) ks cs:=by cases c<;>rfl
        refine⟨by simp [h3],by simp [h4],h1.append h5,by rw[hnames];exact h6,fun {O' objs' ρ} hp hv hO hbx hρ j hj=> ?_⟩
        rw[hnames]at hρ
        cases j with
        | zero =>
          have hvr:=(h2 hp (fun p hp=>hv p (List.mem_append_left _ hp))).pres (relab_pres ρ)
          exact hvr.ic
        | succ j =>
          have:=h7 hp (fun p hp=>hv p (List.mem_append_right _ hp)) (fun p hp=>hO p (List.mem_append_right _ hp)) hbx hρ j (by simpa using hj)
          rw[show id+(j+1)=id+1+j from by omega]
          simpa using this
      | true =>
        cases k with
        | sl e sz =>
          cases c with
          | own q =>
            simp only[handCells]at hok ⊢
            cases hg:aget fet q with
            | none=>rw[hg]at hok;have:=hok false (by simp);cases this
            | some x =>
              cases x with
              | box _=>rw[hg]at hok;have:=hok false (by simp);cases this
              | mp _=>rw[hg]at hok;have:=hok false (by simp);cases this
              | arr e' fz l =>
                rw[hg]at hok
                dsimp only at hok ⊢
                obtain⟨hok1,hok2⟩:=hok.append
                obtain⟨e1,e2⟩:=hok1.cons
                have e1:=Nat.eq_of_beq_eq_true e1
                subst e1
                obtain⟨h3,h4,h5,h6,h7⟩:=hrest hok2
                have hq:=hf q _ hg
                refine⟨by simp [h3],by simp [h4],fun p hp=> ?_,?_,fun {O' objs' ρ} hp hv hO hbx hρ j hj=> ?_⟩
                ·rcases List.mem_cons.1 hp with rfl | hp
                 ·exact⟨e,fz,l,hq,rfl⟩
                 ·exact h5 p hp
                ·simp only[namesC,List.map_cons,h6]
                ·cases j with
                 | zero =>
                   have hc:CRel O st.objs m w (f 0) (.own q):=h 0 (by simp)
                   have hc:=hc.2
                   rw[hq]at hc
                   simp only[Option.map_some,Obj.shp]at hc
                   have:=hO _ List.mem_cons_self
                   exact this.relab (objs':=[]) (m':=fun _=>f 0) (hρ (q,id) List.mem_cons_self) hc
                 | succ j =>
                   have:=h7 hp (fun p hp=>hv p (List.mem_cons_of_mem _ hp)) (fun p hp=>hO p (List.mem_cons_of_mem _ hp)) hbx (fun p hp=>hρ p (List.mem_cons_of_mem _ hp)) j (by simpa using hj)
                   rw[show id+(j+1)=id+1+j from by omega]
                   simpa using this
          | nils =>
            simp only[handCells]at hok ⊢
            obtain⟨h3,h4,h5,h6,h7⟩:=hrest hok
            have hnames:namesC id ((true,.sl e sz)::ks) (.nils::cs)=namesC (id+1) ks cs:=rfl
            refine⟨by simp [h3],by simp [h4],h5,by rw[hnames];exact h6,fun {O' objs' ρ} hp hv hO hbx hρ j hj=> ?_⟩
            rw[hnames]at hρ
            cases j with
            | zero =>
              have hc:CRel O st.objs m w (f 0) .nils:=h 0 (by simp)
              have hc:f 0= .slice none 0 0:=hc
              show ORel _ [] (fun _=>f 0) w _ (.arr e true ⟨sz,[]⟩)
              exact⟨by simp [Sl.es],.inl ⟨trivial,rfl,hc⟩⟩
            | succ j =>
              have:=h7 hp hv hO hbx hρ j (by simpa using hj)
              rw[show id+(j+1)=id+1+j from by omega]
              simpa using this
          | _=>have:=hok false (by simp [handCells]);cases this
        | sln e sz =>
          cases c with
          | own q =>
            simp only[handCells]at hok ⊢
            cases hg:aget fet q with
            | none=>rw[hg]at hok;have:=hok false (by simp);cases this
            | some x =>
              cases x with
              | box _=>rw[hg]at hok;have:=hok false (by simp);cases this
              | mp _=>rw[hg]at hok;have:=hok false (by simp);cases this
              | arr e' fz l =>
                rw[hg]at hok
                dsimp only at hok ⊢
                obtain⟨hok1,hok2⟩:=hok.append
                obtain⟨e1,e2⟩:=hok1.cons
                obtain⟨_,e3⟩:=e2.cons
                have e3:fz=false:=by simpa using e3.cons.1
                subst e3
                have e1:=Nat.eq_of_beq_eq_true e1
                subst e1
                obtain⟨h3,h4,h5,h6,h7⟩:=hrest hok2
                have hq:=hf q _ hg
                refine⟨by simp [h3],by simp [h4],h5,?_,fun {O' objs' ρ} hp hv hO hbx hρ j hj=> ?_⟩
                ·simp only[namesC,List.map_cons,h6]
                ·cases j with
                 | zero =>
                   have hc:CRel O st.objs m w (f 0) (.own q):=h 0 (by simp)
                   have hc:=hc.2
                   rw[hq]at hc
                   simp only[Option.map_some,Obj.shp]at hc
                   exact(ORel.keep (objs':=st.objs) (hS q _ hq) hp fun b k hb=>hbx b k q hb (.inr (hW rfl))).relab (objs':=[]) (m':=fun _=>f 0) (hρ (q,id) List.mem_cons_self) hc
                 | succ j =>
                   have:=h7 hp hv hO hbx (fun p hp=>hρ p (List.mem_cons_of_mem _ hp)) j (by simpa using hj)
                   rw[show id+(j+1)=id+1+j from by omega]
                   simpa using this
          | nils =>
            simp only[handCells]at hok ⊢
            obtain⟨h3,h4,h5,h6,h7⟩:=hrest hok
            have hnames:namesC id ((true,.sln e sz)::ks) (.nils::cs)=namesC (id+1) ks cs:=rfl
            refine⟨by simp [h3],by simp [h4],h5,by rw[hnames];exact h6,fun {O' objs' ρ} hp hv hO hbx hρ j hj=> ?_⟩
            rw[hnames]at hρ
            cases j with
            | zero =>
              have hc:CRel O st.objs m w (f 0) .nils:=h 0 (by simp)
              have hc:f 0= .slice none 0 0:=hc
              show ORel _ [] (fun _=>f 0) w _ (.arr e false ⟨sz,[]⟩)
              exact⟨by simp [Sl.es],.inl ⟨trivial,rfl,hc⟩⟩
            | succ j =>
              have:=h7 hp hv hO hbx hρ j (by simpa using hj)
              rw[show id+(j+1)=id+1+j from by omega]
              simpa using this
          | _=>have:=hok false (by simp [handCells]);cases this
        | bx t =>
          cases c with
          | ptr q off =>
            simp only[handCells]at hok ⊢
            cases hg:box? fet q with
            | none=>rw[hg]at hok;have:=hok false (by simp);cases this
            | some zs =>
              rw[hg]at hok
              dsimp only at hok ⊢
              obtain⟨hok0,hok1⟩:=hok.cons
              obtain⟨hok1,hok2⟩:=hok1.append
              have hok0:=Nat.eq_of_beq_eq_true hok0
              subst hok0
              obtain⟨h3,h4,h5,h6,h7⟩:=hrest hok2
              have hq:=hf q _ (box?_some hg)
              obtain⟨b,base,g1,g2⟩:=hS q _ hq
              have hv0:f 0= .pointer (some (at' b base)):=by
                have hc:CRel O st.objs m w (f 0) (.ptr q 0):=h 0 (by simp)
                have hc:=hc.2
                rw[hq]at hc
                simp only[Option.map_some,Obj.shp]at hc
                obtain⟨b',base',g3,g4⟩:=hc
                rw[g1]at g3;injection g3 with g3;injection g3 with g3;injection g3 with e1 e2
                subst e1;subst e2;exact g4
              have hfc: ∀ j,j<zs.length->w.cell? (at' b (base+j))=some ((w.cell? (at' b (base+j))).getD undef)/\CRel O st.objs m w ((w.cell? (at' b (base+j))).getD undef) (zs.getD j .undef):=by
                intro j hj
                obtain⟨_,_,u,h3,h4⟩:=g2 j hj
                rw[h3];exact⟨rfl,h4⟩
              obtain⟨p1,p2,p3,p4⟩:=purs_spec hf (tck t) zs (fun j=>(w.cell? (at' b (base+j))).getD undef) (fun j hj=>(hfc j hj).2) hok1
              refine⟨by simp [h3],by simp [h4],p3.append h5,?_,fun {O' objs' ρ} hp hv hO hbx hρ j hj=> ?_⟩
              ·simp only[namesC,List.map_cons,h6]
              ·cases j with
               | zero =>
                 refine⟨b,base,hv0,fun j hj=> ?_⟩
                 have hj:j<(purs fet (tck t) zs).2.1.length:=hj
                 rw[p1]at hj
                 have hj':j<zs.length:=by rw[p2];exact hj
                 obtain⟨k1,k2,_⟩:=g2 j hj'
                 exact⟨relab_some (hbx _ _ _ k1 (.inl (.of hq (fun _ _ _ h=>by cases h)))) (hρ (q,id) List.mem_cons_self),k2,_,(hfc j hj').1,(p4 hp (fun p hp=>hv p (List.mem_append_left _ hp)) j hj).pres (relab_pres ρ)⟩
               | succ j =>
                 have:=h7 hp (fun p hp=>hv p (List.mem_append_right _ hp)) (fun p hp=>hO p (List.mem_append_right _ hp)) hbx (fun p hp=>hρ p (List.mem_cons_of_mem _ hp)) j (by simpa using hj)
                 rw[show id+(j+1)=id+1+j from by omega]
                 simpa using this
          | _=>have:=hok false (by simp [handCells]);cases this
        | _=>have:=hok false (by simp [handCells]);cases this
end
end Go.Proofs.YtbnphelpndnnfaaGreatDoor.Vm
namespace Go.Proofs.YtbnphelpndnnfaaGreatDoor.Vm
open Classical
section
variable {P:Program} {C:Ctx} {V0:Nat->Value} {O0 O:Own} {w0 w:World} {m:Nat->Value} {st:St} {a:Act} {o:Oper}
theorem handArg_spec {W:Prop} {fet:Fet} (hf:Fet' st.objs fet) {s:Sh} {x:A} {v:Value} {id:Nat} (hW:wS s=true->W) (hx:TRel O st.objs m w v x) (hS: ∀ q y,aget st.objs q=some y->ORel O st.objs m w q y) (hok:AllT (handArg fet s x).ok) :
    Frz st.objs (handArg fet s x).upd/\(∀ q∈(handArg fet s x).del++(handArg fet s x).boxes.map (·.1),q∈(namesA fet id s x).map (·.1))/\(∀ q∈(namesA fet id s x).map (·.1),q∈(handArg fet s x).del++(handArg fet s x).boxes.map (·.1)) /\
    (isBoxSh s=true↔(handArg fet s x).boxes≠ []) /\
    ∀ {O':Own} {objs':List (Nat×Obj)} {ρ :Nat->Option Nat},Pres O w O' w->(∀ p∈(handArg fet s x).upd,∀ e l,p.2= .arr e true l->VRel O' w (m p.1) (.sl l)) ->
      (∀ p∈(handArg fet s x).upd,ORel O' objs' m w p.1 p.2)->(∀ b k q,O b k=some q->(NR st.objs q\/W)->O' b k=some q)->(∀ p∈namesA fet id s x,ρ p.1=some p.2) ->
      IR (relab O' ρ) w id v (handArg fet s x).a:=by
  cases s with
  | cell u k =>
    unfold handArg at *
    dsimp only at hok ⊢
    have hall: ∀ hc:CRel O st.objs m w v x,_:=fun hc=>handCells_spec hf hS [(u,k)] [x] id (fun _=>v) (fun h=>hW (by rw[List.any_cons,List.any_nil,Bool.or_false]at h;exact h)) (fun j hj=>by
      have:j=0:=by simpa using hj
      subst this;exact hc)
    have hnc: ∀(h:AllT (handCells fet [(u,k)] [x]).1),CRel O st.objs m w v x:=by
      intro h
      cases x with
      | undef=>cases u<;>cases k<;>(have:=h false (by simp [handCells,pur]);cases this)
      | agg _=>cases u<;>cases k<;>(have:=h false (by simp [handCells,pur]);cases this)
      | tup _=>cases u<;>cases k<;>(have:=h false (by simp [handCells,pur]);cases this)
      | cnd _ _=>cases u<;>cases k<;>(have:=h false (by simp [handCells,pur]);cases this)
      | _=>exact hx
    generalize hh:handCells fet [(u,k)] [x]=r at *
    obtain⟨ok,cs,upd,del⟩:=r
    cases cs with
    | nil=>have:=hok false (by simp);cases this
    | cons c cs =>
      cases cs with
      | cons _ _=>have:=hok false (by simp);cases this
      | nil =>
        dsimp only at hok ⊢
        obtain⟨h1,h2,h3,h4,h5⟩:=hall (hnc hok) hok
        have h4:del=(namesC id [(u,k)] [x]).map (·.1):=h4
        refine⟨h3,fun q hq=> ?_,fun q hq=> ?_,⟨(fun h=>by cases h),fun h=>absurd rfl h⟩,fun {O' objs' ρ} hp hv hO hbx hρ => ?_⟩
        ·simp only[List.map_nil,List.append_nil]at hq;rw[h4]at hq;exact hq
        ·simp only[List.map_nil,List.append_nil];rw[h4];exact hq
        ·have:=h5 hp hv hO hbx hρ 0 (by simp)
         have e: [c].getD 0 .undef=c:=rfl
         dsimp only at this
         rw[e]at this
         cases c<;>first | exact this | (obtain⟨b,base,e1,e2⟩:=this;exact⟨b,base,e1,fun j hj=>let ⟨k1,k2,u,k3,k4⟩:=e2 j hj;⟨k1,k2,u,k3,k4.ic⟩⟩) | cases this
  | agg ks =>
    cases x with
    | agg cs =>
      unfold handArg at *
      dsimp only at hok ⊢
      obtain⟨vs,g1,g2,g3⟩:=hx
      obtain⟨h1,h2,h3,h4,h5⟩:=handCells_spec hf hS ks cs (id+1) (fun j=>vs.getD j undef) hW g3 hok
      refine⟨h3,fun q hq=> ?_,fun q hq=> ?_,⟨(fun h=>by cases h),fun h=>absurd rfl h⟩,fun {O' objs' ρ} hp hv hO hbx hρ => ?_⟩
      ·simp only[List.map_nil,List.append_nil]at hq;rw[h4]at hq;exact hq
      ·simp only[List.map_nil,List.append_nil];rw[h4];exact hq
      ·exact⟨vs,g1,by rw[g2,h1,h2],fun j hj=>h5 hp hv hO hbx hρ j (by rw[<- h1];exact hj)⟩
    | _=>have:=hok false (by simp [handArg]);cases this
  | box ks =>
    cases x with
    | ptr q off =>
      unfold handArg at *
      dsimp only at hok ⊢
      cases hg:box? fet q with
      | none=>rw[hg]at hok;have:=hok false (by simp);cases this
      | some cs =>
            rw[hg]at hok
            dsimp only at hok ⊢
            obtain⟨ho0,hokA⟩:=hok.cons
            obtain⟨_,hokB⟩:=hokA.cons
            have ho0:=Nat.eq_of_beq_eq_true ho0
            subst ho0
            have hq:=hf q _ (box?_some hg)
            obtain⟨b,base,g1,g2⟩:=hS q _ hq
            have hv0:v= .pointer (some (at' b base)):=by
              have hc:CRel O st.objs m w v (.ptr q 0):=hx
              have hc:=hc.2
              rw[hq]at hc
              simp only[Option.map_some,Obj.shp]at hc
              obtain⟨b',base',g3,g4⟩:=hc
              rw[g1]at g3;injection g3 with g3;injection g3 with g3;injection g3 with e1 e2
              subst e1;subst e2;exact g4
            let f:Nat->Value:=fun j=>(w.cell? (at' b (base+j))).getD undef
            have hfc: ∀ j,j<cs.length->w.cell? (at' b (base+j))=some (f j)/\CRel O st.objs m w (f j) (cs.getD j .undef):=by
              intro j hj
              obtain⟨_,_,u,h3,h4⟩:=g2 j hj
              have:f j=u:=by show(w.cell? _).getD _=_;rw[h3];rfl
              rw[this];exact⟨h3,h4⟩
            obtain⟨h1,h2,h3,h4,h5⟩:=handCells_spec hf hS ks cs (id+1) f hW (fun j hj=>(hfc j hj).2) hokB
            have hnames:namesA fet id (.box ks) (.ptr q 0)=(q,id)::namesC (id+1) ks cs:=by simp only[namesA,hg]
            rw[hnames]
            refine⟨h3,fun r hr=> ?_,fun r hr=> ?_,⟨fun _=>by simp,fun _=>rfl⟩,fun {O' objs' ρ} hp hv hO hbx hρ => ?_⟩
            ·simp only[List.map_cons,List.map_nil,List.mem_append,List.mem_singleton]at hr
             rcases hr with hr | hr
             ·rw[h4]at hr;exact List.mem_cons_of_mem _ hr
             ·rw[hr];exact List.mem_cons_self
            ·simp only[List.map_cons,List.map_nil,List.mem_append,List.mem_singleton]
             rcases List.mem_cons.1 hr with hr | hr
             ·exact .inr hr
             ·left;rw[h4];exact hr
            ·refine⟨b,base,hv0,fun j hj=> ?_⟩
             rw[h1]at hj
             obtain⟨k1,k2,u,k3,_⟩:=g2 j (by rw[h2];exact hj)
             refine⟨relab_some (hbx _ _ _ k1 (.inl (.of hq (fun _ _ _ h=>by cases h)))) (hρ (q,id) List.mem_cons_self),k2,f j,(hfc j (by rw[h2];exact hj)).1,h5 hp hv hO hbx (fun p hp'=>hρ p (List.mem_cons_of_mem _ hp')) j hj⟩
    | _=>have:=hok false (by simp [handArg]);cases this
  | clo f' ks =>
    cases x with
    | clo g q =>
      unfold handArg at *
      dsimp only at hok ⊢
      cases hg:box? fet q with
      | none=>rw[hg]at hok;have:=hok false (by simp);cases this
      | some cs =>
            rw[hg]at hok
            dsimp only at hok ⊢
            obtain⟨ho0,hokA⟩:=hok.cons
            obtain⟨_,hokB⟩:=hokA.cons
            have ho0:=Nat.eq_of_beq_eq_true ho0
            subst ho0
            have hq:=hf q _ (box?_some hg)
            obtain⟨b,base,g1,g2⟩:=hS q _ hq
            have hv0:Leads O w f' v (.pointer (some (at' b base))):=by
              have hc:CRel O st.objs m w v (.clo f' q):=hx
              obtain⟨_,p,_,hc2,hc⟩:=hc
              rw[hq]at hc
              obtain⟨b',base',e1,e2⟩:=hc
              rw[g1]at e1
              rw[e1,<- e2];exact hc2
            let f:Nat->Value:=fun j=>(w.cell? (at' b (base+j))).getD undef
            have hfc: ∀ j,j<cs.length->w.cell? (at' b (base+j))=some (f j)/\CRel O st.objs m w (f j) (cs.getD j .undef):=by
              intro j hj
              obtain⟨_,_,u,h3,h4⟩:=g2 j hj
              have:f j=u:=by show(w.cell? _).getD _=_;rw[h3];rfl
              rw[this];exact⟨h3,h4⟩
            obtain⟨h1,h2,h3,h4,h5⟩:=handCells_spec hf hS ks cs (id+1) f hW (fun j hj=>(hfc j hj).2) hokB
            have hnames:namesA fet id (.clo f' ks) (.clo f' q)=(q,id)::namesC (id+1) ks cs:=by simp only[namesA,hg]
            rw[hnames]
            refine⟨h3,fun r hr=> ?_,fun r hr=> ?_,⟨fun _=>by simp,fun _=>rfl⟩,fun {O' objs' ρ} hp hv hO hbx hρ => ?_⟩
            ·simp only[List.map_cons,List.map_nil,List.mem_append,List.mem_singleton]at hr
             rcases hr with hr | hr
             ·rw[h4]at hr;exact List.mem_cons_of_mem _ hr
             ·rw[hr];exact List.mem_cons_self
            ·simp only[List.map_cons,List.map_nil,List.mem_append,List.mem_singleton]
             rcases List.mem_cons.1 hr with hr | hr
             ·exact .inr hr
             ·left;rw[h4];exact hr
            ·refine⟨b,base,(hv0.pres hp).pres (relab_pres ρ),fun j hj=> ?_⟩
             rw[h1]at hj
             obtain⟨k1,k2,u,k3,_⟩:=g2 j (by rw[h2];exact hj)
             refine⟨relab_some (hbx _ _ _ k1 (.inl (.of hq (fun _ _ _ h=>by cases h)))) (hρ (q,id) List.mem_cons_self),k2,f j,(hfc j (by rw[h2];exact hj)).1,h5 hp hv hO hbx (fun p hp'=>hρ p (List.mem_cons_of_mem _ hp')) j hj⟩
    | _=>have:=hok false (by simp [handArg]);cases this
  | map kt vt =>
    cases x with
    | own q =>
      unfold handArg at *
      dsimp only at hok ⊢
      cases hg:aget fet q with
      | none=>rw[hg]at hok;have:=hok false (by simp);cases this
      | some y =>
        cases y with
        | box _=>rw[hg]at hok;have:=hok false (by simp);cases this
        | arr _ _ _=>rw[hg]at hok;have:=hok false (by simp);cases this
        | mp l =>
          rw[hg]at hok
          dsimp only at hok ⊢
          have hq:=hf q _ hg
          have hv0:v=m q:=by
            have hc:CRel O st.objs m w v (.own q):=hx
            have hc:=hc.2
            rw[hq]at hc
            exact hc
          refine⟨(fun p hp=>by cases hp),fun r hr=> ?_,fun r hr=> ?_,⟨fun _=>by simp,fun _=>rfl⟩,fun {O' objs' ρ} hp hv hO hbx hρ => ?_⟩
          ·simpa [namesA]using hr
          ·simpa [namesA]using hr
          ·obtain⟨r,es,ck,g1,g2,g3,g4,g5⟩:=(show MRel O w q (m q) l from hS q _ hq)
           refine⟨r,es,ck,by rw[hv0];exact g1,g2,relab_some (hbx _ _ _ g3 (.inl (.of hq (fun _ _ _ h=>by cases h)))) (hρ (q,id) List.mem_cons_self),g4,fun i p hip=> ?_⟩
           obtain⟨e,k1,k2,k3⟩:=g5 i p hip
           exact⟨e,k1,(k2.pres hp).pres (relab_pres ρ),(k3.pres hp).pres (relab_pres ρ)⟩
    | _=>have:=hok false (by simp [handArg]);cases this
theorem handArgs_spec {W:Prop} {fet:Fet} (hf:Fet' st.objs fet) (hS: ∀ q y,aget st.objs q=some y->ORel O st.objs m w q y) (stride:Nat): ∀(ss:List Sh) (xs:List A) (id:Nat) (f:Nat->Value),(ss.any wS=true->W)->(∀ j,j<xs.length->TRel O st.objs m w (f j) (xs.getD j .undef))->AllT (handArgs fet ss xs).1 ->
    (handArgs fet ss xs).2.1.length=ss.length/\xs.length=ss.length/\Frz st.objs (handArgs fet ss xs).2.2.1 /\
    (∀ q,q∈(handArgs fet ss xs).2.2.2.1++(handArgs fet ss xs).2.2.2.2.map (·.1)↔q∈(namesAs fet id stride ss xs).map (·.1)) /\
    ∀ {O':Own} {objs':List (Nat×Obj)} {ρ :Nat->Option Nat},Pres O w O' w->(∀ p∈(handArgs fet ss xs).2.2.1,∀ e l,p.2= .arr e true l->VRel O' w (m p.1) (.sl l)) ->
      (∀ p∈(handArgs fet ss xs).2.2.1,ORel O' objs' m w p.1 p.2)->(∀ b k q,O b k=some q->(NR st.objs q\/W)->O' b k=some q)->(∀ p∈namesAs fet id stride ss xs,ρ p.1=some p.2) ->
      ∀ j,j<ss.length->IR (relab O' ρ) w (id+stride*j) (f j) ((handArgs fet ss xs).2.1.getD j .undef):=by
  intro ss
  induction ss with
  | nil =>
    intro xs id f _ _ hok
    cases xs with
    | nil=>exact⟨rfl,rfl,(fun p hp=>by simp [handArgs]at hp),(fun q=>by simp [handArgs,namesAs]),fun _ _ _ _ _ j hj=>by simp at hj⟩
    | cons _ _=>have:=hok false (by simp [handArgs]);cases this
  | cons s ss ih =>
    intro xs id f hW h hok
    cases xs with
    | nil=>have:=hok false (by simp [handArgs]);cases this
    | cons x xs =>
      simp only[handArgs]at hok ⊢
      obtain⟨hok1,hok2⟩:=hok.append
      obtain⟨h1,h2,h3,_,h4⟩:=handArg_spec (id:=id) hf (fun e=>hW (by rw[List.any_cons,e,Bool.true_or])) (h 0 (by simp)) hS hok1
      obtain⟨g1,g2,g3,g4,g5⟩:=ih xs (id+stride) (fun j=>f (j+1)) (fun e=>hW (by rw[List.any_cons,e,Bool.or_true])) (fun j hj=>by simpa using h (j+1) (by simpa using hj)) hok2
      refine⟨by simp [g1],by simp [g2],h1.append g3,fun q=> ?_,fun {O' objs' ρ} hp hv hO hbx hρ j hj=> ?_⟩
      ·simp only[namesAs,List.map_append,List.mem_append]
       have a1:=h2 q
       have a2:=h3 q
       have a3:=g4 q
       simp only[List.mem_append]at a1 a2 a3
       constructor
       ·rintro ((h | h) | (h | h))
        ·exact .inl (a1 (.inl h))
        ·exact .inr (a3.1 (.inl h))
        ·exact .inl (a1 (.inr h))
        ·exact .inr (a3.1 (.inr h))
       ·rintro (h | h)
        ·rcases a2 h with h | h
         ·exact .inl (.inl h)
         ·exact .inr (.inl h)
        ·rcases a3.2 h with h | h
         ·exact .inl (.inr h)
         ·exact .inr (.inr h)
      ·cases j with
       | zero=>simpa using h4 hp (fun p hp=>hv p (List.mem_append_left _ hp)) (fun p hp=>hO p (List.mem_append_left _ hp)) hbx (fun p hp=>hρ p (List.mem_append_left _ hp))
       | succ j =>
         have:=g5 hp (fun p hp=>hv p (List.mem_append_right _ hp)) (fun p hp=>hO p (List.mem_append_right _ hp)) hbx (fun p hp=>hρ p (List.mem_append_right _ hp)) j (by simpa using hj)
         rw[show id+stride*(j+1)=id+stride+stride*j from by rw[Nat.mul_add];omega]
         simpa using this
end
end Go.Proofs.YtbnphelpndnnfaaGreatDoor.Vm
namespace Go.Proofs.YtbnphelpndnnfaaGreatDoor.Vm
open Classical
def unwrapV:Value->Value
  | .func g fi caps=>caps.getD 0 (.func g fi caps)
  | v=>v
def deref (w:World):Value->Value
  | .pointer (some a)=>(w.cell? a).getD undef
  | _=>undef
def innerS (w:World):Sh->Value->Value
  | .clo _ _,v=>deref w (unwrapV v)
  | _,v=>v
theorem Leads.inner {O:Own} {w:World} {k:Nat} {v p:Value} {ks:List (Bool×CK)} (h:Leads O w k v p):innerS w (.clo k ks) v=p:=by
  obtain⟨b,j,h1,_,h3⟩:=h
  rw[h1]
  cases k<;>(show(w.cell? _).getD _=_;rw[h3];rfl)
def handleOf (w:World) (v:Value):Nat->Value
  | 0=>v
  | x+1=>match v with
    | .agg vs=>vs.getD x undef
    | .pointer (some a)=>(w.cell? (at' a.block (a.off+x))).getD undef
    | _=>undef
section
variable {Oc O':Own} {w:World} {objs':List (Nat×Obj)} {m':Nat->Value}
theorem ORel.carry {objs:List (Nat×Obj)} {m:Nat->Value} {c i e:Nat} {z:Bool} {l:Sl} (h:ORel Oc objs m w c (.arr e z l)) (hp:Pres Oc w O' w) (hr: ∀ b k,Oc b k=some c->O' b k=some i) (hn: ∀ b k,Oc b k=none->O' b k=none) (hm:m' i=m c) :
    ORel O' objs' m' w i (.arr e z l):=by
  refine⟨h.1,?_⟩
  rcases h.2 with ⟨h1,h2,h3⟩ | ⟨h1,g,cap,cur,h2,h3,h4,h5,h6,h7,h8,h9⟩
  ·exact .inl ⟨h1,h2,by rw[hm];exact h3⟩
  ·refine .inr ⟨h1,g,cap,cur,by rw[hm];exact h2,h3,h4,h5,h6,fun r j hr' hj=> ?_,fun k hk hge=>hr _ _ (h8 k hk hge),fun k hk=> ?_⟩
   ·obtain⟨u,h10,h11⟩:=h7 r j hr' hj
    exact⟨u,h10,h11.pres hp⟩
   ·have:=h9 k hk
    cases z with
    | true=>exact hn _ _ this
    | false=>exact hr _ _ this
theorem MRel.carry {c i:Nat} {v:Value} {l:Mp} (h:MRel Oc w c v l) (hp:Pres Oc w O' w) (hr: ∀ b k,Oc b k=some c->O' b k=some i):MRel O' w i v l:=by
  obtain⟨r,es,ck,h1,h2,h3,h4,h5⟩:=h
  refine⟨r,es,ck,h1,h2,hr _ _ h3,h4,fun j p hj=> ?_⟩
  obtain⟨e,k1,k2,k3⟩:=h5 j p hj
  exact⟨e,k1,k2.pres hp,k3.pres hp⟩
theorem isUmp_eq {kt vt:Ty} {a:A} (h:a.isUmp kt vt=true): ∃ l,a= .ump l/\l.kt=kt/\l.vt=vt:=by
  cases a with
  | ump l =>
    have h':(decide (l.kt=kt)&&decide (l.vt=vt))=true:=h
    simp only[Bool.and_eq_true,decide_eq_true_eq]at h'
    exact⟨l,rfl,h'.1,h'.2⟩
  | _=>cases h
theorem VRel.toC {v:Value} {a:A} (h:VRel O' w v a):CRel O' objs' m' w v a:=by cases a<;>first | exact h | (cases h;done)
theorem force_icrel {id:Nat} {k:CK} {v:Value} {c:A} (h:IC Oc w id v c) (hp:Pres Oc w O' w) (hok:AllT (force k c).1):CRel O' objs' m' w v (force k c).2:=by
  cases c with
  | box cs =>
    cases k with
    | oth=>obtain⟨b,base,h1,_⟩:=h;rw[h1];rfl
    | mp _ _=>have:=hok.cons.1;cases this
    | bx _=>have:=hok.cons.1;cases this
    | _=>have:=hok.cons.1;simp [A.isB,A.isI,A.isS,A.isSl,A.isSln,A.isNilp,A.isFn]at this
  | usl z e l =>
    cases k with
    | oth =>
      rcases h.2 with ⟨_,_,h3⟩ | ⟨_,g,cap,cur,h2,_⟩
      ·show v.oneCell'=true
       have h3:v=_:=h3
       rw[h3];rfl
      ·show v.oneCell'=true
       have h2:v=_:=h2
       rw[h2];rfl
    | mp _ _=>have:=hok.cons.1;cases this
    | bx _=>have:=hok.cons.1;cases this
    | _=>have:=hok.cons.1;simp [A.isB,A.isI,A.isS,A.isSl,A.isSln,A.isNilp,A.isFn]at this
  | _=>exact force_rel (VRel.pres hp h) hok
theorem backCells_spec {cid id:Nat} {f:Nat->Value} (hp:Pres Oc w O' w) (hn: ∀ b k,Oc b k=none->O' b k=none): ∀(ks:List (Bool×CK)) (cs:List A) (j0:Nat),(∀ j,j<ks.length->IC Oc w (cid+(j0+j)) (f (j0+j)) (cs.getD (j0+j) .undef)) ->
    (∀ b k x,x<j0+ks.length->Oc b k=some (cid+x)->O' b k=some (id+x))->AllT (backCells id ks cs j0).1->(∀ p∈(backCells id ks cs j0).2.2,aget objs' p.1=some p.2)->(∀ p∈(backCells id ks cs j0).2.2,∀ x,p.1=id+x->m' p.1=f x) ->
    (backCells id ks cs j0).2.1.length=ks.length/\(∀ j,j<ks.length->CRel O' objs' m' w (f (j0+j)) ((backCells id ks cs j0).2.1.getD j .undef))/\ ∀ p∈(backCells id ks cs j0).2.2,ORel O' objs' m' w p.1 p.2/\ ∃ x,p.1=id+x/\j0<=x/\x<j0+ks.length:=by
  intro ks
  induction ks with
  | nil=>intro cs j0 _ _ _ _ _;exact⟨rfl,fun j hj=>by simp at hj,fun p hp=>by simp [backCells]at hp⟩
  | cons k ks ih =>
    intro cs j0 h hr hok hO hm
    obtain⟨u,k⟩:=k
    have h0:=h 0 (by simp)
    rw[Nat.add_zero]at h0
    have hrest:=fun hok2 hO2 hm2=>ih cs (j0+1) (fun j hj=>by have:=h (j+1) (by simpa using hj);rwa [show j0+(j+1)=j0+1+j from by omega]at this) (fun b k x hx=>hr b k x (by simp only[List.length_cons];omega)) hok2 hO2 hm2
    cases u with
    | false =>
      simp only[backCells]at hok hO hm ⊢
      obtain⟨hok1,hok2⟩:=hok.append
      obtain⟨g1,g2,g3⟩:=hrest hok2 hO hm
      refine⟨by simp [g1],fun j hj=> ?_,fun p hp=> ?_⟩
      ·cases j with
       | zero=>exact force_icrel h0 hp hok1
       | succ j =>
         have:=g2 j (by simpa using hj)
         rw[show j0+(j+1)=j0+1+j from by omega];simpa using this
      ·obtain⟨a1,x,a2,a3,a4⟩:=g3 p hp
       exact⟨a1,x,a2,by omega,by simp only[List.length_cons];omega⟩
    | true =>
      cases k with
      | sl e sz =>
        simp only[backCells]at hok hO hm ⊢
        obtain⟨hok1,hok2⟩:=hok.cons
        obtain⟨g1,g2,g3⟩:=hrest hok2 (fun p hp=>hO p (List.mem_cons_of_mem _ hp)) (fun p hp=>hm p (List.mem_cons_of_mem _ hp))
        have hO0:=hO _ List.mem_cons_self
        have hm0:=hm _ List.mem_cons_self j0 rfl
        dsimp only at hO0 hm0
        have hc:cs.getD j0 .undef= .usl true e (cs.getD j0 .undef).toL:=by
          generalize cs.getD j0 .undef=c at *
          cases c<;>simp only[A.isUsl]at hok1<;>first | (cases hok1;done) | skip
          simp only[Bool.and_eq_true,beq_iff_eq]at hok1
          rw[Nat.eq_of_beq_eq_true hok1.2.1,<- hok1.1];rfl
        rw[hc]at h0
        have hor:ORel O' objs' m' w (id+j0) (.arr e true (cs.getD j0 .undef).toL):=ORel.carry (show ORel Oc [] (fun _=>f j0) w (cid+j0) _ from h0) hp (fun b k hbk=>hr b k j0 (by simp) hbk) hn hm0
        refine⟨by simp [g1],fun j hj=> ?_,fun p hp=> ?_⟩
        ·cases j with
         | zero =>
           have hone:(f j0).oneCell'=true:=by
             rcases h0.2 with ⟨_,_,h3⟩ | ⟨_,g,cap,cur,h2,_⟩
             ·have h3:f j0=_:=h3
              rw[h3];rfl
             ·have h2:f j0=_:=h2
              rw[h2];rfl
           refine⟨hone,?_⟩
           show match (aget objs' (id+j0)).map Obj.shp with | some (.arr _ _)=>_ | some .mp=>_ | _=>True
           rw[hO0]
           exact hm0.symm
         | succ j =>
           have:=g2 j (by simpa using hj)
           rw[show j0+(j+1)=j0+1+j from by omega];simpa using this
        ·rcases List.mem_cons.1 hp with rfl | hp
         ·exact⟨hor,j0,rfl,Nat.le_refl _,by simp⟩
         ·obtain⟨a1,x,a2,a3,a4⟩:=g3 p hp
          exact⟨a1,x,a2,by omega,by simp only[List.length_cons];omega⟩
      | sln e sz =>
        simp only[backCells]at hok hO hm ⊢
        obtain⟨hok1,hok2⟩:=hok.cons
        obtain⟨g1,g2,g3⟩:=hrest hok2 (fun p hp=>hO p (List.mem_cons_of_mem _ hp)) (fun p hp=>hm p (List.mem_cons_of_mem _ hp))
        have hO0:=hO _ List.mem_cons_self
        have hm0:=hm _ List.mem_cons_self j0 rfl
        dsimp only at hO0 hm0
        have hc:cs.getD j0 .undef= .usl false e (cs.getD j0 .undef).toL:=by
          generalize cs.getD j0 .undef=c at *
          cases c<;>simp only[A.isUsl]at hok1<;>first | (cases hok1;done) | skip
          simp only[Bool.and_eq_true,beq_iff_eq]at hok1
          rw[Nat.eq_of_beq_eq_true hok1.2.1,<- hok1.1];rfl
        rw[hc]at h0
        have hor:ORel O' objs' m' w (id+j0) (.arr e false (cs.getD j0 .undef).toL):=ORel.carry (show ORel Oc [] (fun _=>f j0) w (cid+j0) _ from h0) hp (fun b k hbk=>hr b k j0 (by simp) hbk) hn hm0
        refine⟨by simp [g1],fun j hj=> ?_,fun p hp=> ?_⟩
        ·cases j with
         | zero =>
           have hone:(f j0).oneCell'=true:=by
             rcases h0.2 with ⟨_,_,h3⟩ | ⟨_,g,cap,cur,h2,_⟩
             ·have h3:f j0=_:=h3
              rw[h3];rfl
             ·have h2:f j0=_:=h2
              rw[h2];rfl
           refine⟨hone,?_⟩
           show match (aget objs' (id+j0)).map Obj.shp with | some (.arr _ _)=>_ | some .mp=>_ | _=>True
           rw[hO0]
           exact hm0.symm
         | succ j =>
           have:=g2 j (by simpa using hj)
           rw[show j0+(j+1)=j0+1+j from by omega];simpa using this
        ·rcases List.mem_cons.1 hp with rfl | hp
         ·exact⟨hor,j0,rfl,Nat.le_refl _,by simp⟩
         ·obtain⟨a1,x,a2,a3,a4⟩:=g3 p hp
          exact⟨a1,x,a2,by omega,by simp only[List.length_cons];omega⟩
      | bx t =>
        simp only[backCells]at hok hO hm ⊢
        obtain⟨hok1,hok2⟩:=hok.cons
        obtain⟨g1,g2,g3⟩:=hrest hok2 (fun p hp=>hO p (List.mem_cons_of_mem _ hp)) (fun p hp=>hm p (List.mem_cons_of_mem _ hp))
        have hO0:=hO _ List.mem_cons_self
        have hm0:=hm _ List.mem_cons_self j0 rfl
        dsimp only at hO0 hm0
        generalize cs.getD j0 .undef=c at *
        cases c with
        | box ds =>
          obtain⟨b,base,e1,e2⟩:=h0
          refine⟨by simp [g1],fun j hj=> ?_,fun p hp=> ?_⟩
          ·cases j with
           | zero =>
             refine⟨by rw[Nat.add_zero,e1];rfl,?_⟩
             show match (aget objs' (id+j0)).map Obj.shp with | some .box=>_ | _=>True
             rw[hO0]
             exact⟨b,base,by rw[hm0];exact e1,e1⟩
           | succ j =>
             have:=g2 j (by simpa using hj)
             rw[show j0+(j+1)=j0+1+j from by omega];simpa using this
          ·rcases List.mem_cons.1 hp with rfl | hp
           ·refine⟨⟨b,base,by rw[hm0];exact e1,fun j hj=> ?_⟩,j0,rfl,Nat.le_refl _,by simp⟩
            obtain⟨a1,a2,u,a3,a4⟩:=e2 j hj
            exact⟨hr _ _ _ (by simp) a1,a2,u,a3,(VRel.pres ‹_› a4).toC⟩
           ·obtain⟨a1,x,a2,a3,a4⟩:=g3 p hp
            exact⟨a1,x,a2,by omega,by simp only[List.length_cons];omega⟩
        | _=>cases hok1
      | _=>have:=hok false (by simp [backCells]);cases this
theorem back_spec {cid id:Nat} {s:Sh} {x:A} {v:Value} (hp:Pres Oc w O' w) (hn: ∀ b k,Oc b k=none->O' b k=none) (h:IR Oc w cid v x) (hr: ∀ b k i,i<255->Oc b k=some (cid+i)->O' b k=some (id+i))
    (hok:AllT (back id s x).1) (hO: ∀ p∈(back id s x).2.2,aget objs' p.1=some p.2) (hm: ∀ p∈(back id s x).2.2,∀ i,p.1=id+i->m' p.1=handleOf w (innerS w s v) i) :
    TRel O' objs' m' w v (back id s x).2.1/\ ∀ p∈(back id s x).2.2,ORel O' objs' m' w p.1 p.2:=by
  cases s with
  | cell u k =>
    simp only[back]at hok hO hm ⊢
    obtain⟨hok1,hok2⟩:=hok.append
    have hpl:=hok2.cons.1
    have hic:IC Oc w cid v x:=by
      have bad: ∀ cs l,x= .agg cs\/x= .box cs\/x= .ump l\/(∃ f,x= .cbx f cs)->False:=by
        rintro cs l (rfl | rfl | rfl | ⟨f,rfl⟩)<;>(cases u<;>cases k<;>first | (cases hpl;done) | (have:=hok1 false (by simp [backCells,force,A.isB,A.isI,A.isS,A.isSl,A.isSln,A.isNilp,A.isUsl,A.isFn]);cases this))
      cases x with
      | agg cs=>exact(bad cs default (.inl rfl)).elim
      | box cs=>exact(bad cs default (.inr (.inl rfl))).elim
      | ump l=>exact(bad [] l (.inr (.inr (.inl rfl)))).elim
      | cbx f cs=>exact(bad cs default (.inr (.inr (.inr ⟨f,rfl⟩)))).elim
      | _=>exact h
    obtain⟨g1,g2,g3⟩:=backCells_spec (cid:=cid) (id:=id) (f:=handleOf w v) hp hn [(u,k)] [x] 0 (fun j hj=>by
      have:j=0:=by simpa using hj
      subst this
      exact hic) (fun b k i hi hb=>hr b k i (by simp at hi;omega) hb) hok1 hO hm
    have:=g2 0 (by simp)
    exact⟨this.toT,fun p hp=>(g3 p hp).1⟩
  | agg ks =>
    simp only[back]at hok hO hm ⊢
    obtain⟨hf,hok⟩:=hok.cons
    have hf:=Nat.le_of_ble_eq_true hf
    obtain⟨hok1,hok2⟩:=hok.cons
    cases x with
    | agg cs =>
      obtain⟨vs,h1,h2,h3⟩:=h
      have hl:cs.length=ks.length:=by simpa [A.isAgg,nbeq]using hok1
      obtain⟨g1,g2,g3⟩:=backCells_spec (objs':=objs') (m':=m') (cid:=cid+1) (id:=id+1) (f:=fun j=>vs.getD j undef) hp hn ks cs 0 (fun j hj=>by
        have:=h3 j (by omega)
        rw[Nat.zero_add];exact this) (fun b k i hi hb=>by
        have:=hr b k (1+i) (by omega) (by rw[<- Nat.add_assoc];exact hb)
        rw[<- Nat.add_assoc]at this;exact this) hok2 hO (fun p hp i hi=>by
        have:=hm p hp (i+1) (by omega)
        rw[this,h1];rfl)
      refine⟨⟨vs,h1,?_,fun j hj=> ?_⟩,fun p hp=>(g3 p hp).1⟩
      ·show vs.size=(backCells (id+1) ks cs 0).2.1.length
       rw[h2,g1,hl]
      ·have hj:j<(backCells (id+1) ks cs 0).2.1.length:=hj
       rw[g1]at hj
       have:=g2 j hj
       rwa [Nat.zero_add]at this
    | _=>simp [A.isAgg]at hok1
  | box ks =>
    simp only[back]at hok hO hm ⊢
    obtain⟨hf,hok⟩:=hok.cons
    have hf:=Nat.le_of_ble_eq_true hf
    obtain⟨hok1,hok2⟩:=hok.cons
    cases x with
    | box cs =>
      obtain⟨b,base,h1,h2⟩:=h
      have h1':handleOf w v 0= .pointer (some (at' b base)):=by rw[h1];rfl
      have hl:cs.length=ks.length:=by simpa [A.isBox,nbeq]using hok1
      have hcell: ∀ j,handleOf w v (j+1)=(w.cell? (at' b (base+j))).getD undef:=by intro j;rw[h1];rfl
      obtain⟨g1,g2,g3⟩:=backCells_spec (objs':=objs') (m':=m') (cid:=cid+1) (id:=id+1) (f:=fun j=>(w.cell? (at' b (base+j))).getD undef) hp hn ks cs 0 (fun j hj=>by
        obtain⟨_,_,u,h5,h6⟩:=h2 j (by omega)
        rw[Nat.zero_add,h5];exact h6) (fun b k i hi hb=>by
        have:=hr b k (1+i) (by omega) (by rw[<- Nat.add_assoc];exact hb)
        rw[<- Nat.add_assoc]at this;exact this) hok2 (fun p hp=>hO p (List.mem_cons_of_mem _ hp)) (fun p hp i hi=>by
        have:=hm p (List.mem_cons_of_mem _ hp) (i+1) (by omega)
        rw[this];exact hcell _)
      have hO0:=hO _ List.mem_cons_self
      have hm0:=hm _ List.mem_cons_self 0 rfl
      dsimp only at hO0 hm0
      refine⟨?_,fun p hp=> ?_⟩
      ·show CRel O' objs' m' w v (.ptr id 0)
       refine⟨by rw[h1];rfl,?_⟩
       show match (aget objs' id).map Obj.shp with | some .box=>_ | _=>True
       rw[hO0]
       exact⟨b,base,by rw[hm0];exact h1',h1⟩
      ·rcases List.mem_cons.1 hp with rfl | hp
       ·refine⟨b,base,by rw[hm0];exact h1',fun j hj=> ?_⟩
        have hj:j<(backCells (id+1) ks cs 0).2.1.length:=hj
        rw[g1]at hj
        obtain⟨a1,a2,u,a3,_⟩:=h2 j (by omega)
        have:=g2 j hj
        rw[Nat.zero_add,a3]at this
        exact⟨by have:=hr b (base+j) 0 (by omega) a1;exact this,a2,u,a3,this⟩
       ·exact(g3 p hp).1
    | _=>simp [A.isBox]at hok1
  | clo f' ks =>
    simp only[back]at hok hO hm ⊢
    obtain⟨hf,hok⟩:=hok.cons
    have hf:=Nat.le_of_ble_eq_true hf
    obtain⟨hok1,hok2⟩:=hok.cons
    cases x with
    | cbx g cs =>
      have hg:f'=g:=by
        have h':=hok1
        simp only[A.isCbx,Bool.and_eq_true]at h'
        exact Nat.eq_of_beq_eq_true h'.1
      subst hg
      obtain⟨b,base,h1,h2⟩:=h
      have h1':handleOf w (innerS w (.clo f' ks) v) 0= .pointer (some (at' b base)):=h1.inner (ks:=ks)
      have hl:cs.length=ks.length:=by
        have h':=hok1
        simp only[A.isCbx,Bool.and_eq_true]at h'
        exact Nat.eq_of_beq_eq_true h'.2
      have hcell: ∀ j,handleOf w (innerS w (.clo f' ks) v) (j+1)=(w.cell? (at' b (base+j))).getD undef:=by intro j;rw[h1.inner (ks:=ks)];rfl
      obtain⟨g1,g2,g3⟩:=backCells_spec (objs':=objs') (m':=m') (cid:=cid+1) (id:=id+1) (f:=fun j=>(w.cell? (at' b (base+j))).getD undef) hp hn ks cs 0 (fun j hj=>by
        obtain⟨_,_,u,h5,h6⟩:=h2 j (by omega)
        rw[Nat.zero_add,h5];exact h6) (fun b k i hi hb=>by
        have:=hr b k (1+i) (by omega) (by rw[<- Nat.add_assoc];exact hb)
        rw[<- Nat.add_assoc]at this;exact this) hok2 (fun p hp=>hO p (List.mem_cons_of_mem _ hp)) (fun p hp i hi=>by
        have:=hm p (List.mem_cons_of_mem _ hp) (i+1) (by omega)
        rw[this];exact hcell _)
      have hO0:=hO _ List.mem_cons_self
      have hm0:=hm _ List.mem_cons_self 0 rfl
      dsimp only at hO0 hm0
      refine⟨?_,fun p hp=> ?_⟩
      ·show CRel O' objs' m' w v (.clo f' id)
       refine⟨by obtain⟨_,_,e,_⟩:=h1;rw[e];cases f'<;>rfl,_,rfl,h1.pres hp,?_⟩
       show match (aget objs' id).map Obj.shp with | some .box=>_ | _=>True
       rw[hO0]
       exact⟨b,base,hm0.trans h1',rfl⟩
      ·rcases List.mem_cons.1 hp with rfl | hp
       ·refine⟨b,base,by rw[hm0];exact h1',fun j hj=> ?_⟩
        have hj:j<(backCells (id+1) ks cs 0).2.1.length:=hj
        rw[g1]at hj
        obtain⟨a1,a2,u,a3,_⟩:=h2 j (by omega)
        have:=g2 j hj
        rw[Nat.zero_add,a3]at this
        exact⟨by have:=hr b (base+j) 0 (by omega) a1;exact this,a2,u,a3,this⟩
       ·exact(g3 p hp).1
    | _=>simp [A.isCbx]at hok1
  | map kt vt =>
    simp only[back]at hok hO hm ⊢
    obtain⟨l,rfl,_,_⟩:=isUmp_eq hok.cons.1
    have hO0:=hO _ List.mem_cons_self
    have hm0:=hm _ List.mem_cons_self 0 rfl
    dsimp only at hO0 hm0
    have h:MRel Oc w cid v l:=h
    have hm0:m' id=v:=hm0
    have h2:MRel O' w id v l:=h.carry hp (fun b k hb=>hr b k 0 (by omega) hb)
    refine⟨?_,fun p hp=> ?_⟩
    ·show CRel O' objs' m' w v (.own id)
     refine⟨by obtain⟨r,_,_,h1,_⟩:=h;rw[h1];rfl,?_⟩
     rw[hO0]
     exact hm0.symm
    ·obtain rfl:p=(id,.mp l):=List.mem_singleton.1 hp
     show MRel O' w id (m' id) l
     rw[hm0];exact h2
end
