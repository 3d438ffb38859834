import Derived.Test.YtpaimpmokhihmaaGreatDoorA7
import Derived.Carry
set_option linter.all false
namespace Go.Proofs.YtpaimpmokhihmaaGreatDoor.Vm
open Classical MapKept
def Afj:A->Bool
 | .bool _ | .int _ _ | .str _ | .sl _ | .KQ | .fn _ | .ump _=>true
 | _=>false
def Ty.Oh: ∀(t:Ty) (v:t.Val),∀ c∈t.cells v,Afj c=true
 | .nil,_,c,h=>by cases h
 | .bool r,v,c,h=>by
  rcases Dz.1 h with rfl | h
  .rfl
  .exact Ty.Oh r _ c h
 | .int _ r,v,c,h=>by
  rcases Dz.1 h with rfl | h
  .rfl
  .exact Ty.Oh r _ c h
 | .str r,v,c,h=>by
  rcases Dz.1 h with rfl | h
  .rfl
  .exact Ty.Oh r _ c h
 | .sl _ _ r,v,c,h=>by
  rcases Dz.1 h with rfl | h
  .rfl
  .exact Ty.Oh r _ c h
 | .ptr r,v,c,h=>by
  rcases Dz.1 h with rfl | h
  .rfl
  .exact Ty.Oh r v c h
 | .fn r,v,c,h=>by
  rcases Dz.1 h with rfl | h
  .rfl
  .exact Ty.Oh r _ c h
 | .mp _ _ r,v,c,h=>by
  rcases Dz.1 h with rfl | h
  .rfl
  .exact Ty.Oh r _ c h
section
variable {P:Program} {C:Ctx} {V0:Nat->Value} {O0 O:Own} {w0 w:World} {m:Nat->Value} {st:St} {a:Act} {o:Oper}
theorem J4.data {Jm:List (Nat×Obj)} {v:Value} {c:A} (h:J4 O Jm m w v c) (hd:Afj c=true):Jt O w v c:=by cases c<;>first | exact h | exact h.elim | cases hd
theorem LM.toT {Jm:List (Nat×Obj)} {v:Value} {x:A} (h:LM O w v x):Jy O Jm m w v x/\T1 O Jm m w v x:=by
 have cell: ∀ {v:Value} {x:A},Jt O w v x->J4 O Jm m w v x:=fun h=>by cases h<;>first | exact .bool _ | exact .int _ _ | exact .str _ | exact .nil _ | exact .KQ | exact .fn _ | exact .Xc | exact Jt.sl0 _ _ | (rename_i vs a1 a2 a3;exact Jt.sl vs a1 a2 a3) | (rename_i h hn;exact Jt.sln h hn)
 cases x with
 | agg cs=>grind[Obj,LM,Jy,T1]
 | undef=>cases h
 | KD=>cases h
 | usl _ _ _=>cases h
 | ump _=>cases h
 | ptr _ _=>cases h
 | own _=>cases h
 | elt _=>cases h
 | KG _ _ _=>cases h
 | tup _=>cases h
 | box _=>cases h
 | cbx _ _=>cases h
 | clo _ _=>cases h
 | bsl _ _=>cases h
 | osl _ _=>cases h
 | cnd _ _=>cases h
 | bool _=>exact⟨cell h,cell h⟩
 | int _ _=>exact⟨cell h,cell h⟩
 | str _=>exact⟨cell h,cell h⟩
 | sl _=>exact⟨cell h,cell h⟩
 | sln _=>exact⟨cell h,cell h⟩
 | KQ=>exact⟨cell h,cell h⟩
 | fn _=>exact⟨cell h,cell h⟩
theorem Agu {xs:List A} (h:AdG (.agg xs)=true):xs.length≠1:=by intro h1;obtain⟨c,rfl⟩:=E8.1 h1;cases h
theorem AcZ {O':Own} {Jm:List (Nat×Obj)} {v:Value} {x:A} {cs:List A} (ho:AdG x=true) (hv:x.isVal=true) (hx:Jy O Jm m w v x) (hl:cs.length=x.cells.length)
 (hrel: ∀ j,j<cs.length->Jt O' w (v.cells.getD j undef) (cs.getD j .undef)):LM O' w v (MW cs):=by
 have one:J4 O Jm m w v x->x.cells=[x]->LM O' w v (MW cs):=by intro hc he;rw[he]at hl;obtain⟨c,rfl⟩:=E8.1 hl;have h0:=hrel 0 (by simp);rw[oneCell_cells hc.one]at h0;have h0:Jt O' w v c:=h0;show LM O' w v c;cases c<;>first | exact h0 | cases h0
 cases x with
 | agg xs =>obtain⟨vs,rfl,h2,h3⟩:=hx;have hl:cs.length=xs.length:=hl;rw[YV (by rw[hl];exact Agu ho)];exact⟨vs,rfl,by rw[h2,hl],hrel⟩
 | undef=>cases hv
 | tup _=>cases hv
 | usl _ _ _=>cases hv
 | ump _=>cases hv
 | box _=>cases hv
 | cbx _ _=>cases hv
 | cnd _ _=>cases hv
 | _=>exact one hx rfl
theorem Qe {r:Nat} {es:Array MapEntry} {ck:Nat} (hb:w.heap[r]? =some (.map es ck)):(getObj r).run P w= .ok (.map es ck) w:=by simp [getObj,Sem.run,hb]
theorem Vl {r:Nat} {es:Array MapEntry} {ck:Nat} (x:Go.Obj) (hb:w.heap[r]? =some (.map es ck)):(setObj r x).run P w= .ok () {w with heap:=w.heap.setIfInBounds r x}:=by simp [setObj,Sem.run,hb]
theorem YQ {t:Nat} {k:TI->TI->Dl} (hok:Jv (mapOf C t k).ok): ∃ ti kt et ta tb,C.T t=some ti/\ti.d= .map kt et/\C.T kt=some ta/\C.T et=some tb/\mapOf C t k=k ta tb:=by
 unfold mapOf at hok ⊢;obtain⟨ti,ht,he⟩:=JI hok;rw[he]at hok ⊢;split at hok
 .rename_i kt et hd;obtain⟨ta,hta,he⟩:=JI hok;rw[he]at hok;obtain⟨tb,htb,he'⟩:=JI hok;exact⟨ti,kt,et,ta,tb,ht,hd,hta,htb,he.trans he'⟩
 .exact(J5 hok).elim
theorem AaZ {Jm:List (Nat×Obj)} (hC:TOk P C) {kt:Nat} {ta tb:TI} (hta:C.T kt=some ta) {l:Mp} {i:A} {v:Value} (hi:Jy O Jm m w v i) (hok:Jv (zY C ta tb l i)) :
 iE P O w kt l.kt/\LM O w v (MW (l.kt.cells (l.kt.mk i.cells).2))/\Aae tb=true/\l.vt=tyl tb.cs:=by
 obtain⟨h1,hok⟩:=hok.cons;obtain⟨h2,hok⟩:=hok.cons;obtain⟨h3,hok⟩:=hok.cons;obtain⟨h4,hok⟩:=hok.cons;obtain⟨h5,hok⟩:=hok.cons;obtain⟨h6,hok⟩:=hok.cons;have h7:=hok.cons.1;have h3:=Ea h3;have hc:=Ty.OY _ _ h7;refine⟨by rw[h3];exact Agv hC hta h1,?_,h2,Ea h4⟩;obtain⟨g1,g2⟩:=hi.cells h5;refine AcZ (Jm:=Jm) h6 h5 hi (by rw[hc]) (fun j hj=> ?_);have hd:=Ty.Oh _ _ _ (EE hj);have e:(l.kt.cells (l.kt.mk i.cells).2).getD j .undef=(l.kt.cells (l.kt.mk i.cells).2)[j]:=by rw[Di,D9 hj];rfl
 rw[<- e]at hd;rw[hc]at hd hj ⊢;exact(g2 j hj).data hd
theorem AfN {t:Nat} {tb:TI} (hT:Qj P t tb) (hone:Aae tb=true) (hp:tb.cs.all CK.plain=true): ∃ z,(zeroValue t).run P w= .ok z w/\LM O w z (MW ((tyl tb.cs).cells (tyl tb.cs).zero)):=by
 obtain⟨i,z,h1,h2,h3,h4,h5,h6⟩:=hT.i;refine⟨z,by simp [zeroValue,typeInfo,h1,h4],?_⟩;rw[Ty.rQ _ hp];have hv:=UF (O:=O) (w:=w) _ _ h5 hp;have hl:=(OQ (O:=O) (Jm:=[]) (m:=fun _=>undef) (w:=w) _ _ h5).1;have hone:tb.agg= !(Nat.beq tb.cs.length 1):=by simpa [Aae]using hone
 rw[mW,h6,Ql]at hone;cases z with
 | agg vs =>
  have hne:tb.cs.length≠1:=by simpa [VJ]using hone
  rw[YV (by simpa using hne)];refine⟨vs,rfl,?_,fun j hj=> ?_⟩
  .have:vs.toList.length=tb.cs.length:=hl;rw[Array.length_toList]at this;simpa using this
  .have:=hv j (by simpa using hj);have e:(Value.agg vs).cells.toList.getD j undef=vs.getD j undef:=by show vs.toList.getD j undef=_;rw[Dj,Di,DJ]
   rw[e]at this;exact this
 | _ =>
  have he:tb.cs.length=1:=by simpa [VJ]using hone
  obtain⟨c,hc⟩:=E8.1 he;rw[hc]at hv ⊢;have:=hv 0 (by simp);have this:Jt O w _ c.MI:=this;show LM O w _ c.MI;cases hcz:c.MI<;>rw[hcz]at this<;>first | exact this | cases this
theorem Ac7 {op:BinOp} {t ty:Nat} {x y:Operand} {Jm:List (Nat×Obj)} {fet:Fet} (hC:TOk P C) (hF:FOk O Jm m w fet) (ho:o.op= .binOp op t x y ty) (hn:dO y=true) {x':A} (hx:Jy O Jm m w (a.eval x) x')
 (hok:Jv (Yd C fet op t x').ok):Pure P O Jm m a w o (Yd C fet op t x'):=by
 have hy:a.eval y= .map none:=by
  cases y with
  | const c=>cases c with
   | map r=>cases r with
    | none=>rfl
    | some _=>cases hn
   | _=>cases hn
  | _=>cases hn
 unfold Yd at hok ⊢;obtain⟨p,hp,he⟩:=J9 hok;rw[he]at hok ⊢;clear he;obtain⟨ti,ht,he⟩:=JI hok;rw[he]at hok ⊢;clear he;obtain⟨_,hv,hM⟩:=qC hF hx hp;obtain⟨r,es,ck,h1,_⟩:=hM.lists;rw[h1]at hv;cases hd:Afk ti.d with
 | false=>rw[hd]at hok;exact(J5 hok).elim
 | true =>
  rw[hd]at hok;have hu:=(hC.is ht).d;have hu': ∃ k e,P.underlying t=some (.map k e):=by cases hdd:ti.d<;>rw[hdd]at hd hu<;>first | exact⟨_,_,hu⟩ | cases hd
  obtain⟨k,e,hu⟩:=hu'
  have heq:(Op.equal t (.map (some r)) (.map none)).run P w= .ok false w:=by
   have: ∀ d,(Op.equalIn (d+1) t (.map (some r)) (.map none)).run P w= .ok false w:=by intro d;simp [Op.equalIn,DD hu]
   exact this 9999
  cases op with
  | eql =>refine⟨⟨_,?_,.Nl _⟩,rfl,rfl,rfl⟩;simp only[execOp,ho,hv,hy,Dv,VD (v:=.map (some r)),Result.andThen_ok,binOp,heq,Sem.run_pure]
  | neq =>refine⟨⟨_,?_,.Nl _⟩,rfl,rfl,rfl⟩;simp only[execOp,ho,hv,hy,Dv,VD (v:=.map (some r)),Result.andThen_ok,binOp,heq,Sem.run_pure];rfl
  | _=>exact(J5 hok).elim
theorem Ac4 {t:Nat} {x i:Operand} {c:Bool} {Jm:List (Nat×Obj)} {fet:Fet} (hC:TOk P C) (hF:FOk O Jm m w fet) (ho:o.op= .lookup t x i c) {x' i':A} (hx:Jy O Jm m w (a.eval x) x') (hi:Jy O Jm m w (a.eval i) i')
 (hok:Jv (iJ C fet t c x' i').ok):Pure P O Jm m a w o (iJ C fet t c x' i'):=by
 unfold iJ at hok ⊢;obtain⟨ti,kt,et,ta,tb,ht,hd,hta,htb,he⟩:=YQ hok;rw[he]at hok ⊢;clear he;obtain⟨p,hp,he⟩:=J9 hok;rw[he]at hok ⊢;clear he;obtain⟨hok1,hok2⟩:=hok.append;have hpl:=hok2.cons.1;obtain⟨_,hv,hM⟩:=qC hF hx hp;obtain⟨hK,hk,hone,hvt⟩:=AaZ hC hta hi hok1;obtain⟨r,es,ck,h1,h2,h3,h4,h5⟩:=hM.lists;have hu:=(hC.is ht).d;rw[hd]at hu;have hfind:=hK.find (a.eval i) _ es.toList p.2.l hk h4 (fun i e p he hp=>(h5 i e p he hp).1);have hchk:=hK.check es.isEmpty (a.eval i) _ hk;obtain⟨z,hz1,hz2⟩:=AfN (O:=O) (w:=w) (hC.is htb) hone hpl;rw[<- hvt]at hz2
 have key: ∃ u,(Instr.lookup t (a.eval x) (a.eval i) c).run P w= .ok (if c then .tuple #[u,.bool (NY p.2.kt (p.2.kt.mk i'.cells).2 p.2.l).isSome]else u) w /\
  LM O w u (MW (p.2.vt.cells ((NY p.2.kt (p.2.kt.mk i'.cells).2 p.2.l).getD p.2.vt.zero))):=by
  rw[hv,h1];rcases lG (k:=(p.2.kt.mk i'.cells).2) es.toList p.2.l 0 h4 with ⟨f1,f2,_,_⟩ | ⟨j,e,q,f1,f2,f3,f4,f5,_,_⟩
  .refine⟨z,?_,by rw[f2];exact hz2⟩;simp [Instr.lookup,DD hu,Qe h2,hchk,hfind,f1,hz1,f2,Result.andThen]
  .refine⟨e.val,?_,by rw[f5];exact(h5 j e q f2 f3).2⟩;simp [Instr.lookup,DD hu,Qe h2,hchk,hfind,f1,f5,Result.andThen]
 obtain⟨u,hrun,hu2⟩:=key;refine⟨⟨if c then .tuple #[u,.bool (NY p.2.kt (p.2.kt.mk i'.cells).2 p.2.l).isSome]else u,?_,?_⟩,rfl,rfl,rfl⟩
 .simp only[execOp,ho,Dv,hrun,Result.andThen_ok,Sem.run_pure]
 .show Jy O Jm m w _ (uZ _ _ _);unfold uZ;cases c with
  | false=>exact hu2.toT.1
  | true =>
   refine⟨#[u,.bool (NY p.2.kt (p.2.kt.mk i'.cells).2 p.2.l).isSome],rfl,rfl,fun j hj=> ?_⟩;have hj:j<2:=hj;rcases(show j=0\/j=1 by omega)with rfl | rfl
   .exact hu2.toT.2
   .exact Jt.bool _
theorem Afg {r:Nat} {x y:Go.Obj} (hb:w.heap[r]? =some x):(w.heap.setIfInBounds r y)[r]? =some y/\ ∀ b,b≠r->(w.heap.setIfInBounds r y)[b]? =w.heap[b]? :=by grind
theorem Zm (hS:Sim V0 O0 w0 O m st a w) {q r ck ck':Nat} {es es':Array MapEntry} {l l':Mp} (hq:Jr st.Jm q=some (.mp l)) (hm:m q= .map (some r)) (hb:w.heap[r]? =some (.map es ck)) (hO:O r 0=some q) (hs:es'.size=l'.l.length)
 (hes: ∀(i:Nat) (p:l'.kt.Val×l'.vt.Val),l'.l[i]? =some p-> ∃ e,es'[i]? =some e/\LM O w e.key (MW (l'.kt.cells p.1))/\LM O w e.val (MW (l'.vt.cells p.2))) {d:Option Tmp} {v:Value} {x:A} (hx:d≠none-> ∀ O' objs' m' w',Jy O' objs' m' w' v x) :
 Sim V0 O0 w0 O m {tmps:=put st.tmps d x,Jm:=KI st.Jm q (.mp l')} (a.put d v) {w with heap:=w.heap.setIfInBounds r (.map es' ck')}:=by
 obtain⟨hb1,hb2⟩:=Afg (y:=.map es' ck') hb;have hM:Moves O (fun i=>i=q) w {w with heap:=w.heap.setIfInBounds r (.map es' ck')}:=Moves.map rfl rfl rfl (by simp) hb hb1 hb2 hO rfl;have hP:Passes O O (fun i=>i=q) w.heap.size:=⟨fun _ _ _ h=>h,fun _ _ _ _ h _=>h⟩
 have hpr:=hM.JE hP
 have hE:NW st.Jm m (KI st.Jm q (.mp l')) m (fun _=>False):=by
  intro i y hy;rw[JO]at hy;by_cases hi:i=q
  .rw[Dw hi]at hy;injection hy with hy;subst hy;subst hi;exact .inr ⟨_,hq,rfl,rfl⟩
  .rw[Du hi]at hy;exact .inr ⟨y,hy,rfl,rfl⟩
 refine hS.next (st':= {tmps:=put st.tmps d x,Jm:=KI st.Jm q (.mp l')}) (T:=fun i=>i=q) (Nw:=fun _=>False) hM hP (fun b k _ h=>h) hE (fun _ h=>h.elim) (fun r' hr=>by rw[hr,hq];rfl) (fun i y hy=> ?_) rfl (fun h=>hx h _ _ _ _);rw[JO]at hy;by_cases hi:i=q
 .right;rw[Dw hi]at hy;injection hy with hy;subst hy;subst hi;refine⟨(⟨r,es',ck',hm,hb1,hO,hs,fun j p hp=> ?_⟩:LP O _ i (m i) l'),hS.ids i _ hq⟩;obtain⟨e,k1,k2,k3⟩:=hes j p hp;exact⟨e,k1,k2.JE hpr,k3.JE hpr⟩
 .left;rw[Du hi]at hy;exact⟨hi,hy,rfl⟩
theorem Abc {t:Nat} {r:Option Operand} {xs:List A} (hC:TOk P C) (hS:Sim V0 O0 w0 O m st a w) {d:Nat} (hd:o.dst=some d) (ho:o.op= .makeMap t r) (hr:xs.length=r.toArray.size) (hok:Jv (QH C d t xs).ok) (hfr: ∀ p∈(QH C d t xs).new,st.fresh p.1=true) :
 Good P V0 O0 w0 (apply st o (QH C d t xs)) o a w:=by
 intro next Q hn
 unfold QH at *
 obtain⟨ti,kt,et,ta,tb,ht,hd',hta,htb,he⟩:=YQ hok;rw[he]at hok hfr hn;clear he;have hx:xs=[]:=by simpa using hok.cons.1
 subst hx;have hr0:r=none:=by cases r with | none=>rfl | some _=>simp at hr
 subst hr0;have hfresh:=Lu (hfr _ Dp);have hrun:(execOp a.eval o).run P w= .ok (.value (.map (some w.heap.size))) (w.alloc (.map #[] 0)):=by have:(Instr.makeMap t none).run P w= .ok (.map (some w.heap.size)) (w.alloc (.map #[] 0)):=rfl;simp only[execOp,ho,Option.map_none,Dv,this,Result.andThen_ok,Sem.run_pure]
 unfold Oper.wp;rw[hrun,Oper.upon_value,hd];let id:=b2 d;let O':Own:=fun b k=>if b=w.heap.size then some id else O b k;let m':Nat->Value:=fun i=>if i=id then .map (some w.heap.size)else m i;have hlt: ∀ {b k},b<w.heap.size->O' b k=O b k:=fun hb=>Du (Fz hb);have hM:Moves O (fun _=>False) w (w.alloc (.map #[] 0)):=Moves.push _;have hP:Passes O O' (fun _=>False) w.heap.size:=⟨fun b k hb h=>by rw[hlt hb];exact h,fun b k q hb h _=>by rw[hlt hb];exact h⟩
 let ob:Vm.Obj:=.mp ⟨tyl ta.cs,tyl tb.cs,[]⟩
 have hget: ∀ i y,Jr (KI st.Jm id ob) i=some y->(i=id/\y=ob)\/(i≠id/\Jr st.Jm i=some y):=by
  intro i y hy;rw[JO]at hy;by_cases hi:i=id
  .rw[Dw hi]at hy;injection hy with hy;exact .inl ⟨hi,hy.symm⟩
  .rw[Du hi]at hy;exact .inr ⟨hi,hy⟩
 have hE:NW st.Jm m (KI st.Jm id ob) m' (fun i=>i=id):=by
  intro i y hy;rcases hget i y hy with ⟨h1,_⟩ | ⟨h1,h2⟩
  .exact .inl h1
  .exact .inr ⟨y,h2,rfl,Du h1⟩
 refine hn O' m' _ _ ?_;have happ: ∀ ok,apply st o {ok:=ok,val:=.own (b2 d),new:=[(b2 d,ob)]}= {tmps:=put st.tmps (some d) (.own id),Jm:=KI st.Jm id ob}:=by intro ok;unfold apply;rw[hd];rfl
 rw[happ];refine hS.next (st':= {tmps:=put st.tmps (some d) (.own id),Jm:=KI st.Jm id ob}) (x:=.own id) (T:=fun _=>False) (Nw:=fun i=>i=id) hM hP (fun b k hb h=>by rw[hlt hb]at h;exact h) hE (fun n hn=>by rw[hn];exact hfresh.both) (fun _ h=>h.elim) (fun i y hy=> ?_) rfl (fun _=> ?_)
 .rcases hget i y hy with ⟨h1,h2⟩ | ⟨h1,h2⟩
  .right;subst h1;subst h2;refine⟨(⟨w.heap.size,#[],0,Dw rfl,YH _ _,Dw rfl,rfl,fun i p hp=>by cases hp⟩:LP O' _ id (m' id) _),hfresh.ne⟩
  .exact .inl ⟨fun h=>h,h2,Du h1⟩
 .refine⟨rfl,?_⟩;all_goals grind[Jr,KI,Obj.shp,JO]
theorem Ag1 {α :Type} {l:List α} {j:Nat} {x: α} {i:Nat} {p: α} (h:(l.set j x)[i]? =some p):(i=j/\p=x/\j<l.length)\/(i≠j/\l[i]? =some p):=by
 rw[ED]at h;by_cases hi:j=i
 .simp_all[hi,split]
 .rw[Du hi]at h;exact .inr ⟨fun e=>hi e.symm,h⟩
theorem kU {t:Nat} {x i y:Operand} (hC:TOk P C) (hS:Sim V0 O0 w0 O m st a w) (hd:o.dst=none) (ho:o.op= .mapUpdate t x i y\/o.op= .insert t x i y) {fet:Fet} (hf:MV st.Jm fet) {x' i' y':A} (hx:Jy O st.Jm m w (a.eval x) x') (hi:Jy O st.Jm m w (a.eval i) i') (hy:Jy O st.Jm m w (a.eval y) y')
 (hok:Jv (Yt C fet t x' i' y').ok):Good P V0 O0 w0 (apply st o (Yt C fet t x' i' y')) o a w:=by
 intro next Q hn
 have hF:FOk O st.Jm m w fet:=fun q x h=>⟨hf q x h,hS.Jm q x (hf q x h)⟩
 unfold Yt at *
 obtain⟨ti,kt,et,ta,tb,ht,hd',hta,htb,he⟩:=YQ hok;rw[he]at hok hn;clear he;obtain⟨p,hp,he⟩:=J9 hok;rw[he]at hok hn;clear he;obtain⟨hokA,hokB⟩:=hok.append;have hmk:=hokB.cons.1;obtain⟨hokA,hokP⟩:=hokA.append;obtain⟨hok1,hokV⟩:=hokA.append;obtain⟨hv1,hokV⟩:=hokV.cons;have hv2:=hokV.cons.1;obtain⟨hq,hv,hM⟩:=qC hF hx hp;obtain⟨hK,hk,hone,hvt⟩:=AaZ hC hta hi hok1;obtain⟨hyc1,hyc2⟩:=hy.cells hv1;obtain⟨g1,g2,g3,g4⟩:=PR (O:=O) (m:=m) (w:=w) hf tb.cs y'.cells (fun j=>(a.eval y).cells.getD j undef) hyc2 hokP;generalize hpu:JV fet tb.cs y'.cells=pu at *
 obtain⟨O1,hS1,hp1,hle1,hv1',hE1,hk1⟩:=hS.freezes _ g3;have hNR:NR st.Jm p.1:=.of hq (fun _ _ _ h=>by cases h)
 have hq1:Jr (J3 st.Jm pu.2.2) p.1=some (.mp p.2):=by
  rw[KY _ _ _ (fun z hz e=> ?_)]
  .exact hq
  .obtain⟨e',f',l',h1,_⟩:=g3 z hz;rw[e]at h1;exact hNR _ _ _ h1
 obtain⟨r,es,ck,h1,h2,h3,h4,h5⟩:=(show LP O1 w p.1 (m p.1) p.2 from hS1.Jm p.1 _ hq1).lists;have hu:=(hC.is ht).d;rw[hd']at hu;have hM0:=hM.lists;obtain⟨r0,es0,ck0,k1,k2,k3,k4,k5⟩:=hM0;rw[h1]at k1;injection k1 with k1;injection k1 with k1;subst k1;rw[h2]at k2;injection k2 with k2;injection k2 with k2 k2';subst k2;subst k2';have hfind:=hK.find (a.eval i) _ es.toList p.2.l hk k4 (fun i e p he hp=>(k5 i e p he hp).1);have hchk:=hK.check false (a.eval i) _ hk;have hk':LM O1 w (a.eval i) (MW (p.2.kt.cells (p.2.kt.mk i'.cells).2)):=hk.JE hp1;have hcells:=Ty.OY _ _ hmk;have hval:LM O1 w (a.eval y) (MW (p.2.vt.cells (p.2.vt.mk pu.2.1).2)):=by rw[hcells];refine AcZ (Jm:=st.Jm) hv2 hv1 hy (by rw[g1,g2]) (fun j hj=>g4 hp1 hv1' j (by rw[<- g1];exact hj))
 have happ: ∀ ok l',apply st o {ok:=ok,val:=.undef,upd:=pu.2.2++[(p.1,.mp l')]}= {tmps:=put st.tmps none .undef,Jm:=KI (J3 st.Jm pu.2.2) p.1 (.mp l')}:=by
  intro ok l';unfold apply;rw[hd]
  have: ∀(u:List (Nat×Vm.Obj)) (l:List (Nat×Vm.Obj)) n z,J3 l (u++[(n,z)])=KI (J3 l u) n z:=by
   intro u
   induction u with
   | nil=>intro l n z;rfl
   | cons q u ih=>intro l n z;exact ih _ _ _
  show St.mk _ (J3 (JM (J3 st.Jm (pu.2.2++[(p.1,.mp l')])) []) [])=_;rw[this];rfl
 rcases lG (k:=(p.2.kt.mk i'.cells).2) es.toList p.2.l 0 k4 with ⟨f1,_,f3,_⟩ | ⟨j,e,q,f1,f2,f3,f4,_,f6,_⟩
 .have hrun:(execOp a.eval o).run P w= .ok .skip {w with heap:=w.heap.setIfInBounds r (.map (es.push {key:=a.eval i,val:=a.eval y,born:=ck}) (ck+1))}:=by
   have:(Instr.mapUpdate t (a.eval x) (a.eval i) (a.eval y)).run P w= .ok () {w with heap:=w.heap.setIfInBounds r (.map (es.push {key:=a.eval i,val:=a.eval y,born:=ck}) (ck+1))}:=by rw[hv,h1];simp [Instr.mapUpdate,DD hu,Qe h2,hchk,hfind,f1,Vl _ h2,Result.andThen]
   rcases ho with ho | ho<;>simp only[execOp,ho,Dv,this,Result.andThen_ok,Sem.run_pure]
  unfold Oper.wp;rw[hrun,Oper.upon_skip,hd];refine hn O1 m _ _ ?_;rw[happ];refine Zm hS1 (d:=none) (v:=undef) hq1 h1 h2 h3 (by rw[f3,Array.size_push,Ed,<- k4,Array.length_toList];rfl) (fun i0 p0 hp0=> ?_) (fun h=>absurd rfl h);have hp0:(P7 p.2.kt (p.2.kt.mk i'.cells).2 (p.2.vt.mk pu.2.1).2 p.2.l)[i0]? =some p0:=hp0;rw[f3]at hp0;have hsz:es.size=p.2.l.length:=by rw[<- k4,Array.length_toList]
  rcases DT i0 p.2.l.length with hlt | hge
  .rw[DV hlt]at hp0;have hlt':i0<es.size:=by omega
   have hes:es.toList[i0]? =some es[i0]:=by rw[DJ,Dt hlt']
   refine⟨es[i0],by rw[Gi,Du,Dt hlt'],h5 i0 _ p0 hes hp0⟩
  .rw[Eb hge]at hp0
   have h0:i0 - p.2.l.length=0:=by
    rcases Gs (i0 - p.2.l.length)with h | h
    .exact h
    .rw[DN (by show 1<=_;omega)]at hp0;cases hp0
   rw[h0]at hp0;injection hp0 with hp0;subst hp0;exact⟨_,by rw[Gi,Ajk],hk',hval⟩
 .have hstay:=hK.stays (a.eval i) e.key _ hk (by rw[<- f4];exact(k5 j e q f2 f3).1);have f2':es[j]? =some e:=by rw[<- DJ];exact f2
  have hrun:(execOp a.eval o).run P w= .ok .skip {w with heap:=w.heap.setIfInBounds r (.map (es.modify j fun e=> {e with key:=a.eval i,val:=a.eval y}) ck)}:=by
   have:(Instr.mapUpdate t (a.eval x) (a.eval i) (a.eval y)).run P w= .ok () {w with heap:=w.heap.setIfInBounds r (.map (es.modify j fun e=> {e with key:=a.eval i,val:=a.eval y}) ck)}:=by rw[hv,h1];simp [Instr.mapUpdate,DD hu,Qe h2,hchk,hfind,f1,f2',hstay,Vl _ h2,Result.andThen]
   rcases ho with ho | ho<;>simp only[execOp,ho,Dv,this,Result.andThen_ok,Sem.run_pure]
  unfold Oper.wp;rw[hrun,Oper.upon_skip,hd];refine hn O1 m _ _ ?_;rw[happ];refine Zm hS1 (d:=none) (v:=undef) hq1 h1 h2 h3 (by rw[f6,Array.size_modify,EO,<- k4,Array.length_toList]) (fun i0 p0 hp0=> ?_) (fun h=>absurd rfl h);have hp0:(P7 p.2.kt (p.2.kt.mk i'.cells).2 (p.2.vt.mk pu.2.1).2 p.2.l)[i0]? =some p0:=hp0;rw[f6]at hp0;rcases Ag1 hp0 with ⟨q1,q2,_⟩ | ⟨q1,q2⟩
  .subst q1;subst q2;refine⟨_,by rw[EW,Dw rfl,f2'];rfl,?_,hval⟩;dsimp only;rw[f4];exact hk'
  .have hlt:i0<es.size:=by
    have:=(Ey.1 q2).1;rw[<- k4,Array.length_toList]at this;exact this
   have hes:es.toList[i0]? =some es[i0]:=by rw[DJ,Dt hlt]
   exact⟨es[i0],by rw[EW,Du (fun h=>q1 h.symm),Dt hlt],h5 i0 _ p0 hes q2⟩
theorem Acj {t:Nat} {x i:Operand} {c:Call} (hC:TOk P C) (hS:Sim V0 O0 w0 O m st a w) (ho:o.op= .call c) (hcal:c.callee= .builtin .delete) (hargs:c.args= #[x,i]) {ts:List Nat} (hts:c.argTypes.toList=t::ts) {fet:Fet} (hf:MV st.Jm fet) {x' i':A} (hx:Jy O st.Jm m w (a.eval x) x') (hi:Jy O st.Jm m w (a.eval i) i')
 (hok:Jv (XR C fet t x' i').ok):Good P V0 O0 w0 (apply st o (XR C fet t x' i')) o a w:=by
 intro next Q hn
 have hF:FOk O st.Jm m w fet:=fun q x h=>⟨hf q x h,hS.Jm q x (hf q x h)⟩
 unfold XR at *
 obtain⟨ti,kt,et,ta,tb,ht,hd',hta,htb,he⟩:=YQ hok;rw[he]at hok hn;clear he;obtain⟨p,hp,he⟩:=J9 hok;rw[he]at hok hn;clear he;obtain⟨hq,hv,hM⟩:=qC hF hx hp;obtain⟨hK,hk,hone,hvt⟩:=AaZ hC hta hi hok;obtain⟨r,es,ck,h1,h2,h3,h4,h5⟩:=hM.lists;have hu:=(hC.is ht).d;rw[hd']at hu;have hts0:c.argTypes[0]? =some t:=by rw[<- DJ,hts];rfl
 have hfind:=hK.find (a.eval i) _ es.toList p.2.l hk h4 (fun i e p he hp=>(h5 i e p he hp).1);have hchk:=hK.check es.isEmpty (a.eval i) _ hk;have happ: ∀ ok l',apply st o {ok:=ok,val:=.tup [],upd:=[(p.1,.mp l')]}= {tmps:=put st.tmps o.dst (.tup []),Jm:=KI st.Jm p.1 (.mp l')}:=by intro ok l';rfl
 have hT: ∀(O':Own) (objs':List (Nat×Vm.Obj)) (m':Nat->Value) (w':World),Jy O' objs' m' w' (.tuple #[]) (.tup []):=fun _ _ _ _=>⟨#[],rfl,rfl,fun j hj=>by cases hj⟩
 have main: ∀(es':Array MapEntry),(Builtin.delete_ c.argTypes o.type #[a.eval x,a.eval i]).run P w= .ok (.tuple #[]) {w with heap:=w.heap.setIfInBounds r (.map es' ck)}->es'.size=(VQ p.2.kt (p.2.kt.mk i'.cells).2 p.2.l).length ->
  (∀(i0:Nat) (p0:p.2.kt.Val×p.2.vt.Val),(VQ p.2.kt (p.2.kt.mk i'.cells).2 p.2.l)[i0]? =some p0-> ∃ e,es'[i0]? =some e/\LM O w e.key (MW (p.2.kt.cells p0.1))/\LM O w e.val (MW (p.2.vt.cells p0.2)))->o.wp P a w next Q:=by
  intro es' hr hs he;have hrun:(execOp a.eval o).run P w= .ok (.value (.tuple #[])) {w with heap:=w.heap.setIfInBounds r (.map es' ck)}:=by simp [execOp,ho,resolve,hcal,hargs,invoke,builtin,hr]
  unfold Oper.wp;rw[hrun,Oper.upon_value];refine hn O m _ _ ?_;rw[happ];exact Zm (l':=⟨p.2.kt,p.2.vt,VQ p.2.kt (p.2.kt.mk i'.cells).2 p.2.l⟩) hS hq (by rw[<- h1]) h2 h3 hs he (fun _=>hT)
 have hsz:es.size=p.2.l.length:=by rw[<- h4,Array.length_toList]
 rcases lG (k:=(p.2.kt.mk i'.cells).2) es.toList p.2.l 0 h4 with ⟨f1,_,_,f3⟩ | ⟨j,e,q,f1,f2,f3,f4,_,_,f6⟩
 .refine main es ?_ (by rw[f3];exact hsz) (fun i0 p0 hp0=> ?_)
  .rw[hv,h1];simp [Builtin.delete_,hts0,DD hu,Qe h2,hchk,hfind,f1,Vl _ h2,Result.andThen]
  .rw[f3]at hp0;have hlt:i0<es.size:=by have:=(Ey.1 hp0).1;omega
   have hes:es.toList[i0]? =some es[i0]:=by rw[DJ,Dt hlt]
   exact⟨es[i0],Dt hlt,h5 i0 _ p0 hes hp0⟩
 .have hj:j<es.size:=by
   have:=(Ey.1 f2).1;simpa using this
  have hel:(es.eraseIdxIfInBounds j).toList=es.toList.eraseIdx j:=by unfold Array.eraseIdxIfInBounds;rw[dif_pos hj];simp
  refine main (es.eraseIdxIfInBounds j) ?_ ?_ (fun i0 p0 hp0=> ?_)
  .rw[hv,h1];simp [Builtin.delete_,hts0,DD hu,Qe h2,hchk,hfind,f1,Vl _ h2,Result.andThen]
  all_goals grind[LM,MW,split]
end
open Classical
def IC (O:Own) (w:World) (id:Nat) (v:Value):A->Prop
 | .usl z e l=>Kz O [] (fun _=>v) w id (.arr e z l)
 | .box cs=> ∃ b base,v= .pointer (some (at' b base))/\ ∀ j,j<cs.length->O b (base+j)=some id/\w.frozen? (at' b (base+j))=false/\ ∃ u,w.cell? (at' b (base+j))=some u/\Jt O w u (cs.getD j .undef)
 | .ump l=>LP O w id v l
 | a=>Jt O w v a
def IR (O:Own) (w:World) (id:Nat) (v:Value):A->Prop
 | .agg cs=> ∃ vs:Array Value,v= .agg vs/\vs.size=cs.length/\ ∀ j,j<cs.length->IC O w (id+1+j) (vs.getD j undef) (cs.getD j .undef)
 | .box cs=> ∃ b base,v= .pointer (some (at' b base))/\ ∀ j,j<cs.length->O b (base+j)=some id/\w.frozen? (at' b (base+j))=false/\ ∃ u,w.cell? (at' b (base+j))=some u/\IC O w (id+1+j) u (cs.getD j .undef)
 | .cbx k cs=> ∃ b base,UU O w k v (.pointer (some (at' b base)))/\ ∀ j,j<cs.length->O b (base+j)=some id/\w.frozen? (at' b (base+j))=false/\ ∃ u,w.cell? (at' b (base+j))=some u/\IC O w (id+1+j) u (cs.getD j .undef)
 | .ump l=>LP O w id v l
 | a=>IC O w id v a
section
variable {P:Program} {C:Ctx} {V0:Nat->Value} {O0 O:Own} {w0 w:World} {m:Nat->Value} {st:St} {a:Act} {o:Oper}
theorem Jt.ic {id:Nat} {v:Value} {x:A} (h:Jt O w v x):IC O w id v x:=by cases h<;>first | exact .bool _ | exact .int _ _ | exact .str _ | exact .nil _ | exact .KQ | exact .fn _ | exact .Xc | exact Jt.sl0 _ _ | (rename_i vs a1 a2 a3;exact Jt.sl vs a1 a2 a3) | (rename_i h hn;exact Jt.sln h hn)
def Me (O:Own) (ρ :Nat->Option Nat):Own:=fun b k=>match O b k with
 | none=>none
 | some o=>match ρ o with
  | some i=>some i
  | none=>some 255
theorem Sm {ρ :Nat->Option Nat} {b k:Nat}:Me O ρ b k=none↔O b k=none:=by grind[Me]
theorem OZ {ρ :Nat->Option Nat} {b k o i:Nat} (h:O b k=some o) (hr: ρ o=some i):Me O ρ b k=some i:=by unfold Me;rw[h];simp [hr]
theorem Om (ρ :Nat->Option Nat):Lt O w (Me O ρ) w:=fun _ _ _ h hc=>⟨Sm.2 h,hc⟩
theorem Kz.Me {ρ :Nat->Option Nat} {q i e:Nat} {z:Bool} {l:Sl} {Jm objs':List (Nat×Obj)} {m m':Nat->Value} (h:Kz O Jm m w q (.arr e z l)) (hr: ρ q=some i) (hm:m' i=m q) :
 Kz (Me O ρ) objs' m' w i (.arr e z l):=by
 refine⟨h.1,?_⟩;rcases h.2 with ⟨h1,h2,h3⟩ | ⟨h1,g,cap,cur,h2,h3,h4,h5,h6,h7,h8,h9⟩
 .exact .inl ⟨h1,h2,by rw[hm];exact h3⟩
 .refine .inr ⟨h1,g,cap,cur,by rw[hm];exact h2,h3,h4,h5,h6,fun r j hr' hj=> ?_,fun k hk hge=>OZ (h8 k hk hge) hr,fun k hk=> ?_⟩
  .obtain⟨u,h10,h11⟩:=h7 r j hr' hj;exact⟨u,h10,h11.JE (Om ρ)⟩
  .have:=h9 k hk;cases z with
   | true=>exact Sm.2 this
   | false=>exact OZ this hr
theorem Kz.keep {O':Own} {q e:Nat} {l:Sl} {Jm objs':List (Nat×Obj)} {m:Nat->Value} (h:Kz O Jm m w q (.arr e false l)) (hp:Lt O w O' w) (hk: ∀ b k,O b k=some q->O' b k=some q):Kz O' objs' m w q (.arr e false l):=by
 refine⟨h.1,?_⟩;rcases h.2 with h0 | ⟨h1,g,cap,cur,h2,h3,h4,h5,h6,h7,h8,h9⟩
 .exact .inl h0
 .refine .inr ⟨h1,g,cap,cur,h2,h3,h4,h5,h6,fun r j hr' hj=> ?_,fun k a b=>hk _ _ (h8 k a b),fun k a=>hk _ _ (h9 k a)⟩;obtain⟨u,h10,h11⟩:=h7 r j hr' hj;exact⟨u,h10,h11.JE hp⟩
theorem Qg {W:Prop} {fet:Fet} (hf:MV st.Jm fet) (hS: ∀ q y,Jr st.Jm q=some y->Kz O st.Jm m w q y): ∀(ks:List (Bool×CK)) (cs:List A) (id:Nat) (f:Nat->Value),(ks.any wC=true->W)->(∀ j,j<cs.length->J4 O st.Jm m w (f j) (cs.getD j .undef))->Jv (Ju fet ks cs).1 ->
 (Ju fet ks cs).2.1.length=ks.length/\cs.length=ks.length/\Frz st.Jm (Ju fet ks cs).2.2.1/\(Ju fet ks cs).2.2.2=(KC id ks cs).map (·.1) /\
 ∀ {O':Own} {objs':List (Nat×Obj)} {ρ :Nat->Option Nat},Lt O w O' w->(∀ p∈(Ju fet ks cs).2.2.1,∀ e l,p.2= .arr e true l->Jt O' w (m p.1) (.sl l)) ->
  (∀ p∈(Ju fet ks cs).2.2.1,Kz O' objs' m w p.1 p.2)->(∀ b k q,O b k=some q->(NR st.Jm q\/W)->O' b k=some q)->(∀ p∈KC id ks cs,ρ p.1=some p.2) ->
  ∀ j,j<ks.length->IC (Me O' ρ) w (id+j) (f j) ((Ju fet ks cs).2.1.getD j .undef):=by
 intro ks
 induction ks with
 | nil =>
  intro cs id f _ _ hok;cases cs with
  | nil=>exact⟨rfl,rfl,(fun p hp=>by simp [Ju]at hp),rfl,fun _ _ _ _ _ j hj=>by simp at hj⟩
  | cons _ _=>have:=hok false (by simp [Ju]);cases this
 | cons k ks ih =>
  intro cs id f hW h hok;obtain⟨u,k⟩:=k;cases cs with
  | nil=>have:=hok false (by cases u<;>simp [Ju]);cases this
  | cons c cs =>
   have hrest:=fun hok2=>ih cs (id+1) (fun j=>f (j+1)) (fun h=>hW (by rw[List.any_cons,h,FN])) (fun j hj=>by simpa using h (j+1) (by simpa using hj)) hok2;cases u with
   | false =>
    simp only[Ju]at hok ⊢;obtain⟨hok1,hok2⟩:=hok.append;obtain⟨h1,h2⟩:=Abu hf (h 0 (by simp)) hok1;obtain⟨h3,h4,h5,h6,h7⟩:=hrest hok2;have hnames:KC id ((false,k)::ks) (c::cs)=KC (id+1) ks cs:=by cases c<;>rfl
    refine⟨by simp [h3],by simp [h4],h1.append h5,by rw[hnames];exact h6,fun {O' objs' ρ} hp hv hO hbx hρ j hj=> ?_⟩;rw[hnames]at hρ;cases j with
    | zero =>have hvr:=(h2 hp (fun p hp=>hv p (Dx _ hp))).JE (Om ρ);exact hvr.ic
    | succ j =>have:=h7 hp (fun p hp=>hv p (Dy _ hp)) (fun p hp=>hO p (Dy _ hp)) hbx hρ j (by simpa using hj);rw[show id+(j+1)=id+1+j from by omega];simpa using this
   | true =>
    cases k with
    | sl e sz =>
     cases c with
     | own q =>
      simp only[Ju]at hok ⊢;cases hg:Jr fet q with
      | none=>rw[hg]at hok;have:=hok false (by simp);cases this
      | some x =>
       cases x with
       | box _=>rw[hg]at hok;have:=hok false (by simp);cases this
       | mp _=>rw[hg]at hok;have:=hok false (by simp);cases this
       | arr e' fz l =>
        rw[hg]at hok;dsimp only at hok ⊢;obtain⟨hok1,hok2⟩:=hok.append;obtain⟨e1,e2⟩:=hok1.cons;have e1:=Dk e1;subst e1;obtain⟨h3,h4,h5,h6,h7⟩:=hrest hok2;have hq:=hf q _ hg;refine⟨by simp [h3],by simp [h4],fun p hp=> ?_,?_,fun {O' objs' ρ} hp hv hO hbx hρ j hj=> ?_⟩
        .rcases Dz.1 hp with rfl | hp
         .exact⟨e,fz,l,hq,rfl⟩
         .exact h5 p hp
        .simp only[KC,DY,h6]
        .cases j with
         | zero =>have hc:J4 O st.Jm m w (f 0) (.own q):=h 0 (by simp);have hc:=hc.2;rw[hq]at hc;simp only[Option.map_some,Obj.shp]at hc;have:=hO _ Dp;exact this.Me (objs':=[]) (m':=fun _=>f 0) (hρ (q,id) Dp) hc
         | succ j =>have:=h7 hp (fun p hp=>hv p (Dq _ hp)) (fun p hp=>hO p (Dq _ hp)) hbx (fun p hp=>hρ p (Dq _ hp)) j (by simpa using hj);rw[show id+(j+1)=id+1+j from by omega];simpa using this
     | KD =>
      simp only[Ju]at hok ⊢;obtain⟨h3,h4,h5,h6,h7⟩:=hrest hok;have hnames:KC id ((true,.sl e sz)::ks) (.KD::cs)=KC (id+1) ks cs:=rfl;refine⟨by simp [h3],by simp [h4],h5,by rw[hnames];exact h6,fun {O' objs' ρ} hp hv hO hbx hρ j hj=> ?_⟩;rw[hnames]at hρ;cases j with
      | zero =>have hc:J4 O st.Jm m w (f 0) .KD:=h 0 (by simp);have hc:f 0= .slice none 0 0:=hc;show Kz _ [] (fun _=>f 0) w _ (.arr e true ⟨sz,[]⟩);exact⟨by simp [Sl.es],.inl ⟨trivial,rfl,hc⟩⟩
      | succ j =>have:=h7 hp hv hO hbx hρ j (by simpa using hj);rw[show id+(j+1)=id+1+j from by omega];simpa using this
     | _=>have:=hok false (by simp [Ju]);cases this
    | sln e sz =>
     cases c with
     | own q =>
      simp only[Ju]at hok ⊢;cases hg:Jr fet q with
      | none=>rw[hg]at hok;have:=hok false (by simp);cases this
      | some x =>
       cases x with
       | box _=>rw[hg]at hok;have:=hok false (by simp);cases this
       | mp _=>rw[hg]at hok;have:=hok false (by simp);cases this
       | arr e' fz l =>
        rw[hg]at hok;dsimp only at hok ⊢;obtain⟨hok1,hok2⟩:=hok.append;obtain⟨e1,e2⟩:=hok1.cons;obtain⟨_,e3⟩:=e2.cons;have e3:fz=false:=by simpa using e3.cons.1
        subst e3;have e1:=Dk e1;subst e1;obtain⟨h3,h4,h5,h6,h7⟩:=hrest hok2;have hq:=hf q _ hg;refine⟨by simp [h3],by simp [h4],h5,?_,fun {O' objs' ρ} hp hv hO hbx hρ j hj=> ?_⟩
        .simp only[KC,DY,h6]
        .cases j with
         | zero =>have hc:J4 O st.Jm m w (f 0) (.own q):=h 0 (by simp);have hc:=hc.2;rw[hq]at hc;simp only[Option.map_some,Obj.shp]at hc;exact(Kz.keep (objs':=st.Jm) (hS q _ hq) hp fun b k hb=>hbx b k q hb (.inr (hW rfl))).Me (objs':=[]) (m':=fun _=>f 0) (hρ (q,id) Dp) hc
         | succ j =>have:=h7 hp hv hO hbx (fun p hp=>hρ p (Dq _ hp)) j (by simpa using hj);rw[show id+(j+1)=id+1+j from by omega];simpa using this
     | KD =>
      simp only[Ju]at hok ⊢;obtain⟨h3,h4,h5,h6,h7⟩:=hrest hok;have hnames:KC id ((true,.sln e sz)::ks) (.KD::cs)=KC (id+1) ks cs:=rfl;refine⟨by simp [h3],by simp [h4],h5,by rw[hnames];exact h6,fun {O' objs' ρ} hp hv hO hbx hρ j hj=> ?_⟩;rw[hnames]at hρ;cases j with
      | zero =>have hc:J4 O st.Jm m w (f 0) .KD:=h 0 (by simp);have hc:f 0= .slice none 0 0:=hc;show Kz _ [] (fun _=>f 0) w _ (.arr e false ⟨sz,[]⟩);exact⟨by simp [Sl.es],.inl ⟨trivial,rfl,hc⟩⟩
      | succ j =>have:=h7 hp hv hO hbx hρ j (by simpa using hj);rw[show id+(j+1)=id+1+j from by omega];simpa using this
     | _=>have:=hok false (by simp [Ju]);cases this
    | bx t =>
     cases c with
     | ptr q off =>
      simp only[Ju]at hok ⊢;cases hg:KT fet q with
      | none=>rw[hg]at hok;have:=hok false (by simp);cases this
      | some zs =>
       rw[hg]at hok;dsimp only at hok ⊢;obtain⟨hok0,hok1⟩:=hok.cons;obtain⟨hok1,hok2⟩:=hok1.append;have hok0:=Dk hok0;subst hok0;obtain⟨h3,h4,h5,h6,h7⟩:=hrest hok2;have hq:=hf q _ (KN hg);obtain⟨b,base,g1,g2⟩:=hS q _ hq;have hv0:f 0= .pointer (some (at' b base)):=by have hc:J4 O st.Jm m w (f 0) (.ptr q 0):=h 0 (by simp);have hc:=hc.2;rw[hq]at hc;simp only[Option.map_some,Obj.shp]at hc;obtain⟨b',base',g3,g4⟩:=hc;rw[g1]at g3;injection g3 with g3;injection g3 with g3;injection g3 with e1 e2;subst e1;subst e2;exact g4
       have hfc: ∀ j,j<zs.length->w.cell? (at' b (base+j))=some ((w.cell? (at' b (base+j))).getD undef)/\J4 O st.Jm m w ((w.cell? (at' b (base+j))).getD undef) (zs.getD j .undef):=by intro j hj;obtain⟨_,_,u,h3,h4⟩:=g2 j hj;rw[h3];exact⟨rfl,h4⟩
       obtain⟨p1,p2,p3,p4⟩:=PR hf (tck t) zs (fun j=>(w.cell? (at' b (base+j))).getD undef) (fun j hj=>(hfc j hj).2) hok1;refine⟨by simp [h3],by simp [h4],p3.append h5,?_,fun {O' objs' ρ} hp hv hO hbx hρ j hj=> ?_⟩
       .simp only[KC,DY,h6]
       .cases j with
        | zero =>
         refine⟨b,base,hv0,fun j hj=> ?_⟩;have hj:j<(JV fet (tck t) zs).2.1.length:=hj;rw[p1]at hj;have hj':j<zs.length:=by rw[p2];exact hj
         obtain⟨k1,k2,_⟩:=g2 j hj';exact⟨OZ (hbx _ _ _ k1 (.inl (.of hq (fun _ _ _ h=>by cases h)))) (hρ (q,id) Dp),k2,_,(hfc j hj').1,(p4 hp (fun p hp=>hv p (Dx _ hp)) j hj).JE (Om ρ)⟩
        | succ j =>have:=h7 hp (fun p hp=>hv p (Dy _ hp)) (fun p hp=>hO p (Dy _ hp)) hbx (fun p hp=>hρ p (Dq _ hp)) j (by simpa using hj);rw[show id+(j+1)=id+1+j from by omega];simpa using this
     | _=>have:=hok false (by simp [Ju]);cases this
    | mp kt vt =>
     cases c with
     | own q =>
      simp only[Ju]at hok ⊢;cases hg:Jr fet q with
      | none=>rw[hg]at hok;have:=hok false (by simp);cases this
      | some x =>
       cases x with
       | box _=>rw[hg]at hok;have:=hok false (by simp);cases this
       | arr _ _ _=>rw[hg]at hok;have:=hok false (by simp);cases this
       | mp l =>
        rw[hg]at hok;dsimp only at hok ⊢;obtain⟨hok1,hok2⟩:=hok.append;obtain⟨h3,h4,h5,h6,h7⟩:=hrest hok2;have hq:=hf q _ hg;refine⟨by simp [h3],by simp [h4],h5,?_,fun {O' objs' ρ} hp hv hO hbx hρ j hj=> ?_⟩
        .simp only[KC,DY,h6]
        .cases j with
         | zero =>
          have hc:J4 O st.Jm m w (f 0) (.own q):=h 0 (by simp);have hc:=hc.2;rw[hq]at hc;have hv0:f 0=m q:=hc;obtain⟨r,es,ck,g1,g2,g3,g4,g5⟩:=(show LP O w q (m q) l from hS q _ hq)
          refine⟨r,es,ck,by rw[hv0];exact g1,g2,OZ (hbx _ _ _ g3 (.inl (.of hq (fun _ _ _ h=>by cases h)))) (hρ (q,id) Dp),g4,fun i p hip=> ?_⟩;obtain⟨e,k1,k2,k3⟩:=g5 i p hip;exact⟨e,k1,(k2.JE hp).JE (Om ρ),(k3.JE hp).JE (Om ρ)⟩
         | succ j =>have:=h7 hp hv hO hbx (fun p hp=>hρ p (Dq _ hp)) j (by simpa using hj);rw[show id+(j+1)=id+1+j from by omega];simpa using this
     | _=>have:=hok false (by simp [Ju]);cases this
    | _=>have:=hok false (by simp [Ju]);cases this
end
section
variable {P:Program} {C:Ctx} {V0:Nat->Value} {O0 O:Own} {w0 w:World} {m:Nat->Value} {st:St} {a:Act} {o:Oper}
theorem AaJ {W:Prop} {fet:Fet} (hf:MV st.Jm fet) {s:Sh} {x:A} {v:Value} {id:Nat} (hW:wS s=true->W) (hx:Jy O st.Jm m w v x) (hS: ∀ q y,Jr st.Jm q=some y->Kz O st.Jm m w q y) (hok:Jv (JD fet s x).ok) :
 Frz st.Jm (JD fet s x).upd/\(∀ q∈(JD fet s x).del++(JD fet s x).boxes.map (·.1),q∈(MK fet id s x).map (·.1))/\(∀ q∈(MK fet id s x).map (·.1),q∈(JD fet s x).del++(JD fet s x).boxes.map (·.1)) /\
 (JR s=true↔(JD fet s x).boxes≠ []) /\
 ∀ {O':Own} {objs':List (Nat×Obj)} {ρ :Nat->Option Nat},Lt O w O' w->(∀ p∈(JD fet s x).upd,∀ e l,p.2= .arr e true l->Jt O' w (m p.1) (.sl l)) ->
  (∀ p∈(JD fet s x).upd,Kz O' objs' m w p.1 p.2)->(∀ b k q,O b k=some q->(NR st.Jm q\/W)->O' b k=some q)->(∀ p∈MK fet id s x,ρ p.1=some p.2) ->
  IR (Me O' ρ) w id v (JD fet s x).a:=by
 cases s with
 | cell u k =>
  unfold JD at *
  dsimp only at hok ⊢
  have hall: ∀ hc:J4 O st.Jm m w v x,_:=fun hc=>Qg hf hS [(u,k)] [x] id (fun _=>v) (fun h=>hW (by rw[List.any_cons,List.any_nil,Gg]at h;exact h)) (fun j hj=>by
   have:j=0:=by simpa using hj
   subst this;exact hc)
  have hnc: ∀(h:Jv (Ju fet [(u,k)] [x]).1),J4 O st.Jm m w v x:=by
   intro h;cases x with
   | undef=>cases u<;>cases k<;>(have:=h false (by simp [Ju,pur]);cases this)
   | agg _=>cases u<;>cases k<;>(have:=h false (by simp [Ju,pur]);cases this)
   | tup _=>cases u<;>cases k<;>(have:=h false (by simp [Ju,pur]);cases this)
   | cnd _ _=>cases u<;>cases k<;>(have:=h false (by simp [Ju,pur]);cases this)
   | _=>exact hx
  generalize hh:Ju fet [(u,k)] [x]=r at *
  obtain⟨ok,cs,upd,del⟩:=r;cases cs with
  | nil=>have:=hok false (by simp);cases this
  | cons c cs =>
   cases cs with
   | cons _ _=>have:=hok false (by simp);cases this
   | nil =>
    dsimp only at hok ⊢;obtain⟨h1,h2,h3,h4,h5⟩:=hall (hnc hok) hok;have h4:del=(KC id [(u,k)] [x]).map (·.1):=h4;refine⟨h3,fun q hq=> ?_,fun q hq=> ?_,⟨(fun h=>by cases h),fun h=>absurd rfl h⟩,fun {O' objs' ρ} hp hv hO hbx hρ => ?_⟩
    .simp only[EH,ES]at hq;rw[h4]at hq;exact hq
    .simp only[EH,ES];rw[h4];exact hq
    .have:=h5 hp hv hO hbx hρ 0 (by simp);have e: [c].getD 0 .undef=c:=rfl;dsimp only at this;rw[e]at this;cases c<;>first | exact this | (obtain⟨b,base,e1,e2⟩:=this;exact⟨b,base,e1,fun j hj=>let ⟨k1,k2,u,k3,k4⟩:=e2 j hj;⟨k1,k2,u,k3,k4.ic⟩⟩) | cases this
 | agg ks =>
  cases x with
  | agg cs =>
   unfold JD at *
   dsimp only at hok ⊢;obtain⟨vs,g1,g2,g3⟩:=hx;obtain⟨h1,h2,h3,h4,h5⟩:=Qg hf hS ks cs (id+1) (fun j=>vs.getD j undef) hW g3 hok;refine⟨h3,fun q hq=> ?_,fun q hq=> ?_,⟨(fun h=>by cases h),fun h=>absurd rfl h⟩,fun {O' objs' ρ} hp hv hO hbx hρ => ?_⟩
   .simp only[EH,ES]at hq;rw[h4]at hq;exact hq
   .simp only[EH,ES];rw[h4];exact hq
   .exact⟨vs,g1,by rw[g2,h1,h2],fun j hj=>h5 hp hv hO hbx hρ j (by rw[<- h1];exact hj)⟩
  | _=>have:=hok false (by simp [JD]);cases this
 | box ks =>
  cases x with
  | ptr q off =>
   unfold JD at *
   dsimp only at hok ⊢;cases hg:KT fet q with
   | none=>rw[hg]at hok;have:=hok false (by simp);cases this
   | some cs =>
    rw[hg]at hok;dsimp only at hok ⊢;obtain⟨ho0,hokA⟩:=hok.cons;obtain⟨_,hokB⟩:=hokA.cons;have ho0:=Dk ho0;subst ho0;have hq:=hf q _ (KN hg);obtain⟨b,base,g1,g2⟩:=hS q _ hq;have hv0:v= .pointer (some (at' b base)):=by have hc:J4 O st.Jm m w v (.ptr q 0):=hx;have hc:=hc.2;all_goals grind[Obj.shp]
    let f:Nat->Value:=fun j=>(w.cell? (at' b (base+j))).getD undef
    have hfc: ∀ j,j<cs.length->w.cell? (at' b (base+j))=some (f j)/\J4 O st.Jm m w (f j) (cs.getD j .undef):=by
     intro j hj;obtain⟨_,_,u,h3,h4⟩:=g2 j hj;have:f j=u:=by show(w.cell? _).getD _=_;rw[h3];rfl
     rw[this];exact⟨h3,h4⟩
    obtain⟨h1,h2,h3,h4,h5⟩:=Qg hf hS ks cs (id+1) f hW (fun j hj=>(hfc j hj).2) hokB;have hnames:MK fet id (.box ks) (.ptr q 0)=(q,id)::KC (id+1) ks cs:=by simp only[MK,hg]
    rw[hnames];refine⟨h3,fun r hr=> ?_,fun r hr=> ?_,⟨fun _=>by simp,fun _=>rfl⟩,fun {O' objs' ρ} hp hv hO hbx hρ => ?_⟩
    .simp only[DY,EH,DI,Ee]at hr;rcases hr with hr | hr
     .rw[h4]at hr;exact Dq _ hr
     .rw[hr];exact Dp
    .simp only[DY,EH,DI,Ee];rcases Dz.1 hr with hr | hr
     .exact .inr hr
     .left;rw[h4];exact hr
    .refine⟨b,base,hv0,fun j hj=> ?_⟩;rw[h1]at hj;obtain⟨k1,k2,u,k3,_⟩:=g2 j (by rw[h2];exact hj);refine⟨OZ (hbx _ _ _ k1 (.inl (.of hq (fun _ _ _ h=>by cases h)))) (hρ (q,id) Dp),k2,f j,(hfc j (by rw[h2];exact hj)).1,h5 hp hv hO hbx (fun p hp'=>hρ p (Dq _ hp')) j hj⟩
  | _=>have:=hok false (by simp [JD]);cases this
 | clo f' ks =>
  cases x with
  | clo g q =>
   unfold JD at *
   dsimp only at hok ⊢;cases hg:KT fet q with
   | none=>rw[hg]at hok;have:=hok false (by simp);cases this
   | some cs =>
    rw[hg]at hok;dsimp only at hok ⊢;obtain⟨ho0,hokA⟩:=hok.cons;obtain⟨_,hokB⟩:=hokA.cons;have ho0:=Dk ho0;subst ho0;have hq:=hf q _ (KN hg);obtain⟨b,base,g1,g2⟩:=hS q _ hq;have hv0:UU O w f' v (.pointer (some (at' b base))):=by have hc:J4 O st.Jm m w v (.clo f' q):=hx;obtain⟨_,p,_,hc2,hc⟩:=hc;rw[hq]at hc;obtain⟨b',base',e1,e2⟩:=hc;rw[g1]at e1;rw[e1,<- e2];exact hc2
    let f:Nat->Value:=fun j=>(w.cell? (at' b (base+j))).getD undef
    have hfc: ∀ j,j<cs.length->w.cell? (at' b (base+j))=some (f j)/\J4 O st.Jm m w (f j) (cs.getD j .undef):=by
     intro j hj;obtain⟨_,_,u,h3,h4⟩:=g2 j hj;have:f j=u:=by show(w.cell? _).getD _=_;rw[h3];rfl
     rw[this];exact⟨h3,h4⟩
    obtain⟨h1,h2,h3,h4,h5⟩:=Qg hf hS ks cs (id+1) f hW (fun j hj=>(hfc j hj).2) hokB;have hnames:MK fet id (.clo f' ks) (.clo f' q)=(q,id)::KC (id+1) ks cs:=by simp only[MK,hg]
    rw[hnames];refine⟨h3,fun r hr=> ?_,fun r hr=> ?_,⟨fun _=>by simp,fun _=>rfl⟩,fun {O' objs' ρ} hp hv hO hbx hρ => ?_⟩
    .simp only[DY,EH,DI,Ee]at hr;rcases hr with hr | hr
     .rw[h4]at hr;exact Dq _ hr
     .rw[hr];exact Dp
    .simp only[DY,EH,DI,Ee];rcases Dz.1 hr with hr | hr
     .exact .inr hr
     .left;rw[h4];exact hr
    .refine⟨b,base,(hv0.JE hp).JE (Om ρ),fun j hj=> ?_⟩;rw[h1]at hj;obtain⟨k1,k2,u,k3,_⟩:=g2 j (by rw[h2];exact hj);refine⟨OZ (hbx _ _ _ k1 (.inl (.of hq (fun _ _ _ h=>by cases h)))) (hρ (q,id) Dp),k2,f j,(hfc j (by rw[h2];exact hj)).1,h5 hp hv hO hbx (fun p hp'=>hρ p (Dq _ hp')) j hj⟩
  | _=>have:=hok false (by simp [JD]);cases this
 | map kt vt =>
  cases x with
  | own q =>
   unfold JD at *
   dsimp only at hok ⊢;cases hg:Jr fet q with
   | none=>rw[hg]at hok;have:=hok false (by simp);cases this
   | some y =>
    cases y with
    | box _=>rw[hg]at hok;have:=hok false (by simp);cases this
    | arr _ _ _=>rw[hg]at hok;have:=hok false (by simp);cases this
    | mp l =>
     rw[hg]at hok;dsimp only at hok ⊢;have hq:=hf q _ hg;have hv0:v=m q:=by have hc:J4 O st.Jm m w v (.own q):=hx;have hc:=hc.2;rw[hq]at hc;exact hc
     refine⟨(fun p hp=>by cases hp),fun r hr=> ?_,fun r hr=> ?_,⟨fun _=>by simp,fun _=>rfl⟩,fun {O' objs' ρ} hp hv hO hbx hρ => ?_⟩
     .simpa [MK]using hr
     .simpa [MK]using hr
     .obtain⟨r,es,ck,g1,g2,g3,g4,g5⟩:=(show LP O w q (m q) l from hS q _ hq)
      refine⟨r,es,ck,by rw[hv0];exact g1,g2,OZ (hbx _ _ _ g3 (.inl (.of hq (fun _ _ _ h=>by cases h)))) (hρ (q,id) Dp),g4,fun i p hip=> ?_⟩;obtain⟨e,k1,k2,k3⟩:=g5 i p hip;exact⟨e,k1,(k2.JE hp).JE (Om ρ),(k3.JE hp).JE (Om ρ)⟩
  | _=>have:=hok false (by simp [JD]);cases this
theorem Ut {W:Prop} {fet:Fet} (hf:MV st.Jm fet) (hS: ∀ q y,Jr st.Jm q=some y->Kz O st.Jm m w q y) (stride:Nat): ∀(ss:List Sh) (xs:List A) (id:Nat) (f:Nat->Value),(ss.any wS=true->W)->(∀ j,j<xs.length->Jy O st.Jm m w (f j) (xs.getD j .undef))->Jv (J8 fet ss xs).1 ->
 (J8 fet ss xs).2.1.length=ss.length/\xs.length=ss.length/\Frz st.Jm (J8 fet ss xs).2.2.1 /\
 (∀ q,q∈(J8 fet ss xs).2.2.2.1++(J8 fet ss xs).2.2.2.2.map (·.1)↔q∈(LK fet id stride ss xs).map (·.1)) /\
 ∀ {O':Own} {objs':List (Nat×Obj)} {ρ :Nat->Option Nat},Lt O w O' w->(∀ p∈(J8 fet ss xs).2.2.1,∀ e l,p.2= .arr e true l->Jt O' w (m p.1) (.sl l)) ->
  (∀ p∈(J8 fet ss xs).2.2.1,Kz O' objs' m w p.1 p.2)->(∀ b k q,O b k=some q->(NR st.Jm q\/W)->O' b k=some q)->(∀ p∈LK fet id stride ss xs,ρ p.1=some p.2) ->
  ∀ j,j<ss.length->IR (Me O' ρ) w (id+stride*j) (f j) ((J8 fet ss xs).2.1.getD j .undef):=by
 intro ss
 induction ss with
 | nil =>
  intro xs id f _ _ hok;cases xs with
  | nil=>exact⟨rfl,rfl,(fun p hp=>by simp [J8]at hp),(fun q=>by simp [J8,LK]),fun _ _ _ _ _ j hj=>by simp at hj⟩
  | cons _ _=>have:=hok false (by simp [J8]);cases this
 | cons s ss ih =>
  intro xs id f hW h hok;cases xs with
  | nil=>have:=hok false (by simp [J8]);cases this
  | cons x xs =>
   simp only[J8]at hok ⊢;obtain⟨hok1,hok2⟩:=hok.append;obtain⟨h1,h2,h3,_,h4⟩:=AaJ (id:=id) hf (fun e=>hW (by rw[List.any_cons,e,Bool.true_or])) (h 0 (by simp)) hS hok1;obtain⟨g1,g2,g3,g4,g5⟩:=ih xs (id+stride) (fun j=>f (j+1)) (fun e=>hW (by rw[List.any_cons,e,FN])) (fun j hj=>by simpa using h (j+1) (by simpa using hj)) hok2;refine⟨by simp [g1],by simp [g2],h1.append g3,fun q=> ?_,fun {O' objs' ρ} hp hv hO hbx hρ j hj=> ?_⟩
   .grind[LK,a1,a2,a3]
   .cases j with
    | zero=>simpa using h4 hp (fun p hp=>hv p (Dx _ hp)) (fun p hp=>hO p (Dx _ hp)) hbx (fun p hp=>hρ p (Dx _ hp))
    | succ j =>have:=g5 hp (fun p hp=>hv p (Dy _ hp)) (fun p hp=>hO p (Dy _ hp)) hbx (fun p hp=>hρ p (Dy _ hp)) j (by simpa using hj);rw[show id+stride*(j+1)=id+stride+stride*j from by rw[G7];omega];simpa using this
end
end Go.Proofs.YtpaimpmokhihmaaGreatDoor.Vm
