/-
  CertextCheck: the law returns true whatever the input; machine, functions, plain law (part 10 of 47.)
-/
import Derived.Test.YtadefjgbcapakaaGreatDoorA9
import Derived.Lib.ConvBytes
set_option linter.unusedVariables false
set_option linter.unusedSimpArgs false
namespace Go.Proofs.YtadefjgbcapakaaGreatDoor.Vm
open Classical
section
variable {P:Program} {C:Ctx} {V0:Nat→Value} {O0 O:Own} {w0 w:World} {m:Nat→Value} {st:St} {a:Act} {o:Oper}
theorem Agu {c:Call} {s y:Operand} {t u:Nat} {tu:TI} (hC:TOk P C) (hS:Sim V0 O0 w0 O m st a w) {d:Tmp} (hd:o.dst=some d) (ho:o.op= .call c) (hcal:c.callee= .builtin .append) (hargs:c.args= #[s,y]) (hty:c.argTypes.toList=[t,u])
    (htu:C.T u=some tu) (hsl:Q7 tu.d=true) {fet:Fet} (hf:Ir st.Aa fet) {x' y':A} (hx:AB O st.Aa m w (a.eval s) x') (hy:AB O st.Aa m w (a.eval y) y')
    (hok:AA (Xl C fet d t x' y').ok) (hfr: ∀ p∈(Xl C fet d t x' y').new,st.fresh p.1=true):Good P V0 O0 w0 (apply st o (Xl C fet d t x' y')) o a w:=by
  intro next Q hn
  have hF:FOk O st.Aa m w fet:=fun q x h=>⟨hf q x h,hS.Aa q x (hf q x h)⟩
  unfold Xl at *
  obtain⟨ti,e,te,ht,hte,hd',he⟩:=VD hok
  rw[he]at hok hfr hn;clear he
  split at hok
  ·rename_i q
   obtain⟨r,hr,he⟩:=Be hok
   rw[he]at hok
   dsimp only at hfr hn
   rw[he]at hfr hn;clear he
   obtain⟨hok1,hok2⟩:=hok.append
   obtain⟨h1,h2⟩:=hok2.cons
   obtain⟨h2,h3⟩:=h2.cons
   obtain⟨h3,h4⟩:=h3.cons
   have h1:=Nat.eq_of_beq_eq_true h1
   have h2:=Nat.eq_of_beq_eq_true h2
   have h3:0<te.cs.length:=by rw[← h2];simpa [Nat.blt_eq]using h3
   have h2:r.l.t.len=te.cs.length:=h2
   have h4:(r.l.xs.length+(Gj fet r.l.t y').2.length)*(te.bytes+1)≤140737488355328:=by simpa using h4.cons.1
   obtain⟨news,hsrc⟩:=src_of (P:=P) hF hy hok1
   have hq:=Gu hr
   obtain⟨hv,hO⟩:=hx.own hF hq
   have hq':=hf _ _ hq
   rw[h2]at hsrc
   refine qC (frz:=r.frz) (l:=r.l) (l':=⟨r.l.t,r.l.xs++(Gj fet r.l.t y').2⟩) (del:=[q]) hC hS hd ho hcal hargs hty ht hte hd' htu hsl hsrc h3 (by rw[Sl.BQ,Sl.BQ];exact h4) (DU (hfr _ List.mem_cons_self)) (Sl.AjZ _ _ _) h2 h2 ?_ next Q (fun O' m' a' w' h=>hn O' m' a' w' ?_)
   ·rcases hO.2 with ⟨h5,h6,h7⟩ | ⟨h5,g,cap,cur,h6,h7,_⟩
    ·exact .inl ⟨h5,h6,by rw[hv,h7]⟩
    ·refine .inr ⟨h5,q,g,cap,cur,rfl,?_,h6,by rw[hv,h6],?_⟩
     ·rw[hq',h1]
     ·rw[h1];exact h7
   ·rw[Qh hd]
    rw[h1]at h;exact h
  ·obtain⟨hok1,hok2⟩:=hok.append
   obtain⟨h3,h4⟩:=hok2.cons
   have h3:0<te.cs.length:=by simpa [Nat.blt_eq]using h3
   have h4:(Gj fet (tyl te.cs) y').2.length*(te.bytes+1)≤140737488355328:=by simpa using h4.cons.1
   obtain⟨news,hsrc⟩:=src_of (P:=P) hF hy hok1
   rw[Me]at hsrc
   refine qC (frz:=false) (l:=⟨tyl te.cs,[]⟩) (l':=⟨tyl te.cs,(Gj fet (tyl te.cs) y').2⟩) (del:=[]) hC hS hd ho hcal hargs hty ht hte hd' htu hsl hsrc h3 (by rw[Sl.Akb,Sl.BQ];simpa using h4) (DU (hfr _ List.mem_cons_self)) (by rw[Sl.Akb];rfl) (Me _) (Me _) (.inl ⟨trivial,rfl,hx⟩) next Q (fun O' m' a' w' h=>hn O' m' a' w' ?_)
   rw[Qh hd]
   exact h
  ·exact(AU hok).elim
theorem AhX {t:Nat} {x:Operand} (hC:TOk P C) (hS:Sim V0 O0 w0 O m st a w) {d:Tmp} (hd:o.dst=some d) (ho:o.op= .box t x) {x':A} (hx:AB O st.Aa m w (a.eval x) x') (hids: ∀ i∈x'.ids,i∈st.ids∨(Ai st.Aa i).isSome)
    (hok:AA (KL C d t x').ok) (hfr: ∀ p∈(KL C d t x').new,st.fresh p.1=true) (hnd:nodup ((KL C d t x').new.map (·.1))=true):Good P V0 O0 w0 (apply st o (KL C d t x')) o a w:=by
  refine Ae3 hC hS hx hids hd (fun ti ht hv hs=> ?_) hok hfr hnd
  simp only[execOp,ho,Instr.box,newVar,newRow,Sem.run_bind]
  rfl
theorem Aey {t:Nat} {ti:TI} (hC:TOk P C) (hS:Sim V0 O0 w0 O m st a w) {d:Tmp} (hd:o.dst=some d) (ho:o.op= .alloc t) (ht:C.T t=some ti)
    (hok:AA (KL C d t (.agg (ti.cs.map CK.zero))).ok) (hfr: ∀ p∈(KL C d t (.agg (ti.cs.map CK.zero))).new,st.fresh p.1=true) (hnd:nodup ((KL C d t (.agg (ti.cs.map CK.zero))).new.map (·.1))=true) :
    Good P V0 O0 w0 (apply st o (KL C d t (.agg (ti.cs.map CK.zero)))) o a w:=by
  obtain⟨i,z,h1,h2,_,h3⟩:=Ago (O:=O) (Aa:=st.Aa) (m:=m) (w:=w) (hC.is ht)
  refine Ae3 (v:=.agg z.cells) (x:=.agg (ti.cs.map CK.zero)) hC hS ⟨z.cells,rfl,h3.1,h3.2⟩ (fun j hj=> ?_) hd (fun ti ht hv hs=> ?_) hok hfr hnd
  ·exfalso
   have: ∀ ks:List CK,(ks.map CK.zero).flatMap A.FK=[]:=by
     intro ks
     induction ks with
     | nil=>rfl
     | cons k ks ih=>rw[List.map_cons,List.flatMap_cons,ih];cases k<;>rfl
   have hj':j∈(ti.cs.map CK.zero).flatMap A.FK:=hj
   rw[this]at hj';cases hj'
  ·simp only[execOp,ho,Instr.alloc,Sem.run_bind,zeroValue,typeInfo,run_program,Result.andThen_ok,h1,h2,Sem.run_pure,newVar,newRow]
   rfl
theorem lQ {t:Nat} {ti:TI} (hT:MI P t ti) {v:Value} {b k:Nat} (hs:v.cells.size=ti.cs.length) (h1: ∀ j,j<v.cells.size→(v.cells.getD j undef).oneCell'=true) (hc: ∀ j,j<v.cells.size→(w.cell? (at' b (k+j))).isSome=true) (hf: ∀ j,j<v.cells.size→w.frozen? (at' b (k+j))=false) :
    (storeVar t (at' b k) v).run P w= .ok () (w.setCells b k v.cells.toList):=by
  have:=run_storeCells_cells (P:=P) b k v.cells.toList 0 w (fun j hj=>by simpa using hc j (by simpa using hj)) (fun j hj=>by simpa using hf j (by simpa using hj)) (fun u hu=>by
    obtain⟨j,hj,he⟩:=List.mem_iff_getElem.1 hu
    have:=h1 j (by simpa using hj)
    rw[Array.getD_eq_getD_getElem?,Array.getElem?_eq_getElem (by simpa using hj)]at this
    rw[← he];simpa using this)
  unfold storeVar
  simp only[Sem.run_bind,hT.JZ,Result.andThen_ok]
  rw[if_neg (by simpa using hs)]
  simpa using this
theorem AdH {t:Nat} {x y:Operand} (hC:TOk P C) (hS:Sim V0 O0 w0 O m st a w) (hd:o.dst=none) (ho:o.op= .store t x y) {fet:Fet} (hf:Ir st.Aa fet) {q off:Nat} {v':A} (hx:AB O st.Aa m w (a.eval x) (.ptr q off)) (hy:AB O st.Aa m w (a.eval y) v')
    (hids: ∀ i∈v'.ids,i∈st.ids∨(Ai st.Aa i).isSome)
    (hok:AA (Lr C fet t (.ptr q off) v').ok) (hfr: ∀ p∈(Lr C fet t (.ptr q off) v').new,st.fresh p.1=true) (hnd:nodup ((Lr C fet t (.ptr q off) v').new.map (·.1))=true):Good P V0 O0 w0 (apply st o (Lr C fet t (.ptr q off) v')) o a w:=by
  intro next Q hn
  have hF:FOk O st.Aa m w fet:=fun q x h=>⟨hf q x h,hS.Aa q x (hf q x h)⟩
  unfold Lr at *
  obtain⟨ti,ht,he⟩:=BB hok
  rw[he]at hok hfr hnd hn;clear he
  dsimp only at hok hfr hnd hn
  obtain⟨cs,hcs,he⟩:=Be hok
  rw[he]at hok hfr hnd hn;clear he
  obtain⟨h1,h2⟩:=hok.cons
  obtain⟨h2,h3⟩:=h2.cons
  have h2:=Nat.eq_of_beq_eq_true h2
  obtain⟨h3,h30⟩:=h3.cons
  have h3:=Nat.le_of_ble_eq_true h3
  have h30:0<ti.cs.length:=by simpa [Nat.blt_eq]using h30.cons.1
  have hT:=hC.is ht
  obtain⟨b,base,g1,g2,g3⟩:=hx.ptr hF (Gv hcs)
  have hq:=hf _ _ (Gv hcs)
  have hvc:=hy.cells h1
  have hvs:v'.cells.length=ti.cs.length:=h2
  have hsz:(a.eval y).cells.size=ti.cs.length:=by rw[hvc.1,h2]
  have hr:(execOp a.eval o).run P w= .ok .skip (w.setCells b (base+off) (a.eval y).cells.toList):=by
    have:=lQ (P:=P) (w:=w) (b:=b) (k:=base+off) hT hsz (fun j hj=>(hvc.2 j (by rw[← hvc.1];exact hj)).one) (fun j hj=>by
      obtain⟨_,_,u,g4,_⟩:=g3 (off+j) (by omega)
      rw[Nat.add_assoc,g4];rfl) (fun j hj=>by
      obtain⟨_,g4,_⟩:=g3 (off+j) (by omega)
      rw[Nat.add_assoc];exact g4)
    simp only[execOp,ho,Instr.storeAt,Instr.sureAddr,g2,Sem.run_bind,Sem.run_pure,Result.andThen_ok,this]
  unfold Oper.wp
  rw[hr,Oper.upon_skip]
  obtain⟨_,_,u0,hu0,_⟩:=g3 off (by omega)
  obtain⟨c,e,fr,hblk⟩: ∃ c e fr,w.heap[b]? =some (.cells c e fr):=by
    unfold World.cell? at hu0
    dsimp only at hu0
    split at hu0
    ·rename_i c e fr hh;exact⟨c,e,fr,hh⟩
    ·cases hu0
  have hcell: ∀ k u,w.cell? (at' b k)=some u→c[k]? =some u:=by
    intro k u hu
    simp only[World.cell?,hblk]at hu
    simpa using hu
  have hend:base+off+(a.eval y).cells.toList.length≤c.size:=by
    rw[Array.length_toList,hsz]
    obtain⟨_,_,u,hu,_⟩:=g3 (off+(ti.cs.length - 1)) (by omega)
    have:=hcell _ _ hu
    have:=(Array.getElem?_eq_some_iff.1 this).1
    omega
  obtain⟨c',k1,k2,k3,k4,k5,k6,k7,k8⟩:=SH b (a.eval y).cells.toList (base+off) w hblk hend
  rw[Array.length_toList,hsz]at k3
  have hout: ∀ k,(k<base+off∨base+off+ti.cs.length≤k)→c'[k]? =c[k]? :=by
    intro k hk
    by_cases hks:k<c.size
    ·have:=k3 k
     rw[if_neg (by omega)]at this
     rw[getD_eq (by omega),getD_eq hks,this]
    ·rw[Array.getElem?_eq_none (by omega),Array.getElem?_eq_none (by omega)]
  have hown: ∀ k,base+off≤k→k<base+off+ti.cs.length→O b k=some q:=by
    intro k hk1 hk2
    have:=(g3 (k - base) (by omega)).1
    rwa [show base+(k - base)=k from by omega]at this
  let w':=w.setCells b (base+off) (a.eval y).cells.toList
  have hM:Moves O (fun i=>i=q) w w':=by
    refine Moves.row k6 k7 k8 k5 hblk k1 k4 k2 (fun k hk=>hout k ?_) (.inl ⟨base+off,q,?_,hown _ (Nat.le_refl _) (by omega),rfl⟩)
    ·rcases Nat.lt_or_ge k (base+off)with h | h
     ·exact .inl h
     ·right
      rcases Nat.lt_or_ge k (base+off+ti.cs.length)with h' | h'
      ·exact absurd rfl (hk q (hown k h h'))
      ·exact h'
    ·rw[Array.length_toList,hsz]at hend;omega
  have hP:Passes O O (fun i=>i=q) w.heap.size:=⟨fun _ _ _ h=>h,fun _ _ _ _ h _=>h⟩
  have hpr:=hM.Bj hP
  let ad:=Dy (Du fet q+1+off) ti.cs v'.cells
  let m':Nat→Value:=fun i=>if has (ad.2.map (·.1)) i then .slice none 0 0 else m i
  let Nw:Nat→Prop:=fun i=> ∃ p∈ad.2,p.1=i
  have hNw: ∀ i,Nw i→Gp st i:=by
    rintro i ⟨p,hp,rfl⟩
    exact DU (hfr p hp)
  have hm_not: ∀ i,¬ Nw i→m' i=m i:=by
    intro i hi
    refine if_neg (fun h=>hi ?_)
    obtain⟨p,hp,hpe⟩:=List.mem_map.1 (H7.1 h)
    exact⟨p,hp,hpe⟩
  have hmad: ∀ p∈ad.2,m' p.1= .slice none 0 0:=fun p hp=>if_pos (H7.2 (List.mem_map.2 ⟨p,hp,rfl⟩))
  have hqN: ¬ Nw q:=fun h=>by rw[(hNw q h).2]at hq;cases hq
  let objs':=Au (Bl (Au st.Aa [(q,.box (splice cs off ad.1))]) []) ad.2
  have hnewO: ∀ p∈ad.2,Ai objs' p.1=some p.2:=fun p hp=>Y7 hnd (by exact hp)
  have hget: ∀ i z,Ai objs' i=some z→(i,z)∈ad.2∨(¬ Nw i∧i=q∧z= .box (splice cs off ad.1))∨(¬ Nw i∧i≠q∧Ai st.Aa i=some z):=by
    intro i z hz
    rcases Tm hz with h | ⟨hno,_,h⟩
    ·exact .inl h
    ·have hni: ¬ Nw i:=by rintro ⟨p,hp,rfl⟩;exact hno p.2 hp
     rcases h with h | ⟨hno',h⟩
     ·simp only[List.mem_singleton]at h
      injection h with e1 e2
      exact .inr (.inl ⟨hni,e1,e2⟩)
     ·exact .inr (.inr ⟨hni,fun hiq=>hno' (.box (splice cs off ad.1)) (by rw[hiq];exact List.mem_singleton_self _),h⟩)
  have hE:Hr st.Aa m objs' m' Nw:=by
    intro i z hz
    rcases hget i z hz with h | ⟨hni,h1',h2'⟩ | ⟨hni,_,h⟩
    ·exact .inl ⟨_,h,rfl⟩
    ·subst h1';subst h2'
     exact .inr ⟨_,hq,rfl,hm_not _ hni⟩
    ·exact .inr ⟨z,h,rfl,hm_not _ hni⟩
  have hadl:ad.1.length=ti.cs.length:=by rw[(Tj ti.cs v'.cells (Du fet q+1+off)).1,hvs]
  have happ:apply st o {ok:=[v'.isVal,Nat.beq v'.cells.length ti.cs.length,Nat.ble (off+ti.cs.length) cs.length,Nat.blt 0 ti.cs.length],val:=.undef,upd:=[(q,.box (splice cs off ad.1))],new:=ad.2}= {tmps:=put st.tmps none .undef,Aa:=objs'}:=by
    unfold apply;rw[hd]
  refine hn O m' _ _ ?_
  rw[happ,hd]
  refine hS.next (st':= {tmps:=put st.tmps none .undef,Aa:=objs'}) (d:=none) (x:=.undef) (T:=fun i=>i=q) (Nw:=Nw) hM hP (fun b k _ h=>h) hE (fun n hn'=>(hNw n hn').both) (fun r hr=>by rw[hr,hq];rfl) (fun i z hz=> ?_) rfl (fun h=>absurd rfl h)
  rcases hget i z hz with h | ⟨hni,h1',h2'⟩ | ⟨hni,hiq,h⟩
  ·right
   obtain⟨⟨e',sz',h4⟩,_⟩:=(Tj ti.cs v'.cells (Du fet q+1+off)).2.2 _ h
   dsimp only at h4
   subst h4
   exact⟨⟨by simp [Sl.es],.inl ⟨trivial,rfl,hmad _ h⟩⟩,(hNw _ ⟨_,h,rfl⟩).ne⟩
  ·right
   subst h1';subst h2'
   have hcs':Kv O objs' m' w' (a.eval y).cells ad.1:=hvc.Ahj (ks:=ti.cs) (id:=Du fet i+1+off) hpr hE (fun j hj r hr' hn'=>by
     rcases hids r (AbR h1 hj hr')with hh | hh
     ·exact(hNw r hn').1 hh
     ·rw[(hNw r hn').2]at hh;cases hh) (fun p hp=>⟨hnewO p hp,hmad p hp⟩)
   refine⟨⟨b,base,by rw[hm_not _ hni];exact g1,fun j hj=> ?_⟩,hS.ids _ _ hq⟩
   rw[NI _ _ _ (by rw[hadl];omega)]at hj
   obtain⟨g4,g5,u,g6,g7⟩:=g3 j hj
   refine⟨g4,by rw[hM.frozen (cell_lt g6)];exact g5,?_⟩
   rw[Xe _ _ _ _ (by rw[hadl];omega),hadl]
   have hcell': ∀ k,w'.cell? (at' b k)=c'[k]? :=by intro k;simp only[World.cell?];rw[k1];rfl
   rw[hcell']
   have hjs:base+j<c.size:=(Array.getElem?_eq_some_iff.1 (hcell _ _ g6)).1
   by_cases hin:off≤j∧j<off+ti.cs.length
   ·rw[if_pos hin]
    refine⟨_,getD_eq (by omega),?_⟩
    rw[k3,if_pos (by omega)]
    have e1:(a.eval y).cells.toList.getD (base+j - (base+off)) undef=(a.eval y).cells.getD (j - off) undef:=by
      rw[Array.getD_eq_getD_getElem?,List.getD_eq_getElem?_getD,Array.getElem?_toList,show base+j - (base+off)=j - off from by omega]
    rw[e1]
    exact hcs'.2 (j - off) (by rw[hadl];omega)
   ·rw[if_neg hin,hout _ (by omega)]
    exact⟨u,hcell _ _ g6,g7.step hpr hE (fun r hr' hn'=>(hNw r hn').1 (Pj hq (KY hj hr')))⟩
  ·exact .inl ⟨hiq,h,hm_not _ hni⟩
end
end Go.Proofs.YtadefjgbcapakaaGreatDoor.Vm
namespace Go.Proofs.YtadefjgbcapakaaGreatDoor.Vm
open Classical
section
variable {P:Program} {C:Ctx} {V0:Nat→Value} {O0 O:Own} {w0 w:World} {m:Nat→Value} {st:St} {a:Act} {o:Oper}
theorem Agg (hS:Sim V0 O0 w0 O m st a w) {q e g cap i off:Nat} {l l':Sl} {cur:Array Value} {vs:List Value} {xs:List A}
    (hq:Ai st.Aa q=some (.arr e false l)) (hm:m q= .slice (some (at' g 0)) l.es.length cap) (hg:Es w g cur e) (hi:i<l.es.length) (hel:l'.es=l.es.set i (splice (l.es.getD i []) off xs)) (hls:l'.sz=l.sz) (hle:off+xs.length≤l.sz) (hl:vs.length=xs.length) (h0:0<xs.length)
    (hv: ∀ j,j<xs.length→Am O w (vs.getD j undef) (xs.getD j .undef)) :
    Sim V0 O0 w0 O m {st with Aa:=C9 st.Aa q (.arr e false l')} a (w.setCells g (i*l.sz+off) vs):=by
  obtain⟨hsz,hr⟩:=hS.Aa q _ hq
  obtain⟨g',cap',cur',h2,h3,h4,h5,h6,h7,h8,h9⟩: ∃ g' cap' cur',m q= .slice (some (at' g' 0)) l.es.length cap'∧Es w g' cur' e∧l.es.length≤cap'∧cap'≤maxLen∧cur'.size=cap'*l.sz ∧
      (∀ i j,i<l.es.length→j<l.sz→ ∃ u,cur'[i*l.sz+j]? =some u∧Am O w u ((l.es.getD i []).getD j .undef))∧(∀ k,k<cur'.size→l.es.length*l.sz≤k→O g' k=some q)∧(∀ k,k<l.es.length*l.sz→O g' k=if false then none else some q):=by
    rcases hr with ⟨_,_,h⟩ | ⟨_,h⟩
    ·rw[hm]at h;cases h
    ·exact h
  rw[hm]at h2
  injection h2 with h2 _ hcc;injection h2 with h2;injection h2 with h2
  subst h2;subst hcc
  obtain⟨h3,_⟩:=hg.inj h3
  subst h3
  obtain⟨fr,hg,hfr0⟩:=hg
  have hmul:l.es.length*l.sz≤cap*l.sz:=Nat.mul_le_mul_right _ h4
  have hrow:i*l.sz+off+xs.length≤l.es.length*l.sz:=by
    have:(i+1)*l.sz≤l.es.length*l.sz:=Nat.mul_le_mul_right _ hi
    rw[Nat.add_mul]at this;omega
  obtain⟨c',k1,k2,k3,k4,k5,k6,k7,k8⟩:=SH g vs (i*l.sz+off) w hg (by rw[hl];omega)
  rw[hl]at k3
  let w':=w.setCells g (i*l.sz+off) vs
  have hout: ∀ k,(k<i*l.sz+off∨i*l.sz+off+xs.length≤k)→c'[k]? =cur[k]? :=by
    intro k hk
    by_cases hks:k<cur.size
    ·have:=k3 k
     rw[if_neg (by omega)]at this
     rw[getD_eq (by omega),getD_eq hks,this]
    ·rw[Array.getElem?_eq_none (by omega),Array.getElem?_eq_none (by omega)]
  have hown: ∀ k,k<l.es.length*l.sz→O g k=some q:=by intro k hk;simpa using h9 k hk
  have hM:Moves O (fun i=>i=q) w w':=by
    refine Moves.row k6 k7 k8 k5 hg k1 k4 k2 (fun k hk=>hout k ?_) (.inl ⟨i*l.sz+off,q,by omega,hown _ (by omega),rfl⟩)
    rcases Nat.lt_or_ge k (i*l.sz+off)with h | h
    ·exact .inl h
    ·right
     rcases Nat.lt_or_ge k (i*l.sz+off+xs.length)with h' | h'
     ·exact absurd rfl (hk q (hown k (by omega)))
     ·exact h'
  have hP:Passes O O (fun i=>i=q) w.heap.size:=⟨fun _ _ _ h=>h,fun _ _ _ _ h _=>h⟩
  have hpr:=hM.Bj hP
  have hei:(l.es.getD i []).length=l.sz:=hsz _ (by rw[List.getD_eq_getElem?_getD,List.getElem?_eq_getElem hi];simp)
  have hE:Hr st.Aa m (C9 st.Aa q (.arr e false l')) m (fun _=>False):=by
    intro r y hy
    rw[Bv]at hy
    by_cases hrq:r=q
    ·subst hrq
     rw[if_pos rfl]at hy;injection hy with hy;subst hy
     exact .inr ⟨_,hq,by simp [Obj.shp,hel,hls],rfl⟩
    ·rw[if_neg hrq]at hy;exact .inr ⟨y,hy,rfl,rfl⟩
  have:=hS.next (st':= {st with Aa:=C9 st.Aa q (.arr e false l')}) (d:=none) (v:=undef) (x:=.undef) (T:=fun i=>i=q) (Nw:=fun _=>False) hM hP (fun b k _ h=>h) hE (fun _ h=>h.elim) (fun r hr=>by rw[hr,hq];rfl) (fun r y hy=> ?_) rfl (fun h=>absurd rfl h)
  ·exact this
  ·rw[Bv]at hy
   by_cases hrq:r=q
   ·right
    subst hrq
    rw[if_pos rfl]at hy;injection hy with hy;subst hy
    refine⟨?_,hS.ids _ _ hq⟩
    simp only[Dc]
    rw[hel,hls]
    refine⟨fun x hx=> ?_,.inr ⟨trivial,g,cap,c',by rw[List.length_set];exact hm,⟨fr,k1,by rw[k2];exact hfr0⟩,by rw[List.length_set];exact h4,h5,by rw[k2];exact h6,fun r' j hr' hj=> ?_,fun k hk hge=> ?_,fun k hk=> ?_⟩⟩
    ·rcases List.mem_or_eq_of_mem_set hx with h | h
     ·exact hsz x h
     ·rw[h,NI _ _ _ (by omega)];exact hei
    ·rw[List.length_set]at hr'
     obtain⟨u,h10,h11⟩:=h7 r' j hr' hj
     have hlt:r'*l.sz+j<l.es.length*l.sz:=by
       have:(r'+1)*l.sz≤l.es.length*l.sz:=Nat.mul_le_mul_right _ hr'
       rw[Nat.add_mul]at this;omega
     by_cases hri:r'=i
     ·subst hri
      have e1:(l.es.set r' (splice (l.es.getD r' []) off xs)).getD r' []=splice (l.es.getD r' []) off xs:=by
        simp [List.getD_eq_getElem?_getD,hr']
      rw[e1,Xe _ _ _ _ (by omega)]
      by_cases hin:off≤j∧j<off+xs.length
      ·rw[if_pos hin]
       refine⟨_,getD_eq (by omega),?_⟩
       rw[k3,if_pos (by omega),show r'*l.sz+j - (r'*l.sz+off)=j - off from by omega]
       exact(hv (j - off) (by omega)).Bj hpr
      ·rw[if_neg hin,hout _ (by omega)]
       exact⟨u,h10,h11.Bj hpr⟩
     ·have e1:(l.es.set i (splice (l.es.getD i []) off xs)).getD r' []=l.es.getD r' []:=by
        simp only[List.getD_eq_getElem?_getD,List.getElem?_set]
        rw[if_neg (fun h=>hri h.symm)]
      rw[e1,hout _ ?_]
      ·exact⟨u,h10,h11.Bj hpr⟩
      ·rcases Nat.lt_or_gt_of_ne hri with h | h
       ·left
        have:(r'+1)*l.sz≤i*l.sz:=Nat.mul_le_mul_right _ h
        rw[Nat.add_mul]at this;omega
       ·right
        have:(i+1)*l.sz≤r'*l.sz:=Nat.mul_le_mul_right _ h
        rw[Nat.add_mul]at this;omega
    ·rw[List.length_set]at hge;rw[k2]at hk;exact h8 k hk hge
    ·rw[List.length_set]at hk;simpa using hown k hk
   ·rw[if_neg hrq]at hy
    exact .inl ⟨hrq,hy,rfl⟩
theorem AdI {t:Nat} {x y:Operand} (hC:TOk P C) (hS:Sim V0 O0 w0 O m st a w) (hd:o.dst=none) (ho:o.op= .store t x y) {fet:Fet} (hf:Ir st.Aa fet) {q i off:Nat} {v':A} (hx:AB O st.Aa m w (a.eval x) (.CB q i off)) (hy:AB O st.Aa m w (a.eval y) v')
    (hok:AA (Lr C fet t (.CB q i off) v').ok):Good P V0 O0 w0 (apply st o (Lr C fet t (.CB q i off) v')) o a w:=by
  intro next Q hn
  unfold Lr at *
  obtain⟨ti,ht,he⟩:=BB hok
  rw[he]at hok hn;clear he
  dsimp only at hok hn
  obtain⟨r,hr,he⟩:=Be hok
  rw[he]at hok hn;clear he
  obtain⟨hok1,hok2⟩:=hok.append
  obtain⟨h1,h2⟩:=hok2.cons
  obtain⟨hset,h2⟩:=h2.cons
  obtain⟨h2,h3⟩:=h2.cons
  obtain⟨h3,h4⟩:=h3.cons
  obtain⟨h4,hno⟩:=h4.cons
  have hno:=hno.cons.1
  have h4:0<ti.cs.length:=by simpa [Nat.blt_eq]using h4
  have h1:r.frz=false:=by simpa using h1
  have h2:=Nat.le_of_ble_eq_true h2
  have h3':i<r.l.xs.length:=by simpa using h3
  have h3:i<r.l.es.length:=by rw[Sl.BQ];exact h3'
  have hT:=hC.is ht
  have hval:=Af7 hok1
  have hvc:=hy.cells hval
  obtain⟨g1,g2,g3,g4⟩:=VP hf ti.cs v'.cells (fun j=>(a.eval y).cells.getD j undef) (fun j hj=>hvc.2 j hj) hok1
  obtain⟨O1,hS1,hp1,hle1,hv1,hE1,_⟩:=hS.freezes _ g3
  have hq:=hf _ _ (Gu hr)
  have hqU: ∀ p∈(BZ fet ti.cs v'.cells).2.2,p.1≠q:=by
    intro p hp he
    have:has ((BZ fet ti.cs v'.cells).2.2.map (·.1)) q=true:=H7.2 (List.mem_map.2 ⟨p,hp,he⟩)
    rw[this]at hno;cases hno
  have hq1:Ai (Au st.Aa (BZ fet ti.cs v'.cells).2.2) q=some (.arr r.e false r.l):=by
    rw[Di _ _ _ hqU,hq,h1]
  have hx':AV O st.Aa m w (a.eval x) (.CB q i off):=hx
  obtain⟨_,hx'⟩:=hx'
  rw[hq]at hx'
  simp only[Option.map_some,Obj.shp]at hx'
  obtain⟨g,n',cap,h5,h6⟩:=hx' h3
  obtain⟨hsz,hr'⟩:=hS1.Aa q _ hq1
  obtain⟨cur,h7,h8⟩: ∃ cur,m q= .slice (some (at' g 0)) r.l.es.length cap∧Es w g cur r.e∧cur.size=cap*r.l.sz∧r.l.es.length≤cap:=by
    rcases hr' with ⟨_,h9,_⟩ | ⟨h9,g',cap',cur,h10,h11,h12,h13,h14,_⟩
    ·rw[h9]at h3;simp at h3
    ·have h10':=h10
     rw[h5]at h10'
     injection h10' with q1 q2 q3;injection q1 with q1;injection q1 with q1
     subst q1;subst q3
     exact⟨cur,h10,h11,h14,h12⟩
  obtain⟨h8,h9,h10⟩:=h8
  have hsz2:(a.eval y).cells.size=ti.cs.length:=by rw[hvc.1,g2]
  have hrow:i*r.l.sz+off+ti.cs.length≤cur.size:=by
    have:(i+1)*r.l.sz≤r.l.es.length*r.l.sz:=Nat.mul_le_mul_right _ h3
    have:r.l.es.length*r.l.sz≤cap*r.l.sz:=Nat.mul_le_mul_right _ h10
    rw[Nat.add_mul]at *;omega
  have hrun:(execOp a.eval o).run P w= .ok .skip (w.setCells g (i*r.l.sz+off) (a.eval y).cells.toList):=by
    have:=lQ (P:=P) (w:=w) (b:=g) (k:=i*r.l.sz+off) hT hsz2 (fun j hj=>(hvc.2 j (by rw[← hvc.1];exact hj)).one) (fun j hj=>by
      have hlt:i*r.l.sz+off+j<cur.size:=by omega
      rw[h8.cell];simp [hlt]) (fun j hj=>h8.frozen (by omega))
    simp only[execOp,ho,Instr.storeAt,Instr.sureAddr,h6,Sem.run_bind,Sem.run_pure,Result.andThen_ok,this]
  unfold Oper.wp
  rw[hrun,Oper.upon_skip]
  have hfin:=Agg hS1 (i:=i) (off:=off) (vs:=(a.eval y).cells.toList) (xs:=(BZ fet ti.cs v'.cells).2.1) hq1 h7 h8 h3 (Sl.AnC r.l h3' hset) rfl (by rw[g1];exact h2) (by rw[Array.length_toList,hsz2,g1]) (by rw[g1];exact h4) (fun j hj=>by
    rw[g1]at hj
    have e1:(a.eval y).cells.toList.getD j undef=(a.eval y).cells.getD j undef:=by
      rw[Array.getD_eq_getD_getElem?,List.getD_eq_getElem?_getD,Array.getElem?_toList]
    rw[e1]
    exact g4 hp1 hv1 j hj)
  refine hn O1 m _ _ ?_
  have happ:apply st o {ok:=(BZ fet ti.cs v'.cells).1++[!r.frz,(r.l.set i off (BZ fet ti.cs v'.cells).2.1).1,Nat.ble (off+ti.cs.length) r.l.sz,decide (i<r.l.xs.length),Nat.blt 0 ti.cs.length,!(has ((BZ fet ti.cs v'.cells).2.2.map (·.1)) q)],val:=.undef,upd:=(BZ fet ti.cs v'.cells).2.2++[(q,.arr r.e false (r.l.set i off (BZ fet ti.cs v'.cells).2.1).2)]} =
      {tmps:=st.tmps,Aa:=C9 (Au st.Aa (BZ fet ti.cs v'.cells).2.2) q (.arr r.e false (r.l.set i off (BZ fet ti.cs v'.cells).2.1).2)}:=by
    have hsa: ∀(l:List (Nat×Obj)) (u:List (Nat×Obj)) (p:Nat×Obj),Au l (u++[p])=C9 (Au l u) p.1 p.2:=by
      intro l u p
      induction u generalizing l with
      | nil=>rfl
      | cons s u ih=>exact ih _
    unfold apply
    rw[hd,hsa]
    rfl
  rw[happ,hd]
  exact hfin
end
end Go.Proofs.YtadefjgbcapakaaGreatDoor.Vm
namespace Go.Proofs.YtadefjgbcapakaaGreatDoor.Vm
open Classical
open Go.Lib (bytesWorld bytesCells bytesWorld_at_old bytesWorld_at_new bytesWorld_size)
section
variable {P:Program} {C:Ctx} {V0:Nat→Value} {O0 O:Own} {w0 w:World} {m:Nat→Value} {st:St} {a:Act} {o:Oper}
theorem Agv (w:World) (e:TypeId) (s:ByteArray):Moves O (fun _=>False) w (bytesWorld w e s):=by
  refine⟨rfl,rfl,rfl,?_,fun b hb=>.inl (bytesWorld_at_old w e s b hb)⟩
  rw[bytesWorld_size];omega
theorem AhZ {s t:Nat} {x:Operand} (hC:TOk P C) (hS:Sim V0 O0 w0 O m st a w) {d:Tmp} (hd:o.dst=some d) (ho:o.op= .convert s t x) {l:List UInt8} (hx:AB O st.Aa m w (a.eval x) (.str l))
    (hok:AA (fJ C d s t l).ok) (hfr: ∀ p∈(fJ C d s t l).new,st.fresh p.1=true):Good P V0 O0 w0 (apply st o (fJ C d s t l)) o a w:=by
  intro next Q hn
  unfold fJ at *
  obtain⟨ts,hts,he⟩:=BB hok
  rw[he]at hok hfr hn;clear he
  obtain⟨ti,e,te,ht,hte,hd',he⟩:=VD hok
  rw[he]at hok hfr hn;clear he
  obtain⟨h1,h2⟩:=hok.cons
  have h2:=h2.cons.1
  have hlen:l.length≤140737488355328:=by simpa using h2
  have hde:=Afj h1
  have hue:=(hC.is hd').d
  rw[hde]at hue
  have hut:=(hC.is ht).d
  rw[hte]at hut
  obtain⟨b,hb,hl⟩:=hx.str
  have hbl:b.size=l.length:=by rw[Mc,hl]
  have hr:(execOp a.eval o).run P w= .ok (.value (.slice (some (at' w.heap.size 0)) b.size (grownCap w b.size 0 e))) (bytesWorld w e b):=by
    have:=Go.Lib.run_convert_string_bytes (P:=P) w s t e b (hC.is hts).d hut hue
    simp only[execOp,ho,hb,Sem.run_bind,this]
    rfl
  unfold Oper.wp
  rw[hr,Oper.upon_value,hd]
  have hge:=grownCap_ge w b.size 0 e
  have hes:(⟨Tt,l.map (fun(b:UInt8)=>((b.toNat:Int)))⟩:Sl).es=l.map (fun(x:UInt8)=>[A.int .u8 (x.toNat:Int)]):=by
    show List.map (Ty.int IntKind.u8 Ty.nil).cells (List.map (fun(b:UInt8)=>((b.toNat:Int))) l)=_
    exact List.map_map.trans rfl
  have hesl:(⟨Tt,l.map (fun(b:UInt8)=>((b.toNat:Int)))⟩:Sl).es.length=b.size:=by rw[hes,List.length_map,hbl]
  have hcs:(bytesCells w e b).size=grownCap w b.size 0 e:=by
    simp [bytesCells]
    have:b.data.size=b.size:=rfl
    omega
  obtain⟨O',m',h⟩:=qU hS (Agv w e b) (d:=d) (e:=e) (cap:=grownCap w b.size 0 e) (frz:=false) (l:=⟨Tt,l.map (fun(b:UInt8)=>((b.toNat:Int)))⟩) (del:=[]) (cur:=bytesCells w e b)
    ⟨_,bytesWorld_at_new w e b,.inr (Nat.le_refl _)⟩ (by rw[hesl];exact hge) (grownCap_le_maxLen w _ _ _ (by unfold maxLen;omega)) (by rw[hcs];show _=_*1;omega) ⟨Sl.es_len _,fun i j hi hj=>by
      have hj0:j=0:=by
        have:j<1:=hj
        omega
      subst hj0
      rw[hesl]at hi
      have hi':i<l.length:=by omega
      have hi2:i<b.data.toList.length:=by rw[hl];exact hi'
      refine⟨.int .u8 (l.getD i 0).toNat,?_,?_⟩
      ·have hlt:i<b.data.size:=hi
       show(bytesCells w e b)[i*1+0]? =_
       rw[Nat.mul_one,Nat.add_zero]
       unfold bytesCells
       rw[Array.getElem?_append_left (by simpa using hlt)]
       rw[Array.getElem?_map]
       have:b.data[i]? =some (l.getD i 0):=by
         rw[← Array.getElem?_toList,hl,List.getD_eq_getElem?_getD,List.getElem?_eq_getElem hi'];rfl
       rw[this];rfl
      ·rw[hes]
       have:(l.map (fun(x:UInt8)=>[A.int .u8 (x.toNat:Int)])).getD i []=[A.int .u8 ((l.getD i 0).toNat:Int)]:=by
         simp [List.getD_eq_getElem?_getD,hi']
       rw[this]
       exact .int _ _⟩ (DU (hfr _ List.mem_cons_self))
  rw[hesl]at h
  refine hn O' m' _ _ ?_
  rw[Qh hd]
  exact h
theorem AjO {s t:Nat} {x:Operand} (hC:TOk P C) (hS:Sim V0 O0 w0 O m st a w) (ho:o.op= .convert s t x) {fet:Fet} (hf:Ir st.Aa fet) {x':A} (hx:AB O st.Aa m w (a.eval x) x')
    (hok:AA (mJ C o fet s t x').ok) (hfr: ∀ p∈(mJ C o fet s t x').new,st.fresh p.1=true):Good P V0 O0 w0 (apply st o (mJ C o fet s t x')) o a w:=by
  have hF:FOk O st.Aa m w fet:=fun q x h=>⟨hf q x h,hS.Aa q x (hf q x h)⟩
  by_cases hs: ∃ l,x'= .str l
  ·obtain⟨l,rfl⟩:=hs
   unfold mJ at *
   dsimp only at hok hfr ⊢
   obtain⟨tt,htt,he⟩:=BB hok
   rw[he]at hok hfr ⊢;clear he
   cases hb:Afi tt.d with
   | true =>
     rw[hb]at hok hfr
     simp only[cond_true]at hok hfr ⊢
     obtain⟨d,hd,he⟩:=Be hok
     rw[he]at hok hfr ⊢;clear he
     exact AhZ hC hS hd ho hx hok hfr
   | false =>
     rw[hb]at hok
     simp only[cond_false]at hok ⊢
     exact(gQ hC hF ho hx hok).good hS
  ·have e:mJ C o fet s t x'=Qu C fet s t x':=by
     cases x'<;>first | rfl | exact absurd ⟨_,rfl⟩ hs
   rw[e]at hok ⊢
   exact(gQ hC hF ho hx hok).good hS
theorem AmT (n:Nat) (cs:List CK) {i j:Nat} (hi:i<n) (hj:j<cs.length):((List.replicate n cs).flatten).getD (i*cs.length+j) .oth=cs.getD j .oth:=by
  induction n generalizing i with
  | zero=>omega
  | succ n ih =>
    rw[List.replicate_succ,List.flatten_cons,List.getD_eq_getElem?_getD]
    cases i with
    | zero=>rw[List.getElem?_append_left (by omega),Nat.zero_mul,Nat.zero_add, ←List.getD_eq_getElem?_getD]
    | succ i =>
      rw[Nat.add_mul,Nat.one_mul,List.getElem?_append_right (by omega),show i*cs.length+cs.length+j - cs.length=i*cs.length+j from by omega, ←List.getD_eq_getElem?_getD]
      exact ih (by omega)
theorem AcC {t n e:Nat} {ti te:TI} (hC:TOk P C) (hS:Sim V0 O0 w0 O m st a w) {d:Tmp} (hd:o.dst=some d) (ho:o.op= .alloc t) (ht:C.T t=some ti)
    (hp:te.cs.all CK.plain=true) (h0:0<te.cs.length) (hn0:0<n) (hn:n≤16777216) (hcs:ti.cs=(List.replicate n te.cs).flatten) (hfresh:Gp st (b2 d)) :
    Good P V0 O0 w0 {tmps:=st.tmps.set d (.CB (b2 d) 0 0),Aa:=Au (Bl st.Aa []) [(b2 d,.arr t false ⟨tyl te.cs,List.replicate n (tyl te.cs).zero⟩)]} o a w:=by
  intro next Q hnx
  have hT:=hC.is ht
  obtain⟨i,z,g1,g2,g3,g4,g5,g6⟩:=hT.i
  have hsz:z.cells.size=ti.cs.length:=by
    rw[← Array.length_toList];exact(Jk (O:=O) (Aa:=[]) (m:=fun _=>undef) (w:=w) _ _ g5).1
  have hlen:ti.cs.length=n*te.cs.length:=by rw[hcs];simp
  have hpl:ti.cs.all CK.plain=true:=by
    rw[hcs,List.all_eq_true]
    intro k hk
    obtain⟨l,hl,hkl⟩:=List.mem_flatten.1 hk
    rw[List.eq_of_mem_replicate hl]at hkl
    exact List.all_eq_true.1 hp k hkl
  have hv:=SL (O:=O) (w:=w) _ _ g5 hpl
  have hr:(execOp a.eval o).run P w= .ok (.value (.pointer (some (at' w.heap.size 0)))) (w.alloc (.cells z.cells t)):=by
    simp only[execOp,ho,Instr.alloc,Sem.run_bind,zeroValue,typeInfo,run_program,Result.andThen_ok,g1,g4,Sem.run_pure,newVar,newRow]
    rfl
  unfold Oper.wp
  rw[hr,Oper.upon_value,hd]
  have hel:(⟨tyl te.cs,List.replicate n (tyl te.cs).zero⟩:Sl).es=List.replicate n (te.cs.map CK.F6):=Sl.Ur _ _ hp
  have hsl:(⟨tyl te.cs,List.replicate n (tyl te.cs).zero⟩:Sl).sz=te.cs.length:=Me _
  obtain⟨O',m',h⟩:=Pm hS (Moves.refl _ _ w) rfl (d:=d) (e:=t) (cap:=n) (frz:=false) (l:=⟨tyl te.cs,List.replicate n (tyl te.cs).zero⟩) (cur:=z.cells) (del:=[]) (by rw[Sl.BQ,List.length_replicate];exact Nat.le_refl _) (by unfold maxLen;omega) (by rw[hsz,hlen,hsl])
    ⟨Sl.es_len _,fun r j hrl hj=>by
      rw[hsl]at hj ⊢
      rw[Sl.BQ,List.length_replicate]at hrl
      have hlt:r*te.cs.length+j<n*te.cs.length:=by
        have:(r+1)*te.cs.length≤n*te.cs.length:=Nat.mul_le_mul_right _ hrl
        rw[Nat.add_mul]at this;omega
      refine⟨z.cells.toList.getD (r*te.cs.length+j) undef,?_,?_⟩
      ·rw[List.getD_eq_getElem?_getD,Array.getElem?_toList]
       rw[Array.getElem?_eq_getElem (by omega)];rfl
      ·have:=hv (r*te.cs.length+j) (by omega)
       have e1:(ti.cs.map CK.F6).getD (r*te.cs.length+j) .undef=(te.cs.map CK.F6).getD j .undef:=by
         have e2:(ti.cs.map CK.F6).getD (r*te.cs.length+j) .undef=(ti.cs.getD (r*te.cs.length+j) .oth).F6:=by
           have:r*te.cs.length+j<ti.cs.length:=by omega
           simp [List.getD_eq_getElem?_getD,this]
         have e3:(te.cs.map CK.F6).getD j .undef=(te.cs.getD j .oth).F6:=by simp [List.getD_eq_getElem?_getD,hj]
         rw[e2,e3,hcs,AmT n te.cs hrl hj]
       rw[e1]at this
       rw[hel]
       have e4:(List.replicate n (te.cs.map CK.F6)).getD r []=te.cs.map CK.F6:=by simp [List.getD_eq_getElem?_getD,hrl]
       rw[e4];exact this⟩ hfresh
  rw[Sl.BQ,List.length_replicate]at h
  refine hnx O' m' _ _ ?_
  by_cases hdt:d<st.tmps.length
  ·
   have hslot:=h.tmps d (by simpa using hdt)
   have hself:(a.put (some d) (.slice (some (at' w.heap.size 0)) n n)).tmps.getD d undef= .slice (some (at' w.heap.size 0)) n n:=by
     have hs:d<a.tmps.size:=by rw[hS.size];exact hdt
     simp [Act.put,Array.getD_eq_getD_getElem?,hs]
   have hself2:(st.tmps.set d (.own (b2 d))).getD d .undef= .own (b2 d):=by simp [List.getD_eq_getElem?_getD,hdt]
   rw[hself,hself2]at hslot
   have hc:AV O' (Au (Bl st.Aa []) [(b2 d,.arr t false ⟨tyl te.cs,List.replicate n (tyl te.cs).zero⟩)]) m' (w.alloc (.cells z.cells t)) (.slice (some (at' w.heap.size 0)) n n) (.own (b2 d)):=hslot
   have hg:Ai (Au (Bl st.Aa []) [(b2 d,Obj.arr t false ⟨tyl te.cs,List.replicate n (tyl te.cs).zero⟩)]) (b2 d)=some (.arr t false ⟨tyl te.cs,List.replicate n (tyl te.cs).zero⟩):=by
     simp only[Au];rw[Bv,if_pos rfl]
   have hm: .slice (some (at' w.heap.size 0)) n n=m' (b2 d):=by
     have:=hc.2
     rw[hg]at this
     exact this
   have hcr:AV O' (Au (Bl st.Aa []) [(b2 d,.arr t false ⟨tyl te.cs,List.replicate n (tyl te.cs).zero⟩)]) m' (w.alloc (.cells z.cells t)) (.pointer (some (at' w.heap.size 0))) (.CB (b2 d) 0 0):=by
     simp only[AV,hg,Option.map_some,Obj.shp]
     exact⟨rfl,fun _=>⟨w.heap.size,n,n,hm.symm,by simp⟩⟩
   have hnew:=h.put (some d) (x:=.CB (b2 d) 0 0) (v:=.pointer (some (at' w.heap.size 0))) hcr.toT
   have e1:put (st.tmps.set d (.own (b2 d))) (some d) (.CB (b2 d) 0 0)=st.tmps.set d (.CB (b2 d) 0 0):=by simp [put]
   have e2:(a.put (some d) (.slice (some (at' w.heap.size 0)) n n)).put (some d) (.pointer (some (at' w.heap.size 0)))=a.put (some d) (.pointer (some (at' w.heap.size 0))):=by simp [Act.put]
   rw[e2]at hnew
   dsimp only at hnew
   rw[e1]at hnew
   exact hnew
  ·have e1: ∀ x,st.tmps.set d x=st.tmps:=fun x=>List.set_eq_of_length_le (Nat.le_of_not_lt hdt)
   have e2: ∀ v,a.put (some d) v=a:=by
     intro v
     have hs: ¬ d<a.tmps.size:=by rw[hS.size];exact hdt
     have:a.tmps.setIfInBounds d v=a.tmps:=by simp [Array.setIfInBounds,hs]
     simp only[Act.put,this]
   rw[e1,e2]at h
   rw[e1,e2]
   exact h
theorem Agt {t:Nat} (hC:TOk P C) (hS:Sim V0 O0 w0 O m st a w) {d:Tmp} (hd:o.dst=some d) (ho:o.op= .alloc t)
    (hok:AA (QY C d t).ok) (hfr: ∀ p∈(QY C d t).new,st.fresh p.1=true) (hnd:nodup ((QY C d t).new.map (·.1))=true):Good P V0 O0 w0 (apply st o (QY C d t)) o a w:=by
  unfold QY at *
  obtain⟨ti,ht,he⟩:=BB hok
  rw[he]at hok hfr hnd ⊢;clear he
  cases ha:AdT ti.d with
  | some p =>
    obtain⟨n,e⟩:=p
    rw[ha]at hok hfr
    dsimp only at hok hfr ⊢
    obtain⟨te,hte,he⟩:=BB hok
    rw[he]at hok hfr ⊢;clear he
    obtain⟨h1,h2⟩:=hok.cons
    obtain⟨h2,h3⟩:=h2.cons
    obtain⟨h3,h4⟩:=h3.cons
    obtain⟨h4,h5⟩:=h4.cons
    have h5:=h5.cons.1
    rw[Qh hd]
    exact AcC (n:=n) (e:=e) hC hS hd ho ht h1 (by simpa [Nat.blt_eq]using h2) (by simpa [Nat.blt_eq]using h3) (Nat.le_of_ble_eq_true h4) (by simpa using h5) (DU (hfr _ List.mem_cons_self))
  | none =>
    rw[ha]at hok hfr hnd
    exact Aey hC hS hd ho ht hok hfr hnd
end
