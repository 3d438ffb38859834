import Derived.Test.YtbnphelpndnnfaaGreatDoorA4
import Derived.Lib.ConvBytes
import Derived.MapKept
set_option linter.all false
namespace Go.Proofs.YtbnphelpndnnfaaGreatDoor.Vm
open Classical
section
variable {P:Program} {C:Ctx} {V0:Nat->Value} {O0 O:Own} {w0 w:World} {m:Nat->Value} {st:St} {a:Act} {o:Oper}
theorem append_good {c:Call} {s y:Operand} {t u:Nat} {tu:TI} (hC:TOk P C) (hS:Sim V0 O0 w0 O m st a w) {d:Tmp} (hd:o.dst=some d) (ho:o.op= .call c) (hcal:c.callee= .builtin .append) (hargs:c.args= #[s,y]) (hty:c.argTypes.toList=[t,u])
    (htu:C.T u=some tu) (hsl:isSlStr tu.d=true) {fet:Fet} (hf:Fet' st.objs fet) {x' y':A} (hx:TRel O st.objs m w (a.eval s) x') (hy:TRel O st.objs m w (a.eval y) y')
    (hok:AllT (appendX C fet d t x' y').ok) (hfr: ∀ p∈(appendX C fet d t x' y').new,st.fresh p.1=true):Good P V0 O0 w0 (apply st o (appendX C fet d t x' y')) o a w:=by
  intro next Q hn
  have hF:FOk O st.objs m w fet:=fun q x h=>⟨hf q x h,hS.objs q x (hf q x h)⟩
  unfold appendX at *
  obtain⟨ti,e,te,ht,hte,hd',he⟩:=elemOf_ok hok
  rw[he]at hok hfr hn;clear he
  split at hok
  ·rename_i q
   obtain⟨r,hr,he⟩:=optX_ok hok
   rw[he]at hok
   dsimp only at hfr hn
   rw[he]at hfr hn;clear he
   obtain⟨hok1,hok2⟩:=hok.append
   obtain⟨h1,h2⟩:=hok2.cons
   obtain⟨h2,h3⟩:=h2.cons
   obtain⟨h3,h4⟩:=h3.cons
   have h1:=Nat.eq_of_beq_eq_true h1
   have h2:=Nat.eq_of_beq_eq_true h2
   have h3:0<te.cs.length:=by rw[<- h2];simpa [Nat.blt_eq]using h3
   have h2:r.l.t.len=te.cs.length:=h2
   have h4:(r.l.xs.length+(newsOf fet r.l.t y').2.length)*(te.bytes+1)<=140737488355328:=by simpa using h4.cons.1
   obtain⟨news,hsrc⟩:=src_of (P:=P) hF hy hok1
   have hq:=arr?_some hr
   obtain⟨hv,hO⟩:=hx.own hF hq
   have hq':=hf _ _ hq
   rw[h2]at hsrc
   refine append_core (frz:=r.frz) (l:=r.l) (l':=⟨r.l.t,r.l.xs++(newsOf fet r.l.t y').2⟩) (del:=[q]) hC hS hd ho hcal hargs hty ht hte hd' htu hsl hsrc h3 (by rw[Sl.es_length,Sl.es_length];exact h4) (fresh_not (hfr _ List.mem_cons_self)) (Sl.es_append _ _ _) h2 h2 ?_ next Q (fun O' m' a' w' h=>hn O' m' a' w' ?_)
   ·rcases hO.2 with ⟨h5,h6,h7⟩ | ⟨h5,g,cap,cur,h6,h7,_⟩
    ·exact .inl ⟨h5,h6,by rw[hv,h7]⟩
    ·refine .inr ⟨h5,q,g,cap,cur,rfl,?_,h6,by rw[hv,h6],?_⟩
     ·rw[hq',h1]
     ·rw[h1];exact h7
   ·rw[apply_mk hd]
    rw[h1]at h;exact h
  ·obtain⟨hok1,hok2⟩:=hok.append
   obtain⟨h3,h4⟩:=hok2.cons
   have h3:0<te.cs.length:=by simpa [Nat.blt_eq]using h3
   have h4:(newsOf fet (tyl te.cs) y').2.length*(te.bytes+1)<=140737488355328:=by simpa using h4.cons.1
   obtain⟨news,hsrc⟩:=src_of (P:=P) hF hy hok1
   rw[tyl_len]at hsrc
   refine append_core (frz:=false) (l:=⟨tyl te.cs,[]⟩) (l':=⟨tyl te.cs,(newsOf fet (tyl te.cs) y').2⟩) (del:=[]) hC hS hd ho hcal hargs hty ht hte hd' htu hsl hsrc h3 (by rw[Sl.es_nil,Sl.es_length];simpa using h4) (fresh_not (hfr _ List.mem_cons_self)) (by rw[Sl.es_nil];rfl) (tyl_len _) (tyl_len _) (.inl ⟨trivial,rfl,hx⟩) next Q (fun O' m' a' w' h=>hn O' m' a' w' ?_)
   rw[apply_mk hd]
   exact h
  ·exact(not_AllT_no hok).elim
theorem boxOp_good {t:Nat} {x:Operand} (hC:TOk P C) (hS:Sim V0 O0 w0 O m st a w) {d:Tmp} (hd:o.dst=some d) (ho:o.op= .box t x) {x':A} (hx:TRel O st.objs m w (a.eval x) x') (hids: ∀ i∈x'.ids,i∈st.ids\/(aget st.objs i).isSome)
    (hok:AllT (boxX C d t x').ok) (hfr: ∀ p∈(boxX C d t x').new,st.fresh p.1=true) (hnd:nodup ((boxX C d t x').new.map (·.1))=true):Good P V0 O0 w0 (apply st o (boxX C d t x')) o a w:=by
  refine box_good hC hS hx hids hd (fun ti ht hv hs=> ?_) hok hfr hnd
  simp only[execOp,ho,Instr.box,newVar,newRow,Sem.run_bind]
  rfl
theorem allocOp_good {t:Nat} {ti:TI} (hC:TOk P C) (hS:Sim V0 O0 w0 O m st a w) {d:Tmp} (hd:o.dst=some d) (ho:o.op= .alloc t) (ht:C.T t=some ti)
    (hok:AllT (boxX C d t (.agg (ti.cs.map CK.zero))).ok) (hfr: ∀ p∈(boxX C d t (.agg (ti.cs.map CK.zero))).new,st.fresh p.1=true) (hnd:nodup ((boxX C d t (.agg (ti.cs.map CK.zero))).new.map (·.1))=true) :
    Good P V0 O0 w0 (apply st o (boxX C d t (.agg (ti.cs.map CK.zero)))) o a w:=by
  obtain⟨i,z,h1,h2,_,h3⟩:=zero_rel (O:=O) (objs:=st.objs) (m:=m) (w:=w) (hC.is ht)
  refine box_good (v:=.agg z.cells) (x:=.agg (ti.cs.map CK.zero)) hC hS ⟨z.cells,rfl,h3.1,h3.2⟩ (fun j hj=> ?_) hd (fun ti ht hv hs=> ?_) hok hfr hnd
  ·exfalso
   have: ∀ ks:List CK,(ks.map CK.zero).flatMap A.ids1=[]:=by
     intro ks
     induction ks with
     | nil=>rfl
     | cons k ks ih=>rw[List.map_cons,List.flatMap_cons,ih];cases k<;>rfl
   have hj':j∈(ti.cs.map CK.zero).flatMap A.ids1:=hj
   rw[this]at hj';cases hj'
  ·simp only[execOp,ho,Instr.alloc,Sem.run_bind,zeroValue,typeInfo,run_program,Result.andThen_ok,h1,h2,Sem.run_pure,newVar,newRow]
   rfl
theorem storeVar_run {t:Nat} {ti:TI} (hT:TyIs P t ti) {v:Value} {b k:Nat} (hs:v.cells.size=ti.cs.length) (h1: ∀ j,j<v.cells.size->(v.cells.getD j undef).oneCell'=true) (hc: ∀ j,j<v.cells.size->(w.cell? (at' b (k+j))).isSome=true) (hf: ∀ j,j<v.cells.size->w.frozen? (at' b (k+j))=false) :
    (storeVar t (at' b k) v).run P w= .ok () (w.setCells b k v.cells.toList):=by
  have:=run_storeCells_cells (P:=P) b k v.cells.toList 0 w (fun j hj=>by simpa using hc j (by simpa using hj)) (fun j hj=>by simpa using hf j (by simpa using hj)) (fun u hu=>by
    obtain⟨j,hj,he⟩:=List.mem_iff_getElem.1 hu
    have:=h1 j (by simpa using hj)
    rw[Array.getD_eq_getD_getElem?,Array.getElem?_eq_getElem (by simpa using hj)]at this
    rw[<- he];simpa using this)
  unfold storeVar
  simp only[Sem.run_bind,hT.runSize,Result.andThen_ok]
  all_goals simp_all[hs,at']
theorem storeBox_good {t:Nat} {x y:Operand} (hC:TOk P C) (hS:Sim V0 O0 w0 O m st a w) (hd:o.dst=none) (ho:o.op= .store t x y) {fet:Fet} (hf:Fet' st.objs fet) {q off:Nat} {v':A} (hx:TRel O st.objs m w (a.eval x) (.ptr q off)) (hy:TRel O st.objs m w (a.eval y) v')
    (hids: ∀ i∈v'.ids,i∈st.ids\/(aget st.objs i).isSome)
    (hok:AllT (storeX C fet t (.ptr q off) v').ok) (hfr: ∀ p∈(storeX C fet t (.ptr q off) v').new,st.fresh p.1=true) (hnd:nodup ((storeX C fet t (.ptr q off) v').new.map (·.1))=true):Good P V0 O0 w0 (apply st o (storeX C fet t (.ptr q off) v')) o a w:=by
  intro next Q hn
  have hF:FOk O st.objs m w fet:=fun q x h=>⟨hf q x h,hS.objs q x (hf q x h)⟩
  unfold storeX at *
  obtain⟨ti,ht,he⟩:=tiOf_ok hok
  rw[he]at hok hfr hnd hn;clear he
  dsimp only at hok hfr hnd hn
  obtain⟨cs,hcs,he⟩:=optX_ok hok
  rw[he]at hok hfr hnd hn;clear he
  obtain⟨h1,h2⟩:=hok.cons
  obtain⟨h2,h3⟩:=h2.cons
  have h2:=Nat.eq_of_beq_eq_true h2
  obtain⟨h3,h30⟩:=h3.cons
  have h3:=Nat.le_of_ble_eq_true h3
  have h30:0<ti.cs.length:=by simpa [Nat.blt_eq]using h30.cons.1
  have hT:=hC.is ht
  obtain⟨b,base,g1,g2,g3⟩:=hx.ptr hF (box?_some hcs)
  have hq:=hf _ _ (box?_some hcs)
  have hvc:=hy.cells h1
  have hvs:v'.cells.length=ti.cs.length:=h2
  have hsz:(a.eval y).cells.size=ti.cs.length:=by rw[hvc.1,h2]
  have hr:(execOp a.eval o).run P w= .ok .skip (w.setCells b (base+off) (a.eval y).cells.toList):=by
    have:=storeVar_run (P:=P) (w:=w) (b:=b) (k:=base+off) hT hsz (fun j hj=>(hvc.2 j (by rw[<- hvc.1];exact hj)).one) (fun j hj=>by
      obtain⟨_,_,u,g4,_⟩:=g3 (off+j) (by omega)
      rw[Nat.add_assoc,g4];rfl) (fun j hj=>by
      obtain⟨_,g4,_⟩:=g3 (off+j) (by omega)
      rw[Nat.add_assoc];exact g4)
    simp only[execOp,ho,Instr.storeAt,Instr.sureAddr,g2,Sem.run_bind,Sem.run_pure,Result.andThen_ok,this]
  unfold Oper.wp
  rw[hr,Oper.upon_skip]
  obtain⟨_,_,u0,hu0,_⟩:=g3 off (by omega)
  obtain⟨c,e,fr,hblk⟩: ∃ c e fr,w.heap[b]? =some (.cells c e fr):=by
    unfold World.cell? at hu0
    dsimp only at hu0
    split at hu0
    ·rename_i c e fr hh;exact⟨c,e,fr,hh⟩
    ·cases hu0
  have hcell: ∀ k u,w.cell? (at' b k)=some u->c[k]? =some u:=by
    intro k u hu
    simp only[World.cell?,hblk]at hu
    simpa using hu
  have hend:base+off+(a.eval y).cells.toList.length<=c.size:=by
    rw[Array.length_toList,hsz]
    obtain⟨_,_,u,hu,_⟩:=g3 (off+(ti.cs.length - 1)) (by omega)
    have:=hcell _ _ hu
    have:=(Array.getElem?_eq_some_iff.1 this).1
    omega
  obtain⟨c',k1,k2,k3,k4,k5,k6,k7,k8⟩:=setCells_heap b (a.eval y).cells.toList (base+off) w hblk hend
  rw[Array.length_toList,hsz]at k3
  have hout: ∀ k,(k<base+off\/base+off+ti.cs.length<=k)->c'[k]? =c[k]? :=by
    all_goals grind[getD_eq]
  have hown: ∀ k,base+off<=k->k<base+off+ti.cs.length->O b k=some q:=by
    intro k hk1 hk2
    have:=(g3 (k - base) (by omega)).1
    rwa [show base+(k - base)=k from by omega]at this
  let w':=w.setCells b (base+off) (a.eval y).cells.toList
  have hM:Moves O (fun i=>i=q) w w':=by
    refine Moves.row k6 k7 k8 k5 hblk k1 k4 k2 (fun k hk=>hout k ?_) (.inl ⟨base+off,q,?_,hown _ (Nat.le_refl _) (by omega),rfl⟩)
    ·rcases Nat.lt_or_ge k (base+off)with h | h
     ·exact .inl h
     ·right
      rcases Nat.lt_or_ge k (base+off+ti.cs.length)with h' | h'
      ·exact absurd rfl (hk q (hown k h h'))
      ·exact h'
    ·rw[Array.length_toList,hsz]at hend;omega
  have hP:Passes O O (fun i=>i=q) w.heap.size:=⟨fun _ _ _ h=>h,fun _ _ _ _ h _=>h⟩
  have hpr:=hM.pres hP
  let ad:=adopt (rowBase fet q+1+off) ti.cs v'.cells
  let m':Nat->Value:=fun i=>if has (ad.2.map (·.1)) i then .slice none 0 0 else m i
  let Nw:Nat->Prop:=fun i=> ∃ p∈ad.2,p.1=i
  have hNw: ∀ i,Nw i->Fresh st i:=by
    rintro i ⟨p,hp,rfl⟩
    exact fresh_not (hfr p hp)
  have hm_not: ∀ i,¬ Nw i->m' i=m i:=by
    intro i hi
    refine if_neg (fun h=>hi ?_)
    obtain⟨p,hp,hpe⟩:=List.mem_map.1 (has_mem.1 h)
    exact⟨p,hp,hpe⟩
  have hmad: ∀ p∈ad.2,m' p.1= .slice none 0 0:=fun p hp=>if_pos (has_mem.2 (List.mem_map.2 ⟨p,hp,rfl⟩))
  have hqN: ¬ Nw q:=fun h=>by rw[(hNw q h).2]at hq;cases hq
  let objs':=setAll (delAll (setAll st.objs [(q,.box (splice cs off ad.1))]) []) ad.2
  have hnewO: ∀ p∈ad.2,aget objs' p.1=some p.2:=fun p hp=>aget_new hnd (by exact hp)
  have hget: ∀ i z,aget objs' i=some z->(i,z)∈ad.2\/(¬ Nw i/\i=q/\z= .box (splice cs off ad.1))\/(¬ Nw i/\i≠q/\aget st.objs i=some z):=by
    intro i z hz
    rcases aget_apply hz with h | ⟨hno,_,h⟩
    ·exact .inl h
    ·have hni: ¬ Nw i:=by rintro ⟨p,hp,rfl⟩;exact hno p.2 hp
     rcases h with h | ⟨hno',h⟩
     ·simp only[List.mem_singleton]at h
      injection h with e1 e2
      exact .inr (.inl ⟨hni,e1,e2⟩)
     ·exact .inr (.inr ⟨hni,fun hiq=>hno' (.box (splice cs off ad.1)) (by rw[hiq];exact List.mem_singleton_self _),h⟩)
  have hE:Exts st.objs m objs' m' Nw:=by
    intro i z hz
    rcases hget i z hz with h | ⟨hni,h1',h2'⟩ | ⟨hni,_,h⟩
    ·exact .inl ⟨_,h,rfl⟩
    ·subst h1';subst h2'
     exact .inr ⟨_,hq,rfl,hm_not _ hni⟩
    ·exact .inr ⟨z,h,rfl,hm_not _ hni⟩
  have hadl:ad.1.length=ti.cs.length:=by rw[(adopt_spec ti.cs v'.cells (rowBase fet q+1+off)).1,hvs]
  have happ:apply st o {ok:=[v'.isVal,Nat.beq v'.cells.length ti.cs.length,Nat.ble (off+ti.cs.length) cs.length,Nat.blt 0 ti.cs.length],val:=.undef,upd:=[(q,.box (splice cs off ad.1))],new:=ad.2}= {tmps:=put st.tmps none .undef,objs:=objs'}:=by
    unfold apply;rw[hd]
  refine hn O m' _ _ ?_
  rw[happ,hd]
  refine hS.next (st':= {tmps:=put st.tmps none .undef,objs:=objs'}) (d:=none) (x:=.undef) (T:=fun i=>i=q) (Nw:=Nw) hM hP (fun b k _ h=>h) hE (fun n hn'=>(hNw n hn').both) (fun r hr=>by rw[hr,hq];rfl) (fun i z hz=> ?_) rfl (fun h=>absurd rfl h)
  rcases hget i z hz with h | ⟨hni,h1',h2'⟩ | ⟨hni,hiq,h⟩
  ·right
   obtain⟨⟨e',sz',h4⟩,_⟩:=(adopt_spec ti.cs v'.cells (rowBase fet q+1+off)).2.2 _ h
   dsimp only at h4
   subst h4
   exact⟨⟨by simp [Sl.es],.inl ⟨trivial,rfl,hmad _ h⟩⟩,(hNw _ ⟨_,h,rfl⟩).ne⟩
  ·right
   subst h1';subst h2'
   have hcs':CsRel O objs' m' w' (a.eval y).cells ad.1:=hvc.adopted (ks:=ti.cs) (id:=rowBase fet i+1+off) hpr hE (fun j hj r hr' hn'=>by
     rcases hids r (cells_ids h1 hj hr')with hh | hh
     ·exact(hNw r hn').1 hh
     ·rw[(hNw r hn').2]at hh;cases hh) (fun p hp=>⟨hnewO p hp,hmad p hp⟩)
   refine⟨⟨b,base,by rw[hm_not _ hni];exact g1,fun j hj=> ?_⟩,hS.ids _ _ hq⟩
   rw[splice_length _ _ _ (by rw[hadl];omega)]at hj
   obtain⟨g4,g5,u,g6,g7⟩:=g3 j hj
   refine⟨g4,by rw[hM.frozen (cell_lt g6)];exact g5,?_⟩
   rw[splice_getD _ _ _ _ (by rw[hadl];omega),hadl]
   have hcell': ∀ k,w'.cell? (at' b k)=c'[k]? :=by intro k;simp only[World.cell?];rw[k1];rfl
   rw[hcell']
   have hjs:base+j<c.size:=(Array.getElem?_eq_some_iff.1 (hcell _ _ g6)).1
   by_cases hin:off<=j/\j<off+ti.cs.length
   ·rw[if_pos hin]
    refine⟨_,getD_eq (by omega),?_⟩
    rw[k3,if_pos (by omega)]
    have e1:(a.eval y).cells.toList.getD (base+j - (base+off)) undef=(a.eval y).cells.getD (j - off) undef:=by
      rw[Array.getD_eq_getD_getElem?,List.getD_eq_getElem?_getD,Array.getElem?_toList,show base+j - (base+off)=j - off from by omega]
    rw[e1]
    exact hcs'.2 (j - off) (by rw[hadl];omega)
   ·rw[if_neg hin,hout _ (by omega)]
    exact⟨u,hcell _ _ g6,g7.step hpr hE (fun r hr' hn'=>(hNw r hn').1 (mem_ids_objs hq (mem_flat hj hr')))⟩
  ·exact .inl ⟨hiq,h,hm_not _ hni⟩
end
end Go.Proofs.YtbnphelpndnnfaaGreatDoor.Vm
namespace Go.Proofs.YtbnphelpndnnfaaGreatDoor.Vm
open Classical
section
variable {P:Program} {C:Ctx} {V0:Nat->Value} {O0 O:Own} {w0 w:World} {m:Nat->Value} {st:St} {a:Act} {o:Oper}
theorem storeRow_sim (hS:Sim V0 O0 w0 O m st a w) {q e g cap k0:Nat} {l l':Sl} {cur:Array Value} {vs:List Value} {xs:List A}
    (hq:aget st.objs q=some (.arr e false l)) (hm:m q= .slice (some (at' g 0)) l.es.length cap) (hg:RowAt w g cur e) (hln:l'.es.length=l.es.length) (hls:l'.sz=l.sz) (hle:k0+xs.length<=l.es.length*l.sz) (hl:vs.length=xs.length) (h0:0<xs.length)
    (hel: ∀ r j,r<l.es.length->j<l.sz->(l'.es.getD r []).getD j .undef=if k0<=r*l.sz+j/\r*l.sz+j<k0+xs.length then xs.getD (r*l.sz+j - k0) .undef else(l.es.getD r []).getD j .undef)
    (hv: ∀ j,j<xs.length->VRel O w (vs.getD j undef) (xs.getD j .undef)) :
    Sim V0 O0 w0 O m {st with objs:=aset st.objs q (.arr e false l')} a (w.setCells g k0 vs):=by
  obtain⟨hsz,hr⟩:=hS.objs q _ hq
  obtain⟨g',cap',cur',h2,h3,h4,h5,h6,h7,h8,h9⟩: ∃ g' cap' cur',m q= .slice (some (at' g' 0)) l.es.length cap'/\RowAt w g' cur' e/\l.es.length<=cap'/\cap'<=maxLen/\cur'.size=cap'*l.sz /\
      (∀ i j,i<l.es.length->j<l.sz-> ∃ u,cur'[i*l.sz+j]? =some u/\VRel O w u ((l.es.getD i []).getD j .undef))/\(∀ k,k<cur'.size->l.es.length*l.sz<=k->O g' k=some q)/\(∀ k,k<l.es.length*l.sz->O g' k=if false then none else some q):=by
    rcases hr with ⟨_,_,h⟩ | ⟨_,h⟩
    ·rw[hm]at h;cases h
    ·exact h
  rw[hm]at h2
  injection h2 with h2 _ hcc;injection h2 with h2;injection h2 with h2
  subst h2;subst hcc
  obtain⟨h3,_⟩:=hg.inj h3
  subst h3
  obtain⟨fr,hg,hfr0⟩:=hg
  have hmul:l.es.length*l.sz<=cap*l.sz:=Nat.mul_le_mul_right _ h4
  obtain⟨c',k1,k2,k3,k4,k5,k6,k7,k8⟩:=setCells_heap g vs k0 w hg (by rw[hl];omega)
  rw[hl]at k3
  let w':=w.setCells g k0 vs
  have hout: ∀ k,(k<k0\/k0+xs.length<=k)->c'[k]? =cur[k]? :=by
    intro k hk
    by_cases hks:k<cur.size
    ·have:=k3 k
     rw[if_neg (by omega)]at this
     rw[getD_eq (by omega),getD_eq hks,this]
    ·rw[Array.getElem?_eq_none (by omega),Array.getElem?_eq_none (by omega)]
  have hown: ∀ k,k<l.es.length*l.sz->O g k=some q:=by intro k hk;simpa using h9 k hk
  have hM:Moves O (fun i=>i=q) w w':=by
    refine Moves.row k6 k7 k8 k5 hg k1 k4 k2 (fun k hk=>hout k ?_) (.inl ⟨k0,q,by omega,hown _ (by omega),rfl⟩)
    rcases Nat.lt_or_ge k k0 with h | h
    ·exact .inl h
    ·right
     rcases Nat.lt_or_ge k (k0+xs.length)with h' | h'
     ·exact absurd rfl (hk q (hown k (by omega)))
     ·exact h'
  have hP:Passes O O (fun i=>i=q) w.heap.size:=⟨fun _ _ _ h=>h,fun _ _ _ _ h _=>h⟩
  have hpr:=hM.pres hP
  have hE:Exts st.objs m (aset st.objs q (.arr e false l')) m (fun _=>False):=by
    intro r y hy
    rw[aget_aset]at hy
    by_cases hrq:r=q
    ·subst hrq
     rw[if_pos rfl]at hy;injection hy with hy;subst hy
     exact .inr ⟨_,hq,by simp [Obj.shp,hln,hls],rfl⟩
    ·rw[if_neg hrq]at hy;exact .inr ⟨y,hy,rfl,rfl⟩
  have:=hS.next (st':= {st with objs:=aset st.objs q (.arr e false l')}) (d:=none) (v:=undef) (x:=.undef) (T:=fun i=>i=q) (Nw:=fun _=>False) hM hP (fun b k _ h=>h) hE (fun _ h=>h.elim) (fun r hr=>by rw[hr,hq];rfl) (fun r y hy=> ?_) rfl (fun h=>absurd rfl h)
  ·exact this
  ·rw[aget_aset]at hy
   by_cases hrq:r=q
   ·right
    subst hrq
    rw[if_pos rfl]at hy;injection hy with hy;subst hy
    refine⟨?_,hS.ids _ _ hq⟩
    simp only[ORel]
    rw[hln]
    refine⟨fun x hx=>Sl.es_len _ x hx,.inr ⟨trivial,g,cap,c',hm,⟨fr,k1,by rw[k2];exact hfr0⟩,h4,h5,by rw[k2,hls];exact h6,fun r' j hr' hj=> ?_,fun k hk hge=> ?_,fun k hk=> ?_⟩⟩
    ·rw[hls]at hj ⊢
     obtain⟨u,h10,h11⟩:=h7 r' j hr' hj
     have hlt:r'*l.sz+j<l.es.length*l.sz:=by
       have:(r'+1)*l.sz<=l.es.length*l.sz:=Nat.mul_le_mul_right _ hr'
       rw[Nat.add_mul]at this;omega
     rw[hel r' j hr' hj]
     by_cases hin:k0<=r'*l.sz+j/\r'*l.sz+j<k0+xs.length
     ·rw[if_pos hin]
      refine⟨_,getD_eq (by omega),?_⟩
      rw[k3,if_pos hin]
      exact(hv _ (by omega)).pres hpr
     ·rw[if_neg hin,hout _ (by omega)]
      exact⟨u,h10,h11.pres hpr⟩
    ·rw[hls]at hge;rw[k2]at hk;exact h8 k hk hge
    ·rw[hls]at hk;simpa using hown k hk
   ·rw[if_neg hrq]at hy
    exact .inl ⟨hrq,hy,rfl⟩
theorem fillAll_es {t:Ty} {cs:List A} (h:(fillAll t cs).1=true):(⟨t,(fillAll t cs).2⟩:Sl).es=cs.map fun c=>[c]:=by
  simp only[fillAll,Sl.es,List.map_map]
  refine List.map_congr_left fun c hc=> ?_
  exact Ty.mk_cells t [c] (List.all_eq_true.1 h c hc)
theorem setAll_snoc: ∀(l:List (Nat×Obj)) (u:List (Nat×Obj)) (p:Nat×Obj),setAll l (u++[p])=aset (setAll l u) p.1 p.2:=by
  intro l u p
  induction u generalizing l with
  | nil=>rfl
  | cons s u ih=>exact ih _
theorem storeRow_good {t:Nat} {x y:Operand} (hC:TOk P C) (hS:Sim V0 O0 w0 O m st a w) (hd:o.dst=none) (ho:o.op= .store t x y) {fet:Fet} (hf:Fet' st.objs fet) {q i off:Nat} {v':A} (hx:TRel O st.objs m w (a.eval x) (.oelt q i off)) (hy:TRel O st.objs m w (a.eval y) v')
    (hok:AllT (storeX C fet t (.oelt q i off) v').ok):Good P V0 O0 w0 (apply st o (storeX C fet t (.oelt q i off) v')) o a w:=by
  intro next Q hn
  unfold storeX at *
  obtain⟨ti,ht,he⟩:=tiOf_ok hok
  rw[he]at hok hn;clear he
  dsimp only at hok hn
  obtain⟨r,hr,he⟩:=optX_ok hok
  rw[he]at hok hn;clear he
  have main: ∀(l':Sl) (δ :Dl),AllT (purs fet ti.cs v'.cells).1->r.frz=false->has ((purs fet ti.cs v'.cells).2.2.map (·.1)) q=false->i<r.l.es.length->i*r.l.sz+off+ti.cs.length<=r.l.es.length*r.l.sz->0<ti.cs.length ->
      l'.es.length=r.l.es.length->l'.sz=r.l.sz->(∀ r' j,r'<r.l.es.length->j<r.l.sz->(l'.es.getD r' []).getD j .undef=if i*r.l.sz+off<=r'*r.l.sz+j/\r'*r.l.sz+j<i*r.l.sz+off+(purs fet ti.cs v'.cells).2.1.length then(purs fet ti.cs v'.cells).2.1.getD (r'*r.l.sz+j - (i*r.l.sz+off)) .undef else(r.l.es.getD r' []).getD j .undef) ->
      δ = {ok:= δ.ok,val:=.undef,upd:=(purs fet ti.cs v'.cells).2.2++[(q,.arr r.e false l')]}->(∀ O' m' a' w',Sim V0 O0 w0 O' m' (apply st o δ) a' w'->next a' w')->o.wp P a w next Q:=by
    intro l' δ hok1 h1 hno h3 hrow' h4 hln hls hel hδ hn
    have hT:=hC.is ht
    have hval:=purs_val hok1
    have hvc:=hy.cells hval
    obtain⟨g1,g2,g3,g4⟩:=purs_spec hf ti.cs v'.cells (fun j=>(a.eval y).cells.getD j undef) (fun j hj=>hvc.2 j hj) hok1
    obtain⟨O1,hS1,hp1,hle1,hv1,hE1,_⟩:=hS.freezes _ g3
    have hq:=hf _ _ (arr?_some hr)
    have hqU: ∀ p∈(purs fet ti.cs v'.cells).2.2,p.1≠q:=by
      intro p hp he
      have:has ((purs fet ti.cs v'.cells).2.2.map (·.1)) q=true:=has_mem.2 (List.mem_map.2 ⟨p,hp,he⟩)
      rw[this]at hno;cases hno
    have hq1:aget (setAll st.objs (purs fet ti.cs v'.cells).2.2) q=some (.arr r.e false r.l):=by
      rw[aget_setAll_not _ _ _ hqU,hq,h1]
    have hx':CRel O st.objs m w (a.eval x) (.oelt q i off):=hx
    obtain⟨_,hx'⟩:=hx'
    rw[hq]at hx'
    simp only[Option.map_some,Obj.shp]at hx'
    obtain⟨g,n',cap,h5,h6⟩:=hx' h3
    obtain⟨hsz,hr'⟩:=hS1.objs q _ hq1
    obtain⟨cur,h7,h8⟩: ∃ cur,m q= .slice (some (at' g 0)) r.l.es.length cap/\RowAt w g cur r.e/\cur.size=cap*r.l.sz/\r.l.es.length<=cap:=by
      rcases hr' with ⟨_,h9,_⟩ | ⟨h9,g',cap',cur,h10,h11,h12,h13,h14,_⟩
      ·rw[h9]at h3;simp at h3
      ·have h10':=h10
       rw[h5]at h10'
       injection h10' with q1 q2 q3;injection q1 with q1;injection q1 with q1
       subst q1;subst q3
       exact⟨cur,h10,h11,h14,h12⟩
    obtain⟨h8,h9,h10⟩:=h8
    have hsz2:(a.eval y).cells.size=ti.cs.length:=by rw[hvc.1,g2]
    have hrow:i*r.l.sz+off+ti.cs.length<=cur.size:=by
      have:r.l.es.length*r.l.sz<=cap*r.l.sz:=Nat.mul_le_mul_right _ h10
      omega
    have hrun:(execOp a.eval o).run P w= .ok .skip (w.setCells g (i*r.l.sz+off) (a.eval y).cells.toList):=by
      have:=storeVar_run (P:=P) (w:=w) (b:=g) (k:=i*r.l.sz+off) hT hsz2 (fun j hj=>(hvc.2 j (by rw[<- hvc.1];exact hj)).one) (fun j hj=>by
        have hlt:i*r.l.sz+off+j<cur.size:=by omega
        rw[h8.cell];simp [hlt]) (fun j hj=>h8.frozen (by omega))
      simp only[execOp,ho,Instr.storeAt,Instr.sureAddr,h6,Sem.run_bind,Sem.run_pure,Result.andThen_ok,this]
    unfold Oper.wp
    rw[hrun,Oper.upon_skip]
    have hfin:=storeRow_sim hS1 (k0:=i*r.l.sz+off) (l':=l') (vs:=(a.eval y).cells.toList) (xs:=(purs fet ti.cs v'.cells).2.1) hq1 h7 h8 hln hls (by rw[g1];exact hrow') (by rw[Array.length_toList,hsz2,g1]) (by rw[g1];exact h4) hel (fun j hj=>by
      rw[g1]at hj
      have e1:(a.eval y).cells.toList.getD j undef=(a.eval y).cells.getD j undef:=by
        rw[Array.getD_eq_getD_getElem?,List.getD_eq_getElem?_getD,Array.getElem?_toList]
      rw[e1]
      exact g4 hp1 hv1 j hj)
    refine hn O1 m _ _ ?_
    have happ:apply st o δ = {tmps:=st.tmps,objs:=aset (setAll st.objs (purs fet ti.cs v'.cells).2.2) q (.arr r.e false l')}:=by
      rw[hδ]
      unfold apply
      rw[hd,setAll_snoc]
      rfl
    rw[happ,hd]
    exact hfin
  cases hrow:isRow ti r.l i off with
  | true =>
    rw[hrow]at hok hn
    simp only[cond_true]at hok hn
    obtain⟨hok1,hok2⟩:=hok.append
    obtain⟨h1,h2⟩:=hok2.cons
    obtain⟨hset,h2⟩:=h2.cons
    obtain⟨h2,h3⟩:=h2.cons
    obtain⟨_,h3⟩:=h3.cons
    obtain⟨h4,hno⟩:=h3.cons
    have hno:=hno.cons.1
    simp only[isRow,Bool.and_eq_true]at hrow
    obtain⟨⟨⟨r4,r1⟩,r3⟩,r2⟩:=hrow
    have r1:=Nat.eq_of_beq_eq_true r1
    have r2:=Nat.eq_of_beq_eq_true r2
    have r3:=Nat.eq_of_beq_eq_true r3
    have h2:=Nat.eq_of_beq_eq_true h2
    have h4:0<ti.cs.length:=by simpa [Nat.blt_eq]using h4
    have hpl:(purs fet ti.cs v'.cells).2.1.length=ti.cs.length:=(purs_spec hf ti.cs v'.cells (fun j=>(a.eval y).cells.getD j undef) (fun j hj=>(hy.cells (purs_val hok1)).2 j hj) hok1).1
    have hes:=fillAll_es hset
    have hxl:ti.cs.length=r.l.es.length:=by rw[Sl.es_length];exact h2
    subst r2;subst r3
    refine main ⟨r.l.t,(fillAll r.l.t (purs fet ti.cs v'.cells).2.1).2⟩ _ hok1 (by simpa using h1) (by simpa using hno) (by omega) (by rw[r1];omega) h4 (by rw[hes,List.length_map,hpl,hxl]) rfl (fun r' j hr' hj=> ?_) rfl hn
    rw[r1]at hj ⊢
    have:j=0:=by omega
    subst this
    rw[hes,if_pos (by omega)]
    have e:r'*1+0 - (0*1+0)=r':=by omega
    rw[e]
    simp [List.getD_eq_getElem?_getD,show r'<(purs fet ti.cs v'.cells).2.1.length by omega]
  | false =>
    rw[hrow]at hok hn
    simp only[cond_false]at hok hn
    obtain⟨hok1,hok2⟩:=hok.append
    obtain⟨h1,h2⟩:=hok2.cons
    obtain⟨hset,h2⟩:=h2.cons
    obtain⟨h2,h3⟩:=h2.cons
    obtain⟨h3,h4⟩:=h3.cons
    obtain⟨h4,hno⟩:=h4.cons
    have hno:=hno.cons.1
    have h4:0<ti.cs.length:=by simpa [Nat.blt_eq]using h4
    have h2:=Nat.le_of_ble_eq_true h2
    have h3':i<r.l.xs.length:=by simpa using h3
    have h3:i<r.l.es.length:=by rw[Sl.es_length];exact h3'
    have hpl:(purs fet ti.cs v'.cells).2.1.length=ti.cs.length:=(purs_spec hf ti.cs v'.cells (fun j=>(a.eval y).cells.getD j undef) (fun j hj=>(hy.cells (purs_val hok1)).2 j hj) hok1).1
    have hes:=Sl.es_set r.l h3' hset
    have hmul: ∀ {x y:Nat},x<y->x*r.l.sz+r.l.sz<=y*r.l.sz:=fun h=>by
      have:=Nat.mul_le_mul_right r.l.sz h
      rw[Nat.succ_mul]at this;exact this
    refine main (r.l.set i off (purs fet ti.cs v'.cells).2.1).2 _ hok1 (by simpa using h1) (by simpa using hno) h3 (by have:=hmul h3;omega) h4 (by rw[hes,List.length_set]) rfl (fun r' j hr' hj=> ?_) rfl hn
    have hei:(r.l.es.getD i []).length=r.l.sz:=Sl.es_len _ _ (by rw[List.getD_eq_getElem?_getD,List.getElem?_eq_getElem h3];simp)
    rw[hes]
    by_cases hri:r'=i
    ·subst hri
     have e1:(r.l.es.set r' (splice (r.l.es.getD r' []) off (purs fet ti.cs v'.cells).2.1)).getD r' []=splice (r.l.es.getD r' []) off (purs fet ti.cs v'.cells).2.1:=by
       simp [List.getD_eq_getElem?_getD,hr']
     rw[e1,splice_getD _ _ _ _ (by omega)]
     by_cases hin:off<=j/\j<off+(purs fet ti.cs v'.cells).2.1.length
     ·rw[if_pos hin,if_pos (by omega),show r'*r.l.sz+j - (r'*r.l.sz+off)=j - off from by omega]
     ·rw[if_neg hin,if_neg (by omega)]
    ·have e1:(r.l.es.set i (splice (r.l.es.getD i []) off (purs fet ti.cs v'.cells).2.1)).getD r' []=r.l.es.getD r' []:=by
       simp only[List.getD_eq_getElem?_getD,List.getElem?_set]
       rw[if_neg (fun h=>hri h.symm)]
     rw[e1,if_neg ?_]
     rcases Nat.lt_or_gt_of_ne hri with h | h
     ·have:=hmul h;omega
     ·have:=hmul h;omega
theorem tail_pure {fet:Fet} {t:Nat} {x l:Operand} (hC:TOk P C) (hf:FOk O st.objs m w fet) (ho:o.op= .slice t x (some l) none none) {x' l':A} (hx:TRel O st.objs m w (a.eval x) x') (hl:TRel O st.objs m w (a.eval l) l')
    (hok:AllT (tailX C fet t x' l').ok):Pure P O st.objs m a w o (tailX C fet t x' l'):=by
  unfold tailX at hok ⊢
  obtain⟨ti,ht,he⟩:=tiOf_ok hok
  rw[he]at hok ⊢;clear he
  cases x' with
  | own q =>
    dsimp only at hok ⊢
    obtain⟨ro,hro,he⟩:=optX_ok hok
    rw[he]at hok ⊢;clear he
    obtain⟨n,hn,he⟩:=optX_ok hok
    rw[he]at hok ⊢;clear he
    obtain⟨e,hel,he⟩:=optX_ok hok
    rw[he]at hok ⊢;clear he
    obtain⟨te,hte,he⟩:=tiOf_ok hok
    rw[he]at hok ⊢;clear he
    obtain⟨h1,h2⟩:=hok.cons
    obtain⟨h2,h3⟩:=h2.cons
    have h3:=h3.cons.1
    have h1:=Nat.eq_of_beq_eq_true h1
    have h2:0<=n:=by simpa using h2
    obtain⟨k,rfl⟩:=Int.eq_ofNat_of_zero_le h2
    have h3:k<ro.l.es.length:=by
      have:(k:Int)<(ro.l.xs.length:Int):=by simpa using h3
      rw[Sl.es_length];omega
    obtain⟨kk,rfl⟩:=int?_some hn
    have hl:=hl.int
    obtain⟨h4,_,h5⟩:=hx.own hf (arr?_some hro)
    have hg:=(hf _ _ (arr?_some hro)).1
    rcases h5 with ⟨_,h6,_⟩ | ⟨_,g,cap,cur,h6,h7,h8,_⟩
    ·rw[h6]at h3;simp at h3
    ·have hd:=elem?_some hel
     have hu:=(hC.is ht).run w
     rw[hd]at hu
     have hs:=(hC.is hte).runSize w
     have hb:(Instr.sliceBounds true ro.l.es.length cap (some (a.eval l)) none none).run P w= .ok (k,ro.l.es.length,cap) w:=by
       have:k<=ro.l.es.length:=by omega
       simp [Instr.sliceBounds,Instr.sliceBound,hl,asIntOf,this]
     refine⟨⟨.slice (some (at' g (k*ro.l.sz))) (ro.l.es.length - k) (cap - k),?_,?_⟩,rfl,rfl,rfl⟩
     ·have hne: ¬ cap=k:=by omega
      simp only[execOp,ho,Instr.sliceAt,Sem.run_bind,hu,Result.andThen_ok,Instr.slice,h4,h6,Option.map_none,Option.map_some,hb,hs,Sem.run_pure,if_neg hne,<- h1]
      simp [add_at]
     ·show CRel O st.objs m w _ (.osl q k)
      simp only[CRel,hg,Option.map_some,Obj.shp]
      exact⟨rfl,fun _=>⟨g,cap,h6,rfl⟩⟩
  | _=>exact(not_AllT_no hok).elim
theorem copy_good {c:Call} {x y:Operand} {ts':List Nat} (hC:TOk P C) (hS:Sim V0 O0 w0 O m st a w) (ho:o.op= .call c) (hcal:c.callee= .builtin .copy) (hargs:c.args= #[x,y]) (hts:c.argTypes.toList=ts') {fet:Fet} (hf:Fet' st.objs fet) {x' y':A}
    (hx:TRel O st.objs m w (a.eval x) x') (hy:TRel O st.objs m w (a.eval y) y') (hok:AllT (copyX C fet ts' x' y').ok):Good P V0 O0 w0 (apply st o (copyX C fet ts' x' y')) o a w:=by
  intro next Q hn
  unfold copyX at *
  split at hok
  ·rename_i t u
   dsimp only at hn
   obtain⟨ti,e,te,ht,hte,hd',he⟩:=elemOf_ok hok
   rw[he]at hok hn;clear he
   cases x' with
   | osl q k =>
     dsimp only at hok hn
     obtain⟨r,hr,he⟩:=optX_ok hok
     rw[he]at hok hn;clear he
     obtain⟨ys,hys,he⟩:=optX_ok hok
     rw[he]at hok hn;clear he
     obtain⟨s,hs,he⟩:=optX_ok hok
     rw[he]at hok hn;clear he
     obtain⟨h1,h2⟩:=hok.cons
     obtain⟨h2,h3⟩:=h2.cons
     obtain⟨h3,h4⟩:=h3.cons
     obtain⟨h4,h5⟩:=h4.cons
     have h5:k+s.length<=ys.length:=by simpa using h5.cons.1
     have h40:0<s.length:=by simpa using h4
     have hz:r.frz=false:=by simpa using h3
     clear h3
     have h2:=Nat.eq_of_beq_eq_true h2
     have:=str?_some hs
     subst this
     have hrl:=Sl.cast_some hys
     clear hys
     obtain⟨ys,rfl⟩: ∃ zs:List Int,zs=ys:=⟨ys,rfl⟩
     obtain⟨re,rf,rl⟩:=r
     have h5':k+s.length<=ys.length:=h5
     clear h5
     dsimp only at hrl hz hn
     subst hrl;subst hz
     have hq:=hf q _ (arr?_some hr)
     dsimp only at hq
     have hes: ∀ zs:List Int,(⟨byteT,zs⟩:Sl).es=zs.map fun z=>[A.int .u8 z]:=fun zs=>rfl
     have hlen:(⟨byteT,ys⟩:Sl).es.length=ys.length:=by rw[hes,List.length_map]
     obtain⟨bs,hb,hbl⟩:=hy.str
     have hsz:bs.size=s.length:=by rw[size_dl,hbl]
     obtain⟨_,hrow⟩:=hS.objs q _ hq
     have hx':CRel O st.objs m w (a.eval x) (.osl q k):=hx
     simp only[CRel,hq,Option.map_some,Obj.shp]at hx'
     obtain⟨g,cap,g1,g2⟩:=hx'.2 (by rw[hlen];omega)
     rcases hrow with ⟨_,h6,_⟩ | ⟨_,g',cap',cur,k1,k2,k3,k4,k5,k6,k7,k8⟩
     ·rw[hes]at h6;have h6:=congrArg List.length h6;rw[List.length_map,List.length_nil]at h6;omega
     ·rw[g1]at k1
      injection k1 with q1 q2 q3;injection q1 with q1;injection q1 with q1
      subst q1;subst q3
      have hszb:(⟨byteT,ys⟩:Sl).sz=1:=rfl
      rw[hszb]at g2 k5 k7 k8
      rw[hlen]at g2 k3 k7 k8
      let vs:List Value:=bs.data.toList.map fun b=>Value.int .u8 (b.toNat:Int)
      have hvl:vs.length=s.length:=by show(List.map _ _).length=_;rw[List.length_map,<- hbl]
      have hfit:k+s.length<=cur.size:=by omega
      have hst:=run_storeCells_cells (P:=P) g k vs 0 w (fun j hj=>by
        rw[Nat.add_zero]
        have:k+j<cur.size:=by omega
        have:=k2.cell (k+j)
        rw[this,Array.getElem?_eq_getElem (by omega)];rfl) (fun j hj=>by rw[Nat.add_zero];exact k2.frozen (by omega)) (fun v hv=>by obtain⟨b,_,rfl⟩:=List.mem_map.1 hv;rfl)
      have hu:=(hC.is ht).run w
      rw[hte]at hu
      have hsize:=(hC.is hd').runSize w
      have hmin:Nat.min s.length (ys.length - k)=s.length:=Nat.min_eq_left (by omega)
      have hfc:(Builtin.firstCells te.cs.length s.length (.string bs)).run P w= .ok vs.toArray w:=by
        rw[<- hsz]
        simp [Builtin.firstCells,vs]
        rw[<- Array.toList_inj];simp
      have hat:c.argTypes= #[t,u]:=by
        have:=congrArg List.toArray hts
        simpa using this
      have hrun:(execOp a.eval o).run P w= .ok (.value (.int .i64 (s.length:Int))) (w.setCells g k vs):=by
        simp only[execOp,ho,resolve,hcal,hargs,hat,invoke,builtin,Builtin.copy_]
        simp [hu,g2,hb,Builtin.lenOf,hsize,hsz]
        simp [hmin,hfc,hst,goInt]
      unfold Oper.wp
      rw[hrun,Oper.upon_value]
      have hput:(putB ys k s).length=ys.length:=by unfold putB;simp;omega
      have hsim:=storeRow_sim hS (k0:=k) (l':=⟨byteT,putB ys k s⟩) (vs:=vs) (xs:=s.map fun b=>A.int .u8 (b.toNat:Int)) hq g1 k2 (by rw[hes,hes,List.length_map,List.length_map,hput]) rfl (by rw[List.length_map,hlen,hszb];omega) (by rw[hvl,List.length_map]) (by rw[List.length_map];exact h40) (fun r' j hr' hj=>by
        rw[hszb]at hj ⊢
        have:j=0:=by omega
        subst this
        rw[hlen]at hr'
        have e1: ∀ zs:List Int,r'<zs.length->((⟨byteT,zs⟩:Sl).es.getD r' []).getD 0 .undef= .int .u8 (zs.getD r' 0):=by
          intro zs hz
          rw[hes];simp [List.getD_eq_getElem?_getD,hz]
        rw[e1 _ (by rw[hput];exact hr'),e1 _ hr',List.length_map,Nat.mul_one,Nat.add_zero]
        unfold putB
        rw[List.getD_eq_getElem?_getD,List.append_assoc,List.getElem?_append,List.length_take,Nat.min_eq_left (by omega)]
        by_cases h0:r'<k
        ·rw[if_pos h0,if_neg (by omega),List.getElem?_take_of_lt h0,<- List.getD_eq_getElem?_getD]
        ·rw[if_neg h0,List.getElem?_append,List.length_map]
         by_cases h7:r' - k<s.length
         ·rw[if_pos h7,if_pos (by omega)]
          simp [List.getD_eq_getElem?_getD,h7]
         ·rw[if_neg h7,if_neg (by omega),List.getElem?_drop,show k+s.length+(r' - k - s.length)=r' by omega,<- List.getD_eq_getElem?_getD]) (fun j hj=>by
        rw[List.length_map]at hj
        have e1:vs.getD j undef= .int .u8 ((s.getD j 0).toNat:Int):=by
          simp [vs,List.getD_eq_getElem?_getD,hbl,hj]
        have e2:(s.map fun b=>A.int .u8 (b.toNat:Int)).getD j .undef= .int .u8 ((s.getD j 0).toNat:Int):=by
          simp [List.getD_eq_getElem?_getD,hj]
        rw[e1,e2]
        exact .int _ _)
      refine hn O m _ _ ?_
      have hfin:=hsim.put o.dst (x:=.int .i64 (s.length:Int)) (v:=.int .i64 (s.length:Int)) (.mkInt _ _)
      exact hfin
   | _=>exact(not_AllT_no hok).elim
  ·exact(not_AllT_no hok).elim
end
end Go.Proofs.YtbnphelpndnnfaaGreatDoor.Vm
namespace Go.Proofs.YtbnphelpndnnfaaGreatDoor.Vm
open Classical
open Go.Lib (bytesWorld bytesCells bytesWorld_at_old bytesWorld_at_new bytesWorld_size)
section
variable {P:Program} {C:Ctx} {V0:Nat->Value} {O0 O:Own} {w0 w:World} {m:Nat->Value} {st:St} {a:Act} {o:Oper}
theorem bytes_moves (w:World) (e:TypeId) (s:ByteArray):Moves O (fun _=>False) w (bytesWorld w e s):=by
  refine⟨rfl,rfl,rfl,?_,fun b hb=>.inl (bytesWorld_at_old w e s b hb)⟩
  rw[bytesWorld_size];omega
theorem bytes_good {s t:Nat} {x:Operand} (hC:TOk P C) (hS:Sim V0 O0 w0 O m st a w) {d:Tmp} (hd:o.dst=some d) (ho:o.op= .convert s t x) {l:List UInt8} (hx:TRel O st.objs m w (a.eval x) (.str l))
    (hok:AllT (bytesX C d s t l).ok) (hfr: ∀ p∈(bytesX C d s t l).new,st.fresh p.1=true):Good P V0 O0 w0 (apply st o (bytesX C d s t l)) o a w:=by
  intro next Q hn
  unfold bytesX at *
  obtain⟨ts,hts,he⟩:=tiOf_ok hok
  rw[he]at hok hfr hn;clear he
  obtain⟨ti,e,te,ht,hte,hd',he⟩:=elemOf_ok hok
  rw[he]at hok hfr hn;clear he
  obtain⟨h1,h2⟩:=hok.cons
  have h2:=h2.cons.1
  have hlen:l.length<=140737488355328:=by simpa using h2
  have hde:=isU8D_eq h1
  have hue:=(hC.is hd').d
  rw[hde]at hue
  have hut:=(hC.is ht).d
  rw[hte]at hut
  obtain⟨b,hb,hl⟩:=hx.str
  have hbl:b.size=l.length:=by rw[size_dl,hl]
  have hr:(execOp a.eval o).run P w= .ok (.value (.slice (some (at' w.heap.size 0)) b.size (grownCap w b.size 0 e))) (bytesWorld w e b):=by
    have:=Go.Lib.run_convert_string_bytes (P:=P) w s t e b (hC.is hts).d hut hue
    simp only[execOp,ho,hb,Sem.run_bind,this]
    rfl
  unfold Oper.wp
  rw[hr,Oper.upon_value,hd]
  have hge:=grownCap_ge w b.size 0 e
  have hes:(⟨byteT,l.map (fun(b:UInt8)=>((b.toNat:Int)))⟩:Sl).es=l.map (fun(x:UInt8)=>[A.int .u8 (x.toNat:Int)]):=by
    show List.map (Ty.int IntKind.u8 Ty.nil).cells (List.map (fun(b:UInt8)=>((b.toNat:Int))) l)=_
    exact List.map_map.trans rfl
  have hesl:(⟨byteT,l.map (fun(b:UInt8)=>((b.toNat:Int)))⟩:Sl).es.length=b.size:=by rw[hes,List.length_map,hbl]
  have hcs:(bytesCells w e b).size=grownCap w b.size 0 e:=by
    simp [bytesCells]
    have:b.data.size=b.size:=rfl
    omega
  obtain⟨O',m',h⟩:=newRow_sim0 hS (bytes_moves w e b) (d:=d) (e:=e) (cap:=grownCap w b.size 0 e) (frz:=false) (l:=⟨byteT,l.map (fun(b:UInt8)=>((b.toNat:Int)))⟩) (del:=[]) (cur:=bytesCells w e b)
    ⟨_,bytesWorld_at_new w e b,.inr (Nat.le_refl _)⟩ (by rw[hesl];exact hge) (grownCap_le_maxLen w _ _ _ (by unfold maxLen;omega)) (by rw[hcs];show _=_*1;omega) ⟨Sl.es_len _,fun i j hi hj=>by
      have hj0:j=0:=by
        have:j<1:=hj
        omega
      subst hj0
      rw[hesl]at hi
      have hi':i<l.length:=by omega
      have hi2:i<b.data.toList.length:=by rw[hl];exact hi'
      refine⟨.int .u8 (l.getD i 0).toNat,?_,?_⟩
      ·have hlt:i<b.data.size:=hi
       show(bytesCells w e b)[i*1+0]? =_
       rw[Nat.mul_one,Nat.add_zero]
       unfold bytesCells
       rw[Array.getElem?_append_left (by simpa using hlt)]
       rw[Array.getElem?_map]
       have:b.data[i]? =some (l.getD i 0):=by
         rw[<- Array.getElem?_toList,hl,List.getD_eq_getElem?_getD,List.getElem?_eq_getElem hi'];rfl
       rw[this];rfl
      ·rw[hes]
       have:(l.map (fun(x:UInt8)=>[A.int .u8 (x.toNat:Int)])).getD i []=[A.int .u8 ((l.getD i 0).toNat:Int)]:=by
         simp [List.getD_eq_getElem?_getD,hi']
       rw[this]
       exact .int _ _⟩ (fresh_not (hfr _ List.mem_cons_self))
  rw[hesl]at h
  refine hn O' m' _ _ ?_
  rw[apply_mk hd]
  exact h
theorem conv_good {s t:Nat} {x:Operand} (hC:TOk P C) (hS:Sim V0 O0 w0 O m st a w) (ho:o.op= .convert s t x) {fet:Fet} (hf:Fet' st.objs fet) {x':A} (hx:TRel O st.objs m w (a.eval x) x')
    (hok:AllT (convX C o fet s t x').ok) (hfr: ∀ p∈(convX C o fet s t x').new,st.fresh p.1=true):Good P V0 O0 w0 (apply st o (convX C o fet s t x')) o a w:=by
  have hF:FOk O st.objs m w fet:=fun q x h=>⟨hf q x h,hS.objs q x (hf q x h)⟩
  by_cases hs: ∃ l,x'= .str l
  ·obtain⟨l,rfl⟩:=hs
   unfold convX at *
   dsimp only at hok hfr ⊢
   obtain⟨tt,htt,he⟩:=tiOf_ok hok
   rw[he]at hok hfr ⊢;clear he
   cases hb:isSliceD tt.d with
   | true =>
     rw[hb]at hok hfr
     simp only[cond_true]at hok hfr ⊢
     obtain⟨d,hd,he⟩:=optX_ok hok
     rw[he]at hok hfr ⊢;clear he
     exact bytes_good hC hS hd ho hx hok hfr
   | false =>
     rw[hb]at hok
     simp only[cond_false]at hok ⊢
     exact(convert_pure hC hF ho hx hok).good hS
  ·have e:convX C o fet s t x'=convertX C fet s t x':=by
     cases x'<;>first | rfl | exact absurd ⟨_,rfl⟩ hs
   rw[e]at hok ⊢
   exact(convert_pure hC hF ho hx hok).good hS
theorem flat_at (n:Nat) (cs:List CK) {i j:Nat} (hi:i<n) (hj:j<cs.length):((List.replicate n cs).flatten).getD (i*cs.length+j) .oth=cs.getD j .oth:=by
  induction n generalizing i with
  | zero=>omega
  | succ n ih =>
    rw[List.replicate_succ,List.flatten_cons,List.getD_eq_getElem?_getD]
    cases i with
    | zero=>rw[List.getElem?_append_left (by omega),Nat.zero_mul,Nat.zero_add,<- List.getD_eq_getElem?_getD]
    | succ i =>
      rw[Nat.add_mul,Nat.one_mul,List.getElem?_append_right (by omega),show i*cs.length+cs.length+j - cs.length=i*cs.length+j from by omega,<- List.getD_eq_getElem?_getD]
      exact ih (by omega)
theorem oeltNew_good {t n:Nat} {l:Sl} {cur:Array Value} (hS:Sim V0 O0 w0 O m st a w) {d:Tmp} (hd:o.dst=some d) (hr:(execOp a.eval o).run P w= .ok (.value (.pointer (some (at' w.heap.size 0)))) (w.alloc (.cells cur t)))
    (hn:l.xs.length=n) (hmax:n<=16777216) (hsz:cur.size=n*l.sz) (hheld:Held O w cur l.sz l.es) (hfresh:Fresh st (b2 d)) :
    Good P V0 O0 w0 {tmps:=st.tmps.set d (.oelt (b2 d) 0 0),objs:=setAll (delAll st.objs []) [(b2 d,.arr t false l)]} o a w:=by
  intro next Q hnx
  unfold Oper.wp
  rw[hr,Oper.upon_value,hd]
  obtain⟨O',m',h⟩:=newRow_sim hS (Moves.refl _ _ w) rfl (d:=d) (e:=t) (cap:=n) (frz:=false) (l:=l) (cur:=cur) (del:=[]) (by rw[Sl.es_length,hn];exact Nat.le_refl _) (by unfold maxLen;omega) hsz hheld hfresh
  rw[Sl.es_length,hn]at h
  refine hnx O' m' _ _ ?_
  by_cases hdt:d<st.tmps.length
  ·
   have hslot:=h.tmps d (by simpa using hdt)
   have hself:(a.put (some d) (.slice (some (at' w.heap.size 0)) n n)).tmps.getD d undef= .slice (some (at' w.heap.size 0)) n n:=by
     have hs:d<a.tmps.size:=by rw[hS.size];exact hdt
     simp [Act.put,Array.getD_eq_getD_getElem?,hs]
   have hself2:(st.tmps.set d (.own (b2 d))).getD d .undef= .own (b2 d):=by simp [List.getD_eq_getElem?_getD,hdt]
   rw[hself,hself2]at hslot
   have hc:CRel O' (setAll (delAll st.objs []) [(b2 d,.arr t false l)]) m' (w.alloc (.cells cur t)) (.slice (some (at' w.heap.size 0)) n n) (.own (b2 d)):=hslot
   have hg:aget (setAll (delAll st.objs []) [(b2 d,Obj.arr t false l)]) (b2 d)=some (.arr t false l):=by
     simp only[setAll];rw[aget_aset,if_pos rfl]
   have hm: .slice (some (at' w.heap.size 0)) n n=m' (b2 d):=by
     have:=hc.2
     rw[hg]at this
     exact this
   have hcr:CRel O' (setAll (delAll st.objs []) [(b2 d,.arr t false l)]) m' (w.alloc (.cells cur t)) (.pointer (some (at' w.heap.size 0))) (.oelt (b2 d) 0 0):=by
     simp only[CRel,hg,Option.map_some,Obj.shp]
     exact⟨rfl,fun _=>⟨w.heap.size,n,n,hm.symm,by simp⟩⟩
   have hnew:=h.put (some d) (x:=.oelt (b2 d) 0 0) (v:=.pointer (some (at' w.heap.size 0))) hcr.toT
   have e1:put (st.tmps.set d (.own (b2 d))) (some d) (.oelt (b2 d) 0 0)=st.tmps.set d (.oelt (b2 d) 0 0):=by simp [put]
   have e2:(a.put (some d) (.slice (some (at' w.heap.size 0)) n n)).put (some d) (.pointer (some (at' w.heap.size 0)))=a.put (some d) (.pointer (some (at' w.heap.size 0))):=by simp [Act.put]
   rw[e2]at hnew
   dsimp only at hnew
   rw[e1]at hnew
   exact hnew
  ·have e1: ∀ x,st.tmps.set d x=st.tmps:=fun x=>List.set_eq_of_length_le (Nat.le_of_not_lt hdt)
   have e2: ∀ v,a.put (some d) v=a:=by
     intro v
     have hs: ¬ d<a.tmps.size:=by rw[hS.size];exact hdt
     have:a.tmps.setIfInBounds d v=a.tmps:=by simp [Array.setIfInBounds,hs]
     simp only[Act.put,this]
   rw[e1,e2]at h
   rw[e1,e2]
   exact h
theorem allocArr_good {t n e:Nat} {ti te:TI} (hC:TOk P C) (hS:Sim V0 O0 w0 O m st a w) {d:Tmp} (hd:o.dst=some d) (ho:o.op= .alloc t) (ht:C.T t=some ti)
    (hp:te.cs.all CK.plain=true) (h0:0<te.cs.length) (hn0:0<n) (hn:n<=16777216) (hcs:ti.cs=(List.replicate n te.cs).flatten) (hfresh:Fresh st (b2 d)) :
    Good P V0 O0 w0 {tmps:=st.tmps.set d (.oelt (b2 d) 0 0),objs:=setAll (delAll st.objs []) [(b2 d,.arr t false ⟨tyl te.cs,List.replicate n (tyl te.cs).zero⟩)]} o a w:=by
  have hT:=hC.is ht
  obtain⟨i,z,g1,g2,g3,g4,g5,g6⟩:=hT.i
  have hsz:z.cells.size=ti.cs.length:=by
    rw[<- Array.length_toList];exact(zeroFits_rel (O:=O) (objs:=[]) (m:=fun _=>undef) (w:=w) _ _ g5).1
  have hlen:ti.cs.length=n*te.cs.length:=by rw[hcs];simp
  have hpl:ti.cs.all CK.plain=true:=by
    rw[hcs,List.all_eq_true]
    intro k hk
    obtain⟨l,hl,hkl⟩:=List.mem_flatten.1 hk
    rw[List.eq_of_mem_replicate hl]at hkl
    exact List.all_eq_true.1 hp k hkl
  have hv:=zeroFits_vrel (O:=O) (w:=w) _ _ g5 hpl
  have hr:(execOp a.eval o).run P w= .ok (.value (.pointer (some (at' w.heap.size 0)))) (w.alloc (.cells z.cells t)):=by
    simp only[execOp,ho,Instr.alloc,Sem.run_bind,zeroValue,typeInfo,run_program,Result.andThen_ok,g1,g4,Sem.run_pure,newVar,newRow]
    rfl
  have hel:(⟨tyl te.cs,List.replicate n (tyl te.cs).zero⟩:Sl).es=List.replicate n (te.cs.map CK.fzero):=Sl.es_replicate _ _ hp
  have hsl:(⟨tyl te.cs,List.replicate n (tyl te.cs).zero⟩:Sl).sz=te.cs.length:=tyl_len _
  exact oeltNew_good hS hd hr (by rw[List.length_replicate]) hn (by rw[hsz,hlen,hsl])
    ⟨Sl.es_len _,fun r j hrl hj=>by
      rw[hsl]at hj ⊢
      rw[Sl.es_length,List.length_replicate]at hrl
      have hlt:r*te.cs.length+j<n*te.cs.length:=by
        have:(r+1)*te.cs.length<=n*te.cs.length:=Nat.mul_le_mul_right _ hrl
        rw[Nat.add_mul]at this;omega
      refine⟨z.cells.toList.getD (r*te.cs.length+j) undef,?_,?_⟩
      ·rw[List.getD_eq_getElem?_getD,Array.getElem?_toList]
       rw[Array.getElem?_eq_getElem (by omega)];rfl
      ·have:=hv (r*te.cs.length+j) (by omega)
       have e1:(ti.cs.map CK.fzero).getD (r*te.cs.length+j) .undef=(te.cs.map CK.fzero).getD j .undef:=by
         have e2:(ti.cs.map CK.fzero).getD (r*te.cs.length+j) .undef=(ti.cs.getD (r*te.cs.length+j) .oth).fzero:=by
           have:r*te.cs.length+j<ti.cs.length:=by omega
           simp [List.getD_eq_getElem?_getD,this]
         have e3:(te.cs.map CK.fzero).getD j .undef=(te.cs.getD j .oth).fzero:=by simp [List.getD_eq_getElem?_getD,hj]
         rw[e2,e3,hcs,flat_at n te.cs hrl hj]
       rw[e1]at this
       rw[hel]
       have e4:(List.replicate n (te.cs.map CK.fzero)).getD r []=te.cs.map CK.fzero:=by simp [List.getD_eq_getElem?_getD,hrl]
       rw[e4];exact this⟩ hfresh
theorem boxV_good {t:Nat} {x:Operand} {y:A} (hC:TOk P C) (hS:Sim V0 O0 w0 O m st a w) {d:Tmp} (hd:o.dst=some d) (ho:o.op= .box t x) (hx:TRel O st.objs m w (a.eval x) y) (hids: ∀ i∈y.ids,i∈st.ids\/(aget st.objs i).isSome)
    (hok:AllT (boxV C d t y).ok) (hfr: ∀ p∈(boxV C d t y).new,st.fresh p.1=true) (hnd:nodup ((boxV C d t y).new.map (·.1))=true):Good P V0 O0 w0 (apply st o (boxV C d t y)) o a w:=by
  unfold boxV at *
  cases hI:arrI? C t with
  | none=>rw[hI]at hok hfr hnd;exact boxOp_good hC hS hd ho hx hids hok hfr hnd
  | some q =>
    obtain⟨n,k⟩:=q
    rw[hI]at hok hfr hnd
    dsimp only at hok hfr hnd ⊢
    cases y with
    | agg cs =>
      dsimp only at hok hfr hnd ⊢
      obtain⟨h1,h2⟩:=hok.cons
      obtain⟨h2,h3⟩:=h2.cons
      have h3:=Nat.le_of_ble_eq_true h3.cons.1
      have h2:=Nat.eq_of_beq_eq_true h2
      obtain⟨vs,g1,g2,g3⟩:=hx
      have hr:(execOp a.eval o).run P w= .ok (.value (.pointer (some (at' w.heap.size 0)))) (w.alloc (.cells vs t)):=by
        simp only[execOp,ho,Instr.box,g1,Sem.run_bind,Sem.run_pure,Result.andThen_ok,newVar,newRow]
        rfl
      rw[apply_mk hd]
      refine oeltNew_good (n:=n) hS hd hr (by show(cs.map A.toI).length=n;rw[List.length_map,h2]) h3 (by show vs.size=n*1;rw[g2,h2,Nat.mul_one]) ⟨Sl.es_len _,fun r j hr hj=> ?_⟩ (fresh_not (hfr _ List.mem_cons_self))
      have hj:j<1:=hj
      have:j=0:=by omega
      subst this
      have hr:r<cs.length:=by
        rw[Sl.es_length]at hr
        have hr:r<(cs.map A.toI).length:=hr
        rwa [List.length_map]at hr
      refine⟨vs.getD r undef,?_,?_⟩
      ·show vs[r*1+0]? =_
       rw[Nat.mul_one,Nat.add_zero,Array.getD_eq_getD_getElem?,Array.getElem?_eq_getElem (by omega)];rfl
      ·have h4:=g3 r hr
       have h5:=List.all_eq_true.1 h1 cs[r] (List.getElem_mem hr)
       have e1:cs.getD r .undef=cs[r]:=by simp [List.getD_eq_getElem?_getD,hr]
       have e2:((⟨.int k .nil,cs.map A.toI⟩:Sl).es.getD r []).getD 0 .undef= .int k cs[r].toI:=by
         have:(⟨.int k .nil,cs.map A.toI⟩:Sl).es=cs.map fun c=>[A.int k c.toI]:=List.map_map (f:=A.toI) (g:=fun x=>[A.int k x]) (l:=cs)
         rw[this];simp [List.getD_eq_getElem?_getD,hr]
       rw[e2]
       rw[e1]at h4
       generalize cs[r]=c at h4 h5
       cases c<;>first
         | (rename_i k' x;have:=kEq_eq (show A.kEq k k'=true from h5);subst this;exact h4)
         | cases h5
    | _=>exact(not_AllT_no hok).elim
theorem allocX_good {t:Nat} (hC:TOk P C) (hS:Sim V0 O0 w0 O m st a w) {d:Tmp} (hd:o.dst=some d) (ho:o.op= .alloc t)
    (hok:AllT (allocX C d t).ok) (hfr: ∀ p∈(allocX C d t).new,st.fresh p.1=true) (hnd:nodup ((allocX C d t).new.map (·.1))=true):Good P V0 O0 w0 (apply st o (allocX C d t)) o a w:=by
  unfold allocX at *
  obtain⟨ti,ht,he⟩:=tiOf_ok hok
  rw[he]at hok hfr hnd ⊢;clear he
  cases ha:arr2? ti.d with
  | some p =>
    obtain⟨n,e⟩:=p
    rw[ha]at hok hfr
    dsimp only at hok hfr ⊢
    obtain⟨te,hte,he⟩:=tiOf_ok hok
    rw[he]at hok hfr ⊢;clear he
    obtain⟨h1,h2⟩:=hok.cons
    obtain⟨h2,h3⟩:=h2.cons
    obtain⟨h3,h4⟩:=h3.cons
    obtain⟨h4,h5⟩:=h4.cons
    have h5:=h5.cons.1
    rw[apply_mk hd]
    exact allocArr_good (n:=n) (e:=e) hC hS hd ho ht h1 (by simpa [Nat.blt_eq]using h2) (by simpa [Nat.blt_eq]using h3) (Nat.le_of_ble_eq_true h4) (by simpa using h5) (fresh_not (hfr _ List.mem_cons_self))
  | none =>
    rw[ha]at hok hfr hnd
    exact allocOp_good hC hS hd ho ht hok hfr hnd
end
end Go.Proofs.YtbnphelpndnnfaaGreatDoor.Vm
namespace Go.Proofs.YtbnphelpndnnfaaGreatDoor.Vm
open Classical MapKept
theorem Ty.mk2_eta {α :Type} (r:Ty) (p:Ty.pr α r.Val r) (hu:r= .nil->True):r.mk2 (r.hd p) (r.tl p)=p:=by cases r<;>rfl
theorem Ty.same_eq: ∀(t:Ty) (a b:t.Val),t.same a b=true->a=b
  | .nil,_,_,_=>rfl
  | .bool r,a,b,h=>by
    simp only[Ty.same,Bool.and_eq_true]at h
    rw[<- Ty.mk2_eta r a (fun _=>trivial),<- Ty.mk2_eta r b (fun _=>trivial),eq_of_beq h.1,Ty.same_eq r _ _ h.2]
  | .int _ r,a,b,h=>by
    simp only[Ty.same,Bool.and_eq_true]at h
    rw[<- Ty.mk2_eta r a (fun _=>trivial),<- Ty.mk2_eta r b (fun _=>trivial),eq_of_beq h.1,Ty.same_eq r _ _ h.2]
  | .str r,a,b,h=>by
    simp only[Ty.same,Bool.and_eq_true]at h
    rw[<- Ty.mk2_eta r a (fun _=>trivial),<- Ty.mk2_eta r b (fun _=>trivial),eq_of_beq h.1,Ty.same_eq r _ _ h.2]
  | .sl _ _ _,_,_,h=>by cases h
  | .ptr _,_,_,h=>by cases h
  | .fn _,_,_,h=>by cases h
  | .mp _ _ _,_,_,h=>by cases h
def sameS:List A->List A->Bool
  | .str x::xs,.str y::ys=>(x==y)&&sameS xs ys
  | _,_=>true
def strT:Nat->Ty
  | 0=>.nil
  | n+1=>.str (strT n)
theorem same_strT: ∀(n:Nat) (a b:(strT n).Val),(strT n).same a b=sameS ((strT n).cells a) ((strT n).cells b):=by
  intro n
  induction n with
  | zero=>intro a b;rfl
  | succ n ih=>intro a b;show((_==_)&&_)=((_==_)&&_);rw[ih]
theorem tyl_strs (n:Nat):tyl (List.replicate n [CK.str]).flatten=strT n:=by
  induction n with
  | zero=>rfl
  | succ n ih=>simp only[List.replicate_succ,List.flatten_cons,List.singleton_append,tyl,strT,ih]
theorem strT_cells: ∀(n:Nat) (a:(strT n).Val) (j:Nat),j<n-> ∃ s,((strT n).cells a).getD j .undef= .str s:=by
  intro n
  induction n with
  | zero=>intro a j h;omega
  | succ n ih =>
    intro a j h
    cases j with
    | zero=>exact⟨_,rfl⟩
    | succ j=>exact ih _ j (by omega)
def fnd {β :Type} (t:Ty) (k:t.Val):List MapEntry->List (t.Val× β)->Nat->Option (Nat×Value)
  | e::es,p::l,i=>bif t.same k p.1 then some (i,e.val)else fnd t k es l (i+1)
  | _,_,_=>none
theorem fnd_spec {β :Type} {t:Ty} {k:t.Val}: ∀(es:List MapEntry) (l:List (t.Val× β)) (i:Nat),es.length=l.length ->
    (fnd t k es l i=none/\mget t k l=none/\(∀ x,mput t k x l=l++[(k,x)])/\mdel t k l=l) \/
    ∃ j e p,fnd t k es l i=some (i+j,e.val)/\es[j]? =some e/\l[j]? =some p/\p.1=k/\mget t k l=some p.2/\(∀ x,mput t k x l=l.set j (p.1,x))/\mdel t k l=l.eraseIdx j:=by
  intro es
  induction es with
  | nil =>
    intro l i h
    cases l with
    | nil=>exact .inl ⟨rfl,rfl,fun _=>rfl,rfl⟩
    | cons _ _=>cases h
  | cons e es ih =>
    intro l i h
    cases l with
    | nil=>cases h
    | cons p l =>
      cases hs:t.same k p.1 with
      | true =>
        refine .inr ⟨0,e,p,by simp [fnd,hs],rfl,rfl,(Ty.same_eq _ _ _ hs).symm,by simp [mget,hs],fun x=>by simp [mput,hs],by simp [mdel,hs]⟩
      | false =>
        rcases ih l (i+1) (by simpa using h)with ⟨h1,h2,h3,h4⟩ | ⟨j,e',p',h1,h2,h3,h4,h5,h6,h7⟩
        ·exact .inl ⟨by simp [fnd,hs,h1],by simp [mget,hs,h2],fun x=>by simp [mput,hs,h3],by simp [mdel,hs,h4]⟩
        ·exact .inr ⟨j+1,e',p',by simp only[fnd,hs,cond_false,h1];congr 2;omega,by simpa using h2,by simpa using h3,h4,by simp [mget,hs,h5],fun x=>by simp [mput,hs,h6],by simp [mdel,hs,h7]⟩
section
variable {P:Program} {C:Ctx} {V0:Nat->Value} {O0 O:Own} {w0 w:World} {m:Nat->Value} {st:St} {a:Act} {o:Oper}
structure KeyAt (P:Program) (O:Own) (w:World) (kt:TypeId) (t:Ty):Prop where
  check: ∀(e:Bool) (v:Value) (k:t.Val),DRel O w v (ofCs (t.cells k))->(Instr.checkKey e 10000 kt v).run P w= .ok () w
  find: ∀ {β :Type} (v:Value) (k:t.Val) (es:List MapEntry) (l:List (t.Val× β)),DRel O w v (ofCs (t.cells k))->es.length=l.length->(∀(i:Nat) e p,es[i]? =some e->l[i]? =some p->DRel O w e.key (ofCs (t.cells p.1))) ->
    (Instr.findKey kt v es).run P w= .ok (fnd t k es l 0) w
  stays: ∀(v u:Value) (k:t.Val),DRel O w v (ofCs (t.cells k))->DRel O w u (ofCs (t.cells k))->(Instr.keyThatStays u v).run P w= .ok v w
theorem findNow_fnd {β :Type} {t:Ty} {k:t.Val} {d:TypeDesc} {v:Value}: ∀(es:List MapEntry) (l:List (t.Val× β)) (i:Nat),es.length=l.length->(∀(i:Nat) (e:MapEntry) (p:t.Val× β),es[i]? =some e->l[i]? =some p->Instr.sameNow d v e.key=some (t.same k p.1)) ->
    Instr.findNow d v es i=some (fnd t k es l i):=by
  intro es
  induction es with
  | nil=>intro l i h _;cases l<;>rfl
  | cons e es ih =>
    intro l i h hs
    cases l with
    | nil=>cases h
    | cons p l =>
      have h0:=hs 0 e p rfl rfl
      have h1:=ih l (i+1) (by simpa using h) (fun i e p he hp=>hs (i+1) e p (by simpa using he) (by simpa using hp))
      cases hb:t.same k p.1 with
      | true=>rw[hb]at h0;simp [Instr.findNow,h0,fnd,hb]
      | false=>rw[hb]at h0;simp [Instr.findNow,h0,fnd,hb,h1]
theorem asking_fnd {β :Type} {t:Ty} {k:t.Val} {kt:TypeId} {v:Value}: ∀(es:List MapEntry) (l:List (t.Val× β)) (i:Nat),es.length=l.length->(∀(i:Nat) (e:MapEntry) (p:t.Val× β),es[i]? =some e->l[i]? =some p->(Op.equal kt v e.key).run P w= .ok (t.same k p.1) w) ->
    (Instr.findAsking kt v es i).run P w= .ok (fnd t k es l i) w:=by
  intro es
  induction es with
  | nil=>intro l i h _;cases l<;>first | rfl | cases h
  | cons e es ih =>
    intro l i h hs
    cases l with
    | nil=>cases h
    | cons p l =>
      have h0:=hs 0 e p rfl rfl
      have h1:=ih l (i+1) (by simpa using h) (fun i e p he hp=>hs (i+1) e p (by simpa using he) (by simpa using hp))
      cases hb:t.same k p.1 with
      | true=>rw[hb]at h0;simp [Instr.findAsking,h0,fnd,hb]
      | false=>rw[hb]at h0;simp [Instr.findAsking,h0,fnd,hb,h1]
theorem bytes_of_list {a b:ByteArray} (h:a.data.toList=b.data.toList):a=b:=by
  obtain⟨⟨x⟩⟩:=a
  obtain⟨⟨y⟩⟩:=b
  have:x=y:=h
  rw[this]
theorem beq_bytes (a b:ByteArray):(a==b)=(a.data.toList==b.data.toList):=by
  rw[Bool.eq_iff_iff,bytes_beq,beq_iff_eq]
  exact⟨fun h=>by rw[h],bytes_of_list⟩
theorem VRel.str' {v:Value} {s:List UInt8} (h:VRel O w v (.str s)): ∃ b:ByteArray,v= .string b/\b.data.toList=s:=by cases h;exact⟨_,rfl,rfl⟩
theorem VRel.int' {v:Value} {k:IntKind} {n:Int} (h:VRel O w v (.int k n)):v= .int k n:=by cases h;rfl
theorem same_str (k k':List UInt8):(Ty.str .nil).same k k'=(k==k'):=Bool.and_true _
theorem same_int (q:IntKind) (k k':Int):(Ty.int q .nil).same k k'=(k==k'):=Bool.and_true _
theorem sameNow_int (q:IntKind) (a b:Int):Instr.sameNow (.int q) (.int q a) (.int q b)=some (a==b):=by simp [Instr.sameNow]
theorem keyAt_str {kt:TypeId} (hu:P.underlying kt=some .string):KeyAt P O w kt (.str .nil) where
  check e v k h:=by
    obtain⟨b,rfl,_⟩:=VRel.str' (show VRel O w v (.str k)from h)
    exact run_checkKey hu (show IsKey .string (.string b)from trivial) e 9999
  find v k es l h hl hes:=by
    obtain⟨b,rfl,hb⟩:=VRel.str' (show VRel O w v (.str k)from h)
    have hn:Instr.findNow .string (.string b) es 0=some (fnd (.str .nil) k es l 0):=findNow_fnd es l 0 hl fun i e p he hp=>by
      obtain⟨b',h1,h2⟩:=VRel.str' (show VRel O w e.key (.str p.1)from hes i e p he hp)
      rw[h1]
      have e1:Instr.sameNow .string (.string b) (.string b')=some (b==b'):=by simp [Instr.sameNow]
      refine e1.trans (congrArg some (Eq.trans ?_ (same_str k p.1).symm))
      rw[beq_bytes,hb,h2]
    simp [Instr.findKey,run_underlying hu,hn]
  stays v u k h h':=by
    obtain⟨b,rfl,hb⟩:=VRel.str' (show VRel O w v (.str k)from h)
    obtain⟨b',rfl,hb'⟩:=VRel.str' (show VRel O w u (.str k)from h')
    obtain rfl:b'=b:=bytes_of_list (by rw[hb,hb'])
    have:(b'==b')=true:=by rw[beq_bytes];simp
    simp [Instr.keyThatStays,Instr.sameBits,this]
theorem keyAt_int {kt:TypeId} {q:IntKind} (hu:P.underlying kt=some (.int q)):KeyAt P O w kt (.int q .nil) where
  check e v k h:=by
    obtain rfl:=VRel.int' (show VRel O w v (.int q k)from h)
    exact run_checkKey hu (show IsKey (.int q) (.int q k)from rfl) e 9999
  find v k es l h hl hes:=by
    obtain rfl:=VRel.int' (show VRel O w v (.int q k)from h)
    have hn:Instr.findNow (.int q) (.int q k) es 0=some (fnd (.int q .nil) k es l 0):=findNow_fnd es l 0 hl fun i e p he hp=>by
      rw[VRel.int' (show VRel O w e.key (.int q p.1)from hes i e p he hp)]
      exact(sameNow_int q k p.1).trans (congrArg some (same_int q k p.1).symm)
    simp [Instr.findKey,run_underlying hu,hn]
  stays v u k h h':=by
    obtain rfl:=VRel.int' (show VRel O w v (.int q k)from h)
    obtain rfl:=VRel.int' (show VRel O w u (.int q k)from h')
    have:((k:Int)==(k:Int))=true:=by simp
    have:Instr.sameBits 10000 (.int q k) (.int q k)=true:=by
      have: ∀ n:Int,Instr.sameBits 10000 (.int q n) (.int q n)=true:=fun n=>by simp [Instr.sameBits]
      exact this k
    simp [Instr.keyThatStays,this]
theorem ofCs_agg {cs:List A} (h:cs.length≠1):ofCs cs= .agg cs:=by
  unfold ofCs
  split
  ·simp at h
  ·rfl
theorem items_run {e:TypeId} {d:Nat} (hue:P.underlying e=some .string) {xs ys:Array Value} {cs ds:List A} (hx: ∀ j,j<cs.length->VRel O w (xs.getD j undef) (cs.getD j .undef)) (hxs:xs.size=cs.length)
    (hy: ∀ j,j<ds.length->VRel O w (ys.getD j undef) (ds.getD j .undef)) (hys:ys.size=ds.length) (hl:cs.length=ds.length) (hc: ∀ j,j<cs.length-> ∃ s,cs.getD j .undef= .str s) (hd: ∀ j,j<ds.length-> ∃ s,ds.getD j .undef= .str s) :
    ∀(n i:Nat),i+n=cs.length->(Op.eqItems (d+1) e 1 xs ys (List.range' i n)).run P w= .ok (sameS (cs.drop i) (ds.drop i)) w:=by
  intro n
  induction n with
  | zero =>
    intro i hi
    have:cs.drop i=[]:=List.drop_eq_nil_of_le (by omega)
    rw[this];rfl
  | succ n ih =>
    intro i hi
    have hi':i<cs.length:=by omega
    obtain⟨s,hs⟩:=hc i hi'
    obtain⟨s',hs'⟩:=hd i (by omega)
    have hx1:=hx i hi'
    have hy1:=hy i (by omega)
    rw[hs]at hx1
    rw[hs']at hy1
    obtain⟨b,hb1,hb2⟩:=hx1.str'
    obtain⟨b',hb1',hb2'⟩:=hy1.str'
    have ex:xs[i]? =some (.string b):=by
      have:i<xs.size:=by omega
      rw[Array.getElem?_eq_getElem this,<- hb1,Array.getD_eq_getD_getElem?,Array.getElem?_eq_getElem this];rfl
    have ey:ys[i]? =some (.string b'):=by
      have:i<ys.size:=by omega
      rw[Array.getElem?_eq_getElem this,<- hb1',Array.getD_eq_getD_getElem?,Array.getElem?_eq_getElem this];rfl
    have hpk:P.plainKey e=true:=by simp [Program.plainKey,hue]
    have p1:=run_part_plain w hpk (off:=i*1) (by rw[Nat.mul_one];exact ex)
    have p2:=run_part_plain w hpk (off:=i*1) (by rw[Nat.mul_one];exact ey)
    have p3:=run_equalIn_string (P:=P) w d e b b' hue
    have ec:cs.drop i= .str s::cs.drop (i+1):=by
      rw[List.drop_eq_getElem_cons hi',<- hs,List.getD_eq_getElem?_getD,List.getElem?_eq_getElem hi'];rfl
    have ed:ds.drop i= .str s'::ds.drop (i+1):=by
      rw[List.drop_eq_getElem_cons (by omega),<- hs',List.getD_eq_getElem?_getD,List.getElem?_eq_getElem (by omega)];rfl
    rw[List.range'_succ,ec,ed]
    have ih':=ih (i+1) (by omega)
    simp only[Op.eqItems,Sem.run_bind,p1,p2,p3,Result.andThen_ok]
    rw[toList_dl,toList_dl,hb2,hb2']
    cases hbb:(s==s')with
    | false=>simp [sameS,hbb]
    | true=>simp [sameS,hbb,ih']
theorem checkItems_run {e:TypeId} {em:Bool} {d:Nat} (hue:P.underlying e=some .string) (hsz:(sizeOf e).run P w= .ok 1 w) {xs:Array Value} {n:Nat} (hx: ∀ j,j<n-> ∃ b,xs[j]? =some (.string b)) :
    ∀(is:List Nat),(∀ i∈is,i<n)->(forIn is PUnit.unit fun i _=>do Instr.checkKey em (d+1) e (<- part e xs (i*(<- sizeOf e)));pure (ForInStep.yield PUnit.unit)).run P w= .ok PUnit.unit w:=by
  intro is
  induction is with
  | nil=>intro _;simp
  | cons j is ih =>
    intro h
    obtain⟨b,hb⟩:=hx j (h j (by simp))
    have hpk:P.plainKey e=true:=by simp [Program.plainKey,hue]
    have p1:=run_part_plain w hpk (off:=j*1) (by rw[Nat.mul_one];exact hb)
    have p2:=run_checkKey (P:=P) (w:=w) hue (k:=.string b) trivial em d
    simp only[List.forIn_cons,Sem.run_bind,hsz,Result.andThen_ok,p1,p2,Sem.run_pure]
    exact ih (fun i hi=>h i (by simp [hi]))
theorem DRel.agg' {v:Value} {cs:List A} (h:DRel O w v (.agg cs)): ∃ vs:Array Value,v= .agg vs/\vs.size=cs.length/\ ∀ j,j<cs.length->VRel O w (vs.getD j undef) (cs.getD j .undef):=h
theorem keyAt_strs {kt e:TypeId} {n:Nat} {ie:TypeInfo} (hu:P.underlying kt=some (.array n e)) (hue:P.underlying e=some .string) (hie:P.info? e=some ie) (his:ie.size=1) (hn:1<n):KeyAt P O w kt (strT n):=by
  have hlen: ∀ k:(strT n).Val,((strT n).cells k).length=n:=fun k=>by
    rw[Ty.cells_length]
    have: ∀ n,(strT n).len=n:=by intro n;induction n with | zero=>rfl | succ n ih=>simp [strT,Ty.len,ih]
    exact this n
  have hag: ∀ k:(strT n).Val,ofCs ((strT n).cells k)= .agg ((strT n).cells k):=fun k=>ofCs_agg (by rw[hlen];omega)
  have hce:P.cellsOf e=1:=by simp [Program.cellsOf,hie,his]
  have hsz:(sizeOf e).run P w= .ok 1 w:=by simp [sizeOf,typeInfo,hie,his]
  have hstr: ∀ {vs:Array Value} {k:(strT n).Val},vs.size=n->(∀ j,j<n->VRel O w (vs.getD j undef) (((strT n).cells k).getD j .undef))-> ∀ j,j<n-> ∃ b,vs[j]? =some (.string b):=by
    intro vs k hs h j hj
    obtain⟨s,hs'⟩:=strT_cells n k j hj
    have h1:=h j hj
    rw[hs']at h1
    obtain⟨b,hb,_⟩:=h1.str'
    have hj':j<vs.size:=by omega
    exact⟨b,by rw[Array.getElem?_eq_getElem hj',<- hb,Array.getD_eq_getD_getElem?,Array.getElem?_eq_getElem hj'];rfl⟩
  refine⟨fun em v k h=> ?_,fun v k es l h hl hes=> ?_,fun v u k h h'=> ?_⟩
  ·rw[hag]at h
   obtain⟨vs,rfl,h1,h2⟩:=h.agg'
   rw[hlen]at h1 h2
   rw[show(10000:Nat)=9998+1+1 from rfl,Instr.checkKey]
   simp only[Sem.run_bind,run_underlying hu,Result.andThen_ok]
   simp only[Std.Legacy.Range.forIn_eq_forIn_range',Std.Legacy.Range.size,Nat.sub_zero,Nat.add_one_sub_one,Nat.div_one]
   rw[checkItems_run (em:=em) (d:=9998) hue hsz (hstr h1 h2) (List.range' 0 n) (fun i hi=>by simpa using hi)]
   rfl
  ·rw[hag]at h
   obtain⟨vs,rfl,h1,h2⟩:=h.agg'
   rw[hlen]at h1 h2
   have eqs: ∀(i:Nat) (e':MapEntry) p,es[i]? =some e'->l[i]? =some p->(Op.equal kt (.agg vs) e'.key).run P w= .ok ((strT n).same k p.1) w:=by
     intro i e' p he hp
     have h3:=hes i e' p he hp
     rw[hag]at h3
     obtain⟨us,h4,h5,h6⟩:=h3.agg'
     rw[hlen]at h5 h6
     rw[h4]
     show(Op.equalIn 10000 kt _ _).run P w=_
     rw[show(10000:Nat)=9999+1 from rfl,run_equalIn_array w 9999 vs us hu hie,hce,List.range_eq_range',same_strT]
     have:=items_run (P:=P) (O:=O) (w:=w) (d:=9998) hue (xs:=vs) (ys:=us) (cs:=(strT n).cells k) (ds:=(strT n).cells p.1) (by rw[hlen];exact h2) (by rw[hlen];exact h1) (by rw[hlen];exact h6) (by rw[hlen];exact h5) (by rw[hlen,hlen]) (by rw[hlen];exact strT_cells n k) (by rw[hlen];exact strT_cells n p.1) n 0 (by rw[hlen];omega)
     simpa using this
   have hnow: ∀(es:List MapEntry) (i:Nat),Instr.findNow (.array n e) (.agg vs) es i=if es=[]then some none else none:=by
     intro es i
     cases es with
     | nil=>rfl
     | cons e' es=>simp [Instr.findNow,Instr.sameNow]
   simp only[Instr.findKey,Sem.run_bind,run_underlying hu,Result.andThen_ok,hnow]
   cases es with
   | nil=>cases l<;>first | simp [fnd] | cases hl
   | cons e' es =>
     rw[if_neg (by simp)]
     exact asking_fnd _ l 0 hl eqs
  ·rw[hag]at h h'
   obtain⟨vs,rfl,h1,h2⟩:=h.agg'
   obtain⟨us,rfl,h3,h4⟩:=h'.agg'
   have e:us=vs:=by
     rw[hlen]at h1 h2 h3 h4
     apply Array.ext (by omega)
     intro j hj1 hj2
     obtain⟨s,hs⟩:=strT_cells n k j (by omega)
     have a1:=h2 j (by omega)
     have a2:=h4 j (by omega)
     rw[hs]at a1 a2
     obtain⟨b1,e1,f1⟩:=a1.str'
     obtain⟨b2,e2,f2⟩:=a2.str'
     rw[Array.getD_eq_getD_getElem?,Array.getElem?_eq_getElem hj2]at e1
     rw[Array.getD_eq_getD_getElem?,Array.getElem?_eq_getElem hj1]at e2
     have e1:vs[j]=_:=e1
     have e2:us[j]=_:=e2
     rw[e1,e2,bytes_of_list (f1.trans f2.symm)]
   subst e
   have hsb:Instr.sameBits 10000 (.agg us) (.agg us)=true:=by
     show((us.size==us.size)&&(us.toList.zip us.toList).all _)=true
     rw[Bool.and_eq_true]
     refine⟨by simp,List.all_eq_true.2 fun p hp=> ?_⟩
     obtain⟨i,hi⟩:=List.mem_iff_getElem?.1 hp
     rw[List.getElem?_zip_eq_some]at hi
     rw[hlen]at h1 h2
     have hi1:i<us.size:=by
       have:=(List.getElem?_eq_some_iff.1 hi.1).1
       simpa using this
     obtain⟨b,hb⟩:=hstr h1 h2 i (by omega)
     have q1:p.1= .string b:=by
       have:=hi.1
       rw[Array.getElem?_toList,hb]at this
       injection this with this;exact this.symm
     have q2:p.2= .string b:=by
       have:=hi.2
       rw[Array.getElem?_toList,hb]at this
       injection this with this;exact this.symm
     obtain⟨p1,p2⟩:=p
     dsimp only at q1 q2
     subst q1;subst q2
     show(b==b)=true
     rw[beq_bytes];simp
   simp [Instr.keyThatStays,hsb]
theorem keyOk_at (hC:TOk P C) {t:Nat} {ta:TI} (ht:C.T t=some ta) (h:keyOk C ta=true):KeyAt P O w t (tyl ta.cs):=by
  have hT:=hC.is ht
  have hu:=hT.d
  have hck:=hT.ck
  unfold keyOk at h
  split at h
  ·rename_i hd
   rw[hd]at hu
   have:ta.cs=[.str]:=by simp [ckOf,hu]at hck;exact hck.symm
   rw[this];exact keyAt_str hu
  ·rename_i q hd
   rw[hd]at hu
   have:ta.cs=[.int q]:=by simp [ckOf,hu]at hck;exact hck.symm
   rw[this];exact keyAt_int hu
  ·rename_i n e hd
   rw[hd]at hu
   split at h
   ·rename_i te hte
    simp only[Bool.and_eq_true,Nat.blt_eq]at h
    have hTe:=hC.is hte
    have hde:=isStrD_eq h.1
    have hue:=hTe.d
    rw[hde]at hue
    have hcse:te.cs=[.str]:=by have:=hTe.ck;simp [ckOf,hue]at this;exact this.symm
    have hcs:ta.cs=(List.replicate n [CK.str]).flatten:=by
      rw[show(20:Nat)=18+1+1 from rfl]at hck
      unfold ckOf at hck
      simp only[hu]at hck
      have he:ckOf P (18+1) e=some [.str]:=by simp [ckOf,hue]
      rw[he]at hck
      dsimp only at hck
      cases hb:Nat.ble (n* [CK.str].length) 4096 with
      | false=>rw[hb]at hck;cases hck
      | true=>rw[hb]at hck;injection hck with hck;exact hck.symm
    rw[hcs,tyl_strs]
    obtain⟨i,z,h1,h2,_⟩:=hTe.i
    exact keyAt_strs hu hue h1 (by rw[h2,hcse];rfl) h.2
   ·cases h
  ·cases h
end
